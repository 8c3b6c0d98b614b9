/- bigint.add: the sum of two magnitudes. -/
import Derived.Test.YtdkapdgbfejgdaaY1
set_option linter.unusedVariables false
set_option linter.unusedSimpArgs false
namespace Go.Proofs.Ytdkapdgbfejgdaa
open Go.RowKit Go.Proofs.YtdkapdgbfejgdaaW.PrintWords Go.Proofs.YtdkapdgbfejgdaaW.PrintLast Go.Proofs.YtdkapdgbfejgdaaW.PrintMore
open Go.Proofs.Ytdkapdgbfejgdaa.P

theorem info93 : (Try.prog.info? 93).map (fun i => (i.zero, i.size, i.bytes)) = some (some (.int .u32 0), 1, 4) := by kernel_rfl

/-- The carry and the row after k digits of a sum. -/
def AddInv (X Y o : List Int) (k : Nat) (cv : Int) : Prop :=
  o.length = X.length + 1 ∧ Okd 4294967296 o ∧ k ≤ X.length + 1 ∧ 0 ≤ cv ∧ cv ≤ 1 ∧ vl 4294967296 (o.take k) + 4294967296 ^ k * cv = vl 4294967296 (X.take k) + vl 4294967296 (Y.take k)

theorem AddInv.step {X Y o : List Int} {k : Nat} {cv x y : Int} (h : AddInv X Y o k cv) (hk : k < X.length + 1) (hx : X.getD k 0 = x) (hy : Y.getD k 0 = y) (x0 : 0 ≤ x) (x1 : x < 4294967296) (y0 : 0 ≤ y) (y1 : y < 4294967296) :
    AddInv X Y (o.set k ((cv + x + y) % 4294967296)) (k + 1) ((cv + x + y) / 4294967296) := by
  obtain ⟨h1, h2, h3, h4, h5, h6⟩ := h
  refine ⟨by simp [h1], h2.set k (by omega) (by omega), by omega, by omega, by omega, ?_⟩
  rw [vl_set_take _ _ _ _ (by omega), vl_take_succ, vl_take_succ, hx, hy, Int.pow_succ]
  have e : (4294967296 : Int) ^ k * ((cv + x + y) % 4294967296) + 4294967296 ^ k * 4294967296 * ((cv + x + y) / 4294967296) = 4294967296 ^ k * (cv + x + y) := by
    rw [Int.mul_assoc, ← Int.mul_add, Int.emod_add_mul_ediv]
  rw [Int.mul_add, Int.mul_add] at e
  omega

theorem AddInv.stop {X Y o : List Int} {cv : Int} (h : AddInv X Y o (X.length + 1) cv) (hX : Okd 4294967296 X) (hY : Okd 4294967296 Y) (hl : Y.length ≤ X.length) : vl 4294967296 o = vl 4294967296 X + vl 4294967296 Y := by
  obtain ⟨h1, h2, h3, h4, h5, h6⟩ := h
  rw [List.take_of_length_le (by omega), List.take_of_length_le (by omega), List.take_of_length_le (by omega)] at h6
  have a := vl_lt (by omega) hX
  have b := vl_lt (by omega) hY
  have c := vl_nonneg (b := 4294967296) (by omega) h2
  have d : (4294967296 : Int) ^ Y.length ≤ 4294967296 ^ X.length := pow_mono (by omega) hl
  rw [Int.pow_succ] at h6
  have p : (0 : Int) < 4294967296 ^ X.length := Int.pow_pos (by omega)
  by_cases hc : cv = 0
  · subst hc; simp at h6; exact h6
  · have : cv = 1 := by omega
    subst this; omega

/-- It returns a slice that reads as l. -/
def RetL (w : World) (ok : Nat → Prop) (k : IntKind) (l : List Int) (e : Ending) (w' : World) : Prop :=
  ∃ A c, e = .returned (.slice A l.length c) ∧ (⟨k, A, c, l⟩ : Rw).at w' (fun k => ok k ∨ w.heap.size ≤ k) ∧ Below w.heap.size w w'

theorem trim_ok (A : Option Addr) (c n : Nat) (l r : List Int) (w : World) (ok : Nat → Prop) (he : l.length = n) (hn : n ≤ 1000000000) (hf : (⟨.u32, A, c, l⟩ : Rw).at w ok) (hr : trimR l = r) :
    Calls Try.prog 97 #[.slice A n c] w (RetL w ok .u32 r) := by
  subst hr he
  refine (bigint_trim.calls (l.length + 1) ok A c l _ w ⟨A, c, rfl, hf.1, hf.2⟩ (trim_f _ l (by omega) hn)).mono ?_
  rintro e w' ⟨v, rfl, ⟨A', c', rfl, hc, hF⟩, hb⟩
  exact ⟨A', c', rfl, ⟨hc, hF⟩, hb⟩


set_option maxHeartbeats 4000000 in
set_option maxRecDepth 100000 in
theorem add_ge (A0 A1 : Option Addr) (c0 c1 : Nat) (l0 l1 : List Int) (w : World) (ok : Nat → Prop) (h0 : Okd 4294967296 l0) (h1 : Okd 4294967296 l1) (n0 : l0.length ≤ 100000000) (n1 : l1.length ≤ 100000000)
    (hf0 : (⟨.u32, A0, c0, l0⟩ : Rw).at w ok) (hf1 : (⟨.u32, A1, c1, l1⟩ : Rw).at w ok) (hlt : l1.length ≤ l0.length) :
    Calls Try.prog 80 #[.slice A0 l0.length c0, .slice A1 l1.length c1] w (RetL w ok .u32 (dg 4294967296 (vl 4294967296 l0 + vl 4294967296 l1).toNat)) := by
  have H := ((Sit.start w ok).arg hf0).arg hf1
  clear hf0 hf1
  have hd : decide (l0.length < l1.length) = false := by simpa using hlt
  go_enter Try.func80, Try.ntmps80
  go_wp2_with ((with_reducible refine gate_dst (N := 19) rfl ?_); refine make_event rfl (N := 19) rfl 23 (.tmp 18) (.tmp 18) rfl .u32 93 4 (l0.length + 1) rfl rfl Try.underlying23 info93 (by omega) (by omega) ?_; intro g hg w1 hbox hb; replace H := H.newbox hg hbox hb; clear hg hbox hb)
  have hI : AddInv l0 l1 (List.replicate (l0.length + 1) 0) 0 0 := ⟨by simp, Okd.replicate (by omega) _, by omega, by omega, by omega, by simp [vl]⟩
  go_loopw [6, 22] (fun c i wr => ∃ (k : Nat) (cv : Int) (o : List Int), i = .int .i64 k ∧ c = .int .u64 cv ∧ AddInv l0 l1 o k cv ∧ Sit w wr ok [(g, .cells (o.map (Value.int .u32)).toArray 93 (0, 0))] [⟨.u32, A1, c1, l1⟩, ⟨.u32, A0, c0, l0⟩]) (fun _ i _ => l0.length + 1 - (intOf i).toNat)
  case atStart => exact ⟨0, 0, _, rfl, rfl, hI, H⟩
  case round =>
    clear H hI
    obtain ⟨k, cv, o, rfl, rfl, hI, H⟩ := hrel
    obtain ⟨i1, i2, i3, i4, i5, -⟩ := id hI
    by_cases hk : k < l0.length + 1
    · have bx := h0.getD (by omega) k
      have by_ := h1.getD (by omega) k
      obtain ⟨x, hx⟩ : ∃ x, l0.getD k 0 = x := ⟨_, rfl⟩
      obtain ⟨y, hy⟩ : ∃ y, l1.getD k 0 = y := ⟨_, rfl⟩
      rw [hx] at bx
      rw [hy] at by_
      obtain ⟨x0, x1⟩ := bx
      obtain ⟨y0, y1⟩ := by_
      have z0 : wr.cell? ⟨g, k, none⟩ = some (.int .u32 (o.getD k 0)) := (H.cell (.head _) k).trans (by simp [List.getD]; rw [List.getElem?_eq_getElem (by omega)]; simp)
      have z1 := H.frozen (g := g) (.head _) k
      have T := Aside0.mk (hI.step hk hx hy x0 x1 y0 y1)
      clear hI
      by_cases hkx : k < l0.length
      · obtain ⟨ax, ex, rx⟩ := H.read (f := ⟨.u32, A0, c0, l0⟩) (.tail _ (.head _)) k hkx
        simp only at ex rx
        subst ex
        rw [hx] at rx
        by_cases hky : k < l1.length
        · obtain ⟨ay, ey, ry⟩ := H.read (f := ⟨.u32, A1, c1, l1⟩) (.head _) k hky
          simp only at ey ry
          subst ey
          rw [hy] at ry
          clear hx hy
          go_wp2
          go_roundw
          case rel => exact ⟨k + 1, _, _, by go_num, rfl, T.out, (H.setn [] k _ (by simp [List.map_set]))⟩
          case measure => simp [intOf]; omega
        · have hy' : y = 0 := by rw [← hy]; simp [List.getD]; rw [List.getElem?_eq_none (by omega)]; rfl
          clear hx hy
          subst hy'
          go_wp2
          go_roundw
          case rel => exact ⟨k + 1, _, _, by go_num, rfl, by simpa using T.out, (H.setn [] k _ (by simp [List.map_set]))⟩
          case measure => simp [intOf]; omega
      · have hx' : x = 0 := by rw [← hx]; simp [List.getD]; rw [List.getElem?_eq_none (by omega)]; rfl
        have hy' : y = 0 := by rw [← hy]; simp [List.getD]; rw [List.getElem?_eq_none (by omega)]; rfl
        have hky : ¬ k < l1.length := by omega
        clear hx hy
        subst hx' hy'
        go_wp2
        go_roundw
        case rel => exact ⟨k + 1, _, _, by go_num, rfl, by { have e_ : (cv + 0 + 0) % 4294967296 = cv := (by omega); have t_ := T.out; rw [e_] at t_; simpa using t_ }, (H.setn [] k _ (by simp [List.map_set]))⟩
        case measure => simp [intOf]; omega
    · have ek : k = l0.length + 1 := by omega
      subst ek
      have hv := hI.stop h0 h1 hlt
      have HT : trimR o = dg 4294967296 (vl 4294967296 l0 + vl 4294967296 l1).toNat := by
        have := trimR_dg 4294967296 (by omega) o i2
        rw [this]; show dg 4294967296 (vl 4294967296 o).toNat = _; rw [hv]; (first | done | (congr 2; omega))
      have H2 := Aside0.mk HT
      clear HT hv hI
      go_wp2_with ((with_reducible refine gate_callee (f := 97) rfl ?_); refine goesL_ (some 57) rfl rfl Try.func97 (by kernel_rfl) rfl #[.slice (some ⟨g, 0, none⟩) (l0.length + 1) (l0.length + 1)] rfl (by (try simp only [List.map_toArray, List.map_cons, List.map_nil]); first | done | rfl) ?_; refine (trim_ok (some ⟨g, 0, none⟩) (l0.length + 1) (l0.length + 1) o _ _ (fun j => j = g) i1 (by omega) (box_row (H.blk (.head _)) i1 (Nat.le_refl _) (by omega)) H2.out).mono ?_; rintro e w3 ⟨A3, c3, rfl, hr, hb⟩; refine ⟨_, rfl, ?_⟩)
      go_ret
      refine ⟨A3, c3, rfl, hr.mono ?_, (H.call hb).below⟩
      rintro j (rfl | hj)
      · exact .inr (H.box _ (.head _)).2
      · exact .inr (Nat.le_trans (below_size H.below) hj)

set_option maxHeartbeats 4000000 in
set_option maxRecDepth 100000 in
theorem add_lt (A0 A1 : Option Addr) (c0 c1 : Nat) (l0 l1 : List Int) (w : World) (ok : Nat → Prop) (h0 : Okd 4294967296 l0) (h1 : Okd 4294967296 l1) (n0 : l0.length ≤ 100000000) (n1 : l1.length ≤ 100000000)
    (hf0 : (⟨.u32, A0, c0, l0⟩ : Rw).at w ok) (hf1 : (⟨.u32, A1, c1, l1⟩ : Rw).at w ok) (hlt : l0.length < l1.length) :
    Calls Try.prog 80 #[.slice A0 l0.length c0, .slice A1 l1.length c1] w (RetL w ok .u32 (dg 4294967296 (vl 4294967296 l0 + vl 4294967296 l1).toNat)) := by
  have H := ((Sit.start w ok).arg hf0).arg hf1
  clear hf0 hf1
  have hd : decide (l0.length < l1.length) = true := by simpa using hlt
  go_enter Try.func80, Try.ntmps80
  go_wp2_with ((with_reducible refine gate_dst (N := 19) rfl ?_); refine make_event rfl (N := 19) rfl 23 (.tmp 18) (.tmp 18) rfl .u32 93 4 (l1.length + 1) rfl rfl Try.underlying23 info93 (by omega) (by omega) ?_; intro g hg w1 hbox hb; replace H := H.newbox hg hbox hb; clear hg hbox hb)
  have hI : AddInv l1 l0 (List.replicate (l1.length + 1) 0) 0 0 := ⟨by simp, Okd.replicate (by omega) _, by omega, by omega, by omega, by simp [vl]⟩
  go_loopw [6, 22] (fun c i wr => ∃ (k : Nat) (cv : Int) (o : List Int), i = .int .i64 k ∧ c = .int .u64 cv ∧ AddInv l1 l0 o k cv ∧ Sit w wr ok [(g, .cells (o.map (Value.int .u32)).toArray 93 (0, 0))] [⟨.u32, A1, c1, l1⟩, ⟨.u32, A0, c0, l0⟩]) (fun _ i _ => l1.length + 1 - (intOf i).toNat)
  case atStart => exact ⟨0, 0, _, rfl, rfl, hI, H⟩
  case round =>
    clear H hI
    obtain ⟨k, cv, o, rfl, rfl, hI, H⟩ := hrel
    obtain ⟨i1, i2, i3, i4, i5, -⟩ := id hI
    by_cases hk : k < l1.length + 1
    · have bx := h1.getD (by omega) k
      have by_ := h0.getD (by omega) k
      obtain ⟨x, hx⟩ : ∃ x, l1.getD k 0 = x := ⟨_, rfl⟩
      obtain ⟨y, hy⟩ : ∃ y, l0.getD k 0 = y := ⟨_, rfl⟩
      rw [hx] at bx
      rw [hy] at by_
      obtain ⟨x0, x1⟩ := bx
      obtain ⟨y0, y1⟩ := by_
      have z0 : wr.cell? ⟨g, k, none⟩ = some (.int .u32 (o.getD k 0)) := (H.cell (.head _) k).trans (by simp [List.getD]; rw [List.getElem?_eq_getElem (by omega)]; simp)
      have z1 := H.frozen (g := g) (.head _) k
      have T := Aside0.mk (hI.step hk hx hy x0 x1 y0 y1)
      clear hI
      by_cases hkx : k < l1.length
      · obtain ⟨ax, ex, rx⟩ := H.read (f := ⟨.u32, A1, c1, l1⟩) (.head _) k hkx
        simp only at ex rx
        subst ex
        rw [hx] at rx
        by_cases hky : k < l0.length
        · obtain ⟨ay, ey, ry⟩ := H.read (f := ⟨.u32, A0, c0, l0⟩) (.tail _ (.head _)) k hky
          simp only at ey ry
          subst ey
          rw [hy] at ry
          clear hx hy
          go_wp2
          go_roundw
          case rel => exact ⟨k + 1, _, _, by go_num, rfl, T.out, (H.setn [] k _ (by simp [List.map_set]))⟩
          case measure => simp [intOf]; omega
        · have hy' : y = 0 := by rw [← hy]; simp [List.getD]; rw [List.getElem?_eq_none (by omega)]; rfl
          clear hx hy
          subst hy'
          go_wp2
          go_roundw
          case rel => exact ⟨k + 1, _, _, by go_num, rfl, by simpa using T.out, (H.setn [] k _ (by simp [List.map_set]))⟩
          case measure => simp [intOf]; omega
      · have hx' : x = 0 := by rw [← hx]; simp [List.getD]; rw [List.getElem?_eq_none (by omega)]; rfl
        have hy' : y = 0 := by rw [← hy]; simp [List.getD]; rw [List.getElem?_eq_none (by omega)]; rfl
        have hky : ¬ k < l0.length := by omega
        clear hx hy
        subst hx' hy'
        go_wp2
        go_roundw
        case rel => exact ⟨k + 1, _, _, by go_num, rfl, by { have e_ : (cv + 0 + 0) % 4294967296 = cv := (by omega); have t_ := T.out; rw [e_] at t_; simpa using t_ }, (H.setn [] k _ (by simp [List.map_set]))⟩
        case measure => simp [intOf]; omega
    · have ek : k = l1.length + 1 := by omega
      subst ek
      have hv := hI.stop h1 h0 (by omega)
      have HT : trimR o = dg 4294967296 (vl 4294967296 l0 + vl 4294967296 l1).toNat := by
        have := trimR_dg 4294967296 (by omega) o i2
        rw [this]; show dg 4294967296 (vl 4294967296 o).toNat = _; rw [hv]; (first | done | (congr 2; omega))
      have H2 := Aside0.mk HT
      clear HT hv hI
      go_wp2_with ((with_reducible refine gate_callee (f := 97) rfl ?_); refine goesL_ (some 57) rfl rfl Try.func97 (by kernel_rfl) rfl #[.slice (some ⟨g, 0, none⟩) (l1.length + 1) (l1.length + 1)] rfl (by (try simp only [List.map_toArray, List.map_cons, List.map_nil]); first | done | rfl) ?_; refine (trim_ok (some ⟨g, 0, none⟩) (l1.length + 1) (l1.length + 1) o _ _ (fun j => j = g) i1 (by omega) (box_row (H.blk (.head _)) i1 (Nat.le_refl _) (by omega)) H2.out).mono ?_; rintro e w3 ⟨A3, c3, rfl, hr, hb⟩; refine ⟨_, rfl, ?_⟩)
      go_ret
      refine ⟨A3, c3, rfl, hr.mono ?_, (H.call hb).below⟩
      rintro j (rfl | hj)
      · exact .inr (H.box _ (.head _)).2
      · exact .inr (Nat.le_trans (below_size H.below) hj)

/-- add tells the digits of the sum. -/
theorem add_ok (A0 A1 : Option Addr) (c0 c1 : Nat) (l0 l1 r : List Int) (w : World) (ok : Nat → Prop) (h0 : Okd 4294967296 l0) (h1 : Okd 4294967296 l1) (n0 : l0.length ≤ 100000000) (n1 : l1.length ≤ 100000000)
    (hf0 : (⟨.u32, A0, c0, l0⟩ : Rw).at w ok) (hf1 : (⟨.u32, A1, c1, l1⟩ : Rw).at w ok) (hr : dg 4294967296 (vl 4294967296 l0 + vl 4294967296 l1).toNat = r) :
    Calls Try.prog 80 #[.slice A0 l0.length c0, .slice A1 l1.length c1] w (RetL w ok .u32 r) := by
  subst hr
  by_cases hlt : l0.length < l1.length
  · exact add_lt A0 A1 c0 c1 l0 l1 w ok h0 h1 n0 n1 hf0 hf1 hlt
  · exact add_ge A0 A1 c0 c1 l0 l1 w ok h0 h1 n0 n1 hf0 hf1 (by omega)

end Go.Proofs.Ytdkapdgbfejgdaa
