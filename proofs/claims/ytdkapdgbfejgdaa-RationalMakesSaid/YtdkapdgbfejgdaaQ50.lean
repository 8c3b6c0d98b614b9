-- laid by a program of this session
import Derived.Test.YtdkapdgbfejgdaaQ0
namespace Go.Proofs.Ytdkapdgbfejgdaa.P
open Go.RowKit Go.Proofs.YtdkapdgbfejgdaaW.PrintWords Go.Proofs.YtdkapdgbfejgdaaW.PrintLast Go.Proofs.YtdkapdgbfejgdaaW.PrintMore
attribute [local go_sem] max2_int min2_int max_two min_two max_three min_three max_four min_four   -- for this text's walks alone
set_option linter.unusedVariables false
set_option linter.unusedSimpArgs false

/-! ### bigint_Int_Int: function 29 -/
mutual
def bigint_Int_Int.l0 : Nat → Int → List Int → Int → Int → Bool → List Int → Option (Int × Bool)
  | 0, _, _, _, _, _, _ => none
  | k + 1, x4, x12, x13, x14, x496000, x496001 => if x14 < x13 then (if 0 ≤ x14 then (if x14 < (x12.length : Int) then (if 0 ≤ (wrap64 (32 * x14)) then (bigint_Int_Int.l0 k (Go.bits .or .u64 x4 (shl .u64 (IntKind.u64.wrap (rd x12 x14)) (wrap64 (32 * x14)))) x12 x13 (wrap64 (x14 + 1)) x496000 x496001) else (none)) else (none)) else (none)) else (if x496000 = true then (bigint_Int_Int.j1 k x4 (decide (x4 ≤ 9223372036854775808)) x496000 x496001) else (bigint_Int_Int.j1 k x4 false x496000 x496001))
def bigint_Int_Int.j1 : Nat → Int → Bool → Bool → List Int → Option (Int × Bool)
  | 0, _, _, _, _ => none
  | k + 1, x4, x27, x496000, x496001 => if x27 = true then (some (wrap64 (IntKind.u64.wrap (-x4)), true)) else (if x496000 = true then (some (0, false)) else (if x4 < 9223372036854775808 then (some (wrap64 (x4), true)) else (some (0, false))))
end
def bigint_Int_Int.f (k : Nat) (a0_0 : Bool) (l0_1 : List Int) : Option (Int × Bool) := if (l0_1.length : Int) > 2 then (some (0, false)) else (bigint_Int_Int.l0 k 0 l0_1 (l0_1.length : Int) 0 a0_0 l0_1)
theorem bigint_Int_Int.mono_l : ∀ k, (∀ y0 y1 y2 y3 y4 y5, LeO (bigint_Int_Int.l0 k y0 y1 y2 y3 y4 y5) (bigint_Int_Int.l0 (k + 1) y0 y1 y2 y3 y4 y5)) ∧ (∀ y0 y1 y2 y3, LeO (bigint_Int_Int.j1 k y0 y1 y2 y3) (bigint_Int_Int.j1 (k + 1) y0 y1 y2 y3))
  | 0 => ⟨fun _ _ _ _ _ _ r h => by simp [bigint_Int_Int.l0] at h, fun _ _ _ _ r h => by simp [bigint_Int_Int.j1] at h⟩
  | k + 1 => by
    obtain ⟨ih0, ih1⟩ := bigint_Int_Int.mono_l k
    refine ⟨?_, ?_⟩
    · intro y0 y1 y2 y3 y4 y5
      unfold bigint_Int_Int.l0
      repeat' first
      | (with_reducible exact ih0 _ _ _ _ _ _)
      | (with_reducible exact ih1 _ _ _ _)
      | (with_reducible exact LeO.refl _)
      | (with_reducible exact LeO.none _)
      | (with_reducible refine LeO.ite ?_ ?_)
      | (with_reducible refine LeO.bind ?_ (fun _ => ?_))
      | exact ih0 _ _ _ _ _ _
      | exact ih1 _ _ _ _
      | exact LeO.none _
      | refine LeO.ite ?_ ?_
      | refine LeO.bind ?_ (fun _ => ?_)
    · intro y0 y1 y2 y3
      unfold bigint_Int_Int.j1
      repeat' first
      | (with_reducible exact ih0 _ _ _ _ _ _)
      | (with_reducible exact ih1 _ _ _ _)
      | (with_reducible exact LeO.refl _)
      | (with_reducible exact LeO.none _)
      | (with_reducible refine LeO.ite ?_ ?_)
      | (with_reducible refine LeO.bind ?_ (fun _ => ?_))
      | exact ih0 _ _ _ _ _ _
      | exact ih1 _ _ _ _
      | exact LeO.none _
      | refine LeO.ite ?_ ?_
      | refine LeO.bind ?_ (fun _ => ?_)
theorem bigint_Int_Int.mono : ∀ a0 a1 k, LeO (bigint_Int_Int.f k a0 a1) (bigint_Int_Int.f (k + 1) a0 a1) := by
  intro a0 a1 k
  obtain ⟨ih0, ih1⟩ := bigint_Int_Int.mono_l k
  unfold bigint_Int_Int.f
  repeat' first
      | (with_reducible exact ih0 _ _ _ _ _ _)
      | (with_reducible exact ih1 _ _ _ _)
      | (with_reducible exact LeO.refl _)
      | (with_reducible exact LeO.none _)
      | (with_reducible refine LeO.ite ?_ ?_)
      | (with_reducible refine LeO.bind ?_ (fun _ => ?_))
      | exact ih0 _ _ _ _ _ _
      | exact ih1 _ _ _ _
      | exact LeO.none _
      | refine LeO.ite ?_ ?_
      | refine LeO.bind ?_ (fun _ => ?_)
set_option maxHeartbeats 8000000 in
set_option maxRecDepth 100000 in
theorem bigint_Int_Int.calls (k : Nat) (a0_0 : Bool) (A0_1 : Option Addr) (c0_1 : Nat) (l0_1 : List Int) (r1 : Int) (r2 : Bool) (w : World) (hr0_1 : Kd.C (Kd.int .u32) w A0_1 l0_1.length l0_1) (hc0_1 : l0_1.length ≤ c0_1) (h : bigint_Int_Int.f k a0_0 l0_1 = some (r1, r2)) :
    Calls Try.prog 29 #[.agg #[.bool a0_0, .slice A0_1 l0_1.length c0_1]] w fun e w' => e = .returned (.tuple #[.int .i64 r1, .bool r2]) ∧ Below w.heap.size w w' := by
  have hu25 := Try.underlying25
  have HR0_1 := Aside0.mk hr0_1
  have HC0_1 := Aside0.mk hc0_1
  clear hr0_1 hc0_1
  have HB := Aside0.mk (Below.refl w.heap.size w)
  have H : (if (l0_1.length : Int) > 2 then (some (0, false)) else (bigint_Int_Int.l0 k 0 l0_1 (l0_1.length : Int) 0 a0_0 l0_1)) = some (r1, r2) := h
  clear h
  by_cases c2 : (l0_1.length : Int) > 2
  · rw [if_pos c2] at H
    have c2b0 : decide (2 < (l0_1.length : Int)) = true := decide_eq_true c2
    have c2b1 : decide (2 < l0_1.length) = true := decide_eq_true (by omega)
    clear c2
    simp only [Option.some.injEq, Prod.mk.injEq] at H
    obtain ⟨rfl, rfl⟩ := H
    go_enter Try.func29, Try.ntmps29
    go_wp2_with (first | ((with_reducible refine gate_dst (N := 1) rfl ?_); refine box_event ?hg (N := 1) ?hd (cs := #[.bool a0_0, .slice A0_1 l0_1.length c0_1]) (t := 25) ?hr ?_; (case hd => rfl); (case hg => rfl); (case hr => first | (go_simp; done) | (go_simp; rfl)); intro gb495 hg w3 hbox hb; have n0_ := Aside0.mk (below_step (by repeat (first | (with_reducible first | exact HB.out | apply below_alloc | apply pw_below_drewN | apply below_drew1) | exact HB.out)) hb); have n1_ := Aside0.mk (hbox); have n2_ := Aside0.mk ((by rw [hg]; exact (below_size (by repeat (first | (with_reducible first | exact HB.out | apply below_alloc | apply pw_below_drewN | apply below_drew1) | exact HB.out))) : w.heap.size ≤ gb495)); have n3_ := Aside0.mk ((by rw [hg]; exact (below_size (by repeat (first | (with_reducible first | exact HB.out | apply below_alloc | apply pw_below_drewN | apply below_drew1) | exact HB.out))) : w.heap.size ≤ gb495)); clear HB; have HB := n0_; have BK495 := n1_; have GW495 := n2_; have GE495 := n3_; clear n0_ n1_ n2_ n3_; clear hb hbox hg; have hcz4_0 : w3.cell? ⟨gb495, 0, none⟩ = some (.bool a0_0) := (blk_cell BK495.out 0).trans rfl; have hcz4_1 : w3.cell? ⟨gb495, 1, none⟩ = some (.slice A0_1 l0_1.length c0_1) := (blk_cell BK495.out 1).trans rfl; have hfz4_0 := blk_frozen BK495.out 0; have hfz4_1 := blk_frozen BK495.out 1))
    go_ret2
    exact ⟨by first | rfl | (simp [errW_none, errW_some] <;> rfl) | (simp [*, errW_none, errW_some] <;> rfl), by repeat (first | (with_reducible first | exact HB.out | apply below_alloc | apply pw_below_drewN | apply below_drew1 | refine below_set ?_ GE495.out) | exact HB.out)⟩
  · rw [if_neg c2] at H
    have c2b0 : decide (2 < (l0_1.length : Int)) = false := decide_eq_false c2
    have c2b1 : decide (2 < l0_1.length) = false := decide_eq_false (by omega)
    clear c2
    have H' := Aside0.mk H
    clear H
    go_enter Try.func29, Try.ntmps29
    go_wp2_with (first | ((with_reducible refine gate_dst (N := 1) rfl ?_); refine box_event ?hg (N := 1) ?hd (cs := #[.bool a0_0, .slice A0_1 l0_1.length c0_1]) (t := 25) ?hr ?_; (case hd => rfl); (case hg => rfl); (case hr => first | (go_simp; done) | (go_simp; rfl)); intro gb495 hg w5 hbox hb; have n0_ := Aside0.mk (below_step (by repeat (first | (with_reducible first | exact HB.out | apply below_alloc | apply pw_below_drewN | apply below_drew1) | exact HB.out)) hb); have n1_ := Aside0.mk (hbox); have n2_ := Aside0.mk ((by rw [hg]; exact (below_size (by repeat (first | (with_reducible first | exact HB.out | apply below_alloc | apply pw_below_drewN | apply below_drew1) | exact HB.out))) : w.heap.size ≤ gb495)); have n3_ := Aside0.mk ((by rw [hg]; exact (below_size (by repeat (first | (with_reducible first | exact HB.out | apply below_alloc | apply pw_below_drewN | apply below_drew1) | exact HB.out))) : w.heap.size ≤ gb495)); clear HB; have HB := n0_; have BK495 := n1_; have GW495 := n2_; have GE495 := n3_; clear n0_ n1_ n2_ n3_; clear hb hbox hg; have hcz6_0 : w5.cell? ⟨gb495, 0, none⟩ = some (.bool a0_0) := (blk_cell BK495.out 0).trans rfl; have hcz6_1 : w5.cell? ⟨gb495, 1, none⟩ = some (.slice A0_1 l0_1.length c0_1) := (blk_cell BK495.out 1).trans rfl; have hfz6_0 := blk_frozen BK495.out 0; have hfz6_1 := blk_frozen BK495.out 1))
    go_loopg [4, 14] k (fun kq v4 v14 w' => ∃ (x4_1 : Int) (x14_1 : Int), v4 = .int .u64 x4_1 ∧ v14 = .int .i64 x14_1 ∧ Aside0 (bigint_Int_Int.l0 kq x4_1 l0_1 (l0_1.length : Int) x14_1 a0_0 l0_1 = some (r1, r2)) ∧ Aside0 (kq ≤ k) ∧ Aside0 (w'.heap[gb495]? = some (.cells #[.bool a0_0, (.slice A0_1 l0_1.length c0_1)] 25 (0, 0))) ∧ Aside0 (Below w.heap.size w w'))
    case atStart => exact ⟨(0), (0), (by first | rfl | (simp; done) | (simp [*]; done)), (by first | rfl | (simp; done) | (simp [*]; done)), H', ⟨Nat.le_refl _⟩, ⟨by (with_reducible repeat (first | refine blk_drewN ?_ _ | refine blk_drew ?_ | refine blk_alloc ?_ _)); exact BK495.out⟩, ⟨by repeat (first | (with_reducible first | exact HB.out | apply below_alloc | apply pw_below_drewN | apply below_drew1 | refine below_set ?_ GE495.out) | exact HB.out)⟩⟩
    case round =>
      clear H'
      try clear c2
      try clear c2b0
      try clear c2b1
      try clear p2
      try clear hcz4_0
      try clear hcz4_1
      try clear hcz6_0
      try clear hcz6_1
      try clear hfz4_0
      try clear hfz4_1
      try clear hfz6_0
      try clear hfz6_1
      obtain ⟨x4_1, x14_1, rfl, rfl, HA, HK1, BK495, HB⟩ := hrel
      cases gk with
      | zero => exact absurd HA.out (by simp [bigint_Int_Int.l0])
      | succ k1 =>
        have H := HA.out
        clear HA
        simp only [bigint_Int_Int.l0] at H
        by_cases c7 : x14_1 < (l0_1.length : Int)
        · rw [if_pos c7] at H
          have c7b0 : decide (x14_1 < (l0_1.length : Int)) = true := decide_eq_true c7
          clear c7
          by_cases c8 : 0 ≤ x14_1
          · rw [if_pos c8] at H
            have c8b0 : decide (0 ≤ x14_1) = true := decide_eq_true c8
            clear c8
            by_cases c9 : x14_1 < (l0_1.length : Int)
            · rw [if_pos c9] at H
              have c9b0 : decide (x14_1 < (l0_1.length : Int)) = true := decide_eq_true c9
              clear c9
              obtain ⟨ji10, hji10⟩ : ∃ j_ : Int, (wrap64 (32 * x14_1)) = j_ := ⟨_, rfl⟩
              replace H : (if 0 ≤ (ji10) then (bigint_Int_Int.l0 k1 (Go.bits .or .u64 x4_1 (shl .u64 (IntKind.u64.wrap (rd l0_1 x14_1)) (ji10))) l0_1 (l0_1.length : Int) (wrap64 (x14_1 + 1)) a0_0 l0_1) else (none)) = some (r1, r2) := by first | (rw [hji10] at H; exact H) | (simp only [hji10] at H ⊢; exact H)
              have hji10w : (IntKind.i64.wrap (32 * x14_1)) = ji10 := (i64_w _).trans hji10
              by_cases c11 : 0 ≤ (ji10)
              · rw [if_pos c11] at H
                have c11b0 := eq_true c11
                have c11b1 : decide (0 ≤ (ji10)) = true := decide_eq_true c11
                clear c11
                obtain ⟨ji12, hji12⟩ : ∃ j_ : Int, (shl .u64 (IntKind.u64.wrap (rd l0_1 x14_1)) (ji10)) = j_ := ⟨_, rfl⟩
                replace H : (bigint_Int_Int.l0 k1 (Go.bits .or .u64 x4_1 (ji12)) l0_1 (l0_1.length : Int) (wrap64 (x14_1 + 1)) a0_0 l0_1) = some (r1, r2) := by first | (rw [hji12] at H; exact H) | (simp only [hji12] at H ⊢; exact H)
                have hji12_ : (IntKind.u64.wrap ((IntKind.u64.wrap (rd l0_1 x14_1)) * 2 ^ min (ji10).toNat 64)) = ji12 := hji12
                have hji12z : (ji10) ≤ 64 → (IntKind.u64.wrap ((IntKind.u64.wrap (rd l0_1 x14_1)) * 2 ^ (ji10).toNat)) = ji12 := shl_small hji12
                have H' := Aside0.mk H
                clear H
                have p496 : 0 ≤ (x14_1 : Int) := of_decide_eq_true (by first | (with_reducible assumption) | assumption)
                have q496 : x14_1 < (l0_1.length : Int) := of_decide_eq_true (by first | (with_reducible assumption) | assumption)
                obtain ⟨ad496, e496, hx496_0⟩ := Kd.at_int HR0_1.out x14_1 p496 q496
                cases e496
                replace hx496_0 := (HB.out.cell (World.block_lt_of_cell? w _ hx496_0)).trans hx496_0
                replace p496 := eq_true p496
                replace q496 := eq_true q496
                go_wp2
                go_roundg k1
                case measure => have := HK1.out; omega
                case rel => exact ⟨(Go.bits .or .u64 x4_1 (ji12)), (wrap64 (x14_1 + 1)), (by first | rfl | (simp; done) | (simp only [← hji12] <;> (first | rfl | simp)) | (simp [*]; done)), (by first | rfl | (simp; done) | (simp [*]; done)), H', ⟨by have := HK1.out; omega⟩, ⟨by (with_reducible repeat (first | refine blk_drewN ?_ _ | refine blk_drew ?_ | refine blk_alloc ?_ _)); exact BK495.out⟩, ⟨by repeat (first | (with_reducible first | exact HB.out | apply below_alloc | apply pw_below_drewN | apply below_drew1 | refine below_set ?_ GE495.out) | exact HB.out)⟩⟩
              · rw [if_neg c11] at H
                exact absurd H (by simp)
            · rw [if_neg c9] at H
              exact absurd H (by simp)
          · rw [if_neg c8] at H
            exact absurd H (by simp)
        · rw [if_neg c7] at H
          have c7b0 : decide (x14_1 < (l0_1.length : Int)) = false := decide_eq_false c7
          clear c7
          have HC13 := Aside0.mk H
          clear H
          go_upto_region 9 with (fail)
          go_cut [27] (fun v27 wc => ∃ (kq : Nat) (x27_12 : Bool), v27 = .bool x27_12 ∧ Aside0 (bigint_Int_Int.j1 kq x4_1 x27_12 a0_0 l0_1 = some (r1, r2)) ∧ Aside0 (kq ≤ k1) ∧ Aside0 (wc.heap[gb495]? = some (.cells #[.bool a0_0, (.slice A0_1 l0_1.length c0_1)] 25 (0, 0))) ∧ Aside0 (Below w.heap.size w wc))
          case first =>
            have H := HC13.out
            clear HC13
            by_cases c14 : a0_0 = true
            · subst c14
              have H1 : (bigint_Int_Int.j1 k1 x4_1 (decide (x4_1 ≤ 9223372036854775808)) true l0_1) = some (r1, r2) := by rw [if_pos rfl] at H; exact H
              clear H
              have H := H1
              clear H1
              have H' := Aside0.mk H
              clear H
              have hcz15_0 : wr.cell? ⟨gb495, 0, none⟩ = some (.bool true) := (blk_cell BK495.out 0).trans rfl
              have hcz15_1 : wr.cell? ⟨gb495, 1, none⟩ = some (.slice A0_1 l0_1.length c0_1) := (blk_cell BK495.out 1).trans rfl
              have hfz15_0 := blk_frozen BK495.out 0
              have hfz15_1 := blk_frozen BK495.out 1
              go_wp2
              go_meet
              case rel => exact ⟨_, (decide (x4_1 ≤ 9223372036854775808)), (by first | rfl | (simp; done) | (simp [*]; done)), H', ⟨by have := HK1.out; first | omega | exact Nat.le_refl _⟩, ⟨by (with_reducible repeat (first | refine blk_drewN ?_ _ | refine blk_drew ?_ | refine blk_alloc ?_ _)); exact BK495.out⟩, ⟨by repeat (first | (with_reducible first | exact HB.out | apply below_alloc | apply pw_below_drewN | apply below_drew1 | refine below_set ?_ GE495.out) | exact HB.out)⟩⟩
            · replace c14 := Bool.eq_false_iff.mpr c14
              subst c14
              have H1 : (bigint_Int_Int.j1 k1 x4_1 false false l0_1) = some (r1, r2) := by rw [if_neg (show ¬ (false = true) by decide)] at H; exact H
              clear H
              have H := H1
              clear H1
              have H' := Aside0.mk H
              clear H
              have hcz16_0 : wr.cell? ⟨gb495, 0, none⟩ = some (.bool false) := (blk_cell BK495.out 0).trans rfl
              have hcz16_1 : wr.cell? ⟨gb495, 1, none⟩ = some (.slice A0_1 l0_1.length c0_1) := (blk_cell BK495.out 1).trans rfl
              have hfz16_0 := blk_frozen BK495.out 0
              have hfz16_1 := blk_frozen BK495.out 1
              go_wp2
              go_meet
              case rel => exact ⟨_, (false), (by first | rfl | (simp; done) | (simp [*]; done)), H', ⟨by have := HK1.out; first | omega | exact Nat.le_refl _⟩, ⟨by (with_reducible repeat (first | refine blk_drewN ?_ _ | refine blk_drew ?_ | refine blk_alloc ?_ _)); exact BK495.out⟩, ⟨by repeat (first | (with_reducible first | exact HB.out | apply below_alloc | apply pw_below_drewN | apply below_drew1 | refine below_set ?_ GE495.out) | exact HB.out)⟩⟩
          case rest =>
            clear HC13
            try clear c1
            try clear c2
            try clear c2b0
            try clear c2b1
            try clear p2
            try clear p4
            try clear q4
            try clear hx4
            try clear p6
            try clear c7
            try clear c7b0
            try clear c8
            try clear c8b0
            try clear c9
            try clear c9b0
            try clear c11
            try clear c11b0
            try clear c11b1
            try clear c14
            try clear hcz15_0
            try clear hcz15_1
            try clear hcz16_0
            try clear hcz16_1
            try clear hcz4_0
            try clear hcz4_1
            try clear hcz6_0
            try clear hcz6_1
            try clear hfz15_0
            try clear hfz15_1
            try clear hfz16_0
            try clear hfz16_1
            try clear hfz4_0
            try clear hfz4_1
            try clear hfz6_0
            try clear hfz6_1
            try clear hx496_0
            try clear p2
            try clear p496
            try clear q496
            obtain ⟨kq, x27_12, rfl, HA, HJ12, BK495, HB⟩ := hcut
            cases kq with
            | zero => exact absurd HA.out (by simp [bigint_Int_Int.j1])
            | succ kj12 =>
              have H := HA.out
              clear HA
              simp only [bigint_Int_Int.j1] at H
              by_cases c17 : x27_12 = true
              · subst c17
                have H1 : (some (wrap64 (IntKind.u64.wrap (-x4_1)), true)) = some (r1, r2) := by rw [if_pos rfl] at H; exact H
                clear H
                have H := H1
                clear H1
                simp only [Option.some.injEq, Prod.mk.injEq] at H
                obtain ⟨rfl, rfl⟩ := H
                go_wp2
                go_ret2
                exact ⟨by first | rfl | (simp [errW_none, errW_some] <;> rfl) | (simp [*, errW_none, errW_some] <;> rfl), by repeat (first | (with_reducible first | exact HB.out | apply below_alloc | apply pw_below_drewN | apply below_drew1 | refine below_set ?_ GE495.out) | exact HB.out)⟩
              · replace c17 := Bool.eq_false_iff.mpr c17
                subst c17
                have H1 : (if a0_0 = true then (some (0, false)) else (if x4_1 < 9223372036854775808 then (some (wrap64 (x4_1), true)) else (some (0, false)))) = some (r1, r2) := by rw [if_neg (show ¬ (false = true) by decide)] at H; exact H
                clear H
                have H := H1
                clear H1
                by_cases c18 : a0_0 = true
                · subst c18
                  have H1 : (some (0, false)) = some (r1, r2) := by rw [if_pos rfl] at H; exact H
                  clear H
                  have H := H1
                  clear H1
                  simp only [Option.some.injEq, Prod.mk.injEq] at H
                  obtain ⟨rfl, rfl⟩ := H
                  have hcz19_0 : wc.cell? ⟨gb495, 0, none⟩ = some (.bool true) := (blk_cell BK495.out 0).trans rfl
                  have hcz19_1 : wc.cell? ⟨gb495, 1, none⟩ = some (.slice A0_1 l0_1.length c0_1) := (blk_cell BK495.out 1).trans rfl
                  have hfz19_0 := blk_frozen BK495.out 0
                  have hfz19_1 := blk_frozen BK495.out 1
                  go_wp2
                  go_ret2
                  exact ⟨by first | rfl | (simp [errW_none, errW_some] <;> rfl) | (simp [*, errW_none, errW_some] <;> rfl), by repeat (first | (with_reducible first | exact HB.out | apply below_alloc | apply pw_below_drewN | apply below_drew1 | refine below_set ?_ GE495.out) | exact HB.out)⟩
                · replace c18 := Bool.eq_false_iff.mpr c18
                  subst c18
                  have H1 : (if x4_1 < 9223372036854775808 then (some (wrap64 (x4_1), true)) else (some (0, false))) = some (r1, r2) := by rw [if_neg (show ¬ (false = true) by decide)] at H; exact H
                  clear H
                  have H := H1
                  clear H1
                  by_cases c20 : x4_1 < 9223372036854775808
                  · rw [if_pos c20] at H
                    have c20b0 : decide (x4_1 < 9223372036854775808) = true := decide_eq_true c20
                    clear c20
                    simp only [Option.some.injEq, Prod.mk.injEq] at H
                    obtain ⟨rfl, rfl⟩ := H
                    have hcz21_0 : wc.cell? ⟨gb495, 0, none⟩ = some (.bool false) := (blk_cell BK495.out 0).trans rfl
                    have hcz21_1 : wc.cell? ⟨gb495, 1, none⟩ = some (.slice A0_1 l0_1.length c0_1) := (blk_cell BK495.out 1).trans rfl
                    have hfz21_0 := blk_frozen BK495.out 0
                    have hfz21_1 := blk_frozen BK495.out 1
                    go_wp2
                    go_ret2
                    exact ⟨by first | rfl | (simp [errW_none, errW_some] <;> rfl) | (simp [*, errW_none, errW_some] <;> rfl), by repeat (first | (with_reducible first | exact HB.out | apply below_alloc | apply pw_below_drewN | apply below_drew1 | refine below_set ?_ GE495.out) | exact HB.out)⟩
                  · rw [if_neg c20] at H
                    have c20b0 : decide (x4_1 < 9223372036854775808) = false := decide_eq_false c20
                    clear c20
                    simp only [Option.some.injEq, Prod.mk.injEq] at H
                    obtain ⟨rfl, rfl⟩ := H
                    have hcz22_0 : wc.cell? ⟨gb495, 0, none⟩ = some (.bool false) := (blk_cell BK495.out 0).trans rfl
                    have hcz22_1 : wc.cell? ⟨gb495, 1, none⟩ = some (.slice A0_1 l0_1.length c0_1) := (blk_cell BK495.out 1).trans rfl
                    have hfz22_0 := blk_frozen BK495.out 0
                    have hfz22_1 := blk_frozen BK495.out 1
                    go_wp2
                    go_ret2
                    exact ⟨by first | rfl | (simp [errW_none, errW_some] <;> rfl) | (simp [*, errW_none, errW_some] <;> rfl), by repeat (first | (with_reducible first | exact HB.out | apply below_alloc | apply pw_below_drewN | apply below_drew1 | refine below_set ?_ GE495.out) | exact HB.out)⟩

end Go.Proofs.Ytdkapdgbfejgdaa.P
