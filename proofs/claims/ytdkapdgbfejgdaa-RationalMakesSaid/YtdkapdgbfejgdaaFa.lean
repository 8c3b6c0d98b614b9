/- ontimeref02.one, gcd, Make, Text. -/
import Derived.Test.YtdkapdgbfejgdaaSq
import Derived.Test.YtdkapdgbfejgdaaNn
import Derived.Test.YtdkapdgbfejgdaaRl
import Derived.LoopN
namespace Go.Proofs.Ytdkapdgbfejgdaa
open Go.RowKit Go.Proofs.YtdkapdgbfejgdaaW.PrintWords Go.Proofs.YtdkapdgbfejgdaaW.PrintLast Go.Proofs.YtdkapdgbfejgdaaW.PrintMore
set_option linter.unusedSimpArgs false
set_option linter.unusedVariables false
set_option maxHeartbeats 8000000
set_option maxRecDepth 100000

/-- It returns a number of its own. -/
def RetNF (w : World) (x : Int) (e : Ending) (w' : World) : Prop :=
  ∃ A c, e = .returned (.agg #[.int .i64 (sg x), .slice A (dn x) c]) ∧ (nw A c x).at w' (fun k => w.heap.size ≤ k) ∧ Below w.heap.size w w'
/-- It returns a fraction of the reference. -/
def RetF2 (w : World) (ok : Nat → Prop) (n d : Int) (e : Ending) (w' : World) : Prop :=
  ∃ A c B b, e = .returned (.agg #[.int .i64 (sg n), .slice A (dn n) c, .int .i64 (sg d), .slice B (dn d) b]) ∧ (nw A c n).at w' (fun k => ok k ∨ w.heap.size ≤ k) ∧ (nw B b d).at w' (fun k => ok k ∨ w.heap.size ≤ k) ∧ Below w.heap.size w w'

theorem OneN (w : World) (r : Int) (h : 1 = r) : Calls Try.prog 93 #[] w (RetNF w r) := by
  subst h
  have hu31 := Try.underlying31
  have H := Sit.start w (fun _ => False)
  go_enter Try.func93, Try.ntmps93
  go_wp2_with (first
    | ((with_reducible refine gate_dst (N := 0) rfl ?_); refine bE #[.int .i64 0, .slice none 0 0] 31 H ?_; clear H; intro g0 w1 H)
    | ((with_reducible refine gate_dst (N := 1) rfl ?_); refine lit_event rfl (N := 1) rfl (cs := #[.int .i64 1]) (t := 3) (n := 1) ?hr ?_; (case hr => go_simp; try rfl); intro g1 hg w2 hbox hb; replace H := H.newbox hg hbox hb; clear hg hbox hb; have k0_0 : w2.cell? ⟨g0, 0, none⟩ = some (.int .i64 0) := H.cell m1 0; have k0_1 : w2.cell? ⟨g0, 1, none⟩ = some (.slice none 0 0) := H.cell m1 1; have k0z_0 := H.frozen (g := g0) m1 0; have k0z_1 := H.frozen (g := g0) m1 1))
  replace H := (H.setn [_] 0 (.int .i64 1) rfl).setn [_] 1 (.slice (some ⟨g1, 0, none⟩) 1 1) rfl
  have hr : (nw (some ⟨g1, 0, none⟩) 1 1).at _ (fun j => j = g1) := box_row (e := 3) (l := [1]) (H.blk m0) rfl (Nat.le_refl _) (by decide)
  replace H := H.own (hr.mono (fun k hk => .inl hk)) (Below.refl _ _)
  refine bodyPost_ret (results_cell_row rfl _ _ g0 31 #[.int .i64 1, .slice (some ⟨g1, 0, none⟩) 1 1] (0, 0) _ rfl (H.blk m0) Try.underlying31 rfl (by kernel_rfl)) rfl ?_
  exact ⟨some ⟨g1, 0, none⟩, 1, rfl, (H.ret m0).mono (fun k hk => hk.elim (fun h => h.elim) id), H.below⟩

/-- What gcd's loop keeps. -/
def GN (G : Nat) (x y : Int) : Prop := 0 ≤ x ∧ 0 ≤ y ∧ Nat.gcd x.natAbs y.natAbs = G ∧ dn x ≤ 100000 ∧ dn y ≤ 100000
theorem GN.next {G : Nat} {x y r : Int} (h : GN G x y) (hy : y ≠ 0) (hr : x.tmod y = r) : GN G y r ∧ r.natAbs < y.natAbs := by
  obtain ⟨h1, h2, h3, h4, h5⟩ := h
  have e : r.natAbs = x.natAbs % y.natAbs := by rw [← hr, Int.natAbs_tmod]
  have hlt : x.natAbs % y.natAbs < y.natAbs := Nat.mod_lt _ (by omega)
  refine ⟨⟨h2, ?_, ?_, h5, dLe h5 (by omega)⟩, by omega⟩
  · rw [← hr]; exact Int.tmod_nonneg _ h1
  · rw [e, ← h3, Nat.gcd_comm y.natAbs, ← Nat.gcd_rec, Nat.gcd_comm]
theorem GN.done {G : Nat} {x y : Int} (h : GN G x y) (hy : y = 0) : x = (G : Int) := by
  obtain ⟨h1, h2, h3, -, -⟩ := h
  subst hy
  rw [show (0 : Int).natAbs = 0 from rfl, Nat.gcd_zero_right] at h3
  omega
theorem dTdiv {x y r : Int} {a : Nat} (hx : dn x ≤ a) (h : x.tdiv y = r) : dn r ≤ a := dLe hx (by rw [← h, Int.natAbs_tdiv]; exact Nat.div_le_self _ _)
theorem sg_nz {x : Int} (h : x ≠ 0) : (sg x == 0) = false ∧ (sg x != 0) = true := by
  have : sg x ≠ 0 := fun e => h (sg_0 e)
  exact ⟨beq_eq_false_iff_ne.mpr this, bne_iff_ne.mpr this⟩


theorem GcdN {A A' : Option Addr} {c c' : Nat} {m n : Int} {w : World} {ok : Nat → Prop} (hf : (nw A c m).at w ok) (hf' : (nw A' c' n).at w ok) (hm : dn m ≤ 100000) (hn : dn n ≤ 100000) (r0 : Int) (hG : 0 ≤ m ∧ 0 ≤ n ∧ ((Int.gcd m n : Nat) : Int) = r0) : Calls Try.prog 94 #[.agg #[.int .i64 (sg m), .slice A (dn m) c], .agg #[.int .i64 (sg n), .slice A' (dn n) c']] w (RetNm w ok r0) := by
  have hu31 := Try.underlying31
  have H := ((Sit.start w ok).arg hf).arg hf'
  obtain ⟨G, hGG⟩ : ∃ G, Int.gcd m n = G := ⟨_, rfl⟩
  have I0 := Aside0.mk (show GN G m n from ⟨hG.1, hG.2.1, hGG, hm, hn⟩)
  rw [hGG] at hG
  have R0 := Aside0.mk hG.2.2
  clear hf hf' hm hn hG hGG
  go_enter Try.func94, Try.ntmps94
  have st2 := trivial
  have st4 := trivial
  have st6 := trivial
  go_wp2_with (first
    | (clear st2; (with_reducible refine gate_dst (N := 2) rfl ?_); refine bE #[.int .i64 (sg m), .slice A (dn m) c] 31 H ?_; clear H; intro g2 w1 H; obtain ⟨k2_0, z2_0, k2_1, z2_1⟩ := H.b2 (g := g2) m0)
    | (clear st4; (with_reducible refine gate_dst (N := 3) rfl ?_); refine bE #[.int .i64 (sg n), .slice A' (dn n) c'] 31 H ?_; clear H; intro g3 w3 H; clear k2_0 z2_0 k2_1 z2_1; obtain ⟨k3_0, z3_0, k3_1, z3_1⟩ := H.b2 (g := g3) m0; obtain ⟨k2_0, z2_0, k2_1, z2_1⟩ := H.b2 (g := g2) m1; have ne_g3_g2 := H.ne (g := g3) (g' := g2) 0 1 rfl rfl (by decide); have ne_g2_g3 := ne_g3_g2.symm)
    | (clear st6; (with_reducible refine gate_dst (N := 4) rfl ?_); refine bE #[.int .i64 0, .slice none 0 0] 31 H ?_; clear H; intro g4 w5 H; clear k3_0 z3_0 k3_1 z3_1 k2_0 z2_0 k2_1 z2_1; obtain ⟨k4_0, z4_0, k4_1, z4_1⟩ := H.b2 (g := g4) m0; obtain ⟨k3_0, z3_0, k3_1, z3_1⟩ := H.b2 (g := g3) m1; obtain ⟨k2_0, z2_0, k2_1, z2_1⟩ := H.b2 (g := g2) m2; have ne_g4_g3 := H.ne (g := g4) (g' := g3) 0 1 rfl rfl (by decide); have ne_g3_g4 := ne_g4_g3.symm; have ne_g4_g2 := H.ne (g := g4) (g' := g2) 0 2 rfl rfl (by decide); have ne_g2_g4 := ne_g4_g2.symm))
  clear k4_0 z4_0 k4_1 z4_1 k3_0 z3_0 k3_1 z3_1 k2_0 z2_0 k2_1 z2_1
  refine wp_loop_rounds (n.natAbs + 1) ?_
  refine (fun (key : ∀ (N : Nat) (u5 u6 u7 u8 u9 u10 u11 u12 u13 u14 u15 u16 u17 u18 : Value) (x y : Int) (Ax : Option Addr) (cx : Nat) (Ay : Option Addr) (cy : Nat) (wr : World), GN G x y → y.natAbs < N → Sit w wr ok [(g4, .cells #[.int .i64 0, .slice none 0 0] 31 (0, 0)), (g3, .cells #[.int .i64 (sg y), .slice Ay (dn y) cy] 31 (0, 0)), (g2, .cells #[.int .i64 (sg x), .slice Ax (dn x) cx] 31 (0, 0))] [nw Ay cy y, nw Ax cx x] → Code.rounds Try.prog _ _ N { tmps := #[.agg #[.int .i64 (sg m), .slice A (dn m) c], .agg #[.int .i64 (sg n), .slice A' (dn n) c'], .pointer (some ⟨g2, 0, none⟩), .pointer (some ⟨g3, 0, none⟩), .pointer (some ⟨g4, 0, none⟩), u5, u6, u7, u8, u9, u10, u11, u12, u13, u14, u15, u16, u17, u18], defers := [] } wr) => key _ _ _ _ _ _ _ _ _ _ _ _ _ _ _ m n A c A' c' _ I0.out (Nat.lt_succ_self _) H) ?_
  clear H ne_g3_g2 ne_g2_g3 ne_g4_g3 ne_g3_g4 ne_g4_g2 ne_g2_g4
  intro N
  induction N with
  | zero => intro u5 u6 u7 u8 u9 u10 u11 u12 u13 u14 u15 u16 u17 u18 x y Ax cx Ay cy wr _ h; exact absurd h (Nat.not_lt_zero _)
  | succ N ih =>
    intro u5 u6 u7 u8 u9 u10 u11 u12 u13 u14 u15 u16 u17 u18 x y Ax cx Ay cy wr hI hN H
    have bY := Aside0.mk hI.2.2.2.2
    have bX := Aside0.mk hI.2.2.2.1
    have hI := Aside0.mk hI
    obtain ⟨k4_0, z4_0, k4_1, z4_1⟩ := H.b2 (g := g4) m0
    obtain ⟨k3_0, z3_0, k3_1, z3_1⟩ := H.b2 (g := g3) m1
    obtain ⟨k2_0, z2_0, k2_1, z2_1⟩ := H.b2 (g := g2) m2
    have ne_g4_g3 := H.ne (g := g4) (g' := g3) 0 1 rfl rfl (by decide)
    have ne_g3_g4 := ne_g4_g3.symm
    have ne_g4_g2 := H.ne (g := g4) (g' := g2) 0 2 rfl rfl (by decide)
    have ne_g2_g4 := ne_g4_g2.symm
    have ne_g3_g2 := H.ne (g := g3) (g' := g2) 1 2 rfl rfl (by decide)
    have ne_g2_g3 := ne_g3_g2.symm
    by_cases hy : y = 0
    · have hfin := Aside0.mk (show x = r0 by rw [← R0.out]; exact hI.out.done hy)
      have z1 : (sg y != 0) = false := by rw [hy]; rfl
      have z2 : sg y = 0 := by rw [hy]; rfl
      clear hy
      show Code.wp _ _ _ _ _
      go_wp2
      replace H := ((H.setn [] 0 (.int .i64 (sg x)) rfl).setn [] 1 (.slice Ax (dn x) cx) rfl)
      obtain rfl := hfin.out
      refine bodyPost_ret (results_cell_row rfl _ _ g4 31 #[.int .i64 (sg x), .slice Ax (dn x) cx] (0, 0) _ rfl (H.blk m0) Try.underlying31 rfl (by kernel_rfl)) rfl ?_
      exact ⟨Ax, cx, rfl, H.ret m1, H.below⟩
    · obtain ⟨q, hq⟩ : ∃ q, x.tdiv y = q := ⟨_, rfl⟩
      obtain ⟨r, hr'⟩ : ∃ r, x.tmod y = r := ⟨_, rfl⟩
      obtain ⟨nI, hlt⟩ := hI.out.next hy hr'
      have nI := Aside0.mk nI
      have hlt := Aside0.mk hlt
      have z1 : (sg y != 0) = true := (sg_nz hy).2
      have z2 : ¬ sg y = 0 := fun e => hy (sg_0 e)
      have hdv := Aside0.mk (show y ≠ 0 ∧ x.tdiv y = q ∧ x.tmod y = r from ⟨hy, hq, hr'⟩)
      clear hy hq hr'
      show Code.wp _ _ _ _ _
      have st6 := trivial
      have st8 := trivial
      have st10 := trivial
      go_upto_region 3 with (first
        | (clear st6; go_at_call 60; (with_reducible refine (DivN (H.row _ m1) (H.row _ m0) (Nat.le_trans bX.out (by decide)) (Nat.le_trans bY.out (by decide)) q r hdv.out).mono ?_); rintro e w1 ⟨A2, c3, A4, c5, rfl, hr, hr2, hb⟩; replace H := (H.got hr hb).more ((H.got hr2 hb).row _ m0); clear hr hr2 hb; clear k4_0 z4_0 k4_1 z4_1 k3_0 z3_0 k3_1 z3_1 k2_0 z2_0 k2_1 z2_1; obtain ⟨k4_0, z4_0, k4_1, z4_1⟩ := H.b2 (g := g4) m0; obtain ⟨k3_0, z3_0, k3_1, z3_1⟩ := H.b2 (g := g3) m1; obtain ⟨k2_0, z2_0, k2_1, z2_1⟩ := H.b2 (g := g2) m2)
        | (clear st8; (with_reducible refine gate_dst (N := 5) rfl ?_); refine bE #[.int .i64 0, .slice none 0 0] 31 H ?_; clear H; intro g5 w7 H; clear k4_0 z4_0 k4_1 z4_1 k3_0 z3_0 k3_1 z3_1 k2_0 z2_0 k2_1 z2_1; obtain ⟨k5_0, z5_0, k5_1, z5_1⟩ := H.b2 (g := g5) m0; obtain ⟨k4_0, z4_0, k4_1, z4_1⟩ := H.b2 (g := g4) m1; obtain ⟨k3_0, z3_0, k3_1, z3_1⟩ := H.b2 (g := g3) m2; obtain ⟨k2_0, z2_0, k2_1, z2_1⟩ := H.b2 (g := g2) m3; have ne_g5_g4 := H.ne (g := g5) (g' := g4) 0 1 rfl rfl (by decide); have ne_g4_g5 := ne_g5_g4.symm; have ne_g5_g3 := H.ne (g := g5) (g' := g3) 0 2 rfl rfl (by decide); have ne_g3_g5 := ne_g5_g3.symm; have ne_g5_g2 := H.ne (g := g5) (g' := g2) 0 3 rfl rfl (by decide); have ne_g2_g5 := ne_g5_g2.symm)
        | (clear st10; (with_reducible refine gate_dst (N := 6) rfl ?_); refine bE #[.int .i64 0, .slice none 0 0] 31 H ?_; clear H; intro g6 w9 H; clear k5_0 z5_0 k5_1 z5_1 k4_0 z4_0 k4_1 z4_1 k3_0 z3_0 k3_1 z3_1 k2_0 z2_0 k2_1 z2_1; obtain ⟨k6_0, z6_0, k6_1, z6_1⟩ := H.b2 (g := g6) m0; obtain ⟨k5_0, z5_0, k5_1, z5_1⟩ := H.b2 (g := g5) m1; obtain ⟨k4_0, z4_0, k4_1, z4_1⟩ := H.b2 (g := g4) m2; obtain ⟨k3_0, z3_0, k3_1, z3_1⟩ := H.b2 (g := g3) m3; obtain ⟨k2_0, z2_0, k2_1, z2_1⟩ := H.b2 (g := g2) m4; have ne_g6_g5 := H.ne (g := g6) (g' := g5) 0 1 rfl rfl (by decide); have ne_g5_g6 := ne_g6_g5.symm; have ne_g6_g4 := H.ne (g := g6) (g' := g4) 0 2 rfl rfl (by decide); have ne_g4_g6 := ne_g6_g4.symm; have ne_g6_g3 := H.ne (g := g6) (g' := g3) 0 3 rfl rfl (by decide); have ne_g3_g6 := ne_g6_g3.symm; have ne_g6_g2 := H.ne (g := g6) (g' := g2) 0 4 rfl rfl (by decide); have ne_g2_g6 := ne_g6_g2.symm))
      (try simp only [nn])
      replace H := ((((H.setn [_] 0 (.int .i64 (sg q)) rfl).setn [_] 1 (.slice A2 (dn q) c3) rfl).setn [] 0 (.int .i64 (sg r)) rfl).setn [] 1 (.slice A4 (dn r) c5) rfl)
      clear k6_0 z6_0 k6_1 z6_1 k5_0 z5_0 k5_1 z5_1 k4_0 z4_0 k4_1 z4_1 k3_0 z3_0 k3_1 z3_1 k2_0 z2_0 k2_1 z2_1
      generalize ((((w9.setCell ⟨g5, 0, none⟩ (.int .i64 (sg q))).setCell ⟨g5, 1, none⟩ (.slice A2 (dn q) c3)).setCell ⟨g6, 0, none⟩ (.int .i64 (sg r))).setCell ⟨g6, 1, none⟩ (.slice A4 (dn r) c5)) = w11 at H ⊢
      obtain ⟨k6_0, z6_0, k6_1, z6_1⟩ := H.b2 (g := g6) m0
      obtain ⟨k5_0, z5_0, k5_1, z5_1⟩ := H.b2 (g := g5) m1
      obtain ⟨k4_0, z4_0, k4_1, z4_1⟩ := H.b2 (g := g4) m2
      obtain ⟨k3_0, z3_0, k3_1, z3_1⟩ := H.b2 (g := g3) m3
      obtain ⟨k2_0, z2_0, k2_1, z2_1⟩ := H.b2 (g := g2) m4
      clear k6_0 z6_0 k6_1 z6_1 k5_0 z5_0 k5_1 z5_1 k4_0 z4_0 k4_1 z4_1 k3_0 z3_0 k3_1 z3_1 k2_0 z2_0 k2_1 z2_1
      replace H := H.drew
      refine start_ (n := 4) (S := fun w' => w'.cell? ⟨g3, 0, none⟩ = some (.int .i64 (sg y)) ∧ w'.cell? ⟨g3, 1, none⟩ = some (.slice Ay (dn y) cy) ∧ w'.cell? ⟨g6, 0, none⟩ = some (.int .i64 (sg r)) ∧ w'.cell? ⟨g6, 1, none⟩ = some (.slice A4 (dn r) c5)) (ds := [3]) #[false, false, false, false] (by kernel_rfl) rfl rfl (H.c2 m3 (H.d2 m0)) (fun hQ => ?_)
      generalize w11.drew = w12 at H hQ ⊢
      refine tU hQ 0 16 (bm 4 1) ?_
      refine tU hQ 1 17 (bm 4 3) ?_
      refine oU0 2 (bm 4 7) (fun K hK => ?_)
      obtain ⟨k6_0, z6_0, k6_1, z6_1⟩ := H.b2 (g := g6) m0
      obtain ⟨k3_0, z3_0, k3_1, z3_1⟩ := H.b2 (g := g3) m3
      obtain ⟨k2_0, z2_0, k2_1, z2_1⟩ := H.b2 (g := g2) m4
      refine kT ?_
      replace H := ((H.setn [_, _, _, _] 0 (.int .i64 (sg y)) rfl).setn [_, _, _, _] 1 (.slice Ay (dn y) cy) rfl)
      clear k6_0 z6_0 k6_1 z6_1 k3_0 z3_0 k3_1 z3_1 k2_0 z2_0 k2_1 z2_1
      generalize ((w12.setCell ⟨g2, 0, none⟩ (.int .i64 (sg y))).setCell ⟨g2, 1, none⟩ (.slice Ay (dn y) cy)) = w13 at H ⊢
      refine hK.out _ _ (H.c2 m3 (H.d2 m0)) (fun hQ => ?_)
      clear hK K
      refine lU 3 (bm 4 15) (fun K hK => ?_)
      obtain ⟨k6_0, z6_0, k6_1, z6_1⟩ := H.b2 (g := g6) m0
      obtain ⟨k3_0, z3_0, k3_1, z3_1⟩ := H.b2 (g := g3) m3
      refine kT ?_
      refine hK.out _ _ ?_
      clear hK K
      refine done_ (by kernel_rfl) ?_
      try clear hQ
      replace H := ((H.setn [_, _, _] 0 (.int .i64 (sg r)) rfl).setn [_, _, _] 1 (.slice A4 (dn r) c5) rfl)
      go_wp2
      refine ih _ _ _ _ _ _ _ _ _ _ _ _ _ _ y r Ay cy A4 c5 _ nI.out (Nat.lt_of_lt_of_le hlt.out (Nat.le_of_lt_succ hN)) (H.fewer ?_ ?_)
      · exact .cons _ (.cons _ (List.Sublist.refl _))
      · intro f hf; rcases List.mem_cons.mp hf with rfl | hf; exact m0; rcases List.mem_cons.mp hf with rfl | hf; exact m2; cases hf

end Go.Proofs.Ytdkapdgbfejgdaa
