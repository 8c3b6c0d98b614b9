/- bigint.Gcd. -/
import Derived.Test.YtdkapdgbfejgdaaSq
import Derived.Test.YtdkapdgbfejgdaaZd
import Derived.Test.YtdkapdgbfejgdaaSb
import Derived.LoopN
namespace Go.Proofs.Ytdkapdgbfejgdaa
open Go.RowKit Go.Proofs.YtdkapdgbfejgdaaW.PrintWords Go.Proofs.YtdkapdgbfejgdaaW.PrintLast Go.Proofs.YtdkapdgbfejgdaaW.PrintMore
set_option linter.unusedSimpArgs false
set_option linter.unusedVariables false
set_option maxHeartbeats 8000000
set_option maxRecDepth 100000

/-- What the loop keeps. -/
def GI (G : Nat) (x y : Int) : Prop := 0 ≤ x ∧ 0 ≤ y ∧ Nat.gcd x.natAbs y.natAbs = G ∧ ln x ≤ 10000000 ∧ ln y ≤ 10000000
theorem GI.next {G : Nat} {x y r : Int} (h : GI G x y) (hy : y ≠ 0) (hr : x.tmod y = r) : GI G y r ∧ r.natAbs < y.natAbs := by
  obtain ⟨h1, h2, h3, h4, h5⟩ := h
  have e : r.natAbs = x.natAbs % y.natAbs := by rw [← hr, Int.natAbs_tmod]
  have hlt : x.natAbs % y.natAbs < y.natAbs := Nat.mod_lt _ (by omega)
  refine ⟨⟨h2, ?_, ?_, h5, bTmod2 h5 hy hr⟩, by omega⟩
  · rw [← hr]; exact Int.tmod_nonneg _ h1
  · rw [e, ← h3, Nat.gcd_comm y.natAbs, ← Nat.gcd_rec, Nat.gcd_comm]
theorem GI.start {m n x y : Int} (hm : ln m ≤ 10000000) (hn : ln n ≤ 10000000) (hx : (m.natAbs : Int) = x) (hy : (n.natAbs : Int) = y) : GI (Int.gcd m n) x y := by
  subst hx hy
  refine ⟨by omega, by omega, ?_, bAbs hm (by omega), bAbs hn (by omega)⟩
  rw [Int.natAbs_natCast, Int.natAbs_natCast]; rfl
theorem GI.done {G : Nat} {x y : Int} (h : GI G x y) (hy : y = 0) : x = (G : Int) := by
  obtain ⟨h1, h2, h3, -, -⟩ := h
  subst hy
  rw [show (0 : Int).natAbs = 0 from rfl, Nat.gcd_zero_right] at h3
  omega
theorem ng_abs {m x : Int} (h : (m.natAbs : Int) = x) : ng x = false := by unfold ng; exact decide_eq_false (by omega)
theorem digs_abs {m x : Int} (h : (m.natAbs : Int) = x) : digs m = digs x := by unfold digs; rw [← h, Int.natAbs_natCast]


theorem GcdQ {A A' : Option Addr} {c c' : Nat} {m n : Int} {w : World} {ok : Nat → Prop} (hf : (bw A c m).at w ok) (hf' : (bw A' c' n).at w ok) (hm : ln m ≤ 10000000) (hn : ln n ≤ 10000000) (r0 : Int) (hG : ((Int.gcd m n : Nat) : Int) = r0) : Calls Try.prog 61 #[.agg #[.bool (ng m), .slice A (ln m) c], .agg #[.bool (ng n), .slice A' (ln n) c']] w (RetI w ok r0) := by
  have hu25 := Try.underlying25
  have H := ((Sit.start w ok).arg hf).arg hf'
  obtain ⟨x0, hx0⟩ : ∃ v : Int, (m.natAbs : Int) = v := ⟨_, rfl⟩
  obtain ⟨y0, hy0⟩ : ∃ v : Int, (n.natAbs : Int) = v := ⟨_, rfl⟩
  obtain ⟨G, hGG⟩ : ∃ G, Int.gcd m n = G := ⟨_, rfl⟩
  have I0 := GI.start hm hn hx0 hy0
  rw [hGG] at I0 hG
  have I0 := Aside0.mk I0
  have R0 := Aside0.mk hG
  have X0 := Aside0.mk hx0
  have Y0 := Aside0.mk hy0
  clear hf hf' hm hn hx0 hy0 hG hGG
  go_enter Try.func61, Try.ntmps61
  have st2 := trivial
  have st4 := trivial
  have st6 := trivial
  go_wp2_with (first
    | (clear st2; (with_reducible refine gate_dst (N := 2) rfl ?_); refine bE #[.bool (ng m), .slice A (ln m) c] 25 H ?_; clear H; intro g2 w1 H; have kg2_0 : w1.cell? ⟨g2, 0, none⟩ = some (.bool (ng m)) := H.cell m0 0; have zg2_0 := H.frozen (g := g2) m0 0; have kg2_1 : w1.cell? ⟨g2, 1, none⟩ = some (.slice A (ln m) c) := H.cell m0 1; have zg2_1 := H.frozen (g := g2) m0 1)
    | (clear st4; (with_reducible refine gate_dst (N := 3) rfl ?_); refine bE #[.bool (ng n), .slice A' (ln n) c'] 25 H ?_; clear H; intro g3 w3 H; clear kg2_0 zg2_0 kg2_1 zg2_1; have kg3_0 : w3.cell? ⟨g3, 0, none⟩ = some (.bool (ng n)) := H.cell m0 0; have zg3_0 := H.frozen (g := g3) m0 0; have kg3_1 : w3.cell? ⟨g3, 1, none⟩ = some (.slice A' (ln n) c') := H.cell m0 1; have zg3_1 := H.frozen (g := g3) m0 1; have kg2_0 : w3.cell? ⟨g2, 0, none⟩ = some (.bool (ng m)) := H.cell m1 0; have zg2_0 := H.frozen (g := g2) m1 0; have kg2_1 : w3.cell? ⟨g2, 1, none⟩ = some (.slice A (ln m) c) := H.cell m1 1; have zg2_1 := H.frozen (g := g2) m1 1; have ne_g3_g2 := H.ne (g := g3) (g' := g2) 0 1 rfl rfl (by decide); have ne_g2_g3 := ne_g3_g2.symm)
    | (clear st6; (with_reducible refine gate_dst (N := 4) rfl ?_); refine bE #[.bool false, .slice none 0 0] 25 H ?_; clear H; intro g4 w5 H; clear kg3_0 zg3_0 kg3_1 zg3_1 kg2_0 zg2_0 kg2_1 zg2_1; have kg4_0 : w5.cell? ⟨g4, 0, none⟩ = some (.bool false) := H.cell m0 0; have zg4_0 := H.frozen (g := g4) m0 0; have kg4_1 : w5.cell? ⟨g4, 1, none⟩ = some (.slice none 0 0) := H.cell m0 1; have zg4_1 := H.frozen (g := g4) m0 1; have kg3_0 : w5.cell? ⟨g3, 0, none⟩ = some (.bool (ng n)) := H.cell m1 0; have zg3_0 := H.frozen (g := g3) m1 0; have kg3_1 : w5.cell? ⟨g3, 1, none⟩ = some (.slice A' (ln n) c') := H.cell m1 1; have zg3_1 := H.frozen (g := g3) m1 1; have kg2_0 : w5.cell? ⟨g2, 0, none⟩ = some (.bool (ng m)) := H.cell m2 0; have zg2_0 := H.frozen (g := g2) m2 0; have kg2_1 : w5.cell? ⟨g2, 1, none⟩ = some (.slice A (ln m) c) := H.cell m2 1; have zg2_1 := H.frozen (g := g2) m2 1; have ne_g4_g3 := H.ne (g := g4) (g' := g3) 0 1 rfl rfl (by decide); have ne_g3_g4 := ne_g4_g3.symm; have ne_g4_g2 := H.ne (g := g4) (g' := g2) 0 2 rfl rfl (by decide); have ne_g2_g4 := ne_g4_g2.symm))
  replace H := (H.setn [_, _] 0 (.bool false) rfl).setn [_] 0 (.bool false) rfl
  replace H : Sit w ((w5.setCell ⟨g2, 0, none⟩ (.bool false)).setCell ⟨g3, 0, none⟩ (.bool false)) ok [(g4, .cells #[.bool false, .slice none 0 0] 25 (0, 0)), (g3, .cells #[.bool (ng y0), .slice A' (ln y0) c'] 25 (0, 0)), (g2, .cells #[.bool (ng x0), .slice A (ln x0) c] 25 (0, 0))] [bw A' c' y0, bw A c x0] := by
    have e1 : ln x0 = ln m := by unfold ln; rw [digs_abs X0.out]
    have e2 : ln y0 = ln n := by unfold ln; rw [digs_abs Y0.out]
    have e3 : bw A c x0 = bw A c m := by unfold bw; rw [digs_abs X0.out]
    have e4 : bw A' c' y0 = bw A' c' n := by unfold bw; rw [digs_abs Y0.out]
    rw [e1, e2, e3, e4, ng_abs X0.out, ng_abs Y0.out]
    exact H
  generalize ((w5.setCell ⟨g2, 0, none⟩ (.bool false)).setCell ⟨g3, 0, none⟩ (.bool false)) = w9 at H ⊢
  refine wp_loop_rounds (y0.natAbs + 1) ?_
  refine (fun (key : ∀ (N : Nat) (u5 u6 u7 u8 u9 u10 u11 u12 u13 u14 u15 u16 u17 u18 u19 u20 u21 : Value) (x y : Int) (Ax : Option Addr) (cx : Nat) (Ay : Option Addr) (cy : Nat) (wr : World), GI G x y → y.natAbs < N → Sit w wr ok [(g4, .cells #[.bool false, .slice none 0 0] 25 (0, 0)), (g3, .cells #[.bool (ng y), .slice Ay (ln y) cy] 25 (0, 0)), (g2, .cells #[.bool (ng x), .slice Ax (ln x) cx] 25 (0, 0))] [bw Ay cy y, bw Ax cx x] → Code.rounds Try.prog _ _ N { tmps := #[.agg #[.bool (ng m), .slice A (ln m) c], .agg #[.bool (ng n), .slice A' (ln n) c'], .pointer (some ⟨g2, 0, none⟩), .pointer (some ⟨g3, 0, none⟩), .pointer (some ⟨g4, 0, none⟩), u5, u6, u7, u8, u9, u10, u11, u12, u13, u14, u15, u16, u17, u18, u19, u20, u21, undef], defers := [] } wr) => key _ _ _ _ _ _ _ _ _ _ _ _ _ _ _ _ _ _ x0 y0 A c A' c' w9 I0.out (Nat.lt_succ_self _) H) ?_
  clear H
  intro N
  induction N with
  | zero => intro u5 u6 u7 u8 u9 u10 u11 u12 u13 u14 u15 u16 u17 u18 u19 u20 u21 x y Ax cx Ay cy wr _ h; exact absurd h (Nat.not_lt_zero _)
  | succ N ih =>
    intro u5 u6 u7 u8 u9 u10 u11 u12 u13 u14 u15 u16 u17 u18 u19 u20 u21 x y Ax cx Ay cy wr hI hN H
    have bY := Aside0.mk hI.2.2.2.2
    have bX := Aside0.mk hI.2.2.2.1
    have hI := Aside0.mk hI
    have kg4_0 : wr.cell? ⟨g4, 0, none⟩ = some (.bool false) := H.cell m0 0
    have zg4_0 := H.frozen (g := g4) m0 0
    have kg4_1 : wr.cell? ⟨g4, 1, none⟩ = some (.slice none 0 0) := H.cell m0 1
    have zg4_1 := H.frozen (g := g4) m0 1
    have kg3_0 : wr.cell? ⟨g3, 0, none⟩ = some (.bool (ng y)) := H.cell m1 0
    have zg3_0 := H.frozen (g := g3) m1 0
    have kg3_1 : wr.cell? ⟨g3, 1, none⟩ = some (.slice Ay (ln y) cy) := H.cell m1 1
    have zg3_1 := H.frozen (g := g3) m1 1
    have kg2_0 : wr.cell? ⟨g2, 0, none⟩ = some (.bool (ng x)) := H.cell m2 0
    have zg2_0 := H.frozen (g := g2) m2 0
    have kg2_1 : wr.cell? ⟨g2, 1, none⟩ = some (.slice Ax (ln x) cx) := H.cell m2 1
    have zg2_1 := H.frozen (g := g2) m2 1
    by_cases hy : y = 0
    · have hfin := Aside0.mk (show x = r0 by rw [← R0.out]; exact hI.out.done hy)
      have hs := Aside0.mk (show sg y = 0 by rw [hy]; rfl)
      clear hy ih
      show Code.wp _ _ _ _ _
      have st2 := trivial
      go_wp2_with (first
        | (clear st2; go_at_call 25; (with_reducible refine (SignQ _ _ _ (lim bY.out (by decide)) 0 hs.out).mono ?_); rintro e w1 ⟨rfl, hb⟩; replace H := H.call hb; clear hb; clear kg4_0 zg4_0 kg4_1 zg4_1 kg3_0 zg3_0 kg3_1 zg3_1 kg2_0 zg2_0 kg2_1 zg2_1; have kg4_0 : w1.cell? ⟨g4, 0, none⟩ = some (.bool false) := H.cell m0 0; have zg4_0 := H.frozen (g := g4) m0 0; have kg4_1 : w1.cell? ⟨g4, 1, none⟩ = some (.slice none 0 0) := H.cell m0 1; have zg4_1 := H.frozen (g := g4) m0 1; have kg3_0 : w1.cell? ⟨g3, 0, none⟩ = some (.bool (ng y)) := H.cell m1 0; have zg3_0 := H.frozen (g := g3) m1 0; have kg3_1 : w1.cell? ⟨g3, 1, none⟩ = some (.slice Ay (ln y) cy) := H.cell m1 1; have zg3_1 := H.frozen (g := g3) m1 1; have kg2_0 : w1.cell? ⟨g2, 0, none⟩ = some (.bool (ng x)) := H.cell m2 0; have zg2_0 := H.frozen (g := g2) m2 0; have kg2_1 : w1.cell? ⟨g2, 1, none⟩ = some (.slice Ax (ln x) cx) := H.cell m2 1; have zg2_1 := H.frozen (g := g2) m2 1))
      replace H := ((H.setn [] 0 (.bool (ng x)) rfl).setn [] 1 (.slice Ax (ln x) cx) rfl)
      obtain rfl := hfin.out
      refine bodyPost_ret (results_cell_row rfl _ _ g4 25 #[.bool (ng x), .slice Ax (ln x) cx] (0, 0) _ rfl (H.blk m0) Try.underlying25 rfl (by kernel_rfl)) rfl ?_
      exact ⟨Ax, cx, rfl, H.ret m1, H.below⟩
    · obtain ⟨q, hq⟩ : ∃ v : Int, x.tdiv y = v := ⟨_, rfl⟩
      obtain ⟨r, hr'⟩ : ∃ v : Int, x.tmod y = v := ⟨_, rfl⟩
      obtain ⟨nI, hlt⟩ := hI.out.next hy hr'
      obtain ⟨sy, hsy⟩ : ∃ v : Int, sg y = v := ⟨_, rfl⟩
      have hsy0 : sy ≠ 0 := by rw [← hsy]; unfold sg; repeat' split <;> omega
      have d3 : (sy == 0) = false := beq_eq_false_iff_ne.mpr hsy0
      have nI := Aside0.mk nI
      have hlt := Aside0.mk hlt
      have hq := Aside0.mk hq
      have hr' := Aside0.mk hr'
      have hs := Aside0.mk hsy
      have hy0 := Aside0.mk hy
      clear hy hsy hsy0
      show Code.wp _ _ _ _ _
      have st4 := trivial
      have st10 := trivial
      have st12 := trivial
      have st14 := trivial
      go_upto_region 4 with (first
        | (clear st4; go_at_call 25; (with_reducible refine (SignQ _ _ _ (lim bY.out (by decide)) sy hs.out).mono ?_); rintro e w3 ⟨rfl, hb⟩; replace H := H.call hb; clear hb; clear kg4_0 zg4_0 kg4_1 zg4_1 kg3_0 zg3_0 kg3_1 zg3_1 kg2_0 zg2_0 kg2_1 zg2_1; have kg4_0 : w3.cell? ⟨g4, 0, none⟩ = some (.bool false) := H.cell m0 0; have zg4_0 := H.frozen (g := g4) m0 0; have kg4_1 : w3.cell? ⟨g4, 1, none⟩ = some (.slice none 0 0) := H.cell m0 1; have zg4_1 := H.frozen (g := g4) m0 1; have kg3_0 : w3.cell? ⟨g3, 0, none⟩ = some (.bool (ng y)) := H.cell m1 0; have zg3_0 := H.frozen (g := g3) m1 0; have kg3_1 : w3.cell? ⟨g3, 1, none⟩ = some (.slice Ay (ln y) cy) := H.cell m1 1; have zg3_1 := H.frozen (g := g3) m1 1; have kg2_0 : w3.cell? ⟨g2, 0, none⟩ = some (.bool (ng x)) := H.cell m2 0; have zg2_0 := H.frozen (g := g2) m2 0; have kg2_1 : w3.cell? ⟨g2, 1, none⟩ = some (.slice Ax (ln x) cx) := H.cell m2 1; have zg2_1 := H.frozen (g := g2) m2 1)
        | (clear st10; go_at_call 32; (with_reducible refine (DivQ (H.row _ m1) (H.row _ m0) bX.out bY.out hy0.out q r hq.out hr'.out).mono ?_); rintro e w5 ⟨A6, c7, A8, c9, rfl, hr, hr2, hb⟩; replace H := (H.got hr hb).more ((H.got hr2 hb).row _ m0); clear hr hr2 hb; clear kg4_0 zg4_0 kg4_1 zg4_1 kg3_0 zg3_0 kg3_1 zg3_1 kg2_0 zg2_0 kg2_1 zg2_1; have kg4_0 : w5.cell? ⟨g4, 0, none⟩ = some (.bool false) := H.cell m0 0; have zg4_0 := H.frozen (g := g4) m0 0; have kg4_1 : w5.cell? ⟨g4, 1, none⟩ = some (.slice none 0 0) := H.cell m0 1; have zg4_1 := H.frozen (g := g4) m0 1; have kg3_0 : w5.cell? ⟨g3, 0, none⟩ = some (.bool (ng y)) := H.cell m1 0; have zg3_0 := H.frozen (g := g3) m1 0; have kg3_1 : w5.cell? ⟨g3, 1, none⟩ = some (.slice Ay (ln y) cy) := H.cell m1 1; have zg3_1 := H.frozen (g := g3) m1 1; have kg2_0 : w5.cell? ⟨g2, 0, none⟩ = some (.bool (ng x)) := H.cell m2 0; have zg2_0 := H.frozen (g := g2) m2 0; have kg2_1 : w5.cell? ⟨g2, 1, none⟩ = some (.slice Ax (ln x) cx) := H.cell m2 1; have zg2_1 := H.frozen (g := g2) m2 1)
        | (clear st12; (with_reducible refine gate_dst (N := 5) rfl ?_); refine bE #[.bool false, .slice none 0 0] 25 H ?_; clear H; intro g5 w11 H; clear kg4_0 zg4_0 kg4_1 zg4_1 kg3_0 zg3_0 kg3_1 zg3_1 kg2_0 zg2_0 kg2_1 zg2_1; have kg5_0 : w11.cell? ⟨g5, 0, none⟩ = some (.bool false) := H.cell m0 0; have zg5_0 := H.frozen (g := g5) m0 0; have kg5_1 : w11.cell? ⟨g5, 1, none⟩ = some (.slice none 0 0) := H.cell m0 1; have zg5_1 := H.frozen (g := g5) m0 1; have kg4_0 : w11.cell? ⟨g4, 0, none⟩ = some (.bool false) := H.cell m1 0; have zg4_0 := H.frozen (g := g4) m1 0; have kg4_1 : w11.cell? ⟨g4, 1, none⟩ = some (.slice none 0 0) := H.cell m1 1; have zg4_1 := H.frozen (g := g4) m1 1; have kg3_0 : w11.cell? ⟨g3, 0, none⟩ = some (.bool (ng y)) := H.cell m2 0; have zg3_0 := H.frozen (g := g3) m2 0; have kg3_1 : w11.cell? ⟨g3, 1, none⟩ = some (.slice Ay (ln y) cy) := H.cell m2 1; have zg3_1 := H.frozen (g := g3) m2 1; have kg2_0 : w11.cell? ⟨g2, 0, none⟩ = some (.bool (ng x)) := H.cell m3 0; have zg2_0 := H.frozen (g := g2) m3 0; have kg2_1 : w11.cell? ⟨g2, 1, none⟩ = some (.slice Ax (ln x) cx) := H.cell m3 1; have zg2_1 := H.frozen (g := g2) m3 1; have ne_g5_g4 := H.ne (g := g5) (g' := g4) 0 1 rfl rfl (by decide); have ne_g4_g5 := ne_g5_g4.symm; have ne_g5_g3 := H.ne (g := g5) (g' := g3) 0 2 rfl rfl (by decide); have ne_g3_g5 := ne_g5_g3.symm; have ne_g5_g2 := H.ne (g := g5) (g' := g2) 0 3 rfl rfl (by decide); have ne_g2_g5 := ne_g5_g2.symm)
        | (clear st14; (with_reducible refine gate_dst (N := 6) rfl ?_); refine bE #[.bool false, .slice none 0 0] 25 H ?_; clear H; intro g6 w13 H; clear kg5_0 zg5_0 kg5_1 zg5_1 kg4_0 zg4_0 kg4_1 zg4_1 kg3_0 zg3_0 kg3_1 zg3_1 kg2_0 zg2_0 kg2_1 zg2_1; have kg6_0 : w13.cell? ⟨g6, 0, none⟩ = some (.bool false) := H.cell m0 0; have zg6_0 := H.frozen (g := g6) m0 0; have kg6_1 : w13.cell? ⟨g6, 1, none⟩ = some (.slice none 0 0) := H.cell m0 1; have zg6_1 := H.frozen (g := g6) m0 1; have kg5_0 : w13.cell? ⟨g5, 0, none⟩ = some (.bool false) := H.cell m1 0; have zg5_0 := H.frozen (g := g5) m1 0; have kg5_1 : w13.cell? ⟨g5, 1, none⟩ = some (.slice none 0 0) := H.cell m1 1; have zg5_1 := H.frozen (g := g5) m1 1; have kg4_0 : w13.cell? ⟨g4, 0, none⟩ = some (.bool false) := H.cell m2 0; have zg4_0 := H.frozen (g := g4) m2 0; have kg4_1 : w13.cell? ⟨g4, 1, none⟩ = some (.slice none 0 0) := H.cell m2 1; have zg4_1 := H.frozen (g := g4) m2 1; have kg3_0 : w13.cell? ⟨g3, 0, none⟩ = some (.bool (ng y)) := H.cell m3 0; have zg3_0 := H.frozen (g := g3) m3 0; have kg3_1 : w13.cell? ⟨g3, 1, none⟩ = some (.slice Ay (ln y) cy) := H.cell m3 1; have zg3_1 := H.frozen (g := g3) m3 1; have kg2_0 : w13.cell? ⟨g2, 0, none⟩ = some (.bool (ng x)) := H.cell m4 0; have zg2_0 := H.frozen (g := g2) m4 0; have kg2_1 : w13.cell? ⟨g2, 1, none⟩ = some (.slice Ax (ln x) cx) := H.cell m4 1; have zg2_1 := H.frozen (g := g2) m4 1; have ne_g6_g5 := H.ne (g := g6) (g' := g5) 0 1 rfl rfl (by decide); have ne_g5_g6 := ne_g6_g5.symm; have ne_g6_g4 := H.ne (g := g6) (g' := g4) 0 2 rfl rfl (by decide); have ne_g4_g6 := ne_g6_g4.symm; have ne_g6_g3 := H.ne (g := g6) (g' := g3) 0 3 rfl rfl (by decide); have ne_g3_g6 := ne_g6_g3.symm; have ne_g6_g2 := H.ne (g := g6) (g' := g2) 0 4 rfl rfl (by decide); have ne_g2_g6 := ne_g6_g2.symm))
      (try simp only [nn])
      replace H := ((((H.setn [_] 0 (.bool (ng q)) rfl).setn [_] 1 (.slice A6 (ln q) c7) rfl).setn [] 0 (.bool (ng r)) rfl).setn [] 1 (.slice A8 (ln r) c9) rfl)
      clear kg6_0 zg6_0 kg6_1 zg6_1 kg5_0 zg5_0 kg5_1 zg5_1 kg4_0 zg4_0 kg4_1 zg4_1 kg3_0 zg3_0 kg3_1 zg3_1 kg2_0 zg2_0 kg2_1 zg2_1
      generalize ((((w13.setCell ⟨g5, 0, none⟩ (.bool (ng q))).setCell ⟨g5, 1, none⟩ (.slice A6 (ln q) c7)).setCell ⟨g6, 0, none⟩ (.bool (ng r))).setCell ⟨g6, 1, none⟩ (.slice A8 (ln r) c9)) = w15 at H ⊢
      have kg6_0 : w15.cell? ⟨g6, 0, none⟩ = some (.bool (ng r)) := H.cell m0 0
      have zg6_0 := H.frozen (g := g6) m0 0
      have kg6_1 : w15.cell? ⟨g6, 1, none⟩ = some (.slice A8 (ln r) c9) := H.cell m0 1
      have zg6_1 := H.frozen (g := g6) m0 1
      have kg5_0 : w15.cell? ⟨g5, 0, none⟩ = some (.bool (ng q)) := H.cell m1 0
      have zg5_0 := H.frozen (g := g5) m1 0
      have kg5_1 : w15.cell? ⟨g5, 1, none⟩ = some (.slice A6 (ln q) c7) := H.cell m1 1
      have zg5_1 := H.frozen (g := g5) m1 1
      have kg4_0 : w15.cell? ⟨g4, 0, none⟩ = some (.bool false) := H.cell m2 0
      have zg4_0 := H.frozen (g := g4) m2 0
      have kg4_1 : w15.cell? ⟨g4, 1, none⟩ = some (.slice none 0 0) := H.cell m2 1
      have zg4_1 := H.frozen (g := g4) m2 1
      have kg3_0 : w15.cell? ⟨g3, 0, none⟩ = some (.bool (ng y)) := H.cell m3 0
      have zg3_0 := H.frozen (g := g3) m3 0
      have kg3_1 : w15.cell? ⟨g3, 1, none⟩ = some (.slice Ay (ln y) cy) := H.cell m3 1
      have zg3_1 := H.frozen (g := g3) m3 1
      have kg2_0 : w15.cell? ⟨g2, 0, none⟩ = some (.bool (ng x)) := H.cell m4 0
      have zg2_0 := H.frozen (g := g2) m4 0
      have kg2_1 : w15.cell? ⟨g2, 1, none⟩ = some (.slice Ax (ln x) cx) := H.cell m4 1
      have zg2_1 := H.frozen (g := g2) m4 1
      clear kg6_0 zg6_0 kg6_1 zg6_1 kg5_0 zg5_0 kg5_1 zg5_1 kg4_0 zg4_0 kg4_1 zg4_1 kg3_0 zg3_0 kg3_1 zg3_1 kg2_0 zg2_0 kg2_1 zg2_1
      replace H := H.drew
      refine start_ (n := 4) (S := fun w' => w'.cell? ⟨g3, 0, none⟩ = some (.bool (ng y)) ∧ w'.cell? ⟨g3, 1, none⟩ = some (.slice Ay (ln y) cy) ∧ w'.cell? ⟨g6, 0, none⟩ = some (.bool (ng r)) ∧ w'.cell? ⟨g6, 1, none⟩ = some (.slice A8 (ln r) c9)) (ds := [3]) #[false, false, false, false] (by kernel_rfl) rfl rfl (H.c2 m3 (H.d2 m0)) (fun hQ => ?_)
      generalize w15.drew = w16 at H hQ ⊢
      refine tU hQ 0 20 (bm 4 1) ?_
      refine tU hQ 1 21 (bm 4 3) ?_
      refine oU0 2 (bm 4 7) (fun K hK => ?_)
      have kg6_0 : w16.cell? ⟨g6, 0, none⟩ = some (.bool (ng r)) := H.cell m0 0
      have zg6_0 := H.frozen (g := g6) m0 0
      have kg6_1 : w16.cell? ⟨g6, 1, none⟩ = some (.slice A8 (ln r) c9) := H.cell m0 1
      have zg6_1 := H.frozen (g := g6) m0 1
      have kg3_0 : w16.cell? ⟨g3, 0, none⟩ = some (.bool (ng y)) := H.cell m3 0
      have zg3_0 := H.frozen (g := g3) m3 0
      have kg3_1 : w16.cell? ⟨g3, 1, none⟩ = some (.slice Ay (ln y) cy) := H.cell m3 1
      have zg3_1 := H.frozen (g := g3) m3 1
      have kg2_0 : w16.cell? ⟨g2, 0, none⟩ = some (.bool (ng x)) := H.cell m4 0
      have zg2_0 := H.frozen (g := g2) m4 0
      have kg2_1 : w16.cell? ⟨g2, 1, none⟩ = some (.slice Ax (ln x) cx) := H.cell m4 1
      have zg2_1 := H.frozen (g := g2) m4 1
      refine kT ?_
      replace H := ((H.setn [_, _, _, _] 0 (.bool (ng y)) rfl).setn [_, _, _, _] 1 (.slice Ay (ln y) cy) rfl)
      clear kg6_0 zg6_0 kg6_1 zg6_1 kg3_0 zg3_0 kg3_1 zg3_1 kg2_0 zg2_0 kg2_1 zg2_1
      generalize ((w16.setCell ⟨g2, 0, none⟩ (.bool (ng y))).setCell ⟨g2, 1, none⟩ (.slice Ay (ln y) cy)) = w17 at H ⊢
      refine hK.out _ _ (H.c2 m3 (H.d2 m0)) (fun hQ => ?_)
      clear hK K
      refine lU 3 (bm 4 15) (fun K hK => ?_)
      have kg6_0 : w17.cell? ⟨g6, 0, none⟩ = some (.bool (ng r)) := H.cell m0 0
      have zg6_0 := H.frozen (g := g6) m0 0
      have kg6_1 : w17.cell? ⟨g6, 1, none⟩ = some (.slice A8 (ln r) c9) := H.cell m0 1
      have zg6_1 := H.frozen (g := g6) m0 1
      have kg3_0 : w17.cell? ⟨g3, 0, none⟩ = some (.bool (ng y)) := H.cell m3 0
      have zg3_0 := H.frozen (g := g3) m3 0
      have kg3_1 : w17.cell? ⟨g3, 1, none⟩ = some (.slice Ay (ln y) cy) := H.cell m3 1
      have zg3_1 := H.frozen (g := g3) m3 1
      refine kT ?_
      refine hK.out _ _ ?_
      clear hK K
      refine done_ (by kernel_rfl) ?_
      try clear hQ
      replace H := ((H.setn [_, _, _] 0 (.bool (ng r)) rfl).setn [_, _, _] 1 (.slice A8 (ln r) c9) rfl)
      go_wp2
      refine ih _ _ _ _ _ _ _ _ _ _ _ _ _ _ _ _ _ y r Ay cy A8 c9 _ nI.out (Nat.lt_of_lt_of_le hlt.out (Nat.le_of_lt_succ hN)) (H.fewer ?_ ?_)
      · exact .cons _ (.cons _ (List.Sublist.refl _))
      · intro f hf; rcases List.mem_cons.mp hf with rfl | hf; exact m0; rcases List.mem_cons.mp hf with rfl | hf; exact m2; cases hf

end Go.Proofs.Ytdkapdgbfejgdaa
