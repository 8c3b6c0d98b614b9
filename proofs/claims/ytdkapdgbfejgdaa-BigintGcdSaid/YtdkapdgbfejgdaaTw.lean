/- ontimelaw01.two and abs. -/
import Derived.Test.YtdkapdgbfejgdaaAw
namespace Go.Proofs.Ytdkapdgbfejgdaa
open Go.RowKit Go.Proofs.YtdkapdgbfejgdaaW.PrintWords Go.Proofs.YtdkapdgbfejgdaaW.PrintLast Go.Proofs.YtdkapdgbfejgdaaW.PrintMore
set_option linter.unusedSimpArgs false
set_option linter.unusedVariables false

set_option maxHeartbeats 8000000 in
set_option maxRecDepth 100000 in
theorem Abs_neg {A : Option Addr} {c : Nat} {m : Int} {w : World} {ok : Nat → Prop} (hf : (bw A c m).at w ok) (hm : ln m ≤ 10000000) (r : Int) (hr : Aside0 (-m = r)) (hs : Aside0 (sg m = -1)) : Calls Try.prog 35 #[.agg #[.bool (ng m), .slice A (ln m) c]] w (RetI w ok r) := by
  have hu25 := Try.underlying25
  have H := (Sit.start w ok).arg hf
  have hA := Aside0.mk hf
  clear hf hA
  have bm := Aside0.mk hm
  clear hm
  go_enter Try.func35, Try.ntmps35
  have st2 := trivial
  have st4 := trivial
  have st6 := trivial
  have st10 := trivial
  go_wp2_with (first
    | (clear st2; (with_reducible refine gate_dst (N := 1) rfl ?_); refine box_event ?hg (N := 1) ?hd (cs := #[.bool (ng m), .slice A (ln m) c]) (t := 25) ?hr ?_; (case hd => rfl); (case hg => rfl); (case hr => first | (go_simp; done) | (go_simp; rfl)); intro g1 hg w1 hbox hb; replace H := H.newbox hg hbox hb; clear hg hbox hb; have kg1_0 : w1.cell? ⟨g1, 0, none⟩ = some (.bool (ng m)) := H.cell m0 0; have zg1_0 := H.frozen (g := g1) m0 0; have kg1_1 : w1.cell? ⟨g1, 1, none⟩ = some (.slice A (ln m) c) := H.cell m0 1; have zg1_1 := H.frozen (g := g1) m0 1)
    | (clear st4; (with_reducible refine gate_dst (N := 2) rfl ?_); refine box_event ?hg (N := 2) ?hd (cs := #[.bool false, .slice none 0 0]) (t := 25) ?hr ?_; (case hd => rfl); (case hg => rfl); (case hr => first | (go_simp; done) | (go_simp; rfl)); intro g2 hg w3 hbox hb; replace H := H.newbox hg hbox hb; clear hg hbox hb; clear kg1_0 zg1_0 kg1_1 zg1_1; have kg2_0 : w3.cell? ⟨g2, 0, none⟩ = some (.bool false) := H.cell m0 0; have zg2_0 := H.frozen (g := g2) m0 0; have kg2_1 : w3.cell? ⟨g2, 1, none⟩ = some (.slice none 0 0) := H.cell m0 1; have zg2_1 := H.frozen (g := g2) m0 1; have kg1_0 : w3.cell? ⟨g1, 0, none⟩ = some (.bool (ng m)) := H.cell m1 0; have zg1_0 := H.frozen (g := g1) m1 0; have kg1_1 : w3.cell? ⟨g1, 1, none⟩ = some (.slice A (ln m) c) := H.cell m1 1; have zg1_1 := H.frozen (g := g1) m1 1; have ne_g2_g1 := H.ne (g := g2) (g' := g1) 0 1 rfl rfl (by decide); have ne_g1_g2 := ne_g2_g1.symm)
    | (clear st6; go_at_call 25; (with_reducible refine (SignQ _ _ _ (lim bm.out (by decide)) (-1) hs.out).mono ?_); rintro e w5 ⟨rfl, hb⟩; replace H := H.call hb; clear hb; clear kg2_0 zg2_0 kg2_1 zg2_1 kg1_0 zg1_0 kg1_1 zg1_1; have kg2_0 : w5.cell? ⟨g2, 0, none⟩ = some (.bool false) := H.cell m0 0; have zg2_0 := H.frozen (g := g2) m0 0; have kg2_1 : w5.cell? ⟨g2, 1, none⟩ = some (.slice none 0 0) := H.cell m0 1; have zg2_1 := H.frozen (g := g2) m0 1; have kg1_0 : w5.cell? ⟨g1, 0, none⟩ = some (.bool (ng m)) := H.cell m1 0; have zg1_0 := H.frozen (g := g1) m1 0; have kg1_1 : w5.cell? ⟨g1, 1, none⟩ = some (.slice A (ln m) c) := H.cell m1 1; have zg1_1 := H.frozen (g := g1) m1 1)
    | (clear st10; go_at_call 37; (with_reducible refine (NegQ (H.row _ m0) (lim bm.out (by decide)) r hr.out).mono ?_); rintro e w7 ⟨A8, c9, rfl, hr, hb⟩; replace H := H.got hr hb; clear hr hb; clear kg2_0 zg2_0 kg2_1 zg2_1 kg1_0 zg1_0 kg1_1 zg1_1; have kg2_0 : w7.cell? ⟨g2, 0, none⟩ = some (.bool false) := H.cell m0 0; have zg2_0 := H.frozen (g := g2) m0 0; have kg2_1 : w7.cell? ⟨g2, 1, none⟩ = some (.slice none 0 0) := H.cell m0 1; have zg2_1 := H.frozen (g := g2) m0 1; have kg1_0 : w7.cell? ⟨g1, 0, none⟩ = some (.bool (ng m)) := H.cell m1 0; have zg1_0 := H.frozen (g := g1) m1 0; have kg1_1 : w7.cell? ⟨g1, 1, none⟩ = some (.slice A (ln m) c) := H.cell m1 1; have zg1_1 := H.frozen (g := g1) m1 1))
  replace H := ((H.setn [] 0 (.bool (ng r)) rfl).setn [] 1 (.slice A8 (ln r) c9) rfl)
  refine bodyPost_ret (results_cell_row rfl _ _ g2 25 #[.bool (ng r), .slice A8 (ln r) c9] (0, 0) _ rfl (H.blk m0) Try.underlying25 rfl (by kernel_rfl)) rfl ?_
  exact ⟨A8, c9, rfl, H.ret m0, H.below⟩

set_option maxHeartbeats 8000000 in
set_option maxRecDepth 100000 in
theorem Abs_pos {A : Option Addr} {c : Nat} {m : Int} {w : World} {ok : Nat → Prop} (hf : (bw A c m).at w ok) (hm : ln m ≤ 10000000) (r : Int) (hr : Aside0 (m = r)) (s : Int) (s0 : decide (s < 0) = false) (hs : Aside0 (sg m = s)) : Calls Try.prog 35 #[.agg #[.bool (ng m), .slice A (ln m) c]] w (RetI w ok r) := by
  have hu25 := Try.underlying25
  have H := (Sit.start w ok).arg hf
  have hA := Aside0.mk hf
  clear hf hA
  have bm := Aside0.mk hm
  clear hm
  go_enter Try.func35, Try.ntmps35
  have st2 := trivial
  have st4 := trivial
  have st6 := trivial
  go_wp2_with (first
    | (clear st2; (with_reducible refine gate_dst (N := 1) rfl ?_); refine box_event ?hg (N := 1) ?hd (cs := #[.bool (ng m), .slice A (ln m) c]) (t := 25) ?hr ?_; (case hd => rfl); (case hg => rfl); (case hr => first | (go_simp; done) | (go_simp; rfl)); intro g1 hg w1 hbox hb; replace H := H.newbox hg hbox hb; clear hg hbox hb; have kg1_0 : w1.cell? ⟨g1, 0, none⟩ = some (.bool (ng m)) := H.cell m0 0; have zg1_0 := H.frozen (g := g1) m0 0; have kg1_1 : w1.cell? ⟨g1, 1, none⟩ = some (.slice A (ln m) c) := H.cell m0 1; have zg1_1 := H.frozen (g := g1) m0 1)
    | (clear st4; (with_reducible refine gate_dst (N := 2) rfl ?_); refine box_event ?hg (N := 2) ?hd (cs := #[.bool false, .slice none 0 0]) (t := 25) ?hr ?_; (case hd => rfl); (case hg => rfl); (case hr => first | (go_simp; done) | (go_simp; rfl)); intro g2 hg w3 hbox hb; replace H := H.newbox hg hbox hb; clear hg hbox hb; clear kg1_0 zg1_0 kg1_1 zg1_1; have kg2_0 : w3.cell? ⟨g2, 0, none⟩ = some (.bool false) := H.cell m0 0; have zg2_0 := H.frozen (g := g2) m0 0; have kg2_1 : w3.cell? ⟨g2, 1, none⟩ = some (.slice none 0 0) := H.cell m0 1; have zg2_1 := H.frozen (g := g2) m0 1; have kg1_0 : w3.cell? ⟨g1, 0, none⟩ = some (.bool (ng m)) := H.cell m1 0; have zg1_0 := H.frozen (g := g1) m1 0; have kg1_1 : w3.cell? ⟨g1, 1, none⟩ = some (.slice A (ln m) c) := H.cell m1 1; have zg1_1 := H.frozen (g := g1) m1 1; have ne_g2_g1 := H.ne (g := g2) (g' := g1) 0 1 rfl rfl (by decide); have ne_g1_g2 := ne_g2_g1.symm)
    | (clear st6; go_at_call 25; (with_reducible refine (SignQ _ _ _ (lim bm.out (by decide)) s hs.out).mono ?_); rintro e w5 ⟨rfl, hb⟩; replace H := H.call hb; clear hb; clear kg2_0 zg2_0 kg2_1 zg2_1 kg1_0 zg1_0 kg1_1 zg1_1; have kg2_0 : w5.cell? ⟨g2, 0, none⟩ = some (.bool false) := H.cell m0 0; have zg2_0 := H.frozen (g := g2) m0 0; have kg2_1 : w5.cell? ⟨g2, 1, none⟩ = some (.slice none 0 0) := H.cell m0 1; have zg2_1 := H.frozen (g := g2) m0 1; have kg1_0 : w5.cell? ⟨g1, 0, none⟩ = some (.bool (ng m)) := H.cell m1 0; have zg1_0 := H.frozen (g := g1) m1 0; have kg1_1 : w5.cell? ⟨g1, 1, none⟩ = some (.slice A (ln m) c) := H.cell m1 1; have zg1_1 := H.frozen (g := g1) m1 1))
  replace H := ((H.setn [] 0 (.bool (ng m)) rfl).setn [] 1 (.slice A (ln m) c) rfl)
  obtain rfl := hr.out
  refine bodyPost_ret (results_cell_row rfl _ _ g2 25 #[.bool (ng m), .slice A (ln m) c] (0, 0) _ rfl (H.blk m0) Try.underlying25 rfl (by kernel_rfl)) rfl ?_
  exact ⟨A, c, rfl, H.ret m0, H.below⟩

theorem AbsQ {A : Option Addr} {c : Nat} {m : Int} {w : World} {ok : Nat → Prop} (hf : (bw A c m).at w ok) (hm : ln m ≤ 10000000) (r : Int) (h : (m.natAbs : Int) = r) : Calls Try.prog 35 #[.agg #[.bool (ng m), .slice A (ln m) c]] w (RetI w ok r) := by
  by_cases h0 : m < 0
  · exact Abs_neg hf hm r ⟨by omega⟩ ⟨by unfold sg; rw [if_pos h0]⟩
  · refine Abs_pos hf hm r ⟨by omega⟩ (sg m) (decide_eq_false ?_) ⟨rfl⟩
    unfold sg
    rw [if_neg h0]
    split <;> omega

/-- It returns two fresh integers and whether both are there. -/
def RetTwo (w : World) (x y : Int) (b : Bool) (e : Ending) (w' : World) : Prop :=
  ∃ A c A' c', e = .returned (.tuple #[.agg #[.bool (ng x), .slice A (ln x) c], .agg #[.bool (ng y), .slice A' (ln y) c'], .bool b]) ∧
    (bw A c x).at w' (fun k => w.heap.size ≤ k) ∧ (bw A' c' y).at w' (fun k => w.heap.size ≤ k) ∧ Below w.heap.size w w'

set_option maxHeartbeats 8000000 in
set_option maxRecDepth 100000 in
theorem two_a (a b : ByteArray) (w : World) (ha : 80 < a.size) : Calls Try.prog 33 #[.string a, .string b] w (RetTwo w 0 0 false) := by
  have hu25 := Try.underlying25
  have H := (Sit.start w (fun _ => False)).nilrow
  have da : decide (80 < (a.size : Int)) = true := decide_eq_true (by omega)
  have ea : decide (80 < a.size) = true := decide_eq_true (by omega)
  clear ha
  go_enter Try.func33, Try.ntmps33
  have st2 := trivial
  have st4 := trivial
  go_upto_region 2 with (first
    | (clear st2; (with_reducible refine gate_dst (N := 4) rfl ?_); refine box_event ?hg (N := 4) ?hd (cs := #[.bool false, .slice none 0 0]) (t := 25) ?hr ?_; (case hd => rfl); (case hg => rfl); (case hr => first | (go_simp; done) | (go_simp; rfl)); intro g4 hg w1 hbox hb; replace H := H.newbox hg hbox hb; clear hg hbox hb; have kg4_0 : w1.cell? ⟨g4, 0, none⟩ = some (.bool false) := H.cell m0 0; have zg4_0 := H.frozen (g := g4) m0 0; have kg4_1 : w1.cell? ⟨g4, 1, none⟩ = some (.slice none 0 0) := H.cell m0 1; have zg4_1 := H.frozen (g := g4) m0 1)
    | (clear st4; (with_reducible refine gate_dst (N := 5) rfl ?_); refine box_event ?hg (N := 5) ?hd (cs := #[.bool false, .slice none 0 0]) (t := 25) ?hr ?_; (case hd => rfl); (case hg => rfl); (case hr => first | (go_simp; done) | (go_simp; rfl)); intro g5 hg w3 hbox hb; replace H := H.newbox hg hbox hb; clear hg hbox hb; clear kg4_0 zg4_0 kg4_1 zg4_1; have kg5_0 : w3.cell? ⟨g5, 0, none⟩ = some (.bool false) := H.cell m0 0; have zg5_0 := H.frozen (g := g5) m0 0; have kg5_1 : w3.cell? ⟨g5, 1, none⟩ = some (.slice none 0 0) := H.cell m0 1; have zg5_1 := H.frozen (g := g5) m0 1; have kg4_0 : w3.cell? ⟨g4, 0, none⟩ = some (.bool false) := H.cell m1 0; have zg4_0 := H.frozen (g := g4) m1 0; have kg4_1 : w3.cell? ⟨g4, 1, none⟩ = some (.slice none 0 0) := H.cell m1 1; have zg4_1 := H.frozen (g := g4) m1 1; have ne_g5_g4 := H.ne (g := g5) (g' := g4) 0 1 rfl rfl (by decide); have ne_g4_g5 := ne_g5_g4.symm))
  (try simp only [Act.put, List.setIfInBounds_toArray, List.set_cons_zero, List.set_cons_succ])
  go_region_held3 (fun w' => w'.cell? ⟨g4, 0, none⟩ = some (.bool false) ∧ w'.cell? ⟨g4, 1, none⟩ = some (.slice none 0 0) ∧ w'.cell? ⟨g5, 0, none⟩ = some (.bool false) ∧ w'.cell? ⟨g5, 1, none⟩ = some (.slice none 0 0)) (first | (have q : w3.cell? ⟨g4, 0, none⟩ = some (.bool false) ∧ w3.cell? ⟨g4, 1, none⟩ = some (.slice none 0 0) ∧ w3.cell? ⟨g5, 0, none⟩ = some (.bool false) ∧ w3.cell? ⟨g5, 1, none⟩ = some (.slice none 0 0) := ⟨H.cell m1 0, H.cell m1 1, H.cell m0 0, H.cell m0 1⟩; with_reducible exact q) | (have q : w3.drew.cell? ⟨g4, 0, none⟩ = some (.bool false) ∧ w3.drew.cell? ⟨g4, 1, none⟩ = some (.slice none 0 0) ∧ w3.drew.cell? ⟨g5, 0, none⟩ = some (.bool false) ∧ w3.drew.cell? ⟨g5, 1, none⟩ = some (.slice none 0 0) := ⟨H.drew.cell m1 0, H.drew.cell m1 1, H.drew.cell m0 0, H.drew.cell m0 1⟩; with_reducible exact q) | (have q : (((w3.setCell ⟨g4, 0, none⟩ (.bool false)).setCell ⟨g4, 1, none⟩ (.slice none 0 0))).cell? ⟨g4, 0, none⟩ = some (.bool false) ∧ (((w3.setCell ⟨g4, 0, none⟩ (.bool false)).setCell ⟨g4, 1, none⟩ (.slice none 0 0))).cell? ⟨g4, 1, none⟩ = some (.slice none 0 0) ∧ (((w3.setCell ⟨g4, 0, none⟩ (.bool false)).setCell ⟨g4, 1, none⟩ (.slice none 0 0))).cell? ⟨g5, 0, none⟩ = some (.bool false) ∧ (((w3.setCell ⟨g4, 0, none⟩ (.bool false)).setCell ⟨g4, 1, none⟩ (.slice none 0 0))).cell? ⟨g5, 1, none⟩ = some (.slice none 0 0) := ⟨((H.setn [_] 0 (.bool false) rfl).setn [_] 1 (.slice none 0 0) rfl).cell m1 0, ((H.setn [_] 0 (.bool false) rfl).setn [_] 1 (.slice none 0 0) rfl).cell m1 1, ((H.setn [_] 0 (.bool false) rfl).setn [_] 1 (.slice none 0 0) rfl).cell m0 0, ((H.setn [_] 0 (.bool false) rfl).setn [_] 1 (.slice none 0 0) rfl).cell m0 1⟩; with_reducible exact q) | (have q : (((w3.setCell ⟨g4, 0, none⟩ (.bool false)).setCell ⟨g4, 1, none⟩ (.slice none 0 0))).drew.cell? ⟨g4, 0, none⟩ = some (.bool false) ∧ (((w3.setCell ⟨g4, 0, none⟩ (.bool false)).setCell ⟨g4, 1, none⟩ (.slice none 0 0))).drew.cell? ⟨g4, 1, none⟩ = some (.slice none 0 0) ∧ (((w3.setCell ⟨g4, 0, none⟩ (.bool false)).setCell ⟨g4, 1, none⟩ (.slice none 0 0))).drew.cell? ⟨g5, 0, none⟩ = some (.bool false) ∧ (((w3.setCell ⟨g4, 0, none⟩ (.bool false)).setCell ⟨g4, 1, none⟩ (.slice none 0 0))).drew.cell? ⟨g5, 1, none⟩ = some (.slice none 0 0) := ⟨(((H.setn [_] 0 (.bool false) rfl).setn [_] 1 (.slice none 0 0) rfl)).drew.cell m1 0, (((H.setn [_] 0 (.bool false) rfl).setn [_] 1 (.slice none 0 0) rfl)).drew.cell m1 1, (((H.setn [_] 0 (.bool false) rfl).setn [_] 1 (.slice none 0 0) rfl)).drew.cell m0 0, (((H.setn [_] 0 (.bool false) rfl).setn [_] 1 (.slice none 0 0) rfl)).drew.cell m0 1⟩; with_reducible exact q) | (have q : ((((((w3.setCell ⟨g4, 0, none⟩ (.bool false)).setCell ⟨g4, 1, none⟩ (.slice none 0 0))).setCell ⟨g5, 0, none⟩ (.bool false)).setCell ⟨g5, 1, none⟩ (.slice none 0 0))).cell? ⟨g4, 0, none⟩ = some (.bool false) ∧ ((((((w3.setCell ⟨g4, 0, none⟩ (.bool false)).setCell ⟨g4, 1, none⟩ (.slice none 0 0))).setCell ⟨g5, 0, none⟩ (.bool false)).setCell ⟨g5, 1, none⟩ (.slice none 0 0))).cell? ⟨g4, 1, none⟩ = some (.slice none 0 0) ∧ ((((((w3.setCell ⟨g4, 0, none⟩ (.bool false)).setCell ⟨g4, 1, none⟩ (.slice none 0 0))).setCell ⟨g5, 0, none⟩ (.bool false)).setCell ⟨g5, 1, none⟩ (.slice none 0 0))).cell? ⟨g5, 0, none⟩ = some (.bool false) ∧ ((((((w3.setCell ⟨g4, 0, none⟩ (.bool false)).setCell ⟨g4, 1, none⟩ (.slice none 0 0))).setCell ⟨g5, 0, none⟩ (.bool false)).setCell ⟨g5, 1, none⟩ (.slice none 0 0))).cell? ⟨g5, 1, none⟩ = some (.slice none 0 0) := ⟨((((H.setn [_] 0 (.bool false) rfl).setn [_] 1 (.slice none 0 0) rfl).setn [] 0 (.bool false) rfl).setn [] 1 (.slice none 0 0) rfl).cell m1 0, ((((H.setn [_] 0 (.bool false) rfl).setn [_] 1 (.slice none 0 0) rfl).setn [] 0 (.bool false) rfl).setn [] 1 (.slice none 0 0) rfl).cell m1 1, ((((H.setn [_] 0 (.bool false) rfl).setn [_] 1 (.slice none 0 0) rfl).setn [] 0 (.bool false) rfl).setn [] 1 (.slice none 0 0) rfl).cell m0 0, ((((H.setn [_] 0 (.bool false) rfl).setn [_] 1 (.slice none 0 0) rfl).setn [] 0 (.bool false) rfl).setn [] 1 (.slice none 0 0) rfl).cell m0 1⟩; with_reducible exact q) | (have q : ((((((w3.setCell ⟨g4, 0, none⟩ (.bool false)).setCell ⟨g4, 1, none⟩ (.slice none 0 0))).setCell ⟨g5, 0, none⟩ (.bool false)).setCell ⟨g5, 1, none⟩ (.slice none 0 0))).drew.cell? ⟨g4, 0, none⟩ = some (.bool false) ∧ ((((((w3.setCell ⟨g4, 0, none⟩ (.bool false)).setCell ⟨g4, 1, none⟩ (.slice none 0 0))).setCell ⟨g5, 0, none⟩ (.bool false)).setCell ⟨g5, 1, none⟩ (.slice none 0 0))).drew.cell? ⟨g4, 1, none⟩ = some (.slice none 0 0) ∧ ((((((w3.setCell ⟨g4, 0, none⟩ (.bool false)).setCell ⟨g4, 1, none⟩ (.slice none 0 0))).setCell ⟨g5, 0, none⟩ (.bool false)).setCell ⟨g5, 1, none⟩ (.slice none 0 0))).drew.cell? ⟨g5, 0, none⟩ = some (.bool false) ∧ ((((((w3.setCell ⟨g4, 0, none⟩ (.bool false)).setCell ⟨g4, 1, none⟩ (.slice none 0 0))).setCell ⟨g5, 0, none⟩ (.bool false)).setCell ⟨g5, 1, none⟩ (.slice none 0 0))).drew.cell? ⟨g5, 1, none⟩ = some (.slice none 0 0) := ⟨(((((H.setn [_] 0 (.bool false) rfl).setn [_] 1 (.slice none 0 0) rfl).setn [] 0 (.bool false) rfl).setn [] 1 (.slice none 0 0) rfl)).drew.cell m1 0, (((((H.setn [_] 0 (.bool false) rfl).setn [_] 1 (.slice none 0 0) rfl).setn [] 0 (.bool false) rfl).setn [] 1 (.slice none 0 0) rfl)).drew.cell m1 1, (((((H.setn [_] 0 (.bool false) rfl).setn [_] 1 (.slice none 0 0) rfl).setn [] 0 (.bool false) rfl).setn [] 1 (.slice none 0 0) rfl)).drew.cell m0 0, (((((H.setn [_] 0 (.bool false) rfl).setn [_] 1 (.slice none 0 0) rfl).setn [] 0 (.bool false) rfl).setn [] 1 (.slice none 0 0) rfl)).drew.cell m0 1⟩; with_reducible exact q) | fail) (fail)
  try go_wp2
  replace H := ((((H.setn [_] 0 (.bool false) rfl).setn [_] 1 (.slice none 0 0) rfl).setn [] 0 (.bool false) rfl).setn [] 1 (.slice none 0 0) rfl).drew
  refine bodyPost_ret (results_list (rs := [.cell 4 25, .cell 5 25, .tmp 6]) rfl (by simp) (.cell g4 25 #[.bool false, .slice none 0 0] (0, 0) _ rfl (H.blk m1) Try.underlying25 rfl (by kernel_rfl) (.cell g5 25 #[.bool false, .slice none 0 0] (0, 0) _ rfl (H.blk m0) Try.underlying25 rfl (by kernel_rfl) (.tmp .nil)))) rfl ?_
  exact ⟨none, 0, none, 0, rfl, (H.ret m0).mono (fun k hk => hk.resolve_left id), (H.ret m0).mono (fun k hk => hk.resolve_left id), H.below⟩

set_option maxHeartbeats 8000000 in
set_option maxRecDepth 100000 in
theorem two_b (a b : ByteArray) (w : World) (ha : a.size ≤ 80) (hb : 80 < b.size) : Calls Try.prog 33 #[.string a, .string b] w (RetTwo w 0 0 false) := by
  have hu25 := Try.underlying25
  have H := (Sit.start w (fun _ => False)).nilrow
  have da : decide (80 < (a.size : Int)) = false := decide_eq_false (by omega)
  have ea : decide (80 < a.size) = false := decide_eq_false (by omega)
  have db : decide (80 < (b.size : Int)) = true := decide_eq_true (by omega)
  have eb : decide (80 < b.size) = true := decide_eq_true (by omega)
  clear ha hb
  go_enter Try.func33, Try.ntmps33
  have st2 := trivial
  have st4 := trivial
  go_upto_region 2 with (first
    | (clear st2; (with_reducible refine gate_dst (N := 4) rfl ?_); refine box_event ?hg (N := 4) ?hd (cs := #[.bool false, .slice none 0 0]) (t := 25) ?hr ?_; (case hd => rfl); (case hg => rfl); (case hr => first | (go_simp; done) | (go_simp; rfl)); intro g4 hg w1 hbox hb; replace H := H.newbox hg hbox hb; clear hg hbox hb; have kg4_0 : w1.cell? ⟨g4, 0, none⟩ = some (.bool false) := H.cell m0 0; have zg4_0 := H.frozen (g := g4) m0 0; have kg4_1 : w1.cell? ⟨g4, 1, none⟩ = some (.slice none 0 0) := H.cell m0 1; have zg4_1 := H.frozen (g := g4) m0 1)
    | (clear st4; (with_reducible refine gate_dst (N := 5) rfl ?_); refine box_event ?hg (N := 5) ?hd (cs := #[.bool false, .slice none 0 0]) (t := 25) ?hr ?_; (case hd => rfl); (case hg => rfl); (case hr => first | (go_simp; done) | (go_simp; rfl)); intro g5 hg w3 hbox hb; replace H := H.newbox hg hbox hb; clear hg hbox hb; clear kg4_0 zg4_0 kg4_1 zg4_1; have kg5_0 : w3.cell? ⟨g5, 0, none⟩ = some (.bool false) := H.cell m0 0; have zg5_0 := H.frozen (g := g5) m0 0; have kg5_1 : w3.cell? ⟨g5, 1, none⟩ = some (.slice none 0 0) := H.cell m0 1; have zg5_1 := H.frozen (g := g5) m0 1; have kg4_0 : w3.cell? ⟨g4, 0, none⟩ = some (.bool false) := H.cell m1 0; have zg4_0 := H.frozen (g := g4) m1 0; have kg4_1 : w3.cell? ⟨g4, 1, none⟩ = some (.slice none 0 0) := H.cell m1 1; have zg4_1 := H.frozen (g := g4) m1 1; have ne_g5_g4 := H.ne (g := g5) (g' := g4) 0 1 rfl rfl (by decide); have ne_g4_g5 := ne_g5_g4.symm))
  (try simp only [Act.put, List.setIfInBounds_toArray, List.set_cons_zero, List.set_cons_succ])
  go_region_held3 (fun w' => w'.cell? ⟨g4, 0, none⟩ = some (.bool false) ∧ w'.cell? ⟨g4, 1, none⟩ = some (.slice none 0 0) ∧ w'.cell? ⟨g5, 0, none⟩ = some (.bool false) ∧ w'.cell? ⟨g5, 1, none⟩ = some (.slice none 0 0)) (first | (have q : w3.cell? ⟨g4, 0, none⟩ = some (.bool false) ∧ w3.cell? ⟨g4, 1, none⟩ = some (.slice none 0 0) ∧ w3.cell? ⟨g5, 0, none⟩ = some (.bool false) ∧ w3.cell? ⟨g5, 1, none⟩ = some (.slice none 0 0) := ⟨H.cell m1 0, H.cell m1 1, H.cell m0 0, H.cell m0 1⟩; with_reducible exact q) | (have q : w3.drew.cell? ⟨g4, 0, none⟩ = some (.bool false) ∧ w3.drew.cell? ⟨g4, 1, none⟩ = some (.slice none 0 0) ∧ w3.drew.cell? ⟨g5, 0, none⟩ = some (.bool false) ∧ w3.drew.cell? ⟨g5, 1, none⟩ = some (.slice none 0 0) := ⟨H.drew.cell m1 0, H.drew.cell m1 1, H.drew.cell m0 0, H.drew.cell m0 1⟩; with_reducible exact q) | (have q : (((w3.setCell ⟨g4, 0, none⟩ (.bool false)).setCell ⟨g4, 1, none⟩ (.slice none 0 0))).cell? ⟨g4, 0, none⟩ = some (.bool false) ∧ (((w3.setCell ⟨g4, 0, none⟩ (.bool false)).setCell ⟨g4, 1, none⟩ (.slice none 0 0))).cell? ⟨g4, 1, none⟩ = some (.slice none 0 0) ∧ (((w3.setCell ⟨g4, 0, none⟩ (.bool false)).setCell ⟨g4, 1, none⟩ (.slice none 0 0))).cell? ⟨g5, 0, none⟩ = some (.bool false) ∧ (((w3.setCell ⟨g4, 0, none⟩ (.bool false)).setCell ⟨g4, 1, none⟩ (.slice none 0 0))).cell? ⟨g5, 1, none⟩ = some (.slice none 0 0) := ⟨((H.setn [_] 0 (.bool false) rfl).setn [_] 1 (.slice none 0 0) rfl).cell m1 0, ((H.setn [_] 0 (.bool false) rfl).setn [_] 1 (.slice none 0 0) rfl).cell m1 1, ((H.setn [_] 0 (.bool false) rfl).setn [_] 1 (.slice none 0 0) rfl).cell m0 0, ((H.setn [_] 0 (.bool false) rfl).setn [_] 1 (.slice none 0 0) rfl).cell m0 1⟩; with_reducible exact q) | (have q : (((w3.setCell ⟨g4, 0, none⟩ (.bool false)).setCell ⟨g4, 1, none⟩ (.slice none 0 0))).drew.cell? ⟨g4, 0, none⟩ = some (.bool false) ∧ (((w3.setCell ⟨g4, 0, none⟩ (.bool false)).setCell ⟨g4, 1, none⟩ (.slice none 0 0))).drew.cell? ⟨g4, 1, none⟩ = some (.slice none 0 0) ∧ (((w3.setCell ⟨g4, 0, none⟩ (.bool false)).setCell ⟨g4, 1, none⟩ (.slice none 0 0))).drew.cell? ⟨g5, 0, none⟩ = some (.bool false) ∧ (((w3.setCell ⟨g4, 0, none⟩ (.bool false)).setCell ⟨g4, 1, none⟩ (.slice none 0 0))).drew.cell? ⟨g5, 1, none⟩ = some (.slice none 0 0) := ⟨(((H.setn [_] 0 (.bool false) rfl).setn [_] 1 (.slice none 0 0) rfl)).drew.cell m1 0, (((H.setn [_] 0 (.bool false) rfl).setn [_] 1 (.slice none 0 0) rfl)).drew.cell m1 1, (((H.setn [_] 0 (.bool false) rfl).setn [_] 1 (.slice none 0 0) rfl)).drew.cell m0 0, (((H.setn [_] 0 (.bool false) rfl).setn [_] 1 (.slice none 0 0) rfl)).drew.cell m0 1⟩; with_reducible exact q) | (have q : ((((((w3.setCell ⟨g4, 0, none⟩ (.bool false)).setCell ⟨g4, 1, none⟩ (.slice none 0 0))).setCell ⟨g5, 0, none⟩ (.bool false)).setCell ⟨g5, 1, none⟩ (.slice none 0 0))).cell? ⟨g4, 0, none⟩ = some (.bool false) ∧ ((((((w3.setCell ⟨g4, 0, none⟩ (.bool false)).setCell ⟨g4, 1, none⟩ (.slice none 0 0))).setCell ⟨g5, 0, none⟩ (.bool false)).setCell ⟨g5, 1, none⟩ (.slice none 0 0))).cell? ⟨g4, 1, none⟩ = some (.slice none 0 0) ∧ ((((((w3.setCell ⟨g4, 0, none⟩ (.bool false)).setCell ⟨g4, 1, none⟩ (.slice none 0 0))).setCell ⟨g5, 0, none⟩ (.bool false)).setCell ⟨g5, 1, none⟩ (.slice none 0 0))).cell? ⟨g5, 0, none⟩ = some (.bool false) ∧ ((((((w3.setCell ⟨g4, 0, none⟩ (.bool false)).setCell ⟨g4, 1, none⟩ (.slice none 0 0))).setCell ⟨g5, 0, none⟩ (.bool false)).setCell ⟨g5, 1, none⟩ (.slice none 0 0))).cell? ⟨g5, 1, none⟩ = some (.slice none 0 0) := ⟨((((H.setn [_] 0 (.bool false) rfl).setn [_] 1 (.slice none 0 0) rfl).setn [] 0 (.bool false) rfl).setn [] 1 (.slice none 0 0) rfl).cell m1 0, ((((H.setn [_] 0 (.bool false) rfl).setn [_] 1 (.slice none 0 0) rfl).setn [] 0 (.bool false) rfl).setn [] 1 (.slice none 0 0) rfl).cell m1 1, ((((H.setn [_] 0 (.bool false) rfl).setn [_] 1 (.slice none 0 0) rfl).setn [] 0 (.bool false) rfl).setn [] 1 (.slice none 0 0) rfl).cell m0 0, ((((H.setn [_] 0 (.bool false) rfl).setn [_] 1 (.slice none 0 0) rfl).setn [] 0 (.bool false) rfl).setn [] 1 (.slice none 0 0) rfl).cell m0 1⟩; with_reducible exact q) | (have q : ((((((w3.setCell ⟨g4, 0, none⟩ (.bool false)).setCell ⟨g4, 1, none⟩ (.slice none 0 0))).setCell ⟨g5, 0, none⟩ (.bool false)).setCell ⟨g5, 1, none⟩ (.slice none 0 0))).drew.cell? ⟨g4, 0, none⟩ = some (.bool false) ∧ ((((((w3.setCell ⟨g4, 0, none⟩ (.bool false)).setCell ⟨g4, 1, none⟩ (.slice none 0 0))).setCell ⟨g5, 0, none⟩ (.bool false)).setCell ⟨g5, 1, none⟩ (.slice none 0 0))).drew.cell? ⟨g4, 1, none⟩ = some (.slice none 0 0) ∧ ((((((w3.setCell ⟨g4, 0, none⟩ (.bool false)).setCell ⟨g4, 1, none⟩ (.slice none 0 0))).setCell ⟨g5, 0, none⟩ (.bool false)).setCell ⟨g5, 1, none⟩ (.slice none 0 0))).drew.cell? ⟨g5, 0, none⟩ = some (.bool false) ∧ ((((((w3.setCell ⟨g4, 0, none⟩ (.bool false)).setCell ⟨g4, 1, none⟩ (.slice none 0 0))).setCell ⟨g5, 0, none⟩ (.bool false)).setCell ⟨g5, 1, none⟩ (.slice none 0 0))).drew.cell? ⟨g5, 1, none⟩ = some (.slice none 0 0) := ⟨(((((H.setn [_] 0 (.bool false) rfl).setn [_] 1 (.slice none 0 0) rfl).setn [] 0 (.bool false) rfl).setn [] 1 (.slice none 0 0) rfl)).drew.cell m1 0, (((((H.setn [_] 0 (.bool false) rfl).setn [_] 1 (.slice none 0 0) rfl).setn [] 0 (.bool false) rfl).setn [] 1 (.slice none 0 0) rfl)).drew.cell m1 1, (((((H.setn [_] 0 (.bool false) rfl).setn [_] 1 (.slice none 0 0) rfl).setn [] 0 (.bool false) rfl).setn [] 1 (.slice none 0 0) rfl)).drew.cell m0 0, (((((H.setn [_] 0 (.bool false) rfl).setn [_] 1 (.slice none 0 0) rfl).setn [] 0 (.bool false) rfl).setn [] 1 (.slice none 0 0) rfl)).drew.cell m0 1⟩; with_reducible exact q) | fail) (fail)
  try go_wp2
  replace H := ((((H.setn [_] 0 (.bool false) rfl).setn [_] 1 (.slice none 0 0) rfl).setn [] 0 (.bool false) rfl).setn [] 1 (.slice none 0 0) rfl).drew
  refine bodyPost_ret (results_list (rs := [.cell 4 25, .cell 5 25, .tmp 6]) rfl (by simp) (.cell g4 25 #[.bool false, .slice none 0 0] (0, 0) _ rfl (H.blk m1) Try.underlying25 rfl (by kernel_rfl) (.cell g5 25 #[.bool false, .slice none 0 0] (0, 0) _ rfl (H.blk m0) Try.underlying25 rfl (by kernel_rfl) (.tmp .nil)))) rfl ?_
  exact ⟨none, 0, none, 0, rfl, (H.ret m0).mono (fun k hk => hk.resolve_left id), (H.ret m0).mono (fun k hk => hk.resolve_left id), H.below⟩

set_option maxHeartbeats 8000000 in
set_option maxRecDepth 100000 in
theorem two_yes (a b : ByteArray) (w : World) (x y : Int) (ha : a.size ≤ 80) (hb : b.size ≤ 80) (e1 e2 : Int) (he1 : (e1 == 0) = true) (he2 : (e2 == 0) = true) (hx : Aside0 (pr a = (x, e1))) (hy : Aside0 (pr b = (y, e2))) : Calls Try.prog 33 #[.string a, .string b] w (RetTwo w x y true) := by
  have hu25 := Try.underlying25
  have H := Sit.start w (fun _ => False)
  have da : decide (80 < (a.size : Int)) = false := decide_eq_false (by omega)
  have ea : decide (80 < a.size) = false := decide_eq_false (by omega)
  have db : decide (80 < (b.size : Int)) = false := decide_eq_false (by omega)
  have eb : decide (80 < b.size) = false := decide_eq_false (by omega)
  clear ha hb
  go_enter Try.func33, Try.ntmps33
  have st2 := trivial
  have st4 := trivial
  have st8 := trivial
  go_upto_region 4 with (first
    | (clear st2; (with_reducible refine gate_dst (N := 4) rfl ?_); refine box_event ?hg (N := 4) ?hd (cs := #[.bool false, .slice none 0 0]) (t := 25) ?hr ?_; (case hd => rfl); (case hg => rfl); (case hr => first | (go_simp; done) | (go_simp; rfl)); intro g4 hg w1 hbox hb; replace H := H.newbox hg hbox hb; clear hg hbox hb; have kg4_0 : w1.cell? ⟨g4, 0, none⟩ = some (.bool false) := H.cell m0 0; have zg4_0 := H.frozen (g := g4) m0 0; have kg4_1 : w1.cell? ⟨g4, 1, none⟩ = some (.slice none 0 0) := H.cell m0 1; have zg4_1 := H.frozen (g := g4) m0 1)
    | (clear st4; (with_reducible refine gate_dst (N := 5) rfl ?_); refine box_event ?hg (N := 5) ?hd (cs := #[.bool false, .slice none 0 0]) (t := 25) ?hr ?_; (case hd => rfl); (case hg => rfl); (case hr => first | (go_simp; done) | (go_simp; rfl)); intro g5 hg w3 hbox hb; replace H := H.newbox hg hbox hb; clear hg hbox hb; clear kg4_0 zg4_0 kg4_1 zg4_1; have kg5_0 : w3.cell? ⟨g5, 0, none⟩ = some (.bool false) := H.cell m0 0; have zg5_0 := H.frozen (g := g5) m0 0; have kg5_1 : w3.cell? ⟨g5, 1, none⟩ = some (.slice none 0 0) := H.cell m0 1; have zg5_1 := H.frozen (g := g5) m0 1; have kg4_0 : w3.cell? ⟨g4, 0, none⟩ = some (.bool false) := H.cell m1 0; have zg4_0 := H.frozen (g := g4) m1 0; have kg4_1 : w3.cell? ⟨g4, 1, none⟩ = some (.slice none 0 0) := H.cell m1 1; have zg4_1 := H.frozen (g := g4) m1 1; have ne_g5_g4 := H.ne (g := g5) (g' := g4) 0 1 rfl rfl (by decide); have ne_g4_g5 := ne_g5_g4.symm)
    | (clear st8; go_at_call 23; (with_reducible refine (ParseQ a _ x e1 hx.out).mono ?_); rintro e w5 ⟨A6, c7, rfl, hr, hb⟩; replace H := H.got (fresh_row hr) hb; clear hr hb; clear kg5_0 zg5_0 kg5_1 zg5_1 kg4_0 zg4_0 kg4_1 zg4_1; have kg5_0 : w5.cell? ⟨g5, 0, none⟩ = some (.bool false) := H.cell m0 0; have zg5_0 := H.frozen (g := g5) m0 0; have kg5_1 : w5.cell? ⟨g5, 1, none⟩ = some (.slice none 0 0) := H.cell m0 1; have zg5_1 := H.frozen (g := g5) m0 1; have kg4_0 : w5.cell? ⟨g4, 0, none⟩ = some (.bool false) := H.cell m1 0; have zg4_0 := H.frozen (g := g4) m1 0; have kg4_1 : w5.cell? ⟨g4, 1, none⟩ = some (.slice none 0 0) := H.cell m1 1; have zg4_1 := H.frozen (g := g4) m1 1))
  (try simp only [Act.put, List.setIfInBounds_toArray, List.set_cons_zero, List.set_cons_succ])
  replace H := ((H.setn [_] 0 (.bool (ng x)) rfl).setn [_] 1 (.slice A6 (ln x) c7) rfl)
  clear kg5_0 zg5_0 kg5_1 zg5_1 kg4_0 zg4_0 kg4_1 zg4_1
  generalize ((w5.setCell ⟨g4, 0, none⟩ (.bool (ng x))).setCell ⟨g4, 1, none⟩ (.slice A6 (ln x) c7)) = w9 at H ⊢
  have kg5_0 : w9.cell? ⟨g5, 0, none⟩ = some (.bool false) := H.cell m0 0
  have zg5_0 := H.frozen (g := g5) m0 0
  have kg5_1 : w9.cell? ⟨g5, 1, none⟩ = some (.slice none 0 0) := H.cell m0 1
  have zg5_1 := H.frozen (g := g5) m0 1
  have kg4_0 : w9.cell? ⟨g4, 0, none⟩ = some (.bool (ng x)) := H.cell m1 0
  have zg4_0 := H.frozen (g := g4) m1 0
  have kg4_1 : w9.cell? ⟨g4, 1, none⟩ = some (.slice A6 (ln x) c7) := H.cell m1 1
  have zg4_1 := H.frozen (g := g4) m1 1
  have st13 := trivial
  go_upto_region 5 with (first
    | (clear st13; go_at_call 23; (with_reducible refine (ParseQ b _ y e2 hy.out).mono ?_); rintro e w10 ⟨A11, c12, rfl, hr, hb⟩; replace H := H.got (fresh_row hr) hb; clear hr hb; clear kg5_0 zg5_0 kg5_1 zg5_1 kg4_0 zg4_0 kg4_1 zg4_1; have kg5_0 : w10.cell? ⟨g5, 0, none⟩ = some (.bool false) := H.cell m0 0; have zg5_0 := H.frozen (g := g5) m0 0; have kg5_1 : w10.cell? ⟨g5, 1, none⟩ = some (.slice none 0 0) := H.cell m0 1; have zg5_1 := H.frozen (g := g5) m0 1; have kg4_0 : w10.cell? ⟨g4, 0, none⟩ = some (.bool (ng x)) := H.cell m1 0; have zg4_0 := H.frozen (g := g4) m1 0; have kg4_1 : w10.cell? ⟨g4, 1, none⟩ = some (.slice A6 (ln x) c7) := H.cell m1 1; have zg4_1 := H.frozen (g := g4) m1 1))
  (try simp only [Act.put, List.setIfInBounds_toArray, List.set_cons_zero, List.set_cons_succ])
  replace H := ((H.setn [] 0 (.bool (ng y)) rfl).setn [] 1 (.slice A11 (ln y) c12) rfl)
  clear kg5_0 zg5_0 kg5_1 zg5_1 kg4_0 zg4_0 kg4_1 zg4_1
  generalize ((w10.setCell ⟨g5, 0, none⟩ (.bool (ng y))).setCell ⟨g5, 1, none⟩ (.slice A11 (ln y) c12)) = w14 at H ⊢
  have kg5_0 : w14.cell? ⟨g5, 0, none⟩ = some (.bool (ng y)) := H.cell m0 0
  have zg5_0 := H.frozen (g := g5) m0 0
  have kg5_1 : w14.cell? ⟨g5, 1, none⟩ = some (.slice A11 (ln y) c12) := H.cell m0 1
  have zg5_1 := H.frozen (g := g5) m0 1
  have kg4_0 : w14.cell? ⟨g4, 0, none⟩ = some (.bool (ng x)) := H.cell m1 0
  have zg4_0 := H.frozen (g := g4) m1 0
  have kg4_1 : w14.cell? ⟨g4, 1, none⟩ = some (.slice A6 (ln x) c7) := H.cell m1 1
  have zg4_1 := H.frozen (g := g4) m1 1
  go_region_held3 (fun w' => w'.cell? ⟨g4, 0, none⟩ = some (.bool (ng x)) ∧ w'.cell? ⟨g4, 1, none⟩ = some (.slice A6 (ln x) c7) ∧ w'.cell? ⟨g5, 0, none⟩ = some (.bool (ng y)) ∧ w'.cell? ⟨g5, 1, none⟩ = some (.slice A11 (ln y) c12)) (first | (have q : w14.cell? ⟨g4, 0, none⟩ = some (.bool (ng x)) ∧ w14.cell? ⟨g4, 1, none⟩ = some (.slice A6 (ln x) c7) ∧ w14.cell? ⟨g5, 0, none⟩ = some (.bool (ng y)) ∧ w14.cell? ⟨g5, 1, none⟩ = some (.slice A11 (ln y) c12) := ⟨H.cell m1 0, H.cell m1 1, H.cell m0 0, H.cell m0 1⟩; with_reducible exact q) | (have q : w14.drew.cell? ⟨g4, 0, none⟩ = some (.bool (ng x)) ∧ w14.drew.cell? ⟨g4, 1, none⟩ = some (.slice A6 (ln x) c7) ∧ w14.drew.cell? ⟨g5, 0, none⟩ = some (.bool (ng y)) ∧ w14.drew.cell? ⟨g5, 1, none⟩ = some (.slice A11 (ln y) c12) := ⟨H.drew.cell m1 0, H.drew.cell m1 1, H.drew.cell m0 0, H.drew.cell m0 1⟩; with_reducible exact q) | (have q : (((w14.setCell ⟨g4, 0, none⟩ (.bool (ng x))).setCell ⟨g4, 1, none⟩ (.slice A6 (ln x) c7))).cell? ⟨g4, 0, none⟩ = some (.bool (ng x)) ∧ (((w14.setCell ⟨g4, 0, none⟩ (.bool (ng x))).setCell ⟨g4, 1, none⟩ (.slice A6 (ln x) c7))).cell? ⟨g4, 1, none⟩ = some (.slice A6 (ln x) c7) ∧ (((w14.setCell ⟨g4, 0, none⟩ (.bool (ng x))).setCell ⟨g4, 1, none⟩ (.slice A6 (ln x) c7))).cell? ⟨g5, 0, none⟩ = some (.bool (ng y)) ∧ (((w14.setCell ⟨g4, 0, none⟩ (.bool (ng x))).setCell ⟨g4, 1, none⟩ (.slice A6 (ln x) c7))).cell? ⟨g5, 1, none⟩ = some (.slice A11 (ln y) c12) := ⟨((H.setn [_] 0 (.bool (ng x)) rfl).setn [_] 1 (.slice A6 (ln x) c7) rfl).cell m1 0, ((H.setn [_] 0 (.bool (ng x)) rfl).setn [_] 1 (.slice A6 (ln x) c7) rfl).cell m1 1, ((H.setn [_] 0 (.bool (ng x)) rfl).setn [_] 1 (.slice A6 (ln x) c7) rfl).cell m0 0, ((H.setn [_] 0 (.bool (ng x)) rfl).setn [_] 1 (.slice A6 (ln x) c7) rfl).cell m0 1⟩; with_reducible exact q) | (have q : (((w14.setCell ⟨g4, 0, none⟩ (.bool (ng x))).setCell ⟨g4, 1, none⟩ (.slice A6 (ln x) c7))).drew.cell? ⟨g4, 0, none⟩ = some (.bool (ng x)) ∧ (((w14.setCell ⟨g4, 0, none⟩ (.bool (ng x))).setCell ⟨g4, 1, none⟩ (.slice A6 (ln x) c7))).drew.cell? ⟨g4, 1, none⟩ = some (.slice A6 (ln x) c7) ∧ (((w14.setCell ⟨g4, 0, none⟩ (.bool (ng x))).setCell ⟨g4, 1, none⟩ (.slice A6 (ln x) c7))).drew.cell? ⟨g5, 0, none⟩ = some (.bool (ng y)) ∧ (((w14.setCell ⟨g4, 0, none⟩ (.bool (ng x))).setCell ⟨g4, 1, none⟩ (.slice A6 (ln x) c7))).drew.cell? ⟨g5, 1, none⟩ = some (.slice A11 (ln y) c12) := ⟨(((H.setn [_] 0 (.bool (ng x)) rfl).setn [_] 1 (.slice A6 (ln x) c7) rfl)).drew.cell m1 0, (((H.setn [_] 0 (.bool (ng x)) rfl).setn [_] 1 (.slice A6 (ln x) c7) rfl)).drew.cell m1 1, (((H.setn [_] 0 (.bool (ng x)) rfl).setn [_] 1 (.slice A6 (ln x) c7) rfl)).drew.cell m0 0, (((H.setn [_] 0 (.bool (ng x)) rfl).setn [_] 1 (.slice A6 (ln x) c7) rfl)).drew.cell m0 1⟩; with_reducible exact q) | (have q : ((((((w14.setCell ⟨g4, 0, none⟩ (.bool (ng x))).setCell ⟨g4, 1, none⟩ (.slice A6 (ln x) c7))).setCell ⟨g5, 0, none⟩ (.bool (ng y))).setCell ⟨g5, 1, none⟩ (.slice A11 (ln y) c12))).cell? ⟨g4, 0, none⟩ = some (.bool (ng x)) ∧ ((((((w14.setCell ⟨g4, 0, none⟩ (.bool (ng x))).setCell ⟨g4, 1, none⟩ (.slice A6 (ln x) c7))).setCell ⟨g5, 0, none⟩ (.bool (ng y))).setCell ⟨g5, 1, none⟩ (.slice A11 (ln y) c12))).cell? ⟨g4, 1, none⟩ = some (.slice A6 (ln x) c7) ∧ ((((((w14.setCell ⟨g4, 0, none⟩ (.bool (ng x))).setCell ⟨g4, 1, none⟩ (.slice A6 (ln x) c7))).setCell ⟨g5, 0, none⟩ (.bool (ng y))).setCell ⟨g5, 1, none⟩ (.slice A11 (ln y) c12))).cell? ⟨g5, 0, none⟩ = some (.bool (ng y)) ∧ ((((((w14.setCell ⟨g4, 0, none⟩ (.bool (ng x))).setCell ⟨g4, 1, none⟩ (.slice A6 (ln x) c7))).setCell ⟨g5, 0, none⟩ (.bool (ng y))).setCell ⟨g5, 1, none⟩ (.slice A11 (ln y) c12))).cell? ⟨g5, 1, none⟩ = some (.slice A11 (ln y) c12) := ⟨((((H.setn [_] 0 (.bool (ng x)) rfl).setn [_] 1 (.slice A6 (ln x) c7) rfl).setn [] 0 (.bool (ng y)) rfl).setn [] 1 (.slice A11 (ln y) c12) rfl).cell m1 0, ((((H.setn [_] 0 (.bool (ng x)) rfl).setn [_] 1 (.slice A6 (ln x) c7) rfl).setn [] 0 (.bool (ng y)) rfl).setn [] 1 (.slice A11 (ln y) c12) rfl).cell m1 1, ((((H.setn [_] 0 (.bool (ng x)) rfl).setn [_] 1 (.slice A6 (ln x) c7) rfl).setn [] 0 (.bool (ng y)) rfl).setn [] 1 (.slice A11 (ln y) c12) rfl).cell m0 0, ((((H.setn [_] 0 (.bool (ng x)) rfl).setn [_] 1 (.slice A6 (ln x) c7) rfl).setn [] 0 (.bool (ng y)) rfl).setn [] 1 (.slice A11 (ln y) c12) rfl).cell m0 1⟩; with_reducible exact q) | (have q : ((((((w14.setCell ⟨g4, 0, none⟩ (.bool (ng x))).setCell ⟨g4, 1, none⟩ (.slice A6 (ln x) c7))).setCell ⟨g5, 0, none⟩ (.bool (ng y))).setCell ⟨g5, 1, none⟩ (.slice A11 (ln y) c12))).drew.cell? ⟨g4, 0, none⟩ = some (.bool (ng x)) ∧ ((((((w14.setCell ⟨g4, 0, none⟩ (.bool (ng x))).setCell ⟨g4, 1, none⟩ (.slice A6 (ln x) c7))).setCell ⟨g5, 0, none⟩ (.bool (ng y))).setCell ⟨g5, 1, none⟩ (.slice A11 (ln y) c12))).drew.cell? ⟨g4, 1, none⟩ = some (.slice A6 (ln x) c7) ∧ ((((((w14.setCell ⟨g4, 0, none⟩ (.bool (ng x))).setCell ⟨g4, 1, none⟩ (.slice A6 (ln x) c7))).setCell ⟨g5, 0, none⟩ (.bool (ng y))).setCell ⟨g5, 1, none⟩ (.slice A11 (ln y) c12))).drew.cell? ⟨g5, 0, none⟩ = some (.bool (ng y)) ∧ ((((((w14.setCell ⟨g4, 0, none⟩ (.bool (ng x))).setCell ⟨g4, 1, none⟩ (.slice A6 (ln x) c7))).setCell ⟨g5, 0, none⟩ (.bool (ng y))).setCell ⟨g5, 1, none⟩ (.slice A11 (ln y) c12))).drew.cell? ⟨g5, 1, none⟩ = some (.slice A11 (ln y) c12) := ⟨(((((H.setn [_] 0 (.bool (ng x)) rfl).setn [_] 1 (.slice A6 (ln x) c7) rfl).setn [] 0 (.bool (ng y)) rfl).setn [] 1 (.slice A11 (ln y) c12) rfl)).drew.cell m1 0, (((((H.setn [_] 0 (.bool (ng x)) rfl).setn [_] 1 (.slice A6 (ln x) c7) rfl).setn [] 0 (.bool (ng y)) rfl).setn [] 1 (.slice A11 (ln y) c12) rfl)).drew.cell m1 1, (((((H.setn [_] 0 (.bool (ng x)) rfl).setn [_] 1 (.slice A6 (ln x) c7) rfl).setn [] 0 (.bool (ng y)) rfl).setn [] 1 (.slice A11 (ln y) c12) rfl)).drew.cell m0 0, (((((H.setn [_] 0 (.bool (ng x)) rfl).setn [_] 1 (.slice A6 (ln x) c7) rfl).setn [] 0 (.bool (ng y)) rfl).setn [] 1 (.slice A11 (ln y) c12) rfl)).drew.cell m0 1⟩; with_reducible exact q) | fail) (fail)
  try go_wp2
  replace H := ((((H.setn [_] 0 (.bool (ng x)) rfl).setn [_] 1 (.slice A6 (ln x) c7) rfl).setn [] 0 (.bool (ng y)) rfl).setn [] 1 (.slice A11 (ln y) c12) rfl).drew
  refine bodyPost_ret (results_list (rs := [.cell 4 25, .cell 5 25, .tmp 6]) rfl (by simp) (.cell g4 25 #[.bool (ng x), .slice A6 (ln x) c7] (0, 0) _ rfl (H.blk m1) Try.underlying25 rfl (by kernel_rfl) (.cell g5 25 #[.bool (ng y), .slice A11 (ln y) c12] (0, 0) _ rfl (H.blk m0) Try.underlying25 rfl (by kernel_rfl) (.tmp .nil)))) rfl ?_
  exact ⟨A6, c7, A11, c12, rfl, (H.ret m1).mono (fun k hk => hk.resolve_left id), (H.ret m0).mono (fun k hk => hk.resolve_left id), H.below⟩

def tb33.T5 : Bool × List (List Nat × List Nat) := (true, [([], []), ([], []), ([], []), ([2], [2]), ([3], [3]), ([4], [4]), ([5, 4], [4, 5]), ([4, 6], [4, 6]), ([0, 4, 0], [0]), ([1, 8, 0, 1, 8], [1]), ([7, 9, 0, 1, 2, 3, 4, 5, 6, 7, 8, 9], [7])])
def tb33.B5 : List Nat := [0, 0, 0, 4, 12, 28, 60, 124, 29, 287, 1023]
theorem tb33.tab5 : rtab .any (opsOf Try.f33 5) = tb33.T5 := by kernel_rfl
theorem tb33.bits5 : waitsOk tb33.T5.2 tb33.B5 = true := by kernel_rfl

set_option maxHeartbeats 8000000 in
set_option maxRecDepth 100000 in
theorem two_no1 (a b : ByteArray) (w : World) (x y : Int) (ha : a.size ≤ 80) (hb : b.size ≤ 80) (e1 e2 : Int) (he : (e1 == 0) = false) (hx : Aside0 (pr a = (x, e1))) (hy : Aside0 (pr b = (y, e2))) : Calls Try.prog 33 #[.string a, .string b] w (RetTwo w x y false) := by
  have hu25 := Try.underlying25
  have H := Sit.start w (fun _ => False)
  have da : decide (80 < (a.size : Int)) = false := decide_eq_false (by omega)
  have ea : decide (80 < a.size) = false := decide_eq_false (by omega)
  have db : decide (80 < (b.size : Int)) = false := decide_eq_false (by omega)
  have eb : decide (80 < b.size) = false := decide_eq_false (by omega)
  clear ha hb
  go_enter Try.func33, Try.ntmps33
  have st2 := trivial
  have st4 := trivial
  have st8 := trivial
  go_upto_region 4 with (first
    | (clear st2; (with_reducible refine gate_dst (N := 4) rfl ?_); refine box_event ?hg (N := 4) ?hd (cs := #[.bool false, .slice none 0 0]) (t := 25) ?hr ?_; (case hd => rfl); (case hg => rfl); (case hr => first | (go_simp; done) | (go_simp; rfl)); intro g4 hg w1 hbox hb; replace H := H.newbox hg hbox hb; clear hg hbox hb; have kg4_0 : w1.cell? ⟨g4, 0, none⟩ = some (.bool false) := H.cell m0 0; have zg4_0 := H.frozen (g := g4) m0 0; have kg4_1 : w1.cell? ⟨g4, 1, none⟩ = some (.slice none 0 0) := H.cell m0 1; have zg4_1 := H.frozen (g := g4) m0 1)
    | (clear st4; (with_reducible refine gate_dst (N := 5) rfl ?_); refine box_event ?hg (N := 5) ?hd (cs := #[.bool false, .slice none 0 0]) (t := 25) ?hr ?_; (case hd => rfl); (case hg => rfl); (case hr => first | (go_simp; done) | (go_simp; rfl)); intro g5 hg w3 hbox hb; replace H := H.newbox hg hbox hb; clear hg hbox hb; clear kg4_0 zg4_0 kg4_1 zg4_1; have kg5_0 : w3.cell? ⟨g5, 0, none⟩ = some (.bool false) := H.cell m0 0; have zg5_0 := H.frozen (g := g5) m0 0; have kg5_1 : w3.cell? ⟨g5, 1, none⟩ = some (.slice none 0 0) := H.cell m0 1; have zg5_1 := H.frozen (g := g5) m0 1; have kg4_0 : w3.cell? ⟨g4, 0, none⟩ = some (.bool false) := H.cell m1 0; have zg4_0 := H.frozen (g := g4) m1 0; have kg4_1 : w3.cell? ⟨g4, 1, none⟩ = some (.slice none 0 0) := H.cell m1 1; have zg4_1 := H.frozen (g := g4) m1 1; have ne_g5_g4 := H.ne (g := g5) (g' := g4) 0 1 rfl rfl (by decide); have ne_g4_g5 := ne_g5_g4.symm)
    | (clear st8; go_at_call 23; (with_reducible refine (ParseQ a _ x e1 hx.out).mono ?_); rintro e w5 ⟨A6, c7, rfl, hr, hb⟩; replace H := H.got (fresh_row hr) hb; clear hr hb; clear kg5_0 zg5_0 kg5_1 zg5_1 kg4_0 zg4_0 kg4_1 zg4_1; have kg5_0 : w5.cell? ⟨g5, 0, none⟩ = some (.bool false) := H.cell m0 0; have zg5_0 := H.frozen (g := g5) m0 0; have kg5_1 : w5.cell? ⟨g5, 1, none⟩ = some (.slice none 0 0) := H.cell m0 1; have zg5_1 := H.frozen (g := g5) m0 1; have kg4_0 : w5.cell? ⟨g4, 0, none⟩ = some (.bool false) := H.cell m1 0; have zg4_0 := H.frozen (g := g4) m1 0; have kg4_1 : w5.cell? ⟨g4, 1, none⟩ = some (.slice none 0 0) := H.cell m1 1; have zg4_1 := H.frozen (g := g4) m1 1))
  (try simp only [Act.put, List.setIfInBounds_toArray, List.set_cons_zero, List.set_cons_succ])
  replace H := ((H.setn [_] 0 (.bool (ng x)) rfl).setn [_] 1 (.slice A6 (ln x) c7) rfl)
  clear kg5_0 zg5_0 kg5_1 zg5_1 kg4_0 zg4_0 kg4_1 zg4_1
  generalize ((w5.setCell ⟨g4, 0, none⟩ (.bool (ng x))).setCell ⟨g4, 1, none⟩ (.slice A6 (ln x) c7)) = w9 at H ⊢
  have kg5_0 : w9.cell? ⟨g5, 0, none⟩ = some (.bool false) := H.cell m0 0
  have zg5_0 := H.frozen (g := g5) m0 0
  have kg5_1 : w9.cell? ⟨g5, 1, none⟩ = some (.slice none 0 0) := H.cell m0 1
  have zg5_1 := H.frozen (g := g5) m0 1
  have kg4_0 : w9.cell? ⟨g4, 0, none⟩ = some (.bool (ng x)) := H.cell m1 0
  have zg4_0 := H.frozen (g := g4) m1 0
  have kg4_1 : w9.cell? ⟨g4, 1, none⟩ = some (.slice A6 (ln x) c7) := H.cell m1 1
  have zg4_1 := H.frozen (g := g4) m1 1
  have st13 := trivial
  go_upto_region 5 with (first
    | (clear st13; go_at_call 23; (with_reducible refine (ParseQ b _ y e2 hy.out).mono ?_); rintro e w10 ⟨A11, c12, rfl, hr, hb⟩; replace H := H.got (fresh_row hr) hb; clear hr hb; clear kg5_0 zg5_0 kg5_1 zg5_1 kg4_0 zg4_0 kg4_1 zg4_1; have kg5_0 : w10.cell? ⟨g5, 0, none⟩ = some (.bool false) := H.cell m0 0; have zg5_0 := H.frozen (g := g5) m0 0; have kg5_1 : w10.cell? ⟨g5, 1, none⟩ = some (.slice none 0 0) := H.cell m0 1; have zg5_1 := H.frozen (g := g5) m0 1; have kg4_0 : w10.cell? ⟨g4, 0, none⟩ = some (.bool (ng x)) := H.cell m1 0; have zg4_0 := H.frozen (g := g4) m1 0; have kg4_1 : w10.cell? ⟨g4, 1, none⟩ = some (.slice A6 (ln x) c7) := H.cell m1 1; have zg4_1 := H.frozen (g := g4) m1 1))
  (try simp only [Act.put, List.setIfInBounds_toArray, List.set_cons_zero, List.set_cons_succ])
  replace H := ((H.setn [] 0 (.bool (ng y)) rfl).setn [] 1 (.slice A11 (ln y) c12) rfl)
  clear kg5_0 zg5_0 kg5_1 zg5_1 kg4_0 zg4_0 kg4_1 zg4_1
  generalize ((w10.setCell ⟨g5, 0, none⟩ (.bool (ng y))).setCell ⟨g5, 1, none⟩ (.slice A11 (ln y) c12)) = w14 at H ⊢
  have kg5_0 : w14.cell? ⟨g5, 0, none⟩ = some (.bool (ng y)) := H.cell m0 0
  have zg5_0 := H.frozen (g := g5) m0 0
  have kg5_1 : w14.cell? ⟨g5, 1, none⟩ = some (.slice A11 (ln y) c12) := H.cell m0 1
  have zg5_1 := H.frozen (g := g5) m0 1
  have kg4_0 : w14.cell? ⟨g4, 0, none⟩ = some (.bool (ng x)) := H.cell m1 0
  have zg4_0 := H.frozen (g := g4) m1 0
  have kg4_1 : w14.cell? ⟨g4, 1, none⟩ = some (.slice A6 (ln x) c7) := H.cell m1 1
  have zg4_1 := H.frozen (g := g4) m1 1
  clear kg5_0 zg5_0 kg5_1 zg5_1 kg4_0 zg4_0 kg4_1 zg4_1
  replace H := H.drew
  refine start_ (n := 11) (S := fun w' => w'.cell? ⟨g4, 0, none⟩ = some (.bool (ng x)) ∧ w'.cell? ⟨g4, 1, none⟩ = some (.slice A6 (ln x) c7) ∧ w'.cell? ⟨g5, 0, none⟩ = some (.bool (ng y)) ∧ w'.cell? ⟨g5, 1, none⟩ = some (.slice A11 (ln y) c12)) (ds := [9]) #[false, false, false, false, false, false, false, false, false, false, false] (by kernel_rfl) rfl rfl ⟨H.cell m1 0, H.cell m1 1, H.cell m0 0, H.cell m0 1⟩ (fun hHeld => ?_)
  generalize w14.drew = w15 at H hHeld ⊢
  refine with_tabW tb33.tab5 tb33.bits5 (fun HT_ HW_ => ?_)
  refine pure_ (i := 2) (N := some 31) (v := ?_) (a' := ?_) #[false, false, true, false, false, false, false, false, false, false, false] rfl rfl (any_of HT_.out (by kernel_rfl)) (fun _ _ _ h => h) (Or.inl ⟨by rfl, ?_⟩) ?_ ?_
  rotate_left
  · intro w'
    go_simp
    with_reducible rfl
  rotate_left
  · simp only [Act.put, List.setIfInBounds_toArray, List.set_cons_zero, List.set_cons_succ, i64_w, i32_w]
    rfl
  refine pure_ (i := 3) (N := some 32) (v := ?_) (a' := ?_) #[false, false, true, true, false, false, false, false, false, false, false] rfl rfl (any_of HT_.out (by kernel_rfl)) (fun _ _ _ h => h) (Or.inl ⟨by rfl, ?_⟩) ?_ ?_
  rotate_left
  · intro w'
    go_simp
    with_reducible rfl
  rotate_left
  · simp only [Act.put, List.setIfInBounds_toArray, List.set_cons_zero, List.set_cons_succ, i64_w, i32_w]
    rfl
  refine pure_ (i := 4) (N := some 33) (v := ?_) (a' := ?_) #[false, false, true, true, true, false, false, false, false, false, false] rfl rfl (any_of HT_.out (by kernel_rfl)) (fun _ _ _ h => h) (Or.inl ⟨by rfl, ?_⟩) ?_ ?_
  rotate_left
  · intro w'
    go_simp
    with_reducible rfl
  rotate_left
  · simp only [Act.put, List.setIfInBounds_toArray, List.set_cons_zero, List.set_cons_succ, i64_w, i32_w]
    rfl
  refine pure_ (i := 5) (N := some 34) (v := undef) (a' := ?_) #[false, false, true, true, true, true, false, false, false, false, false] rfl rfl (any_of HT_.out (by kernel_rfl)) (fun _ _ _ h => h) (Or.inr ⟨by rfl, rfl⟩) ?_ ?_
  rotate_left
  · simp only [Act.put, List.setIfInBounds_toArray, List.set_cons_zero, List.set_cons_succ, i64_w, i32_w]
    rfl
  refine pure_ (i := 6) (N := some 35) (v := undef) (a' := ?_) #[false, false, true, true, true, true, true, false, false, false, false] rfl rfl (any_of HT_.out (by kernel_rfl)) (fun _ _ _ h => h) (Or.inr ⟨by rfl, rfl⟩) ?_ ?_
  rotate_left
  · simp only [Act.put, List.setIfInBounds_toArray, List.set_cons_zero, List.set_cons_succ, i64_w, i32_w]
    rfl
  refine pure_ (i := 7) (N := some 36) (v := ?_) (a' := ?_) #[false, false, true, true, true, true, true, true, false, false, false] rfl rfl (any_of HT_.out (by kernel_rfl)) (fun _ _ _ h => h) (Or.inl ⟨by rfl, ?_⟩) ?_ ?_
  rotate_left
  · intro w'
    go_simp
    with_reducible rfl
  rotate_left
  · simp only [Act.put, List.setIfInBounds_toArray, List.set_cons_zero, List.set_cons_succ, i64_w, i32_w]
    rfl
  refine take_ (i := 0) (N := some 29) (v := ?_) (a' := ?_) #[true, false, true, true, true, true, true, true, false, false, false] rfl rfl (take_ofW HT_.out HW_.out (by kernel_rfl)) (fun _ _ _ h => h) (Or.inl ⟨by rfl, ?_⟩) hHeld ?_ ?_
  rotate_left
  · rintro w' ⟨s0, s1, s2, s3⟩
    go_simp
    with_reducible rfl
  rotate_left
  · simp only [Act.put, List.setIfInBounds_toArray, List.set_cons_zero, List.set_cons_succ, i64_w, i32_w]
    rfl
  refine take_ (i := 1) (N := some 30) (v := ?_) (a' := ?_) #[true, true, true, true, true, true, true, true, false, false, false] rfl rfl (take_ofW HT_.out HW_.out (by kernel_rfl)) (fun _ _ _ h => h) (Or.inl ⟨by rfl, ?_⟩) hHeld ?_ ?_
  rotate_left
  · rintro w' ⟨s0, s1, s2, s3⟩
    go_simp
    with_reducible rfl
  rotate_left
  · simp only [Act.put, List.setIfInBounds_toArray, List.set_cons_zero, List.set_cons_succ, i64_w, i32_w]
    rfl
  refine one_ (i := 8) (N := none) #[true, true, true, true, true, true, true, true, true, false, false] rfl rfl (one_of HT_.out (by kernel_rfl)) (by decide) (fun K hK => ?_)
  have kg5_0 : w15.cell? ⟨g5, 0, none⟩ = some (.bool (ng y)) := H.cell m0 0
  have zg5_0 := H.frozen (g := g5) m0 0
  have kg5_1 : w15.cell? ⟨g5, 1, none⟩ = some (.slice A11 (ln y) c12) := H.cell m0 1
  have zg5_1 := H.frozen (g := g5) m0 1
  have kg4_0 : w15.cell? ⟨g4, 0, none⟩ = some (.bool (ng x)) := H.cell m1 0
  have zg4_0 := H.frozen (g := g4) m1 0
  have kg4_1 : w15.cell? ⟨g4, 1, none⟩ = some (.slice A6 (ln x) c7) := H.cell m1 1
  have zg4_1 := H.frozen (g := g4) m1 1
  refine skip_ (w1 := ?_) (by rfl) rfl ?_ ?_
  rotate_left
  · go_simp
    rfl
  replace H := ((H.setn [_] 0 (.bool (ng x)) rfl).setn [_] 1 (.slice A6 (ln x) c7) rfl)
  clear kg5_0 zg5_0 kg5_1 zg5_1 kg4_0 zg4_0 kg4_1 zg4_1
  generalize ((w15.setCell ⟨g4, 0, none⟩ (.bool (ng x))).setCell ⟨g4, 1, none⟩ (.slice A6 (ln x) c7)) = w16 at H ⊢
  refine hK.out _ _ ⟨H.cell m1 0, H.cell m1 1, H.cell m0 0, H.cell m0 1⟩ (fun hHeld => ?_)
  clear hK K
  refine last_ (i := 9) (N := none) #[true, true, true, true, true, true, true, true, true, true, false] rfl rfl (one_of HT_.out (by kernel_rfl)) (by decide) (fun K hK => ?_)
  have kg5_0 : w16.cell? ⟨g5, 0, none⟩ = some (.bool (ng y)) := H.cell m0 0
  have zg5_0 := H.frozen (g := g5) m0 0
  have kg5_1 : w16.cell? ⟨g5, 1, none⟩ = some (.slice A11 (ln y) c12) := H.cell m0 1
  have zg5_1 := H.frozen (g := g5) m0 1
  have kg4_0 : w16.cell? ⟨g4, 0, none⟩ = some (.bool (ng x)) := H.cell m1 0
  have zg4_0 := H.frozen (g := g4) m1 0
  have kg4_1 : w16.cell? ⟨g4, 1, none⟩ = some (.slice A6 (ln x) c7) := H.cell m1 1
  have zg4_1 := H.frozen (g := g4) m1 1
  refine skip_ (w1 := ?_) (by rfl) rfl ?_ ?_
  rotate_left
  · go_simp
    rfl
  refine hK.out _ _ ?_
  clear hK K
  refine pure_ (i := 10) (N := some 6) (v := ?_) (a' := ?_) #[true, true, true, true, true, true, true, true, true, true, true] rfl rfl (any_of HT_.out (by kernel_rfl)) (fun _ _ _ h => h) (Or.inl ⟨by rfl, ?_⟩) ?_ ?_
  rotate_left
  · intro w'
    go_simp
    with_reducible rfl
  rotate_left
  · simp only [Act.put, List.setIfInBounds_toArray, List.set_cons_zero, List.set_cons_succ, i64_w, i32_w]
    rfl
  refine done_ (done_of HT_.out (by kernel_rfl)) ?_
  try clear hHeld
  replace H := ((H.setn [] 0 (.bool (ng y)) rfl).setn [] 1 (.slice A11 (ln y) c12) rfl)
  try go_wp2
  refine bodyPost_ret (results_list (rs := [.cell 4 25, .cell 5 25, .tmp 6]) rfl (by simp) (.cell g4 25 #[.bool (ng x), .slice A6 (ln x) c7] (0, 0) _ rfl (H.blk m1) Try.underlying25 rfl (by kernel_rfl) (.cell g5 25 #[.bool (ng y), .slice A11 (ln y) c12] (0, 0) _ rfl (H.blk m0) Try.underlying25 rfl (by kernel_rfl) (.tmp .nil)))) rfl ?_
  exact ⟨A6, c7, A11, c12, rfl, (H.ret m1).mono (fun k hk => hk.resolve_left id), (H.ret m0).mono (fun k hk => hk.resolve_left id), H.below⟩

set_option maxHeartbeats 8000000 in
set_option maxRecDepth 100000 in
theorem two_no2 (a b : ByteArray) (w : World) (x y : Int) (ha : a.size ≤ 80) (hb : b.size ≤ 80) (e1 e2 : Int) (he1 : (e1 == 0) = true) (he : (e2 == 0) = false) (hx : Aside0 (pr a = (x, e1))) (hy : Aside0 (pr b = (y, e2))) : Calls Try.prog 33 #[.string a, .string b] w (RetTwo w x y false) := by
  have hu25 := Try.underlying25
  have H := Sit.start w (fun _ => False)
  have da : decide (80 < (a.size : Int)) = false := decide_eq_false (by omega)
  have ea : decide (80 < a.size) = false := decide_eq_false (by omega)
  have db : decide (80 < (b.size : Int)) = false := decide_eq_false (by omega)
  have eb : decide (80 < b.size) = false := decide_eq_false (by omega)
  clear ha hb
  go_enter Try.func33, Try.ntmps33
  have st2 := trivial
  have st4 := trivial
  have st8 := trivial
  go_upto_region 4 with (first
    | (clear st2; (with_reducible refine gate_dst (N := 4) rfl ?_); refine box_event ?hg (N := 4) ?hd (cs := #[.bool false, .slice none 0 0]) (t := 25) ?hr ?_; (case hd => rfl); (case hg => rfl); (case hr => first | (go_simp; done) | (go_simp; rfl)); intro g4 hg w1 hbox hb; replace H := H.newbox hg hbox hb; clear hg hbox hb; have kg4_0 : w1.cell? ⟨g4, 0, none⟩ = some (.bool false) := H.cell m0 0; have zg4_0 := H.frozen (g := g4) m0 0; have kg4_1 : w1.cell? ⟨g4, 1, none⟩ = some (.slice none 0 0) := H.cell m0 1; have zg4_1 := H.frozen (g := g4) m0 1)
    | (clear st4; (with_reducible refine gate_dst (N := 5) rfl ?_); refine box_event ?hg (N := 5) ?hd (cs := #[.bool false, .slice none 0 0]) (t := 25) ?hr ?_; (case hd => rfl); (case hg => rfl); (case hr => first | (go_simp; done) | (go_simp; rfl)); intro g5 hg w3 hbox hb; replace H := H.newbox hg hbox hb; clear hg hbox hb; clear kg4_0 zg4_0 kg4_1 zg4_1; have kg5_0 : w3.cell? ⟨g5, 0, none⟩ = some (.bool false) := H.cell m0 0; have zg5_0 := H.frozen (g := g5) m0 0; have kg5_1 : w3.cell? ⟨g5, 1, none⟩ = some (.slice none 0 0) := H.cell m0 1; have zg5_1 := H.frozen (g := g5) m0 1; have kg4_0 : w3.cell? ⟨g4, 0, none⟩ = some (.bool false) := H.cell m1 0; have zg4_0 := H.frozen (g := g4) m1 0; have kg4_1 : w3.cell? ⟨g4, 1, none⟩ = some (.slice none 0 0) := H.cell m1 1; have zg4_1 := H.frozen (g := g4) m1 1; have ne_g5_g4 := H.ne (g := g5) (g' := g4) 0 1 rfl rfl (by decide); have ne_g4_g5 := ne_g5_g4.symm)
    | (clear st8; go_at_call 23; (with_reducible refine (ParseQ a _ x e1 hx.out).mono ?_); rintro e w5 ⟨A6, c7, rfl, hr, hb⟩; replace H := H.got (fresh_row hr) hb; clear hr hb; clear kg5_0 zg5_0 kg5_1 zg5_1 kg4_0 zg4_0 kg4_1 zg4_1; have kg5_0 : w5.cell? ⟨g5, 0, none⟩ = some (.bool false) := H.cell m0 0; have zg5_0 := H.frozen (g := g5) m0 0; have kg5_1 : w5.cell? ⟨g5, 1, none⟩ = some (.slice none 0 0) := H.cell m0 1; have zg5_1 := H.frozen (g := g5) m0 1; have kg4_0 : w5.cell? ⟨g4, 0, none⟩ = some (.bool false) := H.cell m1 0; have zg4_0 := H.frozen (g := g4) m1 0; have kg4_1 : w5.cell? ⟨g4, 1, none⟩ = some (.slice none 0 0) := H.cell m1 1; have zg4_1 := H.frozen (g := g4) m1 1))
  (try simp only [Act.put, List.setIfInBounds_toArray, List.set_cons_zero, List.set_cons_succ])
  replace H := ((H.setn [_] 0 (.bool (ng x)) rfl).setn [_] 1 (.slice A6 (ln x) c7) rfl)
  clear kg5_0 zg5_0 kg5_1 zg5_1 kg4_0 zg4_0 kg4_1 zg4_1
  generalize ((w5.setCell ⟨g4, 0, none⟩ (.bool (ng x))).setCell ⟨g4, 1, none⟩ (.slice A6 (ln x) c7)) = w9 at H ⊢
  have kg5_0 : w9.cell? ⟨g5, 0, none⟩ = some (.bool false) := H.cell m0 0
  have zg5_0 := H.frozen (g := g5) m0 0
  have kg5_1 : w9.cell? ⟨g5, 1, none⟩ = some (.slice none 0 0) := H.cell m0 1
  have zg5_1 := H.frozen (g := g5) m0 1
  have kg4_0 : w9.cell? ⟨g4, 0, none⟩ = some (.bool (ng x)) := H.cell m1 0
  have zg4_0 := H.frozen (g := g4) m1 0
  have kg4_1 : w9.cell? ⟨g4, 1, none⟩ = some (.slice A6 (ln x) c7) := H.cell m1 1
  have zg4_1 := H.frozen (g := g4) m1 1
  have st13 := trivial
  go_upto_region 5 with (first
    | (clear st13; go_at_call 23; (with_reducible refine (ParseQ b _ y e2 hy.out).mono ?_); rintro e w10 ⟨A11, c12, rfl, hr, hb⟩; replace H := H.got (fresh_row hr) hb; clear hr hb; clear kg5_0 zg5_0 kg5_1 zg5_1 kg4_0 zg4_0 kg4_1 zg4_1; have kg5_0 : w10.cell? ⟨g5, 0, none⟩ = some (.bool false) := H.cell m0 0; have zg5_0 := H.frozen (g := g5) m0 0; have kg5_1 : w10.cell? ⟨g5, 1, none⟩ = some (.slice none 0 0) := H.cell m0 1; have zg5_1 := H.frozen (g := g5) m0 1; have kg4_0 : w10.cell? ⟨g4, 0, none⟩ = some (.bool (ng x)) := H.cell m1 0; have zg4_0 := H.frozen (g := g4) m1 0; have kg4_1 : w10.cell? ⟨g4, 1, none⟩ = some (.slice A6 (ln x) c7) := H.cell m1 1; have zg4_1 := H.frozen (g := g4) m1 1))
  (try simp only [Act.put, List.setIfInBounds_toArray, List.set_cons_zero, List.set_cons_succ])
  replace H := ((H.setn [] 0 (.bool (ng y)) rfl).setn [] 1 (.slice A11 (ln y) c12) rfl)
  clear kg5_0 zg5_0 kg5_1 zg5_1 kg4_0 zg4_0 kg4_1 zg4_1
  generalize ((w10.setCell ⟨g5, 0, none⟩ (.bool (ng y))).setCell ⟨g5, 1, none⟩ (.slice A11 (ln y) c12)) = w14 at H ⊢
  have kg5_0 : w14.cell? ⟨g5, 0, none⟩ = some (.bool (ng y)) := H.cell m0 0
  have zg5_0 := H.frozen (g := g5) m0 0
  have kg5_1 : w14.cell? ⟨g5, 1, none⟩ = some (.slice A11 (ln y) c12) := H.cell m0 1
  have zg5_1 := H.frozen (g := g5) m0 1
  have kg4_0 : w14.cell? ⟨g4, 0, none⟩ = some (.bool (ng x)) := H.cell m1 0
  have zg4_0 := H.frozen (g := g4) m1 0
  have kg4_1 : w14.cell? ⟨g4, 1, none⟩ = some (.slice A6 (ln x) c7) := H.cell m1 1
  have zg4_1 := H.frozen (g := g4) m1 1
  go_region_held3 (fun w' => w'.cell? ⟨g4, 0, none⟩ = some (.bool (ng x)) ∧ w'.cell? ⟨g4, 1, none⟩ = some (.slice A6 (ln x) c7) ∧ w'.cell? ⟨g5, 0, none⟩ = some (.bool (ng y)) ∧ w'.cell? ⟨g5, 1, none⟩ = some (.slice A11 (ln y) c12)) (first | (have q : w14.cell? ⟨g4, 0, none⟩ = some (.bool (ng x)) ∧ w14.cell? ⟨g4, 1, none⟩ = some (.slice A6 (ln x) c7) ∧ w14.cell? ⟨g5, 0, none⟩ = some (.bool (ng y)) ∧ w14.cell? ⟨g5, 1, none⟩ = some (.slice A11 (ln y) c12) := ⟨H.cell m1 0, H.cell m1 1, H.cell m0 0, H.cell m0 1⟩; with_reducible exact q) | (have q : w14.drew.cell? ⟨g4, 0, none⟩ = some (.bool (ng x)) ∧ w14.drew.cell? ⟨g4, 1, none⟩ = some (.slice A6 (ln x) c7) ∧ w14.drew.cell? ⟨g5, 0, none⟩ = some (.bool (ng y)) ∧ w14.drew.cell? ⟨g5, 1, none⟩ = some (.slice A11 (ln y) c12) := ⟨H.drew.cell m1 0, H.drew.cell m1 1, H.drew.cell m0 0, H.drew.cell m0 1⟩; with_reducible exact q) | (have q : (((w14.setCell ⟨g4, 0, none⟩ (.bool (ng x))).setCell ⟨g4, 1, none⟩ (.slice A6 (ln x) c7))).cell? ⟨g4, 0, none⟩ = some (.bool (ng x)) ∧ (((w14.setCell ⟨g4, 0, none⟩ (.bool (ng x))).setCell ⟨g4, 1, none⟩ (.slice A6 (ln x) c7))).cell? ⟨g4, 1, none⟩ = some (.slice A6 (ln x) c7) ∧ (((w14.setCell ⟨g4, 0, none⟩ (.bool (ng x))).setCell ⟨g4, 1, none⟩ (.slice A6 (ln x) c7))).cell? ⟨g5, 0, none⟩ = some (.bool (ng y)) ∧ (((w14.setCell ⟨g4, 0, none⟩ (.bool (ng x))).setCell ⟨g4, 1, none⟩ (.slice A6 (ln x) c7))).cell? ⟨g5, 1, none⟩ = some (.slice A11 (ln y) c12) := ⟨((H.setn [_] 0 (.bool (ng x)) rfl).setn [_] 1 (.slice A6 (ln x) c7) rfl).cell m1 0, ((H.setn [_] 0 (.bool (ng x)) rfl).setn [_] 1 (.slice A6 (ln x) c7) rfl).cell m1 1, ((H.setn [_] 0 (.bool (ng x)) rfl).setn [_] 1 (.slice A6 (ln x) c7) rfl).cell m0 0, ((H.setn [_] 0 (.bool (ng x)) rfl).setn [_] 1 (.slice A6 (ln x) c7) rfl).cell m0 1⟩; with_reducible exact q) | (have q : (((w14.setCell ⟨g4, 0, none⟩ (.bool (ng x))).setCell ⟨g4, 1, none⟩ (.slice A6 (ln x) c7))).drew.cell? ⟨g4, 0, none⟩ = some (.bool (ng x)) ∧ (((w14.setCell ⟨g4, 0, none⟩ (.bool (ng x))).setCell ⟨g4, 1, none⟩ (.slice A6 (ln x) c7))).drew.cell? ⟨g4, 1, none⟩ = some (.slice A6 (ln x) c7) ∧ (((w14.setCell ⟨g4, 0, none⟩ (.bool (ng x))).setCell ⟨g4, 1, none⟩ (.slice A6 (ln x) c7))).drew.cell? ⟨g5, 0, none⟩ = some (.bool (ng y)) ∧ (((w14.setCell ⟨g4, 0, none⟩ (.bool (ng x))).setCell ⟨g4, 1, none⟩ (.slice A6 (ln x) c7))).drew.cell? ⟨g5, 1, none⟩ = some (.slice A11 (ln y) c12) := ⟨(((H.setn [_] 0 (.bool (ng x)) rfl).setn [_] 1 (.slice A6 (ln x) c7) rfl)).drew.cell m1 0, (((H.setn [_] 0 (.bool (ng x)) rfl).setn [_] 1 (.slice A6 (ln x) c7) rfl)).drew.cell m1 1, (((H.setn [_] 0 (.bool (ng x)) rfl).setn [_] 1 (.slice A6 (ln x) c7) rfl)).drew.cell m0 0, (((H.setn [_] 0 (.bool (ng x)) rfl).setn [_] 1 (.slice A6 (ln x) c7) rfl)).drew.cell m0 1⟩; with_reducible exact q) | (have q : ((((((w14.setCell ⟨g4, 0, none⟩ (.bool (ng x))).setCell ⟨g4, 1, none⟩ (.slice A6 (ln x) c7))).setCell ⟨g5, 0, none⟩ (.bool (ng y))).setCell ⟨g5, 1, none⟩ (.slice A11 (ln y) c12))).cell? ⟨g4, 0, none⟩ = some (.bool (ng x)) ∧ ((((((w14.setCell ⟨g4, 0, none⟩ (.bool (ng x))).setCell ⟨g4, 1, none⟩ (.slice A6 (ln x) c7))).setCell ⟨g5, 0, none⟩ (.bool (ng y))).setCell ⟨g5, 1, none⟩ (.slice A11 (ln y) c12))).cell? ⟨g4, 1, none⟩ = some (.slice A6 (ln x) c7) ∧ ((((((w14.setCell ⟨g4, 0, none⟩ (.bool (ng x))).setCell ⟨g4, 1, none⟩ (.slice A6 (ln x) c7))).setCell ⟨g5, 0, none⟩ (.bool (ng y))).setCell ⟨g5, 1, none⟩ (.slice A11 (ln y) c12))).cell? ⟨g5, 0, none⟩ = some (.bool (ng y)) ∧ ((((((w14.setCell ⟨g4, 0, none⟩ (.bool (ng x))).setCell ⟨g4, 1, none⟩ (.slice A6 (ln x) c7))).setCell ⟨g5, 0, none⟩ (.bool (ng y))).setCell ⟨g5, 1, none⟩ (.slice A11 (ln y) c12))).cell? ⟨g5, 1, none⟩ = some (.slice A11 (ln y) c12) := ⟨((((H.setn [_] 0 (.bool (ng x)) rfl).setn [_] 1 (.slice A6 (ln x) c7) rfl).setn [] 0 (.bool (ng y)) rfl).setn [] 1 (.slice A11 (ln y) c12) rfl).cell m1 0, ((((H.setn [_] 0 (.bool (ng x)) rfl).setn [_] 1 (.slice A6 (ln x) c7) rfl).setn [] 0 (.bool (ng y)) rfl).setn [] 1 (.slice A11 (ln y) c12) rfl).cell m1 1, ((((H.setn [_] 0 (.bool (ng x)) rfl).setn [_] 1 (.slice A6 (ln x) c7) rfl).setn [] 0 (.bool (ng y)) rfl).setn [] 1 (.slice A11 (ln y) c12) rfl).cell m0 0, ((((H.setn [_] 0 (.bool (ng x)) rfl).setn [_] 1 (.slice A6 (ln x) c7) rfl).setn [] 0 (.bool (ng y)) rfl).setn [] 1 (.slice A11 (ln y) c12) rfl).cell m0 1⟩; with_reducible exact q) | (have q : ((((((w14.setCell ⟨g4, 0, none⟩ (.bool (ng x))).setCell ⟨g4, 1, none⟩ (.slice A6 (ln x) c7))).setCell ⟨g5, 0, none⟩ (.bool (ng y))).setCell ⟨g5, 1, none⟩ (.slice A11 (ln y) c12))).drew.cell? ⟨g4, 0, none⟩ = some (.bool (ng x)) ∧ ((((((w14.setCell ⟨g4, 0, none⟩ (.bool (ng x))).setCell ⟨g4, 1, none⟩ (.slice A6 (ln x) c7))).setCell ⟨g5, 0, none⟩ (.bool (ng y))).setCell ⟨g5, 1, none⟩ (.slice A11 (ln y) c12))).drew.cell? ⟨g4, 1, none⟩ = some (.slice A6 (ln x) c7) ∧ ((((((w14.setCell ⟨g4, 0, none⟩ (.bool (ng x))).setCell ⟨g4, 1, none⟩ (.slice A6 (ln x) c7))).setCell ⟨g5, 0, none⟩ (.bool (ng y))).setCell ⟨g5, 1, none⟩ (.slice A11 (ln y) c12))).drew.cell? ⟨g5, 0, none⟩ = some (.bool (ng y)) ∧ ((((((w14.setCell ⟨g4, 0, none⟩ (.bool (ng x))).setCell ⟨g4, 1, none⟩ (.slice A6 (ln x) c7))).setCell ⟨g5, 0, none⟩ (.bool (ng y))).setCell ⟨g5, 1, none⟩ (.slice A11 (ln y) c12))).drew.cell? ⟨g5, 1, none⟩ = some (.slice A11 (ln y) c12) := ⟨(((((H.setn [_] 0 (.bool (ng x)) rfl).setn [_] 1 (.slice A6 (ln x) c7) rfl).setn [] 0 (.bool (ng y)) rfl).setn [] 1 (.slice A11 (ln y) c12) rfl)).drew.cell m1 0, (((((H.setn [_] 0 (.bool (ng x)) rfl).setn [_] 1 (.slice A6 (ln x) c7) rfl).setn [] 0 (.bool (ng y)) rfl).setn [] 1 (.slice A11 (ln y) c12) rfl)).drew.cell m1 1, (((((H.setn [_] 0 (.bool (ng x)) rfl).setn [_] 1 (.slice A6 (ln x) c7) rfl).setn [] 0 (.bool (ng y)) rfl).setn [] 1 (.slice A11 (ln y) c12) rfl)).drew.cell m0 0, (((((H.setn [_] 0 (.bool (ng x)) rfl).setn [_] 1 (.slice A6 (ln x) c7) rfl).setn [] 0 (.bool (ng y)) rfl).setn [] 1 (.slice A11 (ln y) c12) rfl)).drew.cell m0 1⟩; with_reducible exact q) | fail) (fail)
  try go_wp2
  replace H := ((((H.setn [_] 0 (.bool (ng x)) rfl).setn [_] 1 (.slice A6 (ln x) c7) rfl).setn [] 0 (.bool (ng y)) rfl).setn [] 1 (.slice A11 (ln y) c12) rfl).drew
  refine bodyPost_ret (results_list (rs := [.cell 4 25, .cell 5 25, .tmp 6]) rfl (by simp) (.cell g4 25 #[.bool (ng x), .slice A6 (ln x) c7] (0, 0) _ rfl (H.blk m1) Try.underlying25 rfl (by kernel_rfl) (.cell g5 25 #[.bool (ng y), .slice A11 (ln y) c12] (0, 0) _ rfl (H.blk m0) Try.underlying25 rfl (by kernel_rfl) (.tmp .nil)))) rfl ?_
  exact ⟨A6, c7, A11, c12, rfl, (H.ret m1).mono (fun k hk => hk.resolve_left id), (H.ret m0).mono (fun k hk => hk.resolve_left id), H.below⟩

/-- Both texts are short, and each is a number's. -/
def Both (a b : ByteArray) (x y : Int) : Prop := a.size ≤ 80 ∧ b.size ≤ 80 ∧ pr a = (x, 0) ∧ pr b = (y, 0)
theorem two_ok {a b : ByteArray} {x y : Int} (h : Both a b x y) (w : World) : Calls Try.prog 33 #[.string a, .string b] w (RetTwo w x y true) := two_yes a b w x y h.1 h.2.1 0 0 rfl rfl ⟨h.2.2.1⟩ ⟨h.2.2.2⟩
theorem two_not (a b : ByteArray) (h : ¬ ∃ x y, Both a b x y) : ∃ x y, ∀ w, Calls Try.prog 33 #[.string a, .string b] w (RetTwo w x y false) := by
  by_cases ha : 80 < a.size
  · exact ⟨0, 0, fun w => two_a a b w ha⟩
  by_cases hb : 80 < b.size
  · exact ⟨0, 0, fun w => two_b a b w (by omega) hb⟩
  refine ⟨(pr a).1, (pr b).1, fun w => ?_⟩
  by_cases e1 : (pr a).2 = 0
  · by_cases e2 : (pr b).2 = 0
    · exact absurd ⟨(pr a).1, (pr b).1, by omega, by omega, by rw [← e1], by rw [← e2]⟩ h
    · exact two_no2 a b w _ _ (by omega) (by omega) (pr a).2 (pr b).2 (beq_iff_eq.mpr e1) (beq_eq_false_iff_ne.mpr e2) ⟨rfl⟩ ⟨rfl⟩
  · exact two_no1 a b w _ _ (by omega) (by omega) (pr a).2 (pr b).2 (beq_eq_false_iff_ne.mpr e1) ⟨rfl⟩ ⟨rfl⟩
/-- The numbers of short texts are small. -/
theorem pr_small {a : ByteArray} {x e : Int} (h : pr a = (x, e)) (ha : a.size ≤ 80) : ln x ≤ 10 := by
  unfold pr at h
  rw [if_neg (by omega)] at h
  split at h
  · injection h with h1 h2
    rw [← h1]
    exact Nat.zero_le _
  · next hn =>
    have hd : Dg (cutS a) 0 (cutS a).size := Classical.not_not.mp (fun h' => hn (.inr (.inr h')))
    have hb := pc_bound hd
    have hs := cutS_size a
    injection h with h1 h2
    refine ln_bound _ _ ?_
    have e : x.natAbs = (pc (cutS a) 0 (cutS a).size).natAbs := by rw [← h1]; split <;> simp
    have e3 : (10 : Nat) ^ (cutS a).size ≤ 10 ^ 80 := Nat.pow_le_pow_right (by omega) (by omega)
    have e4 : (10 : Nat) ^ 80 ≤ 4294967296 ^ 10 := by decide
    rw [e]
    refine Nat.lt_of_lt_of_le (Int.ofNat_lt.mp (?_ : (((pc (cutS a) 0 (cutS a).size).natAbs : Nat) : Int) < ((10 ^ (cutS a).size : Nat) : Int))) (Nat.le_trans e3 e4)
    rw [Int.natAbs_of_nonneg hb.1, Int.natCast_pow]
    exact hb.2

theorem two_any (a b : ByteArray) : ∃ x y q, ∀ w, Calls Try.prog 33 #[.string a, .string b] w (RetTwo w x y q) := by
  by_cases h : ∃ x y, Both a b x y
  · obtain ⟨x, y, h⟩ := h; exact ⟨x, y, true, fun w => two_ok h w⟩
  · obtain ⟨x, y, h⟩ := two_not a b h; exact ⟨x, y, false, h⟩
theorem both_small {a b : ByteArray} {x y : Int} (h : Both a b x y) : ln x ≤ 10 ∧ ln y ≤ 10 := ⟨pr_small h.2.2.1 h.1, pr_small h.2.2.2 h.2.1⟩

end Go.Proofs.Ytdkapdgbfejgdaa
