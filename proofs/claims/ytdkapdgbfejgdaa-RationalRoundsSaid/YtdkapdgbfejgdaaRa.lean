/- rational.Make, must, Frac. -/
import Derived.Test.YtdkapdgbfejgdaaGc
namespace Go.Proofs.Ytdkapdgbfejgdaa
open Go.RowKit Go.Proofs.YtdkapdgbfejgdaaW.PrintWords Go.Proofs.YtdkapdgbfejgdaaW.PrintLast Go.Proofs.YtdkapdgbfejgdaaW.PrintMore
set_option linter.unusedSimpArgs false
set_option linter.unusedVariables false
set_option maxHeartbeats 8000000
set_option maxRecDepth 100000

/-- Which of n operations have run. -/
def bm (n k : Nat) : Array Bool := ((List.range n).map (fun i => k.testBit i)).toArray
/-- What two cells hold. -/
theorem Sit.b2 {w0 w : World} {ok : Nat → Prop} {bs : List (Nat × Obj)} {fs : List Rw} (h : Sit w0 w ok bs fs) {g : Nat} {a b : Value} {t : TypeId} (hm : (g, Obj.cells #[a, b] t (0, 0)) ∈ bs) :
    w.cell? ⟨g, 0, none⟩ = some a ∧ w.frozen? ⟨g, 0, none⟩ = false ∧ w.cell? ⟨g, 1, none⟩ = some b ∧ w.frozen? ⟨g, 1, none⟩ = false := ⟨h.cell hm 0, h.frozen hm 0, h.cell hm 1, h.frozen hm 1⟩
theorem Sit.b4 {w0 w : World} {ok : Nat → Prop} {bs : List (Nat × Obj)} {fs : List Rw} (h : Sit w0 w ok bs fs) {g : Nat} {a b c d : Value} {t : TypeId} (hm : (g, Obj.cells #[a, b, c, d] t (0, 0)) ∈ bs) :
    w.cell? ⟨g, 0, none⟩ = some a ∧ w.frozen? ⟨g, 0, none⟩ = false ∧ w.cell? ⟨g, 1, none⟩ = some b ∧ w.frozen? ⟨g, 1, none⟩ = false ∧ w.cell? ⟨g, 2, none⟩ = some c ∧ w.frozen? ⟨g, 2, none⟩ = false ∧ w.cell? ⟨g, 3, none⟩ = some d ∧ w.frozen? ⟨g, 3, none⟩ = false :=
  ⟨h.cell hm 0, h.frozen hm 0, h.cell hm 1, h.frozen hm 1, h.cell hm 2, h.frozen hm 2, h.cell hm 3, h.frozen hm 3⟩
/-- It returns the fraction with the parts n and d. -/
def RetQ (w : World) (ok : Nat → Prop) (n d : Int) (e : Ending) (w' : World) : Prop :=
  ∃ A c B b, e = .returned (.agg #[.bool (ng n), .slice A (ln n) c, .bool (ng d), .slice B (ln d) b]) ∧ (bw A c n).at w' (fun k => ok k ∨ w.heap.size ≤ k) ∧ (bw B b d).at w' (fun k => ok k ∨ w.heap.size ≤ k) ∧ Below w.heap.size w w'
/-- It returns the fraction with the parts n and d, and an error's number. -/
def RetQE (w : World) (ok : Nat → Prop) (n d err : Int) (e : Ending) (w' : World) : Prop :=
  ∃ A c B b, e = .returned (.tuple #[.agg #[.bool (ng n), .slice A (ln n) c, .bool (ng d), .slice B (ln d) b], .int .i64 err]) ∧ (bw A c n).at w' (fun k => ok k ∨ w.heap.size ≤ k) ∧ (bw B b d).at w' (fun k => ok k ∨ w.heap.size ≤ k) ∧ Below w.heap.size w w'
def qn (n d : Int) : Int := if d = 0 then 0 else (if d < 0 then -n else n).tdiv ((Int.gcd n d : Nat) : Int)
def qd (n d : Int) : Int := if d = 0 then 0 else (if d < 0 then -d else d).tdiv ((Int.gcd n d : Nat) : Int)
def qe (d : Int) : Int := if d = 0 then 9 else 0


theorem Make_zero {A B : Option Addr} {c b : Nat} {n d : Int} {w : World} {ok : Nat → Prop} (hf : (bw A c n).at w ok) (hf' : (bw B b d).at w ok) (hn : ln n ≤ 10000000) (hd : ln d ≤ 10000000) (hs : Aside0 (sg d = 0)) : Calls Try.prog 63 #[.agg #[.bool (ng n), .slice A (ln n) c], .agg #[.bool (ng d), .slice B (ln d) b]] w (RetQE w ok 0 0 9) := by
  have hu25 := Try.underlying25
  have hu51 := Try.underlying51
  have H := ((Sit.start w ok).arg hf).arg hf'
  have bn := Aside0.mk hn
  have bd := Aside0.mk hd
  clear hf hf' hn hd
  go_enter Try.func63, Try.ntmps63
  have st2 := trivial
  have st4 := trivial
  have st6 := trivial
  have st8 := trivial
  go_wp2_with (first
    | (clear st2; (with_reducible refine gate_dst (N := 2) rfl ?_); refine box_event ?hg (N := 2) ?hd (cs := #[.bool (ng n), .slice A (ln n) c]) (t := 25) ?hr ?_; (case hd => rfl); (case hg => rfl); (case hr => go_simp; try rfl); intro g2 hg w1 hbox hb; replace H := H.newbox hg hbox hb; clear hg hbox hb; obtain ⟨k2_0, z2_0, k2_1, z2_1⟩ := H.b2 (g := g2) m0)
    | (clear st4; (with_reducible refine gate_dst (N := 3) rfl ?_); refine box_event ?hg (N := 3) ?hd (cs := #[.bool (ng d), .slice B (ln d) b]) (t := 25) ?hr ?_; (case hd => rfl); (case hg => rfl); (case hr => go_simp; try rfl); intro g3 hg w3 hbox hb; replace H := H.newbox hg hbox hb; clear hg hbox hb; clear k2_0 z2_0 k2_1 z2_1; obtain ⟨k3_0, z3_0, k3_1, z3_1⟩ := H.b2 (g := g3) m0; obtain ⟨k2_0, z2_0, k2_1, z2_1⟩ := H.b2 (g := g2) m1; have ne_g3_g2 := H.ne (g := g3) (g' := g2) 0 1 rfl rfl (by decide); have ne_g2_g3 := ne_g3_g2.symm)
    | (clear st6; (with_reducible refine gate_dst (N := 4) rfl ?_); refine box_event ?hg (N := 4) ?hd (cs := #[.bool false, .slice none 0 0, .bool false, .slice none 0 0]) (t := 51) ?hr ?_; (case hd => rfl); (case hg => rfl); (case hr => go_simp; try rfl); intro g4 hg w5 hbox hb; replace H := H.newbox hg hbox hb; clear hg hbox hb; clear k3_0 z3_0 k3_1 z3_1 k2_0 z2_0 k2_1 z2_1; obtain ⟨k4_0, z4_0, k4_1, z4_1, k4_2, z4_2, k4_3, z4_3⟩ := H.b4 (g := g4) m0; obtain ⟨k3_0, z3_0, k3_1, z3_1⟩ := H.b2 (g := g3) m1; obtain ⟨k2_0, z2_0, k2_1, z2_1⟩ := H.b2 (g := g2) m2; have ne_g4_g3 := H.ne (g := g4) (g' := g3) 0 1 rfl rfl (by decide); have ne_g3_g4 := ne_g4_g3.symm; have ne_g4_g2 := H.ne (g := g4) (g' := g2) 0 2 rfl rfl (by decide); have ne_g2_g4 := ne_g4_g2.symm)
    | (clear st8; go_at_call 25; (with_reducible refine (SignQ _ _ _ (lim bd.out (by decide)) 0 hs.out).mono ?_); rintro e w7 ⟨rfl, hb⟩; replace H := H.call hb; clear hb; clear k4_0 z4_0 k4_1 z4_1 k4_2 z4_2 k4_3 z4_3 k3_0 z3_0 k3_1 z3_1 k2_0 z2_0 k2_1 z2_1; obtain ⟨k4_0, z4_0, k4_1, z4_1, k4_2, z4_2, k4_3, z4_3⟩ := H.b4 (g := g4) m0; obtain ⟨k3_0, z3_0, k3_1, z3_1⟩ := H.b2 (g := g3) m1; obtain ⟨k2_0, z2_0, k2_1, z2_1⟩ := H.b2 (g := g2) m2))
  replace H := H.nilrow
  replace H := ((((H.setn [] 0 (.bool false) rfl).setn [] 1 (.slice none 0 0) rfl).setn [] 2 (.bool false) rfl).setn [] 3 (.slice none 0 0) rfl)
  refine bodyPost_ret (results_list (rs := [.cell 4 51, .tmp 5]) rfl (by simp) (.cell g4 51 #[.bool false, .slice none 0 0, .bool false, .slice none 0 0] (0, 0) _ rfl (H.blk m0) Try.underlying51 rfl (by kernel_rfl) (.tmp .nil))) rfl ?_
  exact ⟨none, 0, none, 0, rfl, H.ret m0, H.ret m0, H.below⟩

theorem Make_pos {A B : Option Addr} {c b : Nat} {n d : Int} {w : World} {ok : Nat → Prop} (hf : (bw A c n).at w ok) (hf' : (bw B b d).at w ok) (hn : ln n ≤ 10000000) (hd : ln d ≤ 10000000) (gg rn rd xr yr : Int) (bgg : Aside0 (ln gg ≤ 10000000)) (hg0 : Aside0 (gg ≠ 0)) (hgg : Aside0 (((Int.gcd n d : Nat) : Int) = gg)) (hrn : Aside0 (n.tdiv gg = rn)) (hxr : Aside0 (n.tmod gg = xr)) (hrd : Aside0 (d.tdiv gg = rd)) (hyr : Aside0 (d.tmod gg = yr)) (hs : Aside0 (sg d = 1)) : Calls Try.prog 63 #[.agg #[.bool (ng n), .slice A (ln n) c], .agg #[.bool (ng d), .slice B (ln d) b]] w (RetQE w ok rn rd 0) := by
  have hu25 := Try.underlying25
  have hu51 := Try.underlying51
  have H := ((Sit.start w ok).arg hf).arg hf'
  have bn := Aside0.mk hn
  have bd := Aside0.mk hd
  clear hf hf' hn hd
  go_enter Try.func63, Try.ntmps63
  have st2 := trivial
  have st4 := trivial
  have st6 := trivial
  have st8 := trivial
  have st10 := trivial
  have st14 := trivial
  have st16 := trivial
  go_upto_region 6 with (first
    | (clear st2; (with_reducible refine gate_dst (N := 2) rfl ?_); refine box_event ?hg (N := 2) ?hd (cs := #[.bool (ng n), .slice A (ln n) c]) (t := 25) ?hr ?_; (case hd => rfl); (case hg => rfl); (case hr => go_simp; try rfl); intro g2 hg w1 hbox hb; replace H := H.newbox hg hbox hb; clear hg hbox hb; obtain ⟨k2_0, z2_0, k2_1, z2_1⟩ := H.b2 (g := g2) m0)
    | (clear st4; (with_reducible refine gate_dst (N := 3) rfl ?_); refine box_event ?hg (N := 3) ?hd (cs := #[.bool (ng d), .slice B (ln d) b]) (t := 25) ?hr ?_; (case hd => rfl); (case hg => rfl); (case hr => go_simp; try rfl); intro g3 hg w3 hbox hb; replace H := H.newbox hg hbox hb; clear hg hbox hb; clear k2_0 z2_0 k2_1 z2_1; obtain ⟨k3_0, z3_0, k3_1, z3_1⟩ := H.b2 (g := g3) m0; obtain ⟨k2_0, z2_0, k2_1, z2_1⟩ := H.b2 (g := g2) m1; have ne_g3_g2 := H.ne (g := g3) (g' := g2) 0 1 rfl rfl (by decide); have ne_g2_g3 := ne_g3_g2.symm)
    | (clear st6; (with_reducible refine gate_dst (N := 4) rfl ?_); refine box_event ?hg (N := 4) ?hd (cs := #[.bool false, .slice none 0 0, .bool false, .slice none 0 0]) (t := 51) ?hr ?_; (case hd => rfl); (case hg => rfl); (case hr => go_simp; try rfl); intro g4 hg w5 hbox hb; replace H := H.newbox hg hbox hb; clear hg hbox hb; clear k3_0 z3_0 k3_1 z3_1 k2_0 z2_0 k2_1 z2_1; obtain ⟨k4_0, z4_0, k4_1, z4_1, k4_2, z4_2, k4_3, z4_3⟩ := H.b4 (g := g4) m0; obtain ⟨k3_0, z3_0, k3_1, z3_1⟩ := H.b2 (g := g3) m1; obtain ⟨k2_0, z2_0, k2_1, z2_1⟩ := H.b2 (g := g2) m2; have ne_g4_g3 := H.ne (g := g4) (g' := g3) 0 1 rfl rfl (by decide); have ne_g3_g4 := ne_g4_g3.symm; have ne_g4_g2 := H.ne (g := g4) (g' := g2) 0 2 rfl rfl (by decide); have ne_g2_g4 := ne_g4_g2.symm)
    | (clear st8; go_at_call 25; (with_reducible refine (SignQ _ _ _ (lim bd.out (by decide)) 1 hs.out).mono ?_); rintro e w7 ⟨rfl, hb⟩; replace H := H.call hb; clear hb; clear k4_0 z4_0 k4_1 z4_1 k4_2 z4_2 k4_3 z4_3 k3_0 z3_0 k3_1 z3_1 k2_0 z2_0 k2_1 z2_1; obtain ⟨k4_0, z4_0, k4_1, z4_1, k4_2, z4_2, k4_3, z4_3⟩ := H.b4 (g := g4) m0; obtain ⟨k3_0, z3_0, k3_1, z3_1⟩ := H.b2 (g := g3) m1; obtain ⟨k2_0, z2_0, k2_1, z2_1⟩ := H.b2 (g := g2) m2)
    | (clear st10; go_at_call 25; (with_reducible refine (SignQ _ _ _ (lim bd.out (by decide)) 1 hs.out).mono ?_); rintro e w9 ⟨rfl, hb⟩; replace H := H.call hb; clear hb; clear k4_0 z4_0 k4_1 z4_1 k4_2 z4_2 k4_3 z4_3 k3_0 z3_0 k3_1 z3_1 k2_0 z2_0 k2_1 z2_1; obtain ⟨k4_0, z4_0, k4_1, z4_1, k4_2, z4_2, k4_3, z4_3⟩ := H.b4 (g := g4) m0; obtain ⟨k3_0, z3_0, k3_1, z3_1⟩ := H.b2 (g := g3) m1; obtain ⟨k2_0, z2_0, k2_1, z2_1⟩ := H.b2 (g := g2) m2)
    | (clear st14; go_at_call 61; (with_reducible refine (GcdQ (H.row _ m1) (H.row _ m0) (lim bn.out (by decide)) (lim bd.out (by decide)) gg hgg.out).mono ?_); rintro e w11 ⟨A12, c13, rfl, hr, hb⟩; replace H := H.got hr hb; clear hr hb; clear k4_0 z4_0 k4_1 z4_1 k4_2 z4_2 k4_3 z4_3 k3_0 z3_0 k3_1 z3_1 k2_0 z2_0 k2_1 z2_1; obtain ⟨k4_0, z4_0, k4_1, z4_1, k4_2, z4_2, k4_3, z4_3⟩ := H.b4 (g := g4) m0; obtain ⟨k3_0, z3_0, k3_1, z3_1⟩ := H.b2 (g := g3) m1; obtain ⟨k2_0, z2_0, k2_1, z2_1⟩ := H.b2 (g := g2) m2)
    | (clear st16; (with_reducible refine gate_dst (N := 6) rfl ?_); refine box_event ?hg (N := 6) ?hd (cs := #[.bool false, .slice none 0 0]) (t := 25) ?hr ?_; (case hd => rfl); (case hg => rfl); (case hr => go_simp; try rfl); intro g6 hg w15 hbox hb; replace H := H.newbox hg hbox hb; clear hg hbox hb; clear k4_0 z4_0 k4_1 z4_1 k4_2 z4_2 k4_3 z4_3 k3_0 z3_0 k3_1 z3_1 k2_0 z2_0 k2_1 z2_1; obtain ⟨k6_0, z6_0, k6_1, z6_1⟩ := H.b2 (g := g6) m0; obtain ⟨k4_0, z4_0, k4_1, z4_1, k4_2, z4_2, k4_3, z4_3⟩ := H.b4 (g := g4) m1; obtain ⟨k3_0, z3_0, k3_1, z3_1⟩ := H.b2 (g := g3) m2; obtain ⟨k2_0, z2_0, k2_1, z2_1⟩ := H.b2 (g := g2) m3; have ne_g6_g4 := H.ne (g := g6) (g' := g4) 0 1 rfl rfl (by decide); have ne_g4_g6 := ne_g6_g4.symm; have ne_g6_g3 := H.ne (g := g6) (g' := g3) 0 2 rfl rfl (by decide); have ne_g3_g6 := ne_g6_g3.symm; have ne_g6_g2 := H.ne (g := g6) (g' := g2) 0 3 rfl rfl (by decide); have ne_g2_g6 := ne_g6_g2.symm))
  (try simp only [Act.put, List.setIfInBounds_toArray, List.set_cons_zero, List.set_cons_succ])
  replace H := ((H.setn [] 0 (.bool (ng gg)) rfl).setn [] 1 (.slice A12 (ln gg) c13) rfl)
  clear k6_0 z6_0 k6_1 z6_1 k4_0 z4_0 k4_1 z4_1 k4_2 z4_2 k4_3 z4_3 k3_0 z3_0 k3_1 z3_1 k2_0 z2_0 k2_1 z2_1
  generalize ((w15.setCell ⟨g6, 0, none⟩ (.bool (ng gg))).setCell ⟨g6, 1, none⟩ (.slice A12 (ln gg) c13)) = w17 at H ⊢
  obtain ⟨k6_0, z6_0, k6_1, z6_1⟩ := H.b2 (g := g6) m0
  obtain ⟨k4_0, z4_0, k4_1, z4_1, k4_2, z4_2, k4_3, z4_3⟩ := H.b4 (g := g4) m1
  obtain ⟨k3_0, z3_0, k3_1, z3_1⟩ := H.b2 (g := g3) m2
  obtain ⟨k2_0, z2_0, k2_1, z2_1⟩ := H.b2 (g := g2) m3
  have st23 := trivial
  go_upto_region 7 with (first
    | (clear st23; go_at_call 32; (with_reducible refine (DivQ (H.row _ m2) (H.row _ m0) (lim bn.out (by decide)) (lim bgg.out (by decide)) hg0.out rn xr hrn.out hxr.out).mono ?_); rintro e w18 ⟨A19, c20, A21, c22, rfl, hr, hr2, hb⟩; replace H := (H.got hr hb).more ((H.got hr2 hb).row _ m0); clear hr hr2 hb; clear k6_0 z6_0 k6_1 z6_1 k4_0 z4_0 k4_1 z4_1 k4_2 z4_2 k4_3 z4_3 k3_0 z3_0 k3_1 z3_1 k2_0 z2_0 k2_1 z2_1; obtain ⟨k6_0, z6_0, k6_1, z6_1⟩ := H.b2 (g := g6) m0; obtain ⟨k4_0, z4_0, k4_1, z4_1, k4_2, z4_2, k4_3, z4_3⟩ := H.b4 (g := g4) m1; obtain ⟨k3_0, z3_0, k3_1, z3_1⟩ := H.b2 (g := g3) m2; obtain ⟨k2_0, z2_0, k2_1, z2_1⟩ := H.b2 (g := g2) m3))
  (try simp only [Act.put, List.setIfInBounds_toArray, List.set_cons_zero, List.set_cons_succ])
  replace H := ((H.setn [_, _, _] 0 (.bool (ng rn)) rfl).setn [_, _, _] 1 (.slice A19 (ln rn) c20) rfl)
  clear k6_0 z6_0 k6_1 z6_1 k4_0 z4_0 k4_1 z4_1 k4_2 z4_2 k4_3 z4_3 k3_0 z3_0 k3_1 z3_1 k2_0 z2_0 k2_1 z2_1
  generalize ((w18.setCell ⟨g2, 0, none⟩ (.bool (ng rn))).setCell ⟨g2, 1, none⟩ (.slice A19 (ln rn) c20)) = w24 at H ⊢
  obtain ⟨k6_0, z6_0, k6_1, z6_1⟩ := H.b2 (g := g6) m0
  obtain ⟨k4_0, z4_0, k4_1, z4_1, k4_2, z4_2, k4_3, z4_3⟩ := H.b4 (g := g4) m1
  obtain ⟨k3_0, z3_0, k3_1, z3_1⟩ := H.b2 (g := g3) m2
  obtain ⟨k2_0, z2_0, k2_1, z2_1⟩ := H.b2 (g := g2) m3
  have st30 := trivial
  go_upto_region 8 with (first
    | (clear st30; go_at_call 32; (with_reducible refine (DivQ (H.row _ m3) (H.row _ m2) (lim bd.out (by decide)) (lim bgg.out (by decide)) hg0.out rd yr hrd.out hyr.out).mono ?_); rintro e w25 ⟨A26, c27, A28, c29, rfl, hr, hr2, hb⟩; replace H := (H.got hr hb).more ((H.got hr2 hb).row _ m0); clear hr hr2 hb; clear k6_0 z6_0 k6_1 z6_1 k4_0 z4_0 k4_1 z4_1 k4_2 z4_2 k4_3 z4_3 k3_0 z3_0 k3_1 z3_1 k2_0 z2_0 k2_1 z2_1; obtain ⟨k6_0, z6_0, k6_1, z6_1⟩ := H.b2 (g := g6) m0; obtain ⟨k4_0, z4_0, k4_1, z4_1, k4_2, z4_2, k4_3, z4_3⟩ := H.b4 (g := g4) m1; obtain ⟨k3_0, z3_0, k3_1, z3_1⟩ := H.b2 (g := g3) m2; obtain ⟨k2_0, z2_0, k2_1, z2_1⟩ := H.b2 (g := g2) m3))
  (try simp only [Act.put, List.setIfInBounds_toArray, List.set_cons_zero, List.set_cons_succ])
  replace H := ((H.setn [_, _] 0 (.bool (ng rd)) rfl).setn [_, _] 1 (.slice A26 (ln rd) c27) rfl)
  clear k6_0 z6_0 k6_1 z6_1 k4_0 z4_0 k4_1 z4_1 k4_2 z4_2 k4_3 z4_3 k3_0 z3_0 k3_1 z3_1 k2_0 z2_0 k2_1 z2_1
  generalize ((w25.setCell ⟨g3, 0, none⟩ (.bool (ng rd))).setCell ⟨g3, 1, none⟩ (.slice A26 (ln rd) c27)) = w31 at H ⊢
  obtain ⟨k6_0, z6_0, k6_1, z6_1⟩ := H.b2 (g := g6) m0
  obtain ⟨k4_0, z4_0, k4_1, z4_1, k4_2, z4_2, k4_3, z4_3⟩ := H.b4 (g := g4) m1
  obtain ⟨k3_0, z3_0, k3_1, z3_1⟩ := H.b2 (g := g3) m2
  obtain ⟨k2_0, z2_0, k2_1, z2_1⟩ := H.b2 (g := g2) m3
  go_wp2
  replace H := ((((H.setn [_] 0 (.bool (ng rn)) rfl).setn [_] 1 (.slice A19 (ln rn) c20) rfl).setn [_] 2 (.bool (ng rd)) rfl).setn [_] 3 (.slice A26 (ln rd) c27) rfl)
  refine bodyPost_ret (results_list (rs := [.cell 4 51, .tmp 5]) rfl (by simp) (.cell g4 51 #[.bool (ng rn), .slice A19 (ln rn) c20, .bool (ng rd), .slice A26 (ln rd) c27] (0, 0) _ rfl (H.blk m1) Try.underlying51 rfl (by kernel_rfl) (.tmp .nil))) rfl ?_
  exact ⟨A19, c20, A26, c27, rfl, H.ret m3, H.ret m1, H.below⟩


theorem Make_neg {A B : Option Addr} {c b : Nat} {n d : Int} {w : World} {ok : Nat → Prop} (hf : (bw A c n).at w ok) (hf' : (bw B b d).at w ok) (hn : ln n ≤ 10000000) (hd : ln d ≤ 10000000) (gg rn rd xr yr : Int) (bgg : Aside0 (ln gg ≤ 10000000)) (hg0 : Aside0 (gg ≠ 0)) (n2 d2 : Int) (hn2 : Aside0 (-n = n2)) (hd2 : Aside0 (-d = d2)) (bn2 : Aside0 (ln n2 ≤ 10000000)) (bd2 : Aside0 (ln d2 ≤ 10000000)) (hgg : Aside0 (((Int.gcd n2 d2 : Nat) : Int) = gg)) (hrn : Aside0 (n2.tdiv gg = rn)) (hxr : Aside0 (n2.tmod gg = xr)) (hrd : Aside0 (d2.tdiv gg = rd)) (hyr : Aside0 (d2.tmod gg = yr)) (hs : Aside0 (sg d = -1)) : Calls Try.prog 63 #[.agg #[.bool (ng n), .slice A (ln n) c], .agg #[.bool (ng d), .slice B (ln d) b]] w (RetQE w ok rn rd 0) := by
  have hu25 := Try.underlying25
  have hu51 := Try.underlying51
  have H := ((Sit.start w ok).arg hf).arg hf'
  have bn := Aside0.mk hn
  have bd := Aside0.mk hd
  clear hf hf' hn hd
  go_enter Try.func63, Try.ntmps63
  have st2 := trivial
  have st4 := trivial
  have st6 := trivial
  have st8 := trivial
  have st10 := trivial
  go_upto_region 4 with (first
    | (clear st2; (with_reducible refine gate_dst (N := 2) rfl ?_); refine box_event ?hg (N := 2) ?hd (cs := #[.bool (ng n), .slice A (ln n) c]) (t := 25) ?hr ?_; (case hd => rfl); (case hg => rfl); (case hr => go_simp; try rfl); intro g2 hg w1 hbox hb; replace H := H.newbox hg hbox hb; clear hg hbox hb; obtain ⟨k2_0, z2_0, k2_1, z2_1⟩ := H.b2 (g := g2) m0)
    | (clear st4; (with_reducible refine gate_dst (N := 3) rfl ?_); refine box_event ?hg (N := 3) ?hd (cs := #[.bool (ng d), .slice B (ln d) b]) (t := 25) ?hr ?_; (case hd => rfl); (case hg => rfl); (case hr => go_simp; try rfl); intro g3 hg w3 hbox hb; replace H := H.newbox hg hbox hb; clear hg hbox hb; clear k2_0 z2_0 k2_1 z2_1; obtain ⟨k3_0, z3_0, k3_1, z3_1⟩ := H.b2 (g := g3) m0; obtain ⟨k2_0, z2_0, k2_1, z2_1⟩ := H.b2 (g := g2) m1; have ne_g3_g2 := H.ne (g := g3) (g' := g2) 0 1 rfl rfl (by decide); have ne_g2_g3 := ne_g3_g2.symm)
    | (clear st6; (with_reducible refine gate_dst (N := 4) rfl ?_); refine box_event ?hg (N := 4) ?hd (cs := #[.bool false, .slice none 0 0, .bool false, .slice none 0 0]) (t := 51) ?hr ?_; (case hd => rfl); (case hg => rfl); (case hr => go_simp; try rfl); intro g4 hg w5 hbox hb; replace H := H.newbox hg hbox hb; clear hg hbox hb; clear k3_0 z3_0 k3_1 z3_1 k2_0 z2_0 k2_1 z2_1; obtain ⟨k4_0, z4_0, k4_1, z4_1, k4_2, z4_2, k4_3, z4_3⟩ := H.b4 (g := g4) m0; obtain ⟨k3_0, z3_0, k3_1, z3_1⟩ := H.b2 (g := g3) m1; obtain ⟨k2_0, z2_0, k2_1, z2_1⟩ := H.b2 (g := g2) m2; have ne_g4_g3 := H.ne (g := g4) (g' := g3) 0 1 rfl rfl (by decide); have ne_g3_g4 := ne_g4_g3.symm; have ne_g4_g2 := H.ne (g := g4) (g' := g2) 0 2 rfl rfl (by decide); have ne_g2_g4 := ne_g4_g2.symm)
    | (clear st8; go_at_call 25; (with_reducible refine (SignQ _ _ _ (lim bd.out (by decide)) (-1) hs.out).mono ?_); rintro e w7 ⟨rfl, hb⟩; replace H := H.call hb; clear hb; clear k4_0 z4_0 k4_1 z4_1 k4_2 z4_2 k4_3 z4_3 k3_0 z3_0 k3_1 z3_1 k2_0 z2_0 k2_1 z2_1; obtain ⟨k4_0, z4_0, k4_1, z4_1, k4_2, z4_2, k4_3, z4_3⟩ := H.b4 (g := g4) m0; obtain ⟨k3_0, z3_0, k3_1, z3_1⟩ := H.b2 (g := g3) m1; obtain ⟨k2_0, z2_0, k2_1, z2_1⟩ := H.b2 (g := g2) m2)
    | (clear st10; go_at_call 25; (with_reducible refine (SignQ _ _ _ (lim bd.out (by decide)) (-1) hs.out).mono ?_); rintro e w9 ⟨rfl, hb⟩; replace H := H.call hb; clear hb; clear k4_0 z4_0 k4_1 z4_1 k4_2 z4_2 k4_3 z4_3 k3_0 z3_0 k3_1 z3_1 k2_0 z2_0 k2_1 z2_1; obtain ⟨k4_0, z4_0, k4_1, z4_1, k4_2, z4_2, k4_3, z4_3⟩ := H.b4 (g := g4) m0; obtain ⟨k3_0, z3_0, k3_1, z3_1⟩ := H.b2 (g := g3) m1; obtain ⟨k2_0, z2_0, k2_1, z2_1⟩ := H.b2 (g := g2) m2))
  (try simp only [Act.put, List.setIfInBounds_toArray, List.set_cons_zero, List.set_cons_succ])
  clear k4_0 z4_0 k4_1 z4_1 k4_2 z4_2 k4_3 z4_3 k3_0 z3_0 k3_1 z3_1 k2_0 z2_0 k2_1 z2_1
  replace H := H.drew
  refine start_ (n := 6) (S := fun w' => w'.cell? ⟨g2, 0, none⟩ = some (.bool (ng n)) ∧ w'.cell? ⟨g2, 1, none⟩ = some (.slice A (ln n) c) ∧ w'.cell? ⟨g3, 0, none⟩ = some (.bool (ng d)) ∧ w'.cell? ⟨g3, 1, none⟩ = some (.slice B (ln d) b)) (ds := [4, 5]) #[false, false, false, false, false, false] (by kernel_rfl) rfl rfl ⟨H.cell m2 0, H.cell m2 1, H.cell m1 0, H.cell m1 1⟩ (fun hQ => ?_)
  generalize w9.drew = w11 at H hQ ⊢
  refine take_ (i := 0) (N := some 14) (v := ?_) (a' := ?_) #[true, false, false, false, false, false] rfl rfl (by kernel_rfl) (fun _ _ _ h => h) (Or.inl ⟨by rfl, ?_⟩) hQ ?_ ?_
  rotate_left
  · rintro w' ⟨s0, s1, s2, s3⟩
    go_simp
    with_reducible rfl
  rotate_left
  · simp only [Act.put, List.setIfInBounds_toArray, List.set_cons_zero, List.set_cons_succ, i64_w, i32_w]
    rfl
  refine take_ (i := 2) (N := some 16) (v := ?_) (a' := ?_) #[true, false, true, false, false, false] rfl rfl (by kernel_rfl) (fun _ _ _ h => h) (Or.inl ⟨by rfl, ?_⟩) hQ ?_ ?_
  rotate_left
  · rintro w' ⟨s0, s1, s2, s3⟩
    go_simp
    with_reducible rfl
  rotate_left
  · simp only [Act.put, List.setIfInBounds_toArray, List.set_cons_zero, List.set_cons_succ, i64_w, i32_w]
    rfl
  refine one_ (i := 1) (N := some 15) #[true, true, true, false, false, false] rfl rfl (by kernel_rfl) (by decide) (fun K hK => ?_)
  refine goes_ Try.func37 (by kernel_rfl) rfl #[.agg #[.bool (ng n), .slice A (ln n) c]] (by rfl) rfl rfl (by simp only [List.map_toArray, List.map_cons, List.map_nil]; try rfl) ?_
  with_reducible refine (NegQ (H.row _ m1) (lim bn.out (by decide)) n2 hn2.out).mono ?_
  rintro e w12 ⟨A13, c14, rfl, hr, hb⟩
  replace H := H.got hr hb
  clear hr hb
  refine ⟨_, rfl, ?_⟩
  refine hK.out _ _ ⟨H.cell m2 0, H.cell m2 1, H.cell m1 0, H.cell m1 1⟩ (fun hQ => ?_)
  clear hK K
  refine norm_ (a' := ?_) ?_ ?_
  rotate_left
  · show Act.put _ (some 15) _ = _
    simp only [Act.put, List.setIfInBounds_toArray, List.set_cons_zero, List.set_cons_succ, i64_w, i32_w]
    rfl
  refine one_ (i := 3) (N := some 17) #[true, true, true, true, false, false] rfl rfl (by kernel_rfl) (by decide) (fun K hK => ?_)
  refine goes_ Try.func37 (by kernel_rfl) rfl #[.agg #[.bool (ng d), .slice B (ln d) b]] (by rfl) rfl rfl (by simp only [List.map_toArray, List.map_cons, List.map_nil]; try rfl) ?_
  with_reducible refine (NegQ (H.row _ m1) (lim bd.out (by decide)) d2 hd2.out).mono ?_
  rintro e w15 ⟨A16, c17, rfl, hr, hb⟩
  replace H := H.got hr hb
  clear hr hb
  refine ⟨_, rfl, ?_⟩
  refine hK.out _ _ ⟨H.cell m2 0, H.cell m2 1, H.cell m1 0, H.cell m1 1⟩ (fun hQ => ?_)
  clear hK K
  refine norm_ (a' := ?_) ?_ ?_
  rotate_left
  · show Act.put _ (some 17) _ = _
    simp only [Act.put, List.setIfInBounds_toArray, List.set_cons_zero, List.set_cons_succ, i64_w, i32_w]
    rfl
  refine last_ (i := 4) (N := none) #[true, true, true, true, true, false] rfl rfl (by kernel_rfl) (by decide) (fun K hK => ?_)
  obtain ⟨k3_0, z3_0, k3_1, z3_1⟩ := H.b2 (g := g3) m1
  obtain ⟨k2_0, z2_0, k2_1, z2_1⟩ := H.b2 (g := g2) m2
  refine skip_ (w1 := ?_) (by rfl) rfl ?_ ?_
  rotate_left
  · go_simp
    rfl
  refine hK.out _ _ ?_
  clear hK K
  refine last_ (i := 5) (N := none) #[true, true, true, true, true, true] rfl rfl (by kernel_rfl) (by decide) (fun K hK => ?_)
  refine skip_ (w1 := ?_) (by rfl) rfl ?_ ?_
  rotate_left
  · go_simp
    rfl
  refine hK.out _ _ ?_
  clear hK K
  refine done_ (by kernel_rfl) ?_
  try clear hQ
  replace H := ((((H.setn [_, _] 0 (.bool (ng n2)) rfl).setn [_, _] 1 (.slice A13 (ln n2) c14) rfl).setn [_] 0 (.bool (ng d2)) rfl).setn [_] 1 (.slice A16 (ln d2) c17) rfl)
  clear k3_0 z3_0 k3_1 z3_1 k2_0 z2_0 k2_1 z2_1
  generalize ((((w15.setCell ⟨g2, 0, none⟩ (.bool (ng n2))).setCell ⟨g2, 1, none⟩ (.slice A13 (ln n2) c14)).setCell ⟨g3, 0, none⟩ (.bool (ng d2))).setCell ⟨g3, 1, none⟩ (.slice A16 (ln d2) c17)) = w18 at H ⊢
  obtain ⟨k4_0, z4_0, k4_1, z4_1, k4_2, z4_2, k4_3, z4_3⟩ := H.b4 (g := g4) m0
  obtain ⟨k3_0, z3_0, k3_1, z3_1⟩ := H.b2 (g := g3) m1
  obtain ⟨k2_0, z2_0, k2_1, z2_1⟩ := H.b2 (g := g2) m2
  have st22 := trivial
  have st24 := trivial
  go_upto_region 6 with (first
    | (clear st22; go_at_call 61; (with_reducible refine (GcdQ (H.row _ m1) (H.row _ m0) (lim bn2.out (by decide)) (lim bd2.out (by decide)) gg hgg.out).mono ?_); rintro e w19 ⟨A20, c21, rfl, hr, hb⟩; replace H := H.got hr hb; clear hr hb; clear k4_0 z4_0 k4_1 z4_1 k4_2 z4_2 k4_3 z4_3 k3_0 z3_0 k3_1 z3_1 k2_0 z2_0 k2_1 z2_1; obtain ⟨k4_0, z4_0, k4_1, z4_1, k4_2, z4_2, k4_3, z4_3⟩ := H.b4 (g := g4) m0; obtain ⟨k3_0, z3_0, k3_1, z3_1⟩ := H.b2 (g := g3) m1; obtain ⟨k2_0, z2_0, k2_1, z2_1⟩ := H.b2 (g := g2) m2)
    | (clear st24; (with_reducible refine gate_dst (N := 6) rfl ?_); refine box_event ?hg (N := 6) ?hd (cs := #[.bool false, .slice none 0 0]) (t := 25) ?hr ?_; (case hd => rfl); (case hg => rfl); (case hr => go_simp; try rfl); intro g6 hg w23 hbox hb; replace H := H.newbox hg hbox hb; clear hg hbox hb; clear k4_0 z4_0 k4_1 z4_1 k4_2 z4_2 k4_3 z4_3 k3_0 z3_0 k3_1 z3_1 k2_0 z2_0 k2_1 z2_1; obtain ⟨k6_0, z6_0, k6_1, z6_1⟩ := H.b2 (g := g6) m0; obtain ⟨k4_0, z4_0, k4_1, z4_1, k4_2, z4_2, k4_3, z4_3⟩ := H.b4 (g := g4) m1; obtain ⟨k3_0, z3_0, k3_1, z3_1⟩ := H.b2 (g := g3) m2; obtain ⟨k2_0, z2_0, k2_1, z2_1⟩ := H.b2 (g := g2) m3; have ne_g6_g4 := H.ne (g := g6) (g' := g4) 0 1 rfl rfl (by decide); have ne_g4_g6 := ne_g6_g4.symm; have ne_g6_g3 := H.ne (g := g6) (g' := g3) 0 2 rfl rfl (by decide); have ne_g3_g6 := ne_g6_g3.symm; have ne_g6_g2 := H.ne (g := g6) (g' := g2) 0 3 rfl rfl (by decide); have ne_g2_g6 := ne_g6_g2.symm))
  (try simp only [Act.put, List.setIfInBounds_toArray, List.set_cons_zero, List.set_cons_succ])
  replace H := ((H.setn [] 0 (.bool (ng gg)) rfl).setn [] 1 (.slice A20 (ln gg) c21) rfl)
  clear k6_0 z6_0 k6_1 z6_1 k4_0 z4_0 k4_1 z4_1 k4_2 z4_2 k4_3 z4_3 k3_0 z3_0 k3_1 z3_1 k2_0 z2_0 k2_1 z2_1
  generalize ((w23.setCell ⟨g6, 0, none⟩ (.bool (ng gg))).setCell ⟨g6, 1, none⟩ (.slice A20 (ln gg) c21)) = w25 at H ⊢
  obtain ⟨k6_0, z6_0, k6_1, z6_1⟩ := H.b2 (g := g6) m0
  obtain ⟨k4_0, z4_0, k4_1, z4_1, k4_2, z4_2, k4_3, z4_3⟩ := H.b4 (g := g4) m1
  obtain ⟨k3_0, z3_0, k3_1, z3_1⟩ := H.b2 (g := g3) m2
  obtain ⟨k2_0, z2_0, k2_1, z2_1⟩ := H.b2 (g := g2) m3
  have st31 := trivial
  go_upto_region 7 with (first
    | (clear st31; go_at_call 32; (with_reducible refine (DivQ (H.row _ m2) (H.row _ m0) (lim bn2.out (by decide)) (lim bgg.out (by decide)) hg0.out rn xr hrn.out hxr.out).mono ?_); rintro e w26 ⟨A27, c28, A29, c30, rfl, hr, hr2, hb⟩; replace H := (H.got hr hb).more ((H.got hr2 hb).row _ m0); clear hr hr2 hb; clear k6_0 z6_0 k6_1 z6_1 k4_0 z4_0 k4_1 z4_1 k4_2 z4_2 k4_3 z4_3 k3_0 z3_0 k3_1 z3_1 k2_0 z2_0 k2_1 z2_1; obtain ⟨k6_0, z6_0, k6_1, z6_1⟩ := H.b2 (g := g6) m0; obtain ⟨k4_0, z4_0, k4_1, z4_1, k4_2, z4_2, k4_3, z4_3⟩ := H.b4 (g := g4) m1; obtain ⟨k3_0, z3_0, k3_1, z3_1⟩ := H.b2 (g := g3) m2; obtain ⟨k2_0, z2_0, k2_1, z2_1⟩ := H.b2 (g := g2) m3))
  (try simp only [Act.put, List.setIfInBounds_toArray, List.set_cons_zero, List.set_cons_succ])
  replace H := ((H.setn [_, _, _] 0 (.bool (ng rn)) rfl).setn [_, _, _] 1 (.slice A27 (ln rn) c28) rfl)
  clear k6_0 z6_0 k6_1 z6_1 k4_0 z4_0 k4_1 z4_1 k4_2 z4_2 k4_3 z4_3 k3_0 z3_0 k3_1 z3_1 k2_0 z2_0 k2_1 z2_1
  generalize ((w26.setCell ⟨g2, 0, none⟩ (.bool (ng rn))).setCell ⟨g2, 1, none⟩ (.slice A27 (ln rn) c28)) = w32 at H ⊢
  obtain ⟨k6_0, z6_0, k6_1, z6_1⟩ := H.b2 (g := g6) m0
  obtain ⟨k4_0, z4_0, k4_1, z4_1, k4_2, z4_2, k4_3, z4_3⟩ := H.b4 (g := g4) m1
  obtain ⟨k3_0, z3_0, k3_1, z3_1⟩ := H.b2 (g := g3) m2
  obtain ⟨k2_0, z2_0, k2_1, z2_1⟩ := H.b2 (g := g2) m3
  have st38 := trivial
  go_upto_region 8 with (first
    | (clear st38; go_at_call 32; (with_reducible refine (DivQ (H.row _ m3) (H.row _ m2) (lim bd2.out (by decide)) (lim bgg.out (by decide)) hg0.out rd yr hrd.out hyr.out).mono ?_); rintro e w33 ⟨A34, c35, A36, c37, rfl, hr, hr2, hb⟩; replace H := (H.got hr hb).more ((H.got hr2 hb).row _ m0); clear hr hr2 hb; clear k6_0 z6_0 k6_1 z6_1 k4_0 z4_0 k4_1 z4_1 k4_2 z4_2 k4_3 z4_3 k3_0 z3_0 k3_1 z3_1 k2_0 z2_0 k2_1 z2_1; obtain ⟨k6_0, z6_0, k6_1, z6_1⟩ := H.b2 (g := g6) m0; obtain ⟨k4_0, z4_0, k4_1, z4_1, k4_2, z4_2, k4_3, z4_3⟩ := H.b4 (g := g4) m1; obtain ⟨k3_0, z3_0, k3_1, z3_1⟩ := H.b2 (g := g3) m2; obtain ⟨k2_0, z2_0, k2_1, z2_1⟩ := H.b2 (g := g2) m3))
  (try simp only [Act.put, List.setIfInBounds_toArray, List.set_cons_zero, List.set_cons_succ])
  replace H := ((H.setn [_, _] 0 (.bool (ng rd)) rfl).setn [_, _] 1 (.slice A34 (ln rd) c35) rfl)
  clear k6_0 z6_0 k6_1 z6_1 k4_0 z4_0 k4_1 z4_1 k4_2 z4_2 k4_3 z4_3 k3_0 z3_0 k3_1 z3_1 k2_0 z2_0 k2_1 z2_1
  generalize ((w33.setCell ⟨g3, 0, none⟩ (.bool (ng rd))).setCell ⟨g3, 1, none⟩ (.slice A34 (ln rd) c35)) = w39 at H ⊢
  obtain ⟨k6_0, z6_0, k6_1, z6_1⟩ := H.b2 (g := g6) m0
  obtain ⟨k4_0, z4_0, k4_1, z4_1, k4_2, z4_2, k4_3, z4_3⟩ := H.b4 (g := g4) m1
  obtain ⟨k3_0, z3_0, k3_1, z3_1⟩ := H.b2 (g := g3) m2
  obtain ⟨k2_0, z2_0, k2_1, z2_1⟩ := H.b2 (g := g2) m3
  go_wp2
  replace H := ((((H.setn [_] 0 (.bool (ng rn)) rfl).setn [_] 1 (.slice A27 (ln rn) c28) rfl).setn [_] 2 (.bool (ng rd)) rfl).setn [_] 3 (.slice A34 (ln rd) c35) rfl)
  refine bodyPost_ret (results_list (rs := [.cell 4 51, .tmp 5]) rfl (by simp) (.cell g4 51 #[.bool (ng rn), .slice A27 (ln rn) c28, .bool (ng rd), .slice A34 (ln rd) c35] (0, 0) _ rfl (H.blk m1) Try.underlying51 rfl (by kernel_rfl) (.tmp .nil))) rfl ?_
  exact ⟨A27, c28, A34, c35, rfl, H.ret m3, H.ret m1, H.below⟩

theorem MakeQ {A B : Option Addr} {c b : Nat} {n d : Int} {w : World} {ok : Nat → Prop} (hf : (bw A c n).at w ok) (hf' : (bw B b d).at w ok) (hn : ln n ≤ 10000000) (hd : ln d ≤ 10000000) (rn rd err : Int) (h1 : qn n d = rn) (h2 : qd n d = rd) (h3 : qe d = err) : Calls Try.prog 63 #[.agg #[.bool (ng n), .slice A (ln n) c], .agg #[.bool (ng d), .slice B (ln d) b]] w (RetQE w ok rn rd err) := by
  subst h1 h2 h3
  unfold qn qd qe
  by_cases h0 : d = 0
  · subst h0
    rw [if_pos rfl, if_pos rfl, if_pos rfl]
    exact Make_zero hf hf' hn hd ⟨rfl⟩
  · rw [if_neg h0, if_neg h0, if_neg h0]
    have hg : 0 < Int.gcd n d := Nat.gcd_pos_of_pos_right _ (by omega)
    have bg : ln ((Int.gcd n d : Nat) : Int) ≤ 10000000 := bAbs hd (by rw [Int.natAbs_natCast]; exact Nat.gcd_le_right _ (by omega))
    by_cases h1 : d < 0
    · rw [if_pos h1, if_pos h1]
      exact Make_neg hf hf' hn hd _ _ _ _ _ ⟨bg⟩ ⟨by omega⟩ _ _ ⟨rfl⟩ ⟨rfl⟩ ⟨by rw [ln_neg]; exact hn⟩ ⟨by rw [ln_neg]; exact hd⟩ ⟨by rw [Int.neg_gcd, Int.gcd_neg]⟩ ⟨rfl⟩ ⟨rfl⟩ ⟨rfl⟩ ⟨rfl⟩ ⟨by unfold sg; rw [if_pos h1]⟩
    · rw [if_neg h1, if_neg h1]
      exact Make_pos hf hf' hn hd _ _ _ _ _ ⟨bg⟩ ⟨by omega⟩ ⟨rfl⟩ ⟨rfl⟩ ⟨rfl⟩ ⟨rfl⟩ ⟨rfl⟩ ⟨by unfold sg; rw [if_neg h1, if_neg h0]⟩

end Go.Proofs.Ytdkapdgbfejgdaa
