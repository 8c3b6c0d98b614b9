/- bigint.Int.Div where the divisor has one digit. -/
import Derived.Test.YtdkapdgbfejgdaaYc
/- bigint.Int.Div where the divisor is 0, or greater than the dividend, or has one digit. -/
namespace Go.Proofs.Ytdkapdgbfejgdaa
open Go.RowKit Go.Proofs.YtdkapdgbfejgdaaW.PrintWords Go.Proofs.YtdkapdgbfejgdaaW.PrintLast Go.Proofs.YtdkapdgbfejgdaaW.PrintMore
set_option linter.unusedSimpArgs false
set_option linter.unusedVariables false

/-- A literal slice. -/
theorem lit_event {P : Program} {ops : Array Oper} {Q : Exit → Act → World → Prop} {rest : List Oper} {o : Oper} {a : Act} {W : World} (hgd : o.guard = none) {N : Tmp} (_hd : o.dst = some N) {cs : Array Value} {t : TypeId} {n : Nat}
    (hrun : (execOp a.eval o).run P W = .ok (.value (.slice (some ⟨W.heap.size, 0, none⟩) n n)) (W.alloc (.cells cs t (0, 0))))
    (h : ∀ g, g = W.heap.size → ∀ w1, w1.heap[g]? = some (.cells cs t (0, 0)) → Below W.heap.size W w1 → wpList P ops Q rest (a.put o.dst (.slice (some ⟨g, 0, none⟩) n n)) w1) : wpList P ops Q (o :: rest) a W :=
  Kd.event_run hgd hrun (h _ rfl _ (blk_new W _) (below_alloc (Below.refl _ _) _))

theorem Sit.ne01 {w0 w : World} {ok : Nat → Prop} {g g' : Nat} {b b' : Obj} {bs : List (Nat × Obj)} {fs : List Rw} (h : Sit w0 w ok ((g, b) :: (g', b') :: bs) fs) : g ≠ g' := by
  have := h.nd
  simp only [List.map_cons, List.nodup_cons, List.mem_cons, not_or] at this
  exact this.1.1

theorem div_sign {m n : Int} (h : n ≠ 0) : m.tdiv n = if (!(ng m == ng n)) = true then -(vl 4294967296 (dg 4294967296 (m.natAbs / n.natAbs))) else vl 4294967296 (dg 4294967296 (m.natAbs / n.natAbs)) := by
  rw [vl_dgn]
  unfold ng
  by_cases a : m < 0 <;> by_cases b : n < 0
  · obtain ⟨x, rfl⟩ : ∃ x : Nat, m = -(x : Int) := ⟨m.natAbs, by omega⟩
    obtain ⟨y, rfl⟩ : ∃ y : Nat, n = -(y : Int) := ⟨n.natAbs, by omega⟩
    simp [a, b, Int.tdiv_neg, Int.neg_tdiv, Int.natAbs_neg]
    intro hh; exact absurd ⟨fun _ => by omega, fun _ => by omega⟩ hh
  · obtain ⟨x, rfl⟩ : ∃ x : Nat, m = -(x : Int) := ⟨m.natAbs, by omega⟩
    obtain ⟨y, rfl⟩ : ∃ y : Nat, n = (y : Int) := ⟨n.natAbs, by omega⟩
    simp [a, b, Int.tdiv_neg, Int.neg_tdiv, Int.natAbs_neg]
    intro hh; omega
  · obtain ⟨x, rfl⟩ : ∃ x : Nat, m = (x : Int) := ⟨m.natAbs, by omega⟩
    obtain ⟨y, rfl⟩ : ∃ y : Nat, n = -(y : Int) := ⟨n.natAbs, by omega⟩
    simp [a, b, Int.tdiv_neg, Int.neg_tdiv, Int.natAbs_neg]
    intro hh; omega
  · obtain ⟨x, rfl⟩ : ∃ x : Nat, m = (x : Int) := ⟨m.natAbs, by omega⟩
    obtain ⟨y, rfl⟩ : ∃ y : Nat, n = (y : Int) := ⟨n.natAbs, by omega⟩
    simp [a, b]
theorem tmod_nat (x : Nat) (n : Int) : ((x : Int)).tmod n = ((x % n.natAbs : Nat) : Int) := by
  rcases Int.natAbs_eq n with e | e
  · rw [e, Int.tmod_eq_emod_of_nonneg (by omega), Int.natAbs_natCast]; exact (Int.natCast_emod _ _).symm
  · rw [e, Int.tmod_neg, Int.tmod_eq_emod_of_nonneg (by omega), Int.natAbs_neg, Int.natAbs_natCast]; exact (Int.natCast_emod _ _).symm
theorem rem_sign {m n : Int} (h : n ≠ 0) : m.tmod n = if (ng m) = true then -((m.natAbs % n.natAbs : Nat) : Int) else ((m.natAbs % n.natAbs : Nat) : Int) := by
  unfold ng
  by_cases a : m < 0
  · obtain ⟨x, rfl⟩ : ∃ x : Nat, m = -(x : Int) := ⟨m.natAbs, by omega⟩
    rw [decide_eq_true a, if_pos rfl, Int.neg_tmod, Int.natAbs_neg, tmod_nat]; rfl
  · obtain ⟨x, rfl⟩ : ∃ x : Nat, m = (x : Int) := ⟨m.natAbs, by omega⟩
    rw [decide_eq_false a, if_neg (by simp), tmod_nat]; rfl

/-- It returns quotient, remainder and an error's number. -/
def RetD (w : World) (ok : Nat → Prop) (q r err : Int) (e : Ending) (w' : World) : Prop :=
  ∃ A c A' c', e = .returned (.tuple #[.agg #[.bool (ng q), .slice A (ln q) c], .agg #[.bool (ng r), .slice A' (ln r) c'], .int .i64 err]) ∧
    (bw A c q).at w' (fun k => ok k ∨ w.heap.size ≤ k) ∧ (bw A' c' r).at w' (fun k => ok k ∨ w.heap.size ≤ k) ∧ Below w.heap.size w w'

theorem bw_nil (w : World) (ok : Nat → Prop) : (bw none 0 0).at w ok := ⟨Nat.le_refl _, Kd.F_nil _ _ _⟩
theorem Sit.nilrow {w0 w : World} {ok : Nat → Prop} {bs : List (Nat × Obj)} {fs : List Rw} (h : Sit w0 w ok bs fs) : Sit w0 w ok bs (bw none 0 0 :: fs) := h.more (bw_nil _ _)

set_option maxHeartbeats 4000000 in
set_option maxRecDepth 100000 in
theorem Div_small (A A' : Option Addr) (c c' : Nat) (m n : Int) (w : World) (ok : Nat → Prop) (hf : (bw A c m).at w ok) (hf' : (bw A' c' n).at w ok) (hm : ln m ≤ 10000000) (hn : ln n ≤ 10000000) (h0 : n ≠ 0) (hlt : m.natAbs < n.natAbs) : Calls Try.prog 32 #[.agg #[.bool (ng m), .slice A (ln m) c], .agg #[.bool (ng n), .slice A' (ln n) c']] w (RetD w ok (m.tdiv n) (m.tmod n) 0) := by
  have hu25 := Try.underlying25
  have H := (((Sit.start w ok).arg hf).arg hf').nilrow
  clear hf hf'
  have l0 := ln_pos h0
  have p1 : ((ln n : Int) == 0) = false := by simp; omega
  have p2 : (ln n == 0) = false := by simp; omega
  have CE := Aside0.mk (show cmp3 m.natAbs n.natAbs = -1 from cmp3_lt (by omega))
  have VQ := Aside0.mk (show m.tdiv n = if (!(ng m == ng n)) = true then -(vl 4294967296 []) else vl 4294967296 [] by
    have : m.tdiv n = 0 := by
      rw [← Int.natAbs_eq_zero, Int.natAbs_tdiv]; exact Nat.div_eq_of_lt hlt
    rw [this]; simp [vl])
  have hrm : m.tmod n = m := by
    have h1 := Int.mul_tdiv_add_tmod m n
    have : m.tdiv n = 0 := by
      rw [← Int.natAbs_eq_zero, Int.natAbs_tdiv]; exact Nat.div_eq_of_lt hlt
    rw [this] at h1; simpa using h1
  have VR := Aside0.mk (show m.tmod n = if (ng m) = true then -(vl 4294967296 (digs m)) else vl 4294967296 (digs m) by
    rw [hrm, digs_vl]; unfold ng
    by_cases a : m < 0 <;> simp [a] <;> omega)
  clear h0 hlt hrm
  go_enter Try.func32, Try.ntmps32
  go_wp2_with (first
    | ((with_reducible refine gate_dst (N := 2) rfl ?_); refine box_event ?hg (N := 2) ?hd (cs := #[.bool (ng m), .slice A (ln m) c]) (t := 25) ?hr ?_; (case hd => rfl); (case hg => rfl); (case hr => go_simp; try rfl); intro g1 hg w1 hbox hb; replace H := H.newbox hg hbox hb; clear hg hbox hb)
    | ((with_reducible refine gate_dst (N := 3) rfl ?_); refine box_event ?hg (N := 3) ?hd (cs := #[.bool (ng n), .slice A' (ln n) c']) (t := 25) ?hr ?_; (case hd => rfl); (case hg => rfl); (case hr => go_simp; try rfl); intro g2 hg w2 hbox hb; replace H := H.newbox hg hbox hb; clear hg hbox hb)
    | ((with_reducible refine gate_dst (N := 4) rfl ?_); refine box_event ?hg (N := 4) ?hd (cs := #[.bool false, .slice none 0 0]) (t := 25) ?hr ?_; (case hd => rfl); (case hg => rfl); (case hr => go_simp; try rfl); intro g3 hg w3 hbox hb; replace H := H.newbox hg hbox hb; clear hg hbox hb)
    | ((with_reducible refine gate_dst (N := 5) rfl ?_); refine box_event ?hg (N := 5) ?hd (cs := #[.bool false, .slice none 0 0]) (t := 25) ?hr ?_; (case hd => rfl); (case hg => rfl); (case hr => go_simp; try rfl); intro g4 hg w4 hbox hb; replace H := H.newbox hg hbox hb; clear hg hbox hb; have kx_0 : w4.cell? ⟨g1, 0, none⟩ = some (.bool (ng m)) := H.cell m3 0; have kx_1 : w4.cell? ⟨g1, 1, none⟩ = some (.slice A (ln m) c) := H.cell m3 1; have ky_0 : w4.cell? ⟨g2, 0, none⟩ = some (.bool (ng n)) := H.cell m2 0; have ky_1 : w4.cell? ⟨g2, 1, none⟩ = some (.slice A' (ln n) c') := H.cell m2 1; have kz_0 : w4.cell? ⟨g3, 0, none⟩ = some (.bool false) := H.cell m1 0; have kz_1 : w4.cell? ⟨g3, 1, none⟩ = some (.slice none 0 0) := H.cell m1 1; have kzz_0 := H.frozen (g := g3) m1 0; have kzz_1 := H.frozen (g := g3) m1 1; have ku_0 : w4.cell? ⟨g4, 0, none⟩ = some (.bool false) := H.cell m0 0; have ku_1 : w4.cell? ⟨g4, 1, none⟩ = some (.slice none 0 0) := H.cell m0 1; have kuz_0 := H.frozen (g := g4) m0 0; have kuz_1 := H.frozen (g := g4) m0 1; have ne1 := H.ne01; have ne2 := H.ne01.symm)
    | (go_at_call 81; (with_reducible refine (compareI (H.row _ m2) (H.row _ m1) hm (-1) CE.out).mono ?_); rintro e w5 ⟨rfl, hb⟩; replace H := H.call hb; clear hb kx_0 kx_1 ky_0 ky_1 kz_0 kz_1 ku_0 ku_1 kzz_0 kzz_1 kuz_0 kuz_1; have kx_0 : w5.cell? ⟨g1, 0, none⟩ = some (.bool (ng m)) := H.cell m3 0; have kx_1 : w5.cell? ⟨g1, 1, none⟩ = some (.slice A (ln m) c) := H.cell m3 1; have ky_0 : w5.cell? ⟨g2, 0, none⟩ = some (.bool (ng n)) := H.cell m2 0; have ky_1 : w5.cell? ⟨g2, 1, none⟩ = some (.slice A' (ln n) c') := H.cell m2 1))
  go_region_held3 (fun w' => w'.cell? ⟨g1, 0, none⟩ = some (.bool (ng m)) ∧ w'.cell? ⟨g1, 1, none⟩ = some (.slice A (ln m) c) ∧ w'.cell? ⟨g2, 0, none⟩ = some (.bool (ng n)) ∧ w'.cell? ⟨g2, 1, none⟩ = some (.slice A' (ln n) c')) (first
      | exact ⟨H.cell m3 0, H.cell m3 1, H.cell m2 0, H.cell m2 1⟩
      | (have H' := (((H.setn [_] 0 (.bool (ng (m.tdiv n))) rfl).setn [_] 1 (.slice A5 (ln (m.tdiv n)) c5) rfl).setn [] 0 (.bool (ng (m.tmod n))) rfl).setn [] 1 (.slice A6 (ln (m.tmod n)) c6) rfl; exact ⟨H'.cell m3 0, H'.cell m3 1, H'.cell m2 0, H'.cell m2 1⟩)
      | (have H' := (H.setn [_] 0 (.bool (ng (m.tdiv n))) rfl).setn [_] 1 (.slice A5 (ln (m.tdiv n)) c5) rfl; exact ⟨H'.cell m3 0, H'.cell m3 1, H'.cell m2 0, H'.cell m2 1⟩)
      | fail)
    (first
     | (go_at_call 78; (with_reducible refine (signedN (l := []) (k := 0) rfl (Okd.nil _) (by omega) (H.drew.row _ m0) VQ.out).mono ?_); rintro e w8 ⟨A5, c5, rfl, hr, hb⟩; replace H := H.drew.got hr hb; clear hr hb)
     | (go_at_call 78; (with_reducible refine (signedN (l := digs m) (k := ln m) rfl (digs_okd m) (by omega) (H.row _ m3) VR.out).mono ?_); rintro e w9 ⟨A6, c6, rfl, hr, hb⟩; replace H := H.got hr hb; clear hr hb; have kz_0 : w9.cell? ⟨g3, 0, none⟩ = some (.bool false) := H.cell m1 0; have kz_1 : w9.cell? ⟨g3, 1, none⟩ = some (.slice none 0 0) := H.cell m1 1; have kzz_0 := H.frozen (g := g3) m1 0; have kzz_1 := H.frozen (g := g3) m1 1; have ku_0 : w9.cell? ⟨g4, 0, none⟩ = some (.bool false) := H.cell m0 0; have ku_1 : w9.cell? ⟨g4, 1, none⟩ = some (.slice none 0 0) := H.cell m0 1; have kuz_0 := H.frozen (g := g4) m0 0; have kuz_1 := H.frozen (g := g4) m0 1)
     | fail)
  go_wp2
  replace H := (((H.setn [_] 0 (.bool (ng (m.tdiv n))) rfl).setn [_] 1 (.slice A5 (ln (m.tdiv n)) c5) rfl).setn [] 0 (.bool (ng (m.tmod n))) rfl).setn [] 1 (.slice A6 (ln (m.tmod n)) c6) rfl
  refine bodyPost_ret (results_list (rs := [.cell 4 25, .cell 5 25, .tmp 6]) rfl (by simp) (.cell g3 25 #[.bool (ng (m.tdiv n)), .slice A5 (ln (m.tdiv n)) c5] (0, 0) _ rfl (H.blk m1) Try.underlying25 rfl (by kernel_rfl) (.cell g4 25 #[.bool (ng (m.tmod n)), .slice A6 (ln (m.tmod n)) c6] (0, 0) _ rfl (H.blk m0) Try.underlying25 rfl (by kernel_rfl) (.tmp .nil)))) rfl ?_
  exact ⟨A5, c5, A6, c6, rfl, H.ret m1, H.ret m0, H.below⟩

end Go.Proofs.Ytdkapdgbfejgdaa

/- bigint.Int.Div where the divisor has one digit. -/
namespace Go.Proofs.Ytdkapdgbfejgdaa
open Go.RowKit Go.Proofs.YtdkapdgbfejgdaaW.PrintWords Go.Proofs.YtdkapdgbfejgdaaW.PrintLast Go.Proofs.YtdkapdgbfejgdaaW.PrintMore
set_option linter.unusedSimpArgs false
set_option linter.unusedVariables false

theorem shortI {A : Option Addr} {c : Nat} {m d : Int} {w : World} {ok : Nat → Prop} (hf : (bw A c m).at w ok) (hm : ln m ≤ 10000000) (d0 : 1 ≤ d) (d1 : d < 4294967296) (q : List Int) (r : Int) (hq : dg 4294967296 (m.natAbs / d.toNat) = q) (hr : ((m.natAbs % d.toNat : Nat) : Int) = r) :
    Calls Try.prog 76 #[.slice A (ln m) c, .int .u32 d] w (RetLD w q r) := by
  obtain ⟨k, rfl⟩ := Int.eq_ofNat_of_zero_le (show 0 ≤ d by omega)
  exact short_ok A c (digs m) q k r w ok (digs_okd m) hm d0 d1 hf (by rw [digs_vl, ← hq]; rfl) (by rw [digs_vl, ← hr]; rfl)
theorem ln_one {n : Int} (h : ln n = 1) : digs n = [(n.natAbs : Int)] ∧ 1 ≤ n.natAbs ∧ n.natAbs < 4294967296 := by
  have hv := digs_vl n
  have ho := digs_okd n
  have hne : n ≠ 0 := fun e => by rw [e] at h; simp [ln_zero] at h
  unfold ln at h
  match hd : digs n, h with
  | [d], _ =>
    rw [hd] at hv ho
    have := ho.head
    simp [vl] at hv
    exact ⟨by rw [hv], by omega, by omega⟩

set_option maxHeartbeats 4000000 in
set_option maxRecDepth 100000 in
theorem Div_one (A A' : Option Addr) (c c' : Nat) (m n : Int) (w : World) (ok : Nat → Prop) (hf : (bw A c m).at w ok) (hf' : (bw A' c' n).at w ok) (hm : ln m ≤ 10000000) (hn : ln n ≤ 10000000) (h1 : ln n = 1) (hge : n.natAbs ≤ m.natAbs) : Calls Try.prog 32 #[.agg #[.bool (ng m), .slice A (ln m) c], .agg #[.bool (ng n), .slice A' (ln n) c']] w (RetD w ok (m.tdiv n) (m.tmod n) 0) := by
  have hu25 := Try.underlying25
  have H := (((Sit.start w ok).arg hf).arg hf').nilrow
  clear hf hf'
  obtain ⟨hd, d0, d1⟩ := ln_one h1
  have p1 : ((ln n : Int) == 0) = false := by simp; omega
  have p2 : (ln n == 0) = false := by simp; omega
  have hp0 : (0 : Int) < (ln n : Int) := by omega
  have hp1 : 0 < ln n := by omega
  have p3 : ((ln n : Int) == 1) = true := by simp; omega
  have p4 : (ln n == 1) = true := by simp; omega
  obtain ⟨u, CE, hu⟩ : ∃ u, Aside0 (cmp3 m.natAbs n.natAbs = u) ∧ 0 ≤ u := by
    refine ⟨_, ⟨rfl⟩, ?_⟩
    unfold cmp3; split
    · omega
    · split <;> omega
  have hu2 : decide (u < 0) = false := by simpa using hu
  have hne : n ≠ 0 := by omega
  have hqa : (m.tdiv n).natAbs = m.natAbs / n.natAbs := Int.natAbs_tdiv _ _
  have hra : (m.tmod n).natAbs = m.natAbs % n.natAbs := Int.natAbs_tmod _ _
  have VQ := Aside0.mk (show m.tdiv n = if (!(ng m == ng n)) = true then -(vl 4294967296 (dg 4294967296 (m.natAbs / n.natAbs))) else vl 4294967296 (dg 4294967296 (m.natAbs / n.natAbs)) from div_sign hne)
  have VR := Aside0.mk (show m.tmod n = if (ng m) = true then -(vl 4294967296 [((m.natAbs % n.natAbs : Nat) : Int)]) else vl 4294967296 [((m.natAbs % n.natAbs : Nat) : Int)] by
    rw [rem_sign hne]; simp only [vl, Int.mul_zero, Int.add_zero])
  have D0 := Aside0.mk (show (1 : Int) ≤ (n.natAbs : Int) by omega)
  have D1 := Aside0.mk (show (n.natAbs : Int) < 4294967296 by omega)
  have RB := Aside0.mk (show m.natAbs % n.natAbs < 4294967296 from Nat.lt_of_lt_of_le (Nat.mod_lt _ (by omega)) (by omega))
  have RO := Aside0.mk (show Okd 4294967296 [((m.natAbs % n.natAbs : Nat) : Int)] from Okd.cons (by omega) (by have := RB.out; omega) (Okd.nil _))
  have QL := Aside0.mk (show (dg 4294967296 (m.natAbs / n.natAbs)).length ≤ 10000000 from Nat.le_trans (dg_len_le 4294967296 (by omega) _ (ln m) (Nat.lt_of_le_of_lt (Nat.div_le_self _ _) (ln_lt m))) hm)
  obtain ⟨ad, ea, ra⟩ := H.read (f := bw A' c' n) m1 0 (by show 0 < ln n; omega)
  simp only [bw, hd] at ea ra
  subst ea
  have ra0 : w.cell? ad = some (.int .u32 (n.natAbs : Int)) := ra
  have ra2 := ra0
  have SQ := Aside0.mk (show dg 4294967296 (m.natAbs / n.natAbs) = dg 4294967296 (m.natAbs / n.natAbs) from rfl)
  clear ra h1 hge hu hne hqa hra hd
  go_enter Try.func32, Try.ntmps32
  go_wp2_with (first
    | ((with_reducible refine gate_dst (N := 2) rfl ?_); refine box_event ?hg (N := 2) ?hd (cs := #[.bool (ng m), .slice A (ln m) c]) (t := 25) ?hr ?_; (case hd => rfl); (case hg => rfl); (case hr => go_simp; try rfl); intro g1 hg w1 hbox hb; replace H := H.newbox hg hbox hb; clear hg hbox hb)
    | ((with_reducible refine gate_dst (N := 3) rfl ?_); refine box_event ?hg (N := 3) ?hd (cs := #[.bool (ng n), .slice (some ad) (ln n) c']) (t := 25) ?hr ?_; (case hd => rfl); (case hg => rfl); (case hr => go_simp; try rfl); intro g2 hg w2 hbox hb; replace H := H.newbox hg hbox hb; clear hg hbox hb)
    | ((with_reducible refine gate_dst (N := 4) rfl ?_); refine box_event ?hg (N := 4) ?hd (cs := #[.bool false, .slice none 0 0]) (t := 25) ?hr ?_; (case hd => rfl); (case hg => rfl); (case hr => go_simp; try rfl); intro g3 hg w3 hbox hb; replace H := H.newbox hg hbox hb; clear hg hbox hb)
    | ((with_reducible refine gate_dst (N := 5) rfl ?_); refine box_event ?hg (N := 5) ?hd (cs := #[.bool false, .slice none 0 0]) (t := 25) ?hr ?_; (case hd => rfl); (case hg => rfl); (case hr => go_simp; try rfl); intro g4 hg w4 hbox hb; replace H := H.newbox hg hbox hb; clear hg hbox hb; have kx_0 : w4.cell? ⟨g1, 0, none⟩ = some (.bool (ng m)) := H.cell m3 0; have kx_1 : w4.cell? ⟨g1, 1, none⟩ = some (.slice A (ln m) c) := H.cell m3 1; have ky_0 : w4.cell? ⟨g2, 0, none⟩ = some (.bool (ng n)) := H.cell m2 0; have ky_1 : w4.cell? ⟨g2, 1, none⟩ = some (.slice (some ad) (ln n) c') := H.cell m2 1; have kz_0 : w4.cell? ⟨g3, 0, none⟩ = some (.bool false) := H.cell m1 0; have kz_1 : w4.cell? ⟨g3, 1, none⟩ = some (.slice none 0 0) := H.cell m1 1; have kzz_0 := H.frozen (g := g3) m1 0; have kzz_1 := H.frozen (g := g3) m1 1; have ku_0 : w4.cell? ⟨g4, 0, none⟩ = some (.bool false) := H.cell m0 0; have ku_1 : w4.cell? ⟨g4, 1, none⟩ = some (.slice none 0 0) := H.cell m0 1; have kuz_0 := H.frozen (g := g4) m0 0; have kuz_1 := H.frozen (g := g4) m0 1; have ne1 := H.ne01; have ne2 := H.ne01.symm)
    | (go_at_call 81; (with_reducible refine (compareI (H.row _ m2) (H.row _ m1) hm u CE.out).mono ?_); rintro e w5 ⟨rfl, hb⟩; replace ra2 := ((H.call hb).below.cell (World.block_lt_of_cell? w _ ra0)).trans ra0; replace H := H.call hb; clear hb kx_0 kx_1 ky_0 ky_1 kz_0 kz_1 ku_0 ku_1 kzz_0 kzz_1 kuz_0 kuz_1; have kx_0 : w5.cell? ⟨g1, 0, none⟩ = some (.bool (ng m)) := H.cell m3 0; have kx_1 : w5.cell? ⟨g1, 1, none⟩ = some (.slice A (ln m) c) := H.cell m3 1; have ky_0 : w5.cell? ⟨g2, 0, none⟩ = some (.bool (ng n)) := H.cell m2 0; have ky_1 : w5.cell? ⟨g2, 1, none⟩ = some (.slice (some ad) (ln n) c') := H.cell m2 1))
  go_region_held3 (fun w' => w'.cell? ⟨g1, 0, none⟩ = some (.bool (ng m)) ∧ w'.cell? ⟨g1, 1, none⟩ = some (.slice A (ln m) c) ∧ w'.cell? ⟨g2, 0, none⟩ = some (.bool (ng n)) ∧ w'.cell? ⟨g2, 1, none⟩ = some (.slice (some ad) (ln n) c') ∧ w'.cell? ad = some (.int .u32 (n.natAbs : Int))) (first
      | exact ⟨H.cell m3 0, H.cell m3 1, H.cell m2 0, H.cell m2 1, ra2⟩
      | exact ⟨H.drew.cell m3 0, H.drew.cell m3 1, H.drew.cell m2 0, H.drew.cell m2 1, ra2⟩)
    (first
     | (go_at_call 76; (with_reducible refine (shortI (H.drew.row _ m2) hm (d := (n.natAbs : Int)) D0.out D1.out (dg 4294967296 (m.natAbs / n.natAbs)) ((m.natAbs % n.natAbs : Nat) : Int) rfl rfl).mono ?_); rintro e w6 ⟨A6, c6, rfl, hr, hb⟩; replace ra2 := ((H.drew.call hb).below.cell (World.block_lt_of_cell? w _ ra0)).trans ra0; replace H := H.drew.got (hr.mono (fun _ h => .inr h)) hb; clear hr hb))
  go_wp2_with ((with_reducible refine gate_dst (N := 49) rfl ?_); refine lit_event ?hg (N := 49) ?hd (cs := #[.int .u32 ((m.natAbs % n.natAbs : Nat) : Int)]) (t := 93) (n := 1) ?hr ?_; (case hd => rfl); (case hg => rfl); (case hr => go_simp; try rfl); intro g5 hg w7 hbox hb; replace H := H.newbox (o := .cells (([((m.natAbs % n.natAbs : Nat) : Int)] : List Int).map (Value.int .u32)).toArray 93 (0, 0)) hg hbox hb; clear hg hbox hb ra2; have kx_0 : w7.cell? ⟨g1, 0, none⟩ = some (.bool (ng m)) := H.cell m4 0; have kx_1 : w7.cell? ⟨g1, 1, none⟩ = some (.slice A (ln m) c) := H.cell m4 1; have ky_0 : w7.cell? ⟨g2, 0, none⟩ = some (.bool (ng n)) := H.cell m3 0; have ky_1 : w7.cell? ⟨g2, 1, none⟩ = some (.slice (some ad) (ln n) c') := H.cell m3 1)
  go_region_held3 (fun w' => w'.cell? ⟨g1, 0, none⟩ = some (.bool (ng m)) ∧ w'.cell? ⟨g1, 1, none⟩ = some (.slice A (ln m) c) ∧ w'.cell? ⟨g2, 0, none⟩ = some (.bool (ng n)) ∧ w'.cell? ⟨g2, 1, none⟩ = some (.slice (some ad) (ln n) c')) (first
      | exact ⟨H.cell m4 0, H.cell m4 1, H.cell m3 0, H.cell m3 1⟩
      | exact ⟨H.drew.cell m4 0, H.drew.cell m4 1, H.drew.cell m3 0, H.drew.cell m3 1⟩
      | exact ⟨H.cell m3 0, H.cell m3 1, H.cell m2 0, H.cell m2 1⟩
      | (have H' := (((H.setn [_] 0 (.bool (ng (m.tdiv n))) rfl).setn [_] 1 (.slice A5 (ln (m.tdiv n)) c5) rfl).setn [] 0 (.bool (ng (m.tmod n))) rfl).setn [] 1 (.slice A8 (ln (m.tmod n)) c8) rfl; exact ⟨H'.cell m3 0, H'.cell m3 1, H'.cell m2 0, H'.cell m2 1⟩)
      | (have H' := (H.setn [_] 0 (.bool (ng (m.tdiv n))) rfl).setn [_] 1 (.slice A5 (ln (m.tdiv n)) c5) rfl; exact ⟨H'.cell m3 0, H'.cell m3 1, H'.cell m2 0, H'.cell m2 1⟩)
      | fail)
    (first
     | (go_at_call 78; (with_reducible refine (signedN rfl (dg_okd _) (Nat.le_trans QL.out (by omega)) (H.drew.row _ m0) VQ.out).mono ?_); rintro e w8 ⟨A5, c5, rfl, hr, hb⟩; replace H := H.drew.got hr hb; clear hr hb)
     | (go_at_call 78; have RW := box_row (n := 1) (c := 1) (e := 93) (k := .u32) (l := [((m.natAbs % n.natAbs : Nat) : Int)]) (H.blk m0) rfl (Nat.le_refl _) (by omega); (with_reducible refine (signedN (ok := fun j => j = g5) (l := [((m.natAbs % n.natAbs : Nat) : Int)]) (k := 1) rfl RO.out (by omega) RW VR.out).mono ?_); rintro e w9 ⟨A8, c8, rfl, hr, hb⟩; replace H := H.own hr hb; clear hr hb; have kz_0 : w9.cell? ⟨g3, 0, none⟩ = some (.bool false) := H.cell m1 0; have kz_1 : w9.cell? ⟨g3, 1, none⟩ = some (.slice none 0 0) := H.cell m1 1; have kzz_0 := H.frozen (g := g3) m1 0; have kzz_1 := H.frozen (g := g3) m1 1; have ku_0 : w9.cell? ⟨g4, 0, none⟩ = some (.bool false) := H.cell m0 0; have ku_1 : w9.cell? ⟨g4, 1, none⟩ = some (.slice none 0 0) := H.cell m0 1; have kuz_0 := H.frozen (g := g4) m0 0; have kuz_1 := H.frozen (g := g4) m0 1; have ne1 := H.ne01; have ne2 := H.ne01.symm)
     | fail)
  go_wp2
  replace H := (((H.setn [_] 0 (.bool (ng (m.tdiv n))) rfl).setn [_] 1 (.slice A5 (ln (m.tdiv n)) c5) rfl).setn [] 0 (.bool (ng (m.tmod n))) rfl).setn [] 1 (.slice A8 (ln (m.tmod n)) c8) rfl
  refine bodyPost_ret (results_list (rs := [.cell 4 25, .cell 5 25, .tmp 6]) rfl (by simp) (.cell g3 25 #[.bool (ng (m.tdiv n)), .slice A5 (ln (m.tdiv n)) c5] (0, 0) _ rfl (H.blk m1) Try.underlying25 rfl (by kernel_rfl) (.cell g4 25 #[.bool (ng (m.tmod n)), .slice A8 (ln (m.tmod n)) c8] (0, 0) _ rfl (H.blk m0) Try.underlying25 rfl (by kernel_rfl) (.tmp .nil)))) rfl ?_
  exact ⟨A5, c5, A8, c8, rfl, H.ret m1, H.ret m0, H.below⟩

end Go.Proofs.Ytdkapdgbfejgdaa
