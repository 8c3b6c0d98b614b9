/- bigint.Int: Sub, Sign, Cmp. -/
import Derived.Test.YtdkapdgbfejgdaaY6
set_option linter.unusedVariables false
set_option linter.unusedSimpArgs false
namespace Go.Proofs.Ytdkapdgbfejgdaa
open Go.RowKit Go.Proofs.YtdkapdgbfejgdaaW.PrintWords Go.Proofs.YtdkapdgbfejgdaaW.PrintLast Go.Proofs.YtdkapdgbfejgdaaW.PrintMore

/-- -1, 0 or 1. -/
def sg (m : Int) : Int := if m < 0 then -1 else if m = 0 then 0 else 1
theorem ln_zero : ln 0 = 0 := rfl
theorem ng_zero : ng 0 = false := rfl
theorem ln_pos {m : Int} (h : m ≠ 0) : 0 < ln m := by
  have hne : digs m ≠ [] := fun e => by
    have := (dg_nil_iff 4294967296 (by omega) m.natAbs).mp e
    omega
  exact List.length_pos_iff.mpr hne
theorem ln_eq_zero {m : Int} : ln m = 0 ↔ m = 0 := by
  constructor
  · intro h
    by_cases hm : m = 0
    · exact hm
    · have := ln_pos hm; omega
  · rintro rfl; rfl

set_option maxHeartbeats 2000000 in
set_option maxRecDepth 100000 in
theorem Sub_ok (A A' : Option Addr) (c c' : Nat) (m n : Int) (w : World) (ok : Nat → Prop) (hf : (bw A c m).at w ok) (hf' : (bw A' c' n).at w ok) (hm : ln m ≤ 10000000) (hn : ln n ≤ 10000000) : Calls Try.prog 30 #[.agg #[.bool (ng m), .slice A (ln m) c], .agg #[.bool (ng n), .slice A' (ln n) c']] w (RetI w ok (m - n)) := by
  have hu25 := Try.underlying25
  have H := ((Sit.start w ok).arg hf).arg hf'
  clear hf hf'
  go_enter Try.func30, Try.ntmps30
  go_wp2_with (first
    | ((with_reducible refine gate_dst (N := 2) rfl ?_); refine box_event ?hg (N := 2) ?hd (cs := #[.bool (ng m), .slice A (ln m) c]) (t := 25) ?hr ?_; (case hd => rfl); (case hg => rfl); (case hr => first | (go_simp; done) | (go_simp; rfl)); intro g1 hg w1 hbox hb; replace H := H.newbox hg hbox hb; clear hg hbox hb)
    | ((with_reducible refine gate_dst (N := 3) rfl ?_); refine box_event ?hg (N := 3) ?hd (cs := #[.bool (ng n), .slice A' (ln n) c']) (t := 25) ?hr ?_; (case hd => rfl); (case hg => rfl); (case hr => first | (go_simp; done) | (go_simp; rfl)); intro g2 hg w2 hbox hb; replace H := H.newbox hg hbox hb; clear hg hbox hb)
    | ((with_reducible refine gate_dst (N := 4) rfl ?_); refine box_event ?hg (N := 4) ?hd (cs := #[.bool false, .slice none 0 0]) (t := 25) ?hr ?_; (case hd => rfl); (case hg => rfl); (case hr => first | (go_simp; done) | (go_simp; rfl)); intro g3 hg w3 hbox hb; replace H := H.newbox hg hbox hb; clear hg hbox hb; have kx_0 : w3.cell? ⟨g1, 0, none⟩ = some (.bool (ng m)) := H.cell m2 0; have kx_1 : w3.cell? ⟨g1, 1, none⟩ = some (.slice A (ln m) c) := H.cell m2 1; have ky_0 : w3.cell? ⟨g2, 0, none⟩ = some (.bool (ng n)) := H.cell m1 0; have ky_1 : w3.cell? ⟨g2, 1, none⟩ = some (.slice A' (ln n) c') := H.cell m1 1))
  go_region_held3 (fun w' => w'.cell? ⟨g1, 0, none⟩ = some (.bool (ng m)) ∧ w'.cell? ⟨g1, 1, none⟩ = some (.slice A (ln m) c) ∧ w'.cell? ⟨g2, 0, none⟩ = some (.bool (ng n)) ∧ w'.cell? ⟨g2, 1, none⟩ = some (.slice A' (ln n) c')) (first
      | exact ⟨H.cell m2 0, H.cell m2 1, H.cell m1 0, H.cell m1 1⟩
      | (have H' := (H.setn [] 0 (.bool (ng (m + -n))) rfl).setn [] 1 (.slice A5 (ln (m + -n)) c5) rfl; exact ⟨H'.cell m2 0, H'.cell m2 1, H'.cell m1 0, H'.cell m1 1⟩))
    (first
     | (go_at_call 37; refine (Neg_ok A' c' n _ _ (H.drew.row _ (.head _)) (by omega)).mono ?_; rintro e w4 ⟨A4, c4, rfl, hr, hb⟩; replace H := H.drew.got hr hb; clear hr hb)
     | (go_at_call 28; refine (Add_ok A A4 c c4 m (-n) _ _ (H.row _ m2) (H.row _ (.head _)) hm (by rw [ln_neg]; exact hn)).mono ?_; rintro e w5 ⟨A5, c5, rfl, hr, hb⟩; replace H := H.got hr hb; clear hr hb; have z_0 : w5.cell? ⟨g3, 0, none⟩ = some (.bool false) := H.cell m0 0; have z_1 : w5.cell? ⟨g3, 1, none⟩ = some (.slice none 0 0) := H.cell m0 1; have zz_0 := H.frozen (g := g3) m0 0; have zz_1 := H.frozen (g := g3) m0 1))
  go_wp2
  have e : m + -n = m - n := by omega
  rw [e] at H ⊢
  refine bodyPost_ret (results_cell_row rfl _ _ g3 25 #[.bool (ng (m - n)), .slice A5 (ln (m - n)) c5] (0, 0) _ rfl (((H.setn [] 0 (.bool (ng (m - n))) rfl).setn [] 1 (.slice A5 (ln (m - n)) c5) rfl).blk (.head _)) Try.underlying25 rfl (by kernel_rfl)) rfl ?_
  replace H := (H.setn [] 0 (.bool (ng (m - n))) rfl).setn [] 1 (.slice A5 (ln (m - n)) c5) rfl
  exact ⟨A5, c5, rfl, H.ret (.head _), H.below⟩

set_option maxHeartbeats 2000000 in
set_option maxRecDepth 100000 in
theorem Sign_ok (A : Option Addr) (c : Nat) (m : Int) (w : World) (hn : ln m ≤ 1000000000) :
    Calls Try.prog 25 #[.agg #[.bool (ng m), .slice A (ln m) c]] w (RetI64 (sg m) w) := by
  have hu25 := Try.underlying25
  have H := Sit.start w (fun _ => True)
  by_cases h0 : m = 0
  · have E := Aside0.mk (show sg m = 0 by unfold sg; rw [if_neg (by omega), if_pos h0])
    have p1 : ((ln m : Int) == 0) = true := by rw [h0]; rfl
    have p2 : (ln m == 0) = true := by rw [h0]; rfl
    clear h0
    go_enter Try.func25, Try.ntmps25
    go_wp2_with (((with_reducible refine gate_dst (N := 1) rfl ?_); refine box_event ?hg (N := 1) ?hd (cs := #[.bool (ng m), .slice A (ln m) c]) (t := 25) ?hr ?_; (case hd => rfl); (case hg => rfl); (case hr => first | (go_simp; done) | (go_simp; rfl)); intro g1 hg w1 hbox hb; replace H := H.newbox hg hbox hb; clear hg hbox hb; have kx_0 : w1.cell? ⟨g1, 0, none⟩ = some (.bool (ng m)) := H.cell m0 0; have kx_1 : w1.cell? ⟨g1, 1, none⟩ = some (.slice A (ln m) c) := H.cell m0 1))
    go_ret
    exact ⟨by rw [E.out]; rfl, H.below⟩
  · have l0 := ln_pos h0
    have p1 : ((ln m : Int) == 0) = false := by simp; omega
    have p2 : (ln m == 0) = false := by simp; omega
    by_cases h1 : m < 0
    · have E := Aside0.mk (show sg m = -1 by unfold sg; rw [if_pos h1])
      have p3 : ng m = true := by unfold ng; simpa using h1
      clear h0 h1
      go_enter Try.func25, Try.ntmps25
      go_wp2_with (((with_reducible refine gate_dst (N := 1) rfl ?_); refine box_event ?hg (N := 1) ?hd (cs := #[.bool (ng m), .slice A (ln m) c]) (t := 25) ?hr ?_; (case hd => rfl); (case hg => rfl); (case hr => first | (go_simp; done) | (go_simp; rfl)); intro g1 hg w1 hbox hb; replace H := H.newbox hg hbox hb; clear hg hbox hb; have kx_0 : w1.cell? ⟨g1, 0, none⟩ = some (.bool (ng m)) := H.cell m0 0; have kx_1 : w1.cell? ⟨g1, 1, none⟩ = some (.slice A (ln m) c) := H.cell m0 1))
      go_ret
      exact ⟨by rw [E.out]; rfl, H.below⟩
    · have E := Aside0.mk (show sg m = 1 by unfold sg; rw [if_neg h1, if_neg h0])
      have p3 : ng m = false := by unfold ng; simpa using h1
      clear h0 h1
      go_enter Try.func25, Try.ntmps25
      go_wp2_with (((with_reducible refine gate_dst (N := 1) rfl ?_); refine box_event ?hg (N := 1) ?hd (cs := #[.bool (ng m), .slice A (ln m) c]) (t := 25) ?hr ?_; (case hd => rfl); (case hg => rfl); (case hr => first | (go_simp; done) | (go_simp; rfl)); intro g1 hg w1 hbox hb; replace H := H.newbox hg hbox hb; clear hg hbox hb; have kx_0 : w1.cell? ⟨g1, 0, none⟩ = some (.bool (ng m)) := H.cell m0 0; have kx_1 : w1.cell? ⟨g1, 1, none⟩ = some (.slice A (ln m) c) := H.cell m0 1))
      go_ret
      exact ⟨by rw [E.out]; rfl, H.below⟩

set_option maxHeartbeats 2000000 in
set_option maxRecDepth 100000 in
theorem Cmp_ok (A A' : Option Addr) (c c' : Nat) (m n : Int) (w : World) (ok : Nat → Prop) (hf : (bw A c m).at w ok) (hf' : (bw A' c' n).at w ok) (hm : ln m ≤ 10000000) (hn : ln n ≤ 10000000) : Calls Try.prog 34 #[.agg #[.bool (ng m), .slice A (ln m) c], .agg #[.bool (ng n), .slice A' (ln n) c']] w (RetI64 (cmp3 m n) w) := by
  have hu25 := Try.underlying25
  have H := ((Sit.start w ok).arg hf).arg hf'
  clear hf hf'
  by_cases hs : sg m = sg n
  · have d1 : (sg m == sg n) = true := by simpa using hs
    have d2 : (sg m != sg n) = false := by simpa using hs
    by_cases hneg : m < 0
    · have P3 := Aside0.mk (show ng m = true by unfold ng; simpa using hneg)
      have E := Aside0.mk (show cmp3 n.natAbs m.natAbs = cmp3 m n by
        have hn : n < 0 := by
          unfold sg at hs; rw [if_pos hneg] at hs
          by_cases b : n < 0
          · exact b
          · rw [if_neg b] at hs; split at hs <;> omega
        unfold cmp3
        by_cases b : m < n
        · rw [if_pos b, if_pos (by omega)]
        · rw [if_neg b, if_neg (by omega)]
          by_cases d : n < m
          · rw [if_pos d, if_pos (by omega)]
          · rw [if_neg d, if_neg (by omega)])
      clear hs hneg
      skip
      go_enter Try.func34, Try.ntmps34
      go_wp2_with (first
        | ((with_reducible refine gate_dst (N := 2) rfl ?_); refine box_event ?hg (N := 2) ?hd (cs := #[.bool (ng m), .slice A (ln m) c]) (t := 25) ?hr ?_; (case hd => rfl); (case hg => rfl); (case hr => first | (go_simp; done) | (go_simp; rfl)); intro g1 hg w1 hbox hb; replace H := H.newbox hg hbox hb; clear hg hbox hb)
        | ((with_reducible refine gate_dst (N := 3) rfl ?_); refine box_event ?hg (N := 3) ?hd (cs := #[.bool (ng n), .slice A' (ln n) c']) (t := 25) ?hr ?_; (case hd => rfl); (case hg => rfl); (case hr => first | (go_simp; done) | (go_simp; rfl)); intro g2 hg w2 hbox hb; replace H := H.newbox hg hbox hb; clear hg hbox hb; have kx_0 : w2.cell? ⟨g1, 0, none⟩ = some (.bool (ng m)) := H.cell m1 0; have kx_1 : w2.cell? ⟨g1, 1, none⟩ = some (.slice A (ln m) c) := H.cell m1 1; have ky_0 : w2.cell? ⟨g2, 0, none⟩ = some (.bool (ng n)) := H.cell m0 0; have ky_1 : w2.cell? ⟨g2, 1, none⟩ = some (.slice A' (ln n) c') := H.cell m0 1))
      go_region_held3 (fun w' => w'.cell? ⟨g1, 0, none⟩ = some (.bool (ng m)) ∧ w'.cell? ⟨g1, 1, none⟩ = some (.slice A (ln m) c) ∧ w'.cell? ⟨g2, 0, none⟩ = some (.bool (ng n)) ∧ w'.cell? ⟨g2, 1, none⟩ = some (.slice A' (ln n) c')) (first
          | exact ⟨H.cell m1 0, H.cell m1 1, H.cell m0 0, H.cell m0 1⟩
          | exact ⟨H.drew.cell m1 0, H.drew.cell m1 1, H.drew.cell m0 0, H.drew.cell m0 1⟩)
        (first
         | (go_at_call 25; (with_reducible refine (Sign_ok A c m _ (by omega)).mono ?_); rintro e w3 ⟨rfl, hb⟩; replace H := H.drew.call hb; clear hb)
         | (go_at_call 25; (with_reducible refine (Sign_ok A' c' n _ (by omega)).mono ?_); rintro e w4 ⟨rfl, hb⟩; replace H := H.call hb; clear hb))
      have kx_0 : w4.cell? ⟨g1, 0, none⟩ = some (.bool (ng m)) := H.cell m1 0; have kx_1 : w4.cell? ⟨g1, 1, none⟩ = some (.slice A (ln m) c) := H.cell m1 1; have ky_0 : w4.cell? ⟨g2, 0, none⟩ = some (.bool (ng n)) := H.cell m0 0; have ky_1 : w4.cell? ⟨g2, 1, none⟩ = some (.slice A' (ln n) c') := H.cell m0 1
      have p3 := P3.out
      go_wp2_with (go_at_call 81; refine (compareI (H.row _ m0) (H.row _ m1) hn _ rfl).mono ?_; rintro e w5 ⟨rfl, hb⟩; replace H := H.call hb; clear hb)
      go_ret
      exact ⟨by rw [← E.out]; rfl, H.below⟩
    · have P3 := Aside0.mk (show ng m = false by unfold ng; simpa using hneg)
      have E := Aside0.mk (show cmp3 m.natAbs n.natAbs = cmp3 m n by
        have hn : ¬ n < 0 := by
          intro b
          unfold sg at hs; rw [if_neg hneg, if_pos b] at hs
          split at hs <;> omega
        unfold cmp3
        by_cases b : m < n
        · rw [if_pos b, if_pos (by omega)]
        · rw [if_neg b, if_neg (by omega)]
          by_cases d : n < m
          · rw [if_pos d, if_pos (by omega)]
          · rw [if_neg d, if_neg (by omega)])
      clear hs hneg
      skip
      go_enter Try.func34, Try.ntmps34
      go_wp2_with (first
        | ((with_reducible refine gate_dst (N := 2) rfl ?_); refine box_event ?hg (N := 2) ?hd (cs := #[.bool (ng m), .slice A (ln m) c]) (t := 25) ?hr ?_; (case hd => rfl); (case hg => rfl); (case hr => first | (go_simp; done) | (go_simp; rfl)); intro g1 hg w1 hbox hb; replace H := H.newbox hg hbox hb; clear hg hbox hb)
        | ((with_reducible refine gate_dst (N := 3) rfl ?_); refine box_event ?hg (N := 3) ?hd (cs := #[.bool (ng n), .slice A' (ln n) c']) (t := 25) ?hr ?_; (case hd => rfl); (case hg => rfl); (case hr => first | (go_simp; done) | (go_simp; rfl)); intro g2 hg w2 hbox hb; replace H := H.newbox hg hbox hb; clear hg hbox hb; have kx_0 : w2.cell? ⟨g1, 0, none⟩ = some (.bool (ng m)) := H.cell m1 0; have kx_1 : w2.cell? ⟨g1, 1, none⟩ = some (.slice A (ln m) c) := H.cell m1 1; have ky_0 : w2.cell? ⟨g2, 0, none⟩ = some (.bool (ng n)) := H.cell m0 0; have ky_1 : w2.cell? ⟨g2, 1, none⟩ = some (.slice A' (ln n) c') := H.cell m0 1))
      go_region_held3 (fun w' => w'.cell? ⟨g1, 0, none⟩ = some (.bool (ng m)) ∧ w'.cell? ⟨g1, 1, none⟩ = some (.slice A (ln m) c) ∧ w'.cell? ⟨g2, 0, none⟩ = some (.bool (ng n)) ∧ w'.cell? ⟨g2, 1, none⟩ = some (.slice A' (ln n) c')) (first
          | exact ⟨H.cell m1 0, H.cell m1 1, H.cell m0 0, H.cell m0 1⟩
          | exact ⟨H.drew.cell m1 0, H.drew.cell m1 1, H.drew.cell m0 0, H.drew.cell m0 1⟩)
        (first
         | (go_at_call 25; (with_reducible refine (Sign_ok A c m _ (by omega)).mono ?_); rintro e w3 ⟨rfl, hb⟩; replace H := H.drew.call hb; clear hb)
         | (go_at_call 25; (with_reducible refine (Sign_ok A' c' n _ (by omega)).mono ?_); rintro e w4 ⟨rfl, hb⟩; replace H := H.call hb; clear hb))
      have kx_0 : w4.cell? ⟨g1, 0, none⟩ = some (.bool (ng m)) := H.cell m1 0; have kx_1 : w4.cell? ⟨g1, 1, none⟩ = some (.slice A (ln m) c) := H.cell m1 1; have ky_0 : w4.cell? ⟨g2, 0, none⟩ = some (.bool (ng n)) := H.cell m0 0; have ky_1 : w4.cell? ⟨g2, 1, none⟩ = some (.slice A' (ln n) c') := H.cell m0 1
      have p3 := P3.out
      go_wp2_with (go_at_call 81; refine (compareI (H.row _ m1) (H.row _ m0) hm _ rfl).mono ?_; rintro e w5 ⟨rfl, hb⟩; replace H := H.call hb; clear hb)
      go_ret
      exact ⟨by rw [← E.out]; rfl, H.below⟩
  · have d1 : (sg m == sg n) = false := by simpa using hs
    have d2 : (sg m != sg n) = true := by simpa using hs
    have E := Aside0.mk (show cmp3 (sg m) (sg n) = cmp3 m n by
      unfold cmp3 sg at *
      by_cases a : m < 0 <;> by_cases b : n < 0 <;> by_cases d : m = 0 <;> by_cases e : n = 0 <;> simp [a, b, d, e] at hs ⊢ <;> (first | omega | (rw [if_pos (by omega)]) | (rw [if_neg (by omega), if_pos (by omega)])))
    clear hs
    skip
    go_enter Try.func34, Try.ntmps34
    go_wp2_with (first
      | ((with_reducible refine gate_dst (N := 2) rfl ?_); refine box_event ?hg (N := 2) ?hd (cs := #[.bool (ng m), .slice A (ln m) c]) (t := 25) ?hr ?_; (case hd => rfl); (case hg => rfl); (case hr => first | (go_simp; done) | (go_simp; rfl)); intro g1 hg w1 hbox hb; replace H := H.newbox hg hbox hb; clear hg hbox hb)
      | ((with_reducible refine gate_dst (N := 3) rfl ?_); refine box_event ?hg (N := 3) ?hd (cs := #[.bool (ng n), .slice A' (ln n) c']) (t := 25) ?hr ?_; (case hd => rfl); (case hg => rfl); (case hr => first | (go_simp; done) | (go_simp; rfl)); intro g2 hg w2 hbox hb; replace H := H.newbox hg hbox hb; clear hg hbox hb; have kx_0 : w2.cell? ⟨g1, 0, none⟩ = some (.bool (ng m)) := H.cell m1 0; have kx_1 : w2.cell? ⟨g1, 1, none⟩ = some (.slice A (ln m) c) := H.cell m1 1; have ky_0 : w2.cell? ⟨g2, 0, none⟩ = some (.bool (ng n)) := H.cell m0 0; have ky_1 : w2.cell? ⟨g2, 1, none⟩ = some (.slice A' (ln n) c') := H.cell m0 1))
    go_region_held3 (fun w' => w'.cell? ⟨g1, 0, none⟩ = some (.bool (ng m)) ∧ w'.cell? ⟨g1, 1, none⟩ = some (.slice A (ln m) c) ∧ w'.cell? ⟨g2, 0, none⟩ = some (.bool (ng n)) ∧ w'.cell? ⟨g2, 1, none⟩ = some (.slice A' (ln n) c')) (first
        | exact ⟨H.cell m1 0, H.cell m1 1, H.cell m0 0, H.cell m0 1⟩
        | exact ⟨H.drew.cell m1 0, H.drew.cell m1 1, H.drew.cell m0 0, H.drew.cell m0 1⟩)
      (first
       | (go_at_call 25; (with_reducible refine (Sign_ok A c m _ (by omega)).mono ?_); rintro e w3 ⟨rfl, hb⟩; replace H := H.drew.call hb; clear hb)
       | (go_at_call 25; (with_reducible refine (Sign_ok A' c' n _ (by omega)).mono ?_); rintro e w4 ⟨rfl, hb⟩; replace H := H.call hb; clear hb))
    have kx_0 : w4.cell? ⟨g1, 0, none⟩ = some (.bool (ng m)) := H.cell m1 0; have kx_1 : w4.cell? ⟨g1, 1, none⟩ = some (.slice A (ln m) c) := H.cell m1 1; have ky_0 : w4.cell? ⟨g2, 0, none⟩ = some (.bool (ng n)) := H.cell m0 0; have ky_1 : w4.cell? ⟨g2, 1, none⟩ = some (.slice A' (ln n) c') := H.cell m0 1
    skip
    go_wp2_with (go_at_call 84; refine (CmpInt_ok _ _ _).mono ?_; rintro e w5 ⟨rfl, rfl⟩)
    go_ret
    exact ⟨by rw [← E.out]; rfl, H.below⟩

end Go.Proofs.Ytdkapdgbfejgdaa
