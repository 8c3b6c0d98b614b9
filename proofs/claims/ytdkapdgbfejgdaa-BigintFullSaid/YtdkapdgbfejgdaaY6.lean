/- bigint.Int: Add, Sub, Cmp, Sign, by their contracts. -/
import Derived.Test.YtdkapdgbfejgdaaY5
set_option linter.unusedVariables false
set_option linter.unusedSimpArgs false
namespace Go.Proofs.Ytdkapdgbfejgdaa
open Go.RowKit Go.Proofs.YtdkapdgbfejgdaaW.PrintWords Go.Proofs.YtdkapdgbfejgdaaW.PrintLast Go.Proofs.YtdkapdgbfejgdaaW.PrintMore

theorem digs_noz (m : Int) : NoZ (digs m) := dg_noz 4294967296 (by omega) _
theorem ln_bound (s : Int) (k : Nat) (h : s.natAbs < 4294967296 ^ k) : ln s ≤ k := dg_len_le 4294967296 (by omega) _ _ h
theorem ln_lt (m : Int) : m.natAbs < 4294967296 ^ ln m := dg_lt 4294967296 (by omega) _
theorem pow_le_nat {m n : Nat} (h : m ≤ n) : 4294967296 ^ m ≤ 4294967296 ^ n := Nat.pow_le_pow_right (by omega) h
theorem ln_add_le (a b : Nat) (m n : Int) (hm : ln m ≤ a) (hn : ln n ≤ b) (s : Nat) (hs : s ≤ m.natAbs + n.natAbs) : (dg 4294967296 s).length ≤ max a b + 1 := by
  refine dg_len_le 4294967296 (by omega) _ _ ?_
  have h1 := ln_lt m
  have h2 := ln_lt n
  have h3 : 4294967296 ^ ln m ≤ 4294967296 ^ max a b := pow_le_nat (by omega)
  have h4 : 4294967296 ^ ln n ≤ 4294967296 ^ max a b := pow_le_nat (by omega)
  rw [Nat.pow_succ]
  omega
theorem sub_len {m n : Int} (h : n.natAbs ≤ m.natAbs) : (digs n).length ≤ (digs m).length := by
  refine dg_len_le 4294967296 (by omega) _ _ ?_
  have := dg_lt 4294967296 (by omega) m.natAbs
  show n.natAbs < 4294967296 ^ (dg 4294967296 m.natAbs).length
  omega
theorem vl_dg (k : Int) (h : 0 ≤ k) : vl 4294967296 (dg 4294967296 k.toNat) = k := by
  have := dg_vl 4294967296 (by omega) k.toNat
  have e : ((4294967296 : Nat) : Int) = 4294967296 := rfl
  rw [← e, this]; omega

theorem addI {A A' : Option Addr} {c c' : Nat} {m n : Int} {w : World} {ok : Nat → Prop} (hf : (bw A c m).at w ok) (hf' : (bw A' c' n).at w ok) (hm : ln m ≤ 10000000) (hn : ln n ≤ 10000000) (r : List Int) (hr : dg 4294967296 (m.natAbs + n.natAbs) = r) :
    Calls Try.prog 80 #[.slice A (ln m) c, .slice A' (ln n) c'] w (RetL w ok .u32 r) :=
  add_ok A A' c c' (digs m) (digs n) r w ok (digs_okd m) (digs_okd n) (Nat.le_trans hm (by omega)) (Nat.le_trans hn (by omega)) hf hf' (by rw [digs_vl, digs_vl, ← hr]; congr 1)
theorem subI {A A' : Option Addr} {c c' : Nat} {m n : Int} {w : World} {ok : Nat → Prop} (hf : (bw A c m).at w ok) (hf' : (bw A' c' n).at w ok) (hm : ln m ≤ 10000000) (hle : n.natAbs ≤ m.natAbs) (r : List Int) (hr : dg 4294967296 (m.natAbs - n.natAbs) = r) :
    Calls Try.prog 82 #[.slice A (ln m) c, .slice A' (ln n) c'] w (RetL w ok .u32 r) :=
  sub_ok A A' c c' (digs m) (digs n) r w ok (digs_okd m) (digs_okd n) (Nat.le_trans hm (by omega)) (sub_len hle) (by rw [digs_vl, digs_vl]; omega) hf hf' (by rw [digs_vl, digs_vl, ← hr]; congr 1; omega)
theorem compareI {A A' : Option Addr} {c c' : Nat} {m n : Int} {w : World} {ok : Nat → Prop} (hf : (bw A c m).at w ok) (hf' : (bw A' c' n).at w ok) (hm : ln m ≤ 10000000) (r : Int) (hr : cmp3 m.natAbs n.natAbs = r) :
    Calls Try.prog 81 #[.slice A (ln m) c, .slice A' (ln n) c'] w (RetI64 r w) :=
  compare_ok A A' c c' (digs m) (digs n) w ok r (digs_okd m) (digs_okd n) (digs_noz m) (digs_noz n) (Nat.le_trans hm (by omega)) hf hf' (by rw [digs_vl, digs_vl]; exact hr)
theorem vl_dgn (k : Nat) : vl 4294967296 (dg 4294967296 k) = k := dg_vl 4294967296 (by omega) k
theorem dg_okd (k : Nat) : Okd 4294967296 (dg 4294967296 k) := dg_ok 4294967296 (by omega) k

set_option maxHeartbeats 2000000 in
set_option maxRecDepth 100000 in
theorem Add_same (A A' : Option Addr) (c c' : Nat) (m n : Int) (w : World) (ok : Nat → Prop) (hf : (bw A c m).at w ok) (hf' : (bw A' c' n).at w ok) (hm : ln m ≤ 10000000) (hn : ln n ≤ 10000000) (hs : ng m = ng n) : Calls Try.prog 28 #[.agg #[.bool (ng m), .slice A (ln m) c], .agg #[.bool (ng n), .slice A' (ln n) c']] w (RetI w ok (m + n)) := by
  have LE := Aside0.mk (show (dg 4294967296 (m.natAbs + n.natAbs)).length ≤ 10000001 from Nat.le_trans (ln_add_le 10000000 10000000 m n hm hn _ (by omega)) (by omega))
  have VE := Aside0.mk (show m + n = if (ng m) = true then -(vl 4294967296 (dg 4294967296 (m.natAbs + n.natAbs))) else vl 4294967296 (dg 4294967296 (m.natAbs + n.natAbs)) by
    rw [vl_dgn]
    unfold ng at hs ⊢
    by_cases a : m < 0 <;> by_cases b : n < 0 <;> simp [a, b] at hs ⊢ <;> omega)
  have hd : (ng m == ng n) = true := by simpa using hs
  clear hs
  have hu25 := Try.underlying25
  have H := ((Sit.start w ok).arg hf).arg hf'
  clear hf hf'
  go_enter Try.func28, Try.ntmps28
  go_wp2_with (first
    | ((with_reducible refine gate_dst (N := 2) rfl ?_); refine box_event ?hg (N := 2) ?hd (cs := #[.bool (ng m), .slice A (ln m) c]) (t := 25) ?hr ?_; (case hd => rfl); (case hg => rfl); (case hr => first | (go_simp; done) | (go_simp; rfl)); intro g1 hg w1 hbox hb; replace H := H.newbox hg hbox hb; clear hg hbox hb)
    | ((with_reducible refine gate_dst (N := 3) rfl ?_); refine box_event ?hg (N := 3) ?hd (cs := #[.bool (ng n), .slice A' (ln n) c']) (t := 25) ?hr ?_; (case hd => rfl); (case hg => rfl); (case hr => first | (go_simp; done) | (go_simp; rfl)); intro g2 hg w2 hbox hb; replace H := H.newbox hg hbox hb; clear hg hbox hb)
    | ((with_reducible refine gate_dst (N := 4) rfl ?_); refine box_event ?hg (N := 4) ?hd (cs := #[.bool false, .slice none 0 0]) (t := 25) ?hr ?_; (case hd => rfl); (case hg => rfl); (case hr => first | (go_simp; done) | (go_simp; rfl)); intro g3 hg w3 hbox hb; replace H := H.newbox hg hbox hb; clear hg hbox hb; have kx_0 : w3.cell? ⟨g1, 0, none⟩ = some (.bool (ng m)) := H.cell m2 0; have kx_1 : w3.cell? ⟨g1, 1, none⟩ = some (.slice A (ln m) c) := H.cell m2 1; have ky_0 : w3.cell? ⟨g2, 0, none⟩ = some (.bool (ng n)) := H.cell m1 0; have ky_1 : w3.cell? ⟨g2, 1, none⟩ = some (.slice A' (ln n) c') := H.cell m1 1))
  go_region_held3 (fun w' => w'.cell? ⟨g1, 0, none⟩ = some (.bool (ng m)) ∧ w'.cell? ⟨g1, 1, none⟩ = some (.slice A (ln m) c) ∧ w'.cell? ⟨g2, 0, none⟩ = some (.bool (ng n)) ∧ w'.cell? ⟨g2, 1, none⟩ = some (.slice A' (ln n) c')) (first
      | exact ⟨H.cell m2 0, H.cell m2 1, H.cell m1 0, H.cell m1 1⟩
      | (have H' := (H.setn [] 0 (.bool (ng (m + n))) rfl).setn [] 1 (.slice A5 (ln (m + n)) c5) rfl; exact ⟨H'.cell m2 0, H'.cell m2 1, H'.cell m1 0, H'.cell m1 1⟩))
    (first
     | (go_at_call 80; refine (addI (H.drew.row _ m1) (H.drew.row _ m0) hm hn (dg 4294967296 (m.natAbs + n.natAbs)) rfl).mono ?_; rintro e w4 ⟨A4, c4, rfl, hr, hb⟩; replace H := H.drew.got hr hb; clear hr hb)
     | (go_at_call 78; refine (signed_ok (ng m) A4 c4 (dg 4294967296 (m.natAbs + n.natAbs)) (m + n) _ _ (dg_okd _) (by have := LE.out; omega) (H.row _ (.head _)) (VE.out)).mono ?_; rintro e w5 ⟨A5, c5, rfl, hr, hb⟩; replace H := H.got hr hb; clear hr hb; have z_0 : w5.cell? ⟨g3, 0, none⟩ = some (.bool false) := H.cell m0 0; have z_1 : w5.cell? ⟨g3, 1, none⟩ = some (.slice none 0 0) := H.cell m0 1; have zz_0 := H.frozen (g := g3) m0 0; have zz_1 := H.frozen (g := g3) m0 1))
  go_wp2
  refine bodyPost_ret (results_cell_row rfl _ _ g3 25 #[.bool (ng (m + n)), .slice A5 (ln (m + n)) c5] (0, 0) _ rfl (((H.setn [] 0 (.bool (ng (m + n))) rfl).setn [] 1 (.slice A5 (ln (m + n)) c5) rfl).blk (.head _)) Try.underlying25 rfl (by kernel_rfl)) rfl ?_
  replace H := (H.setn [] 0 (.bool (ng (m + n))) rfl).setn [] 1 (.slice A5 (ln (m + n)) c5) rfl
  exact ⟨A5, c5, rfl, H.ret (.head _), H.below⟩

set_option maxHeartbeats 2000000 in
set_option maxRecDepth 100000 in
theorem Add_ge (A A' : Option Addr) (c c' : Nat) (m n : Int) (w : World) (ok : Nat → Prop) (hf : (bw A c m).at w ok) (hf' : (bw A' c' n).at w ok) (hm : ln m ≤ 10000000) (hn : ln n ≤ 10000000) (hs : ng m ≠ ng n) (hle : n.natAbs ≤ m.natAbs) : Calls Try.prog 28 #[.agg #[.bool (ng m), .slice A (ln m) c], .agg #[.bool (ng n), .slice A' (ln n) c']] w (RetI w ok (m + n)) := by
  have LE := Aside0.mk (show (dg 4294967296 (m.natAbs - n.natAbs)).length ≤ 10000001 from Nat.le_trans (ln_add_le 10000000 10000000 m n hm hn _ (by omega)) (by omega))
  have VE := Aside0.mk (show m + n = if (ng m) = true then -(vl 4294967296 (dg 4294967296 (m.natAbs - n.natAbs))) else vl 4294967296 (dg 4294967296 (m.natAbs - n.natAbs)) by
    rw [vl_dgn]
    unfold ng at hs ⊢
    by_cases a : m < 0 <;> by_cases b : n < 0 <;> simp [a, b] at hs ⊢ <;> omega)
  have hd : (ng m == ng n) = false := by simpa using hs
  obtain ⟨q, CE, hq⟩ : ∃ q, Aside0 (cmp3 m.natAbs n.natAbs = q) ∧ 0 ≤ q := by
    refine ⟨_, ⟨rfl⟩, ?_⟩
    unfold cmp3; split
    · omega
    · split <;> omega
  have hq2 : decide (0 ≤ q) = true := by simpa using hq
  have SL := Aside0.mk hle
  clear hs hle hq
  have hu25 := Try.underlying25
  have H := ((Sit.start w ok).arg hf).arg hf'
  clear hf hf'
  go_enter Try.func28, Try.ntmps28
  go_wp2_with (first
    | ((with_reducible refine gate_dst (N := 2) rfl ?_); refine box_event ?hg (N := 2) ?hd (cs := #[.bool (ng m), .slice A (ln m) c]) (t := 25) ?hr ?_; (case hd => rfl); (case hg => rfl); (case hr => first | (go_simp; done) | (go_simp; rfl)); intro g1 hg w1 hbox hb; replace H := H.newbox hg hbox hb; clear hg hbox hb)
    | ((with_reducible refine gate_dst (N := 3) rfl ?_); refine box_event ?hg (N := 3) ?hd (cs := #[.bool (ng n), .slice A' (ln n) c']) (t := 25) ?hr ?_; (case hd => rfl); (case hg => rfl); (case hr => first | (go_simp; done) | (go_simp; rfl)); intro g2 hg w2 hbox hb; replace H := H.newbox hg hbox hb; clear hg hbox hb)
    | ((with_reducible refine gate_dst (N := 4) rfl ?_); refine box_event ?hg (N := 4) ?hd (cs := #[.bool false, .slice none 0 0]) (t := 25) ?hr ?_; (case hd => rfl); (case hg => rfl); (case hr => first | (go_simp; done) | (go_simp; rfl)); intro g3 hg w3 hbox hb; replace H := H.newbox hg hbox hb; clear hg hbox hb; have kx_0 : w3.cell? ⟨g1, 0, none⟩ = some (.bool (ng m)) := H.cell m2 0; have kx_1 : w3.cell? ⟨g1, 1, none⟩ = some (.slice A (ln m) c) := H.cell m2 1; have ky_0 : w3.cell? ⟨g2, 0, none⟩ = some (.bool (ng n)) := H.cell m1 0; have ky_1 : w3.cell? ⟨g2, 1, none⟩ = some (.slice A' (ln n) c') := H.cell m1 1)
    | (go_at_call 81; refine (compareI (H.row _ m1) (H.row _ m0) hm (q) CE.out).mono ?_; rintro e w3b ⟨rfl, hb⟩; replace H := H.call hb; clear hb kx_0 kx_1 ky_0 ky_1; have kx_0 : w3b.cell? ⟨g1, 0, none⟩ = some (.bool (ng m)) := H.cell m2 0; have kx_1 : w3b.cell? ⟨g1, 1, none⟩ = some (.slice A (ln m) c) := H.cell m2 1; have ky_0 : w3b.cell? ⟨g2, 0, none⟩ = some (.bool (ng n)) := H.cell m1 0; have ky_1 : w3b.cell? ⟨g2, 1, none⟩ = some (.slice A' (ln n) c') := H.cell m1 1))
  go_region_held3 (fun w' => w'.cell? ⟨g1, 0, none⟩ = some (.bool (ng m)) ∧ w'.cell? ⟨g1, 1, none⟩ = some (.slice A (ln m) c) ∧ w'.cell? ⟨g2, 0, none⟩ = some (.bool (ng n)) ∧ w'.cell? ⟨g2, 1, none⟩ = some (.slice A' (ln n) c')) (first
      | exact ⟨H.cell m2 0, H.cell m2 1, H.cell m1 0, H.cell m1 1⟩
      | (have H' := (H.setn [] 0 (.bool (ng (m + n))) rfl).setn [] 1 (.slice A5 (ln (m + n)) c5) rfl; exact ⟨H'.cell m2 0, H'.cell m2 1, H'.cell m1 0, H'.cell m1 1⟩))
    (first
     | (go_at_call 82; refine (subI (H.drew.row _ m1) (H.drew.row _ m0) hm SL.out (dg 4294967296 (m.natAbs - n.natAbs)) rfl).mono ?_; rintro e w4 ⟨A4, c4, rfl, hr, hb⟩; replace H := H.drew.got hr hb; clear hr hb)
     | (go_at_call 78; refine (signed_ok (ng m) A4 c4 (dg 4294967296 (m.natAbs - n.natAbs)) (m + n) _ _ (dg_okd _) (by have := LE.out; omega) (H.row _ (.head _)) (VE.out)).mono ?_; rintro e w5 ⟨A5, c5, rfl, hr, hb⟩; replace H := H.got hr hb; clear hr hb; have z_0 : w5.cell? ⟨g3, 0, none⟩ = some (.bool false) := H.cell m0 0; have z_1 : w5.cell? ⟨g3, 1, none⟩ = some (.slice none 0 0) := H.cell m0 1; have zz_0 := H.frozen (g := g3) m0 0; have zz_1 := H.frozen (g := g3) m0 1))
  go_wp2
  refine bodyPost_ret (results_cell_row rfl _ _ g3 25 #[.bool (ng (m + n)), .slice A5 (ln (m + n)) c5] (0, 0) _ rfl (((H.setn [] 0 (.bool (ng (m + n))) rfl).setn [] 1 (.slice A5 (ln (m + n)) c5) rfl).blk (.head _)) Try.underlying25 rfl (by kernel_rfl)) rfl ?_
  replace H := (H.setn [] 0 (.bool (ng (m + n))) rfl).setn [] 1 (.slice A5 (ln (m + n)) c5) rfl
  exact ⟨A5, c5, rfl, H.ret (.head _), H.below⟩

set_option maxHeartbeats 2000000 in
set_option maxRecDepth 100000 in
theorem Add_lt (A A' : Option Addr) (c c' : Nat) (m n : Int) (w : World) (ok : Nat → Prop) (hf : (bw A c m).at w ok) (hf' : (bw A' c' n).at w ok) (hm : ln m ≤ 10000000) (hn : ln n ≤ 10000000) (hs : ng m ≠ ng n) (hle : m.natAbs < n.natAbs) : Calls Try.prog 28 #[.agg #[.bool (ng m), .slice A (ln m) c], .agg #[.bool (ng n), .slice A' (ln n) c']] w (RetI w ok (m + n)) := by
  have LE := Aside0.mk (show (dg 4294967296 (n.natAbs - m.natAbs)).length ≤ 10000001 from Nat.le_trans (ln_add_le 10000000 10000000 m n hm hn _ (by omega)) (by omega))
  have VE := Aside0.mk (show m + n = if (ng n) = true then -(vl 4294967296 (dg 4294967296 (n.natAbs - m.natAbs))) else vl 4294967296 (dg 4294967296 (n.natAbs - m.natAbs)) by
    rw [vl_dgn]
    unfold ng at hs ⊢
    by_cases a : m < 0 <;> by_cases b : n < 0 <;> simp [a, b] at hs ⊢ <;> omega)
  have hd : (ng m == ng n) = false := by simpa using hs
  have CE := Aside0.mk (show cmp3 m.natAbs n.natAbs = -1 from cmp3_lt (by omega))
  have SL := Aside0.mk (Nat.le_of_lt hle)
  clear hs hle
  have hu25 := Try.underlying25
  have H := ((Sit.start w ok).arg hf).arg hf'
  clear hf hf'
  go_enter Try.func28, Try.ntmps28
  go_wp2_with (first
    | ((with_reducible refine gate_dst (N := 2) rfl ?_); refine box_event ?hg (N := 2) ?hd (cs := #[.bool (ng m), .slice A (ln m) c]) (t := 25) ?hr ?_; (case hd => rfl); (case hg => rfl); (case hr => first | (go_simp; done) | (go_simp; rfl)); intro g1 hg w1 hbox hb; replace H := H.newbox hg hbox hb; clear hg hbox hb)
    | ((with_reducible refine gate_dst (N := 3) rfl ?_); refine box_event ?hg (N := 3) ?hd (cs := #[.bool (ng n), .slice A' (ln n) c']) (t := 25) ?hr ?_; (case hd => rfl); (case hg => rfl); (case hr => first | (go_simp; done) | (go_simp; rfl)); intro g2 hg w2 hbox hb; replace H := H.newbox hg hbox hb; clear hg hbox hb)
    | ((with_reducible refine gate_dst (N := 4) rfl ?_); refine box_event ?hg (N := 4) ?hd (cs := #[.bool false, .slice none 0 0]) (t := 25) ?hr ?_; (case hd => rfl); (case hg => rfl); (case hr => first | (go_simp; done) | (go_simp; rfl)); intro g3 hg w3 hbox hb; replace H := H.newbox hg hbox hb; clear hg hbox hb; have kx_0 : w3.cell? ⟨g1, 0, none⟩ = some (.bool (ng m)) := H.cell m2 0; have kx_1 : w3.cell? ⟨g1, 1, none⟩ = some (.slice A (ln m) c) := H.cell m2 1; have ky_0 : w3.cell? ⟨g2, 0, none⟩ = some (.bool (ng n)) := H.cell m1 0; have ky_1 : w3.cell? ⟨g2, 1, none⟩ = some (.slice A' (ln n) c') := H.cell m1 1)
    | (go_at_call 81; refine (compareI (H.row _ m1) (H.row _ m0) hm (-1) CE.out).mono ?_; rintro e w3b ⟨rfl, hb⟩; replace H := H.call hb; clear hb kx_0 kx_1 ky_0 ky_1; have kx_0 : w3b.cell? ⟨g1, 0, none⟩ = some (.bool (ng m)) := H.cell m2 0; have kx_1 : w3b.cell? ⟨g1, 1, none⟩ = some (.slice A (ln m) c) := H.cell m2 1; have ky_0 : w3b.cell? ⟨g2, 0, none⟩ = some (.bool (ng n)) := H.cell m1 0; have ky_1 : w3b.cell? ⟨g2, 1, none⟩ = some (.slice A' (ln n) c') := H.cell m1 1))
  go_region_held3 (fun w' => w'.cell? ⟨g1, 0, none⟩ = some (.bool (ng m)) ∧ w'.cell? ⟨g1, 1, none⟩ = some (.slice A (ln m) c) ∧ w'.cell? ⟨g2, 0, none⟩ = some (.bool (ng n)) ∧ w'.cell? ⟨g2, 1, none⟩ = some (.slice A' (ln n) c')) (first
      | exact ⟨H.cell m2 0, H.cell m2 1, H.cell m1 0, H.cell m1 1⟩
      | (have H' := (H.setn [] 0 (.bool (ng (m + n))) rfl).setn [] 1 (.slice A5 (ln (m + n)) c5) rfl; exact ⟨H'.cell m2 0, H'.cell m2 1, H'.cell m1 0, H'.cell m1 1⟩))
    (first
     | (go_at_call 82; refine (subI (H.drew.row _ m0) (H.drew.row _ m1) hn SL.out (dg 4294967296 (n.natAbs - m.natAbs)) rfl).mono ?_; rintro e w4 ⟨A4, c4, rfl, hr, hb⟩; replace H := H.drew.got hr hb; clear hr hb)
     | (go_at_call 78; refine (signed_ok (ng n) A4 c4 (dg 4294967296 (n.natAbs - m.natAbs)) (m + n) _ _ (dg_okd _) (by have := LE.out; omega) (H.row _ (.head _)) (VE.out)).mono ?_; rintro e w5 ⟨A5, c5, rfl, hr, hb⟩; replace H := H.got hr hb; clear hr hb; have z_0 : w5.cell? ⟨g3, 0, none⟩ = some (.bool false) := H.cell m0 0; have z_1 : w5.cell? ⟨g3, 1, none⟩ = some (.slice none 0 0) := H.cell m0 1; have zz_0 := H.frozen (g := g3) m0 0; have zz_1 := H.frozen (g := g3) m0 1))
  go_wp2
  refine bodyPost_ret (results_cell_row rfl _ _ g3 25 #[.bool (ng (m + n)), .slice A5 (ln (m + n)) c5] (0, 0) _ rfl (((H.setn [] 0 (.bool (ng (m + n))) rfl).setn [] 1 (.slice A5 (ln (m + n)) c5) rfl).blk (.head _)) Try.underlying25 rfl (by kernel_rfl)) rfl ?_
  replace H := (H.setn [] 0 (.bool (ng (m + n))) rfl).setn [] 1 (.slice A5 (ln (m + n)) c5) rfl
  exact ⟨A5, c5, rfl, H.ret (.head _), H.below⟩

theorem Add_ok (A A' : Option Addr) (c c' : Nat) (m n : Int) (w : World) (ok : Nat → Prop) (hf : (bw A c m).at w ok) (hf' : (bw A' c' n).at w ok) (hm : ln m ≤ 10000000) (hn : ln n ≤ 10000000) : Calls Try.prog 28 #[.agg #[.bool (ng m), .slice A (ln m) c], .agg #[.bool (ng n), .slice A' (ln n) c']] w (RetI w ok (m + n)) := by
  by_cases hs : ng m = ng n
  · exact Add_same A A' c c' m n w ok hf hf' hm hn hs
  · by_cases hle : n.natAbs ≤ m.natAbs
    · exact Add_ge A A' c c' m n w ok hf hf' hm hn hs hle
    · exact Add_lt A A' c c' m n w ok hf hf' hm hn hs (by omega)

end Go.Proofs.Ytdkapdgbfejgdaa
