/- The walk of the law BigintRing: over every three texts it returns true. -/
import Derived.Test.YtdkapdgbfejgdaaTw
namespace Go.Proofs.Ytdkapdgbfejgdaa
open Go.RowKit Go.Proofs.YtdkapdgbfejgdaaW.PrintWords Go.Proofs.YtdkapdgbfejgdaaW.PrintLast Go.Proofs.YtdkapdgbfejgdaaW.PrintMore
set_option linter.unusedSimpArgs false
set_option linter.unusedVariables false

set_option maxHeartbeats 8000000 in
set_option maxRecDepth 100000 in
theorem ring_f (a b c : ByteArray) (w : World) (x y z u : Int) (q : Bool) (hAB : Aside0 (∀ w, Calls Try.prog 33 #[.string a, .string b] w (RetTwo w x y false))) (hC : Aside0 (∀ w, Calls Try.prog 33 #[.string c, .string ⟨#[48]⟩] w (RetTwo w z u q))) : Calls Try.prog 11 #[.string a, .string b, .string c] w (fun e W' => e = .returned (.bool true) ∧ Below w.heap.size w W') := by
  have hu25 := Try.underlying25
  have H := Sit.start w (fun _ => False)
  go_enter Try.func11, Try.ntmps11
  have st2 := trivial
  have st8 := trivial
  have st10 := trivial
  have st12 := trivial
  go_upto_region 4 with (first
    | (clear st2; go_at_call 22; (with_reducible refine (awake_ok _).mono ?_); rintro e wA ⟨rfl, hb⟩; replace H := H.call hb; clear hb)
    | (clear st8; go_at_call 33; (with_reducible refine (hAB.out _).mono ?_); rintro e w3 ⟨A4, c5, A6, c7, rfl, hr, hr2, hb⟩; replace H := (H.got (fresh_row hr) hb).more ((H.got (fresh_row hr2) hb).row _ m0); clear hr hr2 hb)
    | (clear st10; (with_reducible refine gate_dst (N := 7) rfl ?_); refine box_event ?hg (N := 7) ?hd (cs := #[.bool false, .slice none 0 0]) (t := 25) ?hr ?_; (case hd => rfl); (case hg => rfl); (case hr => first | (go_simp; done) | (go_simp; rfl)); intro gx hg w9 hbox hb; replace H := H.newbox hg hbox hb; clear hg hbox hb; have kgx_0 : w9.cell? ⟨gx, 0, none⟩ = some (.bool false) := H.cell m0 0; have zgx_0 := H.frozen (g := gx) m0 0; have kgx_1 : w9.cell? ⟨gx, 1, none⟩ = some (.slice none 0 0) := H.cell m0 1; have zgx_1 := H.frozen (g := gx) m0 1)
    | (clear st12; (with_reducible refine gate_dst (N := 8) rfl ?_); refine box_event ?hg (N := 8) ?hd (cs := #[.bool false, .slice none 0 0]) (t := 25) ?hr ?_; (case hd => rfl); (case hg => rfl); (case hr => first | (go_simp; done) | (go_simp; rfl)); intro gy hg w11 hbox hb; replace H := H.newbox hg hbox hb; clear hg hbox hb; clear kgx_0 zgx_0 kgx_1 zgx_1; have kgy_0 : w11.cell? ⟨gy, 0, none⟩ = some (.bool false) := H.cell m0 0; have zgy_0 := H.frozen (g := gy) m0 0; have kgy_1 : w11.cell? ⟨gy, 1, none⟩ = some (.slice none 0 0) := H.cell m0 1; have zgy_1 := H.frozen (g := gy) m0 1; have kgx_0 : w11.cell? ⟨gx, 0, none⟩ = some (.bool false) := H.cell m1 0; have zgx_0 := H.frozen (g := gx) m1 0; have kgx_1 : w11.cell? ⟨gx, 1, none⟩ = some (.slice none 0 0) := H.cell m1 1; have zgx_1 := H.frozen (g := gx) m1 1; have ne_gy_gx := H.ne (g := gy) (g' := gx) 0 1 rfl rfl (by decide); have ne_gx_gy := ne_gy_gx.symm))
  (try simp only [Act.put, List.setIfInBounds_toArray, List.set_cons_zero, List.set_cons_succ])
  replace H := ((((H.setn [_] 0 (.bool (ng x)) rfl).setn [_] 1 (.slice A4 (ln x) c5) rfl).setn [] 0 (.bool (ng y)) rfl).setn [] 1 (.slice A6 (ln y) c7) rfl)
  clear kgy_0 zgy_0 kgy_1 zgy_1 kgx_0 zgx_0 kgx_1 zgx_1
  generalize ((((w11.setCell ⟨gx, 0, none⟩ (.bool (ng x))).setCell ⟨gx, 1, none⟩ (.slice A4 (ln x) c5)).setCell ⟨gy, 0, none⟩ (.bool (ng y))).setCell ⟨gy, 1, none⟩ (.slice A6 (ln y) c7)) = w13 at H ⊢
  have kgy_0 : w13.cell? ⟨gy, 0, none⟩ = some (.bool (ng y)) := H.cell m0 0
  have zgy_0 := H.frozen (g := gy) m0 0
  have kgy_1 : w13.cell? ⟨gy, 1, none⟩ = some (.slice A6 (ln y) c7) := H.cell m0 1
  have zgy_1 := H.frozen (g := gy) m0 1
  have kgx_0 : w13.cell? ⟨gx, 0, none⟩ = some (.bool (ng x)) := H.cell m1 0
  have zgx_0 := H.frozen (g := gx) m1 0
  have kgx_1 : w13.cell? ⟨gx, 1, none⟩ = some (.slice A4 (ln x) c5) := H.cell m1 1
  have zgx_1 := H.frozen (g := gx) m1 1
  have st19 := trivial
  have st21 := trivial
  have st23 := trivial
  go_upto_region 5 with (first
    | (clear st19; go_at_call 33; (with_reducible refine (hC.out _).mono ?_); rintro e w14 ⟨A15, c16, A17, c18, rfl, hr, hr2, hb⟩; replace H := (H.got (fresh_row hr) hb).more ((H.got (fresh_row hr2) hb).row _ m0); clear hr hr2 hb; clear kgy_0 zgy_0 kgy_1 zgy_1 kgx_0 zgx_0 kgx_1 zgx_1; have kgy_0 : w14.cell? ⟨gy, 0, none⟩ = some (.bool (ng y)) := H.cell m0 0; have zgy_0 := H.frozen (g := gy) m0 0; have kgy_1 : w14.cell? ⟨gy, 1, none⟩ = some (.slice A6 (ln y) c7) := H.cell m0 1; have zgy_1 := H.frozen (g := gy) m0 1; have kgx_0 : w14.cell? ⟨gx, 0, none⟩ = some (.bool (ng x)) := H.cell m1 0; have zgx_0 := H.frozen (g := gx) m1 0; have kgx_1 : w14.cell? ⟨gx, 1, none⟩ = some (.slice A4 (ln x) c5) := H.cell m1 1; have zgx_1 := H.frozen (g := gx) m1 1)
    | (clear st21; (with_reducible refine gate_dst (N := 10) rfl ?_); refine box_event ?hg (N := 10) ?hd (cs := #[.bool false, .slice none 0 0]) (t := 25) ?hr ?_; (case hd => rfl); (case hg => rfl); (case hr => first | (go_simp; done) | (go_simp; rfl)); intro gz hg w20 hbox hb; replace H := H.newbox hg hbox hb; clear hg hbox hb; clear kgy_0 zgy_0 kgy_1 zgy_1 kgx_0 zgx_0 kgx_1 zgx_1; have kgz_0 : w20.cell? ⟨gz, 0, none⟩ = some (.bool false) := H.cell m0 0; have zgz_0 := H.frozen (g := gz) m0 0; have kgz_1 : w20.cell? ⟨gz, 1, none⟩ = some (.slice none 0 0) := H.cell m0 1; have zgz_1 := H.frozen (g := gz) m0 1; have kgy_0 : w20.cell? ⟨gy, 0, none⟩ = some (.bool (ng y)) := H.cell m1 0; have zgy_0 := H.frozen (g := gy) m1 0; have kgy_1 : w20.cell? ⟨gy, 1, none⟩ = some (.slice A6 (ln y) c7) := H.cell m1 1; have zgy_1 := H.frozen (g := gy) m1 1; have kgx_0 : w20.cell? ⟨gx, 0, none⟩ = some (.bool (ng x)) := H.cell m2 0; have zgx_0 := H.frozen (g := gx) m2 0; have kgx_1 : w20.cell? ⟨gx, 1, none⟩ = some (.slice A4 (ln x) c5) := H.cell m2 1; have zgx_1 := H.frozen (g := gx) m2 1; have ne_gz_gy := H.ne (g := gz) (g' := gy) 0 1 rfl rfl (by decide); have ne_gy_gz := ne_gz_gy.symm; have ne_gz_gx := H.ne (g := gz) (g' := gx) 0 2 rfl rfl (by decide); have ne_gx_gz := ne_gz_gx.symm)
    | (clear st23; (with_reducible refine gate_dst (N := 11) rfl ?_); refine box_event ?hg (N := 11) ?hd (cs := #[.bool false, .slice none 0 0]) (t := 25) ?hr ?_; (case hd => rfl); (case hg => rfl); (case hr => first | (go_simp; done) | (go_simp; rfl)); intro gu hg w22 hbox hb; replace H := H.newbox hg hbox hb; clear hg hbox hb; clear kgz_0 zgz_0 kgz_1 zgz_1 kgy_0 zgy_0 kgy_1 zgy_1 kgx_0 zgx_0 kgx_1 zgx_1; have kgu_0 : w22.cell? ⟨gu, 0, none⟩ = some (.bool false) := H.cell m0 0; have zgu_0 := H.frozen (g := gu) m0 0; have kgu_1 : w22.cell? ⟨gu, 1, none⟩ = some (.slice none 0 0) := H.cell m0 1; have zgu_1 := H.frozen (g := gu) m0 1; have kgz_0 : w22.cell? ⟨gz, 0, none⟩ = some (.bool false) := H.cell m1 0; have zgz_0 := H.frozen (g := gz) m1 0; have kgz_1 : w22.cell? ⟨gz, 1, none⟩ = some (.slice none 0 0) := H.cell m1 1; have zgz_1 := H.frozen (g := gz) m1 1; have kgy_0 : w22.cell? ⟨gy, 0, none⟩ = some (.bool (ng y)) := H.cell m2 0; have zgy_0 := H.frozen (g := gy) m2 0; have kgy_1 : w22.cell? ⟨gy, 1, none⟩ = some (.slice A6 (ln y) c7) := H.cell m2 1; have zgy_1 := H.frozen (g := gy) m2 1; have kgx_0 : w22.cell? ⟨gx, 0, none⟩ = some (.bool (ng x)) := H.cell m3 0; have zgx_0 := H.frozen (g := gx) m3 0; have kgx_1 : w22.cell? ⟨gx, 1, none⟩ = some (.slice A4 (ln x) c5) := H.cell m3 1; have zgx_1 := H.frozen (g := gx) m3 1; have ne_gu_gz := H.ne (g := gu) (g' := gz) 0 1 rfl rfl (by decide); have ne_gz_gu := ne_gu_gz.symm; have ne_gu_gy := H.ne (g := gu) (g' := gy) 0 2 rfl rfl (by decide); have ne_gy_gu := ne_gu_gy.symm; have ne_gu_gx := H.ne (g := gu) (g' := gx) 0 3 rfl rfl (by decide); have ne_gx_gu := ne_gu_gx.symm))
  (try simp only [Act.put, List.setIfInBounds_toArray, List.set_cons_zero, List.set_cons_succ])
  replace H := ((((H.setn [_] 0 (.bool (ng z)) rfl).setn [_] 1 (.slice A15 (ln z) c16) rfl).setn [] 0 (.bool (ng u)) rfl).setn [] 1 (.slice A17 (ln u) c18) rfl)
  clear kgu_0 zgu_0 kgu_1 zgu_1 kgz_0 zgz_0 kgz_1 zgz_1 kgy_0 zgy_0 kgy_1 zgy_1 kgx_0 zgx_0 kgx_1 zgx_1
  generalize ((((w22.setCell ⟨gz, 0, none⟩ (.bool (ng z))).setCell ⟨gz, 1, none⟩ (.slice A15 (ln z) c16)).setCell ⟨gu, 0, none⟩ (.bool (ng u))).setCell ⟨gu, 1, none⟩ (.slice A17 (ln u) c18)) = w24 at H ⊢
  have kgu_0 : w24.cell? ⟨gu, 0, none⟩ = some (.bool (ng u)) := H.cell m0 0
  have zgu_0 := H.frozen (g := gu) m0 0
  have kgu_1 : w24.cell? ⟨gu, 1, none⟩ = some (.slice A17 (ln u) c18) := H.cell m0 1
  have zgu_1 := H.frozen (g := gu) m0 1
  have kgz_0 : w24.cell? ⟨gz, 0, none⟩ = some (.bool (ng z)) := H.cell m1 0
  have zgz_0 := H.frozen (g := gz) m1 0
  have kgz_1 : w24.cell? ⟨gz, 1, none⟩ = some (.slice A15 (ln z) c16) := H.cell m1 1
  have zgz_1 := H.frozen (g := gz) m1 1
  have kgy_0 : w24.cell? ⟨gy, 0, none⟩ = some (.bool (ng y)) := H.cell m2 0
  have zgy_0 := H.frozen (g := gy) m2 0
  have kgy_1 : w24.cell? ⟨gy, 1, none⟩ = some (.slice A6 (ln y) c7) := H.cell m2 1
  have zgy_1 := H.frozen (g := gy) m2 1
  have kgx_0 : w24.cell? ⟨gx, 0, none⟩ = some (.bool (ng x)) := H.cell m3 0
  have zgx_0 := H.frozen (g := gx) m3 0
  have kgx_1 : w24.cell? ⟨gx, 1, none⟩ = some (.slice A4 (ln x) c5) := H.cell m3 1
  have zgx_1 := H.frozen (g := gx) m3 1
  go_wp2
  go_ret
  exact ⟨rfl, H.below⟩

set_option maxHeartbeats 8000000 in
set_option maxRecDepth 100000 in
theorem ring_tf (a b c : ByteArray) (w : World) (x y z u : Int) (hAB : Aside0 (∀ w, Calls Try.prog 33 #[.string a, .string b] w (RetTwo w x y true))) (hC : Aside0 (∀ w, Calls Try.prog 33 #[.string c, .string ⟨#[48]⟩] w (RetTwo w z u false))) : Calls Try.prog 11 #[.string a, .string b, .string c] w (fun e W' => e = .returned (.bool true) ∧ Below w.heap.size w W') := by
  have hu25 := Try.underlying25
  have H := Sit.start w (fun _ => False)
  go_enter Try.func11, Try.ntmps11
  have st2 := trivial
  have st8 := trivial
  have st10 := trivial
  have st12 := trivial
  go_upto_region 4 with (first
    | (clear st2; go_at_call 22; (with_reducible refine (awake_ok _).mono ?_); rintro e wA ⟨rfl, hb⟩; replace H := H.call hb; clear hb)
    | (clear st8; go_at_call 33; (with_reducible refine (hAB.out _).mono ?_); rintro e w3 ⟨A4, c5, A6, c7, rfl, hr, hr2, hb⟩; replace H := (H.got (fresh_row hr) hb).more ((H.got (fresh_row hr2) hb).row _ m0); clear hr hr2 hb)
    | (clear st10; (with_reducible refine gate_dst (N := 7) rfl ?_); refine box_event ?hg (N := 7) ?hd (cs := #[.bool false, .slice none 0 0]) (t := 25) ?hr ?_; (case hd => rfl); (case hg => rfl); (case hr => first | (go_simp; done) | (go_simp; rfl)); intro gx hg w9 hbox hb; replace H := H.newbox hg hbox hb; clear hg hbox hb; have kgx_0 : w9.cell? ⟨gx, 0, none⟩ = some (.bool false) := H.cell m0 0; have zgx_0 := H.frozen (g := gx) m0 0; have kgx_1 : w9.cell? ⟨gx, 1, none⟩ = some (.slice none 0 0) := H.cell m0 1; have zgx_1 := H.frozen (g := gx) m0 1)
    | (clear st12; (with_reducible refine gate_dst (N := 8) rfl ?_); refine box_event ?hg (N := 8) ?hd (cs := #[.bool false, .slice none 0 0]) (t := 25) ?hr ?_; (case hd => rfl); (case hg => rfl); (case hr => first | (go_simp; done) | (go_simp; rfl)); intro gy hg w11 hbox hb; replace H := H.newbox hg hbox hb; clear hg hbox hb; clear kgx_0 zgx_0 kgx_1 zgx_1; have kgy_0 : w11.cell? ⟨gy, 0, none⟩ = some (.bool false) := H.cell m0 0; have zgy_0 := H.frozen (g := gy) m0 0; have kgy_1 : w11.cell? ⟨gy, 1, none⟩ = some (.slice none 0 0) := H.cell m0 1; have zgy_1 := H.frozen (g := gy) m0 1; have kgx_0 : w11.cell? ⟨gx, 0, none⟩ = some (.bool false) := H.cell m1 0; have zgx_0 := H.frozen (g := gx) m1 0; have kgx_1 : w11.cell? ⟨gx, 1, none⟩ = some (.slice none 0 0) := H.cell m1 1; have zgx_1 := H.frozen (g := gx) m1 1; have ne_gy_gx := H.ne (g := gy) (g' := gx) 0 1 rfl rfl (by decide); have ne_gx_gy := ne_gy_gx.symm))
  (try simp only [Act.put, List.setIfInBounds_toArray, List.set_cons_zero, List.set_cons_succ])
  replace H := ((((H.setn [_] 0 (.bool (ng x)) rfl).setn [_] 1 (.slice A4 (ln x) c5) rfl).setn [] 0 (.bool (ng y)) rfl).setn [] 1 (.slice A6 (ln y) c7) rfl)
  clear kgy_0 zgy_0 kgy_1 zgy_1 kgx_0 zgx_0 kgx_1 zgx_1
  generalize ((((w11.setCell ⟨gx, 0, none⟩ (.bool (ng x))).setCell ⟨gx, 1, none⟩ (.slice A4 (ln x) c5)).setCell ⟨gy, 0, none⟩ (.bool (ng y))).setCell ⟨gy, 1, none⟩ (.slice A6 (ln y) c7)) = w13 at H ⊢
  have kgy_0 : w13.cell? ⟨gy, 0, none⟩ = some (.bool (ng y)) := H.cell m0 0
  have zgy_0 := H.frozen (g := gy) m0 0
  have kgy_1 : w13.cell? ⟨gy, 1, none⟩ = some (.slice A6 (ln y) c7) := H.cell m0 1
  have zgy_1 := H.frozen (g := gy) m0 1
  have kgx_0 : w13.cell? ⟨gx, 0, none⟩ = some (.bool (ng x)) := H.cell m1 0
  have zgx_0 := H.frozen (g := gx) m1 0
  have kgx_1 : w13.cell? ⟨gx, 1, none⟩ = some (.slice A4 (ln x) c5) := H.cell m1 1
  have zgx_1 := H.frozen (g := gx) m1 1
  have st19 := trivial
  have st21 := trivial
  have st23 := trivial
  go_upto_region 5 with (first
    | (clear st19; go_at_call 33; (with_reducible refine (hC.out _).mono ?_); rintro e w14 ⟨A15, c16, A17, c18, rfl, hr, hr2, hb⟩; replace H := (H.got (fresh_row hr) hb).more ((H.got (fresh_row hr2) hb).row _ m0); clear hr hr2 hb; clear kgy_0 zgy_0 kgy_1 zgy_1 kgx_0 zgx_0 kgx_1 zgx_1; have kgy_0 : w14.cell? ⟨gy, 0, none⟩ = some (.bool (ng y)) := H.cell m0 0; have zgy_0 := H.frozen (g := gy) m0 0; have kgy_1 : w14.cell? ⟨gy, 1, none⟩ = some (.slice A6 (ln y) c7) := H.cell m0 1; have zgy_1 := H.frozen (g := gy) m0 1; have kgx_0 : w14.cell? ⟨gx, 0, none⟩ = some (.bool (ng x)) := H.cell m1 0; have zgx_0 := H.frozen (g := gx) m1 0; have kgx_1 : w14.cell? ⟨gx, 1, none⟩ = some (.slice A4 (ln x) c5) := H.cell m1 1; have zgx_1 := H.frozen (g := gx) m1 1)
    | (clear st21; (with_reducible refine gate_dst (N := 10) rfl ?_); refine box_event ?hg (N := 10) ?hd (cs := #[.bool false, .slice none 0 0]) (t := 25) ?hr ?_; (case hd => rfl); (case hg => rfl); (case hr => first | (go_simp; done) | (go_simp; rfl)); intro gz hg w20 hbox hb; replace H := H.newbox hg hbox hb; clear hg hbox hb; clear kgy_0 zgy_0 kgy_1 zgy_1 kgx_0 zgx_0 kgx_1 zgx_1; have kgz_0 : w20.cell? ⟨gz, 0, none⟩ = some (.bool false) := H.cell m0 0; have zgz_0 := H.frozen (g := gz) m0 0; have kgz_1 : w20.cell? ⟨gz, 1, none⟩ = some (.slice none 0 0) := H.cell m0 1; have zgz_1 := H.frozen (g := gz) m0 1; have kgy_0 : w20.cell? ⟨gy, 0, none⟩ = some (.bool (ng y)) := H.cell m1 0; have zgy_0 := H.frozen (g := gy) m1 0; have kgy_1 : w20.cell? ⟨gy, 1, none⟩ = some (.slice A6 (ln y) c7) := H.cell m1 1; have zgy_1 := H.frozen (g := gy) m1 1; have kgx_0 : w20.cell? ⟨gx, 0, none⟩ = some (.bool (ng x)) := H.cell m2 0; have zgx_0 := H.frozen (g := gx) m2 0; have kgx_1 : w20.cell? ⟨gx, 1, none⟩ = some (.slice A4 (ln x) c5) := H.cell m2 1; have zgx_1 := H.frozen (g := gx) m2 1; have ne_gz_gy := H.ne (g := gz) (g' := gy) 0 1 rfl rfl (by decide); have ne_gy_gz := ne_gz_gy.symm; have ne_gz_gx := H.ne (g := gz) (g' := gx) 0 2 rfl rfl (by decide); have ne_gx_gz := ne_gz_gx.symm)
    | (clear st23; (with_reducible refine gate_dst (N := 11) rfl ?_); refine box_event ?hg (N := 11) ?hd (cs := #[.bool false, .slice none 0 0]) (t := 25) ?hr ?_; (case hd => rfl); (case hg => rfl); (case hr => first | (go_simp; done) | (go_simp; rfl)); intro gu hg w22 hbox hb; replace H := H.newbox hg hbox hb; clear hg hbox hb; clear kgz_0 zgz_0 kgz_1 zgz_1 kgy_0 zgy_0 kgy_1 zgy_1 kgx_0 zgx_0 kgx_1 zgx_1; have kgu_0 : w22.cell? ⟨gu, 0, none⟩ = some (.bool false) := H.cell m0 0; have zgu_0 := H.frozen (g := gu) m0 0; have kgu_1 : w22.cell? ⟨gu, 1, none⟩ = some (.slice none 0 0) := H.cell m0 1; have zgu_1 := H.frozen (g := gu) m0 1; have kgz_0 : w22.cell? ⟨gz, 0, none⟩ = some (.bool false) := H.cell m1 0; have zgz_0 := H.frozen (g := gz) m1 0; have kgz_1 : w22.cell? ⟨gz, 1, none⟩ = some (.slice none 0 0) := H.cell m1 1; have zgz_1 := H.frozen (g := gz) m1 1; have kgy_0 : w22.cell? ⟨gy, 0, none⟩ = some (.bool (ng y)) := H.cell m2 0; have zgy_0 := H.frozen (g := gy) m2 0; have kgy_1 : w22.cell? ⟨gy, 1, none⟩ = some (.slice A6 (ln y) c7) := H.cell m2 1; have zgy_1 := H.frozen (g := gy) m2 1; have kgx_0 : w22.cell? ⟨gx, 0, none⟩ = some (.bool (ng x)) := H.cell m3 0; have zgx_0 := H.frozen (g := gx) m3 0; have kgx_1 : w22.cell? ⟨gx, 1, none⟩ = some (.slice A4 (ln x) c5) := H.cell m3 1; have zgx_1 := H.frozen (g := gx) m3 1; have ne_gu_gz := H.ne (g := gu) (g' := gz) 0 1 rfl rfl (by decide); have ne_gz_gu := ne_gu_gz.symm; have ne_gu_gy := H.ne (g := gu) (g' := gy) 0 2 rfl rfl (by decide); have ne_gy_gu := ne_gu_gy.symm; have ne_gu_gx := H.ne (g := gu) (g' := gx) 0 3 rfl rfl (by decide); have ne_gx_gu := ne_gu_gx.symm))
  (try simp only [Act.put, List.setIfInBounds_toArray, List.set_cons_zero, List.set_cons_succ])
  replace H := ((((H.setn [_] 0 (.bool (ng z)) rfl).setn [_] 1 (.slice A15 (ln z) c16) rfl).setn [] 0 (.bool (ng u)) rfl).setn [] 1 (.slice A17 (ln u) c18) rfl)
  clear kgu_0 zgu_0 kgu_1 zgu_1 kgz_0 zgz_0 kgz_1 zgz_1 kgy_0 zgy_0 kgy_1 zgy_1 kgx_0 zgx_0 kgx_1 zgx_1
  generalize ((((w22.setCell ⟨gz, 0, none⟩ (.bool (ng z))).setCell ⟨gz, 1, none⟩ (.slice A15 (ln z) c16)).setCell ⟨gu, 0, none⟩ (.bool (ng u))).setCell ⟨gu, 1, none⟩ (.slice A17 (ln u) c18)) = w24 at H ⊢
  have kgu_0 : w24.cell? ⟨gu, 0, none⟩ = some (.bool (ng u)) := H.cell m0 0
  have zgu_0 := H.frozen (g := gu) m0 0
  have kgu_1 : w24.cell? ⟨gu, 1, none⟩ = some (.slice A17 (ln u) c18) := H.cell m0 1
  have zgu_1 := H.frozen (g := gu) m0 1
  have kgz_0 : w24.cell? ⟨gz, 0, none⟩ = some (.bool (ng z)) := H.cell m1 0
  have zgz_0 := H.frozen (g := gz) m1 0
  have kgz_1 : w24.cell? ⟨gz, 1, none⟩ = some (.slice A15 (ln z) c16) := H.cell m1 1
  have zgz_1 := H.frozen (g := gz) m1 1
  have kgy_0 : w24.cell? ⟨gy, 0, none⟩ = some (.bool (ng y)) := H.cell m2 0
  have zgy_0 := H.frozen (g := gy) m2 0
  have kgy_1 : w24.cell? ⟨gy, 1, none⟩ = some (.slice A6 (ln y) c7) := H.cell m2 1
  have zgy_1 := H.frozen (g := gy) m2 1
  have kgx_0 : w24.cell? ⟨gx, 0, none⟩ = some (.bool (ng x)) := H.cell m3 0
  have zgx_0 := H.frozen (g := gx) m3 0
  have kgx_1 : w24.cell? ⟨gx, 1, none⟩ = some (.slice A4 (ln x) c5) := H.cell m3 1
  have zgx_1 := H.frozen (g := gx) m3 1
  go_wp2
  go_ret
  exact ⟨rfl, H.below⟩

def tb11.T7 : Bool × List (List Nat × List Nat) := (true, [([], []), ([], []), ([0, 1], [0, 1]), ([], []), ([], []), ([3, 4, 2], [3, 4]), ([2, 5, 5], [2, 5]), ([6], [6]), ([7, 6], [7]), ([8], [8]), ([8], [8]), ([9, 10, 8, 8], [8, 9, 10]), ([8], [8]), ([8], [8]), ([12, 13, 11, 8], [8, 12, 13]), ([11, 14, 14, 8], [8, 11, 14]), ([15, 8], [8, 15]), ([8, 16], [8, 16]), ([17, 15], [17]), ([18], [18]), ([18], [18]), ([19, 20, 18, 18], [18, 19, 20]), ([18], [18]), ([21, 22, 21, 18], [18, 21, 22]), ([18], [18]), ([18], [18]), ([18], [18]), ([25, 26, 23, 18], [18, 25, 26]), ([24, 27, 27, 18], [18, 24, 27]), ([23, 28, 28, 18], [18, 23, 28]), ([29, 18], [18, 29]), ([18, 30], [18, 30]), ([31, 29], [31]), ([32], [32]), ([32], [32]), ([33, 34, 32, 32], [32, 33, 34]), ([32], [32]), ([35, 36, 35, 32], [32, 35, 36]), ([32], [32]), ([32], [32]), ([32], [32]), ([39, 40, 37, 32], [32, 39, 40]), ([38, 41, 41, 32], [32, 38, 41]), ([37, 42, 42, 32], [32, 37, 42]), ([43, 32], [32, 43]), ([32, 44], [32, 44]), ([45, 43], [45]), ([46], [46]), ([46], [46]), ([46], [46]), ([48, 49, 46, 46], [46, 48, 49]), ([47, 50, 50, 46], [46, 47, 50]), ([46], [46]), ([46], [46]), ([52, 53, 51, 46], [46, 52, 53]), ([46], [46]), ([46], [46]), ([55, 56, 54, 46], [46, 55, 56]), ([54, 57, 57, 46], [46, 54, 57]), ([51, 58, 58, 46], [46, 51, 58]), ([59, 46], [46, 59]), ([46, 60], [46, 60]), ([61, 59], [61]), ([62], [62]), ([62], [62]), ([63, 64, 62, 62], [62, 63, 64]), ([62], [62]), ([62], [62]), ([67, 65, 62], [62, 67]), ([66, 68, 68, 62], [62, 66, 68]), ([65, 69, 69, 62], [62, 65, 69]), ([70, 62], [62, 70]), ([62, 71], [62, 71]), ([72, 70], [72]), ([73], [73]), ([73], [73]), ([74, 75, 73, 73], [73, 74, 75]), ([76, 76, 73], [73, 76]), ([77, 73], [73, 77]), ([73, 78], [73, 78]), ([79, 77, 0, 1, 2, 3, 4, 5, 6, 7, 8, 9, 10, 11, 12, 13, 14, 15, 16, 17, 18, 19, 20, 21, 22, 23, 24, 25, 26, 27, 28, 29, 30, 31, 32, 33, 34, 35, 36, 37, 38, 39, 40, 41, 42, 43, 44, 45, 46, 47, 48, 49, 50, 51, 52, 53, 54, 55, 56, 57, 58, 59, 60, 61, 62, 63, 64, 65, 66, 67, 68, 69, 70, 71, 72, 73, 74, 75, 76, 77, 78, 79], [79])])
def tb11.B7 : List Nat := [0, 0, 3, 0, 0, 31, 63, 127, 255, 511, 511, 2047, 511, 511, 16383, 32767, 65535, 131071, 262143, 524287, 524287, 2097151, 524287, 8388607, 524287, 524287, 524287, 117440511, 268435455, 536870911, 1073741823, 2147483647, 4294967295, 8589934591, 8589934591, 34359738367, 8589934591, 137438953471, 8589934591, 8589934591, 8589934591, 1924145348607, 4398046511103, 8796093022207, 17592186044415, 35184372088831, 70368744177663, 140737488355327, 140737488355327, 140737488355327, 985162418487295, 2251799813685247, 140737488355327, 140737488355327, 18014398509481983, 140737488355327, 140737488355327, 144115188075855871, 288230376151711743, 576460752303423487, 1152921504606846975, 2305843009213693951, 4611686018427387903, 9223372036854775807, 9223372036854775807, 36893488147419103231, 9223372036854775807, 9223372036854775807, 221360928884514619391, 590295810358705651711, 1180591620717411303423, 2361183241434822606847, 4722366482869645213695, 9444732965739290427391, 18889465931478580854783, 18889465931478580854783, 75557863725914323419135, 151115727451828646838271, 302231454903657293676543, 604462909807314587353087, 1208925819614629174706175]
theorem tb11.tab7 : rtab .any (opsOf Try.f11 7) = tb11.T7 := by kernel_rfl
theorem tb11.bits7 : waitsOk tb11.T7.2 tb11.B7 = true := by kernel_rfl

set_option maxHeartbeats 8000000 in
set_option maxRecDepth 100000 in
theorem ring_t (a b c : ByteArray) (w : World) (x y z u : Int) (bx : Aside0 (ln x ≤ 10)) (bY : Aside0 (ln y ≤ 10)) (bz : Aside0 (ln z ≤ 10)) (hAB : Aside0 (∀ w, Calls Try.prog 33 #[.string a, .string b] w (RetTwo w x y true))) (hC : Aside0 (∀ w, Calls Try.prog 33 #[.string c, .string ⟨#[48]⟩] w (RetTwo w z u true))) : Calls Try.prog 11 #[.string a, .string b, .string c] w (fun e W' => e = .returned (.bool true) ∧ Below w.heap.size w W') := by
  obtain ⟨s1, es1⟩ : ∃ v : Int, x + y = v := ⟨_, rfl⟩
  obtain ⟨s2, es2⟩ : ∃ v : Int, y + x = v := ⟨_, rfl⟩
  obtain ⟨p1, ep1⟩ : ∃ v : Int, x * y = v := ⟨_, rfl⟩
  obtain ⟨p2, ep2⟩ : ∃ v : Int, y * x = v := ⟨_, rfl⟩
  obtain ⟨s3, es3⟩ : ∃ v : Int, s1 + z = v := ⟨_, rfl⟩
  obtain ⟨s4, es4⟩ : ∃ v : Int, y + z = v := ⟨_, rfl⟩
  obtain ⟨s5, es5⟩ : ∃ v : Int, x + s4 = v := ⟨_, rfl⟩
  obtain ⟨p3, ep3⟩ : ∃ v : Int, p1 * z = v := ⟨_, rfl⟩
  obtain ⟨p4, ep4⟩ : ∃ v : Int, y * z = v := ⟨_, rfl⟩
  obtain ⟨p5, ep5⟩ : ∃ v : Int, x * p4 = v := ⟨_, rfl⟩
  obtain ⟨p6, ep6⟩ : ∃ v : Int, x * s4 = v := ⟨_, rfl⟩
  obtain ⟨p7, ep7⟩ : ∃ v : Int, x * z = v := ⟨_, rfl⟩
  obtain ⟨s6, es6⟩ : ∃ v : Int, p1 + p7 = v := ⟨_, rfl⟩
  obtain ⟨d1, ed1⟩ : ∃ v : Int, x - y = v := ⟨_, rfl⟩
  obtain ⟨n1, en1⟩ : ∃ v : Int, -y = v := ⟨_, rfl⟩
  obtain ⟨s7, es7⟩ : ∃ v : Int, x + n1 = v := ⟨_, rfl⟩
  obtain ⟨d2, ed2⟩ : ∃ v : Int, x - x = v := ⟨_, rfl⟩
  have hs1 := Aside0.mk es1
  have bs1 := Aside0.mk (bAdd bx.out bY.out es1)
  have hs2 := Aside0.mk es2
  have bs2 := Aside0.mk (bAdd bY.out bx.out es2)
  have hp1 := Aside0.mk ep1
  have bp1 := Aside0.mk (bMul bx.out bY.out ep1)
  have hp2 := Aside0.mk ep2
  have bp2 := Aside0.mk (bMul bY.out bx.out ep2)
  have hs3 := Aside0.mk es3
  have bs3 := Aside0.mk (bAdd bs1.out bz.out es3)
  have hs4 := Aside0.mk es4
  have bs4 := Aside0.mk (bAdd bY.out bz.out es4)
  have hs5 := Aside0.mk es5
  have bs5 := Aside0.mk (bAdd bx.out bs4.out es5)
  have hp3 := Aside0.mk ep3
  have bp3 := Aside0.mk (bMul bp1.out bz.out ep3)
  have hp4 := Aside0.mk ep4
  have bp4 := Aside0.mk (bMul bY.out bz.out ep4)
  have hp5 := Aside0.mk ep5
  have bp5 := Aside0.mk (bMul bx.out bp4.out ep5)
  have hp6 := Aside0.mk ep6
  have bp6 := Aside0.mk (bMul bx.out bs4.out ep6)
  have hp7 := Aside0.mk ep7
  have bp7 := Aside0.mk (bMul bx.out bz.out ep7)
  have hs6 := Aside0.mk es6
  have bs6 := Aside0.mk (bAdd bp1.out bp7.out es6)
  have hd1 := Aside0.mk ed1
  have bd1 := Aside0.mk (bSub bx.out bY.out ed1)
  have hn1 := Aside0.mk en1
  have bn1 := Aside0.mk (bNeg bY.out en1)
  have hs7 := Aside0.mk es7
  have bs7 := Aside0.mk (bAdd bx.out bn1.out es7)
  have hd2 := Aside0.mk ed2
  have bd2 := Aside0.mk (bSub bx.out bx.out ed2)
  have k1 := Aside0.mk (show cmp3 s1 s2 = 0 from cmp3_eq (by rw [← es1, ← es2]; exact Int.add_comm _ _))
  have k2 := Aside0.mk (show cmp3 p1 p2 = 0 from cmp3_eq (by rw [← ep1, ← ep2]; exact Int.mul_comm _ _))
  have k3 := Aside0.mk (show cmp3 s3 s5 = 0 from cmp3_eq (by rw [← es3, ← es5, ← es1, ← es4]; exact Int.add_assoc _ _ _))
  have k4 := Aside0.mk (show cmp3 p3 p5 = 0 from cmp3_eq (by rw [← ep3, ← ep5, ← ep1, ← ep4]; exact Int.mul_assoc _ _ _))
  have k5 := Aside0.mk (show cmp3 p6 s6 = 0 from cmp3_eq (by rw [← ep6, ← es6, ← ep1, ← ep7, ← es4]; exact Int.mul_add _ _ _))
  have k6 := Aside0.mk (show cmp3 d1 s7 = 0 from cmp3_eq (by rw [← ed1, ← es7, ← en1]; exact Int.sub_eq_add_neg))
  have k7 := Aside0.mk (show sg d2 = 0 by rw [← ed2, Int.sub_self]; rfl)
  clear es1 es2 ep1 ep2 es3 es4 es5 ep3 ep4 ep5 ep6 ep7 es6 ed1 en1 es7 ed2
  have hu25 := Try.underlying25
  have H := Sit.start w (fun _ => False)
  go_enter Try.func11, Try.ntmps11
  have st2 := trivial
  have st8 := trivial
  have st10 := trivial
  have st12 := trivial
  go_upto_region 4 with (first
    | (clear st2; go_at_call 22; (with_reducible refine (awake_ok _).mono ?_); rintro e wA ⟨rfl, hb⟩; replace H := H.call hb; clear hb)
    | (clear st8; go_at_call 33; (with_reducible refine (hAB.out _).mono ?_); rintro e w3 ⟨A4, c5, A6, c7, rfl, hr, hr2, hb⟩; replace H := (H.got (fresh_row hr) hb).more ((H.got (fresh_row hr2) hb).row _ m0); clear hr hr2 hb)
    | (clear st10; (with_reducible refine gate_dst (N := 7) rfl ?_); refine box_event ?hg (N := 7) ?hd (cs := #[.bool false, .slice none 0 0]) (t := 25) ?hr ?_; (case hd => rfl); (case hg => rfl); (case hr => first | (go_simp; done) | (go_simp; rfl)); intro gx hg w9 hbox hb; replace H := H.newbox hg hbox hb; clear hg hbox hb; have kgx_0 : w9.cell? ⟨gx, 0, none⟩ = some (.bool false) := H.cell m0 0; have zgx_0 := H.frozen (g := gx) m0 0; have kgx_1 : w9.cell? ⟨gx, 1, none⟩ = some (.slice none 0 0) := H.cell m0 1; have zgx_1 := H.frozen (g := gx) m0 1)
    | (clear st12; (with_reducible refine gate_dst (N := 8) rfl ?_); refine box_event ?hg (N := 8) ?hd (cs := #[.bool false, .slice none 0 0]) (t := 25) ?hr ?_; (case hd => rfl); (case hg => rfl); (case hr => first | (go_simp; done) | (go_simp; rfl)); intro gy hg w11 hbox hb; replace H := H.newbox hg hbox hb; clear hg hbox hb; clear kgx_0 zgx_0 kgx_1 zgx_1; have kgy_0 : w11.cell? ⟨gy, 0, none⟩ = some (.bool false) := H.cell m0 0; have zgy_0 := H.frozen (g := gy) m0 0; have kgy_1 : w11.cell? ⟨gy, 1, none⟩ = some (.slice none 0 0) := H.cell m0 1; have zgy_1 := H.frozen (g := gy) m0 1; have kgx_0 : w11.cell? ⟨gx, 0, none⟩ = some (.bool false) := H.cell m1 0; have zgx_0 := H.frozen (g := gx) m1 0; have kgx_1 : w11.cell? ⟨gx, 1, none⟩ = some (.slice none 0 0) := H.cell m1 1; have zgx_1 := H.frozen (g := gx) m1 1; have ne_gy_gx := H.ne (g := gy) (g' := gx) 0 1 rfl rfl (by decide); have ne_gx_gy := ne_gy_gx.symm))
  (try simp only [Act.put, List.setIfInBounds_toArray, List.set_cons_zero, List.set_cons_succ])
  replace H := ((((H.setn [_] 0 (.bool (ng x)) rfl).setn [_] 1 (.slice A4 (ln x) c5) rfl).setn [] 0 (.bool (ng y)) rfl).setn [] 1 (.slice A6 (ln y) c7) rfl)
  clear kgy_0 zgy_0 kgy_1 zgy_1 kgx_0 zgx_0 kgx_1 zgx_1
  generalize ((((w11.setCell ⟨gx, 0, none⟩ (.bool (ng x))).setCell ⟨gx, 1, none⟩ (.slice A4 (ln x) c5)).setCell ⟨gy, 0, none⟩ (.bool (ng y))).setCell ⟨gy, 1, none⟩ (.slice A6 (ln y) c7)) = w13 at H ⊢
  have kgy_0 : w13.cell? ⟨gy, 0, none⟩ = some (.bool (ng y)) := H.cell m0 0
  have zgy_0 := H.frozen (g := gy) m0 0
  have kgy_1 : w13.cell? ⟨gy, 1, none⟩ = some (.slice A6 (ln y) c7) := H.cell m0 1
  have zgy_1 := H.frozen (g := gy) m0 1
  have kgx_0 : w13.cell? ⟨gx, 0, none⟩ = some (.bool (ng x)) := H.cell m1 0
  have zgx_0 := H.frozen (g := gx) m1 0
  have kgx_1 : w13.cell? ⟨gx, 1, none⟩ = some (.slice A4 (ln x) c5) := H.cell m1 1
  have zgx_1 := H.frozen (g := gx) m1 1
  have st19 := trivial
  have st21 := trivial
  have st23 := trivial
  go_upto_region 5 with (first
    | (clear st19; go_at_call 33; (with_reducible refine (hC.out _).mono ?_); rintro e w14 ⟨A15, c16, A17, c18, rfl, hr, hr2, hb⟩; replace H := (H.got (fresh_row hr) hb).more ((H.got (fresh_row hr2) hb).row _ m0); clear hr hr2 hb; clear kgy_0 zgy_0 kgy_1 zgy_1 kgx_0 zgx_0 kgx_1 zgx_1; have kgy_0 : w14.cell? ⟨gy, 0, none⟩ = some (.bool (ng y)) := H.cell m0 0; have zgy_0 := H.frozen (g := gy) m0 0; have kgy_1 : w14.cell? ⟨gy, 1, none⟩ = some (.slice A6 (ln y) c7) := H.cell m0 1; have zgy_1 := H.frozen (g := gy) m0 1; have kgx_0 : w14.cell? ⟨gx, 0, none⟩ = some (.bool (ng x)) := H.cell m1 0; have zgx_0 := H.frozen (g := gx) m1 0; have kgx_1 : w14.cell? ⟨gx, 1, none⟩ = some (.slice A4 (ln x) c5) := H.cell m1 1; have zgx_1 := H.frozen (g := gx) m1 1)
    | (clear st21; (with_reducible refine gate_dst (N := 10) rfl ?_); refine box_event ?hg (N := 10) ?hd (cs := #[.bool false, .slice none 0 0]) (t := 25) ?hr ?_; (case hd => rfl); (case hg => rfl); (case hr => first | (go_simp; done) | (go_simp; rfl)); intro gz hg w20 hbox hb; replace H := H.newbox hg hbox hb; clear hg hbox hb; clear kgy_0 zgy_0 kgy_1 zgy_1 kgx_0 zgx_0 kgx_1 zgx_1; have kgz_0 : w20.cell? ⟨gz, 0, none⟩ = some (.bool false) := H.cell m0 0; have zgz_0 := H.frozen (g := gz) m0 0; have kgz_1 : w20.cell? ⟨gz, 1, none⟩ = some (.slice none 0 0) := H.cell m0 1; have zgz_1 := H.frozen (g := gz) m0 1; have kgy_0 : w20.cell? ⟨gy, 0, none⟩ = some (.bool (ng y)) := H.cell m1 0; have zgy_0 := H.frozen (g := gy) m1 0; have kgy_1 : w20.cell? ⟨gy, 1, none⟩ = some (.slice A6 (ln y) c7) := H.cell m1 1; have zgy_1 := H.frozen (g := gy) m1 1; have kgx_0 : w20.cell? ⟨gx, 0, none⟩ = some (.bool (ng x)) := H.cell m2 0; have zgx_0 := H.frozen (g := gx) m2 0; have kgx_1 : w20.cell? ⟨gx, 1, none⟩ = some (.slice A4 (ln x) c5) := H.cell m2 1; have zgx_1 := H.frozen (g := gx) m2 1; have ne_gz_gy := H.ne (g := gz) (g' := gy) 0 1 rfl rfl (by decide); have ne_gy_gz := ne_gz_gy.symm; have ne_gz_gx := H.ne (g := gz) (g' := gx) 0 2 rfl rfl (by decide); have ne_gx_gz := ne_gz_gx.symm)
    | (clear st23; (with_reducible refine gate_dst (N := 11) rfl ?_); refine box_event ?hg (N := 11) ?hd (cs := #[.bool false, .slice none 0 0]) (t := 25) ?hr ?_; (case hd => rfl); (case hg => rfl); (case hr => first | (go_simp; done) | (go_simp; rfl)); intro gu hg w22 hbox hb; replace H := H.newbox hg hbox hb; clear hg hbox hb; clear kgz_0 zgz_0 kgz_1 zgz_1 kgy_0 zgy_0 kgy_1 zgy_1 kgx_0 zgx_0 kgx_1 zgx_1; have kgu_0 : w22.cell? ⟨gu, 0, none⟩ = some (.bool false) := H.cell m0 0; have zgu_0 := H.frozen (g := gu) m0 0; have kgu_1 : w22.cell? ⟨gu, 1, none⟩ = some (.slice none 0 0) := H.cell m0 1; have zgu_1 := H.frozen (g := gu) m0 1; have kgz_0 : w22.cell? ⟨gz, 0, none⟩ = some (.bool false) := H.cell m1 0; have zgz_0 := H.frozen (g := gz) m1 0; have kgz_1 : w22.cell? ⟨gz, 1, none⟩ = some (.slice none 0 0) := H.cell m1 1; have zgz_1 := H.frozen (g := gz) m1 1; have kgy_0 : w22.cell? ⟨gy, 0, none⟩ = some (.bool (ng y)) := H.cell m2 0; have zgy_0 := H.frozen (g := gy) m2 0; have kgy_1 : w22.cell? ⟨gy, 1, none⟩ = some (.slice A6 (ln y) c7) := H.cell m2 1; have zgy_1 := H.frozen (g := gy) m2 1; have kgx_0 : w22.cell? ⟨gx, 0, none⟩ = some (.bool (ng x)) := H.cell m3 0; have zgx_0 := H.frozen (g := gx) m3 0; have kgx_1 : w22.cell? ⟨gx, 1, none⟩ = some (.slice A4 (ln x) c5) := H.cell m3 1; have zgx_1 := H.frozen (g := gx) m3 1; have ne_gu_gz := H.ne (g := gu) (g' := gz) 0 1 rfl rfl (by decide); have ne_gz_gu := ne_gu_gz.symm; have ne_gu_gy := H.ne (g := gu) (g' := gy) 0 2 rfl rfl (by decide); have ne_gy_gu := ne_gu_gy.symm; have ne_gu_gx := H.ne (g := gu) (g' := gx) 0 3 rfl rfl (by decide); have ne_gx_gu := ne_gu_gx.symm))
  (try simp only [Act.put, List.setIfInBounds_toArray, List.set_cons_zero, List.set_cons_succ])
  replace H := ((((H.setn [_] 0 (.bool (ng z)) rfl).setn [_] 1 (.slice A15 (ln z) c16) rfl).setn [] 0 (.bool (ng u)) rfl).setn [] 1 (.slice A17 (ln u) c18) rfl)
  clear kgu_0 zgu_0 kgu_1 zgu_1 kgz_0 zgz_0 kgz_1 zgz_1 kgy_0 zgy_0 kgy_1 zgy_1 kgx_0 zgx_0 kgx_1 zgx_1
  generalize ((((w22.setCell ⟨gz, 0, none⟩ (.bool (ng z))).setCell ⟨gz, 1, none⟩ (.slice A15 (ln z) c16)).setCell ⟨gu, 0, none⟩ (.bool (ng u))).setCell ⟨gu, 1, none⟩ (.slice A17 (ln u) c18)) = w24 at H ⊢
  have kgu_0 : w24.cell? ⟨gu, 0, none⟩ = some (.bool (ng u)) := H.cell m0 0
  have zgu_0 := H.frozen (g := gu) m0 0
  have kgu_1 : w24.cell? ⟨gu, 1, none⟩ = some (.slice A17 (ln u) c18) := H.cell m0 1
  have zgu_1 := H.frozen (g := gu) m0 1
  have kgz_0 : w24.cell? ⟨gz, 0, none⟩ = some (.bool (ng z)) := H.cell m1 0
  have zgz_0 := H.frozen (g := gz) m1 0
  have kgz_1 : w24.cell? ⟨gz, 1, none⟩ = some (.slice A15 (ln z) c16) := H.cell m1 1
  have zgz_1 := H.frozen (g := gz) m1 1
  have kgy_0 : w24.cell? ⟨gy, 0, none⟩ = some (.bool (ng y)) := H.cell m2 0
  have zgy_0 := H.frozen (g := gy) m2 0
  have kgy_1 : w24.cell? ⟨gy, 1, none⟩ = some (.slice A6 (ln y) c7) := H.cell m2 1
  have zgy_1 := H.frozen (g := gy) m2 1
  have kgx_0 : w24.cell? ⟨gx, 0, none⟩ = some (.bool (ng x)) := H.cell m3 0
  have zgx_0 := H.frozen (g := gx) m3 0
  have kgx_1 : w24.cell? ⟨gx, 1, none⟩ = some (.slice A4 (ln x) c5) := H.cell m3 1
  have zgx_1 := H.frozen (g := gx) m3 1
  go_upto_region 7 with fail
  (try simp only [Act.put, List.setIfInBounds_toArray, List.set_cons_zero, List.set_cons_succ])
  clear kgu_0 zgu_0 kgu_1 zgu_1 kgz_0 zgz_0 kgz_1 zgz_1 kgy_0 zgy_0 kgy_1 zgy_1 kgx_0 zgx_0 kgx_1 zgx_1
  replace H := H.drew
  refine start_ (n := 81) (S := fun w' => w'.cell? ⟨gx, 0, none⟩ = some (.bool (ng x)) ∧ w'.cell? ⟨gx, 1, none⟩ = some (.slice A4 (ln x) c5) ∧ w'.cell? ⟨gy, 0, none⟩ = some (.bool (ng y)) ∧ w'.cell? ⟨gy, 1, none⟩ = some (.slice A6 (ln y) c7) ∧ w'.cell? ⟨gz, 0, none⟩ = some (.bool (ng z)) ∧ w'.cell? ⟨gz, 1, none⟩ = some (.slice A15 (ln z) c16)) (ds := []) #[false, false, false, false, false, false, false, false, false, false, false, false, false, false, false, false, false, false, false, false, false, false, false, false, false, false, false, false, false, false, false, false, false, false, false, false, false, false, false, false, false, false, false, false, false, false, false, false, false, false, false, false, false, false, false, false, false, false, false, false, false, false, false, false, false, false, false, false, false, false, false, false, false, false, false, false, false, false, false, false, false] (by kernel_rfl) rfl rfl ⟨H.cell m3 0, H.cell m3 1, H.cell m2 0, H.cell m2 1, H.cell m1 0, H.cell m1 1⟩ (fun hHeld => ?_)
  generalize w24.drew = w25 at H hHeld ⊢
  refine with_tabW tb11.tab7 tb11.bits7 (fun HT_ HW_ => ?_)
  refine take_ (i := 0) (N := some 34) (v := ?_) (a' := ?_) #[true, false, false, false, false, false, false, false, false, false, false, false, false, false, false, false, false, false, false, false, false, false, false, false, false, false, false, false, false, false, false, false, false, false, false, false, false, false, false, false, false, false, false, false, false, false, false, false, false, false, false, false, false, false, false, false, false, false, false, false, false, false, false, false, false, false, false, false, false, false, false, false, false, false, false, false, false, false, false, false, false] rfl rfl (take_ofW HT_.out HW_.out (by kernel_rfl)) (fun _ _ _ h => h) (Or.inl ⟨by rfl, ?_⟩) hHeld ?_ ?_
  rotate_left
  · rintro w' ⟨s0, s1, s2, s3, s4, s5⟩
    go_simp
    with_reducible rfl
  rotate_left
  · simp only [Act.put, List.setIfInBounds_toArray, List.set_cons_zero, List.set_cons_succ, i64_w, i32_w]
    rfl
  refine take_ (i := 1) (N := some 35) (v := ?_) (a' := ?_) #[true, true, false, false, false, false, false, false, false, false, false, false, false, false, false, false, false, false, false, false, false, false, false, false, false, false, false, false, false, false, false, false, false, false, false, false, false, false, false, false, false, false, false, false, false, false, false, false, false, false, false, false, false, false, false, false, false, false, false, false, false, false, false, false, false, false, false, false, false, false, false, false, false, false, false, false, false, false, false, false, false] rfl rfl (take_ofW HT_.out HW_.out (by kernel_rfl)) (fun _ _ _ h => h) (Or.inl ⟨by rfl, ?_⟩) hHeld ?_ ?_
  rotate_left
  · rintro w' ⟨s0, s1, s2, s3, s4, s5⟩
    go_simp
    with_reducible rfl
  rotate_left
  · simp only [Act.put, List.setIfInBounds_toArray, List.set_cons_zero, List.set_cons_succ, i64_w, i32_w]
    rfl
  refine take_ (i := 3) (N := some 37) (v := ?_) (a' := ?_) #[true, true, false, true, false, false, false, false, false, false, false, false, false, false, false, false, false, false, false, false, false, false, false, false, false, false, false, false, false, false, false, false, false, false, false, false, false, false, false, false, false, false, false, false, false, false, false, false, false, false, false, false, false, false, false, false, false, false, false, false, false, false, false, false, false, false, false, false, false, false, false, false, false, false, false, false, false, false, false, false, false] rfl rfl (take_ofW HT_.out HW_.out (by kernel_rfl)) (fun _ _ _ h => h) (Or.inl ⟨by rfl, ?_⟩) hHeld ?_ ?_
  rotate_left
  · rintro w' ⟨s0, s1, s2, s3, s4, s5⟩
    go_simp
    with_reducible rfl
  rotate_left
  · simp only [Act.put, List.setIfInBounds_toArray, List.set_cons_zero, List.set_cons_succ, i64_w, i32_w]
    rfl
  refine take_ (i := 4) (N := some 38) (v := ?_) (a' := ?_) #[true, true, false, true, true, false, false, false, false, false, false, false, false, false, false, false, false, false, false, false, false, false, false, false, false, false, false, false, false, false, false, false, false, false, false, false, false, false, false, false, false, false, false, false, false, false, false, false, false, false, false, false, false, false, false, false, false, false, false, false, false, false, false, false, false, false, false, false, false, false, false, false, false, false, false, false, false, false, false, false, false] rfl rfl (take_ofW HT_.out HW_.out (by kernel_rfl)) (fun _ _ _ h => h) (Or.inl ⟨by rfl, ?_⟩) hHeld ?_ ?_
  rotate_left
  · rintro w' ⟨s0, s1, s2, s3, s4, s5⟩
    go_simp
    with_reducible rfl
  rotate_left
  · simp only [Act.put, List.setIfInBounds_toArray, List.set_cons_zero, List.set_cons_succ, i64_w, i32_w]
    rfl
  refine one_ (i := 2) (N := some 36) #[true, true, true, true, true, false, false, false, false, false, false, false, false, false, false, false, false, false, false, false, false, false, false, false, false, false, false, false, false, false, false, false, false, false, false, false, false, false, false, false, false, false, false, false, false, false, false, false, false, false, false, false, false, false, false, false, false, false, false, false, false, false, false, false, false, false, false, false, false, false, false, false, false, false, false, false, false, false, false, false, false] rfl rfl (one_of HT_.out (by kernel_rfl)) (by decide) (fun K hK => ?_)
  refine goes_ Try.func28 (by kernel_rfl) rfl #[.agg #[.bool (ng x), .slice A4 (ln x) c5], .agg #[.bool (ng y), .slice A6 (ln y) c7]] (by rfl) rfl rfl (by (try simp only [List.map_toArray, List.map_cons, List.map_nil]); first | done | rfl) ?_
  with_reducible refine (AddQ (H.row _ m3) (H.row _ m2) (lim bx.out (by decide)) (lim bY.out (by decide)) s1 hs1.out).mono ?_
  rintro e w26 ⟨A27, c28, rfl, hr, hb⟩
  replace H := H.got hr hb
  clear hr hb
  refine ⟨_, rfl, ?_⟩
  refine hK.out _ _ ⟨H.cell m3 0, H.cell m3 1, H.cell m2 0, H.cell m2 1, H.cell m1 0, H.cell m1 1⟩ (fun hHeld => ?_)
  clear hK K
  refine norm_ (a' := ?_) ?_ ?_
  rotate_left
  · show Act.put _ (some 36) _ = _
    simp only [Act.put, List.setIfInBounds_toArray, List.set_cons_zero, List.set_cons_succ, i64_w, i32_w]
    rfl
  refine one_ (i := 5) (N := some 39) #[true, true, true, true, true, true, false, false, false, false, false, false, false, false, false, false, false, false, false, false, false, false, false, false, false, false, false, false, false, false, false, false, false, false, false, false, false, false, false, false, false, false, false, false, false, false, false, false, false, false, false, false, false, false, false, false, false, false, false, false, false, false, false, false, false, false, false, false, false, false, false, false, false, false, false, false, false, false, false, false, false] rfl rfl (one_of HT_.out (by kernel_rfl)) (by decide) (fun K hK => ?_)
  refine goes_ Try.func28 (by kernel_rfl) rfl #[.agg #[.bool (ng y), .slice A6 (ln y) c7], .agg #[.bool (ng x), .slice A4 (ln x) c5]] (by rfl) rfl rfl (by (try simp only [List.map_toArray, List.map_cons, List.map_nil]); first | done | rfl) ?_
  with_reducible refine (AddQ (H.row _ m3) (H.row _ m4) (lim bY.out (by decide)) (lim bx.out (by decide)) s2 hs2.out).mono ?_
  rintro e w29 ⟨A30, c31, rfl, hr, hb⟩
  replace H := H.got hr hb
  clear hr hb
  refine ⟨_, rfl, ?_⟩
  refine hK.out _ _ ⟨H.cell m3 0, H.cell m3 1, H.cell m2 0, H.cell m2 1, H.cell m1 0, H.cell m1 1⟩ (fun hHeld => ?_)
  clear hK K
  refine norm_ (a' := ?_) ?_ ?_
  rotate_left
  · show Act.put _ (some 39) _ = _
    simp only [Act.put, List.setIfInBounds_toArray, List.set_cons_zero, List.set_cons_succ, i64_w, i32_w]
    rfl
  refine one_ (i := 6) (N := some 40) #[true, true, true, true, true, true, true, false, false, false, false, false, false, false, false, false, false, false, false, false, false, false, false, false, false, false, false, false, false, false, false, false, false, false, false, false, false, false, false, false, false, false, false, false, false, false, false, false, false, false, false, false, false, false, false, false, false, false, false, false, false, false, false, false, false, false, false, false, false, false, false, false, false, false, false, false, false, false, false, false, false] rfl rfl (one_of HT_.out (by kernel_rfl)) (by decide) (fun K hK => ?_)
  refine goes_ Try.func34 (by kernel_rfl) rfl #[.agg #[.bool (ng s1), .slice A27 (ln s1) c28], .agg #[.bool (ng s2), .slice A30 (ln s2) c31]] (by rfl) rfl rfl (by (try simp only [List.map_toArray, List.map_cons, List.map_nil]); first | done | rfl) ?_
  with_reducible refine (CmpQ (H.row _ m1) (H.row _ m0) (lim bs1.out (by decide)) (lim bs2.out (by decide)) 0 k1.out).mono ?_
  rintro e w32 ⟨rfl, hb⟩
  replace H := H.call hb
  clear hb
  refine ⟨_, rfl, ?_⟩
  refine hK.out _ _ ⟨H.cell m3 0, H.cell m3 1, H.cell m2 0, H.cell m2 1, H.cell m1 0, H.cell m1 1⟩ (fun hHeld => ?_)
  clear hK K
  refine norm_ (a' := ?_) ?_ ?_
  rotate_left
  · show Act.put _ (some 40) _ = _
    simp only [Act.put, List.setIfInBounds_toArray, List.set_cons_zero, List.set_cons_succ, i64_w, i32_w]
    rfl
  refine pure_ (i := 7) (N := some 41) (v := ?_) (a' := ?_) #[true, true, true, true, true, true, true, true, false, false, false, false, false, false, false, false, false, false, false, false, false, false, false, false, false, false, false, false, false, false, false, false, false, false, false, false, false, false, false, false, false, false, false, false, false, false, false, false, false, false, false, false, false, false, false, false, false, false, false, false, false, false, false, false, false, false, false, false, false, false, false, false, false, false, false, false, false, false, false, false, false] rfl rfl (any_of HT_.out (by kernel_rfl)) (fun _ _ _ h => h) (Or.inl ⟨by rfl, ?_⟩) ?_ ?_
  rotate_left
  · intro w'
    go_simp
    with_reducible rfl
  rotate_left
  · simp only [Act.put, List.setIfInBounds_toArray, List.set_cons_zero, List.set_cons_succ, i64_w, i32_w]
    rfl
  refine pure_ (i := 8) (N := some 42) (v := ?_) (a' := ?_) #[true, true, true, true, true, true, true, true, true, false, false, false, false, false, false, false, false, false, false, false, false, false, false, false, false, false, false, false, false, false, false, false, false, false, false, false, false, false, false, false, false, false, false, false, false, false, false, false, false, false, false, false, false, false, false, false, false, false, false, false, false, false, false, false, false, false, false, false, false, false, false, false, false, false, false, false, false, false, false, false, false] rfl rfl (any_of HT_.out (by kernel_rfl)) (fun _ _ _ h => h) (Or.inl ⟨by rfl, ?_⟩) ?_ ?_
  rotate_left
  · intro w'
    go_simp
    with_reducible rfl
  rotate_left
  · simp only [Act.put, List.setIfInBounds_toArray, List.set_cons_zero, List.set_cons_succ, i64_w, i32_w]
    rfl
  refine take_ (i := 9) (N := some 43) (v := ?_) (a' := ?_) #[true, true, true, true, true, true, true, true, true, true, false, false, false, false, false, false, false, false, false, false, false, false, false, false, false, false, false, false, false, false, false, false, false, false, false, false, false, false, false, false, false, false, false, false, false, false, false, false, false, false, false, false, false, false, false, false, false, false, false, false, false, false, false, false, false, false, false, false, false, false, false, false, false, false, false, false, false, false, false, false, false] rfl rfl (take_ofW HT_.out HW_.out (by kernel_rfl)) (fun _ _ _ h => h) (Or.inl ⟨by rfl, ?_⟩) hHeld ?_ ?_
  rotate_left
  · rintro w' ⟨s0, s1, s2, s3, s4, s5⟩
    go_simp
    with_reducible rfl
  rotate_left
  · simp only [Act.put, List.setIfInBounds_toArray, List.set_cons_zero, List.set_cons_succ, i64_w, i32_w]
    rfl
  refine take_ (i := 10) (N := some 44) (v := ?_) (a' := ?_) #[true, true, true, true, true, true, true, true, true, true, true, false, false, false, false, false, false, false, false, false, false, false, false, false, false, false, false, false, false, false, false, false, false, false, false, false, false, false, false, false, false, false, false, false, false, false, false, false, false, false, false, false, false, false, false, false, false, false, false, false, false, false, false, false, false, false, false, false, false, false, false, false, false, false, false, false, false, false, false, false, false] rfl rfl (take_ofW HT_.out HW_.out (by kernel_rfl)) (fun _ _ _ h => h) (Or.inl ⟨by rfl, ?_⟩) hHeld ?_ ?_
  rotate_left
  · rintro w' ⟨s0, s1, s2, s3, s4, s5⟩
    go_simp
    with_reducible rfl
  rotate_left
  · simp only [Act.put, List.setIfInBounds_toArray, List.set_cons_zero, List.set_cons_succ, i64_w, i32_w]
    rfl
  refine take_ (i := 12) (N := some 46) (v := ?_) (a' := ?_) #[true, true, true, true, true, true, true, true, true, true, true, false, true, false, false, false, false, false, false, false, false, false, false, false, false, false, false, false, false, false, false, false, false, false, false, false, false, false, false, false, false, false, false, false, false, false, false, false, false, false, false, false, false, false, false, false, false, false, false, false, false, false, false, false, false, false, false, false, false, false, false, false, false, false, false, false, false, false, false, false, false] rfl rfl (take_ofW HT_.out HW_.out (by kernel_rfl)) (fun _ _ _ h => h) (Or.inl ⟨by rfl, ?_⟩) hHeld ?_ ?_
  rotate_left
  · rintro w' ⟨s0, s1, s2, s3, s4, s5⟩
    go_simp
    with_reducible rfl
  rotate_left
  · simp only [Act.put, List.setIfInBounds_toArray, List.set_cons_zero, List.set_cons_succ, i64_w, i32_w]
    rfl
  refine take_ (i := 13) (N := some 47) (v := ?_) (a' := ?_) #[true, true, true, true, true, true, true, true, true, true, true, false, true, true, false, false, false, false, false, false, false, false, false, false, false, false, false, false, false, false, false, false, false, false, false, false, false, false, false, false, false, false, false, false, false, false, false, false, false, false, false, false, false, false, false, false, false, false, false, false, false, false, false, false, false, false, false, false, false, false, false, false, false, false, false, false, false, false, false, false, false] rfl rfl (take_ofW HT_.out HW_.out (by kernel_rfl)) (fun _ _ _ h => h) (Or.inl ⟨by rfl, ?_⟩) hHeld ?_ ?_
  rotate_left
  · rintro w' ⟨s0, s1, s2, s3, s4, s5⟩
    go_simp
    with_reducible rfl
  rotate_left
  · simp only [Act.put, List.setIfInBounds_toArray, List.set_cons_zero, List.set_cons_succ, i64_w, i32_w]
    rfl
  refine one_ (i := 11) (N := some 45) #[true, true, true, true, true, true, true, true, true, true, true, true, true, true, false, false, false, false, false, false, false, false, false, false, false, false, false, false, false, false, false, false, false, false, false, false, false, false, false, false, false, false, false, false, false, false, false, false, false, false, false, false, false, false, false, false, false, false, false, false, false, false, false, false, false, false, false, false, false, false, false, false, false, false, false, false, false, false, false, false, false] rfl rfl (one_of HT_.out (by kernel_rfl)) (by decide) (fun K hK => ?_)
  refine goes_ Try.func31 (by kernel_rfl) rfl #[.agg #[.bool (ng x), .slice A4 (ln x) c5], .agg #[.bool (ng y), .slice A6 (ln y) c7]] (by rfl) rfl rfl (by (try simp only [List.map_toArray, List.map_cons, List.map_nil]); first | done | rfl) ?_
  with_reducible refine (MulQ (H.row _ m5) (H.row _ m4) (lim bx.out (by decide)) (lim bY.out (by decide)) p1 hp1.out).mono ?_
  rintro e w33 ⟨A34, c35, rfl, hr, hb⟩
  replace H := H.got hr hb
  clear hr hb
  refine ⟨_, rfl, ?_⟩
  refine hK.out _ _ ⟨H.cell m3 0, H.cell m3 1, H.cell m2 0, H.cell m2 1, H.cell m1 0, H.cell m1 1⟩ (fun hHeld => ?_)
  clear hK K
  refine norm_ (a' := ?_) ?_ ?_
  rotate_left
  · show Act.put _ (some 45) _ = _
    simp only [Act.put, List.setIfInBounds_toArray, List.set_cons_zero, List.set_cons_succ, i64_w, i32_w]
    rfl
  refine one_ (i := 14) (N := some 48) #[true, true, true, true, true, true, true, true, true, true, true, true, true, true, true, false, false, false, false, false, false, false, false, false, false, false, false, false, false, false, false, false, false, false, false, false, false, false, false, false, false, false, false, false, false, false, false, false, false, false, false, false, false, false, false, false, false, false, false, false, false, false, false, false, false, false, false, false, false, false, false, false, false, false, false, false, false, false, false, false, false] rfl rfl (one_of HT_.out (by kernel_rfl)) (by decide) (fun K hK => ?_)
  refine goes_ Try.func31 (by kernel_rfl) rfl #[.agg #[.bool (ng y), .slice A6 (ln y) c7], .agg #[.bool (ng x), .slice A4 (ln x) c5]] (by rfl) rfl rfl (by (try simp only [List.map_toArray, List.map_cons, List.map_nil]); first | done | rfl) ?_
  with_reducible refine (MulQ (H.row _ m5) (H.row _ m6) (lim bY.out (by decide)) (lim bx.out (by decide)) p2 hp2.out).mono ?_
  rintro e w36 ⟨A37, c38, rfl, hr, hb⟩
  replace H := H.got hr hb
  clear hr hb
  refine ⟨_, rfl, ?_⟩
  refine hK.out _ _ ⟨H.cell m3 0, H.cell m3 1, H.cell m2 0, H.cell m2 1, H.cell m1 0, H.cell m1 1⟩ (fun hHeld => ?_)
  clear hK K
  refine norm_ (a' := ?_) ?_ ?_
  rotate_left
  · show Act.put _ (some 48) _ = _
    simp only [Act.put, List.setIfInBounds_toArray, List.set_cons_zero, List.set_cons_succ, i64_w, i32_w]
    rfl
  refine one_ (i := 15) (N := some 49) #[true, true, true, true, true, true, true, true, true, true, true, true, true, true, true, true, false, false, false, false, false, false, false, false, false, false, false, false, false, false, false, false, false, false, false, false, false, false, false, false, false, false, false, false, false, false, false, false, false, false, false, false, false, false, false, false, false, false, false, false, false, false, false, false, false, false, false, false, false, false, false, false, false, false, false, false, false, false, false, false, false] rfl rfl (one_of HT_.out (by kernel_rfl)) (by decide) (fun K hK => ?_)
  refine goes_ Try.func34 (by kernel_rfl) rfl #[.agg #[.bool (ng p1), .slice A34 (ln p1) c35], .agg #[.bool (ng p2), .slice A37 (ln p2) c38]] (by rfl) rfl rfl (by (try simp only [List.map_toArray, List.map_cons, List.map_nil]); first | done | rfl) ?_
  with_reducible refine (CmpQ (H.row _ m1) (H.row _ m0) (lim bp1.out (by decide)) (lim bp2.out (by decide)) 0 k2.out).mono ?_
  rintro e w39 ⟨rfl, hb⟩
  replace H := H.call hb
  clear hb
  refine ⟨_, rfl, ?_⟩
  refine hK.out _ _ ⟨H.cell m3 0, H.cell m3 1, H.cell m2 0, H.cell m2 1, H.cell m1 0, H.cell m1 1⟩ (fun hHeld => ?_)
  clear hK K
  refine norm_ (a' := ?_) ?_ ?_
  rotate_left
  · show Act.put _ (some 49) _ = _
    simp only [Act.put, List.setIfInBounds_toArray, List.set_cons_zero, List.set_cons_succ, i64_w, i32_w]
    rfl
  refine pure_ (i := 16) (N := some 50) (v := ?_) (a' := ?_) #[true, true, true, true, true, true, true, true, true, true, true, true, true, true, true, true, true, false, false, false, false, false, false, false, false, false, false, false, false, false, false, false, false, false, false, false, false, false, false, false, false, false, false, false, false, false, false, false, false, false, false, false, false, false, false, false, false, false, false, false, false, false, false, false, false, false, false, false, false, false, false, false, false, false, false, false, false, false, false, false, false] rfl rfl (any_of HT_.out (by kernel_rfl)) (fun _ _ _ h => h) (Or.inl ⟨by rfl, ?_⟩) ?_ ?_
  rotate_left
  · intro w'
    go_simp
    with_reducible rfl
  rotate_left
  · simp only [Act.put, List.setIfInBounds_toArray, List.set_cons_zero, List.set_cons_succ, i64_w, i32_w]
    rfl
  refine pure_ (i := 17) (N := some 51) (v := ?_) (a' := ?_) #[true, true, true, true, true, true, true, true, true, true, true, true, true, true, true, true, true, true, false, false, false, false, false, false, false, false, false, false, false, false, false, false, false, false, false, false, false, false, false, false, false, false, false, false, false, false, false, false, false, false, false, false, false, false, false, false, false, false, false, false, false, false, false, false, false, false, false, false, false, false, false, false, false, false, false, false, false, false, false, false, false] rfl rfl (any_of HT_.out (by kernel_rfl)) (fun _ _ _ h => h) (Or.inl ⟨by rfl, ?_⟩) ?_ ?_
  rotate_left
  · intro w'
    go_simp
    with_reducible rfl
  rotate_left
  · simp only [Act.put, List.setIfInBounds_toArray, List.set_cons_zero, List.set_cons_succ, i64_w, i32_w]
    rfl
  refine pure_ (i := 18) (N := some 52) (v := ?_) (a' := ?_) #[true, true, true, true, true, true, true, true, true, true, true, true, true, true, true, true, true, true, true, false, false, false, false, false, false, false, false, false, false, false, false, false, false, false, false, false, false, false, false, false, false, false, false, false, false, false, false, false, false, false, false, false, false, false, false, false, false, false, false, false, false, false, false, false, false, false, false, false, false, false, false, false, false, false, false, false, false, false, false, false, false] rfl rfl (any_of HT_.out (by kernel_rfl)) (fun _ _ _ h => h) (Or.inl ⟨by rfl, ?_⟩) ?_ ?_
  rotate_left
  · intro w'
    go_simp
    with_reducible rfl
  rotate_left
  · simp only [Act.put, List.setIfInBounds_toArray, List.set_cons_zero, List.set_cons_succ, i64_w, i32_w]
    rfl
  refine take_ (i := 19) (N := some 53) (v := ?_) (a' := ?_) #[true, true, true, true, true, true, true, true, true, true, true, true, true, true, true, true, true, true, true, true, false, false, false, false, false, false, false, false, false, false, false, false, false, false, false, false, false, false, false, false, false, false, false, false, false, false, false, false, false, false, false, false, false, false, false, false, false, false, false, false, false, false, false, false, false, false, false, false, false, false, false, false, false, false, false, false, false, false, false, false, false] rfl rfl (take_ofW HT_.out HW_.out (by kernel_rfl)) (fun _ _ _ h => h) (Or.inl ⟨by rfl, ?_⟩) hHeld ?_ ?_
  rotate_left
  · rintro w' ⟨s0, s1, s2, s3, s4, s5⟩
    go_simp
    with_reducible rfl
  rotate_left
  · simp only [Act.put, List.setIfInBounds_toArray, List.set_cons_zero, List.set_cons_succ, i64_w, i32_w]
    rfl
  refine take_ (i := 20) (N := some 54) (v := ?_) (a' := ?_) #[true, true, true, true, true, true, true, true, true, true, true, true, true, true, true, true, true, true, true, true, true, false, false, false, false, false, false, false, false, false, false, false, false, false, false, false, false, false, false, false, false, false, false, false, false, false, false, false, false, false, false, false, false, false, false, false, false, false, false, false, false, false, false, false, false, false, false, false, false, false, false, false, false, false, false, false, false, false, false, false, false] rfl rfl (take_ofW HT_.out HW_.out (by kernel_rfl)) (fun _ _ _ h => h) (Or.inl ⟨by rfl, ?_⟩) hHeld ?_ ?_
  rotate_left
  · rintro w' ⟨s0, s1, s2, s3, s4, s5⟩
    go_simp
    with_reducible rfl
  rotate_left
  · simp only [Act.put, List.setIfInBounds_toArray, List.set_cons_zero, List.set_cons_succ, i64_w, i32_w]
    rfl
  refine take_ (i := 22) (N := some 56) (v := ?_) (a' := ?_) #[true, true, true, true, true, true, true, true, true, true, true, true, true, true, true, true, true, true, true, true, true, false, true, false, false, false, false, false, false, false, false, false, false, false, false, false, false, false, false, false, false, false, false, false, false, false, false, false, false, false, false, false, false, false, false, false, false, false, false, false, false, false, false, false, false, false, false, false, false, false, false, false, false, false, false, false, false, false, false, false, false] rfl rfl (take_ofW HT_.out HW_.out (by kernel_rfl)) (fun _ _ _ h => h) (Or.inl ⟨by rfl, ?_⟩) hHeld ?_ ?_
  rotate_left
  · rintro w' ⟨s0, s1, s2, s3, s4, s5⟩
    go_simp
    with_reducible rfl
  rotate_left
  · simp only [Act.put, List.setIfInBounds_toArray, List.set_cons_zero, List.set_cons_succ, i64_w, i32_w]
    rfl
  refine take_ (i := 24) (N := some 58) (v := ?_) (a' := ?_) #[true, true, true, true, true, true, true, true, true, true, true, true, true, true, true, true, true, true, true, true, true, false, true, false, true, false, false, false, false, false, false, false, false, false, false, false, false, false, false, false, false, false, false, false, false, false, false, false, false, false, false, false, false, false, false, false, false, false, false, false, false, false, false, false, false, false, false, false, false, false, false, false, false, false, false, false, false, false, false, false, false] rfl rfl (take_ofW HT_.out HW_.out (by kernel_rfl)) (fun _ _ _ h => h) (Or.inl ⟨by rfl, ?_⟩) hHeld ?_ ?_
  rotate_left
  · rintro w' ⟨s0, s1, s2, s3, s4, s5⟩
    go_simp
    with_reducible rfl
  rotate_left
  · simp only [Act.put, List.setIfInBounds_toArray, List.set_cons_zero, List.set_cons_succ, i64_w, i32_w]
    rfl
  refine take_ (i := 25) (N := some 59) (v := ?_) (a' := ?_) #[true, true, true, true, true, true, true, true, true, true, true, true, true, true, true, true, true, true, true, true, true, false, true, false, true, true, false, false, false, false, false, false, false, false, false, false, false, false, false, false, false, false, false, false, false, false, false, false, false, false, false, false, false, false, false, false, false, false, false, false, false, false, false, false, false, false, false, false, false, false, false, false, false, false, false, false, false, false, false, false, false] rfl rfl (take_ofW HT_.out HW_.out (by kernel_rfl)) (fun _ _ _ h => h) (Or.inl ⟨by rfl, ?_⟩) hHeld ?_ ?_
  rotate_left
  · rintro w' ⟨s0, s1, s2, s3, s4, s5⟩
    go_simp
    with_reducible rfl
  rotate_left
  · simp only [Act.put, List.setIfInBounds_toArray, List.set_cons_zero, List.set_cons_succ, i64_w, i32_w]
    rfl
  refine take_ (i := 26) (N := some 60) (v := ?_) (a' := ?_) #[true, true, true, true, true, true, true, true, true, true, true, true, true, true, true, true, true, true, true, true, true, false, true, false, true, true, true, false, false, false, false, false, false, false, false, false, false, false, false, false, false, false, false, false, false, false, false, false, false, false, false, false, false, false, false, false, false, false, false, false, false, false, false, false, false, false, false, false, false, false, false, false, false, false, false, false, false, false, false, false, false] rfl rfl (take_ofW HT_.out HW_.out (by kernel_rfl)) (fun _ _ _ h => h) (Or.inl ⟨by rfl, ?_⟩) hHeld ?_ ?_
  rotate_left
  · rintro w' ⟨s0, s1, s2, s3, s4, s5⟩
    go_simp
    with_reducible rfl
  rotate_left
  · simp only [Act.put, List.setIfInBounds_toArray, List.set_cons_zero, List.set_cons_succ, i64_w, i32_w]
    rfl
  refine one_ (i := 21) (N := some 55) #[true, true, true, true, true, true, true, true, true, true, true, true, true, true, true, true, true, true, true, true, true, true, true, false, true, true, true, false, false, false, false, false, false, false, false, false, false, false, false, false, false, false, false, false, false, false, false, false, false, false, false, false, false, false, false, false, false, false, false, false, false, false, false, false, false, false, false, false, false, false, false, false, false, false, false, false, false, false, false, false, false] rfl rfl (one_of HT_.out (by kernel_rfl)) (by decide) (fun K hK => ?_)
  refine goes_ Try.func28 (by kernel_rfl) rfl #[.agg #[.bool (ng x), .slice A4 (ln x) c5], .agg #[.bool (ng y), .slice A6 (ln y) c7]] (by rfl) rfl rfl (by (try simp only [List.map_toArray, List.map_cons, List.map_nil]); first | done | rfl) ?_
  with_reducible refine (AddQ (H.row _ m7) (H.row _ m6) (lim bx.out (by decide)) (lim bY.out (by decide)) s1 hs1.out).mono ?_
  rintro e w40 ⟨A41, c42, rfl, hr, hb⟩
  replace H := H.got hr hb
  clear hr hb
  refine ⟨_, rfl, ?_⟩
  refine hK.out _ _ ⟨H.cell m3 0, H.cell m3 1, H.cell m2 0, H.cell m2 1, H.cell m1 0, H.cell m1 1⟩ (fun hHeld => ?_)
  clear hK K
  refine norm_ (a' := ?_) ?_ ?_
  rotate_left
  · show Act.put _ (some 55) _ = _
    simp only [Act.put, List.setIfInBounds_toArray, List.set_cons_zero, List.set_cons_succ, i64_w, i32_w]
    rfl
  refine one_ (i := 23) (N := some 57) #[true, true, true, true, true, true, true, true, true, true, true, true, true, true, true, true, true, true, true, true, true, true, true, true, true, true, true, false, false, false, false, false, false, false, false, false, false, false, false, false, false, false, false, false, false, false, false, false, false, false, false, false, false, false, false, false, false, false, false, false, false, false, false, false, false, false, false, false, false, false, false, false, false, false, false, false, false, false, false, false, false] rfl rfl (one_of HT_.out (by kernel_rfl)) (by decide) (fun K hK => ?_)
  refine goes_ Try.func28 (by kernel_rfl) rfl #[.agg #[.bool (ng s1), .slice A41 (ln s1) c42], .agg #[.bool (ng z), .slice A15 (ln z) c16]] (by rfl) rfl rfl (by (try simp only [List.map_toArray, List.map_cons, List.map_nil]); first | done | rfl) ?_
  with_reducible refine (AddQ (H.row _ m0) (H.row _ m6) (lim bs1.out (by decide)) (lim bz.out (by decide)) s3 hs3.out).mono ?_
  rintro e w43 ⟨A44, c45, rfl, hr, hb⟩
  replace H := H.got hr hb
  clear hr hb
  refine ⟨_, rfl, ?_⟩
  refine hK.out _ _ ⟨H.cell m3 0, H.cell m3 1, H.cell m2 0, H.cell m2 1, H.cell m1 0, H.cell m1 1⟩ (fun hHeld => ?_)
  clear hK K
  refine norm_ (a' := ?_) ?_ ?_
  rotate_left
  · show Act.put _ (some 57) _ = _
    simp only [Act.put, List.setIfInBounds_toArray, List.set_cons_zero, List.set_cons_succ, i64_w, i32_w]
    rfl
  refine one_ (i := 27) (N := some 61) #[true, true, true, true, true, true, true, true, true, true, true, true, true, true, true, true, true, true, true, true, true, true, true, true, true, true, true, true, false, false, false, false, false, false, false, false, false, false, false, false, false, false, false, false, false, false, false, false, false, false, false, false, false, false, false, false, false, false, false, false, false, false, false, false, false, false, false, false, false, false, false, false, false, false, false, false, false, false, false, false, false] rfl rfl (one_of HT_.out (by kernel_rfl)) (by decide) (fun K hK => ?_)
  refine goes_ Try.func28 (by kernel_rfl) rfl #[.agg #[.bool (ng y), .slice A6 (ln y) c7], .agg #[.bool (ng z), .slice A15 (ln z) c16]] (by rfl) rfl rfl (by (try simp only [List.map_toArray, List.map_cons, List.map_nil]); first | done | rfl) ?_
  with_reducible refine (AddQ (H.row _ m8) (H.row _ m7) (lim bY.out (by decide)) (lim bz.out (by decide)) s4 hs4.out).mono ?_
  rintro e w46 ⟨A47, c48, rfl, hr, hb⟩
  replace H := H.got hr hb
  clear hr hb
  refine ⟨_, rfl, ?_⟩
  refine hK.out _ _ ⟨H.cell m3 0, H.cell m3 1, H.cell m2 0, H.cell m2 1, H.cell m1 0, H.cell m1 1⟩ (fun hHeld => ?_)
  clear hK K
  refine norm_ (a' := ?_) ?_ ?_
  rotate_left
  · show Act.put _ (some 61) _ = _
    simp only [Act.put, List.setIfInBounds_toArray, List.set_cons_zero, List.set_cons_succ, i64_w, i32_w]
    rfl
  refine one_ (i := 28) (N := some 62) #[true, true, true, true, true, true, true, true, true, true, true, true, true, true, true, true, true, true, true, true, true, true, true, true, true, true, true, true, true, false, false, false, false, false, false, false, false, false, false, false, false, false, false, false, false, false, false, false, false, false, false, false, false, false, false, false, false, false, false, false, false, false, false, false, false, false, false, false, false, false, false, false, false, false, false, false, false, false, false, false, false] rfl rfl (one_of HT_.out (by kernel_rfl)) (by decide) (fun K hK => ?_)
  refine goes_ Try.func28 (by kernel_rfl) rfl #[.agg #[.bool (ng x), .slice A4 (ln x) c5], .agg #[.bool (ng s4), .slice A47 (ln s4) c48]] (by rfl) rfl rfl (by (try simp only [List.map_toArray, List.map_cons, List.map_nil]); first | done | rfl) ?_
  with_reducible refine (AddQ (H.row _ m10) (H.row _ m0) (lim bx.out (by decide)) (lim bs4.out (by decide)) s5 hs5.out).mono ?_
  rintro e w49 ⟨A50, c51, rfl, hr, hb⟩
  replace H := H.got hr hb
  clear hr hb
  refine ⟨_, rfl, ?_⟩
  refine hK.out _ _ ⟨H.cell m3 0, H.cell m3 1, H.cell m2 0, H.cell m2 1, H.cell m1 0, H.cell m1 1⟩ (fun hHeld => ?_)
  clear hK K
  refine norm_ (a' := ?_) ?_ ?_
  rotate_left
  · show Act.put _ (some 62) _ = _
    simp only [Act.put, List.setIfInBounds_toArray, List.set_cons_zero, List.set_cons_succ, i64_w, i32_w]
    rfl
  refine one_ (i := 29) (N := some 63) #[true, true, true, true, true, true, true, true, true, true, true, true, true, true, true, true, true, true, true, true, true, true, true, true, true, true, true, true, true, true, false, false, false, false, false, false, false, false, false, false, false, false, false, false, false, false, false, false, false, false, false, false, false, false, false, false, false, false, false, false, false, false, false, false, false, false, false, false, false, false, false, false, false, false, false, false, false, false, false, false, false] rfl rfl (one_of HT_.out (by kernel_rfl)) (by decide) (fun K hK => ?_)
  refine goes_ Try.func34 (by kernel_rfl) rfl #[.agg #[.bool (ng s3), .slice A44 (ln s3) c45], .agg #[.bool (ng s5), .slice A50 (ln s5) c51]] (by rfl) rfl rfl (by (try simp only [List.map_toArray, List.map_cons, List.map_nil]); first | done | rfl) ?_
  with_reducible refine (CmpQ (H.row _ m2) (H.row _ m0) (lim bs3.out (by decide)) (lim bs5.out (by decide)) 0 k3.out).mono ?_
  rintro e w52 ⟨rfl, hb⟩
  replace H := H.call hb
  clear hb
  refine ⟨_, rfl, ?_⟩
  refine hK.out _ _ ⟨H.cell m3 0, H.cell m3 1, H.cell m2 0, H.cell m2 1, H.cell m1 0, H.cell m1 1⟩ (fun hHeld => ?_)
  clear hK K
  refine norm_ (a' := ?_) ?_ ?_
  rotate_left
  · show Act.put _ (some 63) _ = _
    simp only [Act.put, List.setIfInBounds_toArray, List.set_cons_zero, List.set_cons_succ, i64_w, i32_w]
    rfl
  refine pure_ (i := 30) (N := some 64) (v := ?_) (a' := ?_) #[true, true, true, true, true, true, true, true, true, true, true, true, true, true, true, true, true, true, true, true, true, true, true, true, true, true, true, true, true, true, true, false, false, false, false, false, false, false, false, false, false, false, false, false, false, false, false, false, false, false, false, false, false, false, false, false, false, false, false, false, false, false, false, false, false, false, false, false, false, false, false, false, false, false, false, false, false, false, false, false, false] rfl rfl (any_of HT_.out (by kernel_rfl)) (fun _ _ _ h => h) (Or.inl ⟨by rfl, ?_⟩) ?_ ?_
  rotate_left
  · intro w'
    go_simp
    with_reducible rfl
  rotate_left
  · simp only [Act.put, List.setIfInBounds_toArray, List.set_cons_zero, List.set_cons_succ, i64_w, i32_w]
    rfl
  refine pure_ (i := 31) (N := some 65) (v := ?_) (a' := ?_) #[true, true, true, true, true, true, true, true, true, true, true, true, true, true, true, true, true, true, true, true, true, true, true, true, true, true, true, true, true, true, true, true, false, false, false, false, false, false, false, false, false, false, false, false, false, false, false, false, false, false, false, false, false, false, false, false, false, false, false, false, false, false, false, false, false, false, false, false, false, false, false, false, false, false, false, false, false, false, false, false, false] rfl rfl (any_of HT_.out (by kernel_rfl)) (fun _ _ _ h => h) (Or.inl ⟨by rfl, ?_⟩) ?_ ?_
  rotate_left
  · intro w'
    go_simp
    with_reducible rfl
  rotate_left
  · simp only [Act.put, List.setIfInBounds_toArray, List.set_cons_zero, List.set_cons_succ, i64_w, i32_w]
    rfl
  refine pure_ (i := 32) (N := some 66) (v := ?_) (a' := ?_) #[true, true, true, true, true, true, true, true, true, true, true, true, true, true, true, true, true, true, true, true, true, true, true, true, true, true, true, true, true, true, true, true, true, false, false, false, false, false, false, false, false, false, false, false, false, false, false, false, false, false, false, false, false, false, false, false, false, false, false, false, false, false, false, false, false, false, false, false, false, false, false, false, false, false, false, false, false, false, false, false, false] rfl rfl (any_of HT_.out (by kernel_rfl)) (fun _ _ _ h => h) (Or.inl ⟨by rfl, ?_⟩) ?_ ?_
  rotate_left
  · intro w'
    go_simp
    with_reducible rfl
  rotate_left
  · simp only [Act.put, List.setIfInBounds_toArray, List.set_cons_zero, List.set_cons_succ, i64_w, i32_w]
    rfl
  refine take_ (i := 33) (N := some 67) (v := ?_) (a' := ?_) #[true, true, true, true, true, true, true, true, true, true, true, true, true, true, true, true, true, true, true, true, true, true, true, true, true, true, true, true, true, true, true, true, true, true, false, false, false, false, false, false, false, false, false, false, false, false, false, false, false, false, false, false, false, false, false, false, false, false, false, false, false, false, false, false, false, false, false, false, false, false, false, false, false, false, false, false, false, false, false, false, false] rfl rfl (take_ofW HT_.out HW_.out (by kernel_rfl)) (fun _ _ _ h => h) (Or.inl ⟨by rfl, ?_⟩) hHeld ?_ ?_
  rotate_left
  · rintro w' ⟨s0, s1, s2, s3, s4, s5⟩
    go_simp
    with_reducible rfl
  rotate_left
  · simp only [Act.put, List.setIfInBounds_toArray, List.set_cons_zero, List.set_cons_succ, i64_w, i32_w]
    rfl
  refine take_ (i := 34) (N := some 68) (v := ?_) (a' := ?_) #[true, true, true, true, true, true, true, true, true, true, true, true, true, true, true, true, true, true, true, true, true, true, true, true, true, true, true, true, true, true, true, true, true, true, true, false, false, false, false, false, false, false, false, false, false, false, false, false, false, false, false, false, false, false, false, false, false, false, false, false, false, false, false, false, false, false, false, false, false, false, false, false, false, false, false, false, false, false, false, false, false] rfl rfl (take_ofW HT_.out HW_.out (by kernel_rfl)) (fun _ _ _ h => h) (Or.inl ⟨by rfl, ?_⟩) hHeld ?_ ?_
  rotate_left
  · rintro w' ⟨s0, s1, s2, s3, s4, s5⟩
    go_simp
    with_reducible rfl
  rotate_left
  · simp only [Act.put, List.setIfInBounds_toArray, List.set_cons_zero, List.set_cons_succ, i64_w, i32_w]
    rfl
  refine take_ (i := 36) (N := some 70) (v := ?_) (a' := ?_) #[true, true, true, true, true, true, true, true, true, true, true, true, true, true, true, true, true, true, true, true, true, true, true, true, true, true, true, true, true, true, true, true, true, true, true, false, true, false, false, false, false, false, false, false, false, false, false, false, false, false, false, false, false, false, false, false, false, false, false, false, false, false, false, false, false, false, false, false, false, false, false, false, false, false, false, false, false, false, false, false, false] rfl rfl (take_ofW HT_.out HW_.out (by kernel_rfl)) (fun _ _ _ h => h) (Or.inl ⟨by rfl, ?_⟩) hHeld ?_ ?_
  rotate_left
  · rintro w' ⟨s0, s1, s2, s3, s4, s5⟩
    go_simp
    with_reducible rfl
  rotate_left
  · simp only [Act.put, List.setIfInBounds_toArray, List.set_cons_zero, List.set_cons_succ, i64_w, i32_w]
    rfl
  refine take_ (i := 38) (N := some 72) (v := ?_) (a' := ?_) #[true, true, true, true, true, true, true, true, true, true, true, true, true, true, true, true, true, true, true, true, true, true, true, true, true, true, true, true, true, true, true, true, true, true, true, false, true, false, true, false, false, false, false, false, false, false, false, false, false, false, false, false, false, false, false, false, false, false, false, false, false, false, false, false, false, false, false, false, false, false, false, false, false, false, false, false, false, false, false, false, false] rfl rfl (take_ofW HT_.out HW_.out (by kernel_rfl)) (fun _ _ _ h => h) (Or.inl ⟨by rfl, ?_⟩) hHeld ?_ ?_
  rotate_left
  · rintro w' ⟨s0, s1, s2, s3, s4, s5⟩
    go_simp
    with_reducible rfl
  rotate_left
  · simp only [Act.put, List.setIfInBounds_toArray, List.set_cons_zero, List.set_cons_succ, i64_w, i32_w]
    rfl
  refine take_ (i := 39) (N := some 73) (v := ?_) (a' := ?_) #[true, true, true, true, true, true, true, true, true, true, true, true, true, true, true, true, true, true, true, true, true, true, true, true, true, true, true, true, true, true, true, true, true, true, true, false, true, false, true, true, false, false, false, false, false, false, false, false, false, false, false, false, false, false, false, false, false, false, false, false, false, false, false, false, false, false, false, false, false, false, false, false, false, false, false, false, false, false, false, false, false] rfl rfl (take_ofW HT_.out HW_.out (by kernel_rfl)) (fun _ _ _ h => h) (Or.inl ⟨by rfl, ?_⟩) hHeld ?_ ?_
  rotate_left
  · rintro w' ⟨s0, s1, s2, s3, s4, s5⟩
    go_simp
    with_reducible rfl
  rotate_left
  · simp only [Act.put, List.setIfInBounds_toArray, List.set_cons_zero, List.set_cons_succ, i64_w, i32_w]
    rfl
  refine take_ (i := 40) (N := some 74) (v := ?_) (a' := ?_) #[true, true, true, true, true, true, true, true, true, true, true, true, true, true, true, true, true, true, true, true, true, true, true, true, true, true, true, true, true, true, true, true, true, true, true, false, true, false, true, true, true, false, false, false, false, false, false, false, false, false, false, false, false, false, false, false, false, false, false, false, false, false, false, false, false, false, false, false, false, false, false, false, false, false, false, false, false, false, false, false, false] rfl rfl (take_ofW HT_.out HW_.out (by kernel_rfl)) (fun _ _ _ h => h) (Or.inl ⟨by rfl, ?_⟩) hHeld ?_ ?_
  rotate_left
  · rintro w' ⟨s0, s1, s2, s3, s4, s5⟩
    go_simp
    with_reducible rfl
  rotate_left
  · simp only [Act.put, List.setIfInBounds_toArray, List.set_cons_zero, List.set_cons_succ, i64_w, i32_w]
    rfl
  refine one_ (i := 35) (N := some 69) #[true, true, true, true, true, true, true, true, true, true, true, true, true, true, true, true, true, true, true, true, true, true, true, true, true, true, true, true, true, true, true, true, true, true, true, true, true, false, true, true, true, false, false, false, false, false, false, false, false, false, false, false, false, false, false, false, false, false, false, false, false, false, false, false, false, false, false, false, false, false, false, false, false, false, false, false, false, false, false, false, false] rfl rfl (one_of HT_.out (by kernel_rfl)) (by decide) (fun K hK => ?_)
  refine goes_ Try.func31 (by kernel_rfl) rfl #[.agg #[.bool (ng x), .slice A4 (ln x) c5], .agg #[.bool (ng y), .slice A6 (ln y) c7]] (by rfl) rfl rfl (by (try simp only [List.map_toArray, List.map_cons, List.map_nil]); first | done | rfl) ?_
  with_reducible refine (MulQ (H.row _ (mt m10)) (H.row _ m10) (lim bx.out (by decide)) (lim bY.out (by decide)) p1 hp1.out).mono ?_
  rintro e w53 ⟨A54, c55, rfl, hr, hb⟩
  replace H := H.got hr hb
  clear hr hb
  refine ⟨_, rfl, ?_⟩
  refine hK.out _ _ ⟨H.cell m3 0, H.cell m3 1, H.cell m2 0, H.cell m2 1, H.cell m1 0, H.cell m1 1⟩ (fun hHeld => ?_)
  clear hK K
  refine norm_ (a' := ?_) ?_ ?_
  rotate_left
  · show Act.put _ (some 69) _ = _
    simp only [Act.put, List.setIfInBounds_toArray, List.set_cons_zero, List.set_cons_succ, i64_w, i32_w]
    rfl
  refine one_ (i := 37) (N := some 71) #[true, true, true, true, true, true, true, true, true, true, true, true, true, true, true, true, true, true, true, true, true, true, true, true, true, true, true, true, true, true, true, true, true, true, true, true, true, true, true, true, true, false, false, false, false, false, false, false, false, false, false, false, false, false, false, false, false, false, false, false, false, false, false, false, false, false, false, false, false, false, false, false, false, false, false, false, false, false, false, false, false] rfl rfl (one_of HT_.out (by kernel_rfl)) (by decide) (fun K hK => ?_)
  refine goes_ Try.func31 (by kernel_rfl) rfl #[.agg #[.bool (ng p1), .slice A54 (ln p1) c55], .agg #[.bool (ng z), .slice A15 (ln z) c16]] (by rfl) rfl rfl (by (try simp only [List.map_toArray, List.map_cons, List.map_nil]); first | done | rfl) ?_
  with_reducible refine (MulQ (H.row _ m0) (H.row _ m10) (lim bp1.out (by decide)) (lim bz.out (by decide)) p3 hp3.out).mono ?_
  rintro e w56 ⟨A57, c58, rfl, hr, hb⟩
  replace H := H.got hr hb
  clear hr hb
  refine ⟨_, rfl, ?_⟩
  refine hK.out _ _ ⟨H.cell m3 0, H.cell m3 1, H.cell m2 0, H.cell m2 1, H.cell m1 0, H.cell m1 1⟩ (fun hHeld => ?_)
  clear hK K
  refine norm_ (a' := ?_) ?_ ?_
  rotate_left
  · show Act.put _ (some 71) _ = _
    simp only [Act.put, List.setIfInBounds_toArray, List.set_cons_zero, List.set_cons_succ, i64_w, i32_w]
    rfl
  refine one_ (i := 41) (N := some 75) #[true, true, true, true, true, true, true, true, true, true, true, true, true, true, true, true, true, true, true, true, true, true, true, true, true, true, true, true, true, true, true, true, true, true, true, true, true, true, true, true, true, true, false, false, false, false, false, false, false, false, false, false, false, false, false, false, false, false, false, false, false, false, false, false, false, false, false, false, false, false, false, false, false, false, false, false, false, false, false, false, false] rfl rfl (one_of HT_.out (by kernel_rfl)) (by decide) (fun K hK => ?_)
  refine goes_ Try.func31 (by kernel_rfl) rfl #[.agg #[.bool (ng y), .slice A6 (ln y) c7], .agg #[.bool (ng z), .slice A15 (ln z) c16]] (by rfl) rfl rfl (by (try simp only [List.map_toArray, List.map_cons, List.map_nil]); first | done | rfl) ?_
  with_reducible refine (MulQ (H.row _ (mt (mt m10))) (H.row _ (mt m10)) (lim bY.out (by decide)) (lim bz.out (by decide)) p4 hp4.out).mono ?_
  rintro e w59 ⟨A60, c61, rfl, hr, hb⟩
  replace H := H.got hr hb
  clear hr hb
  refine ⟨_, rfl, ?_⟩
  refine hK.out _ _ ⟨H.cell m3 0, H.cell m3 1, H.cell m2 0, H.cell m2 1, H.cell m1 0, H.cell m1 1⟩ (fun hHeld => ?_)
  clear hK K
  refine norm_ (a' := ?_) ?_ ?_
  rotate_left
  · show Act.put _ (some 75) _ = _
    simp only [Act.put, List.setIfInBounds_toArray, List.set_cons_zero, List.set_cons_succ, i64_w, i32_w]
    rfl
  refine one_ (i := 42) (N := some 76) #[true, true, true, true, true, true, true, true, true, true, true, true, true, true, true, true, true, true, true, true, true, true, true, true, true, true, true, true, true, true, true, true, true, true, true, true, true, true, true, true, true, true, true, false, false, false, false, false, false, false, false, false, false, false, false, false, false, false, false, false, false, false, false, false, false, false, false, false, false, false, false, false, false, false, false, false, false, false, false, false, false] rfl rfl (one_of HT_.out (by kernel_rfl)) (by decide) (fun K hK => ?_)
  refine goes_ Try.func31 (by kernel_rfl) rfl #[.agg #[.bool (ng x), .slice A4 (ln x) c5], .agg #[.bool (ng p4), .slice A60 (ln p4) c61]] (by rfl) rfl rfl (by (try simp only [List.map_toArray, List.map_cons, List.map_nil]); first | done | rfl) ?_
  with_reducible refine (MulQ (H.row _ (mt (mt (mt (mt m10))))) (H.row _ m0) (lim bx.out (by decide)) (lim bp4.out (by decide)) p5 hp5.out).mono ?_
  rintro e w62 ⟨A63, c64, rfl, hr, hb⟩
  replace H := H.got hr hb
  clear hr hb
  refine ⟨_, rfl, ?_⟩
  refine hK.out _ _ ⟨H.cell m3 0, H.cell m3 1, H.cell m2 0, H.cell m2 1, H.cell m1 0, H.cell m1 1⟩ (fun hHeld => ?_)
  clear hK K
  refine norm_ (a' := ?_) ?_ ?_
  rotate_left
  · show Act.put _ (some 76) _ = _
    simp only [Act.put, List.setIfInBounds_toArray, List.set_cons_zero, List.set_cons_succ, i64_w, i32_w]
    rfl
  refine one_ (i := 43) (N := some 77) #[true, true, true, true, true, true, true, true, true, true, true, true, true, true, true, true, true, true, true, true, true, true, true, true, true, true, true, true, true, true, true, true, true, true, true, true, true, true, true, true, true, true, true, true, false, false, false, false, false, false, false, false, false, false, false, false, false, false, false, false, false, false, false, false, false, false, false, false, false, false, false, false, false, false, false, false, false, false, false, false, false] rfl rfl (one_of HT_.out (by kernel_rfl)) (by decide) (fun K hK => ?_)
  refine goes_ Try.func34 (by kernel_rfl) rfl #[.agg #[.bool (ng p3), .slice A57 (ln p3) c58], .agg #[.bool (ng p5), .slice A63 (ln p5) c64]] (by rfl) rfl rfl (by (try simp only [List.map_toArray, List.map_cons, List.map_nil]); first | done | rfl) ?_
  with_reducible refine (CmpQ (H.row _ m2) (H.row _ m0) (lim bp3.out (by decide)) (lim bp5.out (by decide)) 0 k4.out).mono ?_
  rintro e w65 ⟨rfl, hb⟩
  replace H := H.call hb
  clear hb
  refine ⟨_, rfl, ?_⟩
  refine hK.out _ _ ⟨H.cell m3 0, H.cell m3 1, H.cell m2 0, H.cell m2 1, H.cell m1 0, H.cell m1 1⟩ (fun hHeld => ?_)
  clear hK K
  refine norm_ (a' := ?_) ?_ ?_
  rotate_left
  · show Act.put _ (some 77) _ = _
    simp only [Act.put, List.setIfInBounds_toArray, List.set_cons_zero, List.set_cons_succ, i64_w, i32_w]
    rfl
  refine pure_ (i := 44) (N := some 78) (v := ?_) (a' := ?_) #[true, true, true, true, true, true, true, true, true, true, true, true, true, true, true, true, true, true, true, true, true, true, true, true, true, true, true, true, true, true, true, true, true, true, true, true, true, true, true, true, true, true, true, true, true, false, false, false, false, false, false, false, false, false, false, false, false, false, false, false, false, false, false, false, false, false, false, false, false, false, false, false, false, false, false, false, false, false, false, false, false] rfl rfl (any_of HT_.out (by kernel_rfl)) (fun _ _ _ h => h) (Or.inl ⟨by rfl, ?_⟩) ?_ ?_
  rotate_left
  · intro w'
    go_simp
    with_reducible rfl
  rotate_left
  · simp only [Act.put, List.setIfInBounds_toArray, List.set_cons_zero, List.set_cons_succ, i64_w, i32_w]
    rfl
  refine pure_ (i := 45) (N := some 79) (v := ?_) (a' := ?_) #[true, true, true, true, true, true, true, true, true, true, true, true, true, true, true, true, true, true, true, true, true, true, true, true, true, true, true, true, true, true, true, true, true, true, true, true, true, true, true, true, true, true, true, true, true, true, false, false, false, false, false, false, false, false, false, false, false, false, false, false, false, false, false, false, false, false, false, false, false, false, false, false, false, false, false, false, false, false, false, false, false] rfl rfl (any_of HT_.out (by kernel_rfl)) (fun _ _ _ h => h) (Or.inl ⟨by rfl, ?_⟩) ?_ ?_
  rotate_left
  · intro w'
    go_simp
    with_reducible rfl
  rotate_left
  · simp only [Act.put, List.setIfInBounds_toArray, List.set_cons_zero, List.set_cons_succ, i64_w, i32_w]
    rfl
  refine pure_ (i := 46) (N := some 80) (v := ?_) (a' := ?_) #[true, true, true, true, true, true, true, true, true, true, true, true, true, true, true, true, true, true, true, true, true, true, true, true, true, true, true, true, true, true, true, true, true, true, true, true, true, true, true, true, true, true, true, true, true, true, true, false, false, false, false, false, false, false, false, false, false, false, false, false, false, false, false, false, false, false, false, false, false, false, false, false, false, false, false, false, false, false, false, false, false] rfl rfl (any_of HT_.out (by kernel_rfl)) (fun _ _ _ h => h) (Or.inl ⟨by rfl, ?_⟩) ?_ ?_
  rotate_left
  · intro w'
    go_simp
    with_reducible rfl
  rotate_left
  · simp only [Act.put, List.setIfInBounds_toArray, List.set_cons_zero, List.set_cons_succ, i64_w, i32_w]
    rfl
  refine take_ (i := 47) (N := some 81) (v := ?_) (a' := ?_) #[true, true, true, true, true, true, true, true, true, true, true, true, true, true, true, true, true, true, true, true, true, true, true, true, true, true, true, true, true, true, true, true, true, true, true, true, true, true, true, true, true, true, true, true, true, true, true, true, false, false, false, false, false, false, false, false, false, false, false, false, false, false, false, false, false, false, false, false, false, false, false, false, false, false, false, false, false, false, false, false, false] rfl rfl (take_ofW HT_.out HW_.out (by kernel_rfl)) (fun _ _ _ h => h) (Or.inl ⟨by rfl, ?_⟩) hHeld ?_ ?_
  rotate_left
  · rintro w' ⟨s0, s1, s2, s3, s4, s5⟩
    go_simp
    with_reducible rfl
  rotate_left
  · simp only [Act.put, List.setIfInBounds_toArray, List.set_cons_zero, List.set_cons_succ, i64_w, i32_w]
    rfl
  refine take_ (i := 48) (N := some 82) (v := ?_) (a' := ?_) #[true, true, true, true, true, true, true, true, true, true, true, true, true, true, true, true, true, true, true, true, true, true, true, true, true, true, true, true, true, true, true, true, true, true, true, true, true, true, true, true, true, true, true, true, true, true, true, true, true, false, false, false, false, false, false, false, false, false, false, false, false, false, false, false, false, false, false, false, false, false, false, false, false, false, false, false, false, false, false, false, false] rfl rfl (take_ofW HT_.out HW_.out (by kernel_rfl)) (fun _ _ _ h => h) (Or.inl ⟨by rfl, ?_⟩) hHeld ?_ ?_
  rotate_left
  · rintro w' ⟨s0, s1, s2, s3, s4, s5⟩
    go_simp
    with_reducible rfl
  rotate_left
  · simp only [Act.put, List.setIfInBounds_toArray, List.set_cons_zero, List.set_cons_succ, i64_w, i32_w]
    rfl
  refine take_ (i := 49) (N := some 83) (v := ?_) (a' := ?_) #[true, true, true, true, true, true, true, true, true, true, true, true, true, true, true, true, true, true, true, true, true, true, true, true, true, true, true, true, true, true, true, true, true, true, true, true, true, true, true, true, true, true, true, true, true, true, true, true, true, true, false, false, false, false, false, false, false, false, false, false, false, false, false, false, false, false, false, false, false, false, false, false, false, false, false, false, false, false, false, false, false] rfl rfl (take_ofW HT_.out HW_.out (by kernel_rfl)) (fun _ _ _ h => h) (Or.inl ⟨by rfl, ?_⟩) hHeld ?_ ?_
  rotate_left
  · rintro w' ⟨s0, s1, s2, s3, s4, s5⟩
    go_simp
    with_reducible rfl
  rotate_left
  · simp only [Act.put, List.setIfInBounds_toArray, List.set_cons_zero, List.set_cons_succ, i64_w, i32_w]
    rfl
  refine take_ (i := 52) (N := some 86) (v := ?_) (a' := ?_) #[true, true, true, true, true, true, true, true, true, true, true, true, true, true, true, true, true, true, true, true, true, true, true, true, true, true, true, true, true, true, true, true, true, true, true, true, true, true, true, true, true, true, true, true, true, true, true, true, true, true, false, false, true, false, false, false, false, false, false, false, false, false, false, false, false, false, false, false, false, false, false, false, false, false, false, false, false, false, false, false, false] rfl rfl (take_ofW HT_.out HW_.out (by kernel_rfl)) (fun _ _ _ h => h) (Or.inl ⟨by rfl, ?_⟩) hHeld ?_ ?_
  rotate_left
  · rintro w' ⟨s0, s1, s2, s3, s4, s5⟩
    go_simp
    with_reducible rfl
  rotate_left
  · simp only [Act.put, List.setIfInBounds_toArray, List.set_cons_zero, List.set_cons_succ, i64_w, i32_w]
    rfl
  refine take_ (i := 53) (N := some 87) (v := ?_) (a' := ?_) #[true, true, true, true, true, true, true, true, true, true, true, true, true, true, true, true, true, true, true, true, true, true, true, true, true, true, true, true, true, true, true, true, true, true, true, true, true, true, true, true, true, true, true, true, true, true, true, true, true, true, false, false, true, true, false, false, false, false, false, false, false, false, false, false, false, false, false, false, false, false, false, false, false, false, false, false, false, false, false, false, false] rfl rfl (take_ofW HT_.out HW_.out (by kernel_rfl)) (fun _ _ _ h => h) (Or.inl ⟨by rfl, ?_⟩) hHeld ?_ ?_
  rotate_left
  · rintro w' ⟨s0, s1, s2, s3, s4, s5⟩
    go_simp
    with_reducible rfl
  rotate_left
  · simp only [Act.put, List.setIfInBounds_toArray, List.set_cons_zero, List.set_cons_succ, i64_w, i32_w]
    rfl
  refine take_ (i := 55) (N := some 89) (v := ?_) (a' := ?_) #[true, true, true, true, true, true, true, true, true, true, true, true, true, true, true, true, true, true, true, true, true, true, true, true, true, true, true, true, true, true, true, true, true, true, true, true, true, true, true, true, true, true, true, true, true, true, true, true, true, true, false, false, true, true, false, true, false, false, false, false, false, false, false, false, false, false, false, false, false, false, false, false, false, false, false, false, false, false, false, false, false] rfl rfl (take_ofW HT_.out HW_.out (by kernel_rfl)) (fun _ _ _ h => h) (Or.inl ⟨by rfl, ?_⟩) hHeld ?_ ?_
  rotate_left
  · rintro w' ⟨s0, s1, s2, s3, s4, s5⟩
    go_simp
    with_reducible rfl
  rotate_left
  · simp only [Act.put, List.setIfInBounds_toArray, List.set_cons_zero, List.set_cons_succ, i64_w, i32_w]
    rfl
  refine take_ (i := 56) (N := some 90) (v := ?_) (a' := ?_) #[true, true, true, true, true, true, true, true, true, true, true, true, true, true, true, true, true, true, true, true, true, true, true, true, true, true, true, true, true, true, true, true, true, true, true, true, true, true, true, true, true, true, true, true, true, true, true, true, true, true, false, false, true, true, false, true, true, false, false, false, false, false, false, false, false, false, false, false, false, false, false, false, false, false, false, false, false, false, false, false, false] rfl rfl (take_ofW HT_.out HW_.out (by kernel_rfl)) (fun _ _ _ h => h) (Or.inl ⟨by rfl, ?_⟩) hHeld ?_ ?_
  rotate_left
  · rintro w' ⟨s0, s1, s2, s3, s4, s5⟩
    go_simp
    with_reducible rfl
  rotate_left
  · simp only [Act.put, List.setIfInBounds_toArray, List.set_cons_zero, List.set_cons_succ, i64_w, i32_w]
    rfl
  refine one_ (i := 50) (N := some 84) #[true, true, true, true, true, true, true, true, true, true, true, true, true, true, true, true, true, true, true, true, true, true, true, true, true, true, true, true, true, true, true, true, true, true, true, true, true, true, true, true, true, true, true, true, true, true, true, true, true, true, true, false, true, true, false, true, true, false, false, false, false, false, false, false, false, false, false, false, false, false, false, false, false, false, false, false, false, false, false, false, false] rfl rfl (one_of HT_.out (by kernel_rfl)) (by decide) (fun K hK => ?_)
  refine goes_ Try.func28 (by kernel_rfl) rfl #[.agg #[.bool (ng y), .slice A6 (ln y) c7], .agg #[.bool (ng z), .slice A15 (ln z) c16]] (by rfl) rfl rfl (by (try simp only [List.map_toArray, List.map_cons, List.map_nil]); first | done | rfl) ?_
  with_reducible refine (AddQ (H.row _ (mt (mt (mt (mt m10))))) (H.row _ (mt (mt (mt m10)))) (lim bY.out (by decide)) (lim bz.out (by decide)) s4 hs4.out).mono ?_
  rintro e w66 ⟨A67, c68, rfl, hr, hb⟩
  replace H := H.got hr hb
  clear hr hb
  refine ⟨_, rfl, ?_⟩
  refine hK.out _ _ ⟨H.cell m3 0, H.cell m3 1, H.cell m2 0, H.cell m2 1, H.cell m1 0, H.cell m1 1⟩ (fun hHeld => ?_)
  clear hK K
  refine norm_ (a' := ?_) ?_ ?_
  rotate_left
  · show Act.put _ (some 84) _ = _
    simp only [Act.put, List.setIfInBounds_toArray, List.set_cons_zero, List.set_cons_succ, i64_w, i32_w]
    rfl
  refine one_ (i := 51) (N := some 85) #[true, true, true, true, true, true, true, true, true, true, true, true, true, true, true, true, true, true, true, true, true, true, true, true, true, true, true, true, true, true, true, true, true, true, true, true, true, true, true, true, true, true, true, true, true, true, true, true, true, true, true, true, true, true, false, true, true, false, false, false, false, false, false, false, false, false, false, false, false, false, false, false, false, false, false, false, false, false, false, false, false] rfl rfl (one_of HT_.out (by kernel_rfl)) (by decide) (fun K hK => ?_)
  refine goes_ Try.func31 (by kernel_rfl) rfl #[.agg #[.bool (ng x), .slice A4 (ln x) c5], .agg #[.bool (ng s4), .slice A67 (ln s4) c68]] (by rfl) rfl rfl (by (try simp only [List.map_toArray, List.map_cons, List.map_nil]); first | done | rfl) ?_
  with_reducible refine (MulQ (H.row _ (mt (mt (mt (mt (mt (mt m10))))))) (H.row _ m0) (lim bx.out (by decide)) (lim bs4.out (by decide)) p6 hp6.out).mono ?_
  rintro e w69 ⟨A70, c71, rfl, hr, hb⟩
  replace H := H.got hr hb
  clear hr hb
  refine ⟨_, rfl, ?_⟩
  refine hK.out _ _ ⟨H.cell m3 0, H.cell m3 1, H.cell m2 0, H.cell m2 1, H.cell m1 0, H.cell m1 1⟩ (fun hHeld => ?_)
  clear hK K
  refine norm_ (a' := ?_) ?_ ?_
  rotate_left
  · show Act.put _ (some 85) _ = _
    simp only [Act.put, List.setIfInBounds_toArray, List.set_cons_zero, List.set_cons_succ, i64_w, i32_w]
    rfl
  refine one_ (i := 54) (N := some 88) #[true, true, true, true, true, true, true, true, true, true, true, true, true, true, true, true, true, true, true, true, true, true, true, true, true, true, true, true, true, true, true, true, true, true, true, true, true, true, true, true, true, true, true, true, true, true, true, true, true, true, true, true, true, true, true, true, true, false, false, false, false, false, false, false, false, false, false, false, false, false, false, false, false, false, false, false, false, false, false, false, false] rfl rfl (one_of HT_.out (by kernel_rfl)) (by decide) (fun K hK => ?_)
  refine goes_ Try.func31 (by kernel_rfl) rfl #[.agg #[.bool (ng x), .slice A4 (ln x) c5], .agg #[.bool (ng y), .slice A6 (ln y) c7]] (by rfl) rfl rfl (by (try simp only [List.map_toArray, List.map_cons, List.map_nil]); first | done | rfl) ?_
  with_reducible refine (MulQ (H.row _ (mt (mt (mt (mt (mt (mt (mt m10)))))))) (H.row _ (mt (mt (mt (mt (mt (mt m10))))))) (lim bx.out (by decide)) (lim bY.out (by decide)) p1 hp1.out).mono ?_
  rintro e w72 ⟨A73, c74, rfl, hr, hb⟩
  replace H := H.got hr hb
  clear hr hb
  refine ⟨_, rfl, ?_⟩
  refine hK.out _ _ ⟨H.cell m3 0, H.cell m3 1, H.cell m2 0, H.cell m2 1, H.cell m1 0, H.cell m1 1⟩ (fun hHeld => ?_)
  clear hK K
  refine norm_ (a' := ?_) ?_ ?_
  rotate_left
  · show Act.put _ (some 88) _ = _
    simp only [Act.put, List.setIfInBounds_toArray, List.set_cons_zero, List.set_cons_succ, i64_w, i32_w]
    rfl
  refine one_ (i := 57) (N := some 91) #[true, true, true, true, true, true, true, true, true, true, true, true, true, true, true, true, true, true, true, true, true, true, true, true, true, true, true, true, true, true, true, true, true, true, true, true, true, true, true, true, true, true, true, true, true, true, true, true, true, true, true, true, true, true, true, true, true, true, false, false, false, false, false, false, false, false, false, false, false, false, false, false, false, false, false, false, false, false, false, false, false] rfl rfl (one_of HT_.out (by kernel_rfl)) (by decide) (fun K hK => ?_)
  refine goes_ Try.func31 (by kernel_rfl) rfl #[.agg #[.bool (ng x), .slice A4 (ln x) c5], .agg #[.bool (ng z), .slice A15 (ln z) c16]] (by rfl) rfl rfl (by (try simp only [List.map_toArray, List.map_cons, List.map_nil]); first | done | rfl) ?_
  with_reducible refine (MulQ (H.row _ (mt (mt (mt (mt (mt (mt (mt (mt m10))))))))) (H.row _ (mt (mt (mt (mt (mt (mt m10))))))) (lim bx.out (by decide)) (lim bz.out (by decide)) p7 hp7.out).mono ?_
  rintro e w75 ⟨A76, c77, rfl, hr, hb⟩
  replace H := H.got hr hb
  clear hr hb
  refine ⟨_, rfl, ?_⟩
  refine hK.out _ _ ⟨H.cell m3 0, H.cell m3 1, H.cell m2 0, H.cell m2 1, H.cell m1 0, H.cell m1 1⟩ (fun hHeld => ?_)
  clear hK K
  refine norm_ (a' := ?_) ?_ ?_
  rotate_left
  · show Act.put _ (some 91) _ = _
    simp only [Act.put, List.setIfInBounds_toArray, List.set_cons_zero, List.set_cons_succ, i64_w, i32_w]
    rfl
  refine one_ (i := 58) (N := some 92) #[true, true, true, true, true, true, true, true, true, true, true, true, true, true, true, true, true, true, true, true, true, true, true, true, true, true, true, true, true, true, true, true, true, true, true, true, true, true, true, true, true, true, true, true, true, true, true, true, true, true, true, true, true, true, true, true, true, true, true, false, false, false, false, false, false, false, false, false, false, false, false, false, false, false, false, false, false, false, false, false, false] rfl rfl (one_of HT_.out (by kernel_rfl)) (by decide) (fun K hK => ?_)
  refine goes_ Try.func28 (by kernel_rfl) rfl #[.agg #[.bool (ng p1), .slice A73 (ln p1) c74], .agg #[.bool (ng p7), .slice A76 (ln p7) c77]] (by rfl) rfl rfl (by (try simp only [List.map_toArray, List.map_cons, List.map_nil]); first | done | rfl) ?_
  with_reducible refine (AddQ (H.row _ m1) (H.row _ m0) (lim bp1.out (by decide)) (lim bp7.out (by decide)) s6 hs6.out).mono ?_
  rintro e w78 ⟨A79, c80, rfl, hr, hb⟩
  replace H := H.got hr hb
  clear hr hb
  refine ⟨_, rfl, ?_⟩
  refine hK.out _ _ ⟨H.cell m3 0, H.cell m3 1, H.cell m2 0, H.cell m2 1, H.cell m1 0, H.cell m1 1⟩ (fun hHeld => ?_)
  clear hK K
  refine norm_ (a' := ?_) ?_ ?_
  rotate_left
  · show Act.put _ (some 92) _ = _
    simp only [Act.put, List.setIfInBounds_toArray, List.set_cons_zero, List.set_cons_succ, i64_w, i32_w]
    rfl
  refine one_ (i := 59) (N := some 93) #[true, true, true, true, true, true, true, true, true, true, true, true, true, true, true, true, true, true, true, true, true, true, true, true, true, true, true, true, true, true, true, true, true, true, true, true, true, true, true, true, true, true, true, true, true, true, true, true, true, true, true, true, true, true, true, true, true, true, true, true, false, false, false, false, false, false, false, false, false, false, false, false, false, false, false, false, false, false, false, false, false] rfl rfl (one_of HT_.out (by kernel_rfl)) (by decide) (fun K hK => ?_)
  refine goes_ Try.func34 (by kernel_rfl) rfl #[.agg #[.bool (ng p6), .slice A70 (ln p6) c71], .agg #[.bool (ng s6), .slice A79 (ln s6) c80]] (by rfl) rfl rfl (by (try simp only [List.map_toArray, List.map_cons, List.map_nil]); first | done | rfl) ?_
  with_reducible refine (CmpQ (H.row _ m3) (H.row _ m0) (lim bp6.out (by decide)) (lim bs6.out (by decide)) 0 k5.out).mono ?_
  rintro e w81 ⟨rfl, hb⟩
  replace H := H.call hb
  clear hb
  refine ⟨_, rfl, ?_⟩
  refine hK.out _ _ ⟨H.cell m3 0, H.cell m3 1, H.cell m2 0, H.cell m2 1, H.cell m1 0, H.cell m1 1⟩ (fun hHeld => ?_)
  clear hK K
  refine norm_ (a' := ?_) ?_ ?_
  rotate_left
  · show Act.put _ (some 93) _ = _
    simp only [Act.put, List.setIfInBounds_toArray, List.set_cons_zero, List.set_cons_succ, i64_w, i32_w]
    rfl
  refine pure_ (i := 60) (N := some 94) (v := ?_) (a' := ?_) #[true, true, true, true, true, true, true, true, true, true, true, true, true, true, true, true, true, true, true, true, true, true, true, true, true, true, true, true, true, true, true, true, true, true, true, true, true, true, true, true, true, true, true, true, true, true, true, true, true, true, true, true, true, true, true, true, true, true, true, true, true, false, false, false, false, false, false, false, false, false, false, false, false, false, false, false, false, false, false, false, false] rfl rfl (any_of HT_.out (by kernel_rfl)) (fun _ _ _ h => h) (Or.inl ⟨by rfl, ?_⟩) ?_ ?_
  rotate_left
  · intro w'
    go_simp
    with_reducible rfl
  rotate_left
  · simp only [Act.put, List.setIfInBounds_toArray, List.set_cons_zero, List.set_cons_succ, i64_w, i32_w]
    rfl
  refine pure_ (i := 61) (N := some 95) (v := ?_) (a' := ?_) #[true, true, true, true, true, true, true, true, true, true, true, true, true, true, true, true, true, true, true, true, true, true, true, true, true, true, true, true, true, true, true, true, true, true, true, true, true, true, true, true, true, true, true, true, true, true, true, true, true, true, true, true, true, true, true, true, true, true, true, true, true, true, false, false, false, false, false, false, false, false, false, false, false, false, false, false, false, false, false, false, false] rfl rfl (any_of HT_.out (by kernel_rfl)) (fun _ _ _ h => h) (Or.inl ⟨by rfl, ?_⟩) ?_ ?_
  rotate_left
  · intro w'
    go_simp
    with_reducible rfl
  rotate_left
  · simp only [Act.put, List.setIfInBounds_toArray, List.set_cons_zero, List.set_cons_succ, i64_w, i32_w]
    rfl
  refine pure_ (i := 62) (N := some 96) (v := ?_) (a' := ?_) #[true, true, true, true, true, true, true, true, true, true, true, true, true, true, true, true, true, true, true, true, true, true, true, true, true, true, true, true, true, true, true, true, true, true, true, true, true, true, true, true, true, true, true, true, true, true, true, true, true, true, true, true, true, true, true, true, true, true, true, true, true, true, true, false, false, false, false, false, false, false, false, false, false, false, false, false, false, false, false, false, false] rfl rfl (any_of HT_.out (by kernel_rfl)) (fun _ _ _ h => h) (Or.inl ⟨by rfl, ?_⟩) ?_ ?_
  rotate_left
  · intro w'
    go_simp
    with_reducible rfl
  rotate_left
  · simp only [Act.put, List.setIfInBounds_toArray, List.set_cons_zero, List.set_cons_succ, i64_w, i32_w]
    rfl
  refine take_ (i := 63) (N := some 97) (v := ?_) (a' := ?_) #[true, true, true, true, true, true, true, true, true, true, true, true, true, true, true, true, true, true, true, true, true, true, true, true, true, true, true, true, true, true, true, true, true, true, true, true, true, true, true, true, true, true, true, true, true, true, true, true, true, true, true, true, true, true, true, true, true, true, true, true, true, true, true, true, false, false, false, false, false, false, false, false, false, false, false, false, false, false, false, false, false] rfl rfl (take_ofW HT_.out HW_.out (by kernel_rfl)) (fun _ _ _ h => h) (Or.inl ⟨by rfl, ?_⟩) hHeld ?_ ?_
  rotate_left
  · rintro w' ⟨s0, s1, s2, s3, s4, s5⟩
    go_simp
    with_reducible rfl
  rotate_left
  · simp only [Act.put, List.setIfInBounds_toArray, List.set_cons_zero, List.set_cons_succ, i64_w, i32_w]
    rfl
  refine take_ (i := 64) (N := some 98) (v := ?_) (a' := ?_) #[true, true, true, true, true, true, true, true, true, true, true, true, true, true, true, true, true, true, true, true, true, true, true, true, true, true, true, true, true, true, true, true, true, true, true, true, true, true, true, true, true, true, true, true, true, true, true, true, true, true, true, true, true, true, true, true, true, true, true, true, true, true, true, true, true, false, false, false, false, false, false, false, false, false, false, false, false, false, false, false, false] rfl rfl (take_ofW HT_.out HW_.out (by kernel_rfl)) (fun _ _ _ h => h) (Or.inl ⟨by rfl, ?_⟩) hHeld ?_ ?_
  rotate_left
  · rintro w' ⟨s0, s1, s2, s3, s4, s5⟩
    go_simp
    with_reducible rfl
  rotate_left
  · simp only [Act.put, List.setIfInBounds_toArray, List.set_cons_zero, List.set_cons_succ, i64_w, i32_w]
    rfl
  refine take_ (i := 66) (N := some 100) (v := ?_) (a' := ?_) #[true, true, true, true, true, true, true, true, true, true, true, true, true, true, true, true, true, true, true, true, true, true, true, true, true, true, true, true, true, true, true, true, true, true, true, true, true, true, true, true, true, true, true, true, true, true, true, true, true, true, true, true, true, true, true, true, true, true, true, true, true, true, true, true, true, false, true, false, false, false, false, false, false, false, false, false, false, false, false, false, false] rfl rfl (take_ofW HT_.out HW_.out (by kernel_rfl)) (fun _ _ _ h => h) (Or.inl ⟨by rfl, ?_⟩) hHeld ?_ ?_
  rotate_left
  · rintro w' ⟨s0, s1, s2, s3, s4, s5⟩
    go_simp
    with_reducible rfl
  rotate_left
  · simp only [Act.put, List.setIfInBounds_toArray, List.set_cons_zero, List.set_cons_succ, i64_w, i32_w]
    rfl
  refine take_ (i := 67) (N := some 101) (v := ?_) (a' := ?_) #[true, true, true, true, true, true, true, true, true, true, true, true, true, true, true, true, true, true, true, true, true, true, true, true, true, true, true, true, true, true, true, true, true, true, true, true, true, true, true, true, true, true, true, true, true, true, true, true, true, true, true, true, true, true, true, true, true, true, true, true, true, true, true, true, true, false, true, true, false, false, false, false, false, false, false, false, false, false, false, false, false] rfl rfl (take_ofW HT_.out HW_.out (by kernel_rfl)) (fun _ _ _ h => h) (Or.inl ⟨by rfl, ?_⟩) hHeld ?_ ?_
  rotate_left
  · rintro w' ⟨s0, s1, s2, s3, s4, s5⟩
    go_simp
    with_reducible rfl
  rotate_left
  · simp only [Act.put, List.setIfInBounds_toArray, List.set_cons_zero, List.set_cons_succ, i64_w, i32_w]
    rfl
  refine one_ (i := 65) (N := some 99) #[true, true, true, true, true, true, true, true, true, true, true, true, true, true, true, true, true, true, true, true, true, true, true, true, true, true, true, true, true, true, true, true, true, true, true, true, true, true, true, true, true, true, true, true, true, true, true, true, true, true, true, true, true, true, true, true, true, true, true, true, true, true, true, true, true, true, true, true, false, false, false, false, false, false, false, false, false, false, false, false, false] rfl rfl (one_of HT_.out (by kernel_rfl)) (by decide) (fun K hK => ?_)
  refine goes_ Try.func30 (by kernel_rfl) rfl #[.agg #[.bool (ng x), .slice A4 (ln x) c5], .agg #[.bool (ng y), .slice A6 (ln y) c7]] (by rfl) rfl rfl (by (try simp only [List.map_toArray, List.map_cons, List.map_nil]); first | done | rfl) ?_
  with_reducible refine (SubQ (H.row _ (mt (mt (mt (mt (mt (mt (mt (mt (mt (mt m10))))))))))) (H.row _ (mt (mt (mt (mt (mt (mt (mt (mt (mt m10)))))))))) (lim bx.out (by decide)) (lim bY.out (by decide)) d1 hd1.out).mono ?_
  rintro e w82 ⟨A83, c84, rfl, hr, hb⟩
  replace H := H.got hr hb
  clear hr hb
  refine ⟨_, rfl, ?_⟩
  refine hK.out _ _ ⟨H.cell m3 0, H.cell m3 1, H.cell m2 0, H.cell m2 1, H.cell m1 0, H.cell m1 1⟩ (fun hHeld => ?_)
  clear hK K
  refine norm_ (a' := ?_) ?_ ?_
  rotate_left
  · show Act.put _ (some 99) _ = _
    simp only [Act.put, List.setIfInBounds_toArray, List.set_cons_zero, List.set_cons_succ, i64_w, i32_w]
    rfl
  refine one_ (i := 68) (N := some 102) #[true, true, true, true, true, true, true, true, true, true, true, true, true, true, true, true, true, true, true, true, true, true, true, true, true, true, true, true, true, true, true, true, true, true, true, true, true, true, true, true, true, true, true, true, true, true, true, true, true, true, true, true, true, true, true, true, true, true, true, true, true, true, true, true, true, true, true, true, true, false, false, false, false, false, false, false, false, false, false, false, false] rfl rfl (one_of HT_.out (by kernel_rfl)) (by decide) (fun K hK => ?_)
  refine goes_ Try.func37 (by kernel_rfl) rfl #[.agg #[.bool (ng y), .slice A6 (ln y) c7]] (by rfl) rfl rfl (by (try simp only [List.map_toArray, List.map_cons, List.map_nil]); first | done | rfl) ?_
  with_reducible refine (NegQ (H.row _ (mt (mt (mt (mt (mt (mt (mt (mt (mt (mt m10))))))))))) (lim bY.out (by decide)) n1 hn1.out).mono ?_
  rintro e w85 ⟨A86, c87, rfl, hr, hb⟩
  replace H := H.got hr hb
  clear hr hb
  refine ⟨_, rfl, ?_⟩
  refine hK.out _ _ ⟨H.cell m3 0, H.cell m3 1, H.cell m2 0, H.cell m2 1, H.cell m1 0, H.cell m1 1⟩ (fun hHeld => ?_)
  clear hK K
  refine norm_ (a' := ?_) ?_ ?_
  rotate_left
  · show Act.put _ (some 102) _ = _
    simp only [Act.put, List.setIfInBounds_toArray, List.set_cons_zero, List.set_cons_succ, i64_w, i32_w]
    rfl
  refine one_ (i := 69) (N := some 103) #[true, true, true, true, true, true, true, true, true, true, true, true, true, true, true, true, true, true, true, true, true, true, true, true, true, true, true, true, true, true, true, true, true, true, true, true, true, true, true, true, true, true, true, true, true, true, true, true, true, true, true, true, true, true, true, true, true, true, true, true, true, true, true, true, true, true, true, true, true, true, false, false, false, false, false, false, false, false, false, false, false] rfl rfl (one_of HT_.out (by kernel_rfl)) (by decide) (fun K hK => ?_)
  refine goes_ Try.func28 (by kernel_rfl) rfl #[.agg #[.bool (ng x), .slice A4 (ln x) c5], .agg #[.bool (ng n1), .slice A86 (ln n1) c87]] (by rfl) rfl rfl (by (try simp only [List.map_toArray, List.map_cons, List.map_nil]); first | done | rfl) ?_
  with_reducible refine (AddQ (H.row _ (mt (mt (mt (mt (mt (mt (mt (mt (mt (mt (mt (mt m10))))))))))))) (H.row _ m0) (lim bx.out (by decide)) (lim bn1.out (by decide)) s7 hs7.out).mono ?_
  rintro e w88 ⟨A89, c90, rfl, hr, hb⟩
  replace H := H.got hr hb
  clear hr hb
  refine ⟨_, rfl, ?_⟩
  refine hK.out _ _ ⟨H.cell m3 0, H.cell m3 1, H.cell m2 0, H.cell m2 1, H.cell m1 0, H.cell m1 1⟩ (fun hHeld => ?_)
  clear hK K
  refine norm_ (a' := ?_) ?_ ?_
  rotate_left
  · show Act.put _ (some 103) _ = _
    simp only [Act.put, List.setIfInBounds_toArray, List.set_cons_zero, List.set_cons_succ, i64_w, i32_w]
    rfl
  refine one_ (i := 70) (N := some 104) #[true, true, true, true, true, true, true, true, true, true, true, true, true, true, true, true, true, true, true, true, true, true, true, true, true, true, true, true, true, true, true, true, true, true, true, true, true, true, true, true, true, true, true, true, true, true, true, true, true, true, true, true, true, true, true, true, true, true, true, true, true, true, true, true, true, true, true, true, true, true, true, false, false, false, false, false, false, false, false, false, false] rfl rfl (one_of HT_.out (by kernel_rfl)) (by decide) (fun K hK => ?_)
  refine goes_ Try.func34 (by kernel_rfl) rfl #[.agg #[.bool (ng d1), .slice A83 (ln d1) c84], .agg #[.bool (ng s7), .slice A89 (ln s7) c90]] (by rfl) rfl rfl (by (try simp only [List.map_toArray, List.map_cons, List.map_nil]); first | done | rfl) ?_
  with_reducible refine (CmpQ (H.row _ m2) (H.row _ m0) (lim bd1.out (by decide)) (lim bs7.out (by decide)) 0 k6.out).mono ?_
  rintro e w91 ⟨rfl, hb⟩
  replace H := H.call hb
  clear hb
  refine ⟨_, rfl, ?_⟩
  refine hK.out _ _ ⟨H.cell m3 0, H.cell m3 1, H.cell m2 0, H.cell m2 1, H.cell m1 0, H.cell m1 1⟩ (fun hHeld => ?_)
  clear hK K
  refine norm_ (a' := ?_) ?_ ?_
  rotate_left
  · show Act.put _ (some 104) _ = _
    simp only [Act.put, List.setIfInBounds_toArray, List.set_cons_zero, List.set_cons_succ, i64_w, i32_w]
    rfl
  refine pure_ (i := 71) (N := some 105) (v := ?_) (a' := ?_) #[true, true, true, true, true, true, true, true, true, true, true, true, true, true, true, true, true, true, true, true, true, true, true, true, true, true, true, true, true, true, true, true, true, true, true, true, true, true, true, true, true, true, true, true, true, true, true, true, true, true, true, true, true, true, true, true, true, true, true, true, true, true, true, true, true, true, true, true, true, true, true, true, false, false, false, false, false, false, false, false, false] rfl rfl (any_of HT_.out (by kernel_rfl)) (fun _ _ _ h => h) (Or.inl ⟨by rfl, ?_⟩) ?_ ?_
  rotate_left
  · intro w'
    go_simp
    with_reducible rfl
  rotate_left
  · simp only [Act.put, List.setIfInBounds_toArray, List.set_cons_zero, List.set_cons_succ, i64_w, i32_w]
    rfl
  refine pure_ (i := 72) (N := some 106) (v := ?_) (a' := ?_) #[true, true, true, true, true, true, true, true, true, true, true, true, true, true, true, true, true, true, true, true, true, true, true, true, true, true, true, true, true, true, true, true, true, true, true, true, true, true, true, true, true, true, true, true, true, true, true, true, true, true, true, true, true, true, true, true, true, true, true, true, true, true, true, true, true, true, true, true, true, true, true, true, true, false, false, false, false, false, false, false, false] rfl rfl (any_of HT_.out (by kernel_rfl)) (fun _ _ _ h => h) (Or.inl ⟨by rfl, ?_⟩) ?_ ?_
  rotate_left
  · intro w'
    go_simp
    with_reducible rfl
  rotate_left
  · simp only [Act.put, List.setIfInBounds_toArray, List.set_cons_zero, List.set_cons_succ, i64_w, i32_w]
    rfl
  refine pure_ (i := 73) (N := some 107) (v := ?_) (a' := ?_) #[true, true, true, true, true, true, true, true, true, true, true, true, true, true, true, true, true, true, true, true, true, true, true, true, true, true, true, true, true, true, true, true, true, true, true, true, true, true, true, true, true, true, true, true, true, true, true, true, true, true, true, true, true, true, true, true, true, true, true, true, true, true, true, true, true, true, true, true, true, true, true, true, true, true, false, false, false, false, false, false, false] rfl rfl (any_of HT_.out (by kernel_rfl)) (fun _ _ _ h => h) (Or.inl ⟨by rfl, ?_⟩) ?_ ?_
  rotate_left
  · intro w'
    go_simp
    with_reducible rfl
  rotate_left
  · simp only [Act.put, List.setIfInBounds_toArray, List.set_cons_zero, List.set_cons_succ, i64_w, i32_w]
    rfl
  refine take_ (i := 74) (N := some 108) (v := ?_) (a' := ?_) #[true, true, true, true, true, true, true, true, true, true, true, true, true, true, true, true, true, true, true, true, true, true, true, true, true, true, true, true, true, true, true, true, true, true, true, true, true, true, true, true, true, true, true, true, true, true, true, true, true, true, true, true, true, true, true, true, true, true, true, true, true, true, true, true, true, true, true, true, true, true, true, true, true, true, true, false, false, false, false, false, false] rfl rfl (take_ofW HT_.out HW_.out (by kernel_rfl)) (fun _ _ _ h => h) (Or.inl ⟨by rfl, ?_⟩) hHeld ?_ ?_
  rotate_left
  · rintro w' ⟨s0, s1, s2, s3, s4, s5⟩
    go_simp
    with_reducible rfl
  rotate_left
  · simp only [Act.put, List.setIfInBounds_toArray, List.set_cons_zero, List.set_cons_succ, i64_w, i32_w]
    rfl
  refine take_ (i := 75) (N := some 109) (v := ?_) (a' := ?_) #[true, true, true, true, true, true, true, true, true, true, true, true, true, true, true, true, true, true, true, true, true, true, true, true, true, true, true, true, true, true, true, true, true, true, true, true, true, true, true, true, true, true, true, true, true, true, true, true, true, true, true, true, true, true, true, true, true, true, true, true, true, true, true, true, true, true, true, true, true, true, true, true, true, true, true, true, false, false, false, false, false] rfl rfl (take_ofW HT_.out HW_.out (by kernel_rfl)) (fun _ _ _ h => h) (Or.inl ⟨by rfl, ?_⟩) hHeld ?_ ?_
  rotate_left
  · rintro w' ⟨s0, s1, s2, s3, s4, s5⟩
    go_simp
    with_reducible rfl
  rotate_left
  · simp only [Act.put, List.setIfInBounds_toArray, List.set_cons_zero, List.set_cons_succ, i64_w, i32_w]
    rfl
  refine one_ (i := 76) (N := some 110) #[true, true, true, true, true, true, true, true, true, true, true, true, true, true, true, true, true, true, true, true, true, true, true, true, true, true, true, true, true, true, true, true, true, true, true, true, true, true, true, true, true, true, true, true, true, true, true, true, true, true, true, true, true, true, true, true, true, true, true, true, true, true, true, true, true, true, true, true, true, true, true, true, true, true, true, true, true, false, false, false, false] rfl rfl (one_of HT_.out (by kernel_rfl)) (by decide) (fun K hK => ?_)
  refine goes_ Try.func30 (by kernel_rfl) rfl #[.agg #[.bool (ng x), .slice A4 (ln x) c5], .agg #[.bool (ng x), .slice A4 (ln x) c5]] (by rfl) rfl rfl (by (try simp only [List.map_toArray, List.map_cons, List.map_nil]); first | done | rfl) ?_
  with_reducible refine (SubQ (H.row _ (mt (mt (mt (mt (mt (mt (mt (mt (mt (mt (mt (mt (mt m10)))))))))))))) (H.row _ (mt (mt (mt (mt (mt (mt (mt (mt (mt (mt (mt (mt (mt m10)))))))))))))) (lim bx.out (by decide)) (lim bx.out (by decide)) d2 hd2.out).mono ?_
  rintro e w92 ⟨A93, c94, rfl, hr, hb⟩
  replace H := H.got hr hb
  clear hr hb
  refine ⟨_, rfl, ?_⟩
  refine hK.out _ _ ⟨H.cell m3 0, H.cell m3 1, H.cell m2 0, H.cell m2 1, H.cell m1 0, H.cell m1 1⟩ (fun hHeld => ?_)
  clear hK K
  refine norm_ (a' := ?_) ?_ ?_
  rotate_left
  · show Act.put _ (some 110) _ = _
    simp only [Act.put, List.setIfInBounds_toArray, List.set_cons_zero, List.set_cons_succ, i64_w, i32_w]
    rfl
  refine one_ (i := 77) (N := some 111) #[true, true, true, true, true, true, true, true, true, true, true, true, true, true, true, true, true, true, true, true, true, true, true, true, true, true, true, true, true, true, true, true, true, true, true, true, true, true, true, true, true, true, true, true, true, true, true, true, true, true, true, true, true, true, true, true, true, true, true, true, true, true, true, true, true, true, true, true, true, true, true, true, true, true, true, true, true, true, false, false, false] rfl rfl (one_of HT_.out (by kernel_rfl)) (by decide) (fun K hK => ?_)
  refine goes_ Try.func25 (by kernel_rfl) rfl #[.agg #[.bool (ng d2), .slice A93 (ln d2) c94]] (by rfl) rfl rfl (by (try simp only [List.map_toArray, List.map_cons, List.map_nil]); first | done | rfl) ?_
  with_reducible refine (SignQ _ _ _ (lim bd2.out (by decide)) 0 k7.out).mono ?_
  rintro e w95 ⟨rfl, hb⟩
  replace H := H.call hb
  clear hb
  refine ⟨_, rfl, ?_⟩
  refine hK.out _ _ ⟨H.cell m3 0, H.cell m3 1, H.cell m2 0, H.cell m2 1, H.cell m1 0, H.cell m1 1⟩ (fun hHeld => ?_)
  clear hK K
  refine norm_ (a' := ?_) ?_ ?_
  rotate_left
  · show Act.put _ (some 111) _ = _
    simp only [Act.put, List.setIfInBounds_toArray, List.set_cons_zero, List.set_cons_succ, i64_w, i32_w]
    rfl
  refine pure_ (i := 78) (N := some 112) (v := ?_) (a' := ?_) #[true, true, true, true, true, true, true, true, true, true, true, true, true, true, true, true, true, true, true, true, true, true, true, true, true, true, true, true, true, true, true, true, true, true, true, true, true, true, true, true, true, true, true, true, true, true, true, true, true, true, true, true, true, true, true, true, true, true, true, true, true, true, true, true, true, true, true, true, true, true, true, true, true, true, true, true, true, true, true, false, false] rfl rfl (any_of HT_.out (by kernel_rfl)) (fun _ _ _ h => h) (Or.inl ⟨by rfl, ?_⟩) ?_ ?_
  rotate_left
  · intro w'
    go_simp
    with_reducible rfl
  rotate_left
  · simp only [Act.put, List.setIfInBounds_toArray, List.set_cons_zero, List.set_cons_succ, i64_w, i32_w]
    rfl
  refine pure_ (i := 79) (N := some 113) (v := ?_) (a' := ?_) #[true, true, true, true, true, true, true, true, true, true, true, true, true, true, true, true, true, true, true, true, true, true, true, true, true, true, true, true, true, true, true, true, true, true, true, true, true, true, true, true, true, true, true, true, true, true, true, true, true, true, true, true, true, true, true, true, true, true, true, true, true, true, true, true, true, true, true, true, true, true, true, true, true, true, true, true, true, true, true, true, false] rfl rfl (any_of HT_.out (by kernel_rfl)) (fun _ _ _ h => h) (Or.inl ⟨by rfl, ?_⟩) ?_ ?_
  rotate_left
  · intro w'
    go_simp
    with_reducible rfl
  rotate_left
  · simp only [Act.put, List.setIfInBounds_toArray, List.set_cons_zero, List.set_cons_succ, i64_w, i32_w]
    rfl
  refine pure_ (i := 80) (N := some 6) (v := ?_) (a' := ?_) #[true, true, true, true, true, true, true, true, true, true, true, true, true, true, true, true, true, true, true, true, true, true, true, true, true, true, true, true, true, true, true, true, true, true, true, true, true, true, true, true, true, true, true, true, true, true, true, true, true, true, true, true, true, true, true, true, true, true, true, true, true, true, true, true, true, true, true, true, true, true, true, true, true, true, true, true, true, true, true, true, true] rfl rfl (any_of HT_.out (by kernel_rfl)) (fun _ _ _ h => h) (Or.inl ⟨by rfl, ?_⟩) ?_ ?_
  rotate_left
  · intro w'
    go_simp
    with_reducible rfl
  rotate_left
  · simp only [Act.put, List.setIfInBounds_toArray, List.set_cons_zero, List.set_cons_succ, i64_w, i32_w]
    rfl
  refine done_ (done_of HT_.out (by kernel_rfl)) ?_
  try clear hHeld
  go_wp2
  go_ret
  exact ⟨rfl, H.below⟩

theorem ring_walk (a b c : ByteArray) (w : World) : Calls Try.prog 11 #[.string a, .string b, .string c] w (fun e W' => e = .returned (.bool true) ∧ Below w.heap.size w W') := by
  by_cases h : ∃ x y, Both a b x y
  · obtain ⟨x, y, h⟩ := h
    by_cases h' : ∃ z u, Both c ⟨#[48]⟩ z u
    · obtain ⟨z, u, h'⟩ := h'
      exact ring_t a b c w x y z u ⟨(both_small h).1⟩ ⟨(both_small h).2⟩ ⟨(both_small h').1⟩ ⟨two_ok h⟩ ⟨two_ok h'⟩
    · obtain ⟨z, u, h'⟩ := two_not c ⟨#[48]⟩ h'
      exact ring_tf a b c w x y z u ⟨two_ok h⟩ ⟨h'⟩
  · obtain ⟨x, y, h⟩ := two_not a b h
    obtain ⟨z, u, q, h'⟩ := two_any c ⟨#[48]⟩
    exact ring_f a b c w x y z u q ⟨h⟩ ⟨h'⟩

end Go.Proofs.Ytdkapdgbfejgdaa
