/- The walk of the law RationalField. -/
import Derived.Test.YtdkapdgbfejgdaaRl
namespace Go.Proofs.Ytdkapdgbfejgdaa
open Go.RowKit Go.Proofs.YtdkapdgbfejgdaaW.PrintWords Go.Proofs.YtdkapdgbfejgdaaW.PrintLast Go.Proofs.YtdkapdgbfejgdaaW.PrintMore
set_option linter.unusedSimpArgs false
set_option linter.unusedVariables false
set_option maxHeartbeats 8000000
set_option maxRecDepth 100000

theorem fld_la (a b c : ByteArray) (w : World) (hla : Aside0 (decide (200 < (a.size : Int)) = true)) : Calls Try.prog 21 #[.string a, .string b, .string c] w (fun e W' => e = .returned (.bool true) ∧ Below w.heap.size w W') := by
  have hu25 := Try.underlying25
  have hu51 := Try.underlying51
  have H := Sit.start w (fun _ => False)
  go_enter Try.func21, Try.ntmps21
  have st2 := trivial
  have st4 := trivial
  go_wp2_with (first
    | (clear st2; go_at_call 38; (with_reducible refine (awake2 _).mono ?_); rintro e wA ⟨rfl, hb⟩; replace H := H.call hb; clear hb)
    | (clear st4; go_at_call 50; (with_reducible refine (LongR a _ true hla.out).mono ?_); rintro e w3 ⟨rfl, hb⟩; replace H := H.call hb; clear hb))
  go_ret
  exact ⟨rfl, H.below⟩

theorem fld_lb (a b c : ByteArray) (w : World) (hla : Aside0 (decide (200 < (a.size : Int)) = false)) (hlb : Aside0 (decide (200 < (b.size : Int)) = true)) : Calls Try.prog 21 #[.string a, .string b, .string c] w (fun e W' => e = .returned (.bool true) ∧ Below w.heap.size w W') := by
  have hu25 := Try.underlying25
  have hu51 := Try.underlying51
  have H := Sit.start w (fun _ => False)
  go_enter Try.func21, Try.ntmps21
  have st2 := trivial
  have st4 := trivial
  have st6 := trivial
  go_wp2_with (first
    | (clear st2; go_at_call 38; (with_reducible refine (awake2 _).mono ?_); rintro e wA ⟨rfl, hb⟩; replace H := H.call hb; clear hb)
    | (clear st4; go_at_call 50; (with_reducible refine (LongR a _ false hla.out).mono ?_); rintro e w3 ⟨rfl, hb⟩; replace H := H.call hb; clear hb)
    | (clear st6; go_at_call 50; (with_reducible refine (LongR b _ true hlb.out).mono ?_); rintro e w5 ⟨rfl, hb⟩; replace H := H.call hb; clear hb))
  go_ret
  exact ⟨rfl, H.below⟩

theorem fld_lc (a b c : ByteArray) (w : World) (hla : Aside0 (decide (200 < (a.size : Int)) = false)) (hlb : Aside0 (decide (200 < (b.size : Int)) = false)) (hlc : Aside0 (decide (200 < (c.size : Int)) = true)) : Calls Try.prog 21 #[.string a, .string b, .string c] w (fun e W' => e = .returned (.bool true) ∧ Below w.heap.size w W') := by
  have hu25 := Try.underlying25
  have hu51 := Try.underlying51
  have H := Sit.start w (fun _ => False)
  go_enter Try.func21, Try.ntmps21
  have st2 := trivial
  have st4 := trivial
  have st6 := trivial
  have st8 := trivial
  go_wp2_with (first
    | (clear st2; go_at_call 38; (with_reducible refine (awake2 _).mono ?_); rintro e wA ⟨rfl, hb⟩; replace H := H.call hb; clear hb)
    | (clear st4; go_at_call 50; (with_reducible refine (LongR a _ false hla.out).mono ?_); rintro e w3 ⟨rfl, hb⟩; replace H := H.call hb; clear hb)
    | (clear st6; go_at_call 50; (with_reducible refine (LongR b _ false hlb.out).mono ?_); rintro e w5 ⟨rfl, hb⟩; replace H := H.call hb; clear hb)
    | (clear st8; go_at_call 50; (with_reducible refine (LongR c _ true hlc.out).mono ?_); rintro e w7 ⟨rfl, hb⟩; replace H := H.call hb; clear hb))
  go_ret
  exact ⟨rfl, H.below⟩

theorem fld_f (a b c : ByteArray) (w : World) (hla : Aside0 (decide (200 < (a.size : Int)) = false)) (hlb : Aside0 (decide (200 < (b.size : Int)) = false)) (hlc : Aside0 (decide (200 < (c.size : Int)) = false)) (n d p q u v er : Int) (hAB : Aside0 (∀ w, Calls Try.prog 67 #[.string a, .string b] w (RetTwoR w n d p q false))) (hC : Aside0 (rp c = (u, v, er))) : Calls Try.prog 21 #[.string a, .string b, .string c] w (fun e W' => e = .returned (.bool true) ∧ Below w.heap.size w W') := by
  have hu25 := Try.underlying25
  have hu51 := Try.underlying51
  have H := Sit.start w (fun _ => False)
  go_enter Try.func21, Try.ntmps21
  have st2 := trivial
  have st4 := trivial
  have st6 := trivial
  have st8 := trivial
  have st18 := trivial
  have st20 := trivial
  have st22 := trivial
  go_upto_region 6 with (first
    | (clear st2; go_at_call 38; (with_reducible refine (awake2 _).mono ?_); rintro e wA ⟨rfl, hb⟩; replace H := H.call hb; clear hb)
    | (clear st4; go_at_call 50; (with_reducible refine (LongR a _ false hla.out).mono ?_); rintro e w3 ⟨rfl, hb⟩; replace H := H.call hb; clear hb)
    | (clear st6; go_at_call 50; (with_reducible refine (LongR b _ false hlb.out).mono ?_); rintro e w5 ⟨rfl, hb⟩; replace H := H.call hb; clear hb)
    | (clear st8; go_at_call 50; (with_reducible refine (LongR c _ false hlc.out).mono ?_); rintro e w7 ⟨rfl, hb⟩; replace H := H.call hb; clear hb)
    | (clear st18; go_at_call 67; (with_reducible refine (hAB.out _).mono ?_); rintro e w9 ⟨A10, c11, A12, c13, A14, c15, A16, c17, rfl, hr, hr2, hr3, hr4, hb⟩; replace H := (((H.got (fresh_row hr) hb).more ((H.got (fresh_row hr2) hb).row _ m0)).more ((H.got (fresh_row hr3) hb).row _ m0)).more ((H.got (fresh_row hr4) hb).row _ m0); clear hr hr2 hr3 hr4 hb)
    | (clear st20; (with_reducible refine gate_dst (N := 7) rfl ?_); refine box_event ?hg (N := 7) ?hd (cs := #[.bool false, .slice none 0 0, .bool false, .slice none 0 0]) (t := 51) ?hr ?_; (case hd => rfl); (case hg => rfl); (case hr => go_simp; try rfl); intro g7 hg w19 hbox hb; replace H := H.newbox hg hbox hb; clear hg hbox hb; obtain ⟨k7_0, z7_0, k7_1, z7_1, k7_2, z7_2, k7_3, z7_3⟩ := H.b4 (g := g7) m0)
    | (clear st22; (with_reducible refine gate_dst (N := 8) rfl ?_); refine box_event ?hg (N := 8) ?hd (cs := #[.bool false, .slice none 0 0, .bool false, .slice none 0 0]) (t := 51) ?hr ?_; (case hd => rfl); (case hg => rfl); (case hr => go_simp; try rfl); intro g8 hg w21 hbox hb; replace H := H.newbox hg hbox hb; clear hg hbox hb; clear k7_0 z7_0 k7_1 z7_1 k7_2 z7_2 k7_3 z7_3; obtain ⟨k8_0, z8_0, k8_1, z8_1, k8_2, z8_2, k8_3, z8_3⟩ := H.b4 (g := g8) m0; obtain ⟨k7_0, z7_0, k7_1, z7_1, k7_2, z7_2, k7_3, z7_3⟩ := H.b4 (g := g7) m1; have ne_g8_g7 := H.ne (g := g8) (g' := g7) 0 1 rfl rfl (by decide); have ne_g7_g8 := ne_g8_g7.symm))
  (try simp only [Act.put, List.setIfInBounds_toArray, List.set_cons_zero, List.set_cons_succ])
  replace H := ((((((((H.setn [_] 0 (.bool (ng n)) rfl).setn [_] 1 (.slice A10 (ln n) c11) rfl).setn [_] 2 (.bool (ng d)) rfl).setn [_] 3 (.slice A12 (ln d) c13) rfl).setn [] 0 (.bool (ng p)) rfl).setn [] 1 (.slice A14 (ln p) c15) rfl).setn [] 2 (.bool (ng q)) rfl).setn [] 3 (.slice A16 (ln q) c17) rfl)
  clear k8_0 z8_0 k8_1 z8_1 k8_2 z8_2 k8_3 z8_3 k7_0 z7_0 k7_1 z7_1 k7_2 z7_2 k7_3 z7_3
  generalize ((((((((w21.setCell ⟨g7, 0, none⟩ (.bool (ng n))).setCell ⟨g7, 1, none⟩ (.slice A10 (ln n) c11)).setCell ⟨g7, 2, none⟩ (.bool (ng d))).setCell ⟨g7, 3, none⟩ (.slice A12 (ln d) c13)).setCell ⟨g8, 0, none⟩ (.bool (ng p))).setCell ⟨g8, 1, none⟩ (.slice A14 (ln p) c15)).setCell ⟨g8, 2, none⟩ (.bool (ng q))).setCell ⟨g8, 3, none⟩ (.slice A16 (ln q) c17)) = w23 at H ⊢
  obtain ⟨k8_0, z8_0, k8_1, z8_1, k8_2, z8_2, k8_3, z8_3⟩ := H.b4 (g := g8) m0
  obtain ⟨k7_0, z7_0, k7_1, z7_1, k7_2, z7_2, k7_3, z7_3⟩ := H.b4 (g := g7) m1
  have st29 := trivial
  have st31 := trivial
  go_upto_region 7 with (first
    | (clear st29; go_at_call 49; (with_reducible refine (ParseR c _ u v er hC.out).mono ?_); rintro e w24 ⟨A25, c26, A27, c28, rfl, hr, hr2, hb⟩; replace H := (H.got (fresh_row hr) hb).more ((H.got (fresh_row hr2) hb).row _ m0); clear hr hr2 hb; clear k8_0 z8_0 k8_1 z8_1 k8_2 z8_2 k8_3 z8_3 k7_0 z7_0 k7_1 z7_1 k7_2 z7_2 k7_3 z7_3; obtain ⟨k8_0, z8_0, k8_1, z8_1, k8_2, z8_2, k8_3, z8_3⟩ := H.b4 (g := g8) m0; obtain ⟨k7_0, z7_0, k7_1, z7_1, k7_2, z7_2, k7_3, z7_3⟩ := H.b4 (g := g7) m1)
    | (clear st31; (with_reducible refine gate_dst (N := 10) rfl ?_); refine box_event ?hg (N := 10) ?hd (cs := #[.bool false, .slice none 0 0, .bool false, .slice none 0 0]) (t := 51) ?hr ?_; (case hd => rfl); (case hg => rfl); (case hr => go_simp; try rfl); intro g10 hg w30 hbox hb; replace H := H.newbox hg hbox hb; clear hg hbox hb; clear k8_0 z8_0 k8_1 z8_1 k8_2 z8_2 k8_3 z8_3 k7_0 z7_0 k7_1 z7_1 k7_2 z7_2 k7_3 z7_3; obtain ⟨k10_0, z10_0, k10_1, z10_1, k10_2, z10_2, k10_3, z10_3⟩ := H.b4 (g := g10) m0; obtain ⟨k8_0, z8_0, k8_1, z8_1, k8_2, z8_2, k8_3, z8_3⟩ := H.b4 (g := g8) m1; obtain ⟨k7_0, z7_0, k7_1, z7_1, k7_2, z7_2, k7_3, z7_3⟩ := H.b4 (g := g7) m2; have ne_g10_g8 := H.ne (g := g10) (g' := g8) 0 1 rfl rfl (by decide); have ne_g8_g10 := ne_g10_g8.symm; have ne_g10_g7 := H.ne (g := g10) (g' := g7) 0 2 rfl rfl (by decide); have ne_g7_g10 := ne_g10_g7.symm))
  (try simp only [Act.put, List.setIfInBounds_toArray, List.set_cons_zero, List.set_cons_succ])
  replace H := H.set4 [] (.bool (ng u)) (.slice A25 (ln u) c26) (.bool (ng v)) (.slice A27 (ln v) c28)
  clear k10_0 z10_0 k10_1 z10_1 k10_2 z10_2 k10_3 z10_3 k8_0 z8_0 k8_1 z8_1 k8_2 z8_2 k8_3 z8_3 k7_0 z7_0 k7_1 z7_1 k7_2 z7_2 k7_3 z7_3
  generalize ((((w30.setCell ⟨g10, 0, none⟩ (.bool (ng u))).setCell ⟨g10, 1, none⟩ (.slice A25 (ln u) c26)).setCell ⟨g10, 2, none⟩ (.bool (ng v))).setCell ⟨g10, 3, none⟩ (.slice A27 (ln v) c28)) = w32 at H ⊢
  obtain ⟨k10_0, z10_0, k10_1, z10_1, k10_2, z10_2, k10_3, z10_3⟩ := H.b4 (g := g10) m0
  obtain ⟨k8_0, z8_0, k8_1, z8_1, k8_2, z8_2, k8_3, z8_3⟩ := H.b4 (g := g8) m1
  obtain ⟨k7_0, z7_0, k7_1, z7_1, k7_2, z7_2, k7_3, z7_3⟩ := H.b4 (g := g7) m2
  go_wp2
  go_ret
  exact ⟨rfl, H.below⟩

theorem fld_e (a b c : ByteArray) (w : World) (hla : Aside0 (decide (200 < (a.size : Int)) = false)) (hlb : Aside0 (decide (200 < (b.size : Int)) = false)) (hlc : Aside0 (decide (200 < (c.size : Int)) = false)) (n d p q u v er : Int) (hAB : Aside0 (∀ w, Calls Try.prog 67 #[.string a, .string b] w (RetTwoR w n d p q true))) (hC : Aside0 (rp c = (u, v, er))) (t1 : (er != 0) = true) : Calls Try.prog 21 #[.string a, .string b, .string c] w (fun e W' => e = .returned (.bool true) ∧ Below w.heap.size w W') := by
  have hu25 := Try.underlying25
  have hu51 := Try.underlying51
  have H := Sit.start w (fun _ => False)
  go_enter Try.func21, Try.ntmps21
  have st2 := trivial
  have st4 := trivial
  have st6 := trivial
  have st8 := trivial
  have st18 := trivial
  have st20 := trivial
  have st22 := trivial
  go_upto_region 6 with (first
    | (clear st2; go_at_call 38; (with_reducible refine (awake2 _).mono ?_); rintro e wA ⟨rfl, hb⟩; replace H := H.call hb; clear hb)
    | (clear st4; go_at_call 50; (with_reducible refine (LongR a _ false hla.out).mono ?_); rintro e w3 ⟨rfl, hb⟩; replace H := H.call hb; clear hb)
    | (clear st6; go_at_call 50; (with_reducible refine (LongR b _ false hlb.out).mono ?_); rintro e w5 ⟨rfl, hb⟩; replace H := H.call hb; clear hb)
    | (clear st8; go_at_call 50; (with_reducible refine (LongR c _ false hlc.out).mono ?_); rintro e w7 ⟨rfl, hb⟩; replace H := H.call hb; clear hb)
    | (clear st18; go_at_call 67; (with_reducible refine (hAB.out _).mono ?_); rintro e w9 ⟨A10, c11, A12, c13, A14, c15, A16, c17, rfl, hr, hr2, hr3, hr4, hb⟩; replace H := (((H.got (fresh_row hr) hb).more ((H.got (fresh_row hr2) hb).row _ m0)).more ((H.got (fresh_row hr3) hb).row _ m0)).more ((H.got (fresh_row hr4) hb).row _ m0); clear hr hr2 hr3 hr4 hb)
    | (clear st20; (with_reducible refine gate_dst (N := 7) rfl ?_); refine box_event ?hg (N := 7) ?hd (cs := #[.bool false, .slice none 0 0, .bool false, .slice none 0 0]) (t := 51) ?hr ?_; (case hd => rfl); (case hg => rfl); (case hr => go_simp; try rfl); intro g7 hg w19 hbox hb; replace H := H.newbox hg hbox hb; clear hg hbox hb; obtain ⟨k7_0, z7_0, k7_1, z7_1, k7_2, z7_2, k7_3, z7_3⟩ := H.b4 (g := g7) m0)
    | (clear st22; (with_reducible refine gate_dst (N := 8) rfl ?_); refine box_event ?hg (N := 8) ?hd (cs := #[.bool false, .slice none 0 0, .bool false, .slice none 0 0]) (t := 51) ?hr ?_; (case hd => rfl); (case hg => rfl); (case hr => go_simp; try rfl); intro g8 hg w21 hbox hb; replace H := H.newbox hg hbox hb; clear hg hbox hb; clear k7_0 z7_0 k7_1 z7_1 k7_2 z7_2 k7_3 z7_3; obtain ⟨k8_0, z8_0, k8_1, z8_1, k8_2, z8_2, k8_3, z8_3⟩ := H.b4 (g := g8) m0; obtain ⟨k7_0, z7_0, k7_1, z7_1, k7_2, z7_2, k7_3, z7_3⟩ := H.b4 (g := g7) m1; have ne_g8_g7 := H.ne (g := g8) (g' := g7) 0 1 rfl rfl (by decide); have ne_g7_g8 := ne_g8_g7.symm))
  (try simp only [Act.put, List.setIfInBounds_toArray, List.set_cons_zero, List.set_cons_succ])
  replace H := ((((((((H.setn [_] 0 (.bool (ng n)) rfl).setn [_] 1 (.slice A10 (ln n) c11) rfl).setn [_] 2 (.bool (ng d)) rfl).setn [_] 3 (.slice A12 (ln d) c13) rfl).setn [] 0 (.bool (ng p)) rfl).setn [] 1 (.slice A14 (ln p) c15) rfl).setn [] 2 (.bool (ng q)) rfl).setn [] 3 (.slice A16 (ln q) c17) rfl)
  clear k8_0 z8_0 k8_1 z8_1 k8_2 z8_2 k8_3 z8_3 k7_0 z7_0 k7_1 z7_1 k7_2 z7_2 k7_3 z7_3
  generalize ((((((((w21.setCell ⟨g7, 0, none⟩ (.bool (ng n))).setCell ⟨g7, 1, none⟩ (.slice A10 (ln n) c11)).setCell ⟨g7, 2, none⟩ (.bool (ng d))).setCell ⟨g7, 3, none⟩ (.slice A12 (ln d) c13)).setCell ⟨g8, 0, none⟩ (.bool (ng p))).setCell ⟨g8, 1, none⟩ (.slice A14 (ln p) c15)).setCell ⟨g8, 2, none⟩ (.bool (ng q))).setCell ⟨g8, 3, none⟩ (.slice A16 (ln q) c17)) = w23 at H ⊢
  obtain ⟨k8_0, z8_0, k8_1, z8_1, k8_2, z8_2, k8_3, z8_3⟩ := H.b4 (g := g8) m0
  obtain ⟨k7_0, z7_0, k7_1, z7_1, k7_2, z7_2, k7_3, z7_3⟩ := H.b4 (g := g7) m1
  have st29 := trivial
  have st31 := trivial
  go_upto_region 7 with (first
    | (clear st29; go_at_call 49; (with_reducible refine (ParseR c _ u v er hC.out).mono ?_); rintro e w24 ⟨A25, c26, A27, c28, rfl, hr, hr2, hb⟩; replace H := (H.got (fresh_row hr) hb).more ((H.got (fresh_row hr2) hb).row _ m0); clear hr hr2 hb; clear k8_0 z8_0 k8_1 z8_1 k8_2 z8_2 k8_3 z8_3 k7_0 z7_0 k7_1 z7_1 k7_2 z7_2 k7_3 z7_3; obtain ⟨k8_0, z8_0, k8_1, z8_1, k8_2, z8_2, k8_3, z8_3⟩ := H.b4 (g := g8) m0; obtain ⟨k7_0, z7_0, k7_1, z7_1, k7_2, z7_2, k7_3, z7_3⟩ := H.b4 (g := g7) m1)
    | (clear st31; (with_reducible refine gate_dst (N := 10) rfl ?_); refine box_event ?hg (N := 10) ?hd (cs := #[.bool false, .slice none 0 0, .bool false, .slice none 0 0]) (t := 51) ?hr ?_; (case hd => rfl); (case hg => rfl); (case hr => go_simp; try rfl); intro g10 hg w30 hbox hb; replace H := H.newbox hg hbox hb; clear hg hbox hb; clear k8_0 z8_0 k8_1 z8_1 k8_2 z8_2 k8_3 z8_3 k7_0 z7_0 k7_1 z7_1 k7_2 z7_2 k7_3 z7_3; obtain ⟨k10_0, z10_0, k10_1, z10_1, k10_2, z10_2, k10_3, z10_3⟩ := H.b4 (g := g10) m0; obtain ⟨k8_0, z8_0, k8_1, z8_1, k8_2, z8_2, k8_3, z8_3⟩ := H.b4 (g := g8) m1; obtain ⟨k7_0, z7_0, k7_1, z7_1, k7_2, z7_2, k7_3, z7_3⟩ := H.b4 (g := g7) m2; have ne_g10_g8 := H.ne (g := g10) (g' := g8) 0 1 rfl rfl (by decide); have ne_g8_g10 := ne_g10_g8.symm; have ne_g10_g7 := H.ne (g := g10) (g' := g7) 0 2 rfl rfl (by decide); have ne_g7_g10 := ne_g10_g7.symm))
  (try simp only [Act.put, List.setIfInBounds_toArray, List.set_cons_zero, List.set_cons_succ])
  replace H := H.set4 [] (.bool (ng u)) (.slice A25 (ln u) c26) (.bool (ng v)) (.slice A27 (ln v) c28)
  clear k10_0 z10_0 k10_1 z10_1 k10_2 z10_2 k10_3 z10_3 k8_0 z8_0 k8_1 z8_1 k8_2 z8_2 k8_3 z8_3 k7_0 z7_0 k7_1 z7_1 k7_2 z7_2 k7_3 z7_3
  generalize ((((w30.setCell ⟨g10, 0, none⟩ (.bool (ng u))).setCell ⟨g10, 1, none⟩ (.slice A25 (ln u) c26)).setCell ⟨g10, 2, none⟩ (.bool (ng v))).setCell ⟨g10, 3, none⟩ (.slice A27 (ln v) c28)) = w32 at H ⊢
  obtain ⟨k10_0, z10_0, k10_1, z10_1, k10_2, z10_2, k10_3, z10_3⟩ := H.b4 (g := g10) m0
  obtain ⟨k8_0, z8_0, k8_1, z8_1, k8_2, z8_2, k8_3, z8_3⟩ := H.b4 (g := g8) m1
  obtain ⟨k7_0, z7_0, k7_1, z7_1, k7_2, z7_2, k7_3, z7_3⟩ := H.b4 (g := g7) m2
  go_wp2
  go_ret
  exact ⟨rfl, H.below⟩

def tb21.T9 : Bool × List (List Nat × List Nat) := (true, [([], []), ([], []), ([0, 1], [0, 1]), ([], []), ([], []), ([3, 4, 2], [3, 4]), ([2, 5, 5], [2, 5]), ([6], [6]), ([7, 6], [7]), ([8], [8]), ([8], [8]), ([9, 10, 8, 8], [8, 9, 10]), ([8], [8]), ([8], [8]), ([12, 13, 11, 8], [8, 12, 13]), ([11, 14, 14, 8], [8, 11, 14]), ([15, 8], [8, 15]), ([8, 16], [8, 16]), ([17, 15], [17]), ([18], [18]), ([18], [18]), ([19, 20, 18, 18], [18, 19, 20]), ([18], [18]), ([21, 22, 21, 18], [18, 21, 22]), ([18], [18]), ([18], [18]), ([18], [18]), ([25, 26, 23, 18], [18, 25, 26]), ([24, 27, 27, 18], [18, 24, 27]), ([23, 28, 28, 18], [18, 23, 28]), ([29, 18], [18, 29]), ([18, 30], [18, 30]), ([31, 29], [31]), ([32], [32]), ([32], [32]), ([33, 34, 32, 32], [32, 33, 34]), ([32], [32]), ([35, 36, 35, 32], [32, 35, 36]), ([32], [32]), ([32], [32]), ([32], [32]), ([39, 40, 37, 32], [32, 39, 40]), ([38, 41, 41, 32], [32, 38, 41]), ([37, 42, 42, 32], [32, 37, 42]), ([43, 32], [32, 43]), ([32, 44], [32, 44]), ([45, 43], [45]), ([46], [46]), ([46], [46]), ([46], [46]), ([48, 49, 46, 46], [46, 48, 49]), ([47, 50, 50, 46], [46, 47, 50]), ([46], [46]), ([46], [46]), ([52, 53, 51, 46], [46, 52, 53]), ([46], [46]), ([46], [46]), ([55, 56, 54, 46], [46, 55, 56]), ([54, 57, 57, 46], [46, 54, 57]), ([51, 58, 58, 46], [46, 51, 58]), ([59, 46], [46, 59]), ([46, 60], [46, 60])])
def tb21.B9 : List Nat := [0, 0, 3, 0, 0, 31, 63, 127, 255, 511, 511, 2047, 511, 511, 16383, 32767, 65535, 131071, 262143, 524287, 524287, 2097151, 524287, 8388607, 524287, 524287, 524287, 117440511, 268435455, 536870911, 1073741823, 2147483647, 4294967295, 8589934591, 8589934591, 34359738367, 8589934591, 137438953471, 8589934591, 8589934591, 8589934591, 1924145348607, 4398046511103, 8796093022207, 17592186044415, 35184372088831, 70368744177663, 140737488355327, 140737488355327, 140737488355327, 985162418487295, 2251799813685247, 140737488355327, 140737488355327, 18014398509481983, 140737488355327, 140737488355327, 144115188075855871, 288230376151711743, 576460752303423487, 1152921504606846975, 2305843009213693951]
theorem tb21.tab9 : rtab .any (opsOf Try.f21 9) = tb21.T9 := by kernel_rfl
theorem tb21.bits9 : waitsOk tb21.T9.2 tb21.B9 = true := by kernel_rfl
def tb21.T11 : Bool × List (List Nat × List Nat) := (true, [([], []), ([], []), ([0, 1, 1], [0, 1]), ([], []), ([2, 3, 2], [2, 3]), ([4], [4]), ([5, 4], [5]), ([6], [6]), ([6, 6], [6]), ([7, 8, 8, 6], [6, 7, 8]), ([6], [6]), ([9, 10, 9, 6], [6, 9, 10]), ([11, 6], [6, 11]), ([6, 12], [6, 12]), ([13, 11], [13]), ([14], [14]), ([14], [14]), ([16, 14, 14], [14, 16]), ([15, 17, 17, 14], [14, 15, 17]), ([18, 18, 14], [14, 18]), ([19, 14], [14, 19]), ([14, 20], [14, 20]), ([21, 19], [21]), ([22], [22]), ([22], [22]), ([23, 24, 22, 22], [22, 23, 24]), ([22], [22]), ([22], [22]), ([27, 25, 22], [22, 27]), ([26, 28, 28, 22], [22, 26, 28]), ([25, 29, 29, 22], [22, 25, 29]), ([30, 22], [22, 30]), ([22, 31], [22, 31])])
def tb21.B11 : List Nat := [0, 0, 3, 0, 15, 31, 63, 127, 127, 511, 127, 2047, 4095, 8191, 16383, 32767, 32767, 98303, 262143, 524287, 1048575, 2097151, 4194303, 8388607, 8388607, 33554431, 8388607, 8388607, 201326591, 536870911, 1073741823, 2147483647, 4294967295]
theorem tb21.tab11 : rtab .any (opsOf Try.f21 11) = tb21.T11 := by kernel_rfl
theorem tb21.bits11 : waitsOk tb21.T11.2 tb21.B11 = true := by kernel_rfl
def tb21.T16 : Bool × List (List Nat × List Nat) := (true, [([], []), ([], []), ([0, 1, 0], [0, 1]), ([2], [2]), ([3], [3]), ([3], [3]), ([], []), ([6, 4, 2, 0, 1, 2, 3, 4, 6], [4, 6]), ([5, 7, 0, 1, 2, 3, 4, 5, 6, 7], [5])])
def tb21.B16 : List Nat := [0, 0, 3, 7, 15, 15, 0, 95, 255]
theorem tb21.tab16 : rtab .any (opsOf Try.f21 16) = tb21.T16 := by kernel_rfl
theorem tb21.bits16 : waitsOk tb21.T16.2 tb21.B16 = true := by kernel_rfl
def tb21.T17 : Bool × List (List Nat × List Nat) := (true, [([], []), ([0], [0]), ([1], [1]), ([2], [2]), ([3, 2], [2, 3]), ([2, 4], [2, 4]), ([5, 2], [5]), ([6], [6]), ([6], [6]), ([7, 8, 6, 6], [6, 7, 8]), ([6], [6]), ([9, 10, 9, 6], [6, 9, 10]), ([6, 11], [6, 11]), ([12, 11], [12]), ([13], [13]), ([13], [13]), ([13], [13]), ([15, 16, 13, 13], [13, 15, 16]), ([14, 17, 17, 13], [13, 14, 17]), ([13, 18], [13, 18]), ([19, 18, 0, 1, 2, 3, 4, 5, 6, 7, 8, 9, 10, 11, 12, 13, 14, 15, 16, 17, 18, 19], [19])])
def tb21.B17 : List Nat := [0, 1, 3, 7, 15, 31, 63, 127, 127, 511, 127, 2047, 4095, 8191, 16383, 16383, 16383, 114687, 262143, 524287, 1048575]
theorem tb21.tab17 : rtab .any (opsOf Try.f21 17) = tb21.T17 := by kernel_rfl
theorem tb21.bits17 : waitsOk tb21.T17.2 tb21.B17 = true := by kernel_rfl

theorem fld_t (a b c : ByteArray) (w : World) (hla : Aside0 (decide (200 < (a.size : Int)) = false)) (hlb : Aside0 (decide (200 < (b.size : Int)) = false)) (hlc : Aside0 (decide (200 < (c.size : Int)) = false)) (n d p q u v : Int) (bn : Aside0 (ln n ≤ 512)) (bd : Aside0 (ln d ≤ 512)) (bp : Aside0 (ln p ≤ 512)) (bq : Aside0 (ln q ≤ 512)) (bu : Aside0 (ln u ≤ 512)) (bv : Aside0 (ln v ≤ 512)) (hAB : Aside0 (∀ w, Calls Try.prog 67 #[.string a, .string b] w (RetTwoR w n d p q true))) (hC : Aside0 (rp c = (u, v, 0))) (x1 y1 x2 y2 x3 y3 x4 y4 x6 y6 x7 y7 x8 y8 x10 y10 x11 y11 x12 y12 x14 y14 x16 y16 x17 y17 x19 y19 x20 y20 x18 y18 x21 y21 x22 y22 x23 y23 x24 y24 x25 y25 x26 y26 x30 y30 x31 y31 x32 y32 x33 y33 sy : Int) (bx1 : Aside0 (ln x1 ≤ 20000)) (by1 : Aside0 (ln y1 ≤ 20000)) (bx2 : Aside0 (ln x2 ≤ 20000)) (by2 : Aside0 (ln y2 ≤ 20000)) (bx3 : Aside0 (ln x3 ≤ 20000)) (by3 : Aside0 (ln y3 ≤ 20000)) (bx4 : Aside0 (ln x4 ≤ 20000)) (by4 : Aside0 (ln y4 ≤ 20000)) (bx6 : Aside0 (ln x6 ≤ 20000)) (by6 : Aside0 (ln y6 ≤ 20000)) (bx7 : Aside0 (ln x7 ≤ 20000)) (by7 : Aside0 (ln y7 ≤ 20000)) (bx8 : Aside0 (ln x8 ≤ 20000)) (by8 : Aside0 (ln y8 ≤ 20000)) (bx10 : Aside0 (ln x10 ≤ 20000)) (by10 : Aside0 (ln y10 ≤ 20000)) (bx11 : Aside0 (ln x11 ≤ 20000)) (by11 : Aside0 (ln y11 ≤ 20000)) (bx12 : Aside0 (ln x12 ≤ 20000)) (by12 : Aside0 (ln y12 ≤ 20000)) (bx14 : Aside0 (ln x14 ≤ 20000)) (by14 : Aside0 (ln y14 ≤ 20000)) (bx16 : Aside0 (ln x16 ≤ 20000)) (by16 : Aside0 (ln y16 ≤ 20000)) (bx17 : Aside0 (ln x17 ≤ 20000)) (by17 : Aside0 (ln y17 ≤ 20000)) (bx19 : Aside0 (ln x19 ≤ 20000)) (by19 : Aside0 (ln y19 ≤ 20000)) (bx20 : Aside0 (ln x20 ≤ 20000)) (by20 : Aside0 (ln y20 ≤ 20000)) (bx18 : Aside0 (ln x18 ≤ 20000)) (by18 : Aside0 (ln y18 ≤ 20000)) (bx21 : Aside0 (ln x21 ≤ 20000)) (by21 : Aside0 (ln y21 ≤ 20000)) (bx22 : Aside0 (ln x22 ≤ 20000)) (by22 : Aside0 (ln y22 ≤ 20000)) (bx23 : Aside0 (ln x23 ≤ 20000)) (by23 : Aside0 (ln y23 ≤ 20000)) (bx24 : Aside0 (ln x24 ≤ 20000)) (by24 : Aside0 (ln y24 ≤ 20000)) (bx25 : Aside0 (ln x25 ≤ 20000)) (by25 : Aside0 (ln y25 ≤ 20000)) (bx26 : Aside0 (ln x26 ≤ 20000)) (by26 : Aside0 (ln y26 ≤ 20000)) (bx30 : Aside0 (ln x30 ≤ 20000)) (by30 : Aside0 (ln y30 ≤ 20000)) (bx31 : Aside0 (ln x31 ≤ 20000)) (by31 : Aside0 (ln y31 ≤ 20000)) (bx32 : Aside0 (ln x32 ≤ 20000)) (by32 : Aside0 (ln y32 ≤ 20000)) (bx33 : Aside0 (ln x33 ≤ 20000)) (by33 : Aside0 (ln y33 ≤ 20000))
    (hv1 : Aside0 (qn (n * dd q + p * dd d) (dd d * dd q) = x1 ∧ qd (n * dd q + p * dd d) (dd d * dd q) = y1))
    (hv2 : Aside0 (qn (p * dd d + n * dd q) (dd q * dd d) = x2 ∧ qd (p * dd d + n * dd q) (dd q * dd d) = y2))
    (eV1_V2 : Aside0 (x1 = x2 ∧ y1 = y2))
    (hv3 : Aside0 (qn (n * p) (dd d * dd q) = x3 ∧ qd (n * p) (dd d * dd q) = y3))
    (hv4 : Aside0 (qn (p * n) (dd q * dd d) = x4 ∧ qd (p * n) (dd q * dd d) = y4))
    (eV3_V4 : Aside0 (x3 = x4 ∧ y3 = y4))
    (hv6 : Aside0 (qn (x1 * dd v + u * dd y1) (dd y1 * dd v) = x6 ∧ qd (x1 * dd v + u * dd y1) (dd y1 * dd v) = y6))
    (hv7 : Aside0 (qn (p * dd v + u * dd q) (dd q * dd v) = x7 ∧ qd (p * dd v + u * dd q) (dd q * dd v) = y7))
    (hv8 : Aside0 (qn (n * dd y7 + x7 * dd d) (dd d * dd y7) = x8 ∧ qd (n * dd y7 + x7 * dd d) (dd d * dd y7) = y8))
    (eV6_V8 : Aside0 (x6 = x8 ∧ y6 = y8))
    (hv10 : Aside0 (qn (x3 * u) (dd y3 * dd v) = x10 ∧ qd (x3 * u) (dd y3 * dd v) = y10))
    (hv11 : Aside0 (qn (p * u) (dd q * dd v) = x11 ∧ qd (p * u) (dd q * dd v) = y11))
    (hv12 : Aside0 (qn (n * x11) (dd d * dd y11) = x12 ∧ qd (n * x11) (dd d * dd y11) = y12))
    (eV10_V12 : Aside0 (x10 = x12 ∧ y10 = y12))
    (hv14 : Aside0 (qn (n * x7) (dd d * dd y7) = x14 ∧ qd (n * x7) (dd d * dd y7) = y14))
    (hv16 : Aside0 (qn (n * u) (dd d * dd v) = x16 ∧ qd (n * u) (dd d * dd v) = y16))
    (hv17 : Aside0 (qn (x3 * dd y16 + x16 * dd y3) (dd y3 * dd y16) = x17 ∧ qd (x3 * dd y16 + x16 * dd y3) (dd y3 * dd y16) = y17))
    (eV14_V17 : Aside0 (x14 = x17 ∧ y14 = y17))
    (hv19 : Aside0 ((0 : Int) = x19 ∧ 0 = y19 ∧ -9223372036854775808 ≤ (0 : Int) ∧ (0 : Int) ≤ 9223372036854775807))
    (hv20 : Aside0 (qn (n * dd y19 + x19 * dd d) (dd d * dd y19) = x20 ∧ qd (n * dd y19 + x19 * dd d) (dd d * dd y19) = y20))
    (eV20_x : Aside0 (x20 = n ∧ y20 = d))
    (hv18 : Aside0 ((1 : Int) = x18 ∧ 0 = y18 ∧ -9223372036854775808 ≤ (1 : Int) ∧ (1 : Int) ≤ 9223372036854775807))
    (hv21 : Aside0 (qn (n * x18) (dd d * dd y18) = x21 ∧ qd (n * x18) (dd d * dd y18) = y21))
    (eV21_x : Aside0 (x21 = n ∧ y21 = d))
    (hv22 : Aside0 (-n = x22 ∧ d = y22))
    (hv23 : Aside0 (qn (n * dd y22 + x22 * dd d) (dd d * dd y22) = x23 ∧ qd (n * dd y22 + x22 * dd d) (dd d * dd y22) = y23))
    (hv24 : Aside0 (qn (n * dd q + -p * dd d) (dd d * dd q) = x24 ∧ qd (n * dd q + -p * dd d) (dd d * dd q) = y24))
    (hv25 : Aside0 (-p = x25 ∧ q = y25))
    (hv26 : Aside0 (qn (n * dd y25 + x25 * dd d) (dd d * dd y25) = x26 ∧ qd (n * dd y25 + x25 * dd d) (dd d * dd y25) = y26))
    (eV24_V26 : Aside0 (x24 = x26 ∧ y24 = y26))
    (hsg : Aside0 (sg x23 = 0))
    (hsy : Aside0 (sg p = sy))
    (hv30 : Aside0 ((sy == 0) = false → qn (n * dd q) (dd d * p) = x30 ∧ qd (n * dd q) (dd d * p) = y30 ∧ qe (dd d * p) = 0))
    (hv31 : Aside0 ((sy == 0) = false → qn (x18 * dd q) (dd y18 * p) = x31 ∧ qd (x18 * dd q) (dd y18 * p) = y31 ∧ qe (dd y18 * p) = 0))
    (hv32 : Aside0 (qn (x30 * p) (dd y30 * dd q) = x32 ∧ qd (x30 * p) (dd y30 * dd q) = y32))
    (eV32_x : Aside0 ((sy == 0) = false → x32 = n ∧ y32 = d))
    (hv33 : Aside0 (qn (n * x31) (dd d * dd y31) = x33 ∧ qd (n * x31) (dd d * dd y31) = y33))
    (eV30_V33 : Aside0 ((sy == 0) = false → x30 = x33 ∧ y30 = y33)) : Calls Try.prog 21 #[.string a, .string b, .string c] w (fun e W' => e = .returned (.bool true) ∧ Below w.heap.size w W') := by
  have hu25 := Try.underlying25
  have hu51 := Try.underlying51
  have H := Sit.start w (fun _ => False)
  go_enter Try.func21, Try.ntmps21
  have st2 := trivial
  have st4 := trivial
  have st6 := trivial
  have st8 := trivial
  have st18 := trivial
  have st20 := trivial
  have st22 := trivial
  go_upto_region 6 with (first
    | (clear st2; go_at_call 38; (with_reducible refine (awake2 _).mono ?_); rintro e wA ⟨rfl, hb⟩; replace H := H.call hb; clear hb)
    | (clear st4; go_at_call 50; (with_reducible refine (LongR a _ false hla.out).mono ?_); rintro e w3 ⟨rfl, hb⟩; replace H := H.call hb; clear hb)
    | (clear st6; go_at_call 50; (with_reducible refine (LongR b _ false hlb.out).mono ?_); rintro e w5 ⟨rfl, hb⟩; replace H := H.call hb; clear hb)
    | (clear st8; go_at_call 50; (with_reducible refine (LongR c _ false hlc.out).mono ?_); rintro e w7 ⟨rfl, hb⟩; replace H := H.call hb; clear hb)
    | (clear st18; go_at_call 67; (with_reducible refine (hAB.out _).mono ?_); rintro e w9 ⟨A10, c11, A12, c13, A14, c15, A16, c17, rfl, hr, hr2, hr3, hr4, hb⟩; replace H := (((H.got (fresh_row hr) hb).more ((H.got (fresh_row hr2) hb).row _ m0)).more ((H.got (fresh_row hr3) hb).row _ m0)).more ((H.got (fresh_row hr4) hb).row _ m0); clear hr hr2 hr3 hr4 hb)
    | (clear st20; (with_reducible refine gate_dst (N := 7) rfl ?_); refine box_event ?hg (N := 7) ?hd (cs := #[.bool false, .slice none 0 0, .bool false, .slice none 0 0]) (t := 51) ?hr ?_; (case hd => rfl); (case hg => rfl); (case hr => go_simp; try rfl); intro g7 hg w19 hbox hb; replace H := H.newbox hg hbox hb; clear hg hbox hb; obtain ⟨k7_0, z7_0, k7_1, z7_1, k7_2, z7_2, k7_3, z7_3⟩ := H.b4 (g := g7) m0)
    | (clear st22; (with_reducible refine gate_dst (N := 8) rfl ?_); refine box_event ?hg (N := 8) ?hd (cs := #[.bool false, .slice none 0 0, .bool false, .slice none 0 0]) (t := 51) ?hr ?_; (case hd => rfl); (case hg => rfl); (case hr => go_simp; try rfl); intro g8 hg w21 hbox hb; replace H := H.newbox hg hbox hb; clear hg hbox hb; clear k7_0 z7_0 k7_1 z7_1 k7_2 z7_2 k7_3 z7_3; obtain ⟨k8_0, z8_0, k8_1, z8_1, k8_2, z8_2, k8_3, z8_3⟩ := H.b4 (g := g8) m0; obtain ⟨k7_0, z7_0, k7_1, z7_1, k7_2, z7_2, k7_3, z7_3⟩ := H.b4 (g := g7) m1; have ne_g8_g7 := H.ne (g := g8) (g' := g7) 0 1 rfl rfl (by decide); have ne_g7_g8 := ne_g8_g7.symm))
  (try simp only [Act.put, List.setIfInBounds_toArray, List.set_cons_zero, List.set_cons_succ])
  replace H := ((((((((H.setn [_] 0 (.bool (ng n)) rfl).setn [_] 1 (.slice A10 (ln n) c11) rfl).setn [_] 2 (.bool (ng d)) rfl).setn [_] 3 (.slice A12 (ln d) c13) rfl).setn [] 0 (.bool (ng p)) rfl).setn [] 1 (.slice A14 (ln p) c15) rfl).setn [] 2 (.bool (ng q)) rfl).setn [] 3 (.slice A16 (ln q) c17) rfl)
  clear k8_0 z8_0 k8_1 z8_1 k8_2 z8_2 k8_3 z8_3 k7_0 z7_0 k7_1 z7_1 k7_2 z7_2 k7_3 z7_3
  generalize ((((((((w21.setCell ⟨g7, 0, none⟩ (.bool (ng n))).setCell ⟨g7, 1, none⟩ (.slice A10 (ln n) c11)).setCell ⟨g7, 2, none⟩ (.bool (ng d))).setCell ⟨g7, 3, none⟩ (.slice A12 (ln d) c13)).setCell ⟨g8, 0, none⟩ (.bool (ng p))).setCell ⟨g8, 1, none⟩ (.slice A14 (ln p) c15)).setCell ⟨g8, 2, none⟩ (.bool (ng q))).setCell ⟨g8, 3, none⟩ (.slice A16 (ln q) c17)) = w23 at H ⊢
  obtain ⟨k8_0, z8_0, k8_1, z8_1, k8_2, z8_2, k8_3, z8_3⟩ := H.b4 (g := g8) m0
  obtain ⟨k7_0, z7_0, k7_1, z7_1, k7_2, z7_2, k7_3, z7_3⟩ := H.b4 (g := g7) m1
  have st29 := trivial
  have st31 := trivial
  go_upto_region 7 with (first
    | (clear st29; go_at_call 49; (with_reducible refine (ParseR c _ u v 0 hC.out).mono ?_); rintro e w24 ⟨A25, c26, A27, c28, rfl, hr, hr2, hb⟩; replace H := (H.got (fresh_row hr) hb).more ((H.got (fresh_row hr2) hb).row _ m0); clear hr hr2 hb; clear k8_0 z8_0 k8_1 z8_1 k8_2 z8_2 k8_3 z8_3 k7_0 z7_0 k7_1 z7_1 k7_2 z7_2 k7_3 z7_3; obtain ⟨k8_0, z8_0, k8_1, z8_1, k8_2, z8_2, k8_3, z8_3⟩ := H.b4 (g := g8) m0; obtain ⟨k7_0, z7_0, k7_1, z7_1, k7_2, z7_2, k7_3, z7_3⟩ := H.b4 (g := g7) m1)
    | (clear st31; (with_reducible refine gate_dst (N := 10) rfl ?_); refine box_event ?hg (N := 10) ?hd (cs := #[.bool false, .slice none 0 0, .bool false, .slice none 0 0]) (t := 51) ?hr ?_; (case hd => rfl); (case hg => rfl); (case hr => go_simp; try rfl); intro g10 hg w30 hbox hb; replace H := H.newbox hg hbox hb; clear hg hbox hb; clear k8_0 z8_0 k8_1 z8_1 k8_2 z8_2 k8_3 z8_3 k7_0 z7_0 k7_1 z7_1 k7_2 z7_2 k7_3 z7_3; obtain ⟨k10_0, z10_0, k10_1, z10_1, k10_2, z10_2, k10_3, z10_3⟩ := H.b4 (g := g10) m0; obtain ⟨k8_0, z8_0, k8_1, z8_1, k8_2, z8_2, k8_3, z8_3⟩ := H.b4 (g := g8) m1; obtain ⟨k7_0, z7_0, k7_1, z7_1, k7_2, z7_2, k7_3, z7_3⟩ := H.b4 (g := g7) m2; have ne_g10_g8 := H.ne (g := g10) (g' := g8) 0 1 rfl rfl (by decide); have ne_g8_g10 := ne_g10_g8.symm; have ne_g10_g7 := H.ne (g := g10) (g' := g7) 0 2 rfl rfl (by decide); have ne_g7_g10 := ne_g10_g7.symm))
  (try simp only [Act.put, List.setIfInBounds_toArray, List.set_cons_zero, List.set_cons_succ])
  replace H := H.set4 [] (.bool (ng u)) (.slice A25 (ln u) c26) (.bool (ng v)) (.slice A27 (ln v) c28)
  clear k10_0 z10_0 k10_1 z10_1 k10_2 z10_2 k10_3 z10_3 k8_0 z8_0 k8_1 z8_1 k8_2 z8_2 k8_3 z8_3 k7_0 z7_0 k7_1 z7_1 k7_2 z7_2 k7_3 z7_3
  generalize ((((w30.setCell ⟨g10, 0, none⟩ (.bool (ng u))).setCell ⟨g10, 1, none⟩ (.slice A25 (ln u) c26)).setCell ⟨g10, 2, none⟩ (.bool (ng v))).setCell ⟨g10, 3, none⟩ (.slice A27 (ln v) c28)) = w32 at H ⊢
  obtain ⟨k10_0, z10_0, k10_1, z10_1, k10_2, z10_2, k10_3, z10_3⟩ := H.b4 (g := g10) m0
  obtain ⟨k8_0, z8_0, k8_1, z8_1, k8_2, z8_2, k8_3, z8_3⟩ := H.b4 (g := g8) m1
  obtain ⟨k7_0, z7_0, k7_1, z7_1, k7_2, z7_2, k7_3, z7_3⟩ := H.b4 (g := g7) m2
  go_upto_region 9 with fail
  (try simp only [Act.put, List.setIfInBounds_toArray, List.set_cons_zero, List.set_cons_succ])
  clear k10_0 z10_0 k10_1 z10_1 k10_2 z10_2 k10_3 z10_3 k8_0 z8_0 k8_1 z8_1 k8_2 z8_2 k8_3 z8_3 k7_0 z7_0 k7_1 z7_1 k7_2 z7_2 k7_3 z7_3
  replace H := H.drew
  refine start_ (n := 62) (S := fun w' => w'.cell? ⟨g7, 0, none⟩ = some (.bool (ng n)) ∧ w'.cell? ⟨g7, 1, none⟩ = some (.slice A10 (ln n) c11) ∧ w'.cell? ⟨g7, 2, none⟩ = some (.bool (ng d)) ∧ w'.cell? ⟨g7, 3, none⟩ = some (.slice A12 (ln d) c13) ∧ w'.cell? ⟨g8, 0, none⟩ = some (.bool (ng p)) ∧ w'.cell? ⟨g8, 1, none⟩ = some (.slice A14 (ln p) c15) ∧ w'.cell? ⟨g8, 2, none⟩ = some (.bool (ng q)) ∧ w'.cell? ⟨g8, 3, none⟩ = some (.slice A16 (ln q) c17) ∧ w'.cell? ⟨g10, 0, none⟩ = some (.bool (ng u)) ∧ w'.cell? ⟨g10, 1, none⟩ = some (.slice A25 (ln u) c26) ∧ w'.cell? ⟨g10, 2, none⟩ = some (.bool (ng v)) ∧ w'.cell? ⟨g10, 3, none⟩ = some (.slice A27 (ln v) c28)) (ds := []) #[false, false, false, false, false, false, false, false, false, false, false, false, false, false, false, false, false, false, false, false, false, false, false, false, false, false, false, false, false, false, false, false, false, false, false, false, false, false, false, false, false, false, false, false, false, false, false, false, false, false, false, false, false, false, false, false, false, false, false, false, false, false] (by kernel_rfl) rfl rfl ⟨H.cell m2 0, H.cell m2 1, H.cell m2 2, H.cell m2 3, H.cell m1 0, H.cell m1 1, H.cell m1 2, H.cell m1 3, H.cell m0 0, H.cell m0 1, H.cell m0 2, H.cell m0 3⟩ (fun hQ => ?_)
  generalize w32.drew = w33 at H hQ ⊢
  refine with_tabW tb21.tab9 tb21.bits9 (fun HT_ HW_ => ?_)
  refine take_ (i := 0) (N := some 46) (v := ?_) (a' := ?_) (bm 62 1) rfl rfl (take_ofW HT_.out HW_.out (by kernel_rfl)) (fun _ _ _ h => h) (Or.inl ⟨by rfl, ?_⟩) hQ ?_ ?_
  rotate_left
  · rintro w' ⟨s0, s1, s2, s3, s4, s5, s6, s7, s8, s9, s10, s11⟩
    go_simp
    with_reducible rfl
  rotate_left
  · simp only [Act.put, List.setIfInBounds_toArray, List.set_cons_zero, List.set_cons_succ, i64_w, i32_w]
    rfl
  refine take_ (i := 1) (N := some 47) (v := ?_) (a' := ?_) (bm 62 3) rfl rfl (take_ofW HT_.out HW_.out (by kernel_rfl)) (fun _ _ _ h => h) (Or.inl ⟨by rfl, ?_⟩) hQ ?_ ?_
  rotate_left
  · rintro w' ⟨s0, s1, s2, s3, s4, s5, s6, s7, s8, s9, s10, s11⟩
    go_simp
    with_reducible rfl
  rotate_left
  · simp only [Act.put, List.setIfInBounds_toArray, List.set_cons_zero, List.set_cons_succ, i64_w, i32_w]
    rfl
  refine take_ (i := 3) (N := some 49) (v := ?_) (a' := ?_) (bm 62 11) rfl rfl (take_ofW HT_.out HW_.out (by kernel_rfl)) (fun _ _ _ h => h) (Or.inl ⟨by rfl, ?_⟩) hQ ?_ ?_
  rotate_left
  · rintro w' ⟨s0, s1, s2, s3, s4, s5, s6, s7, s8, s9, s10, s11⟩
    go_simp
    with_reducible rfl
  rotate_left
  · simp only [Act.put, List.setIfInBounds_toArray, List.set_cons_zero, List.set_cons_succ, i64_w, i32_w]
    rfl
  refine take_ (i := 4) (N := some 50) (v := ?_) (a' := ?_) (bm 62 27) rfl rfl (take_ofW HT_.out HW_.out (by kernel_rfl)) (fun _ _ _ h => h) (Or.inl ⟨by rfl, ?_⟩) hQ ?_ ?_
  rotate_left
  · rintro w' ⟨s0, s1, s2, s3, s4, s5, s6, s7, s8, s9, s10, s11⟩
    go_simp
    with_reducible rfl
  rotate_left
  · simp only [Act.put, List.setIfInBounds_toArray, List.set_cons_zero, List.set_cons_succ, i64_w, i32_w]
    rfl
  refine one_ (i := 2) (N := some 48) (bm 62 31) rfl rfl (one_of HT_.out (by kernel_rfl)) (by decide) (fun K hK => ?_)
  refine goes_ Try.func41 (by kernel_rfl) rfl #[.agg #[.bool (ng n), .slice A10 (ln n) c11, .bool (ng d), .slice A12 (ln d) c13], .agg #[.bool (ng p), .slice A14 (ln p) c15, .bool (ng q), .slice A16 (ln q) c17]] (by rfl) rfl rfl (by simp only [List.map_toArray, List.map_cons, List.map_nil]; try rfl) ?_
  with_reducible refine (AddR (H.row _ m5) (H.row _ m4) (H.row _ m3) (H.row _ m2) (limR bn.out (by decide)) (limR bd.out (by decide)) (limR bp.out (by decide)) (limR bq.out (by decide)) x1 y1 hv1.out).mono ?_
  rintro e w34 ⟨A35, c36, A37, c38, rfl, hr, hr2, hb⟩
  replace H := (H.got hr hb).more ((H.got hr2 hb).row _ m0)
  clear hr hr2 hb
  refine ⟨_, rfl, ?_⟩
  refine hK.out _ _ ⟨H.cell m2 0, H.cell m2 1, H.cell m2 2, H.cell m2 3, H.cell m1 0, H.cell m1 1, H.cell m1 2, H.cell m1 3, H.cell m0 0, H.cell m0 1, H.cell m0 2, H.cell m0 3⟩ (fun hQ => ?_)
  clear hK K
  refine norm_ (a' := ?_) ?_ ?_
  rotate_left
  · show Act.put _ (some 48) _ = _
    simp only [Act.put, List.setIfInBounds_toArray, List.set_cons_zero, List.set_cons_succ, i64_w, i32_w]
    rfl
  refine one_ (i := 5) (N := some 51) (bm 62 63) rfl rfl (one_of HT_.out (by kernel_rfl)) (by decide) (fun K hK => ?_)
  refine goes_ Try.func41 (by kernel_rfl) rfl #[.agg #[.bool (ng p), .slice A14 (ln p) c15, .bool (ng q), .slice A16 (ln q) c17], .agg #[.bool (ng n), .slice A10 (ln n) c11, .bool (ng d), .slice A12 (ln d) c13]] (by rfl) rfl rfl (by simp only [List.map_toArray, List.map_cons, List.map_nil]; try rfl) ?_
  with_reducible refine (AddR (H.row _ m5) (H.row _ m4) (H.row _ m7) (H.row _ m6) (limR bp.out (by decide)) (limR bq.out (by decide)) (limR bn.out (by decide)) (limR bd.out (by decide)) x2 y2 hv2.out).mono ?_
  rintro e w39 ⟨A40, c41, A42, c43, rfl, hr, hr2, hb⟩
  replace H := (H.got hr hb).more ((H.got hr2 hb).row _ m0)
  clear hr hr2 hb
  refine ⟨_, rfl, ?_⟩
  refine hK.out _ _ ⟨H.cell m2 0, H.cell m2 1, H.cell m2 2, H.cell m2 3, H.cell m1 0, H.cell m1 1, H.cell m1 2, H.cell m1 3, H.cell m0 0, H.cell m0 1, H.cell m0 2, H.cell m0 3⟩ (fun hQ => ?_)
  clear hK K
  refine norm_ (a' := ?_) ?_ ?_
  rotate_left
  · show Act.put _ (some 51) _ = _
    simp only [Act.put, List.setIfInBounds_toArray, List.set_cons_zero, List.set_cons_succ, i64_w, i32_w]
    rfl
  refine one_ (i := 6) (N := some 52) (bm 62 127) rfl rfl (one_of HT_.out (by kernel_rfl)) (by decide) (fun K hK => ?_)
  refine goes_ Try.func40 (by kernel_rfl) rfl #[.agg #[.bool (ng x1), .slice A35 (ln x1) c36, .bool (ng y1), .slice A37 (ln y1) c38], .agg #[.bool (ng x2), .slice A40 (ln x2) c41, .bool (ng y2), .slice A42 (ln y2) c43]] (by rfl) rfl rfl (by simp only [List.map_toArray, List.map_cons, List.map_nil]; try rfl) ?_
  with_reducible refine (Same_t (H.row _ m3) (H.row _ m2) (H.row _ m1) (H.row _ m0) (limR bx1.out (by decide)) (limR by1.out (by decide)) (limR bx2.out (by decide)) (limR by2.out (by decide)) (same1 eV1_V2.out) (same2 eV1_V2.out)).mono ?_
  rintro e w44 ⟨rfl, hb⟩
  replace H := H.call hb
  clear hb
  refine ⟨_, rfl, ?_⟩
  refine hK.out _ _ ⟨H.cell m2 0, H.cell m2 1, H.cell m2 2, H.cell m2 3, H.cell m1 0, H.cell m1 1, H.cell m1 2, H.cell m1 3, H.cell m0 0, H.cell m0 1, H.cell m0 2, H.cell m0 3⟩ (fun hQ => ?_)
  clear hK K
  refine norm_ (a' := ?_) ?_ ?_
  rotate_left
  · show Act.put _ (some 52) _ = _
    simp only [Act.put, List.setIfInBounds_toArray, List.set_cons_zero, List.set_cons_succ, i64_w, i32_w]
    rfl
  refine pure_ (i := 7) (N := some 53) (v := ?_) (a' := ?_) (bm 62 255) rfl rfl (any_of HT_.out (by kernel_rfl)) (fun _ _ _ h => h) (Or.inl ⟨by rfl, ?_⟩) ?_ ?_
  rotate_left
  · intro w'
    go_simp
    with_reducible rfl
  rotate_left
  · simp only [Act.put, List.setIfInBounds_toArray, List.set_cons_zero, List.set_cons_succ, i64_w, i32_w]
    rfl
  refine pure_ (i := 8) (N := some 54) (v := ?_) (a' := ?_) (bm 62 511) rfl rfl (any_of HT_.out (by kernel_rfl)) (fun _ _ _ h => h) (Or.inl ⟨by rfl, ?_⟩) ?_ ?_
  rotate_left
  · intro w'
    go_simp
    with_reducible rfl
  rotate_left
  · simp only [Act.put, List.setIfInBounds_toArray, List.set_cons_zero, List.set_cons_succ, i64_w, i32_w]
    rfl
  refine take_ (i := 9) (N := some 55) (v := ?_) (a' := ?_) (bm 62 1023) rfl rfl (take_ofW HT_.out HW_.out (by kernel_rfl)) (fun _ _ _ h => h) (Or.inl ⟨by rfl, ?_⟩) hQ ?_ ?_
  rotate_left
  · rintro w' ⟨s0, s1, s2, s3, s4, s5, s6, s7, s8, s9, s10, s11⟩
    go_simp
    with_reducible rfl
  rotate_left
  · simp only [Act.put, List.setIfInBounds_toArray, List.set_cons_zero, List.set_cons_succ, i64_w, i32_w]
    rfl
  refine take_ (i := 10) (N := some 56) (v := ?_) (a' := ?_) (bm 62 2047) rfl rfl (take_ofW HT_.out HW_.out (by kernel_rfl)) (fun _ _ _ h => h) (Or.inl ⟨by rfl, ?_⟩) hQ ?_ ?_
  rotate_left
  · rintro w' ⟨s0, s1, s2, s3, s4, s5, s6, s7, s8, s9, s10, s11⟩
    go_simp
    with_reducible rfl
  rotate_left
  · simp only [Act.put, List.setIfInBounds_toArray, List.set_cons_zero, List.set_cons_succ, i64_w, i32_w]
    rfl
  refine take_ (i := 12) (N := some 58) (v := ?_) (a' := ?_) (bm 62 6143) rfl rfl (take_ofW HT_.out HW_.out (by kernel_rfl)) (fun _ _ _ h => h) (Or.inl ⟨by rfl, ?_⟩) hQ ?_ ?_
  rotate_left
  · rintro w' ⟨s0, s1, s2, s3, s4, s5, s6, s7, s8, s9, s10, s11⟩
    go_simp
    with_reducible rfl
  rotate_left
  · simp only [Act.put, List.setIfInBounds_toArray, List.set_cons_zero, List.set_cons_succ, i64_w, i32_w]
    rfl
  refine take_ (i := 13) (N := some 59) (v := ?_) (a' := ?_) (bm 62 14335) rfl rfl (take_ofW HT_.out HW_.out (by kernel_rfl)) (fun _ _ _ h => h) (Or.inl ⟨by rfl, ?_⟩) hQ ?_ ?_
  rotate_left
  · rintro w' ⟨s0, s1, s2, s3, s4, s5, s6, s7, s8, s9, s10, s11⟩
    go_simp
    with_reducible rfl
  rotate_left
  · simp only [Act.put, List.setIfInBounds_toArray, List.set_cons_zero, List.set_cons_succ, i64_w, i32_w]
    rfl
  refine one_ (i := 11) (N := some 57) (bm 62 16383) rfl rfl (one_of HT_.out (by kernel_rfl)) (by decide) (fun K hK => ?_)
  refine goes_ Try.func42 (by kernel_rfl) rfl #[.agg #[.bool (ng n), .slice A10 (ln n) c11, .bool (ng d), .slice A12 (ln d) c13], .agg #[.bool (ng p), .slice A14 (ln p) c15, .bool (ng q), .slice A16 (ln q) c17]] (by rfl) rfl rfl (by simp only [List.map_toArray, List.map_cons, List.map_nil]; try rfl) ?_
  with_reducible refine (MulR (H.row _ m9) (H.row _ m8) (H.row _ m7) (H.row _ m6) (limR bn.out (by decide)) (limR bd.out (by decide)) (limR bp.out (by decide)) (limR bq.out (by decide)) x3 y3 hv3.out).mono ?_
  rintro e w45 ⟨A46, c47, A48, c49, rfl, hr, hr2, hb⟩
  replace H := (H.got hr hb).more ((H.got hr2 hb).row _ m0)
  clear hr hr2 hb
  refine ⟨_, rfl, ?_⟩
  refine hK.out _ _ ⟨H.cell m2 0, H.cell m2 1, H.cell m2 2, H.cell m2 3, H.cell m1 0, H.cell m1 1, H.cell m1 2, H.cell m1 3, H.cell m0 0, H.cell m0 1, H.cell m0 2, H.cell m0 3⟩ (fun hQ => ?_)
  clear hK K
  refine norm_ (a' := ?_) ?_ ?_
  rotate_left
  · show Act.put _ (some 57) _ = _
    simp only [Act.put, List.setIfInBounds_toArray, List.set_cons_zero, List.set_cons_succ, i64_w, i32_w]
    rfl
  refine one_ (i := 14) (N := some 60) (bm 62 32767) rfl rfl (one_of HT_.out (by kernel_rfl)) (by decide) (fun K hK => ?_)
  refine goes_ Try.func42 (by kernel_rfl) rfl #[.agg #[.bool (ng p), .slice A14 (ln p) c15, .bool (ng q), .slice A16 (ln q) c17], .agg #[.bool (ng n), .slice A10 (ln n) c11, .bool (ng d), .slice A12 (ln d) c13]] (by rfl) rfl rfl (by simp only [List.map_toArray, List.map_cons, List.map_nil]; try rfl) ?_
  with_reducible refine (MulR (H.row _ m9) (H.row _ m8) (H.row _ (mt m10)) (H.row _ m10) (limR bp.out (by decide)) (limR bq.out (by decide)) (limR bn.out (by decide)) (limR bd.out (by decide)) x4 y4 hv4.out).mono ?_
  rintro e w50 ⟨A51, c52, A53, c54, rfl, hr, hr2, hb⟩
  replace H := (H.got hr hb).more ((H.got hr2 hb).row _ m0)
  clear hr hr2 hb
  refine ⟨_, rfl, ?_⟩
  refine hK.out _ _ ⟨H.cell m2 0, H.cell m2 1, H.cell m2 2, H.cell m2 3, H.cell m1 0, H.cell m1 1, H.cell m1 2, H.cell m1 3, H.cell m0 0, H.cell m0 1, H.cell m0 2, H.cell m0 3⟩ (fun hQ => ?_)
  clear hK K
  refine norm_ (a' := ?_) ?_ ?_
  rotate_left
  · show Act.put _ (some 60) _ = _
    simp only [Act.put, List.setIfInBounds_toArray, List.set_cons_zero, List.set_cons_succ, i64_w, i32_w]
    rfl
  refine one_ (i := 15) (N := some 61) (bm 62 65535) rfl rfl (one_of HT_.out (by kernel_rfl)) (by decide) (fun K hK => ?_)
  refine goes_ Try.func40 (by kernel_rfl) rfl #[.agg #[.bool (ng x3), .slice A46 (ln x3) c47, .bool (ng y3), .slice A48 (ln y3) c49], .agg #[.bool (ng x4), .slice A51 (ln x4) c52, .bool (ng y4), .slice A53 (ln y4) c54]] (by rfl) rfl rfl (by simp only [List.map_toArray, List.map_cons, List.map_nil]; try rfl) ?_
  with_reducible refine (Same_t (H.row _ m3) (H.row _ m2) (H.row _ m1) (H.row _ m0) (limR bx3.out (by decide)) (limR by3.out (by decide)) (limR bx4.out (by decide)) (limR by4.out (by decide)) (same1 eV3_V4.out) (same2 eV3_V4.out)).mono ?_
  rintro e w55 ⟨rfl, hb⟩
  replace H := H.call hb
  clear hb
  refine ⟨_, rfl, ?_⟩
  refine hK.out _ _ ⟨H.cell m2 0, H.cell m2 1, H.cell m2 2, H.cell m2 3, H.cell m1 0, H.cell m1 1, H.cell m1 2, H.cell m1 3, H.cell m0 0, H.cell m0 1, H.cell m0 2, H.cell m0 3⟩ (fun hQ => ?_)
  clear hK K
  refine norm_ (a' := ?_) ?_ ?_
  rotate_left
  · show Act.put _ (some 61) _ = _
    simp only [Act.put, List.setIfInBounds_toArray, List.set_cons_zero, List.set_cons_succ, i64_w, i32_w]
    rfl
  refine pure_ (i := 16) (N := some 62) (v := ?_) (a' := ?_) (bm 62 131071) rfl rfl (any_of HT_.out (by kernel_rfl)) (fun _ _ _ h => h) (Or.inl ⟨by rfl, ?_⟩) ?_ ?_
  rotate_left
  · intro w'
    go_simp
    with_reducible rfl
  rotate_left
  · simp only [Act.put, List.setIfInBounds_toArray, List.set_cons_zero, List.set_cons_succ, i64_w, i32_w]
    rfl
  refine pure_ (i := 17) (N := some 63) (v := ?_) (a' := ?_) (bm 62 262143) rfl rfl (any_of HT_.out (by kernel_rfl)) (fun _ _ _ h => h) (Or.inl ⟨by rfl, ?_⟩) ?_ ?_
  rotate_left
  · intro w'
    go_simp
    with_reducible rfl
  rotate_left
  · simp only [Act.put, List.setIfInBounds_toArray, List.set_cons_zero, List.set_cons_succ, i64_w, i32_w]
    rfl
  refine pure_ (i := 18) (N := some 64) (v := ?_) (a' := ?_) (bm 62 524287) rfl rfl (any_of HT_.out (by kernel_rfl)) (fun _ _ _ h => h) (Or.inl ⟨by rfl, ?_⟩) ?_ ?_
  rotate_left
  · intro w'
    go_simp
    with_reducible rfl
  rotate_left
  · simp only [Act.put, List.setIfInBounds_toArray, List.set_cons_zero, List.set_cons_succ, i64_w, i32_w]
    rfl
  refine take_ (i := 19) (N := some 65) (v := ?_) (a' := ?_) (bm 62 1048575) rfl rfl (take_ofW HT_.out HW_.out (by kernel_rfl)) (fun _ _ _ h => h) (Or.inl ⟨by rfl, ?_⟩) hQ ?_ ?_
  rotate_left
  · rintro w' ⟨s0, s1, s2, s3, s4, s5, s6, s7, s8, s9, s10, s11⟩
    go_simp
    with_reducible rfl
  rotate_left
  · simp only [Act.put, List.setIfInBounds_toArray, List.set_cons_zero, List.set_cons_succ, i64_w, i32_w]
    rfl
  refine take_ (i := 20) (N := some 66) (v := ?_) (a' := ?_) (bm 62 2097151) rfl rfl (take_ofW HT_.out HW_.out (by kernel_rfl)) (fun _ _ _ h => h) (Or.inl ⟨by rfl, ?_⟩) hQ ?_ ?_
  rotate_left
  · rintro w' ⟨s0, s1, s2, s3, s4, s5, s6, s7, s8, s9, s10, s11⟩
    go_simp
    with_reducible rfl
  rotate_left
  · simp only [Act.put, List.setIfInBounds_toArray, List.set_cons_zero, List.set_cons_succ, i64_w, i32_w]
    rfl
  refine take_ (i := 22) (N := some 68) (v := ?_) (a' := ?_) (bm 62 6291455) rfl rfl (take_ofW HT_.out HW_.out (by kernel_rfl)) (fun _ _ _ h => h) (Or.inl ⟨by rfl, ?_⟩) hQ ?_ ?_
  rotate_left
  · rintro w' ⟨s0, s1, s2, s3, s4, s5, s6, s7, s8, s9, s10, s11⟩
    go_simp
    with_reducible rfl
  rotate_left
  · simp only [Act.put, List.setIfInBounds_toArray, List.set_cons_zero, List.set_cons_succ, i64_w, i32_w]
    rfl
  refine take_ (i := 24) (N := some 70) (v := ?_) (a' := ?_) (bm 62 23068671) rfl rfl (take_ofW HT_.out HW_.out (by kernel_rfl)) (fun _ _ _ h => h) (Or.inl ⟨by rfl, ?_⟩) hQ ?_ ?_
  rotate_left
  · rintro w' ⟨s0, s1, s2, s3, s4, s5, s6, s7, s8, s9, s10, s11⟩
    go_simp
    with_reducible rfl
  rotate_left
  · simp only [Act.put, List.setIfInBounds_toArray, List.set_cons_zero, List.set_cons_succ, i64_w, i32_w]
    rfl
  refine take_ (i := 25) (N := some 71) (v := ?_) (a' := ?_) (bm 62 56623103) rfl rfl (take_ofW HT_.out HW_.out (by kernel_rfl)) (fun _ _ _ h => h) (Or.inl ⟨by rfl, ?_⟩) hQ ?_ ?_
  rotate_left
  · rintro w' ⟨s0, s1, s2, s3, s4, s5, s6, s7, s8, s9, s10, s11⟩
    go_simp
    with_reducible rfl
  rotate_left
  · simp only [Act.put, List.setIfInBounds_toArray, List.set_cons_zero, List.set_cons_succ, i64_w, i32_w]
    rfl
  refine take_ (i := 26) (N := some 72) (v := ?_) (a' := ?_) (bm 62 123731967) rfl rfl (take_ofW HT_.out HW_.out (by kernel_rfl)) (fun _ _ _ h => h) (Or.inl ⟨by rfl, ?_⟩) hQ ?_ ?_
  rotate_left
  · rintro w' ⟨s0, s1, s2, s3, s4, s5, s6, s7, s8, s9, s10, s11⟩
    go_simp
    with_reducible rfl
  rotate_left
  · simp only [Act.put, List.setIfInBounds_toArray, List.set_cons_zero, List.set_cons_succ, i64_w, i32_w]
    rfl
  refine one_ (i := 21) (N := some 67) (bm 62 125829119) rfl rfl (one_of HT_.out (by kernel_rfl)) (by decide) (fun K hK => ?_)
  refine goes_ Try.func41 (by kernel_rfl) rfl #[.agg #[.bool (ng n), .slice A10 (ln n) c11, .bool (ng d), .slice A12 (ln d) c13], .agg #[.bool (ng p), .slice A14 (ln p) c15, .bool (ng q), .slice A16 (ln q) c17]] (by rfl) rfl rfl (by simp only [List.map_toArray, List.map_cons, List.map_nil]; try rfl) ?_
  with_reducible refine (AddR (H.row _ (mt (mt (mt m10)))) (H.row _ (mt (mt m10))) (H.row _ (mt m10)) (H.row _ m10) (limR bn.out (by decide)) (limR bd.out (by decide)) (limR bp.out (by decide)) (limR bq.out (by decide)) x1 y1 hv1.out).mono ?_
  rintro e w56 ⟨A57, c58, A59, c60, rfl, hr, hr2, hb⟩
  replace H := (H.got hr hb).more ((H.got hr2 hb).row _ m0)
  clear hr hr2 hb
  refine ⟨_, rfl, ?_⟩
  refine hK.out _ _ ⟨H.cell m2 0, H.cell m2 1, H.cell m2 2, H.cell m2 3, H.cell m1 0, H.cell m1 1, H.cell m1 2, H.cell m1 3, H.cell m0 0, H.cell m0 1, H.cell m0 2, H.cell m0 3⟩ (fun hQ => ?_)
  clear hK K
  refine norm_ (a' := ?_) ?_ ?_
  rotate_left
  · show Act.put _ (some 67) _ = _
    simp only [Act.put, List.setIfInBounds_toArray, List.set_cons_zero, List.set_cons_succ, i64_w, i32_w]
    rfl
  refine one_ (i := 23) (N := some 69) (bm 62 134217727) rfl rfl (one_of HT_.out (by kernel_rfl)) (by decide) (fun K hK => ?_)
  refine goes_ Try.func41 (by kernel_rfl) rfl #[.agg #[.bool (ng x1), .slice A57 (ln x1) c58, .bool (ng y1), .slice A59 (ln y1) c60], .agg #[.bool (ng u), .slice A25 (ln u) c26, .bool (ng v), .slice A27 (ln v) c28]] (by rfl) rfl rfl (by simp only [List.map_toArray, List.map_cons, List.map_nil]; try rfl) ?_
  with_reducible refine (AddR (H.row _ m1) (H.row _ m0) (H.row _ (mt m10)) (H.row _ m10) (limR bx1.out (by decide)) (limR by1.out (by decide)) (limR bu.out (by decide)) (limR bv.out (by decide)) x6 y6 hv6.out).mono ?_
  rintro e w61 ⟨A62, c63, A64, c65, rfl, hr, hr2, hb⟩
  replace H := (H.got hr hb).more ((H.got hr2 hb).row _ m0)
  clear hr hr2 hb
  refine ⟨_, rfl, ?_⟩
  refine hK.out _ _ ⟨H.cell m2 0, H.cell m2 1, H.cell m2 2, H.cell m2 3, H.cell m1 0, H.cell m1 1, H.cell m1 2, H.cell m1 3, H.cell m0 0, H.cell m0 1, H.cell m0 2, H.cell m0 3⟩ (fun hQ => ?_)
  clear hK K
  refine norm_ (a' := ?_) ?_ ?_
  rotate_left
  · show Act.put _ (some 69) _ = _
    simp only [Act.put, List.setIfInBounds_toArray, List.set_cons_zero, List.set_cons_succ, i64_w, i32_w]
    rfl
  refine one_ (i := 27) (N := some 73) (bm 62 268435455) rfl rfl (one_of HT_.out (by kernel_rfl)) (by decide) (fun K hK => ?_)
  refine goes_ Try.func41 (by kernel_rfl) rfl #[.agg #[.bool (ng p), .slice A14 (ln p) c15, .bool (ng q), .slice A16 (ln q) c17], .agg #[.bool (ng u), .slice A25 (ln u) c26, .bool (ng v), .slice A27 (ln v) c28]] (by rfl) rfl rfl (by simp only [List.map_toArray, List.map_cons, List.map_nil]; try rfl) ?_
  with_reducible refine (AddR (H.row _ (mt (mt (mt (mt (mt m10)))))) (H.row _ (mt (mt (mt (mt m10))))) (H.row _ (mt (mt (mt m10)))) (H.row _ (mt (mt m10))) (limR bp.out (by decide)) (limR bq.out (by decide)) (limR bu.out (by decide)) (limR bv.out (by decide)) x7 y7 hv7.out).mono ?_
  rintro e w66 ⟨A67, c68, A69, c70, rfl, hr, hr2, hb⟩
  replace H := (H.got hr hb).more ((H.got hr2 hb).row _ m0)
  clear hr hr2 hb
  refine ⟨_, rfl, ?_⟩
  refine hK.out _ _ ⟨H.cell m2 0, H.cell m2 1, H.cell m2 2, H.cell m2 3, H.cell m1 0, H.cell m1 1, H.cell m1 2, H.cell m1 3, H.cell m0 0, H.cell m0 1, H.cell m0 2, H.cell m0 3⟩ (fun hQ => ?_)
  clear hK K
  refine norm_ (a' := ?_) ?_ ?_
  rotate_left
  · show Act.put _ (some 73) _ = _
    simp only [Act.put, List.setIfInBounds_toArray, List.set_cons_zero, List.set_cons_succ, i64_w, i32_w]
    rfl
  refine one_ (i := 28) (N := some 74) (bm 62 536870911) rfl rfl (one_of HT_.out (by kernel_rfl)) (by decide) (fun K hK => ?_)
  refine goes_ Try.func41 (by kernel_rfl) rfl #[.agg #[.bool (ng n), .slice A10 (ln n) c11, .bool (ng d), .slice A12 (ln d) c13], .agg #[.bool (ng x7), .slice A67 (ln x7) c68, .bool (ng y7), .slice A69 (ln y7) c70]] (by rfl) rfl rfl (by simp only [List.map_toArray, List.map_cons, List.map_nil]; try rfl) ?_
  with_reducible refine (AddR (H.row _ (mt (mt (mt (mt (mt (mt (mt (mt (mt m10)))))))))) (H.row _ (mt (mt (mt (mt (mt (mt (mt (mt m10))))))))) (H.row _ m1) (H.row _ m0) (limR bn.out (by decide)) (limR bd.out (by decide)) (limR bx7.out (by decide)) (limR by7.out (by decide)) x8 y8 hv8.out).mono ?_
  rintro e w71 ⟨A72, c73, A74, c75, rfl, hr, hr2, hb⟩
  replace H := (H.got hr hb).more ((H.got hr2 hb).row _ m0)
  clear hr hr2 hb
  refine ⟨_, rfl, ?_⟩
  refine hK.out _ _ ⟨H.cell m2 0, H.cell m2 1, H.cell m2 2, H.cell m2 3, H.cell m1 0, H.cell m1 1, H.cell m1 2, H.cell m1 3, H.cell m0 0, H.cell m0 1, H.cell m0 2, H.cell m0 3⟩ (fun hQ => ?_)
  clear hK K
  refine norm_ (a' := ?_) ?_ ?_
  rotate_left
  · show Act.put _ (some 74) _ = _
    simp only [Act.put, List.setIfInBounds_toArray, List.set_cons_zero, List.set_cons_succ, i64_w, i32_w]
    rfl
  refine one_ (i := 29) (N := some 75) (bm 62 1073741823) rfl rfl (one_of HT_.out (by kernel_rfl)) (by decide) (fun K hK => ?_)
  refine goes_ Try.func40 (by kernel_rfl) rfl #[.agg #[.bool (ng x6), .slice A62 (ln x6) c63, .bool (ng y6), .slice A64 (ln y6) c65], .agg #[.bool (ng x8), .slice A72 (ln x8) c73, .bool (ng y8), .slice A74 (ln y8) c75]] (by rfl) rfl rfl (by simp only [List.map_toArray, List.map_cons, List.map_nil]; try rfl) ?_
  with_reducible refine (Same_t (H.row _ m5) (H.row _ m4) (H.row _ m1) (H.row _ m0) (limR bx6.out (by decide)) (limR by6.out (by decide)) (limR bx8.out (by decide)) (limR by8.out (by decide)) (same1 eV6_V8.out) (same2 eV6_V8.out)).mono ?_
  rintro e w76 ⟨rfl, hb⟩
  replace H := H.call hb
  clear hb
  refine ⟨_, rfl, ?_⟩
  refine hK.out _ _ ⟨H.cell m2 0, H.cell m2 1, H.cell m2 2, H.cell m2 3, H.cell m1 0, H.cell m1 1, H.cell m1 2, H.cell m1 3, H.cell m0 0, H.cell m0 1, H.cell m0 2, H.cell m0 3⟩ (fun hQ => ?_)
  clear hK K
  refine norm_ (a' := ?_) ?_ ?_
  rotate_left
  · show Act.put _ (some 75) _ = _
    simp only [Act.put, List.setIfInBounds_toArray, List.set_cons_zero, List.set_cons_succ, i64_w, i32_w]
    rfl
  refine pure_ (i := 30) (N := some 76) (v := ?_) (a' := ?_) (bm 62 2147483647) rfl rfl (any_of HT_.out (by kernel_rfl)) (fun _ _ _ h => h) (Or.inl ⟨by rfl, ?_⟩) ?_ ?_
  rotate_left
  · intro w'
    go_simp
    with_reducible rfl
  rotate_left
  · simp only [Act.put, List.setIfInBounds_toArray, List.set_cons_zero, List.set_cons_succ, i64_w, i32_w]
    rfl
  refine pure_ (i := 31) (N := some 77) (v := ?_) (a' := ?_) (bm 62 4294967295) rfl rfl (any_of HT_.out (by kernel_rfl)) (fun _ _ _ h => h) (Or.inl ⟨by rfl, ?_⟩) ?_ ?_
  rotate_left
  · intro w'
    go_simp
    with_reducible rfl
  rotate_left
  · simp only [Act.put, List.setIfInBounds_toArray, List.set_cons_zero, List.set_cons_succ, i64_w, i32_w]
    rfl
  refine pure_ (i := 32) (N := some 78) (v := ?_) (a' := ?_) (bm 62 8589934591) rfl rfl (any_of HT_.out (by kernel_rfl)) (fun _ _ _ h => h) (Or.inl ⟨by rfl, ?_⟩) ?_ ?_
  rotate_left
  · intro w'
    go_simp
    with_reducible rfl
  rotate_left
  · simp only [Act.put, List.setIfInBounds_toArray, List.set_cons_zero, List.set_cons_succ, i64_w, i32_w]
    rfl
  refine take_ (i := 33) (N := some 79) (v := ?_) (a' := ?_) (bm 62 17179869183) rfl rfl (take_ofW HT_.out HW_.out (by kernel_rfl)) (fun _ _ _ h => h) (Or.inl ⟨by rfl, ?_⟩) hQ ?_ ?_
  rotate_left
  · rintro w' ⟨s0, s1, s2, s3, s4, s5, s6, s7, s8, s9, s10, s11⟩
    go_simp
    with_reducible rfl
  rotate_left
  · simp only [Act.put, List.setIfInBounds_toArray, List.set_cons_zero, List.set_cons_succ, i64_w, i32_w]
    rfl
  refine take_ (i := 34) (N := some 80) (v := ?_) (a' := ?_) (bm 62 34359738367) rfl rfl (take_ofW HT_.out HW_.out (by kernel_rfl)) (fun _ _ _ h => h) (Or.inl ⟨by rfl, ?_⟩) hQ ?_ ?_
  rotate_left
  · rintro w' ⟨s0, s1, s2, s3, s4, s5, s6, s7, s8, s9, s10, s11⟩
    go_simp
    with_reducible rfl
  rotate_left
  · simp only [Act.put, List.setIfInBounds_toArray, List.set_cons_zero, List.set_cons_succ, i64_w, i32_w]
    rfl
  refine take_ (i := 36) (N := some 82) (v := ?_) (a' := ?_) (bm 62 103079215103) rfl rfl (take_ofW HT_.out HW_.out (by kernel_rfl)) (fun _ _ _ h => h) (Or.inl ⟨by rfl, ?_⟩) hQ ?_ ?_
  rotate_left
  · rintro w' ⟨s0, s1, s2, s3, s4, s5, s6, s7, s8, s9, s10, s11⟩
    go_simp
    with_reducible rfl
  rotate_left
  · simp only [Act.put, List.setIfInBounds_toArray, List.set_cons_zero, List.set_cons_succ, i64_w, i32_w]
    rfl
  refine take_ (i := 38) (N := some 84) (v := ?_) (a' := ?_) (bm 62 377957122047) rfl rfl (take_ofW HT_.out HW_.out (by kernel_rfl)) (fun _ _ _ h => h) (Or.inl ⟨by rfl, ?_⟩) hQ ?_ ?_
  rotate_left
  · rintro w' ⟨s0, s1, s2, s3, s4, s5, s6, s7, s8, s9, s10, s11⟩
    go_simp
    with_reducible rfl
  rotate_left
  · simp only [Act.put, List.setIfInBounds_toArray, List.set_cons_zero, List.set_cons_succ, i64_w, i32_w]
    rfl
  refine take_ (i := 39) (N := some 85) (v := ?_) (a' := ?_) (bm 62 927712935935) rfl rfl (take_ofW HT_.out HW_.out (by kernel_rfl)) (fun _ _ _ h => h) (Or.inl ⟨by rfl, ?_⟩) hQ ?_ ?_
  rotate_left
  · rintro w' ⟨s0, s1, s2, s3, s4, s5, s6, s7, s8, s9, s10, s11⟩
    go_simp
    with_reducible rfl
  rotate_left
  · simp only [Act.put, List.setIfInBounds_toArray, List.set_cons_zero, List.set_cons_succ, i64_w, i32_w]
    rfl
  refine take_ (i := 40) (N := some 86) (v := ?_) (a' := ?_) (bm 62 2027224563711) rfl rfl (take_ofW HT_.out HW_.out (by kernel_rfl)) (fun _ _ _ h => h) (Or.inl ⟨by rfl, ?_⟩) hQ ?_ ?_
  rotate_left
  · rintro w' ⟨s0, s1, s2, s3, s4, s5, s6, s7, s8, s9, s10, s11⟩
    go_simp
    with_reducible rfl
  rotate_left
  · simp only [Act.put, List.setIfInBounds_toArray, List.set_cons_zero, List.set_cons_succ, i64_w, i32_w]
    rfl
  refine one_ (i := 35) (N := some 81) (bm 62 2061584302079) rfl rfl (one_of HT_.out (by kernel_rfl)) (by decide) (fun K hK => ?_)
  refine goes_ Try.func42 (by kernel_rfl) rfl #[.agg #[.bool (ng n), .slice A10 (ln n) c11, .bool (ng d), .slice A12 (ln d) c13], .agg #[.bool (ng p), .slice A14 (ln p) c15, .bool (ng q), .slice A16 (ln q) c17]] (by rfl) rfl rfl (by simp only [List.map_toArray, List.map_cons, List.map_nil]; try rfl) ?_
  with_reducible refine (MulR (H.row _ (mt (mt (mt (mt (mt (mt (mt (mt (mt (mt (mt m10)))))))))))) (H.row _ (mt (mt (mt (mt (mt (mt (mt (mt (mt (mt m10))))))))))) (H.row _ (mt (mt (mt (mt (mt (mt (mt (mt (mt m10)))))))))) (H.row _ (mt (mt (mt (mt (mt (mt (mt (mt m10))))))))) (limR bn.out (by decide)) (limR bd.out (by decide)) (limR bp.out (by decide)) (limR bq.out (by decide)) x3 y3 hv3.out).mono ?_
  rintro e w77 ⟨A78, c79, A80, c81, rfl, hr, hr2, hb⟩
  replace H := (H.got hr hb).more ((H.got hr2 hb).row _ m0)
  clear hr hr2 hb
  refine ⟨_, rfl, ?_⟩
  refine hK.out _ _ ⟨H.cell m2 0, H.cell m2 1, H.cell m2 2, H.cell m2 3, H.cell m1 0, H.cell m1 1, H.cell m1 2, H.cell m1 3, H.cell m0 0, H.cell m0 1, H.cell m0 2, H.cell m0 3⟩ (fun hQ => ?_)
  clear hK K
  refine norm_ (a' := ?_) ?_ ?_
  rotate_left
  · show Act.put _ (some 81) _ = _
    simp only [Act.put, List.setIfInBounds_toArray, List.set_cons_zero, List.set_cons_succ, i64_w, i32_w]
    rfl
  refine one_ (i := 37) (N := some 83) (bm 62 2199023255551) rfl rfl (one_of HT_.out (by kernel_rfl)) (by decide) (fun K hK => ?_)
  refine goes_ Try.func42 (by kernel_rfl) rfl #[.agg #[.bool (ng x3), .slice A78 (ln x3) c79, .bool (ng y3), .slice A80 (ln y3) c81], .agg #[.bool (ng u), .slice A25 (ln u) c26, .bool (ng v), .slice A27 (ln v) c28]] (by rfl) rfl rfl (by simp only [List.map_toArray, List.map_cons, List.map_nil]; try rfl) ?_
  with_reducible refine (MulR (H.row _ m1) (H.row _ m0) (H.row _ (mt (mt (mt (mt (mt (mt (mt (mt (mt m10)))))))))) (H.row _ (mt (mt (mt (mt (mt (mt (mt (mt m10))))))))) (limR bx3.out (by decide)) (limR by3.out (by decide)) (limR bu.out (by decide)) (limR bv.out (by decide)) x10 y10 hv10.out).mono ?_
  rintro e w82 ⟨A83, c84, A85, c86, rfl, hr, hr2, hb⟩
  replace H := (H.got hr hb).more ((H.got hr2 hb).row _ m0)
  clear hr hr2 hb
  refine ⟨_, rfl, ?_⟩
  refine hK.out _ _ ⟨H.cell m2 0, H.cell m2 1, H.cell m2 2, H.cell m2 3, H.cell m1 0, H.cell m1 1, H.cell m1 2, H.cell m1 3, H.cell m0 0, H.cell m0 1, H.cell m0 2, H.cell m0 3⟩ (fun hQ => ?_)
  clear hK K
  refine norm_ (a' := ?_) ?_ ?_
  rotate_left
  · show Act.put _ (some 83) _ = _
    simp only [Act.put, List.setIfInBounds_toArray, List.set_cons_zero, List.set_cons_succ, i64_w, i32_w]
    rfl
  refine one_ (i := 41) (N := some 87) (bm 62 4398046511103) rfl rfl (one_of HT_.out (by kernel_rfl)) (by decide) (fun K hK => ?_)
  refine goes_ Try.func42 (by kernel_rfl) rfl #[.agg #[.bool (ng p), .slice A14 (ln p) c15, .bool (ng q), .slice A16 (ln q) c17], .agg #[.bool (ng u), .slice A25 (ln u) c26, .bool (ng v), .slice A27 (ln v) c28]] (by rfl) rfl rfl (by simp only [List.map_toArray, List.map_cons, List.map_nil]; try rfl) ?_
  with_reducible refine (MulR (H.row _ (mt (mt (mt (mt (mt (mt (mt (mt (mt (mt (mt (mt (mt m10)))))))))))))) (H.row _ (mt (mt (mt (mt (mt (mt (mt (mt (mt (mt (mt (mt m10))))))))))))) (H.row _ (mt (mt (mt (mt (mt (mt (mt (mt (mt (mt (mt m10)))))))))))) (H.row _ (mt (mt (mt (mt (mt (mt (mt (mt (mt (mt m10))))))))))) (limR bp.out (by decide)) (limR bq.out (by decide)) (limR bu.out (by decide)) (limR bv.out (by decide)) x11 y11 hv11.out).mono ?_
  rintro e w87 ⟨A88, c89, A90, c91, rfl, hr, hr2, hb⟩
  replace H := (H.got hr hb).more ((H.got hr2 hb).row _ m0)
  clear hr hr2 hb
  refine ⟨_, rfl, ?_⟩
  refine hK.out _ _ ⟨H.cell m2 0, H.cell m2 1, H.cell m2 2, H.cell m2 3, H.cell m1 0, H.cell m1 1, H.cell m1 2, H.cell m1 3, H.cell m0 0, H.cell m0 1, H.cell m0 2, H.cell m0 3⟩ (fun hQ => ?_)
  clear hK K
  refine norm_ (a' := ?_) ?_ ?_
  rotate_left
  · show Act.put _ (some 87) _ = _
    simp only [Act.put, List.setIfInBounds_toArray, List.set_cons_zero, List.set_cons_succ, i64_w, i32_w]
    rfl
  refine one_ (i := 42) (N := some 88) (bm 62 8796093022207) rfl rfl (one_of HT_.out (by kernel_rfl)) (by decide) (fun K hK => ?_)
  refine goes_ Try.func42 (by kernel_rfl) rfl #[.agg #[.bool (ng n), .slice A10 (ln n) c11, .bool (ng d), .slice A12 (ln d) c13], .agg #[.bool (ng x11), .slice A88 (ln x11) c89, .bool (ng y11), .slice A90 (ln y11) c91]] (by rfl) rfl rfl (by simp only [List.map_toArray, List.map_cons, List.map_nil]; try rfl) ?_
  with_reducible refine (MulR (H.row _ (mt (mt (mt (mt (mt (mt (mt (mt (mt (mt (mt (mt (mt (mt (mt (mt (mt m10)))))))))))))))))) (H.row _ (mt (mt (mt (mt (mt (mt (mt (mt (mt (mt (mt (mt (mt (mt (mt (mt m10))))))))))))))))) (H.row _ m1) (H.row _ m0) (limR bn.out (by decide)) (limR bd.out (by decide)) (limR bx11.out (by decide)) (limR by11.out (by decide)) x12 y12 hv12.out).mono ?_
  rintro e w92 ⟨A93, c94, A95, c96, rfl, hr, hr2, hb⟩
  replace H := (H.got hr hb).more ((H.got hr2 hb).row _ m0)
  clear hr hr2 hb
  refine ⟨_, rfl, ?_⟩
  refine hK.out _ _ ⟨H.cell m2 0, H.cell m2 1, H.cell m2 2, H.cell m2 3, H.cell m1 0, H.cell m1 1, H.cell m1 2, H.cell m1 3, H.cell m0 0, H.cell m0 1, H.cell m0 2, H.cell m0 3⟩ (fun hQ => ?_)
  clear hK K
  refine norm_ (a' := ?_) ?_ ?_
  rotate_left
  · show Act.put _ (some 88) _ = _
    simp only [Act.put, List.setIfInBounds_toArray, List.set_cons_zero, List.set_cons_succ, i64_w, i32_w]
    rfl
  refine one_ (i := 43) (N := some 89) (bm 62 17592186044415) rfl rfl (one_of HT_.out (by kernel_rfl)) (by decide) (fun K hK => ?_)
  refine goes_ Try.func40 (by kernel_rfl) rfl #[.agg #[.bool (ng x10), .slice A83 (ln x10) c84, .bool (ng y10), .slice A85 (ln y10) c86], .agg #[.bool (ng x12), .slice A93 (ln x12) c94, .bool (ng y12), .slice A95 (ln y12) c96]] (by rfl) rfl rfl (by simp only [List.map_toArray, List.map_cons, List.map_nil]; try rfl) ?_
  with_reducible refine (Same_t (H.row _ m5) (H.row _ m4) (H.row _ m1) (H.row _ m0) (limR bx10.out (by decide)) (limR by10.out (by decide)) (limR bx12.out (by decide)) (limR by12.out (by decide)) (same1 eV10_V12.out) (same2 eV10_V12.out)).mono ?_
  rintro e w97 ⟨rfl, hb⟩
  replace H := H.call hb
  clear hb
  refine ⟨_, rfl, ?_⟩
  refine hK.out _ _ ⟨H.cell m2 0, H.cell m2 1, H.cell m2 2, H.cell m2 3, H.cell m1 0, H.cell m1 1, H.cell m1 2, H.cell m1 3, H.cell m0 0, H.cell m0 1, H.cell m0 2, H.cell m0 3⟩ (fun hQ => ?_)
  clear hK K
  refine norm_ (a' := ?_) ?_ ?_
  rotate_left
  · show Act.put _ (some 89) _ = _
    simp only [Act.put, List.setIfInBounds_toArray, List.set_cons_zero, List.set_cons_succ, i64_w, i32_w]
    rfl
  refine pure_ (i := 44) (N := some 90) (v := ?_) (a' := ?_) (bm 62 35184372088831) rfl rfl (any_of HT_.out (by kernel_rfl)) (fun _ _ _ h => h) (Or.inl ⟨by rfl, ?_⟩) ?_ ?_
  rotate_left
  · intro w'
    go_simp
    with_reducible rfl
  rotate_left
  · simp only [Act.put, List.setIfInBounds_toArray, List.set_cons_zero, List.set_cons_succ, i64_w, i32_w]
    rfl
  refine pure_ (i := 45) (N := some 91) (v := ?_) (a' := ?_) (bm 62 70368744177663) rfl rfl (any_of HT_.out (by kernel_rfl)) (fun _ _ _ h => h) (Or.inl ⟨by rfl, ?_⟩) ?_ ?_
  rotate_left
  · intro w'
    go_simp
    with_reducible rfl
  rotate_left
  · simp only [Act.put, List.setIfInBounds_toArray, List.set_cons_zero, List.set_cons_succ, i64_w, i32_w]
    rfl
  refine pure_ (i := 46) (N := some 92) (v := ?_) (a' := ?_) (bm 62 140737488355327) rfl rfl (any_of HT_.out (by kernel_rfl)) (fun _ _ _ h => h) (Or.inl ⟨by rfl, ?_⟩) ?_ ?_
  rotate_left
  · intro w'
    go_simp
    with_reducible rfl
  rotate_left
  · simp only [Act.put, List.setIfInBounds_toArray, List.set_cons_zero, List.set_cons_succ, i64_w, i32_w]
    rfl
  refine take_ (i := 47) (N := some 93) (v := ?_) (a' := ?_) (bm 62 281474976710655) rfl rfl (take_ofW HT_.out HW_.out (by kernel_rfl)) (fun _ _ _ h => h) (Or.inl ⟨by rfl, ?_⟩) hQ ?_ ?_
  rotate_left
  · rintro w' ⟨s0, s1, s2, s3, s4, s5, s6, s7, s8, s9, s10, s11⟩
    go_simp
    with_reducible rfl
  rotate_left
  · simp only [Act.put, List.setIfInBounds_toArray, List.set_cons_zero, List.set_cons_succ, i64_w, i32_w]
    rfl
  refine take_ (i := 48) (N := some 94) (v := ?_) (a' := ?_) (bm 62 562949953421311) rfl rfl (take_ofW HT_.out HW_.out (by kernel_rfl)) (fun _ _ _ h => h) (Or.inl ⟨by rfl, ?_⟩) hQ ?_ ?_
  rotate_left
  · rintro w' ⟨s0, s1, s2, s3, s4, s5, s6, s7, s8, s9, s10, s11⟩
    go_simp
    with_reducible rfl
  rotate_left
  · simp only [Act.put, List.setIfInBounds_toArray, List.set_cons_zero, List.set_cons_succ, i64_w, i32_w]
    rfl
  refine take_ (i := 49) (N := some 95) (v := ?_) (a' := ?_) (bm 62 1125899906842623) rfl rfl (take_ofW HT_.out HW_.out (by kernel_rfl)) (fun _ _ _ h => h) (Or.inl ⟨by rfl, ?_⟩) hQ ?_ ?_
  rotate_left
  · rintro w' ⟨s0, s1, s2, s3, s4, s5, s6, s7, s8, s9, s10, s11⟩
    go_simp
    with_reducible rfl
  rotate_left
  · simp only [Act.put, List.setIfInBounds_toArray, List.set_cons_zero, List.set_cons_succ, i64_w, i32_w]
    rfl
  refine take_ (i := 52) (N := some 98) (v := ?_) (a' := ?_) (bm 62 5629499534213119) rfl rfl (take_ofW HT_.out HW_.out (by kernel_rfl)) (fun _ _ _ h => h) (Or.inl ⟨by rfl, ?_⟩) hQ ?_ ?_
  rotate_left
  · rintro w' ⟨s0, s1, s2, s3, s4, s5, s6, s7, s8, s9, s10, s11⟩
    go_simp
    with_reducible rfl
  rotate_left
  · simp only [Act.put, List.setIfInBounds_toArray, List.set_cons_zero, List.set_cons_succ, i64_w, i32_w]
    rfl
  refine take_ (i := 53) (N := some 99) (v := ?_) (a' := ?_) (bm 62 14636698788954111) rfl rfl (take_ofW HT_.out HW_.out (by kernel_rfl)) (fun _ _ _ h => h) (Or.inl ⟨by rfl, ?_⟩) hQ ?_ ?_
  rotate_left
  · rintro w' ⟨s0, s1, s2, s3, s4, s5, s6, s7, s8, s9, s10, s11⟩
    go_simp
    with_reducible rfl
  rotate_left
  · simp only [Act.put, List.setIfInBounds_toArray, List.set_cons_zero, List.set_cons_succ, i64_w, i32_w]
    rfl
  refine take_ (i := 55) (N := some 101) (v := ?_) (a' := ?_) (bm 62 50665495807918079) rfl rfl (take_ofW HT_.out HW_.out (by kernel_rfl)) (fun _ _ _ h => h) (Or.inl ⟨by rfl, ?_⟩) hQ ?_ ?_
  rotate_left
  · rintro w' ⟨s0, s1, s2, s3, s4, s5, s6, s7, s8, s9, s10, s11⟩
    go_simp
    with_reducible rfl
  rotate_left
  · simp only [Act.put, List.setIfInBounds_toArray, List.set_cons_zero, List.set_cons_succ, i64_w, i32_w]
    rfl
  refine take_ (i := 56) (N := some 102) (v := ?_) (a' := ?_) (bm 62 122723089845846015) rfl rfl (take_ofW HT_.out HW_.out (by kernel_rfl)) (fun _ _ _ h => h) (Or.inl ⟨by rfl, ?_⟩) hQ ?_ ?_
  rotate_left
  · rintro w' ⟨s0, s1, s2, s3, s4, s5, s6, s7, s8, s9, s10, s11⟩
    go_simp
    with_reducible rfl
  rotate_left
  · simp only [Act.put, List.setIfInBounds_toArray, List.set_cons_zero, List.set_cons_succ, i64_w, i32_w]
    rfl
  refine one_ (i := 50) (N := some 96) (bm 62 123848989752688639) rfl rfl (one_of HT_.out (by kernel_rfl)) (by decide) (fun K hK => ?_)
  refine goes_ Try.func41 (by kernel_rfl) rfl #[.agg #[.bool (ng p), .slice A14 (ln p) c15, .bool (ng q), .slice A16 (ln q) c17], .agg #[.bool (ng u), .slice A25 (ln u) c26, .bool (ng v), .slice A27 (ln v) c28]] (by rfl) rfl rfl (by simp only [List.map_toArray, List.map_cons, List.map_nil]; try rfl) ?_
  with_reducible refine (AddR (H.row _ (mt (mt (mt (mt (mt (mt (mt (mt (mt (mt (mt (mt (mt (mt (mt (mt (mt m10)))))))))))))))))) (H.row _ (mt (mt (mt (mt (mt (mt (mt (mt (mt (mt (mt (mt (mt (mt (mt (mt m10))))))))))))))))) (H.row _ (mt (mt (mt (mt (mt (mt (mt (mt (mt (mt (mt (mt (mt (mt (mt m10)))))))))))))))) (H.row _ (mt (mt (mt (mt (mt (mt (mt (mt (mt (mt (mt (mt (mt (mt m10))))))))))))))) (limR bp.out (by decide)) (limR bq.out (by decide)) (limR bu.out (by decide)) (limR bv.out (by decide)) x7 y7 hv7.out).mono ?_
  rintro e w98 ⟨A99, c100, A101, c102, rfl, hr, hr2, hb⟩
  replace H := (H.got hr hb).more ((H.got hr2 hb).row _ m0)
  clear hr hr2 hb
  refine ⟨_, rfl, ?_⟩
  refine hK.out _ _ ⟨H.cell m2 0, H.cell m2 1, H.cell m2 2, H.cell m2 3, H.cell m1 0, H.cell m1 1, H.cell m1 2, H.cell m1 3, H.cell m0 0, H.cell m0 1, H.cell m0 2, H.cell m0 3⟩ (fun hQ => ?_)
  clear hK K
  refine norm_ (a' := ?_) ?_ ?_
  rotate_left
  · show Act.put _ (some 96) _ = _
    simp only [Act.put, List.setIfInBounds_toArray, List.set_cons_zero, List.set_cons_succ, i64_w, i32_w]
    rfl
  refine one_ (i := 51) (N := some 97) (bm 62 126100789566373887) rfl rfl (one_of HT_.out (by kernel_rfl)) (by decide) (fun K hK => ?_)
  refine goes_ Try.func42 (by kernel_rfl) rfl #[.agg #[.bool (ng n), .slice A10 (ln n) c11, .bool (ng d), .slice A12 (ln d) c13], .agg #[.bool (ng x7), .slice A99 (ln x7) c100, .bool (ng y7), .slice A101 (ln y7) c102]] (by rfl) rfl rfl (by simp only [List.map_toArray, List.map_cons, List.map_nil]; try rfl) ?_
  with_reducible refine (MulR (H.row _ (mt (mt (mt (mt (mt (mt (mt (mt (mt (mt (mt (mt (mt (mt (mt (mt (mt (mt (mt (mt (mt m10)))))))))))))))))))))) (H.row _ (mt (mt (mt (mt (mt (mt (mt (mt (mt (mt (mt (mt (mt (mt (mt (mt (mt (mt (mt (mt m10))))))))))))))))))))) (H.row _ m1) (H.row _ m0) (limR bn.out (by decide)) (limR bd.out (by decide)) (limR bx7.out (by decide)) (limR by7.out (by decide)) x14 y14 hv14.out).mono ?_
  rintro e w103 ⟨A104, c105, A106, c107, rfl, hr, hr2, hb⟩
  replace H := (H.got hr hb).more ((H.got hr2 hb).row _ m0)
  clear hr hr2 hb
  refine ⟨_, rfl, ?_⟩
  refine hK.out _ _ ⟨H.cell m2 0, H.cell m2 1, H.cell m2 2, H.cell m2 3, H.cell m1 0, H.cell m1 1, H.cell m1 2, H.cell m1 3, H.cell m0 0, H.cell m0 1, H.cell m0 2, H.cell m0 3⟩ (fun hQ => ?_)
  clear hK K
  refine norm_ (a' := ?_) ?_ ?_
  rotate_left
  · show Act.put _ (some 97) _ = _
    simp only [Act.put, List.setIfInBounds_toArray, List.set_cons_zero, List.set_cons_succ, i64_w, i32_w]
    rfl
  refine one_ (i := 54) (N := some 100) (bm 62 144115188075855871) rfl rfl (one_of HT_.out (by kernel_rfl)) (by decide) (fun K hK => ?_)
  refine goes_ Try.func42 (by kernel_rfl) rfl #[.agg #[.bool (ng n), .slice A10 (ln n) c11, .bool (ng d), .slice A12 (ln d) c13], .agg #[.bool (ng p), .slice A14 (ln p) c15, .bool (ng q), .slice A16 (ln q) c17]] (by rfl) rfl rfl (by simp only [List.map_toArray, List.map_cons, List.map_nil]; try rfl) ?_
  with_reducible refine (MulR (H.row _ (mt (mt (mt (mt (mt (mt (mt (mt (mt (mt (mt (mt (mt (mt (mt (mt (mt (mt (mt (mt (mt (mt (mt m10)))))))))))))))))))))))) (H.row _ (mt (mt (mt (mt (mt (mt (mt (mt (mt (mt (mt (mt (mt (mt (mt (mt (mt (mt (mt (mt (mt (mt m10))))))))))))))))))))))) (H.row _ (mt (mt (mt (mt (mt (mt (mt (mt (mt (mt (mt (mt (mt (mt (mt (mt (mt (mt (mt (mt (mt m10)))))))))))))))))))))) (H.row _ (mt (mt (mt (mt (mt (mt (mt (mt (mt (mt (mt (mt (mt (mt (mt (mt (mt (mt (mt (mt m10))))))))))))))))))))) (limR bn.out (by decide)) (limR bd.out (by decide)) (limR bp.out (by decide)) (limR bq.out (by decide)) x3 y3 hv3.out).mono ?_
  rintro e w108 ⟨A109, c110, A111, c112, rfl, hr, hr2, hb⟩
  replace H := (H.got hr hb).more ((H.got hr2 hb).row _ m0)
  clear hr hr2 hb
  refine ⟨_, rfl, ?_⟩
  refine hK.out _ _ ⟨H.cell m2 0, H.cell m2 1, H.cell m2 2, H.cell m2 3, H.cell m1 0, H.cell m1 1, H.cell m1 2, H.cell m1 3, H.cell m0 0, H.cell m0 1, H.cell m0 2, H.cell m0 3⟩ (fun hQ => ?_)
  clear hK K
  refine norm_ (a' := ?_) ?_ ?_
  rotate_left
  · show Act.put _ (some 100) _ = _
    simp only [Act.put, List.setIfInBounds_toArray, List.set_cons_zero, List.set_cons_succ, i64_w, i32_w]
    rfl
  refine one_ (i := 57) (N := some 103) (bm 62 288230376151711743) rfl rfl (one_of HT_.out (by kernel_rfl)) (by decide) (fun K hK => ?_)
  refine goes_ Try.func42 (by kernel_rfl) rfl #[.agg #[.bool (ng n), .slice A10 (ln n) c11, .bool (ng d), .slice A12 (ln d) c13], .agg #[.bool (ng u), .slice A25 (ln u) c26, .bool (ng v), .slice A27 (ln v) c28]] (by rfl) rfl rfl (by simp only [List.map_toArray, List.map_cons, List.map_nil]; try rfl) ?_
  with_reducible refine (MulR (H.row _ (mt (mt (mt (mt (mt (mt (mt (mt (mt (mt (mt (mt (mt (mt (mt (mt (mt (mt (mt (mt (mt (mt (mt (mt (mt m10)))))))))))))))))))))))))) (H.row _ (mt (mt (mt (mt (mt (mt (mt (mt (mt (mt (mt (mt (mt (mt (mt (mt (mt (mt (mt (mt (mt (mt (mt (mt m10))))))))))))))))))))))))) (H.row _ (mt (mt (mt (mt (mt (mt (mt (mt (mt (mt (mt (mt (mt (mt (mt (mt (mt (mt (mt (mt (mt m10)))))))))))))))))))))) (H.row _ (mt (mt (mt (mt (mt (mt (mt (mt (mt (mt (mt (mt (mt (mt (mt (mt (mt (mt (mt (mt m10))))))))))))))))))))) (limR bn.out (by decide)) (limR bd.out (by decide)) (limR bu.out (by decide)) (limR bv.out (by decide)) x16 y16 hv16.out).mono ?_
  rintro e w113 ⟨A114, c115, A116, c117, rfl, hr, hr2, hb⟩
  replace H := (H.got hr hb).more ((H.got hr2 hb).row _ m0)
  clear hr hr2 hb
  refine ⟨_, rfl, ?_⟩
  refine hK.out _ _ ⟨H.cell m2 0, H.cell m2 1, H.cell m2 2, H.cell m2 3, H.cell m1 0, H.cell m1 1, H.cell m1 2, H.cell m1 3, H.cell m0 0, H.cell m0 1, H.cell m0 2, H.cell m0 3⟩ (fun hQ => ?_)
  clear hK K
  refine norm_ (a' := ?_) ?_ ?_
  rotate_left
  · show Act.put _ (some 103) _ = _
    simp only [Act.put, List.setIfInBounds_toArray, List.set_cons_zero, List.set_cons_succ, i64_w, i32_w]
    rfl
  refine one_ (i := 58) (N := some 104) (bm 62 576460752303423487) rfl rfl (one_of HT_.out (by kernel_rfl)) (by decide) (fun K hK => ?_)
  refine goes_ Try.func41 (by kernel_rfl) rfl #[.agg #[.bool (ng x3), .slice A109 (ln x3) c110, .bool (ng y3), .slice A111 (ln y3) c112], .agg #[.bool (ng x16), .slice A114 (ln x16) c115, .bool (ng y16), .slice A116 (ln y16) c117]] (by rfl) rfl rfl (by simp only [List.map_toArray, List.map_cons, List.map_nil]; try rfl) ?_
  with_reducible refine (AddR (H.row _ m3) (H.row _ m2) (H.row _ m1) (H.row _ m0) (limR bx3.out (by decide)) (limR by3.out (by decide)) (limR bx16.out (by decide)) (limR by16.out (by decide)) x17 y17 hv17.out).mono ?_
  rintro e w118 ⟨A119, c120, A121, c122, rfl, hr, hr2, hb⟩
  replace H := (H.got hr hb).more ((H.got hr2 hb).row _ m0)
  clear hr hr2 hb
  refine ⟨_, rfl, ?_⟩
  refine hK.out _ _ ⟨H.cell m2 0, H.cell m2 1, H.cell m2 2, H.cell m2 3, H.cell m1 0, H.cell m1 1, H.cell m1 2, H.cell m1 3, H.cell m0 0, H.cell m0 1, H.cell m0 2, H.cell m0 3⟩ (fun hQ => ?_)
  clear hK K
  refine norm_ (a' := ?_) ?_ ?_
  rotate_left
  · show Act.put _ (some 104) _ = _
    simp only [Act.put, List.setIfInBounds_toArray, List.set_cons_zero, List.set_cons_succ, i64_w, i32_w]
    rfl
  refine one_ (i := 59) (N := some 105) (bm 62 1152921504606846975) rfl rfl (one_of HT_.out (by kernel_rfl)) (by decide) (fun K hK => ?_)
  refine goes_ Try.func40 (by kernel_rfl) rfl #[.agg #[.bool (ng x14), .slice A104 (ln x14) c105, .bool (ng y14), .slice A106 (ln y14) c107], .agg #[.bool (ng x17), .slice A119 (ln x17) c120, .bool (ng y17), .slice A121 (ln y17) c122]] (by rfl) rfl rfl (by simp only [List.map_toArray, List.map_cons, List.map_nil]; try rfl) ?_
  with_reducible refine (Same_t (H.row _ m7) (H.row _ m6) (H.row _ m1) (H.row _ m0) (limR bx14.out (by decide)) (limR by14.out (by decide)) (limR bx17.out (by decide)) (limR by17.out (by decide)) (same1 eV14_V17.out) (same2 eV14_V17.out)).mono ?_
  rintro e w123 ⟨rfl, hb⟩
  replace H := H.call hb
  clear hb
  refine ⟨_, rfl, ?_⟩
  refine hK.out _ _ ⟨H.cell m2 0, H.cell m2 1, H.cell m2 2, H.cell m2 3, H.cell m1 0, H.cell m1 1, H.cell m1 2, H.cell m1 3, H.cell m0 0, H.cell m0 1, H.cell m0 2, H.cell m0 3⟩ (fun hQ => ?_)
  clear hK K
  refine norm_ (a' := ?_) ?_ ?_
  rotate_left
  · show Act.put _ (some 105) _ = _
    simp only [Act.put, List.setIfInBounds_toArray, List.set_cons_zero, List.set_cons_succ, i64_w, i32_w]
    rfl
  refine pure_ (i := 60) (N := some 106) (v := ?_) (a' := ?_) (bm 62 2305843009213693951) rfl rfl (any_of HT_.out (by kernel_rfl)) (fun _ _ _ h => h) (Or.inl ⟨by rfl, ?_⟩) ?_ ?_
  rotate_left
  · intro w'
    go_simp
    with_reducible rfl
  rotate_left
  · simp only [Act.put, List.setIfInBounds_toArray, List.set_cons_zero, List.set_cons_succ, i64_w, i32_w]
    rfl
  refine pure_ (i := 61) (N := some 107) (v := ?_) (a' := ?_) (bm 62 4611686018427387903) rfl rfl (any_of HT_.out (by kernel_rfl)) (fun _ _ _ h => h) (Or.inl ⟨by rfl, ?_⟩) ?_ ?_
  rotate_left
  · intro w'
    go_simp
    with_reducible rfl
  rotate_left
  · simp only [Act.put, List.setIfInBounds_toArray, List.set_cons_zero, List.set_cons_succ, i64_w, i32_w]
    rfl
  refine done_ (done_of HT_.out (by kernel_rfl)) ?_
  try clear hQ
  go_upto_region 11 with fail
  (try simp only [Act.put, List.setIfInBounds_toArray, List.set_cons_zero, List.set_cons_succ])
  replace H := H.drew
  refine start_ (n := 33) (S := fun w' => w'.cell? ⟨g7, 0, none⟩ = some (.bool (ng n)) ∧ w'.cell? ⟨g7, 1, none⟩ = some (.slice A10 (ln n) c11) ∧ w'.cell? ⟨g7, 2, none⟩ = some (.bool (ng d)) ∧ w'.cell? ⟨g7, 3, none⟩ = some (.slice A12 (ln d) c13) ∧ w'.cell? ⟨g8, 0, none⟩ = some (.bool (ng p)) ∧ w'.cell? ⟨g8, 1, none⟩ = some (.slice A14 (ln p) c15) ∧ w'.cell? ⟨g8, 2, none⟩ = some (.bool (ng q)) ∧ w'.cell? ⟨g8, 3, none⟩ = some (.slice A16 (ln q) c17)) (ds := []) #[false, false, false, false, false, false, false, false, false, false, false, false, false, false, false, false, false, false, false, false, false, false, false, false, false, false, false, false, false, false, false, false, false] (by kernel_rfl) rfl rfl ⟨H.cell m2 0, H.cell m2 1, H.cell m2 2, H.cell m2 3, H.cell m1 0, H.cell m1 1, H.cell m1 2, H.cell m1 3⟩ (fun hQ => ?_)
  generalize w123.drew = w124 at H hQ ⊢
  refine with_tabW tb21.tab11 tb21.bits11 (fun HT_ HW_ => ?_)
  refine take_ (i := 0) (N := some 108) (v := ?_) (a' := ?_) (bm 33 1) rfl rfl (take_ofW HT_.out HW_.out (by kernel_rfl)) (fun _ _ _ h => h) (Or.inl ⟨by rfl, ?_⟩) hQ ?_ ?_
  rotate_left
  · rintro w' ⟨s0, s1, s2, s3, s4, s5, s6, s7⟩
    go_simp
    with_reducible rfl
  rotate_left
  · simp only [Act.put, List.setIfInBounds_toArray, List.set_cons_zero, List.set_cons_succ, i64_w, i32_w]
    rfl
  refine take_ (i := 3) (N := some 111) (v := ?_) (a' := ?_) (bm 33 9) rfl rfl (take_ofW HT_.out HW_.out (by kernel_rfl)) (fun _ _ _ h => h) (Or.inl ⟨by rfl, ?_⟩) hQ ?_ ?_
  rotate_left
  · rintro w' ⟨s0, s1, s2, s3, s4, s5, s6, s7⟩
    go_simp
    with_reducible rfl
  rotate_left
  · simp only [Act.put, List.setIfInBounds_toArray, List.set_cons_zero, List.set_cons_succ, i64_w, i32_w]
    rfl
  refine one_ (i := 1) (N := some 109) (bm 33 11) rfl rfl (one_of HT_.out (by kernel_rfl)) (by decide) (fun K hK => ?_)
  refine goes_ Try.func44 (by kernel_rfl) rfl #[.int .i64 0] (by rfl) rfl rfl (by simp only [List.map_toArray, List.map_cons, List.map_nil]; try rfl) ?_
  with_reducible refine (OfR _ 0 x19 y19 hv19.out).mono ?_
  rintro e w125 ⟨A126, c127, A128, c129, rfl, hr, hr2, hb⟩
  replace H := (H.got (fresh_row hr) hb).more ((H.got (fresh_row hr2) hb).row _ m0)
  clear hr hr2 hb
  refine ⟨_, rfl, ?_⟩
  refine hK.out _ _ ⟨H.cell m2 0, H.cell m2 1, H.cell m2 2, H.cell m2 3, H.cell m1 0, H.cell m1 1, H.cell m1 2, H.cell m1 3⟩ (fun hQ => ?_)
  clear hK K
  refine norm_ (a' := ?_) ?_ ?_
  rotate_left
  · show Act.put _ (some 109) _ = _
    simp only [Act.put, List.setIfInBounds_toArray, List.set_cons_zero, List.set_cons_succ, i64_w, i32_w]
    rfl
  refine one_ (i := 2) (N := some 110) (bm 33 15) rfl rfl (one_of HT_.out (by kernel_rfl)) (by decide) (fun K hK => ?_)
  refine goes_ Try.func41 (by kernel_rfl) rfl #[.agg #[.bool (ng n), .slice A10 (ln n) c11, .bool (ng d), .slice A12 (ln d) c13], .agg #[.bool (ng x19), .slice A126 (ln x19) c127, .bool (ng y19), .slice A128 (ln y19) c129]] (by rfl) rfl rfl (by simp only [List.map_toArray, List.map_cons, List.map_nil]; try rfl) ?_
  with_reducible refine (AddR (H.row _ (mt (mt (mt (mt (mt (mt (mt (mt (mt (mt (mt (mt (mt (mt (mt (mt (mt (mt (mt (mt (mt (mt (mt (mt (mt (mt (mt (mt (mt (mt (mt m10)))))))))))))))))))))))))))))))) (H.row _ (mt (mt (mt (mt (mt (mt (mt (mt (mt (mt (mt (mt (mt (mt (mt (mt (mt (mt (mt (mt (mt (mt (mt (mt (mt (mt (mt (mt (mt (mt m10))))))))))))))))))))))))))))))) (H.row _ m1) (H.row _ m0) (limR bn.out (by decide)) (limR bd.out (by decide)) (limR bx19.out (by decide)) (limR by19.out (by decide)) x20 y20 hv20.out).mono ?_
  rintro e w130 ⟨A131, c132, A133, c134, rfl, hr, hr2, hb⟩
  replace H := (H.got hr hb).more ((H.got hr2 hb).row _ m0)
  clear hr hr2 hb
  refine ⟨_, rfl, ?_⟩
  refine hK.out _ _ ⟨H.cell m2 0, H.cell m2 1, H.cell m2 2, H.cell m2 3, H.cell m1 0, H.cell m1 1, H.cell m1 2, H.cell m1 3⟩ (fun hQ => ?_)
  clear hK K
  refine norm_ (a' := ?_) ?_ ?_
  rotate_left
  · show Act.put _ (some 110) _ = _
    simp only [Act.put, List.setIfInBounds_toArray, List.set_cons_zero, List.set_cons_succ, i64_w, i32_w]
    rfl
  refine one_ (i := 4) (N := some 112) (bm 33 31) rfl rfl (one_of HT_.out (by kernel_rfl)) (by decide) (fun K hK => ?_)
  refine goes_ Try.func40 (by kernel_rfl) rfl #[.agg #[.bool (ng x20), .slice A131 (ln x20) c132, .bool (ng y20), .slice A133 (ln y20) c134], .agg #[.bool (ng n), .slice A10 (ln n) c11, .bool (ng d), .slice A12 (ln d) c13]] (by rfl) rfl rfl (by simp only [List.map_toArray, List.map_cons, List.map_nil]; try rfl) ?_
  with_reducible refine (Same_t (H.row _ m1) (H.row _ m0) (H.row _ (mt (mt (mt (mt (mt (mt (mt (mt (mt (mt (mt (mt (mt (mt (mt (mt (mt (mt (mt (mt (mt (mt (mt (mt (mt (mt (mt (mt (mt (mt (mt (mt (mt m10)))))))))))))))))))))))))))))))))) (H.row _ (mt (mt (mt (mt (mt (mt (mt (mt (mt (mt (mt (mt (mt (mt (mt (mt (mt (mt (mt (mt (mt (mt (mt (mt (mt (mt (mt (mt (mt (mt (mt (mt m10))))))))))))))))))))))))))))))))) (limR bx20.out (by decide)) (limR by20.out (by decide)) (limR bn.out (by decide)) (limR bd.out (by decide)) (same1 eV20_x.out) (same2 eV20_x.out)).mono ?_
  rintro e w135 ⟨rfl, hb⟩
  replace H := H.call hb
  clear hb
  refine ⟨_, rfl, ?_⟩
  refine hK.out _ _ ⟨H.cell m2 0, H.cell m2 1, H.cell m2 2, H.cell m2 3, H.cell m1 0, H.cell m1 1, H.cell m1 2, H.cell m1 3⟩ (fun hQ => ?_)
  clear hK K
  refine norm_ (a' := ?_) ?_ ?_
  rotate_left
  · show Act.put _ (some 112) _ = _
    simp only [Act.put, List.setIfInBounds_toArray, List.set_cons_zero, List.set_cons_succ, i64_w, i32_w]
    rfl
  refine pure_ (i := 5) (N := some 113) (v := ?_) (a' := ?_) (bm 33 63) rfl rfl (any_of HT_.out (by kernel_rfl)) (fun _ _ _ h => h) (Or.inl ⟨by rfl, ?_⟩) ?_ ?_
  rotate_left
  · intro w'
    go_simp
    with_reducible rfl
  rotate_left
  · simp only [Act.put, List.setIfInBounds_toArray, List.set_cons_zero, List.set_cons_succ, i64_w, i32_w]
    rfl
  refine pure_ (i := 6) (N := some 114) (v := ?_) (a' := ?_) (bm 33 127) rfl rfl (any_of HT_.out (by kernel_rfl)) (fun _ _ _ h => h) (Or.inl ⟨by rfl, ?_⟩) ?_ ?_
  rotate_left
  · intro w'
    go_simp
    with_reducible rfl
  rotate_left
  · simp only [Act.put, List.setIfInBounds_toArray, List.set_cons_zero, List.set_cons_succ, i64_w, i32_w]
    rfl
  refine take_ (i := 7) (N := some 115) (v := ?_) (a' := ?_) (bm 33 255) rfl rfl (take_ofW HT_.out HW_.out (by kernel_rfl)) (fun _ _ _ h => h) (Or.inl ⟨by rfl, ?_⟩) hQ ?_ ?_
  rotate_left
  · rintro w' ⟨s0, s1, s2, s3, s4, s5, s6, s7⟩
    go_simp
    with_reducible rfl
  rotate_left
  · simp only [Act.put, List.setIfInBounds_toArray, List.set_cons_zero, List.set_cons_succ, i64_w, i32_w]
    rfl
  refine take_ (i := 10) (N := some 118) (v := ?_) (a' := ?_) (bm 33 1279) rfl rfl (take_ofW HT_.out HW_.out (by kernel_rfl)) (fun _ _ _ h => h) (Or.inl ⟨by rfl, ?_⟩) hQ ?_ ?_
  rotate_left
  · rintro w' ⟨s0, s1, s2, s3, s4, s5, s6, s7⟩
    go_simp
    with_reducible rfl
  rotate_left
  · simp only [Act.put, List.setIfInBounds_toArray, List.set_cons_zero, List.set_cons_succ, i64_w, i32_w]
    rfl
  refine one_ (i := 8) (N := some 116) (bm 33 1535) rfl rfl (one_of HT_.out (by kernel_rfl)) (by decide) (fun K hK => ?_)
  refine goes_ Try.func44 (by kernel_rfl) rfl #[.int .i64 1] (by rfl) rfl rfl (by simp only [List.map_toArray, List.map_cons, List.map_nil]; try rfl) ?_
  with_reducible refine (OfR _ 1 x18 y18 hv18.out).mono ?_
  rintro e w136 ⟨A137, c138, A139, c140, rfl, hr, hr2, hb⟩
  replace H := (H.got (fresh_row hr) hb).more ((H.got (fresh_row hr2) hb).row _ m0)
  clear hr hr2 hb
  refine ⟨_, rfl, ?_⟩
  refine hK.out _ _ ⟨H.cell m2 0, H.cell m2 1, H.cell m2 2, H.cell m2 3, H.cell m1 0, H.cell m1 1, H.cell m1 2, H.cell m1 3⟩ (fun hQ => ?_)
  clear hK K
  refine norm_ (a' := ?_) ?_ ?_
  rotate_left
  · show Act.put _ (some 116) _ = _
    simp only [Act.put, List.setIfInBounds_toArray, List.set_cons_zero, List.set_cons_succ, i64_w, i32_w]
    rfl
  refine one_ (i := 9) (N := some 117) (bm 33 2047) rfl rfl (one_of HT_.out (by kernel_rfl)) (by decide) (fun K hK => ?_)
  refine goes_ Try.func42 (by kernel_rfl) rfl #[.agg #[.bool (ng n), .slice A10 (ln n) c11, .bool (ng d), .slice A12 (ln d) c13], .agg #[.bool (ng x18), .slice A137 (ln x18) c138, .bool (ng y18), .slice A139 (ln y18) c140]] (by rfl) rfl rfl (by simp only [List.map_toArray, List.map_cons, List.map_nil]; try rfl) ?_
  with_reducible refine (MulR (H.row _ (mt (mt (mt (mt (mt (mt (mt (mt (mt (mt (mt (mt (mt (mt (mt (mt (mt (mt (mt (mt (mt (mt (mt (mt (mt (mt (mt (mt (mt (mt (mt (mt (mt (mt (mt m10)))))))))))))))))))))))))))))))))))) (H.row _ (mt (mt (mt (mt (mt (mt (mt (mt (mt (mt (mt (mt (mt (mt (mt (mt (mt (mt (mt (mt (mt (mt (mt (mt (mt (mt (mt (mt (mt (mt (mt (mt (mt (mt m10))))))))))))))))))))))))))))))))))) (H.row _ m1) (H.row _ m0) (limR bn.out (by decide)) (limR bd.out (by decide)) (limR bx18.out (by decide)) (limR by18.out (by decide)) x21 y21 hv21.out).mono ?_
  rintro e w141 ⟨A142, c143, A144, c145, rfl, hr, hr2, hb⟩
  replace H := (H.got hr hb).more ((H.got hr2 hb).row _ m0)
  clear hr hr2 hb
  refine ⟨_, rfl, ?_⟩
  refine hK.out _ _ ⟨H.cell m2 0, H.cell m2 1, H.cell m2 2, H.cell m2 3, H.cell m1 0, H.cell m1 1, H.cell m1 2, H.cell m1 3⟩ (fun hQ => ?_)
  clear hK K
  refine norm_ (a' := ?_) ?_ ?_
  rotate_left
  · show Act.put _ (some 117) _ = _
    simp only [Act.put, List.setIfInBounds_toArray, List.set_cons_zero, List.set_cons_succ, i64_w, i32_w]
    rfl
  refine one_ (i := 11) (N := some 119) (bm 33 4095) rfl rfl (one_of HT_.out (by kernel_rfl)) (by decide) (fun K hK => ?_)
  refine goes_ Try.func40 (by kernel_rfl) rfl #[.agg #[.bool (ng x21), .slice A142 (ln x21) c143, .bool (ng y21), .slice A144 (ln y21) c145], .agg #[.bool (ng n), .slice A10 (ln n) c11, .bool (ng d), .slice A12 (ln d) c13]] (by rfl) rfl rfl (by simp only [List.map_toArray, List.map_cons, List.map_nil]; try rfl) ?_
  with_reducible refine (Same_t (H.row _ m1) (H.row _ m0) (H.row _ (mt (mt (mt (mt (mt (mt (mt (mt (mt (mt (mt (mt (mt (mt (mt (mt (mt (mt (mt (mt (mt (mt (mt (mt (mt (mt (mt (mt (mt (mt (mt (mt (mt (mt (mt (mt (mt m10)))))))))))))))))))))))))))))))))))))) (H.row _ (mt (mt (mt (mt (mt (mt (mt (mt (mt (mt (mt (mt (mt (mt (mt (mt (mt (mt (mt (mt (mt (mt (mt (mt (mt (mt (mt (mt (mt (mt (mt (mt (mt (mt (mt (mt m10))))))))))))))))))))))))))))))))))))) (limR bx21.out (by decide)) (limR by21.out (by decide)) (limR bn.out (by decide)) (limR bd.out (by decide)) (same1 eV21_x.out) (same2 eV21_x.out)).mono ?_
  rintro e w146 ⟨rfl, hb⟩
  replace H := H.call hb
  clear hb
  refine ⟨_, rfl, ?_⟩
  refine hK.out _ _ ⟨H.cell m2 0, H.cell m2 1, H.cell m2 2, H.cell m2 3, H.cell m1 0, H.cell m1 1, H.cell m1 2, H.cell m1 3⟩ (fun hQ => ?_)
  clear hK K
  refine norm_ (a' := ?_) ?_ ?_
  rotate_left
  · show Act.put _ (some 119) _ = _
    simp only [Act.put, List.setIfInBounds_toArray, List.set_cons_zero, List.set_cons_succ, i64_w, i32_w]
    rfl
  refine pure_ (i := 12) (N := some 120) (v := ?_) (a' := ?_) (bm 33 8191) rfl rfl (any_of HT_.out (by kernel_rfl)) (fun _ _ _ h => h) (Or.inl ⟨by rfl, ?_⟩) ?_ ?_
  rotate_left
  · intro w'
    go_simp
    with_reducible rfl
  rotate_left
  · simp only [Act.put, List.setIfInBounds_toArray, List.set_cons_zero, List.set_cons_succ, i64_w, i32_w]
    rfl
  refine pure_ (i := 13) (N := some 121) (v := ?_) (a' := ?_) (bm 33 16383) rfl rfl (any_of HT_.out (by kernel_rfl)) (fun _ _ _ h => h) (Or.inl ⟨by rfl, ?_⟩) ?_ ?_
  rotate_left
  · intro w'
    go_simp
    with_reducible rfl
  rotate_left
  · simp only [Act.put, List.setIfInBounds_toArray, List.set_cons_zero, List.set_cons_succ, i64_w, i32_w]
    rfl
  refine pure_ (i := 14) (N := some 122) (v := ?_) (a' := ?_) (bm 33 32767) rfl rfl (any_of HT_.out (by kernel_rfl)) (fun _ _ _ h => h) (Or.inl ⟨by rfl, ?_⟩) ?_ ?_
  rotate_left
  · intro w'
    go_simp
    with_reducible rfl
  rotate_left
  · simp only [Act.put, List.setIfInBounds_toArray, List.set_cons_zero, List.set_cons_succ, i64_w, i32_w]
    rfl
  refine take_ (i := 15) (N := some 123) (v := ?_) (a' := ?_) (bm 33 65535) rfl rfl (take_ofW HT_.out HW_.out (by kernel_rfl)) (fun _ _ _ h => h) (Or.inl ⟨by rfl, ?_⟩) hQ ?_ ?_
  rotate_left
  · rintro w' ⟨s0, s1, s2, s3, s4, s5, s6, s7⟩
    go_simp
    with_reducible rfl
  rotate_left
  · simp only [Act.put, List.setIfInBounds_toArray, List.set_cons_zero, List.set_cons_succ, i64_w, i32_w]
    rfl
  refine take_ (i := 16) (N := some 124) (v := ?_) (a' := ?_) (bm 33 131071) rfl rfl (take_ofW HT_.out HW_.out (by kernel_rfl)) (fun _ _ _ h => h) (Or.inl ⟨by rfl, ?_⟩) hQ ?_ ?_
  rotate_left
  · rintro w' ⟨s0, s1, s2, s3, s4, s5, s6, s7⟩
    go_simp
    with_reducible rfl
  rotate_left
  · simp only [Act.put, List.setIfInBounds_toArray, List.set_cons_zero, List.set_cons_succ, i64_w, i32_w]
    rfl
  refine one_ (i := 17) (N := some 125) (bm 33 262143) rfl rfl (one_of HT_.out (by kernel_rfl)) (by decide) (fun K hK => ?_)
  refine goes_ Try.func51 (by kernel_rfl) rfl #[.agg #[.bool (ng n), .slice A10 (ln n) c11, .bool (ng d), .slice A12 (ln d) c13]] (by rfl) rfl rfl (by simp only [List.map_toArray, List.map_cons, List.map_nil]; try rfl) ?_
  with_reducible refine (NegR (H.row _ (mt (mt (mt (mt (mt (mt (mt (mt (mt (mt (mt (mt (mt (mt (mt (mt (mt (mt (mt (mt (mt (mt (mt (mt (mt (mt (mt (mt (mt (mt (mt (mt (mt (mt (mt (mt (mt m10)))))))))))))))))))))))))))))))))))))) (H.row _ (mt (mt (mt (mt (mt (mt (mt (mt (mt (mt (mt (mt (mt (mt (mt (mt (mt (mt (mt (mt (mt (mt (mt (mt (mt (mt (mt (mt (mt (mt (mt (mt (mt (mt (mt (mt m10))))))))))))))))))))))))))))))))))))) (limR bn.out (by decide)) (limR bd.out (by decide)) x22 y22 hv22.out).mono ?_
  rintro e w147 ⟨A148, c149, A150, c151, rfl, hr, hr2, hb⟩
  replace H := (H.got hr hb).more ((H.got hr2 hb).row _ m0)
  clear hr hr2 hb
  refine ⟨_, rfl, ?_⟩
  refine hK.out _ _ ⟨H.cell m2 0, H.cell m2 1, H.cell m2 2, H.cell m2 3, H.cell m1 0, H.cell m1 1, H.cell m1 2, H.cell m1 3⟩ (fun hQ => ?_)
  clear hK K
  refine norm_ (a' := ?_) ?_ ?_
  rotate_left
  · show Act.put _ (some 125) _ = _
    simp only [Act.put, List.setIfInBounds_toArray, List.set_cons_zero, List.set_cons_succ, i64_w, i32_w]
    rfl
  refine one_ (i := 18) (N := some 126) (bm 33 524287) rfl rfl (one_of HT_.out (by kernel_rfl)) (by decide) (fun K hK => ?_)
  refine goes_ Try.func41 (by kernel_rfl) rfl #[.agg #[.bool (ng n), .slice A10 (ln n) c11, .bool (ng d), .slice A12 (ln d) c13], .agg #[.bool (ng x22), .slice A148 (ln x22) c149, .bool (ng y22), .slice A150 (ln y22) c151]] (by rfl) rfl rfl (by simp only [List.map_toArray, List.map_cons, List.map_nil]; try rfl) ?_
  with_reducible refine (AddR (H.row _ (mt (mt (mt (mt (mt (mt (mt (mt (mt (mt (mt (mt (mt (mt (mt (mt (mt (mt (mt (mt (mt (mt (mt (mt (mt (mt (mt (mt (mt (mt (mt (mt (mt (mt (mt (mt (mt (mt (mt m10)))))))))))))))))))))))))))))))))))))))) (H.row _ (mt (mt (mt (mt (mt (mt (mt (mt (mt (mt (mt (mt (mt (mt (mt (mt (mt (mt (mt (mt (mt (mt (mt (mt (mt (mt (mt (mt (mt (mt (mt (mt (mt (mt (mt (mt (mt (mt m10))))))))))))))))))))))))))))))))))))))) (H.row _ m1) (H.row _ m0) (limR bn.out (by decide)) (limR bd.out (by decide)) (limR bx22.out (by decide)) (limR by22.out (by decide)) x23 y23 hv23.out).mono ?_
  rintro e w152 ⟨A153, c154, A155, c156, rfl, hr, hr2, hb⟩
  replace H := (H.got hr hb).more ((H.got hr2 hb).row _ m0)
  clear hr hr2 hb
  refine ⟨_, rfl, ?_⟩
  refine hK.out _ _ ⟨H.cell m2 0, H.cell m2 1, H.cell m2 2, H.cell m2 3, H.cell m1 0, H.cell m1 1, H.cell m1 2, H.cell m1 3⟩ (fun hQ => ?_)
  clear hK K
  refine norm_ (a' := ?_) ?_ ?_
  rotate_left
  · show Act.put _ (some 126) _ = _
    simp only [Act.put, List.setIfInBounds_toArray, List.set_cons_zero, List.set_cons_succ, i64_w, i32_w]
    rfl
  refine one_ (i := 19) (N := some 127) (bm 33 1048575) rfl rfl (one_of HT_.out (by kernel_rfl)) (by decide) (fun K hK => ?_)
  refine goes_ Try.func54 (by kernel_rfl) rfl #[.agg #[.bool (ng x23), .slice A153 (ln x23) c154, .bool (ng y23), .slice A155 (ln y23) c156]] (by rfl) rfl rfl (by simp only [List.map_toArray, List.map_cons, List.map_nil]; try rfl) ?_
  with_reducible refine (SignR (lim bx23.out (by decide)) 0 hsg.out).mono ?_
  rintro e w157 ⟨rfl, hb⟩
  replace H := H.call hb
  clear hb
  refine ⟨_, rfl, ?_⟩
  refine hK.out _ _ ⟨H.cell m2 0, H.cell m2 1, H.cell m2 2, H.cell m2 3, H.cell m1 0, H.cell m1 1, H.cell m1 2, H.cell m1 3⟩ (fun hQ => ?_)
  clear hK K
  refine norm_ (a' := ?_) ?_ ?_
  rotate_left
  · show Act.put _ (some 127) _ = _
    simp only [Act.put, List.setIfInBounds_toArray, List.set_cons_zero, List.set_cons_succ, i64_w, i32_w]
    rfl
  refine pure_ (i := 20) (N := some 128) (v := ?_) (a' := ?_) (bm 33 2097151) rfl rfl (any_of HT_.out (by kernel_rfl)) (fun _ _ _ h => h) (Or.inl ⟨by rfl, ?_⟩) ?_ ?_
  rotate_left
  · intro w'
    go_simp
    with_reducible rfl
  rotate_left
  · simp only [Act.put, List.setIfInBounds_toArray, List.set_cons_zero, List.set_cons_succ, i64_w, i32_w]
    rfl
  refine pure_ (i := 21) (N := some 129) (v := ?_) (a' := ?_) (bm 33 4194303) rfl rfl (any_of HT_.out (by kernel_rfl)) (fun _ _ _ h => h) (Or.inl ⟨by rfl, ?_⟩) ?_ ?_
  rotate_left
  · intro w'
    go_simp
    with_reducible rfl
  rotate_left
  · simp only [Act.put, List.setIfInBounds_toArray, List.set_cons_zero, List.set_cons_succ, i64_w, i32_w]
    rfl
  refine pure_ (i := 22) (N := some 130) (v := ?_) (a' := ?_) (bm 33 8388607) rfl rfl (any_of HT_.out (by kernel_rfl)) (fun _ _ _ h => h) (Or.inl ⟨by rfl, ?_⟩) ?_ ?_
  rotate_left
  · intro w'
    go_simp
    with_reducible rfl
  rotate_left
  · simp only [Act.put, List.setIfInBounds_toArray, List.set_cons_zero, List.set_cons_succ, i64_w, i32_w]
    rfl
  refine take_ (i := 23) (N := some 131) (v := ?_) (a' := ?_) (bm 33 16777215) rfl rfl (take_ofW HT_.out HW_.out (by kernel_rfl)) (fun _ _ _ h => h) (Or.inl ⟨by rfl, ?_⟩) hQ ?_ ?_
  rotate_left
  · rintro w' ⟨s0, s1, s2, s3, s4, s5, s6, s7⟩
    go_simp
    with_reducible rfl
  rotate_left
  · simp only [Act.put, List.setIfInBounds_toArray, List.set_cons_zero, List.set_cons_succ, i64_w, i32_w]
    rfl
  refine take_ (i := 24) (N := some 132) (v := ?_) (a' := ?_) (bm 33 33554431) rfl rfl (take_ofW HT_.out HW_.out (by kernel_rfl)) (fun _ _ _ h => h) (Or.inl ⟨by rfl, ?_⟩) hQ ?_ ?_
  rotate_left
  · rintro w' ⟨s0, s1, s2, s3, s4, s5, s6, s7⟩
    go_simp
    with_reducible rfl
  rotate_left
  · simp only [Act.put, List.setIfInBounds_toArray, List.set_cons_zero, List.set_cons_succ, i64_w, i32_w]
    rfl
  refine take_ (i := 26) (N := some 134) (v := ?_) (a' := ?_) (bm 33 100663295) rfl rfl (take_ofW HT_.out HW_.out (by kernel_rfl)) (fun _ _ _ h => h) (Or.inl ⟨by rfl, ?_⟩) hQ ?_ ?_
  rotate_left
  · rintro w' ⟨s0, s1, s2, s3, s4, s5, s6, s7⟩
    go_simp
    with_reducible rfl
  rotate_left
  · simp only [Act.put, List.setIfInBounds_toArray, List.set_cons_zero, List.set_cons_succ, i64_w, i32_w]
    rfl
  refine take_ (i := 27) (N := some 135) (v := ?_) (a' := ?_) (bm 33 234881023) rfl rfl (take_ofW HT_.out HW_.out (by kernel_rfl)) (fun _ _ _ h => h) (Or.inl ⟨by rfl, ?_⟩) hQ ?_ ?_
  rotate_left
  · rintro w' ⟨s0, s1, s2, s3, s4, s5, s6, s7⟩
    go_simp
    with_reducible rfl
  rotate_left
  · simp only [Act.put, List.setIfInBounds_toArray, List.set_cons_zero, List.set_cons_succ, i64_w, i32_w]
    rfl
  refine one_ (i := 25) (N := some 133) (bm 33 268435455) rfl rfl (one_of HT_.out (by kernel_rfl)) (by decide) (fun K hK => ?_)
  refine goes_ Try.func53 (by kernel_rfl) rfl #[.agg #[.bool (ng n), .slice A10 (ln n) c11, .bool (ng d), .slice A12 (ln d) c13], .agg #[.bool (ng p), .slice A14 (ln p) c15, .bool (ng q), .slice A16 (ln q) c17]] (by rfl) rfl rfl (by simp only [List.map_toArray, List.map_cons, List.map_nil]; try rfl) ?_
  with_reducible refine (SubR (H.row _ (mt (mt (mt (mt (mt (mt (mt (mt (mt (mt (mt (mt (mt (mt (mt (mt (mt (mt (mt (mt (mt (mt (mt (mt (mt (mt (mt (mt (mt (mt (mt (mt (mt (mt (mt (mt (mt (mt (mt (mt (mt m10)))))))))))))))))))))))))))))))))))))))))) (H.row _ (mt (mt (mt (mt (mt (mt (mt (mt (mt (mt (mt (mt (mt (mt (mt (mt (mt (mt (mt (mt (mt (mt (mt (mt (mt (mt (mt (mt (mt (mt (mt (mt (mt (mt (mt (mt (mt (mt (mt (mt m10))))))))))))))))))))))))))))))))))))))))) (H.row _ (mt (mt (mt (mt (mt (mt (mt (mt (mt (mt (mt (mt (mt (mt (mt (mt (mt (mt (mt (mt (mt (mt (mt (mt (mt (mt (mt (mt (mt (mt (mt (mt (mt (mt (mt (mt (mt (mt (mt m10)))))))))))))))))))))))))))))))))))))))) (H.row _ (mt (mt (mt (mt (mt (mt (mt (mt (mt (mt (mt (mt (mt (mt (mt (mt (mt (mt (mt (mt (mt (mt (mt (mt (mt (mt (mt (mt (mt (mt (mt (mt (mt (mt (mt (mt (mt (mt m10))))))))))))))))))))))))))))))))))))))) (limR bn.out (by decide)) (limR bd.out (by decide)) (limR bp.out (by decide)) (limR bq.out (by decide)) x24 y24 hv24.out).mono ?_
  rintro e w158 ⟨A159, c160, A161, c162, rfl, hr, hr2, hb⟩
  replace H := (H.got hr hb).more ((H.got hr2 hb).row _ m0)
  clear hr hr2 hb
  refine ⟨_, rfl, ?_⟩
  refine hK.out _ _ ⟨H.cell m2 0, H.cell m2 1, H.cell m2 2, H.cell m2 3, H.cell m1 0, H.cell m1 1, H.cell m1 2, H.cell m1 3⟩ (fun hQ => ?_)
  clear hK K
  refine norm_ (a' := ?_) ?_ ?_
  rotate_left
  · show Act.put _ (some 133) _ = _
    simp only [Act.put, List.setIfInBounds_toArray, List.set_cons_zero, List.set_cons_succ, i64_w, i32_w]
    rfl
  refine one_ (i := 28) (N := some 136) (bm 33 536870911) rfl rfl (one_of HT_.out (by kernel_rfl)) (by decide) (fun K hK => ?_)
  refine goes_ Try.func51 (by kernel_rfl) rfl #[.agg #[.bool (ng p), .slice A14 (ln p) c15, .bool (ng q), .slice A16 (ln q) c17]] (by rfl) rfl rfl (by simp only [List.map_toArray, List.map_cons, List.map_nil]; try rfl) ?_
  with_reducible refine (NegR (H.row _ (mt (mt (mt (mt (mt (mt (mt (mt (mt (mt (mt (mt (mt (mt (mt (mt (mt (mt (mt (mt (mt (mt (mt (mt (mt (mt (mt (mt (mt (mt (mt (mt (mt (mt (mt (mt (mt (mt (mt (mt (mt m10)))))))))))))))))))))))))))))))))))))))))) (H.row _ (mt (mt (mt (mt (mt (mt (mt (mt (mt (mt (mt (mt (mt (mt (mt (mt (mt (mt (mt (mt (mt (mt (mt (mt (mt (mt (mt (mt (mt (mt (mt (mt (mt (mt (mt (mt (mt (mt (mt (mt m10))))))))))))))))))))))))))))))))))))))))) (limR bp.out (by decide)) (limR bq.out (by decide)) x25 y25 hv25.out).mono ?_
  rintro e w163 ⟨A164, c165, A166, c167, rfl, hr, hr2, hb⟩
  replace H := (H.got hr hb).more ((H.got hr2 hb).row _ m0)
  clear hr hr2 hb
  refine ⟨_, rfl, ?_⟩
  refine hK.out _ _ ⟨H.cell m2 0, H.cell m2 1, H.cell m2 2, H.cell m2 3, H.cell m1 0, H.cell m1 1, H.cell m1 2, H.cell m1 3⟩ (fun hQ => ?_)
  clear hK K
  refine norm_ (a' := ?_) ?_ ?_
  rotate_left
  · show Act.put _ (some 136) _ = _
    simp only [Act.put, List.setIfInBounds_toArray, List.set_cons_zero, List.set_cons_succ, i64_w, i32_w]
    rfl
  refine one_ (i := 29) (N := some 137) (bm 33 1073741823) rfl rfl (one_of HT_.out (by kernel_rfl)) (by decide) (fun K hK => ?_)
  refine goes_ Try.func41 (by kernel_rfl) rfl #[.agg #[.bool (ng n), .slice A10 (ln n) c11, .bool (ng d), .slice A12 (ln d) c13], .agg #[.bool (ng x25), .slice A164 (ln x25) c165, .bool (ng y25), .slice A166 (ln y25) c167]] (by rfl) rfl rfl (by simp only [List.map_toArray, List.map_cons, List.map_nil]; try rfl) ?_
  with_reducible refine (AddR (H.row _ (mt (mt (mt (mt (mt (mt (mt (mt (mt (mt (mt (mt (mt (mt (mt (mt (mt (mt (mt (mt (mt (mt (mt (mt (mt (mt (mt (mt (mt (mt (mt (mt (mt (mt (mt (mt (mt (mt (mt (mt (mt (mt (mt (mt (mt m10)))))))))))))))))))))))))))))))))))))))))))))) (H.row _ (mt (mt (mt (mt (mt (mt (mt (mt (mt (mt (mt (mt (mt (mt (mt (mt (mt (mt (mt (mt (mt (mt (mt (mt (mt (mt (mt (mt (mt (mt (mt (mt (mt (mt (mt (mt (mt (mt (mt (mt (mt (mt (mt (mt m10))))))))))))))))))))))))))))))))))))))))))))) (H.row _ m1) (H.row _ m0) (limR bn.out (by decide)) (limR bd.out (by decide)) (limR bx25.out (by decide)) (limR by25.out (by decide)) x26 y26 hv26.out).mono ?_
  rintro e w168 ⟨A169, c170, A171, c172, rfl, hr, hr2, hb⟩
  replace H := (H.got hr hb).more ((H.got hr2 hb).row _ m0)
  clear hr hr2 hb
  refine ⟨_, rfl, ?_⟩
  refine hK.out _ _ ⟨H.cell m2 0, H.cell m2 1, H.cell m2 2, H.cell m2 3, H.cell m1 0, H.cell m1 1, H.cell m1 2, H.cell m1 3⟩ (fun hQ => ?_)
  clear hK K
  refine norm_ (a' := ?_) ?_ ?_
  rotate_left
  · show Act.put _ (some 137) _ = _
    simp only [Act.put, List.setIfInBounds_toArray, List.set_cons_zero, List.set_cons_succ, i64_w, i32_w]
    rfl
  refine one_ (i := 30) (N := some 138) (bm 33 2147483647) rfl rfl (one_of HT_.out (by kernel_rfl)) (by decide) (fun K hK => ?_)
  refine goes_ Try.func40 (by kernel_rfl) rfl #[.agg #[.bool (ng x24), .slice A159 (ln x24) c160, .bool (ng y24), .slice A161 (ln y24) c162], .agg #[.bool (ng x26), .slice A169 (ln x26) c170, .bool (ng y26), .slice A171 (ln y26) c172]] (by rfl) rfl rfl (by simp only [List.map_toArray, List.map_cons, List.map_nil]; try rfl) ?_
  with_reducible refine (Same_t (H.row _ m5) (H.row _ m4) (H.row _ m1) (H.row _ m0) (limR bx24.out (by decide)) (limR by24.out (by decide)) (limR bx26.out (by decide)) (limR by26.out (by decide)) (same1 eV24_V26.out) (same2 eV24_V26.out)).mono ?_
  rintro e w173 ⟨rfl, hb⟩
  replace H := H.call hb
  clear hb
  refine ⟨_, rfl, ?_⟩
  refine hK.out _ _ ⟨H.cell m2 0, H.cell m2 1, H.cell m2 2, H.cell m2 3, H.cell m1 0, H.cell m1 1, H.cell m1 2, H.cell m1 3⟩ (fun hQ => ?_)
  clear hK K
  refine norm_ (a' := ?_) ?_ ?_
  rotate_left
  · show Act.put _ (some 138) _ = _
    simp only [Act.put, List.setIfInBounds_toArray, List.set_cons_zero, List.set_cons_succ, i64_w, i32_w]
    rfl
  refine pure_ (i := 31) (N := some 139) (v := ?_) (a' := ?_) (bm 33 4294967295) rfl rfl (any_of HT_.out (by kernel_rfl)) (fun _ _ _ h => h) (Or.inl ⟨by rfl, ?_⟩) ?_ ?_
  rotate_left
  · intro w'
    go_simp
    with_reducible rfl
  rotate_left
  · simp only [Act.put, List.setIfInBounds_toArray, List.set_cons_zero, List.set_cons_succ, i64_w, i32_w]
    rfl
  refine pure_ (i := 32) (N := some 140) (v := ?_) (a' := ?_) (bm 33 8589934591) rfl rfl (any_of HT_.out (by kernel_rfl)) (fun _ _ _ h => h) (Or.inl ⟨by rfl, ?_⟩) ?_ ?_
  rotate_left
  · intro w'
    go_simp
    with_reducible rfl
  rotate_left
  · simp only [Act.put, List.setIfInBounds_toArray, List.set_cons_zero, List.set_cons_succ, i64_w, i32_w]
    rfl
  refine done_ (done_of HT_.out (by kernel_rfl)) ?_
  try clear hQ
  go_upto_region 13 with fail
  (try simp only [Act.put, List.setIfInBounds_toArray, List.set_cons_zero, List.set_cons_succ])
  obtain ⟨k10_0, z10_0, k10_1, z10_1, k10_2, z10_2, k10_3, z10_3⟩ := H.b4 (g := g10) m0
  obtain ⟨k8_0, z8_0, k8_1, z8_1, k8_2, z8_2, k8_3, z8_3⟩ := H.b4 (g := g8) m1
  obtain ⟨k7_0, z7_0, k7_1, z7_1, k7_2, z7_2, k7_3, z7_3⟩ := H.b4 (g := g7) m2
  have hcs : (sy == 0) = true ∨ (sy == 0) = false := by cases (sy == 0) <;> simp
  rcases hcs with z1 | z1
  · skip
    have st175 := trivial
    go_wp2_with (first
      | (clear st175; go_at_call 54; (with_reducible refine (SignR (lim bp.out (by decide)) sy hsy.out).mono ?_); rintro e w174 ⟨rfl, hb⟩; replace H := H.call hb; clear hb; clear k10_0 z10_0 k10_1 z10_1 k10_2 z10_2 k10_3 z10_3 k8_0 z8_0 k8_1 z8_1 k8_2 z8_2 k8_3 z8_3 k7_0 z7_0 k7_1 z7_1 k7_2 z7_2 k7_3 z7_3; obtain ⟨k10_0, z10_0, k10_1, z10_1, k10_2, z10_2, k10_3, z10_3⟩ := H.b4 (g := g10) m0; obtain ⟨k8_0, z8_0, k8_1, z8_1, k8_2, z8_2, k8_3, z8_3⟩ := H.b4 (g := g8) m1; obtain ⟨k7_0, z7_0, k7_1, z7_1, k7_2, z7_2, k7_3, z7_3⟩ := H.b4 (g := g7) m2))
    go_ret
    exact ⟨rfl, H.below⟩
  · skip
    replace hv30 := Aside0.mk (hv30.out z1)
    replace hv31 := Aside0.mk (hv31.out z1)
    replace eV32_x := Aside0.mk (eV32_x.out z1)
    replace eV30_V33 := Aside0.mk (eV30_V33.out z1)
    have st177 := trivial
    have st183 := trivial
    have st185 := trivial
    go_upto_region 16 with (first
      | (clear st177; go_at_call 54; (with_reducible refine (SignR (lim bp.out (by decide)) sy hsy.out).mono ?_); rintro e w176 ⟨rfl, hb⟩; replace H := H.call hb; clear hb; clear k10_0 z10_0 k10_1 z10_1 k10_2 z10_2 k10_3 z10_3 k8_0 z8_0 k8_1 z8_1 k8_2 z8_2 k8_3 z8_3 k7_0 z7_0 k7_1 z7_1 k7_2 z7_2 k7_3 z7_3; obtain ⟨k10_0, z10_0, k10_1, z10_1, k10_2, z10_2, k10_3, z10_3⟩ := H.b4 (g := g10) m0; obtain ⟨k8_0, z8_0, k8_1, z8_1, k8_2, z8_2, k8_3, z8_3⟩ := H.b4 (g := g8) m1; obtain ⟨k7_0, z7_0, k7_1, z7_1, k7_2, z7_2, k7_3, z7_3⟩ := H.b4 (g := g7) m2)
      | (clear st183; go_at_call 52; (with_reducible refine (DivR (H.row _ (mt (mt (mt (mt (mt (mt (mt (mt (mt (mt (mt (mt (mt (mt (mt (mt (mt (mt (mt (mt (mt (mt (mt (mt (mt (mt (mt (mt (mt (mt (mt (mt (mt (mt (mt (mt (mt (mt (mt (mt (mt (mt (mt (mt (mt (mt (mt m10)))))))))))))))))))))))))))))))))))))))))))))))) (H.row _ (mt (mt (mt (mt (mt (mt (mt (mt (mt (mt (mt (mt (mt (mt (mt (mt (mt (mt (mt (mt (mt (mt (mt (mt (mt (mt (mt (mt (mt (mt (mt (mt (mt (mt (mt (mt (mt (mt (mt (mt (mt (mt (mt (mt (mt (mt m10))))))))))))))))))))))))))))))))))))))))))))))) (H.row _ (mt (mt (mt (mt (mt (mt (mt (mt (mt (mt (mt (mt (mt (mt (mt (mt (mt (mt (mt (mt (mt (mt (mt (mt (mt (mt (mt (mt (mt (mt (mt (mt (mt (mt (mt (mt (mt (mt (mt (mt (mt (mt (mt (mt (mt m10)))))))))))))))))))))))))))))))))))))))))))))) (H.row _ (mt (mt (mt (mt (mt (mt (mt (mt (mt (mt (mt (mt (mt (mt (mt (mt (mt (mt (mt (mt (mt (mt (mt (mt (mt (mt (mt (mt (mt (mt (mt (mt (mt (mt (mt (mt (mt (mt (mt (mt (mt (mt (mt (mt m10))))))))))))))))))))))))))))))))))))))))))))) (limR bn.out (by decide)) (limR bd.out (by decide)) (limR bp.out (by decide)) (limR bq.out (by decide)) x30 y30 0 hv30.out).mono ?_); rintro e w178 ⟨A179, c180, A181, c182, rfl, hr, hr2, hb⟩; replace H := (H.got hr hb).more ((H.got hr2 hb).row _ m0); clear hr hr2 hb; clear k10_0 z10_0 k10_1 z10_1 k10_2 z10_2 k10_3 z10_3 k8_0 z8_0 k8_1 z8_1 k8_2 z8_2 k8_3 z8_3 k7_0 z7_0 k7_1 z7_1 k7_2 z7_2 k7_3 z7_3; obtain ⟨k10_0, z10_0, k10_1, z10_1, k10_2, z10_2, k10_3, z10_3⟩ := H.b4 (g := g10) m0; obtain ⟨k8_0, z8_0, k8_1, z8_1, k8_2, z8_2, k8_3, z8_3⟩ := H.b4 (g := g8) m1; obtain ⟨k7_0, z7_0, k7_1, z7_1, k7_2, z7_2, k7_3, z7_3⟩ := H.b4 (g := g7) m2)
      | (clear st185; (with_reducible refine gate_dst (N := 12) rfl ?_); refine box_event ?hg (N := 12) ?hd (cs := #[.bool false, .slice none 0 0, .bool false, .slice none 0 0]) (t := 51) ?hr ?_; (case hd => rfl); (case hg => rfl); (case hr => go_simp; try rfl); intro g12 hg w184 hbox hb; replace H := H.newbox hg hbox hb; clear hg hbox hb; clear k10_0 z10_0 k10_1 z10_1 k10_2 z10_2 k10_3 z10_3 k8_0 z8_0 k8_1 z8_1 k8_2 z8_2 k8_3 z8_3 k7_0 z7_0 k7_1 z7_1 k7_2 z7_2 k7_3 z7_3; obtain ⟨k12_0, z12_0, k12_1, z12_1, k12_2, z12_2, k12_3, z12_3⟩ := H.b4 (g := g12) m0; obtain ⟨k10_0, z10_0, k10_1, z10_1, k10_2, z10_2, k10_3, z10_3⟩ := H.b4 (g := g10) m1; obtain ⟨k8_0, z8_0, k8_1, z8_1, k8_2, z8_2, k8_3, z8_3⟩ := H.b4 (g := g8) m2; obtain ⟨k7_0, z7_0, k7_1, z7_1, k7_2, z7_2, k7_3, z7_3⟩ := H.b4 (g := g7) m3; have ne_g12_g10 := H.ne (g := g12) (g' := g10) 0 1 rfl rfl (by decide); have ne_g10_g12 := ne_g12_g10.symm; have ne_g12_g8 := H.ne (g := g12) (g' := g8) 0 2 rfl rfl (by decide); have ne_g8_g12 := ne_g12_g8.symm; have ne_g12_g7 := H.ne (g := g12) (g' := g7) 0 3 rfl rfl (by decide); have ne_g7_g12 := ne_g12_g7.symm))
    (try simp only [Act.put, List.setIfInBounds_toArray, List.set_cons_zero, List.set_cons_succ])
    replace H := H.set4 [] (.bool (ng x30)) (.slice A179 (ln x30) c180) (.bool (ng y30)) (.slice A181 (ln y30) c182)
    clear k12_0 z12_0 k12_1 z12_1 k12_2 z12_2 k12_3 z12_3 k10_0 z10_0 k10_1 z10_1 k10_2 z10_2 k10_3 z10_3 k8_0 z8_0 k8_1 z8_1 k8_2 z8_2 k8_3 z8_3 k7_0 z7_0 k7_1 z7_1 k7_2 z7_2 k7_3 z7_3
    generalize ((((w184.setCell ⟨g12, 0, none⟩ (.bool (ng x30))).setCell ⟨g12, 1, none⟩ (.slice A179 (ln x30) c180)).setCell ⟨g12, 2, none⟩ (.bool (ng y30))).setCell ⟨g12, 3, none⟩ (.slice A181 (ln y30) c182)) = w186 at H ⊢
    obtain ⟨k12_0, z12_0, k12_1, z12_1, k12_2, z12_2, k12_3, z12_3⟩ := H.b4 (g := g12) m0
    obtain ⟨k10_0, z10_0, k10_1, z10_1, k10_2, z10_2, k10_3, z10_3⟩ := H.b4 (g := g10) m1
    obtain ⟨k8_0, z8_0, k8_1, z8_1, k8_2, z8_2, k8_3, z8_3⟩ := H.b4 (g := g8) m2
    obtain ⟨k7_0, z7_0, k7_1, z7_1, k7_2, z7_2, k7_3, z7_3⟩ := H.b4 (g := g7) m3
    clear k12_0 z12_0 k12_1 z12_1 k12_2 z12_2 k12_3 z12_3 k10_0 z10_0 k10_1 z10_1 k10_2 z10_2 k10_3 z10_3 k8_0 z8_0 k8_1 z8_1 k8_2 z8_2 k8_3 z8_3 k7_0 z7_0 k7_1 z7_1 k7_2 z7_2 k7_3 z7_3
    replace H := H.drew
    refine start_ (n := 9) (S := fun w' => w'.cell? ⟨g8, 0, none⟩ = some (.bool (ng p)) ∧ w'.cell? ⟨g8, 1, none⟩ = some (.slice A14 (ln p) c15) ∧ w'.cell? ⟨g8, 2, none⟩ = some (.bool (ng q)) ∧ w'.cell? ⟨g8, 3, none⟩ = some (.slice A16 (ln q) c17)) (ds := [7]) #[false, false, false, false, false, false, false, false, false] (by kernel_rfl) rfl rfl ⟨H.cell m2 0, H.cell m2 1, H.cell m2 2, H.cell m2 3⟩ (fun hQ => ?_)
    generalize w186.drew = w187 at H hQ ⊢
    refine with_tabW tb21.tab16 tb21.bits16 (fun HT_ HW_ => ?_)
    refine take_ (i := 1) (N := some 152) (v := ?_) (a' := ?_) (bm 9 2) rfl rfl (take_ofW HT_.out HW_.out (by kernel_rfl)) (fun _ _ _ h => h) (Or.inl ⟨by rfl, ?_⟩) hQ ?_ ?_
    rotate_left
    · rintro w' ⟨s0, s1, s2, s3⟩
      go_simp
      with_reducible rfl
    rotate_left
    · simp only [Act.put, List.setIfInBounds_toArray, List.set_cons_zero, List.set_cons_succ, i64_w, i32_w]
      rfl
    refine join_ (σ := Option Addr × Nat × Option Addr × Nat × Option Addr × Nat × Option Addr × Nat × Nat) 2 #[true, true, true, true, true, true, true, false, false] (fun s_ => [(151, .agg #[.bool (ng x18), .slice s_.1 (ln x18) s_.2.1, .bool (ng y18), .slice s_.2.2.1 (ln y18) s_.2.2.2.1]), (153, .tuple #[.agg #[.bool (ng x31), .slice s_.2.2.2.2.1 (ln x31) s_.2.2.2.2.2.1, .bool (ng y31), .slice s_.2.2.2.2.2.2.1 (ln y31) s_.2.2.2.2.2.2.2.1], .int .i64 0]), (14, .pointer (some ⟨s_.2.2.2.2.2.2.2.2, 0, none⟩)), (150, .tuple #[.agg #[.bool (ng x31), .slice s_.2.2.2.2.1 (ln x31) s_.2.2.2.2.2.1, .bool (ng y31), .slice s_.2.2.2.2.2.2.1 (ln y31) s_.2.2.2.2.2.2.2.1], .int .i64 0]), (154, .agg #[.bool (ng x31), .slice s_.2.2.2.2.1 (ln x31) s_.2.2.2.2.2.1, .bool (ng y31), .slice s_.2.2.2.2.2.2.1 (ln y31) s_.2.2.2.2.2.2.2.1]), (155, .int .i64 0)]) (fun s_ w' => Sit w w' (fun _ => False) [(s_.2.2.2.2.2.2.2.2, .cells #[.bool false, .slice none 0 0, .bool false, .slice none 0 0] 51 (0, 0)), (g12, .cells #[.bool (ng x30), .slice A179 (ln x30) c180, .bool (ng y30), .slice A181 (ln y30) c182] 51 (0, 0)), (g10, .cells #[.bool (ng u), .slice A25 (ln u) c26, .bool (ng v), .slice A27 (ln v) c28] 51 (0, 0)), (g8, .cells #[.bool (ng p), .slice A14 (ln p) c15, .bool (ng q), .slice A16 (ln q) c17] 51 (0, 0)), (g7, .cells #[.bool (ng n), .slice A10 (ln n) c11, .bool (ng d), .slice A12 (ln d) c13] 51 (0, 0))] [bw s_.2.2.2.2.2.2.1 s_.2.2.2.2.2.2.2.1 y31, bw s_.2.2.2.2.1 s_.2.2.2.2.2.1 x31, bw s_.2.2.1 s_.2.2.2.1 y18, bw s_.1 s_.2.1 x18, bw A181 c182 y30, bw A179 c180 x30, bw A171 c172 y26, bw A169 c170 x26, bw A166 c167 y25, bw A164 c165 x25, bw A161 c162 y24, bw A159 c160 x24, bw A155 c156 y23, bw A153 c154 x23, bw A150 c151 y22, bw A148 c149 x22, bw A144 c145 y21, bw A142 c143 x21, bw A139 c140 y18, bw A137 c138 x18, bw A133 c134 y20, bw A131 c132 x20, bw A128 c129 y19, bw A126 c127 x19, bw A121 c122 y17, bw A119 c120 x17, bw A116 c117 y16, bw A114 c115 x16, bw A111 c112 y3, bw A109 c110 x3, bw A106 c107 y14, bw A104 c105 x14, bw A101 c102 y7, bw A99 c100 x7, bw A95 c96 y12, bw A93 c94 x12, bw A90 c91 y11, bw A88 c89 x11, bw A85 c86 y10, bw A83 c84 x10, bw A80 c81 y3, bw A78 c79 x3, bw A74 c75 y8, bw A72 c73 x8, bw A69 c70 y7, bw A67 c68 x7, bw A64 c65 y6, bw A62 c63 x6, bw A59 c60 y1, bw A57 c58 x1, bw A53 c54 y4, bw A51 c52 x4, bw A48 c49 y3, bw A46 c47 x3, bw A42 c43 y2, bw A40 c41 x2, bw A37 c38 y1, bw A35 c36 x1, bw A27 c28 v, bw A25 c26 u, bw A16 c17 q, bw A14 c15 p, bw A12 c13 d, bw A10 c11 n]) ?_ ?_
    rotate_left
    · intro hCont
      refine two_ (i := 0) (j := 6) (Ni := some 151) (Nj := some 14) (bm 9 3) (bm 9 66) rfl rfl rfl rfl (two_of HT_.out (by kernel_rfl)) (by decide) (by decide) (fun K hK => ?_) (fun K hK => ?_)
      · skip
        refine goes_ Try.func44 (by kernel_rfl) rfl #[.int .i64 1] (by rfl) rfl rfl (by simp only [List.map_toArray, List.map_cons, List.map_nil]; try rfl) ?_
        with_reducible refine (OfR _ 1 x18 y18 hv18.out).mono ?_
        rintro e w208 ⟨A209, c210, A211, c212, rfl, hr, hr2, hb⟩
        replace H := (H.got (fresh_row hr) hb).more ((H.got (fresh_row hr2) hb).row _ m0)
        clear hr hr2 hb
        refine ⟨_, rfl, ?_⟩
        refine hK.out _ _ ⟨H.cell m2 0, H.cell m2 1, H.cell m2 2, H.cell m2 3⟩ (fun hQ => ?_)
        clear hK K
        refine norm_ (a' := ?_) ?_ ?_
        rotate_left
        · show Act.put _ (some 151) _ = _
          simp only [Act.put, List.setIfInBounds_toArray, List.set_cons_zero, List.set_cons_succ, i64_w, i32_w]
          rfl
        refine two_ (i := 2) (j := 6) (Ni := some 153) (Nj := some 14) (bm 9 7) (bm 9 67) rfl rfl rfl rfl (two_of HT_.out (by kernel_rfl)) (by decide) (by decide) (fun K hK => ?_) (fun K hK => ?_)
        · skip
          refine goes_ Try.func52 (by kernel_rfl) rfl #[.agg #[.bool (ng x18), .slice A209 (ln x18) c210, .bool (ng y18), .slice A211 (ln y18) c212], .agg #[.bool (ng p), .slice A14 (ln p) c15, .bool (ng q), .slice A16 (ln q) c17]] (by rfl) rfl rfl (by simp only [List.map_toArray, List.map_cons, List.map_nil]; try rfl) ?_
          with_reducible refine (DivR (H.row _ m1) (H.row _ m0) (H.row _ (mt (mt (mt (mt (mt (mt (mt (mt (mt (mt (mt (mt (mt (mt (mt (mt (mt (mt (mt (mt (mt (mt (mt (mt (mt (mt (mt (mt (mt (mt (mt (mt (mt (mt (mt (mt (mt (mt (mt (mt (mt (mt (mt (mt (mt (mt (mt (mt (mt m10)))))))))))))))))))))))))))))))))))))))))))))))))) (H.row _ (mt (mt (mt (mt (mt (mt (mt (mt (mt (mt (mt (mt (mt (mt (mt (mt (mt (mt (mt (mt (mt (mt (mt (mt (mt (mt (mt (mt (mt (mt (mt (mt (mt (mt (mt (mt (mt (mt (mt (mt (mt (mt (mt (mt (mt (mt (mt (mt m10))))))))))))))))))))))))))))))))))))))))))))))))) (limR bx18.out (by decide)) (limR by18.out (by decide)) (limR bp.out (by decide)) (limR bq.out (by decide)) x31 y31 0 hv31.out).mono ?_
          rintro e w233 ⟨A234, c235, A236, c237, rfl, hr, hr2, hb⟩
          replace H := (H.got hr hb).more ((H.got hr2 hb).row _ m0)
          clear hr hr2 hb
          refine ⟨_, rfl, ?_⟩
          refine hK.out _ _ ⟨H.cell m2 0, H.cell m2 1, H.cell m2 2, H.cell m2 3⟩ (fun hQ => ?_)
          clear hK K
          refine norm_ (a' := ?_) ?_ ?_
          rotate_left
          · show Act.put _ (some 153) _ = _
            simp only [Act.put, List.setIfInBounds_toArray, List.set_cons_zero, List.set_cons_succ, i64_w, i32_w]
            rfl
          refine pure_ (i := 3) (N := some 150) (v := ?_) (a' := ?_) (bm 9 15) rfl rfl (any_of HT_.out (by kernel_rfl)) (fun _ _ _ h => h) (Or.inl ⟨by rfl, ?_⟩) ?_ ?_
          rotate_left
          · intro w'
            go_simp
            with_reducible rfl
          rotate_left
          · simp only [Act.put, List.setIfInBounds_toArray, List.set_cons_zero, List.set_cons_succ, i64_w, i32_w]
            rfl
          refine pure_ (i := 4) (N := some 154) (v := ?_) (a' := ?_) (bm 9 31) rfl rfl (any_of HT_.out (by kernel_rfl)) (fun _ _ _ h => h) (Or.inl ⟨by rfl, ?_⟩) ?_ ?_
          rotate_left
          · intro w'
            go_simp
            with_reducible rfl
          rotate_left
          · simp only [Act.put, List.setIfInBounds_toArray, List.set_cons_zero, List.set_cons_succ, i64_w, i32_w]
            rfl
          refine pure_ (i := 5) (N := some 155) (v := ?_) (a' := ?_) (bm 9 63) rfl rfl (any_of HT_.out (by kernel_rfl)) (fun _ _ _ h => h) (Or.inl ⟨by rfl, ?_⟩) ?_ ?_
          rotate_left
          · intro w'
            go_simp
            with_reducible rfl
          rotate_left
          · simp only [Act.put, List.setIfInBounds_toArray, List.set_cons_zero, List.set_cons_succ, i64_w, i32_w]
            rfl
          refine one_ (i := 6) (N := some 14) (bm 9 127) rfl rfl (one_of HT_.out (by kernel_rfl)) (by decide) (fun K hK => ?_)
          refine value_ (w1 := ?_) (v := ?_) (by rfl) rfl ?_ ?_
          rotate_left 2
          · go_simp
            constructor
            · rfl
            · rfl
          replace H := H.newbox rfl (blk_new _ (.cells #[.bool false, .slice none 0 0, .bool false, .slice none 0 0] 51 (0, 0))) (below_alloc (Below.refl _ _) _)
          refine hK.out _ _ ⟨H.cell m3 0, H.cell m3 1, H.cell m3 2, H.cell m3 3⟩ (fun hQ => ?_)
          clear hK K
          refine norm_ (a' := ?_) ?_ ?_
          rotate_left
          · show Act.put _ (some 14) _ = _
            simp only [Act.put, List.setIfInBounds_toArray, List.set_cons_zero, List.set_cons_succ, i64_w, i32_w]
            rfl
          exact norm_ (by simp only [putAll, Act.put, List.setIfInBounds_toArray, List.set_cons_zero, List.set_cons_succ]; try rfl) (hCont ⟨A209, c210, A211, c212, A234, c235, A236, c237, _⟩ _ H)
        · skip
          refine value_ (w1 := ?_) (v := ?_) (by rfl) rfl ?_ ?_
          rotate_left 2
          · go_simp
            constructor
            · rfl
            · rfl
          replace H := H.newbox rfl (blk_new _ (.cells #[.bool false, .slice none 0 0, .bool false, .slice none 0 0] 51 (0, 0))) (below_alloc (Below.refl _ _) _)
          refine hK.out _ _ ⟨H.cell m3 0, H.cell m3 1, H.cell m3 2, H.cell m3 3⟩ (fun hQ => ?_)
          clear hK K
          refine norm_ (a' := ?_) ?_ ?_
          rotate_left
          · show Act.put _ (some 14) _ = _
            simp only [Act.put, List.setIfInBounds_toArray, List.set_cons_zero, List.set_cons_succ, i64_w, i32_w]
            rfl
          refine one_ (i := 2) (N := some 153) (bm 9 71) rfl rfl (one_of HT_.out (by kernel_rfl)) (by decide) (fun K hK => ?_)
          refine goes_ Try.func52 (by kernel_rfl) rfl #[.agg #[.bool (ng x18), .slice A209 (ln x18) c210, .bool (ng y18), .slice A211 (ln y18) c212], .agg #[.bool (ng p), .slice A14 (ln p) c15, .bool (ng q), .slice A16 (ln q) c17]] (by rfl) rfl rfl (by simp only [List.map_toArray, List.map_cons, List.map_nil]; try rfl) ?_
          with_reducible refine (DivR (H.row _ m1) (H.row _ m0) (H.row _ (mt (mt (mt (mt (mt (mt (mt (mt (mt (mt (mt (mt (mt (mt (mt (mt (mt (mt (mt (mt (mt (mt (mt (mt (mt (mt (mt (mt (mt (mt (mt (mt (mt (mt (mt (mt (mt (mt (mt (mt (mt (mt (mt (mt (mt (mt (mt (mt (mt m10)))))))))))))))))))))))))))))))))))))))))))))))))) (H.row _ (mt (mt (mt (mt (mt (mt (mt (mt (mt (mt (mt (mt (mt (mt (mt (mt (mt (mt (mt (mt (mt (mt (mt (mt (mt (mt (mt (mt (mt (mt (mt (mt (mt (mt (mt (mt (mt (mt (mt (mt (mt (mt (mt (mt (mt (mt (mt (mt m10))))))))))))))))))))))))))))))))))))))))))))))))) (limR bx18.out (by decide)) (limR by18.out (by decide)) (limR bp.out (by decide)) (limR bq.out (by decide)) x31 y31 0 hv31.out).mono ?_
          rintro e w233 ⟨A234, c235, A236, c237, rfl, hr, hr2, hb⟩
          replace H := (H.got hr hb).more ((H.got hr2 hb).row _ m0)
          clear hr hr2 hb
          refine ⟨_, rfl, ?_⟩
          refine hK.out _ _ ⟨H.cell m3 0, H.cell m3 1, H.cell m3 2, H.cell m3 3⟩ (fun hQ => ?_)
          clear hK K
          refine norm_ (a' := ?_) ?_ ?_
          rotate_left
          · show Act.put _ (some 153) _ = _
            simp only [Act.put, List.setIfInBounds_toArray, List.set_cons_zero, List.set_cons_succ, i64_w, i32_w]
            rfl
          refine pure_ (i := 3) (N := some 150) (v := ?_) (a' := ?_) (bm 9 79) rfl rfl (any_of HT_.out (by kernel_rfl)) (fun _ _ _ h => h) (Or.inl ⟨by rfl, ?_⟩) ?_ ?_
          rotate_left
          · intro w'
            go_simp
            with_reducible rfl
          rotate_left
          · simp only [Act.put, List.setIfInBounds_toArray, List.set_cons_zero, List.set_cons_succ, i64_w, i32_w]
            rfl
          refine pure_ (i := 4) (N := some 154) (v := ?_) (a' := ?_) (bm 9 95) rfl rfl (any_of HT_.out (by kernel_rfl)) (fun _ _ _ h => h) (Or.inl ⟨by rfl, ?_⟩) ?_ ?_
          rotate_left
          · intro w'
            go_simp
            with_reducible rfl
          rotate_left
          · simp only [Act.put, List.setIfInBounds_toArray, List.set_cons_zero, List.set_cons_succ, i64_w, i32_w]
            rfl
          refine pure_ (i := 5) (N := some 155) (v := ?_) (a' := ?_) (bm 9 127) rfl rfl (any_of HT_.out (by kernel_rfl)) (fun _ _ _ h => h) (Or.inl ⟨by rfl, ?_⟩) ?_ ?_
          rotate_left
          · intro w'
            go_simp
            with_reducible rfl
          rotate_left
          · simp only [Act.put, List.setIfInBounds_toArray, List.set_cons_zero, List.set_cons_succ, i64_w, i32_w]
            rfl
          exact norm_ (by simp only [putAll, Act.put, List.setIfInBounds_toArray, List.set_cons_zero, List.set_cons_succ]; try rfl) (hCont ⟨A209, c210, A211, c212, A234, c235, A236, c237, _⟩ _ H)
      · skip
        refine value_ (w1 := ?_) (v := ?_) (by rfl) rfl ?_ ?_
        rotate_left 2
        · go_simp
          constructor
          · rfl
          · rfl
        replace H := H.newbox rfl (blk_new _ (.cells #[.bool false, .slice none 0 0, .bool false, .slice none 0 0] 51 (0, 0))) (below_alloc (Below.refl _ _) _)
        refine hK.out _ _ ⟨H.cell m3 0, H.cell m3 1, H.cell m3 2, H.cell m3 3⟩ (fun hQ => ?_)
        clear hK K
        refine norm_ (a' := ?_) ?_ ?_
        rotate_left
        · show Act.put _ (some 14) _ = _
          simp only [Act.put, List.setIfInBounds_toArray, List.set_cons_zero, List.set_cons_succ, i64_w, i32_w]
          rfl
        refine one_ (i := 0) (N := some 151) (bm 9 67) rfl rfl (one_of HT_.out (by kernel_rfl)) (by decide) (fun K hK => ?_)
        refine goes_ Try.func44 (by kernel_rfl) rfl #[.int .i64 1] (by rfl) rfl rfl (by simp only [List.map_toArray, List.map_cons, List.map_nil]; try rfl) ?_
        with_reducible refine (OfR _ 1 x18 y18 hv18.out).mono ?_
        rintro e w208 ⟨A209, c210, A211, c212, rfl, hr, hr2, hb⟩
        replace H := (H.got (fresh_row hr) hb).more ((H.got (fresh_row hr2) hb).row _ m0)
        clear hr hr2 hb
        refine ⟨_, rfl, ?_⟩
        refine hK.out _ _ ⟨H.cell m3 0, H.cell m3 1, H.cell m3 2, H.cell m3 3⟩ (fun hQ => ?_)
        clear hK K
        refine norm_ (a' := ?_) ?_ ?_
        rotate_left
        · show Act.put _ (some 151) _ = _
          simp only [Act.put, List.setIfInBounds_toArray, List.set_cons_zero, List.set_cons_succ, i64_w, i32_w]
          rfl
        refine one_ (i := 2) (N := some 153) (bm 9 71) rfl rfl (one_of HT_.out (by kernel_rfl)) (by decide) (fun K hK => ?_)
        refine goes_ Try.func52 (by kernel_rfl) rfl #[.agg #[.bool (ng x18), .slice A209 (ln x18) c210, .bool (ng y18), .slice A211 (ln y18) c212], .agg #[.bool (ng p), .slice A14 (ln p) c15, .bool (ng q), .slice A16 (ln q) c17]] (by rfl) rfl rfl (by simp only [List.map_toArray, List.map_cons, List.map_nil]; try rfl) ?_
        with_reducible refine (DivR (H.row _ m1) (H.row _ m0) (H.row _ (mt (mt (mt (mt (mt (mt (mt (mt (mt (mt (mt (mt (mt (mt (mt (mt (mt (mt (mt (mt (mt (mt (mt (mt (mt (mt (mt (mt (mt (mt (mt (mt (mt (mt (mt (mt (mt (mt (mt (mt (mt (mt (mt (mt (mt (mt (mt (mt (mt m10)))))))))))))))))))))))))))))))))))))))))))))))))) (H.row _ (mt (mt (mt (mt (mt (mt (mt (mt (mt (mt (mt (mt (mt (mt (mt (mt (mt (mt (mt (mt (mt (mt (mt (mt (mt (mt (mt (mt (mt (mt (mt (mt (mt (mt (mt (mt (mt (mt (mt (mt (mt (mt (mt (mt (mt (mt (mt (mt m10))))))))))))))))))))))))))))))))))))))))))))))))) (limR bx18.out (by decide)) (limR by18.out (by decide)) (limR bp.out (by decide)) (limR bq.out (by decide)) x31 y31 0 hv31.out).mono ?_
        rintro e w233 ⟨A234, c235, A236, c237, rfl, hr, hr2, hb⟩
        replace H := (H.got hr hb).more ((H.got hr2 hb).row _ m0)
        clear hr hr2 hb
        refine ⟨_, rfl, ?_⟩
        refine hK.out _ _ ⟨H.cell m3 0, H.cell m3 1, H.cell m3 2, H.cell m3 3⟩ (fun hQ => ?_)
        clear hK K
        refine norm_ (a' := ?_) ?_ ?_
        rotate_left
        · show Act.put _ (some 153) _ = _
          simp only [Act.put, List.setIfInBounds_toArray, List.set_cons_zero, List.set_cons_succ, i64_w, i32_w]
          rfl
        refine pure_ (i := 3) (N := some 150) (v := ?_) (a' := ?_) (bm 9 79) rfl rfl (any_of HT_.out (by kernel_rfl)) (fun _ _ _ h => h) (Or.inl ⟨by rfl, ?_⟩) ?_ ?_
        rotate_left
        · intro w'
          go_simp
          with_reducible rfl
        rotate_left
        · simp only [Act.put, List.setIfInBounds_toArray, List.set_cons_zero, List.set_cons_succ, i64_w, i32_w]
          rfl
        refine pure_ (i := 4) (N := some 154) (v := ?_) (a' := ?_) (bm 9 95) rfl rfl (any_of HT_.out (by kernel_rfl)) (fun _ _ _ h => h) (Or.inl ⟨by rfl, ?_⟩) ?_ ?_
        rotate_left
        · intro w'
          go_simp
          with_reducible rfl
        rotate_left
        · simp only [Act.put, List.setIfInBounds_toArray, List.set_cons_zero, List.set_cons_succ, i64_w, i32_w]
          rfl
        refine pure_ (i := 5) (N := some 155) (v := ?_) (a' := ?_) (bm 9 127) rfl rfl (any_of HT_.out (by kernel_rfl)) (fun _ _ _ h => h) (Or.inl ⟨by rfl, ?_⟩) ?_ ?_
        rotate_left
        · intro w'
          go_simp
          with_reducible rfl
        rotate_left
        · simp only [Act.put, List.setIfInBounds_toArray, List.set_cons_zero, List.set_cons_succ, i64_w, i32_w]
          rfl
        exact norm_ (by simp only [putAll, Act.put, List.setIfInBounds_toArray, List.set_cons_zero, List.set_cons_succ]; try rfl) (hCont ⟨A209, c210, A211, c212, A234, c235, A236, c237, _⟩ _ H)
    rintro ⟨A209, c210, A211, c212, A234, c235, A236, c237, g14⟩ wF H
    clear hQ
    have hQ := (show wF.cell? ⟨g8, 0, none⟩ = some (.bool (ng p)) ∧ wF.cell? ⟨g8, 1, none⟩ = some (.slice A14 (ln p) c15) ∧ wF.cell? ⟨g8, 2, none⟩ = some (.bool (ng q)) ∧ wF.cell? ⟨g8, 3, none⟩ = some (.slice A16 (ln q) c17) from ⟨H.cell m3 0, H.cell m3 1, H.cell m3 2, H.cell m3 3⟩)
    refine norm_ (a' := ?_) ?_ ?_
    rotate_left
    · simp only [putAll, Act.put, List.setIfInBounds_toArray, List.set_cons_zero, List.set_cons_succ]
      rfl
    refine last_ (i := 7) (N := none) (bm 9 255) rfl rfl (one_of HT_.out (by kernel_rfl)) (by decide) (fun K hK => ?_)
    obtain ⟨k14_0, z14_0, k14_1, z14_1, k14_2, z14_2, k14_3, z14_3⟩ := H.b4 (g := g14) m0
    obtain ⟨k8_0, z8_0, k8_1, z8_1, k8_2, z8_2, k8_3, z8_3⟩ := H.b4 (g := g8) m3
    refine skip_ (w1 := ?_) (by rfl) rfl ?_ ?_
    rotate_left
    · go_simp
      rfl
    refine hK.out _ _ ?_
    clear hK K
    refine pure_ (i := 8) (N := some 15) (v := ?_) (a' := ?_) (bm 9 511) rfl rfl (any_of HT_.out (by kernel_rfl)) (fun _ _ _ h => h) (Or.inl ⟨by rfl, ?_⟩) ?_ ?_
    rotate_left
    · intro w'
      go_simp
      with_reducible rfl
    rotate_left
    · simp only [Act.put, List.setIfInBounds_toArray, List.set_cons_zero, List.set_cons_succ, i64_w, i32_w]
      rfl
    refine done_ (done_of HT_.out (by kernel_rfl)) ?_
    try clear hQ
    replace H := H.set4 [] (.bool (ng x31)) (.slice A234 (ln x31) c235) (.bool (ng y31)) (.slice A236 (ln y31) c237)
    clear k14_0 z14_0 k14_1 z14_1 k14_2 z14_2 k14_3 z14_3 k8_0 z8_0 k8_1 z8_1 k8_2 z8_2 k8_3 z8_3
    generalize ((((wF.setCell ⟨g14, 0, none⟩ (.bool (ng x31))).setCell ⟨g14, 1, none⟩ (.slice A234 (ln x31) c235)).setCell ⟨g14, 2, none⟩ (.bool (ng y31))).setCell ⟨g14, 3, none⟩ (.slice A236 (ln y31) c237)) = w278 at H ⊢
    obtain ⟨k14_0, z14_0, k14_1, z14_1, k14_2, z14_2, k14_3, z14_3⟩ := H.b4 (g := g14) m0
    obtain ⟨k12_0, z12_0, k12_1, z12_1, k12_2, z12_2, k12_3, z12_3⟩ := H.b4 (g := g12) m1
    obtain ⟨k10_0, z10_0, k10_1, z10_1, k10_2, z10_2, k10_3, z10_3⟩ := H.b4 (g := g10) m2
    obtain ⟨k8_0, z8_0, k8_1, z8_1, k8_2, z8_2, k8_3, z8_3⟩ := H.b4 (g := g8) m3
    obtain ⟨k7_0, z7_0, k7_1, z7_1, k7_2, z7_2, k7_3, z7_3⟩ := H.b4 (g := g7) m4
    go_upto_region 17 with fail
    (try simp only [Act.put, List.setIfInBounds_toArray, List.set_cons_zero, List.set_cons_succ])
    clear k14_0 z14_0 k14_1 z14_1 k14_2 z14_2 k14_3 z14_3 k12_0 z12_0 k12_1 z12_1 k12_2 z12_2 k12_3 z12_3 k10_0 z10_0 k10_1 z10_1 k10_2 z10_2 k10_3 z10_3 k8_0 z8_0 k8_1 z8_1 k8_2 z8_2 k8_3 z8_3 k7_0 z7_0 k7_1 z7_1 k7_2 z7_2 k7_3 z7_3
    replace H := H.drew
    refine start_ (n := 21) (S := fun w' => w'.cell? ⟨g12, 0, none⟩ = some (.bool (ng x30)) ∧ w'.cell? ⟨g12, 1, none⟩ = some (.slice A179 (ln x30) c180) ∧ w'.cell? ⟨g12, 2, none⟩ = some (.bool (ng y30)) ∧ w'.cell? ⟨g12, 3, none⟩ = some (.slice A181 (ln y30) c182) ∧ w'.cell? ⟨g8, 0, none⟩ = some (.bool (ng p)) ∧ w'.cell? ⟨g8, 1, none⟩ = some (.slice A14 (ln p) c15) ∧ w'.cell? ⟨g8, 2, none⟩ = some (.bool (ng q)) ∧ w'.cell? ⟨g8, 3, none⟩ = some (.slice A16 (ln q) c17) ∧ w'.cell? ⟨g7, 0, none⟩ = some (.bool (ng n)) ∧ w'.cell? ⟨g7, 1, none⟩ = some (.slice A10 (ln n) c11) ∧ w'.cell? ⟨g7, 2, none⟩ = some (.bool (ng d)) ∧ w'.cell? ⟨g7, 3, none⟩ = some (.slice A12 (ln d) c13) ∧ w'.cell? ⟨g14, 0, none⟩ = some (.bool (ng x31)) ∧ w'.cell? ⟨g14, 1, none⟩ = some (.slice A234 (ln x31) c235) ∧ w'.cell? ⟨g14, 2, none⟩ = some (.bool (ng y31)) ∧ w'.cell? ⟨g14, 3, none⟩ = some (.slice A236 (ln y31) c237)) (ds := []) #[false, false, false, false, false, false, false, false, false, false, false, false, false, false, false, false, false, false, false, false, false] (by kernel_rfl) rfl rfl ⟨H.cell m1 0, H.cell m1 1, H.cell m1 2, H.cell m1 3, H.cell m3 0, H.cell m3 1, H.cell m3 2, H.cell m3 3, H.cell m4 0, H.cell m4 1, H.cell m4 2, H.cell m4 3, H.cell m0 0, H.cell m0 1, H.cell m0 2, H.cell m0 3⟩ (fun hQ => ?_)
    generalize w278.drew = w279 at H hQ ⊢
    refine with_tabW tb21.tab17 tb21.bits17 (fun HT_ HW_ => ?_)
    refine pure_ (i := 0) (N := some 156) (v := ?_) (a' := ?_) (bm 21 1) rfl rfl (any_of HT_.out (by kernel_rfl)) (fun _ _ _ h => h) (Or.inl ⟨by rfl, ?_⟩) ?_ ?_
    rotate_left
    · intro w'
      go_simp
      with_reducible rfl
    rotate_left
    · simp only [Act.put, List.setIfInBounds_toArray, List.set_cons_zero, List.set_cons_succ, i64_w, i32_w]
      rfl
    refine pure_ (i := 1) (N := some 157) (v := ?_) (a' := ?_) (bm 21 3) rfl rfl (any_of HT_.out (by kernel_rfl)) (fun _ _ _ h => h) (Or.inl ⟨by rfl, ?_⟩) ?_ ?_
    rotate_left
    · intro w'
      go_simp
      with_reducible rfl
    rotate_left
    · simp only [Act.put, List.setIfInBounds_toArray, List.set_cons_zero, List.set_cons_succ, i64_w, i32_w]
      rfl
    refine pure_ (i := 2) (N := some 158) (v := ?_) (a' := ?_) (bm 21 7) rfl rfl (any_of HT_.out (by kernel_rfl)) (fun _ _ _ h => h) (Or.inl ⟨by rfl, ?_⟩) ?_ ?_
    rotate_left
    · intro w'
      go_simp
      with_reducible rfl
    rotate_left
    · simp only [Act.put, List.setIfInBounds_toArray, List.set_cons_zero, List.set_cons_succ, i64_w, i32_w]
      rfl
    refine pure_ (i := 3) (N := some 159) (v := ?_) (a' := ?_) (bm 21 15) rfl rfl (any_of HT_.out (by kernel_rfl)) (fun _ _ _ h => h) (Or.inl ⟨by rfl, ?_⟩) ?_ ?_
    rotate_left
    · intro w'
      go_simp
      with_reducible rfl
    rotate_left
    · simp only [Act.put, List.setIfInBounds_toArray, List.set_cons_zero, List.set_cons_succ, i64_w, i32_w]
      rfl
    refine pure_ (i := 4) (N := some 160) (v := ?_) (a' := ?_) (bm 21 31) rfl rfl (any_of HT_.out (by kernel_rfl)) (fun _ _ _ h => h) (Or.inl ⟨by rfl, ?_⟩) ?_ ?_
    rotate_left
    · intro w'
      go_simp
      with_reducible rfl
    rotate_left
    · simp only [Act.put, List.setIfInBounds_toArray, List.set_cons_zero, List.set_cons_succ, i64_w, i32_w]
      rfl
    refine pure_ (i := 5) (N := some 161) (v := ?_) (a' := ?_) (bm 21 63) rfl rfl (any_of HT_.out (by kernel_rfl)) (fun _ _ _ h => h) (Or.inl ⟨by rfl, ?_⟩) ?_ ?_
    rotate_left
    · intro w'
      go_simp
      with_reducible rfl
    rotate_left
    · simp only [Act.put, List.setIfInBounds_toArray, List.set_cons_zero, List.set_cons_succ, i64_w, i32_w]
      rfl
    refine pure_ (i := 6) (N := some 162) (v := ?_) (a' := ?_) (bm 21 127) rfl rfl (any_of HT_.out (by kernel_rfl)) (fun _ _ _ h => h) (Or.inl ⟨by rfl, ?_⟩) ?_ ?_
    rotate_left
    · intro w'
      go_simp
      with_reducible rfl
    rotate_left
    · simp only [Act.put, List.setIfInBounds_toArray, List.set_cons_zero, List.set_cons_succ, i64_w, i32_w]
      rfl
    refine take_ (i := 7) (N := some 163) (v := ?_) (a' := ?_) (bm 21 255) rfl rfl (take_ofW HT_.out HW_.out (by kernel_rfl)) (fun _ _ _ h => h) (Or.inl ⟨by rfl, ?_⟩) hQ ?_ ?_
    rotate_left
    · rintro w' ⟨s0, s1, s2, s3, s4, s5, s6, s7, s8, s9, s10, s11, s12, s13, s14, s15⟩
      go_simp
      with_reducible rfl
    rotate_left
    · simp only [Act.put, List.setIfInBounds_toArray, List.set_cons_zero, List.set_cons_succ, i64_w, i32_w]
      rfl
    refine take_ (i := 8) (N := some 164) (v := ?_) (a' := ?_) (bm 21 511) rfl rfl (take_ofW HT_.out HW_.out (by kernel_rfl)) (fun _ _ _ h => h) (Or.inl ⟨by rfl, ?_⟩) hQ ?_ ?_
    rotate_left
    · rintro w' ⟨s0, s1, s2, s3, s4, s5, s6, s7, s8, s9, s10, s11, s12, s13, s14, s15⟩
      go_simp
      with_reducible rfl
    rotate_left
    · simp only [Act.put, List.setIfInBounds_toArray, List.set_cons_zero, List.set_cons_succ, i64_w, i32_w]
      rfl
    refine take_ (i := 10) (N := some 166) (v := ?_) (a' := ?_) (bm 21 1535) rfl rfl (take_ofW HT_.out HW_.out (by kernel_rfl)) (fun _ _ _ h => h) (Or.inl ⟨by rfl, ?_⟩) hQ ?_ ?_
    rotate_left
    · rintro w' ⟨s0, s1, s2, s3, s4, s5, s6, s7, s8, s9, s10, s11, s12, s13, s14, s15⟩
      go_simp
      with_reducible rfl
    rotate_left
    · simp only [Act.put, List.setIfInBounds_toArray, List.set_cons_zero, List.set_cons_succ, i64_w, i32_w]
      rfl
    refine one_ (i := 9) (N := some 165) (bm 21 2047) rfl rfl (one_of HT_.out (by kernel_rfl)) (by decide) (fun K hK => ?_)
    refine goes_ Try.func42 (by kernel_rfl) rfl #[.agg #[.bool (ng x30), .slice A179 (ln x30) c180, .bool (ng y30), .slice A181 (ln y30) c182], .agg #[.bool (ng p), .slice A14 (ln p) c15, .bool (ng q), .slice A16 (ln q) c17]] (by rfl) rfl rfl (by simp only [List.map_toArray, List.map_cons, List.map_nil]; try rfl) ?_
    with_reducible refine (MulR (H.row _ m5) (H.row _ m4) (H.row _ (mt (mt (mt (mt (mt (mt (mt (mt (mt (mt (mt (mt (mt (mt (mt (mt (mt (mt (mt (mt (mt (mt (mt (mt (mt (mt (mt (mt (mt (mt (mt (mt (mt (mt (mt (mt (mt (mt (mt (mt (mt (mt (mt (mt (mt (mt (mt (mt (mt (mt (mt m10)))))))))))))))))))))))))))))))))))))))))))))))))))) (H.row _ (mt (mt (mt (mt (mt (mt (mt (mt (mt (mt (mt (mt (mt (mt (mt (mt (mt (mt (mt (mt (mt (mt (mt (mt (mt (mt (mt (mt (mt (mt (mt (mt (mt (mt (mt (mt (mt (mt (mt (mt (mt (mt (mt (mt (mt (mt (mt (mt (mt (mt m10))))))))))))))))))))))))))))))))))))))))))))))))))) (limR bx30.out (by decide)) (limR by30.out (by decide)) (limR bp.out (by decide)) (limR bq.out (by decide)) x32 y32 hv32.out).mono ?_
    rintro e w280 ⟨A281, c282, A283, c284, rfl, hr, hr2, hb⟩
    replace H := (H.got hr hb).more ((H.got hr2 hb).row _ m0)
    clear hr hr2 hb
    refine ⟨_, rfl, ?_⟩
    refine hK.out _ _ ⟨H.cell m1 0, H.cell m1 1, H.cell m1 2, H.cell m1 3, H.cell m3 0, H.cell m3 1, H.cell m3 2, H.cell m3 3, H.cell m4 0, H.cell m4 1, H.cell m4 2, H.cell m4 3, H.cell m0 0, H.cell m0 1, H.cell m0 2, H.cell m0 3⟩ (fun hQ => ?_)
    clear hK K
    refine norm_ (a' := ?_) ?_ ?_
    rotate_left
    · show Act.put _ (some 165) _ = _
      simp only [Act.put, List.setIfInBounds_toArray, List.set_cons_zero, List.set_cons_succ, i64_w, i32_w]
      rfl
    refine one_ (i := 11) (N := some 167) (bm 21 4095) rfl rfl (one_of HT_.out (by kernel_rfl)) (by decide) (fun K hK => ?_)
    refine goes_ Try.func40 (by kernel_rfl) rfl #[.agg #[.bool (ng x32), .slice A281 (ln x32) c282, .bool (ng y32), .slice A283 (ln y32) c284], .agg #[.bool (ng n), .slice A10 (ln n) c11, .bool (ng d), .slice A12 (ln d) c13]] (by rfl) rfl rfl (by simp only [List.map_toArray, List.map_cons, List.map_nil]; try rfl) ?_
    with_reducible refine (Same_t (H.row _ m1) (H.row _ m0) (H.row _ (mt (mt (mt (mt (mt (mt (mt (mt (mt (mt (mt (mt (mt (mt (mt (mt (mt (mt (mt (mt (mt (mt (mt (mt (mt (mt (mt (mt (mt (mt (mt (mt (mt (mt (mt (mt (mt (mt (mt (mt (mt (mt (mt (mt (mt (mt (mt (mt (mt (mt (mt (mt (mt (mt (mt m10)))))))))))))))))))))))))))))))))))))))))))))))))))))))) (H.row _ (mt (mt (mt (mt (mt (mt (mt (mt (mt (mt (mt (mt (mt (mt (mt (mt (mt (mt (mt (mt (mt (mt (mt (mt (mt (mt (mt (mt (mt (mt (mt (mt (mt (mt (mt (mt (mt (mt (mt (mt (mt (mt (mt (mt (mt (mt (mt (mt (mt (mt (mt (mt (mt (mt m10))))))))))))))))))))))))))))))))))))))))))))))))))))))) (limR bx32.out (by decide)) (limR by32.out (by decide)) (limR bn.out (by decide)) (limR bd.out (by decide)) (same1 eV32_x.out) (same2 eV32_x.out)).mono ?_
    rintro e w285 ⟨rfl, hb⟩
    replace H := H.call hb
    clear hb
    refine ⟨_, rfl, ?_⟩
    refine hK.out _ _ ⟨H.cell m1 0, H.cell m1 1, H.cell m1 2, H.cell m1 3, H.cell m3 0, H.cell m3 1, H.cell m3 2, H.cell m3 3, H.cell m4 0, H.cell m4 1, H.cell m4 2, H.cell m4 3, H.cell m0 0, H.cell m0 1, H.cell m0 2, H.cell m0 3⟩ (fun hQ => ?_)
    clear hK K
    refine norm_ (a' := ?_) ?_ ?_
    rotate_left
    · show Act.put _ (some 167) _ = _
      simp only [Act.put, List.setIfInBounds_toArray, List.set_cons_zero, List.set_cons_succ, i64_w, i32_w]
      rfl
    refine pure_ (i := 12) (N := some 168) (v := ?_) (a' := ?_) (bm 21 8191) rfl rfl (any_of HT_.out (by kernel_rfl)) (fun _ _ _ h => h) (Or.inl ⟨by rfl, ?_⟩) ?_ ?_
    rotate_left
    · intro w'
      go_simp
      with_reducible rfl
    rotate_left
    · simp only [Act.put, List.setIfInBounds_toArray, List.set_cons_zero, List.set_cons_succ, i64_w, i32_w]
      rfl
    refine pure_ (i := 13) (N := some 169) (v := ?_) (a' := ?_) (bm 21 16383) rfl rfl (any_of HT_.out (by kernel_rfl)) (fun _ _ _ h => h) (Or.inl ⟨by rfl, ?_⟩) ?_ ?_
    rotate_left
    · intro w'
      go_simp
      with_reducible rfl
    rotate_left
    · simp only [Act.put, List.setIfInBounds_toArray, List.set_cons_zero, List.set_cons_succ, i64_w, i32_w]
      rfl
    refine take_ (i := 14) (N := some 170) (v := ?_) (a' := ?_) (bm 21 32767) rfl rfl (take_ofW HT_.out HW_.out (by kernel_rfl)) (fun _ _ _ h => h) (Or.inl ⟨by rfl, ?_⟩) hQ ?_ ?_
    rotate_left
    · rintro w' ⟨s0, s1, s2, s3, s4, s5, s6, s7, s8, s9, s10, s11, s12, s13, s14, s15⟩
      go_simp
      with_reducible rfl
    rotate_left
    · simp only [Act.put, List.setIfInBounds_toArray, List.set_cons_zero, List.set_cons_succ, i64_w, i32_w]
      rfl
    refine take_ (i := 15) (N := some 171) (v := ?_) (a' := ?_) (bm 21 65535) rfl rfl (take_ofW HT_.out HW_.out (by kernel_rfl)) (fun _ _ _ h => h) (Or.inl ⟨by rfl, ?_⟩) hQ ?_ ?_
    rotate_left
    · rintro w' ⟨s0, s1, s2, s3, s4, s5, s6, s7, s8, s9, s10, s11, s12, s13, s14, s15⟩
      go_simp
      with_reducible rfl
    rotate_left
    · simp only [Act.put, List.setIfInBounds_toArray, List.set_cons_zero, List.set_cons_succ, i64_w, i32_w]
      rfl
    refine take_ (i := 16) (N := some 172) (v := ?_) (a' := ?_) (bm 21 131071) rfl rfl (take_ofW HT_.out HW_.out (by kernel_rfl)) (fun _ _ _ h => h) (Or.inl ⟨by rfl, ?_⟩) hQ ?_ ?_
    rotate_left
    · rintro w' ⟨s0, s1, s2, s3, s4, s5, s6, s7, s8, s9, s10, s11, s12, s13, s14, s15⟩
      go_simp
      with_reducible rfl
    rotate_left
    · simp only [Act.put, List.setIfInBounds_toArray, List.set_cons_zero, List.set_cons_succ, i64_w, i32_w]
      rfl
    refine one_ (i := 17) (N := some 173) (bm 21 262143) rfl rfl (one_of HT_.out (by kernel_rfl)) (by decide) (fun K hK => ?_)
    refine goes_ Try.func42 (by kernel_rfl) rfl #[.agg #[.bool (ng n), .slice A10 (ln n) c11, .bool (ng d), .slice A12 (ln d) c13], .agg #[.bool (ng x31), .slice A234 (ln x31) c235, .bool (ng y31), .slice A236 (ln y31) c237]] (by rfl) rfl rfl (by simp only [List.map_toArray, List.map_cons, List.map_nil]; try rfl) ?_
    with_reducible refine (MulR (H.row _ (mt (mt (mt (mt (mt (mt (mt (mt (mt (mt (mt (mt (mt (mt (mt (mt (mt (mt (mt (mt (mt (mt (mt (mt (mt (mt (mt (mt (mt (mt (mt (mt (mt (mt (mt (mt (mt (mt (mt (mt (mt (mt (mt (mt (mt (mt (mt (mt (mt (mt (mt (mt (mt (mt (mt m10)))))))))))))))))))))))))))))))))))))))))))))))))))))))) (H.row _ (mt (mt (mt (mt (mt (mt (mt (mt (mt (mt (mt (mt (mt (mt (mt (mt (mt (mt (mt (mt (mt (mt (mt (mt (mt (mt (mt (mt (mt (mt (mt (mt (mt (mt (mt (mt (mt (mt (mt (mt (mt (mt (mt (mt (mt (mt (mt (mt (mt (mt (mt (mt (mt (mt m10))))))))))))))))))))))))))))))))))))))))))))))))))))))) (H.row _ m3) (H.row _ m2) (limR bn.out (by decide)) (limR bd.out (by decide)) (limR bx31.out (by decide)) (limR by31.out (by decide)) x33 y33 hv33.out).mono ?_
    rintro e w286 ⟨A287, c288, A289, c290, rfl, hr, hr2, hb⟩
    replace H := (H.got hr hb).more ((H.got hr2 hb).row _ m0)
    clear hr hr2 hb
    refine ⟨_, rfl, ?_⟩
    refine hK.out _ _ ⟨H.cell m1 0, H.cell m1 1, H.cell m1 2, H.cell m1 3, H.cell m3 0, H.cell m3 1, H.cell m3 2, H.cell m3 3, H.cell m4 0, H.cell m4 1, H.cell m4 2, H.cell m4 3, H.cell m0 0, H.cell m0 1, H.cell m0 2, H.cell m0 3⟩ (fun hQ => ?_)
    clear hK K
    refine norm_ (a' := ?_) ?_ ?_
    rotate_left
    · show Act.put _ (some 173) _ = _
      simp only [Act.put, List.setIfInBounds_toArray, List.set_cons_zero, List.set_cons_succ, i64_w, i32_w]
      rfl
    refine one_ (i := 18) (N := some 174) (bm 21 524287) rfl rfl (one_of HT_.out (by kernel_rfl)) (by decide) (fun K hK => ?_)
    refine goes_ Try.func40 (by kernel_rfl) rfl #[.agg #[.bool (ng x30), .slice A179 (ln x30) c180, .bool (ng y30), .slice A181 (ln y30) c182], .agg #[.bool (ng x33), .slice A287 (ln x33) c288, .bool (ng y33), .slice A289 (ln y33) c290]] (by rfl) rfl rfl (by simp only [List.map_toArray, List.map_cons, List.map_nil]; try rfl) ?_
    with_reducible refine (Same_t (H.row _ m9) (H.row _ m8) (H.row _ m1) (H.row _ m0) (limR bx30.out (by decide)) (limR by30.out (by decide)) (limR bx33.out (by decide)) (limR by33.out (by decide)) (same1 eV30_V33.out) (same2 eV30_V33.out)).mono ?_
    rintro e w291 ⟨rfl, hb⟩
    replace H := H.call hb
    clear hb
    refine ⟨_, rfl, ?_⟩
    refine hK.out _ _ ⟨H.cell m1 0, H.cell m1 1, H.cell m1 2, H.cell m1 3, H.cell m3 0, H.cell m3 1, H.cell m3 2, H.cell m3 3, H.cell m4 0, H.cell m4 1, H.cell m4 2, H.cell m4 3, H.cell m0 0, H.cell m0 1, H.cell m0 2, H.cell m0 3⟩ (fun hQ => ?_)
    clear hK K
    refine norm_ (a' := ?_) ?_ ?_
    rotate_left
    · show Act.put _ (some 174) _ = _
      simp only [Act.put, List.setIfInBounds_toArray, List.set_cons_zero, List.set_cons_succ, i64_w, i32_w]
      rfl
    refine pure_ (i := 19) (N := some 175) (v := ?_) (a' := ?_) (bm 21 1048575) rfl rfl (any_of HT_.out (by kernel_rfl)) (fun _ _ _ h => h) (Or.inl ⟨by rfl, ?_⟩) ?_ ?_
    rotate_left
    · intro w'
      go_simp
      with_reducible rfl
    rotate_left
    · simp only [Act.put, List.setIfInBounds_toArray, List.set_cons_zero, List.set_cons_succ, i64_w, i32_w]
      rfl
    refine pure_ (i := 20) (N := some 6) (v := ?_) (a' := ?_) (bm 21 2097151) rfl rfl (any_of HT_.out (by kernel_rfl)) (fun _ _ _ h => h) (Or.inl ⟨by rfl, ?_⟩) ?_ ?_
    rotate_left
    · intro w'
      go_simp
      with_reducible rfl
    rotate_left
    · simp only [Act.put, List.setIfInBounds_toArray, List.set_cons_zero, List.set_cons_succ, i64_w, i32_w]
      rfl
    refine done_ (done_of HT_.out (by kernel_rfl)) ?_
    try clear hQ
    go_wp2
    go_ret
    exact ⟨rfl, H.below⟩

theorem fld_walk (a b c : ByteArray) (w : World) : Calls Try.prog 21 #[.string a, .string b, .string c] w (fun e W' => e = .returned (.bool true) ∧ Below w.heap.size w W') := by
  by_cases la : 200 < (a.size : Int)
  · exact fld_la a b c w ⟨decide_eq_true la⟩
  by_cases lb : 200 < (b.size : Int)
  · exact fld_lb a b c w ⟨decide_eq_false la⟩ ⟨decide_eq_true lb⟩
  by_cases lc : 200 < (c.size : Int)
  · exact fld_lc a b c w ⟨decide_eq_false la⟩ ⟨decide_eq_false lb⟩ ⟨decide_eq_true lc⟩
  have la' := decide_eq_false la
  have lb' := decide_eq_false lb
  have lc' := decide_eq_false lc
  obtain ⟨⟨u, v, er⟩, hc⟩ : ∃ t, rp c = t := ⟨_, rfl⟩
  by_cases h : ∃ n d p q, BothR a b n d p q
  · obtain ⟨n, d, p, q, h⟩ := h
    by_cases he : er = 0
    · subst he
      obtain ⟨d0, gd, bn, bd⟩ := rpL h.1
      obtain ⟨q0, gq, bp, bq⟩ := rpL h.2
      obtain ⟨v0, gv, bu, bv⟩ := rpL hc
      have Lx := Lo.self d0 gd
      have Ly := Lo.self q0 gq
      have Lz := Lo.self v0 gv
      have bx : ln n ≤ 512 ∧ ln d ≤ 512 := ⟨bn, bd⟩
      have by' : ln p ≤ 512 ∧ ln q ≤ 512 := ⟨bp, bq⟩
      have bz : ln u ≤ 512 ∧ ln v ≤ 512 := ⟨bu, bv⟩
      have l0 : ln 0 ≤ 512 := Nat.zero_le _
      have l1 : ln 1 ≤ 512 := Nat.le_trans (ln_bound 1 1 (by decide)) (by decide)
      obtain ⟨x1, y1, hv1⟩ : ∃ x1 y1, qn (n * dd q + p * dd d) (dd d * dd q) = x1 ∧ qd (n * dd q + p * dd d) (dd d * dd q) = y1 := ⟨_, _, rfl, rfl⟩
      have bV1 : ln x1 ≤ 1025 ∧ ln y1 ≤ 1025 := bA2 bx.1 bx.2 by'.1 by'.2 (by decide) hv1
      have L1 := Lo.add Lx Ly hv1
      obtain ⟨x2, y2, hv2⟩ : ∃ x2 y2, qn (p * dd d + n * dd q) (dd q * dd d) = x2 ∧ qd (p * dd d + n * dd q) (dd q * dd d) = y2 := ⟨_, _, rfl, rfl⟩
      have bV2 : ln x2 ≤ 1025 ∧ ln y2 ≤ 1025 := bA2 by'.1 by'.2 bx.1 bx.2 (by decide) hv2
      have L2 := Lo.add Ly Lx hv2
      obtain ⟨x3, y3, hv3⟩ : ∃ x3 y3, qn (n * p) (dd d * dd q) = x3 ∧ qd (n * p) (dd d * dd q) = y3 := ⟨_, _, rfl, rfl⟩
      have bV3 : ln x3 ≤ 1025 ∧ ln y3 ≤ 1025 := bM2 bx.1 bx.2 by'.1 by'.2 (by decide) hv3
      have L3 := Lo.mul Lx Ly hv3
      obtain ⟨x4, y4, hv4⟩ : ∃ x4 y4, qn (p * n) (dd q * dd d) = x4 ∧ qd (p * n) (dd q * dd d) = y4 := ⟨_, _, rfl, rfl⟩
      have bV4 : ln x4 ≤ 1025 ∧ ln y4 ≤ 1025 := bM2 by'.1 by'.2 bx.1 bx.2 (by decide) hv4
      have L4 := Lo.mul Ly Lx hv4
      obtain ⟨x6, y6, hv6⟩ : ∃ x6 y6, qn (x1 * dd v + u * dd y1) (dd y1 * dd v) = x6 ∧ qd (x1 * dd v + u * dd y1) (dd y1 * dd v) = y6 := ⟨_, _, rfl, rfl⟩
      have bV6 : ln x6 ≤ 2051 ∧ ln y6 ≤ 2051 := bA2 bV1.1 bV1.2 (bUp bz (by decide : 512 ≤ 1025)).1 (bUp bz (by decide : 512 ≤ 1025)).2 (by decide) hv6
      have L6 := Lo.add L1 Lz hv6
      obtain ⟨x7, y7, hv7⟩ : ∃ x7 y7, qn (p * dd v + u * dd q) (dd q * dd v) = x7 ∧ qd (p * dd v + u * dd q) (dd q * dd v) = y7 := ⟨_, _, rfl, rfl⟩
      have bV7 : ln x7 ≤ 1025 ∧ ln y7 ≤ 1025 := bA2 by'.1 by'.2 bz.1 bz.2 (by decide) hv7
      have L7 := Lo.add Ly Lz hv7
      obtain ⟨x8, y8, hv8⟩ : ∃ x8 y8, qn (n * dd y7 + x7 * dd d) (dd d * dd y7) = x8 ∧ qd (n * dd y7 + x7 * dd d) (dd d * dd y7) = y8 := ⟨_, _, rfl, rfl⟩
      have bV8 : ln x8 ≤ 2051 ∧ ln y8 ≤ 2051 := bA2 (bUp bx (by decide : 512 ≤ 1025)).1 (bUp bx (by decide : 512 ≤ 1025)).2 bV7.1 bV7.2 (by decide) hv8
      have L8 := Lo.add Lx L7 hv8
      obtain ⟨x10, y10, hv10⟩ : ∃ x10 y10, qn (x3 * u) (dd y3 * dd v) = x10 ∧ qd (x3 * u) (dd y3 * dd v) = y10 := ⟨_, _, rfl, rfl⟩
      have bV10 : ln x10 ≤ 2051 ∧ ln y10 ≤ 2051 := bM2 bV3.1 bV3.2 (bUp bz (by decide : 512 ≤ 1025)).1 (bUp bz (by decide : 512 ≤ 1025)).2 (by decide) hv10
      have L10 := Lo.mul L3 Lz hv10
      obtain ⟨x11, y11, hv11⟩ : ∃ x11 y11, qn (p * u) (dd q * dd v) = x11 ∧ qd (p * u) (dd q * dd v) = y11 := ⟨_, _, rfl, rfl⟩
      have bV11 : ln x11 ≤ 1025 ∧ ln y11 ≤ 1025 := bM2 by'.1 by'.2 bz.1 bz.2 (by decide) hv11
      have L11 := Lo.mul Ly Lz hv11
      obtain ⟨x12, y12, hv12⟩ : ∃ x12 y12, qn (n * x11) (dd d * dd y11) = x12 ∧ qd (n * x11) (dd d * dd y11) = y12 := ⟨_, _, rfl, rfl⟩
      have bV12 : ln x12 ≤ 2051 ∧ ln y12 ≤ 2051 := bM2 (bUp bx (by decide : 512 ≤ 1025)).1 (bUp bx (by decide : 512 ≤ 1025)).2 bV11.1 bV11.2 (by decide) hv12
      have L12 := Lo.mul Lx L11 hv12
      obtain ⟨x14, y14, hv14⟩ : ∃ x14 y14, qn (n * x7) (dd d * dd y7) = x14 ∧ qd (n * x7) (dd d * dd y7) = y14 := ⟨_, _, rfl, rfl⟩
      have bV14 : ln x14 ≤ 2051 ∧ ln y14 ≤ 2051 := bM2 (bUp bx (by decide : 512 ≤ 1025)).1 (bUp bx (by decide : 512 ≤ 1025)).2 bV7.1 bV7.2 (by decide) hv14
      have L14 := Lo.mul Lx L7 hv14
      obtain ⟨x16, y16, hv16⟩ : ∃ x16 y16, qn (n * u) (dd d * dd v) = x16 ∧ qd (n * u) (dd d * dd v) = y16 := ⟨_, _, rfl, rfl⟩
      have bV16 : ln x16 ≤ 1025 ∧ ln y16 ≤ 1025 := bM2 bx.1 bx.2 bz.1 bz.2 (by decide) hv16
      have L16 := Lo.mul Lx Lz hv16
      obtain ⟨x17, y17, hv17⟩ : ∃ x17 y17, qn (x3 * dd y16 + x16 * dd y3) (dd y3 * dd y16) = x17 ∧ qd (x3 * dd y16 + x16 * dd y3) (dd y3 * dd y16) = y17 := ⟨_, _, rfl, rfl⟩
      have bV17 : ln x17 ≤ 2051 ∧ ln y17 ≤ 2051 := bA2 bV3.1 bV3.2 bV16.1 bV16.2 (by decide) hv17
      have L17 := Lo.add L3 L16 hv17
      have L19 : Lo 0 1 0 1 := ⟨by decide, by decide, by decide, rfl⟩
      have L18 : Lo 1 1 1 1 := ⟨by decide, by decide, by decide, rfl⟩
      obtain ⟨x20, y20, hv20⟩ : ∃ x20 y20, qn (n * dd 0 + 0 * dd d) (dd d * dd 0) = x20 ∧ qd (n * dd 0 + 0 * dd d) (dd d * dd 0) = y20 := ⟨_, _, rfl, rfl⟩
      have bV20 : ln x20 ≤ 1025 ∧ ln y20 ≤ 1025 := bA2 bx.1 bx.2 l0 l0 (by decide) hv20
      have L20 := Lo.add (q := 1) Lx L19 hv20
      obtain ⟨x21, y21, hv21⟩ : ∃ x21 y21, qn (n * 1) (dd d * dd 0) = x21 ∧ qd (n * 1) (dd d * dd 0) = y21 := ⟨_, _, rfl, rfl⟩
      have bV21 : ln x21 ≤ 1025 ∧ ln y21 ≤ 1025 := bM2 bx.1 bx.2 l1 l0 (by decide) hv21
      have L21 := Lo.mul (q := 1) Lx L18 hv21
      have LN22 := Lo.neg Lx ⟨rfl, rfl⟩
      have bV22 : ln (-n) ≤ 512 ∧ ln d ≤ 512 := ⟨by rw [ln_neg]; exact bx.1, bx.2⟩
      have LN25 := Lo.neg Ly ⟨rfl, rfl⟩
      have bV25 : ln (-p) ≤ 512 ∧ ln q ≤ 512 := ⟨by rw [ln_neg]; exact by'.1, by'.2⟩
      obtain ⟨x23, y23, hv23⟩ : ∃ x23 y23, qn (n * dd d + -n * dd d) (dd d * dd d) = x23 ∧ qd (n * dd d + -n * dd d) (dd d * dd d) = y23 := ⟨_, _, rfl, rfl⟩
      have bV23 : ln x23 ≤ 1025 ∧ ln y23 ≤ 1025 := bA2 bx.1 bx.2 bV22.1 bV22.2 (by decide) hv23
      have L23 := Lo.add Lx LN22 hv23
      obtain ⟨x24, y24, hv24⟩ : ∃ x24 y24, qn (n * dd q + -p * dd d) (dd d * dd q) = x24 ∧ qd (n * dd q + -p * dd d) (dd d * dd q) = y24 := ⟨_, _, rfl, rfl⟩
      have bV24 : ln x24 ≤ 1025 ∧ ln y24 ≤ 1025 := bS2 bx.1 bx.2 by'.1 by'.2 (by decide) hv24
      have L24 := Lo.sub Lx Ly hv24
      obtain ⟨x26, y26, hv26⟩ : ∃ x26 y26, qn (n * dd q + -p * dd d) (dd d * dd q) = x26 ∧ qd (n * dd q + -p * dd d) (dd d * dd q) = y26 := ⟨_, _, rfl, rfl⟩
      have bV26 : ln x26 ≤ 1025 ∧ ln y26 ≤ 1025 := bA2 bx.1 bx.2 bV25.1 bV25.2 (by decide) hv26
      have L26 := Lo.add Lx LN25 hv26
      have Hsg : sg x23 = 0 := by
        have : x23 = 0 ∧ y23 = 1 := Lo.uniq L23 L19 (by grind)
        rw [this.1]; rfl
      obtain ⟨x30, y30, hv30⟩ : ∃ x30 y30, qn (n * dd q) (dd d * p) = x30 ∧ qd (n * dd q) (dd d * p) = y30 := ⟨_, _, rfl, rfl⟩
      have bV30 : ln x30 ≤ 1025 ∧ ln y30 ≤ 1025 := bD2 bx.1 bx.2 by'.1 by'.2 (by decide) hv30
      obtain ⟨x31, y31, hv31⟩ : ∃ x31 y31, qn (1 * dd q) (dd 0 * p) = x31 ∧ qd (1 * dd q) (dd 0 * p) = y31 := ⟨_, _, rfl, rfl⟩
      have bV31 : ln x31 ≤ 1025 ∧ ln y31 ≤ 1025 := bD2 l1 l0 by'.1 by'.2 (by decide) hv31
      obtain ⟨x32, y32, hv32⟩ : ∃ x32 y32, qn (x30 * p) (dd y30 * dd q) = x32 ∧ qd (x30 * p) (dd y30 * dd q) = y32 := ⟨_, _, rfl, rfl⟩
      have bV32 : ln x32 ≤ 2051 ∧ ln y32 ≤ 2051 := bM2 bV30.1 bV30.2 (bUp by' (by decide : 512 ≤ 1025)).1 (bUp by' (by decide : 512 ≤ 1025)).2 (by decide) hv32
      obtain ⟨x33, y33, hv33⟩ : ∃ x33 y33, qn (n * x31) (dd d * dd y31) = x33 ∧ qd (n * x31) (dd d * dd y31) = y33 := ⟨_, _, rfl, rfl⟩
      have bV33 : ln x33 ≤ 2051 ∧ ln y33 ≤ 2051 := bM2 (bUp bx (by decide : 512 ≤ 1025)).1 (bUp bx (by decide : 512 ≤ 1025)).2 bV31.1 bV31.2 (by decide) hv33
      have pz : (sg p == 0) = false → p ≠ 0 := by
        intro h h0
        rw [h0] at h
        exact absurd h (by decide)
      have LD : p ≠ 0 → (x32 = n ∧ y32 = d) ∧ (x30 = x33 ∧ y30 = y33) := by
        intro hp
        have L30 := Lo.div Lx Ly hp hv30
        have L32 := Lo.mul L30 Ly hv32
        have L31 := Lo.div (d := 1) L18 Ly hp (by rw [show dd (1 : Int) = dd 0 from rfl]; exact hv31)
        have L33 := Lo.mul Lx L31 hv33
        exact ⟨Lo.uniq L32 Lx (by grind), Lo.uniq L30 L33 (by grind)⟩
      refine fld_t a b c w ⟨la'⟩ ⟨lb'⟩ ⟨lc'⟩ n d p q u v ⟨bn⟩ ⟨bd⟩ ⟨bp⟩ ⟨bq⟩ ⟨bu⟩ ⟨bv⟩ ⟨twoR_ok h⟩ ⟨hc⟩ x1 y1 x2 y2 x3 y3 x4 y4 x6 y6 x7 y7 x8 y8 x10 y10 x11 y11 x12 y12 x14 y14 x16 y16 x17 y17 0 0 x20 y20 1 0 x21 y21 (-n) d x23 y23 x24 y24 (-p) q x26 y26 x30 y30 x31 y31 x32 y32 x33 y33 _
        ⟨Nat.le_trans bV1.1 (by decide)⟩ ⟨Nat.le_trans bV1.2 (by decide)⟩ ⟨Nat.le_trans bV2.1 (by decide)⟩ ⟨Nat.le_trans bV2.2 (by decide)⟩ ⟨Nat.le_trans bV3.1 (by decide)⟩ ⟨Nat.le_trans bV3.2 (by decide)⟩ ⟨Nat.le_trans bV4.1 (by decide)⟩ ⟨Nat.le_trans bV4.2 (by decide)⟩ ⟨Nat.le_trans bV6.1 (by decide)⟩ ⟨Nat.le_trans bV6.2 (by decide)⟩ ⟨Nat.le_trans bV7.1 (by decide)⟩ ⟨Nat.le_trans bV7.2 (by decide)⟩ ⟨Nat.le_trans bV8.1 (by decide)⟩ ⟨Nat.le_trans bV8.2 (by decide)⟩ ⟨Nat.le_trans bV10.1 (by decide)⟩ ⟨Nat.le_trans bV10.2 (by decide)⟩ ⟨Nat.le_trans bV11.1 (by decide)⟩ ⟨Nat.le_trans bV11.2 (by decide)⟩ ⟨Nat.le_trans bV12.1 (by decide)⟩ ⟨Nat.le_trans bV12.2 (by decide)⟩ ⟨Nat.le_trans bV14.1 (by decide)⟩ ⟨Nat.le_trans bV14.2 (by decide)⟩ ⟨Nat.le_trans bV16.1 (by decide)⟩ ⟨Nat.le_trans bV16.2 (by decide)⟩ ⟨Nat.le_trans bV17.1 (by decide)⟩ ⟨Nat.le_trans bV17.2 (by decide)⟩ ⟨Nat.zero_le _⟩ ⟨Nat.zero_le _⟩ ⟨Nat.le_trans bV20.1 (by decide)⟩ ⟨Nat.le_trans bV20.2 (by decide)⟩ ⟨Nat.le_trans l1 (by decide)⟩ ⟨Nat.zero_le _⟩ ⟨Nat.le_trans bV21.1 (by decide)⟩ ⟨Nat.le_trans bV21.2 (by decide)⟩ ⟨Nat.le_trans bV22.1 (by decide)⟩ ⟨Nat.le_trans bV22.2 (by decide)⟩ ⟨Nat.le_trans bV23.1 (by decide)⟩ ⟨Nat.le_trans bV23.2 (by decide)⟩ ⟨Nat.le_trans bV24.1 (by decide)⟩ ⟨Nat.le_trans bV24.2 (by decide)⟩ ⟨Nat.le_trans bV25.1 (by decide)⟩ ⟨Nat.le_trans bV25.2 (by decide)⟩ ⟨Nat.le_trans bV26.1 (by decide)⟩ ⟨Nat.le_trans bV26.2 (by decide)⟩ ⟨Nat.le_trans bV30.1 (by decide)⟩ ⟨Nat.le_trans bV30.2 (by decide)⟩ ⟨Nat.le_trans bV31.1 (by decide)⟩ ⟨Nat.le_trans bV31.2 (by decide)⟩ ⟨Nat.le_trans bV32.1 (by decide)⟩ ⟨Nat.le_trans bV32.2 (by decide)⟩ ⟨Nat.le_trans bV33.1 (by decide)⟩ ⟨Nat.le_trans bV33.2 (by decide)⟩
        ⟨hv1⟩ ⟨hv2⟩ ⟨Lo.uniq L1 L2 (by grind)⟩ ⟨hv3⟩ ⟨hv4⟩ ⟨Lo.uniq L3 L4 (by grind)⟩ ⟨hv6⟩ ⟨hv7⟩ ⟨hv8⟩ ⟨Lo.uniq L6 L8 (by grind)⟩ ⟨hv10⟩ ⟨hv11⟩ ⟨hv12⟩ ⟨Lo.uniq L10 L12 (by grind)⟩ ⟨hv14⟩ ⟨hv16⟩ ⟨hv17⟩ ⟨Lo.uniq L14 L17 (by grind)⟩ ⟨rfl, rfl, by decide, by decide⟩ ⟨hv20⟩ ⟨Lo.uniq L20 Lx (by grind)⟩ ⟨rfl, rfl, by decide, by decide⟩ ⟨hv21⟩ ⟨Lo.uniq L21 Lx (by grind)⟩ ⟨rfl, rfl⟩ ⟨hv23⟩ ⟨hv24⟩ ⟨rfl, rfl⟩ ⟨hv26⟩ ⟨Lo.uniq L24 L26 (by grind)⟩ ⟨Hsg⟩ ⟨rfl⟩ ⟨fun h => ⟨hv30.1, hv30.2, ?_⟩⟩ ⟨fun h => ⟨hv31.1, hv31.2, ?_⟩⟩ ⟨hv32⟩ ⟨fun h => ?_⟩ ⟨hv33⟩ ⟨fun h => ?_⟩
      · exact if_neg (Int.mul_ne_zero (by rw [dd_pos d0]; omega) (pz h))
      · exact if_neg (Int.mul_ne_zero (by decide) (pz h))
      · exact (LD (pz h)).1
      · exact (LD (pz h)).2
    · exact fld_e a b c w ⟨la'⟩ ⟨lb'⟩ ⟨lc'⟩ n d p q u v er ⟨twoR_ok h⟩ ⟨hc⟩ (by simpa using he)
  · obtain ⟨n, d, p, q, h⟩ := twoR_not a b h
    exact fld_f a b c w ⟨la'⟩ ⟨lb'⟩ ⟨lc'⟩ n d p q u v er ⟨h⟩ ⟨hc⟩

end Go.Proofs.Ytdkapdgbfejgdaa
