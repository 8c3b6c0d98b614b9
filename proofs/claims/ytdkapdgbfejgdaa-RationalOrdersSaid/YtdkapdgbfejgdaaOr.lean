/- The walk of the law RationalOrders. -/
import Derived.Test.YtdkapdgbfejgdaaRl
namespace Go.Proofs.Ytdkapdgbfejgdaa
open Go.RowKit Go.Proofs.YtdkapdgbfejgdaaW.PrintWords Go.Proofs.YtdkapdgbfejgdaaW.PrintLast Go.Proofs.YtdkapdgbfejgdaaW.PrintMore
set_option linter.unusedSimpArgs false
set_option linter.unusedVariables false
set_option maxHeartbeats 8000000
set_option maxRecDepth 100000

theorem ord_case (k l : Int) : (k ≤ 0 ∧ l ≤ 0) ∨ (k ≤ 0 ∧ 0 < l) ∨ 0 < k := by omega

theorem ord_la (a b c : ByteArray) (w : World) (hla : Aside0 (decide (200 < (a.size : Int)) = true)) : Calls Try.prog 19 #[.string a, .string b, .string c] w (fun e W' => e = .returned (.bool true) ∧ Below w.heap.size w W') := by
  have hu25 := Try.underlying25
  have hu51 := Try.underlying51
  have H := Sit.start w (fun _ => False)
  go_enter Try.func19, Try.ntmps19
  have st2 := trivial
  have st4 := trivial
  go_wp2_with (first
    | (clear st2; go_at_call 38; (with_reducible refine (awake2 _).mono ?_); rintro e wA ⟨rfl, hb⟩; replace H := H.call hb; clear hb)
    | (clear st4; go_at_call 50; (with_reducible refine (LongR a _ true hla.out).mono ?_); rintro e w3 ⟨rfl, hb⟩; replace H := H.call hb; clear hb))
  go_ret
  exact ⟨rfl, H.below⟩

theorem ord_lb (a b c : ByteArray) (w : World) (hla : Aside0 (decide (200 < (a.size : Int)) = false)) (hlb : Aside0 (decide (200 < (b.size : Int)) = true)) : Calls Try.prog 19 #[.string a, .string b, .string c] w (fun e W' => e = .returned (.bool true) ∧ Below w.heap.size w W') := by
  have hu25 := Try.underlying25
  have hu51 := Try.underlying51
  have H := Sit.start w (fun _ => False)
  go_enter Try.func19, Try.ntmps19
  have st2 := trivial
  have st4 := trivial
  have st6 := trivial
  go_wp2_with (first
    | (clear st2; go_at_call 38; (with_reducible refine (awake2 _).mono ?_); rintro e wA ⟨rfl, hb⟩; replace H := H.call hb; clear hb)
    | (clear st4; go_at_call 50; (with_reducible refine (LongR a _ false hla.out).mono ?_); rintro e w3 ⟨rfl, hb⟩; replace H := H.call hb; clear hb)
    | (clear st6; go_at_call 50; (with_reducible refine (LongR b _ true hlb.out).mono ?_); rintro e w5 ⟨rfl, hb⟩; replace H := H.call hb; clear hb))
  go_ret
  exact ⟨rfl, H.below⟩

theorem ord_lc (a b c : ByteArray) (w : World) (hla : Aside0 (decide (200 < (a.size : Int)) = false)) (hlb : Aside0 (decide (200 < (b.size : Int)) = false)) (hlc : Aside0 (decide (200 < (c.size : Int)) = true)) : Calls Try.prog 19 #[.string a, .string b, .string c] w (fun e W' => e = .returned (.bool true) ∧ Below w.heap.size w W') := by
  have hu25 := Try.underlying25
  have hu51 := Try.underlying51
  have H := Sit.start w (fun _ => False)
  go_enter Try.func19, Try.ntmps19
  have st2 := trivial
  have st4 := trivial
  have st6 := trivial
  have st8 := trivial
  go_wp2_with (first
    | (clear st2; go_at_call 38; (with_reducible refine (awake2 _).mono ?_); rintro e wA ⟨rfl, hb⟩; replace H := H.call hb; clear hb)
    | (clear st4; go_at_call 50; (with_reducible refine (LongR a _ false hla.out).mono ?_); rintro e w3 ⟨rfl, hb⟩; replace H := H.call hb; clear hb)
    | (clear st6; go_at_call 50; (with_reducible refine (LongR b _ false hlb.out).mono ?_); rintro e w5 ⟨rfl, hb⟩; replace H := H.call hb; clear hb)
    | (clear st8; go_at_call 50; (with_reducible refine (LongR c _ true hlc.out).mono ?_); rintro e w7 ⟨rfl, hb⟩; replace H := H.call hb; clear hb))
  go_ret
  exact ⟨rfl, H.below⟩

theorem ord_f (a b c : ByteArray) (w : World) (hla : Aside0 (decide (200 < (a.size : Int)) = false)) (hlb : Aside0 (decide (200 < (b.size : Int)) = false)) (hlc : Aside0 (decide (200 < (c.size : Int)) = false)) (n d p q u v er : Int) (hAB : Aside0 (∀ w, Calls Try.prog 67 #[.string a, .string b] w (RetTwoR w n d p q false))) (hC : Aside0 (rp c = (u, v, er))) : Calls Try.prog 19 #[.string a, .string b, .string c] w (fun e W' => e = .returned (.bool true) ∧ Below w.heap.size w W') := by
  have hu25 := Try.underlying25
  have hu51 := Try.underlying51
  have H := Sit.start w (fun _ => False)
  go_enter Try.func19, Try.ntmps19
  have st2 := trivial
  have st4 := trivial
  have st6 := trivial
  have st8 := trivial
  have st18 := trivial
  have st20 := trivial
  have st22 := trivial
  go_upto_region 6 with (first
    | (clear st2; go_at_call 38; (with_reducible refine (awake2 _).mono ?_); rintro e wA ⟨rfl, hb⟩; replace H := H.call hb; clear hb)
    | (clear st4; go_at_call 50; (with_reducible refine (LongR a _ false hla.out).mono ?_); rintro e w3 ⟨rfl, hb⟩; replace H := H.call hb; clear hb)
    | (clear st6; go_at_call 50; (with_reducible refine (LongR b _ false hlb.out).mono ?_); rintro e w5 ⟨rfl, hb⟩; replace H := H.call hb; clear hb)
    | (clear st8; go_at_call 50; (with_reducible refine (LongR c _ false hlc.out).mono ?_); rintro e w7 ⟨rfl, hb⟩; replace H := H.call hb; clear hb)
    | (clear st18; go_at_call 67; (with_reducible refine (hAB.out _).mono ?_); rintro e w9 ⟨A10, c11, A12, c13, A14, c15, A16, c17, rfl, hr, hr2, hr3, hr4, hb⟩; replace H := (((H.got (fresh_row hr) hb).more ((H.got (fresh_row hr2) hb).row _ m0)).more ((H.got (fresh_row hr3) hb).row _ m0)).more ((H.got (fresh_row hr4) hb).row _ m0); clear hr hr2 hr3 hr4 hb)
    | (clear st20; (with_reducible refine gate_dst (N := 7) rfl ?_); refine box_event ?hg (N := 7) ?hd (cs := #[.bool false, .slice none 0 0, .bool false, .slice none 0 0]) (t := 51) ?hr ?_; (case hd => rfl); (case hg => rfl); (case hr => go_simp; try rfl); intro g7 hg w19 hbox hb; replace H := H.newbox hg hbox hb; clear hg hbox hb; obtain ⟨k7_0, z7_0, k7_1, z7_1, k7_2, z7_2, k7_3, z7_3⟩ := H.b4 (g := g7) m0)
    | (clear st22; (with_reducible refine gate_dst (N := 8) rfl ?_); refine box_event ?hg (N := 8) ?hd (cs := #[.bool false, .slice none 0 0, .bool false, .slice none 0 0]) (t := 51) ?hr ?_; (case hd => rfl); (case hg => rfl); (case hr => go_simp; try rfl); intro g8 hg w21 hbox hb; replace H := H.newbox hg hbox hb; clear hg hbox hb; clear k7_0 z7_0 k7_1 z7_1 k7_2 z7_2 k7_3 z7_3; obtain ⟨k8_0, z8_0, k8_1, z8_1, k8_2, z8_2, k8_3, z8_3⟩ := H.b4 (g := g8) m0; obtain ⟨k7_0, z7_0, k7_1, z7_1, k7_2, z7_2, k7_3, z7_3⟩ := H.b4 (g := g7) m1; have ne_g8_g7 := H.ne (g := g8) (g' := g7) 0 1 rfl rfl (by decide); have ne_g7_g8 := ne_g8_g7.symm))
  (try simp only [Act.put, List.setIfInBounds_toArray, List.set_cons_zero, List.set_cons_succ])
  replace H := ((((((((H.setn [_] 0 (.bool (ng n)) rfl).setn [_] 1 (.slice A10 (ln n) c11) rfl).setn [_] 2 (.bool (ng d)) rfl).setn [_] 3 (.slice A12 (ln d) c13) rfl).setn [] 0 (.bool (ng p)) rfl).setn [] 1 (.slice A14 (ln p) c15) rfl).setn [] 2 (.bool (ng q)) rfl).setn [] 3 (.slice A16 (ln q) c17) rfl)
  clear k8_0 z8_0 k8_1 z8_1 k8_2 z8_2 k8_3 z8_3 k7_0 z7_0 k7_1 z7_1 k7_2 z7_2 k7_3 z7_3
  generalize ((((((((w21.setCell ⟨g7, 0, none⟩ (.bool (ng n))).setCell ⟨g7, 1, none⟩ (.slice A10 (ln n) c11)).setCell ⟨g7, 2, none⟩ (.bool (ng d))).setCell ⟨g7, 3, none⟩ (.slice A12 (ln d) c13)).setCell ⟨g8, 0, none⟩ (.bool (ng p))).setCell ⟨g8, 1, none⟩ (.slice A14 (ln p) c15)).setCell ⟨g8, 2, none⟩ (.bool (ng q))).setCell ⟨g8, 3, none⟩ (.slice A16 (ln q) c17)) = w23 at H ⊢
  obtain ⟨k8_0, z8_0, k8_1, z8_1, k8_2, z8_2, k8_3, z8_3⟩ := H.b4 (g := g8) m0
  obtain ⟨k7_0, z7_0, k7_1, z7_1, k7_2, z7_2, k7_3, z7_3⟩ := H.b4 (g := g7) m1
  have st29 := trivial
  have st31 := trivial
  go_upto_region 7 with (first
    | (clear st29; go_at_call 49; (with_reducible refine (ParseR c _ u v er hC.out).mono ?_); rintro e w24 ⟨A25, c26, A27, c28, rfl, hr, hr2, hb⟩; replace H := (H.got (fresh_row hr) hb).more ((H.got (fresh_row hr2) hb).row _ m0); clear hr hr2 hb; clear k8_0 z8_0 k8_1 z8_1 k8_2 z8_2 k8_3 z8_3 k7_0 z7_0 k7_1 z7_1 k7_2 z7_2 k7_3 z7_3; obtain ⟨k8_0, z8_0, k8_1, z8_1, k8_2, z8_2, k8_3, z8_3⟩ := H.b4 (g := g8) m0; obtain ⟨k7_0, z7_0, k7_1, z7_1, k7_2, z7_2, k7_3, z7_3⟩ := H.b4 (g := g7) m1)
    | (clear st31; (with_reducible refine gate_dst (N := 10) rfl ?_); refine box_event ?hg (N := 10) ?hd (cs := #[.bool false, .slice none 0 0, .bool false, .slice none 0 0]) (t := 51) ?hr ?_; (case hd => rfl); (case hg => rfl); (case hr => go_simp; try rfl); intro g10 hg w30 hbox hb; replace H := H.newbox hg hbox hb; clear hg hbox hb; clear k8_0 z8_0 k8_1 z8_1 k8_2 z8_2 k8_3 z8_3 k7_0 z7_0 k7_1 z7_1 k7_2 z7_2 k7_3 z7_3; obtain ⟨k10_0, z10_0, k10_1, z10_1, k10_2, z10_2, k10_3, z10_3⟩ := H.b4 (g := g10) m0; obtain ⟨k8_0, z8_0, k8_1, z8_1, k8_2, z8_2, k8_3, z8_3⟩ := H.b4 (g := g8) m1; obtain ⟨k7_0, z7_0, k7_1, z7_1, k7_2, z7_2, k7_3, z7_3⟩ := H.b4 (g := g7) m2; have ne_g10_g8 := H.ne (g := g10) (g' := g8) 0 1 rfl rfl (by decide); have ne_g8_g10 := ne_g10_g8.symm; have ne_g10_g7 := H.ne (g := g10) (g' := g7) 0 2 rfl rfl (by decide); have ne_g7_g10 := ne_g10_g7.symm))
  (try simp only [Act.put, List.setIfInBounds_toArray, List.set_cons_zero, List.set_cons_succ])
  replace H := H.set4 [] (.bool (ng u)) (.slice A25 (ln u) c26) (.bool (ng v)) (.slice A27 (ln v) c28)
  clear k10_0 z10_0 k10_1 z10_1 k10_2 z10_2 k10_3 z10_3 k8_0 z8_0 k8_1 z8_1 k8_2 z8_2 k8_3 z8_3 k7_0 z7_0 k7_1 z7_1 k7_2 z7_2 k7_3 z7_3
  generalize ((((w30.setCell ⟨g10, 0, none⟩ (.bool (ng u))).setCell ⟨g10, 1, none⟩ (.slice A25 (ln u) c26)).setCell ⟨g10, 2, none⟩ (.bool (ng v))).setCell ⟨g10, 3, none⟩ (.slice A27 (ln v) c28)) = w32 at H ⊢
  obtain ⟨k10_0, z10_0, k10_1, z10_1, k10_2, z10_2, k10_3, z10_3⟩ := H.b4 (g := g10) m0
  obtain ⟨k8_0, z8_0, k8_1, z8_1, k8_2, z8_2, k8_3, z8_3⟩ := H.b4 (g := g8) m1
  obtain ⟨k7_0, z7_0, k7_1, z7_1, k7_2, z7_2, k7_3, z7_3⟩ := H.b4 (g := g7) m2
  go_wp2
  go_ret
  exact ⟨rfl, H.below⟩

theorem ord_e (a b c : ByteArray) (w : World) (hla : Aside0 (decide (200 < (a.size : Int)) = false)) (hlb : Aside0 (decide (200 < (b.size : Int)) = false)) (hlc : Aside0 (decide (200 < (c.size : Int)) = false)) (n d p q u v er : Int) (hAB : Aside0 (∀ w, Calls Try.prog 67 #[.string a, .string b] w (RetTwoR w n d p q true))) (hC : Aside0 (rp c = (u, v, er))) (t1 : (er != 0) = true) : Calls Try.prog 19 #[.string a, .string b, .string c] w (fun e W' => e = .returned (.bool true) ∧ Below w.heap.size w W') := by
  have hu25 := Try.underlying25
  have hu51 := Try.underlying51
  have H := Sit.start w (fun _ => False)
  go_enter Try.func19, Try.ntmps19
  have st2 := trivial
  have st4 := trivial
  have st6 := trivial
  have st8 := trivial
  have st18 := trivial
  have st20 := trivial
  have st22 := trivial
  go_upto_region 6 with (first
    | (clear st2; go_at_call 38; (with_reducible refine (awake2 _).mono ?_); rintro e wA ⟨rfl, hb⟩; replace H := H.call hb; clear hb)
    | (clear st4; go_at_call 50; (with_reducible refine (LongR a _ false hla.out).mono ?_); rintro e w3 ⟨rfl, hb⟩; replace H := H.call hb; clear hb)
    | (clear st6; go_at_call 50; (with_reducible refine (LongR b _ false hlb.out).mono ?_); rintro e w5 ⟨rfl, hb⟩; replace H := H.call hb; clear hb)
    | (clear st8; go_at_call 50; (with_reducible refine (LongR c _ false hlc.out).mono ?_); rintro e w7 ⟨rfl, hb⟩; replace H := H.call hb; clear hb)
    | (clear st18; go_at_call 67; (with_reducible refine (hAB.out _).mono ?_); rintro e w9 ⟨A10, c11, A12, c13, A14, c15, A16, c17, rfl, hr, hr2, hr3, hr4, hb⟩; replace H := (((H.got (fresh_row hr) hb).more ((H.got (fresh_row hr2) hb).row _ m0)).more ((H.got (fresh_row hr3) hb).row _ m0)).more ((H.got (fresh_row hr4) hb).row _ m0); clear hr hr2 hr3 hr4 hb)
    | (clear st20; (with_reducible refine gate_dst (N := 7) rfl ?_); refine box_event ?hg (N := 7) ?hd (cs := #[.bool false, .slice none 0 0, .bool false, .slice none 0 0]) (t := 51) ?hr ?_; (case hd => rfl); (case hg => rfl); (case hr => go_simp; try rfl); intro g7 hg w19 hbox hb; replace H := H.newbox hg hbox hb; clear hg hbox hb; obtain ⟨k7_0, z7_0, k7_1, z7_1, k7_2, z7_2, k7_3, z7_3⟩ := H.b4 (g := g7) m0)
    | (clear st22; (with_reducible refine gate_dst (N := 8) rfl ?_); refine box_event ?hg (N := 8) ?hd (cs := #[.bool false, .slice none 0 0, .bool false, .slice none 0 0]) (t := 51) ?hr ?_; (case hd => rfl); (case hg => rfl); (case hr => go_simp; try rfl); intro g8 hg w21 hbox hb; replace H := H.newbox hg hbox hb; clear hg hbox hb; clear k7_0 z7_0 k7_1 z7_1 k7_2 z7_2 k7_3 z7_3; obtain ⟨k8_0, z8_0, k8_1, z8_1, k8_2, z8_2, k8_3, z8_3⟩ := H.b4 (g := g8) m0; obtain ⟨k7_0, z7_0, k7_1, z7_1, k7_2, z7_2, k7_3, z7_3⟩ := H.b4 (g := g7) m1; have ne_g8_g7 := H.ne (g := g8) (g' := g7) 0 1 rfl rfl (by decide); have ne_g7_g8 := ne_g8_g7.symm))
  (try simp only [Act.put, List.setIfInBounds_toArray, List.set_cons_zero, List.set_cons_succ])
  replace H := ((((((((H.setn [_] 0 (.bool (ng n)) rfl).setn [_] 1 (.slice A10 (ln n) c11) rfl).setn [_] 2 (.bool (ng d)) rfl).setn [_] 3 (.slice A12 (ln d) c13) rfl).setn [] 0 (.bool (ng p)) rfl).setn [] 1 (.slice A14 (ln p) c15) rfl).setn [] 2 (.bool (ng q)) rfl).setn [] 3 (.slice A16 (ln q) c17) rfl)
  clear k8_0 z8_0 k8_1 z8_1 k8_2 z8_2 k8_3 z8_3 k7_0 z7_0 k7_1 z7_1 k7_2 z7_2 k7_3 z7_3
  generalize ((((((((w21.setCell ⟨g7, 0, none⟩ (.bool (ng n))).setCell ⟨g7, 1, none⟩ (.slice A10 (ln n) c11)).setCell ⟨g7, 2, none⟩ (.bool (ng d))).setCell ⟨g7, 3, none⟩ (.slice A12 (ln d) c13)).setCell ⟨g8, 0, none⟩ (.bool (ng p))).setCell ⟨g8, 1, none⟩ (.slice A14 (ln p) c15)).setCell ⟨g8, 2, none⟩ (.bool (ng q))).setCell ⟨g8, 3, none⟩ (.slice A16 (ln q) c17)) = w23 at H ⊢
  obtain ⟨k8_0, z8_0, k8_1, z8_1, k8_2, z8_2, k8_3, z8_3⟩ := H.b4 (g := g8) m0
  obtain ⟨k7_0, z7_0, k7_1, z7_1, k7_2, z7_2, k7_3, z7_3⟩ := H.b4 (g := g7) m1
  have st29 := trivial
  have st31 := trivial
  go_upto_region 7 with (first
    | (clear st29; go_at_call 49; (with_reducible refine (ParseR c _ u v er hC.out).mono ?_); rintro e w24 ⟨A25, c26, A27, c28, rfl, hr, hr2, hb⟩; replace H := (H.got (fresh_row hr) hb).more ((H.got (fresh_row hr2) hb).row _ m0); clear hr hr2 hb; clear k8_0 z8_0 k8_1 z8_1 k8_2 z8_2 k8_3 z8_3 k7_0 z7_0 k7_1 z7_1 k7_2 z7_2 k7_3 z7_3; obtain ⟨k8_0, z8_0, k8_1, z8_1, k8_2, z8_2, k8_3, z8_3⟩ := H.b4 (g := g8) m0; obtain ⟨k7_0, z7_0, k7_1, z7_1, k7_2, z7_2, k7_3, z7_3⟩ := H.b4 (g := g7) m1)
    | (clear st31; (with_reducible refine gate_dst (N := 10) rfl ?_); refine box_event ?hg (N := 10) ?hd (cs := #[.bool false, .slice none 0 0, .bool false, .slice none 0 0]) (t := 51) ?hr ?_; (case hd => rfl); (case hg => rfl); (case hr => go_simp; try rfl); intro g10 hg w30 hbox hb; replace H := H.newbox hg hbox hb; clear hg hbox hb; clear k8_0 z8_0 k8_1 z8_1 k8_2 z8_2 k8_3 z8_3 k7_0 z7_0 k7_1 z7_1 k7_2 z7_2 k7_3 z7_3; obtain ⟨k10_0, z10_0, k10_1, z10_1, k10_2, z10_2, k10_3, z10_3⟩ := H.b4 (g := g10) m0; obtain ⟨k8_0, z8_0, k8_1, z8_1, k8_2, z8_2, k8_3, z8_3⟩ := H.b4 (g := g8) m1; obtain ⟨k7_0, z7_0, k7_1, z7_1, k7_2, z7_2, k7_3, z7_3⟩ := H.b4 (g := g7) m2; have ne_g10_g8 := H.ne (g := g10) (g' := g8) 0 1 rfl rfl (by decide); have ne_g8_g10 := ne_g10_g8.symm; have ne_g10_g7 := H.ne (g := g10) (g' := g7) 0 2 rfl rfl (by decide); have ne_g7_g10 := ne_g10_g7.symm))
  (try simp only [Act.put, List.setIfInBounds_toArray, List.set_cons_zero, List.set_cons_succ])
  replace H := H.set4 [] (.bool (ng u)) (.slice A25 (ln u) c26) (.bool (ng v)) (.slice A27 (ln v) c28)
  clear k10_0 z10_0 k10_1 z10_1 k10_2 z10_2 k10_3 z10_3 k8_0 z8_0 k8_1 z8_1 k8_2 z8_2 k8_3 z8_3 k7_0 z7_0 k7_1 z7_1 k7_2 z7_2 k7_3 z7_3
  generalize ((((w30.setCell ⟨g10, 0, none⟩ (.bool (ng u))).setCell ⟨g10, 1, none⟩ (.slice A25 (ln u) c26)).setCell ⟨g10, 2, none⟩ (.bool (ng v))).setCell ⟨g10, 3, none⟩ (.slice A27 (ln v) c28)) = w32 at H ⊢
  obtain ⟨k10_0, z10_0, k10_1, z10_1, k10_2, z10_2, k10_3, z10_3⟩ := H.b4 (g := g10) m0
  obtain ⟨k8_0, z8_0, k8_1, z8_1, k8_2, z8_2, k8_3, z8_3⟩ := H.b4 (g := g8) m1
  obtain ⟨k7_0, z7_0, k7_1, z7_1, k7_2, z7_2, k7_3, z7_3⟩ := H.b4 (g := g7) m2
  go_wp2
  go_ret
  exact ⟨rfl, H.below⟩

def tb19.T9 : Bool × List (List Nat × List Nat) := (true, [([], []), ([], []), ([0, 1], [0, 1]), ([], []), ([], []), ([3, 4, 2], [3, 4]), ([5], [5]), ([2, 6], [2, 6]), ([7, 5], [7]), ([8], [8]), ([8], [8]), ([9, 10, 8, 8], [8, 9, 10]), ([8], [8]), ([8], [8]), ([12, 13, 11, 8], [8, 12, 13]), ([14, 14, 8], [8, 14]), ([11, 15, 8], [8, 11, 15]), ([8, 16], [8, 16]), ([17, 15], [17]), ([18], [18]), ([18], [18]), ([19, 20, 18, 18], [18, 19, 20]), ([21, 18], [18, 21]), ([18], [18]), ([23, 21, 18], [18, 23]), ([18], [18]), ([25, 24, 18], [18, 25]), ([24, 26, 18], [18, 24, 26]), ([22, 27, 18], [18, 22, 27]), ([18, 28], [18, 28])])
def tb19.B9 : List Nat := [0, 0, 3, 0, 0, 31, 63, 127, 255, 511, 511, 2047, 511, 511, 16383, 32767, 65535, 131071, 262143, 524287, 524287, 2097151, 4194303, 524287, 12582911, 524287, 62914559, 130023423, 268435455, 536870911]
theorem tb19.tab9 : rtab .any (opsOf Try.f19 9) = tb19.T9 := by kernel_rfl
theorem tb19.bits9 : waitsOk tb19.T9.2 tb19.B9 = true := by kernel_rfl
def tb19.T13 : Bool × List (List Nat × List Nat) := (true, [([], []), ([], []), ([0, 1], [0, 1]), ([], []), ([], []), ([3, 4, 2], [3, 4]), ([2, 5, 5], [2, 5]), ([], []), ([], []), ([7, 8, 6], [7, 8]), ([6, 9], [6, 9]), ([10, 9], [10]), ([11], [11]), ([11], [11]), ([12, 13, 11, 11], [11, 12, 13]), ([11], [11]), ([11], [11]), ([15, 16, 14, 11], [11, 15, 16]), ([14, 17, 17, 11], [11, 14, 17]), ([11], [11]), ([11], [11]), ([19, 20, 18, 11], [11, 19, 20]), ([11], [11]), ([22, 21, 11], [11, 22]), ([21, 23, 11], [11, 21, 23]), ([18, 24, 11], [11, 18, 24]), ([11, 25], [11, 25]), ([26, 23, 0, 1, 2, 3, 4, 5, 6, 7, 8, 9, 10, 11, 12, 13, 14, 15, 16, 17, 18, 19, 20, 21, 22, 23, 24, 25, 26], [26])])
def tb19.B13 : List Nat := [0, 0, 3, 0, 0, 31, 63, 0, 0, 511, 1023, 2047, 4095, 4095, 16383, 4095, 4095, 131071, 262143, 4095, 4095, 2097151, 4095, 8388607, 16777215, 33554431, 67108863, 134217727]
theorem tb19.tab13 : rtab .any (opsOf Try.f19 13) = tb19.T13 := by kernel_rfl
theorem tb19.bits13 : waitsOk tb19.T13.2 tb19.B13 = true := by kernel_rfl

theorem ord_t (a b c : ByteArray) (w : World) (hla : Aside0 (decide (200 < (a.size : Int)) = false)) (hlb : Aside0 (decide (200 < (b.size : Int)) = false)) (hlc : Aside0 (decide (200 < (c.size : Int)) = false)) (n d p q u v : Int) (bn : Aside0 (ln n ≤ 512)) (bd : Aside0 (ln d ≤ 512)) (bp : Aside0 (ln p ≤ 512)) (bq : Aside0 (ln q ≤ 512)) (bu : Aside0 (ln u ≤ 512)) (bv : Aside0 (ln v ≤ 512)) (hAB : Aside0 (∀ w, Calls Try.prog 67 #[.string a, .string b] w (RetTwoR w n d p q true))) (hC : Aside0 (rp c = (u, v, 0))) (sn sd a1 a2 b1 b2 r1 r2 r3 r4 k k9 l m kM su : Int) (sx sy : ByteArray) (bq' : Bool) (bsn : Aside0 (ln sn ≤ 2000)) (bsd : Aside0 (ln sd ≤ 2000)) (ba1 : Aside0 (ln a1 ≤ 2000)) (ba2 : Aside0 (ln a2 ≤ 2000)) (bb1 : Aside0 (ln b1 ≤ 2000)) (bb2 : Aside0 (ln b2 ≤ 2000)) (br1 : Aside0 (ln r1 ≤ 2000)) (br2 : Aside0 (ln r2 ≤ 2000)) (br3 : Aside0 (ln r3 ≤ 2000)) (br4 : Aside0 (ln r4 ≤ 2000))
    (hk : Aside0 (cmp3 (n * dd q) (p * dd d) = k)) (hk9 : Aside0 (cmp3 (p * dd d) (n * dd q) = k9)) (n9 : wrap64 (-k9) = k) (hsub : Aside0 (qn (n * dd q + -p * dd d) (dd d * dd q) = sn ∧ qd (n * dd q + -p * dd d) (dd d * dd q) = sd)) (hsg : Aside0 (sg sn = k))
    (hsx : Aside0 (qt n d = sx)) (hsy : Aside0 (qt p q = sy)) (f64 : (k == 0) = bq') (f69 : (sx.toList == sy.toList) = bq') (f70 : (bq' != bq') = false) (f71 : (k != k) = false) (f72 : (k == k) = true)
    (hl9 : Aside0 (cmp3 (p * dd v) (u * dd q) = l)) (hm : Aside0 (cmp3 (n * dd v) (u * dd d) = m)) (hm0 : Aside0 (k ≤ 0 → l ≤ 0 → m ≤ 0))
    (ha1 : Aside0 (qn (n * dd v + u * dd d) (dd d * dd v) = a1 ∧ qd (n * dd v + u * dd d) (dd d * dd v) = a2)) (hb1 : Aside0 (qn (p * dd v + u * dd q) (dd q * dd v) = b1 ∧ qd (p * dd v + u * dd q) (dd q * dd v) = b2)) (hkA : Aside0 (cmp3 (a1 * dd b2) (b1 * dd a2) = k))
    (hr1x : Aside0 (qn (n * u) (dd d * dd v) = r1 ∧ qd (n * u) (dd d * dd v) = r2)) (hr3x : Aside0 (qn (p * u) (dd q * dd v) = r3 ∧ qd (p * u) (dd q * dd v) = r4)) (hkM : Aside0 (cmp3 (r1 * dd r4) (r3 * dd r2) = kM)) (hsu : Aside0 (sg u = su)) (n10 : wrap64 (k * su) = kM) (f73 : (kM == kM) = true) (f74 : (k != wrap64 (-k9)) = false) (f75 : (kM == wrap64 (k * su)) = true) (f76 : (k != -k9) = false) (f77 : (kM == k * su) = true) : Calls Try.prog 19 #[.string a, .string b, .string c] w (fun e W' => e = .returned (.bool true) ∧ Below w.heap.size w W') := by
  have hu25 := Try.underlying25
  have hu51 := Try.underlying51
  have H := Sit.start w (fun _ => False)
  go_enter Try.func19, Try.ntmps19
  have st2 := trivial
  have st4 := trivial
  have st6 := trivial
  have st8 := trivial
  have st18 := trivial
  have st20 := trivial
  have st22 := trivial
  go_upto_region 6 with (first
    | (clear st2; go_at_call 38; (with_reducible refine (awake2 _).mono ?_); rintro e wA ⟨rfl, hb⟩; replace H := H.call hb; clear hb)
    | (clear st4; go_at_call 50; (with_reducible refine (LongR a _ false hla.out).mono ?_); rintro e w3 ⟨rfl, hb⟩; replace H := H.call hb; clear hb)
    | (clear st6; go_at_call 50; (with_reducible refine (LongR b _ false hlb.out).mono ?_); rintro e w5 ⟨rfl, hb⟩; replace H := H.call hb; clear hb)
    | (clear st8; go_at_call 50; (with_reducible refine (LongR c _ false hlc.out).mono ?_); rintro e w7 ⟨rfl, hb⟩; replace H := H.call hb; clear hb)
    | (clear st18; go_at_call 67; (with_reducible refine (hAB.out _).mono ?_); rintro e w9 ⟨A10, c11, A12, c13, A14, c15, A16, c17, rfl, hr, hr2, hr3, hr4, hb⟩; replace H := (((H.got (fresh_row hr) hb).more ((H.got (fresh_row hr2) hb).row _ m0)).more ((H.got (fresh_row hr3) hb).row _ m0)).more ((H.got (fresh_row hr4) hb).row _ m0); clear hr hr2 hr3 hr4 hb)
    | (clear st20; (with_reducible refine gate_dst (N := 7) rfl ?_); refine box_event ?hg (N := 7) ?hd (cs := #[.bool false, .slice none 0 0, .bool false, .slice none 0 0]) (t := 51) ?hr ?_; (case hd => rfl); (case hg => rfl); (case hr => go_simp; try rfl); intro g7 hg w19 hbox hb; replace H := H.newbox hg hbox hb; clear hg hbox hb; obtain ⟨k7_0, z7_0, k7_1, z7_1, k7_2, z7_2, k7_3, z7_3⟩ := H.b4 (g := g7) m0)
    | (clear st22; (with_reducible refine gate_dst (N := 8) rfl ?_); refine box_event ?hg (N := 8) ?hd (cs := #[.bool false, .slice none 0 0, .bool false, .slice none 0 0]) (t := 51) ?hr ?_; (case hd => rfl); (case hg => rfl); (case hr => go_simp; try rfl); intro g8 hg w21 hbox hb; replace H := H.newbox hg hbox hb; clear hg hbox hb; clear k7_0 z7_0 k7_1 z7_1 k7_2 z7_2 k7_3 z7_3; obtain ⟨k8_0, z8_0, k8_1, z8_1, k8_2, z8_2, k8_3, z8_3⟩ := H.b4 (g := g8) m0; obtain ⟨k7_0, z7_0, k7_1, z7_1, k7_2, z7_2, k7_3, z7_3⟩ := H.b4 (g := g7) m1; have ne_g8_g7 := H.ne (g := g8) (g' := g7) 0 1 rfl rfl (by decide); have ne_g7_g8 := ne_g8_g7.symm))
  (try simp only [Act.put, List.setIfInBounds_toArray, List.set_cons_zero, List.set_cons_succ])
  replace H := ((((((((H.setn [_] 0 (.bool (ng n)) rfl).setn [_] 1 (.slice A10 (ln n) c11) rfl).setn [_] 2 (.bool (ng d)) rfl).setn [_] 3 (.slice A12 (ln d) c13) rfl).setn [] 0 (.bool (ng p)) rfl).setn [] 1 (.slice A14 (ln p) c15) rfl).setn [] 2 (.bool (ng q)) rfl).setn [] 3 (.slice A16 (ln q) c17) rfl)
  clear k8_0 z8_0 k8_1 z8_1 k8_2 z8_2 k8_3 z8_3 k7_0 z7_0 k7_1 z7_1 k7_2 z7_2 k7_3 z7_3
  generalize ((((((((w21.setCell ⟨g7, 0, none⟩ (.bool (ng n))).setCell ⟨g7, 1, none⟩ (.slice A10 (ln n) c11)).setCell ⟨g7, 2, none⟩ (.bool (ng d))).setCell ⟨g7, 3, none⟩ (.slice A12 (ln d) c13)).setCell ⟨g8, 0, none⟩ (.bool (ng p))).setCell ⟨g8, 1, none⟩ (.slice A14 (ln p) c15)).setCell ⟨g8, 2, none⟩ (.bool (ng q))).setCell ⟨g8, 3, none⟩ (.slice A16 (ln q) c17)) = w23 at H ⊢
  obtain ⟨k8_0, z8_0, k8_1, z8_1, k8_2, z8_2, k8_3, z8_3⟩ := H.b4 (g := g8) m0
  obtain ⟨k7_0, z7_0, k7_1, z7_1, k7_2, z7_2, k7_3, z7_3⟩ := H.b4 (g := g7) m1
  have st29 := trivial
  have st31 := trivial
  go_upto_region 7 with (first
    | (clear st29; go_at_call 49; (with_reducible refine (ParseR c _ u v 0 hC.out).mono ?_); rintro e w24 ⟨A25, c26, A27, c28, rfl, hr, hr2, hb⟩; replace H := (H.got (fresh_row hr) hb).more ((H.got (fresh_row hr2) hb).row _ m0); clear hr hr2 hb; clear k8_0 z8_0 k8_1 z8_1 k8_2 z8_2 k8_3 z8_3 k7_0 z7_0 k7_1 z7_1 k7_2 z7_2 k7_3 z7_3; obtain ⟨k8_0, z8_0, k8_1, z8_1, k8_2, z8_2, k8_3, z8_3⟩ := H.b4 (g := g8) m0; obtain ⟨k7_0, z7_0, k7_1, z7_1, k7_2, z7_2, k7_3, z7_3⟩ := H.b4 (g := g7) m1)
    | (clear st31; (with_reducible refine gate_dst (N := 10) rfl ?_); refine box_event ?hg (N := 10) ?hd (cs := #[.bool false, .slice none 0 0, .bool false, .slice none 0 0]) (t := 51) ?hr ?_; (case hd => rfl); (case hg => rfl); (case hr => go_simp; try rfl); intro g10 hg w30 hbox hb; replace H := H.newbox hg hbox hb; clear hg hbox hb; clear k8_0 z8_0 k8_1 z8_1 k8_2 z8_2 k8_3 z8_3 k7_0 z7_0 k7_1 z7_1 k7_2 z7_2 k7_3 z7_3; obtain ⟨k10_0, z10_0, k10_1, z10_1, k10_2, z10_2, k10_3, z10_3⟩ := H.b4 (g := g10) m0; obtain ⟨k8_0, z8_0, k8_1, z8_1, k8_2, z8_2, k8_3, z8_3⟩ := H.b4 (g := g8) m1; obtain ⟨k7_0, z7_0, k7_1, z7_1, k7_2, z7_2, k7_3, z7_3⟩ := H.b4 (g := g7) m2; have ne_g10_g8 := H.ne (g := g10) (g' := g8) 0 1 rfl rfl (by decide); have ne_g8_g10 := ne_g10_g8.symm; have ne_g10_g7 := H.ne (g := g10) (g' := g7) 0 2 rfl rfl (by decide); have ne_g7_g10 := ne_g10_g7.symm))
  (try simp only [Act.put, List.setIfInBounds_toArray, List.set_cons_zero, List.set_cons_succ])
  replace H := H.set4 [] (.bool (ng u)) (.slice A25 (ln u) c26) (.bool (ng v)) (.slice A27 (ln v) c28)
  clear k10_0 z10_0 k10_1 z10_1 k10_2 z10_2 k10_3 z10_3 k8_0 z8_0 k8_1 z8_1 k8_2 z8_2 k8_3 z8_3 k7_0 z7_0 k7_1 z7_1 k7_2 z7_2 k7_3 z7_3
  generalize ((((w30.setCell ⟨g10, 0, none⟩ (.bool (ng u))).setCell ⟨g10, 1, none⟩ (.slice A25 (ln u) c26)).setCell ⟨g10, 2, none⟩ (.bool (ng v))).setCell ⟨g10, 3, none⟩ (.slice A27 (ln v) c28)) = w32 at H ⊢
  obtain ⟨k10_0, z10_0, k10_1, z10_1, k10_2, z10_2, k10_3, z10_3⟩ := H.b4 (g := g10) m0
  obtain ⟨k8_0, z8_0, k8_1, z8_1, k8_2, z8_2, k8_3, z8_3⟩ := H.b4 (g := g8) m1
  obtain ⟨k7_0, z7_0, k7_1, z7_1, k7_2, z7_2, k7_3, z7_3⟩ := H.b4 (g := g7) m2
  go_upto_region 9 with fail
  (try simp only [Act.put, List.setIfInBounds_toArray, List.set_cons_zero, List.set_cons_succ])
  clear k10_0 z10_0 k10_1 z10_1 k10_2 z10_2 k10_3 z10_3 k8_0 z8_0 k8_1 z8_1 k8_2 z8_2 k8_3 z8_3 k7_0 z7_0 k7_1 z7_1 k7_2 z7_2 k7_3 z7_3
  replace H := H.drew
  refine start_ (n := 30) (S := fun w' => w'.cell? ⟨g7, 0, none⟩ = some (.bool (ng n)) ∧ w'.cell? ⟨g7, 1, none⟩ = some (.slice A10 (ln n) c11) ∧ w'.cell? ⟨g7, 2, none⟩ = some (.bool (ng d)) ∧ w'.cell? ⟨g7, 3, none⟩ = some (.slice A12 (ln d) c13) ∧ w'.cell? ⟨g8, 0, none⟩ = some (.bool (ng p)) ∧ w'.cell? ⟨g8, 1, none⟩ = some (.slice A14 (ln p) c15) ∧ w'.cell? ⟨g8, 2, none⟩ = some (.bool (ng q)) ∧ w'.cell? ⟨g8, 3, none⟩ = some (.slice A16 (ln q) c17)) (ds := []) #[false, false, false, false, false, false, false, false, false, false, false, false, false, false, false, false, false, false, false, false, false, false, false, false, false, false, false, false, false, false] (by kernel_rfl) rfl rfl ⟨H.cell m2 0, H.cell m2 1, H.cell m2 2, H.cell m2 3, H.cell m1 0, H.cell m1 1, H.cell m1 2, H.cell m1 3⟩ (fun hQ => ?_)
  generalize w32.drew = w33 at H hQ ⊢
  refine with_tabW tb19.tab9 tb19.bits9 (fun HT_ HW_ => ?_)
  refine take_ (i := 0) (N := some 42) (v := ?_) (a' := ?_) (bm 30 1) rfl rfl (take_ofW HT_.out HW_.out (by kernel_rfl)) (fun _ _ _ h => h) (Or.inl ⟨by rfl, ?_⟩) hQ ?_ ?_
  rotate_left
  · rintro w' ⟨s0, s1, s2, s3, s4, s5, s6, s7⟩
    go_simp
    with_reducible rfl
  rotate_left
  · simp only [Act.put, List.setIfInBounds_toArray, List.set_cons_zero, List.set_cons_succ, i64_w, i32_w]
    rfl
  refine take_ (i := 1) (N := some 43) (v := ?_) (a' := ?_) (bm 30 3) rfl rfl (take_ofW HT_.out HW_.out (by kernel_rfl)) (fun _ _ _ h => h) (Or.inl ⟨by rfl, ?_⟩) hQ ?_ ?_
  rotate_left
  · rintro w' ⟨s0, s1, s2, s3, s4, s5, s6, s7⟩
    go_simp
    with_reducible rfl
  rotate_left
  · simp only [Act.put, List.setIfInBounds_toArray, List.set_cons_zero, List.set_cons_succ, i64_w, i32_w]
    rfl
  refine take_ (i := 3) (N := some 45) (v := ?_) (a' := ?_) (bm 30 11) rfl rfl (take_ofW HT_.out HW_.out (by kernel_rfl)) (fun _ _ _ h => h) (Or.inl ⟨by rfl, ?_⟩) hQ ?_ ?_
  rotate_left
  · rintro w' ⟨s0, s1, s2, s3, s4, s5, s6, s7⟩
    go_simp
    with_reducible rfl
  rotate_left
  · simp only [Act.put, List.setIfInBounds_toArray, List.set_cons_zero, List.set_cons_succ, i64_w, i32_w]
    rfl
  refine take_ (i := 4) (N := some 46) (v := ?_) (a' := ?_) (bm 30 27) rfl rfl (take_ofW HT_.out HW_.out (by kernel_rfl)) (fun _ _ _ h => h) (Or.inl ⟨by rfl, ?_⟩) hQ ?_ ?_
  rotate_left
  · rintro w' ⟨s0, s1, s2, s3, s4, s5, s6, s7⟩
    go_simp
    with_reducible rfl
  rotate_left
  · simp only [Act.put, List.setIfInBounds_toArray, List.set_cons_zero, List.set_cons_succ, i64_w, i32_w]
    rfl
  refine one_ (i := 2) (N := some 44) (bm 30 31) rfl rfl (one_of HT_.out (by kernel_rfl)) (by decide) (fun K hK => ?_)
  refine goes_ Try.func66 (by kernel_rfl) rfl #[.agg #[.bool (ng n), .slice A10 (ln n) c11, .bool (ng d), .slice A12 (ln d) c13], .agg #[.bool (ng p), .slice A14 (ln p) c15, .bool (ng q), .slice A16 (ln q) c17]] (by rfl) rfl rfl (by simp only [List.map_toArray, List.map_cons, List.map_nil]; try rfl) ?_
  with_reducible refine (CmpR (H.row _ m5) (H.row _ m4) (H.row _ m3) (H.row _ m2) (limR bn.out (by decide)) (limR bd.out (by decide)) (limR bp.out (by decide)) (limR bq.out (by decide)) k hk.out).mono ?_
  rintro e w34 ⟨rfl, hb⟩
  replace H := H.call hb
  clear hb
  refine ⟨_, rfl, ?_⟩
  refine hK.out _ _ ⟨H.cell m2 0, H.cell m2 1, H.cell m2 2, H.cell m2 3, H.cell m1 0, H.cell m1 1, H.cell m1 2, H.cell m1 3⟩ (fun hQ => ?_)
  clear hK K
  refine norm_ (a' := ?_) ?_ ?_
  rotate_left
  · show Act.put _ (some 44) _ = _
    simp only [Act.put, List.setIfInBounds_toArray, List.set_cons_zero, List.set_cons_succ, i64_w, i32_w]
    rfl
  refine one_ (i := 5) (N := some 47) (bm 30 63) rfl rfl (one_of HT_.out (by kernel_rfl)) (by decide) (fun K hK => ?_)
  refine goes_ Try.func66 (by kernel_rfl) rfl #[.agg #[.bool (ng p), .slice A14 (ln p) c15, .bool (ng q), .slice A16 (ln q) c17], .agg #[.bool (ng n), .slice A10 (ln n) c11, .bool (ng d), .slice A12 (ln d) c13]] (by rfl) rfl rfl (by simp only [List.map_toArray, List.map_cons, List.map_nil]; try rfl) ?_
  with_reducible refine (CmpR (H.row _ m3) (H.row _ m2) (H.row _ m5) (H.row _ m4) (limR bp.out (by decide)) (limR bq.out (by decide)) (limR bn.out (by decide)) (limR bd.out (by decide)) k9 hk9.out).mono ?_
  rintro e w35 ⟨rfl, hb⟩
  replace H := H.call hb
  clear hb
  refine ⟨_, rfl, ?_⟩
  refine hK.out _ _ ⟨H.cell m2 0, H.cell m2 1, H.cell m2 2, H.cell m2 3, H.cell m1 0, H.cell m1 1, H.cell m1 2, H.cell m1 3⟩ (fun hQ => ?_)
  clear hK K
  refine norm_ (a' := ?_) ?_ ?_
  rotate_left
  · show Act.put _ (some 47) _ = _
    simp only [Act.put, List.setIfInBounds_toArray, List.set_cons_zero, List.set_cons_succ, i64_w, i32_w]
    rfl
  refine pure_ (i := 6) (N := some 48) (v := ?_) (a' := ?_) (bm 30 127) rfl rfl (any_of HT_.out (by kernel_rfl)) (fun _ _ _ h => h) (Or.inl ⟨by rfl, ?_⟩) ?_ ?_
  rotate_left
  · intro w'
    go_simp
    with_reducible rfl
  rotate_left
  · simp only [Act.put, List.setIfInBounds_toArray, List.set_cons_zero, List.set_cons_succ, i64_w, i32_w]
    rfl
  refine pure_ (i := 7) (N := some 49) (v := ?_) (a' := ?_) (bm 30 255) rfl rfl (any_of HT_.out (by kernel_rfl)) (fun _ _ _ h => h) (Or.inl ⟨by rfl, ?_⟩) ?_ ?_
  rotate_left
  · intro w'
    go_simp
    with_reducible rfl
  rotate_left
  · simp only [Act.put, List.setIfInBounds_toArray, List.set_cons_zero, List.set_cons_succ, i64_w, i32_w]
    rfl
  refine pure_ (i := 8) (N := some 50) (v := ?_) (a' := ?_) (bm 30 511) rfl rfl (any_of HT_.out (by kernel_rfl)) (fun _ _ _ h => h) (Or.inl ⟨by rfl, ?_⟩) ?_ ?_
  rotate_left
  · intro w'
    go_simp
    with_reducible rfl
  rotate_left
  · simp only [Act.put, List.setIfInBounds_toArray, List.set_cons_zero, List.set_cons_succ, i64_w, i32_w]
    rfl
  refine take_ (i := 9) (N := some 51) (v := ?_) (a' := ?_) (bm 30 1023) rfl rfl (take_ofW HT_.out HW_.out (by kernel_rfl)) (fun _ _ _ h => h) (Or.inl ⟨by rfl, ?_⟩) hQ ?_ ?_
  rotate_left
  · rintro w' ⟨s0, s1, s2, s3, s4, s5, s6, s7⟩
    go_simp
    with_reducible rfl
  rotate_left
  · simp only [Act.put, List.setIfInBounds_toArray, List.set_cons_zero, List.set_cons_succ, i64_w, i32_w]
    rfl
  refine take_ (i := 10) (N := some 52) (v := ?_) (a' := ?_) (bm 30 2047) rfl rfl (take_ofW HT_.out HW_.out (by kernel_rfl)) (fun _ _ _ h => h) (Or.inl ⟨by rfl, ?_⟩) hQ ?_ ?_
  rotate_left
  · rintro w' ⟨s0, s1, s2, s3, s4, s5, s6, s7⟩
    go_simp
    with_reducible rfl
  rotate_left
  · simp only [Act.put, List.setIfInBounds_toArray, List.set_cons_zero, List.set_cons_succ, i64_w, i32_w]
    rfl
  refine take_ (i := 12) (N := some 54) (v := ?_) (a' := ?_) (bm 30 6143) rfl rfl (take_ofW HT_.out HW_.out (by kernel_rfl)) (fun _ _ _ h => h) (Or.inl ⟨by rfl, ?_⟩) hQ ?_ ?_
  rotate_left
  · rintro w' ⟨s0, s1, s2, s3, s4, s5, s6, s7⟩
    go_simp
    with_reducible rfl
  rotate_left
  · simp only [Act.put, List.setIfInBounds_toArray, List.set_cons_zero, List.set_cons_succ, i64_w, i32_w]
    rfl
  refine take_ (i := 13) (N := some 55) (v := ?_) (a' := ?_) (bm 30 14335) rfl rfl (take_ofW HT_.out HW_.out (by kernel_rfl)) (fun _ _ _ h => h) (Or.inl ⟨by rfl, ?_⟩) hQ ?_ ?_
  rotate_left
  · rintro w' ⟨s0, s1, s2, s3, s4, s5, s6, s7⟩
    go_simp
    with_reducible rfl
  rotate_left
  · simp only [Act.put, List.setIfInBounds_toArray, List.set_cons_zero, List.set_cons_succ, i64_w, i32_w]
    rfl
  refine one_ (i := 11) (N := some 53) (bm 30 16383) rfl rfl (one_of HT_.out (by kernel_rfl)) (by decide) (fun K hK => ?_)
  refine goes_ Try.func66 (by kernel_rfl) rfl #[.agg #[.bool (ng n), .slice A10 (ln n) c11, .bool (ng d), .slice A12 (ln d) c13], .agg #[.bool (ng p), .slice A14 (ln p) c15, .bool (ng q), .slice A16 (ln q) c17]] (by rfl) rfl rfl (by simp only [List.map_toArray, List.map_cons, List.map_nil]; try rfl) ?_
  with_reducible refine (CmpR (H.row _ m5) (H.row _ m4) (H.row _ m3) (H.row _ m2) (limR bn.out (by decide)) (limR bd.out (by decide)) (limR bp.out (by decide)) (limR bq.out (by decide)) k hk.out).mono ?_
  rintro e w36 ⟨rfl, hb⟩
  replace H := H.call hb
  clear hb
  refine ⟨_, rfl, ?_⟩
  refine hK.out _ _ ⟨H.cell m2 0, H.cell m2 1, H.cell m2 2, H.cell m2 3, H.cell m1 0, H.cell m1 1, H.cell m1 2, H.cell m1 3⟩ (fun hQ => ?_)
  clear hK K
  refine norm_ (a' := ?_) ?_ ?_
  rotate_left
  · show Act.put _ (some 53) _ = _
    simp only [Act.put, List.setIfInBounds_toArray, List.set_cons_zero, List.set_cons_succ, i64_w, i32_w]
    rfl
  refine one_ (i := 14) (N := some 56) (bm 30 32767) rfl rfl (one_of HT_.out (by kernel_rfl)) (by decide) (fun K hK => ?_)
  refine goes_ Try.func53 (by kernel_rfl) rfl #[.agg #[.bool (ng n), .slice A10 (ln n) c11, .bool (ng d), .slice A12 (ln d) c13], .agg #[.bool (ng p), .slice A14 (ln p) c15, .bool (ng q), .slice A16 (ln q) c17]] (by rfl) rfl rfl (by simp only [List.map_toArray, List.map_cons, List.map_nil]; try rfl) ?_
  with_reducible refine (SubR (H.row _ m5) (H.row _ m4) (H.row _ m3) (H.row _ m2) (limR bn.out (by decide)) (limR bd.out (by decide)) (limR bp.out (by decide)) (limR bq.out (by decide)) sn sd hsub.out).mono ?_
  rintro e w37 ⟨A38, c39, A40, c41, rfl, hr, hr2, hb⟩
  replace H := (H.got hr hb).more ((H.got hr2 hb).row _ m0)
  clear hr hr2 hb
  refine ⟨_, rfl, ?_⟩
  refine hK.out _ _ ⟨H.cell m2 0, H.cell m2 1, H.cell m2 2, H.cell m2 3, H.cell m1 0, H.cell m1 1, H.cell m1 2, H.cell m1 3⟩ (fun hQ => ?_)
  clear hK K
  refine norm_ (a' := ?_) ?_ ?_
  rotate_left
  · show Act.put _ (some 56) _ = _
    simp only [Act.put, List.setIfInBounds_toArray, List.set_cons_zero, List.set_cons_succ, i64_w, i32_w]
    rfl
  refine one_ (i := 15) (N := some 57) (bm 30 65535) rfl rfl (one_of HT_.out (by kernel_rfl)) (by decide) (fun K hK => ?_)
  refine goes_ Try.func54 (by kernel_rfl) rfl #[.agg #[.bool (ng sn), .slice A38 (ln sn) c39, .bool (ng sd), .slice A40 (ln sd) c41]] (by rfl) rfl rfl (by simp only [List.map_toArray, List.map_cons, List.map_nil]; try rfl) ?_
  with_reducible refine (SignR (lim bsn.out (by decide)) k hsg.out).mono ?_
  rintro e w42 ⟨rfl, hb⟩
  replace H := H.call hb
  clear hb
  refine ⟨_, rfl, ?_⟩
  refine hK.out _ _ ⟨H.cell m2 0, H.cell m2 1, H.cell m2 2, H.cell m2 3, H.cell m1 0, H.cell m1 1, H.cell m1 2, H.cell m1 3⟩ (fun hQ => ?_)
  clear hK K
  refine norm_ (a' := ?_) ?_ ?_
  rotate_left
  · show Act.put _ (some 57) _ = _
    simp only [Act.put, List.setIfInBounds_toArray, List.set_cons_zero, List.set_cons_succ, i64_w, i32_w]
    rfl
  refine pure_ (i := 16) (N := some 58) (v := ?_) (a' := ?_) (bm 30 131071) rfl rfl (any_of HT_.out (by kernel_rfl)) (fun _ _ _ h => h) (Or.inl ⟨by rfl, ?_⟩) ?_ ?_
  rotate_left
  · intro w'
    go_simp
    with_reducible rfl
  rotate_left
  · simp only [Act.put, List.setIfInBounds_toArray, List.set_cons_zero, List.set_cons_succ, i64_w, i32_w]
    rfl
  refine pure_ (i := 17) (N := some 59) (v := ?_) (a' := ?_) (bm 30 262143) rfl rfl (any_of HT_.out (by kernel_rfl)) (fun _ _ _ h => h) (Or.inl ⟨by rfl, ?_⟩) ?_ ?_
  rotate_left
  · intro w'
    go_simp
    with_reducible rfl
  rotate_left
  · simp only [Act.put, List.setIfInBounds_toArray, List.set_cons_zero, List.set_cons_succ, i64_w, i32_w]
    rfl
  refine pure_ (i := 18) (N := some 60) (v := ?_) (a' := ?_) (bm 30 524287) rfl rfl (any_of HT_.out (by kernel_rfl)) (fun _ _ _ h => h) (Or.inl ⟨by rfl, ?_⟩) ?_ ?_
  rotate_left
  · intro w'
    go_simp
    with_reducible rfl
  rotate_left
  · simp only [Act.put, List.setIfInBounds_toArray, List.set_cons_zero, List.set_cons_succ, i64_w, i32_w]
    rfl
  refine take_ (i := 19) (N := some 61) (v := ?_) (a' := ?_) (bm 30 1048575) rfl rfl (take_ofW HT_.out HW_.out (by kernel_rfl)) (fun _ _ _ h => h) (Or.inl ⟨by rfl, ?_⟩) hQ ?_ ?_
  rotate_left
  · rintro w' ⟨s0, s1, s2, s3, s4, s5, s6, s7⟩
    go_simp
    with_reducible rfl
  rotate_left
  · simp only [Act.put, List.setIfInBounds_toArray, List.set_cons_zero, List.set_cons_succ, i64_w, i32_w]
    rfl
  refine take_ (i := 20) (N := some 62) (v := ?_) (a' := ?_) (bm 30 2097151) rfl rfl (take_ofW HT_.out HW_.out (by kernel_rfl)) (fun _ _ _ h => h) (Or.inl ⟨by rfl, ?_⟩) hQ ?_ ?_
  rotate_left
  · rintro w' ⟨s0, s1, s2, s3, s4, s5, s6, s7⟩
    go_simp
    with_reducible rfl
  rotate_left
  · simp only [Act.put, List.setIfInBounds_toArray, List.set_cons_zero, List.set_cons_succ, i64_w, i32_w]
    rfl
  refine take_ (i := 23) (N := some 65) (v := ?_) (a' := ?_) (bm 30 10485759) rfl rfl (take_ofW HT_.out HW_.out (by kernel_rfl)) (fun _ _ _ h => h) (Or.inl ⟨by rfl, ?_⟩) hQ ?_ ?_
  rotate_left
  · rintro w' ⟨s0, s1, s2, s3, s4, s5, s6, s7⟩
    go_simp
    with_reducible rfl
  rotate_left
  · simp only [Act.put, List.setIfInBounds_toArray, List.set_cons_zero, List.set_cons_succ, i64_w, i32_w]
    rfl
  refine take_ (i := 25) (N := some 67) (v := ?_) (a' := ?_) (bm 30 44040191) rfl rfl (take_ofW HT_.out HW_.out (by kernel_rfl)) (fun _ _ _ h => h) (Or.inl ⟨by rfl, ?_⟩) hQ ?_ ?_
  rotate_left
  · rintro w' ⟨s0, s1, s2, s3, s4, s5, s6, s7⟩
    go_simp
    with_reducible rfl
  rotate_left
  · simp only [Act.put, List.setIfInBounds_toArray, List.set_cons_zero, List.set_cons_succ, i64_w, i32_w]
    rfl
  refine one_ (i := 21) (N := some 63) (bm 30 46137343) rfl rfl (one_of HT_.out (by kernel_rfl)) (by decide) (fun K hK => ?_)
  refine goes_ Try.func66 (by kernel_rfl) rfl #[.agg #[.bool (ng n), .slice A10 (ln n) c11, .bool (ng d), .slice A12 (ln d) c13], .agg #[.bool (ng p), .slice A14 (ln p) c15, .bool (ng q), .slice A16 (ln q) c17]] (by rfl) rfl rfl (by simp only [List.map_toArray, List.map_cons, List.map_nil]; try rfl) ?_
  with_reducible refine (CmpR (H.row _ m7) (H.row _ m6) (H.row _ m5) (H.row _ m4) (limR bn.out (by decide)) (limR bd.out (by decide)) (limR bp.out (by decide)) (limR bq.out (by decide)) k hk.out).mono ?_
  rintro e w43 ⟨rfl, hb⟩
  replace H := H.call hb
  clear hb
  refine ⟨_, rfl, ?_⟩
  refine hK.out _ _ ⟨H.cell m2 0, H.cell m2 1, H.cell m2 2, H.cell m2 3, H.cell m1 0, H.cell m1 1, H.cell m1 2, H.cell m1 3⟩ (fun hQ => ?_)
  clear hK K
  refine norm_ (a' := ?_) ?_ ?_
  rotate_left
  · show Act.put _ (some 63) _ = _
    simp only [Act.put, List.setIfInBounds_toArray, List.set_cons_zero, List.set_cons_succ, i64_w, i32_w]
    rfl
  refine pure_ (i := 22) (N := some 64) (v := ?_) (a' := ?_) (bm 30 50331647) rfl rfl (any_of HT_.out (by kernel_rfl)) (fun _ _ _ h => h) (Or.inl ⟨by rfl, ?_⟩) ?_ ?_
  rotate_left
  · intro w'
    go_simp
    with_reducible rfl
  rotate_left
  · simp only [Act.put, List.setIfInBounds_toArray, List.set_cons_zero, List.set_cons_succ, i64_w, i32_w]
    rfl
  refine one_ (i := 24) (N := some 66) (bm 30 67108863) rfl rfl (one_of HT_.out (by kernel_rfl)) (by decide) (fun K hK => ?_)
  refine goes_ Try.func46 (by kernel_rfl) rfl #[.agg #[.bool (ng n), .slice A10 (ln n) c11, .bool (ng d), .slice A12 (ln d) c13]] (by rfl) rfl rfl (by simp only [List.map_toArray, List.map_cons, List.map_nil]; try rfl) ?_
  with_reducible refine (TextR (H.row _ m7) (H.row _ m6) (limR bn.out (by decide)) (limR bd.out (by decide)) sx hsx.out).mono ?_
  rintro e w44 ⟨rfl, hb⟩
  replace H := H.call hb
  clear hb
  refine ⟨_, rfl, ?_⟩
  refine hK.out _ _ ⟨H.cell m2 0, H.cell m2 1, H.cell m2 2, H.cell m2 3, H.cell m1 0, H.cell m1 1, H.cell m1 2, H.cell m1 3⟩ (fun hQ => ?_)
  clear hK K
  refine norm_ (a' := ?_) ?_ ?_
  rotate_left
  · show Act.put _ (some 66) _ = _
    simp only [Act.put, List.setIfInBounds_toArray, List.set_cons_zero, List.set_cons_succ, i64_w, i32_w]
    rfl
  refine one_ (i := 26) (N := some 68) (bm 30 134217727) rfl rfl (one_of HT_.out (by kernel_rfl)) (by decide) (fun K hK => ?_)
  refine goes_ Try.func46 (by kernel_rfl) rfl #[.agg #[.bool (ng p), .slice A14 (ln p) c15, .bool (ng q), .slice A16 (ln q) c17]] (by rfl) rfl rfl (by simp only [List.map_toArray, List.map_cons, List.map_nil]; try rfl) ?_
  with_reducible refine (TextR (H.row _ m5) (H.row _ m4) (limR bp.out (by decide)) (limR bq.out (by decide)) sy hsy.out).mono ?_
  rintro e w45 ⟨rfl, hb⟩
  replace H := H.call hb
  clear hb
  refine ⟨_, rfl, ?_⟩
  refine hK.out _ _ ⟨H.cell m2 0, H.cell m2 1, H.cell m2 2, H.cell m2 3, H.cell m1 0, H.cell m1 1, H.cell m1 2, H.cell m1 3⟩ (fun hQ => ?_)
  clear hK K
  refine norm_ (a' := ?_) ?_ ?_
  rotate_left
  · show Act.put _ (some 68) _ = _
    simp only [Act.put, List.setIfInBounds_toArray, List.set_cons_zero, List.set_cons_succ, i64_w, i32_w]
    rfl
  refine pure_ (i := 27) (N := some 69) (v := ?_) (a' := ?_) (bm 30 268435455) rfl rfl (any_of HT_.out (by kernel_rfl)) (fun _ _ _ h => h) (Or.inl ⟨by rfl, ?_⟩) ?_ ?_
  rotate_left
  · intro w'
    go_simp
    with_reducible rfl
  rotate_left
  · simp only [Act.put, List.setIfInBounds_toArray, List.set_cons_zero, List.set_cons_succ, i64_w, i32_w]
    rfl
  refine pure_ (i := 28) (N := some 70) (v := ?_) (a' := ?_) (bm 30 536870911) rfl rfl (any_of HT_.out (by kernel_rfl)) (fun _ _ _ h => h) (Or.inl ⟨by rfl, ?_⟩) ?_ ?_
  rotate_left
  · intro w'
    go_simp
    with_reducible rfl
  rotate_left
  · simp only [Act.put, List.setIfInBounds_toArray, List.set_cons_zero, List.set_cons_succ, i64_w, i32_w]
    rfl
  refine pure_ (i := 29) (N := some 71) (v := ?_) (a' := ?_) (bm 30 1073741823) rfl rfl (any_of HT_.out (by kernel_rfl)) (fun _ _ _ h => h) (Or.inl ⟨by rfl, ?_⟩) ?_ ?_
  rotate_left
  · intro w'
    go_simp
    with_reducible rfl
  rotate_left
  · simp only [Act.put, List.setIfInBounds_toArray, List.set_cons_zero, List.set_cons_succ, i64_w, i32_w]
    rfl
  refine done_ (done_of HT_.out (by kernel_rfl)) ?_
  try clear hQ
  go_upto_region 11 with fail
  (try simp only [Act.put, List.setIfInBounds_toArray, List.set_cons_zero, List.set_cons_succ])
  obtain ⟨k10_0, z10_0, k10_1, z10_1, k10_2, z10_2, k10_3, z10_3⟩ := H.b4 (g := g10) m0
  obtain ⟨k8_0, z8_0, k8_1, z8_1, k8_2, z8_2, k8_3, z8_3⟩ := H.b4 (g := g8) m1
  obtain ⟨k7_0, z7_0, k7_1, z7_1, k7_2, z7_2, k7_3, z7_3⟩ := H.b4 (g := g7) m2
  have hcase := ord_case k l
  rcases hcase with ⟨h1, h2⟩ | ⟨h1, h2⟩ | h1
  have z1 : decide (k ≤ 0) = true := decide_eq_true h1
  have z2 : decide (l ≤ 0) = true := decide_eq_true h2
  have z3 : decide (0 < m) = false := decide_eq_false (Int.not_lt.mpr (hm0.out h1 h2))
  clear h1 h2
  have st47 := trivial
  have st49 := trivial
  have st51 := trivial
  go_upto_region 13 with (first
    | (clear st47; go_at_call 66; (with_reducible refine (CmpR (H.row _ m7) (H.row _ m6) (H.row _ m5) (H.row _ m4) (limR bn.out (by decide)) (limR bd.out (by decide)) (limR bp.out (by decide)) (limR bq.out (by decide)) k hk.out).mono ?_); rintro e w46 ⟨rfl, hb⟩; replace H := H.call hb; clear hb; clear k10_0 z10_0 k10_1 z10_1 k10_2 z10_2 k10_3 z10_3 k8_0 z8_0 k8_1 z8_1 k8_2 z8_2 k8_3 z8_3 k7_0 z7_0 k7_1 z7_1 k7_2 z7_2 k7_3 z7_3; obtain ⟨k10_0, z10_0, k10_1, z10_1, k10_2, z10_2, k10_3, z10_3⟩ := H.b4 (g := g10) m0; obtain ⟨k8_0, z8_0, k8_1, z8_1, k8_2, z8_2, k8_3, z8_3⟩ := H.b4 (g := g8) m1; obtain ⟨k7_0, z7_0, k7_1, z7_1, k7_2, z7_2, k7_3, z7_3⟩ := H.b4 (g := g7) m2)
    | (clear st49; go_at_call 66; (with_reducible refine (CmpR (H.row _ m5) (H.row _ m4) (H.row _ m3) (H.row _ m2) (limR bp.out (by decide)) (limR bq.out (by decide)) (limR bu.out (by decide)) (limR bv.out (by decide)) l hl9.out).mono ?_); rintro e w48 ⟨rfl, hb⟩; replace H := H.call hb; clear hb; clear k10_0 z10_0 k10_1 z10_1 k10_2 z10_2 k10_3 z10_3 k8_0 z8_0 k8_1 z8_1 k8_2 z8_2 k8_3 z8_3 k7_0 z7_0 k7_1 z7_1 k7_2 z7_2 k7_3 z7_3; obtain ⟨k10_0, z10_0, k10_1, z10_1, k10_2, z10_2, k10_3, z10_3⟩ := H.b4 (g := g10) m0; obtain ⟨k8_0, z8_0, k8_1, z8_1, k8_2, z8_2, k8_3, z8_3⟩ := H.b4 (g := g8) m1; obtain ⟨k7_0, z7_0, k7_1, z7_1, k7_2, z7_2, k7_3, z7_3⟩ := H.b4 (g := g7) m2)
    | (clear st51; go_at_call 66; (with_reducible refine (CmpR (H.row _ m7) (H.row _ m6) (H.row _ m3) (H.row _ m2) (limR bn.out (by decide)) (limR bd.out (by decide)) (limR bu.out (by decide)) (limR bv.out (by decide)) m hm.out).mono ?_); rintro e w50 ⟨rfl, hb⟩; replace H := H.call hb; clear hb; clear k10_0 z10_0 k10_1 z10_1 k10_2 z10_2 k10_3 z10_3 k8_0 z8_0 k8_1 z8_1 k8_2 z8_2 k8_3 z8_3 k7_0 z7_0 k7_1 z7_1 k7_2 z7_2 k7_3 z7_3; obtain ⟨k10_0, z10_0, k10_1, z10_1, k10_2, z10_2, k10_3, z10_3⟩ := H.b4 (g := g10) m0; obtain ⟨k8_0, z8_0, k8_1, z8_1, k8_2, z8_2, k8_3, z8_3⟩ := H.b4 (g := g8) m1; obtain ⟨k7_0, z7_0, k7_1, z7_1, k7_2, z7_2, k7_3, z7_3⟩ := H.b4 (g := g7) m2))
  (try simp only [Act.put, List.setIfInBounds_toArray, List.set_cons_zero, List.set_cons_succ])
  clear k10_0 z10_0 k10_1 z10_1 k10_2 z10_2 k10_3 z10_3 k8_0 z8_0 k8_1 z8_1 k8_2 z8_2 k8_3 z8_3 k7_0 z7_0 k7_1 z7_1 k7_2 z7_2 k7_3 z7_3
  generalize w50 = wJ at H ⊢
  rotate_left
  have z1 : decide (k ≤ 0) = true := decide_eq_true h1
  have z2 : decide (l ≤ 0) = false := decide_eq_false (Int.not_le.mpr h2)
  clear h1 h2
  have st53 := trivial
  have st55 := trivial
  go_upto_region 13 with (first
    | (clear st53; go_at_call 66; (with_reducible refine (CmpR (H.row _ m7) (H.row _ m6) (H.row _ m5) (H.row _ m4) (limR bn.out (by decide)) (limR bd.out (by decide)) (limR bp.out (by decide)) (limR bq.out (by decide)) k hk.out).mono ?_); rintro e w52 ⟨rfl, hb⟩; replace H := H.call hb; clear hb; clear k10_0 z10_0 k10_1 z10_1 k10_2 z10_2 k10_3 z10_3 k8_0 z8_0 k8_1 z8_1 k8_2 z8_2 k8_3 z8_3 k7_0 z7_0 k7_1 z7_1 k7_2 z7_2 k7_3 z7_3; obtain ⟨k10_0, z10_0, k10_1, z10_1, k10_2, z10_2, k10_3, z10_3⟩ := H.b4 (g := g10) m0; obtain ⟨k8_0, z8_0, k8_1, z8_1, k8_2, z8_2, k8_3, z8_3⟩ := H.b4 (g := g8) m1; obtain ⟨k7_0, z7_0, k7_1, z7_1, k7_2, z7_2, k7_3, z7_3⟩ := H.b4 (g := g7) m2)
    | (clear st55; go_at_call 66; (with_reducible refine (CmpR (H.row _ m5) (H.row _ m4) (H.row _ m3) (H.row _ m2) (limR bp.out (by decide)) (limR bq.out (by decide)) (limR bu.out (by decide)) (limR bv.out (by decide)) l hl9.out).mono ?_); rintro e w54 ⟨rfl, hb⟩; replace H := H.call hb; clear hb; clear k10_0 z10_0 k10_1 z10_1 k10_2 z10_2 k10_3 z10_3 k8_0 z8_0 k8_1 z8_1 k8_2 z8_2 k8_3 z8_3 k7_0 z7_0 k7_1 z7_1 k7_2 z7_2 k7_3 z7_3; obtain ⟨k10_0, z10_0, k10_1, z10_1, k10_2, z10_2, k10_3, z10_3⟩ := H.b4 (g := g10) m0; obtain ⟨k8_0, z8_0, k8_1, z8_1, k8_2, z8_2, k8_3, z8_3⟩ := H.b4 (g := g8) m1; obtain ⟨k7_0, z7_0, k7_1, z7_1, k7_2, z7_2, k7_3, z7_3⟩ := H.b4 (g := g7) m2))
  (try simp only [Act.put, List.setIfInBounds_toArray, List.set_cons_zero, List.set_cons_succ])
  clear k10_0 z10_0 k10_1 z10_1 k10_2 z10_2 k10_3 z10_3 k8_0 z8_0 k8_1 z8_1 k8_2 z8_2 k8_3 z8_3 k7_0 z7_0 k7_1 z7_1 k7_2 z7_2 k7_3 z7_3
  generalize w54 = wJ at H ⊢
  rotate_left
  have z1 : decide (k ≤ 0) = false := decide_eq_false (Int.not_le.mpr h1)
  clear h1
  have st57 := trivial
  go_upto_region 13 with (first
    | (clear st57; go_at_call 66; (with_reducible refine (CmpR (H.row _ m7) (H.row _ m6) (H.row _ m5) (H.row _ m4) (limR bn.out (by decide)) (limR bd.out (by decide)) (limR bp.out (by decide)) (limR bq.out (by decide)) k hk.out).mono ?_); rintro e w56 ⟨rfl, hb⟩; replace H := H.call hb; clear hb; clear k10_0 z10_0 k10_1 z10_1 k10_2 z10_2 k10_3 z10_3 k8_0 z8_0 k8_1 z8_1 k8_2 z8_2 k8_3 z8_3 k7_0 z7_0 k7_1 z7_1 k7_2 z7_2 k7_3 z7_3; obtain ⟨k10_0, z10_0, k10_1, z10_1, k10_2, z10_2, k10_3, z10_3⟩ := H.b4 (g := g10) m0; obtain ⟨k8_0, z8_0, k8_1, z8_1, k8_2, z8_2, k8_3, z8_3⟩ := H.b4 (g := g8) m1; obtain ⟨k7_0, z7_0, k7_1, z7_1, k7_2, z7_2, k7_3, z7_3⟩ := H.b4 (g := g7) m2))
  (try simp only [Act.put, List.setIfInBounds_toArray, List.set_cons_zero, List.set_cons_succ])
  clear k10_0 z10_0 k10_1 z10_1 k10_2 z10_2 k10_3 z10_3 k8_0 z8_0 k8_1 z8_1 k8_2 z8_2 k8_3 z8_3 k7_0 z7_0 k7_1 z7_1 k7_2 z7_2 k7_3 z7_3
  generalize w56 = wJ at H ⊢
  rotate_left
  all_goals
    replace H := H.drew
    refine start_ (n := 28) (S := fun w' => w'.cell? ⟨g7, 0, none⟩ = some (.bool (ng n)) ∧ w'.cell? ⟨g7, 1, none⟩ = some (.slice A10 (ln n) c11) ∧ w'.cell? ⟨g7, 2, none⟩ = some (.bool (ng d)) ∧ w'.cell? ⟨g7, 3, none⟩ = some (.slice A12 (ln d) c13) ∧ w'.cell? ⟨g10, 0, none⟩ = some (.bool (ng u)) ∧ w'.cell? ⟨g10, 1, none⟩ = some (.slice A25 (ln u) c26) ∧ w'.cell? ⟨g10, 2, none⟩ = some (.bool (ng v)) ∧ w'.cell? ⟨g10, 3, none⟩ = some (.slice A27 (ln v) c28) ∧ w'.cell? ⟨g8, 0, none⟩ = some (.bool (ng p)) ∧ w'.cell? ⟨g8, 1, none⟩ = some (.slice A14 (ln p) c15) ∧ w'.cell? ⟨g8, 2, none⟩ = some (.bool (ng q)) ∧ w'.cell? ⟨g8, 3, none⟩ = some (.slice A16 (ln q) c17)) (ds := []) #[false, false, false, false, false, false, false, false, false, false, false, false, false, false, false, false, false, false, false, false, false, false, false, false, false, false, false, false] (by kernel_rfl) rfl rfl ⟨H.cell m2 0, H.cell m2 1, H.cell m2 2, H.cell m2 3, H.cell m0 0, H.cell m0 1, H.cell m0 2, H.cell m0 3, H.cell m1 0, H.cell m1 1, H.cell m1 2, H.cell m1 3⟩ (fun hQ => ?_)
    generalize wJ.drew = w58 at H hQ ⊢
    refine with_tabW tb19.tab13 tb19.bits13 (fun HT_ HW_ => ?_)
    refine take_ (i := 0) (N := some 88) (v := ?_) (a' := ?_) (bm 28 1) rfl rfl (take_ofW HT_.out HW_.out (by kernel_rfl)) (fun _ _ _ h => h) (Or.inl ⟨by rfl, ?_⟩) hQ ?_ ?_
    rotate_left
    · rintro w' ⟨s0, s1, s2, s3, s4, s5, s6, s7, s8, s9, s10, s11⟩
      go_simp
      with_reducible rfl
    rotate_left
    · simp only [Act.put, List.setIfInBounds_toArray, List.set_cons_zero, List.set_cons_succ, i64_w, i32_w]
      rfl
    refine take_ (i := 1) (N := some 89) (v := ?_) (a' := ?_) (bm 28 3) rfl rfl (take_ofW HT_.out HW_.out (by kernel_rfl)) (fun _ _ _ h => h) (Or.inl ⟨by rfl, ?_⟩) hQ ?_ ?_
    rotate_left
    · rintro w' ⟨s0, s1, s2, s3, s4, s5, s6, s7, s8, s9, s10, s11⟩
      go_simp
      with_reducible rfl
    rotate_left
    · simp only [Act.put, List.setIfInBounds_toArray, List.set_cons_zero, List.set_cons_succ, i64_w, i32_w]
      rfl
    refine take_ (i := 3) (N := some 91) (v := ?_) (a' := ?_) (bm 28 11) rfl rfl (take_ofW HT_.out HW_.out (by kernel_rfl)) (fun _ _ _ h => h) (Or.inl ⟨by rfl, ?_⟩) hQ ?_ ?_
    rotate_left
    · rintro w' ⟨s0, s1, s2, s3, s4, s5, s6, s7, s8, s9, s10, s11⟩
      go_simp
      with_reducible rfl
    rotate_left
    · simp only [Act.put, List.setIfInBounds_toArray, List.set_cons_zero, List.set_cons_succ, i64_w, i32_w]
      rfl
    refine take_ (i := 4) (N := some 92) (v := ?_) (a' := ?_) (bm 28 27) rfl rfl (take_ofW HT_.out HW_.out (by kernel_rfl)) (fun _ _ _ h => h) (Or.inl ⟨by rfl, ?_⟩) hQ ?_ ?_
    rotate_left
    · rintro w' ⟨s0, s1, s2, s3, s4, s5, s6, s7, s8, s9, s10, s11⟩
      go_simp
      with_reducible rfl
    rotate_left
    · simp only [Act.put, List.setIfInBounds_toArray, List.set_cons_zero, List.set_cons_succ, i64_w, i32_w]
      rfl
    refine take_ (i := 7) (N := some 95) (v := ?_) (a' := ?_) (bm 28 155) rfl rfl (take_ofW HT_.out HW_.out (by kernel_rfl)) (fun _ _ _ h => h) (Or.inl ⟨by rfl, ?_⟩) hQ ?_ ?_
    rotate_left
    · rintro w' ⟨s0, s1, s2, s3, s4, s5, s6, s7, s8, s9, s10, s11⟩
      go_simp
      with_reducible rfl
    rotate_left
    · simp only [Act.put, List.setIfInBounds_toArray, List.set_cons_zero, List.set_cons_succ, i64_w, i32_w]
      rfl
    refine take_ (i := 8) (N := some 96) (v := ?_) (a' := ?_) (bm 28 411) rfl rfl (take_ofW HT_.out HW_.out (by kernel_rfl)) (fun _ _ _ h => h) (Or.inl ⟨by rfl, ?_⟩) hQ ?_ ?_
    rotate_left
    · rintro w' ⟨s0, s1, s2, s3, s4, s5, s6, s7, s8, s9, s10, s11⟩
      go_simp
      with_reducible rfl
    rotate_left
    · simp only [Act.put, List.setIfInBounds_toArray, List.set_cons_zero, List.set_cons_succ, i64_w, i32_w]
      rfl
    refine one_ (i := 2) (N := some 90) (bm 28 415) rfl rfl (one_of HT_.out (by kernel_rfl)) (by decide) (fun K hK => ?_)
    refine goes_ Try.func41 (by kernel_rfl) rfl #[.agg #[.bool (ng n), .slice A10 (ln n) c11, .bool (ng d), .slice A12 (ln d) c13], .agg #[.bool (ng u), .slice A25 (ln u) c26, .bool (ng v), .slice A27 (ln v) c28]] (by rfl) rfl rfl (by simp only [List.map_toArray, List.map_cons, List.map_nil]; try rfl) ?_
    with_reducible refine (AddR (H.row _ m7) (H.row _ m6) (H.row _ m3) (H.row _ m2) (limR bn.out (by decide)) (limR bd.out (by decide)) (limR bu.out (by decide)) (limR bv.out (by decide)) a1 a2 ha1.out).mono ?_
    rintro e w59 ⟨A60, c61, A62, c63, rfl, hr, hr2, hb⟩
    replace H := (H.got hr hb).more ((H.got hr2 hb).row _ m0)
    clear hr hr2 hb
    refine ⟨_, rfl, ?_⟩
    refine hK.out _ _ ⟨H.cell m2 0, H.cell m2 1, H.cell m2 2, H.cell m2 3, H.cell m0 0, H.cell m0 1, H.cell m0 2, H.cell m0 3, H.cell m1 0, H.cell m1 1, H.cell m1 2, H.cell m1 3⟩ (fun hQ => ?_)
    clear hK K
    refine norm_ (a' := ?_) ?_ ?_
    rotate_left
    · show Act.put _ (some 90) _ = _
      simp only [Act.put, List.setIfInBounds_toArray, List.set_cons_zero, List.set_cons_succ, i64_w, i32_w]
      rfl
    refine one_ (i := 5) (N := some 93) (bm 28 447) rfl rfl (one_of HT_.out (by kernel_rfl)) (by decide) (fun K hK => ?_)
    refine goes_ Try.func41 (by kernel_rfl) rfl #[.agg #[.bool (ng p), .slice A14 (ln p) c15, .bool (ng q), .slice A16 (ln q) c17], .agg #[.bool (ng u), .slice A25 (ln u) c26, .bool (ng v), .slice A27 (ln v) c28]] (by rfl) rfl rfl (by simp only [List.map_toArray, List.map_cons, List.map_nil]; try rfl) ?_
    with_reducible refine (AddR (H.row _ m7) (H.row _ m6) (H.row _ m5) (H.row _ m4) (limR bp.out (by decide)) (limR bq.out (by decide)) (limR bu.out (by decide)) (limR bv.out (by decide)) b1 b2 hb1.out).mono ?_
    rintro e w64 ⟨A65, c66, A67, c68, rfl, hr, hr2, hb⟩
    replace H := (H.got hr hb).more ((H.got hr2 hb).row _ m0)
    clear hr hr2 hb
    refine ⟨_, rfl, ?_⟩
    refine hK.out _ _ ⟨H.cell m2 0, H.cell m2 1, H.cell m2 2, H.cell m2 3, H.cell m0 0, H.cell m0 1, H.cell m0 2, H.cell m0 3, H.cell m1 0, H.cell m1 1, H.cell m1 2, H.cell m1 3⟩ (fun hQ => ?_)
    clear hK K
    refine norm_ (a' := ?_) ?_ ?_
    rotate_left
    · show Act.put _ (some 93) _ = _
      simp only [Act.put, List.setIfInBounds_toArray, List.set_cons_zero, List.set_cons_succ, i64_w, i32_w]
      rfl
    refine one_ (i := 6) (N := some 94) (bm 28 511) rfl rfl (one_of HT_.out (by kernel_rfl)) (by decide) (fun K hK => ?_)
    refine goes_ Try.func66 (by kernel_rfl) rfl #[.agg #[.bool (ng a1), .slice A60 (ln a1) c61, .bool (ng a2), .slice A62 (ln a2) c63], .agg #[.bool (ng b1), .slice A65 (ln b1) c66, .bool (ng b2), .slice A67 (ln b2) c68]] (by rfl) rfl rfl (by simp only [List.map_toArray, List.map_cons, List.map_nil]; try rfl) ?_
    with_reducible refine (CmpR (H.row _ m3) (H.row _ m2) (H.row _ m1) (H.row _ m0) (limR ba1.out (by decide)) (limR ba2.out (by decide)) (limR bb1.out (by decide)) (limR bb2.out (by decide)) k hkA.out).mono ?_
    rintro e w69 ⟨rfl, hb⟩
    replace H := H.call hb
    clear hb
    refine ⟨_, rfl, ?_⟩
    refine hK.out _ _ ⟨H.cell m2 0, H.cell m2 1, H.cell m2 2, H.cell m2 3, H.cell m0 0, H.cell m0 1, H.cell m0 2, H.cell m0 3, H.cell m1 0, H.cell m1 1, H.cell m1 2, H.cell m1 3⟩ (fun hQ => ?_)
    clear hK K
    refine norm_ (a' := ?_) ?_ ?_
    rotate_left
    · show Act.put _ (some 94) _ = _
      simp only [Act.put, List.setIfInBounds_toArray, List.set_cons_zero, List.set_cons_succ, i64_w, i32_w]
      rfl
    refine one_ (i := 9) (N := some 97) (bm 28 1023) rfl rfl (one_of HT_.out (by kernel_rfl)) (by decide) (fun K hK => ?_)
    refine goes_ Try.func66 (by kernel_rfl) rfl #[.agg #[.bool (ng n), .slice A10 (ln n) c11, .bool (ng d), .slice A12 (ln d) c13], .agg #[.bool (ng p), .slice A14 (ln p) c15, .bool (ng q), .slice A16 (ln q) c17]] (by rfl) rfl rfl (by simp only [List.map_toArray, List.map_cons, List.map_nil]; try rfl) ?_
    with_reducible refine (CmpR (H.row _ (mt m10)) (H.row _ m10) (H.row _ m9) (H.row _ m8) (limR bn.out (by decide)) (limR bd.out (by decide)) (limR bp.out (by decide)) (limR bq.out (by decide)) k hk.out).mono ?_
    rintro e w70 ⟨rfl, hb⟩
    replace H := H.call hb
    clear hb
    refine ⟨_, rfl, ?_⟩
    refine hK.out _ _ ⟨H.cell m2 0, H.cell m2 1, H.cell m2 2, H.cell m2 3, H.cell m0 0, H.cell m0 1, H.cell m0 2, H.cell m0 3, H.cell m1 0, H.cell m1 1, H.cell m1 2, H.cell m1 3⟩ (fun hQ => ?_)
    clear hK K
    refine norm_ (a' := ?_) ?_ ?_
    rotate_left
    · show Act.put _ (some 97) _ = _
      simp only [Act.put, List.setIfInBounds_toArray, List.set_cons_zero, List.set_cons_succ, i64_w, i32_w]
      rfl
    refine pure_ (i := 10) (N := some 98) (v := ?_) (a' := ?_) (bm 28 2047) rfl rfl (any_of HT_.out (by kernel_rfl)) (fun _ _ _ h => h) (Or.inl ⟨by rfl, ?_⟩) ?_ ?_
    rotate_left
    · intro w'
      go_simp
      with_reducible rfl
    rotate_left
    · simp only [Act.put, List.setIfInBounds_toArray, List.set_cons_zero, List.set_cons_succ, i64_w, i32_w]
      rfl
    refine pure_ (i := 11) (N := some 99) (v := ?_) (a' := ?_) (bm 28 4095) rfl rfl (any_of HT_.out (by kernel_rfl)) (fun _ _ _ h => h) (Or.inl ⟨by rfl, ?_⟩) ?_ ?_
    rotate_left
    · intro w'
      go_simp
      with_reducible rfl
    rotate_left
    · simp only [Act.put, List.setIfInBounds_toArray, List.set_cons_zero, List.set_cons_succ, i64_w, i32_w]
      rfl
    refine take_ (i := 12) (N := some 100) (v := ?_) (a' := ?_) (bm 28 8191) rfl rfl (take_ofW HT_.out HW_.out (by kernel_rfl)) (fun _ _ _ h => h) (Or.inl ⟨by rfl, ?_⟩) hQ ?_ ?_
    rotate_left
    · rintro w' ⟨s0, s1, s2, s3, s4, s5, s6, s7, s8, s9, s10, s11⟩
      go_simp
      with_reducible rfl
    rotate_left
    · simp only [Act.put, List.setIfInBounds_toArray, List.set_cons_zero, List.set_cons_succ, i64_w, i32_w]
      rfl
    refine take_ (i := 13) (N := some 101) (v := ?_) (a' := ?_) (bm 28 16383) rfl rfl (take_ofW HT_.out HW_.out (by kernel_rfl)) (fun _ _ _ h => h) (Or.inl ⟨by rfl, ?_⟩) hQ ?_ ?_
    rotate_left
    · rintro w' ⟨s0, s1, s2, s3, s4, s5, s6, s7, s8, s9, s10, s11⟩
      go_simp
      with_reducible rfl
    rotate_left
    · simp only [Act.put, List.setIfInBounds_toArray, List.set_cons_zero, List.set_cons_succ, i64_w, i32_w]
      rfl
    refine take_ (i := 15) (N := some 103) (v := ?_) (a' := ?_) (bm 28 49151) rfl rfl (take_ofW HT_.out HW_.out (by kernel_rfl)) (fun _ _ _ h => h) (Or.inl ⟨by rfl, ?_⟩) hQ ?_ ?_
    rotate_left
    · rintro w' ⟨s0, s1, s2, s3, s4, s5, s6, s7, s8, s9, s10, s11⟩
      go_simp
      with_reducible rfl
    rotate_left
    · simp only [Act.put, List.setIfInBounds_toArray, List.set_cons_zero, List.set_cons_succ, i64_w, i32_w]
      rfl
    refine take_ (i := 16) (N := some 104) (v := ?_) (a' := ?_) (bm 28 114687) rfl rfl (take_ofW HT_.out HW_.out (by kernel_rfl)) (fun _ _ _ h => h) (Or.inl ⟨by rfl, ?_⟩) hQ ?_ ?_
    rotate_left
    · rintro w' ⟨s0, s1, s2, s3, s4, s5, s6, s7, s8, s9, s10, s11⟩
      go_simp
      with_reducible rfl
    rotate_left
    · simp only [Act.put, List.setIfInBounds_toArray, List.set_cons_zero, List.set_cons_succ, i64_w, i32_w]
      rfl
    refine take_ (i := 19) (N := some 107) (v := ?_) (a' := ?_) (bm 28 638975) rfl rfl (take_ofW HT_.out HW_.out (by kernel_rfl)) (fun _ _ _ h => h) (Or.inl ⟨by rfl, ?_⟩) hQ ?_ ?_
    rotate_left
    · rintro w' ⟨s0, s1, s2, s3, s4, s5, s6, s7, s8, s9, s10, s11⟩
      go_simp
      with_reducible rfl
    rotate_left
    · simp only [Act.put, List.setIfInBounds_toArray, List.set_cons_zero, List.set_cons_succ, i64_w, i32_w]
      rfl
    refine take_ (i := 20) (N := some 108) (v := ?_) (a' := ?_) (bm 28 1687551) rfl rfl (take_ofW HT_.out HW_.out (by kernel_rfl)) (fun _ _ _ h => h) (Or.inl ⟨by rfl, ?_⟩) hQ ?_ ?_
    rotate_left
    · rintro w' ⟨s0, s1, s2, s3, s4, s5, s6, s7, s8, s9, s10, s11⟩
      go_simp
      with_reducible rfl
    rotate_left
    · simp only [Act.put, List.setIfInBounds_toArray, List.set_cons_zero, List.set_cons_succ, i64_w, i32_w]
      rfl
    refine take_ (i := 22) (N := some 110) (v := ?_) (a' := ?_) (bm 28 5881855) rfl rfl (take_ofW HT_.out HW_.out (by kernel_rfl)) (fun _ _ _ h => h) (Or.inl ⟨by rfl, ?_⟩) hQ ?_ ?_
    rotate_left
    · rintro w' ⟨s0, s1, s2, s3, s4, s5, s6, s7, s8, s9, s10, s11⟩
      go_simp
      with_reducible rfl
    rotate_left
    · simp only [Act.put, List.setIfInBounds_toArray, List.set_cons_zero, List.set_cons_succ, i64_w, i32_w]
      rfl
    refine one_ (i := 14) (N := some 102) (bm 28 5898239) rfl rfl (one_of HT_.out (by kernel_rfl)) (by decide) (fun K hK => ?_)
    refine goes_ Try.func42 (by kernel_rfl) rfl #[.agg #[.bool (ng n), .slice A10 (ln n) c11, .bool (ng d), .slice A12 (ln d) c13], .agg #[.bool (ng u), .slice A25 (ln u) c26, .bool (ng v), .slice A27 (ln v) c28]] (by rfl) rfl rfl (by simp only [List.map_toArray, List.map_cons, List.map_nil]; try rfl) ?_
    with_reducible refine (MulR (H.row _ (mt m10)) (H.row _ m10) (H.row _ m7) (H.row _ m6) (limR bn.out (by decide)) (limR bd.out (by decide)) (limR bu.out (by decide)) (limR bv.out (by decide)) r1 r2 hr1x.out).mono ?_
    rintro e w71 ⟨A72, c73, A74, c75, rfl, hr, hr2, hb⟩
    replace H := (H.got hr hb).more ((H.got hr2 hb).row _ m0)
    clear hr hr2 hb
    refine ⟨_, rfl, ?_⟩
    refine hK.out _ _ ⟨H.cell m2 0, H.cell m2 1, H.cell m2 2, H.cell m2 3, H.cell m0 0, H.cell m0 1, H.cell m0 2, H.cell m0 3, H.cell m1 0, H.cell m1 1, H.cell m1 2, H.cell m1 3⟩ (fun hQ => ?_)
    clear hK K
    refine norm_ (a' := ?_) ?_ ?_
    rotate_left
    · show Act.put _ (some 102) _ = _
      simp only [Act.put, List.setIfInBounds_toArray, List.set_cons_zero, List.set_cons_succ, i64_w, i32_w]
      rfl
    refine one_ (i := 17) (N := some 105) (bm 28 6029311) rfl rfl (one_of HT_.out (by kernel_rfl)) (by decide) (fun K hK => ?_)
    refine goes_ Try.func42 (by kernel_rfl) rfl #[.agg #[.bool (ng p), .slice A14 (ln p) c15, .bool (ng q), .slice A16 (ln q) c17], .agg #[.bool (ng u), .slice A25 (ln u) c26, .bool (ng v), .slice A27 (ln v) c28]] (by rfl) rfl rfl (by simp only [List.map_toArray, List.map_cons, List.map_nil]; try rfl) ?_
    with_reducible refine (MulR (H.row _ (mt m10)) (H.row _ m10) (H.row _ m9) (H.row _ m8) (limR bp.out (by decide)) (limR bq.out (by decide)) (limR bu.out (by decide)) (limR bv.out (by decide)) r3 r4 hr3x.out).mono ?_
    rintro e w76 ⟨A77, c78, A79, c80, rfl, hr, hr2, hb⟩
    replace H := (H.got hr hb).more ((H.got hr2 hb).row _ m0)
    clear hr hr2 hb
    refine ⟨_, rfl, ?_⟩
    refine hK.out _ _ ⟨H.cell m2 0, H.cell m2 1, H.cell m2 2, H.cell m2 3, H.cell m0 0, H.cell m0 1, H.cell m0 2, H.cell m0 3, H.cell m1 0, H.cell m1 1, H.cell m1 2, H.cell m1 3⟩ (fun hQ => ?_)
    clear hK K
    refine norm_ (a' := ?_) ?_ ?_
    rotate_left
    · show Act.put _ (some 105) _ = _
      simp only [Act.put, List.setIfInBounds_toArray, List.set_cons_zero, List.set_cons_succ, i64_w, i32_w]
      rfl
    refine one_ (i := 18) (N := some 106) (bm 28 6291455) rfl rfl (one_of HT_.out (by kernel_rfl)) (by decide) (fun K hK => ?_)
    refine goes_ Try.func66 (by kernel_rfl) rfl #[.agg #[.bool (ng r1), .slice A72 (ln r1) c73, .bool (ng r2), .slice A74 (ln r2) c75], .agg #[.bool (ng r3), .slice A77 (ln r3) c78, .bool (ng r4), .slice A79 (ln r4) c80]] (by rfl) rfl rfl (by simp only [List.map_toArray, List.map_cons, List.map_nil]; try rfl) ?_
    with_reducible refine (CmpR (H.row _ m3) (H.row _ m2) (H.row _ m1) (H.row _ m0) (limR br1.out (by decide)) (limR br2.out (by decide)) (limR br3.out (by decide)) (limR br4.out (by decide)) kM hkM.out).mono ?_
    rintro e w81 ⟨rfl, hb⟩
    replace H := H.call hb
    clear hb
    refine ⟨_, rfl, ?_⟩
    refine hK.out _ _ ⟨H.cell m2 0, H.cell m2 1, H.cell m2 2, H.cell m2 3, H.cell m0 0, H.cell m0 1, H.cell m0 2, H.cell m0 3, H.cell m1 0, H.cell m1 1, H.cell m1 2, H.cell m1 3⟩ (fun hQ => ?_)
    clear hK K
    refine norm_ (a' := ?_) ?_ ?_
    rotate_left
    · show Act.put _ (some 106) _ = _
      simp only [Act.put, List.setIfInBounds_toArray, List.set_cons_zero, List.set_cons_succ, i64_w, i32_w]
      rfl
    refine one_ (i := 21) (N := some 109) (bm 28 8388607) rfl rfl (one_of HT_.out (by kernel_rfl)) (by decide) (fun K hK => ?_)
    refine goes_ Try.func66 (by kernel_rfl) rfl #[.agg #[.bool (ng n), .slice A10 (ln n) c11, .bool (ng d), .slice A12 (ln d) c13], .agg #[.bool (ng p), .slice A14 (ln p) c15, .bool (ng q), .slice A16 (ln q) c17]] (by rfl) rfl rfl (by simp only [List.map_toArray, List.map_cons, List.map_nil]; try rfl) ?_
    with_reducible refine (CmpR (H.row _ (mt (mt (mt (mt (mt m10)))))) (H.row _ (mt (mt (mt (mt m10))))) (H.row _ (mt (mt (mt m10)))) (H.row _ (mt (mt m10))) (limR bn.out (by decide)) (limR bd.out (by decide)) (limR bp.out (by decide)) (limR bq.out (by decide)) k hk.out).mono ?_
    rintro e w82 ⟨rfl, hb⟩
    replace H := H.call hb
    clear hb
    refine ⟨_, rfl, ?_⟩
    refine hK.out _ _ ⟨H.cell m2 0, H.cell m2 1, H.cell m2 2, H.cell m2 3, H.cell m0 0, H.cell m0 1, H.cell m0 2, H.cell m0 3, H.cell m1 0, H.cell m1 1, H.cell m1 2, H.cell m1 3⟩ (fun hQ => ?_)
    clear hK K
    refine norm_ (a' := ?_) ?_ ?_
    rotate_left
    · show Act.put _ (some 109) _ = _
      simp only [Act.put, List.setIfInBounds_toArray, List.set_cons_zero, List.set_cons_succ, i64_w, i32_w]
      rfl
    refine one_ (i := 23) (N := some 111) (bm 28 16777215) rfl rfl (one_of HT_.out (by kernel_rfl)) (by decide) (fun K hK => ?_)
    refine goes_ Try.func54 (by kernel_rfl) rfl #[.agg #[.bool (ng u), .slice A25 (ln u) c26, .bool (ng v), .slice A27 (ln v) c28]] (by rfl) rfl rfl (by simp only [List.map_toArray, List.map_cons, List.map_nil]; try rfl) ?_
    with_reducible refine (SignR (lim bu.out (by decide)) su hsu.out).mono ?_
    rintro e w83 ⟨rfl, hb⟩
    replace H := H.call hb
    clear hb
    refine ⟨_, rfl, ?_⟩
    refine hK.out _ _ ⟨H.cell m2 0, H.cell m2 1, H.cell m2 2, H.cell m2 3, H.cell m0 0, H.cell m0 1, H.cell m0 2, H.cell m0 3, H.cell m1 0, H.cell m1 1, H.cell m1 2, H.cell m1 3⟩ (fun hQ => ?_)
    clear hK K
    refine norm_ (a' := ?_) ?_ ?_
    rotate_left
    · show Act.put _ (some 111) _ = _
      simp only [Act.put, List.setIfInBounds_toArray, List.set_cons_zero, List.set_cons_succ, i64_w, i32_w]
      rfl
    refine pure_ (i := 24) (N := some 112) (v := ?_) (a' := ?_) (bm 28 33554431) rfl rfl (any_of HT_.out (by kernel_rfl)) (fun _ _ _ h => h) (Or.inl ⟨by rfl, ?_⟩) ?_ ?_
    rotate_left
    · intro w'
      go_simp
      with_reducible rfl
    rotate_left
    · simp only [Act.put, List.setIfInBounds_toArray, List.set_cons_zero, List.set_cons_succ, i64_w, i32_w]
      rfl
    refine pure_ (i := 25) (N := some 113) (v := ?_) (a' := ?_) (bm 28 67108863) rfl rfl (any_of HT_.out (by kernel_rfl)) (fun _ _ _ h => h) (Or.inl ⟨by rfl, ?_⟩) ?_ ?_
    rotate_left
    · intro w'
      go_simp
      with_reducible rfl
    rotate_left
    · simp only [Act.put, List.setIfInBounds_toArray, List.set_cons_zero, List.set_cons_succ, i64_w, i32_w]
      rfl
    refine pure_ (i := 26) (N := some 114) (v := ?_) (a' := ?_) (bm 28 134217727) rfl rfl (any_of HT_.out (by kernel_rfl)) (fun _ _ _ h => h) (Or.inl ⟨by rfl, ?_⟩) ?_ ?_
    rotate_left
    · intro w'
      go_simp
      with_reducible rfl
    rotate_left
    · simp only [Act.put, List.setIfInBounds_toArray, List.set_cons_zero, List.set_cons_succ, i64_w, i32_w]
      rfl
    refine pure_ (i := 27) (N := some 6) (v := ?_) (a' := ?_) (bm 28 268435455) rfl rfl (any_of HT_.out (by kernel_rfl)) (fun _ _ _ h => h) (Or.inl ⟨by rfl, ?_⟩) ?_ ?_
    rotate_left
    · intro w'
      go_simp
      with_reducible rfl
    rotate_left
    · simp only [Act.put, List.setIfInBounds_toArray, List.set_cons_zero, List.set_cons_succ, i64_w, i32_w]
      rfl
    refine done_ (done_of HT_.out (by kernel_rfl)) ?_
    try clear hQ
    go_wp2
    go_ret
    exact ⟨rfl, H.below⟩

theorem cmp3_vals (x y : Int) : cmp3 x y = -1 ∨ cmp3 x y = 0 ∨ cmp3 x y = 1 := by
  unfold cmp3
  by_cases h1 : x < y
  · exact .inl (if_pos h1)
  · rw [if_neg h1]
    by_cases h2 : y < x
    · exact .inr (.inr (if_pos h2))
    · exact .inr (.inl (if_neg h2))
theorem sg_vals (x : Int) : sg x = -1 ∨ sg x = 0 ∨ sg x = 1 := by rw [show sg x = cmp3 x 0 by rw [cmp3_sub, Int.sub_zero]]; exact cmp3_vals x 0
theorem wrap_cs (x y u : Int) : wrap64 (cmp3 x y * sg u) = cmp3 x y * sg u := by
  rcases cmp3_vals x y with h | h | h <;> rcases sg_vals u with k | k | k <;> (rw [h, k]; unfold wrap64; decide)
theorem wrap_c (x y : Int) : wrap64 (cmp3 x y) = cmp3 x y := by
  rcases cmp3_vals x y with h | h | h <;> (rw [h]; unfold wrap64; decide)
theorem bSum {x y z t b : Int} (hx : ln x ≤ 512) (hy : ln y ≤ 512) (hz : ln z ≤ 512) (ht : ln t ≤ 512) : ln (qn (x * y + z * t) b) ≤ 2000 := bQn (Nat.le_trans (bAdd (bMul hx hy rfl) (bMul hz ht rfl) rfl) (by decide)) rfl
theorem bPro {x y b : Int} (hx : ln x ≤ 512) (hy : ln y ≤ 512) : ln (qn (x * y) b) ≤ 2000 := bQn (Nat.le_trans (bMul hx hy rfl) (by decide)) rfl
theorem bDen {x y a : Int} (hx : ln x ≤ 512) (hy : ln y ≤ 512) : ln (qd a (x * y)) ≤ 2000 := bQd (Nat.le_trans (bMul hx hy rfl) (by decide)) rfl
theorem text_eq {a b : ByteArray} {n d p q : Int} (h1 : rp a = (n, d, 0)) (h2 : rp b = (p, q, 0)) : (cmp3 (n * q) (p * d) == 0) = (a.toList == b.toList) := by
  obtain ⟨d0, gd, -, -⟩ := rpL h1
  obtain ⟨q0, gq, -, -⟩ := rpL h2
  by_cases e : a = b
  · subst e
    rw [h1] at h2
    obtain ⟨e1, e2⟩ : n = p ∧ d = q := by simpa using h2
    subst e1 e2
    rw [cmp3_eq rfl, beq_self_eq_true, beq_self_eq_true]
  · have f : (a.toList == b.toList) = false := beq_eq_false_iff_ne.mpr (fun h => e (toList_inj h))
    rw [f]
    refine beq_eq_false_iff_ne.mpr (fun h => e ?_)
    have h3 : n * q = p * d := by
      unfold cmp3 at h
      split at h
      · omega
      · split at h <;> omega
    obtain ⟨e1, e2⟩ := low_unique d0 q0 gd gq h3
    rw [← rp_text h1, ← rp_text h2, e1, e2]
theorem orders2_walk (a b c : ByteArray) (w : World) : Calls Try.prog 19 #[.string a, .string b, .string c] w (fun e W' => e = .returned (.bool true) ∧ Below w.heap.size w W') := by
  by_cases la : 200 < (a.size : Int)
  · exact ord_la a b c w ⟨decide_eq_true la⟩
  by_cases lb : 200 < (b.size : Int)
  · exact ord_lb a b c w ⟨decide_eq_false la⟩ ⟨decide_eq_true lb⟩
  by_cases lc : 200 < (c.size : Int)
  · exact ord_lc a b c w ⟨decide_eq_false la⟩ ⟨decide_eq_false lb⟩ ⟨decide_eq_true lc⟩
  have la' := decide_eq_false la
  have lb' := decide_eq_false lb
  have lc' := decide_eq_false lc
  obtain ⟨⟨u, v, er⟩, hc⟩ : ∃ t, rp c = t := ⟨_, rfl⟩
  by_cases h : ∃ n d p q, BothR a b n d p q
  · obtain ⟨n, d, p, q, h⟩ := h
    by_cases he : er = 0
    · subst he
      obtain ⟨d0, gd, bn, bd⟩ := rpL h.1
      obtain ⟨q0, gq, bp, bq⟩ := rpL h.2
      obtain ⟨v0, gv, bu, bv⟩ := rpL hc
      have ed := dd_pos d0
      have eq' := dd_pos q0
      have ev := dd_pos v0
      have bd' : ln (dd d) ≤ 512 := by rw [ed]; exact bd
      have bq' : ln (dd q) ≤ 512 := by rw [eq']; exact bq
      have bv' : ln (dd v) ≤ 512 := by rw [ev]; exact bv
      have bnp : ln (-p) ≤ 512 := by rw [ln_neg]; exact bp
      have heq := text_eq h.1 h.2
      have hs1 : sg (qn (n * q + -p * d) (d * q)) = cmp3 (n * q) (p * d) := by
        rw [sg_qn (Int.mul_pos d0 q0), cmp3_sub]; congr 1; rw [Int.neg_mul]; omega
      refine ord_t a b c w ⟨la'⟩ ⟨lb'⟩ ⟨lc'⟩ n d p q u v ⟨bn⟩ ⟨bd⟩ ⟨bp⟩ ⟨bq⟩ ⟨bu⟩ ⟨bv⟩ ⟨twoR_ok h⟩ ⟨hc⟩ _ _ _ _ _ _ _ _ _ _ (cmp3 (n * dd q) (p * dd d)) _ _ _ (cmp3 (n * dd q) (p * dd d) * sg u) _ a b (a.toList == b.toList)
        ⟨bSum bn bq' bnp bd'⟩ ⟨bDen bd' bq'⟩ ⟨bSum bn bv' bu bd'⟩ ⟨bDen bd' bv'⟩ ⟨bSum bp bv' bu bq'⟩ ⟨bDen bq' bv'⟩ ⟨bPro bn bu⟩ ⟨bDen bd' bv'⟩ ⟨bPro bp bu⟩ ⟨bDen bq' bv'⟩
        ⟨rfl⟩ ⟨rfl⟩ (by rw [cmp3_swap]; exact wrap_c _ _) ⟨rfl, rfl⟩ ⟨?_⟩ ⟨rp_text h.1⟩ ⟨rp_text h.2⟩ ?_ rfl (by cases (a.toList == b.toList) <;> rfl) (by simp) (by simp) ⟨rfl⟩ ⟨rfl⟩ ⟨?_⟩ ⟨rfl, rfl⟩ ⟨rfl, rfl⟩ ⟨?_⟩ ⟨rfl, rfl⟩ ⟨rfl, rfl⟩ ⟨?_⟩ ⟨rfl⟩ (wrap_cs _ _ _) (by simp) (by rw [cmp3_swap, wrap_c]; simp) (by rw [wrap_cs]; simp) (by rw [cmp3_swap]; simp) (by simp)
      · rw [ed, eq']; exact hs1
      · rw [ed, eq']; exact heq
      · intro h1 h2
        rw [ed, eq'] at h1
        rw [ev, eq'] at h2
        rw [ev, ed]
        have := ord_trans d0 q0 v0 h1 h2
        omega
      · rw [ed, eq', ev]; exact (cmp_q (Int.mul_pos d0 v0) (Int.mul_pos q0 v0)).trans (ord_add d0 q0 v0)
      · rw [ed, eq', ev]; exact (cmp_q (Int.mul_pos d0 v0) (Int.mul_pos q0 v0)).trans (ord_mul d0 q0 v0)
    · exact ord_e a b c w ⟨la'⟩ ⟨lb'⟩ ⟨lc'⟩ n d p q u v er ⟨twoR_ok h⟩ ⟨hc⟩ (by simpa using he)
  · obtain ⟨n, d, p, q, h⟩ := twoR_not a b h
    exact ord_f a b c w ⟨la'⟩ ⟨lb'⟩ ⟨lc'⟩ n d p q u v er ⟨h⟩ ⟨hc⟩

end Go.Proofs.Ytdkapdgbfejgdaa
