/- ontimeref02.Make, Text; the arithmetic of its fractions. -/
import Derived.Test.YtdkapdgbfejgdaaSq
import Derived.Test.YtdkapdgbfejgdaaFa
namespace Go.Proofs.Ytdkapdgbfejgdaa
open Go.RowKit Go.Proofs.YtdkapdgbfejgdaaW.PrintWords Go.Proofs.YtdkapdgbfejgdaaW.PrintLast Go.Proofs.YtdkapdgbfejgdaaW.PrintMore
set_option linter.unusedSimpArgs false
set_option linter.unusedVariables false
set_option maxHeartbeats 8000000
set_option maxRecDepth 100000

theorem txN_size (m : Int) : (tx m).size ≤ dn m + 2 := by
  have h : (tx m).size = (txt m).length := by unfold tx strOfNums; simp [ByteArray.size]
  rw [h]
  unfold txt
  split
  · simp only [List.length_cons, List.length_nil]; omega
  · rw [List.length_append, List.length_reverse]
    have h2 : (c48 (dg 10 m.natAbs)).length = dn m := by simp [c48, dn, dl]
    rw [h2]
    split <;> simp only [List.length_cons, List.length_nil] <;> omega


theorem MakeF_0 {A B : Option Addr} {c k : Nat} {n d : Int} {w : World} {ok : Nat → Prop} (hf : (nw A c n).at w ok) (hg : (nw B k d).at w ok) (t1 : (sg n == 0) = true) (i : Int) (hi : Aside0 (1 = i)) : Calls Try.prog 65 #[.agg #[.int .i64 (sg n), .slice A (dn n) c], .agg #[.int .i64 (sg d), .slice B (dn d) k]] w (RetF2 w ok n i) := by
  have hu31 := Try.underlying31
  have hu76 := Try.underlying76
  have H := ((Sit.start w ok).arg hf).arg hg
  clear hf hg
  go_enter Try.func65, Try.ntmps65
  have st2 := trivial
  have st4 := trivial
  have st6 := trivial
  go_upto_region 2 with (first
    | (clear st2; (with_reducible refine gate_dst (N := 2) rfl ?_); refine bE #[.int .i64 (sg n), .slice A (dn n) c] 31 H ?_; clear H; intro g2 w1 H; have f2 := H.b2 (g := g2) m0)
    | (clear st4; (with_reducible refine gate_dst (N := 3) rfl ?_); refine bE #[.int .i64 (sg d), .slice B (dn d) k] 31 H ?_; clear H; intro g3 w3 H; clear f2; have f3 := H.b2 (g := g3) m0; have f2 := H.b2 (g := g2) m1; have ne_g3_g2 := H.ne (g := g3) (g' := g2) 0 1 rfl rfl (by decide); have ne_g2_g3 := ne_g3_g2.symm)
    | (clear st6; (with_reducible refine gate_dst (N := 4) rfl ?_); refine bE #[.int .i64 0, .slice none 0 0, .int .i64 0, .slice none 0 0] 76 H ?_; clear H; intro g4 w5 H; clear f3 f2; have f4 := H.b4 (g := g4) m0; have f3 := H.b2 (g := g3) m1; have f2 := H.b2 (g := g2) m2; have ne_g4_g3 := H.ne (g := g4) (g' := g3) 0 1 rfl rfl (by decide); have ne_g3_g4 := ne_g4_g3.symm; have ne_g4_g2 := H.ne (g := g4) (g' := g2) 0 2 rfl rfl (by decide); have ne_g2_g4 := ne_g4_g2.symm))
  (try simp only [nn])
  clear f4 f3 f2
  replace H := H.drew
  refine start_ (n := 4) (S := fun w' => w'.cell? ⟨g2, 0, none⟩ = some (.int .i64 (sg n)) ∧ w'.cell? ⟨g2, 1, none⟩ = some (.slice A (dn n) c)) (ds := [3]) #[false, false, false, false] (by kernel_rfl) rfl rfl (H.d2 m2) (fun hQ => ?_)
  generalize w5.drew = w7 at H hQ ⊢
  refine tU hQ 0 10 (bm 4 1) ?_
  refine oU 1 11 (bm 4 3) (fun K hK => ?_)
  refine gT Try.func93 #[] ?_
  with_reducible refine (OneN _ i hi.out).mono ?_
  rintro e w8 ⟨A9, c10, rfl, hr, hb⟩
  replace H := H.got (fresh_row hr) hb
  clear hr hb
  refine ⟨_, rfl, ?_⟩
  refine hK.out _ _ (H.d2 m2) (fun hQ => ?_)
  clear hK K
  refine nT ?_
  refine pU 2 12 (bm 4 7) ?_
  refine lU 3 (bm 4 15) (fun K hK => ?_)
  have f4 := H.b4 (g := g4) m0
  have f2 := H.b2 (g := g2) m2
  refine kT ?_
  refine hK.out _ _ ?_
  clear hK K
  refine done_ (by kernel_rfl) ?_
  try clear hQ
  go_wp2
  replace H := H.set4 [] (.int .i64 (sg n)) (.slice A (dn n) c) (.int .i64 (sg i)) (.slice A9 (dn i) c10)
  refine bodyPost_ret (results_cell_row rfl _ _ g4 76 #[.int .i64 (sg n), .slice A (dn n) c, .int .i64 (sg i), .slice A9 (dn i) c10] (0, 0) _ rfl (H.blk m0) Try.underlying76 rfl (by kernel_rfl)) rfl ?_
  exact ⟨A, c, A9, c10, rfl, H.ret m2, H.ret m0, H.below⟩


theorem MakeF_pp {A B : Option Addr} {c k : Nat} {n d : Int} {w : World} {ok : Nat → Prop} (hf : (nw A c n).at w ok) (hg : (nw B k d).at w ok) (gg rn r1 rd r2 : Int) (bn : Aside0 (dn n ≤ 100000)) (bd : Aside0 (dn d ≤ 100000)) (bgg : Aside0 (dn gg ≤ 100000)) (brn : Aside0 (dn rn ≤ 100000)) (br1 : Aside0 (dn r1 ≤ 100000)) (brd : Aside0 (dn rd ≤ 100000)) (br2 : Aside0 (dn r2 ≤ 100000)) (t1 : (sg n == 0) = false) (t2 : decide (sg d < 0) = false) (t3 : decide (sg n < 0) = false) (hgg : Aside0 (0 ≤ n ∧ 0 ≤ d ∧ ((Int.gcd n d : Nat) : Int) = gg)) (hq1 : Aside0 (gg ≠ 0 ∧ n.tdiv gg = rn ∧ n.tmod gg = r1)) (hq2 : Aside0 (gg ≠ 0 ∧ d.tdiv gg = rd ∧ d.tmod gg = r2)) : Calls Try.prog 65 #[.agg #[.int .i64 (sg n), .slice A (dn n) c], .agg #[.int .i64 (sg d), .slice B (dn d) k]] w (RetF2 w ok rn rd) := by
  have hu31 := Try.underlying31
  have hu76 := Try.underlying76
  have H := ((Sit.start w ok).arg hf).arg hg
  clear hf hg
  go_enter Try.func65, Try.ntmps65
  have st2 := trivial
  have st4 := trivial
  have st6 := trivial
  have st8 := trivial
  go_upto_region 6 with (first
    | (clear st2; (with_reducible refine gate_dst (N := 2) rfl ?_); refine bE #[.int .i64 (sg n), .slice A (dn n) c] 31 H ?_; clear H; intro g2 w1 H; have f2 := H.b2 (g := g2) m0)
    | (clear st4; (with_reducible refine gate_dst (N := 3) rfl ?_); refine bE #[.int .i64 (sg d), .slice B (dn d) k] 31 H ?_; clear H; intro g3 w3 H; clear f2; have f3 := H.b2 (g := g3) m0; have f2 := H.b2 (g := g2) m1; have ne_g3_g2 := H.ne (g := g3) (g' := g2) 0 1 rfl rfl (by decide); have ne_g2_g3 := ne_g3_g2.symm)
    | (clear st6; (with_reducible refine gate_dst (N := 4) rfl ?_); refine bE #[.int .i64 0, .slice none 0 0, .int .i64 0, .slice none 0 0] 76 H ?_; clear H; intro g4 w5 H; clear f3 f2; have f4 := H.b4 (g := g4) m0; have f3 := H.b2 (g := g3) m1; have f2 := H.b2 (g := g2) m2; have ne_g4_g3 := H.ne (g := g4) (g' := g3) 0 1 rfl rfl (by decide); have ne_g3_g4 := ne_g4_g3.symm; have ne_g4_g2 := H.ne (g := g4) (g' := g2) 0 2 rfl rfl (by decide); have ne_g2_g4 := ne_g4_g2.symm)
    | (clear st8; (with_reducible refine gate_dst (N := 5) rfl ?_); refine bE #[.int .i64 0, .slice none 0 0] 31 H ?_; clear H; intro g5 w7 H; clear f4 f3 f2; have f5 := H.b2 (g := g5) m0; have f4 := H.b4 (g := g4) m1; have f3 := H.b2 (g := g3) m2; have f2 := H.b2 (g := g2) m3; have ne_g5_g4 := H.ne (g := g5) (g' := g4) 0 1 rfl rfl (by decide); have ne_g4_g5 := ne_g5_g4.symm; have ne_g5_g3 := H.ne (g := g5) (g' := g3) 0 2 rfl rfl (by decide); have ne_g3_g5 := ne_g5_g3.symm; have ne_g5_g2 := H.ne (g := g5) (g' := g2) 0 3 rfl rfl (by decide); have ne_g2_g5 := ne_g5_g2.symm))
  (try simp only [nn])
  replace H := ((H.setn [] 0 (.int .i64 (sg n)) rfl).setn [] 1 (.slice A (dn n) c) rfl)
  clear f5 f4 f3 f2
  generalize ((w7.setCell ⟨g5, 0, none⟩ (.int .i64 (sg n))).setCell ⟨g5, 1, none⟩ (.slice A (dn n) c)) = w9 at H ⊢
  have f5 := H.b2 (g := g5) m0
  have f4 := H.b4 (g := g4) m1
  have f3 := H.b2 (g := g3) m2
  have f2 := H.b2 (g := g2) m3
  have st13 := trivial
  have st15 := trivial
  go_upto_region 9 with (first
    | (clear st13; go_at_call 94; (with_reducible refine (GcdN (H.row _ m1) (H.row _ m0) (Nat.le_trans bn.out (by decide)) (Nat.le_trans bd.out (by decide)) gg hgg.out).mono ?_); rintro e w10 ⟨A11, c12, rfl, hr, hb⟩; replace H := H.got hr hb; clear hr hb; clear f5 f4 f3 f2; have f5 := H.b2 (g := g5) m0; have f4 := H.b4 (g := g4) m1; have f3 := H.b2 (g := g3) m2; have f2 := H.b2 (g := g2) m3)
    | (clear st15; (with_reducible refine gate_dst (N := 6) rfl ?_); refine bE #[.int .i64 0, .slice none 0 0] 31 H ?_; clear H; intro g6 w14 H; clear f5 f4 f3 f2; have f6 := H.b2 (g := g6) m0; have f5 := H.b2 (g := g5) m1; have f4 := H.b4 (g := g4) m2; have f3 := H.b2 (g := g3) m3; have f2 := H.b2 (g := g2) m4; have ne_g6_g5 := H.ne (g := g6) (g' := g5) 0 1 rfl rfl (by decide); have ne_g5_g6 := ne_g6_g5.symm; have ne_g6_g4 := H.ne (g := g6) (g' := g4) 0 2 rfl rfl (by decide); have ne_g4_g6 := ne_g6_g4.symm; have ne_g6_g3 := H.ne (g := g6) (g' := g3) 0 3 rfl rfl (by decide); have ne_g3_g6 := ne_g6_g3.symm; have ne_g6_g2 := H.ne (g := g6) (g' := g2) 0 4 rfl rfl (by decide); have ne_g2_g6 := ne_g6_g2.symm))
  (try simp only [nn])
  replace H := ((H.setn [] 0 (.int .i64 (sg gg)) rfl).setn [] 1 (.slice A11 (dn gg) c12) rfl)
  clear f6 f5 f4 f3 f2
  generalize ((w14.setCell ⟨g6, 0, none⟩ (.int .i64 (sg gg))).setCell ⟨g6, 1, none⟩ (.slice A11 (dn gg) c12)) = w16 at H ⊢
  have f6 := H.b2 (g := g6) m0
  have f5 := H.b2 (g := g5) m1
  have f4 := H.b4 (g := g4) m2
  have f3 := H.b2 (g := g3) m3
  have f2 := H.b2 (g := g2) m4
  have st22 := trivial
  go_upto_region 10 with (first
    | (clear st22; go_at_call 60; (with_reducible refine (DivN (H.row _ m2) (H.row _ m0) (Nat.le_trans bn.out (by decide)) (Nat.le_trans bgg.out (by decide)) rn r1 hq1.out).mono ?_); rintro e w17 ⟨A18, c19, A20, c21, rfl, hr, hr2, hb⟩; replace H := (H.got hr hb).more ((H.got hr2 hb).row _ m0); clear hr hr2 hb; clear f6 f5 f4 f3 f2; have f6 := H.b2 (g := g6) m0; have f5 := H.b2 (g := g5) m1; have f4 := H.b4 (g := g4) m2; have f3 := H.b2 (g := g3) m3; have f2 := H.b2 (g := g2) m4))
  (try simp only [nn])
  replace H := ((H.setn [_, _, _, _] 0 (.int .i64 (sg rn)) rfl).setn [_, _, _, _] 1 (.slice A18 (dn rn) c19) rfl)
  clear f6 f5 f4 f3 f2
  generalize ((w17.setCell ⟨g2, 0, none⟩ (.int .i64 (sg rn))).setCell ⟨g2, 1, none⟩ (.slice A18 (dn rn) c19)) = w23 at H ⊢
  have f6 := H.b2 (g := g6) m0
  have f5 := H.b2 (g := g5) m1
  have f4 := H.b4 (g := g4) m2
  have f3 := H.b2 (g := g3) m3
  have f2 := H.b2 (g := g2) m4
  have st29 := trivial
  go_upto_region 11 with (first
    | (clear st29; go_at_call 60; (with_reducible refine (DivN (H.row _ m3) (H.row _ m2) (Nat.le_trans bd.out (by decide)) (Nat.le_trans bgg.out (by decide)) rd r2 hq2.out).mono ?_); rintro e w24 ⟨A25, c26, A27, c28, rfl, hr, hr2, hb⟩; replace H := (H.got hr hb).more ((H.got hr2 hb).row _ m0); clear hr hr2 hb; clear f6 f5 f4 f3 f2; have f6 := H.b2 (g := g6) m0; have f5 := H.b2 (g := g5) m1; have f4 := H.b4 (g := g4) m2; have f3 := H.b2 (g := g3) m3; have f2 := H.b2 (g := g2) m4))
  (try simp only [nn])
  replace H := ((H.setn [_, _, _] 0 (.int .i64 (sg rd)) rfl).setn [_, _, _] 1 (.slice A25 (dn rd) c26) rfl)
  clear f6 f5 f4 f3 f2
  generalize ((w24.setCell ⟨g3, 0, none⟩ (.int .i64 (sg rd))).setCell ⟨g3, 1, none⟩ (.slice A25 (dn rd) c26)) = w30 at H ⊢
  have f6 := H.b2 (g := g6) m0
  have f5 := H.b2 (g := g5) m1
  have f4 := H.b4 (g := g4) m2
  have f3 := H.b2 (g := g3) m3
  have f2 := H.b2 (g := g2) m4
  go_wp2
  replace H := H.set4 [_, _] (.int .i64 (sg rn)) (.slice A18 (dn rn) c19) (.int .i64 (sg rd)) (.slice A25 (dn rd) c26)
  refine bodyPost_ret (results_cell_row rfl _ _ g4 76 #[.int .i64 (sg rn), .slice A18 (dn rn) c19, .int .i64 (sg rd), .slice A25 (dn rd) c26] (0, 0) _ rfl (H.blk m2) Try.underlying76 rfl (by kernel_rfl)) rfl ?_
  exact ⟨A18, c19, A25, c26, rfl, H.ret m3, H.ret m1, H.below⟩


theorem MakeF_pn {A B : Option Addr} {c k : Nat} {n d : Int} {w : World} {ok : Nat → Prop} (hf : (nw A c n).at w ok) (hg : (nw B k d).at w ok) (a gg rn r1 rd r2 : Int) (bn : Aside0 (dn n ≤ 100000)) (bd : Aside0 (dn d ≤ 100000)) (ba : Aside0 (dn a ≤ 100000)) (bgg : Aside0 (dn gg ≤ 100000)) (brn : Aside0 (dn rn ≤ 100000)) (br1 : Aside0 (dn r1 ≤ 100000)) (brd : Aside0 (dn rd ≤ 100000)) (br2 : Aside0 (dn r2 ≤ 100000)) (t1 : (sg n == 0) = false) (t2 : decide (sg d < 0) = false) (t3 : decide (sg n < 0) = true) (ha : Aside0 (-n = a)) (hgg : Aside0 (0 ≤ a ∧ 0 ≤ d ∧ ((Int.gcd a d : Nat) : Int) = gg)) (hq1 : Aside0 (gg ≠ 0 ∧ n.tdiv gg = rn ∧ n.tmod gg = r1)) (hq2 : Aside0 (gg ≠ 0 ∧ d.tdiv gg = rd ∧ d.tmod gg = r2)) : Calls Try.prog 65 #[.agg #[.int .i64 (sg n), .slice A (dn n) c], .agg #[.int .i64 (sg d), .slice B (dn d) k]] w (RetF2 w ok rn rd) := by
  have hu31 := Try.underlying31
  have hu76 := Try.underlying76
  have H := ((Sit.start w ok).arg hf).arg hg
  clear hf hg
  go_enter Try.func65, Try.ntmps65
  have st2 := trivial
  have st4 := trivial
  have st6 := trivial
  have st8 := trivial
  go_upto_region 6 with (first
    | (clear st2; (with_reducible refine gate_dst (N := 2) rfl ?_); refine bE #[.int .i64 (sg n), .slice A (dn n) c] 31 H ?_; clear H; intro g2 w1 H; have f2 := H.b2 (g := g2) m0)
    | (clear st4; (with_reducible refine gate_dst (N := 3) rfl ?_); refine bE #[.int .i64 (sg d), .slice B (dn d) k] 31 H ?_; clear H; intro g3 w3 H; clear f2; have f3 := H.b2 (g := g3) m0; have f2 := H.b2 (g := g2) m1; have ne_g3_g2 := H.ne (g := g3) (g' := g2) 0 1 rfl rfl (by decide); have ne_g2_g3 := ne_g3_g2.symm)
    | (clear st6; (with_reducible refine gate_dst (N := 4) rfl ?_); refine bE #[.int .i64 0, .slice none 0 0, .int .i64 0, .slice none 0 0] 76 H ?_; clear H; intro g4 w5 H; clear f3 f2; have f4 := H.b4 (g := g4) m0; have f3 := H.b2 (g := g3) m1; have f2 := H.b2 (g := g2) m2; have ne_g4_g3 := H.ne (g := g4) (g' := g3) 0 1 rfl rfl (by decide); have ne_g3_g4 := ne_g4_g3.symm; have ne_g4_g2 := H.ne (g := g4) (g' := g2) 0 2 rfl rfl (by decide); have ne_g2_g4 := ne_g4_g2.symm)
    | (clear st8; (with_reducible refine gate_dst (N := 5) rfl ?_); refine bE #[.int .i64 0, .slice none 0 0] 31 H ?_; clear H; intro g5 w7 H; clear f4 f3 f2; have f5 := H.b2 (g := g5) m0; have f4 := H.b4 (g := g4) m1; have f3 := H.b2 (g := g3) m2; have f2 := H.b2 (g := g2) m3; have ne_g5_g4 := H.ne (g := g5) (g' := g4) 0 1 rfl rfl (by decide); have ne_g4_g5 := ne_g5_g4.symm; have ne_g5_g3 := H.ne (g := g5) (g' := g3) 0 2 rfl rfl (by decide); have ne_g3_g5 := ne_g5_g3.symm; have ne_g5_g2 := H.ne (g := g5) (g' := g2) 0 3 rfl rfl (by decide); have ne_g2_g5 := ne_g5_g2.symm))
  (try simp only [nn])
  replace H := ((H.setn [] 0 (.int .i64 (sg n)) rfl).setn [] 1 (.slice A (dn n) c) rfl)
  clear f5 f4 f3 f2
  generalize ((w7.setCell ⟨g5, 0, none⟩ (.int .i64 (sg n))).setCell ⟨g5, 1, none⟩ (.slice A (dn n) c)) = w9 at H ⊢
  have f5 := H.b2 (g := g5) m0
  have f4 := H.b4 (g := g4) m1
  have f3 := H.b2 (g := g3) m2
  have f2 := H.b2 (g := g2) m3
  have st13 := trivial
  go_upto_region 8 with (first
    | (clear st13; go_at_call 57; (with_reducible refine (NegN (H.row _ m1) a ha.out).mono ?_); rintro e w10 ⟨A11, c12, rfl, hr, hb⟩; replace H := H.got hr hb; clear hr hb; clear f5 f4 f3 f2; have f5 := H.b2 (g := g5) m0; have f4 := H.b4 (g := g4) m1; have f3 := H.b2 (g := g3) m2; have f2 := H.b2 (g := g2) m3))
  (try simp only [nn])
  replace H := ((H.setn [] 0 (.int .i64 (sg a)) rfl).setn [] 1 (.slice A11 (dn a) c12) rfl)
  clear f5 f4 f3 f2
  generalize ((w10.setCell ⟨g5, 0, none⟩ (.int .i64 (sg a))).setCell ⟨g5, 1, none⟩ (.slice A11 (dn a) c12)) = w14 at H ⊢
  have f5 := H.b2 (g := g5) m0
  have f4 := H.b4 (g := g4) m1
  have f3 := H.b2 (g := g3) m2
  have f2 := H.b2 (g := g2) m3
  have st18 := trivial
  have st20 := trivial
  go_upto_region 9 with (first
    | (clear st18; go_at_call 94; (with_reducible refine (GcdN (H.row _ m0) (H.row _ m1) (Nat.le_trans ba.out (by decide)) (Nat.le_trans bd.out (by decide)) gg hgg.out).mono ?_); rintro e w15 ⟨A16, c17, rfl, hr, hb⟩; replace H := H.got hr hb; clear hr hb; clear f5 f4 f3 f2; have f5 := H.b2 (g := g5) m0; have f4 := H.b4 (g := g4) m1; have f3 := H.b2 (g := g3) m2; have f2 := H.b2 (g := g2) m3)
    | (clear st20; (with_reducible refine gate_dst (N := 6) rfl ?_); refine bE #[.int .i64 0, .slice none 0 0] 31 H ?_; clear H; intro g6 w19 H; clear f5 f4 f3 f2; have f6 := H.b2 (g := g6) m0; have f5 := H.b2 (g := g5) m1; have f4 := H.b4 (g := g4) m2; have f3 := H.b2 (g := g3) m3; have f2 := H.b2 (g := g2) m4; have ne_g6_g5 := H.ne (g := g6) (g' := g5) 0 1 rfl rfl (by decide); have ne_g5_g6 := ne_g6_g5.symm; have ne_g6_g4 := H.ne (g := g6) (g' := g4) 0 2 rfl rfl (by decide); have ne_g4_g6 := ne_g6_g4.symm; have ne_g6_g3 := H.ne (g := g6) (g' := g3) 0 3 rfl rfl (by decide); have ne_g3_g6 := ne_g6_g3.symm; have ne_g6_g2 := H.ne (g := g6) (g' := g2) 0 4 rfl rfl (by decide); have ne_g2_g6 := ne_g6_g2.symm))
  (try simp only [nn])
  replace H := ((H.setn [] 0 (.int .i64 (sg gg)) rfl).setn [] 1 (.slice A16 (dn gg) c17) rfl)
  clear f6 f5 f4 f3 f2
  generalize ((w19.setCell ⟨g6, 0, none⟩ (.int .i64 (sg gg))).setCell ⟨g6, 1, none⟩ (.slice A16 (dn gg) c17)) = w21 at H ⊢
  have f6 := H.b2 (g := g6) m0
  have f5 := H.b2 (g := g5) m1
  have f4 := H.b4 (g := g4) m2
  have f3 := H.b2 (g := g3) m3
  have f2 := H.b2 (g := g2) m4
  have st27 := trivial
  go_upto_region 10 with (first
    | (clear st27; go_at_call 60; (with_reducible refine (DivN (H.row _ m3) (H.row _ m0) (Nat.le_trans bn.out (by decide)) (Nat.le_trans bgg.out (by decide)) rn r1 hq1.out).mono ?_); rintro e w22 ⟨A23, c24, A25, c26, rfl, hr, hr2, hb⟩; replace H := (H.got hr hb).more ((H.got hr2 hb).row _ m0); clear hr hr2 hb; clear f6 f5 f4 f3 f2; have f6 := H.b2 (g := g6) m0; have f5 := H.b2 (g := g5) m1; have f4 := H.b4 (g := g4) m2; have f3 := H.b2 (g := g3) m3; have f2 := H.b2 (g := g2) m4))
  (try simp only [nn])
  replace H := ((H.setn [_, _, _, _] 0 (.int .i64 (sg rn)) rfl).setn [_, _, _, _] 1 (.slice A23 (dn rn) c24) rfl)
  clear f6 f5 f4 f3 f2
  generalize ((w22.setCell ⟨g2, 0, none⟩ (.int .i64 (sg rn))).setCell ⟨g2, 1, none⟩ (.slice A23 (dn rn) c24)) = w28 at H ⊢
  have f6 := H.b2 (g := g6) m0
  have f5 := H.b2 (g := g5) m1
  have f4 := H.b4 (g := g4) m2
  have f3 := H.b2 (g := g3) m3
  have f2 := H.b2 (g := g2) m4
  have st34 := trivial
  go_upto_region 11 with (first
    | (clear st34; go_at_call 60; (with_reducible refine (DivN (H.row _ m4) (H.row _ m2) (Nat.le_trans bd.out (by decide)) (Nat.le_trans bgg.out (by decide)) rd r2 hq2.out).mono ?_); rintro e w29 ⟨A30, c31, A32, c33, rfl, hr, hr2, hb⟩; replace H := (H.got hr hb).more ((H.got hr2 hb).row _ m0); clear hr hr2 hb; clear f6 f5 f4 f3 f2; have f6 := H.b2 (g := g6) m0; have f5 := H.b2 (g := g5) m1; have f4 := H.b4 (g := g4) m2; have f3 := H.b2 (g := g3) m3; have f2 := H.b2 (g := g2) m4))
  (try simp only [nn])
  replace H := ((H.setn [_, _, _] 0 (.int .i64 (sg rd)) rfl).setn [_, _, _] 1 (.slice A30 (dn rd) c31) rfl)
  clear f6 f5 f4 f3 f2
  generalize ((w29.setCell ⟨g3, 0, none⟩ (.int .i64 (sg rd))).setCell ⟨g3, 1, none⟩ (.slice A30 (dn rd) c31)) = w35 at H ⊢
  have f6 := H.b2 (g := g6) m0
  have f5 := H.b2 (g := g5) m1
  have f4 := H.b4 (g := g4) m2
  have f3 := H.b2 (g := g3) m3
  have f2 := H.b2 (g := g2) m4
  go_wp2
  replace H := H.set4 [_, _] (.int .i64 (sg rn)) (.slice A23 (dn rn) c24) (.int .i64 (sg rd)) (.slice A30 (dn rd) c31)
  refine bodyPost_ret (results_cell_row rfl _ _ g4 76 #[.int .i64 (sg rn), .slice A23 (dn rn) c24, .int .i64 (sg rd), .slice A30 (dn rd) c31] (0, 0) _ rfl (H.blk m2) Try.underlying76 rfl (by kernel_rfl)) rfl ?_
  exact ⟨A23, c24, A30, c31, rfl, H.ret m3, H.ret m1, H.below⟩


theorem MakeF_np {A B : Option Addr} {c k : Nat} {n d : Int} {w : World} {ok : Nat → Prop} (hf : (nw A c n).at w ok) (hg : (nw B k d).at w ok) (n1 d1 gg rn r1 rd r2 : Int) (bn : Aside0 (dn n ≤ 100000)) (bd : Aside0 (dn d ≤ 100000)) (bn1 : Aside0 (dn n1 ≤ 100000)) (bd1 : Aside0 (dn d1 ≤ 100000)) (bgg : Aside0 (dn gg ≤ 100000)) (brn : Aside0 (dn rn ≤ 100000)) (br1 : Aside0 (dn r1 ≤ 100000)) (brd : Aside0 (dn rd ≤ 100000)) (br2 : Aside0 (dn r2 ≤ 100000)) (t1 : (sg n == 0) = false) (t2 : decide (sg d < 0) = true) (hn1 : Aside0 (-n = n1)) (hd1 : Aside0 (-d = d1)) (t3 : decide (sg n1 < 0) = false) (hgg : Aside0 (0 ≤ n1 ∧ 0 ≤ d1 ∧ ((Int.gcd n1 d1 : Nat) : Int) = gg)) (hq1 : Aside0 (gg ≠ 0 ∧ n1.tdiv gg = rn ∧ n1.tmod gg = r1)) (hq2 : Aside0 (gg ≠ 0 ∧ d1.tdiv gg = rd ∧ d1.tmod gg = r2)) : Calls Try.prog 65 #[.agg #[.int .i64 (sg n), .slice A (dn n) c], .agg #[.int .i64 (sg d), .slice B (dn d) k]] w (RetF2 w ok rn rd) := by
  have hu31 := Try.underlying31
  have hu76 := Try.underlying76
  have H := ((Sit.start w ok).arg hf).arg hg
  clear hf hg
  go_enter Try.func65, Try.ntmps65
  have st2 := trivial
  have st4 := trivial
  have st6 := trivial
  go_upto_region 4 with (first
    | (clear st2; (with_reducible refine gate_dst (N := 2) rfl ?_); refine bE #[.int .i64 (sg n), .slice A (dn n) c] 31 H ?_; clear H; intro g2 w1 H; have f2 := H.b2 (g := g2) m0)
    | (clear st4; (with_reducible refine gate_dst (N := 3) rfl ?_); refine bE #[.int .i64 (sg d), .slice B (dn d) k] 31 H ?_; clear H; intro g3 w3 H; clear f2; have f3 := H.b2 (g := g3) m0; have f2 := H.b2 (g := g2) m1; have ne_g3_g2 := H.ne (g := g3) (g' := g2) 0 1 rfl rfl (by decide); have ne_g2_g3 := ne_g3_g2.symm)
    | (clear st6; (with_reducible refine gate_dst (N := 4) rfl ?_); refine bE #[.int .i64 0, .slice none 0 0, .int .i64 0, .slice none 0 0] 76 H ?_; clear H; intro g4 w5 H; clear f3 f2; have f4 := H.b4 (g := g4) m0; have f3 := H.b2 (g := g3) m1; have f2 := H.b2 (g := g2) m2; have ne_g4_g3 := H.ne (g := g4) (g' := g3) 0 1 rfl rfl (by decide); have ne_g3_g4 := ne_g4_g3.symm; have ne_g4_g2 := H.ne (g := g4) (g' := g2) 0 2 rfl rfl (by decide); have ne_g2_g4 := ne_g4_g2.symm))
  (try simp only [nn])
  clear f4 f3 f2
  replace H := H.drew
  refine start_ (n := 6) (S := fun w' => w'.cell? ⟨g2, 0, none⟩ = some (.int .i64 (sg n)) ∧ w'.cell? ⟨g2, 1, none⟩ = some (.slice A (dn n) c) ∧ w'.cell? ⟨g3, 0, none⟩ = some (.int .i64 (sg d)) ∧ w'.cell? ⟨g3, 1, none⟩ = some (.slice B (dn d) k)) (ds := [4, 5]) #[false, false, false, false, false, false] (by kernel_rfl) rfl rfl (H.c2 m2 (H.d2 m1)) (fun hQ => ?_)
  generalize w5.drew = w7 at H hQ ⊢
  refine tU hQ 0 16 (bm 6 1) ?_
  refine tU hQ 2 18 (bm 6 5) ?_
  refine oU 1 17 (bm 6 7) (fun K hK => ?_)
  refine gT Try.func57 #[.agg #[.int .i64 (sg n), .slice A (dn n) c]] ?_
  with_reducible refine (NegN (H.row _ m1) n1 hn1.out).mono ?_
  rintro e w8 ⟨A9, c10, rfl, hr, hb⟩
  replace H := H.got hr hb
  clear hr hb
  refine ⟨_, rfl, ?_⟩
  refine hK.out _ _ (H.c2 m2 (H.d2 m1)) (fun hQ => ?_)
  clear hK K
  refine nT ?_
  refine oU 3 19 (bm 6 15) (fun K hK => ?_)
  refine gT Try.func57 #[.agg #[.int .i64 (sg d), .slice B (dn d) k]] ?_
  with_reducible refine (NegN (H.row _ m1) d1 hd1.out).mono ?_
  rintro e w11 ⟨A12, c13, rfl, hr, hb⟩
  replace H := H.got hr hb
  clear hr hb
  refine ⟨_, rfl, ?_⟩
  refine hK.out _ _ (H.c2 m2 (H.d2 m1)) (fun hQ => ?_)
  clear hK K
  refine nT ?_
  refine lU 4 (bm 6 31) (fun K hK => ?_)
  have f3 := H.b2 (g := g3) m1
  have f2 := H.b2 (g := g2) m2
  refine kT ?_
  refine hK.out _ _ ?_
  clear hK K
  refine lU 5 (bm 6 63) (fun K hK => ?_)
  refine kT ?_
  refine hK.out _ _ ?_
  clear hK K
  refine done_ (by kernel_rfl) ?_
  try clear hQ
  replace H := ((((H.setn [_, _] 0 (.int .i64 (sg n1)) rfl).setn [_, _] 1 (.slice A9 (dn n1) c10) rfl).setn [_] 0 (.int .i64 (sg d1)) rfl).setn [_] 1 (.slice A12 (dn d1) c13) rfl)
  clear f3 f2
  generalize ((((w11.setCell ⟨g2, 0, none⟩ (.int .i64 (sg n1))).setCell ⟨g2, 1, none⟩ (.slice A9 (dn n1) c10)).setCell ⟨g3, 0, none⟩ (.int .i64 (sg d1))).setCell ⟨g3, 1, none⟩ (.slice A12 (dn d1) c13)) = w14 at H ⊢
  have f4 := H.b4 (g := g4) m0
  have f3 := H.b2 (g := g3) m1
  have f2 := H.b2 (g := g2) m2
  have st16 := trivial
  go_upto_region 6 with (first
    | (clear st16; (with_reducible refine gate_dst (N := 5) rfl ?_); refine bE #[.int .i64 0, .slice none 0 0] 31 H ?_; clear H; intro g5 w15 H; clear f4 f3 f2; have f5 := H.b2 (g := g5) m0; have f4 := H.b4 (g := g4) m1; have f3 := H.b2 (g := g3) m2; have f2 := H.b2 (g := g2) m3; have ne_g5_g4 := H.ne (g := g5) (g' := g4) 0 1 rfl rfl (by decide); have ne_g4_g5 := ne_g5_g4.symm; have ne_g5_g3 := H.ne (g := g5) (g' := g3) 0 2 rfl rfl (by decide); have ne_g3_g5 := ne_g5_g3.symm; have ne_g5_g2 := H.ne (g := g5) (g' := g2) 0 3 rfl rfl (by decide); have ne_g2_g5 := ne_g5_g2.symm))
  (try simp only [nn])
  replace H := ((H.setn [] 0 (.int .i64 (sg n1)) rfl).setn [] 1 (.slice A9 (dn n1) c10) rfl)
  clear f5 f4 f3 f2
  generalize ((w15.setCell ⟨g5, 0, none⟩ (.int .i64 (sg n1))).setCell ⟨g5, 1, none⟩ (.slice A9 (dn n1) c10)) = w17 at H ⊢
  have f5 := H.b2 (g := g5) m0
  have f4 := H.b4 (g := g4) m1
  have f3 := H.b2 (g := g3) m2
  have f2 := H.b2 (g := g2) m3
  have st21 := trivial
  have st23 := trivial
  go_upto_region 9 with (first
    | (clear st21; go_at_call 94; (with_reducible refine (GcdN (H.row _ m1) (H.row _ m0) (Nat.le_trans bn1.out (by decide)) (Nat.le_trans bd1.out (by decide)) gg hgg.out).mono ?_); rintro e w18 ⟨A19, c20, rfl, hr, hb⟩; replace H := H.got hr hb; clear hr hb; clear f5 f4 f3 f2; have f5 := H.b2 (g := g5) m0; have f4 := H.b4 (g := g4) m1; have f3 := H.b2 (g := g3) m2; have f2 := H.b2 (g := g2) m3)
    | (clear st23; (with_reducible refine gate_dst (N := 6) rfl ?_); refine bE #[.int .i64 0, .slice none 0 0] 31 H ?_; clear H; intro g6 w22 H; clear f5 f4 f3 f2; have f6 := H.b2 (g := g6) m0; have f5 := H.b2 (g := g5) m1; have f4 := H.b4 (g := g4) m2; have f3 := H.b2 (g := g3) m3; have f2 := H.b2 (g := g2) m4; have ne_g6_g5 := H.ne (g := g6) (g' := g5) 0 1 rfl rfl (by decide); have ne_g5_g6 := ne_g6_g5.symm; have ne_g6_g4 := H.ne (g := g6) (g' := g4) 0 2 rfl rfl (by decide); have ne_g4_g6 := ne_g6_g4.symm; have ne_g6_g3 := H.ne (g := g6) (g' := g3) 0 3 rfl rfl (by decide); have ne_g3_g6 := ne_g6_g3.symm; have ne_g6_g2 := H.ne (g := g6) (g' := g2) 0 4 rfl rfl (by decide); have ne_g2_g6 := ne_g6_g2.symm))
  (try simp only [nn])
  replace H := ((H.setn [] 0 (.int .i64 (sg gg)) rfl).setn [] 1 (.slice A19 (dn gg) c20) rfl)
  clear f6 f5 f4 f3 f2
  generalize ((w22.setCell ⟨g6, 0, none⟩ (.int .i64 (sg gg))).setCell ⟨g6, 1, none⟩ (.slice A19 (dn gg) c20)) = w24 at H ⊢
  have f6 := H.b2 (g := g6) m0
  have f5 := H.b2 (g := g5) m1
  have f4 := H.b4 (g := g4) m2
  have f3 := H.b2 (g := g3) m3
  have f2 := H.b2 (g := g2) m4
  have st30 := trivial
  go_upto_region 10 with (first
    | (clear st30; go_at_call 60; (with_reducible refine (DivN (H.row _ m2) (H.row _ m0) (Nat.le_trans bn1.out (by decide)) (Nat.le_trans bgg.out (by decide)) rn r1 hq1.out).mono ?_); rintro e w25 ⟨A26, c27, A28, c29, rfl, hr, hr2, hb⟩; replace H := (H.got hr hb).more ((H.got hr2 hb).row _ m0); clear hr hr2 hb; clear f6 f5 f4 f3 f2; have f6 := H.b2 (g := g6) m0; have f5 := H.b2 (g := g5) m1; have f4 := H.b4 (g := g4) m2; have f3 := H.b2 (g := g3) m3; have f2 := H.b2 (g := g2) m4))
  (try simp only [nn])
  replace H := ((H.setn [_, _, _, _] 0 (.int .i64 (sg rn)) rfl).setn [_, _, _, _] 1 (.slice A26 (dn rn) c27) rfl)
  clear f6 f5 f4 f3 f2
  generalize ((w25.setCell ⟨g2, 0, none⟩ (.int .i64 (sg rn))).setCell ⟨g2, 1, none⟩ (.slice A26 (dn rn) c27)) = w31 at H ⊢
  have f6 := H.b2 (g := g6) m0
  have f5 := H.b2 (g := g5) m1
  have f4 := H.b4 (g := g4) m2
  have f3 := H.b2 (g := g3) m3
  have f2 := H.b2 (g := g2) m4
  have st37 := trivial
  go_upto_region 11 with (first
    | (clear st37; go_at_call 60; (with_reducible refine (DivN (H.row _ m3) (H.row _ m2) (Nat.le_trans bd1.out (by decide)) (Nat.le_trans bgg.out (by decide)) rd r2 hq2.out).mono ?_); rintro e w32 ⟨A33, c34, A35, c36, rfl, hr, hr2, hb⟩; replace H := (H.got hr hb).more ((H.got hr2 hb).row _ m0); clear hr hr2 hb; clear f6 f5 f4 f3 f2; have f6 := H.b2 (g := g6) m0; have f5 := H.b2 (g := g5) m1; have f4 := H.b4 (g := g4) m2; have f3 := H.b2 (g := g3) m3; have f2 := H.b2 (g := g2) m4))
  (try simp only [nn])
  replace H := ((H.setn [_, _, _] 0 (.int .i64 (sg rd)) rfl).setn [_, _, _] 1 (.slice A33 (dn rd) c34) rfl)
  clear f6 f5 f4 f3 f2
  generalize ((w32.setCell ⟨g3, 0, none⟩ (.int .i64 (sg rd))).setCell ⟨g3, 1, none⟩ (.slice A33 (dn rd) c34)) = w38 at H ⊢
  have f6 := H.b2 (g := g6) m0
  have f5 := H.b2 (g := g5) m1
  have f4 := H.b4 (g := g4) m2
  have f3 := H.b2 (g := g3) m3
  have f2 := H.b2 (g := g2) m4
  go_wp2
  replace H := H.set4 [_, _] (.int .i64 (sg rn)) (.slice A26 (dn rn) c27) (.int .i64 (sg rd)) (.slice A33 (dn rd) c34)
  refine bodyPost_ret (results_cell_row rfl _ _ g4 76 #[.int .i64 (sg rn), .slice A26 (dn rn) c27, .int .i64 (sg rd), .slice A33 (dn rd) c34] (0, 0) _ rfl (H.blk m2) Try.underlying76 rfl (by kernel_rfl)) rfl ?_
  exact ⟨A26, c27, A33, c34, rfl, H.ret m3, H.ret m1, H.below⟩


theorem MakeF_nn {A B : Option Addr} {c k : Nat} {n d : Int} {w : World} {ok : Nat → Prop} (hf : (nw A c n).at w ok) (hg : (nw B k d).at w ok) (n1 d1 a gg rn r1 rd r2 : Int) (bn : Aside0 (dn n ≤ 100000)) (bd : Aside0 (dn d ≤ 100000)) (bn1 : Aside0 (dn n1 ≤ 100000)) (bd1 : Aside0 (dn d1 ≤ 100000)) (ba : Aside0 (dn a ≤ 100000)) (bgg : Aside0 (dn gg ≤ 100000)) (brn : Aside0 (dn rn ≤ 100000)) (br1 : Aside0 (dn r1 ≤ 100000)) (brd : Aside0 (dn rd ≤ 100000)) (br2 : Aside0 (dn r2 ≤ 100000)) (t1 : (sg n == 0) = false) (t2 : decide (sg d < 0) = true) (hn1 : Aside0 (-n = n1)) (hd1 : Aside0 (-d = d1)) (t3 : decide (sg n1 < 0) = true) (ha : Aside0 (-n1 = a)) (hgg : Aside0 (0 ≤ a ∧ 0 ≤ d1 ∧ ((Int.gcd a d1 : Nat) : Int) = gg)) (hq1 : Aside0 (gg ≠ 0 ∧ n1.tdiv gg = rn ∧ n1.tmod gg = r1)) (hq2 : Aside0 (gg ≠ 0 ∧ d1.tdiv gg = rd ∧ d1.tmod gg = r2)) : Calls Try.prog 65 #[.agg #[.int .i64 (sg n), .slice A (dn n) c], .agg #[.int .i64 (sg d), .slice B (dn d) k]] w (RetF2 w ok rn rd) := by
  have hu31 := Try.underlying31
  have hu76 := Try.underlying76
  have H := ((Sit.start w ok).arg hf).arg hg
  clear hf hg
  go_enter Try.func65, Try.ntmps65
  have st2 := trivial
  have st4 := trivial
  have st6 := trivial
  go_upto_region 4 with (first
    | (clear st2; (with_reducible refine gate_dst (N := 2) rfl ?_); refine bE #[.int .i64 (sg n), .slice A (dn n) c] 31 H ?_; clear H; intro g2 w1 H; have f2 := H.b2 (g := g2) m0)
    | (clear st4; (with_reducible refine gate_dst (N := 3) rfl ?_); refine bE #[.int .i64 (sg d), .slice B (dn d) k] 31 H ?_; clear H; intro g3 w3 H; clear f2; have f3 := H.b2 (g := g3) m0; have f2 := H.b2 (g := g2) m1; have ne_g3_g2 := H.ne (g := g3) (g' := g2) 0 1 rfl rfl (by decide); have ne_g2_g3 := ne_g3_g2.symm)
    | (clear st6; (with_reducible refine gate_dst (N := 4) rfl ?_); refine bE #[.int .i64 0, .slice none 0 0, .int .i64 0, .slice none 0 0] 76 H ?_; clear H; intro g4 w5 H; clear f3 f2; have f4 := H.b4 (g := g4) m0; have f3 := H.b2 (g := g3) m1; have f2 := H.b2 (g := g2) m2; have ne_g4_g3 := H.ne (g := g4) (g' := g3) 0 1 rfl rfl (by decide); have ne_g3_g4 := ne_g4_g3.symm; have ne_g4_g2 := H.ne (g := g4) (g' := g2) 0 2 rfl rfl (by decide); have ne_g2_g4 := ne_g4_g2.symm))
  (try simp only [nn])
  clear f4 f3 f2
  replace H := H.drew
  refine start_ (n := 6) (S := fun w' => w'.cell? ⟨g2, 0, none⟩ = some (.int .i64 (sg n)) ∧ w'.cell? ⟨g2, 1, none⟩ = some (.slice A (dn n) c) ∧ w'.cell? ⟨g3, 0, none⟩ = some (.int .i64 (sg d)) ∧ w'.cell? ⟨g3, 1, none⟩ = some (.slice B (dn d) k)) (ds := [4, 5]) #[false, false, false, false, false, false] (by kernel_rfl) rfl rfl (H.c2 m2 (H.d2 m1)) (fun hQ => ?_)
  generalize w5.drew = w7 at H hQ ⊢
  refine tU hQ 0 16 (bm 6 1) ?_
  refine tU hQ 2 18 (bm 6 5) ?_
  refine oU 1 17 (bm 6 7) (fun K hK => ?_)
  refine gT Try.func57 #[.agg #[.int .i64 (sg n), .slice A (dn n) c]] ?_
  with_reducible refine (NegN (H.row _ m1) n1 hn1.out).mono ?_
  rintro e w8 ⟨A9, c10, rfl, hr, hb⟩
  replace H := H.got hr hb
  clear hr hb
  refine ⟨_, rfl, ?_⟩
  refine hK.out _ _ (H.c2 m2 (H.d2 m1)) (fun hQ => ?_)
  clear hK K
  refine nT ?_
  refine oU 3 19 (bm 6 15) (fun K hK => ?_)
  refine gT Try.func57 #[.agg #[.int .i64 (sg d), .slice B (dn d) k]] ?_
  with_reducible refine (NegN (H.row _ m1) d1 hd1.out).mono ?_
  rintro e w11 ⟨A12, c13, rfl, hr, hb⟩
  replace H := H.got hr hb
  clear hr hb
  refine ⟨_, rfl, ?_⟩
  refine hK.out _ _ (H.c2 m2 (H.d2 m1)) (fun hQ => ?_)
  clear hK K
  refine nT ?_
  refine lU 4 (bm 6 31) (fun K hK => ?_)
  have f3 := H.b2 (g := g3) m1
  have f2 := H.b2 (g := g2) m2
  refine kT ?_
  refine hK.out _ _ ?_
  clear hK K
  refine lU 5 (bm 6 63) (fun K hK => ?_)
  refine kT ?_
  refine hK.out _ _ ?_
  clear hK K
  refine done_ (by kernel_rfl) ?_
  try clear hQ
  replace H := ((((H.setn [_, _] 0 (.int .i64 (sg n1)) rfl).setn [_, _] 1 (.slice A9 (dn n1) c10) rfl).setn [_] 0 (.int .i64 (sg d1)) rfl).setn [_] 1 (.slice A12 (dn d1) c13) rfl)
  clear f3 f2
  generalize ((((w11.setCell ⟨g2, 0, none⟩ (.int .i64 (sg n1))).setCell ⟨g2, 1, none⟩ (.slice A9 (dn n1) c10)).setCell ⟨g3, 0, none⟩ (.int .i64 (sg d1))).setCell ⟨g3, 1, none⟩ (.slice A12 (dn d1) c13)) = w14 at H ⊢
  have f4 := H.b4 (g := g4) m0
  have f3 := H.b2 (g := g3) m1
  have f2 := H.b2 (g := g2) m2
  have st16 := trivial
  go_upto_region 6 with (first
    | (clear st16; (with_reducible refine gate_dst (N := 5) rfl ?_); refine bE #[.int .i64 0, .slice none 0 0] 31 H ?_; clear H; intro g5 w15 H; clear f4 f3 f2; have f5 := H.b2 (g := g5) m0; have f4 := H.b4 (g := g4) m1; have f3 := H.b2 (g := g3) m2; have f2 := H.b2 (g := g2) m3; have ne_g5_g4 := H.ne (g := g5) (g' := g4) 0 1 rfl rfl (by decide); have ne_g4_g5 := ne_g5_g4.symm; have ne_g5_g3 := H.ne (g := g5) (g' := g3) 0 2 rfl rfl (by decide); have ne_g3_g5 := ne_g5_g3.symm; have ne_g5_g2 := H.ne (g := g5) (g' := g2) 0 3 rfl rfl (by decide); have ne_g2_g5 := ne_g5_g2.symm))
  (try simp only [nn])
  replace H := ((H.setn [] 0 (.int .i64 (sg n1)) rfl).setn [] 1 (.slice A9 (dn n1) c10) rfl)
  clear f5 f4 f3 f2
  generalize ((w15.setCell ⟨g5, 0, none⟩ (.int .i64 (sg n1))).setCell ⟨g5, 1, none⟩ (.slice A9 (dn n1) c10)) = w17 at H ⊢
  have f5 := H.b2 (g := g5) m0
  have f4 := H.b4 (g := g4) m1
  have f3 := H.b2 (g := g3) m2
  have f2 := H.b2 (g := g2) m3
  have st21 := trivial
  go_upto_region 8 with (first
    | (clear st21; go_at_call 57; (with_reducible refine (NegN (H.row _ m1) a ha.out).mono ?_); rintro e w18 ⟨A19, c20, rfl, hr, hb⟩; replace H := H.got hr hb; clear hr hb; clear f5 f4 f3 f2; have f5 := H.b2 (g := g5) m0; have f4 := H.b4 (g := g4) m1; have f3 := H.b2 (g := g3) m2; have f2 := H.b2 (g := g2) m3))
  (try simp only [nn])
  replace H := ((H.setn [] 0 (.int .i64 (sg a)) rfl).setn [] 1 (.slice A19 (dn a) c20) rfl)
  clear f5 f4 f3 f2
  generalize ((w18.setCell ⟨g5, 0, none⟩ (.int .i64 (sg a))).setCell ⟨g5, 1, none⟩ (.slice A19 (dn a) c20)) = w22 at H ⊢
  have f5 := H.b2 (g := g5) m0
  have f4 := H.b4 (g := g4) m1
  have f3 := H.b2 (g := g3) m2
  have f2 := H.b2 (g := g2) m3
  have st26 := trivial
  have st28 := trivial
  go_upto_region 9 with (first
    | (clear st26; go_at_call 94; (with_reducible refine (GcdN (H.row _ m0) (H.row _ m1) (Nat.le_trans ba.out (by decide)) (Nat.le_trans bd1.out (by decide)) gg hgg.out).mono ?_); rintro e w23 ⟨A24, c25, rfl, hr, hb⟩; replace H := H.got hr hb; clear hr hb; clear f5 f4 f3 f2; have f5 := H.b2 (g := g5) m0; have f4 := H.b4 (g := g4) m1; have f3 := H.b2 (g := g3) m2; have f2 := H.b2 (g := g2) m3)
    | (clear st28; (with_reducible refine gate_dst (N := 6) rfl ?_); refine bE #[.int .i64 0, .slice none 0 0] 31 H ?_; clear H; intro g6 w27 H; clear f5 f4 f3 f2; have f6 := H.b2 (g := g6) m0; have f5 := H.b2 (g := g5) m1; have f4 := H.b4 (g := g4) m2; have f3 := H.b2 (g := g3) m3; have f2 := H.b2 (g := g2) m4; have ne_g6_g5 := H.ne (g := g6) (g' := g5) 0 1 rfl rfl (by decide); have ne_g5_g6 := ne_g6_g5.symm; have ne_g6_g4 := H.ne (g := g6) (g' := g4) 0 2 rfl rfl (by decide); have ne_g4_g6 := ne_g6_g4.symm; have ne_g6_g3 := H.ne (g := g6) (g' := g3) 0 3 rfl rfl (by decide); have ne_g3_g6 := ne_g6_g3.symm; have ne_g6_g2 := H.ne (g := g6) (g' := g2) 0 4 rfl rfl (by decide); have ne_g2_g6 := ne_g6_g2.symm))
  (try simp only [nn])
  replace H := ((H.setn [] 0 (.int .i64 (sg gg)) rfl).setn [] 1 (.slice A24 (dn gg) c25) rfl)
  clear f6 f5 f4 f3 f2
  generalize ((w27.setCell ⟨g6, 0, none⟩ (.int .i64 (sg gg))).setCell ⟨g6, 1, none⟩ (.slice A24 (dn gg) c25)) = w29 at H ⊢
  have f6 := H.b2 (g := g6) m0
  have f5 := H.b2 (g := g5) m1
  have f4 := H.b4 (g := g4) m2
  have f3 := H.b2 (g := g3) m3
  have f2 := H.b2 (g := g2) m4
  have st35 := trivial
  go_upto_region 10 with (first
    | (clear st35; go_at_call 60; (with_reducible refine (DivN (H.row _ m3) (H.row _ m0) (Nat.le_trans bn1.out (by decide)) (Nat.le_trans bgg.out (by decide)) rn r1 hq1.out).mono ?_); rintro e w30 ⟨A31, c32, A33, c34, rfl, hr, hr2, hb⟩; replace H := (H.got hr hb).more ((H.got hr2 hb).row _ m0); clear hr hr2 hb; clear f6 f5 f4 f3 f2; have f6 := H.b2 (g := g6) m0; have f5 := H.b2 (g := g5) m1; have f4 := H.b4 (g := g4) m2; have f3 := H.b2 (g := g3) m3; have f2 := H.b2 (g := g2) m4))
  (try simp only [nn])
  replace H := ((H.setn [_, _, _, _] 0 (.int .i64 (sg rn)) rfl).setn [_, _, _, _] 1 (.slice A31 (dn rn) c32) rfl)
  clear f6 f5 f4 f3 f2
  generalize ((w30.setCell ⟨g2, 0, none⟩ (.int .i64 (sg rn))).setCell ⟨g2, 1, none⟩ (.slice A31 (dn rn) c32)) = w36 at H ⊢
  have f6 := H.b2 (g := g6) m0
  have f5 := H.b2 (g := g5) m1
  have f4 := H.b4 (g := g4) m2
  have f3 := H.b2 (g := g3) m3
  have f2 := H.b2 (g := g2) m4
  have st42 := trivial
  go_upto_region 11 with (first
    | (clear st42; go_at_call 60; (with_reducible refine (DivN (H.row _ m4) (H.row _ m2) (Nat.le_trans bd1.out (by decide)) (Nat.le_trans bgg.out (by decide)) rd r2 hq2.out).mono ?_); rintro e w37 ⟨A38, c39, A40, c41, rfl, hr, hr2, hb⟩; replace H := (H.got hr hb).more ((H.got hr2 hb).row _ m0); clear hr hr2 hb; clear f6 f5 f4 f3 f2; have f6 := H.b2 (g := g6) m0; have f5 := H.b2 (g := g5) m1; have f4 := H.b4 (g := g4) m2; have f3 := H.b2 (g := g3) m3; have f2 := H.b2 (g := g2) m4))
  (try simp only [nn])
  replace H := ((H.setn [_, _, _] 0 (.int .i64 (sg rd)) rfl).setn [_, _, _] 1 (.slice A38 (dn rd) c39) rfl)
  clear f6 f5 f4 f3 f2
  generalize ((w37.setCell ⟨g3, 0, none⟩ (.int .i64 (sg rd))).setCell ⟨g3, 1, none⟩ (.slice A38 (dn rd) c39)) = w43 at H ⊢
  have f6 := H.b2 (g := g6) m0
  have f5 := H.b2 (g := g5) m1
  have f4 := H.b4 (g := g4) m2
  have f3 := H.b2 (g := g3) m3
  have f2 := H.b2 (g := g2) m4
  go_wp2
  replace H := H.set4 [_, _] (.int .i64 (sg rn)) (.slice A31 (dn rn) c32) (.int .i64 (sg rd)) (.slice A38 (dn rd) c39)
  refine bodyPost_ret (results_cell_row rfl _ _ g4 76 #[.int .i64 (sg rn), .slice A31 (dn rn) c32, .int .i64 (sg rd), .slice A38 (dn rd) c39] (0, 0) _ rfl (H.blk m2) Try.underlying76 rfl (by kernel_rfl)) rfl ?_
  exact ⟨A31, c32, A38, c39, rfl, H.ret m3, H.ret m1, H.below⟩

theorem gcd_dn {x y : Int} {a : Nat} (hx : x ≠ 0) (h : dn x ≤ a) : dn ((Int.gcd x y : Nat) : Int) ≤ a := by
  refine dLe h ?_
  have : Int.gcd x y = Nat.gcd x.natAbs y.natAbs := rfl
  rw [Int.natAbs_natCast, this]
  exact Nat.gcd_le_left _ (by omega)
theorem dMod {x y r : Int} {a : Nat} (hx : dn x ≤ a) (h : x.tmod y = r) : dn r ≤ a := dLe hx (by rw [← h, Int.natAbs_tmod]; exact Nat.mod_le _ _)
theorem dec_neg {x : Int} : decide (sg x < 0) = decide (x < 0) := by
  refine decide_eq_decide.mpr ?_
  unfold sg
  split <;> (try split) <;> omega
theorem MakeF {A B : Option Addr} {c k : Nat} {n d : Int} {w : World} {ok : Nat → Prop} (hf : (nw A c n).at w ok) (hg : (nw B k d).at w ok) (hn : dn n ≤ 100000) (hd : dn d ≤ 100000) (rn rd : Int) (h : d ≠ 0 ∧ qn n d = rn ∧ qd n d = rd) : Calls Try.prog 65 #[.agg #[.int .i64 (sg n), .slice A (dn n) c], .agg #[.int .i64 (sg d), .slice B (dn d) k]] w (RetF2 w ok rn rd) := by
  obtain ⟨hd0, hrn, hrd⟩ := h
  unfold qn at hrn
  unfold qd at hrd
  rw [if_neg hd0] at hrn hrd
  by_cases hn0 : n = 0
  · subst hn0
    have e1 : (0 : Int) = rn := by rw [← hrn]; split <;> simp
    have e2 : (1 : Int) = rd := by
      rw [← hrd]
      have e3 : ((Int.gcd 0 d : Nat) : Int) = (if d < 0 then -d else d) := by rw [Int.gcd_zero_left]; split <;> omega
      rw [e3, Int.tdiv_self (by split <;> omega)]
    subst e1
    exact MakeF_0 hf hg rfl rd ⟨e2⟩
  · have t1 := (sg_nz hn0).1
    have gp : ∀ {x y : Int}, x ≠ 0 → ((Int.gcd x y : Nat) : Int) ≠ 0 := by
      intro x y hx
      have : 0 < Nat.gcd x.natAbs y.natAbs := Nat.gcd_pos_of_pos_left _ (by omega)
      have e : Int.gcd x y = Nat.gcd x.natAbs y.natAbs := rfl
      omega
    have bg := gcd_dn (y := d) hn0 hn
    have h0 := gp (y := d) hn0
    by_cases hd1 : d < 0
    · rw [if_pos hd1] at hrn hrd
      have b1 : dn (-n) ≤ 100000 := by rw [dn_neg]; exact hn
      have b2 : dn (-d) ≤ 100000 := by rw [dn_neg]; exact hd
      by_cases hn1 : -n < 0
      · have b3 : dn (- -n) ≤ 100000 := by rw [dn_neg]; exact b1
        exact MakeF_nn hf hg (-n) (-d) (- -n) _ rn _ rd _ ⟨hn⟩ ⟨hd⟩ ⟨b1⟩ ⟨b2⟩ ⟨b3⟩ ⟨bg⟩ ⟨dTdiv b1 hrn⟩ ⟨dMod b1 rfl⟩ ⟨dTdiv b2 hrd⟩ ⟨dMod b2 rfl⟩ t1 (dec_neg.trans (decide_eq_true hd1)) ⟨rfl⟩ ⟨rfl⟩ (dec_neg.trans (decide_eq_true hn1)) ⟨rfl⟩ ⟨by omega, by omega, by rw [Int.neg_neg, Int.gcd_neg]⟩ ⟨h0, hrn, rfl⟩ ⟨h0, hrd, rfl⟩
      · exact MakeF_np hf hg (-n) (-d) _ rn _ rd _ ⟨hn⟩ ⟨hd⟩ ⟨b1⟩ ⟨b2⟩ ⟨bg⟩ ⟨dTdiv b1 hrn⟩ ⟨dMod b1 rfl⟩ ⟨dTdiv b2 hrd⟩ ⟨dMod b2 rfl⟩ t1 (dec_neg.trans (decide_eq_true hd1)) ⟨rfl⟩ ⟨rfl⟩ (dec_neg.trans (decide_eq_false hn1)) ⟨by omega, by omega, by rw [Int.gcd_neg, Int.neg_gcd]⟩ ⟨h0, hrn, rfl⟩ ⟨h0, hrd, rfl⟩
    · rw [if_neg hd1] at hrn hrd
      by_cases hn1 : n < 0
      · have b3 : dn (-n) ≤ 100000 := by rw [dn_neg]; exact hn
        exact MakeF_pn hf hg (-n) _ rn _ rd _ ⟨hn⟩ ⟨hd⟩ ⟨b3⟩ ⟨bg⟩ ⟨dTdiv hn hrn⟩ ⟨dMod hn rfl⟩ ⟨dTdiv hd hrd⟩ ⟨dMod hd rfl⟩ t1 (dec_neg.trans (decide_eq_false hd1)) (dec_neg.trans (decide_eq_true hn1)) ⟨rfl⟩ ⟨by omega, by omega, by rw [Int.neg_gcd]⟩ ⟨h0, hrn, rfl⟩ ⟨h0, hrd, rfl⟩
      · exact MakeF_pp hf hg _ rn _ rd _ ⟨hn⟩ ⟨hd⟩ ⟨bg⟩ ⟨dTdiv hn hrn⟩ ⟨dMod hn rfl⟩ ⟨dTdiv hd hrd⟩ ⟨dMod hd rfl⟩ t1 (dec_neg.trans (decide_eq_false hd1)) (dec_neg.trans (decide_eq_false hn1)) ⟨by omega, by omega, rfl⟩ ⟨h0, hrn, rfl⟩ ⟨h0, hrd, rfl⟩


theorem TextF_1 {A B : Option Addr} {c k : Nat} {n d : Int} {w : World} {ok : Nat → Prop} (hf : (nw A c n).at w ok) (hg : (nw B k d).at w ok) (bn : Aside0 (dn n ≤ 100000)) (bd : Aside0 (dn d ≤ 100000)) (i kc : Int) (bi : Aside0 (dn i ≤ 100000)) (hi : Aside0 (1 = i)) (hkc : Aside0 (cmp3 d i = kc)) (s1 s : ByteArray) (hs1 : Aside0 (tx n = s1)) (t1 : (kc != 0) = false) (h : Aside0 (s1 = s)) : Calls Try.prog 64 #[.agg #[.int .i64 (sg n), .slice A (dn n) c, .int .i64 (sg d), .slice B (dn d) k]] w (RetT s w) := by
  have hu31 := Try.underlying31
  have hu76 := Try.underlying76
  have H := ((Sit.start w ok).arg hf).arg hg
  clear hf hg
  go_enter Try.func64, Try.ntmps64
  have st2 := trivial
  have st4 := trivial
  go_upto_region 2 with (first
    | (clear st2; (with_reducible refine gate_dst (N := 1) rfl ?_); refine bE #[.int .i64 (sg n), .slice A (dn n) c, .int .i64 (sg d), .slice B (dn d) k] 76 H ?_; clear H; intro g1 w1 H; have f1 := H.b4 (g := g1) m0)
    | (clear st4; go_at_call 55; (with_reducible refine (TextN (Nat.le_trans bn.out (by decide)) (H.row _ m1) s1 hs1.out).mono ?_); rintro e w3 ⟨rfl, hb⟩; replace H := H.call hb; clear hb; clear f1; have f1 := H.b4 (g := g1) m0))
  (try simp only [nn])
  clear f1
  replace H := H.drew
  refine start_ (n := 5) (S := fun w' => w'.cell? ⟨g1, 0, none⟩ = some (.int .i64 (sg n)) ∧ w'.cell? ⟨g1, 1, none⟩ = some (.slice A (dn n) c) ∧ w'.cell? ⟨g1, 2, none⟩ = some (.int .i64 (sg d)) ∧ w'.cell? ⟨g1, 3, none⟩ = some (.slice B (dn d) k)) (ds := []) #[false, false, false, false, false] (by kernel_rfl) rfl rfl (H.d4 m0) (fun hQ => ?_)
  generalize w3.drew = w5 at H hQ ⊢
  refine pU 0 7 (bm 5 1) ?_
  refine tU hQ 1 8 (bm 5 3) ?_
  refine oU 2 9 (bm 5 7) (fun K hK => ?_)
  refine gT Try.func93 #[] ?_
  with_reducible refine (OneN _ i hi.out).mono ?_
  rintro e w6 ⟨A7, c8, rfl, hr, hb⟩
  replace H := H.got (fresh_row hr) hb
  clear hr hb
  refine ⟨_, rfl, ?_⟩
  refine hK.out _ _ (H.d4 m0) (fun hQ => ?_)
  clear hK K
  refine nT ?_
  refine oU 3 10 (bm 5 15) (fun K hK => ?_)
  refine gT Try.func59 #[.agg #[.int .i64 (sg d), .slice B (dn d) k], .agg #[.int .i64 (sg i), .slice A7 (dn i) c8]] ?_
  with_reducible refine (CmpN (H.row _ m1) (H.row _ m0) (Nat.le_trans bd.out (by decide)) (Nat.le_trans bi.out (by decide)) kc hkc.out).mono ?_
  rintro e w9 ⟨rfl, hb⟩
  replace H := H.call hb
  clear hb
  refine ⟨_, rfl, ?_⟩
  refine hK.out _ _ (H.d4 m0) (fun hQ => ?_)
  clear hK K
  refine nT ?_
  refine pU 4 11 (bm 5 31) ?_
  refine done_ (by kernel_rfl) ?_
  try clear hQ
  go_wp2
  go_ret
  obtain rfl := h.out
  exact ⟨rfl, H.below⟩


theorem TextF_2 {A B : Option Addr} {c k : Nat} {n d : Int} {w : World} {ok : Nat → Prop} (hf : (nw A c n).at w ok) (hg : (nw B k d).at w ok) (bn : Aside0 (dn n ≤ 100000)) (bd : Aside0 (dn d ≤ 100000)) (i kc : Int) (bi : Aside0 (dn i ≤ 100000)) (hi : Aside0 (1 = i)) (hkc : Aside0 (cmp3 d i = kc)) (s1 s : ByteArray) (hs1 : Aside0 (tx n = s1)) (s2 : ByteArray) (hs2 : Aside0 (tx d = s2)) (t1 : (kc != 0) = true) (z2 : s2.size ≤ 100002) (z3 : s1.size ≤ 100002) (z4 : ¬ 9223372036854775807 < s1.size + 1) (z5 : ¬ 9223372036854775807 < s1.size + 1 + s2.size) (h : Aside0 (s1 ++ ⟨#[47]⟩ ++ s2 = s)) : Calls Try.prog 64 #[.agg #[.int .i64 (sg n), .slice A (dn n) c, .int .i64 (sg d), .slice B (dn d) k]] w (RetT s w) := by
  have hu31 := Try.underlying31
  have hu76 := Try.underlying76
  have H := ((Sit.start w ok).arg hf).arg hg
  clear hf hg
  go_enter Try.func64, Try.ntmps64
  have st2 := trivial
  have st4 := trivial
  go_upto_region 2 with (first
    | (clear st2; (with_reducible refine gate_dst (N := 1) rfl ?_); refine bE #[.int .i64 (sg n), .slice A (dn n) c, .int .i64 (sg d), .slice B (dn d) k] 76 H ?_; clear H; intro g1 w1 H; have f1 := H.b4 (g := g1) m0)
    | (clear st4; go_at_call 55; (with_reducible refine (TextN (Nat.le_trans bn.out (by decide)) (H.row _ m1) s1 hs1.out).mono ?_); rintro e w3 ⟨rfl, hb⟩; replace H := H.call hb; clear hb; clear f1; have f1 := H.b4 (g := g1) m0))
  (try simp only [nn])
  clear f1
  replace H := H.drew
  refine start_ (n := 5) (S := fun w' => w'.cell? ⟨g1, 0, none⟩ = some (.int .i64 (sg n)) ∧ w'.cell? ⟨g1, 1, none⟩ = some (.slice A (dn n) c) ∧ w'.cell? ⟨g1, 2, none⟩ = some (.int .i64 (sg d)) ∧ w'.cell? ⟨g1, 3, none⟩ = some (.slice B (dn d) k)) (ds := []) #[false, false, false, false, false] (by kernel_rfl) rfl rfl (H.d4 m0) (fun hQ => ?_)
  generalize w3.drew = w5 at H hQ ⊢
  refine pU 0 7 (bm 5 1) ?_
  refine tU hQ 1 8 (bm 5 3) ?_
  refine oU 2 9 (bm 5 7) (fun K hK => ?_)
  refine gT Try.func93 #[] ?_
  with_reducible refine (OneN _ i hi.out).mono ?_
  rintro e w6 ⟨A7, c8, rfl, hr, hb⟩
  replace H := H.got (fresh_row hr) hb
  clear hr hb
  refine ⟨_, rfl, ?_⟩
  refine hK.out _ _ (H.d4 m0) (fun hQ => ?_)
  clear hK K
  refine nT ?_
  refine oU 3 10 (bm 5 15) (fun K hK => ?_)
  refine gT Try.func59 #[.agg #[.int .i64 (sg d), .slice B (dn d) k], .agg #[.int .i64 (sg i), .slice A7 (dn i) c8]] ?_
  with_reducible refine (CmpN (H.row _ m1) (H.row _ m0) (Nat.le_trans bd.out (by decide)) (Nat.le_trans bi.out (by decide)) kc hkc.out).mono ?_
  rintro e w9 ⟨rfl, hb⟩
  replace H := H.call hb
  clear hb
  refine ⟨_, rfl, ?_⟩
  refine hK.out _ _ (H.d4 m0) (fun hQ => ?_)
  clear hK K
  refine nT ?_
  refine pU 4 11 (bm 5 31) ?_
  refine done_ (by kernel_rfl) ?_
  try clear hQ
  have f1 := H.b4 (g := g1) m0
  have st11 := trivial
  go_wp2_with (first
    | (clear st11; go_at_call 55; (with_reducible refine (TextN (Nat.le_trans bd.out (by decide)) (H.row _ m1) s2 hs2.out).mono ?_); rintro e w10 ⟨rfl, hb⟩; replace H := H.call hb; clear hb; clear f1; have f1 := H.b4 (g := g1) m0))
  go_ret
  obtain rfl := h.out
  exact ⟨rfl, H.below⟩

theorem TextF {A B : Option Addr} {c k : Nat} {n d : Int} {w : World} {ok : Nat → Prop} (hf : (nw A c n).at w ok) (hg : (nw B k d).at w ok) (hn : dn n ≤ 100000) (hd : dn d ≤ 100000) (s : ByteArray) (h : d ≠ 0 ∧ qt n d = s) : Calls Try.prog 64 #[.agg #[.int .i64 (sg n), .slice A (dn n) c, .int .i64 (sg d), .slice B (dn d) k]] w (RetT s w) := by
  obtain ⟨h0, h⟩ := h
  have e : dd d = d := by unfold dd; rw [if_neg h0]
  have b1 : dn 1 ≤ 100000 := Nat.le_trans (dn_bound 1 1 (by decide)) (by decide)
  unfold qt at h
  rw [e] at h
  by_cases h1 : d = 1
  · rw [if_pos h1] at h
    exact TextF_1 hf hg ⟨hn⟩ ⟨hd⟩ 1 _ ⟨b1⟩ ⟨rfl⟩ ⟨rfl⟩ _ s ⟨rfl⟩ (cmp3_bne_f h1 rfl) ⟨h⟩
  · rw [if_neg h1] at h
    have z3 : (tx n).size ≤ 100002 := Nat.le_trans (txN_size n) (by omega)
    have z2 : (tx d).size ≤ 100002 := Nat.le_trans (txN_size d) (by omega)
    exact TextF_2 hf hg ⟨hn⟩ ⟨hd⟩ 1 _ ⟨b1⟩ ⟨rfl⟩ ⟨rfl⟩ _ s ⟨rfl⟩ _ ⟨rfl⟩ (cmp3_bne_t h1 rfl) z2 z3 (by omega) (by omega) ⟨h⟩

end Go.Proofs.Ytdkapdgbfejgdaa
