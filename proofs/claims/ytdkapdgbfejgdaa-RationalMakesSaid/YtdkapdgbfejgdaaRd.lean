/- rational.Floor, Ceil, Text; same. -/
import Derived.Test.YtdkapdgbfejgdaaSq
import Derived.Test.YtdkapdgbfejgdaaGc
import Derived.Test.YtdkapdgbfejgdaaSb
/- rational.Make, must, Frac. -/
namespace Go.Proofs.Ytdkapdgbfejgdaa
open Go.RowKit Go.Proofs.YtdkapdgbfejgdaaW.PrintWords Go.Proofs.YtdkapdgbfejgdaaW.PrintLast Go.Proofs.YtdkapdgbfejgdaaW.PrintMore
set_option linter.unusedSimpArgs false
set_option linter.unusedVariables false
set_option maxHeartbeats 8000000
set_option maxRecDepth 100000

/-- It returns the fraction with the parts n and d. -/
def RetQ (w : World) (ok : Nat → Prop) (n d : Int) (e : Ending) (w' : World) : Prop :=
  ∃ A c B b, e = .returned (.agg #[.bool (ng n), .slice A (ln n) c, .bool (ng d), .slice B (ln d) b]) ∧ (bw A c n).at w' (fun k => ok k ∨ w.heap.size ≤ k) ∧ (bw B b d).at w' (fun k => ok k ∨ w.heap.size ≤ k) ∧ Below w.heap.size w w'
/-- It returns the fraction with the parts n and d, and an error's number. -/
def RetQE (w : World) (ok : Nat → Prop) (n d err : Int) (e : Ending) (w' : World) : Prop :=
  ∃ A c B b, e = .returned (.tuple #[.agg #[.bool (ng n), .slice A (ln n) c, .bool (ng d), .slice B (ln d) b], .int .i64 err]) ∧ (bw A c n).at w' (fun k => ok k ∨ w.heap.size ≤ k) ∧ (bw B b d).at w' (fun k => ok k ∨ w.heap.size ≤ k) ∧ Below w.heap.size w w'
def qn (n d : Int) : Int := if d = 0 then 0 else (if d < 0 then -n else n).tdiv ((Int.gcd n d : Nat) : Int)
def qd (n d : Int) : Int := if d = 0 then 0 else (if d < 0 then -d else d).tdiv ((Int.gcd n d : Nat) : Int)
def qe (d : Int) : Int := if d = 0 then 9 else 0


theorem Make_zero {A B : Option Addr} {c b : Nat} {n d : Int} {w : World} {ok : Nat → Prop} (hf : (bw A c n).at w ok) (hf' : (bw B b d).at w ok) (hn : ln n ≤ 10000000) (hd : ln d ≤ 10000000) (hs : Aside0 (sg d = 0)) : Calls Try.prog 63 #[.agg #[.bool (ng n), .slice A (ln n) c], .agg #[.bool (ng d), .slice B (ln d) b]] w (RetQE w ok 0 0 9) := by
  have hu25 := Try.underlying25
  have hu51 := Try.underlying51
  have H := ((Sit.start w ok).arg hf).arg hf'
  have bn := Aside0.mk hn
  have bd := Aside0.mk hd
  clear hf hf' hn hd
  go_enter Try.func63, Try.ntmps63
  have st2 := trivial
  have st4 := trivial
  have st6 := trivial
  have st8 := trivial
  go_wp2_with (first
    | (clear st2; (with_reducible refine gate_dst (N := 2) rfl ?_); refine bE #[.bool (ng n), .slice A (ln n) c] 25 H ?_; clear H; intro g2 w1 H; have f2 := H.b2 (g := g2) m0)
    | (clear st4; (with_reducible refine gate_dst (N := 3) rfl ?_); refine bE #[.bool (ng d), .slice B (ln d) b] 25 H ?_; clear H; intro g3 w3 H; clear f2; have f3 := H.b2 (g := g3) m0; have f2 := H.b2 (g := g2) m1; have ne_g3_g2 := H.ne (g := g3) (g' := g2) 0 1 rfl rfl (by decide); have ne_g2_g3 := ne_g3_g2.symm)
    | (clear st6; (with_reducible refine gate_dst (N := 4) rfl ?_); refine bE #[.bool false, .slice none 0 0, .bool false, .slice none 0 0] 51 H ?_; clear H; intro g4 w5 H; clear f3 f2; have f4 := H.b4 (g := g4) m0; have f3 := H.b2 (g := g3) m1; have f2 := H.b2 (g := g2) m2; have ne_g4_g3 := H.ne (g := g4) (g' := g3) 0 1 rfl rfl (by decide); have ne_g3_g4 := ne_g4_g3.symm; have ne_g4_g2 := H.ne (g := g4) (g' := g2) 0 2 rfl rfl (by decide); have ne_g2_g4 := ne_g4_g2.symm)
    | (clear st8; go_at_call 25; (with_reducible refine (SignQ _ _ _ (lim bd.out (by decide)) 0 hs.out).mono ?_); rintro e w7 ⟨rfl, hb⟩; replace H := H.call hb; clear hb; clear f4 f3 f2; have f4 := H.b4 (g := g4) m0; have f3 := H.b2 (g := g3) m1; have f2 := H.b2 (g := g2) m2))
  replace H := H.nilrow
  replace H := ((((H.setn [] 0 (.bool false) rfl).setn [] 1 (.slice none 0 0) rfl).setn [] 2 (.bool false) rfl).setn [] 3 (.slice none 0 0) rfl)
  refine bodyPost_ret (results_list (rs := [.cell 4 51, .tmp 5]) rfl (by simp) (.cell g4 51 #[.bool false, .slice none 0 0, .bool false, .slice none 0 0] (0, 0) _ rfl (H.blk m0) Try.underlying51 rfl (by kernel_rfl) (.tmp .nil))) rfl ?_
  exact ⟨none, 0, none, 0, rfl, H.ret m0, H.ret m0, H.below⟩

theorem Make_pos {A B : Option Addr} {c b : Nat} {n d : Int} {w : World} {ok : Nat → Prop} (hf : (bw A c n).at w ok) (hf' : (bw B b d).at w ok) (hn : ln n ≤ 10000000) (hd : ln d ≤ 10000000) (gg rn rd xr yr : Int) (bgg : Aside0 (ln gg ≤ 10000000)) (hg0 : Aside0 (gg ≠ 0)) (hgg : Aside0 (((Int.gcd n d : Nat) : Int) = gg)) (hrn : Aside0 (n.tdiv gg = rn)) (hxr : Aside0 (n.tmod gg = xr)) (hrd : Aside0 (d.tdiv gg = rd)) (hyr : Aside0 (d.tmod gg = yr)) (hs : Aside0 (sg d = 1)) : Calls Try.prog 63 #[.agg #[.bool (ng n), .slice A (ln n) c], .agg #[.bool (ng d), .slice B (ln d) b]] w (RetQE w ok rn rd 0) := by
  have hu25 := Try.underlying25
  have hu51 := Try.underlying51
  have H := ((Sit.start w ok).arg hf).arg hf'
  have bn := Aside0.mk hn
  have bd := Aside0.mk hd
  clear hf hf' hn hd
  go_enter Try.func63, Try.ntmps63
  have st2 := trivial
  have st4 := trivial
  have st6 := trivial
  have st8 := trivial
  have st10 := trivial
  have st14 := trivial
  have st16 := trivial
  go_upto_region 6 with (first
    | (clear st2; (with_reducible refine gate_dst (N := 2) rfl ?_); refine bE #[.bool (ng n), .slice A (ln n) c] 25 H ?_; clear H; intro g2 w1 H; have f2 := H.b2 (g := g2) m0)
    | (clear st4; (with_reducible refine gate_dst (N := 3) rfl ?_); refine bE #[.bool (ng d), .slice B (ln d) b] 25 H ?_; clear H; intro g3 w3 H; clear f2; have f3 := H.b2 (g := g3) m0; have f2 := H.b2 (g := g2) m1; have ne_g3_g2 := H.ne (g := g3) (g' := g2) 0 1 rfl rfl (by decide); have ne_g2_g3 := ne_g3_g2.symm)
    | (clear st6; (with_reducible refine gate_dst (N := 4) rfl ?_); refine bE #[.bool false, .slice none 0 0, .bool false, .slice none 0 0] 51 H ?_; clear H; intro g4 w5 H; clear f3 f2; have f4 := H.b4 (g := g4) m0; have f3 := H.b2 (g := g3) m1; have f2 := H.b2 (g := g2) m2; have ne_g4_g3 := H.ne (g := g4) (g' := g3) 0 1 rfl rfl (by decide); have ne_g3_g4 := ne_g4_g3.symm; have ne_g4_g2 := H.ne (g := g4) (g' := g2) 0 2 rfl rfl (by decide); have ne_g2_g4 := ne_g4_g2.symm)
    | (clear st8; go_at_call 25; (with_reducible refine (SignQ _ _ _ (lim bd.out (by decide)) 1 hs.out).mono ?_); rintro e w7 ⟨rfl, hb⟩; replace H := H.call hb; clear hb; clear f4 f3 f2; have f4 := H.b4 (g := g4) m0; have f3 := H.b2 (g := g3) m1; have f2 := H.b2 (g := g2) m2)
    | (clear st10; go_at_call 25; (with_reducible refine (SignQ _ _ _ (lim bd.out (by decide)) 1 hs.out).mono ?_); rintro e w9 ⟨rfl, hb⟩; replace H := H.call hb; clear hb; clear f4 f3 f2; have f4 := H.b4 (g := g4) m0; have f3 := H.b2 (g := g3) m1; have f2 := H.b2 (g := g2) m2)
    | (clear st14; go_at_call 61; (with_reducible refine (GcdQ (H.row _ m1) (H.row _ m0) (lim bn.out (by decide)) (lim bd.out (by decide)) gg hgg.out).mono ?_); rintro e w11 ⟨A12, c13, rfl, hr, hb⟩; replace H := H.got hr hb; clear hr hb; clear f4 f3 f2; have f4 := H.b4 (g := g4) m0; have f3 := H.b2 (g := g3) m1; have f2 := H.b2 (g := g2) m2)
    | (clear st16; (with_reducible refine gate_dst (N := 6) rfl ?_); refine bE #[.bool false, .slice none 0 0] 25 H ?_; clear H; intro g6 w15 H; clear f4 f3 f2; have f6 := H.b2 (g := g6) m0; have f4 := H.b4 (g := g4) m1; have f3 := H.b2 (g := g3) m2; have f2 := H.b2 (g := g2) m3; have ne_g6_g4 := H.ne (g := g6) (g' := g4) 0 1 rfl rfl (by decide); have ne_g4_g6 := ne_g6_g4.symm; have ne_g6_g3 := H.ne (g := g6) (g' := g3) 0 2 rfl rfl (by decide); have ne_g3_g6 := ne_g6_g3.symm; have ne_g6_g2 := H.ne (g := g6) (g' := g2) 0 3 rfl rfl (by decide); have ne_g2_g6 := ne_g6_g2.symm))
  (try simp only [nn])
  replace H := ((H.setn [] 0 (.bool (ng gg)) rfl).setn [] 1 (.slice A12 (ln gg) c13) rfl)
  clear f6 f4 f3 f2
  generalize ((w15.setCell ⟨g6, 0, none⟩ (.bool (ng gg))).setCell ⟨g6, 1, none⟩ (.slice A12 (ln gg) c13)) = w17 at H ⊢
  have f6 := H.b2 (g := g6) m0
  have f4 := H.b4 (g := g4) m1
  have f3 := H.b2 (g := g3) m2
  have f2 := H.b2 (g := g2) m3
  have st23 := trivial
  go_upto_region 7 with (first
    | (clear st23; go_at_call 32; (with_reducible refine (DivQ (H.row _ m2) (H.row _ m0) (lim bn.out (by decide)) (lim bgg.out (by decide)) hg0.out rn xr hrn.out hxr.out).mono ?_); rintro e w18 ⟨A19, c20, A21, c22, rfl, hr, hr2, hb⟩; replace H := (H.got hr hb).more ((H.got hr2 hb).row _ m0); clear hr hr2 hb; clear f6 f4 f3 f2; have f6 := H.b2 (g := g6) m0; have f4 := H.b4 (g := g4) m1; have f3 := H.b2 (g := g3) m2; have f2 := H.b2 (g := g2) m3))
  (try simp only [nn])
  replace H := ((H.setn [_, _, _] 0 (.bool (ng rn)) rfl).setn [_, _, _] 1 (.slice A19 (ln rn) c20) rfl)
  clear f6 f4 f3 f2
  generalize ((w18.setCell ⟨g2, 0, none⟩ (.bool (ng rn))).setCell ⟨g2, 1, none⟩ (.slice A19 (ln rn) c20)) = w24 at H ⊢
  have f6 := H.b2 (g := g6) m0
  have f4 := H.b4 (g := g4) m1
  have f3 := H.b2 (g := g3) m2
  have f2 := H.b2 (g := g2) m3
  have st30 := trivial
  go_upto_region 8 with (first
    | (clear st30; go_at_call 32; (with_reducible refine (DivQ (H.row _ m3) (H.row _ m2) (lim bd.out (by decide)) (lim bgg.out (by decide)) hg0.out rd yr hrd.out hyr.out).mono ?_); rintro e w25 ⟨A26, c27, A28, c29, rfl, hr, hr2, hb⟩; replace H := (H.got hr hb).more ((H.got hr2 hb).row _ m0); clear hr hr2 hb; clear f6 f4 f3 f2; have f6 := H.b2 (g := g6) m0; have f4 := H.b4 (g := g4) m1; have f3 := H.b2 (g := g3) m2; have f2 := H.b2 (g := g2) m3))
  (try simp only [nn])
  replace H := ((H.setn [_, _] 0 (.bool (ng rd)) rfl).setn [_, _] 1 (.slice A26 (ln rd) c27) rfl)
  clear f6 f4 f3 f2
  generalize ((w25.setCell ⟨g3, 0, none⟩ (.bool (ng rd))).setCell ⟨g3, 1, none⟩ (.slice A26 (ln rd) c27)) = w31 at H ⊢
  have f6 := H.b2 (g := g6) m0
  have f4 := H.b4 (g := g4) m1
  have f3 := H.b2 (g := g3) m2
  have f2 := H.b2 (g := g2) m3
  go_wp2
  replace H := ((((H.setn [_] 0 (.bool (ng rn)) rfl).setn [_] 1 (.slice A19 (ln rn) c20) rfl).setn [_] 2 (.bool (ng rd)) rfl).setn [_] 3 (.slice A26 (ln rd) c27) rfl)
  refine bodyPost_ret (results_list (rs := [.cell 4 51, .tmp 5]) rfl (by simp) (.cell g4 51 #[.bool (ng rn), .slice A19 (ln rn) c20, .bool (ng rd), .slice A26 (ln rd) c27] (0, 0) _ rfl (H.blk m1) Try.underlying51 rfl (by kernel_rfl) (.tmp .nil))) rfl ?_
  exact ⟨A19, c20, A26, c27, rfl, H.ret m3, H.ret m1, H.below⟩


theorem Make_neg {A B : Option Addr} {c b : Nat} {n d : Int} {w : World} {ok : Nat → Prop} (hf : (bw A c n).at w ok) (hf' : (bw B b d).at w ok) (hn : ln n ≤ 10000000) (hd : ln d ≤ 10000000) (gg rn rd xr yr : Int) (bgg : Aside0 (ln gg ≤ 10000000)) (hg0 : Aside0 (gg ≠ 0)) (n2 d2 : Int) (hn2 : Aside0 (-n = n2)) (hd2 : Aside0 (-d = d2)) (bn2 : Aside0 (ln n2 ≤ 10000000)) (bd2 : Aside0 (ln d2 ≤ 10000000)) (hgg : Aside0 (((Int.gcd n2 d2 : Nat) : Int) = gg)) (hrn : Aside0 (n2.tdiv gg = rn)) (hxr : Aside0 (n2.tmod gg = xr)) (hrd : Aside0 (d2.tdiv gg = rd)) (hyr : Aside0 (d2.tmod gg = yr)) (hs : Aside0 (sg d = -1)) : Calls Try.prog 63 #[.agg #[.bool (ng n), .slice A (ln n) c], .agg #[.bool (ng d), .slice B (ln d) b]] w (RetQE w ok rn rd 0) := by
  have hu25 := Try.underlying25
  have hu51 := Try.underlying51
  have H := ((Sit.start w ok).arg hf).arg hf'
  have bn := Aside0.mk hn
  have bd := Aside0.mk hd
  clear hf hf' hn hd
  go_enter Try.func63, Try.ntmps63
  have st2 := trivial
  have st4 := trivial
  have st6 := trivial
  have st8 := trivial
  have st10 := trivial
  go_upto_region 4 with (first
    | (clear st2; (with_reducible refine gate_dst (N := 2) rfl ?_); refine bE #[.bool (ng n), .slice A (ln n) c] 25 H ?_; clear H; intro g2 w1 H; have f2 := H.b2 (g := g2) m0)
    | (clear st4; (with_reducible refine gate_dst (N := 3) rfl ?_); refine bE #[.bool (ng d), .slice B (ln d) b] 25 H ?_; clear H; intro g3 w3 H; clear f2; have f3 := H.b2 (g := g3) m0; have f2 := H.b2 (g := g2) m1; have ne_g3_g2 := H.ne (g := g3) (g' := g2) 0 1 rfl rfl (by decide); have ne_g2_g3 := ne_g3_g2.symm)
    | (clear st6; (with_reducible refine gate_dst (N := 4) rfl ?_); refine bE #[.bool false, .slice none 0 0, .bool false, .slice none 0 0] 51 H ?_; clear H; intro g4 w5 H; clear f3 f2; have f4 := H.b4 (g := g4) m0; have f3 := H.b2 (g := g3) m1; have f2 := H.b2 (g := g2) m2; have ne_g4_g3 := H.ne (g := g4) (g' := g3) 0 1 rfl rfl (by decide); have ne_g3_g4 := ne_g4_g3.symm; have ne_g4_g2 := H.ne (g := g4) (g' := g2) 0 2 rfl rfl (by decide); have ne_g2_g4 := ne_g4_g2.symm)
    | (clear st8; go_at_call 25; (with_reducible refine (SignQ _ _ _ (lim bd.out (by decide)) (-1) hs.out).mono ?_); rintro e w7 ⟨rfl, hb⟩; replace H := H.call hb; clear hb; clear f4 f3 f2; have f4 := H.b4 (g := g4) m0; have f3 := H.b2 (g := g3) m1; have f2 := H.b2 (g := g2) m2)
    | (clear st10; go_at_call 25; (with_reducible refine (SignQ _ _ _ (lim bd.out (by decide)) (-1) hs.out).mono ?_); rintro e w9 ⟨rfl, hb⟩; replace H := H.call hb; clear hb; clear f4 f3 f2; have f4 := H.b4 (g := g4) m0; have f3 := H.b2 (g := g3) m1; have f2 := H.b2 (g := g2) m2))
  (try simp only [nn])
  clear f4 f3 f2
  replace H := H.drew
  refine start_ (n := 6) (S := fun w' => w'.cell? ⟨g2, 0, none⟩ = some (.bool (ng n)) ∧ w'.cell? ⟨g2, 1, none⟩ = some (.slice A (ln n) c) ∧ w'.cell? ⟨g3, 0, none⟩ = some (.bool (ng d)) ∧ w'.cell? ⟨g3, 1, none⟩ = some (.slice B (ln d) b)) (ds := [4, 5]) #[false, false, false, false, false, false] (by kernel_rfl) rfl rfl (H.c2 m2 (H.d2 m1)) (fun hQ => ?_)
  generalize w9.drew = w11 at H hQ ⊢
  refine tU hQ 0 14 (bm 6 1) ?_
  refine tU hQ 2 16 (bm 6 5) ?_
  refine oU 1 15 (bm 6 7) (fun K hK => ?_)
  refine gT Try.func37 #[.agg #[.bool (ng n), .slice A (ln n) c]] ?_
  with_reducible refine (NegQ (H.row _ m1) (lim bn.out (by decide)) n2 hn2.out).mono ?_
  rintro e w12 ⟨A13, c14, rfl, hr, hb⟩
  replace H := H.got hr hb
  clear hr hb
  refine ⟨_, rfl, ?_⟩
  refine hK.out _ _ (H.c2 m2 (H.d2 m1)) (fun hQ => ?_)
  clear hK K
  refine nT ?_
  refine oU 3 17 (bm 6 15) (fun K hK => ?_)
  refine gT Try.func37 #[.agg #[.bool (ng d), .slice B (ln d) b]] ?_
  with_reducible refine (NegQ (H.row _ m1) (lim bd.out (by decide)) d2 hd2.out).mono ?_
  rintro e w15 ⟨A16, c17, rfl, hr, hb⟩
  replace H := H.got hr hb
  clear hr hb
  refine ⟨_, rfl, ?_⟩
  refine hK.out _ _ (H.c2 m2 (H.d2 m1)) (fun hQ => ?_)
  clear hK K
  refine nT ?_
  refine lU 4 (bm 6 31) (fun K hK => ?_)
  have f3 := H.b2 (g := g3) m1
  have f2 := H.b2 (g := g2) m2
  refine kT ?_
  refine hK.out _ _ ?_
  clear hK K
  refine lU 5 (bm 6 63) (fun K hK => ?_)
  refine kT ?_
  refine hK.out _ _ ?_
  clear hK K
  refine done_ (by kernel_rfl) ?_
  try clear hQ
  replace H := ((((H.setn [_, _] 0 (.bool (ng n2)) rfl).setn [_, _] 1 (.slice A13 (ln n2) c14) rfl).setn [_] 0 (.bool (ng d2)) rfl).setn [_] 1 (.slice A16 (ln d2) c17) rfl)
  clear f3 f2
  generalize ((((w15.setCell ⟨g2, 0, none⟩ (.bool (ng n2))).setCell ⟨g2, 1, none⟩ (.slice A13 (ln n2) c14)).setCell ⟨g3, 0, none⟩ (.bool (ng d2))).setCell ⟨g3, 1, none⟩ (.slice A16 (ln d2) c17)) = w18 at H ⊢
  have f4 := H.b4 (g := g4) m0
  have f3 := H.b2 (g := g3) m1
  have f2 := H.b2 (g := g2) m2
  have st22 := trivial
  have st24 := trivial
  go_upto_region 6 with (first
    | (clear st22; go_at_call 61; (with_reducible refine (GcdQ (H.row _ m1) (H.row _ m0) (lim bn2.out (by decide)) (lim bd2.out (by decide)) gg hgg.out).mono ?_); rintro e w19 ⟨A20, c21, rfl, hr, hb⟩; replace H := H.got hr hb; clear hr hb; clear f4 f3 f2; have f4 := H.b4 (g := g4) m0; have f3 := H.b2 (g := g3) m1; have f2 := H.b2 (g := g2) m2)
    | (clear st24; (with_reducible refine gate_dst (N := 6) rfl ?_); refine bE #[.bool false, .slice none 0 0] 25 H ?_; clear H; intro g6 w23 H; clear f4 f3 f2; have f6 := H.b2 (g := g6) m0; have f4 := H.b4 (g := g4) m1; have f3 := H.b2 (g := g3) m2; have f2 := H.b2 (g := g2) m3; have ne_g6_g4 := H.ne (g := g6) (g' := g4) 0 1 rfl rfl (by decide); have ne_g4_g6 := ne_g6_g4.symm; have ne_g6_g3 := H.ne (g := g6) (g' := g3) 0 2 rfl rfl (by decide); have ne_g3_g6 := ne_g6_g3.symm; have ne_g6_g2 := H.ne (g := g6) (g' := g2) 0 3 rfl rfl (by decide); have ne_g2_g6 := ne_g6_g2.symm))
  (try simp only [nn])
  replace H := ((H.setn [] 0 (.bool (ng gg)) rfl).setn [] 1 (.slice A20 (ln gg) c21) rfl)
  clear f6 f4 f3 f2
  generalize ((w23.setCell ⟨g6, 0, none⟩ (.bool (ng gg))).setCell ⟨g6, 1, none⟩ (.slice A20 (ln gg) c21)) = w25 at H ⊢
  have f6 := H.b2 (g := g6) m0
  have f4 := H.b4 (g := g4) m1
  have f3 := H.b2 (g := g3) m2
  have f2 := H.b2 (g := g2) m3
  have st31 := trivial
  go_upto_region 7 with (first
    | (clear st31; go_at_call 32; (with_reducible refine (DivQ (H.row _ m2) (H.row _ m0) (lim bn2.out (by decide)) (lim bgg.out (by decide)) hg0.out rn xr hrn.out hxr.out).mono ?_); rintro e w26 ⟨A27, c28, A29, c30, rfl, hr, hr2, hb⟩; replace H := (H.got hr hb).more ((H.got hr2 hb).row _ m0); clear hr hr2 hb; clear f6 f4 f3 f2; have f6 := H.b2 (g := g6) m0; have f4 := H.b4 (g := g4) m1; have f3 := H.b2 (g := g3) m2; have f2 := H.b2 (g := g2) m3))
  (try simp only [nn])
  replace H := ((H.setn [_, _, _] 0 (.bool (ng rn)) rfl).setn [_, _, _] 1 (.slice A27 (ln rn) c28) rfl)
  clear f6 f4 f3 f2
  generalize ((w26.setCell ⟨g2, 0, none⟩ (.bool (ng rn))).setCell ⟨g2, 1, none⟩ (.slice A27 (ln rn) c28)) = w32 at H ⊢
  have f6 := H.b2 (g := g6) m0
  have f4 := H.b4 (g := g4) m1
  have f3 := H.b2 (g := g3) m2
  have f2 := H.b2 (g := g2) m3
  have st38 := trivial
  go_upto_region 8 with (first
    | (clear st38; go_at_call 32; (with_reducible refine (DivQ (H.row _ m3) (H.row _ m2) (lim bd2.out (by decide)) (lim bgg.out (by decide)) hg0.out rd yr hrd.out hyr.out).mono ?_); rintro e w33 ⟨A34, c35, A36, c37, rfl, hr, hr2, hb⟩; replace H := (H.got hr hb).more ((H.got hr2 hb).row _ m0); clear hr hr2 hb; clear f6 f4 f3 f2; have f6 := H.b2 (g := g6) m0; have f4 := H.b4 (g := g4) m1; have f3 := H.b2 (g := g3) m2; have f2 := H.b2 (g := g2) m3))
  (try simp only [nn])
  replace H := ((H.setn [_, _] 0 (.bool (ng rd)) rfl).setn [_, _] 1 (.slice A34 (ln rd) c35) rfl)
  clear f6 f4 f3 f2
  generalize ((w33.setCell ⟨g3, 0, none⟩ (.bool (ng rd))).setCell ⟨g3, 1, none⟩ (.slice A34 (ln rd) c35)) = w39 at H ⊢
  have f6 := H.b2 (g := g6) m0
  have f4 := H.b4 (g := g4) m1
  have f3 := H.b2 (g := g3) m2
  have f2 := H.b2 (g := g2) m3
  go_wp2
  replace H := ((((H.setn [_] 0 (.bool (ng rn)) rfl).setn [_] 1 (.slice A27 (ln rn) c28) rfl).setn [_] 2 (.bool (ng rd)) rfl).setn [_] 3 (.slice A34 (ln rd) c35) rfl)
  refine bodyPost_ret (results_list (rs := [.cell 4 51, .tmp 5]) rfl (by simp) (.cell g4 51 #[.bool (ng rn), .slice A27 (ln rn) c28, .bool (ng rd), .slice A34 (ln rd) c35] (0, 0) _ rfl (H.blk m1) Try.underlying51 rfl (by kernel_rfl) (.tmp .nil))) rfl ?_
  exact ⟨A27, c28, A34, c35, rfl, H.ret m3, H.ret m1, H.below⟩

theorem MakeQ {A B : Option Addr} {c b : Nat} {n d : Int} {w : World} {ok : Nat → Prop} (hf : (bw A c n).at w ok) (hf' : (bw B b d).at w ok) (hn : ln n ≤ 10000000) (hd : ln d ≤ 10000000) (rn rd err : Int) (h1 : qn n d = rn) (h2 : qd n d = rd) (h3 : qe d = err) : Calls Try.prog 63 #[.agg #[.bool (ng n), .slice A (ln n) c], .agg #[.bool (ng d), .slice B (ln d) b]] w (RetQE w ok rn rd err) := by
  subst h1 h2 h3
  unfold qn qd qe
  by_cases h0 : d = 0
  · subst h0
    rw [if_pos rfl, if_pos rfl, if_pos rfl]
    exact Make_zero hf hf' hn hd ⟨rfl⟩
  · rw [if_neg h0, if_neg h0, if_neg h0]
    have hg : 0 < Int.gcd n d := Nat.gcd_pos_of_pos_right _ (by omega)
    have bg : ln ((Int.gcd n d : Nat) : Int) ≤ 10000000 := bAbs hd (by rw [Int.natAbs_natCast]; exact Nat.gcd_le_right _ (by omega))
    by_cases h1 : d < 0
    · rw [if_pos h1, if_pos h1]
      exact Make_neg hf hf' hn hd _ _ _ _ _ ⟨bg⟩ ⟨by omega⟩ _ _ ⟨rfl⟩ ⟨rfl⟩ ⟨by rw [ln_neg]; exact hn⟩ ⟨by rw [ln_neg]; exact hd⟩ ⟨by rw [Int.neg_gcd, Int.gcd_neg]⟩ ⟨rfl⟩ ⟨rfl⟩ ⟨rfl⟩ ⟨rfl⟩ ⟨by unfold sg; rw [if_pos h1]⟩
    · rw [if_neg h1, if_neg h1]
      exact Make_pos hf hf' hn hd _ _ _ _ _ ⟨bg⟩ ⟨by omega⟩ ⟨rfl⟩ ⟨rfl⟩ ⟨rfl⟩ ⟨rfl⟩ ⟨rfl⟩ ⟨by unfold sg; rw [if_neg h1, if_neg h0]⟩


/- The operations of rational.Rat, as far as they need no text. -/

/-- A denominator of 0 stands for 1. -/
def dd (d : Int) : Int := if d = 0 then 1 else d
theorem limR {m : Int} {a : Nat} (h : ln m ≤ a) (ha : a ≤ 100000) : ln m ≤ 100000 := Nat.le_trans h ha
theorem bDd {d r : Int} {a : Nat} (h : ln d ≤ a) (ha : 1 ≤ a) (hr : dd d = r) : ln r ≤ a := by
  subst hr
  unfold dd
  split
  · exact Nat.le_trans (ln_bound 1 1 (by decide)) ha
  · exact h
theorem Num_ok {A B : Option Addr} {c k : Nat} {n d : Int} {w : World} {ok : Nat → Prop} (hf : (bw A c n).at w ok) (hg : (bw B k d).at w ok) (hn : ln n ≤ 100000) (hd : ln d ≤ 100000) : Calls Try.prog 45 #[.agg #[.bool (ng n), .slice A (ln n) c, .bool (ng d), .slice B (ln d) k]] w (RetI w ok n) := by
  have hu25 := Try.underlying25
  have hu51 := Try.underlying51
  have H := ((Sit.start w ok).arg hf).arg hg
  have bn := Aside0.mk hn
  have bd := Aside0.mk hd
  clear hf hg hn hd
  go_enter Try.func45, Try.ntmps45
  have st2 := trivial
  have st4 := trivial
  go_wp2_with (first
    | (clear st2; (with_reducible refine gate_dst (N := 1) rfl ?_); refine bE #[.bool (ng n), .slice A (ln n) c, .bool (ng d), .slice B (ln d) k] 51 H ?_; clear H; intro g1 w1 H; have f1 := H.b4 (g := g1) m0)
    | (clear st4; (with_reducible refine gate_dst (N := 2) rfl ?_); refine bE #[.bool false, .slice none 0 0] 25 H ?_; clear H; intro g2 w3 H; clear f1; have f2 := H.b2 (g := g2) m0; have f1 := H.b4 (g := g1) m1; have ne_g2_g1 := H.ne (g := g2) (g' := g1) 0 1 rfl rfl (by decide); have ne_g1_g2 := ne_g2_g1.symm))
  replace H := ((H.setn [] 0 (.bool (ng n)) rfl).setn [] 1 (.slice A (ln n) c) rfl)
  refine bodyPost_ret (results_cell_row rfl _ _ g2 25 #[.bool (ng n), .slice A (ln n) c] (0, 0) _ rfl (H.blk m0) Try.underlying25 rfl (by kernel_rfl)) rfl ?_
  exact ⟨A, c, rfl, H.ret m1, H.below⟩

theorem NumQ {A B : Option Addr} {c k : Nat} {n d : Int} {w : World} {ok : Nat → Prop} (hf : (bw A c n).at w ok) (hg : (bw B k d).at w ok) (hn : ln n ≤ 100000) (hd : ln d ≤ 100000) (r : Int) (h : n = r) : Calls Try.prog 45 #[.agg #[.bool (ng n), .slice A (ln n) c, .bool (ng d), .slice B (ln d) k]] w (RetI w ok r) := by subst h; exact Num_ok hf hg hn hd

theorem SignR {A B : Option Addr} {c k : Nat} {n d : Int} {w : World} (hn : ln n ≤ 10000000) (r : Int) (h : sg n = r) : Calls Try.prog 54 #[.agg #[.bool (ng n), .slice A (ln n) c, .bool (ng d), .slice B (ln d) k]] w (RetI64 r w) := by
  have hu25 := Try.underlying25
  have hu51 := Try.underlying51
  have H := Sit.start w (fun _ => False)
  have bn := Aside0.mk hn
  clear hn
  go_enter Try.func54, Try.ntmps54
  have st2 := trivial
  have st4 := trivial
  go_wp2_with (first
    | (clear st2; (with_reducible refine gate_dst (N := 1) rfl ?_); refine bE #[.bool (ng n), .slice A (ln n) c, .bool (ng d), .slice B (ln d) k] 51 H ?_; clear H; intro g1 w1 H; have f1 := H.b4 (g := g1) m0)
    | (clear st4; go_at_call 25; (with_reducible refine (SignQ _ _ _ (lim bn.out (by decide)) r h).mono ?_); rintro e w3 ⟨rfl, hb⟩; replace H := H.call hb; clear hb; clear f1; have f1 := H.b4 (g := g1) m0))
  go_ret
  exact ⟨rfl, H.below⟩


theorem Den_0 {A B : Option Addr} {c k : Nat} {n d : Int} {w : World} {ok : Nat → Prop} (hf : (bw A c n).at w ok) (hg : (bw B k d).at w ok) (hn : ln n ≤ 100000) (hd : ln d ≤ 100000) (r : Int) (hr : Aside0 ((1 : Int) = r)) (hs : Aside0 (sg d = 0)) : Calls Try.prog 47 #[.agg #[.bool (ng n), .slice A (ln n) c, .bool (ng d), .slice B (ln d) k]] w (RetI w ok r) := by
  have hu25 := Try.underlying25
  have hu51 := Try.underlying51
  have H := ((Sit.start w ok).arg hf).arg hg
  have bn := Aside0.mk hn
  have bd := Aside0.mk hd
  clear hf hg hn hd
  go_enter Try.func47, Try.ntmps47
  have st2 := trivial
  have st4 := trivial
  have st6 := trivial
  have st10 := trivial
  go_wp2_with (first
    | (clear st2; (with_reducible refine gate_dst (N := 1) rfl ?_); refine bE #[.bool (ng n), .slice A (ln n) c, .bool (ng d), .slice B (ln d) k] 51 H ?_; clear H; intro g1 w1 H; have f1 := H.b4 (g := g1) m0)
    | (clear st4; (with_reducible refine gate_dst (N := 2) rfl ?_); refine bE #[.bool false, .slice none 0 0] 25 H ?_; clear H; intro g2 w3 H; clear f1; have f2 := H.b2 (g := g2) m0; have f1 := H.b4 (g := g1) m1; have ne_g2_g1 := H.ne (g := g2) (g' := g1) 0 1 rfl rfl (by decide); have ne_g1_g2 := ne_g2_g1.symm)
    | (clear st6; go_at_call 25; (with_reducible refine (SignQ _ _ _ (lim bd.out (by decide)) 0 hs.out).mono ?_); rintro e w5 ⟨rfl, hb⟩; replace H := H.call hb; clear hb; clear f2 f1; have f2 := H.b2 (g := g2) m0; have f1 := H.b4 (g := g1) m1)
    | (clear st10; go_at_call 27; (with_reducible refine (OfQ _ 1 r hr.out (by decide) (by decide)).mono ?_); rintro e w7 ⟨A8, c9, rfl, hr, hb⟩; replace H := H.got (fresh_row hr) hb; clear hr hb; clear f2 f1; have f2 := H.b2 (g := g2) m0; have f1 := H.b4 (g := g1) m1))
  replace H := ((H.setn [] 0 (.bool (ng r)) rfl).setn [] 1 (.slice A8 (ln r) c9) rfl)
  refine bodyPost_ret (results_cell_row rfl _ _ g2 25 #[.bool (ng r), .slice A8 (ln r) c9] (0, 0) _ rfl (H.blk m0) Try.underlying25 rfl (by kernel_rfl)) rfl ?_
  exact ⟨A8, c9, rfl, H.ret m0, H.below⟩


theorem Den_1 {A B : Option Addr} {c k : Nat} {n d : Int} {w : World} {ok : Nat → Prop} (hf : (bw A c n).at w ok) (hg : (bw B k d).at w ok) (hn : ln n ≤ 100000) (hd : ln d ≤ 100000) (s : Int) (hs : Aside0 (sg d = s)) (hs0 : Aside0 (s ≠ 0)) : Calls Try.prog 47 #[.agg #[.bool (ng n), .slice A (ln n) c, .bool (ng d), .slice B (ln d) k]] w (RetI w ok d) := by
  have hu25 := Try.underlying25
  have hu51 := Try.underlying51
  have H := ((Sit.start w ok).arg hf).arg hg
  have bn := Aside0.mk hn
  have bd := Aside0.mk hd
  clear hf hg hn hd
  have d1 : (s == 0) = false := beq_eq_false_iff_ne.mpr hs0.out
  go_enter Try.func47, Try.ntmps47
  have st2 := trivial
  have st4 := trivial
  have st6 := trivial
  go_wp2_with (first
    | (clear st2; (with_reducible refine gate_dst (N := 1) rfl ?_); refine bE #[.bool (ng n), .slice A (ln n) c, .bool (ng d), .slice B (ln d) k] 51 H ?_; clear H; intro g1 w1 H; have f1 := H.b4 (g := g1) m0)
    | (clear st4; (with_reducible refine gate_dst (N := 2) rfl ?_); refine bE #[.bool false, .slice none 0 0] 25 H ?_; clear H; intro g2 w3 H; clear f1; have f2 := H.b2 (g := g2) m0; have f1 := H.b4 (g := g1) m1; have ne_g2_g1 := H.ne (g := g2) (g' := g1) 0 1 rfl rfl (by decide); have ne_g1_g2 := ne_g2_g1.symm)
    | (clear st6; go_at_call 25; (with_reducible refine (SignQ _ _ _ (lim bd.out (by decide)) s hs.out).mono ?_); rintro e w5 ⟨rfl, hb⟩; replace H := H.call hb; clear hb; clear f2 f1; have f2 := H.b2 (g := g2) m0; have f1 := H.b4 (g := g1) m1))
  replace H := ((H.setn [] 0 (.bool (ng d)) rfl).setn [] 1 (.slice B (ln d) k) rfl)
  refine bodyPost_ret (results_cell_row rfl _ _ g2 25 #[.bool (ng d), .slice B (ln d) k] (0, 0) _ rfl (H.blk m0) Try.underlying25 rfl (by kernel_rfl)) rfl ?_
  exact ⟨B, k, rfl, H.ret m0, H.below⟩

theorem DenQ {A B : Option Addr} {c k : Nat} {n d : Int} {w : World} {ok : Nat → Prop} (hf : (bw A c n).at w ok) (hg : (bw B k d).at w ok) (hn : ln n ≤ 100000) (hd : ln d ≤ 100000) (r : Int) (h : dd d = r) : Calls Try.prog 47 #[.agg #[.bool (ng n), .slice A (ln n) c, .bool (ng d), .slice B (ln d) k]] w (RetI w ok r) := by
  subst h
  unfold dd
  by_cases h0 : d = 0
  · rw [if_pos h0]; exact Den_0 hf hg hn hd 1 ⟨rfl⟩ ⟨by rw [h0]; rfl⟩
  · rw [if_neg h0]; exact Den_1 hf hg hn hd _ ⟨rfl⟩ ⟨by unfold sg; repeat' split <;> omega⟩

theorem NegR_ {A B : Option Addr} {c k : Nat} {n d : Int} {w : World} {ok : Nat → Prop} (hf : (bw A c n).at w ok) (hg : (bw B k d).at w ok) (hn : ln n ≤ 100000) (hd : ln d ≤ 100000) (r : Int) (h0 : Aside0 (-n = r)) : Calls Try.prog 51 #[.agg #[.bool (ng n), .slice A (ln n) c, .bool (ng d), .slice B (ln d) k]] w (RetQ w ok r d) := by
  have hu25 := Try.underlying25
  have hu51 := Try.underlying51
  have H := ((Sit.start w ok).arg hf).arg hg
  have bn := Aside0.mk hn
  have bd := Aside0.mk hd
  clear hf hg hn hd
  go_enter Try.func51, Try.ntmps51
  have st2 := trivial
  have st4 := trivial
  go_upto_region 1 with (first
    | (clear st2; (with_reducible refine gate_dst (N := 1) rfl ?_); refine bE #[.bool (ng n), .slice A (ln n) c, .bool (ng d), .slice B (ln d) k] 51 H ?_; clear H; intro g1 w1 H; have f1 := H.b4 (g := g1) m0)
    | (clear st4; (with_reducible refine gate_dst (N := 2) rfl ?_); refine bE #[.bool false, .slice none 0 0, .bool false, .slice none 0 0] 51 H ?_; clear H; intro g2 w3 H; clear f1; have f2 := H.b4 (g := g2) m0; have f1 := H.b4 (g := g1) m1; have ne_g2_g1 := H.ne (g := g2) (g' := g1) 0 1 rfl rfl (by decide); have ne_g1_g2 := ne_g2_g1.symm))
  (try simp only [nn])
  clear f2 f1
  replace H := H.drew
  refine start_ (n := 7) (S := fun w' => w'.cell? ⟨g1, 0, none⟩ = some (.bool (ng n)) ∧ w'.cell? ⟨g1, 1, none⟩ = some (.slice A (ln n) c) ∧ w'.cell? ⟨g1, 2, none⟩ = some (.bool (ng d)) ∧ w'.cell? ⟨g1, 3, none⟩ = some (.slice B (ln d) k)) (ds := [6]) #[false, false, false, false, false, false, false] (by kernel_rfl) rfl rfl (H.d4 m1) (fun hQ => ?_)
  generalize w3.drew = w5 at H hQ ⊢
  refine pU 0 3 (bm 7 1) ?_
  refine pU 3 6 (bm 7 9) ?_
  refine tU hQ 1 4 (bm 7 11) ?_
  refine tU hQ 4 7 (bm 7 27) ?_
  refine oU 2 5 (bm 7 31) (fun K hK => ?_)
  refine gT Try.func37 #[.agg #[.bool (ng n), .slice A (ln n) c]] ?_
  with_reducible refine (NegQ (H.row _ m1) (lim bn.out (by decide)) r h0.out).mono ?_
  rintro e w6 ⟨A7, c8, rfl, hr, hb⟩
  replace H := H.got hr hb
  clear hr hb
  refine ⟨_, rfl, ?_⟩
  refine hK.out _ _ (H.d4 m1) (fun hQ => ?_)
  clear hK K
  refine nT ?_
  refine pU 5 8 (bm 7 63) ?_
  refine lU 6 (bm 7 127) (fun K hK => ?_)
  have f2 := H.b4 (g := g2) m0
  have f1 := H.b4 (g := g1) m1
  refine kT ?_
  refine hK.out _ _ ?_
  clear hK K
  refine done_ (by kernel_rfl) ?_
  try clear hQ
  replace H := ((((H.setn [] 0 (.bool (ng r)) rfl).setn [] 1 (.slice A7 (ln r) c8) rfl).setn [] 2 (.bool (ng d)) rfl).setn [] 3 (.slice B (ln d) k) rfl)
  go_wp2
  refine bodyPost_ret (results_cell_row rfl _ _ g2 51 #[.bool (ng r), .slice A7 (ln r) c8, .bool (ng d), .slice B (ln d) k] (0, 0) _ rfl (H.blk m0) Try.underlying51 rfl (by kernel_rfl)) rfl ?_
  exact ⟨A7, c8, B, k, rfl, H.ret m0, H.ret m1, H.below⟩

theorem NegR {A B : Option Addr} {c k : Nat} {n d : Int} {w : World} {ok : Nat → Prop} (hf : (bw A c n).at w ok) (hg : (bw B k d).at w ok) (hn : ln n ≤ 100000) (hd : ln d ≤ 100000) (rn rd : Int) (h : -n = rn ∧ d = rd) : Calls Try.prog 51 #[.agg #[.bool (ng n), .slice A (ln n) c, .bool (ng d), .slice B (ln d) k]] w (RetQ w ok rn rd) := by obtain ⟨h1, rfl⟩ := h; exact NegR_ hf hg hn hd rn ⟨h1⟩

theorem Must_ok {A B : Option Addr} {c k : Nat} {n d : Int} {w : World} {ok : Nat → Prop} (hf : (bw A c n).at w ok) (hg : (bw B k d).at w ok) (hn : ln n ≤ 10000000) (hd : ln d ≤ 10000000) (rn rd er : Int) (h1 : Aside0 (qn n d = rn)) (h2 : Aside0 (qd n d = rd)) (h3 : Aside0 (qe d = er)) : Calls Try.prog 86 #[.agg #[.bool (ng n), .slice A (ln n) c], .agg #[.bool (ng d), .slice B (ln d) k]] w (RetQ w ok rn rd) := by
  have hu25 := Try.underlying25
  have hu51 := Try.underlying51
  have H := ((Sit.start w ok).arg hf).arg hg
  have bn := Aside0.mk hn
  have bd := Aside0.mk hd
  clear hf hg hn hd
  go_enter Try.func86, Try.ntmps86
  have st2 := trivial
  have st4 := trivial
  have st6 := trivial
  have st12 := trivial
  have st14 := trivial
  go_upto_region 2 with (first
    | (clear st2; (with_reducible refine gate_dst (N := 2) rfl ?_); refine bE #[.bool (ng n), .slice A (ln n) c] 25 H ?_; clear H; intro g2 w1 H; have f2 := H.b2 (g := g2) m0)
    | (clear st4; (with_reducible refine gate_dst (N := 3) rfl ?_); refine bE #[.bool (ng d), .slice B (ln d) k] 25 H ?_; clear H; intro g3 w3 H; clear f2; have f3 := H.b2 (g := g3) m0; have f2 := H.b2 (g := g2) m1; have ne_g3_g2 := H.ne (g := g3) (g' := g2) 0 1 rfl rfl (by decide); have ne_g2_g3 := ne_g3_g2.symm)
    | (clear st6; (with_reducible refine gate_dst (N := 4) rfl ?_); refine bE #[.bool false, .slice none 0 0, .bool false, .slice none 0 0] 51 H ?_; clear H; intro g4 w5 H; clear f3 f2; have f4 := H.b4 (g := g4) m0; have f3 := H.b2 (g := g3) m1; have f2 := H.b2 (g := g2) m2; have ne_g4_g3 := H.ne (g := g4) (g' := g3) 0 1 rfl rfl (by decide); have ne_g3_g4 := ne_g4_g3.symm; have ne_g4_g2 := H.ne (g := g4) (g' := g2) 0 2 rfl rfl (by decide); have ne_g2_g4 := ne_g4_g2.symm)
    | (clear st12; go_at_call 63; (with_reducible refine (MakeQ (H.row _ m1) (H.row _ m0) (lim bn.out (by decide)) (lim bd.out (by decide)) rn rd er h1.out h2.out h3.out).mono ?_); rintro e w7 ⟨A8, c9, A10, c11, rfl, hr, hr2, hb⟩; replace H := (H.got hr hb).more ((H.got hr2 hb).row _ m0); clear hr hr2 hb; clear f4 f3 f2; have f4 := H.b4 (g := g4) m0; have f3 := H.b2 (g := g3) m1; have f2 := H.b2 (g := g2) m2)
    | (clear st14; (with_reducible refine gate_dst (N := 5) rfl ?_); refine bE #[.bool false, .slice none 0 0, .bool false, .slice none 0 0] 51 H ?_; clear H; intro g5 w13 H; clear f4 f3 f2; have f5 := H.b4 (g := g5) m0; have f4 := H.b4 (g := g4) m1; have f3 := H.b2 (g := g3) m2; have f2 := H.b2 (g := g2) m3; have ne_g5_g4 := H.ne (g := g5) (g' := g4) 0 1 rfl rfl (by decide); have ne_g4_g5 := ne_g5_g4.symm; have ne_g5_g3 := H.ne (g := g5) (g' := g3) 0 2 rfl rfl (by decide); have ne_g3_g5 := ne_g5_g3.symm; have ne_g5_g2 := H.ne (g := g5) (g' := g2) 0 3 rfl rfl (by decide); have ne_g2_g5 := ne_g5_g2.symm))
  (try simp only [nn])
  replace H := ((((H.setn [] 0 (.bool (ng rn)) rfl).setn [] 1 (.slice A8 (ln rn) c9) rfl).setn [] 2 (.bool (ng rd)) rfl).setn [] 3 (.slice A10 (ln rd) c11) rfl)
  clear f5 f4 f3 f2
  generalize ((((w13.setCell ⟨g5, 0, none⟩ (.bool (ng rn))).setCell ⟨g5, 1, none⟩ (.slice A8 (ln rn) c9)).setCell ⟨g5, 2, none⟩ (.bool (ng rd))).setCell ⟨g5, 3, none⟩ (.slice A10 (ln rd) c11)) = w15 at H ⊢
  have f5 := H.b4 (g := g5) m0
  have f4 := H.b4 (g := g4) m1
  have f3 := H.b2 (g := g3) m2
  have f2 := H.b2 (g := g2) m3
  go_wp2
  replace H := ((((H.setn [_] 0 (.bool (ng rn)) rfl).setn [_] 1 (.slice A8 (ln rn) c9) rfl).setn [_] 2 (.bool (ng rd)) rfl).setn [_] 3 (.slice A10 (ln rd) c11) rfl)
  refine bodyPost_ret (results_cell_row rfl _ _ g4 51 #[.bool (ng rn), .slice A8 (ln rn) c9, .bool (ng rd), .slice A10 (ln rd) c11] (0, 0) _ rfl (H.blk m1) Try.underlying51 rfl (by kernel_rfl)) rfl ?_
  exact ⟨A8, c9, A10, c11, rfl, H.ret m1, H.ret m0, H.below⟩

theorem MustQ {A B : Option Addr} {c k : Nat} {n d : Int} {w : World} {ok : Nat → Prop} (hf : (bw A c n).at w ok) (hg : (bw B k d).at w ok) (hn : ln n ≤ 10000000) (hd : ln d ≤ 10000000) (rn rd : Int) (h : qn n d = rn ∧ qd n d = rd) : Calls Try.prog 86 #[.agg #[.bool (ng n), .slice A (ln n) c], .agg #[.bool (ng d), .slice B (ln d) k]] w (RetQ w ok rn rd) := Must_ok hf hg hn hd rn rd _ ⟨h.1⟩ ⟨h.2⟩ ⟨rfl⟩
def tb66.T1 : Bool × List (List Nat × List Nat) := (true, [([], []), ([0], [0]), ([], []), ([2], [2]), ([1, 3, 3], [1, 3]), ([], []), ([5], [5]), ([], []), ([7, 4], [7]), ([6, 8, 8], [6, 8]), ([4, 9, 9], [4, 9]), ([10, 10, 0, 1, 2, 3, 4, 5, 6, 7, 8, 9, 10], [10])])
def tb66.B1 : List Nat := [0, 1, 0, 4, 15, 0, 32, 0, 159, 511, 1023, 2047]
theorem tb66.tab1 : rtab .any (opsOf Try.f66 1) = tb66.T1 := by kernel_rfl
theorem tb66.bits1 : waitsOk tb66.T1.2 tb66.B1 = true := by kernel_rfl

theorem CmpR {A B A' B' : Option Addr} {c k c' k' : Nat} {n d p q : Int} {w : World} {ok : Nat → Prop} (hf : (bw A c n).at w ok) (hg : (bw B k d).at w ok) (hf' : (bw A' c' p).at w ok) (hg' : (bw B' k' q).at w ok) (hn : ln n ≤ 100000) (hd : ln d ≤ 100000) (hp : ln p ≤ 100000) (hq : ln q ≤ 100000) (r : Int) (h : cmp3 (n * dd q) (p * dd d) = r) : Calls Try.prog 66 #[.agg #[.bool (ng n), .slice A (ln n) c, .bool (ng d), .slice B (ln d) k], .agg #[.bool (ng p), .slice A' (ln p) c', .bool (ng q), .slice B' (ln q) k']] w (RetI64 r w) := by
  have hu25 := Try.underlying25
  have hu51 := Try.underlying51
  have H := ((((Sit.start w ok).arg hf).arg hg).arg hf').arg hg'
  have bn := Aside0.mk hn
  have bd := Aside0.mk hd
  have bp := Aside0.mk hp
  have bq := Aside0.mk hq
  clear hf hg hf' hg' hn hd hp hq
  obtain ⟨e1, he1⟩ : ∃ v : Int, dd d = v := ⟨_, rfl⟩
  obtain ⟨e2, he2⟩ : ∃ v : Int, dd q = v := ⟨_, rfl⟩
  have be1 := Aside0.mk (bDd bd.out (by decide) he1)
  have be2 := Aside0.mk (bDd bq.out (by decide) he2)
  obtain ⟨s1, hs1⟩ : ∃ v : Int, n * e2 = v := ⟨_, rfl⟩
  have bs1 := Aside0.mk (bMul bn.out be2.out hs1)
  obtain ⟨s2, hs2⟩ : ∃ v : Int, p * e1 = v := ⟨_, rfl⟩
  have bs2 := Aside0.mk (bMul bp.out be1.out hs2)
  have hc : cmp3 s1 s2 = r := by rw [← hs1, ← hs2, ← he1, ← he2]; exact h
  replace hc := Aside0.mk hc
  clear h
  replace he1 := Aside0.mk he1
  replace he2 := Aside0.mk he2
  replace hs1 := Aside0.mk hs1
  replace hs2 := Aside0.mk hs2
  go_enter Try.func66, Try.ntmps66
  have st2 := trivial
  have st4 := trivial
  go_upto_region 1 with (first
    | (clear st2; (with_reducible refine gate_dst (N := 2) rfl ?_); refine bE #[.bool (ng n), .slice A (ln n) c, .bool (ng d), .slice B (ln d) k] 51 H ?_; clear H; intro g2 w1 H; have f2 := H.b4 (g := g2) m0)
    | (clear st4; (with_reducible refine gate_dst (N := 3) rfl ?_); refine bE #[.bool (ng p), .slice A' (ln p) c', .bool (ng q), .slice B' (ln q) k'] 51 H ?_; clear H; intro g3 w3 H; clear f2; have f3 := H.b4 (g := g3) m0; have f2 := H.b4 (g := g2) m1; have ne_g3_g2 := H.ne (g := g3) (g' := g2) 0 1 rfl rfl (by decide); have ne_g2_g3 := ne_g3_g2.symm))
  (try simp only [nn])
  clear f3 f2
  replace H := H.drew
  refine start_ (n := 12) (S := fun w' => w'.cell? ⟨g2, 0, none⟩ = some (.bool (ng n)) ∧ w'.cell? ⟨g2, 1, none⟩ = some (.slice A (ln n) c) ∧ w'.cell? ⟨g2, 2, none⟩ = some (.bool (ng d)) ∧ w'.cell? ⟨g2, 3, none⟩ = some (.slice B (ln d) k) ∧ w'.cell? ⟨g3, 0, none⟩ = some (.bool (ng p)) ∧ w'.cell? ⟨g3, 1, none⟩ = some (.slice A' (ln p) c') ∧ w'.cell? ⟨g3, 2, none⟩ = some (.bool (ng q)) ∧ w'.cell? ⟨g3, 3, none⟩ = some (.slice B' (ln q) k')) (ds := []) #[false, false, false, false, false, false, false, false, false, false, false, false] (by kernel_rfl) rfl rfl (H.c4 m1 (H.d4 m0)) (fun hQ => ?_)
  generalize w3.drew = w5 at H hQ ⊢
  refine with_tabW tb66.tab1 tb66.bits1 (fun HT_ HW_ => ?_)
  refine pT HT_ 0 5 (bm 12 1) ?_
  refine pT HT_ 5 10 (bm 12 33) ?_
  refine tT HT_ HW_ hQ 1 6 (bm 12 35) ?_
  refine tT HT_ HW_ hQ 2 7 (bm 12 39) ?_
  refine tT HT_ HW_ hQ 6 11 (bm 12 103) ?_
  refine tT HT_ HW_ hQ 7 12 (bm 12 231) ?_
  refine oT HT_ 3 8 (bm 12 239) (fun K hK => ?_)
  refine gT Try.func47 #[.agg #[.bool (ng p), .slice A' (ln p) c', .bool (ng q), .slice B' (ln q) k']] ?_
  with_reducible refine (DenQ (H.row _ m1) (H.row _ m0) (limR bp.out (by decide)) (limR bq.out (by decide)) e2 he2.out).mono ?_
  rintro e w6 ⟨A7, c8, rfl, hr, hb⟩
  replace H := H.got hr hb
  clear hr hb
  refine ⟨_, rfl, ?_⟩
  refine hK.out _ _ (H.c4 m1 (H.d4 m0)) (fun hQ => ?_)
  clear hK K
  refine nT ?_
  refine oT HT_ 4 9 (bm 12 255) (fun K hK => ?_)
  refine gT Try.func31 #[.agg #[.bool (ng n), .slice A (ln n) c], .agg #[.bool (ng e2), .slice A7 (ln e2) c8]] ?_
  with_reducible refine (MulQ (H.row _ m4) (H.row _ m0) (lim bn.out (by decide)) (lim be2.out (by decide)) s1 hs1.out).mono ?_
  rintro e w9 ⟨A10, c11, rfl, hr, hb⟩
  replace H := H.got hr hb
  clear hr hb
  refine ⟨_, rfl, ?_⟩
  refine hK.out _ _ (H.c4 m1 (H.d4 m0)) (fun hQ => ?_)
  clear hK K
  refine nT ?_
  refine oT HT_ 8 13 (bm 12 511) (fun K hK => ?_)
  refine gT Try.func47 #[.agg #[.bool (ng n), .slice A (ln n) c, .bool (ng d), .slice B (ln d) k]] ?_
  with_reducible refine (DenQ (H.row _ m5) (H.row _ m4) (limR bn.out (by decide)) (limR bd.out (by decide)) e1 he1.out).mono ?_
  rintro e w12 ⟨A13, c14, rfl, hr, hb⟩
  replace H := H.got hr hb
  clear hr hb
  refine ⟨_, rfl, ?_⟩
  refine hK.out _ _ (H.c4 m1 (H.d4 m0)) (fun hQ => ?_)
  clear hK K
  refine nT ?_
  refine oT HT_ 9 14 (bm 12 1023) (fun K hK => ?_)
  refine gT Try.func31 #[.agg #[.bool (ng p), .slice A' (ln p) c'], .agg #[.bool (ng e1), .slice A13 (ln e1) c14]] ?_
  with_reducible refine (MulQ (H.row _ m4) (H.row _ m0) (lim bp.out (by decide)) (lim be1.out (by decide)) s2 hs2.out).mono ?_
  rintro e w15 ⟨A16, c17, rfl, hr, hb⟩
  replace H := H.got hr hb
  clear hr hb
  refine ⟨_, rfl, ?_⟩
  refine hK.out _ _ (H.c4 m1 (H.d4 m0)) (fun hQ => ?_)
  clear hK K
  refine nT ?_
  refine oT HT_ 10 15 (bm 12 2047) (fun K hK => ?_)
  refine gT Try.func34 #[.agg #[.bool (ng s1), .slice A10 (ln s1) c11], .agg #[.bool (ng s2), .slice A16 (ln s2) c17]] ?_
  with_reducible refine (CmpQ (H.row _ m2) (H.row _ m0) (lim bs1.out (by decide)) (lim bs2.out (by decide)) r hc.out).mono ?_
  rintro e w18 ⟨rfl, hb⟩
  replace H := H.call hb
  clear hb
  refine ⟨_, rfl, ?_⟩
  refine hK.out _ _ (H.c4 m1 (H.d4 m0)) (fun hQ => ?_)
  clear hK K
  refine nT ?_
  refine pT HT_ 11 4 (bm 12 4095) ?_
  refine done_ (done_of HT_.out (by kernel_rfl)) ?_
  try clear hQ
  go_wp2
  go_ret
  exact ⟨rfl, H.below⟩

def tb41.T1 : Bool × List (List Nat × List Nat) := (true, [([], []), ([0], [0]), ([], []), ([2], [2]), ([1, 3, 3], [1, 3]), ([], []), ([5], [5]), ([], []), ([7, 4], [7]), ([6, 8, 8], [6, 8]), ([4, 9, 9], [4, 9]), ([], []), ([11, 10], [11]), ([], []), ([13, 12], [13]), ([12, 14, 14], [12, 14]), ([10, 15, 15], [10, 15]), ([16, 16, 0, 1, 2, 3, 4, 5, 6, 7, 8, 9, 10, 11, 12, 13, 14, 15, 16], [16])])
def tb41.B1 : List Nat := [0, 1, 0, 4, 15, 0, 32, 0, 159, 511, 1023, 0, 4095, 0, 16383, 32767, 65535, 131071]
theorem tb41.tab1 : rtab .any (opsOf Try.f41 1) = tb41.T1 := by kernel_rfl
theorem tb41.bits1 : waitsOk tb41.T1.2 tb41.B1 = true := by kernel_rfl

theorem AddR {A B A' B' : Option Addr} {c k c' k' : Nat} {n d p q : Int} {w : World} {ok : Nat → Prop} (hf : (bw A c n).at w ok) (hg : (bw B k d).at w ok) (hf' : (bw A' c' p).at w ok) (hg' : (bw B' k' q).at w ok) (hn : ln n ≤ 100000) (hd : ln d ≤ 100000) (hp : ln p ≤ 100000) (hq : ln q ≤ 100000) (rn rd : Int) (h : qn (n * dd q + p * dd d) (dd d * dd q) = rn ∧ qd (n * dd q + p * dd d) (dd d * dd q) = rd) : Calls Try.prog 41 #[.agg #[.bool (ng n), .slice A (ln n) c, .bool (ng d), .slice B (ln d) k], .agg #[.bool (ng p), .slice A' (ln p) c', .bool (ng q), .slice B' (ln q) k']] w (RetQ w ok rn rd) := by
  have hu25 := Try.underlying25
  have hu51 := Try.underlying51
  have H := ((((Sit.start w ok).arg hf).arg hg).arg hf').arg hg'
  have bn := Aside0.mk hn
  have bd := Aside0.mk hd
  have bp := Aside0.mk hp
  have bq := Aside0.mk hq
  clear hf hg hf' hg' hn hd hp hq
  obtain ⟨e1, he1⟩ : ∃ v : Int, dd d = v := ⟨_, rfl⟩
  obtain ⟨e2, he2⟩ : ∃ v : Int, dd q = v := ⟨_, rfl⟩
  have be1 := Aside0.mk (bDd bd.out (by decide) he1)
  have be2 := Aside0.mk (bDd bq.out (by decide) he2)
  obtain ⟨s1, hs1⟩ : ∃ v : Int, n * e2 = v := ⟨_, rfl⟩
  have bs1 := Aside0.mk (bMul bn.out be2.out hs1)
  obtain ⟨s2, hs2⟩ : ∃ v : Int, p * e1 = v := ⟨_, rfl⟩
  have bs2 := Aside0.mk (bMul bp.out be1.out hs2)
  obtain ⟨s, hs⟩ : ∃ v : Int, s1 + s2 = v := ⟨_, rfl⟩
  have bs := Aside0.mk (bAdd bs1.out bs2.out hs)
  obtain ⟨t, ht⟩ : ∃ v : Int, e1 * e2 = v := ⟨_, rfl⟩
  have bt := Aside0.mk (bMul be1.out be2.out ht)
  have hm : qn s t = rn ∧ qd s t = rd := by rw [← hs, ← hs1, ← hs2, ← ht, ← he1, ← he2]; exact h
  replace hm := Aside0.mk hm
  clear h
  replace he1 := Aside0.mk he1
  replace he2 := Aside0.mk he2
  replace hs1 := Aside0.mk hs1
  replace hs2 := Aside0.mk hs2
  replace hs := Aside0.mk hs
  replace ht := Aside0.mk ht
  go_enter Try.func41, Try.ntmps41
  have st2 := trivial
  have st4 := trivial
  have st6 := trivial
  go_upto_region 1 with (first
    | (clear st2; (with_reducible refine gate_dst (N := 2) rfl ?_); refine bE #[.bool (ng n), .slice A (ln n) c, .bool (ng d), .slice B (ln d) k] 51 H ?_; clear H; intro g2 w1 H; have f2 := H.b4 (g := g2) m0)
    | (clear st4; (with_reducible refine gate_dst (N := 3) rfl ?_); refine bE #[.bool (ng p), .slice A' (ln p) c', .bool (ng q), .slice B' (ln q) k'] 51 H ?_; clear H; intro g3 w3 H; clear f2; have f3 := H.b4 (g := g3) m0; have f2 := H.b4 (g := g2) m1; have ne_g3_g2 := H.ne (g := g3) (g' := g2) 0 1 rfl rfl (by decide); have ne_g2_g3 := ne_g3_g2.symm)
    | (clear st6; (with_reducible refine gate_dst (N := 4) rfl ?_); refine bE #[.bool false, .slice none 0 0, .bool false, .slice none 0 0] 51 H ?_; clear H; intro g4 w5 H; clear f3 f2; have f4 := H.b4 (g := g4) m0; have f3 := H.b4 (g := g3) m1; have f2 := H.b4 (g := g2) m2; have ne_g4_g3 := H.ne (g := g4) (g' := g3) 0 1 rfl rfl (by decide); have ne_g3_g4 := ne_g4_g3.symm; have ne_g4_g2 := H.ne (g := g4) (g' := g2) 0 2 rfl rfl (by decide); have ne_g2_g4 := ne_g4_g2.symm))
  (try simp only [nn])
  clear f4 f3 f2
  replace H := H.drew
  refine start_ (n := 18) (S := fun w' => w'.cell? ⟨g2, 0, none⟩ = some (.bool (ng n)) ∧ w'.cell? ⟨g2, 1, none⟩ = some (.slice A (ln n) c) ∧ w'.cell? ⟨g2, 2, none⟩ = some (.bool (ng d)) ∧ w'.cell? ⟨g2, 3, none⟩ = some (.slice B (ln d) k) ∧ w'.cell? ⟨g3, 0, none⟩ = some (.bool (ng p)) ∧ w'.cell? ⟨g3, 1, none⟩ = some (.slice A' (ln p) c') ∧ w'.cell? ⟨g3, 2, none⟩ = some (.bool (ng q)) ∧ w'.cell? ⟨g3, 3, none⟩ = some (.slice B' (ln q) k')) (ds := [17]) #[false, false, false, false, false, false, false, false, false, false, false, false, false, false, false, false, false, false] (by kernel_rfl) rfl rfl (H.c4 m2 (H.d4 m1)) (fun hQ => ?_)
  generalize w5.drew = w7 at H hQ ⊢
  refine with_tabW tb41.tab1 tb41.bits1 (fun HT_ HW_ => ?_)
  refine pT HT_ 0 5 (bm 18 1) ?_
  refine pT HT_ 5 10 (bm 18 33) ?_
  refine tT HT_ HW_ hQ 1 6 (bm 18 35) ?_
  refine tT HT_ HW_ hQ 2 7 (bm 18 39) ?_
  refine tT HT_ HW_ hQ 6 11 (bm 18 103) ?_
  refine tT HT_ HW_ hQ 7 12 (bm 18 231) ?_
  refine tT HT_ HW_ hQ 11 16 (bm 18 2279) ?_
  refine tT HT_ HW_ hQ 13 18 (bm 18 10471) ?_
  refine oT HT_ 3 8 (bm 18 10479) (fun K hK => ?_)
  refine gT Try.func47 #[.agg #[.bool (ng p), .slice A' (ln p) c', .bool (ng q), .slice B' (ln q) k']] ?_
  with_reducible refine (DenQ (H.row _ m1) (H.row _ m0) (limR bp.out (by decide)) (limR bq.out (by decide)) e2 he2.out).mono ?_
  rintro e w8 ⟨A9, c10, rfl, hr, hb⟩
  replace H := H.got hr hb
  clear hr hb
  refine ⟨_, rfl, ?_⟩
  refine hK.out _ _ (H.c4 m2 (H.d4 m1)) (fun hQ => ?_)
  clear hK K
  refine nT ?_
  refine oT HT_ 4 9 (bm 18 10495) (fun K hK => ?_)
  refine gT Try.func31 #[.agg #[.bool (ng n), .slice A (ln n) c], .agg #[.bool (ng e2), .slice A9 (ln e2) c10]] ?_
  with_reducible refine (MulQ (H.row _ m4) (H.row _ m0) (lim bn.out (by decide)) (lim be2.out (by decide)) s1 hs1.out).mono ?_
  rintro e w11 ⟨A12, c13, rfl, hr, hb⟩
  replace H := H.got hr hb
  clear hr hb
  refine ⟨_, rfl, ?_⟩
  refine hK.out _ _ (H.c4 m2 (H.d4 m1)) (fun hQ => ?_)
  clear hK K
  refine nT ?_
  refine oT HT_ 8 13 (bm 18 10751) (fun K hK => ?_)
  refine gT Try.func47 #[.agg #[.bool (ng n), .slice A (ln n) c, .bool (ng d), .slice B (ln d) k]] ?_
  with_reducible refine (DenQ (H.row _ m5) (H.row _ m4) (limR bn.out (by decide)) (limR bd.out (by decide)) e1 he1.out).mono ?_
  rintro e w14 ⟨A15, c16, rfl, hr, hb⟩
  replace H := H.got hr hb
  clear hr hb
  refine ⟨_, rfl, ?_⟩
  refine hK.out _ _ (H.c4 m2 (H.d4 m1)) (fun hQ => ?_)
  clear hK K
  refine nT ?_
  refine oT HT_ 9 14 (bm 18 11263) (fun K hK => ?_)
  refine gT Try.func31 #[.agg #[.bool (ng p), .slice A' (ln p) c'], .agg #[.bool (ng e1), .slice A15 (ln e1) c16]] ?_
  with_reducible refine (MulQ (H.row _ m4) (H.row _ m0) (lim bp.out (by decide)) (lim be1.out (by decide)) s2 hs2.out).mono ?_
  rintro e w17 ⟨A18, c19, rfl, hr, hb⟩
  replace H := H.got hr hb
  clear hr hb
  refine ⟨_, rfl, ?_⟩
  refine hK.out _ _ (H.c4 m2 (H.d4 m1)) (fun hQ => ?_)
  clear hK K
  refine nT ?_
  refine oT HT_ 10 15 (bm 18 12287) (fun K hK => ?_)
  refine gT Try.func28 #[.agg #[.bool (ng s1), .slice A12 (ln s1) c13], .agg #[.bool (ng s2), .slice A18 (ln s2) c19]] ?_
  with_reducible refine (AddQ (H.row _ m2) (H.row _ m0) (lim bs1.out (by decide)) (lim bs2.out (by decide)) s hs.out).mono ?_
  rintro e w20 ⟨A21, c22, rfl, hr, hb⟩
  replace H := H.got hr hb
  clear hr hb
  refine ⟨_, rfl, ?_⟩
  refine hK.out _ _ (H.c4 m2 (H.d4 m1)) (fun hQ => ?_)
  clear hK K
  refine nT ?_
  refine oT HT_ 12 17 (bm 18 16383) (fun K hK => ?_)
  refine gT Try.func47 #[.agg #[.bool (ng n), .slice A (ln n) c, .bool (ng d), .slice B (ln d) k]] ?_
  with_reducible refine (DenQ (H.row _ m8) (H.row _ m7) (limR bn.out (by decide)) (limR bd.out (by decide)) e1 he1.out).mono ?_
  rintro e w23 ⟨A24, c25, rfl, hr, hb⟩
  replace H := H.got hr hb
  clear hr hb
  refine ⟨_, rfl, ?_⟩
  refine hK.out _ _ (H.c4 m2 (H.d4 m1)) (fun hQ => ?_)
  clear hK K
  refine nT ?_
  refine oT HT_ 14 19 (bm 18 32767) (fun K hK => ?_)
  refine gT Try.func47 #[.agg #[.bool (ng p), .slice A' (ln p) c', .bool (ng q), .slice B' (ln q) k']] ?_
  with_reducible refine (DenQ (H.row _ m7) (H.row _ m6) (limR bp.out (by decide)) (limR bq.out (by decide)) e2 he2.out).mono ?_
  rintro e w26 ⟨A27, c28, rfl, hr, hb⟩
  replace H := H.got hr hb
  clear hr hb
  refine ⟨_, rfl, ?_⟩
  refine hK.out _ _ (H.c4 m2 (H.d4 m1)) (fun hQ => ?_)
  clear hK K
  refine nT ?_
  refine oT HT_ 15 20 (bm 18 65535) (fun K hK => ?_)
  refine gT Try.func31 #[.agg #[.bool (ng e1), .slice A24 (ln e1) c25], .agg #[.bool (ng e2), .slice A27 (ln e2) c28]] ?_
  with_reducible refine (MulQ (H.row _ m1) (H.row _ m0) (lim be1.out (by decide)) (lim be2.out (by decide)) t ht.out).mono ?_
  rintro e w29 ⟨A30, c31, rfl, hr, hb⟩
  replace H := H.got hr hb
  clear hr hb
  refine ⟨_, rfl, ?_⟩
  refine hK.out _ _ (H.c4 m2 (H.d4 m1)) (fun hQ => ?_)
  clear hK K
  refine nT ?_
  refine oT HT_ 16 21 (bm 18 131071) (fun K hK => ?_)
  refine gT Try.func86 #[.agg #[.bool (ng s), .slice A21 (ln s) c22], .agg #[.bool (ng t), .slice A30 (ln t) c31]] ?_
  with_reducible refine (MustQ (H.row _ m3) (H.row _ m0) (lim bs.out (by decide)) (lim bt.out (by decide)) rn rd hm.out).mono ?_
  rintro e w32 ⟨A33, c34, A35, c36, rfl, hr, hr2, hb⟩
  replace H := (H.got hr hb).more ((H.got hr2 hb).row _ m0)
  clear hr hr2 hb
  refine ⟨_, rfl, ?_⟩
  refine hK.out _ _ (H.c4 m2 (H.d4 m1)) (fun hQ => ?_)
  clear hK K
  refine nT ?_
  refine lT HT_ 17 (bm 18 262143) (fun K hK => ?_)
  have f4 := H.b4 (g := g4) m0
  have f3 := H.b4 (g := g3) m1
  have f2 := H.b4 (g := g2) m2
  refine kT ?_
  refine hK.out _ _ ?_
  clear hK K
  refine done_ (done_of HT_.out (by kernel_rfl)) ?_
  try clear hQ
  replace H := ((((H.setn [] 0 (.bool (ng rn)) rfl).setn [] 1 (.slice A33 (ln rn) c34) rfl).setn [] 2 (.bool (ng rd)) rfl).setn [] 3 (.slice A35 (ln rd) c36) rfl)
  go_wp2
  refine bodyPost_ret (results_cell_row rfl _ _ g4 51 #[.bool (ng rn), .slice A33 (ln rn) c34, .bool (ng rd), .slice A35 (ln rd) c36] (0, 0) _ rfl (H.blk m0) Try.underlying51 rfl (by kernel_rfl)) rfl ?_
  exact ⟨A33, c34, A35, c36, rfl, H.ret m1, H.ret m0, H.below⟩

def tb42.T1 : Bool × List (List Nat × List Nat) := (true, [([], []), ([0], [0]), ([], []), ([2], [2]), ([1, 3], [1, 3]), ([], []), ([5, 4], [5]), ([], []), ([7, 6], [7]), ([6, 8, 8], [6, 8]), ([4, 9, 9], [4, 9]), ([10, 10, 0, 1, 2, 3, 4, 5, 6, 7, 8, 9, 10], [10])])
def tb42.B1 : List Nat := [0, 1, 0, 4, 15, 0, 63, 0, 255, 511, 1023, 2047]
theorem tb42.tab1 : rtab .any (opsOf Try.f42 1) = tb42.T1 := by kernel_rfl
theorem tb42.bits1 : waitsOk tb42.T1.2 tb42.B1 = true := by kernel_rfl

theorem MulR {A B A' B' : Option Addr} {c k c' k' : Nat} {n d p q : Int} {w : World} {ok : Nat → Prop} (hf : (bw A c n).at w ok) (hg : (bw B k d).at w ok) (hf' : (bw A' c' p).at w ok) (hg' : (bw B' k' q).at w ok) (hn : ln n ≤ 100000) (hd : ln d ≤ 100000) (hp : ln p ≤ 100000) (hq : ln q ≤ 100000) (rn rd : Int) (h : qn (n * p) (dd d * dd q) = rn ∧ qd (n * p) (dd d * dd q) = rd) : Calls Try.prog 42 #[.agg #[.bool (ng n), .slice A (ln n) c, .bool (ng d), .slice B (ln d) k], .agg #[.bool (ng p), .slice A' (ln p) c', .bool (ng q), .slice B' (ln q) k']] w (RetQ w ok rn rd) := by
  have hu25 := Try.underlying25
  have hu51 := Try.underlying51
  have H := ((((Sit.start w ok).arg hf).arg hg).arg hf').arg hg'
  have bn := Aside0.mk hn
  have bd := Aside0.mk hd
  have bp := Aside0.mk hp
  have bq := Aside0.mk hq
  clear hf hg hf' hg' hn hd hp hq
  obtain ⟨e1, he1⟩ : ∃ v : Int, dd d = v := ⟨_, rfl⟩
  obtain ⟨e2, he2⟩ : ∃ v : Int, dd q = v := ⟨_, rfl⟩
  have be1 := Aside0.mk (bDd bd.out (by decide) he1)
  have be2 := Aside0.mk (bDd bq.out (by decide) he2)
  obtain ⟨s, hs⟩ : ∃ v : Int, n * p = v := ⟨_, rfl⟩
  have bs := Aside0.mk (bMul bn.out bp.out hs)
  obtain ⟨t, ht⟩ : ∃ v : Int, e1 * e2 = v := ⟨_, rfl⟩
  have bt := Aside0.mk (bMul be1.out be2.out ht)
  have hm : qn s t = rn ∧ qd s t = rd := by rw [← hs, ← ht, ← he1, ← he2]; exact h
  replace hm := Aside0.mk hm
  clear h
  replace he1 := Aside0.mk he1
  replace he2 := Aside0.mk he2
  replace hs := Aside0.mk hs
  replace ht := Aside0.mk ht
  go_enter Try.func42, Try.ntmps42
  have st2 := trivial
  have st4 := trivial
  have st6 := trivial
  go_upto_region 1 with (first
    | (clear st2; (with_reducible refine gate_dst (N := 2) rfl ?_); refine bE #[.bool (ng n), .slice A (ln n) c, .bool (ng d), .slice B (ln d) k] 51 H ?_; clear H; intro g2 w1 H; have f2 := H.b4 (g := g2) m0)
    | (clear st4; (with_reducible refine gate_dst (N := 3) rfl ?_); refine bE #[.bool (ng p), .slice A' (ln p) c', .bool (ng q), .slice B' (ln q) k'] 51 H ?_; clear H; intro g3 w3 H; clear f2; have f3 := H.b4 (g := g3) m0; have f2 := H.b4 (g := g2) m1; have ne_g3_g2 := H.ne (g := g3) (g' := g2) 0 1 rfl rfl (by decide); have ne_g2_g3 := ne_g3_g2.symm)
    | (clear st6; (with_reducible refine gate_dst (N := 4) rfl ?_); refine bE #[.bool false, .slice none 0 0, .bool false, .slice none 0 0] 51 H ?_; clear H; intro g4 w5 H; clear f3 f2; have f4 := H.b4 (g := g4) m0; have f3 := H.b4 (g := g3) m1; have f2 := H.b4 (g := g2) m2; have ne_g4_g3 := H.ne (g := g4) (g' := g3) 0 1 rfl rfl (by decide); have ne_g3_g4 := ne_g4_g3.symm; have ne_g4_g2 := H.ne (g := g4) (g' := g2) 0 2 rfl rfl (by decide); have ne_g2_g4 := ne_g4_g2.symm))
  (try simp only [nn])
  clear f4 f3 f2
  replace H := H.drew
  refine start_ (n := 12) (S := fun w' => w'.cell? ⟨g2, 0, none⟩ = some (.bool (ng n)) ∧ w'.cell? ⟨g2, 1, none⟩ = some (.slice A (ln n) c) ∧ w'.cell? ⟨g2, 2, none⟩ = some (.bool (ng d)) ∧ w'.cell? ⟨g2, 3, none⟩ = some (.slice B (ln d) k) ∧ w'.cell? ⟨g3, 0, none⟩ = some (.bool (ng p)) ∧ w'.cell? ⟨g3, 1, none⟩ = some (.slice A' (ln p) c') ∧ w'.cell? ⟨g3, 2, none⟩ = some (.bool (ng q)) ∧ w'.cell? ⟨g3, 3, none⟩ = some (.slice B' (ln q) k')) (ds := [11]) #[false, false, false, false, false, false, false, false, false, false, false, false] (by kernel_rfl) rfl rfl (H.c4 m2 (H.d4 m1)) (fun hQ => ?_)
  generalize w5.drew = w7 at H hQ ⊢
  refine with_tabW tb42.tab1 tb42.bits1 (fun HT_ HW_ => ?_)
  refine pT HT_ 0 5 (bm 12 1) ?_
  refine pT HT_ 2 7 (bm 12 5) ?_
  refine tT HT_ HW_ hQ 1 6 (bm 12 7) ?_
  refine tT HT_ HW_ hQ 3 8 (bm 12 15) ?_
  refine tT HT_ HW_ hQ 5 10 (bm 12 47) ?_
  refine tT HT_ HW_ hQ 7 12 (bm 12 175) ?_
  refine oT HT_ 4 9 (bm 12 191) (fun K hK => ?_)
  refine gT Try.func31 #[.agg #[.bool (ng n), .slice A (ln n) c], .agg #[.bool (ng p), .slice A' (ln p) c']] ?_
  with_reducible refine (MulQ (H.row _ m3) (H.row _ m1) (lim bn.out (by decide)) (lim bp.out (by decide)) s hs.out).mono ?_
  rintro e w8 ⟨A9, c10, rfl, hr, hb⟩
  replace H := H.got hr hb
  clear hr hb
  refine ⟨_, rfl, ?_⟩
  refine hK.out _ _ (H.c4 m2 (H.d4 m1)) (fun hQ => ?_)
  clear hK K
  refine nT ?_
  refine oT HT_ 6 11 (bm 12 255) (fun K hK => ?_)
  refine gT Try.func47 #[.agg #[.bool (ng n), .slice A (ln n) c, .bool (ng d), .slice B (ln d) k]] ?_
  with_reducible refine (DenQ (H.row _ m4) (H.row _ m3) (limR bn.out (by decide)) (limR bd.out (by decide)) e1 he1.out).mono ?_
  rintro e w11 ⟨A12, c13, rfl, hr, hb⟩
  replace H := H.got hr hb
  clear hr hb
  refine ⟨_, rfl, ?_⟩
  refine hK.out _ _ (H.c4 m2 (H.d4 m1)) (fun hQ => ?_)
  clear hK K
  refine nT ?_
  refine oT HT_ 8 13 (bm 12 511) (fun K hK => ?_)
  refine gT Try.func47 #[.agg #[.bool (ng p), .slice A' (ln p) c', .bool (ng q), .slice B' (ln q) k']] ?_
  with_reducible refine (DenQ (H.row _ m3) (H.row _ m2) (limR bp.out (by decide)) (limR bq.out (by decide)) e2 he2.out).mono ?_
  rintro e w14 ⟨A15, c16, rfl, hr, hb⟩
  replace H := H.got hr hb
  clear hr hb
  refine ⟨_, rfl, ?_⟩
  refine hK.out _ _ (H.c4 m2 (H.d4 m1)) (fun hQ => ?_)
  clear hK K
  refine nT ?_
  refine oT HT_ 9 14 (bm 12 1023) (fun K hK => ?_)
  refine gT Try.func31 #[.agg #[.bool (ng e1), .slice A12 (ln e1) c13], .agg #[.bool (ng e2), .slice A15 (ln e2) c16]] ?_
  with_reducible refine (MulQ (H.row _ m1) (H.row _ m0) (lim be1.out (by decide)) (lim be2.out (by decide)) t ht.out).mono ?_
  rintro e w17 ⟨A18, c19, rfl, hr, hb⟩
  replace H := H.got hr hb
  clear hr hb
  refine ⟨_, rfl, ?_⟩
  refine hK.out _ _ (H.c4 m2 (H.d4 m1)) (fun hQ => ?_)
  clear hK K
  refine nT ?_
  refine oT HT_ 10 15 (bm 12 2047) (fun K hK => ?_)
  refine gT Try.func86 #[.agg #[.bool (ng s), .slice A9 (ln s) c10], .agg #[.bool (ng t), .slice A18 (ln t) c19]] ?_
  with_reducible refine (MustQ (H.row _ m3) (H.row _ m0) (lim bs.out (by decide)) (lim bt.out (by decide)) rn rd hm.out).mono ?_
  rintro e w20 ⟨A21, c22, A23, c24, rfl, hr, hr2, hb⟩
  replace H := (H.got hr hb).more ((H.got hr2 hb).row _ m0)
  clear hr hr2 hb
  refine ⟨_, rfl, ?_⟩
  refine hK.out _ _ (H.c4 m2 (H.d4 m1)) (fun hQ => ?_)
  clear hK K
  refine nT ?_
  refine lT HT_ 11 (bm 12 4095) (fun K hK => ?_)
  have f4 := H.b4 (g := g4) m0
  have f3 := H.b4 (g := g3) m1
  have f2 := H.b4 (g := g2) m2
  refine kT ?_
  refine hK.out _ _ ?_
  clear hK K
  refine done_ (done_of HT_.out (by kernel_rfl)) ?_
  try clear hQ
  replace H := ((((H.setn [] 0 (.bool (ng rn)) rfl).setn [] 1 (.slice A21 (ln rn) c22) rfl).setn [] 2 (.bool (ng rd)) rfl).setn [] 3 (.slice A23 (ln rd) c24) rfl)
  go_wp2
  refine bodyPost_ret (results_cell_row rfl _ _ g4 51 #[.bool (ng rn), .slice A21 (ln rn) c22, .bool (ng rd), .slice A23 (ln rd) c24] (0, 0) _ rfl (H.blk m0) Try.underlying51 rfl (by kernel_rfl)) rfl ?_
  exact ⟨A21, c22, A23, c24, rfl, H.ret m1, H.ret m0, H.below⟩

def tb52.T1 : Bool × List (List Nat × List Nat) := (true, [([], []), ([0], [0]), ([], []), ([2], [2]), ([1, 3, 3], [1, 3]), ([], []), ([5, 4], [5]), ([], []), ([7], [7]), ([6, 8, 6], [6, 8]), ([4, 9, 9], [4, 9]), ([10], [10]), ([10], [10]), ([11, 10, 0, 1, 2, 3, 4, 5, 6, 7, 8, 9, 10, 11, 12], [11]), ([12, 13, 0, 1, 2, 3, 4, 5, 6, 7, 8, 9, 10, 11, 12, 13], [12])])
def tb52.B1 : List Nat := [0, 1, 0, 4, 15, 0, 63, 0, 128, 511, 1023, 2047, 2047, 8191, 16383]
theorem tb52.tab1 : rtab .any (opsOf Try.f52 1) = tb52.T1 := by kernel_rfl
theorem tb52.bits1 : waitsOk tb52.T1.2 tb52.B1 = true := by kernel_rfl

theorem DivR {A B A' B' : Option Addr} {c k c' k' : Nat} {n d p q : Int} {w : World} {ok : Nat → Prop} (hf : (bw A c n).at w ok) (hg : (bw B k d).at w ok) (hf' : (bw A' c' p).at w ok) (hg' : (bw B' k' q).at w ok) (hn : ln n ≤ 100000) (hd : ln d ≤ 100000) (hp : ln p ≤ 100000) (hq : ln q ≤ 100000) (rn rd er : Int) (h : qn (n * dd q) (dd d * p) = rn ∧ qd (n * dd q) (dd d * p) = rd ∧ qe (dd d * p) = er) : Calls Try.prog 52 #[.agg #[.bool (ng n), .slice A (ln n) c, .bool (ng d), .slice B (ln d) k], .agg #[.bool (ng p), .slice A' (ln p) c', .bool (ng q), .slice B' (ln q) k']] w (RetQE w ok rn rd er) := by
  have hu25 := Try.underlying25
  have hu51 := Try.underlying51
  have H := ((((Sit.start w ok).arg hf).arg hg).arg hf').arg hg'
  have bn := Aside0.mk hn
  have bd := Aside0.mk hd
  have bp := Aside0.mk hp
  have bq := Aside0.mk hq
  clear hf hg hf' hg' hn hd hp hq
  obtain ⟨e1, he1⟩ : ∃ v : Int, dd d = v := ⟨_, rfl⟩
  obtain ⟨e2, he2⟩ : ∃ v : Int, dd q = v := ⟨_, rfl⟩
  have be1 := Aside0.mk (bDd bd.out (by decide) he1)
  have be2 := Aside0.mk (bDd bq.out (by decide) he2)
  obtain ⟨s, hs⟩ : ∃ v : Int, n * e2 = v := ⟨_, rfl⟩
  have bs := Aside0.mk (bMul bn.out be2.out hs)
  obtain ⟨t, ht⟩ : ∃ v : Int, e1 * p = v := ⟨_, rfl⟩
  have bt := Aside0.mk (bMul be1.out bp.out ht)
  have hm : qn s t = rn ∧ qd s t = rd ∧ qe t = er := by rw [← hs, ← ht, ← he1, ← he2]; exact h
  replace hm := Aside0.mk hm
  clear h
  replace he1 := Aside0.mk he1
  replace he2 := Aside0.mk he2
  replace hs := Aside0.mk hs
  replace ht := Aside0.mk ht
  go_enter Try.func52, Try.ntmps52
  have st2 := trivial
  have st4 := trivial
  have st6 := trivial
  go_upto_region 1 with (first
    | (clear st2; (with_reducible refine gate_dst (N := 2) rfl ?_); refine bE #[.bool (ng n), .slice A (ln n) c, .bool (ng d), .slice B (ln d) k] 51 H ?_; clear H; intro g2 w1 H; have f2 := H.b4 (g := g2) m0)
    | (clear st4; (with_reducible refine gate_dst (N := 3) rfl ?_); refine bE #[.bool (ng p), .slice A' (ln p) c', .bool (ng q), .slice B' (ln q) k'] 51 H ?_; clear H; intro g3 w3 H; clear f2; have f3 := H.b4 (g := g3) m0; have f2 := H.b4 (g := g2) m1; have ne_g3_g2 := H.ne (g := g3) (g' := g2) 0 1 rfl rfl (by decide); have ne_g2_g3 := ne_g3_g2.symm)
    | (clear st6; (with_reducible refine gate_dst (N := 4) rfl ?_); refine bE #[.bool false, .slice none 0 0, .bool false, .slice none 0 0] 51 H ?_; clear H; intro g4 w5 H; clear f3 f2; have f4 := H.b4 (g := g4) m0; have f3 := H.b4 (g := g3) m1; have f2 := H.b4 (g := g2) m2; have ne_g4_g3 := H.ne (g := g4) (g' := g3) 0 1 rfl rfl (by decide); have ne_g3_g4 := ne_g4_g3.symm; have ne_g4_g2 := H.ne (g := g4) (g' := g2) 0 2 rfl rfl (by decide); have ne_g2_g4 := ne_g4_g2.symm))
  (try simp only [nn])
  clear f4 f3 f2
  replace H := H.drew
  refine start_ (n := 15) (S := fun w' => w'.cell? ⟨g2, 0, none⟩ = some (.bool (ng n)) ∧ w'.cell? ⟨g2, 1, none⟩ = some (.slice A (ln n) c) ∧ w'.cell? ⟨g2, 2, none⟩ = some (.bool (ng d)) ∧ w'.cell? ⟨g2, 3, none⟩ = some (.slice B (ln d) k) ∧ w'.cell? ⟨g3, 0, none⟩ = some (.bool (ng p)) ∧ w'.cell? ⟨g3, 1, none⟩ = some (.slice A' (ln p) c') ∧ w'.cell? ⟨g3, 2, none⟩ = some (.bool (ng q)) ∧ w'.cell? ⟨g3, 3, none⟩ = some (.slice B' (ln q) k')) (ds := [13]) #[false, false, false, false, false, false, false, false, false, false, false, false, false, false, false] (by kernel_rfl) rfl rfl (H.c4 m2 (H.d4 m1)) (fun hQ => ?_)
  generalize w5.drew = w7 at H hQ ⊢
  refine with_tabW tb52.tab1 tb52.bits1 (fun HT_ HW_ => ?_)
  refine pT HT_ 0 6 (bm 15 1) ?_
  refine pT HT_ 7 13 (bm 15 129) ?_
  refine tT HT_ HW_ hQ 1 7 (bm 15 131) ?_
  refine tT HT_ HW_ hQ 2 8 (bm 15 135) ?_
  refine tT HT_ HW_ hQ 5 11 (bm 15 167) ?_
  refine tT HT_ HW_ hQ 8 14 (bm 15 423) ?_
  refine oT HT_ 3 9 (bm 15 431) (fun K hK => ?_)
  refine gT Try.func47 #[.agg #[.bool (ng p), .slice A' (ln p) c', .bool (ng q), .slice B' (ln q) k']] ?_
  with_reducible refine (DenQ (H.row _ m1) (H.row _ m0) (limR bp.out (by decide)) (limR bq.out (by decide)) e2 he2.out).mono ?_
  rintro e w8 ⟨A9, c10, rfl, hr, hb⟩
  replace H := H.got hr hb
  clear hr hb
  refine ⟨_, rfl, ?_⟩
  refine hK.out _ _ (H.c4 m2 (H.d4 m1)) (fun hQ => ?_)
  clear hK K
  refine nT ?_
  refine oT HT_ 4 10 (bm 15 447) (fun K hK => ?_)
  refine gT Try.func31 #[.agg #[.bool (ng n), .slice A (ln n) c], .agg #[.bool (ng e2), .slice A9 (ln e2) c10]] ?_
  with_reducible refine (MulQ (H.row _ m4) (H.row _ m0) (lim bn.out (by decide)) (lim be2.out (by decide)) s hs.out).mono ?_
  rintro e w11 ⟨A12, c13, rfl, hr, hb⟩
  replace H := H.got hr hb
  clear hr hb
  refine ⟨_, rfl, ?_⟩
  refine hK.out _ _ (H.c4 m2 (H.d4 m1)) (fun hQ => ?_)
  clear hK K
  refine nT ?_
  refine oT HT_ 6 12 (bm 15 511) (fun K hK => ?_)
  refine gT Try.func47 #[.agg #[.bool (ng n), .slice A (ln n) c, .bool (ng d), .slice B (ln d) k]] ?_
  with_reducible refine (DenQ (H.row _ m5) (H.row _ m4) (limR bn.out (by decide)) (limR bd.out (by decide)) e1 he1.out).mono ?_
  rintro e w14 ⟨A15, c16, rfl, hr, hb⟩
  replace H := H.got hr hb
  clear hr hb
  refine ⟨_, rfl, ?_⟩
  refine hK.out _ _ (H.c4 m2 (H.d4 m1)) (fun hQ => ?_)
  clear hK K
  refine nT ?_
  refine oT HT_ 9 15 (bm 15 1023) (fun K hK => ?_)
  refine gT Try.func31 #[.agg #[.bool (ng e1), .slice A15 (ln e1) c16], .agg #[.bool (ng p), .slice A' (ln p) c']] ?_
  with_reducible refine (MulQ (H.row _ m0) (H.row _ m4) (lim be1.out (by decide)) (lim bp.out (by decide)) t ht.out).mono ?_
  rintro e w17 ⟨A18, c19, rfl, hr, hb⟩
  replace H := H.got hr hb
  clear hr hb
  refine ⟨_, rfl, ?_⟩
  refine hK.out _ _ (H.c4 m2 (H.d4 m1)) (fun hQ => ?_)
  clear hK K
  refine nT ?_
  refine oT HT_ 10 16 (bm 15 2047) (fun K hK => ?_)
  refine gT Try.func63 #[.agg #[.bool (ng s), .slice A12 (ln s) c13], .agg #[.bool (ng t), .slice A18 (ln t) c19]] ?_
  with_reducible refine (MakeQ (H.row _ m2) (H.row _ m0) (lim bs.out (by decide)) (lim bt.out (by decide)) rn rd er hm.out.1 hm.out.2.1 hm.out.2.2).mono ?_
  rintro e w20 ⟨A21, c22, A23, c24, rfl, hr, hr2, hb⟩
  replace H := (H.got hr hb).more ((H.got hr2 hb).row _ m0)
  clear hr hr2 hb
  refine ⟨_, rfl, ?_⟩
  refine hK.out _ _ (H.c4 m2 (H.d4 m1)) (fun hQ => ?_)
  clear hK K
  refine nT ?_
  refine pT HT_ 11 17 (bm 15 4095) ?_
  refine pT HT_ 12 18 (bm 15 8191) ?_
  refine lT HT_ 13 (bm 15 16383) (fun K hK => ?_)
  have f4 := H.b4 (g := g4) m0
  have f3 := H.b4 (g := g3) m1
  have f2 := H.b4 (g := g2) m2
  refine kT ?_
  refine hK.out _ _ ?_
  clear hK K
  refine pT HT_ 14 5 (bm 15 32767) ?_
  refine done_ (done_of HT_.out (by kernel_rfl)) ?_
  try clear hQ
  replace H := ((((H.setn [] 0 (.bool (ng rn)) rfl).setn [] 1 (.slice A21 (ln rn) c22) rfl).setn [] 2 (.bool (ng rd)) rfl).setn [] 3 (.slice A23 (ln rd) c24) rfl)
  go_wp2
  refine bodyPost_ret (results_list (rs := [.cell 4 51, .tmp 5]) rfl (by simp) (.cell g4 51 #[.bool (ng rn), .slice A21 (ln rn) c22, .bool (ng rd), .slice A23 (ln rd) c24] (0, 0) _ rfl (H.blk m0) Try.underlying51 rfl (by kernel_rfl) (.tmp .nil))) rfl ?_
  exact ⟨A21, c22, A23, c24, rfl, H.ret m1, H.ret m0, H.below⟩


theorem SubR {A B A' B' : Option Addr} {c k c' k' : Nat} {n d p q : Int} {w : World} {ok : Nat → Prop} (hf : (bw A c n).at w ok) (hg : (bw B k d).at w ok) (hf' : (bw A' c' p).at w ok) (hg' : (bw B' k' q).at w ok) (hn : ln n ≤ 100000) (hd : ln d ≤ 100000) (hp : ln p ≤ 100000) (hq : ln q ≤ 100000) (rn rd : Int) (h : qn (n * dd q + -p * dd d) (dd d * dd q) = rn ∧ qd (n * dd q + -p * dd d) (dd d * dd q) = rd) : Calls Try.prog 53 #[.agg #[.bool (ng n), .slice A (ln n) c, .bool (ng d), .slice B (ln d) k], .agg #[.bool (ng p), .slice A' (ln p) c', .bool (ng q), .slice B' (ln q) k']] w (RetQ w ok rn rd) := by
  have hu25 := Try.underlying25
  have hu51 := Try.underlying51
  have H := ((((Sit.start w ok).arg hf).arg hg).arg hf').arg hg'
  have bn := Aside0.mk hn
  have bd := Aside0.mk hd
  have bp := Aside0.mk hp
  have bq := Aside0.mk hq
  clear hf hg hf' hg' hn hd hp hq
  obtain ⟨np, hnp⟩ : ∃ v : Int, -p = v := ⟨_, rfl⟩
  have bnp := Aside0.mk (bNeg bp.out hnp)
  have hm : qn (n * dd q + np * dd d) (dd d * dd q) = rn ∧ qd (n * dd q + np * dd d) (dd d * dd q) = rd := by rw [← hnp]; exact h
  replace hm := Aside0.mk hm
  clear h
  replace hnp := Aside0.mk hnp
  go_enter Try.func53, Try.ntmps53
  have st2 := trivial
  have st4 := trivial
  have st6 := trivial
  go_upto_region 1 with (first
    | (clear st2; (with_reducible refine gate_dst (N := 2) rfl ?_); refine bE #[.bool (ng n), .slice A (ln n) c, .bool (ng d), .slice B (ln d) k] 51 H ?_; clear H; intro g2 w1 H; have f2 := H.b4 (g := g2) m0)
    | (clear st4; (with_reducible refine gate_dst (N := 3) rfl ?_); refine bE #[.bool (ng p), .slice A' (ln p) c', .bool (ng q), .slice B' (ln q) k'] 51 H ?_; clear H; intro g3 w3 H; clear f2; have f3 := H.b4 (g := g3) m0; have f2 := H.b4 (g := g2) m1; have ne_g3_g2 := H.ne (g := g3) (g' := g2) 0 1 rfl rfl (by decide); have ne_g2_g3 := ne_g3_g2.symm)
    | (clear st6; (with_reducible refine gate_dst (N := 4) rfl ?_); refine bE #[.bool false, .slice none 0 0, .bool false, .slice none 0 0] 51 H ?_; clear H; intro g4 w5 H; clear f3 f2; have f4 := H.b4 (g := g4) m0; have f3 := H.b4 (g := g3) m1; have f2 := H.b4 (g := g2) m2; have ne_g4_g3 := H.ne (g := g4) (g' := g3) 0 1 rfl rfl (by decide); have ne_g3_g4 := ne_g4_g3.symm; have ne_g4_g2 := H.ne (g := g4) (g' := g2) 0 2 rfl rfl (by decide); have ne_g2_g4 := ne_g4_g2.symm))
  (try simp only [nn])
  clear f4 f3 f2
  replace H := H.drew
  refine start_ (n := 5) (S := fun w' => w'.cell? ⟨g2, 0, none⟩ = some (.bool (ng n)) ∧ w'.cell? ⟨g2, 1, none⟩ = some (.slice A (ln n) c) ∧ w'.cell? ⟨g2, 2, none⟩ = some (.bool (ng d)) ∧ w'.cell? ⟨g2, 3, none⟩ = some (.slice B (ln d) k) ∧ w'.cell? ⟨g3, 0, none⟩ = some (.bool (ng p)) ∧ w'.cell? ⟨g3, 1, none⟩ = some (.slice A' (ln p) c') ∧ w'.cell? ⟨g3, 2, none⟩ = some (.bool (ng q)) ∧ w'.cell? ⟨g3, 3, none⟩ = some (.slice B' (ln q) k')) (ds := [4]) #[false, false, false, false, false] (by kernel_rfl) rfl rfl (H.c4 m2 (H.d4 m1)) (fun hQ => ?_)
  generalize w5.drew = w7 at H hQ ⊢
  refine tU hQ 0 5 (bm 5 1) ?_
  refine tU hQ 1 6 (bm 5 3) ?_
  refine oU 2 7 (bm 5 7) (fun K hK => ?_)
  refine gT Try.func51 #[.agg #[.bool (ng p), .slice A' (ln p) c', .bool (ng q), .slice B' (ln q) k']] ?_
  with_reducible refine (NegR (H.row _ m1) (H.row _ m0) (limR bp.out (by decide)) (limR bq.out (by decide)) np q ⟨hnp.out, rfl⟩).mono ?_
  rintro e w8 ⟨A9, c10, A11, c12, rfl, hr, hr2, hb⟩
  replace H := (H.got hr hb).more ((H.got hr2 hb).row _ m0)
  clear hr hr2 hb
  refine ⟨_, rfl, ?_⟩
  refine hK.out _ _ (H.c4 m2 (H.d4 m1)) (fun hQ => ?_)
  clear hK K
  refine nT ?_
  refine oU 3 8 (bm 5 15) (fun K hK => ?_)
  refine gT Try.func41 #[.agg #[.bool (ng n), .slice A (ln n) c, .bool (ng d), .slice B (ln d) k], .agg #[.bool (ng np), .slice A9 (ln np) c10, .bool (ng q), .slice A11 (ln q) c12]] ?_
  with_reducible refine (AddR (H.row _ m5) (H.row _ m4) (H.row _ m1) (H.row _ m0) (limR bn.out (by decide)) (limR bd.out (by decide)) (limR bnp.out (by decide)) (limR bq.out (by decide)) rn rd hm.out).mono ?_
  rintro e w13 ⟨A14, c15, A16, c17, rfl, hr, hr2, hb⟩
  replace H := (H.got hr hb).more ((H.got hr2 hb).row _ m0)
  clear hr hr2 hb
  refine ⟨_, rfl, ?_⟩
  refine hK.out _ _ (H.c4 m2 (H.d4 m1)) (fun hQ => ?_)
  clear hK K
  refine nT ?_
  refine lU 4 (bm 5 31) (fun K hK => ?_)
  have f4 := H.b4 (g := g4) m0
  have f3 := H.b4 (g := g3) m1
  have f2 := H.b4 (g := g2) m2
  refine kT ?_
  refine hK.out _ _ ?_
  clear hK K
  refine done_ (by kernel_rfl) ?_
  try clear hQ
  replace H := ((((H.setn [] 0 (.bool (ng rn)) rfl).setn [] 1 (.slice A14 (ln rn) c15) rfl).setn [] 2 (.bool (ng rd)) rfl).setn [] 3 (.slice A16 (ln rd) c17) rfl)
  go_wp2
  refine bodyPost_ret (results_cell_row rfl _ _ g4 51 #[.bool (ng rn), .slice A14 (ln rn) c15, .bool (ng rd), .slice A16 (ln rd) c17] (0, 0) _ rfl (H.blk m0) Try.underlying51 rfl (by kernel_rfl)) rfl ?_
  exact ⟨A14, c15, A16, c17, rfl, H.ret m1, H.ret m0, H.below⟩


/- rational.Frac, Floor, Ceil, Text; same. -/

theorem dd_ne (d : Int) : dd d ≠ 0 := by unfold dd; split <;> omega
/-- The text of a fraction. -/
def qt (n d : Int) : ByteArray := if dd d = 1 then tx n else tx n ++ ⟨#[47]⟩ ++ tx (dd d)

/-- It returns a fresh fraction and an error's number. -/
def RetQP (w : World) (n d err : Int) (e : Ending) (w' : World) : Prop :=
  ∃ A c B b, e = .returned (.tuple #[.agg #[.bool (ng n), .slice A (ln n) c, .bool (ng d), .slice B (ln d) b], .int .i64 err]) ∧ (bw A c n).at w' (fun k => w.heap.size ≤ k) ∧ (bw B b d).at w' (fun k => w.heap.size ≤ k) ∧ Below w.heap.size w w'


theorem Frac_ok (a b : Int) (rn rd er : Int) (w : World) (a0 : -9223372036854775808 ≤ a) (a1 : a ≤ 9223372036854775807) (b0 : -9223372036854775808 ≤ b) (b1 : b ≤ 9223372036854775807) (h : Aside0 (qn a b = rn ∧ qd a b = rd ∧ qe b = er)) : Calls Try.prog 39 #[.int .i64 a, .int .i64 b] w (RetQP w rn rd er) := by
  have hu25 := Try.underlying25
  have hu51 := Try.underlying51
  have H := Sit.start w (fun _ => False)
  obtain ⟨n, hn⟩ : ∃ v, a = v := ⟨_, rfl⟩
  obtain ⟨d, hd⟩ : ∃ v, b = v := ⟨_, rfl⟩
  have bn := Aside0.mk (show ln n ≤ 2 from bOf (by omega))
  have bd := Aside0.mk (show ln d ≤ 2 from bOf (by omega))
  have hm : qn n d = rn ∧ qd n d = rd ∧ qe d = er := by rw [← hn, ← hd]; exact h.out
  replace hm := Aside0.mk hm
  replace hn := Aside0.mk hn
  replace hd := Aside0.mk hd
  replace a0 := Aside0.mk a0
  replace a1 := Aside0.mk a1
  replace b0 := Aside0.mk b0
  replace b1 := Aside0.mk b1
  go_enter Try.func39, Try.ntmps39
  have st2 := trivial
  have st6 := trivial
  have st10 := trivial
  have st16 := trivial
  go_wp2_with (first
    | (clear st2; (with_reducible refine gate_dst (N := 4) rfl ?_); refine bE #[.bool false, .slice none 0 0, .bool false, .slice none 0 0] 51 H ?_; clear H; intro g4 w1 H; have f4 := H.b4 (g := g4) m0)
    | (clear st6; go_at_call 27; (with_reducible refine (OfQ _ a n hn.out a0.out a1.out).mono ?_); rintro e w3 ⟨A4, c5, rfl, hr, hb⟩; replace H := H.got (fresh_row hr) hb; clear hr hb; clear f4; have f4 := H.b4 (g := g4) m0)
    | (clear st10; go_at_call 27; (with_reducible refine (OfQ _ b d hd.out b0.out b1.out).mono ?_); rintro e w7 ⟨A8, c9, rfl, hr, hb⟩; replace H := H.got (fresh_row hr) hb; clear hr hb; clear f4; have f4 := H.b4 (g := g4) m0)
    | (clear st16; go_at_call 63; (with_reducible refine (MakeQ (H.row _ m1) (H.row _ m0) (lim bn.out (by decide)) (lim bd.out (by decide)) rn rd er hm.out.1 hm.out.2.1 hm.out.2.2).mono ?_); rintro e w11 ⟨A12, c13, A14, c15, rfl, hr, hr2, hb⟩; replace H := (H.got hr hb).more ((H.got hr2 hb).row _ m0); clear hr hr2 hb; clear f4; have f4 := H.b4 (g := g4) m0))
  replace H := ((((H.setn [] 0 (.bool (ng rn)) rfl).setn [] 1 (.slice A12 (ln rn) c13) rfl).setn [] 2 (.bool (ng rd)) rfl).setn [] 3 (.slice A14 (ln rd) c15) rfl)
  refine bodyPost_ret (results_list (rs := [.cell 4 51, .tmp 5]) rfl (by simp) (.cell g4 51 #[.bool (ng rn), .slice A12 (ln rn) c13, .bool (ng rd), .slice A14 (ln rd) c15] (0, 0) _ rfl (H.blk m0) Try.underlying51 rfl (by kernel_rfl) (.tmp .nil))) rfl ?_
  exact ⟨A12, c13, A14, c15, rfl, (H.ret m1).mono (fun k hk => hk.elim (fun h => h.elim) id), (H.ret m0).mono (fun k hk => hk.elim (fun h => h.elim) id), H.below⟩

theorem FracQ (w : World) (a b rn rd er : Int) (h : (qn a b = rn ∧ qd a b = rd ∧ qe b = er) ∧ (-9223372036854775808 ≤ a ∧ a ≤ 9223372036854775807) ∧ (-9223372036854775808 ≤ b ∧ b ≤ 9223372036854775807)) : Calls Try.prog 39 #[.int .i64 a, .int .i64 b] w (RetQP w rn rd er) := Frac_ok a b rn rd er w h.2.1.1 h.2.1.2 h.2.2.1 h.2.2.2 ⟨h.1⟩
/-- The floor of a fraction. -/
def flr (n d : Int) : Int := if sg (n.tmod (dd d)) < 0 then n.tdiv (dd d) - 1 else n.tdiv (dd d)

def tb43.T1 : Bool × List (List Nat × List Nat) := (true, [([], []), ([0], [0]), ([], []), ([2], [2]), ([1, 3, 3], [1, 3]), ([4], [4]), ([5], [5]), ([5], [5]), ([5], [5]), ([], []), ([], []), ([9, 6, 4, 0, 1, 2, 3, 4, 5, 6, 9, 10], [6, 9]), ([10, 7, 11, 0, 1, 2, 3, 4, 5, 6, 7, 9, 10, 11], [7, 10]), ([8, 12, 0, 1, 2, 3, 4, 5, 6, 7, 8, 9, 10, 11, 12], [8])])
def tb43.B1 : List Nat := [0, 1, 0, 4, 15, 31, 63, 63, 63, 0, 0, 1663, 3839, 8191]
theorem tb43.tab1 : rtab .any (opsOf Try.f43 1) = tb43.T1 := by kernel_rfl
theorem tb43.bits1 : waitsOk tb43.T1.2 tb43.B1 = true := by kernel_rfl

theorem FloorR {A B : Option Addr} {c k : Nat} {n d : Int} {w : World} {ok : Nat → Prop} (hf : (bw A c n).at w ok) (hg : (bw B k d).at w ok) (hn : ln n ≤ 100000) (hd : ln d ≤ 100000) (r : Int) (h : flr n d = r) : Calls Try.prog 43 #[.agg #[.bool (ng n), .slice A (ln n) c, .bool (ng d), .slice B (ln d) k]] w (RetI w ok r) := by
  have hu25 := Try.underlying25
  have hu51 := Try.underlying51
  have H := ((Sit.start w ok).arg hf).arg hg
  have bn := Aside0.mk hn
  have bd := Aside0.mk hd
  clear hf hg hn hd
  obtain ⟨e1, he1⟩ : ∃ v : Int, dd d = v := ⟨_, rfl⟩
  have be1 := Aside0.mk (bDd bd.out (by decide) he1)
  obtain ⟨u, hu⟩ : ∃ v : Int, n.tdiv e1 = v := ⟨_, rfl⟩
  have bu := Aside0.mk (bTdiv bn.out hu)
  obtain ⟨v, hv⟩ : ∃ v : Int, n.tmod e1 = v := ⟨_, rfl⟩
  have bv := Aside0.mk (bTmod bn.out hv)
  have he0 := Aside0.mk (show e1 ≠ 0 by rw [← he1]; exact dd_ne d)
  obtain ⟨s, hs⟩ : ∃ z : Int, sg v = z := ⟨_, rfl⟩
  have hr := Aside0.mk (show (if s < 0 then u - 1 else u) = r by rw [← hs, ← hv, ← hu, ← he1]; exact h)
  replace he1 := Aside0.mk he1
  replace hu := Aside0.mk hu
  replace hv := Aside0.mk hv
  replace hs := Aside0.mk hs
  clear h
  go_enter Try.func43, Try.ntmps43
  have st2 := trivial
  have st4 := trivial
  go_upto_region 1 with (first
    | (clear st2; (with_reducible refine gate_dst (N := 1) rfl ?_); refine bE #[.bool (ng n), .slice A (ln n) c, .bool (ng d), .slice B (ln d) k] 51 H ?_; clear H; intro g1 w1 H; have f1 := H.b4 (g := g1) m0)
    | (clear st4; (with_reducible refine gate_dst (N := 2) rfl ?_); refine bE #[.bool false, .slice none 0 0] 25 H ?_; clear H; intro g2 w3 H; clear f1; have f2 := H.b2 (g := g2) m0; have f1 := H.b4 (g := g1) m1; have ne_g2_g1 := H.ne (g := g2) (g' := g1) 0 1 rfl rfl (by decide); have ne_g1_g2 := ne_g2_g1.symm))
  (try simp only [nn])
  clear f2 f1
  replace H := H.drew
  refine start_ (n := 14) (S := fun w' => w'.cell? ⟨g1, 0, none⟩ = some (.bool (ng n)) ∧ w'.cell? ⟨g1, 1, none⟩ = some (.slice A (ln n) c) ∧ w'.cell? ⟨g1, 2, none⟩ = some (.bool (ng d)) ∧ w'.cell? ⟨g1, 3, none⟩ = some (.slice B (ln d) k)) (ds := [11, 12]) #[false, false, false, false, false, false, false, false, false, false, false, false, false, false] (by kernel_rfl) rfl rfl (H.d4 m1) (fun hQ => ?_)
  generalize w3.drew = w5 at H hQ ⊢
  refine with_tabW tb43.tab1 tb43.bits1 (fun HT_ HW_ => ?_)
  refine pT HT_ 0 7 (bm 14 1) ?_
  refine tT HT_ HW_ hQ 1 8 (bm 14 3) ?_
  refine tT HT_ HW_ hQ 2 9 (bm 14 7) ?_
  refine join_ (σ := Option Addr × Nat × Option Addr × Nat × Option Addr × Nat × Nat × Nat) 3 #[true, true, true, true, true, true, true, true, true, true, true, false, false, false] (fun s_ => [(10, .agg #[.bool (ng e1), .slice s_.1 (ln e1) s_.2.1]), (11, .tuple #[.agg #[.bool (ng u), .slice s_.2.2.1 (ln u) s_.2.2.2.1], .agg #[.bool (ng v), .slice s_.2.2.2.2.1 (ln v) s_.2.2.2.2.2.1], .int .i64 0]), (3, .pointer (some ⟨s_.2.2.2.2.2.2.1, 0, none⟩)), (4, .pointer (some ⟨s_.2.2.2.2.2.2.2, 0, none⟩)), (6, .tuple #[.agg #[.bool (ng u), .slice s_.2.2.1 (ln u) s_.2.2.2.1], .agg #[.bool (ng v), .slice s_.2.2.2.2.1 (ln v) s_.2.2.2.2.2.1], .int .i64 0]), (12, .agg #[.bool (ng u), .slice s_.2.2.1 (ln u) s_.2.2.2.1]), (13, .agg #[.bool (ng v), .slice s_.2.2.2.2.1 (ln v) s_.2.2.2.2.2.1]), (14, .int .i64 0)]) (fun s_ w' => Sit w w' ok [(s_.2.2.2.2.2.2.2, .cells #[.bool false, .slice none 0 0] 25 (0, 0)), (s_.2.2.2.2.2.2.1, .cells #[.bool false, .slice none 0 0] 25 (0, 0)), (g2, .cells #[.bool false, .slice none 0 0] 25 (0, 0)), (g1, .cells #[.bool (ng n), .slice A (ln n) c, .bool (ng d), .slice B (ln d) k] 51 (0, 0))] [bw s_.2.2.2.2.1 s_.2.2.2.2.2.1 v, bw s_.2.2.1 s_.2.2.2.1 u, bw s_.1 s_.2.1 e1, bw B k d, bw A c n]) ?_ ?_
  rotate_left
  · intro hCont
    refine three_ (i := 3) (j := 9) (k := 10) (Ni := some 10) (Nj := some 3) (Nk := some 4) (bm 14 15) (bm 14 519) (bm 14 1031) rfl rfl rfl rfl rfl rfl (three_of HT_.out (by kernel_rfl)) (by decide) (by decide) (by decide) (fun K hK => ?_) (fun K hK => ?_) (fun K hK => ?_)
    · skip
      refine gT Try.func47 #[.agg #[.bool (ng n), .slice A (ln n) c, .bool (ng d), .slice B (ln d) k]] ?_
      with_reducible refine (DenQ (H.row _ m1) (H.row _ m0) (limR bn.out (by decide)) (limR bd.out (by decide)) e1 he1.out).mono ?_
      rintro e w26 ⟨A27, c28, rfl, hr, hb⟩
      replace H := H.got hr hb
      clear hr hb
      refine ⟨_, rfl, ?_⟩
      refine hK.out _ _ (H.d4 m1) (fun hQ => ?_)
      clear hK K
      refine nT ?_
      refine three_ (i := 4) (j := 9) (k := 10) (Ni := some 11) (Nj := some 3) (Nk := some 4) (bm 14 31) (bm 14 527) (bm 14 1039) rfl rfl rfl rfl rfl rfl (three_of HT_.out (by kernel_rfl)) (by decide) (by decide) (by decide) (fun K hK => ?_) (fun K hK => ?_) (fun K hK => ?_)
      · skip
        refine gT Try.func32 #[.agg #[.bool (ng n), .slice A (ln n) c], .agg #[.bool (ng e1), .slice A27 (ln e1) c28]] ?_
        with_reducible refine (DivQ (H.row _ m2) (H.row _ m0) (lim bn.out (by decide)) (lim be1.out (by decide)) he0.out u v hu.out hv.out).mono ?_
        rintro e w49 ⟨A50, c51, A52, c53, rfl, hr, hr2, hb⟩
        replace H := (H.got hr hb).more ((H.got hr2 hb).row _ m0)
        clear hr hr2 hb
        refine ⟨_, rfl, ?_⟩
        refine hK.out _ _ (H.d4 m1) (fun hQ => ?_)
        clear hK K
        refine nT ?_
        refine pT HT_ 5 6 (bm 14 63) ?_
        refine pT HT_ 6 12 (bm 14 127) ?_
        refine pT HT_ 7 13 (bm 14 255) ?_
        refine pT HT_ 8 14 (bm 14 511) ?_
        refine two_ (i := 9) (j := 10) (Ni := some 3) (Nj := some 4) (bm 14 1023) (bm 14 1535) rfl rfl rfl rfl (two_of HT_.out (by kernel_rfl)) (by decide) (by decide) (fun K hK => ?_) (fun K hK => ?_)
        · skip
          refine value_ (w1 := ?_) (v := ?_) (by rfl) rfl ?_ ?_
          rotate_left 2
          · go_simp
            constructor
            · rfl
            · rfl
          replace H := H.newbox rfl (blk_new _ (.cells #[.bool false, .slice none 0 0] 25 (0, 0))) (below_alloc (Below.refl _ _) _)
          refine hK.out _ _ (H.d4 m2) (fun hQ => ?_)
          clear hK K
          refine nT ?_
          refine oT HT_ 10 4 (bm 14 2047) (fun K hK => ?_)
          refine value_ (w1 := ?_) (v := ?_) (by rfl) rfl ?_ ?_
          rotate_left 2
          · go_simp
            constructor
            · rfl
            · rfl
          replace H := H.newbox2 (.cells #[.bool false, .slice none 0 0] 25 (0, 0))
          refine hK.out _ _ (H.d4 m3) (fun hQ => ?_)
          clear hK K
          refine nT ?_
          exact norm_ (by simp only [putAll, Act.put, List.setIfInBounds_toArray, List.set_cons_zero, List.set_cons_succ]; try rfl) (hCont ⟨A27, c28, A50, c51, A52, c53, _, _⟩ _ H)
        · skip
          refine value_ (w1 := ?_) (v := ?_) (by rfl) rfl ?_ ?_
          rotate_left 2
          · go_simp
            constructor
            · rfl
            · rfl
          replace H := H.newbox rfl (blk_new _ (.cells #[.bool false, .slice none 0 0] 25 (0, 0))) (below_alloc (Below.refl _ _) _)
          refine hK.out _ _ (H.d4 m2) (fun hQ => ?_)
          clear hK K
          refine nT ?_
          refine oT HT_ 9 3 (bm 14 2047) (fun K hK => ?_)
          refine value_ (w1 := ?_) (v := ?_) (by rfl) rfl ?_ ?_
          rotate_left 2
          · go_simp
            constructor
            · rfl
            · rfl
          replace H := H.newbox2 (.cells #[.bool false, .slice none 0 0] 25 (0, 0))
          refine hK.out _ _ (H.d4 m3) (fun hQ => ?_)
          clear hK K
          refine nT ?_
          exact norm_ (by simp only [putAll, Act.put, List.setIfInBounds_toArray, List.set_cons_zero, List.set_cons_succ]; try rfl) (hCont ⟨A27, c28, A50, c51, A52, c53, _, _⟩ _ (H.perm (.swap _ _ _)))
      · skip
        refine value_ (w1 := ?_) (v := ?_) (by rfl) rfl ?_ ?_
        rotate_left 2
        · go_simp
          constructor
          · rfl
          · rfl
        replace H := H.newbox rfl (blk_new _ (.cells #[.bool false, .slice none 0 0] 25 (0, 0))) (below_alloc (Below.refl _ _) _)
        refine hK.out _ _ (H.d4 m2) (fun hQ => ?_)
        clear hK K
        refine nT ?_
        refine two_ (i := 4) (j := 10) (Ni := some 11) (Nj := some 4) (bm 14 543) (bm 14 1551) rfl rfl rfl rfl (two_of HT_.out (by kernel_rfl)) (by decide) (by decide) (fun K hK => ?_) (fun K hK => ?_)
        · skip
          refine gT Try.func32 #[.agg #[.bool (ng n), .slice A (ln n) c], .agg #[.bool (ng e1), .slice A27 (ln e1) c28]] ?_
          with_reducible refine (DivQ (H.row _ m2) (H.row _ m0) (lim bn.out (by decide)) (lim be1.out (by decide)) he0.out u v hu.out hv.out).mono ?_
          rintro e w49 ⟨A50, c51, A52, c53, rfl, hr, hr2, hb⟩
          replace H := (H.got hr hb).more ((H.got hr2 hb).row _ m0)
          clear hr hr2 hb
          refine ⟨_, rfl, ?_⟩
          refine hK.out _ _ (H.d4 m2) (fun hQ => ?_)
          clear hK K
          refine nT ?_
          refine pT HT_ 5 6 (bm 14 575) ?_
          refine pT HT_ 6 12 (bm 14 639) ?_
          refine pT HT_ 7 13 (bm 14 767) ?_
          refine pT HT_ 8 14 (bm 14 1023) ?_
          refine oT HT_ 10 4 (bm 14 2047) (fun K hK => ?_)
          refine value_ (w1 := ?_) (v := ?_) (by rfl) rfl ?_ ?_
          rotate_left 2
          · go_simp
            constructor
            · rfl
            · rfl
          replace H := H.newbox rfl (blk_new _ (.cells #[.bool false, .slice none 0 0] 25 (0, 0))) (below_alloc (Below.refl _ _) _)
          refine hK.out _ _ (H.d4 m3) (fun hQ => ?_)
          clear hK K
          refine nT ?_
          exact norm_ (by simp only [putAll, Act.put, List.setIfInBounds_toArray, List.set_cons_zero, List.set_cons_succ]; try rfl) (hCont ⟨A27, c28, A50, c51, A52, c53, _, _⟩ _ H)
        · skip
          refine value_ (w1 := ?_) (v := ?_) (by rfl) rfl ?_ ?_
          rotate_left 2
          · go_simp
            constructor
            · rfl
            · rfl
          replace H := H.newbox2 (.cells #[.bool false, .slice none 0 0] 25 (0, 0))
          refine hK.out _ _ (H.d4 m3) (fun hQ => ?_)
          clear hK K
          refine nT ?_
          refine oT HT_ 4 11 (bm 14 1567) (fun K hK => ?_)
          refine gT Try.func32 #[.agg #[.bool (ng n), .slice A (ln n) c], .agg #[.bool (ng e1), .slice A27 (ln e1) c28]] ?_
          with_reducible refine (DivQ (H.row _ m2) (H.row _ m0) (lim bn.out (by decide)) (lim be1.out (by decide)) he0.out u v hu.out hv.out).mono ?_
          rintro e w49 ⟨A50, c51, A52, c53, rfl, hr, hr2, hb⟩
          replace H := (H.got hr hb).more ((H.got hr2 hb).row _ m0)
          clear hr hr2 hb
          refine ⟨_, rfl, ?_⟩
          refine hK.out _ _ (H.d4 m3) (fun hQ => ?_)
          clear hK K
          refine nT ?_
          refine pT HT_ 5 6 (bm 14 1599) ?_
          refine pT HT_ 6 12 (bm 14 1663) ?_
          refine pT HT_ 7 13 (bm 14 1791) ?_
          refine pT HT_ 8 14 (bm 14 2047) ?_
          exact norm_ (by simp only [putAll, Act.put, List.setIfInBounds_toArray, List.set_cons_zero, List.set_cons_succ]; try rfl) (hCont ⟨A27, c28, A50, c51, A52, c53, _, _⟩ _ H)
      · skip
        refine value_ (w1 := ?_) (v := ?_) (by rfl) rfl ?_ ?_
        rotate_left 2
        · go_simp
          constructor
          · rfl
          · rfl
        replace H := H.newbox rfl (blk_new _ (.cells #[.bool false, .slice none 0 0] 25 (0, 0))) (below_alloc (Below.refl _ _) _)
        refine hK.out _ _ (H.d4 m2) (fun hQ => ?_)
        clear hK K
        refine nT ?_
        refine two_ (i := 4) (j := 9) (Ni := some 11) (Nj := some 3) (bm 14 1055) (bm 14 1551) rfl rfl rfl rfl (two_of HT_.out (by kernel_rfl)) (by decide) (by decide) (fun K hK => ?_) (fun K hK => ?_)
        · skip
          refine gT Try.func32 #[.agg #[.bool (ng n), .slice A (ln n) c], .agg #[.bool (ng e1), .slice A27 (ln e1) c28]] ?_
          with_reducible refine (DivQ (H.row _ m2) (H.row _ m0) (lim bn.out (by decide)) (lim be1.out (by decide)) he0.out u v hu.out hv.out).mono ?_
          rintro e w49 ⟨A50, c51, A52, c53, rfl, hr, hr2, hb⟩
          replace H := (H.got hr hb).more ((H.got hr2 hb).row _ m0)
          clear hr hr2 hb
          refine ⟨_, rfl, ?_⟩
          refine hK.out _ _ (H.d4 m2) (fun hQ => ?_)
          clear hK K
          refine nT ?_
          refine pT HT_ 5 6 (bm 14 1087) ?_
          refine pT HT_ 6 12 (bm 14 1151) ?_
          refine pT HT_ 7 13 (bm 14 1279) ?_
          refine pT HT_ 8 14 (bm 14 1535) ?_
          refine oT HT_ 9 3 (bm 14 2047) (fun K hK => ?_)
          refine value_ (w1 := ?_) (v := ?_) (by rfl) rfl ?_ ?_
          rotate_left 2
          · go_simp
            constructor
            · rfl
            · rfl
          replace H := H.newbox rfl (blk_new _ (.cells #[.bool false, .slice none 0 0] 25 (0, 0))) (below_alloc (Below.refl _ _) _)
          refine hK.out _ _ (H.d4 m3) (fun hQ => ?_)
          clear hK K
          refine nT ?_
          exact norm_ (by simp only [putAll, Act.put, List.setIfInBounds_toArray, List.set_cons_zero, List.set_cons_succ]; try rfl) (hCont ⟨A27, c28, A50, c51, A52, c53, _, _⟩ _ (H.perm (.swap _ _ _)))
        · skip
          refine value_ (w1 := ?_) (v := ?_) (by rfl) rfl ?_ ?_
          rotate_left 2
          · go_simp
            constructor
            · rfl
            · rfl
          replace H := H.newbox2 (.cells #[.bool false, .slice none 0 0] 25 (0, 0))
          refine hK.out _ _ (H.d4 m3) (fun hQ => ?_)
          clear hK K
          refine nT ?_
          refine oT HT_ 4 11 (bm 14 1567) (fun K hK => ?_)
          refine gT Try.func32 #[.agg #[.bool (ng n), .slice A (ln n) c], .agg #[.bool (ng e1), .slice A27 (ln e1) c28]] ?_
          with_reducible refine (DivQ (H.row _ m2) (H.row _ m0) (lim bn.out (by decide)) (lim be1.out (by decide)) he0.out u v hu.out hv.out).mono ?_
          rintro e w49 ⟨A50, c51, A52, c53, rfl, hr, hr2, hb⟩
          replace H := (H.got hr hb).more ((H.got hr2 hb).row _ m0)
          clear hr hr2 hb
          refine ⟨_, rfl, ?_⟩
          refine hK.out _ _ (H.d4 m3) (fun hQ => ?_)
          clear hK K
          refine nT ?_
          refine pT HT_ 5 6 (bm 14 1599) ?_
          refine pT HT_ 6 12 (bm 14 1663) ?_
          refine pT HT_ 7 13 (bm 14 1791) ?_
          refine pT HT_ 8 14 (bm 14 2047) ?_
          exact norm_ (by simp only [putAll, Act.put, List.setIfInBounds_toArray, List.set_cons_zero, List.set_cons_succ]; try rfl) (hCont ⟨A27, c28, A50, c51, A52, c53, _, _⟩ _ (H.perm (.swap _ _ _)))
    · skip
      refine value_ (w1 := ?_) (v := ?_) (by rfl) rfl ?_ ?_
      rotate_left 2
      · go_simp
        constructor
        · rfl
        · rfl
      replace H := H.newbox rfl (blk_new _ (.cells #[.bool false, .slice none 0 0] 25 (0, 0))) (below_alloc (Below.refl _ _) _)
      refine hK.out _ _ (H.d4 m2) (fun hQ => ?_)
      clear hK K
      refine nT ?_
      refine two_ (i := 3) (j := 10) (Ni := some 10) (Nj := some 4) (bm 14 527) (bm 14 1543) rfl rfl rfl rfl (two_of HT_.out (by kernel_rfl)) (by decide) (by decide) (fun K hK => ?_) (fun K hK => ?_)
      · skip
        refine gT Try.func47 #[.agg #[.bool (ng n), .slice A (ln n) c, .bool (ng d), .slice B (ln d) k]] ?_
        with_reducible refine (DenQ (H.row _ m1) (H.row _ m0) (limR bn.out (by decide)) (limR bd.out (by decide)) e1 he1.out).mono ?_
        rintro e w26 ⟨A27, c28, rfl, hr, hb⟩
        replace H := H.got hr hb
        clear hr hb
        refine ⟨_, rfl, ?_⟩
        refine hK.out _ _ (H.d4 m2) (fun hQ => ?_)
        clear hK K
        refine nT ?_
        refine two_ (i := 4) (j := 10) (Ni := some 11) (Nj := some 4) (bm 14 543) (bm 14 1551) rfl rfl rfl rfl (two_of HT_.out (by kernel_rfl)) (by decide) (by decide) (fun K hK => ?_) (fun K hK => ?_)
        · skip
          refine gT Try.func32 #[.agg #[.bool (ng n), .slice A (ln n) c], .agg #[.bool (ng e1), .slice A27 (ln e1) c28]] ?_
          with_reducible refine (DivQ (H.row _ m2) (H.row _ m0) (lim bn.out (by decide)) (lim be1.out (by decide)) he0.out u v hu.out hv.out).mono ?_
          rintro e w49 ⟨A50, c51, A52, c53, rfl, hr, hr2, hb⟩
          replace H := (H.got hr hb).more ((H.got hr2 hb).row _ m0)
          clear hr hr2 hb
          refine ⟨_, rfl, ?_⟩
          refine hK.out _ _ (H.d4 m2) (fun hQ => ?_)
          clear hK K
          refine nT ?_
          refine pT HT_ 5 6 (bm 14 575) ?_
          refine pT HT_ 6 12 (bm 14 639) ?_
          refine pT HT_ 7 13 (bm 14 767) ?_
          refine pT HT_ 8 14 (bm 14 1023) ?_
          refine oT HT_ 10 4 (bm 14 2047) (fun K hK => ?_)
          refine value_ (w1 := ?_) (v := ?_) (by rfl) rfl ?_ ?_
          rotate_left 2
          · go_simp
            constructor
            · rfl
            · rfl
          replace H := H.newbox rfl (blk_new _ (.cells #[.bool false, .slice none 0 0] 25 (0, 0))) (below_alloc (Below.refl _ _) _)
          refine hK.out _ _ (H.d4 m3) (fun hQ => ?_)
          clear hK K
          refine nT ?_
          exact norm_ (by simp only [putAll, Act.put, List.setIfInBounds_toArray, List.set_cons_zero, List.set_cons_succ]; try rfl) (hCont ⟨A27, c28, A50, c51, A52, c53, _, _⟩ _ H)
        · skip
          refine value_ (w1 := ?_) (v := ?_) (by rfl) rfl ?_ ?_
          rotate_left 2
          · go_simp
            constructor
            · rfl
            · rfl
          replace H := H.newbox rfl (blk_new _ (.cells #[.bool false, .slice none 0 0] 25 (0, 0))) (below_alloc (Below.refl _ _) _)
          refine hK.out _ _ (H.d4 m3) (fun hQ => ?_)
          clear hK K
          refine nT ?_
          refine oT HT_ 4 11 (bm 14 1567) (fun K hK => ?_)
          refine gT Try.func32 #[.agg #[.bool (ng n), .slice A (ln n) c], .agg #[.bool (ng e1), .slice A27 (ln e1) c28]] ?_
          with_reducible refine (DivQ (H.row _ m2) (H.row _ m0) (lim bn.out (by decide)) (lim be1.out (by decide)) he0.out u v hu.out hv.out).mono ?_
          rintro e w49 ⟨A50, c51, A52, c53, rfl, hr, hr2, hb⟩
          replace H := (H.got hr hb).more ((H.got hr2 hb).row _ m0)
          clear hr hr2 hb
          refine ⟨_, rfl, ?_⟩
          refine hK.out _ _ (H.d4 m3) (fun hQ => ?_)
          clear hK K
          refine nT ?_
          refine pT HT_ 5 6 (bm 14 1599) ?_
          refine pT HT_ 6 12 (bm 14 1663) ?_
          refine pT HT_ 7 13 (bm 14 1791) ?_
          refine pT HT_ 8 14 (bm 14 2047) ?_
          exact norm_ (by simp only [putAll, Act.put, List.setIfInBounds_toArray, List.set_cons_zero, List.set_cons_succ]; try rfl) (hCont ⟨A27, c28, A50, c51, A52, c53, _, _⟩ _ H)
      · skip
        refine value_ (w1 := ?_) (v := ?_) (by rfl) rfl ?_ ?_
        rotate_left 2
        · go_simp
          constructor
          · rfl
          · rfl
        replace H := H.newbox2 (.cells #[.bool false, .slice none 0 0] 25 (0, 0))
        refine hK.out _ _ (H.d4 m3) (fun hQ => ?_)
        clear hK K
        refine nT ?_
        refine oT HT_ 3 10 (bm 14 1551) (fun K hK => ?_)
        refine gT Try.func47 #[.agg #[.bool (ng n), .slice A (ln n) c, .bool (ng d), .slice B (ln d) k]] ?_
        with_reducible refine (DenQ (H.row _ m1) (H.row _ m0) (limR bn.out (by decide)) (limR bd.out (by decide)) e1 he1.out).mono ?_
        rintro e w26 ⟨A27, c28, rfl, hr, hb⟩
        replace H := H.got hr hb
        clear hr hb
        refine ⟨_, rfl, ?_⟩
        refine hK.out _ _ (H.d4 m3) (fun hQ => ?_)
        clear hK K
        refine nT ?_
        refine oT HT_ 4 11 (bm 14 1567) (fun K hK => ?_)
        refine gT Try.func32 #[.agg #[.bool (ng n), .slice A (ln n) c], .agg #[.bool (ng e1), .slice A27 (ln e1) c28]] ?_
        with_reducible refine (DivQ (H.row _ m2) (H.row _ m0) (lim bn.out (by decide)) (lim be1.out (by decide)) he0.out u v hu.out hv.out).mono ?_
        rintro e w49 ⟨A50, c51, A52, c53, rfl, hr, hr2, hb⟩
        replace H := (H.got hr hb).more ((H.got hr2 hb).row _ m0)
        clear hr hr2 hb
        refine ⟨_, rfl, ?_⟩
        refine hK.out _ _ (H.d4 m3) (fun hQ => ?_)
        clear hK K
        refine nT ?_
        refine pT HT_ 5 6 (bm 14 1599) ?_
        refine pT HT_ 6 12 (bm 14 1663) ?_
        refine pT HT_ 7 13 (bm 14 1791) ?_
        refine pT HT_ 8 14 (bm 14 2047) ?_
        exact norm_ (by simp only [putAll, Act.put, List.setIfInBounds_toArray, List.set_cons_zero, List.set_cons_succ]; try rfl) (hCont ⟨A27, c28, A50, c51, A52, c53, _, _⟩ _ H)
    · skip
      refine value_ (w1 := ?_) (v := ?_) (by rfl) rfl ?_ ?_
      rotate_left 2
      · go_simp
        constructor
        · rfl
        · rfl
      replace H := H.newbox rfl (blk_new _ (.cells #[.bool false, .slice none 0 0] 25 (0, 0))) (below_alloc (Below.refl _ _) _)
      refine hK.out _ _ (H.d4 m2) (fun hQ => ?_)
      clear hK K
      refine nT ?_
      refine two_ (i := 3) (j := 9) (Ni := some 10) (Nj := some 3) (bm 14 1039) (bm 14 1543) rfl rfl rfl rfl (two_of HT_.out (by kernel_rfl)) (by decide) (by decide) (fun K hK => ?_) (fun K hK => ?_)
      · skip
        refine gT Try.func47 #[.agg #[.bool (ng n), .slice A (ln n) c, .bool (ng d), .slice B (ln d) k]] ?_
        with_reducible refine (DenQ (H.row _ m1) (H.row _ m0) (limR bn.out (by decide)) (limR bd.out (by decide)) e1 he1.out).mono ?_
        rintro e w26 ⟨A27, c28, rfl, hr, hb⟩
        replace H := H.got hr hb
        clear hr hb
        refine ⟨_, rfl, ?_⟩
        refine hK.out _ _ (H.d4 m2) (fun hQ => ?_)
        clear hK K
        refine nT ?_
        refine two_ (i := 4) (j := 9) (Ni := some 11) (Nj := some 3) (bm 14 1055) (bm 14 1551) rfl rfl rfl rfl (two_of HT_.out (by kernel_rfl)) (by decide) (by decide) (fun K hK => ?_) (fun K hK => ?_)
        · skip
          refine gT Try.func32 #[.agg #[.bool (ng n), .slice A (ln n) c], .agg #[.bool (ng e1), .slice A27 (ln e1) c28]] ?_
          with_reducible refine (DivQ (H.row _ m2) (H.row _ m0) (lim bn.out (by decide)) (lim be1.out (by decide)) he0.out u v hu.out hv.out).mono ?_
          rintro e w49 ⟨A50, c51, A52, c53, rfl, hr, hr2, hb⟩
          replace H := (H.got hr hb).more ((H.got hr2 hb).row _ m0)
          clear hr hr2 hb
          refine ⟨_, rfl, ?_⟩
          refine hK.out _ _ (H.d4 m2) (fun hQ => ?_)
          clear hK K
          refine nT ?_
          refine pT HT_ 5 6 (bm 14 1087) ?_
          refine pT HT_ 6 12 (bm 14 1151) ?_
          refine pT HT_ 7 13 (bm 14 1279) ?_
          refine pT HT_ 8 14 (bm 14 1535) ?_
          refine oT HT_ 9 3 (bm 14 2047) (fun K hK => ?_)
          refine value_ (w1 := ?_) (v := ?_) (by rfl) rfl ?_ ?_
          rotate_left 2
          · go_simp
            constructor
            · rfl
            · rfl
          replace H := H.newbox rfl (blk_new _ (.cells #[.bool false, .slice none 0 0] 25 (0, 0))) (below_alloc (Below.refl _ _) _)
          refine hK.out _ _ (H.d4 m3) (fun hQ => ?_)
          clear hK K
          refine nT ?_
          exact norm_ (by simp only [putAll, Act.put, List.setIfInBounds_toArray, List.set_cons_zero, List.set_cons_succ]; try rfl) (hCont ⟨A27, c28, A50, c51, A52, c53, _, _⟩ _ (H.perm (.swap _ _ _)))
        · skip
          refine value_ (w1 := ?_) (v := ?_) (by rfl) rfl ?_ ?_
          rotate_left 2
          · go_simp
            constructor
            · rfl
            · rfl
          replace H := H.newbox rfl (blk_new _ (.cells #[.bool false, .slice none 0 0] 25 (0, 0))) (below_alloc (Below.refl _ _) _)
          refine hK.out _ _ (H.d4 m3) (fun hQ => ?_)
          clear hK K
          refine nT ?_
          refine oT HT_ 4 11 (bm 14 1567) (fun K hK => ?_)
          refine gT Try.func32 #[.agg #[.bool (ng n), .slice A (ln n) c], .agg #[.bool (ng e1), .slice A27 (ln e1) c28]] ?_
          with_reducible refine (DivQ (H.row _ m2) (H.row _ m0) (lim bn.out (by decide)) (lim be1.out (by decide)) he0.out u v hu.out hv.out).mono ?_
          rintro e w49 ⟨A50, c51, A52, c53, rfl, hr, hr2, hb⟩
          replace H := (H.got hr hb).more ((H.got hr2 hb).row _ m0)
          clear hr hr2 hb
          refine ⟨_, rfl, ?_⟩
          refine hK.out _ _ (H.d4 m3) (fun hQ => ?_)
          clear hK K
          refine nT ?_
          refine pT HT_ 5 6 (bm 14 1599) ?_
          refine pT HT_ 6 12 (bm 14 1663) ?_
          refine pT HT_ 7 13 (bm 14 1791) ?_
          refine pT HT_ 8 14 (bm 14 2047) ?_
          exact norm_ (by simp only [putAll, Act.put, List.setIfInBounds_toArray, List.set_cons_zero, List.set_cons_succ]; try rfl) (hCont ⟨A27, c28, A50, c51, A52, c53, _, _⟩ _ (H.perm (.swap _ _ _)))
      · skip
        refine value_ (w1 := ?_) (v := ?_) (by rfl) rfl ?_ ?_
        rotate_left 2
        · go_simp
          constructor
          · rfl
          · rfl
        replace H := H.newbox2 (.cells #[.bool false, .slice none 0 0] 25 (0, 0))
        refine hK.out _ _ (H.d4 m3) (fun hQ => ?_)
        clear hK K
        refine nT ?_
        refine oT HT_ 3 10 (bm 14 1551) (fun K hK => ?_)
        refine gT Try.func47 #[.agg #[.bool (ng n), .slice A (ln n) c, .bool (ng d), .slice B (ln d) k]] ?_
        with_reducible refine (DenQ (H.row _ m1) (H.row _ m0) (limR bn.out (by decide)) (limR bd.out (by decide)) e1 he1.out).mono ?_
        rintro e w26 ⟨A27, c28, rfl, hr, hb⟩
        replace H := H.got hr hb
        clear hr hb
        refine ⟨_, rfl, ?_⟩
        refine hK.out _ _ (H.d4 m3) (fun hQ => ?_)
        clear hK K
        refine nT ?_
        refine oT HT_ 4 11 (bm 14 1567) (fun K hK => ?_)
        refine gT Try.func32 #[.agg #[.bool (ng n), .slice A (ln n) c], .agg #[.bool (ng e1), .slice A27 (ln e1) c28]] ?_
        with_reducible refine (DivQ (H.row _ m2) (H.row _ m0) (lim bn.out (by decide)) (lim be1.out (by decide)) he0.out u v hu.out hv.out).mono ?_
        rintro e w49 ⟨A50, c51, A52, c53, rfl, hr, hr2, hb⟩
        replace H := (H.got hr hb).more ((H.got hr2 hb).row _ m0)
        clear hr hr2 hb
        refine ⟨_, rfl, ?_⟩
        refine hK.out _ _ (H.d4 m3) (fun hQ => ?_)
        clear hK K
        refine nT ?_
        refine pT HT_ 5 6 (bm 14 1599) ?_
        refine pT HT_ 6 12 (bm 14 1663) ?_
        refine pT HT_ 7 13 (bm 14 1791) ?_
        refine pT HT_ 8 14 (bm 14 2047) ?_
        exact norm_ (by simp only [putAll, Act.put, List.setIfInBounds_toArray, List.set_cons_zero, List.set_cons_succ]; try rfl) (hCont ⟨A27, c28, A50, c51, A52, c53, _, _⟩ _ (H.perm (.swap _ _ _)))
  rintro ⟨A27, c28, A50, c51, A52, c53, g3, g4⟩ wF H
  clear hQ
  have hQ := (show wF.cell? ⟨g1, 0, none⟩ = some (.bool (ng n)) ∧ wF.cell? ⟨g1, 1, none⟩ = some (.slice A (ln n) c) ∧ wF.cell? ⟨g1, 2, none⟩ = some (.bool (ng d)) ∧ wF.cell? ⟨g1, 3, none⟩ = some (.slice B (ln d) k) from (H.d4 m3))
  refine norm_ (a' := ?_) ?_ ?_
  rotate_left
  · simp only [putAll, Act.put, List.setIfInBounds_toArray, List.set_cons_zero, List.set_cons_succ]
    rfl
  refine lT HT_ 11 (bm 14 4095) (fun K hK => ?_)
  have f4 := H.b2 (g := g4) m0
  have f3 := H.b2 (g := g3) m1
  have f1 := H.b4 (g := g1) m3
  have nez114 := H.ne (g := g3) (g' := g4) 1 0 rfl rfl (by decide)
  have nez114' := nez114.symm
  refine kT ?_
  refine hK.out _ _ ?_
  clear hK K
  refine lT HT_ 12 (bm 14 8191) (fun K hK => ?_)
  refine kT ?_
  refine hK.out _ _ ?_
  clear hK K
  refine pT HT_ 13 5 (bm 14 16383) ?_
  refine done_ (done_of HT_.out (by kernel_rfl)) ?_
  try clear hQ
  replace H := ((((H.setn [_] 0 (.bool (ng u)) rfl).setn [_] 1 (.slice A50 (ln u) c51) rfl).setn [] 0 (.bool (ng v)) rfl).setn [] 1 (.slice A52 (ln v) c53) rfl)
  clear f4 f3 f1
  generalize ((((wF.setCell ⟨g3, 0, none⟩ (.bool (ng u))).setCell ⟨g3, 1, none⟩ (.slice A50 (ln u) c51)).setCell ⟨g4, 0, none⟩ (.bool (ng v))).setCell ⟨g4, 1, none⟩ (.slice A52 (ln v) c53)) = w115 at H ⊢
  have f4 := H.b2 (g := g4) m0
  have f3 := H.b2 (g := g3) m1
  have f2 := H.b2 (g := g2) m2
  have f1 := H.b4 (g := g1) m3
  by_cases s0 : s < 0
  · have d1 : decide (s < 0) = true := decide_eq_true s0
    obtain ⟨i, hi⟩ : ∃ v : Int, (1 : Int) = v := ⟨_, rfl⟩
    have bi := Aside0.mk (show ln i ≤ 1 from ln_bound i 1 (by omega))
    have hf2 := Aside0.mk (show u - i = r by rw [← hi, ← hr.out, if_pos s0])
    replace hi := Aside0.mk hi
    clear s0
    have st117 := trivial
    go_upto_region 3 with (first
      | (clear st117; go_at_call 25; (with_reducible refine (SignQ _ _ _ (lim bv.out (by decide)) s hs.out).mono ?_); rintro e w116 ⟨rfl, hb⟩; replace H := H.call hb; clear hb; clear f4 f3 f2 f1; have f4 := H.b2 (g := g4) m0; have f3 := H.b2 (g := g3) m1; have f2 := H.b2 (g := g2) m2; have f1 := H.b4 (g := g1) m3))
    (try simp only [nn])
    clear f4 f3 f2 f1
    replace H := H.drew
    refine start_ (n := 4) (S := fun w' => w'.cell? ⟨g3, 0, none⟩ = some (.bool (ng u)) ∧ w'.cell? ⟨g3, 1, none⟩ = some (.slice A50 (ln u) c51)) (ds := [3]) #[false, false, false, false] (by kernel_rfl) rfl rfl (H.d2 m1) (fun hQ => ?_)
    generalize w116.drew = w118 at H hQ ⊢
    refine tU hQ 0 18 (bm 4 1) ?_
    refine oU 1 19 (bm 4 3) (fun K hK => ?_)
    refine gT Try.func27 #[.int .i64 1] ?_
    with_reducible refine (OfQ _ 1 i hi.out (by decide) (by decide)).mono ?_
    rintro e w119 ⟨A120, c121, rfl, hr, hb⟩
    replace H := H.got (fresh_row hr) hb
    clear hr hb
    refine ⟨_, rfl, ?_⟩
    refine hK.out _ _ (H.d2 m1) (fun hQ => ?_)
    clear hK K
    refine nT ?_
    refine oU 2 20 (bm 4 7) (fun K hK => ?_)
    refine gT Try.func30 #[.agg #[.bool (ng u), .slice A50 (ln u) c51], .agg #[.bool (ng i), .slice A120 (ln i) c121]] ?_
    with_reducible refine (SubQ (H.row _ m2) (H.row _ m0) (lim bu.out (by decide)) (lim bi.out (by decide)) r hf2.out).mono ?_
    rintro e w122 ⟨A123, c124, rfl, hr, hb⟩
    replace H := H.got hr hb
    clear hr hb
    refine ⟨_, rfl, ?_⟩
    refine hK.out _ _ (H.d2 m1) (fun hQ => ?_)
    clear hK K
    refine nT ?_
    refine lU 3 (bm 4 15) (fun K hK => ?_)
    have f3 := H.b2 (g := g3) m1
    refine kT ?_
    refine hK.out _ _ ?_
    clear hK K
    refine done_ (by kernel_rfl) ?_
    try clear hQ
    replace H := ((H.setn [_] 0 (.bool (ng r)) rfl).setn [_] 1 (.slice A123 (ln r) c124) rfl)
    clear f3
    generalize ((w122.setCell ⟨g3, 0, none⟩ (.bool (ng r))).setCell ⟨g3, 1, none⟩ (.slice A123 (ln r) c124)) = w125 at H ⊢
    have f4 := H.b2 (g := g4) m0
    have f3 := H.b2 (g := g3) m1
    have f2 := H.b2 (g := g2) m2
    have f1 := H.b4 (g := g1) m3
    go_wp2
    replace H := ((H.setn [_, _] 0 (.bool (ng r)) rfl).setn [_, _] 1 (.slice A123 (ln r) c124) rfl)
    refine bodyPost_ret (results_cell_row rfl _ _ g2 25 #[.bool (ng r), .slice A123 (ln r) c124] (0, 0) _ rfl (H.blk m2) Try.underlying25 rfl (by kernel_rfl)) rfl ?_
    exact ⟨A123, c124, rfl, H.ret m0, H.below⟩
  · have d1 : decide (s < 0) = false := decide_eq_false s0
    have hf2 := Aside0.mk (show u = r by rw [← hr.out, if_neg s0])
    clear s0
    have st127 := trivial
    go_wp2_with (first
      | (clear st127; go_at_call 25; (with_reducible refine (SignQ _ _ _ (lim bv.out (by decide)) s hs.out).mono ?_); rintro e w126 ⟨rfl, hb⟩; replace H := H.call hb; clear hb; clear f4 f3 f2 f1; have f4 := H.b2 (g := g4) m0; have f3 := H.b2 (g := g3) m1; have f2 := H.b2 (g := g2) m2; have f1 := H.b4 (g := g1) m3))
    replace H := ((H.setn [_, _] 0 (.bool (ng u)) rfl).setn [_, _] 1 (.slice A50 (ln u) c51) rfl)
    obtain rfl := hf2.out
    refine bodyPost_ret (results_cell_row rfl _ _ g2 25 #[.bool (ng u), .slice A50 (ln u) c51] (0, 0) _ rfl (H.blk m2) Try.underlying25 rfl (by kernel_rfl)) rfl ?_
    exact ⟨A50, c51, rfl, H.ret m1, H.below⟩


/- rational.Floor, Ceil, Text; same. -/


theorem bFlr {n d r : Int} {a : Nat} (hn : ln n ≤ a) (h : flr n d = r) : ln r ≤ a + 1 := by
  unfold flr at h
  split at h
  · have h1 := bTdiv hn (rfl : n.tdiv (dd d) = _)
    have h2 : ln 1 ≤ 0 + 1 := ln_bound 1 1 (by decide)
    by_cases ha : a = 0
    · subst ha
      have : n.tdiv (dd d) = 0 := by
        by_cases h0 : n.tdiv (dd d) = 0
        · exact h0
        · have := ln_pos h0; omega
      rw [this] at h
      subst h
      exact ln_bound _ 1 (by decide)
    · have h3 := bSub h1 h2 h
      omega
  · exact Nat.le_succ_of_le (bTdiv hn h)


theorem CeilR {A B : Option Addr} {c k : Nat} {n d : Int} {w : World} {ok : Nat → Prop} (hf : (bw A c n).at w ok) (hg : (bw B k d).at w ok) (hn : ln n ≤ 100000) (hd : ln d ≤ 100000) (r : Int) (h : -(flr (-n) d) = r) : Calls Try.prog 48 #[.agg #[.bool (ng n), .slice A (ln n) c, .bool (ng d), .slice B (ln d) k]] w (RetI w ok r) := by
  have hu25 := Try.underlying25
  have hu51 := Try.underlying51
  have H := ((Sit.start w ok).arg hf).arg hg
  have bn := Aside0.mk hn
  have bd := Aside0.mk hd
  clear hf hg hn hd
  obtain ⟨u, hu⟩ : ∃ v : Int, -n = v := ⟨_, rfl⟩
  have bu := Aside0.mk (bNeg bn.out hu)
  obtain ⟨v, hv⟩ : ∃ v : Int, flr u d = v := ⟨_, rfl⟩
  have bv := Aside0.mk (bFlr bu.out hv)
  have hr := Aside0.mk (show -v = r by rw [← hv, ← hu]; exact h)
  clear h
  replace hu := Aside0.mk hu
  replace hv := Aside0.mk hv
  go_enter Try.func48, Try.ntmps48
  have st2 := trivial
  have st4 := trivial
  have st10 := trivial
  have st14 := trivial
  have st18 := trivial
  go_wp2_with (first
    | (clear st2; (with_reducible refine gate_dst (N := 1) rfl ?_); refine bE #[.bool (ng n), .slice A (ln n) c, .bool (ng d), .slice B (ln d) k] 51 H ?_; clear H; intro g1 w1 H; have f1 := H.b4 (g := g1) m0)
    | (clear st4; (with_reducible refine gate_dst (N := 2) rfl ?_); refine bE #[.bool false, .slice none 0 0] 25 H ?_; clear H; intro g2 w3 H; clear f1; have f2 := H.b2 (g := g2) m0; have f1 := H.b4 (g := g1) m1; have ne_g2_g1 := H.ne (g := g2) (g' := g1) 0 1 rfl rfl (by decide); have ne_g1_g2 := ne_g2_g1.symm)
    | (clear st10; go_at_call 51; (with_reducible refine (NegR (H.row _ m1) (H.row _ m0) (limR bn.out (by decide)) (limR bd.out (by decide)) u d ⟨hu.out, rfl⟩).mono ?_); rintro e w5 ⟨A6, c7, A8, c9, rfl, hr, hr2, hb⟩; replace H := (H.got hr hb).more ((H.got hr2 hb).row _ m0); clear hr hr2 hb; clear f2 f1; have f2 := H.b2 (g := g2) m0; have f1 := H.b4 (g := g1) m1)
    | (clear st14; go_at_call 43; (with_reducible refine (FloorR (H.row _ m1) (H.row _ m0) (limR bu.out (by decide)) (limR bd.out (by decide)) v hv.out).mono ?_); rintro e w11 ⟨A12, c13, rfl, hr, hb⟩; replace H := H.got hr hb; clear hr hb; clear f2 f1; have f2 := H.b2 (g := g2) m0; have f1 := H.b4 (g := g1) m1)
    | (clear st18; go_at_call 37; (with_reducible refine (NegQ (H.row _ m0) (lim bv.out (by decide)) r hr.out).mono ?_); rintro e w15 ⟨A16, c17, rfl, hr, hb⟩; replace H := H.got hr hb; clear hr hb; clear f2 f1; have f2 := H.b2 (g := g2) m0; have f1 := H.b4 (g := g1) m1))
  replace H := ((H.setn [] 0 (.bool (ng r)) rfl).setn [] 1 (.slice A16 (ln r) c17) rfl)
  refine bodyPost_ret (results_cell_row rfl _ _ g2 25 #[.bool (ng r), .slice A16 (ln r) c17] (0, 0) _ rfl (H.blk m0) Try.underlying25 rfl (by kernel_rfl)) rfl ?_
  exact ⟨A16, c17, rfl, H.ret m0, H.below⟩

theorem tx_size (m : Int) : (tx m).size ≤ 10 * ln m + 2 := by
  have h : (tx m).size = (txt m).length := by unfold tx strOfNums; simp [ByteArray.size]
  have h1 := dg10_len m.natAbs (ln m) (Nat.le_refl _)
  rw [h]
  unfold txt
  split
  · simp only [List.length_cons, List.length_nil]; omega
  · rw [List.length_append, List.length_reverse]
    have h2 : (c48 (dg 10 m.natAbs)).length = (dg 10 m.natAbs).length := by simp [c48]
    rw [h2]
    split <;> simp only [List.length_cons, List.length_nil] <;> omega
theorem cmp3_bne_f {x y k : Int} (h : x = y) (hk : cmp3 x y = k) : (k != 0) = false := by rw [← hk, cmp3_eq h]; rfl
theorem cmp3_bne_t {x y k : Int} (h : x ≠ y) (hk : cmp3 x y = k) : (k != 0) = true := by
  subst hk
  unfold cmp3
  by_cases h1 : x < y
  · rw [if_pos h1]; decide
  · rw [if_neg h1, if_pos (by omega)]; decide


theorem Text_1 {A B : Option Addr} {c k : Nat} {n d : Int} {w : World} {ok : Nat → Prop} (hf : (bw A c n).at w ok) (hg : (bw B k d).at w ok) (hn : ln n ≤ 100000) (hd : ln d ≤ 100000) (h1 : Aside0 (dd d = 1)) (s : ByteArray) (h : Aside0 (tx n = s)) : Calls Try.prog 46 #[.agg #[.bool (ng n), .slice A (ln n) c, .bool (ng d), .slice B (ln d) k]] w (RetT s w) := by
  have hu25 := Try.underlying25
  have hu51 := Try.underlying51
  have H := ((Sit.start w ok).arg hf).arg hg
  have bn := Aside0.mk hn
  have bd := Aside0.mk hd
  clear hf hg hn hd
  obtain ⟨e1, he1⟩ : ∃ v : Int, dd d = v := ⟨_, rfl⟩
  have be1 := Aside0.mk (bDd bd.out (by decide) he1)
  obtain ⟨i, hi⟩ : ∃ v : Int, (1 : Int) = v := ⟨_, rfl⟩
  have bi := Aside0.mk (show ln i ≤ 1 from ln_bound i 1 (by omega))
  obtain ⟨kc, hkc⟩ : ∃ v : Int, cmp3 e1 i = v := ⟨_, rfl⟩
  have d1 : (kc != 0) = false := cmp3_bne_f (by rw [← he1, ← hi]; exact h1.out) hkc
  replace he1 := Aside0.mk he1
  replace hi := Aside0.mk hi
  replace hkc := Aside0.mk hkc
  obtain ⟨s1, hs1⟩ : ∃ v, tx n = v := ⟨_, rfl⟩
  replace hs1 := Aside0.mk hs1
  go_enter Try.func46, Try.ntmps46
  have st2 := trivial
  have st6 := trivial
  have st8 := trivial
  go_upto_region 2 with (first
    | (clear st2; (with_reducible refine gate_dst (N := 1) rfl ?_); refine bE #[.bool (ng n), .slice A (ln n) c, .bool (ng d), .slice B (ln d) k] 51 H ?_; clear H; intro g1 w1 H; have f1 := H.b4 (g := g1) m0)
    | (clear st6; go_at_call 47; (with_reducible refine (DenQ (H.row _ m1) (H.row _ m0) (limR bn.out (by decide)) (limR bd.out (by decide)) e1 he1.out).mono ?_); rintro e w3 ⟨A4, c5, rfl, hr, hb⟩; replace H := H.got hr hb; clear hr hb; clear f1; have f1 := H.b4 (g := g1) m0)
    | (clear st8; (with_reducible refine gate_dst (N := 3) rfl ?_); refine bE #[.bool false, .slice none 0 0] 25 H ?_; clear H; intro g3 w7 H; clear f1; have f3 := H.b2 (g := g3) m0; have f1 := H.b4 (g := g1) m1; have ne_g3_g1 := H.ne (g := g3) (g' := g1) 0 1 rfl rfl (by decide); have ne_g1_g3 := ne_g3_g1.symm))
  (try simp only [nn])
  replace H := ((H.setn [] 0 (.bool (ng e1)) rfl).setn [] 1 (.slice A4 (ln e1) c5) rfl)
  clear f3 f1
  generalize ((w7.setCell ⟨g3, 0, none⟩ (.bool (ng e1))).setCell ⟨g3, 1, none⟩ (.slice A4 (ln e1) c5)) = w9 at H ⊢
  have f3 := H.b2 (g := g3) m0
  have f1 := H.b4 (g := g1) m1
  clear f3 f1
  replace H := H.drew
  refine start_ (n := 4) (S := fun w' => w'.cell? ⟨g3, 0, none⟩ = some (.bool (ng e1)) ∧ w'.cell? ⟨g3, 1, none⟩ = some (.slice A4 (ln e1) c5)) (ds := []) #[false, false, false, false] (by kernel_rfl) rfl rfl (H.d2 m0) (fun hQ => ?_)
  generalize w9.drew = w10 at H hQ ⊢
  refine tU hQ 0 6 (bm 4 1) ?_
  refine oU 1 7 (bm 4 3) (fun K hK => ?_)
  refine gT Try.func27 #[.int .i64 1] ?_
  with_reducible refine (OfQ _ 1 i hi.out (by decide) (by decide)).mono ?_
  rintro e w11 ⟨A12, c13, rfl, hr, hb⟩
  replace H := H.got (fresh_row hr) hb
  clear hr hb
  refine ⟨_, rfl, ?_⟩
  refine hK.out _ _ (H.d2 m0) (fun hQ => ?_)
  clear hK K
  refine nT ?_
  refine oU 2 8 (bm 4 7) (fun K hK => ?_)
  refine gT Try.func34 #[.agg #[.bool (ng e1), .slice A4 (ln e1) c5], .agg #[.bool (ng i), .slice A12 (ln i) c13]] ?_
  with_reducible refine (CmpQ (H.row _ m1) (H.row _ m0) (lim be1.out (by decide)) (lim bi.out (by decide)) kc hkc.out).mono ?_
  rintro e w14 ⟨rfl, hb⟩
  replace H := H.call hb
  clear hb
  refine ⟨_, rfl, ?_⟩
  refine hK.out _ _ (H.d2 m0) (fun hQ => ?_)
  clear hK K
  refine nT ?_
  refine pU 3 9 (bm 4 15) ?_
  refine done_ (by kernel_rfl) ?_
  try clear hQ
  have f3 := H.b2 (g := g3) m0
  have f1 := H.b4 (g := g1) m1
  have st16 := trivial
  go_wp2_with (first
    | (clear st16; go_at_call 26; (with_reducible refine (TextQ (H.row _ m3) (lim bn.out (by decide)) s1 hs1.out).mono ?_); rintro e w15 ⟨rfl, hb⟩; replace H := H.call hb; clear hb; clear f3 f1; have f3 := H.b2 (g := g3) m0; have f1 := H.b4 (g := g1) m1))
  go_ret
  obtain rfl := hs1.out
  obtain rfl := h.out
  exact ⟨rfl, H.below⟩

def tb46.T3 : Bool × List (List Nat × List Nat) := (true, [([], []), ([0], [0]), ([1], [1]), ([2], [2]), ([], []), ([4, 2], [4]), ([3, 5], [3, 5]), ([6, 5, 0, 1, 2, 3, 4, 5, 6], [6])])
def tb46.B3 : List Nat := [0, 1, 3, 7, 0, 23, 63, 127]
theorem tb46.tab3 : rtab .any (opsOf Try.f46 3) = tb46.T3 := by kernel_rfl
theorem tb46.bits3 : waitsOk tb46.T3.2 tb46.B3 = true := by kernel_rfl

theorem Text_2 {A B : Option Addr} {c k : Nat} {n d : Int} {w : World} {ok : Nat → Prop} (hf : (bw A c n).at w ok) (hg : (bw B k d).at w ok) (hn : ln n ≤ 100000) (hd : ln d ≤ 100000) (h1 : Aside0 (dd d ≠ 1)) (s : ByteArray) (h : Aside0 (tx n ++ ⟨#[47]⟩ ++ tx (dd d) = s)) : Calls Try.prog 46 #[.agg #[.bool (ng n), .slice A (ln n) c, .bool (ng d), .slice B (ln d) k]] w (RetT s w) := by
  have hu25 := Try.underlying25
  have hu51 := Try.underlying51
  have H := ((Sit.start w ok).arg hf).arg hg
  have bn := Aside0.mk hn
  have bd := Aside0.mk hd
  clear hf hg hn hd
  obtain ⟨e1, he1⟩ : ∃ v : Int, dd d = v := ⟨_, rfl⟩
  have be1 := Aside0.mk (bDd bd.out (by decide) he1)
  obtain ⟨i, hi⟩ : ∃ v : Int, (1 : Int) = v := ⟨_, rfl⟩
  have bi := Aside0.mk (show ln i ≤ 1 from ln_bound i 1 (by omega))
  obtain ⟨kc, hkc⟩ : ∃ v : Int, cmp3 e1 i = v := ⟨_, rfl⟩
  have d1 : (kc != 0) = true := cmp3_bne_t (by rw [← he1, ← hi]; exact h1.out) hkc
  replace he1 := Aside0.mk he1
  replace hi := Aside0.mk hi
  replace hkc := Aside0.mk hkc
  obtain ⟨s1, hs1⟩ : ∃ v, tx n = v := ⟨_, rfl⟩
  replace hs1 := Aside0.mk hs1
  obtain ⟨s2, hs2⟩ : ∃ v, tx e1 = v := ⟨_, rfl⟩
  have z2 : s2.size ≤ 1000002 := by rw [← hs2]; exact Nat.le_trans (tx_size _) (by have := be1.out; omega)
  have z3 : s1.size ≤ 1000002 := by rw [← hs1.out]; exact Nat.le_trans (tx_size _) (by have := bn.out; omega)
  have z4 : ¬ 9223372036854775807 < s1.size + 1 := by omega
  have z5 : ¬ 9223372036854775807 < s1.size + 1 + s2.size := by omega
  clear z2 z3
  replace hs2 := Aside0.mk hs2
  go_enter Try.func46, Try.ntmps46
  have st2 := trivial
  have st6 := trivial
  have st8 := trivial
  go_upto_region 2 with (first
    | (clear st2; (with_reducible refine gate_dst (N := 1) rfl ?_); refine bE #[.bool (ng n), .slice A (ln n) c, .bool (ng d), .slice B (ln d) k] 51 H ?_; clear H; intro g1 w1 H; have f1 := H.b4 (g := g1) m0)
    | (clear st6; go_at_call 47; (with_reducible refine (DenQ (H.row _ m1) (H.row _ m0) (limR bn.out (by decide)) (limR bd.out (by decide)) e1 he1.out).mono ?_); rintro e w3 ⟨A4, c5, rfl, hr, hb⟩; replace H := H.got hr hb; clear hr hb; clear f1; have f1 := H.b4 (g := g1) m0)
    | (clear st8; (with_reducible refine gate_dst (N := 3) rfl ?_); refine bE #[.bool false, .slice none 0 0] 25 H ?_; clear H; intro g3 w7 H; clear f1; have f3 := H.b2 (g := g3) m0; have f1 := H.b4 (g := g1) m1; have ne_g3_g1 := H.ne (g := g3) (g' := g1) 0 1 rfl rfl (by decide); have ne_g1_g3 := ne_g3_g1.symm))
  (try simp only [nn])
  replace H := ((H.setn [] 0 (.bool (ng e1)) rfl).setn [] 1 (.slice A4 (ln e1) c5) rfl)
  clear f3 f1
  generalize ((w7.setCell ⟨g3, 0, none⟩ (.bool (ng e1))).setCell ⟨g3, 1, none⟩ (.slice A4 (ln e1) c5)) = w9 at H ⊢
  have f3 := H.b2 (g := g3) m0
  have f1 := H.b4 (g := g1) m1
  clear f3 f1
  replace H := H.drew
  refine start_ (n := 4) (S := fun w' => w'.cell? ⟨g3, 0, none⟩ = some (.bool (ng e1)) ∧ w'.cell? ⟨g3, 1, none⟩ = some (.slice A4 (ln e1) c5)) (ds := []) #[false, false, false, false] (by kernel_rfl) rfl rfl (H.d2 m0) (fun hQ => ?_)
  generalize w9.drew = w10 at H hQ ⊢
  refine tU hQ 0 6 (bm 4 1) ?_
  refine oU 1 7 (bm 4 3) (fun K hK => ?_)
  refine gT Try.func27 #[.int .i64 1] ?_
  with_reducible refine (OfQ _ 1 i hi.out (by decide) (by decide)).mono ?_
  rintro e w11 ⟨A12, c13, rfl, hr, hb⟩
  replace H := H.got (fresh_row hr) hb
  clear hr hb
  refine ⟨_, rfl, ?_⟩
  refine hK.out _ _ (H.d2 m0) (fun hQ => ?_)
  clear hK K
  refine nT ?_
  refine oU 2 8 (bm 4 7) (fun K hK => ?_)
  refine gT Try.func34 #[.agg #[.bool (ng e1), .slice A4 (ln e1) c5], .agg #[.bool (ng i), .slice A12 (ln i) c13]] ?_
  with_reducible refine (CmpQ (H.row _ m1) (H.row _ m0) (lim be1.out (by decide)) (lim bi.out (by decide)) kc hkc.out).mono ?_
  rintro e w14 ⟨rfl, hb⟩
  replace H := H.call hb
  clear hb
  refine ⟨_, rfl, ?_⟩
  refine hK.out _ _ (H.d2 m0) (fun hQ => ?_)
  clear hK K
  refine nT ?_
  refine pU 3 9 (bm 4 15) ?_
  refine done_ (by kernel_rfl) ?_
  try clear hQ
  go_upto_region 3 with fail
  (try simp only [nn])
  replace H := H.drew
  refine start_ (n := 8) (S := fun w' => w'.cell? ⟨g1, 0, none⟩ = some (.bool (ng n)) ∧ w'.cell? ⟨g1, 1, none⟩ = some (.slice A (ln n) c) ∧ w'.cell? ⟨g1, 2, none⟩ = some (.bool (ng d)) ∧ w'.cell? ⟨g1, 3, none⟩ = some (.slice B (ln d) k) ∧ w'.cell? ⟨g3, 0, none⟩ = some (.bool (ng e1)) ∧ w'.cell? ⟨g3, 1, none⟩ = some (.slice A4 (ln e1) c5)) (ds := []) #[false, false, false, false, false, false, false, false] (by kernel_rfl) rfl rfl (H.c4 m1 (H.d2 m0)) (fun hQ => ?_)
  generalize w14.drew = w15 at H hQ ⊢
  refine with_tabW tb46.tab3 tb46.bits3 (fun HT_ HW_ => ?_)
  refine pT HT_ 0 10 (bm 8 1) ?_
  refine tT HT_ HW_ hQ 1 11 (bm 8 3) ?_
  refine tT HT_ HW_ hQ 4 14 (bm 8 19) ?_
  refine oT HT_ 2 12 (bm 8 23) (fun K hK => ?_)
  refine gT Try.func26 #[.agg #[.bool (ng n), .slice A (ln n) c]] ?_
  with_reducible refine (TextQ (H.row _ m3) (lim bn.out (by decide)) s1 hs1.out).mono ?_
  rintro e w16 ⟨rfl, hb⟩
  replace H := H.call hb
  clear hb
  refine ⟨_, rfl, ?_⟩
  refine hK.out _ _ (H.c4 m1 (H.d2 m0)) (fun hQ => ?_)
  clear hK K
  refine nT ?_
  refine pT HT_ 3 13 (bm 8 31) ?_
  refine oT HT_ 5 15 (bm 8 63) (fun K hK => ?_)
  refine gT Try.func26 #[.agg #[.bool (ng e1), .slice A4 (ln e1) c5]] ?_
  with_reducible refine (TextQ (H.row _ m1) (lim be1.out (by decide)) s2 hs2.out).mono ?_
  rintro e w17 ⟨rfl, hb⟩
  replace H := H.call hb
  clear hb
  refine ⟨_, rfl, ?_⟩
  refine hK.out _ _ (H.c4 m1 (H.d2 m0)) (fun hQ => ?_)
  clear hK K
  refine nT ?_
  refine pT HT_ 6 16 (bm 8 127) ?_
  refine pT HT_ 7 2 (bm 8 255) ?_
  refine done_ (done_of HT_.out (by kernel_rfl)) ?_
  try clear hQ
  go_wp2
  go_ret
  obtain rfl := he1.out
  obtain rfl := hs1.out
  obtain rfl := hs2.out
  obtain rfl := h.out
  exact ⟨rfl, H.below⟩

theorem TextR {A B : Option Addr} {c k : Nat} {n d : Int} {w : World} {ok : Nat → Prop} (hf : (bw A c n).at w ok) (hg : (bw B k d).at w ok) (hn : ln n ≤ 100000) (hd : ln d ≤ 100000) (s : ByteArray) (h : qt n d = s) : Calls Try.prog 46 #[.agg #[.bool (ng n), .slice A (ln n) c, .bool (ng d), .slice B (ln d) k]] w (RetT s w) := by
  unfold qt at h
  by_cases h1 : dd d = 1
  · rw [if_pos h1] at h; exact Text_1 hf hg hn hd ⟨h1⟩ s ⟨h⟩
  · rw [if_neg h1] at h; exact Text_2 hf hg hn hd ⟨h1⟩ s ⟨h⟩
/-- It returns a truth value. -/
def RetB (b : Bool) (w : World) (e : Ending) (w' : World) : Prop := e = .returned (.bool b) ∧ Below w.heap.size w w'

def tb40.T1 : Bool × List (List Nat × List Nat) := (true, [([], []), ([], []), ([0, 1], [0, 1]), ([2], [2]), ([3, 2], [3]), ([4], [4]), ([5, 4, 4], [4, 5]), ([4], [4]), ([7, 6, 4], [4, 7]), ([6, 8, 4], [4, 6, 8]), ([4, 9], [4, 9]), ([10, 8, 0, 1, 2, 3, 4, 5, 6, 7, 8, 9, 10], [10])])
def tb40.B1 : List Nat := [0, 0, 3, 7, 15, 31, 63, 31, 255, 511, 1023, 2047]
theorem tb40.tab1 : rtab .any (opsOf Try.f40 1) = tb40.T1 := by kernel_rfl
theorem tb40.bits1 : waitsOk tb40.T1.2 tb40.B1 = true := by kernel_rfl

theorem Same_t {A B A' B' : Option Addr} {c k c' k' : Nat} {n d p q : Int} {w : World} {ok : Nat → Prop} (hf : (bw A c n).at w ok) (hg : (bw B k d).at w ok) (hf' : (bw A' c' p).at w ok) (hg' : (bw B' k' q).at w ok) (hn : ln n ≤ 100000) (hd : ln d ≤ 100000) (hp : ln p ≤ 100000) (hq : ln q ≤ 100000) (h1 : Aside0 (cmp3 (n * dd q) (p * dd d) = 0)) (h2 : Aside0 (qt n d = qt p q)) : Calls Try.prog 40 #[.agg #[.bool (ng n), .slice A (ln n) c, .bool (ng d), .slice B (ln d) k], .agg #[.bool (ng p), .slice A' (ln p) c', .bool (ng q), .slice B' (ln q) k']] w (RetB true w) := by
  have hu25 := Try.underlying25
  have hu51 := Try.underlying51
  have H := ((((Sit.start w ok).arg hf).arg hg).arg hf').arg hg'
  have bn := Aside0.mk hn
  have bd := Aside0.mk hd
  have bp := Aside0.mk hp
  have bq := Aside0.mk hq
  clear hf hg hf' hg' hn hd hp hq
  obtain ⟨s, hs⟩ : ∃ v, qt n d = v := ⟨_, rfl⟩
  have hs2 := Aside0.mk (show qt p q = s by rw [← hs]; exact h2.out.symm)
  replace hs := Aside0.mk hs
  have d1 : (s.toList == s.toList) = true := beq_self_eq_true s.toList
  go_enter Try.func40, Try.ntmps40
  have st2 := trivial
  have st4 := trivial
  go_upto_region 1 with (first
    | (clear st2; (with_reducible refine gate_dst (N := 2) rfl ?_); refine bE #[.bool (ng n), .slice A (ln n) c, .bool (ng d), .slice B (ln d) k] 51 H ?_; clear H; intro g2 w1 H; have f2 := H.b4 (g := g2) m0)
    | (clear st4; (with_reducible refine gate_dst (N := 3) rfl ?_); refine bE #[.bool (ng p), .slice A' (ln p) c', .bool (ng q), .slice B' (ln q) k'] 51 H ?_; clear H; intro g3 w3 H; clear f2; have f3 := H.b4 (g := g3) m0; have f2 := H.b4 (g := g2) m1; have ne_g3_g2 := H.ne (g := g3) (g' := g2) 0 1 rfl rfl (by decide); have ne_g2_g3 := ne_g3_g2.symm))
  (try simp only [nn])
  clear f3 f2
  replace H := H.drew
  refine start_ (n := 12) (S := fun w' => w'.cell? ⟨g2, 0, none⟩ = some (.bool (ng n)) ∧ w'.cell? ⟨g2, 1, none⟩ = some (.slice A (ln n) c) ∧ w'.cell? ⟨g2, 2, none⟩ = some (.bool (ng d)) ∧ w'.cell? ⟨g2, 3, none⟩ = some (.slice B (ln d) k) ∧ w'.cell? ⟨g3, 0, none⟩ = some (.bool (ng p)) ∧ w'.cell? ⟨g3, 1, none⟩ = some (.slice A' (ln p) c') ∧ w'.cell? ⟨g3, 2, none⟩ = some (.bool (ng q)) ∧ w'.cell? ⟨g3, 3, none⟩ = some (.slice B' (ln q) k')) (ds := []) #[false, false, false, false, false, false, false, false, false, false, false, false] (by kernel_rfl) rfl rfl (H.c4 m1 (H.d4 m0)) (fun hQ => ?_)
  generalize w3.drew = w5 at H hQ ⊢
  refine with_tabW tb40.tab1 tb40.bits1 (fun HT_ HW_ => ?_)
  refine tT HT_ HW_ hQ 0 5 (bm 12 1) ?_
  refine tT HT_ HW_ hQ 1 6 (bm 12 3) ?_
  refine oT HT_ 2 7 (bm 12 7) (fun K hK => ?_)
  refine gT Try.func66 #[.agg #[.bool (ng n), .slice A (ln n) c, .bool (ng d), .slice B (ln d) k], .agg #[.bool (ng p), .slice A' (ln p) c', .bool (ng q), .slice B' (ln q) k']] ?_
  with_reducible refine (CmpR (H.row _ m3) (H.row _ m2) (H.row _ m1) (H.row _ m0) (limR bn.out (by decide)) (limR bd.out (by decide)) (limR bp.out (by decide)) (limR bq.out (by decide)) 0 h1.out).mono ?_
  rintro e w6 ⟨rfl, hb⟩
  replace H := H.call hb
  clear hb
  refine ⟨_, rfl, ?_⟩
  refine hK.out _ _ (H.c4 m1 (H.d4 m0)) (fun hQ => ?_)
  clear hK K
  refine nT ?_
  refine pT HT_ 3 8 (bm 12 15) ?_
  refine pT HT_ 4 9 (bm 12 31) ?_
  refine tT HT_ HW_ hQ 5 10 (bm 12 63) ?_
  refine tT HT_ HW_ hQ 7 12 (bm 12 191) ?_
  refine oT HT_ 6 11 (bm 12 255) (fun K hK => ?_)
  refine gT Try.func46 #[.agg #[.bool (ng n), .slice A (ln n) c, .bool (ng d), .slice B (ln d) k]] ?_
  with_reducible refine (TextR (H.row _ m3) (H.row _ m2) (limR bn.out (by decide)) (limR bd.out (by decide)) s hs.out).mono ?_
  rintro e w7 ⟨rfl, hb⟩
  replace H := H.call hb
  clear hb
  refine ⟨_, rfl, ?_⟩
  refine hK.out _ _ (H.c4 m1 (H.d4 m0)) (fun hQ => ?_)
  clear hK K
  refine nT ?_
  refine oT HT_ 8 13 (bm 12 511) (fun K hK => ?_)
  refine gT Try.func46 #[.agg #[.bool (ng p), .slice A' (ln p) c', .bool (ng q), .slice B' (ln q) k']] ?_
  with_reducible refine (TextR (H.row _ m1) (H.row _ m0) (limR bp.out (by decide)) (limR bq.out (by decide)) s hs2.out).mono ?_
  rintro e w8 ⟨rfl, hb⟩
  replace H := H.call hb
  clear hb
  refine ⟨_, rfl, ?_⟩
  refine hK.out _ _ (H.c4 m1 (H.d4 m0)) (fun hQ => ?_)
  clear hK K
  refine nT ?_
  refine pT HT_ 9 14 (bm 12 1023) ?_
  refine pT HT_ 10 15 (bm 12 2047) ?_
  refine pT HT_ 11 4 (bm 12 4095) ?_
  refine done_ (done_of HT_.out (by kernel_rfl)) ?_
  try clear hQ
  go_wp2
  go_ret
  exact ⟨rfl, H.below⟩


end Go.Proofs.Ytdkapdgbfejgdaa
