/- The walk of the law RationalParses. -/
import Derived.Test.YtdkapdgbfejgdaaSq
import Derived.Test.YtdkapdgbfejgdaaFp
namespace Go.Proofs.Ytdkapdgbfejgdaa
open Go.RowKit Go.Proofs.YtdkapdgbfejgdaaW.PrintWords Go.Proofs.YtdkapdgbfejgdaaW.PrintLast Go.Proofs.YtdkapdgbfejgdaaW.PrintMore
set_option linter.unusedSimpArgs false
set_option linter.unusedVariables false
set_option maxHeartbeats 8000000
set_option maxRecDepth 100000

theorem par_l (a : ByteArray) (w : World) (hla : Aside0 (decide (200 < (a.size : Int)) = true)) : Calls Try.prog 16 #[.string a] w (fun e W' => e = .returned (.bool true) ∧ Below w.heap.size w W') := by
  have hu25 := Try.underlying25
  have hu51 := Try.underlying51
  have hu31 := Try.underlying31
  have hu76 := Try.underlying76
  have H := Sit.start w (fun _ => False)
  go_enter Try.func16, Try.ntmps16
  have st2 := trivial
  have st4 := trivial
  go_wp2_with (first
    | (clear st2; go_at_call 38; (with_reducible refine (awake2 _).mono ?_); rintro e wA ⟨rfl, hb⟩; replace H := H.call hb; clear hb)
    | (clear st4; go_at_call 50; (with_reducible refine (LongR a _ true hla.out).mono ?_); rintro e w3 ⟨rfl, hb⟩; replace H := H.call hb; clear hb))
  go_ret
  exact ⟨rfl, H.below⟩

theorem par_f (a : ByteArray) (w : World) (hla : Aside0 (decide (200 < (a.size : Int)) = false)) (n d u v : Int) (bn : Aside0 (ln n ≤ 512)) (hp : Aside0 (rp a = (n, d, 3))) (hF : Aside0 (∀ w, Calls Try.prog 62 #[.string a] w (RetFP w u v false))) (hs : Aside0 (sg n = 0)) : Calls Try.prog 16 #[.string a] w (fun e W' => e = .returned (.bool true) ∧ Below w.heap.size w W') := by
  have hu25 := Try.underlying25
  have hu51 := Try.underlying51
  have hu31 := Try.underlying31
  have hu76 := Try.underlying76
  have H := Sit.start w (fun _ => False)
  go_enter Try.func16, Try.ntmps16
  have st2 := trivial
  have st4 := trivial
  have st10 := trivial
  have st12 := trivial
  go_upto_region 6 with (first
    | (clear st2; go_at_call 38; (with_reducible refine (awake2 _).mono ?_); rintro e wA ⟨rfl, hb⟩; replace H := H.call hb; clear hb)
    | (clear st4; go_at_call 50; (with_reducible refine (LongR a _ false hla.out).mono ?_); rintro e w3 ⟨rfl, hb⟩; replace H := H.call hb; clear hb)
    | (clear st10; go_at_call 49; (with_reducible refine (ParseR a _ n d 3 hp.out).mono ?_); rintro e w5 ⟨A6, c7, A8, c9, rfl, hr, hr2, hb⟩; replace H := (H.got (fresh_row hr) hb).more ((H.got (fresh_row hr2) hb).row _ m0); clear hr hr2 hb)
    | (clear st12; (with_reducible refine gate_dst (N := 3) rfl ?_); refine bE #[.bool false, .slice none 0 0, .bool false, .slice none 0 0] 51 H ?_; clear H; intro g3 w11 H; have f3 := H.b4 (g := g3) m0))
  (try simp only [nn])
  replace H := H.set4 [] (.bool (ng n)) (.slice A6 (ln n) c7) (.bool (ng d)) (.slice A8 (ln d) c9)
  clear f3
  generalize ((((w11.setCell ⟨g3, 0, none⟩ (.bool (ng n))).setCell ⟨g3, 1, none⟩ (.slice A6 (ln n) c7)).setCell ⟨g3, 2, none⟩ (.bool (ng d))).setCell ⟨g3, 3, none⟩ (.slice A8 (ln d) c9)) = w13 at H ⊢
  have f3 := H.b4 (g := g3) m0
  have st19 := trivial
  have st21 := trivial
  go_upto_region 7 with (first
    | (clear st19; go_at_call 62; (with_reducible refine (hF.out _).mono ?_); rintro e w14 ⟨A15, c16, A17, c18, rfl, hr, hr2, hb⟩; replace H := (H.got (fresh_row hr) hb).more ((H.got (fresh_row hr2) hb).row _ m0); clear hr hr2 hb; clear f3; have f3 := H.b4 (g := g3) m0)
    | (clear st21; (with_reducible refine gate_dst (N := 5) rfl ?_); refine bE #[.int .i64 0, .slice none 0 0, .int .i64 0, .slice none 0 0] 76 H ?_; clear H; intro g5 w20 H; clear f3; have f5 := H.b4 (g := g5) m0; have f3 := H.b4 (g := g3) m1; have ne_g5_g3 := H.ne (g := g5) (g' := g3) 0 1 rfl rfl (by decide); have ne_g3_g5 := ne_g5_g3.symm))
  (try simp only [nn])
  replace H := H.set4 [] (.int .i64 (sg u)) (.slice A15 (dn u) c16) (.int .i64 (sg v)) (.slice A17 (dn v) c18)
  clear f5 f3
  generalize ((((w20.setCell ⟨g5, 0, none⟩ (.int .i64 (sg u))).setCell ⟨g5, 1, none⟩ (.slice A15 (dn u) c16)).setCell ⟨g5, 2, none⟩ (.int .i64 (sg v))).setCell ⟨g5, 3, none⟩ (.slice A17 (dn v) c18)) = w22 at H ⊢
  have f5 := H.b4 (g := g5) m0
  have f3 := H.b4 (g := g3) m1
  have st24 := trivial
  go_wp2_with (first
    | (clear st24; go_at_call 54; (with_reducible refine (SignR (lim bn.out (by decide)) 0 hs.out).mono ?_); rintro e w23 ⟨rfl, hb⟩; replace H := H.call hb; clear hb; clear f5 f3; have f5 := H.b4 (g := g5) m0; have f3 := H.b4 (g := g3) m1))
  go_ret
  exact ⟨rfl, H.below⟩

def tb16.T9 : Bool × List (List Nat × List Nat) := (true, [([], []), ([0], [0]), ([1], [1]), ([2], [2]), ([3, 2, 2], [2, 3]), ([2], [2]), ([4, 5, 2], [2, 4, 5]), ([2, 6], [2, 6]), ([7, 4], [7]), ([8], [8]), ([9, 8, 8], [8, 9]), ([10, 10, 8], [8, 10]), ([8], [8]), ([12, 8], [8, 12]), ([13, 11, 8], [8, 13]), ([11, 14, 8], [8, 11, 14]), ([8, 15], [8, 15]), ([16, 14], [16]), ([17], [17]), ([18, 17, 17], [17, 18]), ([19, 19, 17], [17, 19]), ([17], [17]), ([21, 17], [17, 21]), ([22, 20, 17], [17, 22]), ([20, 23, 17], [17, 20, 23]), ([17, 24], [17, 24]), ([25, 23], [25]), ([26], [26]), ([27, 26, 26], [26, 27]), ([26], [26]), ([29, 26], [26, 29]), ([30, 26], [26, 30]), ([28, 31, 26], [26, 28, 31]), ([26, 32], [26, 32]), ([33, 28, 0, 1, 2, 3, 4, 5, 6, 7, 8, 9, 10, 11, 12, 13, 14, 15, 16, 17, 18, 19, 20, 21, 22, 23, 24, 25, 26, 27, 28, 29, 30, 31, 32, 33], [33])])
def tb16.B9 : List Nat := [0, 1, 3, 7, 15, 7, 63, 127, 255, 511, 1023, 2047, 511, 4607, 16383, 32767, 65535, 131071, 262143, 524287, 1048575, 262143, 2359295, 8388607, 16777215, 33554431, 67108863, 134217727, 268435455, 134217727, 671088639, 1744830463, 4294967295, 8589934591, 17179869183]
theorem tb16.tab9 : rtab .any (opsOf Try.f16 9) = tb16.T9 := by kernel_rfl
theorem tb16.bits9 : waitsOk tb16.T9.2 tb16.B9 = true := by kernel_rfl

theorem par_t (a : ByteArray) (w : World) (hla : Aside0 (decide (200 < (a.size : Int)) = false)) (n d u v n2 d2 k : Int) (tn td : ByteArray) (bn : Aside0 (ln n ≤ 512)) (bd : Aside0 (ln d ≤ 512)) (bn2 : Aside0 (ln n2 ≤ 512)) (bd2 : Aside0 (ln d2 ≤ 512)) (bu : Aside0 (dn u ≤ 9000)) (bv : Aside0 (dn v ≤ 9000)) (hp : Aside0 (rp a = (n, d, 0))) (hF : Aside0 (∀ w, Calls Try.prog 62 #[.string a] w (RetFP w u v true)))
    (ht : Aside0 (qt n d = a)) (hn2 : Aside0 (n = n2)) (htn : Aside0 (tx n2 = tn)) (htu : Aside0 (tx u = tn)) (hd2 : Aside0 (dd d = d2)) (htd : Aside0 (tx d2 = td)) (htv : Aside0 (tx v = td)) (hk : Aside0 (sg n = k)) (f1 : (a.toList == a.toList) = true) (f2 : (tn.toList == tn.toList) = true) (f3 : (td.toList == td.toList) = true) (f4 : (k == sg u) = true) : Calls Try.prog 16 #[.string a] w (fun e W' => e = .returned (.bool true) ∧ Below w.heap.size w W') := by
  have hu25 := Try.underlying25
  have hu51 := Try.underlying51
  have hu31 := Try.underlying31
  have hu76 := Try.underlying76
  have H := Sit.start w (fun _ => False)
  go_enter Try.func16, Try.ntmps16
  have st2 := trivial
  have st4 := trivial
  have st10 := trivial
  have st12 := trivial
  go_upto_region 6 with (first
    | (clear st2; go_at_call 38; (with_reducible refine (awake2 _).mono ?_); rintro e wA ⟨rfl, hb⟩; replace H := H.call hb; clear hb)
    | (clear st4; go_at_call 50; (with_reducible refine (LongR a _ false hla.out).mono ?_); rintro e w3 ⟨rfl, hb⟩; replace H := H.call hb; clear hb)
    | (clear st10; go_at_call 49; (with_reducible refine (ParseR a _ n d 0 hp.out).mono ?_); rintro e w5 ⟨A6, c7, A8, c9, rfl, hr, hr2, hb⟩; replace H := (H.got (fresh_row hr) hb).more ((H.got (fresh_row hr2) hb).row _ m0); clear hr hr2 hb)
    | (clear st12; (with_reducible refine gate_dst (N := 3) rfl ?_); refine bE #[.bool false, .slice none 0 0, .bool false, .slice none 0 0] 51 H ?_; clear H; intro g3 w11 H; have f3 := H.b4 (g := g3) m0))
  (try simp only [nn])
  replace H := H.set4 [] (.bool (ng n)) (.slice A6 (ln n) c7) (.bool (ng d)) (.slice A8 (ln d) c9)
  clear f3
  generalize ((((w11.setCell ⟨g3, 0, none⟩ (.bool (ng n))).setCell ⟨g3, 1, none⟩ (.slice A6 (ln n) c7)).setCell ⟨g3, 2, none⟩ (.bool (ng d))).setCell ⟨g3, 3, none⟩ (.slice A8 (ln d) c9)) = w13 at H ⊢
  have f3 := H.b4 (g := g3) m0
  have st19 := trivial
  have st21 := trivial
  go_upto_region 7 with (first
    | (clear st19; go_at_call 62; (with_reducible refine (hF.out _).mono ?_); rintro e w14 ⟨A15, c16, A17, c18, rfl, hr, hr2, hb⟩; replace H := (H.got (fresh_row hr) hb).more ((H.got (fresh_row hr2) hb).row _ m0); clear hr hr2 hb; clear f3; have f3 := H.b4 (g := g3) m0)
    | (clear st21; (with_reducible refine gate_dst (N := 5) rfl ?_); refine bE #[.int .i64 0, .slice none 0 0, .int .i64 0, .slice none 0 0] 76 H ?_; clear H; intro g5 w20 H; clear f3; have f5 := H.b4 (g := g5) m0; have f3 := H.b4 (g := g3) m1; have ne_g5_g3 := H.ne (g := g5) (g' := g3) 0 1 rfl rfl (by decide); have ne_g3_g5 := ne_g5_g3.symm))
  (try simp only [nn])
  replace H := H.set4 [] (.int .i64 (sg u)) (.slice A15 (dn u) c16) (.int .i64 (sg v)) (.slice A17 (dn v) c18)
  clear f5 f3
  generalize ((((w20.setCell ⟨g5, 0, none⟩ (.int .i64 (sg u))).setCell ⟨g5, 1, none⟩ (.slice A15 (dn u) c16)).setCell ⟨g5, 2, none⟩ (.int .i64 (sg v))).setCell ⟨g5, 3, none⟩ (.slice A17 (dn v) c18)) = w22 at H ⊢
  have f5 := H.b4 (g := g5) m0
  have f3 := H.b4 (g := g3) m1
  go_upto_region 9 with fail
  (try simp only [nn])
  clear f5 f3
  replace H := H.drew
  refine start_ (n := 35) (S := fun w' => w'.cell? ⟨g3, 0, none⟩ = some (.bool (ng n)) ∧ w'.cell? ⟨g3, 1, none⟩ = some (.slice A6 (ln n) c7) ∧ w'.cell? ⟨g3, 2, none⟩ = some (.bool (ng d)) ∧ w'.cell? ⟨g3, 3, none⟩ = some (.slice A8 (ln d) c9) ∧ w'.cell? ⟨g5, 0, none⟩ = some (.int .i64 (sg u)) ∧ w'.cell? ⟨g5, 1, none⟩ = some (.slice A15 (dn u) c16) ∧ w'.cell? ⟨g5, 2, none⟩ = some (.int .i64 (sg v)) ∧ w'.cell? ⟨g5, 3, none⟩ = some (.slice A17 (dn v) c18)) (ds := []) #[false, false, false, false, false, false, false, false, false, false, false, false, false, false, false, false, false, false, false, false, false, false, false, false, false, false, false, false, false, false, false, false, false, false, false] (by kernel_rfl) rfl rfl (H.c4 m1 (H.d4 m0)) (fun hQ => ?_)
  generalize w22.drew = w23 at H hQ ⊢
  refine with_tabW tb16.tab9 tb16.bits9 (fun HT_ HW_ => ?_)
  refine pT HT_ 0 30 (bm 35 1) ?_
  refine pT HT_ 1 31 (bm 35 3) ?_
  refine pT HT_ 2 32 (bm 35 7) ?_
  refine pT HT_ 5 35 (bm 35 39) ?_
  refine tT HT_ HW_ hQ 3 33 (bm 35 47) ?_
  refine oT HT_ 4 34 (bm 35 63) (fun K hK => ?_)
  refine gT Try.func46 #[.agg #[.bool (ng n), .slice A6 (ln n) c7, .bool (ng d), .slice A8 (ln d) c9]] ?_
  with_reducible refine (TextR (H.row _ m3) (H.row _ m2) (limR bn.out (by decide)) (limR bd.out (by decide)) a ht.out).mono ?_
  rintro e w24 ⟨rfl, hb⟩
  replace H := H.call hb
  clear hb
  refine ⟨_, rfl, ?_⟩
  refine hK.out _ _ (H.c4 m1 (H.d4 m0)) (fun hQ => ?_)
  clear hK K
  refine nT ?_
  refine pT HT_ 6 36 (bm 35 127) ?_
  refine pT HT_ 7 37 (bm 35 255) ?_
  refine pT HT_ 8 38 (bm 35 511) ?_
  refine pT HT_ 12 42 (bm 35 4607) ?_
  refine tT HT_ HW_ hQ 9 39 (bm 35 5119) ?_
  refine tT HT_ HW_ hQ 13 43 (bm 35 13311) ?_
  refine oT HT_ 10 40 (bm 35 14335) (fun K hK => ?_)
  refine gT Try.func45 #[.agg #[.bool (ng n), .slice A6 (ln n) c7, .bool (ng d), .slice A8 (ln d) c9]] ?_
  with_reducible refine (NumQ (H.row _ m3) (H.row _ m2) (limR bn.out (by decide)) (limR bd.out (by decide)) n2 hn2.out).mono ?_
  rintro e w25 ⟨A26, c27, rfl, hr, hb⟩
  replace H := H.got hr hb
  clear hr hb
  refine ⟨_, rfl, ?_⟩
  refine hK.out _ _ (H.c4 m1 (H.d4 m0)) (fun hQ => ?_)
  clear hK K
  refine nT ?_
  refine oT HT_ 11 41 (bm 35 16383) (fun K hK => ?_)
  refine gT Try.func26 #[.agg #[.bool (ng n2), .slice A26 (ln n2) c27]] ?_
  with_reducible refine (TextQ (H.row _ m0) (lim bn2.out (by decide)) tn htn.out).mono ?_
  rintro e w28 ⟨rfl, hb⟩
  replace H := H.call hb
  clear hb
  refine ⟨_, rfl, ?_⟩
  refine hK.out _ _ (H.c4 m1 (H.d4 m0)) (fun hQ => ?_)
  clear hK K
  refine nT ?_
  refine oT HT_ 14 44 (bm 35 32767) (fun K hK => ?_)
  refine gT Try.func55 #[.agg #[.int .i64 (sg u), .slice A15 (dn u) c16]] ?_
  with_reducible refine (TextN (Nat.le_trans bu.out (by decide)) (H.row _ m2) tn htu.out).mono ?_
  rintro e w29 ⟨rfl, hb⟩
  replace H := H.call hb
  clear hb
  refine ⟨_, rfl, ?_⟩
  refine hK.out _ _ (H.c4 m1 (H.d4 m0)) (fun hQ => ?_)
  clear hK K
  refine nT ?_
  refine pT HT_ 15 45 (bm 35 65535) ?_
  refine pT HT_ 16 46 (bm 35 131071) ?_
  refine pT HT_ 17 47 (bm 35 262143) ?_
  refine pT HT_ 21 51 (bm 35 2359295) ?_
  refine tT HT_ HW_ hQ 18 48 (bm 35 2621439) ?_
  refine tT HT_ HW_ hQ 22 52 (bm 35 6815743) ?_
  refine oT HT_ 19 49 (bm 35 7340031) (fun K hK => ?_)
  refine gT Try.func47 #[.agg #[.bool (ng n), .slice A6 (ln n) c7, .bool (ng d), .slice A8 (ln d) c9]] ?_
  with_reducible refine (DenQ (H.row _ m4) (H.row _ m3) (limR bn.out (by decide)) (limR bd.out (by decide)) d2 hd2.out).mono ?_
  rintro e w30 ⟨A31, c32, rfl, hr, hb⟩
  replace H := H.got hr hb
  clear hr hb
  refine ⟨_, rfl, ?_⟩
  refine hK.out _ _ (H.c4 m1 (H.d4 m0)) (fun hQ => ?_)
  clear hK K
  refine nT ?_
  refine oT HT_ 20 50 (bm 35 8388607) (fun K hK => ?_)
  refine gT Try.func26 #[.agg #[.bool (ng d2), .slice A31 (ln d2) c32]] ?_
  with_reducible refine (TextQ (H.row _ m0) (lim bd2.out (by decide)) td htd.out).mono ?_
  rintro e w33 ⟨rfl, hb⟩
  replace H := H.call hb
  clear hb
  refine ⟨_, rfl, ?_⟩
  refine hK.out _ _ (H.c4 m1 (H.d4 m0)) (fun hQ => ?_)
  clear hK K
  refine nT ?_
  refine oT HT_ 23 53 (bm 35 16777215) (fun K hK => ?_)
  refine gT Try.func55 #[.agg #[.int .i64 (sg v), .slice A17 (dn v) c18]] ?_
  with_reducible refine (TextN (Nat.le_trans bv.out (by decide)) (H.row _ m2) td htv.out).mono ?_
  rintro e w34 ⟨rfl, hb⟩
  replace H := H.call hb
  clear hb
  refine ⟨_, rfl, ?_⟩
  refine hK.out _ _ (H.c4 m1 (H.d4 m0)) (fun hQ => ?_)
  clear hK K
  refine nT ?_
  refine pT HT_ 24 54 (bm 35 33554431) ?_
  refine pT HT_ 25 55 (bm 35 67108863) ?_
  refine pT HT_ 26 56 (bm 35 134217727) ?_
  refine pT HT_ 29 59 (bm 35 671088639) ?_
  refine pT HT_ 30 60 (bm 35 1744830463) ?_
  refine tT HT_ HW_ hQ 27 57 (bm 35 1879048191) ?_
  refine tT HT_ HW_ hQ 31 61 (bm 35 4026531839) ?_
  refine oT HT_ 28 58 (bm 35 4294967295) (fun K hK => ?_)
  refine gT Try.func54 #[.agg #[.bool (ng n), .slice A6 (ln n) c7, .bool (ng d), .slice A8 (ln d) c9]] ?_
  with_reducible refine (SignR (lim bn.out (by decide)) k hk.out).mono ?_
  rintro e w35 ⟨rfl, hb⟩
  replace H := H.call hb
  clear hb
  refine ⟨_, rfl, ?_⟩
  refine hK.out _ _ (H.c4 m1 (H.d4 m0)) (fun hQ => ?_)
  clear hK K
  refine nT ?_
  refine pT HT_ 32 62 (bm 35 8589934591) ?_
  refine pT HT_ 33 63 (bm 35 17179869183) ?_
  refine pT HT_ 34 2 (bm 35 34359738367) ?_
  refine done_ (done_of HT_.out (by kernel_rfl)) ?_
  try clear hQ
  go_wp2
  go_ret
  exact ⟨rfl, H.below⟩

theorem par_walk (a : ByteArray) (w : World) : Calls Try.prog 16 #[.string a] w (fun e W' => e = .returned (.bool true) ∧ Below w.heap.size w W') := by
  by_cases la : 200 < (a.size : Int)
  · exact par_l a w ⟨decide_eq_true la⟩
  have la' := decide_eq_false la
  have hs : a.size ≤ 4096 := by omega
  obtain ⟨⟨n, d, er⟩, hp⟩ : ∃ t, rp a = t := ⟨_, rfl⟩
  rcases fp_rp hs hp with ⟨rfl, hf⟩ | ⟨rfl, rfl, n', d', hf⟩
  · obtain ⟨d0, gd, bn, bd⟩ := rpL hp
    have up : ∀ {x : Int}, ln x ≤ 512 → dn x ≤ 9000 := fun h => Nat.le_trans (dn_ln h) (by decide)
    exact par_t a w ⟨la'⟩ n d n d n d _ _ _ ⟨bn⟩ ⟨bd⟩ ⟨bn⟩ ⟨bd⟩ ⟨up bn⟩ ⟨up bd⟩ ⟨hp⟩ ⟨fun w => ParseF a hs w n d true hf⟩ ⟨rp_text hp⟩ ⟨rfl⟩ ⟨rfl⟩ ⟨rfl⟩ ⟨dd_pos d0⟩ ⟨rfl⟩ ⟨rfl⟩ ⟨rfl⟩ (by simp) (by simp) (by simp) (by simp)
  · exact par_f a w ⟨la'⟩ 0 d n' d' ⟨Nat.zero_le _⟩ ⟨hp⟩ ⟨fun w => ParseF a hs w n' d' false hf⟩ ⟨rfl⟩

end Go.Proofs.Ytdkapdgbfejgdaa
