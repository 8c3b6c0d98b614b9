/- The walk of the law RationalMakes. -/
import Derived.Test.YtdkapdgbfejgdaaSq
import Derived.Test.YtdkapdgbfejgdaaFp
namespace Go.Proofs.Ytdkapdgbfejgdaa
open Go.RowKit Go.Proofs.YtdkapdgbfejgdaaW.PrintWords Go.Proofs.YtdkapdgbfejgdaaW.PrintLast Go.Proofs.YtdkapdgbfejgdaaW.PrintMore
set_option linter.unusedSimpArgs false
set_option linter.unusedVariables false
set_option maxHeartbeats 8000000
set_option maxRecDepth 100000

theorem wf_int' {a : Int} (h : (Lit.int .i64 a).wf = true) : -9223372036854775808 ≤ a ∧ a ≤ 9223372036854775807 := by
  simp only [Lit.wf, Bool.and_eq_true, decide_eq_true_eq] at h
  exact h

def tb17.T9 : Bool × List (List Nat × List Nat) := (true, [([], []), ([0], [0]), ([1], [1]), ([2], [2]), ([3, 2], [2, 3]), ([2, 4], [2, 4]), ([5, 2], [5]), ([6], [6]), ([6], [6]), ([7, 8, 6, 6], [6, 7, 8]), ([9, 6], [6, 9]), ([6, 10], [6, 10]), ([11, 9], [11]), ([12], [12]), ([13, 12, 12], [12, 13]), ([12], [12]), ([14, 15, 14, 12], [12, 14, 15]), ([12], [12]), ([17, 16, 12], [12, 17]), ([12], [12]), ([18, 19, 18, 12], [12, 18, 19]), ([16, 20, 20, 12], [12, 16, 20]), ([21, 12], [12, 21]), ([12, 22], [12, 22]), ([23, 21], [23]), ([24], [24]), ([25, 24, 24], [24, 25]), ([24], [24]), ([27, 26, 24], [24, 27]), ([26, 28, 28, 24], [24, 26, 28]), ([29, 24], [24]), ([29, 30, 30, 24], [24, 29, 30]), ([31, 24], [24, 31]), ([24, 32], [24, 32]), ([33, 31], [33]), ([34], [34]), ([35, 34, 34], [34, 35]), ([36, 36, 34], [34, 36]), ([37, 34], [34, 37]), ([34, 38], [34, 38])])
def tb17.B9 : List Nat := [0, 1, 3, 7, 15, 31, 63, 127, 127, 511, 1023, 2047, 4095, 8191, 16383, 8191, 65535, 8191, 262143, 8191, 1048575, 2097151, 4194303, 8388607, 16777215, 33554431, 67108863, 33554431, 268435455, 536870911, 1073741823, 2147483647, 4294967295, 8589934591, 17179869183, 34359738367, 68719476735, 137438953471, 274877906943, 549755813887]
theorem tb17.tab9 : rtab .any (opsOf Try.f17 9) = tb17.T9 := by kernel_rfl
theorem tb17.bits9 : waitsOk tb17.T9.2 tb17.B9 = true := by kernel_rfl
def tb17.T22 : Bool × List (List Nat × List Nat) := (true, [([], []), ([0], [0]), ([1], [1]), ([1, 2], [1, 2]), ([3, 1], [3]), ([4], [4]), ([5, 4], [4, 5]), ([4, 6], [4, 6]), ([7, 4], [7]), ([8], [8]), ([9, 8, 8], [8, 9]), ([8], [8]), ([8], [8]), ([11, 12, 10, 8], [8, 11, 12]), ([13, 13, 8], [8, 13]), ([10, 14, 8], [8, 10, 14]), ([8, 15], [8, 15]), ([16, 14, 0, 1, 2, 3, 4, 5, 6, 7, 8, 9, 10, 11, 12, 13, 14, 15, 16], [16])])
def tb17.B22 : List Nat := [0, 1, 3, 7, 15, 31, 63, 127, 255, 511, 1023, 511, 511, 8191, 16383, 32767, 65535, 131071]
theorem tb17.tab22 : rtab .any (opsOf Try.f17 22) = tb17.T22 := by kernel_rfl
theorem tb17.bits22 : waitsOk tb17.T22.2 tb17.B22 = true := by kernel_rfl

theorem mak_t (a b : ByteArray) (n d : Int) (w : World) (x z f1 f2 p1 p2 nf df a1 a2 gg i P Q r1 r2 u v s1 s2 er ea eb e3 kq : Int) (t : ByteArray) (bx : Aside0 (ln x ≤ 1500)) (bz : Aside0 (ln z ≤ 1500)) (bf1 : Aside0 (ln f1 ≤ 1500)) (bf2 : Aside0 (ln f2 ≤ 1500)) (bp1 : Aside0 (ln p1 ≤ 1500)) (bp2 : Aside0 (ln p2 ≤ 1500)) (bnf : Aside0 (ln nf ≤ 1500)) (bdf : Aside0 (ln df ≤ 1500)) (ba1 : Aside0 (ln a1 ≤ 1500)) (ba2 : Aside0 (ln a2 ≤ 1500)) (bgg : Aside0 (ln gg ≤ 1500)) (bi : Aside0 (ln i ≤ 1500)) (bP : Aside0 (ln P ≤ 1500)) (bQ : Aside0 (ln Q ≤ 1500)) (br1 : Aside0 (ln r1 ≤ 1500)) (br2 : Aside0 (ln r2 ≤ 1500)) (bu : Aside0 (dn u ≤ 15000)) (bv : Aside0 (dn v ≤ 15000)) (bs1 : Aside0 (dn s1 ≤ 15000)) (bs2 : Aside0 (dn s2 ≤ 15000)) (h0 : Aside0 (-9223372036854775808 ≤ n ∧ n ≤ 9223372036854775807 ∧ -9223372036854775808 ≤ d ∧ d ≤ 9223372036854775807))
    (hx : Aside0 (n = x)) (hz : Aside0 (d = z)) (hf : Aside0 ((qn n d = f1 ∧ qd n d = f2 ∧ qe d = er) ∧ (-9223372036854775808 ≤ n ∧ n ≤ 9223372036854775807) ∧ (-9223372036854775808 ≤ d ∧ d ≤ 9223372036854775807))) (hm : Aside0 (qn x z = p1 ∧ qd x z = p2 ∧ qe z = er))
    (hcs : Aside0 ((er = 9 ∧ (d == 0) = true ∧ sg f1 = 0 ∧ sg p1 = 0) ∨ (er = 0 ∧ (d == 0) = false ∧ (f1 = p1 ∧ f2 = p2) ∧ cmp3 a1 a2 = 0 ∧ cmp3 gg i = 0 ∧ sg df = 1)))
    (hnf : Aside0 (f1 = nf)) (hdf : Aside0 (dd f2 = df)) (ha1 : Aside0 (nf * z = a1)) (ha2 : Aside0 (df * x = a2)) (hgg : Aside0 (((Int.gcd nf df : Nat) : Int) = gg)) (hi : Aside0 (1 = i))
    (hPa : Aside0 (pr a = (P, ea))) (hPb : Aside0 (pr b = (Q, eb)))
    (hR : Aside0 (qn P Q = r1 ∧ qd P Q = r2 ∧ qe Q = e3)) (hkq : Aside0 (sg Q = kq)) (ht : Aside0 (qt r1 r2 = t)) (f9 : (t.toList == t.toList) = true)
    (hc2 : Aside0 (((100 < a.size ∧ decide (100 < (a.size : Int)) = true ∧ decide (100 < a.size) = true) ∨ ((¬ 100 < a.size ∧ decide (100 < (a.size : Int)) = false ∧ decide (100 < a.size) = false) ∧ (100 < b.size ∧ decide (100 < (b.size : Int)) = true ∧ decide (100 < b.size) = true))) ∨ ((¬ 100 < a.size ∧ decide (100 < (a.size : Int)) = false ∧ decide (100 < a.size) = false) ∧ (¬ 100 < b.size ∧ decide (100 < (b.size : Int)) = false ∧ decide (100 < b.size) = false) ∧ (((ea != 0) = true ∨ ((ea != 0) = false ∧ (eb != 0) = true)) ∨
      (ea = 0 ∧ eb = 0 ∧ (∀ w, Calls Try.prog 24 #[.string a] w (RetNP w u true)) ∧ (∀ w, Calls Try.prog 24 #[.string b] w (RetNP w v true)) ∧ ((e3 = 9 ∧ (kq == 0) = true ∧ sg r1 = 0) ∨ (e3 = 0 ∧ (kq == 0) = false ∧ (v ≠ 0 ∧ qn u v = s1 ∧ qd u v = s2) ∧ (s2 ≠ 0 ∧ qt s1 s2 = t)))))))) : Calls Try.prog 17 #[.string a, .string b, .int .i64 n, .int .i64 d] w (fun e W' => e = .returned (.bool true) ∧ Below w.heap.size w W') := by
  have hu25 := Try.underlying25
  have hu51 := Try.underlying51
  have hu31 := Try.underlying31
  have hu76 := Try.underlying76
  have H := Sit.start w (fun _ => False)
  go_enter Try.func17, Try.ntmps17
  have st2 := trivial
  have st6 := trivial
  have st10 := trivial
  have st12 := trivial
  have st14 := trivial
  go_upto_region 4 with (first
    | (clear st2; go_at_call 38; (with_reducible refine (awake2 _).mono ?_); rintro e wA ⟨rfl, hb⟩; replace H := H.call hb; clear hb)
    | (clear st6; go_at_call 27; (with_reducible refine (OfQ _ n x hx.out h0.out.1 h0.out.2.1).mono ?_); rintro e w3 ⟨A4, c5, rfl, hr, hb⟩; replace H := H.got (fresh_row hr) hb; clear hr hb)
    | (clear st10; go_at_call 27; (with_reducible refine (OfQ _ d z hz.out h0.out.2.2.1 h0.out.2.2.2).mono ?_); rintro e w7 ⟨A8, c9, rfl, hr, hb⟩; replace H := H.got (fresh_row hr) hb; clear hr hb)
    | (clear st12; (with_reducible refine gate_dst (N := 9) rfl ?_); refine bE #[.bool false, .slice none 0 0] 25 H ?_; clear H; intro g9 w11 H; have f9 := H.b2 (g := g9) m0)
    | (clear st14; (with_reducible refine gate_dst (N := 10) rfl ?_); refine bE #[.bool false, .slice none 0 0] 25 H ?_; clear H; intro g10 w13 H; clear f9; have f10 := H.b2 (g := g10) m0; have f9 := H.b2 (g := g9) m1; have ne_g10_g9 := H.ne (g := g10) (g' := g9) 0 1 rfl rfl (by decide); have ne_g9_g10 := ne_g10_g9.symm))
  (try simp only [nn])
  replace H := ((((H.setn [_] 0 (.bool (ng x)) rfl).setn [_] 1 (.slice A4 (ln x) c5) rfl).setn [] 0 (.bool (ng z)) rfl).setn [] 1 (.slice A8 (ln z) c9) rfl)
  clear f10 f9
  generalize ((((w13.setCell ⟨g9, 0, none⟩ (.bool (ng x))).setCell ⟨g9, 1, none⟩ (.slice A4 (ln x) c5)).setCell ⟨g10, 0, none⟩ (.bool (ng z))).setCell ⟨g10, 1, none⟩ (.slice A8 (ln z) c9)) = w15 at H ⊢
  have f10 := H.b2 (g := g10) m0
  have f9 := H.b2 (g := g9) m1
  have st21 := trivial
  have st23 := trivial
  go_upto_region 5 with (first
    | (clear st21; go_at_call 39; (with_reducible refine (FracQ _ n d f1 f2 er hf.out).mono ?_); rintro e w16 ⟨A17, c18, A19, c20, rfl, hr, hr2, hb⟩; replace H := (H.got (fresh_row hr) hb).more ((H.got (fresh_row hr2) hb).row _ m0); clear hr hr2 hb; clear f10 f9; have f10 := H.b2 (g := g10) m0; have f9 := H.b2 (g := g9) m1)
    | (clear st23; (with_reducible refine gate_dst (N := 11) rfl ?_); refine bE #[.bool false, .slice none 0 0, .bool false, .slice none 0 0] 51 H ?_; clear H; intro g11 w22 H; clear f10 f9; have f11 := H.b4 (g := g11) m0; have f10 := H.b2 (g := g10) m1; have f9 := H.b2 (g := g9) m2; have ne_g11_g10 := H.ne (g := g11) (g' := g10) 0 1 rfl rfl (by decide); have ne_g10_g11 := ne_g11_g10.symm; have ne_g11_g9 := H.ne (g := g11) (g' := g9) 0 2 rfl rfl (by decide); have ne_g9_g11 := ne_g11_g9.symm))
  (try simp only [nn])
  replace H := H.set4 [] (.bool (ng f1)) (.slice A17 (ln f1) c18) (.bool (ng f2)) (.slice A19 (ln f2) c20)
  clear f11 f10 f9
  generalize ((((w22.setCell ⟨g11, 0, none⟩ (.bool (ng f1))).setCell ⟨g11, 1, none⟩ (.slice A17 (ln f1) c18)).setCell ⟨g11, 2, none⟩ (.bool (ng f2))).setCell ⟨g11, 3, none⟩ (.slice A19 (ln f2) c20)) = w24 at H ⊢
  have f11 := H.b4 (g := g11) m0
  have f10 := H.b2 (g := g10) m1
  have f9 := H.b2 (g := g9) m2
  have st30 := trivial
  have st32 := trivial
  go_upto_region 6 with (first
    | (clear st30; go_at_call 63; (with_reducible refine (MakeQ (H.row _ m3) (H.row _ m2) (lim bx.out (by decide)) (lim bz.out (by decide)) p1 p2 er hm.out.1 hm.out.2.1 hm.out.2.2).mono ?_); rintro e w25 ⟨A26, c27, A28, c29, rfl, hr, hr2, hb⟩; replace H := (H.got hr hb).more ((H.got hr2 hb).row _ m0); clear hr hr2 hb; clear f11 f10 f9; have f11 := H.b4 (g := g11) m0; have f10 := H.b2 (g := g10) m1; have f9 := H.b2 (g := g9) m2)
    | (clear st32; (with_reducible refine gate_dst (N := 13) rfl ?_); refine bE #[.bool false, .slice none 0 0, .bool false, .slice none 0 0] 51 H ?_; clear H; intro g13 w31 H; clear f11 f10 f9; have f13 := H.b4 (g := g13) m0; have f11 := H.b4 (g := g11) m1; have f10 := H.b2 (g := g10) m2; have f9 := H.b2 (g := g9) m3; have ne_g13_g11 := H.ne (g := g13) (g' := g11) 0 1 rfl rfl (by decide); have ne_g11_g13 := ne_g13_g11.symm; have ne_g13_g10 := H.ne (g := g13) (g' := g10) 0 2 rfl rfl (by decide); have ne_g10_g13 := ne_g13_g10.symm; have ne_g13_g9 := H.ne (g := g13) (g' := g9) 0 3 rfl rfl (by decide); have ne_g9_g13 := ne_g13_g9.symm))
  (try simp only [nn])
  replace H := H.set4 [] (.bool (ng p1)) (.slice A26 (ln p1) c27) (.bool (ng p2)) (.slice A28 (ln p2) c29)
  clear f13 f11 f10 f9
  generalize ((((w31.setCell ⟨g13, 0, none⟩ (.bool (ng p1))).setCell ⟨g13, 1, none⟩ (.slice A26 (ln p1) c27)).setCell ⟨g13, 2, none⟩ (.bool (ng p2))).setCell ⟨g13, 3, none⟩ (.slice A28 (ln p2) c29)) = w33 at H ⊢
  have f13 := H.b4 (g := g13) m0
  have f11 := H.b4 (g := g11) m1
  have f10 := H.b2 (g := g10) m2
  have f9 := H.b2 (g := g9) m3
  rcases hcs.out with ⟨e1, t1, hs1, hs2⟩ | ⟨e1, t1, he, hc1, hg1, hsd⟩
  subst e1; replace hs1 := Aside0.mk hs1; replace hs2 := Aside0.mk hs2
  rcases hc2.out with z2 | ⟨⟨x1, z1, y1⟩, ⟨x2, z2, y2⟩, z5⟩
  · skip
    rcases z2 with ⟨x2, z2, y2⟩ | ⟨⟨x2, z2, y2⟩, x3, z3, y3⟩
    · skip
      have st35 := trivial
      have st37 := trivial
      go_wp2_with (first
        | (clear st35; go_at_call 54; (with_reducible refine (SignR (lim bf1.out (by decide)) 0 hs1.out).mono ?_); rintro e w34 ⟨rfl, hb⟩; replace H := H.call hb; clear hb; clear f13 f11 f10 f9; have f13 := H.b4 (g := g13) m0; have f11 := H.b4 (g := g11) m1; have f10 := H.b2 (g := g10) m2; have f9 := H.b2 (g := g9) m3)
        | (clear st37; go_at_call 54; (with_reducible refine (SignR (lim bp1.out (by decide)) 0 hs2.out).mono ?_); rintro e w36 ⟨rfl, hb⟩; replace H := H.call hb; clear hb; clear f13 f11 f10 f9; have f13 := H.b4 (g := g13) m0; have f11 := H.b4 (g := g11) m1; have f10 := H.b2 (g := g10) m2; have f9 := H.b2 (g := g9) m3))
      go_ret
      exact ⟨rfl, H.below⟩
    · skip
      have st39 := trivial
      have st41 := trivial
      go_wp2_with (first
        | (clear st39; go_at_call 54; (with_reducible refine (SignR (lim bf1.out (by decide)) 0 hs1.out).mono ?_); rintro e w38 ⟨rfl, hb⟩; replace H := H.call hb; clear hb; clear f13 f11 f10 f9; have f13 := H.b4 (g := g13) m0; have f11 := H.b4 (g := g11) m1; have f10 := H.b2 (g := g10) m2; have f9 := H.b2 (g := g9) m3)
        | (clear st41; go_at_call 54; (with_reducible refine (SignR (lim bp1.out (by decide)) 0 hs2.out).mono ?_); rintro e w40 ⟨rfl, hb⟩; replace H := H.call hb; clear hb; clear f13 f11 f10 f9; have f13 := H.b4 (g := g13) m0; have f11 := H.b4 (g := g11) m1; have f10 := H.b2 (g := g10) m2; have f9 := H.b2 (g := g9) m3))
      go_ret
      exact ⟨rfl, H.below⟩
  have st43 := trivial
  have st45 := trivial
  have st504 := trivial
  have st506 := trivial
  go_upto_region 14 with (first
    | (clear st43; go_at_call 54; (with_reducible refine (SignR (lim bf1.out (by decide)) 0 hs1.out).mono ?_); rintro e w42 ⟨rfl, hb⟩; replace H := H.call hb; clear hb; clear f13 f11 f10 f9; have f13 := H.b4 (g := g13) m0; have f11 := H.b4 (g := g11) m1; have f10 := H.b2 (g := g10) m2; have f9 := H.b2 (g := g9) m3)
    | (clear st45; go_at_call 54; (with_reducible refine (SignR (lim bp1.out (by decide)) 0 hs2.out).mono ?_); rintro e w44 ⟨rfl, hb⟩; replace H := H.call hb; clear hb; clear f13 f11 f10 f9; have f13 := H.b4 (g := g13) m0; have f11 := H.b4 (g := g11) m1; have f10 := H.b2 (g := g10) m2; have f9 := H.b2 (g := g9) m3)
    | (clear st504; go_at_call 23; (with_reducible refine (ParseQ a _ P ea hPa.out).mono ?_); rintro e w501 ⟨A502, c503, rfl, hr, hb⟩; replace H := H.got (fresh_row hr) hb; clear hr hb; clear f13 f11 f10 f9; have f13 := H.b4 (g := g13) m0; have f11 := H.b4 (g := g11) m1; have f10 := H.b2 (g := g10) m2; have f9 := H.b2 (g := g9) m3)
    | (clear st506; (with_reducible refine gate_dst (N := 15) rfl ?_); refine bE #[.bool false, .slice none 0 0] 25 H ?_; clear H; intro g15 w505 H; clear f13 f11 f10 f9; have f15 := H.b2 (g := g15) m0; have f13 := H.b4 (g := g13) m1; have f11 := H.b4 (g := g11) m2; have f10 := H.b2 (g := g10) m3; have f9 := H.b2 (g := g9) m4; have ne_g15_g13 := H.ne (g := g15) (g' := g13) 0 1 rfl rfl (by decide); have ne_g13_g15 := ne_g15_g13.symm; have ne_g15_g11 := H.ne (g := g15) (g' := g11) 0 2 rfl rfl (by decide); have ne_g11_g15 := ne_g15_g11.symm; have ne_g15_g10 := H.ne (g := g15) (g' := g10) 0 3 rfl rfl (by decide); have ne_g10_g15 := ne_g15_g10.symm; have ne_g15_g9 := H.ne (g := g15) (g' := g9) 0 4 rfl rfl (by decide); have ne_g9_g15 := ne_g15_g9.symm))
  (try simp only [nn])
  replace H := ((H.setn [] 0 (.bool (ng P)) rfl).setn [] 1 (.slice A502 (ln P) c503) rfl)
  clear f15 f13 f11 f10 f9
  generalize ((w505.setCell ⟨g15, 0, none⟩ (.bool (ng P))).setCell ⟨g15, 1, none⟩ (.slice A502 (ln P) c503)) = w507 at H ⊢
  have f15 := H.b2 (g := g15) m0
  have f13 := H.b4 (g := g13) m1
  have f11 := H.b4 (g := g11) m2
  have f10 := H.b2 (g := g10) m3
  have f9 := H.b2 (g := g9) m4
  clear f15 f13 f11 f10 f9
  generalize w507 = wJ at H ⊢
  replace H := H.fewer (fs' := [bw A502 c503 P]) (List.Sublist.refl _) (fun f hf => by rcases List.mem_cons.mp hf with rfl | hf; exact m0; cases hf)
  rotate_left
  subst e1; replace he := Aside0.mk he; replace hc1 := Aside0.mk hc1; replace hg1 := Aside0.mk hg1; replace hsd := Aside0.mk hsd
  go_upto_region 9 with fail
  (try simp only [nn])
  clear f13 f11 f10 f9
  replace H := H.drew
  refine start_ (n := 40) (S := fun w' => w'.cell? ⟨g11, 0, none⟩ = some (.bool (ng f1)) ∧ w'.cell? ⟨g11, 1, none⟩ = some (.slice A17 (ln f1) c18) ∧ w'.cell? ⟨g11, 2, none⟩ = some (.bool (ng f2)) ∧ w'.cell? ⟨g11, 3, none⟩ = some (.slice A19 (ln f2) c20) ∧ w'.cell? ⟨g13, 0, none⟩ = some (.bool (ng p1)) ∧ w'.cell? ⟨g13, 1, none⟩ = some (.slice A26 (ln p1) c27) ∧ w'.cell? ⟨g13, 2, none⟩ = some (.bool (ng p2)) ∧ w'.cell? ⟨g13, 3, none⟩ = some (.slice A28 (ln p2) c29) ∧ w'.cell? ⟨g10, 0, none⟩ = some (.bool (ng z)) ∧ w'.cell? ⟨g10, 1, none⟩ = some (.slice A8 (ln z) c9) ∧ w'.cell? ⟨g9, 0, none⟩ = some (.bool (ng x)) ∧ w'.cell? ⟨g9, 1, none⟩ = some (.slice A4 (ln x) c5)) (ds := []) #[false, false, false, false, false, false, false, false, false, false, false, false, false, false, false, false, false, false, false, false, false, false, false, false, false, false, false, false, false, false, false, false, false, false, false, false, false, false, false, false] (by kernel_rfl) rfl rfl (H.c4 m1 (H.c4 m0 (H.c2 m2 (H.d2 m3)))) (fun hQ => ?_)
  generalize w33.drew = w508 at H hQ ⊢
  refine with_tabW tb17.tab9 tb17.bits9 (fun HT_ HW_ => ?_)
  refine pT HT_ 0 61 (bm 40 1) ?_
  refine pT HT_ 1 62 (bm 40 3) ?_
  refine pT HT_ 2 63 (bm 40 7) ?_
  refine pT HT_ 3 64 (bm 40 15) ?_
  refine pT HT_ 4 65 (bm 40 31) ?_
  refine pT HT_ 5 66 (bm 40 63) ?_
  refine pT HT_ 6 67 (bm 40 127) ?_
  refine tT HT_ HW_ hQ 7 68 (bm 40 255) ?_
  refine tT HT_ HW_ hQ 8 69 (bm 40 511) ?_
  refine oT HT_ 9 70 (bm 40 1023) (fun K hK => ?_)
  refine gT Try.func40 #[.agg #[.bool (ng f1), .slice A17 (ln f1) c18, .bool (ng f2), .slice A19 (ln f2) c20], .agg #[.bool (ng p1), .slice A26 (ln p1) c27, .bool (ng p2), .slice A28 (ln p2) c29]] ?_
  with_reducible refine (Same_t (H.row _ m3) (H.row _ m2) (H.row _ m1) (H.row _ m0) (limR bf1.out (by decide)) (limR bf2.out (by decide)) (limR bp1.out (by decide)) (limR bp2.out (by decide)) (same1 he.out) (same2 he.out)).mono ?_
  rintro e w509 ⟨rfl, hb⟩
  replace H := H.call hb
  clear hb
  refine ⟨_, rfl, ?_⟩
  refine hK.out _ _ (H.c4 m1 (H.c4 m0 (H.c2 m2 (H.d2 m3)))) (fun hQ => ?_)
  clear hK K
  refine nT ?_
  refine pT HT_ 10 71 (bm 40 2047) ?_
  refine pT HT_ 11 72 (bm 40 4095) ?_
  refine pT HT_ 12 73 (bm 40 8191) ?_
  refine tT HT_ HW_ hQ 13 74 (bm 40 16383) ?_
  refine tT HT_ HW_ hQ 15 76 (bm 40 49151) ?_
  refine tT HT_ HW_ hQ 17 78 (bm 40 180223) ?_
  refine tT HT_ HW_ hQ 19 80 (bm 40 704511) ?_
  refine oT HT_ 14 75 (bm 40 720895) (fun K hK => ?_)
  refine gT Try.func45 #[.agg #[.bool (ng f1), .slice A17 (ln f1) c18, .bool (ng f2), .slice A19 (ln f2) c20]] ?_
  with_reducible refine (NumQ (H.row _ m3) (H.row _ m2) (limR bf1.out (by decide)) (limR bf2.out (by decide)) nf hnf.out).mono ?_
  rintro e w510 ⟨A511, c512, rfl, hr, hb⟩
  replace H := H.got hr hb
  clear hr hb
  refine ⟨_, rfl, ?_⟩
  refine hK.out _ _ (H.c4 m1 (H.c4 m0 (H.c2 m2 (H.d2 m3)))) (fun hQ => ?_)
  clear hK K
  refine nT ?_
  refine oT HT_ 16 77 (bm 40 786431) (fun K hK => ?_)
  refine gT Try.func31 #[.agg #[.bool (ng nf), .slice A511 (ln nf) c512], .agg #[.bool (ng z), .slice A8 (ln z) c9]] ?_
  with_reducible refine (MulQ (H.row _ m0) (H.row _ m5) (lim bnf.out (by decide)) (lim bz.out (by decide)) a1 ha1.out).mono ?_
  rintro e w513 ⟨A514, c515, rfl, hr, hb⟩
  replace H := H.got hr hb
  clear hr hb
  refine ⟨_, rfl, ?_⟩
  refine hK.out _ _ (H.c4 m1 (H.c4 m0 (H.c2 m2 (H.d2 m3)))) (fun hQ => ?_)
  clear hK K
  refine nT ?_
  refine oT HT_ 18 79 (bm 40 1048575) (fun K hK => ?_)
  refine gT Try.func47 #[.agg #[.bool (ng f1), .slice A17 (ln f1) c18, .bool (ng f2), .slice A19 (ln f2) c20]] ?_
  with_reducible refine (DenQ (H.row _ m5) (H.row _ m4) (limR bf1.out (by decide)) (limR bf2.out (by decide)) df hdf.out).mono ?_
  rintro e w516 ⟨A517, c518, rfl, hr, hb⟩
  replace H := H.got hr hb
  clear hr hb
  refine ⟨_, rfl, ?_⟩
  refine hK.out _ _ (H.c4 m1 (H.c4 m0 (H.c2 m2 (H.d2 m3)))) (fun hQ => ?_)
  clear hK K
  refine nT ?_
  refine oT HT_ 20 81 (bm 40 2097151) (fun K hK => ?_)
  refine gT Try.func31 #[.agg #[.bool (ng df), .slice A517 (ln df) c518], .agg #[.bool (ng x), .slice A4 (ln x) c5]] ?_
  with_reducible refine (MulQ (H.row _ m0) (H.row _ m8) (lim bdf.out (by decide)) (lim bx.out (by decide)) a2 ha2.out).mono ?_
  rintro e w519 ⟨A520, c521, rfl, hr, hb⟩
  replace H := H.got hr hb
  clear hr hb
  refine ⟨_, rfl, ?_⟩
  refine hK.out _ _ (H.c4 m1 (H.c4 m0 (H.c2 m2 (H.d2 m3)))) (fun hQ => ?_)
  clear hK K
  refine nT ?_
  refine oT HT_ 21 82 (bm 40 4194303) (fun K hK => ?_)
  refine gT Try.func34 #[.agg #[.bool (ng a1), .slice A514 (ln a1) c515], .agg #[.bool (ng a2), .slice A520 (ln a2) c521]] ?_
  with_reducible refine (CmpQ (H.row _ m2) (H.row _ m0) (lim ba1.out (by decide)) (lim ba2.out (by decide)) 0 hc1.out).mono ?_
  rintro e w522 ⟨rfl, hb⟩
  replace H := H.call hb
  clear hb
  refine ⟨_, rfl, ?_⟩
  refine hK.out _ _ (H.c4 m1 (H.c4 m0 (H.c2 m2 (H.d2 m3)))) (fun hQ => ?_)
  clear hK K
  refine nT ?_
  refine pT HT_ 22 83 (bm 40 8388607) ?_
  refine pT HT_ 23 84 (bm 40 16777215) ?_
  refine pT HT_ 24 85 (bm 40 33554431) ?_
  refine tT HT_ HW_ hQ 25 86 (bm 40 67108863) ?_
  refine tT HT_ HW_ hQ 27 88 (bm 40 201326591) ?_
  refine oT HT_ 26 87 (bm 40 268435455) (fun K hK => ?_)
  refine gT Try.func45 #[.agg #[.bool (ng f1), .slice A17 (ln f1) c18, .bool (ng f2), .slice A19 (ln f2) c20]] ?_
  with_reducible refine (NumQ (H.row _ m7) (H.row _ m6) (limR bf1.out (by decide)) (limR bf2.out (by decide)) nf hnf.out).mono ?_
  rintro e w523 ⟨A524, c525, rfl, hr, hb⟩
  replace H := H.got hr hb
  clear hr hb
  refine ⟨_, rfl, ?_⟩
  refine hK.out _ _ (H.c4 m1 (H.c4 m0 (H.c2 m2 (H.d2 m3)))) (fun hQ => ?_)
  clear hK K
  refine nT ?_
  refine oT HT_ 28 89 (bm 40 536870911) (fun K hK => ?_)
  refine gT Try.func47 #[.agg #[.bool (ng f1), .slice A17 (ln f1) c18, .bool (ng f2), .slice A19 (ln f2) c20]] ?_
  with_reducible refine (DenQ (H.row _ m8) (H.row _ m7) (limR bf1.out (by decide)) (limR bf2.out (by decide)) df hdf.out).mono ?_
  rintro e w526 ⟨A527, c528, rfl, hr, hb⟩
  replace H := H.got hr hb
  clear hr hb
  refine ⟨_, rfl, ?_⟩
  refine hK.out _ _ (H.c4 m1 (H.c4 m0 (H.c2 m2 (H.d2 m3)))) (fun hQ => ?_)
  clear hK K
  refine nT ?_
  refine oT HT_ 29 90 (bm 40 1073741823) (fun K hK => ?_)
  refine gT Try.func61 #[.agg #[.bool (ng nf), .slice A524 (ln nf) c525], .agg #[.bool (ng df), .slice A527 (ln df) c528]] ?_
  with_reducible refine (GcdQ (H.row _ m1) (H.row _ m0) (lim bnf.out (by decide)) (lim bdf.out (by decide)) gg hgg.out).mono ?_
  rintro e w529 ⟨A530, c531, rfl, hr, hb⟩
  replace H := H.got hr hb
  clear hr hb
  refine ⟨_, rfl, ?_⟩
  refine hK.out _ _ (H.c4 m1 (H.c4 m0 (H.c2 m2 (H.d2 m3)))) (fun hQ => ?_)
  clear hK K
  refine nT ?_
  refine oT HT_ 30 91 (bm 40 2147483647) (fun K hK => ?_)
  refine gT Try.func27 #[.int .i64 1] ?_
  with_reducible refine (OfQ _ 1 i hi.out (by decide) (by decide)).mono ?_
  rintro e w532 ⟨A533, c534, rfl, hr, hb⟩
  replace H := H.got (fresh_row hr) hb
  clear hr hb
  refine ⟨_, rfl, ?_⟩
  refine hK.out _ _ (H.c4 m1 (H.c4 m0 (H.c2 m2 (H.d2 m3)))) (fun hQ => ?_)
  clear hK K
  refine nT ?_
  refine oT HT_ 31 92 (bm 40 4294967295) (fun K hK => ?_)
  refine gT Try.func34 #[.agg #[.bool (ng gg), .slice A530 (ln gg) c531], .agg #[.bool (ng i), .slice A533 (ln i) c534]] ?_
  with_reducible refine (CmpQ (H.row _ m1) (H.row _ m0) (lim bgg.out (by decide)) (lim bi.out (by decide)) 0 hg1.out).mono ?_
  rintro e w535 ⟨rfl, hb⟩
  replace H := H.call hb
  clear hb
  refine ⟨_, rfl, ?_⟩
  refine hK.out _ _ (H.c4 m1 (H.c4 m0 (H.c2 m2 (H.d2 m3)))) (fun hQ => ?_)
  clear hK K
  refine nT ?_
  refine pT HT_ 32 93 (bm 40 8589934591) ?_
  refine pT HT_ 33 94 (bm 40 17179869183) ?_
  refine pT HT_ 34 95 (bm 40 34359738367) ?_
  refine tT HT_ HW_ hQ 35 96 (bm 40 68719476735) ?_
  refine oT HT_ 36 97 (bm 40 137438953471) (fun K hK => ?_)
  refine gT Try.func47 #[.agg #[.bool (ng f1), .slice A17 (ln f1) c18, .bool (ng f2), .slice A19 (ln f2) c20]] ?_
  with_reducible refine (DenQ (H.row _ (mt m10)) (H.row _ m10) (limR bf1.out (by decide)) (limR bf2.out (by decide)) df hdf.out).mono ?_
  rintro e w536 ⟨A537, c538, rfl, hr, hb⟩
  replace H := H.got hr hb
  clear hr hb
  refine ⟨_, rfl, ?_⟩
  refine hK.out _ _ (H.c4 m1 (H.c4 m0 (H.c2 m2 (H.d2 m3)))) (fun hQ => ?_)
  clear hK K
  refine nT ?_
  refine oT HT_ 37 98 (bm 40 274877906943) (fun K hK => ?_)
  refine gT Try.func25 #[.agg #[.bool (ng df), .slice A537 (ln df) c538]] ?_
  with_reducible refine (SignQ _ _ _ (lim bdf.out (by decide)) 1 hsd.out).mono ?_
  rintro e w539 ⟨rfl, hb⟩
  replace H := H.call hb
  clear hb
  refine ⟨_, rfl, ?_⟩
  refine hK.out _ _ (H.c4 m1 (H.c4 m0 (H.c2 m2 (H.d2 m3)))) (fun hQ => ?_)
  clear hK K
  refine nT ?_
  refine pT HT_ 38 99 (bm 40 549755813887) ?_
  refine pT HT_ 39 100 (bm 40 1099511627775) ?_
  refine done_ (done_of HT_.out (by kernel_rfl)) ?_
  try clear hQ
  go_upto_region 11 with fail
  (try simp only [nn])
  have f13 := H.b4 (g := g13) m0
  have f11 := H.b4 (g := g11) m1
  have f10 := H.b2 (g := g10) m2
  have f9 := H.b2 (g := g9) m3
  rcases hc2.out with z2 | ⟨⟨x1, z1, y1⟩, ⟨x2, z2, y2⟩, z5⟩
  · skip
    rcases z2 with ⟨x2, z2, y2⟩ | ⟨⟨x2, z2, y2⟩, x3, z3, y3⟩
    · skip
      go_wp2
      go_ret
      exact ⟨rfl, H.below⟩
    · skip
      go_wp2
      go_ret
      exact ⟨rfl, H.below⟩
  have st504 := trivial
  have st506 := trivial
  go_upto_region 14 with (first
    | (clear st504; go_at_call 23; (with_reducible refine (ParseQ a _ P ea hPa.out).mono ?_); rintro e w501 ⟨A502, c503, rfl, hr, hb⟩; replace H := H.got (fresh_row hr) hb; clear hr hb; clear f13 f11 f10 f9; have f13 := H.b4 (g := g13) m0; have f11 := H.b4 (g := g11) m1; have f10 := H.b2 (g := g10) m2; have f9 := H.b2 (g := g9) m3)
    | (clear st506; (with_reducible refine gate_dst (N := 15) rfl ?_); refine bE #[.bool false, .slice none 0 0] 25 H ?_; clear H; intro g15 w505 H; clear f13 f11 f10 f9; have f15 := H.b2 (g := g15) m0; have f13 := H.b4 (g := g13) m1; have f11 := H.b4 (g := g11) m2; have f10 := H.b2 (g := g10) m3; have f9 := H.b2 (g := g9) m4; have ne_g15_g13 := H.ne (g := g15) (g' := g13) 0 1 rfl rfl (by decide); have ne_g13_g15 := ne_g15_g13.symm; have ne_g15_g11 := H.ne (g := g15) (g' := g11) 0 2 rfl rfl (by decide); have ne_g11_g15 := ne_g15_g11.symm; have ne_g15_g10 := H.ne (g := g15) (g' := g10) 0 3 rfl rfl (by decide); have ne_g10_g15 := ne_g15_g10.symm; have ne_g15_g9 := H.ne (g := g15) (g' := g9) 0 4 rfl rfl (by decide); have ne_g9_g15 := ne_g15_g9.symm))
  (try simp only [nn])
  replace H := ((H.setn [] 0 (.bool (ng P)) rfl).setn [] 1 (.slice A502 (ln P) c503) rfl)
  clear f15 f13 f11 f10 f9
  generalize ((w505.setCell ⟨g15, 0, none⟩ (.bool (ng P))).setCell ⟨g15, 1, none⟩ (.slice A502 (ln P) c503)) = w507 at H ⊢
  have f15 := H.b2 (g := g15) m0
  have f13 := H.b4 (g := g13) m1
  have f11 := H.b4 (g := g11) m2
  have f10 := H.b2 (g := g10) m3
  have f9 := H.b2 (g := g9) m4
  clear f15 f13 f11 f10 f9
  generalize w507 = wJ at H ⊢
  replace H := H.fewer (fs' := [bw A502 c503 P]) (List.Sublist.refl _) (fun f hf => by rcases List.mem_cons.mp hf with rfl | hf; exact m0; cases hf)
  rotate_left
  all_goals
    have f15 := H.b2 (g := g15) m0
    have f13 := H.b4 (g := g13) m1
    have f11 := H.b4 (g := g11) m2
    have f10 := H.b2 (g := g10) m3
    have f9 := H.b2 (g := g9) m4
    rcases z5 with z4 | ⟨z3, z4, hFa, hFb, z5⟩
    · skip
      rcases z4 with z4 | ⟨z4, z5⟩
      · skip
        have st511 := trivial
        have st513 := trivial
        go_wp2_with (first
          | (clear st511; go_at_call 23; (with_reducible refine (ParseQ b _ Q _ hPb.out).mono ?_); rintro e w508 ⟨A509, c510, rfl, hr, hb⟩; replace H := H.got (fresh_row hr) hb; clear hr hb; clear f15 f13 f11 f10 f9; have f15 := H.b2 (g := g15) m0; have f13 := H.b4 (g := g13) m1; have f11 := H.b4 (g := g11) m2; have f10 := H.b2 (g := g10) m3; have f9 := H.b2 (g := g9) m4)
          | (clear st513; (with_reducible refine gate_dst (N := 17) rfl ?_); refine bE #[.bool false, .slice none 0 0] 25 H ?_; clear H; intro g17 w512 H; clear f15 f13 f11 f10 f9; have f17 := H.b2 (g := g17) m0; have f15 := H.b2 (g := g15) m1; have f13 := H.b4 (g := g13) m2; have f11 := H.b4 (g := g11) m3; have f10 := H.b2 (g := g10) m4; have f9 := H.b2 (g := g9) m5; have ne_g17_g15 := H.ne (g := g17) (g' := g15) 0 1 rfl rfl (by decide); have ne_g15_g17 := ne_g17_g15.symm; have ne_g17_g13 := H.ne (g := g17) (g' := g13) 0 2 rfl rfl (by decide); have ne_g13_g17 := ne_g17_g13.symm; have ne_g17_g11 := H.ne (g := g17) (g' := g11) 0 3 rfl rfl (by decide); have ne_g11_g17 := ne_g17_g11.symm; have ne_g17_g10 := H.ne (g := g17) (g' := g10) 0 4 rfl rfl (by decide); have ne_g10_g17 := ne_g17_g10.symm; have ne_g17_g9 := H.ne (g := g17) (g' := g9) 0 5 rfl rfl (by decide); have ne_g9_g17 := ne_g17_g9.symm))
        replace H := ((H.setn [] 0 (.bool (ng Q)) rfl).setn [] 1 (.slice A509 (ln Q) c510) rfl)
        go_ret
        exact ⟨rfl, H.below⟩
      · skip
        have st517 := trivial
        have st519 := trivial
        go_wp2_with (first
          | (clear st517; go_at_call 23; (with_reducible refine (ParseQ b _ Q _ hPb.out).mono ?_); rintro e w514 ⟨A515, c516, rfl, hr, hb⟩; replace H := H.got (fresh_row hr) hb; clear hr hb; clear f15 f13 f11 f10 f9; have f15 := H.b2 (g := g15) m0; have f13 := H.b4 (g := g13) m1; have f11 := H.b4 (g := g11) m2; have f10 := H.b2 (g := g10) m3; have f9 := H.b2 (g := g9) m4)
          | (clear st519; (with_reducible refine gate_dst (N := 17) rfl ?_); refine bE #[.bool false, .slice none 0 0] 25 H ?_; clear H; intro g17 w518 H; clear f15 f13 f11 f10 f9; have f17 := H.b2 (g := g17) m0; have f15 := H.b2 (g := g15) m1; have f13 := H.b4 (g := g13) m2; have f11 := H.b4 (g := g11) m3; have f10 := H.b2 (g := g10) m4; have f9 := H.b2 (g := g9) m5; have ne_g17_g15 := H.ne (g := g17) (g' := g15) 0 1 rfl rfl (by decide); have ne_g15_g17 := ne_g17_g15.symm; have ne_g17_g13 := H.ne (g := g17) (g' := g13) 0 2 rfl rfl (by decide); have ne_g13_g17 := ne_g17_g13.symm; have ne_g17_g11 := H.ne (g := g17) (g' := g11) 0 3 rfl rfl (by decide); have ne_g11_g17 := ne_g17_g11.symm; have ne_g17_g10 := H.ne (g := g17) (g' := g10) 0 4 rfl rfl (by decide); have ne_g10_g17 := ne_g17_g10.symm; have ne_g17_g9 := H.ne (g := g17) (g' := g9) 0 5 rfl rfl (by decide); have ne_g9_g17 := ne_g17_g9.symm))
        replace H := ((H.setn [] 0 (.bool (ng Q)) rfl).setn [] 1 (.slice A515 (ln Q) c516) rfl)
        go_ret
        exact ⟨rfl, H.below⟩
    · skip
      subst z3 z4; replace hFa := Aside0.mk hFa; replace hFb := Aside0.mk hFb
      have st523 := trivial
      have st525 := trivial
      have st529 := trivial
      have st531 := trivial
      go_upto_region 18 with (first
        | (clear st523; go_at_call 23; (with_reducible refine (ParseQ b _ Q _ hPb.out).mono ?_); rintro e w520 ⟨A521, c522, rfl, hr, hb⟩; replace H := H.got (fresh_row hr) hb; clear hr hb; clear f15 f13 f11 f10 f9; have f15 := H.b2 (g := g15) m0; have f13 := H.b4 (g := g13) m1; have f11 := H.b4 (g := g11) m2; have f10 := H.b2 (g := g10) m3; have f9 := H.b2 (g := g9) m4)
        | (clear st525; (with_reducible refine gate_dst (N := 17) rfl ?_); refine bE #[.bool false, .slice none 0 0] 25 H ?_; clear H; intro g17 w524 H; clear f15 f13 f11 f10 f9; have f17 := H.b2 (g := g17) m0; have f15 := H.b2 (g := g15) m1; have f13 := H.b4 (g := g13) m2; have f11 := H.b4 (g := g11) m3; have f10 := H.b2 (g := g10) m4; have f9 := H.b2 (g := g9) m5; have ne_g17_g15 := H.ne (g := g17) (g' := g15) 0 1 rfl rfl (by decide); have ne_g15_g17 := ne_g17_g15.symm; have ne_g17_g13 := H.ne (g := g17) (g' := g13) 0 2 rfl rfl (by decide); have ne_g13_g17 := ne_g17_g13.symm; have ne_g17_g11 := H.ne (g := g17) (g' := g11) 0 3 rfl rfl (by decide); have ne_g11_g17 := ne_g17_g11.symm; have ne_g17_g10 := H.ne (g := g17) (g' := g10) 0 4 rfl rfl (by decide); have ne_g10_g17 := ne_g17_g10.symm; have ne_g17_g9 := H.ne (g := g17) (g' := g9) 0 5 rfl rfl (by decide); have ne_g9_g17 := ne_g17_g9.symm)
        | (clear st529; go_at_call 24; replace H := ((H.setn [] 0 (.bool (ng Q)) rfl).setn [] 1 (.slice A521 (ln Q) c522) rfl); (with_reducible refine (hFa.out _).mono ?_); rintro e w526 ⟨A527, c528, rfl, hr, hb⟩; replace H := H.got (fresh_row hr) hb; clear hr hb; clear f17 f15 f13 f11 f10 f9; have f17 := H.b2 (g := g17) m0; have f15 := H.b2 (g := g15) m1; have f13 := H.b4 (g := g13) m2; have f11 := H.b4 (g := g11) m3; have f10 := H.b2 (g := g10) m4; have f9 := H.b2 (g := g9) m5)
        | (clear st531; (with_reducible refine gate_dst (N := 19) rfl ?_); refine bE #[.int .i64 0, .slice none 0 0] 31 H ?_; clear H; intro g19 w530 H; clear f17 f15 f13 f11 f10 f9; have f19 := H.b2 (g := g19) m0; have f17 := H.b2 (g := g17) m1; have f15 := H.b2 (g := g15) m2; have f13 := H.b4 (g := g13) m3; have f11 := H.b4 (g := g11) m4; have f10 := H.b2 (g := g10) m5; have f9 := H.b2 (g := g9) m6; have ne_g19_g17 := H.ne (g := g19) (g' := g17) 0 1 rfl rfl (by decide); have ne_g17_g19 := ne_g19_g17.symm; have ne_g19_g15 := H.ne (g := g19) (g' := g15) 0 2 rfl rfl (by decide); have ne_g15_g19 := ne_g19_g15.symm; have ne_g19_g13 := H.ne (g := g19) (g' := g13) 0 3 rfl rfl (by decide); have ne_g13_g19 := ne_g19_g13.symm; have ne_g19_g11 := H.ne (g := g19) (g' := g11) 0 4 rfl rfl (by decide); have ne_g11_g19 := ne_g19_g11.symm; have ne_g19_g10 := H.ne (g := g19) (g' := g10) 0 5 rfl rfl (by decide); have ne_g10_g19 := ne_g19_g10.symm; have ne_g19_g9 := H.ne (g := g19) (g' := g9) 0 6 rfl rfl (by decide); have ne_g9_g19 := ne_g19_g9.symm))
      (try simp only [nn])
      replace H := ((H.setn [] 0 (.int .i64 (sg u)) rfl).setn [] 1 (.slice A527 (dn u) c528) rfl)
      clear f19 f17 f15 f13 f11 f10 f9
      generalize ((w530.setCell ⟨g19, 0, none⟩ (.int .i64 (sg u))).setCell ⟨g19, 1, none⟩ (.slice A527 (dn u) c528)) = w532 at H ⊢
      have f19 := H.b2 (g := g19) m0
      have f17 := H.b2 (g := g17) m1
      have f15 := H.b2 (g := g15) m2
      have f13 := H.b4 (g := g13) m3
      have f11 := H.b4 (g := g11) m4
      have f10 := H.b2 (g := g10) m5
      have f9 := H.b2 (g := g9) m6
      have st536 := trivial
      have st538 := trivial
      go_upto_region 19 with (first
        | (clear st536; go_at_call 24; (with_reducible refine (hFb.out _).mono ?_); rintro e w533 ⟨A534, c535, rfl, hr, hb⟩; replace H := H.got (fresh_row hr) hb; clear hr hb; clear f19 f17 f15 f13 f11 f10 f9; have f19 := H.b2 (g := g19) m0; have f17 := H.b2 (g := g17) m1; have f15 := H.b2 (g := g15) m2; have f13 := H.b4 (g := g13) m3; have f11 := H.b4 (g := g11) m4; have f10 := H.b2 (g := g10) m5; have f9 := H.b2 (g := g9) m6)
        | (clear st538; (with_reducible refine gate_dst (N := 21) rfl ?_); refine bE #[.int .i64 0, .slice none 0 0] 31 H ?_; clear H; intro g21 w537 H; clear f19 f17 f15 f13 f11 f10 f9; have f21 := H.b2 (g := g21) m0; have f19 := H.b2 (g := g19) m1; have f17 := H.b2 (g := g17) m2; have f15 := H.b2 (g := g15) m3; have f13 := H.b4 (g := g13) m4; have f11 := H.b4 (g := g11) m5; have f10 := H.b2 (g := g10) m6; have f9 := H.b2 (g := g9) m7; have ne_g21_g19 := H.ne (g := g21) (g' := g19) 0 1 rfl rfl (by decide); have ne_g19_g21 := ne_g21_g19.symm; have ne_g21_g17 := H.ne (g := g21) (g' := g17) 0 2 rfl rfl (by decide); have ne_g17_g21 := ne_g21_g17.symm; have ne_g21_g15 := H.ne (g := g21) (g' := g15) 0 3 rfl rfl (by decide); have ne_g15_g21 := ne_g21_g15.symm; have ne_g21_g13 := H.ne (g := g21) (g' := g13) 0 4 rfl rfl (by decide); have ne_g13_g21 := ne_g21_g13.symm; have ne_g21_g11 := H.ne (g := g21) (g' := g11) 0 5 rfl rfl (by decide); have ne_g11_g21 := ne_g21_g11.symm; have ne_g21_g10 := H.ne (g := g21) (g' := g10) 0 6 rfl rfl (by decide); have ne_g10_g21 := ne_g21_g10.symm; have ne_g21_g9 := H.ne (g := g21) (g' := g9) 0 7 rfl rfl (by decide); have ne_g9_g21 := ne_g21_g9.symm))
      (try simp only [nn])
      replace H := ((H.setn [] 0 (.int .i64 (sg v)) rfl).setn [] 1 (.slice A534 (dn v) c535) rfl)
      clear f21 f19 f17 f15 f13 f11 f10 f9
      generalize ((w537.setCell ⟨g21, 0, none⟩ (.int .i64 (sg v))).setCell ⟨g21, 1, none⟩ (.slice A534 (dn v) c535)) = w539 at H ⊢
      have f21 := H.b2 (g := g21) m0
      have f19 := H.b2 (g := g19) m1
      have f17 := H.b2 (g := g17) m2
      have f15 := H.b2 (g := g15) m3
      have f13 := H.b4 (g := g13) m4
      have f11 := H.b4 (g := g11) m5
      have f10 := H.b2 (g := g10) m6
      have f9 := H.b2 (g := g9) m7
      have st545 := trivial
      have st547 := trivial
      go_upto_region 20 with (first
        | (clear st545; go_at_call 63; (with_reducible refine (MakeQ (H.row _ m3) (H.row _ m2) (lim bP.out (by decide)) (lim bQ.out (by decide)) r1 r2 e3 hR.out.1 hR.out.2.1 hR.out.2.2).mono ?_); rintro e w540 ⟨A541, c542, A543, c544, rfl, hr, hr2, hb⟩; replace H := (H.got hr hb).more ((H.got hr2 hb).row _ m0); clear hr hr2 hb; clear f21 f19 f17 f15 f13 f11 f10 f9; have f21 := H.b2 (g := g21) m0; have f19 := H.b2 (g := g19) m1; have f17 := H.b2 (g := g17) m2; have f15 := H.b2 (g := g15) m3; have f13 := H.b4 (g := g13) m4; have f11 := H.b4 (g := g11) m5; have f10 := H.b2 (g := g10) m6; have f9 := H.b2 (g := g9) m7)
        | (clear st547; (with_reducible refine gate_dst (N := 23) rfl ?_); refine bE #[.bool false, .slice none 0 0, .bool false, .slice none 0 0] 51 H ?_; clear H; intro g23 w546 H; clear f21 f19 f17 f15 f13 f11 f10 f9; have f23 := H.b4 (g := g23) m0; have f21 := H.b2 (g := g21) m1; have f19 := H.b2 (g := g19) m2; have f17 := H.b2 (g := g17) m3; have f15 := H.b2 (g := g15) m4; have f13 := H.b4 (g := g13) m5; have f11 := H.b4 (g := g11) m6; have f10 := H.b2 (g := g10) m7; have f9 := H.b2 (g := g9) m8; have ne_g23_g21 := H.ne (g := g23) (g' := g21) 0 1 rfl rfl (by decide); have ne_g21_g23 := ne_g23_g21.symm; have ne_g23_g19 := H.ne (g := g23) (g' := g19) 0 2 rfl rfl (by decide); have ne_g19_g23 := ne_g23_g19.symm; have ne_g23_g17 := H.ne (g := g23) (g' := g17) 0 3 rfl rfl (by decide); have ne_g17_g23 := ne_g23_g17.symm; have ne_g23_g15 := H.ne (g := g23) (g' := g15) 0 4 rfl rfl (by decide); have ne_g15_g23 := ne_g23_g15.symm; have ne_g23_g13 := H.ne (g := g23) (g' := g13) 0 5 rfl rfl (by decide); have ne_g13_g23 := ne_g23_g13.symm; have ne_g23_g11 := H.ne (g := g23) (g' := g11) 0 6 rfl rfl (by decide); have ne_g11_g23 := ne_g23_g11.symm; have ne_g23_g10 := H.ne (g := g23) (g' := g10) 0 7 rfl rfl (by decide); have ne_g10_g23 := ne_g23_g10.symm; have ne_g23_g9 := H.ne (g := g23) (g' := g9) 0 8 rfl rfl (by decide); have ne_g9_g23 := ne_g23_g9.symm))
      (try simp only [nn])
      replace H := H.set4 [] (.bool (ng r1)) (.slice A541 (ln r1) c542) (.bool (ng r2)) (.slice A543 (ln r2) c544)
      clear f23 f21 f19 f17 f15 f13 f11 f10 f9
      generalize ((((w546.setCell ⟨g23, 0, none⟩ (.bool (ng r1))).setCell ⟨g23, 1, none⟩ (.slice A541 (ln r1) c542)).setCell ⟨g23, 2, none⟩ (.bool (ng r2))).setCell ⟨g23, 3, none⟩ (.slice A543 (ln r2) c544)) = w548 at H ⊢
      have f23 := H.b4 (g := g23) m0
      have f21 := H.b2 (g := g21) m1
      have f19 := H.b2 (g := g19) m2
      have f17 := H.b2 (g := g17) m3
      have f15 := H.b2 (g := g15) m4
      have f13 := H.b4 (g := g13) m5
      have f11 := H.b4 (g := g11) m6
      have f10 := H.b2 (g := g10) m7
      have f9 := H.b2 (g := g9) m8
      rcases z5 with ⟨e5, t5, h5⟩ | ⟨e5, t5, h5, h6⟩
      · skip
        subst e5; replace h5 := Aside0.mk h5
        have st550 := trivial
        have st552 := trivial
        go_wp2_with (first
          | (clear st550; go_at_call 25; (with_reducible refine (SignQ _ _ _ (lim bQ.out (by decide)) kq hkq.out).mono ?_); rintro e w549 ⟨rfl, hb⟩; replace H := H.call hb; clear hb; clear f23 f21 f19 f17 f15 f13 f11 f10 f9; have f23 := H.b4 (g := g23) m0; have f21 := H.b2 (g := g21) m1; have f19 := H.b2 (g := g19) m2; have f17 := H.b2 (g := g17) m3; have f15 := H.b2 (g := g15) m4; have f13 := H.b4 (g := g13) m5; have f11 := H.b4 (g := g11) m6; have f10 := H.b2 (g := g10) m7; have f9 := H.b2 (g := g9) m8)
          | (clear st552; go_at_call 54; (with_reducible refine (SignR (lim br1.out (by decide)) 0 h5.out).mono ?_); rintro e w551 ⟨rfl, hb⟩; replace H := H.call hb; clear hb; clear f23 f21 f19 f17 f15 f13 f11 f10 f9; have f23 := H.b4 (g := g23) m0; have f21 := H.b2 (g := g21) m1; have f19 := H.b2 (g := g19) m2; have f17 := H.b2 (g := g17) m3; have f15 := H.b2 (g := g15) m4; have f13 := H.b4 (g := g13) m5; have f11 := H.b4 (g := g11) m6; have f10 := H.b2 (g := g10) m7; have f9 := H.b2 (g := g9) m8))
        go_ret
        exact ⟨rfl, H.below⟩
      · skip
        subst e5; replace h5 := Aside0.mk h5; replace h6 := Aside0.mk h6
        have st554 := trivial
        go_upto_region 22 with (first
          | (clear st554; go_at_call 25; (with_reducible refine (SignQ _ _ _ (lim bQ.out (by decide)) kq hkq.out).mono ?_); rintro e w553 ⟨rfl, hb⟩; replace H := H.call hb; clear hb; clear f23 f21 f19 f17 f15 f13 f11 f10 f9; have f23 := H.b4 (g := g23) m0; have f21 := H.b2 (g := g21) m1; have f19 := H.b2 (g := g19) m2; have f17 := H.b2 (g := g17) m3; have f15 := H.b2 (g := g15) m4; have f13 := H.b4 (g := g13) m5; have f11 := H.b4 (g := g11) m6; have f10 := H.b2 (g := g10) m7; have f9 := H.b2 (g := g9) m8))
        (try simp only [nn])
        clear f23 f21 f19 f17 f15 f13 f11 f10 f9
        replace H := H.drew
        refine start_ (n := 18) (S := fun w' => w'.cell? ⟨g23, 0, none⟩ = some (.bool (ng r1)) ∧ w'.cell? ⟨g23, 1, none⟩ = some (.slice A541 (ln r1) c542) ∧ w'.cell? ⟨g23, 2, none⟩ = some (.bool (ng r2)) ∧ w'.cell? ⟨g23, 3, none⟩ = some (.slice A543 (ln r2) c544) ∧ w'.cell? ⟨g19, 0, none⟩ = some (.int .i64 (sg u)) ∧ w'.cell? ⟨g19, 1, none⟩ = some (.slice A527 (dn u) c528) ∧ w'.cell? ⟨g21, 0, none⟩ = some (.int .i64 (sg v)) ∧ w'.cell? ⟨g21, 1, none⟩ = some (.slice A534 (dn v) c535)) (ds := []) #[false, false, false, false, false, false, false, false, false, false, false, false, false, false, false, false, false, false] (by kernel_rfl) rfl rfl (H.c4 m0 (H.c2 m2 (H.d2 m1))) (fun hQ => ?_)
        generalize w553.drew = w555 at H hQ ⊢
        refine with_tabW tb17.tab22 tb17.bits22 (fun HT_ HW_ => ?_)
        refine pT HT_ 0 151 (bm 18 1) ?_
        refine pT HT_ 1 152 (bm 18 3) ?_
        refine pT HT_ 2 153 (bm 18 7) ?_
        refine pT HT_ 3 154 (bm 18 15) ?_
        refine pT HT_ 4 155 (bm 18 31) ?_
        refine pT HT_ 5 156 (bm 18 63) ?_
        refine pT HT_ 6 157 (bm 18 127) ?_
        refine pT HT_ 7 158 (bm 18 255) ?_
        refine pT HT_ 8 159 (bm 18 511) ?_
        refine tT HT_ HW_ hQ 9 160 (bm 18 1023) ?_
        refine tT HT_ HW_ hQ 11 162 (bm 18 3071) ?_
        refine tT HT_ HW_ hQ 12 163 (bm 18 7167) ?_
        refine oT HT_ 10 161 (bm 18 8191) (fun K hK => ?_)
        refine gT Try.func46 #[.agg #[.bool (ng r1), .slice A541 (ln r1) c542, .bool (ng r2), .slice A543 (ln r2) c544]] ?_
        with_reducible refine (TextR (H.row _ m1) (H.row _ m0) (limR br1.out (by decide)) (limR br2.out (by decide)) t ht.out).mono ?_
        rintro e w556 ⟨rfl, hb⟩
        replace H := H.call hb
        clear hb
        refine ⟨_, rfl, ?_⟩
        refine hK.out _ _ (H.c4 m0 (H.c2 m2 (H.d2 m1))) (fun hQ => ?_)
        clear hK K
        refine nT ?_
        refine oT HT_ 13 164 (bm 18 16383) (fun K hK => ?_)
        refine gT Try.func65 #[.agg #[.int .i64 (sg u), .slice A527 (dn u) c528], .agg #[.int .i64 (sg v), .slice A534 (dn v) c535]] ?_
        with_reducible refine (MakeF (H.row _ m3) (H.row _ m2) (Nat.le_trans bu.out (by decide)) (Nat.le_trans bv.out (by decide)) s1 s2 h5.out).mono ?_
        rintro e w557 ⟨A558, c559, A560, c561, rfl, hr, hr2, hb⟩
        replace H := (H.got hr hb).more ((H.got hr2 hb).row _ m0)
        clear hr hr2 hb
        refine ⟨_, rfl, ?_⟩
        refine hK.out _ _ (H.c4 m0 (H.c2 m2 (H.d2 m1))) (fun hQ => ?_)
        clear hK K
        refine nT ?_
        refine oT HT_ 14 165 (bm 18 32767) (fun K hK => ?_)
        refine gT Try.func64 #[.agg #[.int .i64 (sg s1), .slice A558 (dn s1) c559, .int .i64 (sg s2), .slice A560 (dn s2) c561]] ?_
        with_reducible refine (TextF (H.row _ m1) (H.row _ m0) (Nat.le_trans bs1.out (by decide)) (Nat.le_trans bs2.out (by decide)) t h6.out).mono ?_
        rintro e w562 ⟨rfl, hb⟩
        replace H := H.call hb
        clear hb
        refine ⟨_, rfl, ?_⟩
        refine hK.out _ _ (H.c4 m0 (H.c2 m2 (H.d2 m1))) (fun hQ => ?_)
        clear hK K
        refine nT ?_
        refine pT HT_ 15 166 (bm 18 65535) ?_
        refine pT HT_ 16 167 (bm 18 131071) ?_
        refine pT HT_ 17 8 (bm 18 262143) ?_
        refine done_ (done_of HT_.out (by kernel_rfl)) ?_
        try clear hQ
        go_wp2
        go_ret
        exact ⟨rfl, H.below⟩

theorem mak_walk (a b : ByteArray) (n d : Int) (w : World) (n0 : -9223372036854775808 ≤ n) (n1 : n ≤ 9223372036854775807) (d0 : -9223372036854775808 ≤ d) (d1 : d ≤ 9223372036854775807) : Calls Try.prog 17 #[.string a, .string b, .int .i64 n, .int .i64 d] w (fun e W' => e = .returned (.bool true) ∧ Below w.heap.size w W') := by
  have bn : ln n ≤ 2 := ln_bound n 2 (by omega)
  have bd : ln d ≤ 2 := ln_bound d 2 (by omega)
  have b1 : ln 1 ≤ 2 := Nat.le_trans (ln_bound 1 1 (by decide)) (by decide)
  have up : ∀ {x : Int}, ln x ≤ 2 → ln x ≤ 1500 := fun h => Nat.le_trans h (by decide)
  have up2 : ∀ {x : Int}, ln x ≤ 512 → ln x ≤ 1500 := fun h => Nat.le_trans h (by decide)
  have du : ∀ {x : Int}, ln x ≤ 1500 → dn x ≤ 15000 := fun h => Nat.le_trans (dn_ln h) (by decide)
  have c1 := bQn (d := d) bn rfl
  have c2 := bQd (n := n) bd rfl
  have c3 := bDd c2 (by decide) rfl
  have c4 : ln (qn n d * d) ≤ 1500 := Nat.le_trans (bMul c1 bd rfl) (by decide)
  have c5 : ln (dd (qd n d) * n) ≤ 1500 := Nat.le_trans (bMul c3 bn rfl) (by decide)
  obtain ⟨⟨P, ea⟩, pa⟩ : ∃ v, pr a = v := ⟨_, rfl⟩
  obtain ⟨⟨Q, eb⟩, pb⟩ : ∃ v, pr b = v := ⟨_, rfl⟩
  have bP := pr_lim pa
  have bQ := pr_lim pb
  have r1 := bQn (d := Q) bP rfl
  have r2 := bQd (n := P) bQ rfl
  have lim : ∀ (s : ByteArray), (100 < s.size ∧ decide (100 < (s.size : Int)) = true ∧ decide (100 < s.size) = true) ∨ (s.size ≤ 100 ∧ ¬ 100 < s.size ∧ decide (100 < (s.size : Int)) = false ∧ decide (100 < s.size) = false) := by
    intro s
    by_cases h : 100 < s.size
    · exact .inl ⟨h, decide_eq_true (by omega), decide_eq_true h⟩
    · exact .inr ⟨by omega, h, decide_eq_false (by omega), decide_eq_false h⟩
  have hg : ln ((Int.gcd (qn n d) (dd (qd n d)) : Nat) : Int) ≤ 1500 ∧ (d ≠ 0 → Int.gcd (qn n d) (dd (qd n d)) = 1 ∧ qn n d * d = dd (qd n d) * n ∧ 0 < dd (qd n d)) := by
    by_cases h0 : d = 0
    · refine ⟨?_, fun h => absurd h0 h⟩
      subst h0
      have e : Int.gcd (qn n 0) (dd (qd n 0)) = 1 := by rw [show qn n 0 = 0 from rfl, show dd (qd n 0) = 1 from rfl]; decide
      rw [e]
      exact up b1
    · obtain ⟨l1, l2, l3, l4⟩ := Lo.q (a := n) (b := d) h0 rfl rfl
      rw [dd_pos l1, l2]
      exact ⟨up b1, fun _ => ⟨rfl, by rw [l4, Int.mul_comm], l1⟩⟩
  have hcs : (qe d = 9 ∧ (d == 0) = true ∧ sg (qn n d) = 0 ∧ sg (qn n d) = 0) ∨ (qe d = 0 ∧ (d == 0) = false ∧ (qn n d = qn n d ∧ qd n d = qd n d) ∧ cmp3 (qn n d * d) (dd (qd n d) * n) = 0 ∧ cmp3 ((Int.gcd (qn n d) (dd (qd n d)) : Nat) : Int) 1 = 0 ∧ sg (dd (qd n d)) = 1) := by
    by_cases h0 : d = 0
    · subst h0; exact .inl ⟨rfl, rfl, rfl, rfl⟩
    · obtain ⟨g1, g2, g3⟩ := hg.2 h0
      exact .inr ⟨if_neg h0, beq_eq_false_iff_ne.mpr h0, ⟨rfl, rfl⟩, cmp3_eq g2, cmp3_eq (by rw [g1]; rfl), sg_pos g3⟩
  refine mak_t a b n d w n d (qn n d) (qd n d) (qn n d) (qd n d) (qn n d) (dd (qd n d)) _ _ _ 1 P Q (qn P Q) (qd P Q) P Q (qn P Q) (qd P Q) (qe d) ea eb (qe Q) _ _ ⟨up bn⟩ ⟨up bd⟩ ⟨up c1⟩ ⟨up c2⟩ ⟨up c1⟩ ⟨up c2⟩ ⟨up c1⟩ ⟨up c3⟩ ⟨c4⟩ ⟨c5⟩ ⟨hg.1⟩ ⟨up b1⟩ ⟨up2 bP⟩ ⟨up2 bQ⟩ ⟨up2 r1⟩ ⟨up2 r2⟩ ⟨du (up2 bP)⟩ ⟨du (up2 bQ)⟩ ⟨du (up2 r1)⟩ ⟨du (up2 r2)⟩ ⟨n0, n1, d0, d1⟩
    ⟨rfl⟩ ⟨rfl⟩ ⟨⟨rfl, rfl, rfl⟩, ⟨n0, n1⟩, ⟨d0, d1⟩⟩ ⟨rfl, rfl, rfl⟩ ⟨hcs⟩ ⟨rfl⟩ ⟨rfl⟩ ⟨rfl⟩ ⟨rfl⟩ ⟨rfl⟩ ⟨rfl⟩ ⟨pa⟩ ⟨pb⟩ ⟨rfl, rfl, rfl⟩ ⟨rfl⟩ ⟨rfl⟩ (by simp) ⟨?_⟩
  rcases lim a with h1 | ⟨sa, h1⟩
  · exact .inl (.inl h1)
  rcases lim b with h2 | ⟨sb, h2⟩
  · exact .inl (.inr ⟨h1, h2⟩)
  by_cases ha : ea = 0
  · by_cases hb : eb = 0
    · subst ha hb
      refine .inr ⟨h1, h2, .inr ⟨rfl, rfl, ParseN_ok (by omega) pa, ParseN_ok (by omega) pb, ?_⟩⟩
      by_cases h0 : Q = 0
      · rw [h0]; exact .inl ⟨rfl, rfl, rfl⟩
      · have := (Lo.q (a := P) h0 rfl rfl).1
        exact .inr ⟨if_neg h0, (sg_nz h0).1, ⟨h0, rfl, rfl⟩, by omega, rfl⟩
    · exact .inr ⟨h1, h2, .inl (.inr ⟨by rw [ha]; rfl, by simpa using hb⟩)⟩
  · exact .inr ⟨h1, h2, .inl (.inl (by simpa using ha))⟩

end Go.Proofs.Ytdkapdgbfejgdaa
