/- rational.Frac, Floor, Ceil, Text; same. -/
import Derived.Test.YtdkapdgbfejgdaaRb
namespace Go.Proofs.Ytdkapdgbfejgdaa
open Go.RowKit Go.Proofs.YtdkapdgbfejgdaaW.PrintWords Go.Proofs.YtdkapdgbfejgdaaW.PrintLast Go.Proofs.YtdkapdgbfejgdaaW.PrintMore
set_option linter.unusedSimpArgs false
set_option linter.unusedVariables false
set_option maxHeartbeats 8000000
set_option maxRecDepth 100000

theorem dd_ne (d : Int) : dd d ≠ 0 := by unfold dd; split <;> omega
/-- The text of a fraction. -/
def qt (n d : Int) : ByteArray := if dd d = 1 then tx n else tx n ++ ⟨#[47]⟩ ++ tx (dd d)

/-- It returns a fresh fraction and an error's number. -/
def RetQP (w : World) (n d err : Int) (e : Ending) (w' : World) : Prop :=
  ∃ A c B b, e = .returned (.tuple #[.agg #[.bool (ng n), .slice A (ln n) c, .bool (ng d), .slice B (ln d) b], .int .i64 err]) ∧ (bw A c n).at w' (fun k => w.heap.size ≤ k) ∧ (bw B b d).at w' (fun k => w.heap.size ≤ k) ∧ Below w.heap.size w w'


theorem Frac_ok (a b : Int) (rn rd er : Int) (w : World) (a0 : -9223372036854775808 ≤ a) (a1 : a ≤ 9223372036854775807) (b0 : -9223372036854775808 ≤ b) (b1 : b ≤ 9223372036854775807) (h : Aside0 (qn a b = rn ∧ qd a b = rd ∧ qe b = er)) : Calls Try.prog 39 #[.int .i64 a, .int .i64 b] w (RetQP w rn rd er) := by
  have hu25 := Try.underlying25
  have hu51 := Try.underlying51
  have H := Sit.start w (fun _ => False)
  obtain ⟨n, hn⟩ : ∃ v, a = v := ⟨_, rfl⟩
  obtain ⟨d, hd⟩ : ∃ v, b = v := ⟨_, rfl⟩
  have bn := Aside0.mk (show ln n ≤ 2 from bOf (by omega))
  have bd := Aside0.mk (show ln d ≤ 2 from bOf (by omega))
  have hm : qn n d = rn ∧ qd n d = rd ∧ qe d = er := by rw [← hn, ← hd]; exact h.out
  replace hm := Aside0.mk hm
  replace hn := Aside0.mk hn
  replace hd := Aside0.mk hd
  replace a0 := Aside0.mk a0
  replace a1 := Aside0.mk a1
  replace b0 := Aside0.mk b0
  replace b1 := Aside0.mk b1
  go_enter Try.func39, Try.ntmps39
  have st2 := trivial
  have st6 := trivial
  have st10 := trivial
  have st16 := trivial
  go_wp2_with (first
    | (clear st2; (with_reducible refine gate_dst (N := 4) rfl ?_); refine box_event ?hg (N := 4) ?hd (cs := #[.bool false, .slice none 0 0, .bool false, .slice none 0 0]) (t := 51) ?hr ?_; (case hd => rfl); (case hg => rfl); (case hr => go_simp; try rfl); intro g4 hg w1 hbox hb; replace H := H.newbox hg hbox hb; clear hg hbox hb; obtain ⟨k4_0, z4_0, k4_1, z4_1, k4_2, z4_2, k4_3, z4_3⟩ := H.b4 (g := g4) m0)
    | (clear st6; go_at_call 27; (with_reducible refine (OfQ _ a n hn.out a0.out a1.out).mono ?_); rintro e w3 ⟨A4, c5, rfl, hr, hb⟩; replace H := H.got (fresh_row hr) hb; clear hr hb; clear k4_0 z4_0 k4_1 z4_1 k4_2 z4_2 k4_3 z4_3; obtain ⟨k4_0, z4_0, k4_1, z4_1, k4_2, z4_2, k4_3, z4_3⟩ := H.b4 (g := g4) m0)
    | (clear st10; go_at_call 27; (with_reducible refine (OfQ _ b d hd.out b0.out b1.out).mono ?_); rintro e w7 ⟨A8, c9, rfl, hr, hb⟩; replace H := H.got (fresh_row hr) hb; clear hr hb; clear k4_0 z4_0 k4_1 z4_1 k4_2 z4_2 k4_3 z4_3; obtain ⟨k4_0, z4_0, k4_1, z4_1, k4_2, z4_2, k4_3, z4_3⟩ := H.b4 (g := g4) m0)
    | (clear st16; go_at_call 63; (with_reducible refine (MakeQ (H.row _ m1) (H.row _ m0) (lim bn.out (by decide)) (lim bd.out (by decide)) rn rd er hm.out.1 hm.out.2.1 hm.out.2.2).mono ?_); rintro e w11 ⟨A12, c13, A14, c15, rfl, hr, hr2, hb⟩; replace H := (H.got hr hb).more ((H.got hr2 hb).row _ m0); clear hr hr2 hb; clear k4_0 z4_0 k4_1 z4_1 k4_2 z4_2 k4_3 z4_3; obtain ⟨k4_0, z4_0, k4_1, z4_1, k4_2, z4_2, k4_3, z4_3⟩ := H.b4 (g := g4) m0))
  replace H := ((((H.setn [] 0 (.bool (ng rn)) rfl).setn [] 1 (.slice A12 (ln rn) c13) rfl).setn [] 2 (.bool (ng rd)) rfl).setn [] 3 (.slice A14 (ln rd) c15) rfl)
  refine bodyPost_ret (results_list (rs := [.cell 4 51, .tmp 5]) rfl (by simp) (.cell g4 51 #[.bool (ng rn), .slice A12 (ln rn) c13, .bool (ng rd), .slice A14 (ln rd) c15] (0, 0) _ rfl (H.blk m0) Try.underlying51 rfl (by kernel_rfl) (.tmp .nil))) rfl ?_
  exact ⟨A12, c13, A14, c15, rfl, (H.ret m1).mono (fun k hk => hk.elim (fun h => h.elim) id), (H.ret m0).mono (fun k hk => hk.elim (fun h => h.elim) id), H.below⟩

theorem FracQ (w : World) (a b rn rd er : Int) (h : (qn a b = rn ∧ qd a b = rd ∧ qe b = er) ∧ (-9223372036854775808 ≤ a ∧ a ≤ 9223372036854775807) ∧ (-9223372036854775808 ≤ b ∧ b ≤ 9223372036854775807)) : Calls Try.prog 39 #[.int .i64 a, .int .i64 b] w (RetQP w rn rd er) := Frac_ok a b rn rd er w h.2.1.1 h.2.1.2 h.2.2.1 h.2.2.2 ⟨h.1⟩
/-- The floor of a fraction. -/
def flr (n d : Int) : Int := if sg (n.tmod (dd d)) < 0 then n.tdiv (dd d) - 1 else n.tdiv (dd d)

def tb43.T1 : Bool × List (List Nat × List Nat) := (true, [([], []), ([0], [0]), ([], []), ([2], [2]), ([1, 3, 3], [1, 3]), ([4], [4]), ([5], [5]), ([5], [5]), ([5], [5]), ([], []), ([], []), ([9, 6, 4, 0, 1, 2, 3, 4, 5, 6, 9, 10], [6, 9]), ([10, 7, 11, 0, 1, 2, 3, 4, 5, 6, 7, 9, 10, 11], [7, 10]), ([8, 12, 0, 1, 2, 3, 4, 5, 6, 7, 8, 9, 10, 11, 12], [8])])
def tb43.B1 : List Nat := [0, 1, 0, 4, 15, 31, 63, 63, 63, 0, 0, 1663, 3839, 8191]
theorem tb43.tab1 : rtab .any (opsOf Try.f43 1) = tb43.T1 := by kernel_rfl
theorem tb43.bits1 : waitsOk tb43.T1.2 tb43.B1 = true := by kernel_rfl

theorem FloorR {A B : Option Addr} {c k : Nat} {n d : Int} {w : World} {ok : Nat → Prop} (hf : (bw A c n).at w ok) (hg : (bw B k d).at w ok) (hn : ln n ≤ 100000) (hd : ln d ≤ 100000) (r : Int) (h : flr n d = r) : Calls Try.prog 43 #[.agg #[.bool (ng n), .slice A (ln n) c, .bool (ng d), .slice B (ln d) k]] w (RetI w ok r) := by
  have hu25 := Try.underlying25
  have hu51 := Try.underlying51
  have H := ((Sit.start w ok).arg hf).arg hg
  have bn := Aside0.mk hn
  have bd := Aside0.mk hd
  clear hf hg hn hd
  obtain ⟨e1, he1⟩ : ∃ v : Int, dd d = v := ⟨_, rfl⟩
  have be1 := Aside0.mk (bDd bd.out (by decide) he1)
  obtain ⟨u, hu⟩ : ∃ v : Int, n.tdiv e1 = v := ⟨_, rfl⟩
  have bu := Aside0.mk (bTdiv bn.out hu)
  obtain ⟨v, hv⟩ : ∃ v : Int, n.tmod e1 = v := ⟨_, rfl⟩
  have bv := Aside0.mk (bTmod bn.out hv)
  have he0 := Aside0.mk (show e1 ≠ 0 by rw [← he1]; exact dd_ne d)
  obtain ⟨s, hs⟩ : ∃ z : Int, sg v = z := ⟨_, rfl⟩
  have hr := Aside0.mk (show (if s < 0 then u - 1 else u) = r by rw [← hs, ← hv, ← hu, ← he1]; exact h)
  replace he1 := Aside0.mk he1
  replace hu := Aside0.mk hu
  replace hv := Aside0.mk hv
  replace hs := Aside0.mk hs
  clear h
  go_enter Try.func43, Try.ntmps43
  have st2 := trivial
  have st4 := trivial
  go_upto_region 1 with (first
    | (clear st2; (with_reducible refine gate_dst (N := 1) rfl ?_); refine box_event ?hg (N := 1) ?hd (cs := #[.bool (ng n), .slice A (ln n) c, .bool (ng d), .slice B (ln d) k]) (t := 51) ?hr ?_; (case hd => rfl); (case hg => rfl); (case hr => go_simp; try rfl); intro g1 hg w1 hbox hb; replace H := H.newbox hg hbox hb; clear hg hbox hb; obtain ⟨k1_0, z1_0, k1_1, z1_1, k1_2, z1_2, k1_3, z1_3⟩ := H.b4 (g := g1) m0)
    | (clear st4; (with_reducible refine gate_dst (N := 2) rfl ?_); refine box_event ?hg (N := 2) ?hd (cs := #[.bool false, .slice none 0 0]) (t := 25) ?hr ?_; (case hd => rfl); (case hg => rfl); (case hr => go_simp; try rfl); intro g2 hg w3 hbox hb; replace H := H.newbox hg hbox hb; clear hg hbox hb; clear k1_0 z1_0 k1_1 z1_1 k1_2 z1_2 k1_3 z1_3; obtain ⟨k2_0, z2_0, k2_1, z2_1⟩ := H.b2 (g := g2) m0; obtain ⟨k1_0, z1_0, k1_1, z1_1, k1_2, z1_2, k1_3, z1_3⟩ := H.b4 (g := g1) m1; have ne_g2_g1 := H.ne (g := g2) (g' := g1) 0 1 rfl rfl (by decide); have ne_g1_g2 := ne_g2_g1.symm))
  (try simp only [Act.put, List.setIfInBounds_toArray, List.set_cons_zero, List.set_cons_succ])
  clear k2_0 z2_0 k2_1 z2_1 k1_0 z1_0 k1_1 z1_1 k1_2 z1_2 k1_3 z1_3
  replace H := H.drew
  refine start_ (n := 14) (S := fun w' => w'.cell? ⟨g1, 0, none⟩ = some (.bool (ng n)) ∧ w'.cell? ⟨g1, 1, none⟩ = some (.slice A (ln n) c) ∧ w'.cell? ⟨g1, 2, none⟩ = some (.bool (ng d)) ∧ w'.cell? ⟨g1, 3, none⟩ = some (.slice B (ln d) k)) (ds := [11, 12]) #[false, false, false, false, false, false, false, false, false, false, false, false, false, false] (by kernel_rfl) rfl rfl ⟨H.cell m1 0, H.cell m1 1, H.cell m1 2, H.cell m1 3⟩ (fun hQ => ?_)
  generalize w3.drew = w5 at H hQ ⊢
  refine with_tabW tb43.tab1 tb43.bits1 (fun HT_ HW_ => ?_)
  refine pure_ (i := 0) (N := some 7) (v := ?_) (a' := ?_) (bm 14 1) rfl rfl (any_of HT_.out (by kernel_rfl)) (fun _ _ _ h => h) (Or.inl ⟨by rfl, ?_⟩) ?_ ?_
  rotate_left
  · intro w'
    go_simp
    with_reducible rfl
  rotate_left
  · simp only [Act.put, List.setIfInBounds_toArray, List.set_cons_zero, List.set_cons_succ, i64_w, i32_w]
    rfl
  refine take_ (i := 1) (N := some 8) (v := ?_) (a' := ?_) (bm 14 3) rfl rfl (take_ofW HT_.out HW_.out (by kernel_rfl)) (fun _ _ _ h => h) (Or.inl ⟨by rfl, ?_⟩) hQ ?_ ?_
  rotate_left
  · rintro w' ⟨s0, s1, s2, s3⟩
    go_simp
    with_reducible rfl
  rotate_left
  · simp only [Act.put, List.setIfInBounds_toArray, List.set_cons_zero, List.set_cons_succ, i64_w, i32_w]
    rfl
  refine take_ (i := 2) (N := some 9) (v := ?_) (a' := ?_) (bm 14 7) rfl rfl (take_ofW HT_.out HW_.out (by kernel_rfl)) (fun _ _ _ h => h) (Or.inl ⟨by rfl, ?_⟩) hQ ?_ ?_
  rotate_left
  · rintro w' ⟨s0, s1, s2, s3⟩
    go_simp
    with_reducible rfl
  rotate_left
  · simp only [Act.put, List.setIfInBounds_toArray, List.set_cons_zero, List.set_cons_succ, i64_w, i32_w]
    rfl
  refine join_ (σ := Option Addr × Nat × Option Addr × Nat × Option Addr × Nat × Nat × Nat) 3 #[true, true, true, true, true, true, true, true, true, true, true, false, false, false] (fun s_ => [(10, .agg #[.bool (ng e1), .slice s_.1 (ln e1) s_.2.1]), (11, .tuple #[.agg #[.bool (ng u), .slice s_.2.2.1 (ln u) s_.2.2.2.1], .agg #[.bool (ng v), .slice s_.2.2.2.2.1 (ln v) s_.2.2.2.2.2.1], .int .i64 0]), (3, .pointer (some ⟨s_.2.2.2.2.2.2.1, 0, none⟩)), (4, .pointer (some ⟨s_.2.2.2.2.2.2.2, 0, none⟩)), (6, .tuple #[.agg #[.bool (ng u), .slice s_.2.2.1 (ln u) s_.2.2.2.1], .agg #[.bool (ng v), .slice s_.2.2.2.2.1 (ln v) s_.2.2.2.2.2.1], .int .i64 0]), (12, .agg #[.bool (ng u), .slice s_.2.2.1 (ln u) s_.2.2.2.1]), (13, .agg #[.bool (ng v), .slice s_.2.2.2.2.1 (ln v) s_.2.2.2.2.2.1]), (14, .int .i64 0)]) (fun s_ w' => Sit w w' ok [(s_.2.2.2.2.2.2.2, .cells #[.bool false, .slice none 0 0] 25 (0, 0)), (s_.2.2.2.2.2.2.1, .cells #[.bool false, .slice none 0 0] 25 (0, 0)), (g2, .cells #[.bool false, .slice none 0 0] 25 (0, 0)), (g1, .cells #[.bool (ng n), .slice A (ln n) c, .bool (ng d), .slice B (ln d) k] 51 (0, 0))] [bw s_.2.2.2.2.1 s_.2.2.2.2.2.1 v, bw s_.2.2.1 s_.2.2.2.1 u, bw s_.1 s_.2.1 e1, bw B k d, bw A c n]) ?_ ?_
  rotate_left
  · intro hCont
    refine three_ (i := 3) (j := 9) (k := 10) (Ni := some 10) (Nj := some 3) (Nk := some 4) (bm 14 15) (bm 14 519) (bm 14 1031) rfl rfl rfl rfl rfl rfl (three_of HT_.out (by kernel_rfl)) (by decide) (by decide) (by decide) (fun K hK => ?_) (fun K hK => ?_) (fun K hK => ?_)
    · skip
      refine goes_ Try.func47 (by kernel_rfl) rfl #[.agg #[.bool (ng n), .slice A (ln n) c, .bool (ng d), .slice B (ln d) k]] (by rfl) rfl rfl (by simp only [List.map_toArray, List.map_cons, List.map_nil]; try rfl) ?_
      with_reducible refine (DenQ (H.row _ m1) (H.row _ m0) (limR bn.out (by decide)) (limR bd.out (by decide)) e1 he1.out).mono ?_
      rintro e w26 ⟨A27, c28, rfl, hr, hb⟩
      replace H := H.got hr hb
      clear hr hb
      refine ⟨_, rfl, ?_⟩
      refine hK.out _ _ ⟨H.cell m1 0, H.cell m1 1, H.cell m1 2, H.cell m1 3⟩ (fun hQ => ?_)
      clear hK K
      refine norm_ (a' := ?_) ?_ ?_
      rotate_left
      · show Act.put _ (some 10) _ = _
        simp only [Act.put, List.setIfInBounds_toArray, List.set_cons_zero, List.set_cons_succ, i64_w, i32_w]
        rfl
      refine three_ (i := 4) (j := 9) (k := 10) (Ni := some 11) (Nj := some 3) (Nk := some 4) (bm 14 31) (bm 14 527) (bm 14 1039) rfl rfl rfl rfl rfl rfl (three_of HT_.out (by kernel_rfl)) (by decide) (by decide) (by decide) (fun K hK => ?_) (fun K hK => ?_) (fun K hK => ?_)
      · skip
        refine goes_ Try.func32 (by kernel_rfl) rfl #[.agg #[.bool (ng n), .slice A (ln n) c], .agg #[.bool (ng e1), .slice A27 (ln e1) c28]] (by rfl) rfl rfl (by simp only [List.map_toArray, List.map_cons, List.map_nil]; try rfl) ?_
        with_reducible refine (DivQ (H.row _ m2) (H.row _ m0) (lim bn.out (by decide)) (lim be1.out (by decide)) he0.out u v hu.out hv.out).mono ?_
        rintro e w49 ⟨A50, c51, A52, c53, rfl, hr, hr2, hb⟩
        replace H := (H.got hr hb).more ((H.got hr2 hb).row _ m0)
        clear hr hr2 hb
        refine ⟨_, rfl, ?_⟩
        refine hK.out _ _ ⟨H.cell m1 0, H.cell m1 1, H.cell m1 2, H.cell m1 3⟩ (fun hQ => ?_)
        clear hK K
        refine norm_ (a' := ?_) ?_ ?_
        rotate_left
        · show Act.put _ (some 11) _ = _
          simp only [Act.put, List.setIfInBounds_toArray, List.set_cons_zero, List.set_cons_succ, i64_w, i32_w]
          rfl
        refine pure_ (i := 5) (N := some 6) (v := ?_) (a' := ?_) (bm 14 63) rfl rfl (any_of HT_.out (by kernel_rfl)) (fun _ _ _ h => h) (Or.inl ⟨by rfl, ?_⟩) ?_ ?_
        rotate_left
        · intro w'
          go_simp
          with_reducible rfl
        rotate_left
        · simp only [Act.put, List.setIfInBounds_toArray, List.set_cons_zero, List.set_cons_succ, i64_w, i32_w]
          rfl
        refine pure_ (i := 6) (N := some 12) (v := ?_) (a' := ?_) (bm 14 127) rfl rfl (any_of HT_.out (by kernel_rfl)) (fun _ _ _ h => h) (Or.inl ⟨by rfl, ?_⟩) ?_ ?_
        rotate_left
        · intro w'
          go_simp
          with_reducible rfl
        rotate_left
        · simp only [Act.put, List.setIfInBounds_toArray, List.set_cons_zero, List.set_cons_succ, i64_w, i32_w]
          rfl
        refine pure_ (i := 7) (N := some 13) (v := ?_) (a' := ?_) (bm 14 255) rfl rfl (any_of HT_.out (by kernel_rfl)) (fun _ _ _ h => h) (Or.inl ⟨by rfl, ?_⟩) ?_ ?_
        rotate_left
        · intro w'
          go_simp
          with_reducible rfl
        rotate_left
        · simp only [Act.put, List.setIfInBounds_toArray, List.set_cons_zero, List.set_cons_succ, i64_w, i32_w]
          rfl
        refine pure_ (i := 8) (N := some 14) (v := ?_) (a' := ?_) (bm 14 511) rfl rfl (any_of HT_.out (by kernel_rfl)) (fun _ _ _ h => h) (Or.inl ⟨by rfl, ?_⟩) ?_ ?_
        rotate_left
        · intro w'
          go_simp
          with_reducible rfl
        rotate_left
        · simp only [Act.put, List.setIfInBounds_toArray, List.set_cons_zero, List.set_cons_succ, i64_w, i32_w]
          rfl
        refine two_ (i := 9) (j := 10) (Ni := some 3) (Nj := some 4) (bm 14 1023) (bm 14 1535) rfl rfl rfl rfl (two_of HT_.out (by kernel_rfl)) (by decide) (by decide) (fun K hK => ?_) (fun K hK => ?_)
        · skip
          refine value_ (w1 := ?_) (v := ?_) (by rfl) rfl ?_ ?_
          rotate_left 2
          · go_simp
            constructor
            · rfl
            · rfl
          replace H := H.newbox rfl (blk_new _ (.cells #[.bool false, .slice none 0 0] 25 (0, 0))) (below_alloc (Below.refl _ _) _)
          refine hK.out _ _ ⟨H.cell m2 0, H.cell m2 1, H.cell m2 2, H.cell m2 3⟩ (fun hQ => ?_)
          clear hK K
          refine norm_ (a' := ?_) ?_ ?_
          rotate_left
          · show Act.put _ (some 3) _ = _
            simp only [Act.put, List.setIfInBounds_toArray, List.set_cons_zero, List.set_cons_succ, i64_w, i32_w]
            rfl
          refine one_ (i := 10) (N := some 4) (bm 14 2047) rfl rfl (one_of HT_.out (by kernel_rfl)) (by decide) (fun K hK => ?_)
          refine value_ (w1 := ?_) (v := ?_) (by rfl) rfl ?_ ?_
          rotate_left 2
          · go_simp
            constructor
            · rfl
            · rfl
          replace H := H.newbox2 (.cells #[.bool false, .slice none 0 0] 25 (0, 0))
          refine hK.out _ _ ⟨H.cell m3 0, H.cell m3 1, H.cell m3 2, H.cell m3 3⟩ (fun hQ => ?_)
          clear hK K
          refine norm_ (a' := ?_) ?_ ?_
          rotate_left
          · show Act.put _ (some 4) _ = _
            simp only [Act.put, List.setIfInBounds_toArray, List.set_cons_zero, List.set_cons_succ, i64_w, i32_w]
            rfl
          exact norm_ (by simp only [putAll, Act.put, List.setIfInBounds_toArray, List.set_cons_zero, List.set_cons_succ]; try rfl) (hCont ⟨A27, c28, A50, c51, A52, c53, _, _⟩ _ H)
        · skip
          refine value_ (w1 := ?_) (v := ?_) (by rfl) rfl ?_ ?_
          rotate_left 2
          · go_simp
            constructor
            · rfl
            · rfl
          replace H := H.newbox rfl (blk_new _ (.cells #[.bool false, .slice none 0 0] 25 (0, 0))) (below_alloc (Below.refl _ _) _)
          refine hK.out _ _ ⟨H.cell m2 0, H.cell m2 1, H.cell m2 2, H.cell m2 3⟩ (fun hQ => ?_)
          clear hK K
          refine norm_ (a' := ?_) ?_ ?_
          rotate_left
          · show Act.put _ (some 4) _ = _
            simp only [Act.put, List.setIfInBounds_toArray, List.set_cons_zero, List.set_cons_succ, i64_w, i32_w]
            rfl
          refine one_ (i := 9) (N := some 3) (bm 14 2047) rfl rfl (one_of HT_.out (by kernel_rfl)) (by decide) (fun K hK => ?_)
          refine value_ (w1 := ?_) (v := ?_) (by rfl) rfl ?_ ?_
          rotate_left 2
          · go_simp
            constructor
            · rfl
            · rfl
          replace H := H.newbox2 (.cells #[.bool false, .slice none 0 0] 25 (0, 0))
          refine hK.out _ _ ⟨H.cell m3 0, H.cell m3 1, H.cell m3 2, H.cell m3 3⟩ (fun hQ => ?_)
          clear hK K
          refine norm_ (a' := ?_) ?_ ?_
          rotate_left
          · show Act.put _ (some 3) _ = _
            simp only [Act.put, List.setIfInBounds_toArray, List.set_cons_zero, List.set_cons_succ, i64_w, i32_w]
            rfl
          exact norm_ (by simp only [putAll, Act.put, List.setIfInBounds_toArray, List.set_cons_zero, List.set_cons_succ]; try rfl) (hCont ⟨A27, c28, A50, c51, A52, c53, _, _⟩ _ (H.perm (.swap _ _ _)))
      · skip
        refine value_ (w1 := ?_) (v := ?_) (by rfl) rfl ?_ ?_
        rotate_left 2
        · go_simp
          constructor
          · rfl
          · rfl
        replace H := H.newbox rfl (blk_new _ (.cells #[.bool false, .slice none 0 0] 25 (0, 0))) (below_alloc (Below.refl _ _) _)
        refine hK.out _ _ ⟨H.cell m2 0, H.cell m2 1, H.cell m2 2, H.cell m2 3⟩ (fun hQ => ?_)
        clear hK K
        refine norm_ (a' := ?_) ?_ ?_
        rotate_left
        · show Act.put _ (some 3) _ = _
          simp only [Act.put, List.setIfInBounds_toArray, List.set_cons_zero, List.set_cons_succ, i64_w, i32_w]
          rfl
        refine two_ (i := 4) (j := 10) (Ni := some 11) (Nj := some 4) (bm 14 543) (bm 14 1551) rfl rfl rfl rfl (two_of HT_.out (by kernel_rfl)) (by decide) (by decide) (fun K hK => ?_) (fun K hK => ?_)
        · skip
          refine goes_ Try.func32 (by kernel_rfl) rfl #[.agg #[.bool (ng n), .slice A (ln n) c], .agg #[.bool (ng e1), .slice A27 (ln e1) c28]] (by rfl) rfl rfl (by simp only [List.map_toArray, List.map_cons, List.map_nil]; try rfl) ?_
          with_reducible refine (DivQ (H.row _ m2) (H.row _ m0) (lim bn.out (by decide)) (lim be1.out (by decide)) he0.out u v hu.out hv.out).mono ?_
          rintro e w49 ⟨A50, c51, A52, c53, rfl, hr, hr2, hb⟩
          replace H := (H.got hr hb).more ((H.got hr2 hb).row _ m0)
          clear hr hr2 hb
          refine ⟨_, rfl, ?_⟩
          refine hK.out _ _ ⟨H.cell m2 0, H.cell m2 1, H.cell m2 2, H.cell m2 3⟩ (fun hQ => ?_)
          clear hK K
          refine norm_ (a' := ?_) ?_ ?_
          rotate_left
          · show Act.put _ (some 11) _ = _
            simp only [Act.put, List.setIfInBounds_toArray, List.set_cons_zero, List.set_cons_succ, i64_w, i32_w]
            rfl
          refine pure_ (i := 5) (N := some 6) (v := ?_) (a' := ?_) (bm 14 575) rfl rfl (any_of HT_.out (by kernel_rfl)) (fun _ _ _ h => h) (Or.inl ⟨by rfl, ?_⟩) ?_ ?_
          rotate_left
          · intro w'
            go_simp
            with_reducible rfl
          rotate_left
          · simp only [Act.put, List.setIfInBounds_toArray, List.set_cons_zero, List.set_cons_succ, i64_w, i32_w]
            rfl
          refine pure_ (i := 6) (N := some 12) (v := ?_) (a' := ?_) (bm 14 639) rfl rfl (any_of HT_.out (by kernel_rfl)) (fun _ _ _ h => h) (Or.inl ⟨by rfl, ?_⟩) ?_ ?_
          rotate_left
          · intro w'
            go_simp
            with_reducible rfl
          rotate_left
          · simp only [Act.put, List.setIfInBounds_toArray, List.set_cons_zero, List.set_cons_succ, i64_w, i32_w]
            rfl
          refine pure_ (i := 7) (N := some 13) (v := ?_) (a' := ?_) (bm 14 767) rfl rfl (any_of HT_.out (by kernel_rfl)) (fun _ _ _ h => h) (Or.inl ⟨by rfl, ?_⟩) ?_ ?_
          rotate_left
          · intro w'
            go_simp
            with_reducible rfl
          rotate_left
          · simp only [Act.put, List.setIfInBounds_toArray, List.set_cons_zero, List.set_cons_succ, i64_w, i32_w]
            rfl
          refine pure_ (i := 8) (N := some 14) (v := ?_) (a' := ?_) (bm 14 1023) rfl rfl (any_of HT_.out (by kernel_rfl)) (fun _ _ _ h => h) (Or.inl ⟨by rfl, ?_⟩) ?_ ?_
          rotate_left
          · intro w'
            go_simp
            with_reducible rfl
          rotate_left
          · simp only [Act.put, List.setIfInBounds_toArray, List.set_cons_zero, List.set_cons_succ, i64_w, i32_w]
            rfl
          refine one_ (i := 10) (N := some 4) (bm 14 2047) rfl rfl (one_of HT_.out (by kernel_rfl)) (by decide) (fun K hK => ?_)
          refine value_ (w1 := ?_) (v := ?_) (by rfl) rfl ?_ ?_
          rotate_left 2
          · go_simp
            constructor
            · rfl
            · rfl
          replace H := H.newbox rfl (blk_new _ (.cells #[.bool false, .slice none 0 0] 25 (0, 0))) (below_alloc (Below.refl _ _) _)
          refine hK.out _ _ ⟨H.cell m3 0, H.cell m3 1, H.cell m3 2, H.cell m3 3⟩ (fun hQ => ?_)
          clear hK K
          refine norm_ (a' := ?_) ?_ ?_
          rotate_left
          · show Act.put _ (some 4) _ = _
            simp only [Act.put, List.setIfInBounds_toArray, List.set_cons_zero, List.set_cons_succ, i64_w, i32_w]
            rfl
          exact norm_ (by simp only [putAll, Act.put, List.setIfInBounds_toArray, List.set_cons_zero, List.set_cons_succ]; try rfl) (hCont ⟨A27, c28, A50, c51, A52, c53, _, _⟩ _ H)
        · skip
          refine value_ (w1 := ?_) (v := ?_) (by rfl) rfl ?_ ?_
          rotate_left 2
          · go_simp
            constructor
            · rfl
            · rfl
          replace H := H.newbox2 (.cells #[.bool false, .slice none 0 0] 25 (0, 0))
          refine hK.out _ _ ⟨H.cell m3 0, H.cell m3 1, H.cell m3 2, H.cell m3 3⟩ (fun hQ => ?_)
          clear hK K
          refine norm_ (a' := ?_) ?_ ?_
          rotate_left
          · show Act.put _ (some 4) _ = _
            simp only [Act.put, List.setIfInBounds_toArray, List.set_cons_zero, List.set_cons_succ, i64_w, i32_w]
            rfl
          refine one_ (i := 4) (N := some 11) (bm 14 1567) rfl rfl (one_of HT_.out (by kernel_rfl)) (by decide) (fun K hK => ?_)
          refine goes_ Try.func32 (by kernel_rfl) rfl #[.agg #[.bool (ng n), .slice A (ln n) c], .agg #[.bool (ng e1), .slice A27 (ln e1) c28]] (by rfl) rfl rfl (by simp only [List.map_toArray, List.map_cons, List.map_nil]; try rfl) ?_
          with_reducible refine (DivQ (H.row _ m2) (H.row _ m0) (lim bn.out (by decide)) (lim be1.out (by decide)) he0.out u v hu.out hv.out).mono ?_
          rintro e w49 ⟨A50, c51, A52, c53, rfl, hr, hr2, hb⟩
          replace H := (H.got hr hb).more ((H.got hr2 hb).row _ m0)
          clear hr hr2 hb
          refine ⟨_, rfl, ?_⟩
          refine hK.out _ _ ⟨H.cell m3 0, H.cell m3 1, H.cell m3 2, H.cell m3 3⟩ (fun hQ => ?_)
          clear hK K
          refine norm_ (a' := ?_) ?_ ?_
          rotate_left
          · show Act.put _ (some 11) _ = _
            simp only [Act.put, List.setIfInBounds_toArray, List.set_cons_zero, List.set_cons_succ, i64_w, i32_w]
            rfl
          refine pure_ (i := 5) (N := some 6) (v := ?_) (a' := ?_) (bm 14 1599) rfl rfl (any_of HT_.out (by kernel_rfl)) (fun _ _ _ h => h) (Or.inl ⟨by rfl, ?_⟩) ?_ ?_
          rotate_left
          · intro w'
            go_simp
            with_reducible rfl
          rotate_left
          · simp only [Act.put, List.setIfInBounds_toArray, List.set_cons_zero, List.set_cons_succ, i64_w, i32_w]
            rfl
          refine pure_ (i := 6) (N := some 12) (v := ?_) (a' := ?_) (bm 14 1663) rfl rfl (any_of HT_.out (by kernel_rfl)) (fun _ _ _ h => h) (Or.inl ⟨by rfl, ?_⟩) ?_ ?_
          rotate_left
          · intro w'
            go_simp
            with_reducible rfl
          rotate_left
          · simp only [Act.put, List.setIfInBounds_toArray, List.set_cons_zero, List.set_cons_succ, i64_w, i32_w]
            rfl
          refine pure_ (i := 7) (N := some 13) (v := ?_) (a' := ?_) (bm 14 1791) rfl rfl (any_of HT_.out (by kernel_rfl)) (fun _ _ _ h => h) (Or.inl ⟨by rfl, ?_⟩) ?_ ?_
          rotate_left
          · intro w'
            go_simp
            with_reducible rfl
          rotate_left
          · simp only [Act.put, List.setIfInBounds_toArray, List.set_cons_zero, List.set_cons_succ, i64_w, i32_w]
            rfl
          refine pure_ (i := 8) (N := some 14) (v := ?_) (a' := ?_) (bm 14 2047) rfl rfl (any_of HT_.out (by kernel_rfl)) (fun _ _ _ h => h) (Or.inl ⟨by rfl, ?_⟩) ?_ ?_
          rotate_left
          · intro w'
            go_simp
            with_reducible rfl
          rotate_left
          · simp only [Act.put, List.setIfInBounds_toArray, List.set_cons_zero, List.set_cons_succ, i64_w, i32_w]
            rfl
          exact norm_ (by simp only [putAll, Act.put, List.setIfInBounds_toArray, List.set_cons_zero, List.set_cons_succ]; try rfl) (hCont ⟨A27, c28, A50, c51, A52, c53, _, _⟩ _ H)
      · skip
        refine value_ (w1 := ?_) (v := ?_) (by rfl) rfl ?_ ?_
        rotate_left 2
        · go_simp
          constructor
          · rfl
          · rfl
        replace H := H.newbox rfl (blk_new _ (.cells #[.bool false, .slice none 0 0] 25 (0, 0))) (below_alloc (Below.refl _ _) _)
        refine hK.out _ _ ⟨H.cell m2 0, H.cell m2 1, H.cell m2 2, H.cell m2 3⟩ (fun hQ => ?_)
        clear hK K
        refine norm_ (a' := ?_) ?_ ?_
        rotate_left
        · show Act.put _ (some 4) _ = _
          simp only [Act.put, List.setIfInBounds_toArray, List.set_cons_zero, List.set_cons_succ, i64_w, i32_w]
          rfl
        refine two_ (i := 4) (j := 9) (Ni := some 11) (Nj := some 3) (bm 14 1055) (bm 14 1551) rfl rfl rfl rfl (two_of HT_.out (by kernel_rfl)) (by decide) (by decide) (fun K hK => ?_) (fun K hK => ?_)
        · skip
          refine goes_ Try.func32 (by kernel_rfl) rfl #[.agg #[.bool (ng n), .slice A (ln n) c], .agg #[.bool (ng e1), .slice A27 (ln e1) c28]] (by rfl) rfl rfl (by simp only [List.map_toArray, List.map_cons, List.map_nil]; try rfl) ?_
          with_reducible refine (DivQ (H.row _ m2) (H.row _ m0) (lim bn.out (by decide)) (lim be1.out (by decide)) he0.out u v hu.out hv.out).mono ?_
          rintro e w49 ⟨A50, c51, A52, c53, rfl, hr, hr2, hb⟩
          replace H := (H.got hr hb).more ((H.got hr2 hb).row _ m0)
          clear hr hr2 hb
          refine ⟨_, rfl, ?_⟩
          refine hK.out _ _ ⟨H.cell m2 0, H.cell m2 1, H.cell m2 2, H.cell m2 3⟩ (fun hQ => ?_)
          clear hK K
          refine norm_ (a' := ?_) ?_ ?_
          rotate_left
          · show Act.put _ (some 11) _ = _
            simp only [Act.put, List.setIfInBounds_toArray, List.set_cons_zero, List.set_cons_succ, i64_w, i32_w]
            rfl
          refine pure_ (i := 5) (N := some 6) (v := ?_) (a' := ?_) (bm 14 1087) rfl rfl (any_of HT_.out (by kernel_rfl)) (fun _ _ _ h => h) (Or.inl ⟨by rfl, ?_⟩) ?_ ?_
          rotate_left
          · intro w'
            go_simp
            with_reducible rfl
          rotate_left
          · simp only [Act.put, List.setIfInBounds_toArray, List.set_cons_zero, List.set_cons_succ, i64_w, i32_w]
            rfl
          refine pure_ (i := 6) (N := some 12) (v := ?_) (a' := ?_) (bm 14 1151) rfl rfl (any_of HT_.out (by kernel_rfl)) (fun _ _ _ h => h) (Or.inl ⟨by rfl, ?_⟩) ?_ ?_
          rotate_left
          · intro w'
            go_simp
            with_reducible rfl
          rotate_left
          · simp only [Act.put, List.setIfInBounds_toArray, List.set_cons_zero, List.set_cons_succ, i64_w, i32_w]
            rfl
          refine pure_ (i := 7) (N := some 13) (v := ?_) (a' := ?_) (bm 14 1279) rfl rfl (any_of HT_.out (by kernel_rfl)) (fun _ _ _ h => h) (Or.inl ⟨by rfl, ?_⟩) ?_ ?_
          rotate_left
          · intro w'
            go_simp
            with_reducible rfl
          rotate_left
          · simp only [Act.put, List.setIfInBounds_toArray, List.set_cons_zero, List.set_cons_succ, i64_w, i32_w]
            rfl
          refine pure_ (i := 8) (N := some 14) (v := ?_) (a' := ?_) (bm 14 1535) rfl rfl (any_of HT_.out (by kernel_rfl)) (fun _ _ _ h => h) (Or.inl ⟨by rfl, ?_⟩) ?_ ?_
          rotate_left
          · intro w'
            go_simp
            with_reducible rfl
          rotate_left
          · simp only [Act.put, List.setIfInBounds_toArray, List.set_cons_zero, List.set_cons_succ, i64_w, i32_w]
            rfl
          refine one_ (i := 9) (N := some 3) (bm 14 2047) rfl rfl (one_of HT_.out (by kernel_rfl)) (by decide) (fun K hK => ?_)
          refine value_ (w1 := ?_) (v := ?_) (by rfl) rfl ?_ ?_
          rotate_left 2
          · go_simp
            constructor
            · rfl
            · rfl
          replace H := H.newbox rfl (blk_new _ (.cells #[.bool false, .slice none 0 0] 25 (0, 0))) (below_alloc (Below.refl _ _) _)
          refine hK.out _ _ ⟨H.cell m3 0, H.cell m3 1, H.cell m3 2, H.cell m3 3⟩ (fun hQ => ?_)
          clear hK K
          refine norm_ (a' := ?_) ?_ ?_
          rotate_left
          · show Act.put _ (some 3) _ = _
            simp only [Act.put, List.setIfInBounds_toArray, List.set_cons_zero, List.set_cons_succ, i64_w, i32_w]
            rfl
          exact norm_ (by simp only [putAll, Act.put, List.setIfInBounds_toArray, List.set_cons_zero, List.set_cons_succ]; try rfl) (hCont ⟨A27, c28, A50, c51, A52, c53, _, _⟩ _ (H.perm (.swap _ _ _)))
        · skip
          refine value_ (w1 := ?_) (v := ?_) (by rfl) rfl ?_ ?_
          rotate_left 2
          · go_simp
            constructor
            · rfl
            · rfl
          replace H := H.newbox2 (.cells #[.bool false, .slice none 0 0] 25 (0, 0))
          refine hK.out _ _ ⟨H.cell m3 0, H.cell m3 1, H.cell m3 2, H.cell m3 3⟩ (fun hQ => ?_)
          clear hK K
          refine norm_ (a' := ?_) ?_ ?_
          rotate_left
          · show Act.put _ (some 3) _ = _
            simp only [Act.put, List.setIfInBounds_toArray, List.set_cons_zero, List.set_cons_succ, i64_w, i32_w]
            rfl
          refine one_ (i := 4) (N := some 11) (bm 14 1567) rfl rfl (one_of HT_.out (by kernel_rfl)) (by decide) (fun K hK => ?_)
          refine goes_ Try.func32 (by kernel_rfl) rfl #[.agg #[.bool (ng n), .slice A (ln n) c], .agg #[.bool (ng e1), .slice A27 (ln e1) c28]] (by rfl) rfl rfl (by simp only [List.map_toArray, List.map_cons, List.map_nil]; try rfl) ?_
          with_reducible refine (DivQ (H.row _ m2) (H.row _ m0) (lim bn.out (by decide)) (lim be1.out (by decide)) he0.out u v hu.out hv.out).mono ?_
          rintro e w49 ⟨A50, c51, A52, c53, rfl, hr, hr2, hb⟩
          replace H := (H.got hr hb).more ((H.got hr2 hb).row _ m0)
          clear hr hr2 hb
          refine ⟨_, rfl, ?_⟩
          refine hK.out _ _ ⟨H.cell m3 0, H.cell m3 1, H.cell m3 2, H.cell m3 3⟩ (fun hQ => ?_)
          clear hK K
          refine norm_ (a' := ?_) ?_ ?_
          rotate_left
          · show Act.put _ (some 11) _ = _
            simp only [Act.put, List.setIfInBounds_toArray, List.set_cons_zero, List.set_cons_succ, i64_w, i32_w]
            rfl
          refine pure_ (i := 5) (N := some 6) (v := ?_) (a' := ?_) (bm 14 1599) rfl rfl (any_of HT_.out (by kernel_rfl)) (fun _ _ _ h => h) (Or.inl ⟨by rfl, ?_⟩) ?_ ?_
          rotate_left
          · intro w'
            go_simp
            with_reducible rfl
          rotate_left
          · simp only [Act.put, List.setIfInBounds_toArray, List.set_cons_zero, List.set_cons_succ, i64_w, i32_w]
            rfl
          refine pure_ (i := 6) (N := some 12) (v := ?_) (a' := ?_) (bm 14 1663) rfl rfl (any_of HT_.out (by kernel_rfl)) (fun _ _ _ h => h) (Or.inl ⟨by rfl, ?_⟩) ?_ ?_
          rotate_left
          · intro w'
            go_simp
            with_reducible rfl
          rotate_left
          · simp only [Act.put, List.setIfInBounds_toArray, List.set_cons_zero, List.set_cons_succ, i64_w, i32_w]
            rfl
          refine pure_ (i := 7) (N := some 13) (v := ?_) (a' := ?_) (bm 14 1791) rfl rfl (any_of HT_.out (by kernel_rfl)) (fun _ _ _ h => h) (Or.inl ⟨by rfl, ?_⟩) ?_ ?_
          rotate_left
          · intro w'
            go_simp
            with_reducible rfl
          rotate_left
          · simp only [Act.put, List.setIfInBounds_toArray, List.set_cons_zero, List.set_cons_succ, i64_w, i32_w]
            rfl
          refine pure_ (i := 8) (N := some 14) (v := ?_) (a' := ?_) (bm 14 2047) rfl rfl (any_of HT_.out (by kernel_rfl)) (fun _ _ _ h => h) (Or.inl ⟨by rfl, ?_⟩) ?_ ?_
          rotate_left
          · intro w'
            go_simp
            with_reducible rfl
          rotate_left
          · simp only [Act.put, List.setIfInBounds_toArray, List.set_cons_zero, List.set_cons_succ, i64_w, i32_w]
            rfl
          exact norm_ (by simp only [putAll, Act.put, List.setIfInBounds_toArray, List.set_cons_zero, List.set_cons_succ]; try rfl) (hCont ⟨A27, c28, A50, c51, A52, c53, _, _⟩ _ (H.perm (.swap _ _ _)))
    · skip
      refine value_ (w1 := ?_) (v := ?_) (by rfl) rfl ?_ ?_
      rotate_left 2
      · go_simp
        constructor
        · rfl
        · rfl
      replace H := H.newbox rfl (blk_new _ (.cells #[.bool false, .slice none 0 0] 25 (0, 0))) (below_alloc (Below.refl _ _) _)
      refine hK.out _ _ ⟨H.cell m2 0, H.cell m2 1, H.cell m2 2, H.cell m2 3⟩ (fun hQ => ?_)
      clear hK K
      refine norm_ (a' := ?_) ?_ ?_
      rotate_left
      · show Act.put _ (some 3) _ = _
        simp only [Act.put, List.setIfInBounds_toArray, List.set_cons_zero, List.set_cons_succ, i64_w, i32_w]
        rfl
      refine two_ (i := 3) (j := 10) (Ni := some 10) (Nj := some 4) (bm 14 527) (bm 14 1543) rfl rfl rfl rfl (two_of HT_.out (by kernel_rfl)) (by decide) (by decide) (fun K hK => ?_) (fun K hK => ?_)
      · skip
        refine goes_ Try.func47 (by kernel_rfl) rfl #[.agg #[.bool (ng n), .slice A (ln n) c, .bool (ng d), .slice B (ln d) k]] (by rfl) rfl rfl (by simp only [List.map_toArray, List.map_cons, List.map_nil]; try rfl) ?_
        with_reducible refine (DenQ (H.row _ m1) (H.row _ m0) (limR bn.out (by decide)) (limR bd.out (by decide)) e1 he1.out).mono ?_
        rintro e w26 ⟨A27, c28, rfl, hr, hb⟩
        replace H := H.got hr hb
        clear hr hb
        refine ⟨_, rfl, ?_⟩
        refine hK.out _ _ ⟨H.cell m2 0, H.cell m2 1, H.cell m2 2, H.cell m2 3⟩ (fun hQ => ?_)
        clear hK K
        refine norm_ (a' := ?_) ?_ ?_
        rotate_left
        · show Act.put _ (some 10) _ = _
          simp only [Act.put, List.setIfInBounds_toArray, List.set_cons_zero, List.set_cons_succ, i64_w, i32_w]
          rfl
        refine two_ (i := 4) (j := 10) (Ni := some 11) (Nj := some 4) (bm 14 543) (bm 14 1551) rfl rfl rfl rfl (two_of HT_.out (by kernel_rfl)) (by decide) (by decide) (fun K hK => ?_) (fun K hK => ?_)
        · skip
          refine goes_ Try.func32 (by kernel_rfl) rfl #[.agg #[.bool (ng n), .slice A (ln n) c], .agg #[.bool (ng e1), .slice A27 (ln e1) c28]] (by rfl) rfl rfl (by simp only [List.map_toArray, List.map_cons, List.map_nil]; try rfl) ?_
          with_reducible refine (DivQ (H.row _ m2) (H.row _ m0) (lim bn.out (by decide)) (lim be1.out (by decide)) he0.out u v hu.out hv.out).mono ?_
          rintro e w49 ⟨A50, c51, A52, c53, rfl, hr, hr2, hb⟩
          replace H := (H.got hr hb).more ((H.got hr2 hb).row _ m0)
          clear hr hr2 hb
          refine ⟨_, rfl, ?_⟩
          refine hK.out _ _ ⟨H.cell m2 0, H.cell m2 1, H.cell m2 2, H.cell m2 3⟩ (fun hQ => ?_)
          clear hK K
          refine norm_ (a' := ?_) ?_ ?_
          rotate_left
          · show Act.put _ (some 11) _ = _
            simp only [Act.put, List.setIfInBounds_toArray, List.set_cons_zero, List.set_cons_succ, i64_w, i32_w]
            rfl
          refine pure_ (i := 5) (N := some 6) (v := ?_) (a' := ?_) (bm 14 575) rfl rfl (any_of HT_.out (by kernel_rfl)) (fun _ _ _ h => h) (Or.inl ⟨by rfl, ?_⟩) ?_ ?_
          rotate_left
          · intro w'
            go_simp
            with_reducible rfl
          rotate_left
          · simp only [Act.put, List.setIfInBounds_toArray, List.set_cons_zero, List.set_cons_succ, i64_w, i32_w]
            rfl
          refine pure_ (i := 6) (N := some 12) (v := ?_) (a' := ?_) (bm 14 639) rfl rfl (any_of HT_.out (by kernel_rfl)) (fun _ _ _ h => h) (Or.inl ⟨by rfl, ?_⟩) ?_ ?_
          rotate_left
          · intro w'
            go_simp
            with_reducible rfl
          rotate_left
          · simp only [Act.put, List.setIfInBounds_toArray, List.set_cons_zero, List.set_cons_succ, i64_w, i32_w]
            rfl
          refine pure_ (i := 7) (N := some 13) (v := ?_) (a' := ?_) (bm 14 767) rfl rfl (any_of HT_.out (by kernel_rfl)) (fun _ _ _ h => h) (Or.inl ⟨by rfl, ?_⟩) ?_ ?_
          rotate_left
          · intro w'
            go_simp
            with_reducible rfl
          rotate_left
          · simp only [Act.put, List.setIfInBounds_toArray, List.set_cons_zero, List.set_cons_succ, i64_w, i32_w]
            rfl
          refine pure_ (i := 8) (N := some 14) (v := ?_) (a' := ?_) (bm 14 1023) rfl rfl (any_of HT_.out (by kernel_rfl)) (fun _ _ _ h => h) (Or.inl ⟨by rfl, ?_⟩) ?_ ?_
          rotate_left
          · intro w'
            go_simp
            with_reducible rfl
          rotate_left
          · simp only [Act.put, List.setIfInBounds_toArray, List.set_cons_zero, List.set_cons_succ, i64_w, i32_w]
            rfl
          refine one_ (i := 10) (N := some 4) (bm 14 2047) rfl rfl (one_of HT_.out (by kernel_rfl)) (by decide) (fun K hK => ?_)
          refine value_ (w1 := ?_) (v := ?_) (by rfl) rfl ?_ ?_
          rotate_left 2
          · go_simp
            constructor
            · rfl
            · rfl
          replace H := H.newbox rfl (blk_new _ (.cells #[.bool false, .slice none 0 0] 25 (0, 0))) (below_alloc (Below.refl _ _) _)
          refine hK.out _ _ ⟨H.cell m3 0, H.cell m3 1, H.cell m3 2, H.cell m3 3⟩ (fun hQ => ?_)
          clear hK K
          refine norm_ (a' := ?_) ?_ ?_
          rotate_left
          · show Act.put _ (some 4) _ = _
            simp only [Act.put, List.setIfInBounds_toArray, List.set_cons_zero, List.set_cons_succ, i64_w, i32_w]
            rfl
          exact norm_ (by simp only [putAll, Act.put, List.setIfInBounds_toArray, List.set_cons_zero, List.set_cons_succ]; try rfl) (hCont ⟨A27, c28, A50, c51, A52, c53, _, _⟩ _ H)
        · skip
          refine value_ (w1 := ?_) (v := ?_) (by rfl) rfl ?_ ?_
          rotate_left 2
          · go_simp
            constructor
            · rfl
            · rfl
          replace H := H.newbox rfl (blk_new _ (.cells #[.bool false, .slice none 0 0] 25 (0, 0))) (below_alloc (Below.refl _ _) _)
          refine hK.out _ _ ⟨H.cell m3 0, H.cell m3 1, H.cell m3 2, H.cell m3 3⟩ (fun hQ => ?_)
          clear hK K
          refine norm_ (a' := ?_) ?_ ?_
          rotate_left
          · show Act.put _ (some 4) _ = _
            simp only [Act.put, List.setIfInBounds_toArray, List.set_cons_zero, List.set_cons_succ, i64_w, i32_w]
            rfl
          refine one_ (i := 4) (N := some 11) (bm 14 1567) rfl rfl (one_of HT_.out (by kernel_rfl)) (by decide) (fun K hK => ?_)
          refine goes_ Try.func32 (by kernel_rfl) rfl #[.agg #[.bool (ng n), .slice A (ln n) c], .agg #[.bool (ng e1), .slice A27 (ln e1) c28]] (by rfl) rfl rfl (by simp only [List.map_toArray, List.map_cons, List.map_nil]; try rfl) ?_
          with_reducible refine (DivQ (H.row _ m2) (H.row _ m0) (lim bn.out (by decide)) (lim be1.out (by decide)) he0.out u v hu.out hv.out).mono ?_
          rintro e w49 ⟨A50, c51, A52, c53, rfl, hr, hr2, hb⟩
          replace H := (H.got hr hb).more ((H.got hr2 hb).row _ m0)
          clear hr hr2 hb
          refine ⟨_, rfl, ?_⟩
          refine hK.out _ _ ⟨H.cell m3 0, H.cell m3 1, H.cell m3 2, H.cell m3 3⟩ (fun hQ => ?_)
          clear hK K
          refine norm_ (a' := ?_) ?_ ?_
          rotate_left
          · show Act.put _ (some 11) _ = _
            simp only [Act.put, List.setIfInBounds_toArray, List.set_cons_zero, List.set_cons_succ, i64_w, i32_w]
            rfl
          refine pure_ (i := 5) (N := some 6) (v := ?_) (a' := ?_) (bm 14 1599) rfl rfl (any_of HT_.out (by kernel_rfl)) (fun _ _ _ h => h) (Or.inl ⟨by rfl, ?_⟩) ?_ ?_
          rotate_left
          · intro w'
            go_simp
            with_reducible rfl
          rotate_left
          · simp only [Act.put, List.setIfInBounds_toArray, List.set_cons_zero, List.set_cons_succ, i64_w, i32_w]
            rfl
          refine pure_ (i := 6) (N := some 12) (v := ?_) (a' := ?_) (bm 14 1663) rfl rfl (any_of HT_.out (by kernel_rfl)) (fun _ _ _ h => h) (Or.inl ⟨by rfl, ?_⟩) ?_ ?_
          rotate_left
          · intro w'
            go_simp
            with_reducible rfl
          rotate_left
          · simp only [Act.put, List.setIfInBounds_toArray, List.set_cons_zero, List.set_cons_succ, i64_w, i32_w]
            rfl
          refine pure_ (i := 7) (N := some 13) (v := ?_) (a' := ?_) (bm 14 1791) rfl rfl (any_of HT_.out (by kernel_rfl)) (fun _ _ _ h => h) (Or.inl ⟨by rfl, ?_⟩) ?_ ?_
          rotate_left
          · intro w'
            go_simp
            with_reducible rfl
          rotate_left
          · simp only [Act.put, List.setIfInBounds_toArray, List.set_cons_zero, List.set_cons_succ, i64_w, i32_w]
            rfl
          refine pure_ (i := 8) (N := some 14) (v := ?_) (a' := ?_) (bm 14 2047) rfl rfl (any_of HT_.out (by kernel_rfl)) (fun _ _ _ h => h) (Or.inl ⟨by rfl, ?_⟩) ?_ ?_
          rotate_left
          · intro w'
            go_simp
            with_reducible rfl
          rotate_left
          · simp only [Act.put, List.setIfInBounds_toArray, List.set_cons_zero, List.set_cons_succ, i64_w, i32_w]
            rfl
          exact norm_ (by simp only [putAll, Act.put, List.setIfInBounds_toArray, List.set_cons_zero, List.set_cons_succ]; try rfl) (hCont ⟨A27, c28, A50, c51, A52, c53, _, _⟩ _ H)
      · skip
        refine value_ (w1 := ?_) (v := ?_) (by rfl) rfl ?_ ?_
        rotate_left 2
        · go_simp
          constructor
          · rfl
          · rfl
        replace H := H.newbox2 (.cells #[.bool false, .slice none 0 0] 25 (0, 0))
        refine hK.out _ _ ⟨H.cell m3 0, H.cell m3 1, H.cell m3 2, H.cell m3 3⟩ (fun hQ => ?_)
        clear hK K
        refine norm_ (a' := ?_) ?_ ?_
        rotate_left
        · show Act.put _ (some 4) _ = _
          simp only [Act.put, List.setIfInBounds_toArray, List.set_cons_zero, List.set_cons_succ, i64_w, i32_w]
          rfl
        refine one_ (i := 3) (N := some 10) (bm 14 1551) rfl rfl (one_of HT_.out (by kernel_rfl)) (by decide) (fun K hK => ?_)
        refine goes_ Try.func47 (by kernel_rfl) rfl #[.agg #[.bool (ng n), .slice A (ln n) c, .bool (ng d), .slice B (ln d) k]] (by rfl) rfl rfl (by simp only [List.map_toArray, List.map_cons, List.map_nil]; try rfl) ?_
        with_reducible refine (DenQ (H.row _ m1) (H.row _ m0) (limR bn.out (by decide)) (limR bd.out (by decide)) e1 he1.out).mono ?_
        rintro e w26 ⟨A27, c28, rfl, hr, hb⟩
        replace H := H.got hr hb
        clear hr hb
        refine ⟨_, rfl, ?_⟩
        refine hK.out _ _ ⟨H.cell m3 0, H.cell m3 1, H.cell m3 2, H.cell m3 3⟩ (fun hQ => ?_)
        clear hK K
        refine norm_ (a' := ?_) ?_ ?_
        rotate_left
        · show Act.put _ (some 10) _ = _
          simp only [Act.put, List.setIfInBounds_toArray, List.set_cons_zero, List.set_cons_succ, i64_w, i32_w]
          rfl
        refine one_ (i := 4) (N := some 11) (bm 14 1567) rfl rfl (one_of HT_.out (by kernel_rfl)) (by decide) (fun K hK => ?_)
        refine goes_ Try.func32 (by kernel_rfl) rfl #[.agg #[.bool (ng n), .slice A (ln n) c], .agg #[.bool (ng e1), .slice A27 (ln e1) c28]] (by rfl) rfl rfl (by simp only [List.map_toArray, List.map_cons, List.map_nil]; try rfl) ?_
        with_reducible refine (DivQ (H.row _ m2) (H.row _ m0) (lim bn.out (by decide)) (lim be1.out (by decide)) he0.out u v hu.out hv.out).mono ?_
        rintro e w49 ⟨A50, c51, A52, c53, rfl, hr, hr2, hb⟩
        replace H := (H.got hr hb).more ((H.got hr2 hb).row _ m0)
        clear hr hr2 hb
        refine ⟨_, rfl, ?_⟩
        refine hK.out _ _ ⟨H.cell m3 0, H.cell m3 1, H.cell m3 2, H.cell m3 3⟩ (fun hQ => ?_)
        clear hK K
        refine norm_ (a' := ?_) ?_ ?_
        rotate_left
        · show Act.put _ (some 11) _ = _
          simp only [Act.put, List.setIfInBounds_toArray, List.set_cons_zero, List.set_cons_succ, i64_w, i32_w]
          rfl
        refine pure_ (i := 5) (N := some 6) (v := ?_) (a' := ?_) (bm 14 1599) rfl rfl (any_of HT_.out (by kernel_rfl)) (fun _ _ _ h => h) (Or.inl ⟨by rfl, ?_⟩) ?_ ?_
        rotate_left
        · intro w'
          go_simp
          with_reducible rfl
        rotate_left
        · simp only [Act.put, List.setIfInBounds_toArray, List.set_cons_zero, List.set_cons_succ, i64_w, i32_w]
          rfl
        refine pure_ (i := 6) (N := some 12) (v := ?_) (a' := ?_) (bm 14 1663) rfl rfl (any_of HT_.out (by kernel_rfl)) (fun _ _ _ h => h) (Or.inl ⟨by rfl, ?_⟩) ?_ ?_
        rotate_left
        · intro w'
          go_simp
          with_reducible rfl
        rotate_left
        · simp only [Act.put, List.setIfInBounds_toArray, List.set_cons_zero, List.set_cons_succ, i64_w, i32_w]
          rfl
        refine pure_ (i := 7) (N := some 13) (v := ?_) (a' := ?_) (bm 14 1791) rfl rfl (any_of HT_.out (by kernel_rfl)) (fun _ _ _ h => h) (Or.inl ⟨by rfl, ?_⟩) ?_ ?_
        rotate_left
        · intro w'
          go_simp
          with_reducible rfl
        rotate_left
        · simp only [Act.put, List.setIfInBounds_toArray, List.set_cons_zero, List.set_cons_succ, i64_w, i32_w]
          rfl
        refine pure_ (i := 8) (N := some 14) (v := ?_) (a' := ?_) (bm 14 2047) rfl rfl (any_of HT_.out (by kernel_rfl)) (fun _ _ _ h => h) (Or.inl ⟨by rfl, ?_⟩) ?_ ?_
        rotate_left
        · intro w'
          go_simp
          with_reducible rfl
        rotate_left
        · simp only [Act.put, List.setIfInBounds_toArray, List.set_cons_zero, List.set_cons_succ, i64_w, i32_w]
          rfl
        exact norm_ (by simp only [putAll, Act.put, List.setIfInBounds_toArray, List.set_cons_zero, List.set_cons_succ]; try rfl) (hCont ⟨A27, c28, A50, c51, A52, c53, _, _⟩ _ H)
    · skip
      refine value_ (w1 := ?_) (v := ?_) (by rfl) rfl ?_ ?_
      rotate_left 2
      · go_simp
        constructor
        · rfl
        · rfl
      replace H := H.newbox rfl (blk_new _ (.cells #[.bool false, .slice none 0 0] 25 (0, 0))) (below_alloc (Below.refl _ _) _)
      refine hK.out _ _ ⟨H.cell m2 0, H.cell m2 1, H.cell m2 2, H.cell m2 3⟩ (fun hQ => ?_)
      clear hK K
      refine norm_ (a' := ?_) ?_ ?_
      rotate_left
      · show Act.put _ (some 4) _ = _
        simp only [Act.put, List.setIfInBounds_toArray, List.set_cons_zero, List.set_cons_succ, i64_w, i32_w]
        rfl
      refine two_ (i := 3) (j := 9) (Ni := some 10) (Nj := some 3) (bm 14 1039) (bm 14 1543) rfl rfl rfl rfl (two_of HT_.out (by kernel_rfl)) (by decide) (by decide) (fun K hK => ?_) (fun K hK => ?_)
      · skip
        refine goes_ Try.func47 (by kernel_rfl) rfl #[.agg #[.bool (ng n), .slice A (ln n) c, .bool (ng d), .slice B (ln d) k]] (by rfl) rfl rfl (by simp only [List.map_toArray, List.map_cons, List.map_nil]; try rfl) ?_
        with_reducible refine (DenQ (H.row _ m1) (H.row _ m0) (limR bn.out (by decide)) (limR bd.out (by decide)) e1 he1.out).mono ?_
        rintro e w26 ⟨A27, c28, rfl, hr, hb⟩
        replace H := H.got hr hb
        clear hr hb
        refine ⟨_, rfl, ?_⟩
        refine hK.out _ _ ⟨H.cell m2 0, H.cell m2 1, H.cell m2 2, H.cell m2 3⟩ (fun hQ => ?_)
        clear hK K
        refine norm_ (a' := ?_) ?_ ?_
        rotate_left
        · show Act.put _ (some 10) _ = _
          simp only [Act.put, List.setIfInBounds_toArray, List.set_cons_zero, List.set_cons_succ, i64_w, i32_w]
          rfl
        refine two_ (i := 4) (j := 9) (Ni := some 11) (Nj := some 3) (bm 14 1055) (bm 14 1551) rfl rfl rfl rfl (two_of HT_.out (by kernel_rfl)) (by decide) (by decide) (fun K hK => ?_) (fun K hK => ?_)
        · skip
          refine goes_ Try.func32 (by kernel_rfl) rfl #[.agg #[.bool (ng n), .slice A (ln n) c], .agg #[.bool (ng e1), .slice A27 (ln e1) c28]] (by rfl) rfl rfl (by simp only [List.map_toArray, List.map_cons, List.map_nil]; try rfl) ?_
          with_reducible refine (DivQ (H.row _ m2) (H.row _ m0) (lim bn.out (by decide)) (lim be1.out (by decide)) he0.out u v hu.out hv.out).mono ?_
          rintro e w49 ⟨A50, c51, A52, c53, rfl, hr, hr2, hb⟩
          replace H := (H.got hr hb).more ((H.got hr2 hb).row _ m0)
          clear hr hr2 hb
          refine ⟨_, rfl, ?_⟩
          refine hK.out _ _ ⟨H.cell m2 0, H.cell m2 1, H.cell m2 2, H.cell m2 3⟩ (fun hQ => ?_)
          clear hK K
          refine norm_ (a' := ?_) ?_ ?_
          rotate_left
          · show Act.put _ (some 11) _ = _
            simp only [Act.put, List.setIfInBounds_toArray, List.set_cons_zero, List.set_cons_succ, i64_w, i32_w]
            rfl
          refine pure_ (i := 5) (N := some 6) (v := ?_) (a' := ?_) (bm 14 1087) rfl rfl (any_of HT_.out (by kernel_rfl)) (fun _ _ _ h => h) (Or.inl ⟨by rfl, ?_⟩) ?_ ?_
          rotate_left
          · intro w'
            go_simp
            with_reducible rfl
          rotate_left
          · simp only [Act.put, List.setIfInBounds_toArray, List.set_cons_zero, List.set_cons_succ, i64_w, i32_w]
            rfl
          refine pure_ (i := 6) (N := some 12) (v := ?_) (a' := ?_) (bm 14 1151) rfl rfl (any_of HT_.out (by kernel_rfl)) (fun _ _ _ h => h) (Or.inl ⟨by rfl, ?_⟩) ?_ ?_
          rotate_left
          · intro w'
            go_simp
            with_reducible rfl
          rotate_left
          · simp only [Act.put, List.setIfInBounds_toArray, List.set_cons_zero, List.set_cons_succ, i64_w, i32_w]
            rfl
          refine pure_ (i := 7) (N := some 13) (v := ?_) (a' := ?_) (bm 14 1279) rfl rfl (any_of HT_.out (by kernel_rfl)) (fun _ _ _ h => h) (Or.inl ⟨by rfl, ?_⟩) ?_ ?_
          rotate_left
          · intro w'
            go_simp
            with_reducible rfl
          rotate_left
          · simp only [Act.put, List.setIfInBounds_toArray, List.set_cons_zero, List.set_cons_succ, i64_w, i32_w]
            rfl
          refine pure_ (i := 8) (N := some 14) (v := ?_) (a' := ?_) (bm 14 1535) rfl rfl (any_of HT_.out (by kernel_rfl)) (fun _ _ _ h => h) (Or.inl ⟨by rfl, ?_⟩) ?_ ?_
          rotate_left
          · intro w'
            go_simp
            with_reducible rfl
          rotate_left
          · simp only [Act.put, List.setIfInBounds_toArray, List.set_cons_zero, List.set_cons_succ, i64_w, i32_w]
            rfl
          refine one_ (i := 9) (N := some 3) (bm 14 2047) rfl rfl (one_of HT_.out (by kernel_rfl)) (by decide) (fun K hK => ?_)
          refine value_ (w1 := ?_) (v := ?_) (by rfl) rfl ?_ ?_
          rotate_left 2
          · go_simp
            constructor
            · rfl
            · rfl
          replace H := H.newbox rfl (blk_new _ (.cells #[.bool false, .slice none 0 0] 25 (0, 0))) (below_alloc (Below.refl _ _) _)
          refine hK.out _ _ ⟨H.cell m3 0, H.cell m3 1, H.cell m3 2, H.cell m3 3⟩ (fun hQ => ?_)
          clear hK K
          refine norm_ (a' := ?_) ?_ ?_
          rotate_left
          · show Act.put _ (some 3) _ = _
            simp only [Act.put, List.setIfInBounds_toArray, List.set_cons_zero, List.set_cons_succ, i64_w, i32_w]
            rfl
          exact norm_ (by simp only [putAll, Act.put, List.setIfInBounds_toArray, List.set_cons_zero, List.set_cons_succ]; try rfl) (hCont ⟨A27, c28, A50, c51, A52, c53, _, _⟩ _ (H.perm (.swap _ _ _)))
        · skip
          refine value_ (w1 := ?_) (v := ?_) (by rfl) rfl ?_ ?_
          rotate_left 2
          · go_simp
            constructor
            · rfl
            · rfl
          replace H := H.newbox rfl (blk_new _ (.cells #[.bool false, .slice none 0 0] 25 (0, 0))) (below_alloc (Below.refl _ _) _)
          refine hK.out _ _ ⟨H.cell m3 0, H.cell m3 1, H.cell m3 2, H.cell m3 3⟩ (fun hQ => ?_)
          clear hK K
          refine norm_ (a' := ?_) ?_ ?_
          rotate_left
          · show Act.put _ (some 3) _ = _
            simp only [Act.put, List.setIfInBounds_toArray, List.set_cons_zero, List.set_cons_succ, i64_w, i32_w]
            rfl
          refine one_ (i := 4) (N := some 11) (bm 14 1567) rfl rfl (one_of HT_.out (by kernel_rfl)) (by decide) (fun K hK => ?_)
          refine goes_ Try.func32 (by kernel_rfl) rfl #[.agg #[.bool (ng n), .slice A (ln n) c], .agg #[.bool (ng e1), .slice A27 (ln e1) c28]] (by rfl) rfl rfl (by simp only [List.map_toArray, List.map_cons, List.map_nil]; try rfl) ?_
          with_reducible refine (DivQ (H.row _ m2) (H.row _ m0) (lim bn.out (by decide)) (lim be1.out (by decide)) he0.out u v hu.out hv.out).mono ?_
          rintro e w49 ⟨A50, c51, A52, c53, rfl, hr, hr2, hb⟩
          replace H := (H.got hr hb).more ((H.got hr2 hb).row _ m0)
          clear hr hr2 hb
          refine ⟨_, rfl, ?_⟩
          refine hK.out _ _ ⟨H.cell m3 0, H.cell m3 1, H.cell m3 2, H.cell m3 3⟩ (fun hQ => ?_)
          clear hK K
          refine norm_ (a' := ?_) ?_ ?_
          rotate_left
          · show Act.put _ (some 11) _ = _
            simp only [Act.put, List.setIfInBounds_toArray, List.set_cons_zero, List.set_cons_succ, i64_w, i32_w]
            rfl
          refine pure_ (i := 5) (N := some 6) (v := ?_) (a' := ?_) (bm 14 1599) rfl rfl (any_of HT_.out (by kernel_rfl)) (fun _ _ _ h => h) (Or.inl ⟨by rfl, ?_⟩) ?_ ?_
          rotate_left
          · intro w'
            go_simp
            with_reducible rfl
          rotate_left
          · simp only [Act.put, List.setIfInBounds_toArray, List.set_cons_zero, List.set_cons_succ, i64_w, i32_w]
            rfl
          refine pure_ (i := 6) (N := some 12) (v := ?_) (a' := ?_) (bm 14 1663) rfl rfl (any_of HT_.out (by kernel_rfl)) (fun _ _ _ h => h) (Or.inl ⟨by rfl, ?_⟩) ?_ ?_
          rotate_left
          · intro w'
            go_simp
            with_reducible rfl
          rotate_left
          · simp only [Act.put, List.setIfInBounds_toArray, List.set_cons_zero, List.set_cons_succ, i64_w, i32_w]
            rfl
          refine pure_ (i := 7) (N := some 13) (v := ?_) (a' := ?_) (bm 14 1791) rfl rfl (any_of HT_.out (by kernel_rfl)) (fun _ _ _ h => h) (Or.inl ⟨by rfl, ?_⟩) ?_ ?_
          rotate_left
          · intro w'
            go_simp
            with_reducible rfl
          rotate_left
          · simp only [Act.put, List.setIfInBounds_toArray, List.set_cons_zero, List.set_cons_succ, i64_w, i32_w]
            rfl
          refine pure_ (i := 8) (N := some 14) (v := ?_) (a' := ?_) (bm 14 2047) rfl rfl (any_of HT_.out (by kernel_rfl)) (fun _ _ _ h => h) (Or.inl ⟨by rfl, ?_⟩) ?_ ?_
          rotate_left
          · intro w'
            go_simp
            with_reducible rfl
          rotate_left
          · simp only [Act.put, List.setIfInBounds_toArray, List.set_cons_zero, List.set_cons_succ, i64_w, i32_w]
            rfl
          exact norm_ (by simp only [putAll, Act.put, List.setIfInBounds_toArray, List.set_cons_zero, List.set_cons_succ]; try rfl) (hCont ⟨A27, c28, A50, c51, A52, c53, _, _⟩ _ (H.perm (.swap _ _ _)))
      · skip
        refine value_ (w1 := ?_) (v := ?_) (by rfl) rfl ?_ ?_
        rotate_left 2
        · go_simp
          constructor
          · rfl
          · rfl
        replace H := H.newbox2 (.cells #[.bool false, .slice none 0 0] 25 (0, 0))
        refine hK.out _ _ ⟨H.cell m3 0, H.cell m3 1, H.cell m3 2, H.cell m3 3⟩ (fun hQ => ?_)
        clear hK K
        refine norm_ (a' := ?_) ?_ ?_
        rotate_left
        · show Act.put _ (some 3) _ = _
          simp only [Act.put, List.setIfInBounds_toArray, List.set_cons_zero, List.set_cons_succ, i64_w, i32_w]
          rfl
        refine one_ (i := 3) (N := some 10) (bm 14 1551) rfl rfl (one_of HT_.out (by kernel_rfl)) (by decide) (fun K hK => ?_)
        refine goes_ Try.func47 (by kernel_rfl) rfl #[.agg #[.bool (ng n), .slice A (ln n) c, .bool (ng d), .slice B (ln d) k]] (by rfl) rfl rfl (by simp only [List.map_toArray, List.map_cons, List.map_nil]; try rfl) ?_
        with_reducible refine (DenQ (H.row _ m1) (H.row _ m0) (limR bn.out (by decide)) (limR bd.out (by decide)) e1 he1.out).mono ?_
        rintro e w26 ⟨A27, c28, rfl, hr, hb⟩
        replace H := H.got hr hb
        clear hr hb
        refine ⟨_, rfl, ?_⟩
        refine hK.out _ _ ⟨H.cell m3 0, H.cell m3 1, H.cell m3 2, H.cell m3 3⟩ (fun hQ => ?_)
        clear hK K
        refine norm_ (a' := ?_) ?_ ?_
        rotate_left
        · show Act.put _ (some 10) _ = _
          simp only [Act.put, List.setIfInBounds_toArray, List.set_cons_zero, List.set_cons_succ, i64_w, i32_w]
          rfl
        refine one_ (i := 4) (N := some 11) (bm 14 1567) rfl rfl (one_of HT_.out (by kernel_rfl)) (by decide) (fun K hK => ?_)
        refine goes_ Try.func32 (by kernel_rfl) rfl #[.agg #[.bool (ng n), .slice A (ln n) c], .agg #[.bool (ng e1), .slice A27 (ln e1) c28]] (by rfl) rfl rfl (by simp only [List.map_toArray, List.map_cons, List.map_nil]; try rfl) ?_
        with_reducible refine (DivQ (H.row _ m2) (H.row _ m0) (lim bn.out (by decide)) (lim be1.out (by decide)) he0.out u v hu.out hv.out).mono ?_
        rintro e w49 ⟨A50, c51, A52, c53, rfl, hr, hr2, hb⟩
        replace H := (H.got hr hb).more ((H.got hr2 hb).row _ m0)
        clear hr hr2 hb
        refine ⟨_, rfl, ?_⟩
        refine hK.out _ _ ⟨H.cell m3 0, H.cell m3 1, H.cell m3 2, H.cell m3 3⟩ (fun hQ => ?_)
        clear hK K
        refine norm_ (a' := ?_) ?_ ?_
        rotate_left
        · show Act.put _ (some 11) _ = _
          simp only [Act.put, List.setIfInBounds_toArray, List.set_cons_zero, List.set_cons_succ, i64_w, i32_w]
          rfl
        refine pure_ (i := 5) (N := some 6) (v := ?_) (a' := ?_) (bm 14 1599) rfl rfl (any_of HT_.out (by kernel_rfl)) (fun _ _ _ h => h) (Or.inl ⟨by rfl, ?_⟩) ?_ ?_
        rotate_left
        · intro w'
          go_simp
          with_reducible rfl
        rotate_left
        · simp only [Act.put, List.setIfInBounds_toArray, List.set_cons_zero, List.set_cons_succ, i64_w, i32_w]
          rfl
        refine pure_ (i := 6) (N := some 12) (v := ?_) (a' := ?_) (bm 14 1663) rfl rfl (any_of HT_.out (by kernel_rfl)) (fun _ _ _ h => h) (Or.inl ⟨by rfl, ?_⟩) ?_ ?_
        rotate_left
        · intro w'
          go_simp
          with_reducible rfl
        rotate_left
        · simp only [Act.put, List.setIfInBounds_toArray, List.set_cons_zero, List.set_cons_succ, i64_w, i32_w]
          rfl
        refine pure_ (i := 7) (N := some 13) (v := ?_) (a' := ?_) (bm 14 1791) rfl rfl (any_of HT_.out (by kernel_rfl)) (fun _ _ _ h => h) (Or.inl ⟨by rfl, ?_⟩) ?_ ?_
        rotate_left
        · intro w'
          go_simp
          with_reducible rfl
        rotate_left
        · simp only [Act.put, List.setIfInBounds_toArray, List.set_cons_zero, List.set_cons_succ, i64_w, i32_w]
          rfl
        refine pure_ (i := 8) (N := some 14) (v := ?_) (a' := ?_) (bm 14 2047) rfl rfl (any_of HT_.out (by kernel_rfl)) (fun _ _ _ h => h) (Or.inl ⟨by rfl, ?_⟩) ?_ ?_
        rotate_left
        · intro w'
          go_simp
          with_reducible rfl
        rotate_left
        · simp only [Act.put, List.setIfInBounds_toArray, List.set_cons_zero, List.set_cons_succ, i64_w, i32_w]
          rfl
        exact norm_ (by simp only [putAll, Act.put, List.setIfInBounds_toArray, List.set_cons_zero, List.set_cons_succ]; try rfl) (hCont ⟨A27, c28, A50, c51, A52, c53, _, _⟩ _ (H.perm (.swap _ _ _)))
  rintro ⟨A27, c28, A50, c51, A52, c53, g3, g4⟩ wF H
  clear hQ
  have hQ := (show wF.cell? ⟨g1, 0, none⟩ = some (.bool (ng n)) ∧ wF.cell? ⟨g1, 1, none⟩ = some (.slice A (ln n) c) ∧ wF.cell? ⟨g1, 2, none⟩ = some (.bool (ng d)) ∧ wF.cell? ⟨g1, 3, none⟩ = some (.slice B (ln d) k) from ⟨H.cell m3 0, H.cell m3 1, H.cell m3 2, H.cell m3 3⟩)
  refine norm_ (a' := ?_) ?_ ?_
  rotate_left
  · simp only [putAll, Act.put, List.setIfInBounds_toArray, List.set_cons_zero, List.set_cons_succ]
    rfl
  refine last_ (i := 11) (N := none) (bm 14 4095) rfl rfl (one_of HT_.out (by kernel_rfl)) (by decide) (fun K hK => ?_)
  obtain ⟨k4_0, z4_0, k4_1, z4_1⟩ := H.b2 (g := g4) m0
  obtain ⟨k3_0, z3_0, k3_1, z3_1⟩ := H.b2 (g := g3) m1
  obtain ⟨k1_0, z1_0, k1_1, z1_1, k1_2, z1_2, k1_3, z1_3⟩ := H.b4 (g := g1) m3
  have nez114 := H.ne (g := g3) (g' := g4) 1 0 rfl rfl (by decide)
  have nez114' := nez114.symm
  refine skip_ (w1 := ?_) (by rfl) rfl ?_ ?_
  rotate_left
  · go_simp
    rfl
  refine hK.out _ _ ?_
  clear hK K
  refine last_ (i := 12) (N := none) (bm 14 8191) rfl rfl (one_of HT_.out (by kernel_rfl)) (by decide) (fun K hK => ?_)
  refine skip_ (w1 := ?_) (by rfl) rfl ?_ ?_
  rotate_left
  · go_simp
    rfl
  refine hK.out _ _ ?_
  clear hK K
  refine pure_ (i := 13) (N := some 5) (v := ?_) (a' := ?_) (bm 14 16383) rfl rfl (any_of HT_.out (by kernel_rfl)) (fun _ _ _ h => h) (Or.inl ⟨by rfl, ?_⟩) ?_ ?_
  rotate_left
  · intro w'
    go_simp
    with_reducible rfl
  rotate_left
  · simp only [Act.put, List.setIfInBounds_toArray, List.set_cons_zero, List.set_cons_succ, i64_w, i32_w]
    rfl
  refine done_ (done_of HT_.out (by kernel_rfl)) ?_
  try clear hQ
  replace H := ((((H.setn [_] 0 (.bool (ng u)) rfl).setn [_] 1 (.slice A50 (ln u) c51) rfl).setn [] 0 (.bool (ng v)) rfl).setn [] 1 (.slice A52 (ln v) c53) rfl)
  clear k4_0 z4_0 k4_1 z4_1 k3_0 z3_0 k3_1 z3_1 k1_0 z1_0 k1_1 z1_1 k1_2 z1_2 k1_3 z1_3
  generalize ((((wF.setCell ⟨g3, 0, none⟩ (.bool (ng u))).setCell ⟨g3, 1, none⟩ (.slice A50 (ln u) c51)).setCell ⟨g4, 0, none⟩ (.bool (ng v))).setCell ⟨g4, 1, none⟩ (.slice A52 (ln v) c53)) = w115 at H ⊢
  obtain ⟨k4_0, z4_0, k4_1, z4_1⟩ := H.b2 (g := g4) m0
  obtain ⟨k3_0, z3_0, k3_1, z3_1⟩ := H.b2 (g := g3) m1
  obtain ⟨k2_0, z2_0, k2_1, z2_1⟩ := H.b2 (g := g2) m2
  obtain ⟨k1_0, z1_0, k1_1, z1_1, k1_2, z1_2, k1_3, z1_3⟩ := H.b4 (g := g1) m3
  by_cases s0 : s < 0
  · have d1 : decide (s < 0) = true := decide_eq_true s0
    obtain ⟨i, hi⟩ : ∃ v : Int, (1 : Int) = v := ⟨_, rfl⟩
    have bi := Aside0.mk (show ln i ≤ 1 from ln_bound i 1 (by omega))
    have hf2 := Aside0.mk (show u - i = r by rw [← hi, ← hr.out, if_pos s0])
    replace hi := Aside0.mk hi
    clear s0
    have st117 := trivial
    go_upto_region 3 with (first
      | (clear st117; go_at_call 25; (with_reducible refine (SignQ _ _ _ (lim bv.out (by decide)) s hs.out).mono ?_); rintro e w116 ⟨rfl, hb⟩; replace H := H.call hb; clear hb; clear k4_0 z4_0 k4_1 z4_1 k3_0 z3_0 k3_1 z3_1 k2_0 z2_0 k2_1 z2_1 k1_0 z1_0 k1_1 z1_1 k1_2 z1_2 k1_3 z1_3; obtain ⟨k4_0, z4_0, k4_1, z4_1⟩ := H.b2 (g := g4) m0; obtain ⟨k3_0, z3_0, k3_1, z3_1⟩ := H.b2 (g := g3) m1; obtain ⟨k2_0, z2_0, k2_1, z2_1⟩ := H.b2 (g := g2) m2; obtain ⟨k1_0, z1_0, k1_1, z1_1, k1_2, z1_2, k1_3, z1_3⟩ := H.b4 (g := g1) m3))
    (try simp only [Act.put, List.setIfInBounds_toArray, List.set_cons_zero, List.set_cons_succ])
    clear k4_0 z4_0 k4_1 z4_1 k3_0 z3_0 k3_1 z3_1 k2_0 z2_0 k2_1 z2_1 k1_0 z1_0 k1_1 z1_1 k1_2 z1_2 k1_3 z1_3
    replace H := H.drew
    refine start_ (n := 4) (S := fun w' => w'.cell? ⟨g3, 0, none⟩ = some (.bool (ng u)) ∧ w'.cell? ⟨g3, 1, none⟩ = some (.slice A50 (ln u) c51)) (ds := [3]) #[false, false, false, false] (by kernel_rfl) rfl rfl ⟨H.cell m1 0, H.cell m1 1⟩ (fun hQ => ?_)
    generalize w116.drew = w118 at H hQ ⊢
    refine take_ (i := 0) (N := some 18) (v := ?_) (a' := ?_) #[true, false, false, false] rfl rfl (by kernel_rfl) (fun _ _ _ h => h) (Or.inl ⟨by rfl, ?_⟩) hQ ?_ ?_
    rotate_left
    · rintro w' ⟨s0, s1⟩
      go_simp
      with_reducible rfl
    rotate_left
    · simp only [Act.put, List.setIfInBounds_toArray, List.set_cons_zero, List.set_cons_succ, i64_w, i32_w]
      rfl
    refine one_ (i := 1) (N := some 19) #[true, true, false, false] rfl rfl (by kernel_rfl) (by decide) (fun K hK => ?_)
    refine goes_ Try.func27 (by kernel_rfl) rfl #[.int .i64 1] (by rfl) rfl rfl (by simp only [List.map_toArray, List.map_cons, List.map_nil]; try rfl) ?_
    with_reducible refine (OfQ _ 1 i hi.out (by decide) (by decide)).mono ?_
    rintro e w119 ⟨A120, c121, rfl, hr, hb⟩
    replace H := H.got (fresh_row hr) hb
    clear hr hb
    refine ⟨_, rfl, ?_⟩
    refine hK.out _ _ ⟨H.cell m1 0, H.cell m1 1⟩ (fun hQ => ?_)
    clear hK K
    refine norm_ (a' := ?_) ?_ ?_
    rotate_left
    · show Act.put _ (some 19) _ = _
      simp only [Act.put, List.setIfInBounds_toArray, List.set_cons_zero, List.set_cons_succ, i64_w, i32_w]
      rfl
    refine one_ (i := 2) (N := some 20) #[true, true, true, false] rfl rfl (by kernel_rfl) (by decide) (fun K hK => ?_)
    refine goes_ Try.func30 (by kernel_rfl) rfl #[.agg #[.bool (ng u), .slice A50 (ln u) c51], .agg #[.bool (ng i), .slice A120 (ln i) c121]] (by rfl) rfl rfl (by simp only [List.map_toArray, List.map_cons, List.map_nil]; try rfl) ?_
    with_reducible refine (SubQ (H.row _ m2) (H.row _ m0) (lim bu.out (by decide)) (lim bi.out (by decide)) r hf2.out).mono ?_
    rintro e w122 ⟨A123, c124, rfl, hr, hb⟩
    replace H := H.got hr hb
    clear hr hb
    refine ⟨_, rfl, ?_⟩
    refine hK.out _ _ ⟨H.cell m1 0, H.cell m1 1⟩ (fun hQ => ?_)
    clear hK K
    refine norm_ (a' := ?_) ?_ ?_
    rotate_left
    · show Act.put _ (some 20) _ = _
      simp only [Act.put, List.setIfInBounds_toArray, List.set_cons_zero, List.set_cons_succ, i64_w, i32_w]
      rfl
    refine last_ (i := 3) (N := none) #[true, true, true, true] rfl rfl (by kernel_rfl) (by decide) (fun K hK => ?_)
    obtain ⟨k3_0, z3_0, k3_1, z3_1⟩ := H.b2 (g := g3) m1
    refine skip_ (w1 := ?_) (by rfl) rfl ?_ ?_
    rotate_left
    · go_simp
      rfl
    refine hK.out _ _ ?_
    clear hK K
    refine done_ (by kernel_rfl) ?_
    try clear hQ
    replace H := ((H.setn [_] 0 (.bool (ng r)) rfl).setn [_] 1 (.slice A123 (ln r) c124) rfl)
    clear k3_0 z3_0 k3_1 z3_1
    generalize ((w122.setCell ⟨g3, 0, none⟩ (.bool (ng r))).setCell ⟨g3, 1, none⟩ (.slice A123 (ln r) c124)) = w125 at H ⊢
    obtain ⟨k4_0, z4_0, k4_1, z4_1⟩ := H.b2 (g := g4) m0
    obtain ⟨k3_0, z3_0, k3_1, z3_1⟩ := H.b2 (g := g3) m1
    obtain ⟨k2_0, z2_0, k2_1, z2_1⟩ := H.b2 (g := g2) m2
    obtain ⟨k1_0, z1_0, k1_1, z1_1, k1_2, z1_2, k1_3, z1_3⟩ := H.b4 (g := g1) m3
    go_wp2
    replace H := ((H.setn [_, _] 0 (.bool (ng r)) rfl).setn [_, _] 1 (.slice A123 (ln r) c124) rfl)
    refine bodyPost_ret (results_cell_row rfl _ _ g2 25 #[.bool (ng r), .slice A123 (ln r) c124] (0, 0) _ rfl (H.blk m2) Try.underlying25 rfl (by kernel_rfl)) rfl ?_
    exact ⟨A123, c124, rfl, H.ret m0, H.below⟩
  · have d1 : decide (s < 0) = false := decide_eq_false s0
    have hf2 := Aside0.mk (show u = r by rw [← hr.out, if_neg s0])
    clear s0
    have st127 := trivial
    go_wp2_with (first
      | (clear st127; go_at_call 25; (with_reducible refine (SignQ _ _ _ (lim bv.out (by decide)) s hs.out).mono ?_); rintro e w126 ⟨rfl, hb⟩; replace H := H.call hb; clear hb; clear k4_0 z4_0 k4_1 z4_1 k3_0 z3_0 k3_1 z3_1 k2_0 z2_0 k2_1 z2_1 k1_0 z1_0 k1_1 z1_1 k1_2 z1_2 k1_3 z1_3; obtain ⟨k4_0, z4_0, k4_1, z4_1⟩ := H.b2 (g := g4) m0; obtain ⟨k3_0, z3_0, k3_1, z3_1⟩ := H.b2 (g := g3) m1; obtain ⟨k2_0, z2_0, k2_1, z2_1⟩ := H.b2 (g := g2) m2; obtain ⟨k1_0, z1_0, k1_1, z1_1, k1_2, z1_2, k1_3, z1_3⟩ := H.b4 (g := g1) m3))
    replace H := ((H.setn [_, _] 0 (.bool (ng u)) rfl).setn [_, _] 1 (.slice A50 (ln u) c51) rfl)
    obtain rfl := hf2.out
    refine bodyPost_ret (results_cell_row rfl _ _ g2 25 #[.bool (ng u), .slice A50 (ln u) c51] (0, 0) _ rfl (H.blk m2) Try.underlying25 rfl (by kernel_rfl)) rfl ?_
    exact ⟨A50, c51, rfl, H.ret m1, H.below⟩

end Go.Proofs.Ytdkapdgbfejgdaa
