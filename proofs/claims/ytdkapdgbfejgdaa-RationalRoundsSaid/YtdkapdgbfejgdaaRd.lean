/- rational.Floor, Ceil, Text; same. -/
import Derived.Test.YtdkapdgbfejgdaaRc
namespace Go.Proofs.Ytdkapdgbfejgdaa
open Go.RowKit Go.Proofs.YtdkapdgbfejgdaaW.PrintWords Go.Proofs.YtdkapdgbfejgdaaW.PrintLast Go.Proofs.YtdkapdgbfejgdaaW.PrintMore
set_option linter.unusedSimpArgs false
set_option linter.unusedVariables false
set_option maxHeartbeats 8000000
set_option maxRecDepth 100000


theorem bFlr {n d r : Int} {a : Nat} (hn : ln n ≤ a) (h : flr n d = r) : ln r ≤ a + 1 := by
  unfold flr at h
  split at h
  · have h1 := bTdiv hn (rfl : n.tdiv (dd d) = _)
    have h2 : ln 1 ≤ 0 + 1 := ln_bound 1 1 (by decide)
    by_cases ha : a = 0
    · subst ha
      have : n.tdiv (dd d) = 0 := by
        by_cases h0 : n.tdiv (dd d) = 0
        · exact h0
        · have := ln_pos h0; omega
      rw [this] at h
      subst h
      exact ln_bound _ 1 (by decide)
    · have h3 := bSub h1 h2 h
      omega
  · exact Nat.le_succ_of_le (bTdiv hn h)


theorem CeilR {A B : Option Addr} {c k : Nat} {n d : Int} {w : World} {ok : Nat → Prop} (hf : (bw A c n).at w ok) (hg : (bw B k d).at w ok) (hn : ln n ≤ 100000) (hd : ln d ≤ 100000) (r : Int) (h : -(flr (-n) d) = r) : Calls Try.prog 48 #[.agg #[.bool (ng n), .slice A (ln n) c, .bool (ng d), .slice B (ln d) k]] w (RetI w ok r) := by
  have hu25 := Try.underlying25
  have hu51 := Try.underlying51
  have H := ((Sit.start w ok).arg hf).arg hg
  have bn := Aside0.mk hn
  have bd := Aside0.mk hd
  clear hf hg hn hd
  obtain ⟨u, hu⟩ : ∃ v : Int, -n = v := ⟨_, rfl⟩
  have bu := Aside0.mk (bNeg bn.out hu)
  obtain ⟨v, hv⟩ : ∃ v : Int, flr u d = v := ⟨_, rfl⟩
  have bv := Aside0.mk (bFlr bu.out hv)
  have hr := Aside0.mk (show -v = r by rw [← hv, ← hu]; exact h)
  clear h
  replace hu := Aside0.mk hu
  replace hv := Aside0.mk hv
  go_enter Try.func48, Try.ntmps48
  have st2 := trivial
  have st4 := trivial
  have st10 := trivial
  have st14 := trivial
  have st18 := trivial
  go_wp2_with (first
    | (clear st2; (with_reducible refine gate_dst (N := 1) rfl ?_); refine box_event ?hg (N := 1) ?hd (cs := #[.bool (ng n), .slice A (ln n) c, .bool (ng d), .slice B (ln d) k]) (t := 51) ?hr ?_; (case hd => rfl); (case hg => rfl); (case hr => go_simp; try rfl); intro g1 hg w1 hbox hb; replace H := H.newbox hg hbox hb; clear hg hbox hb; obtain ⟨k1_0, z1_0, k1_1, z1_1, k1_2, z1_2, k1_3, z1_3⟩ := H.b4 (g := g1) m0)
    | (clear st4; (with_reducible refine gate_dst (N := 2) rfl ?_); refine box_event ?hg (N := 2) ?hd (cs := #[.bool false, .slice none 0 0]) (t := 25) ?hr ?_; (case hd => rfl); (case hg => rfl); (case hr => go_simp; try rfl); intro g2 hg w3 hbox hb; replace H := H.newbox hg hbox hb; clear hg hbox hb; clear k1_0 z1_0 k1_1 z1_1 k1_2 z1_2 k1_3 z1_3; obtain ⟨k2_0, z2_0, k2_1, z2_1⟩ := H.b2 (g := g2) m0; obtain ⟨k1_0, z1_0, k1_1, z1_1, k1_2, z1_2, k1_3, z1_3⟩ := H.b4 (g := g1) m1; have ne_g2_g1 := H.ne (g := g2) (g' := g1) 0 1 rfl rfl (by decide); have ne_g1_g2 := ne_g2_g1.symm)
    | (clear st10; go_at_call 51; (with_reducible refine (NegR (H.row _ m1) (H.row _ m0) (limR bn.out (by decide)) (limR bd.out (by decide)) u d ⟨hu.out, rfl⟩).mono ?_); rintro e w5 ⟨A6, c7, A8, c9, rfl, hr, hr2, hb⟩; replace H := (H.got hr hb).more ((H.got hr2 hb).row _ m0); clear hr hr2 hb; clear k2_0 z2_0 k2_1 z2_1 k1_0 z1_0 k1_1 z1_1 k1_2 z1_2 k1_3 z1_3; obtain ⟨k2_0, z2_0, k2_1, z2_1⟩ := H.b2 (g := g2) m0; obtain ⟨k1_0, z1_0, k1_1, z1_1, k1_2, z1_2, k1_3, z1_3⟩ := H.b4 (g := g1) m1)
    | (clear st14; go_at_call 43; (with_reducible refine (FloorR (H.row _ m1) (H.row _ m0) (limR bu.out (by decide)) (limR bd.out (by decide)) v hv.out).mono ?_); rintro e w11 ⟨A12, c13, rfl, hr, hb⟩; replace H := H.got hr hb; clear hr hb; clear k2_0 z2_0 k2_1 z2_1 k1_0 z1_0 k1_1 z1_1 k1_2 z1_2 k1_3 z1_3; obtain ⟨k2_0, z2_0, k2_1, z2_1⟩ := H.b2 (g := g2) m0; obtain ⟨k1_0, z1_0, k1_1, z1_1, k1_2, z1_2, k1_3, z1_3⟩ := H.b4 (g := g1) m1)
    | (clear st18; go_at_call 37; (with_reducible refine (NegQ (H.row _ m0) (lim bv.out (by decide)) r hr.out).mono ?_); rintro e w15 ⟨A16, c17, rfl, hr, hb⟩; replace H := H.got hr hb; clear hr hb; clear k2_0 z2_0 k2_1 z2_1 k1_0 z1_0 k1_1 z1_1 k1_2 z1_2 k1_3 z1_3; obtain ⟨k2_0, z2_0, k2_1, z2_1⟩ := H.b2 (g := g2) m0; obtain ⟨k1_0, z1_0, k1_1, z1_1, k1_2, z1_2, k1_3, z1_3⟩ := H.b4 (g := g1) m1))
  replace H := ((H.setn [] 0 (.bool (ng r)) rfl).setn [] 1 (.slice A16 (ln r) c17) rfl)
  refine bodyPost_ret (results_cell_row rfl _ _ g2 25 #[.bool (ng r), .slice A16 (ln r) c17] (0, 0) _ rfl (H.blk m0) Try.underlying25 rfl (by kernel_rfl)) rfl ?_
  exact ⟨A16, c17, rfl, H.ret m0, H.below⟩

theorem tx_size (m : Int) : (tx m).size ≤ 10 * ln m + 2 := by
  have h : (tx m).size = (txt m).length := by unfold tx strOfNums; simp [ByteArray.size]
  have h1 := dg10_len m.natAbs (ln m) (Nat.le_refl _)
  rw [h]
  unfold txt
  split
  · simp only [List.length_cons, List.length_nil]; omega
  · rw [List.length_append, List.length_reverse]
    have h2 : (c48 (dg 10 m.natAbs)).length = (dg 10 m.natAbs).length := by simp [c48]
    rw [h2]
    split <;> simp only [List.length_cons, List.length_nil] <;> omega
theorem cmp3_bne_f {x y k : Int} (h : x = y) (hk : cmp3 x y = k) : (k != 0) = false := by rw [← hk, cmp3_eq h]; rfl
theorem cmp3_bne_t {x y k : Int} (h : x ≠ y) (hk : cmp3 x y = k) : (k != 0) = true := by
  subst hk
  unfold cmp3
  by_cases h1 : x < y
  · rw [if_pos h1]; decide
  · rw [if_neg h1, if_pos (by omega)]; decide


theorem Text_1 {A B : Option Addr} {c k : Nat} {n d : Int} {w : World} {ok : Nat → Prop} (hf : (bw A c n).at w ok) (hg : (bw B k d).at w ok) (hn : ln n ≤ 100000) (hd : ln d ≤ 100000) (h1 : Aside0 (dd d = 1)) (s : ByteArray) (h : Aside0 (tx n = s)) : Calls Try.prog 46 #[.agg #[.bool (ng n), .slice A (ln n) c, .bool (ng d), .slice B (ln d) k]] w (RetT s w) := by
  have hu25 := Try.underlying25
  have hu51 := Try.underlying51
  have H := ((Sit.start w ok).arg hf).arg hg
  have bn := Aside0.mk hn
  have bd := Aside0.mk hd
  clear hf hg hn hd
  obtain ⟨e1, he1⟩ : ∃ v : Int, dd d = v := ⟨_, rfl⟩
  have be1 := Aside0.mk (bDd bd.out (by decide) he1)
  obtain ⟨i, hi⟩ : ∃ v : Int, (1 : Int) = v := ⟨_, rfl⟩
  have bi := Aside0.mk (show ln i ≤ 1 from ln_bound i 1 (by omega))
  obtain ⟨kc, hkc⟩ : ∃ v : Int, cmp3 e1 i = v := ⟨_, rfl⟩
  have d1 : (kc != 0) = false := cmp3_bne_f (by rw [← he1, ← hi]; exact h1.out) hkc
  replace he1 := Aside0.mk he1
  replace hi := Aside0.mk hi
  replace hkc := Aside0.mk hkc
  obtain ⟨s1, hs1⟩ : ∃ v, tx n = v := ⟨_, rfl⟩
  replace hs1 := Aside0.mk hs1
  go_enter Try.func46, Try.ntmps46
  have st2 := trivial
  have st6 := trivial
  have st8 := trivial
  go_upto_region 2 with (first
    | (clear st2; (with_reducible refine gate_dst (N := 1) rfl ?_); refine box_event ?hg (N := 1) ?hd (cs := #[.bool (ng n), .slice A (ln n) c, .bool (ng d), .slice B (ln d) k]) (t := 51) ?hr ?_; (case hd => rfl); (case hg => rfl); (case hr => go_simp; try rfl); intro g1 hg w1 hbox hb; replace H := H.newbox hg hbox hb; clear hg hbox hb; obtain ⟨k1_0, z1_0, k1_1, z1_1, k1_2, z1_2, k1_3, z1_3⟩ := H.b4 (g := g1) m0)
    | (clear st6; go_at_call 47; (with_reducible refine (DenQ (H.row _ m1) (H.row _ m0) (limR bn.out (by decide)) (limR bd.out (by decide)) e1 he1.out).mono ?_); rintro e w3 ⟨A4, c5, rfl, hr, hb⟩; replace H := H.got hr hb; clear hr hb; clear k1_0 z1_0 k1_1 z1_1 k1_2 z1_2 k1_3 z1_3; obtain ⟨k1_0, z1_0, k1_1, z1_1, k1_2, z1_2, k1_3, z1_3⟩ := H.b4 (g := g1) m0)
    | (clear st8; (with_reducible refine gate_dst (N := 3) rfl ?_); refine box_event ?hg (N := 3) ?hd (cs := #[.bool false, .slice none 0 0]) (t := 25) ?hr ?_; (case hd => rfl); (case hg => rfl); (case hr => go_simp; try rfl); intro g3 hg w7 hbox hb; replace H := H.newbox hg hbox hb; clear hg hbox hb; clear k1_0 z1_0 k1_1 z1_1 k1_2 z1_2 k1_3 z1_3; obtain ⟨k3_0, z3_0, k3_1, z3_1⟩ := H.b2 (g := g3) m0; obtain ⟨k1_0, z1_0, k1_1, z1_1, k1_2, z1_2, k1_3, z1_3⟩ := H.b4 (g := g1) m1; have ne_g3_g1 := H.ne (g := g3) (g' := g1) 0 1 rfl rfl (by decide); have ne_g1_g3 := ne_g3_g1.symm))
  (try simp only [Act.put, List.setIfInBounds_toArray, List.set_cons_zero, List.set_cons_succ])
  replace H := ((H.setn [] 0 (.bool (ng e1)) rfl).setn [] 1 (.slice A4 (ln e1) c5) rfl)
  clear k3_0 z3_0 k3_1 z3_1 k1_0 z1_0 k1_1 z1_1 k1_2 z1_2 k1_3 z1_3
  generalize ((w7.setCell ⟨g3, 0, none⟩ (.bool (ng e1))).setCell ⟨g3, 1, none⟩ (.slice A4 (ln e1) c5)) = w9 at H ⊢
  obtain ⟨k3_0, z3_0, k3_1, z3_1⟩ := H.b2 (g := g3) m0
  obtain ⟨k1_0, z1_0, k1_1, z1_1, k1_2, z1_2, k1_3, z1_3⟩ := H.b4 (g := g1) m1
  clear k3_0 z3_0 k3_1 z3_1 k1_0 z1_0 k1_1 z1_1 k1_2 z1_2 k1_3 z1_3
  replace H := H.drew
  refine start_ (n := 4) (S := fun w' => w'.cell? ⟨g3, 0, none⟩ = some (.bool (ng e1)) ∧ w'.cell? ⟨g3, 1, none⟩ = some (.slice A4 (ln e1) c5)) (ds := []) #[false, false, false, false] (by kernel_rfl) rfl rfl ⟨H.cell m0 0, H.cell m0 1⟩ (fun hQ => ?_)
  generalize w9.drew = w10 at H hQ ⊢
  refine take_ (i := 0) (N := some 6) (v := ?_) (a' := ?_) #[true, false, false, false] rfl rfl (by kernel_rfl) (fun _ _ _ h => h) (Or.inl ⟨by rfl, ?_⟩) hQ ?_ ?_
  rotate_left
  · rintro w' ⟨s0, s1⟩
    go_simp
    with_reducible rfl
  rotate_left
  · simp only [Act.put, List.setIfInBounds_toArray, List.set_cons_zero, List.set_cons_succ, i64_w, i32_w]
    rfl
  refine one_ (i := 1) (N := some 7) #[true, true, false, false] rfl rfl (by kernel_rfl) (by decide) (fun K hK => ?_)
  refine goes_ Try.func27 (by kernel_rfl) rfl #[.int .i64 1] (by rfl) rfl rfl (by simp only [List.map_toArray, List.map_cons, List.map_nil]; try rfl) ?_
  with_reducible refine (OfQ _ 1 i hi.out (by decide) (by decide)).mono ?_
  rintro e w11 ⟨A12, c13, rfl, hr, hb⟩
  replace H := H.got (fresh_row hr) hb
  clear hr hb
  refine ⟨_, rfl, ?_⟩
  refine hK.out _ _ ⟨H.cell m0 0, H.cell m0 1⟩ (fun hQ => ?_)
  clear hK K
  refine norm_ (a' := ?_) ?_ ?_
  rotate_left
  · show Act.put _ (some 7) _ = _
    simp only [Act.put, List.setIfInBounds_toArray, List.set_cons_zero, List.set_cons_succ, i64_w, i32_w]
    rfl
  refine one_ (i := 2) (N := some 8) #[true, true, true, false] rfl rfl (by kernel_rfl) (by decide) (fun K hK => ?_)
  refine goes_ Try.func34 (by kernel_rfl) rfl #[.agg #[.bool (ng e1), .slice A4 (ln e1) c5], .agg #[.bool (ng i), .slice A12 (ln i) c13]] (by rfl) rfl rfl (by simp only [List.map_toArray, List.map_cons, List.map_nil]; try rfl) ?_
  with_reducible refine (CmpQ (H.row _ m1) (H.row _ m0) (lim be1.out (by decide)) (lim bi.out (by decide)) kc hkc.out).mono ?_
  rintro e w14 ⟨rfl, hb⟩
  replace H := H.call hb
  clear hb
  refine ⟨_, rfl, ?_⟩
  refine hK.out _ _ ⟨H.cell m0 0, H.cell m0 1⟩ (fun hQ => ?_)
  clear hK K
  refine norm_ (a' := ?_) ?_ ?_
  rotate_left
  · show Act.put _ (some 8) _ = _
    simp only [Act.put, List.setIfInBounds_toArray, List.set_cons_zero, List.set_cons_succ, i64_w, i32_w]
    rfl
  refine pure_ (i := 3) (N := some 9) (v := ?_) (a' := ?_) #[true, true, true, true] rfl rfl (by kernel_rfl) (fun _ _ _ h => h) (Or.inl ⟨by rfl, ?_⟩) ?_ ?_
  rotate_left
  · intro w'
    go_simp
    with_reducible rfl
  rotate_left
  · simp only [Act.put, List.setIfInBounds_toArray, List.set_cons_zero, List.set_cons_succ, i64_w, i32_w]
    rfl
  refine done_ (by kernel_rfl) ?_
  try clear hQ
  obtain ⟨k3_0, z3_0, k3_1, z3_1⟩ := H.b2 (g := g3) m0
  obtain ⟨k1_0, z1_0, k1_1, z1_1, k1_2, z1_2, k1_3, z1_3⟩ := H.b4 (g := g1) m1
  have st16 := trivial
  go_wp2_with (first
    | (clear st16; go_at_call 26; (with_reducible refine (TextQ (H.row _ m3) (lim bn.out (by decide)) s1 hs1.out).mono ?_); rintro e w15 ⟨rfl, hb⟩; replace H := H.call hb; clear hb; clear k3_0 z3_0 k3_1 z3_1 k1_0 z1_0 k1_1 z1_1 k1_2 z1_2 k1_3 z1_3; obtain ⟨k3_0, z3_0, k3_1, z3_1⟩ := H.b2 (g := g3) m0; obtain ⟨k1_0, z1_0, k1_1, z1_1, k1_2, z1_2, k1_3, z1_3⟩ := H.b4 (g := g1) m1))
  go_ret
  obtain rfl := hs1.out
  obtain rfl := h.out
  exact ⟨rfl, H.below⟩

def tb46.T3 : Bool × List (List Nat × List Nat) := (true, [([], []), ([0], [0]), ([1], [1]), ([2], [2]), ([], []), ([4, 2], [4]), ([3, 5], [3, 5]), ([6, 5, 0, 1, 2, 3, 4, 5, 6], [6])])
def tb46.B3 : List Nat := [0, 1, 3, 7, 0, 23, 63, 127]
theorem tb46.tab3 : rtab .any (opsOf Try.f46 3) = tb46.T3 := by kernel_rfl
theorem tb46.bits3 : waitsOk tb46.T3.2 tb46.B3 = true := by kernel_rfl

theorem Text_2 {A B : Option Addr} {c k : Nat} {n d : Int} {w : World} {ok : Nat → Prop} (hf : (bw A c n).at w ok) (hg : (bw B k d).at w ok) (hn : ln n ≤ 100000) (hd : ln d ≤ 100000) (h1 : Aside0 (dd d ≠ 1)) (s : ByteArray) (h : Aside0 (tx n ++ ⟨#[47]⟩ ++ tx (dd d) = s)) : Calls Try.prog 46 #[.agg #[.bool (ng n), .slice A (ln n) c, .bool (ng d), .slice B (ln d) k]] w (RetT s w) := by
  have hu25 := Try.underlying25
  have hu51 := Try.underlying51
  have H := ((Sit.start w ok).arg hf).arg hg
  have bn := Aside0.mk hn
  have bd := Aside0.mk hd
  clear hf hg hn hd
  obtain ⟨e1, he1⟩ : ∃ v : Int, dd d = v := ⟨_, rfl⟩
  have be1 := Aside0.mk (bDd bd.out (by decide) he1)
  obtain ⟨i, hi⟩ : ∃ v : Int, (1 : Int) = v := ⟨_, rfl⟩
  have bi := Aside0.mk (show ln i ≤ 1 from ln_bound i 1 (by omega))
  obtain ⟨kc, hkc⟩ : ∃ v : Int, cmp3 e1 i = v := ⟨_, rfl⟩
  have d1 : (kc != 0) = true := cmp3_bne_t (by rw [← he1, ← hi]; exact h1.out) hkc
  replace he1 := Aside0.mk he1
  replace hi := Aside0.mk hi
  replace hkc := Aside0.mk hkc
  obtain ⟨s1, hs1⟩ : ∃ v, tx n = v := ⟨_, rfl⟩
  replace hs1 := Aside0.mk hs1
  obtain ⟨s2, hs2⟩ : ∃ v, tx e1 = v := ⟨_, rfl⟩
  have z2 : s2.size ≤ 1000002 := by rw [← hs2]; exact Nat.le_trans (tx_size _) (by have := be1.out; omega)
  have z3 : s1.size ≤ 1000002 := by rw [← hs1.out]; exact Nat.le_trans (tx_size _) (by have := bn.out; omega)
  have z4 : ¬ 9223372036854775807 < s1.size + 1 := by omega
  have z5 : ¬ 9223372036854775807 < s1.size + 1 + s2.size := by omega
  clear z2 z3
  replace hs2 := Aside0.mk hs2
  go_enter Try.func46, Try.ntmps46
  have st2 := trivial
  have st6 := trivial
  have st8 := trivial
  go_upto_region 2 with (first
    | (clear st2; (with_reducible refine gate_dst (N := 1) rfl ?_); refine box_event ?hg (N := 1) ?hd (cs := #[.bool (ng n), .slice A (ln n) c, .bool (ng d), .slice B (ln d) k]) (t := 51) ?hr ?_; (case hd => rfl); (case hg => rfl); (case hr => go_simp; try rfl); intro g1 hg w1 hbox hb; replace H := H.newbox hg hbox hb; clear hg hbox hb; obtain ⟨k1_0, z1_0, k1_1, z1_1, k1_2, z1_2, k1_3, z1_3⟩ := H.b4 (g := g1) m0)
    | (clear st6; go_at_call 47; (with_reducible refine (DenQ (H.row _ m1) (H.row _ m0) (limR bn.out (by decide)) (limR bd.out (by decide)) e1 he1.out).mono ?_); rintro e w3 ⟨A4, c5, rfl, hr, hb⟩; replace H := H.got hr hb; clear hr hb; clear k1_0 z1_0 k1_1 z1_1 k1_2 z1_2 k1_3 z1_3; obtain ⟨k1_0, z1_0, k1_1, z1_1, k1_2, z1_2, k1_3, z1_3⟩ := H.b4 (g := g1) m0)
    | (clear st8; (with_reducible refine gate_dst (N := 3) rfl ?_); refine box_event ?hg (N := 3) ?hd (cs := #[.bool false, .slice none 0 0]) (t := 25) ?hr ?_; (case hd => rfl); (case hg => rfl); (case hr => go_simp; try rfl); intro g3 hg w7 hbox hb; replace H := H.newbox hg hbox hb; clear hg hbox hb; clear k1_0 z1_0 k1_1 z1_1 k1_2 z1_2 k1_3 z1_3; obtain ⟨k3_0, z3_0, k3_1, z3_1⟩ := H.b2 (g := g3) m0; obtain ⟨k1_0, z1_0, k1_1, z1_1, k1_2, z1_2, k1_3, z1_3⟩ := H.b4 (g := g1) m1; have ne_g3_g1 := H.ne (g := g3) (g' := g1) 0 1 rfl rfl (by decide); have ne_g1_g3 := ne_g3_g1.symm))
  (try simp only [Act.put, List.setIfInBounds_toArray, List.set_cons_zero, List.set_cons_succ])
  replace H := ((H.setn [] 0 (.bool (ng e1)) rfl).setn [] 1 (.slice A4 (ln e1) c5) rfl)
  clear k3_0 z3_0 k3_1 z3_1 k1_0 z1_0 k1_1 z1_1 k1_2 z1_2 k1_3 z1_3
  generalize ((w7.setCell ⟨g3, 0, none⟩ (.bool (ng e1))).setCell ⟨g3, 1, none⟩ (.slice A4 (ln e1) c5)) = w9 at H ⊢
  obtain ⟨k3_0, z3_0, k3_1, z3_1⟩ := H.b2 (g := g3) m0
  obtain ⟨k1_0, z1_0, k1_1, z1_1, k1_2, z1_2, k1_3, z1_3⟩ := H.b4 (g := g1) m1
  clear k3_0 z3_0 k3_1 z3_1 k1_0 z1_0 k1_1 z1_1 k1_2 z1_2 k1_3 z1_3
  replace H := H.drew
  refine start_ (n := 4) (S := fun w' => w'.cell? ⟨g3, 0, none⟩ = some (.bool (ng e1)) ∧ w'.cell? ⟨g3, 1, none⟩ = some (.slice A4 (ln e1) c5)) (ds := []) #[false, false, false, false] (by kernel_rfl) rfl rfl ⟨H.cell m0 0, H.cell m0 1⟩ (fun hQ => ?_)
  generalize w9.drew = w10 at H hQ ⊢
  refine take_ (i := 0) (N := some 6) (v := ?_) (a' := ?_) #[true, false, false, false] rfl rfl (by kernel_rfl) (fun _ _ _ h => h) (Or.inl ⟨by rfl, ?_⟩) hQ ?_ ?_
  rotate_left
  · rintro w' ⟨s0, s1⟩
    go_simp
    with_reducible rfl
  rotate_left
  · simp only [Act.put, List.setIfInBounds_toArray, List.set_cons_zero, List.set_cons_succ, i64_w, i32_w]
    rfl
  refine one_ (i := 1) (N := some 7) #[true, true, false, false] rfl rfl (by kernel_rfl) (by decide) (fun K hK => ?_)
  refine goes_ Try.func27 (by kernel_rfl) rfl #[.int .i64 1] (by rfl) rfl rfl (by simp only [List.map_toArray, List.map_cons, List.map_nil]; try rfl) ?_
  with_reducible refine (OfQ _ 1 i hi.out (by decide) (by decide)).mono ?_
  rintro e w11 ⟨A12, c13, rfl, hr, hb⟩
  replace H := H.got (fresh_row hr) hb
  clear hr hb
  refine ⟨_, rfl, ?_⟩
  refine hK.out _ _ ⟨H.cell m0 0, H.cell m0 1⟩ (fun hQ => ?_)
  clear hK K
  refine norm_ (a' := ?_) ?_ ?_
  rotate_left
  · show Act.put _ (some 7) _ = _
    simp only [Act.put, List.setIfInBounds_toArray, List.set_cons_zero, List.set_cons_succ, i64_w, i32_w]
    rfl
  refine one_ (i := 2) (N := some 8) #[true, true, true, false] rfl rfl (by kernel_rfl) (by decide) (fun K hK => ?_)
  refine goes_ Try.func34 (by kernel_rfl) rfl #[.agg #[.bool (ng e1), .slice A4 (ln e1) c5], .agg #[.bool (ng i), .slice A12 (ln i) c13]] (by rfl) rfl rfl (by simp only [List.map_toArray, List.map_cons, List.map_nil]; try rfl) ?_
  with_reducible refine (CmpQ (H.row _ m1) (H.row _ m0) (lim be1.out (by decide)) (lim bi.out (by decide)) kc hkc.out).mono ?_
  rintro e w14 ⟨rfl, hb⟩
  replace H := H.call hb
  clear hb
  refine ⟨_, rfl, ?_⟩
  refine hK.out _ _ ⟨H.cell m0 0, H.cell m0 1⟩ (fun hQ => ?_)
  clear hK K
  refine norm_ (a' := ?_) ?_ ?_
  rotate_left
  · show Act.put _ (some 8) _ = _
    simp only [Act.put, List.setIfInBounds_toArray, List.set_cons_zero, List.set_cons_succ, i64_w, i32_w]
    rfl
  refine pure_ (i := 3) (N := some 9) (v := ?_) (a' := ?_) #[true, true, true, true] rfl rfl (by kernel_rfl) (fun _ _ _ h => h) (Or.inl ⟨by rfl, ?_⟩) ?_ ?_
  rotate_left
  · intro w'
    go_simp
    with_reducible rfl
  rotate_left
  · simp only [Act.put, List.setIfInBounds_toArray, List.set_cons_zero, List.set_cons_succ, i64_w, i32_w]
    rfl
  refine done_ (by kernel_rfl) ?_
  try clear hQ
  go_upto_region 3 with fail
  (try simp only [Act.put, List.setIfInBounds_toArray, List.set_cons_zero, List.set_cons_succ])
  replace H := H.drew
  refine start_ (n := 8) (S := fun w' => w'.cell? ⟨g1, 0, none⟩ = some (.bool (ng n)) ∧ w'.cell? ⟨g1, 1, none⟩ = some (.slice A (ln n) c) ∧ w'.cell? ⟨g1, 2, none⟩ = some (.bool (ng d)) ∧ w'.cell? ⟨g1, 3, none⟩ = some (.slice B (ln d) k) ∧ w'.cell? ⟨g3, 0, none⟩ = some (.bool (ng e1)) ∧ w'.cell? ⟨g3, 1, none⟩ = some (.slice A4 (ln e1) c5)) (ds := []) #[false, false, false, false, false, false, false, false] (by kernel_rfl) rfl rfl ⟨H.cell m1 0, H.cell m1 1, H.cell m1 2, H.cell m1 3, H.cell m0 0, H.cell m0 1⟩ (fun hQ => ?_)
  generalize w14.drew = w15 at H hQ ⊢
  refine with_tabW tb46.tab3 tb46.bits3 (fun HT_ HW_ => ?_)
  refine pure_ (i := 0) (N := some 10) (v := ?_) (a' := ?_) (bm 8 1) rfl rfl (any_of HT_.out (by kernel_rfl)) (fun _ _ _ h => h) (Or.inl ⟨by rfl, ?_⟩) ?_ ?_
  rotate_left
  · intro w'
    go_simp
    with_reducible rfl
  rotate_left
  · simp only [Act.put, List.setIfInBounds_toArray, List.set_cons_zero, List.set_cons_succ, i64_w, i32_w]
    rfl
  refine take_ (i := 1) (N := some 11) (v := ?_) (a' := ?_) (bm 8 3) rfl rfl (take_ofW HT_.out HW_.out (by kernel_rfl)) (fun _ _ _ h => h) (Or.inl ⟨by rfl, ?_⟩) hQ ?_ ?_
  rotate_left
  · rintro w' ⟨s0, s1, s2, s3, s4, s5⟩
    go_simp
    with_reducible rfl
  rotate_left
  · simp only [Act.put, List.setIfInBounds_toArray, List.set_cons_zero, List.set_cons_succ, i64_w, i32_w]
    rfl
  refine take_ (i := 4) (N := some 14) (v := ?_) (a' := ?_) (bm 8 19) rfl rfl (take_ofW HT_.out HW_.out (by kernel_rfl)) (fun _ _ _ h => h) (Or.inl ⟨by rfl, ?_⟩) hQ ?_ ?_
  rotate_left
  · rintro w' ⟨s0, s1, s2, s3, s4, s5⟩
    go_simp
    with_reducible rfl
  rotate_left
  · simp only [Act.put, List.setIfInBounds_toArray, List.set_cons_zero, List.set_cons_succ, i64_w, i32_w]
    rfl
  refine one_ (i := 2) (N := some 12) (bm 8 23) rfl rfl (one_of HT_.out (by kernel_rfl)) (by decide) (fun K hK => ?_)
  refine goes_ Try.func26 (by kernel_rfl) rfl #[.agg #[.bool (ng n), .slice A (ln n) c]] (by rfl) rfl rfl (by simp only [List.map_toArray, List.map_cons, List.map_nil]; try rfl) ?_
  with_reducible refine (TextQ (H.row _ m3) (lim bn.out (by decide)) s1 hs1.out).mono ?_
  rintro e w16 ⟨rfl, hb⟩
  replace H := H.call hb
  clear hb
  refine ⟨_, rfl, ?_⟩
  refine hK.out _ _ ⟨H.cell m1 0, H.cell m1 1, H.cell m1 2, H.cell m1 3, H.cell m0 0, H.cell m0 1⟩ (fun hQ => ?_)
  clear hK K
  refine norm_ (a' := ?_) ?_ ?_
  rotate_left
  · show Act.put _ (some 12) _ = _
    simp only [Act.put, List.setIfInBounds_toArray, List.set_cons_zero, List.set_cons_succ, i64_w, i32_w]
    rfl
  refine pure_ (i := 3) (N := some 13) (v := ?_) (a' := ?_) (bm 8 31) rfl rfl (any_of HT_.out (by kernel_rfl)) (fun _ _ _ h => h) (Or.inl ⟨by rfl, ?_⟩) ?_ ?_
  rotate_left
  · intro w'
    go_simp
    with_reducible rfl
  rotate_left
  · simp only [Act.put, List.setIfInBounds_toArray, List.set_cons_zero, List.set_cons_succ, i64_w, i32_w]
    rfl
  refine one_ (i := 5) (N := some 15) (bm 8 63) rfl rfl (one_of HT_.out (by kernel_rfl)) (by decide) (fun K hK => ?_)
  refine goes_ Try.func26 (by kernel_rfl) rfl #[.agg #[.bool (ng e1), .slice A4 (ln e1) c5]] (by rfl) rfl rfl (by simp only [List.map_toArray, List.map_cons, List.map_nil]; try rfl) ?_
  with_reducible refine (TextQ (H.row _ m1) (lim be1.out (by decide)) s2 hs2.out).mono ?_
  rintro e w17 ⟨rfl, hb⟩
  replace H := H.call hb
  clear hb
  refine ⟨_, rfl, ?_⟩
  refine hK.out _ _ ⟨H.cell m1 0, H.cell m1 1, H.cell m1 2, H.cell m1 3, H.cell m0 0, H.cell m0 1⟩ (fun hQ => ?_)
  clear hK K
  refine norm_ (a' := ?_) ?_ ?_
  rotate_left
  · show Act.put _ (some 15) _ = _
    simp only [Act.put, List.setIfInBounds_toArray, List.set_cons_zero, List.set_cons_succ, i64_w, i32_w]
    rfl
  refine pure_ (i := 6) (N := some 16) (v := ?_) (a' := ?_) (bm 8 127) rfl rfl (any_of HT_.out (by kernel_rfl)) (fun _ _ _ h => h) (Or.inl ⟨by rfl, ?_⟩) ?_ ?_
  rotate_left
  · intro w'
    go_simp
    with_reducible rfl
  rotate_left
  · simp only [Act.put, List.setIfInBounds_toArray, List.set_cons_zero, List.set_cons_succ, i64_w, i32_w]
    rfl
  refine pure_ (i := 7) (N := some 2) (v := ?_) (a' := ?_) (bm 8 255) rfl rfl (any_of HT_.out (by kernel_rfl)) (fun _ _ _ h => h) (Or.inl ⟨by rfl, ?_⟩) ?_ ?_
  rotate_left
  · intro w'
    go_simp
    with_reducible rfl
  rotate_left
  · simp only [Act.put, List.setIfInBounds_toArray, List.set_cons_zero, List.set_cons_succ, i64_w, i32_w]
    rfl
  refine done_ (done_of HT_.out (by kernel_rfl)) ?_
  try clear hQ
  go_wp2
  go_ret
  obtain rfl := he1.out
  obtain rfl := hs1.out
  obtain rfl := hs2.out
  obtain rfl := h.out
  exact ⟨rfl, H.below⟩

theorem TextR {A B : Option Addr} {c k : Nat} {n d : Int} {w : World} {ok : Nat → Prop} (hf : (bw A c n).at w ok) (hg : (bw B k d).at w ok) (hn : ln n ≤ 100000) (hd : ln d ≤ 100000) (s : ByteArray) (h : qt n d = s) : Calls Try.prog 46 #[.agg #[.bool (ng n), .slice A (ln n) c, .bool (ng d), .slice B (ln d) k]] w (RetT s w) := by
  unfold qt at h
  by_cases h1 : dd d = 1
  · rw [if_pos h1] at h; exact Text_1 hf hg hn hd ⟨h1⟩ s ⟨h⟩
  · rw [if_neg h1] at h; exact Text_2 hf hg hn hd ⟨h1⟩ s ⟨h⟩
/-- It returns a truth value. -/
def RetB (b : Bool) (w : World) (e : Ending) (w' : World) : Prop := e = .returned (.bool b) ∧ Below w.heap.size w w'

def tb40.T1 : Bool × List (List Nat × List Nat) := (true, [([], []), ([], []), ([0, 1], [0, 1]), ([2], [2]), ([3, 2], [3]), ([4], [4]), ([5, 4, 4], [4, 5]), ([4], [4]), ([7, 6, 4], [4, 7]), ([6, 8, 4], [4, 6, 8]), ([4, 9], [4, 9]), ([10, 8, 0, 1, 2, 3, 4, 5, 6, 7, 8, 9, 10], [10])])
def tb40.B1 : List Nat := [0, 0, 3, 7, 15, 31, 63, 31, 255, 511, 1023, 2047]
theorem tb40.tab1 : rtab .any (opsOf Try.f40 1) = tb40.T1 := by kernel_rfl
theorem tb40.bits1 : waitsOk tb40.T1.2 tb40.B1 = true := by kernel_rfl

theorem Same_t {A B A' B' : Option Addr} {c k c' k' : Nat} {n d p q : Int} {w : World} {ok : Nat → Prop} (hf : (bw A c n).at w ok) (hg : (bw B k d).at w ok) (hf' : (bw A' c' p).at w ok) (hg' : (bw B' k' q).at w ok) (hn : ln n ≤ 100000) (hd : ln d ≤ 100000) (hp : ln p ≤ 100000) (hq : ln q ≤ 100000) (h1 : Aside0 (cmp3 (n * dd q) (p * dd d) = 0)) (h2 : Aside0 (qt n d = qt p q)) : Calls Try.prog 40 #[.agg #[.bool (ng n), .slice A (ln n) c, .bool (ng d), .slice B (ln d) k], .agg #[.bool (ng p), .slice A' (ln p) c', .bool (ng q), .slice B' (ln q) k']] w (RetB true w) := by
  have hu25 := Try.underlying25
  have hu51 := Try.underlying51
  have H := ((((Sit.start w ok).arg hf).arg hg).arg hf').arg hg'
  have bn := Aside0.mk hn
  have bd := Aside0.mk hd
  have bp := Aside0.mk hp
  have bq := Aside0.mk hq
  clear hf hg hf' hg' hn hd hp hq
  obtain ⟨s, hs⟩ : ∃ v, qt n d = v := ⟨_, rfl⟩
  have hs2 := Aside0.mk (show qt p q = s by rw [← hs]; exact h2.out.symm)
  replace hs := Aside0.mk hs
  have d1 : (s.toList == s.toList) = true := beq_self_eq_true s.toList
  go_enter Try.func40, Try.ntmps40
  have st2 := trivial
  have st4 := trivial
  go_upto_region 1 with (first
    | (clear st2; (with_reducible refine gate_dst (N := 2) rfl ?_); refine box_event ?hg (N := 2) ?hd (cs := #[.bool (ng n), .slice A (ln n) c, .bool (ng d), .slice B (ln d) k]) (t := 51) ?hr ?_; (case hd => rfl); (case hg => rfl); (case hr => go_simp; try rfl); intro g2 hg w1 hbox hb; replace H := H.newbox hg hbox hb; clear hg hbox hb; obtain ⟨k2_0, z2_0, k2_1, z2_1, k2_2, z2_2, k2_3, z2_3⟩ := H.b4 (g := g2) m0)
    | (clear st4; (with_reducible refine gate_dst (N := 3) rfl ?_); refine box_event ?hg (N := 3) ?hd (cs := #[.bool (ng p), .slice A' (ln p) c', .bool (ng q), .slice B' (ln q) k']) (t := 51) ?hr ?_; (case hd => rfl); (case hg => rfl); (case hr => go_simp; try rfl); intro g3 hg w3 hbox hb; replace H := H.newbox hg hbox hb; clear hg hbox hb; clear k2_0 z2_0 k2_1 z2_1 k2_2 z2_2 k2_3 z2_3; obtain ⟨k3_0, z3_0, k3_1, z3_1, k3_2, z3_2, k3_3, z3_3⟩ := H.b4 (g := g3) m0; obtain ⟨k2_0, z2_0, k2_1, z2_1, k2_2, z2_2, k2_3, z2_3⟩ := H.b4 (g := g2) m1; have ne_g3_g2 := H.ne (g := g3) (g' := g2) 0 1 rfl rfl (by decide); have ne_g2_g3 := ne_g3_g2.symm))
  (try simp only [Act.put, List.setIfInBounds_toArray, List.set_cons_zero, List.set_cons_succ])
  clear k3_0 z3_0 k3_1 z3_1 k3_2 z3_2 k3_3 z3_3 k2_0 z2_0 k2_1 z2_1 k2_2 z2_2 k2_3 z2_3
  replace H := H.drew
  refine start_ (n := 12) (S := fun w' => w'.cell? ⟨g2, 0, none⟩ = some (.bool (ng n)) ∧ w'.cell? ⟨g2, 1, none⟩ = some (.slice A (ln n) c) ∧ w'.cell? ⟨g2, 2, none⟩ = some (.bool (ng d)) ∧ w'.cell? ⟨g2, 3, none⟩ = some (.slice B (ln d) k) ∧ w'.cell? ⟨g3, 0, none⟩ = some (.bool (ng p)) ∧ w'.cell? ⟨g3, 1, none⟩ = some (.slice A' (ln p) c') ∧ w'.cell? ⟨g3, 2, none⟩ = some (.bool (ng q)) ∧ w'.cell? ⟨g3, 3, none⟩ = some (.slice B' (ln q) k')) (ds := []) #[false, false, false, false, false, false, false, false, false, false, false, false] (by kernel_rfl) rfl rfl ⟨H.cell m1 0, H.cell m1 1, H.cell m1 2, H.cell m1 3, H.cell m0 0, H.cell m0 1, H.cell m0 2, H.cell m0 3⟩ (fun hQ => ?_)
  generalize w3.drew = w5 at H hQ ⊢
  refine with_tabW tb40.tab1 tb40.bits1 (fun HT_ HW_ => ?_)
  refine take_ (i := 0) (N := some 5) (v := ?_) (a' := ?_) (bm 12 1) rfl rfl (take_ofW HT_.out HW_.out (by kernel_rfl)) (fun _ _ _ h => h) (Or.inl ⟨by rfl, ?_⟩) hQ ?_ ?_
  rotate_left
  · rintro w' ⟨s0, s1, s2, s3, s4, s5, s6, s7⟩
    go_simp
    with_reducible rfl
  rotate_left
  · simp only [Act.put, List.setIfInBounds_toArray, List.set_cons_zero, List.set_cons_succ, i64_w, i32_w]
    rfl
  refine take_ (i := 1) (N := some 6) (v := ?_) (a' := ?_) (bm 12 3) rfl rfl (take_ofW HT_.out HW_.out (by kernel_rfl)) (fun _ _ _ h => h) (Or.inl ⟨by rfl, ?_⟩) hQ ?_ ?_
  rotate_left
  · rintro w' ⟨s0, s1, s2, s3, s4, s5, s6, s7⟩
    go_simp
    with_reducible rfl
  rotate_left
  · simp only [Act.put, List.setIfInBounds_toArray, List.set_cons_zero, List.set_cons_succ, i64_w, i32_w]
    rfl
  refine one_ (i := 2) (N := some 7) (bm 12 7) rfl rfl (one_of HT_.out (by kernel_rfl)) (by decide) (fun K hK => ?_)
  refine goes_ Try.func66 (by kernel_rfl) rfl #[.agg #[.bool (ng n), .slice A (ln n) c, .bool (ng d), .slice B (ln d) k], .agg #[.bool (ng p), .slice A' (ln p) c', .bool (ng q), .slice B' (ln q) k']] (by rfl) rfl rfl (by simp only [List.map_toArray, List.map_cons, List.map_nil]; try rfl) ?_
  with_reducible refine (CmpR (H.row _ m3) (H.row _ m2) (H.row _ m1) (H.row _ m0) (limR bn.out (by decide)) (limR bd.out (by decide)) (limR bp.out (by decide)) (limR bq.out (by decide)) 0 h1.out).mono ?_
  rintro e w6 ⟨rfl, hb⟩
  replace H := H.call hb
  clear hb
  refine ⟨_, rfl, ?_⟩
  refine hK.out _ _ ⟨H.cell m1 0, H.cell m1 1, H.cell m1 2, H.cell m1 3, H.cell m0 0, H.cell m0 1, H.cell m0 2, H.cell m0 3⟩ (fun hQ => ?_)
  clear hK K
  refine norm_ (a' := ?_) ?_ ?_
  rotate_left
  · show Act.put _ (some 7) _ = _
    simp only [Act.put, List.setIfInBounds_toArray, List.set_cons_zero, List.set_cons_succ, i64_w, i32_w]
    rfl
  refine pure_ (i := 3) (N := some 8) (v := ?_) (a' := ?_) (bm 12 15) rfl rfl (any_of HT_.out (by kernel_rfl)) (fun _ _ _ h => h) (Or.inl ⟨by rfl, ?_⟩) ?_ ?_
  rotate_left
  · intro w'
    go_simp
    with_reducible rfl
  rotate_left
  · simp only [Act.put, List.setIfInBounds_toArray, List.set_cons_zero, List.set_cons_succ, i64_w, i32_w]
    rfl
  refine pure_ (i := 4) (N := some 9) (v := ?_) (a' := ?_) (bm 12 31) rfl rfl (any_of HT_.out (by kernel_rfl)) (fun _ _ _ h => h) (Or.inl ⟨by rfl, ?_⟩) ?_ ?_
  rotate_left
  · intro w'
    go_simp
    with_reducible rfl
  rotate_left
  · simp only [Act.put, List.setIfInBounds_toArray, List.set_cons_zero, List.set_cons_succ, i64_w, i32_w]
    rfl
  refine take_ (i := 5) (N := some 10) (v := ?_) (a' := ?_) (bm 12 63) rfl rfl (take_ofW HT_.out HW_.out (by kernel_rfl)) (fun _ _ _ h => h) (Or.inl ⟨by rfl, ?_⟩) hQ ?_ ?_
  rotate_left
  · rintro w' ⟨s0, s1, s2, s3, s4, s5, s6, s7⟩
    go_simp
    with_reducible rfl
  rotate_left
  · simp only [Act.put, List.setIfInBounds_toArray, List.set_cons_zero, List.set_cons_succ, i64_w, i32_w]
    rfl
  refine take_ (i := 7) (N := some 12) (v := ?_) (a' := ?_) (bm 12 191) rfl rfl (take_ofW HT_.out HW_.out (by kernel_rfl)) (fun _ _ _ h => h) (Or.inl ⟨by rfl, ?_⟩) hQ ?_ ?_
  rotate_left
  · rintro w' ⟨s0, s1, s2, s3, s4, s5, s6, s7⟩
    go_simp
    with_reducible rfl
  rotate_left
  · simp only [Act.put, List.setIfInBounds_toArray, List.set_cons_zero, List.set_cons_succ, i64_w, i32_w]
    rfl
  refine one_ (i := 6) (N := some 11) (bm 12 255) rfl rfl (one_of HT_.out (by kernel_rfl)) (by decide) (fun K hK => ?_)
  refine goes_ Try.func46 (by kernel_rfl) rfl #[.agg #[.bool (ng n), .slice A (ln n) c, .bool (ng d), .slice B (ln d) k]] (by rfl) rfl rfl (by simp only [List.map_toArray, List.map_cons, List.map_nil]; try rfl) ?_
  with_reducible refine (TextR (H.row _ m3) (H.row _ m2) (limR bn.out (by decide)) (limR bd.out (by decide)) s hs.out).mono ?_
  rintro e w7 ⟨rfl, hb⟩
  replace H := H.call hb
  clear hb
  refine ⟨_, rfl, ?_⟩
  refine hK.out _ _ ⟨H.cell m1 0, H.cell m1 1, H.cell m1 2, H.cell m1 3, H.cell m0 0, H.cell m0 1, H.cell m0 2, H.cell m0 3⟩ (fun hQ => ?_)
  clear hK K
  refine norm_ (a' := ?_) ?_ ?_
  rotate_left
  · show Act.put _ (some 11) _ = _
    simp only [Act.put, List.setIfInBounds_toArray, List.set_cons_zero, List.set_cons_succ, i64_w, i32_w]
    rfl
  refine one_ (i := 8) (N := some 13) (bm 12 511) rfl rfl (one_of HT_.out (by kernel_rfl)) (by decide) (fun K hK => ?_)
  refine goes_ Try.func46 (by kernel_rfl) rfl #[.agg #[.bool (ng p), .slice A' (ln p) c', .bool (ng q), .slice B' (ln q) k']] (by rfl) rfl rfl (by simp only [List.map_toArray, List.map_cons, List.map_nil]; try rfl) ?_
  with_reducible refine (TextR (H.row _ m1) (H.row _ m0) (limR bp.out (by decide)) (limR bq.out (by decide)) s hs2.out).mono ?_
  rintro e w8 ⟨rfl, hb⟩
  replace H := H.call hb
  clear hb
  refine ⟨_, rfl, ?_⟩
  refine hK.out _ _ ⟨H.cell m1 0, H.cell m1 1, H.cell m1 2, H.cell m1 3, H.cell m0 0, H.cell m0 1, H.cell m0 2, H.cell m0 3⟩ (fun hQ => ?_)
  clear hK K
  refine norm_ (a' := ?_) ?_ ?_
  rotate_left
  · show Act.put _ (some 13) _ = _
    simp only [Act.put, List.setIfInBounds_toArray, List.set_cons_zero, List.set_cons_succ, i64_w, i32_w]
    rfl
  refine pure_ (i := 9) (N := some 14) (v := ?_) (a' := ?_) (bm 12 1023) rfl rfl (any_of HT_.out (by kernel_rfl)) (fun _ _ _ h => h) (Or.inl ⟨by rfl, ?_⟩) ?_ ?_
  rotate_left
  · intro w'
    go_simp
    with_reducible rfl
  rotate_left
  · simp only [Act.put, List.setIfInBounds_toArray, List.set_cons_zero, List.set_cons_succ, i64_w, i32_w]
    rfl
  refine pure_ (i := 10) (N := some 15) (v := ?_) (a' := ?_) (bm 12 2047) rfl rfl (any_of HT_.out (by kernel_rfl)) (fun _ _ _ h => h) (Or.inl ⟨by rfl, ?_⟩) ?_ ?_
  rotate_left
  · intro w'
    go_simp
    with_reducible rfl
  rotate_left
  · simp only [Act.put, List.setIfInBounds_toArray, List.set_cons_zero, List.set_cons_succ, i64_w, i32_w]
    rfl
  refine pure_ (i := 11) (N := some 4) (v := ?_) (a' := ?_) (bm 12 4095) rfl rfl (any_of HT_.out (by kernel_rfl)) (fun _ _ _ h => h) (Or.inl ⟨by rfl, ?_⟩) ?_ ?_
  rotate_left
  · intro w'
    go_simp
    with_reducible rfl
  rotate_left
  · simp only [Act.put, List.setIfInBounds_toArray, List.set_cons_zero, List.set_cons_succ, i64_w, i32_w]
    rfl
  refine done_ (done_of HT_.out (by kernel_rfl)) ?_
  try clear hQ
  go_wp2
  go_ret
  exact ⟨rfl, H.below⟩


theorem Same_f {A B A' B' : Option Addr} {c k c' k' : Nat} {n d p q : Int} {w : World} {ok : Nat → Prop} (hf : (bw A c n).at w ok) (hg : (bw B k d).at w ok) (hf' : (bw A' c' p).at w ok) (hg' : (bw B' k' q).at w ok) (hn : ln n ≤ 100000) (hd : ln d ≤ 100000) (hp : ln p ≤ 100000) (hq : ln q ≤ 100000) (kc : Int) (h1 : Aside0 (cmp3 (n * dd q) (p * dd d) = kc)) (h2 : Aside0 (kc ≠ 0)) : Calls Try.prog 40 #[.agg #[.bool (ng n), .slice A (ln n) c, .bool (ng d), .slice B (ln d) k], .agg #[.bool (ng p), .slice A' (ln p) c', .bool (ng q), .slice B' (ln q) k']] w (RetB false w) := by
  have hu25 := Try.underlying25
  have hu51 := Try.underlying51
  have H := ((((Sit.start w ok).arg hf).arg hg).arg hf').arg hg'
  have bn := Aside0.mk hn
  have bd := Aside0.mk hd
  have bp := Aside0.mk hp
  have bq := Aside0.mk hq
  clear hf hg hf' hg' hn hd hp hq
  have d1 : (kc == 0) = false := beq_eq_false_iff_ne.mpr h2.out
  go_enter Try.func40, Try.ntmps40
  have st2 := trivial
  have st4 := trivial
  go_upto_region 1 with (first
    | (clear st2; (with_reducible refine gate_dst (N := 2) rfl ?_); refine box_event ?hg (N := 2) ?hd (cs := #[.bool (ng n), .slice A (ln n) c, .bool (ng d), .slice B (ln d) k]) (t := 51) ?hr ?_; (case hd => rfl); (case hg => rfl); (case hr => go_simp; try rfl); intro g2 hg w1 hbox hb; replace H := H.newbox hg hbox hb; clear hg hbox hb; obtain ⟨k2_0, z2_0, k2_1, z2_1, k2_2, z2_2, k2_3, z2_3⟩ := H.b4 (g := g2) m0)
    | (clear st4; (with_reducible refine gate_dst (N := 3) rfl ?_); refine box_event ?hg (N := 3) ?hd (cs := #[.bool (ng p), .slice A' (ln p) c', .bool (ng q), .slice B' (ln q) k']) (t := 51) ?hr ?_; (case hd => rfl); (case hg => rfl); (case hr => go_simp; try rfl); intro g3 hg w3 hbox hb; replace H := H.newbox hg hbox hb; clear hg hbox hb; clear k2_0 z2_0 k2_1 z2_1 k2_2 z2_2 k2_3 z2_3; obtain ⟨k3_0, z3_0, k3_1, z3_1, k3_2, z3_2, k3_3, z3_3⟩ := H.b4 (g := g3) m0; obtain ⟨k2_0, z2_0, k2_1, z2_1, k2_2, z2_2, k2_3, z2_3⟩ := H.b4 (g := g2) m1; have ne_g3_g2 := H.ne (g := g3) (g' := g2) 0 1 rfl rfl (by decide); have ne_g2_g3 := ne_g3_g2.symm))
  (try simp only [Act.put, List.setIfInBounds_toArray, List.set_cons_zero, List.set_cons_succ])
  clear k3_0 z3_0 k3_1 z3_1 k3_2 z3_2 k3_3 z3_3 k2_0 z2_0 k2_1 z2_1 k2_2 z2_2 k2_3 z2_3
  replace H := H.drew
  refine start_ (n := 12) (S := fun w' => w'.cell? ⟨g2, 0, none⟩ = some (.bool (ng n)) ∧ w'.cell? ⟨g2, 1, none⟩ = some (.slice A (ln n) c) ∧ w'.cell? ⟨g2, 2, none⟩ = some (.bool (ng d)) ∧ w'.cell? ⟨g2, 3, none⟩ = some (.slice B (ln d) k) ∧ w'.cell? ⟨g3, 0, none⟩ = some (.bool (ng p)) ∧ w'.cell? ⟨g3, 1, none⟩ = some (.slice A' (ln p) c') ∧ w'.cell? ⟨g3, 2, none⟩ = some (.bool (ng q)) ∧ w'.cell? ⟨g3, 3, none⟩ = some (.slice B' (ln q) k')) (ds := []) #[false, false, false, false, false, false, false, false, false, false, false, false] (by kernel_rfl) rfl rfl ⟨H.cell m1 0, H.cell m1 1, H.cell m1 2, H.cell m1 3, H.cell m0 0, H.cell m0 1, H.cell m0 2, H.cell m0 3⟩ (fun hQ => ?_)
  generalize w3.drew = w5 at H hQ ⊢
  refine with_tabW tb40.tab1 tb40.bits1 (fun HT_ HW_ => ?_)
  refine take_ (i := 0) (N := some 5) (v := ?_) (a' := ?_) (bm 12 1) rfl rfl (take_ofW HT_.out HW_.out (by kernel_rfl)) (fun _ _ _ h => h) (Or.inl ⟨by rfl, ?_⟩) hQ ?_ ?_
  rotate_left
  · rintro w' ⟨s0, s1, s2, s3, s4, s5, s6, s7⟩
    go_simp
    with_reducible rfl
  rotate_left
  · simp only [Act.put, List.setIfInBounds_toArray, List.set_cons_zero, List.set_cons_succ, i64_w, i32_w]
    rfl
  refine take_ (i := 1) (N := some 6) (v := ?_) (a' := ?_) (bm 12 3) rfl rfl (take_ofW HT_.out HW_.out (by kernel_rfl)) (fun _ _ _ h => h) (Or.inl ⟨by rfl, ?_⟩) hQ ?_ ?_
  rotate_left
  · rintro w' ⟨s0, s1, s2, s3, s4, s5, s6, s7⟩
    go_simp
    with_reducible rfl
  rotate_left
  · simp only [Act.put, List.setIfInBounds_toArray, List.set_cons_zero, List.set_cons_succ, i64_w, i32_w]
    rfl
  refine one_ (i := 2) (N := some 7) (bm 12 7) rfl rfl (one_of HT_.out (by kernel_rfl)) (by decide) (fun K hK => ?_)
  refine goes_ Try.func66 (by kernel_rfl) rfl #[.agg #[.bool (ng n), .slice A (ln n) c, .bool (ng d), .slice B (ln d) k], .agg #[.bool (ng p), .slice A' (ln p) c', .bool (ng q), .slice B' (ln q) k']] (by rfl) rfl rfl (by simp only [List.map_toArray, List.map_cons, List.map_nil]; try rfl) ?_
  with_reducible refine (CmpR (H.row _ m3) (H.row _ m2) (H.row _ m1) (H.row _ m0) (limR bn.out (by decide)) (limR bd.out (by decide)) (limR bp.out (by decide)) (limR bq.out (by decide)) kc h1.out).mono ?_
  rintro e w6 ⟨rfl, hb⟩
  replace H := H.call hb
  clear hb
  refine ⟨_, rfl, ?_⟩
  refine hK.out _ _ ⟨H.cell m1 0, H.cell m1 1, H.cell m1 2, H.cell m1 3, H.cell m0 0, H.cell m0 1, H.cell m0 2, H.cell m0 3⟩ (fun hQ => ?_)
  clear hK K
  refine norm_ (a' := ?_) ?_ ?_
  rotate_left
  · show Act.put _ (some 7) _ = _
    simp only [Act.put, List.setIfInBounds_toArray, List.set_cons_zero, List.set_cons_succ, i64_w, i32_w]
    rfl
  refine pure_ (i := 3) (N := some 8) (v := ?_) (a' := ?_) (bm 12 15) rfl rfl (any_of HT_.out (by kernel_rfl)) (fun _ _ _ h => h) (Or.inl ⟨by rfl, ?_⟩) ?_ ?_
  rotate_left
  · intro w'
    go_simp
    with_reducible rfl
  rotate_left
  · simp only [Act.put, List.setIfInBounds_toArray, List.set_cons_zero, List.set_cons_succ, i64_w, i32_w]
    rfl
  refine pure_ (i := 4) (N := some 9) (v := ?_) (a' := ?_) (bm 12 31) rfl rfl (any_of HT_.out (by kernel_rfl)) (fun _ _ _ h => h) (Or.inl ⟨by rfl, ?_⟩) ?_ ?_
  rotate_left
  · intro w'
    go_simp
    with_reducible rfl
  rotate_left
  · simp only [Act.put, List.setIfInBounds_toArray, List.set_cons_zero, List.set_cons_succ, i64_w, i32_w]
    rfl
  refine pure_ (i := 5) (N := some 10) (v := undef) (a' := ?_) (bm 12 63) rfl rfl (any_of HT_.out (by kernel_rfl)) (fun _ _ _ h => h) (Or.inr ⟨by rfl, rfl⟩) ?_ ?_
  rotate_left
  · simp only [Act.put, List.setIfInBounds_toArray, List.set_cons_zero, List.set_cons_succ, i64_w, i32_w]
    rfl
  refine pure_ (i := 6) (N := some 11) (v := undef) (a' := ?_) (bm 12 127) rfl rfl (any_of HT_.out (by kernel_rfl)) (fun _ _ _ h => h) (Or.inr ⟨by rfl, rfl⟩) ?_ ?_
  rotate_left
  · simp only [Act.put, List.setIfInBounds_toArray, List.set_cons_zero, List.set_cons_succ, i64_w, i32_w]
    rfl
  refine pure_ (i := 7) (N := some 12) (v := undef) (a' := ?_) (bm 12 255) rfl rfl (any_of HT_.out (by kernel_rfl)) (fun _ _ _ h => h) (Or.inr ⟨by rfl, rfl⟩) ?_ ?_
  rotate_left
  · simp only [Act.put, List.setIfInBounds_toArray, List.set_cons_zero, List.set_cons_succ, i64_w, i32_w]
    rfl
  refine pure_ (i := 8) (N := some 13) (v := undef) (a' := ?_) (bm 12 511) rfl rfl (any_of HT_.out (by kernel_rfl)) (fun _ _ _ h => h) (Or.inr ⟨by rfl, rfl⟩) ?_ ?_
  rotate_left
  · simp only [Act.put, List.setIfInBounds_toArray, List.set_cons_zero, List.set_cons_succ, i64_w, i32_w]
    rfl
  refine pure_ (i := 9) (N := some 14) (v := undef) (a' := ?_) (bm 12 1023) rfl rfl (any_of HT_.out (by kernel_rfl)) (fun _ _ _ h => h) (Or.inr ⟨by rfl, rfl⟩) ?_ ?_
  rotate_left
  · simp only [Act.put, List.setIfInBounds_toArray, List.set_cons_zero, List.set_cons_succ, i64_w, i32_w]
    rfl
  refine pure_ (i := 10) (N := some 15) (v := ?_) (a' := ?_) (bm 12 2047) rfl rfl (any_of HT_.out (by kernel_rfl)) (fun _ _ _ h => h) (Or.inl ⟨by rfl, ?_⟩) ?_ ?_
  rotate_left
  · intro w'
    go_simp
    with_reducible rfl
  rotate_left
  · simp only [Act.put, List.setIfInBounds_toArray, List.set_cons_zero, List.set_cons_succ, i64_w, i32_w]
    rfl
  refine pure_ (i := 11) (N := some 4) (v := ?_) (a' := ?_) (bm 12 4095) rfl rfl (any_of HT_.out (by kernel_rfl)) (fun _ _ _ h => h) (Or.inl ⟨by rfl, ?_⟩) ?_ ?_
  rotate_left
  · intro w'
    go_simp
    with_reducible rfl
  rotate_left
  · simp only [Act.put, List.setIfInBounds_toArray, List.set_cons_zero, List.set_cons_succ, i64_w, i32_w]
    rfl
  refine done_ (done_of HT_.out (by kernel_rfl)) ?_
  try clear hQ
  go_wp2
  go_ret
  exact ⟨rfl, H.below⟩

end Go.Proofs.Ytdkapdgbfejgdaa
