/- The operations of rational.Rat, as far as they need no text. -/
import Derived.Test.YtdkapdgbfejgdaaRa
namespace Go.Proofs.Ytdkapdgbfejgdaa
open Go.RowKit Go.Proofs.YtdkapdgbfejgdaaW.PrintWords Go.Proofs.YtdkapdgbfejgdaaW.PrintLast Go.Proofs.YtdkapdgbfejgdaaW.PrintMore
set_option linter.unusedSimpArgs false
set_option linter.unusedVariables false
set_option maxHeartbeats 8000000
set_option maxRecDepth 100000

/-- A denominator of 0 stands for 1. -/
def dd (d : Int) : Int := if d = 0 then 1 else d
theorem limR {m : Int} {a : Nat} (h : ln m ≤ a) (ha : a ≤ 100000) : ln m ≤ 100000 := Nat.le_trans h ha
theorem bDd {d r : Int} {a : Nat} (h : ln d ≤ a) (ha : 1 ≤ a) (hr : dd d = r) : ln r ≤ a := by
  subst hr
  unfold dd
  split
  · exact Nat.le_trans (ln_bound 1 1 (by decide)) ha
  · exact h
/-- It returns a fresh fraction. -/
def RetQN (w : World) (n d : Int) (e : Ending) (w' : World) : Prop :=
  ∃ A c B b, e = .returned (.agg #[.bool (ng n), .slice A (ln n) c, .bool (ng d), .slice B (ln d) b]) ∧ (bw A c n).at w' (fun k => w.heap.size ≤ k) ∧ (bw B b d).at w' (fun k => w.heap.size ≤ k) ∧ Below w.heap.size w w'


theorem Num_ok {A B : Option Addr} {c k : Nat} {n d : Int} {w : World} {ok : Nat → Prop} (hf : (bw A c n).at w ok) (hg : (bw B k d).at w ok) (hn : ln n ≤ 100000) (hd : ln d ≤ 100000) : Calls Try.prog 45 #[.agg #[.bool (ng n), .slice A (ln n) c, .bool (ng d), .slice B (ln d) k]] w (RetI w ok n) := by
  have hu25 := Try.underlying25
  have hu51 := Try.underlying51
  have H := ((Sit.start w ok).arg hf).arg hg
  have bn := Aside0.mk hn
  have bd := Aside0.mk hd
  clear hf hg hn hd
  go_enter Try.func45, Try.ntmps45
  have st2 := trivial
  have st4 := trivial
  go_wp2_with (first
    | (clear st2; (with_reducible refine gate_dst (N := 1) rfl ?_); refine box_event ?hg (N := 1) ?hd (cs := #[.bool (ng n), .slice A (ln n) c, .bool (ng d), .slice B (ln d) k]) (t := 51) ?hr ?_; (case hd => rfl); (case hg => rfl); (case hr => go_simp; try rfl); intro g1 hg w1 hbox hb; replace H := H.newbox hg hbox hb; clear hg hbox hb; obtain ⟨k1_0, z1_0, k1_1, z1_1, k1_2, z1_2, k1_3, z1_3⟩ := H.b4 (g := g1) m0)
    | (clear st4; (with_reducible refine gate_dst (N := 2) rfl ?_); refine box_event ?hg (N := 2) ?hd (cs := #[.bool false, .slice none 0 0]) (t := 25) ?hr ?_; (case hd => rfl); (case hg => rfl); (case hr => go_simp; try rfl); intro g2 hg w3 hbox hb; replace H := H.newbox hg hbox hb; clear hg hbox hb; clear k1_0 z1_0 k1_1 z1_1 k1_2 z1_2 k1_3 z1_3; obtain ⟨k2_0, z2_0, k2_1, z2_1⟩ := H.b2 (g := g2) m0; obtain ⟨k1_0, z1_0, k1_1, z1_1, k1_2, z1_2, k1_3, z1_3⟩ := H.b4 (g := g1) m1; have ne_g2_g1 := H.ne (g := g2) (g' := g1) 0 1 rfl rfl (by decide); have ne_g1_g2 := ne_g2_g1.symm))
  replace H := ((H.setn [] 0 (.bool (ng n)) rfl).setn [] 1 (.slice A (ln n) c) rfl)
  refine bodyPost_ret (results_cell_row rfl _ _ g2 25 #[.bool (ng n), .slice A (ln n) c] (0, 0) _ rfl (H.blk m0) Try.underlying25 rfl (by kernel_rfl)) rfl ?_
  exact ⟨A, c, rfl, H.ret m1, H.below⟩

theorem NumQ {A B : Option Addr} {c k : Nat} {n d : Int} {w : World} {ok : Nat → Prop} (hf : (bw A c n).at w ok) (hg : (bw B k d).at w ok) (hn : ln n ≤ 100000) (hd : ln d ≤ 100000) (r : Int) (h : n = r) : Calls Try.prog 45 #[.agg #[.bool (ng n), .slice A (ln n) c, .bool (ng d), .slice B (ln d) k]] w (RetI w ok r) := by subst h; exact Num_ok hf hg hn hd

theorem SignR {A B : Option Addr} {c k : Nat} {n d : Int} {w : World} (hn : ln n ≤ 10000000) (r : Int) (h : sg n = r) : Calls Try.prog 54 #[.agg #[.bool (ng n), .slice A (ln n) c, .bool (ng d), .slice B (ln d) k]] w (RetI64 r w) := by
  have hu25 := Try.underlying25
  have hu51 := Try.underlying51
  have H := Sit.start w (fun _ => False)
  have bn := Aside0.mk hn
  clear hn
  go_enter Try.func54, Try.ntmps54
  have st2 := trivial
  have st4 := trivial
  go_wp2_with (first
    | (clear st2; (with_reducible refine gate_dst (N := 1) rfl ?_); refine box_event ?hg (N := 1) ?hd (cs := #[.bool (ng n), .slice A (ln n) c, .bool (ng d), .slice B (ln d) k]) (t := 51) ?hr ?_; (case hd => rfl); (case hg => rfl); (case hr => go_simp; try rfl); intro g1 hg w1 hbox hb; replace H := H.newbox hg hbox hb; clear hg hbox hb; obtain ⟨k1_0, z1_0, k1_1, z1_1, k1_2, z1_2, k1_3, z1_3⟩ := H.b4 (g := g1) m0)
    | (clear st4; go_at_call 25; (with_reducible refine (SignQ _ _ _ (lim bn.out (by decide)) r h).mono ?_); rintro e w3 ⟨rfl, hb⟩; replace H := H.call hb; clear hb; clear k1_0 z1_0 k1_1 z1_1 k1_2 z1_2 k1_3 z1_3; obtain ⟨k1_0, z1_0, k1_1, z1_1, k1_2, z1_2, k1_3, z1_3⟩ := H.b4 (g := g1) m0))
  go_ret
  exact ⟨rfl, H.below⟩


theorem Den_0 {A B : Option Addr} {c k : Nat} {n d : Int} {w : World} {ok : Nat → Prop} (hf : (bw A c n).at w ok) (hg : (bw B k d).at w ok) (hn : ln n ≤ 100000) (hd : ln d ≤ 100000) (r : Int) (hr : Aside0 ((1 : Int) = r)) (hs : Aside0 (sg d = 0)) : Calls Try.prog 47 #[.agg #[.bool (ng n), .slice A (ln n) c, .bool (ng d), .slice B (ln d) k]] w (RetI w ok r) := by
  have hu25 := Try.underlying25
  have hu51 := Try.underlying51
  have H := ((Sit.start w ok).arg hf).arg hg
  have bn := Aside0.mk hn
  have bd := Aside0.mk hd
  clear hf hg hn hd
  go_enter Try.func47, Try.ntmps47
  have st2 := trivial
  have st4 := trivial
  have st6 := trivial
  have st10 := trivial
  go_wp2_with (first
    | (clear st2; (with_reducible refine gate_dst (N := 1) rfl ?_); refine box_event ?hg (N := 1) ?hd (cs := #[.bool (ng n), .slice A (ln n) c, .bool (ng d), .slice B (ln d) k]) (t := 51) ?hr ?_; (case hd => rfl); (case hg => rfl); (case hr => go_simp; try rfl); intro g1 hg w1 hbox hb; replace H := H.newbox hg hbox hb; clear hg hbox hb; obtain ⟨k1_0, z1_0, k1_1, z1_1, k1_2, z1_2, k1_3, z1_3⟩ := H.b4 (g := g1) m0)
    | (clear st4; (with_reducible refine gate_dst (N := 2) rfl ?_); refine box_event ?hg (N := 2) ?hd (cs := #[.bool false, .slice none 0 0]) (t := 25) ?hr ?_; (case hd => rfl); (case hg => rfl); (case hr => go_simp; try rfl); intro g2 hg w3 hbox hb; replace H := H.newbox hg hbox hb; clear hg hbox hb; clear k1_0 z1_0 k1_1 z1_1 k1_2 z1_2 k1_3 z1_3; obtain ⟨k2_0, z2_0, k2_1, z2_1⟩ := H.b2 (g := g2) m0; obtain ⟨k1_0, z1_0, k1_1, z1_1, k1_2, z1_2, k1_3, z1_3⟩ := H.b4 (g := g1) m1; have ne_g2_g1 := H.ne (g := g2) (g' := g1) 0 1 rfl rfl (by decide); have ne_g1_g2 := ne_g2_g1.symm)
    | (clear st6; go_at_call 25; (with_reducible refine (SignQ _ _ _ (lim bd.out (by decide)) 0 hs.out).mono ?_); rintro e w5 ⟨rfl, hb⟩; replace H := H.call hb; clear hb; clear k2_0 z2_0 k2_1 z2_1 k1_0 z1_0 k1_1 z1_1 k1_2 z1_2 k1_3 z1_3; obtain ⟨k2_0, z2_0, k2_1, z2_1⟩ := H.b2 (g := g2) m0; obtain ⟨k1_0, z1_0, k1_1, z1_1, k1_2, z1_2, k1_3, z1_3⟩ := H.b4 (g := g1) m1)
    | (clear st10; go_at_call 27; (with_reducible refine (OfQ _ 1 r hr.out (by decide) (by decide)).mono ?_); rintro e w7 ⟨A8, c9, rfl, hr, hb⟩; replace H := H.got (fresh_row hr) hb; clear hr hb; clear k2_0 z2_0 k2_1 z2_1 k1_0 z1_0 k1_1 z1_1 k1_2 z1_2 k1_3 z1_3; obtain ⟨k2_0, z2_0, k2_1, z2_1⟩ := H.b2 (g := g2) m0; obtain ⟨k1_0, z1_0, k1_1, z1_1, k1_2, z1_2, k1_3, z1_3⟩ := H.b4 (g := g1) m1))
  replace H := ((H.setn [] 0 (.bool (ng r)) rfl).setn [] 1 (.slice A8 (ln r) c9) rfl)
  refine bodyPost_ret (results_cell_row rfl _ _ g2 25 #[.bool (ng r), .slice A8 (ln r) c9] (0, 0) _ rfl (H.blk m0) Try.underlying25 rfl (by kernel_rfl)) rfl ?_
  exact ⟨A8, c9, rfl, H.ret m0, H.below⟩


theorem Den_1 {A B : Option Addr} {c k : Nat} {n d : Int} {w : World} {ok : Nat → Prop} (hf : (bw A c n).at w ok) (hg : (bw B k d).at w ok) (hn : ln n ≤ 100000) (hd : ln d ≤ 100000) (s : Int) (hs : Aside0 (sg d = s)) (hs0 : Aside0 (s ≠ 0)) : Calls Try.prog 47 #[.agg #[.bool (ng n), .slice A (ln n) c, .bool (ng d), .slice B (ln d) k]] w (RetI w ok d) := by
  have hu25 := Try.underlying25
  have hu51 := Try.underlying51
  have H := ((Sit.start w ok).arg hf).arg hg
  have bn := Aside0.mk hn
  have bd := Aside0.mk hd
  clear hf hg hn hd
  have d1 : (s == 0) = false := beq_eq_false_iff_ne.mpr hs0.out
  go_enter Try.func47, Try.ntmps47
  have st2 := trivial
  have st4 := trivial
  have st6 := trivial
  go_wp2_with (first
    | (clear st2; (with_reducible refine gate_dst (N := 1) rfl ?_); refine box_event ?hg (N := 1) ?hd (cs := #[.bool (ng n), .slice A (ln n) c, .bool (ng d), .slice B (ln d) k]) (t := 51) ?hr ?_; (case hd => rfl); (case hg => rfl); (case hr => go_simp; try rfl); intro g1 hg w1 hbox hb; replace H := H.newbox hg hbox hb; clear hg hbox hb; obtain ⟨k1_0, z1_0, k1_1, z1_1, k1_2, z1_2, k1_3, z1_3⟩ := H.b4 (g := g1) m0)
    | (clear st4; (with_reducible refine gate_dst (N := 2) rfl ?_); refine box_event ?hg (N := 2) ?hd (cs := #[.bool false, .slice none 0 0]) (t := 25) ?hr ?_; (case hd => rfl); (case hg => rfl); (case hr => go_simp; try rfl); intro g2 hg w3 hbox hb; replace H := H.newbox hg hbox hb; clear hg hbox hb; clear k1_0 z1_0 k1_1 z1_1 k1_2 z1_2 k1_3 z1_3; obtain ⟨k2_0, z2_0, k2_1, z2_1⟩ := H.b2 (g := g2) m0; obtain ⟨k1_0, z1_0, k1_1, z1_1, k1_2, z1_2, k1_3, z1_3⟩ := H.b4 (g := g1) m1; have ne_g2_g1 := H.ne (g := g2) (g' := g1) 0 1 rfl rfl (by decide); have ne_g1_g2 := ne_g2_g1.symm)
    | (clear st6; go_at_call 25; (with_reducible refine (SignQ _ _ _ (lim bd.out (by decide)) s hs.out).mono ?_); rintro e w5 ⟨rfl, hb⟩; replace H := H.call hb; clear hb; clear k2_0 z2_0 k2_1 z2_1 k1_0 z1_0 k1_1 z1_1 k1_2 z1_2 k1_3 z1_3; obtain ⟨k2_0, z2_0, k2_1, z2_1⟩ := H.b2 (g := g2) m0; obtain ⟨k1_0, z1_0, k1_1, z1_1, k1_2, z1_2, k1_3, z1_3⟩ := H.b4 (g := g1) m1))
  replace H := ((H.setn [] 0 (.bool (ng d)) rfl).setn [] 1 (.slice B (ln d) k) rfl)
  refine bodyPost_ret (results_cell_row rfl _ _ g2 25 #[.bool (ng d), .slice B (ln d) k] (0, 0) _ rfl (H.blk m0) Try.underlying25 rfl (by kernel_rfl)) rfl ?_
  exact ⟨B, k, rfl, H.ret m0, H.below⟩

theorem DenQ {A B : Option Addr} {c k : Nat} {n d : Int} {w : World} {ok : Nat → Prop} (hf : (bw A c n).at w ok) (hg : (bw B k d).at w ok) (hn : ln n ≤ 100000) (hd : ln d ≤ 100000) (r : Int) (h : dd d = r) : Calls Try.prog 47 #[.agg #[.bool (ng n), .slice A (ln n) c, .bool (ng d), .slice B (ln d) k]] w (RetI w ok r) := by
  subst h
  unfold dd
  by_cases h0 : d = 0
  · rw [if_pos h0]; exact Den_0 hf hg hn hd 1 ⟨rfl⟩ ⟨by rw [h0]; rfl⟩
  · rw [if_neg h0]; exact Den_1 hf hg hn hd _ ⟨rfl⟩ ⟨by unfold sg; repeat' split <;> omega⟩

theorem NegR_ {A B : Option Addr} {c k : Nat} {n d : Int} {w : World} {ok : Nat → Prop} (hf : (bw A c n).at w ok) (hg : (bw B k d).at w ok) (hn : ln n ≤ 100000) (hd : ln d ≤ 100000) (r : Int) (h0 : Aside0 (-n = r)) : Calls Try.prog 51 #[.agg #[.bool (ng n), .slice A (ln n) c, .bool (ng d), .slice B (ln d) k]] w (RetQ w ok r d) := by
  have hu25 := Try.underlying25
  have hu51 := Try.underlying51
  have H := ((Sit.start w ok).arg hf).arg hg
  have bn := Aside0.mk hn
  have bd := Aside0.mk hd
  clear hf hg hn hd
  go_enter Try.func51, Try.ntmps51
  have st2 := trivial
  have st4 := trivial
  go_upto_region 1 with (first
    | (clear st2; (with_reducible refine gate_dst (N := 1) rfl ?_); refine box_event ?hg (N := 1) ?hd (cs := #[.bool (ng n), .slice A (ln n) c, .bool (ng d), .slice B (ln d) k]) (t := 51) ?hr ?_; (case hd => rfl); (case hg => rfl); (case hr => go_simp; try rfl); intro g1 hg w1 hbox hb; replace H := H.newbox hg hbox hb; clear hg hbox hb; obtain ⟨k1_0, z1_0, k1_1, z1_1, k1_2, z1_2, k1_3, z1_3⟩ := H.b4 (g := g1) m0)
    | (clear st4; (with_reducible refine gate_dst (N := 2) rfl ?_); refine box_event ?hg (N := 2) ?hd (cs := #[.bool false, .slice none 0 0, .bool false, .slice none 0 0]) (t := 51) ?hr ?_; (case hd => rfl); (case hg => rfl); (case hr => go_simp; try rfl); intro g2 hg w3 hbox hb; replace H := H.newbox hg hbox hb; clear hg hbox hb; clear k1_0 z1_0 k1_1 z1_1 k1_2 z1_2 k1_3 z1_3; obtain ⟨k2_0, z2_0, k2_1, z2_1, k2_2, z2_2, k2_3, z2_3⟩ := H.b4 (g := g2) m0; obtain ⟨k1_0, z1_0, k1_1, z1_1, k1_2, z1_2, k1_3, z1_3⟩ := H.b4 (g := g1) m1; have ne_g2_g1 := H.ne (g := g2) (g' := g1) 0 1 rfl rfl (by decide); have ne_g1_g2 := ne_g2_g1.symm))
  (try simp only [Act.put, List.setIfInBounds_toArray, List.set_cons_zero, List.set_cons_succ])
  clear k2_0 z2_0 k2_1 z2_1 k2_2 z2_2 k2_3 z2_3 k1_0 z1_0 k1_1 z1_1 k1_2 z1_2 k1_3 z1_3
  replace H := H.drew
  refine start_ (n := 7) (S := fun w' => w'.cell? ⟨g1, 0, none⟩ = some (.bool (ng n)) ∧ w'.cell? ⟨g1, 1, none⟩ = some (.slice A (ln n) c) ∧ w'.cell? ⟨g1, 2, none⟩ = some (.bool (ng d)) ∧ w'.cell? ⟨g1, 3, none⟩ = some (.slice B (ln d) k)) (ds := [6]) #[false, false, false, false, false, false, false] (by kernel_rfl) rfl rfl ⟨H.cell m1 0, H.cell m1 1, H.cell m1 2, H.cell m1 3⟩ (fun hQ => ?_)
  generalize w3.drew = w5 at H hQ ⊢
  refine pure_ (i := 0) (N := some 3) (v := ?_) (a' := ?_) #[true, false, false, false, false, false, false] rfl rfl (by kernel_rfl) (fun _ _ _ h => h) (Or.inl ⟨by rfl, ?_⟩) ?_ ?_
  rotate_left
  · intro w'
    go_simp
    with_reducible rfl
  rotate_left
  · simp only [Act.put, List.setIfInBounds_toArray, List.set_cons_zero, List.set_cons_succ, i64_w, i32_w]
    rfl
  refine pure_ (i := 3) (N := some 6) (v := ?_) (a' := ?_) #[true, false, false, true, false, false, false] rfl rfl (by kernel_rfl) (fun _ _ _ h => h) (Or.inl ⟨by rfl, ?_⟩) ?_ ?_
  rotate_left
  · intro w'
    go_simp
    with_reducible rfl
  rotate_left
  · simp only [Act.put, List.setIfInBounds_toArray, List.set_cons_zero, List.set_cons_succ, i64_w, i32_w]
    rfl
  refine take_ (i := 1) (N := some 4) (v := ?_) (a' := ?_) #[true, true, false, true, false, false, false] rfl rfl (by kernel_rfl) (fun _ _ _ h => h) (Or.inl ⟨by rfl, ?_⟩) hQ ?_ ?_
  rotate_left
  · rintro w' ⟨s0, s1, s2, s3⟩
    go_simp
    with_reducible rfl
  rotate_left
  · simp only [Act.put, List.setIfInBounds_toArray, List.set_cons_zero, List.set_cons_succ, i64_w, i32_w]
    rfl
  refine take_ (i := 4) (N := some 7) (v := ?_) (a' := ?_) #[true, true, false, true, true, false, false] rfl rfl (by kernel_rfl) (fun _ _ _ h => h) (Or.inl ⟨by rfl, ?_⟩) hQ ?_ ?_
  rotate_left
  · rintro w' ⟨s0, s1, s2, s3⟩
    go_simp
    with_reducible rfl
  rotate_left
  · simp only [Act.put, List.setIfInBounds_toArray, List.set_cons_zero, List.set_cons_succ, i64_w, i32_w]
    rfl
  refine one_ (i := 2) (N := some 5) #[true, true, true, true, true, false, false] rfl rfl (by kernel_rfl) (by decide) (fun K hK => ?_)
  refine goes_ Try.func37 (by kernel_rfl) rfl #[.agg #[.bool (ng n), .slice A (ln n) c]] (by rfl) rfl rfl (by simp only [List.map_toArray, List.map_cons, List.map_nil]; try rfl) ?_
  with_reducible refine (NegQ (H.row _ m1) (lim bn.out (by decide)) r h0.out).mono ?_
  rintro e w6 ⟨A7, c8, rfl, hr, hb⟩
  replace H := H.got hr hb
  clear hr hb
  refine ⟨_, rfl, ?_⟩
  refine hK.out _ _ ⟨H.cell m1 0, H.cell m1 1, H.cell m1 2, H.cell m1 3⟩ (fun hQ => ?_)
  clear hK K
  refine norm_ (a' := ?_) ?_ ?_
  rotate_left
  · show Act.put _ (some 5) _ = _
    simp only [Act.put, List.setIfInBounds_toArray, List.set_cons_zero, List.set_cons_succ, i64_w, i32_w]
    rfl
  refine pure_ (i := 5) (N := some 8) (v := ?_) (a' := ?_) #[true, true, true, true, true, true, false] rfl rfl (by kernel_rfl) (fun _ _ _ h => h) (Or.inl ⟨by rfl, ?_⟩) ?_ ?_
  rotate_left
  · intro w'
    go_simp
    with_reducible rfl
  rotate_left
  · simp only [Act.put, List.setIfInBounds_toArray, List.set_cons_zero, List.set_cons_succ, i64_w, i32_w]
    rfl
  refine last_ (i := 6) (N := none) #[true, true, true, true, true, true, true] rfl rfl (by kernel_rfl) (by decide) (fun K hK => ?_)
  obtain ⟨k2_0, z2_0, k2_1, z2_1, k2_2, z2_2, k2_3, z2_3⟩ := H.b4 (g := g2) m0
  obtain ⟨k1_0, z1_0, k1_1, z1_1, k1_2, z1_2, k1_3, z1_3⟩ := H.b4 (g := g1) m1
  refine skip_ (w1 := ?_) (by rfl) rfl ?_ ?_
  rotate_left
  · go_simp
    rfl
  refine hK.out _ _ ?_
  clear hK K
  refine done_ (by kernel_rfl) ?_
  try clear hQ
  replace H := ((((H.setn [] 0 (.bool (ng r)) rfl).setn [] 1 (.slice A7 (ln r) c8) rfl).setn [] 2 (.bool (ng d)) rfl).setn [] 3 (.slice B (ln d) k) rfl)
  go_wp2
  refine bodyPost_ret (results_cell_row rfl _ _ g2 51 #[.bool (ng r), .slice A7 (ln r) c8, .bool (ng d), .slice B (ln d) k] (0, 0) _ rfl (H.blk m0) Try.underlying51 rfl (by kernel_rfl)) rfl ?_
  exact ⟨A7, c8, B, k, rfl, H.ret m0, H.ret m1, H.below⟩

theorem NegR {A B : Option Addr} {c k : Nat} {n d : Int} {w : World} {ok : Nat → Prop} (hf : (bw A c n).at w ok) (hg : (bw B k d).at w ok) (hn : ln n ≤ 100000) (hd : ln d ≤ 100000) (rn rd : Int) (h : -n = rn ∧ d = rd) : Calls Try.prog 51 #[.agg #[.bool (ng n), .slice A (ln n) c, .bool (ng d), .slice B (ln d) k]] w (RetQ w ok rn rd) := by obtain ⟨h1, rfl⟩ := h; exact NegR_ hf hg hn hd rn ⟨h1⟩

theorem Must_ok {A B : Option Addr} {c k : Nat} {n d : Int} {w : World} {ok : Nat → Prop} (hf : (bw A c n).at w ok) (hg : (bw B k d).at w ok) (hn : ln n ≤ 10000000) (hd : ln d ≤ 10000000) (rn rd er : Int) (h1 : Aside0 (qn n d = rn)) (h2 : Aside0 (qd n d = rd)) (h3 : Aside0 (qe d = er)) : Calls Try.prog 86 #[.agg #[.bool (ng n), .slice A (ln n) c], .agg #[.bool (ng d), .slice B (ln d) k]] w (RetQ w ok rn rd) := by
  have hu25 := Try.underlying25
  have hu51 := Try.underlying51
  have H := ((Sit.start w ok).arg hf).arg hg
  have bn := Aside0.mk hn
  have bd := Aside0.mk hd
  clear hf hg hn hd
  go_enter Try.func86, Try.ntmps86
  have st2 := trivial
  have st4 := trivial
  have st6 := trivial
  have st12 := trivial
  have st14 := trivial
  go_upto_region 2 with (first
    | (clear st2; (with_reducible refine gate_dst (N := 2) rfl ?_); refine box_event ?hg (N := 2) ?hd (cs := #[.bool (ng n), .slice A (ln n) c]) (t := 25) ?hr ?_; (case hd => rfl); (case hg => rfl); (case hr => go_simp; try rfl); intro g2 hg w1 hbox hb; replace H := H.newbox hg hbox hb; clear hg hbox hb; obtain ⟨k2_0, z2_0, k2_1, z2_1⟩ := H.b2 (g := g2) m0)
    | (clear st4; (with_reducible refine gate_dst (N := 3) rfl ?_); refine box_event ?hg (N := 3) ?hd (cs := #[.bool (ng d), .slice B (ln d) k]) (t := 25) ?hr ?_; (case hd => rfl); (case hg => rfl); (case hr => go_simp; try rfl); intro g3 hg w3 hbox hb; replace H := H.newbox hg hbox hb; clear hg hbox hb; clear k2_0 z2_0 k2_1 z2_1; obtain ⟨k3_0, z3_0, k3_1, z3_1⟩ := H.b2 (g := g3) m0; obtain ⟨k2_0, z2_0, k2_1, z2_1⟩ := H.b2 (g := g2) m1; have ne_g3_g2 := H.ne (g := g3) (g' := g2) 0 1 rfl rfl (by decide); have ne_g2_g3 := ne_g3_g2.symm)
    | (clear st6; (with_reducible refine gate_dst (N := 4) rfl ?_); refine box_event ?hg (N := 4) ?hd (cs := #[.bool false, .slice none 0 0, .bool false, .slice none 0 0]) (t := 51) ?hr ?_; (case hd => rfl); (case hg => rfl); (case hr => go_simp; try rfl); intro g4 hg w5 hbox hb; replace H := H.newbox hg hbox hb; clear hg hbox hb; clear k3_0 z3_0 k3_1 z3_1 k2_0 z2_0 k2_1 z2_1; obtain ⟨k4_0, z4_0, k4_1, z4_1, k4_2, z4_2, k4_3, z4_3⟩ := H.b4 (g := g4) m0; obtain ⟨k3_0, z3_0, k3_1, z3_1⟩ := H.b2 (g := g3) m1; obtain ⟨k2_0, z2_0, k2_1, z2_1⟩ := H.b2 (g := g2) m2; have ne_g4_g3 := H.ne (g := g4) (g' := g3) 0 1 rfl rfl (by decide); have ne_g3_g4 := ne_g4_g3.symm; have ne_g4_g2 := H.ne (g := g4) (g' := g2) 0 2 rfl rfl (by decide); have ne_g2_g4 := ne_g4_g2.symm)
    | (clear st12; go_at_call 63; (with_reducible refine (MakeQ (H.row _ m1) (H.row _ m0) (lim bn.out (by decide)) (lim bd.out (by decide)) rn rd er h1.out h2.out h3.out).mono ?_); rintro e w7 ⟨A8, c9, A10, c11, rfl, hr, hr2, hb⟩; replace H := (H.got hr hb).more ((H.got hr2 hb).row _ m0); clear hr hr2 hb; clear k4_0 z4_0 k4_1 z4_1 k4_2 z4_2 k4_3 z4_3 k3_0 z3_0 k3_1 z3_1 k2_0 z2_0 k2_1 z2_1; obtain ⟨k4_0, z4_0, k4_1, z4_1, k4_2, z4_2, k4_3, z4_3⟩ := H.b4 (g := g4) m0; obtain ⟨k3_0, z3_0, k3_1, z3_1⟩ := H.b2 (g := g3) m1; obtain ⟨k2_0, z2_0, k2_1, z2_1⟩ := H.b2 (g := g2) m2)
    | (clear st14; (with_reducible refine gate_dst (N := 5) rfl ?_); refine box_event ?hg (N := 5) ?hd (cs := #[.bool false, .slice none 0 0, .bool false, .slice none 0 0]) (t := 51) ?hr ?_; (case hd => rfl); (case hg => rfl); (case hr => go_simp; try rfl); intro g5 hg w13 hbox hb; replace H := H.newbox hg hbox hb; clear hg hbox hb; clear k4_0 z4_0 k4_1 z4_1 k4_2 z4_2 k4_3 z4_3 k3_0 z3_0 k3_1 z3_1 k2_0 z2_0 k2_1 z2_1; obtain ⟨k5_0, z5_0, k5_1, z5_1, k5_2, z5_2, k5_3, z5_3⟩ := H.b4 (g := g5) m0; obtain ⟨k4_0, z4_0, k4_1, z4_1, k4_2, z4_2, k4_3, z4_3⟩ := H.b4 (g := g4) m1; obtain ⟨k3_0, z3_0, k3_1, z3_1⟩ := H.b2 (g := g3) m2; obtain ⟨k2_0, z2_0, k2_1, z2_1⟩ := H.b2 (g := g2) m3; have ne_g5_g4 := H.ne (g := g5) (g' := g4) 0 1 rfl rfl (by decide); have ne_g4_g5 := ne_g5_g4.symm; have ne_g5_g3 := H.ne (g := g5) (g' := g3) 0 2 rfl rfl (by decide); have ne_g3_g5 := ne_g5_g3.symm; have ne_g5_g2 := H.ne (g := g5) (g' := g2) 0 3 rfl rfl (by decide); have ne_g2_g5 := ne_g5_g2.symm))
  (try simp only [Act.put, List.setIfInBounds_toArray, List.set_cons_zero, List.set_cons_succ])
  replace H := ((((H.setn [] 0 (.bool (ng rn)) rfl).setn [] 1 (.slice A8 (ln rn) c9) rfl).setn [] 2 (.bool (ng rd)) rfl).setn [] 3 (.slice A10 (ln rd) c11) rfl)
  clear k5_0 z5_0 k5_1 z5_1 k5_2 z5_2 k5_3 z5_3 k4_0 z4_0 k4_1 z4_1 k4_2 z4_2 k4_3 z4_3 k3_0 z3_0 k3_1 z3_1 k2_0 z2_0 k2_1 z2_1
  generalize ((((w13.setCell ⟨g5, 0, none⟩ (.bool (ng rn))).setCell ⟨g5, 1, none⟩ (.slice A8 (ln rn) c9)).setCell ⟨g5, 2, none⟩ (.bool (ng rd))).setCell ⟨g5, 3, none⟩ (.slice A10 (ln rd) c11)) = w15 at H ⊢
  obtain ⟨k5_0, z5_0, k5_1, z5_1, k5_2, z5_2, k5_3, z5_3⟩ := H.b4 (g := g5) m0
  obtain ⟨k4_0, z4_0, k4_1, z4_1, k4_2, z4_2, k4_3, z4_3⟩ := H.b4 (g := g4) m1
  obtain ⟨k3_0, z3_0, k3_1, z3_1⟩ := H.b2 (g := g3) m2
  obtain ⟨k2_0, z2_0, k2_1, z2_1⟩ := H.b2 (g := g2) m3
  go_wp2
  replace H := ((((H.setn [_] 0 (.bool (ng rn)) rfl).setn [_] 1 (.slice A8 (ln rn) c9) rfl).setn [_] 2 (.bool (ng rd)) rfl).setn [_] 3 (.slice A10 (ln rd) c11) rfl)
  refine bodyPost_ret (results_cell_row rfl _ _ g4 51 #[.bool (ng rn), .slice A8 (ln rn) c9, .bool (ng rd), .slice A10 (ln rd) c11] (0, 0) _ rfl (H.blk m1) Try.underlying51 rfl (by kernel_rfl)) rfl ?_
  exact ⟨A8, c9, A10, c11, rfl, H.ret m1, H.ret m0, H.below⟩

theorem MustQ {A B : Option Addr} {c k : Nat} {n d : Int} {w : World} {ok : Nat → Prop} (hf : (bw A c n).at w ok) (hg : (bw B k d).at w ok) (hn : ln n ≤ 10000000) (hd : ln d ≤ 10000000) (rn rd : Int) (h : qn n d = rn ∧ qd n d = rd) : Calls Try.prog 86 #[.agg #[.bool (ng n), .slice A (ln n) c], .agg #[.bool (ng d), .slice B (ln d) k]] w (RetQ w ok rn rd) := Must_ok hf hg hn hd rn rd _ ⟨h.1⟩ ⟨h.2⟩ ⟨rfl⟩
def tb66.T1 : Bool × List (List Nat × List Nat) := (true, [([], []), ([0], [0]), ([], []), ([2], [2]), ([1, 3, 3], [1, 3]), ([], []), ([5], [5]), ([], []), ([7, 4], [7]), ([6, 8, 8], [6, 8]), ([4, 9, 9], [4, 9]), ([10, 10, 0, 1, 2, 3, 4, 5, 6, 7, 8, 9, 10], [10])])
def tb66.B1 : List Nat := [0, 1, 0, 4, 15, 0, 32, 0, 159, 511, 1023, 2047]
theorem tb66.tab1 : rtab .any (opsOf Try.f66 1) = tb66.T1 := by kernel_rfl
theorem tb66.bits1 : waitsOk tb66.T1.2 tb66.B1 = true := by kernel_rfl

theorem CmpR {A B A' B' : Option Addr} {c k c' k' : Nat} {n d p q : Int} {w : World} {ok : Nat → Prop} (hf : (bw A c n).at w ok) (hg : (bw B k d).at w ok) (hf' : (bw A' c' p).at w ok) (hg' : (bw B' k' q).at w ok) (hn : ln n ≤ 100000) (hd : ln d ≤ 100000) (hp : ln p ≤ 100000) (hq : ln q ≤ 100000) (r : Int) (h : cmp3 (n * dd q) (p * dd d) = r) : Calls Try.prog 66 #[.agg #[.bool (ng n), .slice A (ln n) c, .bool (ng d), .slice B (ln d) k], .agg #[.bool (ng p), .slice A' (ln p) c', .bool (ng q), .slice B' (ln q) k']] w (RetI64 r w) := by
  have hu25 := Try.underlying25
  have hu51 := Try.underlying51
  have H := ((((Sit.start w ok).arg hf).arg hg).arg hf').arg hg'
  have bn := Aside0.mk hn
  have bd := Aside0.mk hd
  have bp := Aside0.mk hp
  have bq := Aside0.mk hq
  clear hf hg hf' hg' hn hd hp hq
  obtain ⟨e1, he1⟩ : ∃ v : Int, dd d = v := ⟨_, rfl⟩
  obtain ⟨e2, he2⟩ : ∃ v : Int, dd q = v := ⟨_, rfl⟩
  have be1 := Aside0.mk (bDd bd.out (by decide) he1)
  have be2 := Aside0.mk (bDd bq.out (by decide) he2)
  obtain ⟨s1, hs1⟩ : ∃ v : Int, n * e2 = v := ⟨_, rfl⟩
  have bs1 := Aside0.mk (bMul bn.out be2.out hs1)
  obtain ⟨s2, hs2⟩ : ∃ v : Int, p * e1 = v := ⟨_, rfl⟩
  have bs2 := Aside0.mk (bMul bp.out be1.out hs2)
  have hc : cmp3 s1 s2 = r := by rw [← hs1, ← hs2, ← he1, ← he2]; exact h
  replace hc := Aside0.mk hc
  clear h
  replace he1 := Aside0.mk he1
  replace he2 := Aside0.mk he2
  replace hs1 := Aside0.mk hs1
  replace hs2 := Aside0.mk hs2
  go_enter Try.func66, Try.ntmps66
  have st2 := trivial
  have st4 := trivial
  go_upto_region 1 with (first
    | (clear st2; (with_reducible refine gate_dst (N := 2) rfl ?_); refine box_event ?hg (N := 2) ?hd (cs := #[.bool (ng n), .slice A (ln n) c, .bool (ng d), .slice B (ln d) k]) (t := 51) ?hr ?_; (case hd => rfl); (case hg => rfl); (case hr => go_simp; try rfl); intro g2 hg w1 hbox hb; replace H := H.newbox hg hbox hb; clear hg hbox hb; obtain ⟨k2_0, z2_0, k2_1, z2_1, k2_2, z2_2, k2_3, z2_3⟩ := H.b4 (g := g2) m0)
    | (clear st4; (with_reducible refine gate_dst (N := 3) rfl ?_); refine box_event ?hg (N := 3) ?hd (cs := #[.bool (ng p), .slice A' (ln p) c', .bool (ng q), .slice B' (ln q) k']) (t := 51) ?hr ?_; (case hd => rfl); (case hg => rfl); (case hr => go_simp; try rfl); intro g3 hg w3 hbox hb; replace H := H.newbox hg hbox hb; clear hg hbox hb; clear k2_0 z2_0 k2_1 z2_1 k2_2 z2_2 k2_3 z2_3; obtain ⟨k3_0, z3_0, k3_1, z3_1, k3_2, z3_2, k3_3, z3_3⟩ := H.b4 (g := g3) m0; obtain ⟨k2_0, z2_0, k2_1, z2_1, k2_2, z2_2, k2_3, z2_3⟩ := H.b4 (g := g2) m1; have ne_g3_g2 := H.ne (g := g3) (g' := g2) 0 1 rfl rfl (by decide); have ne_g2_g3 := ne_g3_g2.symm))
  (try simp only [Act.put, List.setIfInBounds_toArray, List.set_cons_zero, List.set_cons_succ])
  clear k3_0 z3_0 k3_1 z3_1 k3_2 z3_2 k3_3 z3_3 k2_0 z2_0 k2_1 z2_1 k2_2 z2_2 k2_3 z2_3
  replace H := H.drew
  refine start_ (n := 12) (S := fun w' => w'.cell? ⟨g2, 0, none⟩ = some (.bool (ng n)) ∧ w'.cell? ⟨g2, 1, none⟩ = some (.slice A (ln n) c) ∧ w'.cell? ⟨g2, 2, none⟩ = some (.bool (ng d)) ∧ w'.cell? ⟨g2, 3, none⟩ = some (.slice B (ln d) k) ∧ w'.cell? ⟨g3, 0, none⟩ = some (.bool (ng p)) ∧ w'.cell? ⟨g3, 1, none⟩ = some (.slice A' (ln p) c') ∧ w'.cell? ⟨g3, 2, none⟩ = some (.bool (ng q)) ∧ w'.cell? ⟨g3, 3, none⟩ = some (.slice B' (ln q) k')) (ds := []) #[false, false, false, false, false, false, false, false, false, false, false, false] (by kernel_rfl) rfl rfl ⟨H.cell m1 0, H.cell m1 1, H.cell m1 2, H.cell m1 3, H.cell m0 0, H.cell m0 1, H.cell m0 2, H.cell m0 3⟩ (fun hQ => ?_)
  generalize w3.drew = w5 at H hQ ⊢
  refine with_tabW tb66.tab1 tb66.bits1 (fun HT_ HW_ => ?_)
  refine pure_ (i := 0) (N := some 5) (v := ?_) (a' := ?_) (bm 12 1) rfl rfl (any_of HT_.out (by kernel_rfl)) (fun _ _ _ h => h) (Or.inl ⟨by rfl, ?_⟩) ?_ ?_
  rotate_left
  · intro w'
    go_simp
    with_reducible rfl
  rotate_left
  · simp only [Act.put, List.setIfInBounds_toArray, List.set_cons_zero, List.set_cons_succ, i64_w, i32_w]
    rfl
  refine pure_ (i := 5) (N := some 10) (v := ?_) (a' := ?_) (bm 12 33) rfl rfl (any_of HT_.out (by kernel_rfl)) (fun _ _ _ h => h) (Or.inl ⟨by rfl, ?_⟩) ?_ ?_
  rotate_left
  · intro w'
    go_simp
    with_reducible rfl
  rotate_left
  · simp only [Act.put, List.setIfInBounds_toArray, List.set_cons_zero, List.set_cons_succ, i64_w, i32_w]
    rfl
  refine take_ (i := 1) (N := some 6) (v := ?_) (a' := ?_) (bm 12 35) rfl rfl (take_ofW HT_.out HW_.out (by kernel_rfl)) (fun _ _ _ h => h) (Or.inl ⟨by rfl, ?_⟩) hQ ?_ ?_
  rotate_left
  · rintro w' ⟨s0, s1, s2, s3, s4, s5, s6, s7⟩
    go_simp
    with_reducible rfl
  rotate_left
  · simp only [Act.put, List.setIfInBounds_toArray, List.set_cons_zero, List.set_cons_succ, i64_w, i32_w]
    rfl
  refine take_ (i := 2) (N := some 7) (v := ?_) (a' := ?_) (bm 12 39) rfl rfl (take_ofW HT_.out HW_.out (by kernel_rfl)) (fun _ _ _ h => h) (Or.inl ⟨by rfl, ?_⟩) hQ ?_ ?_
  rotate_left
  · rintro w' ⟨s0, s1, s2, s3, s4, s5, s6, s7⟩
    go_simp
    with_reducible rfl
  rotate_left
  · simp only [Act.put, List.setIfInBounds_toArray, List.set_cons_zero, List.set_cons_succ, i64_w, i32_w]
    rfl
  refine take_ (i := 6) (N := some 11) (v := ?_) (a' := ?_) (bm 12 103) rfl rfl (take_ofW HT_.out HW_.out (by kernel_rfl)) (fun _ _ _ h => h) (Or.inl ⟨by rfl, ?_⟩) hQ ?_ ?_
  rotate_left
  · rintro w' ⟨s0, s1, s2, s3, s4, s5, s6, s7⟩
    go_simp
    with_reducible rfl
  rotate_left
  · simp only [Act.put, List.setIfInBounds_toArray, List.set_cons_zero, List.set_cons_succ, i64_w, i32_w]
    rfl
  refine take_ (i := 7) (N := some 12) (v := ?_) (a' := ?_) (bm 12 231) rfl rfl (take_ofW HT_.out HW_.out (by kernel_rfl)) (fun _ _ _ h => h) (Or.inl ⟨by rfl, ?_⟩) hQ ?_ ?_
  rotate_left
  · rintro w' ⟨s0, s1, s2, s3, s4, s5, s6, s7⟩
    go_simp
    with_reducible rfl
  rotate_left
  · simp only [Act.put, List.setIfInBounds_toArray, List.set_cons_zero, List.set_cons_succ, i64_w, i32_w]
    rfl
  refine one_ (i := 3) (N := some 8) (bm 12 239) rfl rfl (one_of HT_.out (by kernel_rfl)) (by decide) (fun K hK => ?_)
  refine goes_ Try.func47 (by kernel_rfl) rfl #[.agg #[.bool (ng p), .slice A' (ln p) c', .bool (ng q), .slice B' (ln q) k']] (by rfl) rfl rfl (by simp only [List.map_toArray, List.map_cons, List.map_nil]; try rfl) ?_
  with_reducible refine (DenQ (H.row _ m1) (H.row _ m0) (limR bp.out (by decide)) (limR bq.out (by decide)) e2 he2.out).mono ?_
  rintro e w6 ⟨A7, c8, rfl, hr, hb⟩
  replace H := H.got hr hb
  clear hr hb
  refine ⟨_, rfl, ?_⟩
  refine hK.out _ _ ⟨H.cell m1 0, H.cell m1 1, H.cell m1 2, H.cell m1 3, H.cell m0 0, H.cell m0 1, H.cell m0 2, H.cell m0 3⟩ (fun hQ => ?_)
  clear hK K
  refine norm_ (a' := ?_) ?_ ?_
  rotate_left
  · show Act.put _ (some 8) _ = _
    simp only [Act.put, List.setIfInBounds_toArray, List.set_cons_zero, List.set_cons_succ, i64_w, i32_w]
    rfl
  refine one_ (i := 4) (N := some 9) (bm 12 255) rfl rfl (one_of HT_.out (by kernel_rfl)) (by decide) (fun K hK => ?_)
  refine goes_ Try.func31 (by kernel_rfl) rfl #[.agg #[.bool (ng n), .slice A (ln n) c], .agg #[.bool (ng e2), .slice A7 (ln e2) c8]] (by rfl) rfl rfl (by simp only [List.map_toArray, List.map_cons, List.map_nil]; try rfl) ?_
  with_reducible refine (MulQ (H.row _ m4) (H.row _ m0) (lim bn.out (by decide)) (lim be2.out (by decide)) s1 hs1.out).mono ?_
  rintro e w9 ⟨A10, c11, rfl, hr, hb⟩
  replace H := H.got hr hb
  clear hr hb
  refine ⟨_, rfl, ?_⟩
  refine hK.out _ _ ⟨H.cell m1 0, H.cell m1 1, H.cell m1 2, H.cell m1 3, H.cell m0 0, H.cell m0 1, H.cell m0 2, H.cell m0 3⟩ (fun hQ => ?_)
  clear hK K
  refine norm_ (a' := ?_) ?_ ?_
  rotate_left
  · show Act.put _ (some 9) _ = _
    simp only [Act.put, List.setIfInBounds_toArray, List.set_cons_zero, List.set_cons_succ, i64_w, i32_w]
    rfl
  refine one_ (i := 8) (N := some 13) (bm 12 511) rfl rfl (one_of HT_.out (by kernel_rfl)) (by decide) (fun K hK => ?_)
  refine goes_ Try.func47 (by kernel_rfl) rfl #[.agg #[.bool (ng n), .slice A (ln n) c, .bool (ng d), .slice B (ln d) k]] (by rfl) rfl rfl (by simp only [List.map_toArray, List.map_cons, List.map_nil]; try rfl) ?_
  with_reducible refine (DenQ (H.row _ m5) (H.row _ m4) (limR bn.out (by decide)) (limR bd.out (by decide)) e1 he1.out).mono ?_
  rintro e w12 ⟨A13, c14, rfl, hr, hb⟩
  replace H := H.got hr hb
  clear hr hb
  refine ⟨_, rfl, ?_⟩
  refine hK.out _ _ ⟨H.cell m1 0, H.cell m1 1, H.cell m1 2, H.cell m1 3, H.cell m0 0, H.cell m0 1, H.cell m0 2, H.cell m0 3⟩ (fun hQ => ?_)
  clear hK K
  refine norm_ (a' := ?_) ?_ ?_
  rotate_left
  · show Act.put _ (some 13) _ = _
    simp only [Act.put, List.setIfInBounds_toArray, List.set_cons_zero, List.set_cons_succ, i64_w, i32_w]
    rfl
  refine one_ (i := 9) (N := some 14) (bm 12 1023) rfl rfl (one_of HT_.out (by kernel_rfl)) (by decide) (fun K hK => ?_)
  refine goes_ Try.func31 (by kernel_rfl) rfl #[.agg #[.bool (ng p), .slice A' (ln p) c'], .agg #[.bool (ng e1), .slice A13 (ln e1) c14]] (by rfl) rfl rfl (by simp only [List.map_toArray, List.map_cons, List.map_nil]; try rfl) ?_
  with_reducible refine (MulQ (H.row _ m4) (H.row _ m0) (lim bp.out (by decide)) (lim be1.out (by decide)) s2 hs2.out).mono ?_
  rintro e w15 ⟨A16, c17, rfl, hr, hb⟩
  replace H := H.got hr hb
  clear hr hb
  refine ⟨_, rfl, ?_⟩
  refine hK.out _ _ ⟨H.cell m1 0, H.cell m1 1, H.cell m1 2, H.cell m1 3, H.cell m0 0, H.cell m0 1, H.cell m0 2, H.cell m0 3⟩ (fun hQ => ?_)
  clear hK K
  refine norm_ (a' := ?_) ?_ ?_
  rotate_left
  · show Act.put _ (some 14) _ = _
    simp only [Act.put, List.setIfInBounds_toArray, List.set_cons_zero, List.set_cons_succ, i64_w, i32_w]
    rfl
  refine one_ (i := 10) (N := some 15) (bm 12 2047) rfl rfl (one_of HT_.out (by kernel_rfl)) (by decide) (fun K hK => ?_)
  refine goes_ Try.func34 (by kernel_rfl) rfl #[.agg #[.bool (ng s1), .slice A10 (ln s1) c11], .agg #[.bool (ng s2), .slice A16 (ln s2) c17]] (by rfl) rfl rfl (by simp only [List.map_toArray, List.map_cons, List.map_nil]; try rfl) ?_
  with_reducible refine (CmpQ (H.row _ m2) (H.row _ m0) (lim bs1.out (by decide)) (lim bs2.out (by decide)) r hc.out).mono ?_
  rintro e w18 ⟨rfl, hb⟩
  replace H := H.call hb
  clear hb
  refine ⟨_, rfl, ?_⟩
  refine hK.out _ _ ⟨H.cell m1 0, H.cell m1 1, H.cell m1 2, H.cell m1 3, H.cell m0 0, H.cell m0 1, H.cell m0 2, H.cell m0 3⟩ (fun hQ => ?_)
  clear hK K
  refine norm_ (a' := ?_) ?_ ?_
  rotate_left
  · show Act.put _ (some 15) _ = _
    simp only [Act.put, List.setIfInBounds_toArray, List.set_cons_zero, List.set_cons_succ, i64_w, i32_w]
    rfl
  refine pure_ (i := 11) (N := some 4) (v := ?_) (a' := ?_) (bm 12 4095) rfl rfl (any_of HT_.out (by kernel_rfl)) (fun _ _ _ h => h) (Or.inl ⟨by rfl, ?_⟩) ?_ ?_
  rotate_left
  · intro w'
    go_simp
    with_reducible rfl
  rotate_left
  · simp only [Act.put, List.setIfInBounds_toArray, List.set_cons_zero, List.set_cons_succ, i64_w, i32_w]
    rfl
  refine done_ (done_of HT_.out (by kernel_rfl)) ?_
  try clear hQ
  go_wp2
  go_ret
  exact ⟨rfl, H.below⟩

def tb41.T1 : Bool × List (List Nat × List Nat) := (true, [([], []), ([0], [0]), ([], []), ([2], [2]), ([1, 3, 3], [1, 3]), ([], []), ([5], [5]), ([], []), ([7, 4], [7]), ([6, 8, 8], [6, 8]), ([4, 9, 9], [4, 9]), ([], []), ([11, 10], [11]), ([], []), ([13, 12], [13]), ([12, 14, 14], [12, 14]), ([10, 15, 15], [10, 15]), ([16, 16, 0, 1, 2, 3, 4, 5, 6, 7, 8, 9, 10, 11, 12, 13, 14, 15, 16], [16])])
def tb41.B1 : List Nat := [0, 1, 0, 4, 15, 0, 32, 0, 159, 511, 1023, 0, 4095, 0, 16383, 32767, 65535, 131071]
theorem tb41.tab1 : rtab .any (opsOf Try.f41 1) = tb41.T1 := by kernel_rfl
theorem tb41.bits1 : waitsOk tb41.T1.2 tb41.B1 = true := by kernel_rfl

theorem AddR {A B A' B' : Option Addr} {c k c' k' : Nat} {n d p q : Int} {w : World} {ok : Nat → Prop} (hf : (bw A c n).at w ok) (hg : (bw B k d).at w ok) (hf' : (bw A' c' p).at w ok) (hg' : (bw B' k' q).at w ok) (hn : ln n ≤ 100000) (hd : ln d ≤ 100000) (hp : ln p ≤ 100000) (hq : ln q ≤ 100000) (rn rd : Int) (h : qn (n * dd q + p * dd d) (dd d * dd q) = rn ∧ qd (n * dd q + p * dd d) (dd d * dd q) = rd) : Calls Try.prog 41 #[.agg #[.bool (ng n), .slice A (ln n) c, .bool (ng d), .slice B (ln d) k], .agg #[.bool (ng p), .slice A' (ln p) c', .bool (ng q), .slice B' (ln q) k']] w (RetQ w ok rn rd) := by
  have hu25 := Try.underlying25
  have hu51 := Try.underlying51
  have H := ((((Sit.start w ok).arg hf).arg hg).arg hf').arg hg'
  have bn := Aside0.mk hn
  have bd := Aside0.mk hd
  have bp := Aside0.mk hp
  have bq := Aside0.mk hq
  clear hf hg hf' hg' hn hd hp hq
  obtain ⟨e1, he1⟩ : ∃ v : Int, dd d = v := ⟨_, rfl⟩
  obtain ⟨e2, he2⟩ : ∃ v : Int, dd q = v := ⟨_, rfl⟩
  have be1 := Aside0.mk (bDd bd.out (by decide) he1)
  have be2 := Aside0.mk (bDd bq.out (by decide) he2)
  obtain ⟨s1, hs1⟩ : ∃ v : Int, n * e2 = v := ⟨_, rfl⟩
  have bs1 := Aside0.mk (bMul bn.out be2.out hs1)
  obtain ⟨s2, hs2⟩ : ∃ v : Int, p * e1 = v := ⟨_, rfl⟩
  have bs2 := Aside0.mk (bMul bp.out be1.out hs2)
  obtain ⟨s, hs⟩ : ∃ v : Int, s1 + s2 = v := ⟨_, rfl⟩
  have bs := Aside0.mk (bAdd bs1.out bs2.out hs)
  obtain ⟨t, ht⟩ : ∃ v : Int, e1 * e2 = v := ⟨_, rfl⟩
  have bt := Aside0.mk (bMul be1.out be2.out ht)
  have hm : qn s t = rn ∧ qd s t = rd := by rw [← hs, ← hs1, ← hs2, ← ht, ← he1, ← he2]; exact h
  replace hm := Aside0.mk hm
  clear h
  replace he1 := Aside0.mk he1
  replace he2 := Aside0.mk he2
  replace hs1 := Aside0.mk hs1
  replace hs2 := Aside0.mk hs2
  replace hs := Aside0.mk hs
  replace ht := Aside0.mk ht
  go_enter Try.func41, Try.ntmps41
  have st2 := trivial
  have st4 := trivial
  have st6 := trivial
  go_upto_region 1 with (first
    | (clear st2; (with_reducible refine gate_dst (N := 2) rfl ?_); refine box_event ?hg (N := 2) ?hd (cs := #[.bool (ng n), .slice A (ln n) c, .bool (ng d), .slice B (ln d) k]) (t := 51) ?hr ?_; (case hd => rfl); (case hg => rfl); (case hr => go_simp; try rfl); intro g2 hg w1 hbox hb; replace H := H.newbox hg hbox hb; clear hg hbox hb; obtain ⟨k2_0, z2_0, k2_1, z2_1, k2_2, z2_2, k2_3, z2_3⟩ := H.b4 (g := g2) m0)
    | (clear st4; (with_reducible refine gate_dst (N := 3) rfl ?_); refine box_event ?hg (N := 3) ?hd (cs := #[.bool (ng p), .slice A' (ln p) c', .bool (ng q), .slice B' (ln q) k']) (t := 51) ?hr ?_; (case hd => rfl); (case hg => rfl); (case hr => go_simp; try rfl); intro g3 hg w3 hbox hb; replace H := H.newbox hg hbox hb; clear hg hbox hb; clear k2_0 z2_0 k2_1 z2_1 k2_2 z2_2 k2_3 z2_3; obtain ⟨k3_0, z3_0, k3_1, z3_1, k3_2, z3_2, k3_3, z3_3⟩ := H.b4 (g := g3) m0; obtain ⟨k2_0, z2_0, k2_1, z2_1, k2_2, z2_2, k2_3, z2_3⟩ := H.b4 (g := g2) m1; have ne_g3_g2 := H.ne (g := g3) (g' := g2) 0 1 rfl rfl (by decide); have ne_g2_g3 := ne_g3_g2.symm)
    | (clear st6; (with_reducible refine gate_dst (N := 4) rfl ?_); refine box_event ?hg (N := 4) ?hd (cs := #[.bool false, .slice none 0 0, .bool false, .slice none 0 0]) (t := 51) ?hr ?_; (case hd => rfl); (case hg => rfl); (case hr => go_simp; try rfl); intro g4 hg w5 hbox hb; replace H := H.newbox hg hbox hb; clear hg hbox hb; clear k3_0 z3_0 k3_1 z3_1 k3_2 z3_2 k3_3 z3_3 k2_0 z2_0 k2_1 z2_1 k2_2 z2_2 k2_3 z2_3; obtain ⟨k4_0, z4_0, k4_1, z4_1, k4_2, z4_2, k4_3, z4_3⟩ := H.b4 (g := g4) m0; obtain ⟨k3_0, z3_0, k3_1, z3_1, k3_2, z3_2, k3_3, z3_3⟩ := H.b4 (g := g3) m1; obtain ⟨k2_0, z2_0, k2_1, z2_1, k2_2, z2_2, k2_3, z2_3⟩ := H.b4 (g := g2) m2; have ne_g4_g3 := H.ne (g := g4) (g' := g3) 0 1 rfl rfl (by decide); have ne_g3_g4 := ne_g4_g3.symm; have ne_g4_g2 := H.ne (g := g4) (g' := g2) 0 2 rfl rfl (by decide); have ne_g2_g4 := ne_g4_g2.symm))
  (try simp only [Act.put, List.setIfInBounds_toArray, List.set_cons_zero, List.set_cons_succ])
  clear k4_0 z4_0 k4_1 z4_1 k4_2 z4_2 k4_3 z4_3 k3_0 z3_0 k3_1 z3_1 k3_2 z3_2 k3_3 z3_3 k2_0 z2_0 k2_1 z2_1 k2_2 z2_2 k2_3 z2_3
  replace H := H.drew
  refine start_ (n := 18) (S := fun w' => w'.cell? ⟨g2, 0, none⟩ = some (.bool (ng n)) ∧ w'.cell? ⟨g2, 1, none⟩ = some (.slice A (ln n) c) ∧ w'.cell? ⟨g2, 2, none⟩ = some (.bool (ng d)) ∧ w'.cell? ⟨g2, 3, none⟩ = some (.slice B (ln d) k) ∧ w'.cell? ⟨g3, 0, none⟩ = some (.bool (ng p)) ∧ w'.cell? ⟨g3, 1, none⟩ = some (.slice A' (ln p) c') ∧ w'.cell? ⟨g3, 2, none⟩ = some (.bool (ng q)) ∧ w'.cell? ⟨g3, 3, none⟩ = some (.slice B' (ln q) k')) (ds := [17]) #[false, false, false, false, false, false, false, false, false, false, false, false, false, false, false, false, false, false] (by kernel_rfl) rfl rfl ⟨H.cell m2 0, H.cell m2 1, H.cell m2 2, H.cell m2 3, H.cell m1 0, H.cell m1 1, H.cell m1 2, H.cell m1 3⟩ (fun hQ => ?_)
  generalize w5.drew = w7 at H hQ ⊢
  refine with_tabW tb41.tab1 tb41.bits1 (fun HT_ HW_ => ?_)
  refine pure_ (i := 0) (N := some 5) (v := ?_) (a' := ?_) (bm 18 1) rfl rfl (any_of HT_.out (by kernel_rfl)) (fun _ _ _ h => h) (Or.inl ⟨by rfl, ?_⟩) ?_ ?_
  rotate_left
  · intro w'
    go_simp
    with_reducible rfl
  rotate_left
  · simp only [Act.put, List.setIfInBounds_toArray, List.set_cons_zero, List.set_cons_succ, i64_w, i32_w]
    rfl
  refine pure_ (i := 5) (N := some 10) (v := ?_) (a' := ?_) (bm 18 33) rfl rfl (any_of HT_.out (by kernel_rfl)) (fun _ _ _ h => h) (Or.inl ⟨by rfl, ?_⟩) ?_ ?_
  rotate_left
  · intro w'
    go_simp
    with_reducible rfl
  rotate_left
  · simp only [Act.put, List.setIfInBounds_toArray, List.set_cons_zero, List.set_cons_succ, i64_w, i32_w]
    rfl
  refine take_ (i := 1) (N := some 6) (v := ?_) (a' := ?_) (bm 18 35) rfl rfl (take_ofW HT_.out HW_.out (by kernel_rfl)) (fun _ _ _ h => h) (Or.inl ⟨by rfl, ?_⟩) hQ ?_ ?_
  rotate_left
  · rintro w' ⟨s0, s1, s2, s3, s4, s5, s6, s7⟩
    go_simp
    with_reducible rfl
  rotate_left
  · simp only [Act.put, List.setIfInBounds_toArray, List.set_cons_zero, List.set_cons_succ, i64_w, i32_w]
    rfl
  refine take_ (i := 2) (N := some 7) (v := ?_) (a' := ?_) (bm 18 39) rfl rfl (take_ofW HT_.out HW_.out (by kernel_rfl)) (fun _ _ _ h => h) (Or.inl ⟨by rfl, ?_⟩) hQ ?_ ?_
  rotate_left
  · rintro w' ⟨s0, s1, s2, s3, s4, s5, s6, s7⟩
    go_simp
    with_reducible rfl
  rotate_left
  · simp only [Act.put, List.setIfInBounds_toArray, List.set_cons_zero, List.set_cons_succ, i64_w, i32_w]
    rfl
  refine take_ (i := 6) (N := some 11) (v := ?_) (a' := ?_) (bm 18 103) rfl rfl (take_ofW HT_.out HW_.out (by kernel_rfl)) (fun _ _ _ h => h) (Or.inl ⟨by rfl, ?_⟩) hQ ?_ ?_
  rotate_left
  · rintro w' ⟨s0, s1, s2, s3, s4, s5, s6, s7⟩
    go_simp
    with_reducible rfl
  rotate_left
  · simp only [Act.put, List.setIfInBounds_toArray, List.set_cons_zero, List.set_cons_succ, i64_w, i32_w]
    rfl
  refine take_ (i := 7) (N := some 12) (v := ?_) (a' := ?_) (bm 18 231) rfl rfl (take_ofW HT_.out HW_.out (by kernel_rfl)) (fun _ _ _ h => h) (Or.inl ⟨by rfl, ?_⟩) hQ ?_ ?_
  rotate_left
  · rintro w' ⟨s0, s1, s2, s3, s4, s5, s6, s7⟩
    go_simp
    with_reducible rfl
  rotate_left
  · simp only [Act.put, List.setIfInBounds_toArray, List.set_cons_zero, List.set_cons_succ, i64_w, i32_w]
    rfl
  refine take_ (i := 11) (N := some 16) (v := ?_) (a' := ?_) (bm 18 2279) rfl rfl (take_ofW HT_.out HW_.out (by kernel_rfl)) (fun _ _ _ h => h) (Or.inl ⟨by rfl, ?_⟩) hQ ?_ ?_
  rotate_left
  · rintro w' ⟨s0, s1, s2, s3, s4, s5, s6, s7⟩
    go_simp
    with_reducible rfl
  rotate_left
  · simp only [Act.put, List.setIfInBounds_toArray, List.set_cons_zero, List.set_cons_succ, i64_w, i32_w]
    rfl
  refine take_ (i := 13) (N := some 18) (v := ?_) (a' := ?_) (bm 18 10471) rfl rfl (take_ofW HT_.out HW_.out (by kernel_rfl)) (fun _ _ _ h => h) (Or.inl ⟨by rfl, ?_⟩) hQ ?_ ?_
  rotate_left
  · rintro w' ⟨s0, s1, s2, s3, s4, s5, s6, s7⟩
    go_simp
    with_reducible rfl
  rotate_left
  · simp only [Act.put, List.setIfInBounds_toArray, List.set_cons_zero, List.set_cons_succ, i64_w, i32_w]
    rfl
  refine one_ (i := 3) (N := some 8) (bm 18 10479) rfl rfl (one_of HT_.out (by kernel_rfl)) (by decide) (fun K hK => ?_)
  refine goes_ Try.func47 (by kernel_rfl) rfl #[.agg #[.bool (ng p), .slice A' (ln p) c', .bool (ng q), .slice B' (ln q) k']] (by rfl) rfl rfl (by simp only [List.map_toArray, List.map_cons, List.map_nil]; try rfl) ?_
  with_reducible refine (DenQ (H.row _ m1) (H.row _ m0) (limR bp.out (by decide)) (limR bq.out (by decide)) e2 he2.out).mono ?_
  rintro e w8 ⟨A9, c10, rfl, hr, hb⟩
  replace H := H.got hr hb
  clear hr hb
  refine ⟨_, rfl, ?_⟩
  refine hK.out _ _ ⟨H.cell m2 0, H.cell m2 1, H.cell m2 2, H.cell m2 3, H.cell m1 0, H.cell m1 1, H.cell m1 2, H.cell m1 3⟩ (fun hQ => ?_)
  clear hK K
  refine norm_ (a' := ?_) ?_ ?_
  rotate_left
  · show Act.put _ (some 8) _ = _
    simp only [Act.put, List.setIfInBounds_toArray, List.set_cons_zero, List.set_cons_succ, i64_w, i32_w]
    rfl
  refine one_ (i := 4) (N := some 9) (bm 18 10495) rfl rfl (one_of HT_.out (by kernel_rfl)) (by decide) (fun K hK => ?_)
  refine goes_ Try.func31 (by kernel_rfl) rfl #[.agg #[.bool (ng n), .slice A (ln n) c], .agg #[.bool (ng e2), .slice A9 (ln e2) c10]] (by rfl) rfl rfl (by simp only [List.map_toArray, List.map_cons, List.map_nil]; try rfl) ?_
  with_reducible refine (MulQ (H.row _ m4) (H.row _ m0) (lim bn.out (by decide)) (lim be2.out (by decide)) s1 hs1.out).mono ?_
  rintro e w11 ⟨A12, c13, rfl, hr, hb⟩
  replace H := H.got hr hb
  clear hr hb
  refine ⟨_, rfl, ?_⟩
  refine hK.out _ _ ⟨H.cell m2 0, H.cell m2 1, H.cell m2 2, H.cell m2 3, H.cell m1 0, H.cell m1 1, H.cell m1 2, H.cell m1 3⟩ (fun hQ => ?_)
  clear hK K
  refine norm_ (a' := ?_) ?_ ?_
  rotate_left
  · show Act.put _ (some 9) _ = _
    simp only [Act.put, List.setIfInBounds_toArray, List.set_cons_zero, List.set_cons_succ, i64_w, i32_w]
    rfl
  refine one_ (i := 8) (N := some 13) (bm 18 10751) rfl rfl (one_of HT_.out (by kernel_rfl)) (by decide) (fun K hK => ?_)
  refine goes_ Try.func47 (by kernel_rfl) rfl #[.agg #[.bool (ng n), .slice A (ln n) c, .bool (ng d), .slice B (ln d) k]] (by rfl) rfl rfl (by simp only [List.map_toArray, List.map_cons, List.map_nil]; try rfl) ?_
  with_reducible refine (DenQ (H.row _ m5) (H.row _ m4) (limR bn.out (by decide)) (limR bd.out (by decide)) e1 he1.out).mono ?_
  rintro e w14 ⟨A15, c16, rfl, hr, hb⟩
  replace H := H.got hr hb
  clear hr hb
  refine ⟨_, rfl, ?_⟩
  refine hK.out _ _ ⟨H.cell m2 0, H.cell m2 1, H.cell m2 2, H.cell m2 3, H.cell m1 0, H.cell m1 1, H.cell m1 2, H.cell m1 3⟩ (fun hQ => ?_)
  clear hK K
  refine norm_ (a' := ?_) ?_ ?_
  rotate_left
  · show Act.put _ (some 13) _ = _
    simp only [Act.put, List.setIfInBounds_toArray, List.set_cons_zero, List.set_cons_succ, i64_w, i32_w]
    rfl
  refine one_ (i := 9) (N := some 14) (bm 18 11263) rfl rfl (one_of HT_.out (by kernel_rfl)) (by decide) (fun K hK => ?_)
  refine goes_ Try.func31 (by kernel_rfl) rfl #[.agg #[.bool (ng p), .slice A' (ln p) c'], .agg #[.bool (ng e1), .slice A15 (ln e1) c16]] (by rfl) rfl rfl (by simp only [List.map_toArray, List.map_cons, List.map_nil]; try rfl) ?_
  with_reducible refine (MulQ (H.row _ m4) (H.row _ m0) (lim bp.out (by decide)) (lim be1.out (by decide)) s2 hs2.out).mono ?_
  rintro e w17 ⟨A18, c19, rfl, hr, hb⟩
  replace H := H.got hr hb
  clear hr hb
  refine ⟨_, rfl, ?_⟩
  refine hK.out _ _ ⟨H.cell m2 0, H.cell m2 1, H.cell m2 2, H.cell m2 3, H.cell m1 0, H.cell m1 1, H.cell m1 2, H.cell m1 3⟩ (fun hQ => ?_)
  clear hK K
  refine norm_ (a' := ?_) ?_ ?_
  rotate_left
  · show Act.put _ (some 14) _ = _
    simp only [Act.put, List.setIfInBounds_toArray, List.set_cons_zero, List.set_cons_succ, i64_w, i32_w]
    rfl
  refine one_ (i := 10) (N := some 15) (bm 18 12287) rfl rfl (one_of HT_.out (by kernel_rfl)) (by decide) (fun K hK => ?_)
  refine goes_ Try.func28 (by kernel_rfl) rfl #[.agg #[.bool (ng s1), .slice A12 (ln s1) c13], .agg #[.bool (ng s2), .slice A18 (ln s2) c19]] (by rfl) rfl rfl (by simp only [List.map_toArray, List.map_cons, List.map_nil]; try rfl) ?_
  with_reducible refine (AddQ (H.row _ m2) (H.row _ m0) (lim bs1.out (by decide)) (lim bs2.out (by decide)) s hs.out).mono ?_
  rintro e w20 ⟨A21, c22, rfl, hr, hb⟩
  replace H := H.got hr hb
  clear hr hb
  refine ⟨_, rfl, ?_⟩
  refine hK.out _ _ ⟨H.cell m2 0, H.cell m2 1, H.cell m2 2, H.cell m2 3, H.cell m1 0, H.cell m1 1, H.cell m1 2, H.cell m1 3⟩ (fun hQ => ?_)
  clear hK K
  refine norm_ (a' := ?_) ?_ ?_
  rotate_left
  · show Act.put _ (some 15) _ = _
    simp only [Act.put, List.setIfInBounds_toArray, List.set_cons_zero, List.set_cons_succ, i64_w, i32_w]
    rfl
  refine one_ (i := 12) (N := some 17) (bm 18 16383) rfl rfl (one_of HT_.out (by kernel_rfl)) (by decide) (fun K hK => ?_)
  refine goes_ Try.func47 (by kernel_rfl) rfl #[.agg #[.bool (ng n), .slice A (ln n) c, .bool (ng d), .slice B (ln d) k]] (by rfl) rfl rfl (by simp only [List.map_toArray, List.map_cons, List.map_nil]; try rfl) ?_
  with_reducible refine (DenQ (H.row _ m8) (H.row _ m7) (limR bn.out (by decide)) (limR bd.out (by decide)) e1 he1.out).mono ?_
  rintro e w23 ⟨A24, c25, rfl, hr, hb⟩
  replace H := H.got hr hb
  clear hr hb
  refine ⟨_, rfl, ?_⟩
  refine hK.out _ _ ⟨H.cell m2 0, H.cell m2 1, H.cell m2 2, H.cell m2 3, H.cell m1 0, H.cell m1 1, H.cell m1 2, H.cell m1 3⟩ (fun hQ => ?_)
  clear hK K
  refine norm_ (a' := ?_) ?_ ?_
  rotate_left
  · show Act.put _ (some 17) _ = _
    simp only [Act.put, List.setIfInBounds_toArray, List.set_cons_zero, List.set_cons_succ, i64_w, i32_w]
    rfl
  refine one_ (i := 14) (N := some 19) (bm 18 32767) rfl rfl (one_of HT_.out (by kernel_rfl)) (by decide) (fun K hK => ?_)
  refine goes_ Try.func47 (by kernel_rfl) rfl #[.agg #[.bool (ng p), .slice A' (ln p) c', .bool (ng q), .slice B' (ln q) k']] (by rfl) rfl rfl (by simp only [List.map_toArray, List.map_cons, List.map_nil]; try rfl) ?_
  with_reducible refine (DenQ (H.row _ m7) (H.row _ m6) (limR bp.out (by decide)) (limR bq.out (by decide)) e2 he2.out).mono ?_
  rintro e w26 ⟨A27, c28, rfl, hr, hb⟩
  replace H := H.got hr hb
  clear hr hb
  refine ⟨_, rfl, ?_⟩
  refine hK.out _ _ ⟨H.cell m2 0, H.cell m2 1, H.cell m2 2, H.cell m2 3, H.cell m1 0, H.cell m1 1, H.cell m1 2, H.cell m1 3⟩ (fun hQ => ?_)
  clear hK K
  refine norm_ (a' := ?_) ?_ ?_
  rotate_left
  · show Act.put _ (some 19) _ = _
    simp only [Act.put, List.setIfInBounds_toArray, List.set_cons_zero, List.set_cons_succ, i64_w, i32_w]
    rfl
  refine one_ (i := 15) (N := some 20) (bm 18 65535) rfl rfl (one_of HT_.out (by kernel_rfl)) (by decide) (fun K hK => ?_)
  refine goes_ Try.func31 (by kernel_rfl) rfl #[.agg #[.bool (ng e1), .slice A24 (ln e1) c25], .agg #[.bool (ng e2), .slice A27 (ln e2) c28]] (by rfl) rfl rfl (by simp only [List.map_toArray, List.map_cons, List.map_nil]; try rfl) ?_
  with_reducible refine (MulQ (H.row _ m1) (H.row _ m0) (lim be1.out (by decide)) (lim be2.out (by decide)) t ht.out).mono ?_
  rintro e w29 ⟨A30, c31, rfl, hr, hb⟩
  replace H := H.got hr hb
  clear hr hb
  refine ⟨_, rfl, ?_⟩
  refine hK.out _ _ ⟨H.cell m2 0, H.cell m2 1, H.cell m2 2, H.cell m2 3, H.cell m1 0, H.cell m1 1, H.cell m1 2, H.cell m1 3⟩ (fun hQ => ?_)
  clear hK K
  refine norm_ (a' := ?_) ?_ ?_
  rotate_left
  · show Act.put _ (some 20) _ = _
    simp only [Act.put, List.setIfInBounds_toArray, List.set_cons_zero, List.set_cons_succ, i64_w, i32_w]
    rfl
  refine one_ (i := 16) (N := some 21) (bm 18 131071) rfl rfl (one_of HT_.out (by kernel_rfl)) (by decide) (fun K hK => ?_)
  refine goes_ Try.func86 (by kernel_rfl) rfl #[.agg #[.bool (ng s), .slice A21 (ln s) c22], .agg #[.bool (ng t), .slice A30 (ln t) c31]] (by rfl) rfl rfl (by simp only [List.map_toArray, List.map_cons, List.map_nil]; try rfl) ?_
  with_reducible refine (MustQ (H.row _ m3) (H.row _ m0) (lim bs.out (by decide)) (lim bt.out (by decide)) rn rd hm.out).mono ?_
  rintro e w32 ⟨A33, c34, A35, c36, rfl, hr, hr2, hb⟩
  replace H := (H.got hr hb).more ((H.got hr2 hb).row _ m0)
  clear hr hr2 hb
  refine ⟨_, rfl, ?_⟩
  refine hK.out _ _ ⟨H.cell m2 0, H.cell m2 1, H.cell m2 2, H.cell m2 3, H.cell m1 0, H.cell m1 1, H.cell m1 2, H.cell m1 3⟩ (fun hQ => ?_)
  clear hK K
  refine norm_ (a' := ?_) ?_ ?_
  rotate_left
  · show Act.put _ (some 21) _ = _
    simp only [Act.put, List.setIfInBounds_toArray, List.set_cons_zero, List.set_cons_succ, i64_w, i32_w]
    rfl
  refine last_ (i := 17) (N := none) (bm 18 262143) rfl rfl (one_of HT_.out (by kernel_rfl)) (by decide) (fun K hK => ?_)
  obtain ⟨k4_0, z4_0, k4_1, z4_1, k4_2, z4_2, k4_3, z4_3⟩ := H.b4 (g := g4) m0
  obtain ⟨k3_0, z3_0, k3_1, z3_1, k3_2, z3_2, k3_3, z3_3⟩ := H.b4 (g := g3) m1
  obtain ⟨k2_0, z2_0, k2_1, z2_1, k2_2, z2_2, k2_3, z2_3⟩ := H.b4 (g := g2) m2
  refine skip_ (w1 := ?_) (by rfl) rfl ?_ ?_
  rotate_left
  · go_simp
    rfl
  refine hK.out _ _ ?_
  clear hK K
  refine done_ (done_of HT_.out (by kernel_rfl)) ?_
  try clear hQ
  replace H := ((((H.setn [] 0 (.bool (ng rn)) rfl).setn [] 1 (.slice A33 (ln rn) c34) rfl).setn [] 2 (.bool (ng rd)) rfl).setn [] 3 (.slice A35 (ln rd) c36) rfl)
  go_wp2
  refine bodyPost_ret (results_cell_row rfl _ _ g4 51 #[.bool (ng rn), .slice A33 (ln rn) c34, .bool (ng rd), .slice A35 (ln rd) c36] (0, 0) _ rfl (H.blk m0) Try.underlying51 rfl (by kernel_rfl)) rfl ?_
  exact ⟨A33, c34, A35, c36, rfl, H.ret m1, H.ret m0, H.below⟩

def tb42.T1 : Bool × List (List Nat × List Nat) := (true, [([], []), ([0], [0]), ([], []), ([2], [2]), ([1, 3], [1, 3]), ([], []), ([5, 4], [5]), ([], []), ([7, 6], [7]), ([6, 8, 8], [6, 8]), ([4, 9, 9], [4, 9]), ([10, 10, 0, 1, 2, 3, 4, 5, 6, 7, 8, 9, 10], [10])])
def tb42.B1 : List Nat := [0, 1, 0, 4, 15, 0, 63, 0, 255, 511, 1023, 2047]
theorem tb42.tab1 : rtab .any (opsOf Try.f42 1) = tb42.T1 := by kernel_rfl
theorem tb42.bits1 : waitsOk tb42.T1.2 tb42.B1 = true := by kernel_rfl

theorem MulR {A B A' B' : Option Addr} {c k c' k' : Nat} {n d p q : Int} {w : World} {ok : Nat → Prop} (hf : (bw A c n).at w ok) (hg : (bw B k d).at w ok) (hf' : (bw A' c' p).at w ok) (hg' : (bw B' k' q).at w ok) (hn : ln n ≤ 100000) (hd : ln d ≤ 100000) (hp : ln p ≤ 100000) (hq : ln q ≤ 100000) (rn rd : Int) (h : qn (n * p) (dd d * dd q) = rn ∧ qd (n * p) (dd d * dd q) = rd) : Calls Try.prog 42 #[.agg #[.bool (ng n), .slice A (ln n) c, .bool (ng d), .slice B (ln d) k], .agg #[.bool (ng p), .slice A' (ln p) c', .bool (ng q), .slice B' (ln q) k']] w (RetQ w ok rn rd) := by
  have hu25 := Try.underlying25
  have hu51 := Try.underlying51
  have H := ((((Sit.start w ok).arg hf).arg hg).arg hf').arg hg'
  have bn := Aside0.mk hn
  have bd := Aside0.mk hd
  have bp := Aside0.mk hp
  have bq := Aside0.mk hq
  clear hf hg hf' hg' hn hd hp hq
  obtain ⟨e1, he1⟩ : ∃ v : Int, dd d = v := ⟨_, rfl⟩
  obtain ⟨e2, he2⟩ : ∃ v : Int, dd q = v := ⟨_, rfl⟩
  have be1 := Aside0.mk (bDd bd.out (by decide) he1)
  have be2 := Aside0.mk (bDd bq.out (by decide) he2)
  obtain ⟨s, hs⟩ : ∃ v : Int, n * p = v := ⟨_, rfl⟩
  have bs := Aside0.mk (bMul bn.out bp.out hs)
  obtain ⟨t, ht⟩ : ∃ v : Int, e1 * e2 = v := ⟨_, rfl⟩
  have bt := Aside0.mk (bMul be1.out be2.out ht)
  have hm : qn s t = rn ∧ qd s t = rd := by rw [← hs, ← ht, ← he1, ← he2]; exact h
  replace hm := Aside0.mk hm
  clear h
  replace he1 := Aside0.mk he1
  replace he2 := Aside0.mk he2
  replace hs := Aside0.mk hs
  replace ht := Aside0.mk ht
  go_enter Try.func42, Try.ntmps42
  have st2 := trivial
  have st4 := trivial
  have st6 := trivial
  go_upto_region 1 with (first
    | (clear st2; (with_reducible refine gate_dst (N := 2) rfl ?_); refine box_event ?hg (N := 2) ?hd (cs := #[.bool (ng n), .slice A (ln n) c, .bool (ng d), .slice B (ln d) k]) (t := 51) ?hr ?_; (case hd => rfl); (case hg => rfl); (case hr => go_simp; try rfl); intro g2 hg w1 hbox hb; replace H := H.newbox hg hbox hb; clear hg hbox hb; obtain ⟨k2_0, z2_0, k2_1, z2_1, k2_2, z2_2, k2_3, z2_3⟩ := H.b4 (g := g2) m0)
    | (clear st4; (with_reducible refine gate_dst (N := 3) rfl ?_); refine box_event ?hg (N := 3) ?hd (cs := #[.bool (ng p), .slice A' (ln p) c', .bool (ng q), .slice B' (ln q) k']) (t := 51) ?hr ?_; (case hd => rfl); (case hg => rfl); (case hr => go_simp; try rfl); intro g3 hg w3 hbox hb; replace H := H.newbox hg hbox hb; clear hg hbox hb; clear k2_0 z2_0 k2_1 z2_1 k2_2 z2_2 k2_3 z2_3; obtain ⟨k3_0, z3_0, k3_1, z3_1, k3_2, z3_2, k3_3, z3_3⟩ := H.b4 (g := g3) m0; obtain ⟨k2_0, z2_0, k2_1, z2_1, k2_2, z2_2, k2_3, z2_3⟩ := H.b4 (g := g2) m1; have ne_g3_g2 := H.ne (g := g3) (g' := g2) 0 1 rfl rfl (by decide); have ne_g2_g3 := ne_g3_g2.symm)
    | (clear st6; (with_reducible refine gate_dst (N := 4) rfl ?_); refine box_event ?hg (N := 4) ?hd (cs := #[.bool false, .slice none 0 0, .bool false, .slice none 0 0]) (t := 51) ?hr ?_; (case hd => rfl); (case hg => rfl); (case hr => go_simp; try rfl); intro g4 hg w5 hbox hb; replace H := H.newbox hg hbox hb; clear hg hbox hb; clear k3_0 z3_0 k3_1 z3_1 k3_2 z3_2 k3_3 z3_3 k2_0 z2_0 k2_1 z2_1 k2_2 z2_2 k2_3 z2_3; obtain ⟨k4_0, z4_0, k4_1, z4_1, k4_2, z4_2, k4_3, z4_3⟩ := H.b4 (g := g4) m0; obtain ⟨k3_0, z3_0, k3_1, z3_1, k3_2, z3_2, k3_3, z3_3⟩ := H.b4 (g := g3) m1; obtain ⟨k2_0, z2_0, k2_1, z2_1, k2_2, z2_2, k2_3, z2_3⟩ := H.b4 (g := g2) m2; have ne_g4_g3 := H.ne (g := g4) (g' := g3) 0 1 rfl rfl (by decide); have ne_g3_g4 := ne_g4_g3.symm; have ne_g4_g2 := H.ne (g := g4) (g' := g2) 0 2 rfl rfl (by decide); have ne_g2_g4 := ne_g4_g2.symm))
  (try simp only [Act.put, List.setIfInBounds_toArray, List.set_cons_zero, List.set_cons_succ])
  clear k4_0 z4_0 k4_1 z4_1 k4_2 z4_2 k4_3 z4_3 k3_0 z3_0 k3_1 z3_1 k3_2 z3_2 k3_3 z3_3 k2_0 z2_0 k2_1 z2_1 k2_2 z2_2 k2_3 z2_3
  replace H := H.drew
  refine start_ (n := 12) (S := fun w' => w'.cell? ⟨g2, 0, none⟩ = some (.bool (ng n)) ∧ w'.cell? ⟨g2, 1, none⟩ = some (.slice A (ln n) c) ∧ w'.cell? ⟨g2, 2, none⟩ = some (.bool (ng d)) ∧ w'.cell? ⟨g2, 3, none⟩ = some (.slice B (ln d) k) ∧ w'.cell? ⟨g3, 0, none⟩ = some (.bool (ng p)) ∧ w'.cell? ⟨g3, 1, none⟩ = some (.slice A' (ln p) c') ∧ w'.cell? ⟨g3, 2, none⟩ = some (.bool (ng q)) ∧ w'.cell? ⟨g3, 3, none⟩ = some (.slice B' (ln q) k')) (ds := [11]) #[false, false, false, false, false, false, false, false, false, false, false, false] (by kernel_rfl) rfl rfl ⟨H.cell m2 0, H.cell m2 1, H.cell m2 2, H.cell m2 3, H.cell m1 0, H.cell m1 1, H.cell m1 2, H.cell m1 3⟩ (fun hQ => ?_)
  generalize w5.drew = w7 at H hQ ⊢
  refine with_tabW tb42.tab1 tb42.bits1 (fun HT_ HW_ => ?_)
  refine pure_ (i := 0) (N := some 5) (v := ?_) (a' := ?_) (bm 12 1) rfl rfl (any_of HT_.out (by kernel_rfl)) (fun _ _ _ h => h) (Or.inl ⟨by rfl, ?_⟩) ?_ ?_
  rotate_left
  · intro w'
    go_simp
    with_reducible rfl
  rotate_left
  · simp only [Act.put, List.setIfInBounds_toArray, List.set_cons_zero, List.set_cons_succ, i64_w, i32_w]
    rfl
  refine pure_ (i := 2) (N := some 7) (v := ?_) (a' := ?_) (bm 12 5) rfl rfl (any_of HT_.out (by kernel_rfl)) (fun _ _ _ h => h) (Or.inl ⟨by rfl, ?_⟩) ?_ ?_
  rotate_left
  · intro w'
    go_simp
    with_reducible rfl
  rotate_left
  · simp only [Act.put, List.setIfInBounds_toArray, List.set_cons_zero, List.set_cons_succ, i64_w, i32_w]
    rfl
  refine take_ (i := 1) (N := some 6) (v := ?_) (a' := ?_) (bm 12 7) rfl rfl (take_ofW HT_.out HW_.out (by kernel_rfl)) (fun _ _ _ h => h) (Or.inl ⟨by rfl, ?_⟩) hQ ?_ ?_
  rotate_left
  · rintro w' ⟨s0, s1, s2, s3, s4, s5, s6, s7⟩
    go_simp
    with_reducible rfl
  rotate_left
  · simp only [Act.put, List.setIfInBounds_toArray, List.set_cons_zero, List.set_cons_succ, i64_w, i32_w]
    rfl
  refine take_ (i := 3) (N := some 8) (v := ?_) (a' := ?_) (bm 12 15) rfl rfl (take_ofW HT_.out HW_.out (by kernel_rfl)) (fun _ _ _ h => h) (Or.inl ⟨by rfl, ?_⟩) hQ ?_ ?_
  rotate_left
  · rintro w' ⟨s0, s1, s2, s3, s4, s5, s6, s7⟩
    go_simp
    with_reducible rfl
  rotate_left
  · simp only [Act.put, List.setIfInBounds_toArray, List.set_cons_zero, List.set_cons_succ, i64_w, i32_w]
    rfl
  refine take_ (i := 5) (N := some 10) (v := ?_) (a' := ?_) (bm 12 47) rfl rfl (take_ofW HT_.out HW_.out (by kernel_rfl)) (fun _ _ _ h => h) (Or.inl ⟨by rfl, ?_⟩) hQ ?_ ?_
  rotate_left
  · rintro w' ⟨s0, s1, s2, s3, s4, s5, s6, s7⟩
    go_simp
    with_reducible rfl
  rotate_left
  · simp only [Act.put, List.setIfInBounds_toArray, List.set_cons_zero, List.set_cons_succ, i64_w, i32_w]
    rfl
  refine take_ (i := 7) (N := some 12) (v := ?_) (a' := ?_) (bm 12 175) rfl rfl (take_ofW HT_.out HW_.out (by kernel_rfl)) (fun _ _ _ h => h) (Or.inl ⟨by rfl, ?_⟩) hQ ?_ ?_
  rotate_left
  · rintro w' ⟨s0, s1, s2, s3, s4, s5, s6, s7⟩
    go_simp
    with_reducible rfl
  rotate_left
  · simp only [Act.put, List.setIfInBounds_toArray, List.set_cons_zero, List.set_cons_succ, i64_w, i32_w]
    rfl
  refine one_ (i := 4) (N := some 9) (bm 12 191) rfl rfl (one_of HT_.out (by kernel_rfl)) (by decide) (fun K hK => ?_)
  refine goes_ Try.func31 (by kernel_rfl) rfl #[.agg #[.bool (ng n), .slice A (ln n) c], .agg #[.bool (ng p), .slice A' (ln p) c']] (by rfl) rfl rfl (by simp only [List.map_toArray, List.map_cons, List.map_nil]; try rfl) ?_
  with_reducible refine (MulQ (H.row _ m3) (H.row _ m1) (lim bn.out (by decide)) (lim bp.out (by decide)) s hs.out).mono ?_
  rintro e w8 ⟨A9, c10, rfl, hr, hb⟩
  replace H := H.got hr hb
  clear hr hb
  refine ⟨_, rfl, ?_⟩
  refine hK.out _ _ ⟨H.cell m2 0, H.cell m2 1, H.cell m2 2, H.cell m2 3, H.cell m1 0, H.cell m1 1, H.cell m1 2, H.cell m1 3⟩ (fun hQ => ?_)
  clear hK K
  refine norm_ (a' := ?_) ?_ ?_
  rotate_left
  · show Act.put _ (some 9) _ = _
    simp only [Act.put, List.setIfInBounds_toArray, List.set_cons_zero, List.set_cons_succ, i64_w, i32_w]
    rfl
  refine one_ (i := 6) (N := some 11) (bm 12 255) rfl rfl (one_of HT_.out (by kernel_rfl)) (by decide) (fun K hK => ?_)
  refine goes_ Try.func47 (by kernel_rfl) rfl #[.agg #[.bool (ng n), .slice A (ln n) c, .bool (ng d), .slice B (ln d) k]] (by rfl) rfl rfl (by simp only [List.map_toArray, List.map_cons, List.map_nil]; try rfl) ?_
  with_reducible refine (DenQ (H.row _ m4) (H.row _ m3) (limR bn.out (by decide)) (limR bd.out (by decide)) e1 he1.out).mono ?_
  rintro e w11 ⟨A12, c13, rfl, hr, hb⟩
  replace H := H.got hr hb
  clear hr hb
  refine ⟨_, rfl, ?_⟩
  refine hK.out _ _ ⟨H.cell m2 0, H.cell m2 1, H.cell m2 2, H.cell m2 3, H.cell m1 0, H.cell m1 1, H.cell m1 2, H.cell m1 3⟩ (fun hQ => ?_)
  clear hK K
  refine norm_ (a' := ?_) ?_ ?_
  rotate_left
  · show Act.put _ (some 11) _ = _
    simp only [Act.put, List.setIfInBounds_toArray, List.set_cons_zero, List.set_cons_succ, i64_w, i32_w]
    rfl
  refine one_ (i := 8) (N := some 13) (bm 12 511) rfl rfl (one_of HT_.out (by kernel_rfl)) (by decide) (fun K hK => ?_)
  refine goes_ Try.func47 (by kernel_rfl) rfl #[.agg #[.bool (ng p), .slice A' (ln p) c', .bool (ng q), .slice B' (ln q) k']] (by rfl) rfl rfl (by simp only [List.map_toArray, List.map_cons, List.map_nil]; try rfl) ?_
  with_reducible refine (DenQ (H.row _ m3) (H.row _ m2) (limR bp.out (by decide)) (limR bq.out (by decide)) e2 he2.out).mono ?_
  rintro e w14 ⟨A15, c16, rfl, hr, hb⟩
  replace H := H.got hr hb
  clear hr hb
  refine ⟨_, rfl, ?_⟩
  refine hK.out _ _ ⟨H.cell m2 0, H.cell m2 1, H.cell m2 2, H.cell m2 3, H.cell m1 0, H.cell m1 1, H.cell m1 2, H.cell m1 3⟩ (fun hQ => ?_)
  clear hK K
  refine norm_ (a' := ?_) ?_ ?_
  rotate_left
  · show Act.put _ (some 13) _ = _
    simp only [Act.put, List.setIfInBounds_toArray, List.set_cons_zero, List.set_cons_succ, i64_w, i32_w]
    rfl
  refine one_ (i := 9) (N := some 14) (bm 12 1023) rfl rfl (one_of HT_.out (by kernel_rfl)) (by decide) (fun K hK => ?_)
  refine goes_ Try.func31 (by kernel_rfl) rfl #[.agg #[.bool (ng e1), .slice A12 (ln e1) c13], .agg #[.bool (ng e2), .slice A15 (ln e2) c16]] (by rfl) rfl rfl (by simp only [List.map_toArray, List.map_cons, List.map_nil]; try rfl) ?_
  with_reducible refine (MulQ (H.row _ m1) (H.row _ m0) (lim be1.out (by decide)) (lim be2.out (by decide)) t ht.out).mono ?_
  rintro e w17 ⟨A18, c19, rfl, hr, hb⟩
  replace H := H.got hr hb
  clear hr hb
  refine ⟨_, rfl, ?_⟩
  refine hK.out _ _ ⟨H.cell m2 0, H.cell m2 1, H.cell m2 2, H.cell m2 3, H.cell m1 0, H.cell m1 1, H.cell m1 2, H.cell m1 3⟩ (fun hQ => ?_)
  clear hK K
  refine norm_ (a' := ?_) ?_ ?_
  rotate_left
  · show Act.put _ (some 14) _ = _
    simp only [Act.put, List.setIfInBounds_toArray, List.set_cons_zero, List.set_cons_succ, i64_w, i32_w]
    rfl
  refine one_ (i := 10) (N := some 15) (bm 12 2047) rfl rfl (one_of HT_.out (by kernel_rfl)) (by decide) (fun K hK => ?_)
  refine goes_ Try.func86 (by kernel_rfl) rfl #[.agg #[.bool (ng s), .slice A9 (ln s) c10], .agg #[.bool (ng t), .slice A18 (ln t) c19]] (by rfl) rfl rfl (by simp only [List.map_toArray, List.map_cons, List.map_nil]; try rfl) ?_
  with_reducible refine (MustQ (H.row _ m3) (H.row _ m0) (lim bs.out (by decide)) (lim bt.out (by decide)) rn rd hm.out).mono ?_
  rintro e w20 ⟨A21, c22, A23, c24, rfl, hr, hr2, hb⟩
  replace H := (H.got hr hb).more ((H.got hr2 hb).row _ m0)
  clear hr hr2 hb
  refine ⟨_, rfl, ?_⟩
  refine hK.out _ _ ⟨H.cell m2 0, H.cell m2 1, H.cell m2 2, H.cell m2 3, H.cell m1 0, H.cell m1 1, H.cell m1 2, H.cell m1 3⟩ (fun hQ => ?_)
  clear hK K
  refine norm_ (a' := ?_) ?_ ?_
  rotate_left
  · show Act.put _ (some 15) _ = _
    simp only [Act.put, List.setIfInBounds_toArray, List.set_cons_zero, List.set_cons_succ, i64_w, i32_w]
    rfl
  refine last_ (i := 11) (N := none) (bm 12 4095) rfl rfl (one_of HT_.out (by kernel_rfl)) (by decide) (fun K hK => ?_)
  obtain ⟨k4_0, z4_0, k4_1, z4_1, k4_2, z4_2, k4_3, z4_3⟩ := H.b4 (g := g4) m0
  obtain ⟨k3_0, z3_0, k3_1, z3_1, k3_2, z3_2, k3_3, z3_3⟩ := H.b4 (g := g3) m1
  obtain ⟨k2_0, z2_0, k2_1, z2_1, k2_2, z2_2, k2_3, z2_3⟩ := H.b4 (g := g2) m2
  refine skip_ (w1 := ?_) (by rfl) rfl ?_ ?_
  rotate_left
  · go_simp
    rfl
  refine hK.out _ _ ?_
  clear hK K
  refine done_ (done_of HT_.out (by kernel_rfl)) ?_
  try clear hQ
  replace H := ((((H.setn [] 0 (.bool (ng rn)) rfl).setn [] 1 (.slice A21 (ln rn) c22) rfl).setn [] 2 (.bool (ng rd)) rfl).setn [] 3 (.slice A23 (ln rd) c24) rfl)
  go_wp2
  refine bodyPost_ret (results_cell_row rfl _ _ g4 51 #[.bool (ng rn), .slice A21 (ln rn) c22, .bool (ng rd), .slice A23 (ln rd) c24] (0, 0) _ rfl (H.blk m0) Try.underlying51 rfl (by kernel_rfl)) rfl ?_
  exact ⟨A21, c22, A23, c24, rfl, H.ret m1, H.ret m0, H.below⟩

def tb52.T1 : Bool × List (List Nat × List Nat) := (true, [([], []), ([0], [0]), ([], []), ([2], [2]), ([1, 3, 3], [1, 3]), ([], []), ([5, 4], [5]), ([], []), ([7], [7]), ([6, 8, 6], [6, 8]), ([4, 9, 9], [4, 9]), ([10], [10]), ([10], [10]), ([11, 10, 0, 1, 2, 3, 4, 5, 6, 7, 8, 9, 10, 11, 12], [11]), ([12, 13, 0, 1, 2, 3, 4, 5, 6, 7, 8, 9, 10, 11, 12, 13], [12])])
def tb52.B1 : List Nat := [0, 1, 0, 4, 15, 0, 63, 0, 128, 511, 1023, 2047, 2047, 8191, 16383]
theorem tb52.tab1 : rtab .any (opsOf Try.f52 1) = tb52.T1 := by kernel_rfl
theorem tb52.bits1 : waitsOk tb52.T1.2 tb52.B1 = true := by kernel_rfl

theorem DivR {A B A' B' : Option Addr} {c k c' k' : Nat} {n d p q : Int} {w : World} {ok : Nat → Prop} (hf : (bw A c n).at w ok) (hg : (bw B k d).at w ok) (hf' : (bw A' c' p).at w ok) (hg' : (bw B' k' q).at w ok) (hn : ln n ≤ 100000) (hd : ln d ≤ 100000) (hp : ln p ≤ 100000) (hq : ln q ≤ 100000) (rn rd er : Int) (h : qn (n * dd q) (dd d * p) = rn ∧ qd (n * dd q) (dd d * p) = rd ∧ qe (dd d * p) = er) : Calls Try.prog 52 #[.agg #[.bool (ng n), .slice A (ln n) c, .bool (ng d), .slice B (ln d) k], .agg #[.bool (ng p), .slice A' (ln p) c', .bool (ng q), .slice B' (ln q) k']] w (RetQE w ok rn rd er) := by
  have hu25 := Try.underlying25
  have hu51 := Try.underlying51
  have H := ((((Sit.start w ok).arg hf).arg hg).arg hf').arg hg'
  have bn := Aside0.mk hn
  have bd := Aside0.mk hd
  have bp := Aside0.mk hp
  have bq := Aside0.mk hq
  clear hf hg hf' hg' hn hd hp hq
  obtain ⟨e1, he1⟩ : ∃ v : Int, dd d = v := ⟨_, rfl⟩
  obtain ⟨e2, he2⟩ : ∃ v : Int, dd q = v := ⟨_, rfl⟩
  have be1 := Aside0.mk (bDd bd.out (by decide) he1)
  have be2 := Aside0.mk (bDd bq.out (by decide) he2)
  obtain ⟨s, hs⟩ : ∃ v : Int, n * e2 = v := ⟨_, rfl⟩
  have bs := Aside0.mk (bMul bn.out be2.out hs)
  obtain ⟨t, ht⟩ : ∃ v : Int, e1 * p = v := ⟨_, rfl⟩
  have bt := Aside0.mk (bMul be1.out bp.out ht)
  have hm : qn s t = rn ∧ qd s t = rd ∧ qe t = er := by rw [← hs, ← ht, ← he1, ← he2]; exact h
  replace hm := Aside0.mk hm
  clear h
  replace he1 := Aside0.mk he1
  replace he2 := Aside0.mk he2
  replace hs := Aside0.mk hs
  replace ht := Aside0.mk ht
  go_enter Try.func52, Try.ntmps52
  have st2 := trivial
  have st4 := trivial
  have st6 := trivial
  go_upto_region 1 with (first
    | (clear st2; (with_reducible refine gate_dst (N := 2) rfl ?_); refine box_event ?hg (N := 2) ?hd (cs := #[.bool (ng n), .slice A (ln n) c, .bool (ng d), .slice B (ln d) k]) (t := 51) ?hr ?_; (case hd => rfl); (case hg => rfl); (case hr => go_simp; try rfl); intro g2 hg w1 hbox hb; replace H := H.newbox hg hbox hb; clear hg hbox hb; obtain ⟨k2_0, z2_0, k2_1, z2_1, k2_2, z2_2, k2_3, z2_3⟩ := H.b4 (g := g2) m0)
    | (clear st4; (with_reducible refine gate_dst (N := 3) rfl ?_); refine box_event ?hg (N := 3) ?hd (cs := #[.bool (ng p), .slice A' (ln p) c', .bool (ng q), .slice B' (ln q) k']) (t := 51) ?hr ?_; (case hd => rfl); (case hg => rfl); (case hr => go_simp; try rfl); intro g3 hg w3 hbox hb; replace H := H.newbox hg hbox hb; clear hg hbox hb; clear k2_0 z2_0 k2_1 z2_1 k2_2 z2_2 k2_3 z2_3; obtain ⟨k3_0, z3_0, k3_1, z3_1, k3_2, z3_2, k3_3, z3_3⟩ := H.b4 (g := g3) m0; obtain ⟨k2_0, z2_0, k2_1, z2_1, k2_2, z2_2, k2_3, z2_3⟩ := H.b4 (g := g2) m1; have ne_g3_g2 := H.ne (g := g3) (g' := g2) 0 1 rfl rfl (by decide); have ne_g2_g3 := ne_g3_g2.symm)
    | (clear st6; (with_reducible refine gate_dst (N := 4) rfl ?_); refine box_event ?hg (N := 4) ?hd (cs := #[.bool false, .slice none 0 0, .bool false, .slice none 0 0]) (t := 51) ?hr ?_; (case hd => rfl); (case hg => rfl); (case hr => go_simp; try rfl); intro g4 hg w5 hbox hb; replace H := H.newbox hg hbox hb; clear hg hbox hb; clear k3_0 z3_0 k3_1 z3_1 k3_2 z3_2 k3_3 z3_3 k2_0 z2_0 k2_1 z2_1 k2_2 z2_2 k2_3 z2_3; obtain ⟨k4_0, z4_0, k4_1, z4_1, k4_2, z4_2, k4_3, z4_3⟩ := H.b4 (g := g4) m0; obtain ⟨k3_0, z3_0, k3_1, z3_1, k3_2, z3_2, k3_3, z3_3⟩ := H.b4 (g := g3) m1; obtain ⟨k2_0, z2_0, k2_1, z2_1, k2_2, z2_2, k2_3, z2_3⟩ := H.b4 (g := g2) m2; have ne_g4_g3 := H.ne (g := g4) (g' := g3) 0 1 rfl rfl (by decide); have ne_g3_g4 := ne_g4_g3.symm; have ne_g4_g2 := H.ne (g := g4) (g' := g2) 0 2 rfl rfl (by decide); have ne_g2_g4 := ne_g4_g2.symm))
  (try simp only [Act.put, List.setIfInBounds_toArray, List.set_cons_zero, List.set_cons_succ])
  clear k4_0 z4_0 k4_1 z4_1 k4_2 z4_2 k4_3 z4_3 k3_0 z3_0 k3_1 z3_1 k3_2 z3_2 k3_3 z3_3 k2_0 z2_0 k2_1 z2_1 k2_2 z2_2 k2_3 z2_3
  replace H := H.drew
  refine start_ (n := 15) (S := fun w' => w'.cell? ⟨g2, 0, none⟩ = some (.bool (ng n)) ∧ w'.cell? ⟨g2, 1, none⟩ = some (.slice A (ln n) c) ∧ w'.cell? ⟨g2, 2, none⟩ = some (.bool (ng d)) ∧ w'.cell? ⟨g2, 3, none⟩ = some (.slice B (ln d) k) ∧ w'.cell? ⟨g3, 0, none⟩ = some (.bool (ng p)) ∧ w'.cell? ⟨g3, 1, none⟩ = some (.slice A' (ln p) c') ∧ w'.cell? ⟨g3, 2, none⟩ = some (.bool (ng q)) ∧ w'.cell? ⟨g3, 3, none⟩ = some (.slice B' (ln q) k')) (ds := [13]) #[false, false, false, false, false, false, false, false, false, false, false, false, false, false, false] (by kernel_rfl) rfl rfl ⟨H.cell m2 0, H.cell m2 1, H.cell m2 2, H.cell m2 3, H.cell m1 0, H.cell m1 1, H.cell m1 2, H.cell m1 3⟩ (fun hQ => ?_)
  generalize w5.drew = w7 at H hQ ⊢
  refine with_tabW tb52.tab1 tb52.bits1 (fun HT_ HW_ => ?_)
  refine pure_ (i := 0) (N := some 6) (v := ?_) (a' := ?_) (bm 15 1) rfl rfl (any_of HT_.out (by kernel_rfl)) (fun _ _ _ h => h) (Or.inl ⟨by rfl, ?_⟩) ?_ ?_
  rotate_left
  · intro w'
    go_simp
    with_reducible rfl
  rotate_left
  · simp only [Act.put, List.setIfInBounds_toArray, List.set_cons_zero, List.set_cons_succ, i64_w, i32_w]
    rfl
  refine pure_ (i := 7) (N := some 13) (v := ?_) (a' := ?_) (bm 15 129) rfl rfl (any_of HT_.out (by kernel_rfl)) (fun _ _ _ h => h) (Or.inl ⟨by rfl, ?_⟩) ?_ ?_
  rotate_left
  · intro w'
    go_simp
    with_reducible rfl
  rotate_left
  · simp only [Act.put, List.setIfInBounds_toArray, List.set_cons_zero, List.set_cons_succ, i64_w, i32_w]
    rfl
  refine take_ (i := 1) (N := some 7) (v := ?_) (a' := ?_) (bm 15 131) rfl rfl (take_ofW HT_.out HW_.out (by kernel_rfl)) (fun _ _ _ h => h) (Or.inl ⟨by rfl, ?_⟩) hQ ?_ ?_
  rotate_left
  · rintro w' ⟨s0, s1, s2, s3, s4, s5, s6, s7⟩
    go_simp
    with_reducible rfl
  rotate_left
  · simp only [Act.put, List.setIfInBounds_toArray, List.set_cons_zero, List.set_cons_succ, i64_w, i32_w]
    rfl
  refine take_ (i := 2) (N := some 8) (v := ?_) (a' := ?_) (bm 15 135) rfl rfl (take_ofW HT_.out HW_.out (by kernel_rfl)) (fun _ _ _ h => h) (Or.inl ⟨by rfl, ?_⟩) hQ ?_ ?_
  rotate_left
  · rintro w' ⟨s0, s1, s2, s3, s4, s5, s6, s7⟩
    go_simp
    with_reducible rfl
  rotate_left
  · simp only [Act.put, List.setIfInBounds_toArray, List.set_cons_zero, List.set_cons_succ, i64_w, i32_w]
    rfl
  refine take_ (i := 5) (N := some 11) (v := ?_) (a' := ?_) (bm 15 167) rfl rfl (take_ofW HT_.out HW_.out (by kernel_rfl)) (fun _ _ _ h => h) (Or.inl ⟨by rfl, ?_⟩) hQ ?_ ?_
  rotate_left
  · rintro w' ⟨s0, s1, s2, s3, s4, s5, s6, s7⟩
    go_simp
    with_reducible rfl
  rotate_left
  · simp only [Act.put, List.setIfInBounds_toArray, List.set_cons_zero, List.set_cons_succ, i64_w, i32_w]
    rfl
  refine take_ (i := 8) (N := some 14) (v := ?_) (a' := ?_) (bm 15 423) rfl rfl (take_ofW HT_.out HW_.out (by kernel_rfl)) (fun _ _ _ h => h) (Or.inl ⟨by rfl, ?_⟩) hQ ?_ ?_
  rotate_left
  · rintro w' ⟨s0, s1, s2, s3, s4, s5, s6, s7⟩
    go_simp
    with_reducible rfl
  rotate_left
  · simp only [Act.put, List.setIfInBounds_toArray, List.set_cons_zero, List.set_cons_succ, i64_w, i32_w]
    rfl
  refine one_ (i := 3) (N := some 9) (bm 15 431) rfl rfl (one_of HT_.out (by kernel_rfl)) (by decide) (fun K hK => ?_)
  refine goes_ Try.func47 (by kernel_rfl) rfl #[.agg #[.bool (ng p), .slice A' (ln p) c', .bool (ng q), .slice B' (ln q) k']] (by rfl) rfl rfl (by simp only [List.map_toArray, List.map_cons, List.map_nil]; try rfl) ?_
  with_reducible refine (DenQ (H.row _ m1) (H.row _ m0) (limR bp.out (by decide)) (limR bq.out (by decide)) e2 he2.out).mono ?_
  rintro e w8 ⟨A9, c10, rfl, hr, hb⟩
  replace H := H.got hr hb
  clear hr hb
  refine ⟨_, rfl, ?_⟩
  refine hK.out _ _ ⟨H.cell m2 0, H.cell m2 1, H.cell m2 2, H.cell m2 3, H.cell m1 0, H.cell m1 1, H.cell m1 2, H.cell m1 3⟩ (fun hQ => ?_)
  clear hK K
  refine norm_ (a' := ?_) ?_ ?_
  rotate_left
  · show Act.put _ (some 9) _ = _
    simp only [Act.put, List.setIfInBounds_toArray, List.set_cons_zero, List.set_cons_succ, i64_w, i32_w]
    rfl
  refine one_ (i := 4) (N := some 10) (bm 15 447) rfl rfl (one_of HT_.out (by kernel_rfl)) (by decide) (fun K hK => ?_)
  refine goes_ Try.func31 (by kernel_rfl) rfl #[.agg #[.bool (ng n), .slice A (ln n) c], .agg #[.bool (ng e2), .slice A9 (ln e2) c10]] (by rfl) rfl rfl (by simp only [List.map_toArray, List.map_cons, List.map_nil]; try rfl) ?_
  with_reducible refine (MulQ (H.row _ m4) (H.row _ m0) (lim bn.out (by decide)) (lim be2.out (by decide)) s hs.out).mono ?_
  rintro e w11 ⟨A12, c13, rfl, hr, hb⟩
  replace H := H.got hr hb
  clear hr hb
  refine ⟨_, rfl, ?_⟩
  refine hK.out _ _ ⟨H.cell m2 0, H.cell m2 1, H.cell m2 2, H.cell m2 3, H.cell m1 0, H.cell m1 1, H.cell m1 2, H.cell m1 3⟩ (fun hQ => ?_)
  clear hK K
  refine norm_ (a' := ?_) ?_ ?_
  rotate_left
  · show Act.put _ (some 10) _ = _
    simp only [Act.put, List.setIfInBounds_toArray, List.set_cons_zero, List.set_cons_succ, i64_w, i32_w]
    rfl
  refine one_ (i := 6) (N := some 12) (bm 15 511) rfl rfl (one_of HT_.out (by kernel_rfl)) (by decide) (fun K hK => ?_)
  refine goes_ Try.func47 (by kernel_rfl) rfl #[.agg #[.bool (ng n), .slice A (ln n) c, .bool (ng d), .slice B (ln d) k]] (by rfl) rfl rfl (by simp only [List.map_toArray, List.map_cons, List.map_nil]; try rfl) ?_
  with_reducible refine (DenQ (H.row _ m5) (H.row _ m4) (limR bn.out (by decide)) (limR bd.out (by decide)) e1 he1.out).mono ?_
  rintro e w14 ⟨A15, c16, rfl, hr, hb⟩
  replace H := H.got hr hb
  clear hr hb
  refine ⟨_, rfl, ?_⟩
  refine hK.out _ _ ⟨H.cell m2 0, H.cell m2 1, H.cell m2 2, H.cell m2 3, H.cell m1 0, H.cell m1 1, H.cell m1 2, H.cell m1 3⟩ (fun hQ => ?_)
  clear hK K
  refine norm_ (a' := ?_) ?_ ?_
  rotate_left
  · show Act.put _ (some 12) _ = _
    simp only [Act.put, List.setIfInBounds_toArray, List.set_cons_zero, List.set_cons_succ, i64_w, i32_w]
    rfl
  refine one_ (i := 9) (N := some 15) (bm 15 1023) rfl rfl (one_of HT_.out (by kernel_rfl)) (by decide) (fun K hK => ?_)
  refine goes_ Try.func31 (by kernel_rfl) rfl #[.agg #[.bool (ng e1), .slice A15 (ln e1) c16], .agg #[.bool (ng p), .slice A' (ln p) c']] (by rfl) rfl rfl (by simp only [List.map_toArray, List.map_cons, List.map_nil]; try rfl) ?_
  with_reducible refine (MulQ (H.row _ m0) (H.row _ m4) (lim be1.out (by decide)) (lim bp.out (by decide)) t ht.out).mono ?_
  rintro e w17 ⟨A18, c19, rfl, hr, hb⟩
  replace H := H.got hr hb
  clear hr hb
  refine ⟨_, rfl, ?_⟩
  refine hK.out _ _ ⟨H.cell m2 0, H.cell m2 1, H.cell m2 2, H.cell m2 3, H.cell m1 0, H.cell m1 1, H.cell m1 2, H.cell m1 3⟩ (fun hQ => ?_)
  clear hK K
  refine norm_ (a' := ?_) ?_ ?_
  rotate_left
  · show Act.put _ (some 15) _ = _
    simp only [Act.put, List.setIfInBounds_toArray, List.set_cons_zero, List.set_cons_succ, i64_w, i32_w]
    rfl
  refine one_ (i := 10) (N := some 16) (bm 15 2047) rfl rfl (one_of HT_.out (by kernel_rfl)) (by decide) (fun K hK => ?_)
  refine goes_ Try.func63 (by kernel_rfl) rfl #[.agg #[.bool (ng s), .slice A12 (ln s) c13], .agg #[.bool (ng t), .slice A18 (ln t) c19]] (by rfl) rfl rfl (by simp only [List.map_toArray, List.map_cons, List.map_nil]; try rfl) ?_
  with_reducible refine (MakeQ (H.row _ m2) (H.row _ m0) (lim bs.out (by decide)) (lim bt.out (by decide)) rn rd er hm.out.1 hm.out.2.1 hm.out.2.2).mono ?_
  rintro e w20 ⟨A21, c22, A23, c24, rfl, hr, hr2, hb⟩
  replace H := (H.got hr hb).more ((H.got hr2 hb).row _ m0)
  clear hr hr2 hb
  refine ⟨_, rfl, ?_⟩
  refine hK.out _ _ ⟨H.cell m2 0, H.cell m2 1, H.cell m2 2, H.cell m2 3, H.cell m1 0, H.cell m1 1, H.cell m1 2, H.cell m1 3⟩ (fun hQ => ?_)
  clear hK K
  refine norm_ (a' := ?_) ?_ ?_
  rotate_left
  · show Act.put _ (some 16) _ = _
    simp only [Act.put, List.setIfInBounds_toArray, List.set_cons_zero, List.set_cons_succ, i64_w, i32_w]
    rfl
  refine pure_ (i := 11) (N := some 17) (v := ?_) (a' := ?_) (bm 15 4095) rfl rfl (any_of HT_.out (by kernel_rfl)) (fun _ _ _ h => h) (Or.inl ⟨by rfl, ?_⟩) ?_ ?_
  rotate_left
  · intro w'
    go_simp
    with_reducible rfl
  rotate_left
  · simp only [Act.put, List.setIfInBounds_toArray, List.set_cons_zero, List.set_cons_succ, i64_w, i32_w]
    rfl
  refine pure_ (i := 12) (N := some 18) (v := ?_) (a' := ?_) (bm 15 8191) rfl rfl (any_of HT_.out (by kernel_rfl)) (fun _ _ _ h => h) (Or.inl ⟨by rfl, ?_⟩) ?_ ?_
  rotate_left
  · intro w'
    go_simp
    with_reducible rfl
  rotate_left
  · simp only [Act.put, List.setIfInBounds_toArray, List.set_cons_zero, List.set_cons_succ, i64_w, i32_w]
    rfl
  refine last_ (i := 13) (N := none) (bm 15 16383) rfl rfl (one_of HT_.out (by kernel_rfl)) (by decide) (fun K hK => ?_)
  obtain ⟨k4_0, z4_0, k4_1, z4_1, k4_2, z4_2, k4_3, z4_3⟩ := H.b4 (g := g4) m0
  obtain ⟨k3_0, z3_0, k3_1, z3_1, k3_2, z3_2, k3_3, z3_3⟩ := H.b4 (g := g3) m1
  obtain ⟨k2_0, z2_0, k2_1, z2_1, k2_2, z2_2, k2_3, z2_3⟩ := H.b4 (g := g2) m2
  refine skip_ (w1 := ?_) (by rfl) rfl ?_ ?_
  rotate_left
  · go_simp
    rfl
  refine hK.out _ _ ?_
  clear hK K
  refine pure_ (i := 14) (N := some 5) (v := ?_) (a' := ?_) (bm 15 32767) rfl rfl (any_of HT_.out (by kernel_rfl)) (fun _ _ _ h => h) (Or.inl ⟨by rfl, ?_⟩) ?_ ?_
  rotate_left
  · intro w'
    go_simp
    with_reducible rfl
  rotate_left
  · simp only [Act.put, List.setIfInBounds_toArray, List.set_cons_zero, List.set_cons_succ, i64_w, i32_w]
    rfl
  refine done_ (done_of HT_.out (by kernel_rfl)) ?_
  try clear hQ
  replace H := ((((H.setn [] 0 (.bool (ng rn)) rfl).setn [] 1 (.slice A21 (ln rn) c22) rfl).setn [] 2 (.bool (ng rd)) rfl).setn [] 3 (.slice A23 (ln rd) c24) rfl)
  go_wp2
  refine bodyPost_ret (results_list (rs := [.cell 4 51, .tmp 5]) rfl (by simp) (.cell g4 51 #[.bool (ng rn), .slice A21 (ln rn) c22, .bool (ng rd), .slice A23 (ln rd) c24] (0, 0) _ rfl (H.blk m0) Try.underlying51 rfl (by kernel_rfl) (.tmp .nil))) rfl ?_
  exact ⟨A21, c22, A23, c24, rfl, H.ret m1, H.ret m0, H.below⟩


theorem SubR {A B A' B' : Option Addr} {c k c' k' : Nat} {n d p q : Int} {w : World} {ok : Nat → Prop} (hf : (bw A c n).at w ok) (hg : (bw B k d).at w ok) (hf' : (bw A' c' p).at w ok) (hg' : (bw B' k' q).at w ok) (hn : ln n ≤ 100000) (hd : ln d ≤ 100000) (hp : ln p ≤ 100000) (hq : ln q ≤ 100000) (rn rd : Int) (h : qn (n * dd q + -p * dd d) (dd d * dd q) = rn ∧ qd (n * dd q + -p * dd d) (dd d * dd q) = rd) : Calls Try.prog 53 #[.agg #[.bool (ng n), .slice A (ln n) c, .bool (ng d), .slice B (ln d) k], .agg #[.bool (ng p), .slice A' (ln p) c', .bool (ng q), .slice B' (ln q) k']] w (RetQ w ok rn rd) := by
  have hu25 := Try.underlying25
  have hu51 := Try.underlying51
  have H := ((((Sit.start w ok).arg hf).arg hg).arg hf').arg hg'
  have bn := Aside0.mk hn
  have bd := Aside0.mk hd
  have bp := Aside0.mk hp
  have bq := Aside0.mk hq
  clear hf hg hf' hg' hn hd hp hq
  obtain ⟨np, hnp⟩ : ∃ v : Int, -p = v := ⟨_, rfl⟩
  have bnp := Aside0.mk (bNeg bp.out hnp)
  have hm : qn (n * dd q + np * dd d) (dd d * dd q) = rn ∧ qd (n * dd q + np * dd d) (dd d * dd q) = rd := by rw [← hnp]; exact h
  replace hm := Aside0.mk hm
  clear h
  replace hnp := Aside0.mk hnp
  go_enter Try.func53, Try.ntmps53
  have st2 := trivial
  have st4 := trivial
  have st6 := trivial
  go_upto_region 1 with (first
    | (clear st2; (with_reducible refine gate_dst (N := 2) rfl ?_); refine box_event ?hg (N := 2) ?hd (cs := #[.bool (ng n), .slice A (ln n) c, .bool (ng d), .slice B (ln d) k]) (t := 51) ?hr ?_; (case hd => rfl); (case hg => rfl); (case hr => go_simp; try rfl); intro g2 hg w1 hbox hb; replace H := H.newbox hg hbox hb; clear hg hbox hb; obtain ⟨k2_0, z2_0, k2_1, z2_1, k2_2, z2_2, k2_3, z2_3⟩ := H.b4 (g := g2) m0)
    | (clear st4; (with_reducible refine gate_dst (N := 3) rfl ?_); refine box_event ?hg (N := 3) ?hd (cs := #[.bool (ng p), .slice A' (ln p) c', .bool (ng q), .slice B' (ln q) k']) (t := 51) ?hr ?_; (case hd => rfl); (case hg => rfl); (case hr => go_simp; try rfl); intro g3 hg w3 hbox hb; replace H := H.newbox hg hbox hb; clear hg hbox hb; clear k2_0 z2_0 k2_1 z2_1 k2_2 z2_2 k2_3 z2_3; obtain ⟨k3_0, z3_0, k3_1, z3_1, k3_2, z3_2, k3_3, z3_3⟩ := H.b4 (g := g3) m0; obtain ⟨k2_0, z2_0, k2_1, z2_1, k2_2, z2_2, k2_3, z2_3⟩ := H.b4 (g := g2) m1; have ne_g3_g2 := H.ne (g := g3) (g' := g2) 0 1 rfl rfl (by decide); have ne_g2_g3 := ne_g3_g2.symm)
    | (clear st6; (with_reducible refine gate_dst (N := 4) rfl ?_); refine box_event ?hg (N := 4) ?hd (cs := #[.bool false, .slice none 0 0, .bool false, .slice none 0 0]) (t := 51) ?hr ?_; (case hd => rfl); (case hg => rfl); (case hr => go_simp; try rfl); intro g4 hg w5 hbox hb; replace H := H.newbox hg hbox hb; clear hg hbox hb; clear k3_0 z3_0 k3_1 z3_1 k3_2 z3_2 k3_3 z3_3 k2_0 z2_0 k2_1 z2_1 k2_2 z2_2 k2_3 z2_3; obtain ⟨k4_0, z4_0, k4_1, z4_1, k4_2, z4_2, k4_3, z4_3⟩ := H.b4 (g := g4) m0; obtain ⟨k3_0, z3_0, k3_1, z3_1, k3_2, z3_2, k3_3, z3_3⟩ := H.b4 (g := g3) m1; obtain ⟨k2_0, z2_0, k2_1, z2_1, k2_2, z2_2, k2_3, z2_3⟩ := H.b4 (g := g2) m2; have ne_g4_g3 := H.ne (g := g4) (g' := g3) 0 1 rfl rfl (by decide); have ne_g3_g4 := ne_g4_g3.symm; have ne_g4_g2 := H.ne (g := g4) (g' := g2) 0 2 rfl rfl (by decide); have ne_g2_g4 := ne_g4_g2.symm))
  (try simp only [Act.put, List.setIfInBounds_toArray, List.set_cons_zero, List.set_cons_succ])
  clear k4_0 z4_0 k4_1 z4_1 k4_2 z4_2 k4_3 z4_3 k3_0 z3_0 k3_1 z3_1 k3_2 z3_2 k3_3 z3_3 k2_0 z2_0 k2_1 z2_1 k2_2 z2_2 k2_3 z2_3
  replace H := H.drew
  refine start_ (n := 5) (S := fun w' => w'.cell? ⟨g2, 0, none⟩ = some (.bool (ng n)) ∧ w'.cell? ⟨g2, 1, none⟩ = some (.slice A (ln n) c) ∧ w'.cell? ⟨g2, 2, none⟩ = some (.bool (ng d)) ∧ w'.cell? ⟨g2, 3, none⟩ = some (.slice B (ln d) k) ∧ w'.cell? ⟨g3, 0, none⟩ = some (.bool (ng p)) ∧ w'.cell? ⟨g3, 1, none⟩ = some (.slice A' (ln p) c') ∧ w'.cell? ⟨g3, 2, none⟩ = some (.bool (ng q)) ∧ w'.cell? ⟨g3, 3, none⟩ = some (.slice B' (ln q) k')) (ds := [4]) #[false, false, false, false, false] (by kernel_rfl) rfl rfl ⟨H.cell m2 0, H.cell m2 1, H.cell m2 2, H.cell m2 3, H.cell m1 0, H.cell m1 1, H.cell m1 2, H.cell m1 3⟩ (fun hQ => ?_)
  generalize w5.drew = w7 at H hQ ⊢
  refine take_ (i := 0) (N := some 5) (v := ?_) (a' := ?_) #[true, false, false, false, false] rfl rfl (by kernel_rfl) (fun _ _ _ h => h) (Or.inl ⟨by rfl, ?_⟩) hQ ?_ ?_
  rotate_left
  · rintro w' ⟨s0, s1, s2, s3, s4, s5, s6, s7⟩
    go_simp
    with_reducible rfl
  rotate_left
  · simp only [Act.put, List.setIfInBounds_toArray, List.set_cons_zero, List.set_cons_succ, i64_w, i32_w]
    rfl
  refine take_ (i := 1) (N := some 6) (v := ?_) (a' := ?_) #[true, true, false, false, false] rfl rfl (by kernel_rfl) (fun _ _ _ h => h) (Or.inl ⟨by rfl, ?_⟩) hQ ?_ ?_
  rotate_left
  · rintro w' ⟨s0, s1, s2, s3, s4, s5, s6, s7⟩
    go_simp
    with_reducible rfl
  rotate_left
  · simp only [Act.put, List.setIfInBounds_toArray, List.set_cons_zero, List.set_cons_succ, i64_w, i32_w]
    rfl
  refine one_ (i := 2) (N := some 7) #[true, true, true, false, false] rfl rfl (by kernel_rfl) (by decide) (fun K hK => ?_)
  refine goes_ Try.func51 (by kernel_rfl) rfl #[.agg #[.bool (ng p), .slice A' (ln p) c', .bool (ng q), .slice B' (ln q) k']] (by rfl) rfl rfl (by simp only [List.map_toArray, List.map_cons, List.map_nil]; try rfl) ?_
  with_reducible refine (NegR (H.row _ m1) (H.row _ m0) (limR bp.out (by decide)) (limR bq.out (by decide)) np q ⟨hnp.out, rfl⟩).mono ?_
  rintro e w8 ⟨A9, c10, A11, c12, rfl, hr, hr2, hb⟩
  replace H := (H.got hr hb).more ((H.got hr2 hb).row _ m0)
  clear hr hr2 hb
  refine ⟨_, rfl, ?_⟩
  refine hK.out _ _ ⟨H.cell m2 0, H.cell m2 1, H.cell m2 2, H.cell m2 3, H.cell m1 0, H.cell m1 1, H.cell m1 2, H.cell m1 3⟩ (fun hQ => ?_)
  clear hK K
  refine norm_ (a' := ?_) ?_ ?_
  rotate_left
  · show Act.put _ (some 7) _ = _
    simp only [Act.put, List.setIfInBounds_toArray, List.set_cons_zero, List.set_cons_succ, i64_w, i32_w]
    rfl
  refine one_ (i := 3) (N := some 8) #[true, true, true, true, false] rfl rfl (by kernel_rfl) (by decide) (fun K hK => ?_)
  refine goes_ Try.func41 (by kernel_rfl) rfl #[.agg #[.bool (ng n), .slice A (ln n) c, .bool (ng d), .slice B (ln d) k], .agg #[.bool (ng np), .slice A9 (ln np) c10, .bool (ng q), .slice A11 (ln q) c12]] (by rfl) rfl rfl (by simp only [List.map_toArray, List.map_cons, List.map_nil]; try rfl) ?_
  with_reducible refine (AddR (H.row _ m5) (H.row _ m4) (H.row _ m1) (H.row _ m0) (limR bn.out (by decide)) (limR bd.out (by decide)) (limR bnp.out (by decide)) (limR bq.out (by decide)) rn rd hm.out).mono ?_
  rintro e w13 ⟨A14, c15, A16, c17, rfl, hr, hr2, hb⟩
  replace H := (H.got hr hb).more ((H.got hr2 hb).row _ m0)
  clear hr hr2 hb
  refine ⟨_, rfl, ?_⟩
  refine hK.out _ _ ⟨H.cell m2 0, H.cell m2 1, H.cell m2 2, H.cell m2 3, H.cell m1 0, H.cell m1 1, H.cell m1 2, H.cell m1 3⟩ (fun hQ => ?_)
  clear hK K
  refine norm_ (a' := ?_) ?_ ?_
  rotate_left
  · show Act.put _ (some 8) _ = _
    simp only [Act.put, List.setIfInBounds_toArray, List.set_cons_zero, List.set_cons_succ, i64_w, i32_w]
    rfl
  refine last_ (i := 4) (N := none) #[true, true, true, true, true] rfl rfl (by kernel_rfl) (by decide) (fun K hK => ?_)
  obtain ⟨k4_0, z4_0, k4_1, z4_1, k4_2, z4_2, k4_3, z4_3⟩ := H.b4 (g := g4) m0
  obtain ⟨k3_0, z3_0, k3_1, z3_1, k3_2, z3_2, k3_3, z3_3⟩ := H.b4 (g := g3) m1
  obtain ⟨k2_0, z2_0, k2_1, z2_1, k2_2, z2_2, k2_3, z2_3⟩ := H.b4 (g := g2) m2
  refine skip_ (w1 := ?_) (by rfl) rfl ?_ ?_
  rotate_left
  · go_simp
    rfl
  refine hK.out _ _ ?_
  clear hK K
  refine done_ (by kernel_rfl) ?_
  try clear hQ
  replace H := ((((H.setn [] 0 (.bool (ng rn)) rfl).setn [] 1 (.slice A14 (ln rn) c15) rfl).setn [] 2 (.bool (ng rd)) rfl).setn [] 3 (.slice A16 (ln rd) c17) rfl)
  go_wp2
  refine bodyPost_ret (results_cell_row rfl _ _ g4 51 #[.bool (ng rn), .slice A14 (ln rn) c15, .bool (ng rd), .slice A16 (ln rd) c17] (0, 0) _ rfl (H.blk m0) Try.underlying51 rfl (by kernel_rfl)) rfl ?_
  exact ⟨A14, c15, A16, c17, rfl, H.ret m1, H.ret m0, H.below⟩


theorem Of_R (n r : Int) (w : World) (h : n = r) (h0 : -9223372036854775808 ≤ n) (h1 : n ≤ 9223372036854775807) : Calls Try.prog 44 #[.int .i64 n] w (RetQN w r 0) := by
  have hu25 := Try.underlying25
  have hu51 := Try.underlying51
  have H := Sit.start w (fun _ => False)
  replace h := Aside0.mk h
  replace h0 := Aside0.mk h0
  replace h1 := Aside0.mk h1
  go_enter Try.func44, Try.ntmps44
  have st2 := trivial
  have st6 := trivial
  go_wp2_with (first
    | (clear st2; (with_reducible refine gate_dst (N := 2) rfl ?_); refine box_event ?hg (N := 2) ?hd (cs := #[.bool false, .slice none 0 0, .bool false, .slice none 0 0]) (t := 51) ?hr ?_; (case hd => rfl); (case hg => rfl); (case hr => go_simp; try rfl); intro g2 hg w1 hbox hb; replace H := H.newbox hg hbox hb; clear hg hbox hb; obtain ⟨k2_0, z2_0, k2_1, z2_1, k2_2, z2_2, k2_3, z2_3⟩ := H.b4 (g := g2) m0)
    | (clear st6; go_at_call 27; (with_reducible refine (OfQ _ n r h.out h0.out h1.out).mono ?_); rintro e w3 ⟨A4, c5, rfl, hr, hb⟩; replace H := H.got (fresh_row hr) hb; clear hr hb; clear k2_0 z2_0 k2_1 z2_1 k2_2 z2_2 k2_3 z2_3; obtain ⟨k2_0, z2_0, k2_1, z2_1, k2_2, z2_2, k2_3, z2_3⟩ := H.b4 (g := g2) m0))
  replace H := ((((H.setn [] 0 (.bool (ng r)) rfl).setn [] 1 (.slice A4 (ln r) c5) rfl).setn [] 2 (.bool false) rfl).setn [] 3 (.slice none 0 0) rfl)
  refine bodyPost_ret (results_cell_row rfl _ _ g2 51 #[.bool (ng r), .slice A4 (ln r) c5, .bool false, .slice none 0 0] (0, 0) _ rfl (H.blk m0) Try.underlying51 rfl (by kernel_rfl)) rfl ?_
  exact ⟨A4, c5, none, 0, rfl, (H.ret m0).mono (fun k hk => hk.elim (fun h => h.elim) id), bw_nil _ _, H.below⟩

theorem OfR (w : World) (n rn rd : Int) (h : n = rn ∧ 0 = rd ∧ -9223372036854775808 ≤ n ∧ n ≤ 9223372036854775807) : Calls Try.prog 44 #[.int .i64 n] w (RetQN w rn rd) := by obtain ⟨h1, rfl, h2, h3⟩ := h; exact Of_R n rn w h1 h2 h3
end Go.Proofs.Ytdkapdgbfejgdaa
