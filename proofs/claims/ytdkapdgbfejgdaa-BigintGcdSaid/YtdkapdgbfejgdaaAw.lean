/- ontimelaw01: the helpers of the laws. -/
import Derived.Test.YtdkapdgbfejgdaaZ
namespace Go.Proofs.Ytdkapdgbfejgdaa
open Go.RowKit Go.Proofs.YtdkapdgbfejgdaaW.PrintWords Go.Proofs.YtdkapdgbfejgdaaW.PrintLast Go.Proofs.YtdkapdgbfejgdaaW.PrintMore
set_option linter.unusedSimpArgs false
set_option linter.unusedVariables false


theorem Dg_all {t : ByteArray} {k : Nat} (h : ((List.range k).all fun j => decide (48 ≤ bt t (j : Int) ∧ bt t (j : Int) ≤ 57)) = true) : Dg t 0 k := by
  intro j _ hj
  have := List.all_eq_true.mp h j (List.mem_range.mpr (by omega))
  exact of_decide_eq_true this
theorem toList_eq (t : ByteArray) : t.toList = t.data.toList := by
  have key : ∀ (n i : Nat) (r : List UInt8), t.size - i = n → ByteArray.toList.loop t i r = r.reverse ++ t.data.toList.drop i := by
    intro n
    induction n with
    | zero =>
      intro i r h
      unfold ByteArray.toList.loop
      have h0 : ¬ i < t.size := by omega
      rw [if_neg h0, List.drop_eq_nil_of_le (by rw [Array.length_toList]; show t.size ≤ i; omega), List.append_nil]
    | succ n ih =>
      intro i r h
      unfold ByteArray.toList.loop
      have h0 : i < t.size := by omega
      rw [if_pos h0, ih (i + 1) _ (by omega)]
      have hl : i < t.data.toList.length := by rw [Array.length_toList]; exact h0
      rw [List.drop_eq_getElem_cons hl, List.reverse_cons, List.append_assoc]
      congr 1
      simp only [List.singleton_append, List.cons.injEq, and_true]
      show t.get! i = _
      have : t.get! i = t.data[i]! := rfl
      rw [this, getElem!_pos t.data i h0]
      exact (Array.getElem_toList h0).symm
  have := key t.size 0 [] (by omega)
  unfold ByteArray.toList
  simpa using this
theorem pr_awake : pr ⟨#[52, 50, 57, 52, 57, 54, 55, 50, 57, 54]⟩ = (4294967296, 0) := by
  have e1 : cutS ⟨#[52, 50, 57, 52, 57, 54, 55, 50, 57, 54]⟩ = ⟨#[52, 50, 57, 52, 57, 54, 55, 50, 57, 54]⟩ := by rfl
  have e2 : cutB ⟨#[52, 50, 57, 52, 57, 54, 55, 50, 57, 54]⟩ = false := by rfl
  unfold pr
  rw [e1, e2, toList_eq, if_neg (by decide), if_neg, if_neg (by decide)]
  · rfl
  · rintro (h | h | h)
    · cases h
    · exact absurd h.1 (by decide)
    · exact h (Dg_all (by decide))
theorem pr_0 : pr ⟨#[48]⟩ = (0, 0) := by
  have e1 : cutS ⟨#[48]⟩ = ⟨#[48]⟩ := by rfl
  have e2 : cutB ⟨#[48]⟩ = false := by rfl
  unfold pr
  rw [e1, e2, toList_eq, if_neg (by decide), if_neg, if_neg (by decide)]
  · rfl
  · rintro (h | h | h)
    · cases h
    · exact h.2 rfl
    · exact h (Dg_all (by decide))
theorem tx_1 : tx (-18446744073709551616) = ⟨#[45, 49, 56, 52, 52, 54, 55, 52, 52, 48, 55, 51, 55, 48, 57, 53, 53, 49, 54, 49, 54]⟩ := by
  kernel_rfl
theorem tx_2 : tx (-3) = ⟨#[45, 51]⟩ := by rfl
theorem tx_3 : tx (-1) = ⟨#[45, 49]⟩ := by rfl
theorem blen_1 : ((blen (-18446744073709551616 : Int).natAbs : Nat) : Int) = 65 := by
  rw [blen_eq (k := 65) (by decide) (by decide) (by decide)]; rfl
set_option maxHeartbeats 8000000 in
set_option maxRecDepth 100000 in
theorem awake_ok (w : World) : Calls Try.prog 22 #[] w (fun e w' => e = .returned (.bool true) ∧ Below w.heap.size w w') := by
  have hu25 := Try.underlying25
  have H := Sit.start w (fun _ => False)
  obtain ⟨P, eP⟩ : ∃ v : Int, v = 4294967296 := ⟨_, rfl⟩
  obtain ⟨Q, eQ⟩ : ∃ v : Int, v = -4294967296 := ⟨_, rfl⟩
  obtain ⟨T, eT⟩ : ∃ v : Int, v = -18446744073709551616 := ⟨_, rfl⟩
  obtain ⟨a, ea⟩ : ∃ v : Int, v = -7 := ⟨_, rfl⟩
  obtain ⟨b, eb⟩ : ∃ v : Int, v = 2 := ⟨_, rfl⟩
  obtain ⟨q, eq⟩ : ∃ v : Int, v = -3 := ⟨_, rfl⟩
  obtain ⟨r, er⟩ : ∃ v : Int, v = -1 := ⟨_, rfl⟩
  have hP := Aside0.mk (show pr ⟨#[52, 50, 57, 52, 57, 54, 55, 50, 57, 54]⟩ = (P, 0) by rw [eP]; exact pr_awake)
  have hQ := Aside0.mk (show -P = Q by omega)
  have hT := Aside0.mk (show P * Q = T by rw [eP, eQ, eT] <;> rfl)
  have ha := Aside0.mk (show (-7 : Int) = a by omega)
  have hb' := Aside0.mk (show (2 : Int) = b by omega)
  have hq := Aside0.mk (show a.tdiv b = q by rw [ea, eb, eq] <;> rfl)
  have hr' := Aside0.mk (show a.tmod b = r by rw [ea, eb, er] <;> rfl)
  have hbn := Aside0.mk (show b ≠ 0 by omega)
  have tT := Aside0.mk (show tx T = _ by subst eT; exact tx_1)
  have tq := Aside0.mk (show tx q = _ by subst eq; exact tx_2)
  have tr := Aside0.mk (show tx r = _ by subst er; exact tx_3)
  have hB := Aside0.mk (show ((blen T.natAbs : Nat) : Int) = 65 by rw [eT]; exact blen_1)
  have bP := Aside0.mk (bOf (r := P) (by omega))
  have bQ := Aside0.mk (bOf (r := Q) (by omega))
  have bT := Aside0.mk (bMul bP.out bQ.out hT.out)
  have ba := Aside0.mk (bOf (r := a) (by omega))
  have bq := Aside0.mk (bOf (r := q) (by omega))
  have br := Aside0.mk (bOf (r := r) (by omega))
  have bb := Aside0.mk (show ln b ≤ 1 from ln_bound b 1 (by omega))
  clear eP eQ eT ea eb eq er
  go_enter Try.func22, Try.ntmps22
  have st4 := trivial
  have st6 := trivial
  go_wp2_with (first
    | (clear st4; go_at_call 23; (with_reducible refine (ParseQ ⟨#[52, 50, 57, 52, 57, 54, 55, 50, 57, 54]⟩ _ P 0 hP.out).mono ?_); rintro e w1 ⟨A2, c3, rfl, hr, hb⟩; replace H := H.got (fresh_row hr) hb; clear hr hb)
    | (clear st6; (with_reducible refine gate_dst (N := 1) rfl ?_); refine box_event ?hg (N := 1) ?hd (cs := #[.bool false, .slice none 0 0]) (t := 25) ?hr ?_; (case hd => rfl); (case hg => rfl); (case hr => first | (go_simp; done) | (go_simp; rfl)); intro g1 hg w5 hbox hb; replace H := H.newbox hg hbox hb; clear hg hbox hb; have kg1_0 : w5.cell? ⟨g1, 0, none⟩ = some (.bool false) := H.cell m0 0; have zg1_0 := H.frozen (g := g1) m0 0; have kg1_1 : w5.cell? ⟨g1, 1, none⟩ = some (.slice none 0 0) := H.cell m0 1; have zg1_1 := H.frozen (g := g1) m0 1))
  replace H := ((H.setn [] 0 (.bool (ng P)) rfl).setn [] 1 (.slice A2 (ln P) c3) rfl)
  clear kg1_0 zg1_0 kg1_1 zg1_1
  replace H := H.drew
  refine start_ (n := 6) (S := fun w' => w'.cell? ⟨g1, 0, none⟩ = some (.bool (ng P)) ∧ w'.cell? ⟨g1, 1, none⟩ = some (.slice A2 (ln P) c3)) (ds := [5]) #[false, false, false, false, false, false] (by kernel_rfl) rfl rfl ⟨H.cell m0 0, H.cell m0 1⟩ (fun hHeld => ?_)
  generalize ((w5.setCell ⟨g1, 0, none⟩ (.bool (ng P))).setCell ⟨g1, 1, none⟩ (.slice A2 (ln P) c3)).drew = w7 at H hHeld ⊢
  refine take_ (i := 0) (N := some 11) (v := ?_) (a' := ?_) #[true, false, false, false, false, false] rfl rfl (by kernel_rfl) (fun _ _ _ h => h) (Or.inl ⟨by rfl, ?_⟩) hHeld ?_ ?_
  rotate_left
  · rintro w' ⟨s0, s1⟩
    go_simp
    with_reducible rfl
  rotate_left
  · simp only [Act.put, List.setIfInBounds_toArray, List.set_cons_zero, List.set_cons_succ, i64_w, i32_w]
    rfl
  refine take_ (i := 1) (N := some 12) (v := ?_) (a' := ?_) #[true, true, false, false, false, false] rfl rfl (by kernel_rfl) (fun _ _ _ h => h) (Or.inl ⟨by rfl, ?_⟩) hHeld ?_ ?_
  rotate_left
  · rintro w' ⟨s0, s1⟩
    go_simp
    with_reducible rfl
  rotate_left
  · simp only [Act.put, List.setIfInBounds_toArray, List.set_cons_zero, List.set_cons_succ, i64_w, i32_w]
    rfl
  refine join_ (σ := Option Addr × Nat × Option Addr × Nat × Nat) 1 #[true, true, true, true, true, false] (fun s_ => [(13, .agg #[.bool (ng Q), .slice s_.1 (ln Q) s_.2.1]), (14, .agg #[.bool (ng T), .slice s_.2.2.1 (ln T) s_.2.2.2.1]), (3, .pointer (some ⟨s_.2.2.2.2, 0, none⟩))]) (fun s_ w' => Sit w w' (fun _ => False) [(s_.2.2.2.2, .cells #[.bool false, .slice none 0 0] 25 (0, 0)), (g1, .cells #[.bool (ng P), .slice A2 (ln P) c3] 25 (0, 0))] [bw s_.2.2.1 s_.2.2.2.1 T, bw s_.1 s_.2.1 Q, bw A2 c3 P]) ?_ ?_
  rotate_left
  · intro hCont
    refine two_ (i := 2) (j := 4) (Ni := some 13) (Nj := some 3) #[true, true, true, false, false, false] #[true, true, false, false, true, false] rfl rfl rfl rfl (by kernel_rfl) (by decide) (by decide) (fun K hK => ?_) (fun K hK => ?_)
    · skip
      refine goes_ Try.func37 (by kernel_rfl) rfl #[.agg #[.bool (ng P), .slice A2 (ln P) c3]] (by rfl) rfl rfl (by (try simp only [List.map_toArray, List.map_cons, List.map_nil]); first | done | rfl) ?_
      with_reducible refine (NegQ (H.row _ m0) (lim bP.out (by decide)) Q hQ.out).mono ?_
      rintro e w28 ⟨A29, c30, rfl, hr, hb⟩
      replace H := H.got hr hb
      clear hr hb
      refine ⟨_, rfl, ?_⟩
      refine hK.out _ _ ⟨H.cell m0 0, H.cell m0 1⟩ (fun hHeld => ?_)
      clear hK K
      refine norm_ (a' := ?_) ?_ ?_
      rotate_left
      · show Act.put _ (some 13) _ = _
        simp only [Act.put, List.setIfInBounds_toArray, List.set_cons_zero, List.set_cons_succ, i64_w, i32_w]
        rfl
      refine two_ (i := 3) (j := 4) (Ni := some 14) (Nj := some 3) #[true, true, true, true, false, false] #[true, true, true, false, true, false] rfl rfl rfl rfl (by kernel_rfl) (by decide) (by decide) (fun K hK => ?_) (fun K hK => ?_)
      · skip
        refine goes_ Try.func31 (by kernel_rfl) rfl #[.agg #[.bool (ng P), .slice A2 (ln P) c3], .agg #[.bool (ng Q), .slice A29 (ln Q) c30]] (by rfl) rfl rfl (by (try simp only [List.map_toArray, List.map_cons, List.map_nil]); first | done | rfl) ?_
        with_reducible refine (MulQ (H.row _ m1) (H.row _ m0) (lim bP.out (by decide)) (lim bQ.out (by decide)) T hT.out).mono ?_
        rintro e w51 ⟨A52, c53, rfl, hr, hb⟩
        replace H := H.got hr hb
        clear hr hb
        refine ⟨_, rfl, ?_⟩
        refine hK.out _ _ ⟨H.cell m0 0, H.cell m0 1⟩ (fun hHeld => ?_)
        clear hK K
        refine norm_ (a' := ?_) ?_ ?_
        rotate_left
        · show Act.put _ (some 14) _ = _
          simp only [Act.put, List.setIfInBounds_toArray, List.set_cons_zero, List.set_cons_succ, i64_w, i32_w]
          rfl
        refine one_ (i := 4) (N := some 3) #[true, true, true, true, true, false] rfl rfl (by kernel_rfl) (by decide) (fun K hK => ?_)
        refine value_ (w1 := ?_) (v := ?_) (by rfl) rfl ?_ ?_
        rotate_left 2
        · go_simp
          constructor
          · rfl
          · rfl
        replace H := H.newbox rfl (blk_new _ (.cells #[.bool false, .slice none 0 0] 25 (0, 0))) (below_alloc (Below.refl _ _) _)
        refine hK.out _ _ ⟨H.cell m1 0, H.cell m1 1⟩ (fun hHeld => ?_)
        clear hK K
        refine norm_ (a' := ?_) ?_ ?_
        rotate_left
        · show Act.put _ (some 3) _ = _
          simp only [Act.put, List.setIfInBounds_toArray, List.set_cons_zero, List.set_cons_succ, i64_w, i32_w]
          rfl
        exact norm_ (by first | (simp only [putAll, Act.put, List.setIfInBounds_toArray, List.set_cons_zero, List.set_cons_succ]; done) | (simp only [putAll, Act.put, List.setIfInBounds_toArray, List.set_cons_zero, List.set_cons_succ]; rfl)) (hCont ⟨A29, c30, A52, c53, _⟩ _ H)
      · skip
        refine value_ (w1 := ?_) (v := ?_) (by rfl) rfl ?_ ?_
        rotate_left 2
        · go_simp
          constructor
          · rfl
          · rfl
        replace H := H.newbox rfl (blk_new _ (.cells #[.bool false, .slice none 0 0] 25 (0, 0))) (below_alloc (Below.refl _ _) _)
        refine hK.out _ _ ⟨H.cell m1 0, H.cell m1 1⟩ (fun hHeld => ?_)
        clear hK K
        refine norm_ (a' := ?_) ?_ ?_
        rotate_left
        · show Act.put _ (some 3) _ = _
          simp only [Act.put, List.setIfInBounds_toArray, List.set_cons_zero, List.set_cons_succ, i64_w, i32_w]
          rfl
        refine one_ (i := 3) (N := some 14) #[true, true, true, true, true, false] rfl rfl (by kernel_rfl) (by decide) (fun K hK => ?_)
        refine goes_ Try.func31 (by kernel_rfl) rfl #[.agg #[.bool (ng P), .slice A2 (ln P) c3], .agg #[.bool (ng Q), .slice A29 (ln Q) c30]] (by rfl) rfl rfl (by (try simp only [List.map_toArray, List.map_cons, List.map_nil]); first | done | rfl) ?_
        with_reducible refine (MulQ (H.row _ m1) (H.row _ m0) (lim bP.out (by decide)) (lim bQ.out (by decide)) T hT.out).mono ?_
        rintro e w51 ⟨A52, c53, rfl, hr, hb⟩
        replace H := H.got hr hb
        clear hr hb
        refine ⟨_, rfl, ?_⟩
        refine hK.out _ _ ⟨H.cell m1 0, H.cell m1 1⟩ (fun hHeld => ?_)
        clear hK K
        refine norm_ (a' := ?_) ?_ ?_
        rotate_left
        · show Act.put _ (some 14) _ = _
          simp only [Act.put, List.setIfInBounds_toArray, List.set_cons_zero, List.set_cons_succ, i64_w, i32_w]
          rfl
        exact norm_ (by first | (simp only [putAll, Act.put, List.setIfInBounds_toArray, List.set_cons_zero, List.set_cons_succ]; done) | (simp only [putAll, Act.put, List.setIfInBounds_toArray, List.set_cons_zero, List.set_cons_succ]; rfl)) (hCont ⟨A29, c30, A52, c53, _⟩ _ H)
    · skip
      refine value_ (w1 := ?_) (v := ?_) (by rfl) rfl ?_ ?_
      rotate_left 2
      · go_simp
        constructor
        · rfl
        · rfl
      replace H := H.newbox rfl (blk_new _ (.cells #[.bool false, .slice none 0 0] 25 (0, 0))) (below_alloc (Below.refl _ _) _)
      refine hK.out _ _ ⟨H.cell m1 0, H.cell m1 1⟩ (fun hHeld => ?_)
      clear hK K
      refine norm_ (a' := ?_) ?_ ?_
      rotate_left
      · show Act.put _ (some 3) _ = _
        simp only [Act.put, List.setIfInBounds_toArray, List.set_cons_zero, List.set_cons_succ, i64_w, i32_w]
        rfl
      refine one_ (i := 2) (N := some 13) #[true, true, true, false, true, false] rfl rfl (by kernel_rfl) (by decide) (fun K hK => ?_)
      refine goes_ Try.func37 (by kernel_rfl) rfl #[.agg #[.bool (ng P), .slice A2 (ln P) c3]] (by rfl) rfl rfl (by (try simp only [List.map_toArray, List.map_cons, List.map_nil]); first | done | rfl) ?_
      with_reducible refine (NegQ (H.row _ m0) (lim bP.out (by decide)) Q hQ.out).mono ?_
      rintro e w28 ⟨A29, c30, rfl, hr, hb⟩
      replace H := H.got hr hb
      clear hr hb
      refine ⟨_, rfl, ?_⟩
      refine hK.out _ _ ⟨H.cell m1 0, H.cell m1 1⟩ (fun hHeld => ?_)
      clear hK K
      refine norm_ (a' := ?_) ?_ ?_
      rotate_left
      · show Act.put _ (some 13) _ = _
        simp only [Act.put, List.setIfInBounds_toArray, List.set_cons_zero, List.set_cons_succ, i64_w, i32_w]
        rfl
      refine one_ (i := 3) (N := some 14) #[true, true, true, true, true, false] rfl rfl (by kernel_rfl) (by decide) (fun K hK => ?_)
      refine goes_ Try.func31 (by kernel_rfl) rfl #[.agg #[.bool (ng P), .slice A2 (ln P) c3], .agg #[.bool (ng Q), .slice A29 (ln Q) c30]] (by rfl) rfl rfl (by (try simp only [List.map_toArray, List.map_cons, List.map_nil]); first | done | rfl) ?_
      with_reducible refine (MulQ (H.row _ m1) (H.row _ m0) (lim bP.out (by decide)) (lim bQ.out (by decide)) T hT.out).mono ?_
      rintro e w51 ⟨A52, c53, rfl, hr, hb⟩
      replace H := H.got hr hb
      clear hr hb
      refine ⟨_, rfl, ?_⟩
      refine hK.out _ _ ⟨H.cell m1 0, H.cell m1 1⟩ (fun hHeld => ?_)
      clear hK K
      refine norm_ (a' := ?_) ?_ ?_
      rotate_left
      · show Act.put _ (some 14) _ = _
        simp only [Act.put, List.setIfInBounds_toArray, List.set_cons_zero, List.set_cons_succ, i64_w, i32_w]
        rfl
      exact norm_ (by first | (simp only [putAll, Act.put, List.setIfInBounds_toArray, List.set_cons_zero, List.set_cons_succ]; done) | (simp only [putAll, Act.put, List.setIfInBounds_toArray, List.set_cons_zero, List.set_cons_succ]; rfl)) (hCont ⟨A29, c30, A52, c53, _⟩ _ H)
  rintro ⟨A29, c30, A52, c53, g3⟩ wF H
  clear hHeld
  have hHeld := (show wF.cell? ⟨g1, 0, none⟩ = some (.bool (ng P)) ∧ wF.cell? ⟨g1, 1, none⟩ = some (.slice A2 (ln P) c3) from ⟨H.cell m1 0, H.cell m1 1⟩)
  refine norm_ (a' := ?_) ?_ ?_
  rotate_left
  · simp only [putAll, Act.put, List.setIfInBounds_toArray, List.set_cons_zero, List.set_cons_succ]
    rfl
  refine last_ (i := 5) (N := none) #[true, true, true, true, true, true] rfl rfl (by kernel_rfl) (by decide) (fun K hK => ?_)
  have kg3_0 : wF.cell? ⟨g3, 0, none⟩ = some (.bool false) := H.cell m0 0
  have zg3_0 := H.frozen (g := g3) m0 0
  have kg3_1 : wF.cell? ⟨g3, 1, none⟩ = some (.slice none 0 0) := H.cell m0 1
  have zg3_1 := H.frozen (g := g3) m0 1
  have kg1_0 : wF.cell? ⟨g1, 0, none⟩ = some (.bool (ng P)) := H.cell m1 0
  have zg1_0 := H.frozen (g := g1) m1 0
  have kg1_1 : wF.cell? ⟨g1, 1, none⟩ = some (.slice A2 (ln P) c3) := H.cell m1 1
  have zg1_1 := H.frozen (g := g1) m1 1
  refine skip_ (w1 := ?_) (by rfl) rfl ?_ ?_
  rotate_left
  · go_simp
    rfl
  refine hK.out _ _ ?_
  clear hK K
  refine done_ (by kernel_rfl) ?_
  try clear hHeld
  replace H := ((H.setn [] 0 (.bool (ng T)) rfl).setn [] 1 (.slice A52 (ln T) c53) rfl)
  clear kg3_0 zg3_0 kg3_1 zg3_1 kg1_0 zg1_0 kg1_1 zg1_1
  generalize ((wF.setCell ⟨g3, 0, none⟩ (.bool (ng T))).setCell ⟨g3, 1, none⟩ (.slice A52 (ln T) c53)) = w94 at H ⊢
  have kg3_0 : w94.cell? ⟨g3, 0, none⟩ = some (.bool (ng T)) := H.cell m0 0
  have zg3_0 := H.frozen (g := g3) m0 0
  have kg3_1 : w94.cell? ⟨g3, 1, none⟩ = some (.slice A52 (ln T) c53) := H.cell m0 1
  have zg3_1 := H.frozen (g := g3) m0 1
  have kg1_0 : w94.cell? ⟨g1, 0, none⟩ = some (.bool (ng P)) := H.cell m1 0
  have zg1_0 := H.frozen (g := g1) m1 0
  have kg1_1 : w94.cell? ⟨g1, 1, none⟩ = some (.slice A2 (ln P) c3) := H.cell m1 1
  have zg1_1 := H.frozen (g := g1) m1 1
  have st98 := trivial
  have st102 := trivial
  have st108 := trivial
  have st110 := trivial
  have st112 := trivial
  go_upto_region 4 with (first
    | (clear st98; go_at_call 27; (with_reducible refine (OfQ _ (-7) a ha.out (by omega) (by omega)).mono ?_); rintro e w95 ⟨A96, c97, rfl, hr, hb⟩; replace H := H.got (fresh_row hr) hb; clear hr hb; clear kg3_0 zg3_0 kg3_1 zg3_1 kg1_0 zg1_0 kg1_1 zg1_1; have kg3_0 : w95.cell? ⟨g3, 0, none⟩ = some (.bool (ng T)) := H.cell m0 0; have zg3_0 := H.frozen (g := g3) m0 0; have kg3_1 : w95.cell? ⟨g3, 1, none⟩ = some (.slice A52 (ln T) c53) := H.cell m0 1; have zg3_1 := H.frozen (g := g3) m0 1; have kg1_0 : w95.cell? ⟨g1, 0, none⟩ = some (.bool (ng P)) := H.cell m1 0; have zg1_0 := H.frozen (g := g1) m1 0; have kg1_1 : w95.cell? ⟨g1, 1, none⟩ = some (.slice A2 (ln P) c3) := H.cell m1 1; have zg1_1 := H.frozen (g := g1) m1 1)
    | (clear st102; go_at_call 27; (with_reducible refine (OfQ _ 2 b hb'.out (by omega) (by omega)).mono ?_); rintro e w99 ⟨A100, c101, rfl, hr, hb⟩; replace H := H.got (fresh_row hr) hb; clear hr hb; clear kg3_0 zg3_0 kg3_1 zg3_1 kg1_0 zg1_0 kg1_1 zg1_1; have kg3_0 : w99.cell? ⟨g3, 0, none⟩ = some (.bool (ng T)) := H.cell m0 0; have zg3_0 := H.frozen (g := g3) m0 0; have kg3_1 : w99.cell? ⟨g3, 1, none⟩ = some (.slice A52 (ln T) c53) := H.cell m0 1; have zg3_1 := H.frozen (g := g3) m0 1; have kg1_0 : w99.cell? ⟨g1, 0, none⟩ = some (.bool (ng P)) := H.cell m1 0; have zg1_0 := H.frozen (g := g1) m1 0; have kg1_1 : w99.cell? ⟨g1, 1, none⟩ = some (.slice A2 (ln P) c3) := H.cell m1 1; have zg1_1 := H.frozen (g := g1) m1 1)
    | (clear st108; go_at_call 32; (with_reducible refine (DivQ1 (H.row _ m1) (H.row _ m0) (lim ba.out (by decide)) bb.out hbn.out q r hq.out hr'.out).mono ?_); rintro e w103 ⟨A104, c105, A106, c107, rfl, hr, hr2, hb⟩; replace H := (H.got hr hb).more ((H.got hr2 hb).row _ m0); clear hr hr2 hb; clear kg3_0 zg3_0 kg3_1 zg3_1 kg1_0 zg1_0 kg1_1 zg1_1; have kg3_0 : w103.cell? ⟨g3, 0, none⟩ = some (.bool (ng T)) := H.cell m0 0; have zg3_0 := H.frozen (g := g3) m0 0; have kg3_1 : w103.cell? ⟨g3, 1, none⟩ = some (.slice A52 (ln T) c53) := H.cell m0 1; have zg3_1 := H.frozen (g := g3) m0 1; have kg1_0 : w103.cell? ⟨g1, 0, none⟩ = some (.bool (ng P)) := H.cell m1 0; have zg1_0 := H.frozen (g := g1) m1 0; have kg1_1 : w103.cell? ⟨g1, 1, none⟩ = some (.slice A2 (ln P) c3) := H.cell m1 1; have zg1_1 := H.frozen (g := g1) m1 1)
    | (clear st110; (with_reducible refine gate_dst (N := 4) rfl ?_); refine box_event ?hg (N := 4) ?hd (cs := #[.bool false, .slice none 0 0]) (t := 25) ?hr ?_; (case hd => rfl); (case hg => rfl); (case hr => first | (go_simp; done) | (go_simp; rfl)); intro g4 hg w109 hbox hb; replace H := H.newbox hg hbox hb; clear hg hbox hb; clear kg3_0 zg3_0 kg3_1 zg3_1 kg1_0 zg1_0 kg1_1 zg1_1; have kg4_0 : w109.cell? ⟨g4, 0, none⟩ = some (.bool false) := H.cell m0 0; have zg4_0 := H.frozen (g := g4) m0 0; have kg4_1 : w109.cell? ⟨g4, 1, none⟩ = some (.slice none 0 0) := H.cell m0 1; have zg4_1 := H.frozen (g := g4) m0 1; have kg3_0 : w109.cell? ⟨g3, 0, none⟩ = some (.bool (ng T)) := H.cell m1 0; have zg3_0 := H.frozen (g := g3) m1 0; have kg3_1 : w109.cell? ⟨g3, 1, none⟩ = some (.slice A52 (ln T) c53) := H.cell m1 1; have zg3_1 := H.frozen (g := g3) m1 1; have kg1_0 : w109.cell? ⟨g1, 0, none⟩ = some (.bool (ng P)) := H.cell m2 0; have zg1_0 := H.frozen (g := g1) m2 0; have kg1_1 : w109.cell? ⟨g1, 1, none⟩ = some (.slice A2 (ln P) c3) := H.cell m2 1; have zg1_1 := H.frozen (g := g1) m2 1; have ne_g4_g3 := H.ne (g := g4) (g' := g3) 0 1 rfl rfl (by decide); have ne_g3_g4 := ne_g4_g3.symm; have ne_g4_g1 := H.ne (g := g4) (g' := g1) 0 2 rfl rfl (by decide); have ne_g1_g4 := ne_g4_g1.symm)
    | (clear st112; (with_reducible refine gate_dst (N := 5) rfl ?_); refine box_event ?hg (N := 5) ?hd (cs := #[.bool false, .slice none 0 0]) (t := 25) ?hr ?_; (case hd => rfl); (case hg => rfl); (case hr => first | (go_simp; done) | (go_simp; rfl)); intro g5 hg w111 hbox hb; replace H := H.newbox hg hbox hb; clear hg hbox hb; clear kg4_0 zg4_0 kg4_1 zg4_1 kg3_0 zg3_0 kg3_1 zg3_1 kg1_0 zg1_0 kg1_1 zg1_1; have kg5_0 : w111.cell? ⟨g5, 0, none⟩ = some (.bool false) := H.cell m0 0; have zg5_0 := H.frozen (g := g5) m0 0; have kg5_1 : w111.cell? ⟨g5, 1, none⟩ = some (.slice none 0 0) := H.cell m0 1; have zg5_1 := H.frozen (g := g5) m0 1; have kg4_0 : w111.cell? ⟨g4, 0, none⟩ = some (.bool false) := H.cell m1 0; have zg4_0 := H.frozen (g := g4) m1 0; have kg4_1 : w111.cell? ⟨g4, 1, none⟩ = some (.slice none 0 0) := H.cell m1 1; have zg4_1 := H.frozen (g := g4) m1 1; have kg3_0 : w111.cell? ⟨g3, 0, none⟩ = some (.bool (ng T)) := H.cell m2 0; have zg3_0 := H.frozen (g := g3) m2 0; have kg3_1 : w111.cell? ⟨g3, 1, none⟩ = some (.slice A52 (ln T) c53) := H.cell m2 1; have zg3_1 := H.frozen (g := g3) m2 1; have kg1_0 : w111.cell? ⟨g1, 0, none⟩ = some (.bool (ng P)) := H.cell m3 0; have zg1_0 := H.frozen (g := g1) m3 0; have kg1_1 : w111.cell? ⟨g1, 1, none⟩ = some (.slice A2 (ln P) c3) := H.cell m3 1; have zg1_1 := H.frozen (g := g1) m3 1; have ne_g5_g4 := H.ne (g := g5) (g' := g4) 0 1 rfl rfl (by decide); have ne_g4_g5 := ne_g5_g4.symm; have ne_g5_g3 := H.ne (g := g5) (g' := g3) 0 2 rfl rfl (by decide); have ne_g3_g5 := ne_g5_g3.symm; have ne_g5_g1 := H.ne (g := g5) (g' := g1) 0 3 rfl rfl (by decide); have ne_g1_g5 := ne_g5_g1.symm))
  (try simp only [Act.put, List.setIfInBounds_toArray, List.set_cons_zero, List.set_cons_succ])
  replace H := ((((H.setn [_] 0 (.bool (ng q)) rfl).setn [_] 1 (.slice A104 (ln q) c105) rfl).setn [] 0 (.bool (ng r)) rfl).setn [] 1 (.slice A106 (ln r) c107) rfl)
  clear kg5_0 zg5_0 kg5_1 zg5_1 kg4_0 zg4_0 kg4_1 zg4_1 kg3_0 zg3_0 kg3_1 zg3_1 kg1_0 zg1_0 kg1_1 zg1_1
  generalize ((((w111.setCell ⟨g4, 0, none⟩ (.bool (ng q))).setCell ⟨g4, 1, none⟩ (.slice A104 (ln q) c105)).setCell ⟨g5, 0, none⟩ (.bool (ng r))).setCell ⟨g5, 1, none⟩ (.slice A106 (ln r) c107)) = w113 at H ⊢
  have kg5_0 : w113.cell? ⟨g5, 0, none⟩ = some (.bool (ng r)) := H.cell m0 0
  have zg5_0 := H.frozen (g := g5) m0 0
  have kg5_1 : w113.cell? ⟨g5, 1, none⟩ = some (.slice A106 (ln r) c107) := H.cell m0 1
  have zg5_1 := H.frozen (g := g5) m0 1
  have kg4_0 : w113.cell? ⟨g4, 0, none⟩ = some (.bool (ng q)) := H.cell m1 0
  have zg4_0 := H.frozen (g := g4) m1 0
  have kg4_1 : w113.cell? ⟨g4, 1, none⟩ = some (.slice A104 (ln q) c105) := H.cell m1 1
  have zg4_1 := H.frozen (g := g4) m1 1
  have kg3_0 : w113.cell? ⟨g3, 0, none⟩ = some (.bool (ng T)) := H.cell m2 0
  have zg3_0 := H.frozen (g := g3) m2 0
  have kg3_1 : w113.cell? ⟨g3, 1, none⟩ = some (.slice A52 (ln T) c53) := H.cell m2 1
  have zg3_1 := H.frozen (g := g3) m2 1
  have kg1_0 : w113.cell? ⟨g1, 0, none⟩ = some (.bool (ng P)) := H.cell m3 0
  have zg1_0 := H.frozen (g := g1) m3 0
  have kg1_1 : w113.cell? ⟨g1, 1, none⟩ = some (.slice A2 (ln P) c3) := H.cell m3 1
  have zg1_1 := H.frozen (g := g1) m3 1
  have st115 := trivial
  have st117 := trivial
  have st119 := trivial
  have st121 := trivial
  go_wp2_with (first
    | (clear st115; go_at_call 26; (with_reducible refine (TextQ (H.row _ m4) (lim bT.out (by decide)) _ tT.out).mono ?_); rintro e w114 ⟨rfl, hb⟩; replace H := H.call hb; clear hb; clear kg5_0 zg5_0 kg5_1 zg5_1 kg4_0 zg4_0 kg4_1 zg4_1 kg3_0 zg3_0 kg3_1 zg3_1 kg1_0 zg1_0 kg1_1 zg1_1; have kg5_0 : w114.cell? ⟨g5, 0, none⟩ = some (.bool (ng r)) := H.cell m0 0; have zg5_0 := H.frozen (g := g5) m0 0; have kg5_1 : w114.cell? ⟨g5, 1, none⟩ = some (.slice A106 (ln r) c107) := H.cell m0 1; have zg5_1 := H.frozen (g := g5) m0 1; have kg4_0 : w114.cell? ⟨g4, 0, none⟩ = some (.bool (ng q)) := H.cell m1 0; have zg4_0 := H.frozen (g := g4) m1 0; have kg4_1 : w114.cell? ⟨g4, 1, none⟩ = some (.slice A104 (ln q) c105) := H.cell m1 1; have zg4_1 := H.frozen (g := g4) m1 1; have kg3_0 : w114.cell? ⟨g3, 0, none⟩ = some (.bool (ng T)) := H.cell m2 0; have zg3_0 := H.frozen (g := g3) m2 0; have kg3_1 : w114.cell? ⟨g3, 1, none⟩ = some (.slice A52 (ln T) c53) := H.cell m2 1; have zg3_1 := H.frozen (g := g3) m2 1; have kg1_0 : w114.cell? ⟨g1, 0, none⟩ = some (.bool (ng P)) := H.cell m3 0; have zg1_0 := H.frozen (g := g1) m3 0; have kg1_1 : w114.cell? ⟨g1, 1, none⟩ = some (.slice A2 (ln P) c3) := H.cell m3 1; have zg1_1 := H.frozen (g := g1) m3 1)
    | (clear st117; go_at_call 36; (with_reducible refine (BitsQ (H.row _ m4) (lim bT.out (by decide)) 65 hB.out).mono ?_); rintro e w116 ⟨rfl, hb⟩; replace H := H.call hb; clear hb; clear kg5_0 zg5_0 kg5_1 zg5_1 kg4_0 zg4_0 kg4_1 zg4_1 kg3_0 zg3_0 kg3_1 zg3_1 kg1_0 zg1_0 kg1_1 zg1_1; have kg5_0 : w116.cell? ⟨g5, 0, none⟩ = some (.bool (ng r)) := H.cell m0 0; have zg5_0 := H.frozen (g := g5) m0 0; have kg5_1 : w116.cell? ⟨g5, 1, none⟩ = some (.slice A106 (ln r) c107) := H.cell m0 1; have zg5_1 := H.frozen (g := g5) m0 1; have kg4_0 : w116.cell? ⟨g4, 0, none⟩ = some (.bool (ng q)) := H.cell m1 0; have zg4_0 := H.frozen (g := g4) m1 0; have kg4_1 : w116.cell? ⟨g4, 1, none⟩ = some (.slice A104 (ln q) c105) := H.cell m1 1; have zg4_1 := H.frozen (g := g4) m1 1; have kg3_0 : w116.cell? ⟨g3, 0, none⟩ = some (.bool (ng T)) := H.cell m2 0; have zg3_0 := H.frozen (g := g3) m2 0; have kg3_1 : w116.cell? ⟨g3, 1, none⟩ = some (.slice A52 (ln T) c53) := H.cell m2 1; have zg3_1 := H.frozen (g := g3) m2 1; have kg1_0 : w116.cell? ⟨g1, 0, none⟩ = some (.bool (ng P)) := H.cell m3 0; have zg1_0 := H.frozen (g := g1) m3 0; have kg1_1 : w116.cell? ⟨g1, 1, none⟩ = some (.slice A2 (ln P) c3) := H.cell m3 1; have zg1_1 := H.frozen (g := g1) m3 1)
    | (clear st119; go_at_call 26; (with_reducible refine (TextQ (H.row _ m1) (lim bq.out (by decide)) _ tq.out).mono ?_); rintro e w118 ⟨rfl, hb⟩; replace H := H.call hb; clear hb; clear kg5_0 zg5_0 kg5_1 zg5_1 kg4_0 zg4_0 kg4_1 zg4_1 kg3_0 zg3_0 kg3_1 zg3_1 kg1_0 zg1_0 kg1_1 zg1_1; have kg5_0 : w118.cell? ⟨g5, 0, none⟩ = some (.bool (ng r)) := H.cell m0 0; have zg5_0 := H.frozen (g := g5) m0 0; have kg5_1 : w118.cell? ⟨g5, 1, none⟩ = some (.slice A106 (ln r) c107) := H.cell m0 1; have zg5_1 := H.frozen (g := g5) m0 1; have kg4_0 : w118.cell? ⟨g4, 0, none⟩ = some (.bool (ng q)) := H.cell m1 0; have zg4_0 := H.frozen (g := g4) m1 0; have kg4_1 : w118.cell? ⟨g4, 1, none⟩ = some (.slice A104 (ln q) c105) := H.cell m1 1; have zg4_1 := H.frozen (g := g4) m1 1; have kg3_0 : w118.cell? ⟨g3, 0, none⟩ = some (.bool (ng T)) := H.cell m2 0; have zg3_0 := H.frozen (g := g3) m2 0; have kg3_1 : w118.cell? ⟨g3, 1, none⟩ = some (.slice A52 (ln T) c53) := H.cell m2 1; have zg3_1 := H.frozen (g := g3) m2 1; have kg1_0 : w118.cell? ⟨g1, 0, none⟩ = some (.bool (ng P)) := H.cell m3 0; have zg1_0 := H.frozen (g := g1) m3 0; have kg1_1 : w118.cell? ⟨g1, 1, none⟩ = some (.slice A2 (ln P) c3) := H.cell m3 1; have zg1_1 := H.frozen (g := g1) m3 1)
    | (clear st121; go_at_call 26; (with_reducible refine (TextQ (H.row _ m0) (lim br.out (by decide)) _ tr.out).mono ?_); rintro e w120 ⟨rfl, hb⟩; replace H := H.call hb; clear hb; clear kg5_0 zg5_0 kg5_1 zg5_1 kg4_0 zg4_0 kg4_1 zg4_1 kg3_0 zg3_0 kg3_1 zg3_1 kg1_0 zg1_0 kg1_1 zg1_1; have kg5_0 : w120.cell? ⟨g5, 0, none⟩ = some (.bool (ng r)) := H.cell m0 0; have zg5_0 := H.frozen (g := g5) m0 0; have kg5_1 : w120.cell? ⟨g5, 1, none⟩ = some (.slice A106 (ln r) c107) := H.cell m0 1; have zg5_1 := H.frozen (g := g5) m0 1; have kg4_0 : w120.cell? ⟨g4, 0, none⟩ = some (.bool (ng q)) := H.cell m1 0; have zg4_0 := H.frozen (g := g4) m1 0; have kg4_1 : w120.cell? ⟨g4, 1, none⟩ = some (.slice A104 (ln q) c105) := H.cell m1 1; have zg4_1 := H.frozen (g := g4) m1 1; have kg3_0 : w120.cell? ⟨g3, 0, none⟩ = some (.bool (ng T)) := H.cell m2 0; have zg3_0 := H.frozen (g := g3) m2 0; have kg3_1 : w120.cell? ⟨g3, 1, none⟩ = some (.slice A52 (ln T) c53) := H.cell m2 1; have zg3_1 := H.frozen (g := g3) m2 1; have kg1_0 : w120.cell? ⟨g1, 0, none⟩ = some (.bool (ng P)) := H.cell m3 0; have zg1_0 := H.frozen (g := g1) m3 0; have kg1_1 : w120.cell? ⟨g1, 1, none⟩ = some (.slice A2 (ln P) c3) := H.cell m3 1; have zg1_1 := H.frozen (g := g1) m3 1))
  go_ret
  exact ⟨rfl, H.below⟩

end Go.Proofs.Ytdkapdgbfejgdaa
