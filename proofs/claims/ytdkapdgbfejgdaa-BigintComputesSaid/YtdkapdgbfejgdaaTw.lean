/- ontimelaw01.two and abs. -/
import Derived.Test.YtdkapdgbfejgdaaZ
/- ontimelaw01: the helpers of the laws. -/
namespace Go.Proofs.Ytdkapdgbfejgdaa
open Go.RowKit Go.Proofs.YtdkapdgbfejgdaaW.PrintWords Go.Proofs.YtdkapdgbfejgdaaW.PrintLast Go.Proofs.YtdkapdgbfejgdaaW.PrintMore
set_option linter.unusedSimpArgs false
set_option linter.unusedVariables false


theorem Dg_all {t : ByteArray} {k : Nat} (h : ((List.range k).all fun j => decide (48 ≤ bt t (j : Int) ∧ bt t (j : Int) ≤ 57)) = true) : Dg t 0 k := by
  intro j _ hj
  have := List.all_eq_true.mp h j (List.mem_range.mpr (by omega))
  exact of_decide_eq_true this
theorem toList_eq (t : ByteArray) : t.toList = t.data.toList := by
  have key : ∀ (n i : Nat) (r : List UInt8), t.size - i = n → ByteArray.toList.loop t i r = r.reverse ++ t.data.toList.drop i := by
    intro n
    induction n with
    | zero =>
      intro i r h
      unfold ByteArray.toList.loop
      have h0 : ¬ i < t.size := by omega
      rw [if_neg h0, List.drop_eq_nil_of_le (by rw [Array.length_toList]; show t.size ≤ i; omega), List.append_nil]
    | succ n ih =>
      intro i r h
      unfold ByteArray.toList.loop
      have h0 : i < t.size := by omega
      rw [if_pos h0, ih (i + 1) _ (by omega)]
      have hl : i < t.data.toList.length := by rw [Array.length_toList]; exact h0
      rw [List.drop_eq_getElem_cons hl, List.reverse_cons, List.append_assoc]
      congr 1
      simp only [List.singleton_append, List.cons.injEq, and_true]
      show t.get! i = _
      have : t.get! i = t.data[i]! := rfl
      rw [this, getElem!_pos t.data i h0]
      exact (Array.getElem_toList h0).symm
  have := key t.size 0 [] (by omega)
  unfold ByteArray.toList
  simpa using this
theorem pr_awake : pr ⟨#[52, 50, 57, 52, 57, 54, 55, 50, 57, 54]⟩ = (4294967296, 0) := by
  have e1 : cutS ⟨#[52, 50, 57, 52, 57, 54, 55, 50, 57, 54]⟩ = ⟨#[52, 50, 57, 52, 57, 54, 55, 50, 57, 54]⟩ := by rfl
  have e2 : cutB ⟨#[52, 50, 57, 52, 57, 54, 55, 50, 57, 54]⟩ = false := by rfl
  unfold pr
  rw [e1, e2, toList_eq, if_neg (by decide), if_neg, if_neg (by decide)]
  · rfl
  · rintro (h | h | h)
    · cases h
    · exact absurd h.1 (by decide)
    · exact h (Dg_all (by decide))
theorem pr_0 : pr ⟨#[48]⟩ = (0, 0) := by
  have e1 : cutS ⟨#[48]⟩ = ⟨#[48]⟩ := by rfl
  have e2 : cutB ⟨#[48]⟩ = false := by rfl
  unfold pr
  rw [e1, e2, toList_eq, if_neg (by decide), if_neg, if_neg (by decide)]
  · rfl
  · rintro (h | h | h)
    · cases h
    · exact h.2 rfl
    · exact h (Dg_all (by decide))
theorem tx_1 : tx (-18446744073709551616) = ⟨#[45, 49, 56, 52, 52, 54, 55, 52, 52, 48, 55, 51, 55, 48, 57, 53, 53, 49, 54, 49, 54]⟩ := by
  kernel_rfl
theorem tx_2 : tx (-3) = ⟨#[45, 51]⟩ := by rfl
theorem tx_3 : tx (-1) = ⟨#[45, 49]⟩ := by rfl
theorem blen_1 : ((blen (-18446744073709551616 : Int).natAbs : Nat) : Int) = 65 := by
  rw [blen_eq (k := 65) (by decide) (by decide) (by decide)]; rfl
set_option maxHeartbeats 8000000 in
set_option maxRecDepth 100000 in
theorem awake_ok (w : World) : Calls Try.prog 22 #[] w (fun e w' => e = .returned (.bool true) ∧ Below w.heap.size w w') := by
  have hu25 := Try.underlying25
  have H := Sit.start w (fun _ => False)
  obtain ⟨P, eP⟩ : ∃ v : Int, v = 4294967296 := ⟨_, rfl⟩
  obtain ⟨Q, eQ⟩ : ∃ v : Int, v = -4294967296 := ⟨_, rfl⟩
  obtain ⟨T, eT⟩ : ∃ v : Int, v = -18446744073709551616 := ⟨_, rfl⟩
  obtain ⟨a, ea⟩ : ∃ v : Int, v = -7 := ⟨_, rfl⟩
  obtain ⟨b, eb⟩ : ∃ v : Int, v = 2 := ⟨_, rfl⟩
  obtain ⟨q, eq⟩ : ∃ v : Int, v = -3 := ⟨_, rfl⟩
  obtain ⟨r, er⟩ : ∃ v : Int, v = -1 := ⟨_, rfl⟩
  have hP := Aside0.mk (show pr ⟨#[52, 50, 57, 52, 57, 54, 55, 50, 57, 54]⟩ = (P, 0) by rw [eP]; exact pr_awake)
  have hQ := Aside0.mk (show -P = Q by omega)
  have hT := Aside0.mk (show P * Q = T by rw [eP, eQ, eT] <;> rfl)
  have ha := Aside0.mk (show (-7 : Int) = a by omega)
  have hb' := Aside0.mk (show (2 : Int) = b by omega)
  have hq := Aside0.mk (show a.tdiv b = q by rw [ea, eb, eq] <;> rfl)
  have hr' := Aside0.mk (show a.tmod b = r by rw [ea, eb, er] <;> rfl)
  have hbn := Aside0.mk (show b ≠ 0 by omega)
  have tT := Aside0.mk (show tx T = _ by subst eT; exact tx_1)
  have tq := Aside0.mk (show tx q = _ by subst eq; exact tx_2)
  have tr := Aside0.mk (show tx r = _ by subst er; exact tx_3)
  have hB := Aside0.mk (show ((blen T.natAbs : Nat) : Int) = 65 by rw [eT]; exact blen_1)
  have bP := Aside0.mk (bOf (r := P) (by omega))
  have bQ := Aside0.mk (bOf (r := Q) (by omega))
  have bT := Aside0.mk (bMul bP.out bQ.out hT.out)
  have ba := Aside0.mk (bOf (r := a) (by omega))
  have bq := Aside0.mk (bOf (r := q) (by omega))
  have br := Aside0.mk (bOf (r := r) (by omega))
  have bb := Aside0.mk (show ln b ≤ 1 from ln_bound b 1 (by omega))
  clear eP eQ eT ea eb eq er
  go_enter Try.func22, Try.ntmps22
  have st4 := trivial
  have st6 := trivial
  go_wp2_with (first
    | (clear st4; go_at_call 23; (with_reducible refine (ParseQ ⟨#[52, 50, 57, 52, 57, 54, 55, 50, 57, 54]⟩ _ P 0 hP.out).mono ?_); rintro e w1 ⟨A2, c3, rfl, hr, hb⟩; replace H := H.got (fresh_row hr) hb; clear hr hb)
    | (clear st6; (with_reducible refine gate_dst (N := 1) rfl ?_); refine box_event ?hg (N := 1) ?hd (cs := #[.bool false, .slice none 0 0]) (t := 25) ?hr ?_; (case hd => rfl); (case hg => rfl); (case hr => first | (go_simp; done) | (go_simp; rfl)); intro g1 hg w5 hbox hb; replace H := H.newbox hg hbox hb; clear hg hbox hb; have kg1_0 : w5.cell? ⟨g1, 0, none⟩ = some (.bool false) := H.cell m0 0; have zg1_0 := H.frozen (g := g1) m0 0; have kg1_1 : w5.cell? ⟨g1, 1, none⟩ = some (.slice none 0 0) := H.cell m0 1; have zg1_1 := H.frozen (g := g1) m0 1))
  replace H := ((H.setn [] 0 (.bool (ng P)) rfl).setn [] 1 (.slice A2 (ln P) c3) rfl)
  clear kg1_0 zg1_0 kg1_1 zg1_1
  replace H := H.drew
  refine start_ (n := 6) (S := fun w' => w'.cell? ⟨g1, 0, none⟩ = some (.bool (ng P)) ∧ w'.cell? ⟨g1, 1, none⟩ = some (.slice A2 (ln P) c3)) (ds := [5]) #[false, false, false, false, false, false] (by kernel_rfl) rfl rfl ⟨H.cell m0 0, H.cell m0 1⟩ (fun hHeld => ?_)
  generalize ((w5.setCell ⟨g1, 0, none⟩ (.bool (ng P))).setCell ⟨g1, 1, none⟩ (.slice A2 (ln P) c3)).drew = w7 at H hHeld ⊢
  refine take_ (i := 0) (N := some 11) (v := ?_) (a' := ?_) #[true, false, false, false, false, false] rfl rfl (by kernel_rfl) (fun _ _ _ h => h) (Or.inl ⟨by rfl, ?_⟩) hHeld ?_ ?_
  rotate_left
  · rintro w' ⟨s0, s1⟩
    go_simp
    with_reducible rfl
  rotate_left
  · simp only [Act.put, List.setIfInBounds_toArray, List.set_cons_zero, List.set_cons_succ, i64_w, i32_w]
    rfl
  refine take_ (i := 1) (N := some 12) (v := ?_) (a' := ?_) #[true, true, false, false, false, false] rfl rfl (by kernel_rfl) (fun _ _ _ h => h) (Or.inl ⟨by rfl, ?_⟩) hHeld ?_ ?_
  rotate_left
  · rintro w' ⟨s0, s1⟩
    go_simp
    with_reducible rfl
  rotate_left
  · simp only [Act.put, List.setIfInBounds_toArray, List.set_cons_zero, List.set_cons_succ, i64_w, i32_w]
    rfl
  refine join_ (σ := Option Addr × Nat × Option Addr × Nat × Nat) 1 #[true, true, true, true, true, false] (fun s_ => [(13, .agg #[.bool (ng Q), .slice s_.1 (ln Q) s_.2.1]), (14, .agg #[.bool (ng T), .slice s_.2.2.1 (ln T) s_.2.2.2.1]), (3, .pointer (some ⟨s_.2.2.2.2, 0, none⟩))]) (fun s_ w' => Sit w w' (fun _ => False) [(s_.2.2.2.2, .cells #[.bool false, .slice none 0 0] 25 (0, 0)), (g1, .cells #[.bool (ng P), .slice A2 (ln P) c3] 25 (0, 0))] [bw s_.2.2.1 s_.2.2.2.1 T, bw s_.1 s_.2.1 Q, bw A2 c3 P]) ?_ ?_
  rotate_left
  · intro hCont
    refine two_ (i := 2) (j := 4) (Ni := some 13) (Nj := some 3) #[true, true, true, false, false, false] #[true, true, false, false, true, false] rfl rfl rfl rfl (by kernel_rfl) (by decide) (by decide) (fun K hK => ?_) (fun K hK => ?_)
    · skip
      refine goes_ Try.func37 (by kernel_rfl) rfl #[.agg #[.bool (ng P), .slice A2 (ln P) c3]] (by rfl) rfl rfl (by (try simp only [List.map_toArray, List.map_cons, List.map_nil]); first | done | rfl) ?_
      with_reducible refine (NegQ (H.row _ m0) (lim bP.out (by decide)) Q hQ.out).mono ?_
      rintro e w28 ⟨A29, c30, rfl, hr, hb⟩
      replace H := H.got hr hb
      clear hr hb
      refine ⟨_, rfl, ?_⟩
      refine hK.out _ _ ⟨H.cell m0 0, H.cell m0 1⟩ (fun hHeld => ?_)
      clear hK K
      refine norm_ (a' := ?_) ?_ ?_
      rotate_left
      · show Act.put _ (some 13) _ = _
        simp only [Act.put, List.setIfInBounds_toArray, List.set_cons_zero, List.set_cons_succ, i64_w, i32_w]
        rfl
      refine two_ (i := 3) (j := 4) (Ni := some 14) (Nj := some 3) #[true, true, true, true, false, false] #[true, true, true, false, true, false] rfl rfl rfl rfl (by kernel_rfl) (by decide) (by decide) (fun K hK => ?_) (fun K hK => ?_)
      · skip
        refine goes_ Try.func31 (by kernel_rfl) rfl #[.agg #[.bool (ng P), .slice A2 (ln P) c3], .agg #[.bool (ng Q), .slice A29 (ln Q) c30]] (by rfl) rfl rfl (by (try simp only [List.map_toArray, List.map_cons, List.map_nil]); first | done | rfl) ?_
        with_reducible refine (MulQ (H.row _ m1) (H.row _ m0) (lim bP.out (by decide)) (lim bQ.out (by decide)) T hT.out).mono ?_
        rintro e w51 ⟨A52, c53, rfl, hr, hb⟩
        replace H := H.got hr hb
        clear hr hb
        refine ⟨_, rfl, ?_⟩
        refine hK.out _ _ ⟨H.cell m0 0, H.cell m0 1⟩ (fun hHeld => ?_)
        clear hK K
        refine norm_ (a' := ?_) ?_ ?_
        rotate_left
        · show Act.put _ (some 14) _ = _
          simp only [Act.put, List.setIfInBounds_toArray, List.set_cons_zero, List.set_cons_succ, i64_w, i32_w]
          rfl
        refine one_ (i := 4) (N := some 3) #[true, true, true, true, true, false] rfl rfl (by kernel_rfl) (by decide) (fun K hK => ?_)
        refine value_ (w1 := ?_) (v := ?_) (by rfl) rfl ?_ ?_
        rotate_left 2
        · go_simp
          constructor
          · rfl
          · rfl
        replace H := H.newbox rfl (blk_new _ (.cells #[.bool false, .slice none 0 0] 25 (0, 0))) (below_alloc (Below.refl _ _) _)
        refine hK.out _ _ ⟨H.cell m1 0, H.cell m1 1⟩ (fun hHeld => ?_)
        clear hK K
        refine norm_ (a' := ?_) ?_ ?_
        rotate_left
        · show Act.put _ (some 3) _ = _
          simp only [Act.put, List.setIfInBounds_toArray, List.set_cons_zero, List.set_cons_succ, i64_w, i32_w]
          rfl
        exact norm_ (by first | (simp only [putAll, Act.put, List.setIfInBounds_toArray, List.set_cons_zero, List.set_cons_succ]; done) | (simp only [putAll, Act.put, List.setIfInBounds_toArray, List.set_cons_zero, List.set_cons_succ]; rfl)) (hCont ⟨A29, c30, A52, c53, _⟩ _ H)
      · skip
        refine value_ (w1 := ?_) (v := ?_) (by rfl) rfl ?_ ?_
        rotate_left 2
        · go_simp
          constructor
          · rfl
          · rfl
        replace H := H.newbox rfl (blk_new _ (.cells #[.bool false, .slice none 0 0] 25 (0, 0))) (below_alloc (Below.refl _ _) _)
        refine hK.out _ _ ⟨H.cell m1 0, H.cell m1 1⟩ (fun hHeld => ?_)
        clear hK K
        refine norm_ (a' := ?_) ?_ ?_
        rotate_left
        · show Act.put _ (some 3) _ = _
          simp only [Act.put, List.setIfInBounds_toArray, List.set_cons_zero, List.set_cons_succ, i64_w, i32_w]
          rfl
        refine one_ (i := 3) (N := some 14) #[true, true, true, true, true, false] rfl rfl (by kernel_rfl) (by decide) (fun K hK => ?_)
        refine goes_ Try.func31 (by kernel_rfl) rfl #[.agg #[.bool (ng P), .slice A2 (ln P) c3], .agg #[.bool (ng Q), .slice A29 (ln Q) c30]] (by rfl) rfl rfl (by (try simp only [List.map_toArray, List.map_cons, List.map_nil]); first | done | rfl) ?_
        with_reducible refine (MulQ (H.row _ m1) (H.row _ m0) (lim bP.out (by decide)) (lim bQ.out (by decide)) T hT.out).mono ?_
        rintro e w51 ⟨A52, c53, rfl, hr, hb⟩
        replace H := H.got hr hb
        clear hr hb
        refine ⟨_, rfl, ?_⟩
        refine hK.out _ _ ⟨H.cell m1 0, H.cell m1 1⟩ (fun hHeld => ?_)
        clear hK K
        refine norm_ (a' := ?_) ?_ ?_
        rotate_left
        · show Act.put _ (some 14) _ = _
          simp only [Act.put, List.setIfInBounds_toArray, List.set_cons_zero, List.set_cons_succ, i64_w, i32_w]
          rfl
        exact norm_ (by first | (simp only [putAll, Act.put, List.setIfInBounds_toArray, List.set_cons_zero, List.set_cons_succ]; done) | (simp only [putAll, Act.put, List.setIfInBounds_toArray, List.set_cons_zero, List.set_cons_succ]; rfl)) (hCont ⟨A29, c30, A52, c53, _⟩ _ H)
    · skip
      refine value_ (w1 := ?_) (v := ?_) (by rfl) rfl ?_ ?_
      rotate_left 2
      · go_simp
        constructor
        · rfl
        · rfl
      replace H := H.newbox rfl (blk_new _ (.cells #[.bool false, .slice none 0 0] 25 (0, 0))) (below_alloc (Below.refl _ _) _)
      refine hK.out _ _ ⟨H.cell m1 0, H.cell m1 1⟩ (fun hHeld => ?_)
      clear hK K
      refine norm_ (a' := ?_) ?_ ?_
      rotate_left
      · show Act.put _ (some 3) _ = _
        simp only [Act.put, List.setIfInBounds_toArray, List.set_cons_zero, List.set_cons_succ, i64_w, i32_w]
        rfl
      refine one_ (i := 2) (N := some 13) #[true, true, true, false, true, false] rfl rfl (by kernel_rfl) (by decide) (fun K hK => ?_)
      refine goes_ Try.func37 (by kernel_rfl) rfl #[.agg #[.bool (ng P), .slice A2 (ln P) c3]] (by rfl) rfl rfl (by (try simp only [List.map_toArray, List.map_cons, List.map_nil]); first | done | rfl) ?_
      with_reducible refine (NegQ (H.row _ m0) (lim bP.out (by decide)) Q hQ.out).mono ?_
      rintro e w28 ⟨A29, c30, rfl, hr, hb⟩
      replace H := H.got hr hb
      clear hr hb
      refine ⟨_, rfl, ?_⟩
      refine hK.out _ _ ⟨H.cell m1 0, H.cell m1 1⟩ (fun hHeld => ?_)
      clear hK K
      refine norm_ (a' := ?_) ?_ ?_
      rotate_left
      · show Act.put _ (some 13) _ = _
        simp only [Act.put, List.setIfInBounds_toArray, List.set_cons_zero, List.set_cons_succ, i64_w, i32_w]
        rfl
      refine one_ (i := 3) (N := some 14) #[true, true, true, true, true, false] rfl rfl (by kernel_rfl) (by decide) (fun K hK => ?_)
      refine goes_ Try.func31 (by kernel_rfl) rfl #[.agg #[.bool (ng P), .slice A2 (ln P) c3], .agg #[.bool (ng Q), .slice A29 (ln Q) c30]] (by rfl) rfl rfl (by (try simp only [List.map_toArray, List.map_cons, List.map_nil]); first | done | rfl) ?_
      with_reducible refine (MulQ (H.row _ m1) (H.row _ m0) (lim bP.out (by decide)) (lim bQ.out (by decide)) T hT.out).mono ?_
      rintro e w51 ⟨A52, c53, rfl, hr, hb⟩
      replace H := H.got hr hb
      clear hr hb
      refine ⟨_, rfl, ?_⟩
      refine hK.out _ _ ⟨H.cell m1 0, H.cell m1 1⟩ (fun hHeld => ?_)
      clear hK K
      refine norm_ (a' := ?_) ?_ ?_
      rotate_left
      · show Act.put _ (some 14) _ = _
        simp only [Act.put, List.setIfInBounds_toArray, List.set_cons_zero, List.set_cons_succ, i64_w, i32_w]
        rfl
      exact norm_ (by first | (simp only [putAll, Act.put, List.setIfInBounds_toArray, List.set_cons_zero, List.set_cons_succ]; done) | (simp only [putAll, Act.put, List.setIfInBounds_toArray, List.set_cons_zero, List.set_cons_succ]; rfl)) (hCont ⟨A29, c30, A52, c53, _⟩ _ H)
  rintro ⟨A29, c30, A52, c53, g3⟩ wF H
  clear hHeld
  have hHeld := (show wF.cell? ⟨g1, 0, none⟩ = some (.bool (ng P)) ∧ wF.cell? ⟨g1, 1, none⟩ = some (.slice A2 (ln P) c3) from ⟨H.cell m1 0, H.cell m1 1⟩)
  refine norm_ (a' := ?_) ?_ ?_
  rotate_left
  · simp only [putAll, Act.put, List.setIfInBounds_toArray, List.set_cons_zero, List.set_cons_succ]
    rfl
  refine last_ (i := 5) (N := none) #[true, true, true, true, true, true] rfl rfl (by kernel_rfl) (by decide) (fun K hK => ?_)
  have kg3_0 : wF.cell? ⟨g3, 0, none⟩ = some (.bool false) := H.cell m0 0
  have zg3_0 := H.frozen (g := g3) m0 0
  have kg3_1 : wF.cell? ⟨g3, 1, none⟩ = some (.slice none 0 0) := H.cell m0 1
  have zg3_1 := H.frozen (g := g3) m0 1
  have kg1_0 : wF.cell? ⟨g1, 0, none⟩ = some (.bool (ng P)) := H.cell m1 0
  have zg1_0 := H.frozen (g := g1) m1 0
  have kg1_1 : wF.cell? ⟨g1, 1, none⟩ = some (.slice A2 (ln P) c3) := H.cell m1 1
  have zg1_1 := H.frozen (g := g1) m1 1
  refine skip_ (w1 := ?_) (by rfl) rfl ?_ ?_
  rotate_left
  · go_simp
    rfl
  refine hK.out _ _ ?_
  clear hK K
  refine done_ (by kernel_rfl) ?_
  try clear hHeld
  replace H := ((H.setn [] 0 (.bool (ng T)) rfl).setn [] 1 (.slice A52 (ln T) c53) rfl)
  clear kg3_0 zg3_0 kg3_1 zg3_1 kg1_0 zg1_0 kg1_1 zg1_1
  generalize ((wF.setCell ⟨g3, 0, none⟩ (.bool (ng T))).setCell ⟨g3, 1, none⟩ (.slice A52 (ln T) c53)) = w94 at H ⊢
  have kg3_0 : w94.cell? ⟨g3, 0, none⟩ = some (.bool (ng T)) := H.cell m0 0
  have zg3_0 := H.frozen (g := g3) m0 0
  have kg3_1 : w94.cell? ⟨g3, 1, none⟩ = some (.slice A52 (ln T) c53) := H.cell m0 1
  have zg3_1 := H.frozen (g := g3) m0 1
  have kg1_0 : w94.cell? ⟨g1, 0, none⟩ = some (.bool (ng P)) := H.cell m1 0
  have zg1_0 := H.frozen (g := g1) m1 0
  have kg1_1 : w94.cell? ⟨g1, 1, none⟩ = some (.slice A2 (ln P) c3) := H.cell m1 1
  have zg1_1 := H.frozen (g := g1) m1 1
  have st98 := trivial
  have st102 := trivial
  have st108 := trivial
  have st110 := trivial
  have st112 := trivial
  go_upto_region 4 with (first
    | (clear st98; go_at_call 27; (with_reducible refine (OfQ _ (-7) a ha.out (by omega) (by omega)).mono ?_); rintro e w95 ⟨A96, c97, rfl, hr, hb⟩; replace H := H.got (fresh_row hr) hb; clear hr hb; clear kg3_0 zg3_0 kg3_1 zg3_1 kg1_0 zg1_0 kg1_1 zg1_1; have kg3_0 : w95.cell? ⟨g3, 0, none⟩ = some (.bool (ng T)) := H.cell m0 0; have zg3_0 := H.frozen (g := g3) m0 0; have kg3_1 : w95.cell? ⟨g3, 1, none⟩ = some (.slice A52 (ln T) c53) := H.cell m0 1; have zg3_1 := H.frozen (g := g3) m0 1; have kg1_0 : w95.cell? ⟨g1, 0, none⟩ = some (.bool (ng P)) := H.cell m1 0; have zg1_0 := H.frozen (g := g1) m1 0; have kg1_1 : w95.cell? ⟨g1, 1, none⟩ = some (.slice A2 (ln P) c3) := H.cell m1 1; have zg1_1 := H.frozen (g := g1) m1 1)
    | (clear st102; go_at_call 27; (with_reducible refine (OfQ _ 2 b hb'.out (by omega) (by omega)).mono ?_); rintro e w99 ⟨A100, c101, rfl, hr, hb⟩; replace H := H.got (fresh_row hr) hb; clear hr hb; clear kg3_0 zg3_0 kg3_1 zg3_1 kg1_0 zg1_0 kg1_1 zg1_1; have kg3_0 : w99.cell? ⟨g3, 0, none⟩ = some (.bool (ng T)) := H.cell m0 0; have zg3_0 := H.frozen (g := g3) m0 0; have kg3_1 : w99.cell? ⟨g3, 1, none⟩ = some (.slice A52 (ln T) c53) := H.cell m0 1; have zg3_1 := H.frozen (g := g3) m0 1; have kg1_0 : w99.cell? ⟨g1, 0, none⟩ = some (.bool (ng P)) := H.cell m1 0; have zg1_0 := H.frozen (g := g1) m1 0; have kg1_1 : w99.cell? ⟨g1, 1, none⟩ = some (.slice A2 (ln P) c3) := H.cell m1 1; have zg1_1 := H.frozen (g := g1) m1 1)
    | (clear st108; go_at_call 32; (with_reducible refine (DivQ1 (H.row _ m1) (H.row _ m0) (lim ba.out (by decide)) bb.out hbn.out q r hq.out hr'.out).mono ?_); rintro e w103 ⟨A104, c105, A106, c107, rfl, hr, hr2, hb⟩; replace H := (H.got hr hb).more ((H.got hr2 hb).row _ m0); clear hr hr2 hb; clear kg3_0 zg3_0 kg3_1 zg3_1 kg1_0 zg1_0 kg1_1 zg1_1; have kg3_0 : w103.cell? ⟨g3, 0, none⟩ = some (.bool (ng T)) := H.cell m0 0; have zg3_0 := H.frozen (g := g3) m0 0; have kg3_1 : w103.cell? ⟨g3, 1, none⟩ = some (.slice A52 (ln T) c53) := H.cell m0 1; have zg3_1 := H.frozen (g := g3) m0 1; have kg1_0 : w103.cell? ⟨g1, 0, none⟩ = some (.bool (ng P)) := H.cell m1 0; have zg1_0 := H.frozen (g := g1) m1 0; have kg1_1 : w103.cell? ⟨g1, 1, none⟩ = some (.slice A2 (ln P) c3) := H.cell m1 1; have zg1_1 := H.frozen (g := g1) m1 1)
    | (clear st110; (with_reducible refine gate_dst (N := 4) rfl ?_); refine box_event ?hg (N := 4) ?hd (cs := #[.bool false, .slice none 0 0]) (t := 25) ?hr ?_; (case hd => rfl); (case hg => rfl); (case hr => first | (go_simp; done) | (go_simp; rfl)); intro g4 hg w109 hbox hb; replace H := H.newbox hg hbox hb; clear hg hbox hb; clear kg3_0 zg3_0 kg3_1 zg3_1 kg1_0 zg1_0 kg1_1 zg1_1; have kg4_0 : w109.cell? ⟨g4, 0, none⟩ = some (.bool false) := H.cell m0 0; have zg4_0 := H.frozen (g := g4) m0 0; have kg4_1 : w109.cell? ⟨g4, 1, none⟩ = some (.slice none 0 0) := H.cell m0 1; have zg4_1 := H.frozen (g := g4) m0 1; have kg3_0 : w109.cell? ⟨g3, 0, none⟩ = some (.bool (ng T)) := H.cell m1 0; have zg3_0 := H.frozen (g := g3) m1 0; have kg3_1 : w109.cell? ⟨g3, 1, none⟩ = some (.slice A52 (ln T) c53) := H.cell m1 1; have zg3_1 := H.frozen (g := g3) m1 1; have kg1_0 : w109.cell? ⟨g1, 0, none⟩ = some (.bool (ng P)) := H.cell m2 0; have zg1_0 := H.frozen (g := g1) m2 0; have kg1_1 : w109.cell? ⟨g1, 1, none⟩ = some (.slice A2 (ln P) c3) := H.cell m2 1; have zg1_1 := H.frozen (g := g1) m2 1; have ne_g4_g3 := H.ne (g := g4) (g' := g3) 0 1 rfl rfl (by decide); have ne_g3_g4 := ne_g4_g3.symm; have ne_g4_g1 := H.ne (g := g4) (g' := g1) 0 2 rfl rfl (by decide); have ne_g1_g4 := ne_g4_g1.symm)
    | (clear st112; (with_reducible refine gate_dst (N := 5) rfl ?_); refine box_event ?hg (N := 5) ?hd (cs := #[.bool false, .slice none 0 0]) (t := 25) ?hr ?_; (case hd => rfl); (case hg => rfl); (case hr => first | (go_simp; done) | (go_simp; rfl)); intro g5 hg w111 hbox hb; replace H := H.newbox hg hbox hb; clear hg hbox hb; clear kg4_0 zg4_0 kg4_1 zg4_1 kg3_0 zg3_0 kg3_1 zg3_1 kg1_0 zg1_0 kg1_1 zg1_1; have kg5_0 : w111.cell? ⟨g5, 0, none⟩ = some (.bool false) := H.cell m0 0; have zg5_0 := H.frozen (g := g5) m0 0; have kg5_1 : w111.cell? ⟨g5, 1, none⟩ = some (.slice none 0 0) := H.cell m0 1; have zg5_1 := H.frozen (g := g5) m0 1; have kg4_0 : w111.cell? ⟨g4, 0, none⟩ = some (.bool false) := H.cell m1 0; have zg4_0 := H.frozen (g := g4) m1 0; have kg4_1 : w111.cell? ⟨g4, 1, none⟩ = some (.slice none 0 0) := H.cell m1 1; have zg4_1 := H.frozen (g := g4) m1 1; have kg3_0 : w111.cell? ⟨g3, 0, none⟩ = some (.bool (ng T)) := H.cell m2 0; have zg3_0 := H.frozen (g := g3) m2 0; have kg3_1 : w111.cell? ⟨g3, 1, none⟩ = some (.slice A52 (ln T) c53) := H.cell m2 1; have zg3_1 := H.frozen (g := g3) m2 1; have kg1_0 : w111.cell? ⟨g1, 0, none⟩ = some (.bool (ng P)) := H.cell m3 0; have zg1_0 := H.frozen (g := g1) m3 0; have kg1_1 : w111.cell? ⟨g1, 1, none⟩ = some (.slice A2 (ln P) c3) := H.cell m3 1; have zg1_1 := H.frozen (g := g1) m3 1; have ne_g5_g4 := H.ne (g := g5) (g' := g4) 0 1 rfl rfl (by decide); have ne_g4_g5 := ne_g5_g4.symm; have ne_g5_g3 := H.ne (g := g5) (g' := g3) 0 2 rfl rfl (by decide); have ne_g3_g5 := ne_g5_g3.symm; have ne_g5_g1 := H.ne (g := g5) (g' := g1) 0 3 rfl rfl (by decide); have ne_g1_g5 := ne_g5_g1.symm))
  (try simp only [Act.put, List.setIfInBounds_toArray, List.set_cons_zero, List.set_cons_succ])
  replace H := ((((H.setn [_] 0 (.bool (ng q)) rfl).setn [_] 1 (.slice A104 (ln q) c105) rfl).setn [] 0 (.bool (ng r)) rfl).setn [] 1 (.slice A106 (ln r) c107) rfl)
  clear kg5_0 zg5_0 kg5_1 zg5_1 kg4_0 zg4_0 kg4_1 zg4_1 kg3_0 zg3_0 kg3_1 zg3_1 kg1_0 zg1_0 kg1_1 zg1_1
  generalize ((((w111.setCell ⟨g4, 0, none⟩ (.bool (ng q))).setCell ⟨g4, 1, none⟩ (.slice A104 (ln q) c105)).setCell ⟨g5, 0, none⟩ (.bool (ng r))).setCell ⟨g5, 1, none⟩ (.slice A106 (ln r) c107)) = w113 at H ⊢
  have kg5_0 : w113.cell? ⟨g5, 0, none⟩ = some (.bool (ng r)) := H.cell m0 0
  have zg5_0 := H.frozen (g := g5) m0 0
  have kg5_1 : w113.cell? ⟨g5, 1, none⟩ = some (.slice A106 (ln r) c107) := H.cell m0 1
  have zg5_1 := H.frozen (g := g5) m0 1
  have kg4_0 : w113.cell? ⟨g4, 0, none⟩ = some (.bool (ng q)) := H.cell m1 0
  have zg4_0 := H.frozen (g := g4) m1 0
  have kg4_1 : w113.cell? ⟨g4, 1, none⟩ = some (.slice A104 (ln q) c105) := H.cell m1 1
  have zg4_1 := H.frozen (g := g4) m1 1
  have kg3_0 : w113.cell? ⟨g3, 0, none⟩ = some (.bool (ng T)) := H.cell m2 0
  have zg3_0 := H.frozen (g := g3) m2 0
  have kg3_1 : w113.cell? ⟨g3, 1, none⟩ = some (.slice A52 (ln T) c53) := H.cell m2 1
  have zg3_1 := H.frozen (g := g3) m2 1
  have kg1_0 : w113.cell? ⟨g1, 0, none⟩ = some (.bool (ng P)) := H.cell m3 0
  have zg1_0 := H.frozen (g := g1) m3 0
  have kg1_1 : w113.cell? ⟨g1, 1, none⟩ = some (.slice A2 (ln P) c3) := H.cell m3 1
  have zg1_1 := H.frozen (g := g1) m3 1
  have st115 := trivial
  have st117 := trivial
  have st119 := trivial
  have st121 := trivial
  go_wp2_with (first
    | (clear st115; go_at_call 26; (with_reducible refine (TextQ (H.row _ m4) (lim bT.out (by decide)) _ tT.out).mono ?_); rintro e w114 ⟨rfl, hb⟩; replace H := H.call hb; clear hb; clear kg5_0 zg5_0 kg5_1 zg5_1 kg4_0 zg4_0 kg4_1 zg4_1 kg3_0 zg3_0 kg3_1 zg3_1 kg1_0 zg1_0 kg1_1 zg1_1; have kg5_0 : w114.cell? ⟨g5, 0, none⟩ = some (.bool (ng r)) := H.cell m0 0; have zg5_0 := H.frozen (g := g5) m0 0; have kg5_1 : w114.cell? ⟨g5, 1, none⟩ = some (.slice A106 (ln r) c107) := H.cell m0 1; have zg5_1 := H.frozen (g := g5) m0 1; have kg4_0 : w114.cell? ⟨g4, 0, none⟩ = some (.bool (ng q)) := H.cell m1 0; have zg4_0 := H.frozen (g := g4) m1 0; have kg4_1 : w114.cell? ⟨g4, 1, none⟩ = some (.slice A104 (ln q) c105) := H.cell m1 1; have zg4_1 := H.frozen (g := g4) m1 1; have kg3_0 : w114.cell? ⟨g3, 0, none⟩ = some (.bool (ng T)) := H.cell m2 0; have zg3_0 := H.frozen (g := g3) m2 0; have kg3_1 : w114.cell? ⟨g3, 1, none⟩ = some (.slice A52 (ln T) c53) := H.cell m2 1; have zg3_1 := H.frozen (g := g3) m2 1; have kg1_0 : w114.cell? ⟨g1, 0, none⟩ = some (.bool (ng P)) := H.cell m3 0; have zg1_0 := H.frozen (g := g1) m3 0; have kg1_1 : w114.cell? ⟨g1, 1, none⟩ = some (.slice A2 (ln P) c3) := H.cell m3 1; have zg1_1 := H.frozen (g := g1) m3 1)
    | (clear st117; go_at_call 36; (with_reducible refine (BitsQ (H.row _ m4) (lim bT.out (by decide)) 65 hB.out).mono ?_); rintro e w116 ⟨rfl, hb⟩; replace H := H.call hb; clear hb; clear kg5_0 zg5_0 kg5_1 zg5_1 kg4_0 zg4_0 kg4_1 zg4_1 kg3_0 zg3_0 kg3_1 zg3_1 kg1_0 zg1_0 kg1_1 zg1_1; have kg5_0 : w116.cell? ⟨g5, 0, none⟩ = some (.bool (ng r)) := H.cell m0 0; have zg5_0 := H.frozen (g := g5) m0 0; have kg5_1 : w116.cell? ⟨g5, 1, none⟩ = some (.slice A106 (ln r) c107) := H.cell m0 1; have zg5_1 := H.frozen (g := g5) m0 1; have kg4_0 : w116.cell? ⟨g4, 0, none⟩ = some (.bool (ng q)) := H.cell m1 0; have zg4_0 := H.frozen (g := g4) m1 0; have kg4_1 : w116.cell? ⟨g4, 1, none⟩ = some (.slice A104 (ln q) c105) := H.cell m1 1; have zg4_1 := H.frozen (g := g4) m1 1; have kg3_0 : w116.cell? ⟨g3, 0, none⟩ = some (.bool (ng T)) := H.cell m2 0; have zg3_0 := H.frozen (g := g3) m2 0; have kg3_1 : w116.cell? ⟨g3, 1, none⟩ = some (.slice A52 (ln T) c53) := H.cell m2 1; have zg3_1 := H.frozen (g := g3) m2 1; have kg1_0 : w116.cell? ⟨g1, 0, none⟩ = some (.bool (ng P)) := H.cell m3 0; have zg1_0 := H.frozen (g := g1) m3 0; have kg1_1 : w116.cell? ⟨g1, 1, none⟩ = some (.slice A2 (ln P) c3) := H.cell m3 1; have zg1_1 := H.frozen (g := g1) m3 1)
    | (clear st119; go_at_call 26; (with_reducible refine (TextQ (H.row _ m1) (lim bq.out (by decide)) _ tq.out).mono ?_); rintro e w118 ⟨rfl, hb⟩; replace H := H.call hb; clear hb; clear kg5_0 zg5_0 kg5_1 zg5_1 kg4_0 zg4_0 kg4_1 zg4_1 kg3_0 zg3_0 kg3_1 zg3_1 kg1_0 zg1_0 kg1_1 zg1_1; have kg5_0 : w118.cell? ⟨g5, 0, none⟩ = some (.bool (ng r)) := H.cell m0 0; have zg5_0 := H.frozen (g := g5) m0 0; have kg5_1 : w118.cell? ⟨g5, 1, none⟩ = some (.slice A106 (ln r) c107) := H.cell m0 1; have zg5_1 := H.frozen (g := g5) m0 1; have kg4_0 : w118.cell? ⟨g4, 0, none⟩ = some (.bool (ng q)) := H.cell m1 0; have zg4_0 := H.frozen (g := g4) m1 0; have kg4_1 : w118.cell? ⟨g4, 1, none⟩ = some (.slice A104 (ln q) c105) := H.cell m1 1; have zg4_1 := H.frozen (g := g4) m1 1; have kg3_0 : w118.cell? ⟨g3, 0, none⟩ = some (.bool (ng T)) := H.cell m2 0; have zg3_0 := H.frozen (g := g3) m2 0; have kg3_1 : w118.cell? ⟨g3, 1, none⟩ = some (.slice A52 (ln T) c53) := H.cell m2 1; have zg3_1 := H.frozen (g := g3) m2 1; have kg1_0 : w118.cell? ⟨g1, 0, none⟩ = some (.bool (ng P)) := H.cell m3 0; have zg1_0 := H.frozen (g := g1) m3 0; have kg1_1 : w118.cell? ⟨g1, 1, none⟩ = some (.slice A2 (ln P) c3) := H.cell m3 1; have zg1_1 := H.frozen (g := g1) m3 1)
    | (clear st121; go_at_call 26; (with_reducible refine (TextQ (H.row _ m0) (lim br.out (by decide)) _ tr.out).mono ?_); rintro e w120 ⟨rfl, hb⟩; replace H := H.call hb; clear hb; clear kg5_0 zg5_0 kg5_1 zg5_1 kg4_0 zg4_0 kg4_1 zg4_1 kg3_0 zg3_0 kg3_1 zg3_1 kg1_0 zg1_0 kg1_1 zg1_1; have kg5_0 : w120.cell? ⟨g5, 0, none⟩ = some (.bool (ng r)) := H.cell m0 0; have zg5_0 := H.frozen (g := g5) m0 0; have kg5_1 : w120.cell? ⟨g5, 1, none⟩ = some (.slice A106 (ln r) c107) := H.cell m0 1; have zg5_1 := H.frozen (g := g5) m0 1; have kg4_0 : w120.cell? ⟨g4, 0, none⟩ = some (.bool (ng q)) := H.cell m1 0; have zg4_0 := H.frozen (g := g4) m1 0; have kg4_1 : w120.cell? ⟨g4, 1, none⟩ = some (.slice A104 (ln q) c105) := H.cell m1 1; have zg4_1 := H.frozen (g := g4) m1 1; have kg3_0 : w120.cell? ⟨g3, 0, none⟩ = some (.bool (ng T)) := H.cell m2 0; have zg3_0 := H.frozen (g := g3) m2 0; have kg3_1 : w120.cell? ⟨g3, 1, none⟩ = some (.slice A52 (ln T) c53) := H.cell m2 1; have zg3_1 := H.frozen (g := g3) m2 1; have kg1_0 : w120.cell? ⟨g1, 0, none⟩ = some (.bool (ng P)) := H.cell m3 0; have zg1_0 := H.frozen (g := g1) m3 0; have kg1_1 : w120.cell? ⟨g1, 1, none⟩ = some (.slice A2 (ln P) c3) := H.cell m3 1; have zg1_1 := H.frozen (g := g1) m3 1))
  go_ret
  exact ⟨rfl, H.below⟩

end Go.Proofs.Ytdkapdgbfejgdaa

/- ontimelaw01.two and abs. -/
namespace Go.Proofs.Ytdkapdgbfejgdaa
open Go.RowKit Go.Proofs.YtdkapdgbfejgdaaW.PrintWords Go.Proofs.YtdkapdgbfejgdaaW.PrintLast Go.Proofs.YtdkapdgbfejgdaaW.PrintMore
set_option linter.unusedSimpArgs false
set_option linter.unusedVariables false

set_option maxHeartbeats 8000000 in
set_option maxRecDepth 100000 in
theorem Abs_neg {A : Option Addr} {c : Nat} {m : Int} {w : World} {ok : Nat → Prop} (hf : (bw A c m).at w ok) (hm : ln m ≤ 10000000) (r : Int) (hr : Aside0 (-m = r)) (hs : Aside0 (sg m = -1)) : Calls Try.prog 35 #[.agg #[.bool (ng m), .slice A (ln m) c]] w (RetI w ok r) := by
  have hu25 := Try.underlying25
  have H := (Sit.start w ok).arg hf
  have hA := Aside0.mk hf
  clear hf hA
  have bm := Aside0.mk hm
  clear hm
  go_enter Try.func35, Try.ntmps35
  have st2 := trivial
  have st4 := trivial
  have st6 := trivial
  have st10 := trivial
  go_wp2_with (first
    | (clear st2; (with_reducible refine gate_dst (N := 1) rfl ?_); refine box_event ?hg (N := 1) ?hd (cs := #[.bool (ng m), .slice A (ln m) c]) (t := 25) ?hr ?_; (case hd => rfl); (case hg => rfl); (case hr => first | (go_simp; done) | (go_simp; rfl)); intro g1 hg w1 hbox hb; replace H := H.newbox hg hbox hb; clear hg hbox hb; have kg1_0 : w1.cell? ⟨g1, 0, none⟩ = some (.bool (ng m)) := H.cell m0 0; have zg1_0 := H.frozen (g := g1) m0 0; have kg1_1 : w1.cell? ⟨g1, 1, none⟩ = some (.slice A (ln m) c) := H.cell m0 1; have zg1_1 := H.frozen (g := g1) m0 1)
    | (clear st4; (with_reducible refine gate_dst (N := 2) rfl ?_); refine box_event ?hg (N := 2) ?hd (cs := #[.bool false, .slice none 0 0]) (t := 25) ?hr ?_; (case hd => rfl); (case hg => rfl); (case hr => first | (go_simp; done) | (go_simp; rfl)); intro g2 hg w3 hbox hb; replace H := H.newbox hg hbox hb; clear hg hbox hb; clear kg1_0 zg1_0 kg1_1 zg1_1; have kg2_0 : w3.cell? ⟨g2, 0, none⟩ = some (.bool false) := H.cell m0 0; have zg2_0 := H.frozen (g := g2) m0 0; have kg2_1 : w3.cell? ⟨g2, 1, none⟩ = some (.slice none 0 0) := H.cell m0 1; have zg2_1 := H.frozen (g := g2) m0 1; have kg1_0 : w3.cell? ⟨g1, 0, none⟩ = some (.bool (ng m)) := H.cell m1 0; have zg1_0 := H.frozen (g := g1) m1 0; have kg1_1 : w3.cell? ⟨g1, 1, none⟩ = some (.slice A (ln m) c) := H.cell m1 1; have zg1_1 := H.frozen (g := g1) m1 1; have ne_g2_g1 := H.ne (g := g2) (g' := g1) 0 1 rfl rfl (by decide); have ne_g1_g2 := ne_g2_g1.symm)
    | (clear st6; go_at_call 25; (with_reducible refine (SignQ _ _ _ (lim bm.out (by decide)) (-1) hs.out).mono ?_); rintro e w5 ⟨rfl, hb⟩; replace H := H.call hb; clear hb; clear kg2_0 zg2_0 kg2_1 zg2_1 kg1_0 zg1_0 kg1_1 zg1_1; have kg2_0 : w5.cell? ⟨g2, 0, none⟩ = some (.bool false) := H.cell m0 0; have zg2_0 := H.frozen (g := g2) m0 0; have kg2_1 : w5.cell? ⟨g2, 1, none⟩ = some (.slice none 0 0) := H.cell m0 1; have zg2_1 := H.frozen (g := g2) m0 1; have kg1_0 : w5.cell? ⟨g1, 0, none⟩ = some (.bool (ng m)) := H.cell m1 0; have zg1_0 := H.frozen (g := g1) m1 0; have kg1_1 : w5.cell? ⟨g1, 1, none⟩ = some (.slice A (ln m) c) := H.cell m1 1; have zg1_1 := H.frozen (g := g1) m1 1)
    | (clear st10; go_at_call 37; (with_reducible refine (NegQ (H.row _ m0) (lim bm.out (by decide)) r hr.out).mono ?_); rintro e w7 ⟨A8, c9, rfl, hr, hb⟩; replace H := H.got hr hb; clear hr hb; clear kg2_0 zg2_0 kg2_1 zg2_1 kg1_0 zg1_0 kg1_1 zg1_1; have kg2_0 : w7.cell? ⟨g2, 0, none⟩ = some (.bool false) := H.cell m0 0; have zg2_0 := H.frozen (g := g2) m0 0; have kg2_1 : w7.cell? ⟨g2, 1, none⟩ = some (.slice none 0 0) := H.cell m0 1; have zg2_1 := H.frozen (g := g2) m0 1; have kg1_0 : w7.cell? ⟨g1, 0, none⟩ = some (.bool (ng m)) := H.cell m1 0; have zg1_0 := H.frozen (g := g1) m1 0; have kg1_1 : w7.cell? ⟨g1, 1, none⟩ = some (.slice A (ln m) c) := H.cell m1 1; have zg1_1 := H.frozen (g := g1) m1 1))
  replace H := ((H.setn [] 0 (.bool (ng r)) rfl).setn [] 1 (.slice A8 (ln r) c9) rfl)
  refine bodyPost_ret (results_cell_row rfl _ _ g2 25 #[.bool (ng r), .slice A8 (ln r) c9] (0, 0) _ rfl (H.blk m0) Try.underlying25 rfl (by kernel_rfl)) rfl ?_
  exact ⟨A8, c9, rfl, H.ret m0, H.below⟩

set_option maxHeartbeats 8000000 in
set_option maxRecDepth 100000 in
theorem Abs_pos {A : Option Addr} {c : Nat} {m : Int} {w : World} {ok : Nat → Prop} (hf : (bw A c m).at w ok) (hm : ln m ≤ 10000000) (r : Int) (hr : Aside0 (m = r)) (s : Int) (s0 : decide (s < 0) = false) (hs : Aside0 (sg m = s)) : Calls Try.prog 35 #[.agg #[.bool (ng m), .slice A (ln m) c]] w (RetI w ok r) := by
  have hu25 := Try.underlying25
  have H := (Sit.start w ok).arg hf
  have hA := Aside0.mk hf
  clear hf hA
  have bm := Aside0.mk hm
  clear hm
  go_enter Try.func35, Try.ntmps35
  have st2 := trivial
  have st4 := trivial
  have st6 := trivial
  go_wp2_with (first
    | (clear st2; (with_reducible refine gate_dst (N := 1) rfl ?_); refine box_event ?hg (N := 1) ?hd (cs := #[.bool (ng m), .slice A (ln m) c]) (t := 25) ?hr ?_; (case hd => rfl); (case hg => rfl); (case hr => first | (go_simp; done) | (go_simp; rfl)); intro g1 hg w1 hbox hb; replace H := H.newbox hg hbox hb; clear hg hbox hb; have kg1_0 : w1.cell? ⟨g1, 0, none⟩ = some (.bool (ng m)) := H.cell m0 0; have zg1_0 := H.frozen (g := g1) m0 0; have kg1_1 : w1.cell? ⟨g1, 1, none⟩ = some (.slice A (ln m) c) := H.cell m0 1; have zg1_1 := H.frozen (g := g1) m0 1)
    | (clear st4; (with_reducible refine gate_dst (N := 2) rfl ?_); refine box_event ?hg (N := 2) ?hd (cs := #[.bool false, .slice none 0 0]) (t := 25) ?hr ?_; (case hd => rfl); (case hg => rfl); (case hr => first | (go_simp; done) | (go_simp; rfl)); intro g2 hg w3 hbox hb; replace H := H.newbox hg hbox hb; clear hg hbox hb; clear kg1_0 zg1_0 kg1_1 zg1_1; have kg2_0 : w3.cell? ⟨g2, 0, none⟩ = some (.bool false) := H.cell m0 0; have zg2_0 := H.frozen (g := g2) m0 0; have kg2_1 : w3.cell? ⟨g2, 1, none⟩ = some (.slice none 0 0) := H.cell m0 1; have zg2_1 := H.frozen (g := g2) m0 1; have kg1_0 : w3.cell? ⟨g1, 0, none⟩ = some (.bool (ng m)) := H.cell m1 0; have zg1_0 := H.frozen (g := g1) m1 0; have kg1_1 : w3.cell? ⟨g1, 1, none⟩ = some (.slice A (ln m) c) := H.cell m1 1; have zg1_1 := H.frozen (g := g1) m1 1; have ne_g2_g1 := H.ne (g := g2) (g' := g1) 0 1 rfl rfl (by decide); have ne_g1_g2 := ne_g2_g1.symm)
    | (clear st6; go_at_call 25; (with_reducible refine (SignQ _ _ _ (lim bm.out (by decide)) s hs.out).mono ?_); rintro e w5 ⟨rfl, hb⟩; replace H := H.call hb; clear hb; clear kg2_0 zg2_0 kg2_1 zg2_1 kg1_0 zg1_0 kg1_1 zg1_1; have kg2_0 : w5.cell? ⟨g2, 0, none⟩ = some (.bool false) := H.cell m0 0; have zg2_0 := H.frozen (g := g2) m0 0; have kg2_1 : w5.cell? ⟨g2, 1, none⟩ = some (.slice none 0 0) := H.cell m0 1; have zg2_1 := H.frozen (g := g2) m0 1; have kg1_0 : w5.cell? ⟨g1, 0, none⟩ = some (.bool (ng m)) := H.cell m1 0; have zg1_0 := H.frozen (g := g1) m1 0; have kg1_1 : w5.cell? ⟨g1, 1, none⟩ = some (.slice A (ln m) c) := H.cell m1 1; have zg1_1 := H.frozen (g := g1) m1 1))
  replace H := ((H.setn [] 0 (.bool (ng m)) rfl).setn [] 1 (.slice A (ln m) c) rfl)
  obtain rfl := hr.out
  refine bodyPost_ret (results_cell_row rfl _ _ g2 25 #[.bool (ng m), .slice A (ln m) c] (0, 0) _ rfl (H.blk m0) Try.underlying25 rfl (by kernel_rfl)) rfl ?_
  exact ⟨A, c, rfl, H.ret m0, H.below⟩

theorem AbsQ {A : Option Addr} {c : Nat} {m : Int} {w : World} {ok : Nat → Prop} (hf : (bw A c m).at w ok) (hm : ln m ≤ 10000000) (r : Int) (h : (m.natAbs : Int) = r) : Calls Try.prog 35 #[.agg #[.bool (ng m), .slice A (ln m) c]] w (RetI w ok r) := by
  by_cases h0 : m < 0
  · exact Abs_neg hf hm r ⟨by omega⟩ ⟨by unfold sg; rw [if_pos h0]⟩
  · refine Abs_pos hf hm r ⟨by omega⟩ (sg m) (decide_eq_false ?_) ⟨rfl⟩
    unfold sg
    rw [if_neg h0]
    split <;> omega

/-- It returns two fresh integers and whether both are there. -/
def RetTwo (w : World) (x y : Int) (b : Bool) (e : Ending) (w' : World) : Prop :=
  ∃ A c A' c', e = .returned (.tuple #[.agg #[.bool (ng x), .slice A (ln x) c], .agg #[.bool (ng y), .slice A' (ln y) c'], .bool b]) ∧
    (bw A c x).at w' (fun k => w.heap.size ≤ k) ∧ (bw A' c' y).at w' (fun k => w.heap.size ≤ k) ∧ Below w.heap.size w w'

set_option maxHeartbeats 8000000 in
set_option maxRecDepth 100000 in
theorem two_a (a b : ByteArray) (w : World) (ha : 80 < a.size) : Calls Try.prog 33 #[.string a, .string b] w (RetTwo w 0 0 false) := by
  have hu25 := Try.underlying25
  have H := (Sit.start w (fun _ => False)).nilrow
  have da : decide (80 < (a.size : Int)) = true := decide_eq_true (by omega)
  have ea : decide (80 < a.size) = true := decide_eq_true (by omega)
  clear ha
  go_enter Try.func33, Try.ntmps33
  have st2 := trivial
  have st4 := trivial
  go_upto_region 2 with (first
    | (clear st2; (with_reducible refine gate_dst (N := 4) rfl ?_); refine box_event ?hg (N := 4) ?hd (cs := #[.bool false, .slice none 0 0]) (t := 25) ?hr ?_; (case hd => rfl); (case hg => rfl); (case hr => first | (go_simp; done) | (go_simp; rfl)); intro g4 hg w1 hbox hb; replace H := H.newbox hg hbox hb; clear hg hbox hb; have kg4_0 : w1.cell? ⟨g4, 0, none⟩ = some (.bool false) := H.cell m0 0; have zg4_0 := H.frozen (g := g4) m0 0; have kg4_1 : w1.cell? ⟨g4, 1, none⟩ = some (.slice none 0 0) := H.cell m0 1; have zg4_1 := H.frozen (g := g4) m0 1)
    | (clear st4; (with_reducible refine gate_dst (N := 5) rfl ?_); refine box_event ?hg (N := 5) ?hd (cs := #[.bool false, .slice none 0 0]) (t := 25) ?hr ?_; (case hd => rfl); (case hg => rfl); (case hr => first | (go_simp; done) | (go_simp; rfl)); intro g5 hg w3 hbox hb; replace H := H.newbox hg hbox hb; clear hg hbox hb; clear kg4_0 zg4_0 kg4_1 zg4_1; have kg5_0 : w3.cell? ⟨g5, 0, none⟩ = some (.bool false) := H.cell m0 0; have zg5_0 := H.frozen (g := g5) m0 0; have kg5_1 : w3.cell? ⟨g5, 1, none⟩ = some (.slice none 0 0) := H.cell m0 1; have zg5_1 := H.frozen (g := g5) m0 1; have kg4_0 : w3.cell? ⟨g4, 0, none⟩ = some (.bool false) := H.cell m1 0; have zg4_0 := H.frozen (g := g4) m1 0; have kg4_1 : w3.cell? ⟨g4, 1, none⟩ = some (.slice none 0 0) := H.cell m1 1; have zg4_1 := H.frozen (g := g4) m1 1; have ne_g5_g4 := H.ne (g := g5) (g' := g4) 0 1 rfl rfl (by decide); have ne_g4_g5 := ne_g5_g4.symm))
  (try simp only [Act.put, List.setIfInBounds_toArray, List.set_cons_zero, List.set_cons_succ])
  go_region_held3 (fun w' => w'.cell? ⟨g4, 0, none⟩ = some (.bool false) ∧ w'.cell? ⟨g4, 1, none⟩ = some (.slice none 0 0) ∧ w'.cell? ⟨g5, 0, none⟩ = some (.bool false) ∧ w'.cell? ⟨g5, 1, none⟩ = some (.slice none 0 0)) (first | (have q : w3.cell? ⟨g4, 0, none⟩ = some (.bool false) ∧ w3.cell? ⟨g4, 1, none⟩ = some (.slice none 0 0) ∧ w3.cell? ⟨g5, 0, none⟩ = some (.bool false) ∧ w3.cell? ⟨g5, 1, none⟩ = some (.slice none 0 0) := ⟨H.cell m1 0, H.cell m1 1, H.cell m0 0, H.cell m0 1⟩; with_reducible exact q) | (have q : w3.drew.cell? ⟨g4, 0, none⟩ = some (.bool false) ∧ w3.drew.cell? ⟨g4, 1, none⟩ = some (.slice none 0 0) ∧ w3.drew.cell? ⟨g5, 0, none⟩ = some (.bool false) ∧ w3.drew.cell? ⟨g5, 1, none⟩ = some (.slice none 0 0) := ⟨H.drew.cell m1 0, H.drew.cell m1 1, H.drew.cell m0 0, H.drew.cell m0 1⟩; with_reducible exact q) | (have q : (((w3.setCell ⟨g4, 0, none⟩ (.bool false)).setCell ⟨g4, 1, none⟩ (.slice none 0 0))).cell? ⟨g4, 0, none⟩ = some (.bool false) ∧ (((w3.setCell ⟨g4, 0, none⟩ (.bool false)).setCell ⟨g4, 1, none⟩ (.slice none 0 0))).cell? ⟨g4, 1, none⟩ = some (.slice none 0 0) ∧ (((w3.setCell ⟨g4, 0, none⟩ (.bool false)).setCell ⟨g4, 1, none⟩ (.slice none 0 0))).cell? ⟨g5, 0, none⟩ = some (.bool false) ∧ (((w3.setCell ⟨g4, 0, none⟩ (.bool false)).setCell ⟨g4, 1, none⟩ (.slice none 0 0))).cell? ⟨g5, 1, none⟩ = some (.slice none 0 0) := ⟨((H.setn [_] 0 (.bool false) rfl).setn [_] 1 (.slice none 0 0) rfl).cell m1 0, ((H.setn [_] 0 (.bool false) rfl).setn [_] 1 (.slice none 0 0) rfl).cell m1 1, ((H.setn [_] 0 (.bool false) rfl).setn [_] 1 (.slice none 0 0) rfl).cell m0 0, ((H.setn [_] 0 (.bool false) rfl).setn [_] 1 (.slice none 0 0) rfl).cell m0 1⟩; with_reducible exact q) | (have q : (((w3.setCell ⟨g4, 0, none⟩ (.bool false)).setCell ⟨g4, 1, none⟩ (.slice none 0 0))).drew.cell? ⟨g4, 0, none⟩ = some (.bool false) ∧ (((w3.setCell ⟨g4, 0, none⟩ (.bool false)).setCell ⟨g4, 1, none⟩ (.slice none 0 0))).drew.cell? ⟨g4, 1, none⟩ = some (.slice none 0 0) ∧ (((w3.setCell ⟨g4, 0, none⟩ (.bool false)).setCell ⟨g4, 1, none⟩ (.slice none 0 0))).drew.cell? ⟨g5, 0, none⟩ = some (.bool false) ∧ (((w3.setCell ⟨g4, 0, none⟩ (.bool false)).setCell ⟨g4, 1, none⟩ (.slice none 0 0))).drew.cell? ⟨g5, 1, none⟩ = some (.slice none 0 0) := ⟨(((H.setn [_] 0 (.bool false) rfl).setn [_] 1 (.slice none 0 0) rfl)).drew.cell m1 0, (((H.setn [_] 0 (.bool false) rfl).setn [_] 1 (.slice none 0 0) rfl)).drew.cell m1 1, (((H.setn [_] 0 (.bool false) rfl).setn [_] 1 (.slice none 0 0) rfl)).drew.cell m0 0, (((H.setn [_] 0 (.bool false) rfl).setn [_] 1 (.slice none 0 0) rfl)).drew.cell m0 1⟩; with_reducible exact q) | (have q : ((((((w3.setCell ⟨g4, 0, none⟩ (.bool false)).setCell ⟨g4, 1, none⟩ (.slice none 0 0))).setCell ⟨g5, 0, none⟩ (.bool false)).setCell ⟨g5, 1, none⟩ (.slice none 0 0))).cell? ⟨g4, 0, none⟩ = some (.bool false) ∧ ((((((w3.setCell ⟨g4, 0, none⟩ (.bool false)).setCell ⟨g4, 1, none⟩ (.slice none 0 0))).setCell ⟨g5, 0, none⟩ (.bool false)).setCell ⟨g5, 1, none⟩ (.slice none 0 0))).cell? ⟨g4, 1, none⟩ = some (.slice none 0 0) ∧ ((((((w3.setCell ⟨g4, 0, none⟩ (.bool false)).setCell ⟨g4, 1, none⟩ (.slice none 0 0))).setCell ⟨g5, 0, none⟩ (.bool false)).setCell ⟨g5, 1, none⟩ (.slice none 0 0))).cell? ⟨g5, 0, none⟩ = some (.bool false) ∧ ((((((w3.setCell ⟨g4, 0, none⟩ (.bool false)).setCell ⟨g4, 1, none⟩ (.slice none 0 0))).setCell ⟨g5, 0, none⟩ (.bool false)).setCell ⟨g5, 1, none⟩ (.slice none 0 0))).cell? ⟨g5, 1, none⟩ = some (.slice none 0 0) := ⟨((((H.setn [_] 0 (.bool false) rfl).setn [_] 1 (.slice none 0 0) rfl).setn [] 0 (.bool false) rfl).setn [] 1 (.slice none 0 0) rfl).cell m1 0, ((((H.setn [_] 0 (.bool false) rfl).setn [_] 1 (.slice none 0 0) rfl).setn [] 0 (.bool false) rfl).setn [] 1 (.slice none 0 0) rfl).cell m1 1, ((((H.setn [_] 0 (.bool false) rfl).setn [_] 1 (.slice none 0 0) rfl).setn [] 0 (.bool false) rfl).setn [] 1 (.slice none 0 0) rfl).cell m0 0, ((((H.setn [_] 0 (.bool false) rfl).setn [_] 1 (.slice none 0 0) rfl).setn [] 0 (.bool false) rfl).setn [] 1 (.slice none 0 0) rfl).cell m0 1⟩; with_reducible exact q) | (have q : ((((((w3.setCell ⟨g4, 0, none⟩ (.bool false)).setCell ⟨g4, 1, none⟩ (.slice none 0 0))).setCell ⟨g5, 0, none⟩ (.bool false)).setCell ⟨g5, 1, none⟩ (.slice none 0 0))).drew.cell? ⟨g4, 0, none⟩ = some (.bool false) ∧ ((((((w3.setCell ⟨g4, 0, none⟩ (.bool false)).setCell ⟨g4, 1, none⟩ (.slice none 0 0))).setCell ⟨g5, 0, none⟩ (.bool false)).setCell ⟨g5, 1, none⟩ (.slice none 0 0))).drew.cell? ⟨g4, 1, none⟩ = some (.slice none 0 0) ∧ ((((((w3.setCell ⟨g4, 0, none⟩ (.bool false)).setCell ⟨g4, 1, none⟩ (.slice none 0 0))).setCell ⟨g5, 0, none⟩ (.bool false)).setCell ⟨g5, 1, none⟩ (.slice none 0 0))).drew.cell? ⟨g5, 0, none⟩ = some (.bool false) ∧ ((((((w3.setCell ⟨g4, 0, none⟩ (.bool false)).setCell ⟨g4, 1, none⟩ (.slice none 0 0))).setCell ⟨g5, 0, none⟩ (.bool false)).setCell ⟨g5, 1, none⟩ (.slice none 0 0))).drew.cell? ⟨g5, 1, none⟩ = some (.slice none 0 0) := ⟨(((((H.setn [_] 0 (.bool false) rfl).setn [_] 1 (.slice none 0 0) rfl).setn [] 0 (.bool false) rfl).setn [] 1 (.slice none 0 0) rfl)).drew.cell m1 0, (((((H.setn [_] 0 (.bool false) rfl).setn [_] 1 (.slice none 0 0) rfl).setn [] 0 (.bool false) rfl).setn [] 1 (.slice none 0 0) rfl)).drew.cell m1 1, (((((H.setn [_] 0 (.bool false) rfl).setn [_] 1 (.slice none 0 0) rfl).setn [] 0 (.bool false) rfl).setn [] 1 (.slice none 0 0) rfl)).drew.cell m0 0, (((((H.setn [_] 0 (.bool false) rfl).setn [_] 1 (.slice none 0 0) rfl).setn [] 0 (.bool false) rfl).setn [] 1 (.slice none 0 0) rfl)).drew.cell m0 1⟩; with_reducible exact q) | fail) (fail)
  try go_wp2
  replace H := ((((H.setn [_] 0 (.bool false) rfl).setn [_] 1 (.slice none 0 0) rfl).setn [] 0 (.bool false) rfl).setn [] 1 (.slice none 0 0) rfl).drew
  refine bodyPost_ret (results_list (rs := [.cell 4 25, .cell 5 25, .tmp 6]) rfl (by simp) (.cell g4 25 #[.bool false, .slice none 0 0] (0, 0) _ rfl (H.blk m1) Try.underlying25 rfl (by kernel_rfl) (.cell g5 25 #[.bool false, .slice none 0 0] (0, 0) _ rfl (H.blk m0) Try.underlying25 rfl (by kernel_rfl) (.tmp .nil)))) rfl ?_
  exact ⟨none, 0, none, 0, rfl, (H.ret m0).mono (fun k hk => hk.resolve_left id), (H.ret m0).mono (fun k hk => hk.resolve_left id), H.below⟩

set_option maxHeartbeats 8000000 in
set_option maxRecDepth 100000 in
theorem two_b (a b : ByteArray) (w : World) (ha : a.size ≤ 80) (hb : 80 < b.size) : Calls Try.prog 33 #[.string a, .string b] w (RetTwo w 0 0 false) := by
  have hu25 := Try.underlying25
  have H := (Sit.start w (fun _ => False)).nilrow
  have da : decide (80 < (a.size : Int)) = false := decide_eq_false (by omega)
  have ea : decide (80 < a.size) = false := decide_eq_false (by omega)
  have db : decide (80 < (b.size : Int)) = true := decide_eq_true (by omega)
  have eb : decide (80 < b.size) = true := decide_eq_true (by omega)
  clear ha hb
  go_enter Try.func33, Try.ntmps33
  have st2 := trivial
  have st4 := trivial
  go_upto_region 2 with (first
    | (clear st2; (with_reducible refine gate_dst (N := 4) rfl ?_); refine box_event ?hg (N := 4) ?hd (cs := #[.bool false, .slice none 0 0]) (t := 25) ?hr ?_; (case hd => rfl); (case hg => rfl); (case hr => first | (go_simp; done) | (go_simp; rfl)); intro g4 hg w1 hbox hb; replace H := H.newbox hg hbox hb; clear hg hbox hb; have kg4_0 : w1.cell? ⟨g4, 0, none⟩ = some (.bool false) := H.cell m0 0; have zg4_0 := H.frozen (g := g4) m0 0; have kg4_1 : w1.cell? ⟨g4, 1, none⟩ = some (.slice none 0 0) := H.cell m0 1; have zg4_1 := H.frozen (g := g4) m0 1)
    | (clear st4; (with_reducible refine gate_dst (N := 5) rfl ?_); refine box_event ?hg (N := 5) ?hd (cs := #[.bool false, .slice none 0 0]) (t := 25) ?hr ?_; (case hd => rfl); (case hg => rfl); (case hr => first | (go_simp; done) | (go_simp; rfl)); intro g5 hg w3 hbox hb; replace H := H.newbox hg hbox hb; clear hg hbox hb; clear kg4_0 zg4_0 kg4_1 zg4_1; have kg5_0 : w3.cell? ⟨g5, 0, none⟩ = some (.bool false) := H.cell m0 0; have zg5_0 := H.frozen (g := g5) m0 0; have kg5_1 : w3.cell? ⟨g5, 1, none⟩ = some (.slice none 0 0) := H.cell m0 1; have zg5_1 := H.frozen (g := g5) m0 1; have kg4_0 : w3.cell? ⟨g4, 0, none⟩ = some (.bool false) := H.cell m1 0; have zg4_0 := H.frozen (g := g4) m1 0; have kg4_1 : w3.cell? ⟨g4, 1, none⟩ = some (.slice none 0 0) := H.cell m1 1; have zg4_1 := H.frozen (g := g4) m1 1; have ne_g5_g4 := H.ne (g := g5) (g' := g4) 0 1 rfl rfl (by decide); have ne_g4_g5 := ne_g5_g4.symm))
  (try simp only [Act.put, List.setIfInBounds_toArray, List.set_cons_zero, List.set_cons_succ])
  go_region_held3 (fun w' => w'.cell? ⟨g4, 0, none⟩ = some (.bool false) ∧ w'.cell? ⟨g4, 1, none⟩ = some (.slice none 0 0) ∧ w'.cell? ⟨g5, 0, none⟩ = some (.bool false) ∧ w'.cell? ⟨g5, 1, none⟩ = some (.slice none 0 0)) (first | (have q : w3.cell? ⟨g4, 0, none⟩ = some (.bool false) ∧ w3.cell? ⟨g4, 1, none⟩ = some (.slice none 0 0) ∧ w3.cell? ⟨g5, 0, none⟩ = some (.bool false) ∧ w3.cell? ⟨g5, 1, none⟩ = some (.slice none 0 0) := ⟨H.cell m1 0, H.cell m1 1, H.cell m0 0, H.cell m0 1⟩; with_reducible exact q) | (have q : w3.drew.cell? ⟨g4, 0, none⟩ = some (.bool false) ∧ w3.drew.cell? ⟨g4, 1, none⟩ = some (.slice none 0 0) ∧ w3.drew.cell? ⟨g5, 0, none⟩ = some (.bool false) ∧ w3.drew.cell? ⟨g5, 1, none⟩ = some (.slice none 0 0) := ⟨H.drew.cell m1 0, H.drew.cell m1 1, H.drew.cell m0 0, H.drew.cell m0 1⟩; with_reducible exact q) | (have q : (((w3.setCell ⟨g4, 0, none⟩ (.bool false)).setCell ⟨g4, 1, none⟩ (.slice none 0 0))).cell? ⟨g4, 0, none⟩ = some (.bool false) ∧ (((w3.setCell ⟨g4, 0, none⟩ (.bool false)).setCell ⟨g4, 1, none⟩ (.slice none 0 0))).cell? ⟨g4, 1, none⟩ = some (.slice none 0 0) ∧ (((w3.setCell ⟨g4, 0, none⟩ (.bool false)).setCell ⟨g4, 1, none⟩ (.slice none 0 0))).cell? ⟨g5, 0, none⟩ = some (.bool false) ∧ (((w3.setCell ⟨g4, 0, none⟩ (.bool false)).setCell ⟨g4, 1, none⟩ (.slice none 0 0))).cell? ⟨g5, 1, none⟩ = some (.slice none 0 0) := ⟨((H.setn [_] 0 (.bool false) rfl).setn [_] 1 (.slice none 0 0) rfl).cell m1 0, ((H.setn [_] 0 (.bool false) rfl).setn [_] 1 (.slice none 0 0) rfl).cell m1 1, ((H.setn [_] 0 (.bool false) rfl).setn [_] 1 (.slice none 0 0) rfl).cell m0 0, ((H.setn [_] 0 (.bool false) rfl).setn [_] 1 (.slice none 0 0) rfl).cell m0 1⟩; with_reducible exact q) | (have q : (((w3.setCell ⟨g4, 0, none⟩ (.bool false)).setCell ⟨g4, 1, none⟩ (.slice none 0 0))).drew.cell? ⟨g4, 0, none⟩ = some (.bool false) ∧ (((w3.setCell ⟨g4, 0, none⟩ (.bool false)).setCell ⟨g4, 1, none⟩ (.slice none 0 0))).drew.cell? ⟨g4, 1, none⟩ = some (.slice none 0 0) ∧ (((w3.setCell ⟨g4, 0, none⟩ (.bool false)).setCell ⟨g4, 1, none⟩ (.slice none 0 0))).drew.cell? ⟨g5, 0, none⟩ = some (.bool false) ∧ (((w3.setCell ⟨g4, 0, none⟩ (.bool false)).setCell ⟨g4, 1, none⟩ (.slice none 0 0))).drew.cell? ⟨g5, 1, none⟩ = some (.slice none 0 0) := ⟨(((H.setn [_] 0 (.bool false) rfl).setn [_] 1 (.slice none 0 0) rfl)).drew.cell m1 0, (((H.setn [_] 0 (.bool false) rfl).setn [_] 1 (.slice none 0 0) rfl)).drew.cell m1 1, (((H.setn [_] 0 (.bool false) rfl).setn [_] 1 (.slice none 0 0) rfl)).drew.cell m0 0, (((H.setn [_] 0 (.bool false) rfl).setn [_] 1 (.slice none 0 0) rfl)).drew.cell m0 1⟩; with_reducible exact q) | (have q : ((((((w3.setCell ⟨g4, 0, none⟩ (.bool false)).setCell ⟨g4, 1, none⟩ (.slice none 0 0))).setCell ⟨g5, 0, none⟩ (.bool false)).setCell ⟨g5, 1, none⟩ (.slice none 0 0))).cell? ⟨g4, 0, none⟩ = some (.bool false) ∧ ((((((w3.setCell ⟨g4, 0, none⟩ (.bool false)).setCell ⟨g4, 1, none⟩ (.slice none 0 0))).setCell ⟨g5, 0, none⟩ (.bool false)).setCell ⟨g5, 1, none⟩ (.slice none 0 0))).cell? ⟨g4, 1, none⟩ = some (.slice none 0 0) ∧ ((((((w3.setCell ⟨g4, 0, none⟩ (.bool false)).setCell ⟨g4, 1, none⟩ (.slice none 0 0))).setCell ⟨g5, 0, none⟩ (.bool false)).setCell ⟨g5, 1, none⟩ (.slice none 0 0))).cell? ⟨g5, 0, none⟩ = some (.bool false) ∧ ((((((w3.setCell ⟨g4, 0, none⟩ (.bool false)).setCell ⟨g4, 1, none⟩ (.slice none 0 0))).setCell ⟨g5, 0, none⟩ (.bool false)).setCell ⟨g5, 1, none⟩ (.slice none 0 0))).cell? ⟨g5, 1, none⟩ = some (.slice none 0 0) := ⟨((((H.setn [_] 0 (.bool false) rfl).setn [_] 1 (.slice none 0 0) rfl).setn [] 0 (.bool false) rfl).setn [] 1 (.slice none 0 0) rfl).cell m1 0, ((((H.setn [_] 0 (.bool false) rfl).setn [_] 1 (.slice none 0 0) rfl).setn [] 0 (.bool false) rfl).setn [] 1 (.slice none 0 0) rfl).cell m1 1, ((((H.setn [_] 0 (.bool false) rfl).setn [_] 1 (.slice none 0 0) rfl).setn [] 0 (.bool false) rfl).setn [] 1 (.slice none 0 0) rfl).cell m0 0, ((((H.setn [_] 0 (.bool false) rfl).setn [_] 1 (.slice none 0 0) rfl).setn [] 0 (.bool false) rfl).setn [] 1 (.slice none 0 0) rfl).cell m0 1⟩; with_reducible exact q) | (have q : ((((((w3.setCell ⟨g4, 0, none⟩ (.bool false)).setCell ⟨g4, 1, none⟩ (.slice none 0 0))).setCell ⟨g5, 0, none⟩ (.bool false)).setCell ⟨g5, 1, none⟩ (.slice none 0 0))).drew.cell? ⟨g4, 0, none⟩ = some (.bool false) ∧ ((((((w3.setCell ⟨g4, 0, none⟩ (.bool false)).setCell ⟨g4, 1, none⟩ (.slice none 0 0))).setCell ⟨g5, 0, none⟩ (.bool false)).setCell ⟨g5, 1, none⟩ (.slice none 0 0))).drew.cell? ⟨g4, 1, none⟩ = some (.slice none 0 0) ∧ ((((((w3.setCell ⟨g4, 0, none⟩ (.bool false)).setCell ⟨g4, 1, none⟩ (.slice none 0 0))).setCell ⟨g5, 0, none⟩ (.bool false)).setCell ⟨g5, 1, none⟩ (.slice none 0 0))).drew.cell? ⟨g5, 0, none⟩ = some (.bool false) ∧ ((((((w3.setCell ⟨g4, 0, none⟩ (.bool false)).setCell ⟨g4, 1, none⟩ (.slice none 0 0))).setCell ⟨g5, 0, none⟩ (.bool false)).setCell ⟨g5, 1, none⟩ (.slice none 0 0))).drew.cell? ⟨g5, 1, none⟩ = some (.slice none 0 0) := ⟨(((((H.setn [_] 0 (.bool false) rfl).setn [_] 1 (.slice none 0 0) rfl).setn [] 0 (.bool false) rfl).setn [] 1 (.slice none 0 0) rfl)).drew.cell m1 0, (((((H.setn [_] 0 (.bool false) rfl).setn [_] 1 (.slice none 0 0) rfl).setn [] 0 (.bool false) rfl).setn [] 1 (.slice none 0 0) rfl)).drew.cell m1 1, (((((H.setn [_] 0 (.bool false) rfl).setn [_] 1 (.slice none 0 0) rfl).setn [] 0 (.bool false) rfl).setn [] 1 (.slice none 0 0) rfl)).drew.cell m0 0, (((((H.setn [_] 0 (.bool false) rfl).setn [_] 1 (.slice none 0 0) rfl).setn [] 0 (.bool false) rfl).setn [] 1 (.slice none 0 0) rfl)).drew.cell m0 1⟩; with_reducible exact q) | fail) (fail)
  try go_wp2
  replace H := ((((H.setn [_] 0 (.bool false) rfl).setn [_] 1 (.slice none 0 0) rfl).setn [] 0 (.bool false) rfl).setn [] 1 (.slice none 0 0) rfl).drew
  refine bodyPost_ret (results_list (rs := [.cell 4 25, .cell 5 25, .tmp 6]) rfl (by simp) (.cell g4 25 #[.bool false, .slice none 0 0] (0, 0) _ rfl (H.blk m1) Try.underlying25 rfl (by kernel_rfl) (.cell g5 25 #[.bool false, .slice none 0 0] (0, 0) _ rfl (H.blk m0) Try.underlying25 rfl (by kernel_rfl) (.tmp .nil)))) rfl ?_
  exact ⟨none, 0, none, 0, rfl, (H.ret m0).mono (fun k hk => hk.resolve_left id), (H.ret m0).mono (fun k hk => hk.resolve_left id), H.below⟩

set_option maxHeartbeats 8000000 in
set_option maxRecDepth 100000 in
theorem two_yes (a b : ByteArray) (w : World) (x y : Int) (ha : a.size ≤ 80) (hb : b.size ≤ 80) (e1 e2 : Int) (he1 : (e1 == 0) = true) (he2 : (e2 == 0) = true) (hx : Aside0 (pr a = (x, e1))) (hy : Aside0 (pr b = (y, e2))) : Calls Try.prog 33 #[.string a, .string b] w (RetTwo w x y true) := by
  have hu25 := Try.underlying25
  have H := Sit.start w (fun _ => False)
  have da : decide (80 < (a.size : Int)) = false := decide_eq_false (by omega)
  have ea : decide (80 < a.size) = false := decide_eq_false (by omega)
  have db : decide (80 < (b.size : Int)) = false := decide_eq_false (by omega)
  have eb : decide (80 < b.size) = false := decide_eq_false (by omega)
  clear ha hb
  go_enter Try.func33, Try.ntmps33
  have st2 := trivial
  have st4 := trivial
  have st8 := trivial
  go_upto_region 4 with (first
    | (clear st2; (with_reducible refine gate_dst (N := 4) rfl ?_); refine box_event ?hg (N := 4) ?hd (cs := #[.bool false, .slice none 0 0]) (t := 25) ?hr ?_; (case hd => rfl); (case hg => rfl); (case hr => first | (go_simp; done) | (go_simp; rfl)); intro g4 hg w1 hbox hb; replace H := H.newbox hg hbox hb; clear hg hbox hb; have kg4_0 : w1.cell? ⟨g4, 0, none⟩ = some (.bool false) := H.cell m0 0; have zg4_0 := H.frozen (g := g4) m0 0; have kg4_1 : w1.cell? ⟨g4, 1, none⟩ = some (.slice none 0 0) := H.cell m0 1; have zg4_1 := H.frozen (g := g4) m0 1)
    | (clear st4; (with_reducible refine gate_dst (N := 5) rfl ?_); refine box_event ?hg (N := 5) ?hd (cs := #[.bool false, .slice none 0 0]) (t := 25) ?hr ?_; (case hd => rfl); (case hg => rfl); (case hr => first | (go_simp; done) | (go_simp; rfl)); intro g5 hg w3 hbox hb; replace H := H.newbox hg hbox hb; clear hg hbox hb; clear kg4_0 zg4_0 kg4_1 zg4_1; have kg5_0 : w3.cell? ⟨g5, 0, none⟩ = some (.bool false) := H.cell m0 0; have zg5_0 := H.frozen (g := g5) m0 0; have kg5_1 : w3.cell? ⟨g5, 1, none⟩ = some (.slice none 0 0) := H.cell m0 1; have zg5_1 := H.frozen (g := g5) m0 1; have kg4_0 : w3.cell? ⟨g4, 0, none⟩ = some (.bool false) := H.cell m1 0; have zg4_0 := H.frozen (g := g4) m1 0; have kg4_1 : w3.cell? ⟨g4, 1, none⟩ = some (.slice none 0 0) := H.cell m1 1; have zg4_1 := H.frozen (g := g4) m1 1; have ne_g5_g4 := H.ne (g := g5) (g' := g4) 0 1 rfl rfl (by decide); have ne_g4_g5 := ne_g5_g4.symm)
    | (clear st8; go_at_call 23; (with_reducible refine (ParseQ a _ x e1 hx.out).mono ?_); rintro e w5 ⟨A6, c7, rfl, hr, hb⟩; replace H := H.got (fresh_row hr) hb; clear hr hb; clear kg5_0 zg5_0 kg5_1 zg5_1 kg4_0 zg4_0 kg4_1 zg4_1; have kg5_0 : w5.cell? ⟨g5, 0, none⟩ = some (.bool false) := H.cell m0 0; have zg5_0 := H.frozen (g := g5) m0 0; have kg5_1 : w5.cell? ⟨g5, 1, none⟩ = some (.slice none 0 0) := H.cell m0 1; have zg5_1 := H.frozen (g := g5) m0 1; have kg4_0 : w5.cell? ⟨g4, 0, none⟩ = some (.bool false) := H.cell m1 0; have zg4_0 := H.frozen (g := g4) m1 0; have kg4_1 : w5.cell? ⟨g4, 1, none⟩ = some (.slice none 0 0) := H.cell m1 1; have zg4_1 := H.frozen (g := g4) m1 1))
  (try simp only [Act.put, List.setIfInBounds_toArray, List.set_cons_zero, List.set_cons_succ])
  replace H := ((H.setn [_] 0 (.bool (ng x)) rfl).setn [_] 1 (.slice A6 (ln x) c7) rfl)
  clear kg5_0 zg5_0 kg5_1 zg5_1 kg4_0 zg4_0 kg4_1 zg4_1
  generalize ((w5.setCell ⟨g4, 0, none⟩ (.bool (ng x))).setCell ⟨g4, 1, none⟩ (.slice A6 (ln x) c7)) = w9 at H ⊢
  have kg5_0 : w9.cell? ⟨g5, 0, none⟩ = some (.bool false) := H.cell m0 0
  have zg5_0 := H.frozen (g := g5) m0 0
  have kg5_1 : w9.cell? ⟨g5, 1, none⟩ = some (.slice none 0 0) := H.cell m0 1
  have zg5_1 := H.frozen (g := g5) m0 1
  have kg4_0 : w9.cell? ⟨g4, 0, none⟩ = some (.bool (ng x)) := H.cell m1 0
  have zg4_0 := H.frozen (g := g4) m1 0
  have kg4_1 : w9.cell? ⟨g4, 1, none⟩ = some (.slice A6 (ln x) c7) := H.cell m1 1
  have zg4_1 := H.frozen (g := g4) m1 1
  have st13 := trivial
  go_upto_region 5 with (first
    | (clear st13; go_at_call 23; (with_reducible refine (ParseQ b _ y e2 hy.out).mono ?_); rintro e w10 ⟨A11, c12, rfl, hr, hb⟩; replace H := H.got (fresh_row hr) hb; clear hr hb; clear kg5_0 zg5_0 kg5_1 zg5_1 kg4_0 zg4_0 kg4_1 zg4_1; have kg5_0 : w10.cell? ⟨g5, 0, none⟩ = some (.bool false) := H.cell m0 0; have zg5_0 := H.frozen (g := g5) m0 0; have kg5_1 : w10.cell? ⟨g5, 1, none⟩ = some (.slice none 0 0) := H.cell m0 1; have zg5_1 := H.frozen (g := g5) m0 1; have kg4_0 : w10.cell? ⟨g4, 0, none⟩ = some (.bool (ng x)) := H.cell m1 0; have zg4_0 := H.frozen (g := g4) m1 0; have kg4_1 : w10.cell? ⟨g4, 1, none⟩ = some (.slice A6 (ln x) c7) := H.cell m1 1; have zg4_1 := H.frozen (g := g4) m1 1))
  (try simp only [Act.put, List.setIfInBounds_toArray, List.set_cons_zero, List.set_cons_succ])
  replace H := ((H.setn [] 0 (.bool (ng y)) rfl).setn [] 1 (.slice A11 (ln y) c12) rfl)
  clear kg5_0 zg5_0 kg5_1 zg5_1 kg4_0 zg4_0 kg4_1 zg4_1
  generalize ((w10.setCell ⟨g5, 0, none⟩ (.bool (ng y))).setCell ⟨g5, 1, none⟩ (.slice A11 (ln y) c12)) = w14 at H ⊢
  have kg5_0 : w14.cell? ⟨g5, 0, none⟩ = some (.bool (ng y)) := H.cell m0 0
  have zg5_0 := H.frozen (g := g5) m0 0
  have kg5_1 : w14.cell? ⟨g5, 1, none⟩ = some (.slice A11 (ln y) c12) := H.cell m0 1
  have zg5_1 := H.frozen (g := g5) m0 1
  have kg4_0 : w14.cell? ⟨g4, 0, none⟩ = some (.bool (ng x)) := H.cell m1 0
  have zg4_0 := H.frozen (g := g4) m1 0
  have kg4_1 : w14.cell? ⟨g4, 1, none⟩ = some (.slice A6 (ln x) c7) := H.cell m1 1
  have zg4_1 := H.frozen (g := g4) m1 1
  go_region_held3 (fun w' => w'.cell? ⟨g4, 0, none⟩ = some (.bool (ng x)) ∧ w'.cell? ⟨g4, 1, none⟩ = some (.slice A6 (ln x) c7) ∧ w'.cell? ⟨g5, 0, none⟩ = some (.bool (ng y)) ∧ w'.cell? ⟨g5, 1, none⟩ = some (.slice A11 (ln y) c12)) (first | (have q : w14.cell? ⟨g4, 0, none⟩ = some (.bool (ng x)) ∧ w14.cell? ⟨g4, 1, none⟩ = some (.slice A6 (ln x) c7) ∧ w14.cell? ⟨g5, 0, none⟩ = some (.bool (ng y)) ∧ w14.cell? ⟨g5, 1, none⟩ = some (.slice A11 (ln y) c12) := ⟨H.cell m1 0, H.cell m1 1, H.cell m0 0, H.cell m0 1⟩; with_reducible exact q) | (have q : w14.drew.cell? ⟨g4, 0, none⟩ = some (.bool (ng x)) ∧ w14.drew.cell? ⟨g4, 1, none⟩ = some (.slice A6 (ln x) c7) ∧ w14.drew.cell? ⟨g5, 0, none⟩ = some (.bool (ng y)) ∧ w14.drew.cell? ⟨g5, 1, none⟩ = some (.slice A11 (ln y) c12) := ⟨H.drew.cell m1 0, H.drew.cell m1 1, H.drew.cell m0 0, H.drew.cell m0 1⟩; with_reducible exact q) | (have q : (((w14.setCell ⟨g4, 0, none⟩ (.bool (ng x))).setCell ⟨g4, 1, none⟩ (.slice A6 (ln x) c7))).cell? ⟨g4, 0, none⟩ = some (.bool (ng x)) ∧ (((w14.setCell ⟨g4, 0, none⟩ (.bool (ng x))).setCell ⟨g4, 1, none⟩ (.slice A6 (ln x) c7))).cell? ⟨g4, 1, none⟩ = some (.slice A6 (ln x) c7) ∧ (((w14.setCell ⟨g4, 0, none⟩ (.bool (ng x))).setCell ⟨g4, 1, none⟩ (.slice A6 (ln x) c7))).cell? ⟨g5, 0, none⟩ = some (.bool (ng y)) ∧ (((w14.setCell ⟨g4, 0, none⟩ (.bool (ng x))).setCell ⟨g4, 1, none⟩ (.slice A6 (ln x) c7))).cell? ⟨g5, 1, none⟩ = some (.slice A11 (ln y) c12) := ⟨((H.setn [_] 0 (.bool (ng x)) rfl).setn [_] 1 (.slice A6 (ln x) c7) rfl).cell m1 0, ((H.setn [_] 0 (.bool (ng x)) rfl).setn [_] 1 (.slice A6 (ln x) c7) rfl).cell m1 1, ((H.setn [_] 0 (.bool (ng x)) rfl).setn [_] 1 (.slice A6 (ln x) c7) rfl).cell m0 0, ((H.setn [_] 0 (.bool (ng x)) rfl).setn [_] 1 (.slice A6 (ln x) c7) rfl).cell m0 1⟩; with_reducible exact q) | (have q : (((w14.setCell ⟨g4, 0, none⟩ (.bool (ng x))).setCell ⟨g4, 1, none⟩ (.slice A6 (ln x) c7))).drew.cell? ⟨g4, 0, none⟩ = some (.bool (ng x)) ∧ (((w14.setCell ⟨g4, 0, none⟩ (.bool (ng x))).setCell ⟨g4, 1, none⟩ (.slice A6 (ln x) c7))).drew.cell? ⟨g4, 1, none⟩ = some (.slice A6 (ln x) c7) ∧ (((w14.setCell ⟨g4, 0, none⟩ (.bool (ng x))).setCell ⟨g4, 1, none⟩ (.slice A6 (ln x) c7))).drew.cell? ⟨g5, 0, none⟩ = some (.bool (ng y)) ∧ (((w14.setCell ⟨g4, 0, none⟩ (.bool (ng x))).setCell ⟨g4, 1, none⟩ (.slice A6 (ln x) c7))).drew.cell? ⟨g5, 1, none⟩ = some (.slice A11 (ln y) c12) := ⟨(((H.setn [_] 0 (.bool (ng x)) rfl).setn [_] 1 (.slice A6 (ln x) c7) rfl)).drew.cell m1 0, (((H.setn [_] 0 (.bool (ng x)) rfl).setn [_] 1 (.slice A6 (ln x) c7) rfl)).drew.cell m1 1, (((H.setn [_] 0 (.bool (ng x)) rfl).setn [_] 1 (.slice A6 (ln x) c7) rfl)).drew.cell m0 0, (((H.setn [_] 0 (.bool (ng x)) rfl).setn [_] 1 (.slice A6 (ln x) c7) rfl)).drew.cell m0 1⟩; with_reducible exact q) | (have q : ((((((w14.setCell ⟨g4, 0, none⟩ (.bool (ng x))).setCell ⟨g4, 1, none⟩ (.slice A6 (ln x) c7))).setCell ⟨g5, 0, none⟩ (.bool (ng y))).setCell ⟨g5, 1, none⟩ (.slice A11 (ln y) c12))).cell? ⟨g4, 0, none⟩ = some (.bool (ng x)) ∧ ((((((w14.setCell ⟨g4, 0, none⟩ (.bool (ng x))).setCell ⟨g4, 1, none⟩ (.slice A6 (ln x) c7))).setCell ⟨g5, 0, none⟩ (.bool (ng y))).setCell ⟨g5, 1, none⟩ (.slice A11 (ln y) c12))).cell? ⟨g4, 1, none⟩ = some (.slice A6 (ln x) c7) ∧ ((((((w14.setCell ⟨g4, 0, none⟩ (.bool (ng x))).setCell ⟨g4, 1, none⟩ (.slice A6 (ln x) c7))).setCell ⟨g5, 0, none⟩ (.bool (ng y))).setCell ⟨g5, 1, none⟩ (.slice A11 (ln y) c12))).cell? ⟨g5, 0, none⟩ = some (.bool (ng y)) ∧ ((((((w14.setCell ⟨g4, 0, none⟩ (.bool (ng x))).setCell ⟨g4, 1, none⟩ (.slice A6 (ln x) c7))).setCell ⟨g5, 0, none⟩ (.bool (ng y))).setCell ⟨g5, 1, none⟩ (.slice A11 (ln y) c12))).cell? ⟨g5, 1, none⟩ = some (.slice A11 (ln y) c12) := ⟨((((H.setn [_] 0 (.bool (ng x)) rfl).setn [_] 1 (.slice A6 (ln x) c7) rfl).setn [] 0 (.bool (ng y)) rfl).setn [] 1 (.slice A11 (ln y) c12) rfl).cell m1 0, ((((H.setn [_] 0 (.bool (ng x)) rfl).setn [_] 1 (.slice A6 (ln x) c7) rfl).setn [] 0 (.bool (ng y)) rfl).setn [] 1 (.slice A11 (ln y) c12) rfl).cell m1 1, ((((H.setn [_] 0 (.bool (ng x)) rfl).setn [_] 1 (.slice A6 (ln x) c7) rfl).setn [] 0 (.bool (ng y)) rfl).setn [] 1 (.slice A11 (ln y) c12) rfl).cell m0 0, ((((H.setn [_] 0 (.bool (ng x)) rfl).setn [_] 1 (.slice A6 (ln x) c7) rfl).setn [] 0 (.bool (ng y)) rfl).setn [] 1 (.slice A11 (ln y) c12) rfl).cell m0 1⟩; with_reducible exact q) | (have q : ((((((w14.setCell ⟨g4, 0, none⟩ (.bool (ng x))).setCell ⟨g4, 1, none⟩ (.slice A6 (ln x) c7))).setCell ⟨g5, 0, none⟩ (.bool (ng y))).setCell ⟨g5, 1, none⟩ (.slice A11 (ln y) c12))).drew.cell? ⟨g4, 0, none⟩ = some (.bool (ng x)) ∧ ((((((w14.setCell ⟨g4, 0, none⟩ (.bool (ng x))).setCell ⟨g4, 1, none⟩ (.slice A6 (ln x) c7))).setCell ⟨g5, 0, none⟩ (.bool (ng y))).setCell ⟨g5, 1, none⟩ (.slice A11 (ln y) c12))).drew.cell? ⟨g4, 1, none⟩ = some (.slice A6 (ln x) c7) ∧ ((((((w14.setCell ⟨g4, 0, none⟩ (.bool (ng x))).setCell ⟨g4, 1, none⟩ (.slice A6 (ln x) c7))).setCell ⟨g5, 0, none⟩ (.bool (ng y))).setCell ⟨g5, 1, none⟩ (.slice A11 (ln y) c12))).drew.cell? ⟨g5, 0, none⟩ = some (.bool (ng y)) ∧ ((((((w14.setCell ⟨g4, 0, none⟩ (.bool (ng x))).setCell ⟨g4, 1, none⟩ (.slice A6 (ln x) c7))).setCell ⟨g5, 0, none⟩ (.bool (ng y))).setCell ⟨g5, 1, none⟩ (.slice A11 (ln y) c12))).drew.cell? ⟨g5, 1, none⟩ = some (.slice A11 (ln y) c12) := ⟨(((((H.setn [_] 0 (.bool (ng x)) rfl).setn [_] 1 (.slice A6 (ln x) c7) rfl).setn [] 0 (.bool (ng y)) rfl).setn [] 1 (.slice A11 (ln y) c12) rfl)).drew.cell m1 0, (((((H.setn [_] 0 (.bool (ng x)) rfl).setn [_] 1 (.slice A6 (ln x) c7) rfl).setn [] 0 (.bool (ng y)) rfl).setn [] 1 (.slice A11 (ln y) c12) rfl)).drew.cell m1 1, (((((H.setn [_] 0 (.bool (ng x)) rfl).setn [_] 1 (.slice A6 (ln x) c7) rfl).setn [] 0 (.bool (ng y)) rfl).setn [] 1 (.slice A11 (ln y) c12) rfl)).drew.cell m0 0, (((((H.setn [_] 0 (.bool (ng x)) rfl).setn [_] 1 (.slice A6 (ln x) c7) rfl).setn [] 0 (.bool (ng y)) rfl).setn [] 1 (.slice A11 (ln y) c12) rfl)).drew.cell m0 1⟩; with_reducible exact q) | fail) (fail)
  try go_wp2
  replace H := ((((H.setn [_] 0 (.bool (ng x)) rfl).setn [_] 1 (.slice A6 (ln x) c7) rfl).setn [] 0 (.bool (ng y)) rfl).setn [] 1 (.slice A11 (ln y) c12) rfl).drew
  refine bodyPost_ret (results_list (rs := [.cell 4 25, .cell 5 25, .tmp 6]) rfl (by simp) (.cell g4 25 #[.bool (ng x), .slice A6 (ln x) c7] (0, 0) _ rfl (H.blk m1) Try.underlying25 rfl (by kernel_rfl) (.cell g5 25 #[.bool (ng y), .slice A11 (ln y) c12] (0, 0) _ rfl (H.blk m0) Try.underlying25 rfl (by kernel_rfl) (.tmp .nil)))) rfl ?_
  exact ⟨A6, c7, A11, c12, rfl, (H.ret m1).mono (fun k hk => hk.resolve_left id), (H.ret m0).mono (fun k hk => hk.resolve_left id), H.below⟩

def tb33.T5 : Bool × List (List Nat × List Nat) := (true, [([], []), ([], []), ([], []), ([2], [2]), ([3], [3]), ([4], [4]), ([5, 4], [4, 5]), ([4, 6], [4, 6]), ([0, 4, 0], [0]), ([1, 8, 0, 1, 8], [1]), ([7, 9, 0, 1, 2, 3, 4, 5, 6, 7, 8, 9], [7])])
def tb33.B5 : List Nat := [0, 0, 0, 4, 12, 28, 60, 124, 29, 287, 1023]
theorem tb33.tab5 : rtab .any (opsOf Try.f33 5) = tb33.T5 := by kernel_rfl
theorem tb33.bits5 : waitsOk tb33.T5.2 tb33.B5 = true := by kernel_rfl

set_option maxHeartbeats 8000000 in
set_option maxRecDepth 100000 in
theorem two_no1 (a b : ByteArray) (w : World) (x y : Int) (ha : a.size ≤ 80) (hb : b.size ≤ 80) (e1 e2 : Int) (he : (e1 == 0) = false) (hx : Aside0 (pr a = (x, e1))) (hy : Aside0 (pr b = (y, e2))) : Calls Try.prog 33 #[.string a, .string b] w (RetTwo w x y false) := by
  have hu25 := Try.underlying25
  have H := Sit.start w (fun _ => False)
  have da : decide (80 < (a.size : Int)) = false := decide_eq_false (by omega)
  have ea : decide (80 < a.size) = false := decide_eq_false (by omega)
  have db : decide (80 < (b.size : Int)) = false := decide_eq_false (by omega)
  have eb : decide (80 < b.size) = false := decide_eq_false (by omega)
  clear ha hb
  go_enter Try.func33, Try.ntmps33
  have st2 := trivial
  have st4 := trivial
  have st8 := trivial
  go_upto_region 4 with (first
    | (clear st2; (with_reducible refine gate_dst (N := 4) rfl ?_); refine box_event ?hg (N := 4) ?hd (cs := #[.bool false, .slice none 0 0]) (t := 25) ?hr ?_; (case hd => rfl); (case hg => rfl); (case hr => first | (go_simp; done) | (go_simp; rfl)); intro g4 hg w1 hbox hb; replace H := H.newbox hg hbox hb; clear hg hbox hb; have kg4_0 : w1.cell? ⟨g4, 0, none⟩ = some (.bool false) := H.cell m0 0; have zg4_0 := H.frozen (g := g4) m0 0; have kg4_1 : w1.cell? ⟨g4, 1, none⟩ = some (.slice none 0 0) := H.cell m0 1; have zg4_1 := H.frozen (g := g4) m0 1)
    | (clear st4; (with_reducible refine gate_dst (N := 5) rfl ?_); refine box_event ?hg (N := 5) ?hd (cs := #[.bool false, .slice none 0 0]) (t := 25) ?hr ?_; (case hd => rfl); (case hg => rfl); (case hr => first | (go_simp; done) | (go_simp; rfl)); intro g5 hg w3 hbox hb; replace H := H.newbox hg hbox hb; clear hg hbox hb; clear kg4_0 zg4_0 kg4_1 zg4_1; have kg5_0 : w3.cell? ⟨g5, 0, none⟩ = some (.bool false) := H.cell m0 0; have zg5_0 := H.frozen (g := g5) m0 0; have kg5_1 : w3.cell? ⟨g5, 1, none⟩ = some (.slice none 0 0) := H.cell m0 1; have zg5_1 := H.frozen (g := g5) m0 1; have kg4_0 : w3.cell? ⟨g4, 0, none⟩ = some (.bool false) := H.cell m1 0; have zg4_0 := H.frozen (g := g4) m1 0; have kg4_1 : w3.cell? ⟨g4, 1, none⟩ = some (.slice none 0 0) := H.cell m1 1; have zg4_1 := H.frozen (g := g4) m1 1; have ne_g5_g4 := H.ne (g := g5) (g' := g4) 0 1 rfl rfl (by decide); have ne_g4_g5 := ne_g5_g4.symm)
    | (clear st8; go_at_call 23; (with_reducible refine (ParseQ a _ x e1 hx.out).mono ?_); rintro e w5 ⟨A6, c7, rfl, hr, hb⟩; replace H := H.got (fresh_row hr) hb; clear hr hb; clear kg5_0 zg5_0 kg5_1 zg5_1 kg4_0 zg4_0 kg4_1 zg4_1; have kg5_0 : w5.cell? ⟨g5, 0, none⟩ = some (.bool false) := H.cell m0 0; have zg5_0 := H.frozen (g := g5) m0 0; have kg5_1 : w5.cell? ⟨g5, 1, none⟩ = some (.slice none 0 0) := H.cell m0 1; have zg5_1 := H.frozen (g := g5) m0 1; have kg4_0 : w5.cell? ⟨g4, 0, none⟩ = some (.bool false) := H.cell m1 0; have zg4_0 := H.frozen (g := g4) m1 0; have kg4_1 : w5.cell? ⟨g4, 1, none⟩ = some (.slice none 0 0) := H.cell m1 1; have zg4_1 := H.frozen (g := g4) m1 1))
  (try simp only [Act.put, List.setIfInBounds_toArray, List.set_cons_zero, List.set_cons_succ])
  replace H := ((H.setn [_] 0 (.bool (ng x)) rfl).setn [_] 1 (.slice A6 (ln x) c7) rfl)
  clear kg5_0 zg5_0 kg5_1 zg5_1 kg4_0 zg4_0 kg4_1 zg4_1
  generalize ((w5.setCell ⟨g4, 0, none⟩ (.bool (ng x))).setCell ⟨g4, 1, none⟩ (.slice A6 (ln x) c7)) = w9 at H ⊢
  have kg5_0 : w9.cell? ⟨g5, 0, none⟩ = some (.bool false) := H.cell m0 0
  have zg5_0 := H.frozen (g := g5) m0 0
  have kg5_1 : w9.cell? ⟨g5, 1, none⟩ = some (.slice none 0 0) := H.cell m0 1
  have zg5_1 := H.frozen (g := g5) m0 1
  have kg4_0 : w9.cell? ⟨g4, 0, none⟩ = some (.bool (ng x)) := H.cell m1 0
  have zg4_0 := H.frozen (g := g4) m1 0
  have kg4_1 : w9.cell? ⟨g4, 1, none⟩ = some (.slice A6 (ln x) c7) := H.cell m1 1
  have zg4_1 := H.frozen (g := g4) m1 1
  have st13 := trivial
  go_upto_region 5 with (first
    | (clear st13; go_at_call 23; (with_reducible refine (ParseQ b _ y e2 hy.out).mono ?_); rintro e w10 ⟨A11, c12, rfl, hr, hb⟩; replace H := H.got (fresh_row hr) hb; clear hr hb; clear kg5_0 zg5_0 kg5_1 zg5_1 kg4_0 zg4_0 kg4_1 zg4_1; have kg5_0 : w10.cell? ⟨g5, 0, none⟩ = some (.bool false) := H.cell m0 0; have zg5_0 := H.frozen (g := g5) m0 0; have kg5_1 : w10.cell? ⟨g5, 1, none⟩ = some (.slice none 0 0) := H.cell m0 1; have zg5_1 := H.frozen (g := g5) m0 1; have kg4_0 : w10.cell? ⟨g4, 0, none⟩ = some (.bool (ng x)) := H.cell m1 0; have zg4_0 := H.frozen (g := g4) m1 0; have kg4_1 : w10.cell? ⟨g4, 1, none⟩ = some (.slice A6 (ln x) c7) := H.cell m1 1; have zg4_1 := H.frozen (g := g4) m1 1))
  (try simp only [Act.put, List.setIfInBounds_toArray, List.set_cons_zero, List.set_cons_succ])
  replace H := ((H.setn [] 0 (.bool (ng y)) rfl).setn [] 1 (.slice A11 (ln y) c12) rfl)
  clear kg5_0 zg5_0 kg5_1 zg5_1 kg4_0 zg4_0 kg4_1 zg4_1
  generalize ((w10.setCell ⟨g5, 0, none⟩ (.bool (ng y))).setCell ⟨g5, 1, none⟩ (.slice A11 (ln y) c12)) = w14 at H ⊢
  have kg5_0 : w14.cell? ⟨g5, 0, none⟩ = some (.bool (ng y)) := H.cell m0 0
  have zg5_0 := H.frozen (g := g5) m0 0
  have kg5_1 : w14.cell? ⟨g5, 1, none⟩ = some (.slice A11 (ln y) c12) := H.cell m0 1
  have zg5_1 := H.frozen (g := g5) m0 1
  have kg4_0 : w14.cell? ⟨g4, 0, none⟩ = some (.bool (ng x)) := H.cell m1 0
  have zg4_0 := H.frozen (g := g4) m1 0
  have kg4_1 : w14.cell? ⟨g4, 1, none⟩ = some (.slice A6 (ln x) c7) := H.cell m1 1
  have zg4_1 := H.frozen (g := g4) m1 1
  clear kg5_0 zg5_0 kg5_1 zg5_1 kg4_0 zg4_0 kg4_1 zg4_1
  replace H := H.drew
  refine start_ (n := 11) (S := fun w' => w'.cell? ⟨g4, 0, none⟩ = some (.bool (ng x)) ∧ w'.cell? ⟨g4, 1, none⟩ = some (.slice A6 (ln x) c7) ∧ w'.cell? ⟨g5, 0, none⟩ = some (.bool (ng y)) ∧ w'.cell? ⟨g5, 1, none⟩ = some (.slice A11 (ln y) c12)) (ds := [9]) #[false, false, false, false, false, false, false, false, false, false, false] (by kernel_rfl) rfl rfl ⟨H.cell m1 0, H.cell m1 1, H.cell m0 0, H.cell m0 1⟩ (fun hHeld => ?_)
  generalize w14.drew = w15 at H hHeld ⊢
  refine with_tabW tb33.tab5 tb33.bits5 (fun HT_ HW_ => ?_)
  refine pure_ (i := 2) (N := some 31) (v := ?_) (a' := ?_) #[false, false, true, false, false, false, false, false, false, false, false] rfl rfl (any_of HT_.out (by kernel_rfl)) (fun _ _ _ h => h) (Or.inl ⟨by rfl, ?_⟩) ?_ ?_
  rotate_left
  · intro w'
    go_simp
    with_reducible rfl
  rotate_left
  · simp only [Act.put, List.setIfInBounds_toArray, List.set_cons_zero, List.set_cons_succ, i64_w, i32_w]
    rfl
  refine pure_ (i := 3) (N := some 32) (v := ?_) (a' := ?_) #[false, false, true, true, false, false, false, false, false, false, false] rfl rfl (any_of HT_.out (by kernel_rfl)) (fun _ _ _ h => h) (Or.inl ⟨by rfl, ?_⟩) ?_ ?_
  rotate_left
  · intro w'
    go_simp
    with_reducible rfl
  rotate_left
  · simp only [Act.put, List.setIfInBounds_toArray, List.set_cons_zero, List.set_cons_succ, i64_w, i32_w]
    rfl
  refine pure_ (i := 4) (N := some 33) (v := ?_) (a' := ?_) #[false, false, true, true, true, false, false, false, false, false, false] rfl rfl (any_of HT_.out (by kernel_rfl)) (fun _ _ _ h => h) (Or.inl ⟨by rfl, ?_⟩) ?_ ?_
  rotate_left
  · intro w'
    go_simp
    with_reducible rfl
  rotate_left
  · simp only [Act.put, List.setIfInBounds_toArray, List.set_cons_zero, List.set_cons_succ, i64_w, i32_w]
    rfl
  refine pure_ (i := 5) (N := some 34) (v := undef) (a' := ?_) #[false, false, true, true, true, true, false, false, false, false, false] rfl rfl (any_of HT_.out (by kernel_rfl)) (fun _ _ _ h => h) (Or.inr ⟨by rfl, rfl⟩) ?_ ?_
  rotate_left
  · simp only [Act.put, List.setIfInBounds_toArray, List.set_cons_zero, List.set_cons_succ, i64_w, i32_w]
    rfl
  refine pure_ (i := 6) (N := some 35) (v := undef) (a' := ?_) #[false, false, true, true, true, true, true, false, false, false, false] rfl rfl (any_of HT_.out (by kernel_rfl)) (fun _ _ _ h => h) (Or.inr ⟨by rfl, rfl⟩) ?_ ?_
  rotate_left
  · simp only [Act.put, List.setIfInBounds_toArray, List.set_cons_zero, List.set_cons_succ, i64_w, i32_w]
    rfl
  refine pure_ (i := 7) (N := some 36) (v := ?_) (a' := ?_) #[false, false, true, true, true, true, true, true, false, false, false] rfl rfl (any_of HT_.out (by kernel_rfl)) (fun _ _ _ h => h) (Or.inl ⟨by rfl, ?_⟩) ?_ ?_
  rotate_left
  · intro w'
    go_simp
    with_reducible rfl
  rotate_left
  · simp only [Act.put, List.setIfInBounds_toArray, List.set_cons_zero, List.set_cons_succ, i64_w, i32_w]
    rfl
  refine take_ (i := 0) (N := some 29) (v := ?_) (a' := ?_) #[true, false, true, true, true, true, true, true, false, false, false] rfl rfl (take_ofW HT_.out HW_.out (by kernel_rfl)) (fun _ _ _ h => h) (Or.inl ⟨by rfl, ?_⟩) hHeld ?_ ?_
  rotate_left
  · rintro w' ⟨s0, s1, s2, s3⟩
    go_simp
    with_reducible rfl
  rotate_left
  · simp only [Act.put, List.setIfInBounds_toArray, List.set_cons_zero, List.set_cons_succ, i64_w, i32_w]
    rfl
  refine take_ (i := 1) (N := some 30) (v := ?_) (a' := ?_) #[true, true, true, true, true, true, true, true, false, false, false] rfl rfl (take_ofW HT_.out HW_.out (by kernel_rfl)) (fun _ _ _ h => h) (Or.inl ⟨by rfl, ?_⟩) hHeld ?_ ?_
  rotate_left
  · rintro w' ⟨s0, s1, s2, s3⟩
    go_simp
    with_reducible rfl
  rotate_left
  · simp only [Act.put, List.setIfInBounds_toArray, List.set_cons_zero, List.set_cons_succ, i64_w, i32_w]
    rfl
  refine one_ (i := 8) (N := none) #[true, true, true, true, true, true, true, true, true, false, false] rfl rfl (one_of HT_.out (by kernel_rfl)) (by decide) (fun K hK => ?_)
  have kg5_0 : w15.cell? ⟨g5, 0, none⟩ = some (.bool (ng y)) := H.cell m0 0
  have zg5_0 := H.frozen (g := g5) m0 0
  have kg5_1 : w15.cell? ⟨g5, 1, none⟩ = some (.slice A11 (ln y) c12) := H.cell m0 1
  have zg5_1 := H.frozen (g := g5) m0 1
  have kg4_0 : w15.cell? ⟨g4, 0, none⟩ = some (.bool (ng x)) := H.cell m1 0
  have zg4_0 := H.frozen (g := g4) m1 0
  have kg4_1 : w15.cell? ⟨g4, 1, none⟩ = some (.slice A6 (ln x) c7) := H.cell m1 1
  have zg4_1 := H.frozen (g := g4) m1 1
  refine skip_ (w1 := ?_) (by rfl) rfl ?_ ?_
  rotate_left
  · go_simp
    rfl
  replace H := ((H.setn [_] 0 (.bool (ng x)) rfl).setn [_] 1 (.slice A6 (ln x) c7) rfl)
  clear kg5_0 zg5_0 kg5_1 zg5_1 kg4_0 zg4_0 kg4_1 zg4_1
  generalize ((w15.setCell ⟨g4, 0, none⟩ (.bool (ng x))).setCell ⟨g4, 1, none⟩ (.slice A6 (ln x) c7)) = w16 at H ⊢
  refine hK.out _ _ ⟨H.cell m1 0, H.cell m1 1, H.cell m0 0, H.cell m0 1⟩ (fun hHeld => ?_)
  clear hK K
  refine last_ (i := 9) (N := none) #[true, true, true, true, true, true, true, true, true, true, false] rfl rfl (one_of HT_.out (by kernel_rfl)) (by decide) (fun K hK => ?_)
  have kg5_0 : w16.cell? ⟨g5, 0, none⟩ = some (.bool (ng y)) := H.cell m0 0
  have zg5_0 := H.frozen (g := g5) m0 0
  have kg5_1 : w16.cell? ⟨g5, 1, none⟩ = some (.slice A11 (ln y) c12) := H.cell m0 1
  have zg5_1 := H.frozen (g := g5) m0 1
  have kg4_0 : w16.cell? ⟨g4, 0, none⟩ = some (.bool (ng x)) := H.cell m1 0
  have zg4_0 := H.frozen (g := g4) m1 0
  have kg4_1 : w16.cell? ⟨g4, 1, none⟩ = some (.slice A6 (ln x) c7) := H.cell m1 1
  have zg4_1 := H.frozen (g := g4) m1 1
  refine skip_ (w1 := ?_) (by rfl) rfl ?_ ?_
  rotate_left
  · go_simp
    rfl
  refine hK.out _ _ ?_
  clear hK K
  refine pure_ (i := 10) (N := some 6) (v := ?_) (a' := ?_) #[true, true, true, true, true, true, true, true, true, true, true] rfl rfl (any_of HT_.out (by kernel_rfl)) (fun _ _ _ h => h) (Or.inl ⟨by rfl, ?_⟩) ?_ ?_
  rotate_left
  · intro w'
    go_simp
    with_reducible rfl
  rotate_left
  · simp only [Act.put, List.setIfInBounds_toArray, List.set_cons_zero, List.set_cons_succ, i64_w, i32_w]
    rfl
  refine done_ (done_of HT_.out (by kernel_rfl)) ?_
  try clear hHeld
  replace H := ((H.setn [] 0 (.bool (ng y)) rfl).setn [] 1 (.slice A11 (ln y) c12) rfl)
  try go_wp2
  refine bodyPost_ret (results_list (rs := [.cell 4 25, .cell 5 25, .tmp 6]) rfl (by simp) (.cell g4 25 #[.bool (ng x), .slice A6 (ln x) c7] (0, 0) _ rfl (H.blk m1) Try.underlying25 rfl (by kernel_rfl) (.cell g5 25 #[.bool (ng y), .slice A11 (ln y) c12] (0, 0) _ rfl (H.blk m0) Try.underlying25 rfl (by kernel_rfl) (.tmp .nil)))) rfl ?_
  exact ⟨A6, c7, A11, c12, rfl, (H.ret m1).mono (fun k hk => hk.resolve_left id), (H.ret m0).mono (fun k hk => hk.resolve_left id), H.below⟩

set_option maxHeartbeats 8000000 in
set_option maxRecDepth 100000 in
theorem two_no2 (a b : ByteArray) (w : World) (x y : Int) (ha : a.size ≤ 80) (hb : b.size ≤ 80) (e1 e2 : Int) (he1 : (e1 == 0) = true) (he : (e2 == 0) = false) (hx : Aside0 (pr a = (x, e1))) (hy : Aside0 (pr b = (y, e2))) : Calls Try.prog 33 #[.string a, .string b] w (RetTwo w x y false) := by
  have hu25 := Try.underlying25
  have H := Sit.start w (fun _ => False)
  have da : decide (80 < (a.size : Int)) = false := decide_eq_false (by omega)
  have ea : decide (80 < a.size) = false := decide_eq_false (by omega)
  have db : decide (80 < (b.size : Int)) = false := decide_eq_false (by omega)
  have eb : decide (80 < b.size) = false := decide_eq_false (by omega)
  clear ha hb
  go_enter Try.func33, Try.ntmps33
  have st2 := trivial
  have st4 := trivial
  have st8 := trivial
  go_upto_region 4 with (first
    | (clear st2; (with_reducible refine gate_dst (N := 4) rfl ?_); refine box_event ?hg (N := 4) ?hd (cs := #[.bool false, .slice none 0 0]) (t := 25) ?hr ?_; (case hd => rfl); (case hg => rfl); (case hr => first | (go_simp; done) | (go_simp; rfl)); intro g4 hg w1 hbox hb; replace H := H.newbox hg hbox hb; clear hg hbox hb; have kg4_0 : w1.cell? ⟨g4, 0, none⟩ = some (.bool false) := H.cell m0 0; have zg4_0 := H.frozen (g := g4) m0 0; have kg4_1 : w1.cell? ⟨g4, 1, none⟩ = some (.slice none 0 0) := H.cell m0 1; have zg4_1 := H.frozen (g := g4) m0 1)
    | (clear st4; (with_reducible refine gate_dst (N := 5) rfl ?_); refine box_event ?hg (N := 5) ?hd (cs := #[.bool false, .slice none 0 0]) (t := 25) ?hr ?_; (case hd => rfl); (case hg => rfl); (case hr => first | (go_simp; done) | (go_simp; rfl)); intro g5 hg w3 hbox hb; replace H := H.newbox hg hbox hb; clear hg hbox hb; clear kg4_0 zg4_0 kg4_1 zg4_1; have kg5_0 : w3.cell? ⟨g5, 0, none⟩ = some (.bool false) := H.cell m0 0; have zg5_0 := H.frozen (g := g5) m0 0; have kg5_1 : w3.cell? ⟨g5, 1, none⟩ = some (.slice none 0 0) := H.cell m0 1; have zg5_1 := H.frozen (g := g5) m0 1; have kg4_0 : w3.cell? ⟨g4, 0, none⟩ = some (.bool false) := H.cell m1 0; have zg4_0 := H.frozen (g := g4) m1 0; have kg4_1 : w3.cell? ⟨g4, 1, none⟩ = some (.slice none 0 0) := H.cell m1 1; have zg4_1 := H.frozen (g := g4) m1 1; have ne_g5_g4 := H.ne (g := g5) (g' := g4) 0 1 rfl rfl (by decide); have ne_g4_g5 := ne_g5_g4.symm)
    | (clear st8; go_at_call 23; (with_reducible refine (ParseQ a _ x e1 hx.out).mono ?_); rintro e w5 ⟨A6, c7, rfl, hr, hb⟩; replace H := H.got (fresh_row hr) hb; clear hr hb; clear kg5_0 zg5_0 kg5_1 zg5_1 kg4_0 zg4_0 kg4_1 zg4_1; have kg5_0 : w5.cell? ⟨g5, 0, none⟩ = some (.bool false) := H.cell m0 0; have zg5_0 := H.frozen (g := g5) m0 0; have kg5_1 : w5.cell? ⟨g5, 1, none⟩ = some (.slice none 0 0) := H.cell m0 1; have zg5_1 := H.frozen (g := g5) m0 1; have kg4_0 : w5.cell? ⟨g4, 0, none⟩ = some (.bool false) := H.cell m1 0; have zg4_0 := H.frozen (g := g4) m1 0; have kg4_1 : w5.cell? ⟨g4, 1, none⟩ = some (.slice none 0 0) := H.cell m1 1; have zg4_1 := H.frozen (g := g4) m1 1))
  (try simp only [Act.put, List.setIfInBounds_toArray, List.set_cons_zero, List.set_cons_succ])
  replace H := ((H.setn [_] 0 (.bool (ng x)) rfl).setn [_] 1 (.slice A6 (ln x) c7) rfl)
  clear kg5_0 zg5_0 kg5_1 zg5_1 kg4_0 zg4_0 kg4_1 zg4_1
  generalize ((w5.setCell ⟨g4, 0, none⟩ (.bool (ng x))).setCell ⟨g4, 1, none⟩ (.slice A6 (ln x) c7)) = w9 at H ⊢
  have kg5_0 : w9.cell? ⟨g5, 0, none⟩ = some (.bool false) := H.cell m0 0
  have zg5_0 := H.frozen (g := g5) m0 0
  have kg5_1 : w9.cell? ⟨g5, 1, none⟩ = some (.slice none 0 0) := H.cell m0 1
  have zg5_1 := H.frozen (g := g5) m0 1
  have kg4_0 : w9.cell? ⟨g4, 0, none⟩ = some (.bool (ng x)) := H.cell m1 0
  have zg4_0 := H.frozen (g := g4) m1 0
  have kg4_1 : w9.cell? ⟨g4, 1, none⟩ = some (.slice A6 (ln x) c7) := H.cell m1 1
  have zg4_1 := H.frozen (g := g4) m1 1
  have st13 := trivial
  go_upto_region 5 with (first
    | (clear st13; go_at_call 23; (with_reducible refine (ParseQ b _ y e2 hy.out).mono ?_); rintro e w10 ⟨A11, c12, rfl, hr, hb⟩; replace H := H.got (fresh_row hr) hb; clear hr hb; clear kg5_0 zg5_0 kg5_1 zg5_1 kg4_0 zg4_0 kg4_1 zg4_1; have kg5_0 : w10.cell? ⟨g5, 0, none⟩ = some (.bool false) := H.cell m0 0; have zg5_0 := H.frozen (g := g5) m0 0; have kg5_1 : w10.cell? ⟨g5, 1, none⟩ = some (.slice none 0 0) := H.cell m0 1; have zg5_1 := H.frozen (g := g5) m0 1; have kg4_0 : w10.cell? ⟨g4, 0, none⟩ = some (.bool (ng x)) := H.cell m1 0; have zg4_0 := H.frozen (g := g4) m1 0; have kg4_1 : w10.cell? ⟨g4, 1, none⟩ = some (.slice A6 (ln x) c7) := H.cell m1 1; have zg4_1 := H.frozen (g := g4) m1 1))
  (try simp only [Act.put, List.setIfInBounds_toArray, List.set_cons_zero, List.set_cons_succ])
  replace H := ((H.setn [] 0 (.bool (ng y)) rfl).setn [] 1 (.slice A11 (ln y) c12) rfl)
  clear kg5_0 zg5_0 kg5_1 zg5_1 kg4_0 zg4_0 kg4_1 zg4_1
  generalize ((w10.setCell ⟨g5, 0, none⟩ (.bool (ng y))).setCell ⟨g5, 1, none⟩ (.slice A11 (ln y) c12)) = w14 at H ⊢
  have kg5_0 : w14.cell? ⟨g5, 0, none⟩ = some (.bool (ng y)) := H.cell m0 0
  have zg5_0 := H.frozen (g := g5) m0 0
  have kg5_1 : w14.cell? ⟨g5, 1, none⟩ = some (.slice A11 (ln y) c12) := H.cell m0 1
  have zg5_1 := H.frozen (g := g5) m0 1
  have kg4_0 : w14.cell? ⟨g4, 0, none⟩ = some (.bool (ng x)) := H.cell m1 0
  have zg4_0 := H.frozen (g := g4) m1 0
  have kg4_1 : w14.cell? ⟨g4, 1, none⟩ = some (.slice A6 (ln x) c7) := H.cell m1 1
  have zg4_1 := H.frozen (g := g4) m1 1
  go_region_held3 (fun w' => w'.cell? ⟨g4, 0, none⟩ = some (.bool (ng x)) ∧ w'.cell? ⟨g4, 1, none⟩ = some (.slice A6 (ln x) c7) ∧ w'.cell? ⟨g5, 0, none⟩ = some (.bool (ng y)) ∧ w'.cell? ⟨g5, 1, none⟩ = some (.slice A11 (ln y) c12)) (first | (have q : w14.cell? ⟨g4, 0, none⟩ = some (.bool (ng x)) ∧ w14.cell? ⟨g4, 1, none⟩ = some (.slice A6 (ln x) c7) ∧ w14.cell? ⟨g5, 0, none⟩ = some (.bool (ng y)) ∧ w14.cell? ⟨g5, 1, none⟩ = some (.slice A11 (ln y) c12) := ⟨H.cell m1 0, H.cell m1 1, H.cell m0 0, H.cell m0 1⟩; with_reducible exact q) | (have q : w14.drew.cell? ⟨g4, 0, none⟩ = some (.bool (ng x)) ∧ w14.drew.cell? ⟨g4, 1, none⟩ = some (.slice A6 (ln x) c7) ∧ w14.drew.cell? ⟨g5, 0, none⟩ = some (.bool (ng y)) ∧ w14.drew.cell? ⟨g5, 1, none⟩ = some (.slice A11 (ln y) c12) := ⟨H.drew.cell m1 0, H.drew.cell m1 1, H.drew.cell m0 0, H.drew.cell m0 1⟩; with_reducible exact q) | (have q : (((w14.setCell ⟨g4, 0, none⟩ (.bool (ng x))).setCell ⟨g4, 1, none⟩ (.slice A6 (ln x) c7))).cell? ⟨g4, 0, none⟩ = some (.bool (ng x)) ∧ (((w14.setCell ⟨g4, 0, none⟩ (.bool (ng x))).setCell ⟨g4, 1, none⟩ (.slice A6 (ln x) c7))).cell? ⟨g4, 1, none⟩ = some (.slice A6 (ln x) c7) ∧ (((w14.setCell ⟨g4, 0, none⟩ (.bool (ng x))).setCell ⟨g4, 1, none⟩ (.slice A6 (ln x) c7))).cell? ⟨g5, 0, none⟩ = some (.bool (ng y)) ∧ (((w14.setCell ⟨g4, 0, none⟩ (.bool (ng x))).setCell ⟨g4, 1, none⟩ (.slice A6 (ln x) c7))).cell? ⟨g5, 1, none⟩ = some (.slice A11 (ln y) c12) := ⟨((H.setn [_] 0 (.bool (ng x)) rfl).setn [_] 1 (.slice A6 (ln x) c7) rfl).cell m1 0, ((H.setn [_] 0 (.bool (ng x)) rfl).setn [_] 1 (.slice A6 (ln x) c7) rfl).cell m1 1, ((H.setn [_] 0 (.bool (ng x)) rfl).setn [_] 1 (.slice A6 (ln x) c7) rfl).cell m0 0, ((H.setn [_] 0 (.bool (ng x)) rfl).setn [_] 1 (.slice A6 (ln x) c7) rfl).cell m0 1⟩; with_reducible exact q) | (have q : (((w14.setCell ⟨g4, 0, none⟩ (.bool (ng x))).setCell ⟨g4, 1, none⟩ (.slice A6 (ln x) c7))).drew.cell? ⟨g4, 0, none⟩ = some (.bool (ng x)) ∧ (((w14.setCell ⟨g4, 0, none⟩ (.bool (ng x))).setCell ⟨g4, 1, none⟩ (.slice A6 (ln x) c7))).drew.cell? ⟨g4, 1, none⟩ = some (.slice A6 (ln x) c7) ∧ (((w14.setCell ⟨g4, 0, none⟩ (.bool (ng x))).setCell ⟨g4, 1, none⟩ (.slice A6 (ln x) c7))).drew.cell? ⟨g5, 0, none⟩ = some (.bool (ng y)) ∧ (((w14.setCell ⟨g4, 0, none⟩ (.bool (ng x))).setCell ⟨g4, 1, none⟩ (.slice A6 (ln x) c7))).drew.cell? ⟨g5, 1, none⟩ = some (.slice A11 (ln y) c12) := ⟨(((H.setn [_] 0 (.bool (ng x)) rfl).setn [_] 1 (.slice A6 (ln x) c7) rfl)).drew.cell m1 0, (((H.setn [_] 0 (.bool (ng x)) rfl).setn [_] 1 (.slice A6 (ln x) c7) rfl)).drew.cell m1 1, (((H.setn [_] 0 (.bool (ng x)) rfl).setn [_] 1 (.slice A6 (ln x) c7) rfl)).drew.cell m0 0, (((H.setn [_] 0 (.bool (ng x)) rfl).setn [_] 1 (.slice A6 (ln x) c7) rfl)).drew.cell m0 1⟩; with_reducible exact q) | (have q : ((((((w14.setCell ⟨g4, 0, none⟩ (.bool (ng x))).setCell ⟨g4, 1, none⟩ (.slice A6 (ln x) c7))).setCell ⟨g5, 0, none⟩ (.bool (ng y))).setCell ⟨g5, 1, none⟩ (.slice A11 (ln y) c12))).cell? ⟨g4, 0, none⟩ = some (.bool (ng x)) ∧ ((((((w14.setCell ⟨g4, 0, none⟩ (.bool (ng x))).setCell ⟨g4, 1, none⟩ (.slice A6 (ln x) c7))).setCell ⟨g5, 0, none⟩ (.bool (ng y))).setCell ⟨g5, 1, none⟩ (.slice A11 (ln y) c12))).cell? ⟨g4, 1, none⟩ = some (.slice A6 (ln x) c7) ∧ ((((((w14.setCell ⟨g4, 0, none⟩ (.bool (ng x))).setCell ⟨g4, 1, none⟩ (.slice A6 (ln x) c7))).setCell ⟨g5, 0, none⟩ (.bool (ng y))).setCell ⟨g5, 1, none⟩ (.slice A11 (ln y) c12))).cell? ⟨g5, 0, none⟩ = some (.bool (ng y)) ∧ ((((((w14.setCell ⟨g4, 0, none⟩ (.bool (ng x))).setCell ⟨g4, 1, none⟩ (.slice A6 (ln x) c7))).setCell ⟨g5, 0, none⟩ (.bool (ng y))).setCell ⟨g5, 1, none⟩ (.slice A11 (ln y) c12))).cell? ⟨g5, 1, none⟩ = some (.slice A11 (ln y) c12) := ⟨((((H.setn [_] 0 (.bool (ng x)) rfl).setn [_] 1 (.slice A6 (ln x) c7) rfl).setn [] 0 (.bool (ng y)) rfl).setn [] 1 (.slice A11 (ln y) c12) rfl).cell m1 0, ((((H.setn [_] 0 (.bool (ng x)) rfl).setn [_] 1 (.slice A6 (ln x) c7) rfl).setn [] 0 (.bool (ng y)) rfl).setn [] 1 (.slice A11 (ln y) c12) rfl).cell m1 1, ((((H.setn [_] 0 (.bool (ng x)) rfl).setn [_] 1 (.slice A6 (ln x) c7) rfl).setn [] 0 (.bool (ng y)) rfl).setn [] 1 (.slice A11 (ln y) c12) rfl).cell m0 0, ((((H.setn [_] 0 (.bool (ng x)) rfl).setn [_] 1 (.slice A6 (ln x) c7) rfl).setn [] 0 (.bool (ng y)) rfl).setn [] 1 (.slice A11 (ln y) c12) rfl).cell m0 1⟩; with_reducible exact q) | (have q : ((((((w14.setCell ⟨g4, 0, none⟩ (.bool (ng x))).setCell ⟨g4, 1, none⟩ (.slice A6 (ln x) c7))).setCell ⟨g5, 0, none⟩ (.bool (ng y))).setCell ⟨g5, 1, none⟩ (.slice A11 (ln y) c12))).drew.cell? ⟨g4, 0, none⟩ = some (.bool (ng x)) ∧ ((((((w14.setCell ⟨g4, 0, none⟩ (.bool (ng x))).setCell ⟨g4, 1, none⟩ (.slice A6 (ln x) c7))).setCell ⟨g5, 0, none⟩ (.bool (ng y))).setCell ⟨g5, 1, none⟩ (.slice A11 (ln y) c12))).drew.cell? ⟨g4, 1, none⟩ = some (.slice A6 (ln x) c7) ∧ ((((((w14.setCell ⟨g4, 0, none⟩ (.bool (ng x))).setCell ⟨g4, 1, none⟩ (.slice A6 (ln x) c7))).setCell ⟨g5, 0, none⟩ (.bool (ng y))).setCell ⟨g5, 1, none⟩ (.slice A11 (ln y) c12))).drew.cell? ⟨g5, 0, none⟩ = some (.bool (ng y)) ∧ ((((((w14.setCell ⟨g4, 0, none⟩ (.bool (ng x))).setCell ⟨g4, 1, none⟩ (.slice A6 (ln x) c7))).setCell ⟨g5, 0, none⟩ (.bool (ng y))).setCell ⟨g5, 1, none⟩ (.slice A11 (ln y) c12))).drew.cell? ⟨g5, 1, none⟩ = some (.slice A11 (ln y) c12) := ⟨(((((H.setn [_] 0 (.bool (ng x)) rfl).setn [_] 1 (.slice A6 (ln x) c7) rfl).setn [] 0 (.bool (ng y)) rfl).setn [] 1 (.slice A11 (ln y) c12) rfl)).drew.cell m1 0, (((((H.setn [_] 0 (.bool (ng x)) rfl).setn [_] 1 (.slice A6 (ln x) c7) rfl).setn [] 0 (.bool (ng y)) rfl).setn [] 1 (.slice A11 (ln y) c12) rfl)).drew.cell m1 1, (((((H.setn [_] 0 (.bool (ng x)) rfl).setn [_] 1 (.slice A6 (ln x) c7) rfl).setn [] 0 (.bool (ng y)) rfl).setn [] 1 (.slice A11 (ln y) c12) rfl)).drew.cell m0 0, (((((H.setn [_] 0 (.bool (ng x)) rfl).setn [_] 1 (.slice A6 (ln x) c7) rfl).setn [] 0 (.bool (ng y)) rfl).setn [] 1 (.slice A11 (ln y) c12) rfl)).drew.cell m0 1⟩; with_reducible exact q) | fail) (fail)
  try go_wp2
  replace H := ((((H.setn [_] 0 (.bool (ng x)) rfl).setn [_] 1 (.slice A6 (ln x) c7) rfl).setn [] 0 (.bool (ng y)) rfl).setn [] 1 (.slice A11 (ln y) c12) rfl).drew
  refine bodyPost_ret (results_list (rs := [.cell 4 25, .cell 5 25, .tmp 6]) rfl (by simp) (.cell g4 25 #[.bool (ng x), .slice A6 (ln x) c7] (0, 0) _ rfl (H.blk m1) Try.underlying25 rfl (by kernel_rfl) (.cell g5 25 #[.bool (ng y), .slice A11 (ln y) c12] (0, 0) _ rfl (H.blk m0) Try.underlying25 rfl (by kernel_rfl) (.tmp .nil)))) rfl ?_
  exact ⟨A6, c7, A11, c12, rfl, (H.ret m1).mono (fun k hk => hk.resolve_left id), (H.ret m0).mono (fun k hk => hk.resolve_left id), H.below⟩

/-- Both texts are short, and each is a number's. -/
def Both (a b : ByteArray) (x y : Int) : Prop := a.size ≤ 80 ∧ b.size ≤ 80 ∧ pr a = (x, 0) ∧ pr b = (y, 0)
theorem two_ok {a b : ByteArray} {x y : Int} (h : Both a b x y) (w : World) : Calls Try.prog 33 #[.string a, .string b] w (RetTwo w x y true) := two_yes a b w x y h.1 h.2.1 0 0 rfl rfl ⟨h.2.2.1⟩ ⟨h.2.2.2⟩
theorem two_not (a b : ByteArray) (h : ¬ ∃ x y, Both a b x y) : ∃ x y, ∀ w, Calls Try.prog 33 #[.string a, .string b] w (RetTwo w x y false) := by
  by_cases ha : 80 < a.size
  · exact ⟨0, 0, fun w => two_a a b w ha⟩
  by_cases hb : 80 < b.size
  · exact ⟨0, 0, fun w => two_b a b w (by omega) hb⟩
  refine ⟨(pr a).1, (pr b).1, fun w => ?_⟩
  by_cases e1 : (pr a).2 = 0
  · by_cases e2 : (pr b).2 = 0
    · exact absurd ⟨(pr a).1, (pr b).1, by omega, by omega, by rw [← e1], by rw [← e2]⟩ h
    · exact two_no2 a b w _ _ (by omega) (by omega) (pr a).2 (pr b).2 (beq_iff_eq.mpr e1) (beq_eq_false_iff_ne.mpr e2) ⟨rfl⟩ ⟨rfl⟩
  · exact two_no1 a b w _ _ (by omega) (by omega) (pr a).2 (pr b).2 (beq_eq_false_iff_ne.mpr e1) ⟨rfl⟩ ⟨rfl⟩
/-- The numbers of short texts are small. -/
theorem pr_small {a : ByteArray} {x e : Int} (h : pr a = (x, e)) (ha : a.size ≤ 80) : ln x ≤ 10 := by
  unfold pr at h
  rw [if_neg (by omega)] at h
  split at h
  · injection h with h1 h2
    rw [← h1]
    exact Nat.zero_le _
  · next hn =>
    have hd : Dg (cutS a) 0 (cutS a).size := Classical.not_not.mp (fun h' => hn (.inr (.inr h')))
    have hb := pc_bound hd
    have hs := cutS_size a
    injection h with h1 h2
    refine ln_bound _ _ ?_
    have e : x.natAbs = (pc (cutS a) 0 (cutS a).size).natAbs := by rw [← h1]; split <;> simp
    have e3 : (10 : Nat) ^ (cutS a).size ≤ 10 ^ 80 := Nat.pow_le_pow_right (by omega) (by omega)
    have e4 : (10 : Nat) ^ 80 ≤ 4294967296 ^ 10 := by decide
    rw [e]
    refine Nat.lt_of_lt_of_le (Int.ofNat_lt.mp (?_ : (((pc (cutS a) 0 (cutS a).size).natAbs : Nat) : Int) < ((10 ^ (cutS a).size : Nat) : Int))) (Nat.le_trans e3 e4)
    rw [Int.natAbs_of_nonneg hb.1, Int.natCast_pow]
    exact hb.2

theorem two_any (a b : ByteArray) : ∃ x y q, ∀ w, Calls Try.prog 33 #[.string a, .string b] w (RetTwo w x y q) := by
  by_cases h : ∃ x y, Both a b x y
  · obtain ⟨x, y, h⟩ := h; exact ⟨x, y, true, fun w => two_ok h w⟩
  · obtain ⟨x, y, h⟩ := two_not a b h; exact ⟨x, y, false, h⟩
theorem both_small {a b : ByteArray} {x y : Int} (h : Both a b x y) : ln x ≤ 10 ∧ ln y ≤ 10 := ⟨pr_small h.2.2.1 h.1, pr_small h.2.2.2 h.2.1⟩

end Go.Proofs.Ytdkapdgbfejgdaa
