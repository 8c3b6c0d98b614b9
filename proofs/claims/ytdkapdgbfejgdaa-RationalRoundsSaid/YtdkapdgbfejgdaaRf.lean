/- rational.Parse by its value; ontimelaw02.awake. -/
import Derived.Test.YtdkapdgbfejgdaaRe
namespace Go.Proofs.Ytdkapdgbfejgdaa
open Go.RowKit Go.Proofs.YtdkapdgbfejgdaaW.PrintWords Go.Proofs.YtdkapdgbfejgdaaW.PrintLast Go.Proofs.YtdkapdgbfejgdaaW.PrintMore
set_option linter.unusedSimpArgs false
set_option linter.unusedVariables false
set_option maxHeartbeats 8000000
set_option maxRecDepth 100000

theorem Dg_all' {t : ByteArray} {k : Nat} (h : ((List.range k).all fun j => decide (48 ≤ bt t (j : Int) ∧ bt t (j : Int) ≤ 57)) = true) : Dg t 0 k := by
  intro j _ hj
  have := List.all_eq_true.mp h j (List.mem_range.mpr (by omega))
  exact of_decide_eq_true this
theorem toList_eq' (t : ByteArray) : t.toList = t.data.toList := by
  have key : ∀ (n i : Nat) (r : List UInt8), t.size - i = n → ByteArray.toList.loop t i r = r.reverse ++ t.data.toList.drop i := by
    intro n
    induction n with
    | zero =>
      intro i r h
      unfold ByteArray.toList.loop
      have h0 : ¬ i < t.size := by omega
      rw [if_neg h0, List.drop_eq_nil_of_le (by rw [Array.length_toList]; show t.size ≤ i; omega), List.append_nil]
    | succ n ih =>
      intro i r h
      unfold ByteArray.toList.loop
      have h0 : i < t.size := by omega
      rw [if_pos h0, ih (i + 1) _ (by omega)]
      have hl : i < t.data.toList.length := by rw [Array.length_toList]; exact h0
      rw [List.drop_eq_getElem_cons hl, List.reverse_cons, List.append_assoc]
      congr 1
      simp only [List.singleton_append, List.cons.injEq, and_true]
      show t.get! i = _
      have : t.get! i = t.data[i]! := rfl
      rw [this, getElem!_pos t.data i h0]
      exact (Array.getElem_toList h0).symm
  have := key t.size 0 [] (by omega)
  unfold ByteArray.toList
  simpa using this
/-- What Parse makes of a text. -/
noncomputable def rp (s : ByteArray) : Int × Int × Int :=
  if 4096 < s.size then (0, 0, 5)
  else
    let a := pr (cutL s)
    let b := pr (if cutF s = true then cutR s else ⟨#[49]⟩)
    if a.2 ≠ 0 ∨ b.2 ≠ 0 ∨ b.1 ≤ 0 then (0, 0, 3)
    else if (qt (qn a.1 b.1) (qd a.1 b.1)).toList = s.toList then (qn a.1 b.1, qd a.1 b.1, 0) else (0, 0, 3)
theorem toList_inj {a b : ByteArray} (h : a.toList = b.toList) : a = b := by
  rw [toList_eq', toList_eq'] at h
  cases a; cases b
  congr 1
  exact Array.toList_inj.mp h
theorem ParseR (s : ByteArray) (w : World) (rn rd err : Int) (h : rp s = (rn, rd, err)) : Calls Try.prog 49 #[.string s] w (RetQP w rn rd err) := by
  unfold rp at h
  by_cases h0 : 4096 < s.size
  · rw [if_pos h0] at h
    obtain ⟨rfl, rfl, rfl⟩ : 0 = rn ∧ 0 = rd ∧ 5 = err := by simpa using h
    exact RParse_full s w (by omega)
  · rw [if_neg h0] at h
    obtain ⟨⟨n, e⟩, ha⟩ : ∃ v, pr (cutL s) = v := ⟨_, rfl⟩
    obtain ⟨⟨d, f⟩, hb⟩ : ∃ v, pr (if cutF s = true then cutR s else ⟨#[49]⟩) = v := ⟨_, rfl⟩
    simp only [ha, hb] at h
    have bn := pr_lim ha
    have bd := pr_lim hb
    have bq1 := bQn (d := d) bn rfl
    have bq2 := bQd (n := n) bd rfl
    have hs : (s.size : Int) ≤ 4096 := by omega
    by_cases he : e = 0
    · have t1 : (e != 0) = false := by rw [he]; rfl
      by_cases hf : f = 0
      · have t2 : (f != 0) = false := by rw [hf]; rfl
        by_cases hd : d ≤ 0
        · rw [if_pos (.inr (.inr hd))] at h
          obtain ⟨rfl, rfl, rfl⟩ : 0 = rn ∧ 0 = rd ∧ 3 = err := by simpa using h
          have t3 : decide (sg d ≤ 0) = true := decide_eq_true (by unfold sg; repeat' split <;> omega)
          by_cases hc : cutF s = true
          · rw [if_pos hc] at hb; exact RParse_y3 s _ _ w hs ⟨rfl, rfl, hc⟩ n d e f ⟨ha⟩ ⟨hb⟩ t1 t2 ⟨bd⟩ _ ⟨rfl⟩ t3
          · rw [if_neg hc] at hb; exact RParse_n3 s _ _ w hs ⟨rfl, rfl, by simpa using hc⟩ n d e f ⟨ha⟩ ⟨hb⟩ t1 t2 ⟨bd⟩ _ ⟨rfl⟩ t3
        · rw [if_neg (by rintro (h1 | h1 | h1); exact h1 he; exact h1 hf; exact hd h1)] at h
          have hsg : sg d = 1 := by unfold sg; rw [if_neg (by omega), if_neg (by omega)]
          by_cases ht : (qt (qn n d) (qd n d)).toList = s.toList
          · rw [if_pos ht] at h
            obtain ⟨rfl, rfl, rfl⟩ : qn n d = rn ∧ qd n d = rd ∧ 0 = err := by simpa using h
            have t4 : (s.toList == s.toList) = true := beq_self_eq_true _
            by_cases hc : cutF s = true
            · rw [if_pos hc] at hb; exact RParse_y5 s _ _ w hs ⟨rfl, rfl, hc⟩ n d e f ⟨ha⟩ ⟨hb⟩ t1 t2 ⟨bn⟩ ⟨bd⟩ ⟨hsg⟩ _ _ ⟨rfl, rfl⟩ ⟨bq1⟩ ⟨bq2⟩ ⟨toList_inj ht⟩ t4
            · rw [if_neg hc] at hb; exact RParse_n5 s _ _ w hs ⟨rfl, rfl, by simpa using hc⟩ n d e f ⟨ha⟩ ⟨hb⟩ t1 t2 ⟨bn⟩ ⟨bd⟩ ⟨hsg⟩ _ _ ⟨rfl, rfl⟩ ⟨bq1⟩ ⟨bq2⟩ ⟨toList_inj ht⟩ t4
          · rw [if_neg ht] at h
            obtain ⟨rfl, rfl, rfl⟩ : 0 = rn ∧ 0 = rd ∧ 3 = err := by simpa using h
            have t4 : ((qt (qn n d) (qd n d)).toList == s.toList) = false := beq_eq_false_iff_ne.mpr ht
            by_cases hc : cutF s = true
            · rw [if_pos hc] at hb; exact RParse_y4 s _ _ w hs ⟨rfl, rfl, hc⟩ n d e f ⟨ha⟩ ⟨hb⟩ t1 t2 ⟨bn⟩ ⟨bd⟩ ⟨hsg⟩ _ _ ⟨rfl, rfl⟩ ⟨bq1⟩ ⟨bq2⟩ _ ⟨rfl⟩ t4
            · rw [if_neg hc] at hb; exact RParse_n4 s _ _ w hs ⟨rfl, rfl, by simpa using hc⟩ n d e f ⟨ha⟩ ⟨hb⟩ t1 t2 ⟨bn⟩ ⟨bd⟩ ⟨hsg⟩ _ _ ⟨rfl, rfl⟩ ⟨bq1⟩ ⟨bq2⟩ _ ⟨rfl⟩ t4
      · rw [if_pos (.inr (.inl hf))] at h
        obtain ⟨rfl, rfl, rfl⟩ : 0 = rn ∧ 0 = rd ∧ 3 = err := by simpa using h
        have t2 : (f != 0) = true := by simpa using hf
        by_cases hc : cutF s = true
        · rw [if_pos hc] at hb; exact RParse_y2 s _ _ w hs ⟨rfl, rfl, hc⟩ n d e f ⟨ha⟩ ⟨hb⟩ t1 t2
        · rw [if_neg hc] at hb; exact RParse_n2 s _ _ w hs ⟨rfl, rfl, by simpa using hc⟩ n d e f ⟨ha⟩ ⟨hb⟩ t1 t2
    · rw [if_pos (.inl he)] at h
      obtain ⟨rfl, rfl, rfl⟩ : 0 = rn ∧ 0 = rd ∧ 3 = err := by simpa using h
      have t1 : (e != 0) = true := by simpa using he
      by_cases hc : cutF s = true
      · rw [if_pos hc] at hb; exact RParse_y1 s _ _ w hs ⟨rfl, rfl, hc⟩ n d e f ⟨ha⟩ ⟨hb⟩ t1
      · rw [if_neg hc] at hb; exact RParse_n1 s _ _ w hs ⟨rfl, rfl, by simpa using hc⟩ n d e f ⟨ha⟩ ⟨hb⟩ t1

theorem pr_49 : pr ⟨#[49]⟩ = (1, 0) := by
  have e1 : cutS ⟨#[49]⟩ = ⟨#[49]⟩ := by rfl
  have e2 : cutB ⟨#[49]⟩ = false := by rfl
  unfold pr
  rw [e1, e2, toList_eq', if_neg (by decide), if_neg, if_neg (by decide)]
  · rfl
  · rintro (h | h | h)
    · cases h
    · exact absurd h.1 (by decide)
    · exact h (Dg_all' (by decide))
theorem pr_50 : pr ⟨#[50]⟩ = (2, 0) := by
  have e1 : cutS ⟨#[50]⟩ = ⟨#[50]⟩ := by rfl
  have e2 : cutB ⟨#[50]⟩ = false := by rfl
  unfold pr
  rw [e1, e2, toList_eq', if_neg (by decide), if_neg, if_neg (by decide)]
  · rfl
  · rintro (h | h | h)
    · cases h
    · exact absurd h.1 (by decide)
    · exact h (Dg_all' (by decide))
theorem pr_51 : pr ⟨#[51]⟩ = (3, 0) := by
  have e1 : cutS ⟨#[51]⟩ = ⟨#[51]⟩ := by rfl
  have e2 : cutB ⟨#[51]⟩ = false := by rfl
  unfold pr
  rw [e1, e2, toList_eq', if_neg (by decide), if_neg, if_neg (by decide)]
  · rfl
  · rintro (h | h | h)
    · cases h
    · exact absurd h.1 (by decide)
    · exact h (Dg_all' (by decide))
theorem rp_50 : rp ⟨#[49, 47, 50]⟩ = (1, 2, 0) := by
  have e0 : cutF ⟨#[49, 47, 50]⟩ = true := by decide +kernel
  have e1 : cutL ⟨#[49, 47, 50]⟩ = ⟨#[49]⟩ := by decide +kernel
  have e2 : cutR ⟨#[49, 47, 50]⟩ = ⟨#[50]⟩ := by decide +kernel
  have q1 : qn 1 2 = 1 := by decide +kernel
  have q2 : qd 1 2 = 2 := by decide +kernel
  have q3 : qt 1 2 = ⟨#[49, 47, 50]⟩ := by decide +kernel
  unfold rp
  rw [if_neg (by decide)]
  simp only [e0, e1, e2, if_true, pr_49, pr_50, q1, q2, q3]
  rfl
theorem rp_51 : rp ⟨#[49, 47, 51]⟩ = (1, 3, 0) := by
  have e0 : cutF ⟨#[49, 47, 51]⟩ = true := by decide +kernel
  have e1 : cutL ⟨#[49, 47, 51]⟩ = ⟨#[49]⟩ := by decide +kernel
  have e2 : cutR ⟨#[49, 47, 51]⟩ = ⟨#[51]⟩ := by decide +kernel
  have q1 : qn 1 3 = 1 := by decide +kernel
  have q2 : qd 1 3 = 3 := by decide +kernel
  have q3 : qt 1 3 = ⟨#[49, 47, 51]⟩ := by decide +kernel
  unfold rp
  rw [if_neg (by decide)]
  simp only [e0, e1, e2, if_true, pr_49, pr_51, q1, q2, q3]
  rfl

theorem awake2 (w : World) : Calls Try.prog 38 #[] w (fun e w' => e = .returned (.bool true) ∧ Below w.heap.size w w') := by
  have hu25 := Try.underlying25
  have hu51 := Try.underlying51
  have H := Sit.start w (fun _ => False)
  obtain ⟨n1, en1⟩ : ∃ v : Int, v = -3 := ⟨_, rfl⟩
  obtain ⟨d1, ed1⟩ : ∃ v : Int, v = 2 := ⟨_, rfl⟩
  obtain ⟨a1, ea1⟩ : ∃ v : Int, v = 1 := ⟨_, rfl⟩
  obtain ⟨b1, eb1⟩ : ∃ v : Int, v = 2 := ⟨_, rfl⟩
  obtain ⟨p1, ep1⟩ : ∃ v : Int, v = 1 := ⟨_, rfl⟩
  obtain ⟨q1, eq1⟩ : ∃ v : Int, v = 3 := ⟨_, rfl⟩
  obtain ⟨u1, eu1⟩ : ∃ v : Int, v = 5 := ⟨_, rfl⟩
  obtain ⟨v1, ev1⟩ : ∃ v : Int, v = 6 := ⟨_, rfl⟩
  obtain ⟨f1, ef1⟩ : ∃ v : Int, v = -2 := ⟨_, rfl⟩
  obtain ⟨c1, ec1⟩ : ∃ v : Int, v = -1 := ⟨_, rfl⟩
  have bn1 := Aside0.mk (show ln n1 ≤ 1 from ln_bound n1 1 (by omega))
  have bd1 := Aside0.mk (show ln d1 ≤ 1 from ln_bound d1 1 (by omega))
  have ba1 := Aside0.mk (show ln a1 ≤ 1 from ln_bound a1 1 (by omega))
  have bb1 := Aside0.mk (show ln b1 ≤ 1 from ln_bound b1 1 (by omega))
  have bp1 := Aside0.mk (show ln p1 ≤ 1 from ln_bound p1 1 (by omega))
  have bq1 := Aside0.mk (show ln q1 ≤ 1 from ln_bound q1 1 (by omega))
  have bu1 := Aside0.mk (show ln u1 ≤ 1 from ln_bound u1 1 (by omega))
  have bv1 := Aside0.mk (show ln v1 ≤ 1 from ln_bound v1 1 (by omega))
  have bf1 := Aside0.mk (show ln f1 ≤ 1 from ln_bound f1 1 (by omega))
  have bc1 := Aside0.mk (show ln c1 ≤ 1 from ln_bound c1 1 (by omega))
  have hF := Aside0.mk (show (qn 6 (-4) = n1 ∧ qd 6 (-4) = d1 ∧ qe (-4) = 0) ∧ (-9223372036854775808 ≤ (6 : Int) ∧ (6 : Int) ≤ 9223372036854775807) ∧ (-9223372036854775808 ≤ (-4 : Int) ∧ (-4 : Int) ≤ 9223372036854775807) by rw [en1, ed1]; decide +kernel)
  have hP := Aside0.mk (show rp ⟨#[49, 47, 50]⟩ = (a1, b1, 0) by rw [ea1, eb1]; exact rp_50)
  have hR := Aside0.mk (show rp ⟨#[49, 47, 51]⟩ = (p1, q1, 0) by rw [ep1, eq1]; exact rp_51)
  have t1 := Aside0.mk (show qt n1 d1 = ⟨#[45, 51, 47, 50]⟩ by rw [en1, ed1]; decide +kernel)
  have hf := Aside0.mk (show flr n1 d1 = f1 by rw [en1, ed1, ef1]; decide +kernel)
  have t2 := Aside0.mk (show tx f1 = ⟨#[45, 50]⟩ by rw [ef1]; decide +kernel)
  have hc := Aside0.mk (show -(flr (-n1) d1) = c1 by rw [en1, ed1, ec1]; decide +kernel)
  have t3 := Aside0.mk (show tx c1 = ⟨#[45, 49]⟩ by rw [ec1]; decide +kernel)
  have hA := Aside0.mk (show qn (a1 * dd q1 + p1 * dd b1) (dd b1 * dd q1) = u1 ∧ qd (a1 * dd q1 + p1 * dd b1) (dd b1 * dd q1) = v1 by rw [ea1, eb1, ep1, eq1, eu1, ev1]; decide +kernel)
  have t4 := Aside0.mk (show qt u1 v1 = ⟨#[53, 47, 54]⟩ by rw [eu1, ev1]; decide +kernel)
  clear en1 ed1 ea1 eb1 ep1 eq1 eu1 ev1 ef1 ec1
  go_enter Try.func38, Try.ntmps38
  have st6 := trivial
  have st8 := trivial
  go_upto_region 2 with (first
    | (clear st6; go_at_call 39; (with_reducible refine (FracQ _ 6 (-4) n1 d1 0 hF.out).mono ?_); rintro e w1 ⟨A2, c3, A4, c5, rfl, hr, hr2, hb⟩; replace H := (H.got (fresh_row hr) hb).more ((H.got (fresh_row hr2) hb).row _ m0); clear hr hr2 hb)
    | (clear st8; (with_reducible refine gate_dst (N := 1) rfl ?_); refine box_event ?hg (N := 1) ?hd (cs := #[.bool false, .slice none 0 0, .bool false, .slice none 0 0]) (t := 51) ?hr ?_; (case hd => rfl); (case hg => rfl); (case hr => go_simp; try rfl); intro g1 hg w7 hbox hb; replace H := H.newbox hg hbox hb; clear hg hbox hb; obtain ⟨k1_0, z1_0, k1_1, z1_1, k1_2, z1_2, k1_3, z1_3⟩ := H.b4 (g := g1) m0))
  (try simp only [Act.put, List.setIfInBounds_toArray, List.set_cons_zero, List.set_cons_succ])
  replace H := ((((H.setn [] 0 (.bool (ng n1)) rfl).setn [] 1 (.slice A2 (ln n1) c3) rfl).setn [] 2 (.bool (ng d1)) rfl).setn [] 3 (.slice A4 (ln d1) c5) rfl)
  clear k1_0 z1_0 k1_1 z1_1 k1_2 z1_2 k1_3 z1_3
  generalize ((((w7.setCell ⟨g1, 0, none⟩ (.bool (ng n1))).setCell ⟨g1, 1, none⟩ (.slice A2 (ln n1) c3)).setCell ⟨g1, 2, none⟩ (.bool (ng d1))).setCell ⟨g1, 3, none⟩ (.slice A4 (ln d1) c5)) = w9 at H ⊢
  obtain ⟨k1_0, z1_0, k1_1, z1_1, k1_2, z1_2, k1_3, z1_3⟩ := H.b4 (g := g1) m0
  have st15 := trivial
  have st17 := trivial
  go_upto_region 3 with (first
    | (clear st15; go_at_call 49; (with_reducible refine (ParseR ⟨#[49, 47, 50]⟩ _ a1 b1 0 hP.out).mono ?_); rintro e w10 ⟨A11, c12, A13, c14, rfl, hr, hr2, hb⟩; replace H := (H.got (fresh_row hr) hb).more ((H.got (fresh_row hr2) hb).row _ m0); clear hr hr2 hb; clear k1_0 z1_0 k1_1 z1_1 k1_2 z1_2 k1_3 z1_3; obtain ⟨k1_0, z1_0, k1_1, z1_1, k1_2, z1_2, k1_3, z1_3⟩ := H.b4 (g := g1) m0)
    | (clear st17; (with_reducible refine gate_dst (N := 3) rfl ?_); refine box_event ?hg (N := 3) ?hd (cs := #[.bool false, .slice none 0 0, .bool false, .slice none 0 0]) (t := 51) ?hr ?_; (case hd => rfl); (case hg => rfl); (case hr => go_simp; try rfl); intro g3 hg w16 hbox hb; replace H := H.newbox hg hbox hb; clear hg hbox hb; clear k1_0 z1_0 k1_1 z1_1 k1_2 z1_2 k1_3 z1_3; obtain ⟨k3_0, z3_0, k3_1, z3_1, k3_2, z3_2, k3_3, z3_3⟩ := H.b4 (g := g3) m0; obtain ⟨k1_0, z1_0, k1_1, z1_1, k1_2, z1_2, k1_3, z1_3⟩ := H.b4 (g := g1) m1; have ne_g3_g1 := H.ne (g := g3) (g' := g1) 0 1 rfl rfl (by decide); have ne_g1_g3 := ne_g3_g1.symm))
  (try simp only [Act.put, List.setIfInBounds_toArray, List.set_cons_zero, List.set_cons_succ])
  replace H := ((((H.setn [] 0 (.bool (ng a1)) rfl).setn [] 1 (.slice A11 (ln a1) c12) rfl).setn [] 2 (.bool (ng b1)) rfl).setn [] 3 (.slice A13 (ln b1) c14) rfl)
  clear k3_0 z3_0 k3_1 z3_1 k3_2 z3_2 k3_3 z3_3 k1_0 z1_0 k1_1 z1_1 k1_2 z1_2 k1_3 z1_3
  generalize ((((w16.setCell ⟨g3, 0, none⟩ (.bool (ng a1))).setCell ⟨g3, 1, none⟩ (.slice A11 (ln a1) c12)).setCell ⟨g3, 2, none⟩ (.bool (ng b1))).setCell ⟨g3, 3, none⟩ (.slice A13 (ln b1) c14)) = w18 at H ⊢
  obtain ⟨k3_0, z3_0, k3_1, z3_1, k3_2, z3_2, k3_3, z3_3⟩ := H.b4 (g := g3) m0
  obtain ⟨k1_0, z1_0, k1_1, z1_1, k1_2, z1_2, k1_3, z1_3⟩ := H.b4 (g := g1) m1
  have st24 := trivial
  have st26 := trivial
  go_upto_region 4 with (first
    | (clear st24; go_at_call 49; (with_reducible refine (ParseR ⟨#[49, 47, 51]⟩ _ p1 q1 0 hR.out).mono ?_); rintro e w19 ⟨A20, c21, A22, c23, rfl, hr, hr2, hb⟩; replace H := (H.got (fresh_row hr) hb).more ((H.got (fresh_row hr2) hb).row _ m0); clear hr hr2 hb; clear k3_0 z3_0 k3_1 z3_1 k3_2 z3_2 k3_3 z3_3 k1_0 z1_0 k1_1 z1_1 k1_2 z1_2 k1_3 z1_3; obtain ⟨k3_0, z3_0, k3_1, z3_1, k3_2, z3_2, k3_3, z3_3⟩ := H.b4 (g := g3) m0; obtain ⟨k1_0, z1_0, k1_1, z1_1, k1_2, z1_2, k1_3, z1_3⟩ := H.b4 (g := g1) m1)
    | (clear st26; (with_reducible refine gate_dst (N := 5) rfl ?_); refine box_event ?hg (N := 5) ?hd (cs := #[.bool false, .slice none 0 0, .bool false, .slice none 0 0]) (t := 51) ?hr ?_; (case hd => rfl); (case hg => rfl); (case hr => go_simp; try rfl); intro g5 hg w25 hbox hb; replace H := H.newbox hg hbox hb; clear hg hbox hb; clear k3_0 z3_0 k3_1 z3_1 k3_2 z3_2 k3_3 z3_3 k1_0 z1_0 k1_1 z1_1 k1_2 z1_2 k1_3 z1_3; obtain ⟨k5_0, z5_0, k5_1, z5_1, k5_2, z5_2, k5_3, z5_3⟩ := H.b4 (g := g5) m0; obtain ⟨k3_0, z3_0, k3_1, z3_1, k3_2, z3_2, k3_3, z3_3⟩ := H.b4 (g := g3) m1; obtain ⟨k1_0, z1_0, k1_1, z1_1, k1_2, z1_2, k1_3, z1_3⟩ := H.b4 (g := g1) m2; have ne_g5_g3 := H.ne (g := g5) (g' := g3) 0 1 rfl rfl (by decide); have ne_g3_g5 := ne_g5_g3.symm; have ne_g5_g1 := H.ne (g := g5) (g' := g1) 0 2 rfl rfl (by decide); have ne_g1_g5 := ne_g5_g1.symm))
  (try simp only [Act.put, List.setIfInBounds_toArray, List.set_cons_zero, List.set_cons_succ])
  replace H := ((((H.setn [] 0 (.bool (ng p1)) rfl).setn [] 1 (.slice A20 (ln p1) c21) rfl).setn [] 2 (.bool (ng q1)) rfl).setn [] 3 (.slice A22 (ln q1) c23) rfl)
  clear k5_0 z5_0 k5_1 z5_1 k5_2 z5_2 k5_3 z5_3 k3_0 z3_0 k3_1 z3_1 k3_2 z3_2 k3_3 z3_3 k1_0 z1_0 k1_1 z1_1 k1_2 z1_2 k1_3 z1_3
  generalize ((((w25.setCell ⟨g5, 0, none⟩ (.bool (ng p1))).setCell ⟨g5, 1, none⟩ (.slice A20 (ln p1) c21)).setCell ⟨g5, 2, none⟩ (.bool (ng q1))).setCell ⟨g5, 3, none⟩ (.slice A22 (ln q1) c23)) = w27 at H ⊢
  obtain ⟨k5_0, z5_0, k5_1, z5_1, k5_2, z5_2, k5_3, z5_3⟩ := H.b4 (g := g5) m0
  obtain ⟨k3_0, z3_0, k3_1, z3_1, k3_2, z3_2, k3_3, z3_3⟩ := H.b4 (g := g3) m1
  obtain ⟨k1_0, z1_0, k1_1, z1_1, k1_2, z1_2, k1_3, z1_3⟩ := H.b4 (g := g1) m2
  have st29 := trivial
  have st33 := trivial
  have st35 := trivial
  have st39 := trivial
  have st41 := trivial
  have st47 := trivial
  have st49 := trivial
  go_wp2_with (first
    | (clear st29; go_at_call 46; (with_reducible refine (TextR (H.row _ m5) (H.row _ m4) (limR bn1.out (by decide)) (limR bd1.out (by decide)) ⟨#[45, 51, 47, 50]⟩ t1.out).mono ?_); rintro e w28 ⟨rfl, hb⟩; replace H := H.call hb; clear hb; clear k5_0 z5_0 k5_1 z5_1 k5_2 z5_2 k5_3 z5_3 k3_0 z3_0 k3_1 z3_1 k3_2 z3_2 k3_3 z3_3 k1_0 z1_0 k1_1 z1_1 k1_2 z1_2 k1_3 z1_3; obtain ⟨k5_0, z5_0, k5_1, z5_1, k5_2, z5_2, k5_3, z5_3⟩ := H.b4 (g := g5) m0; obtain ⟨k3_0, z3_0, k3_1, z3_1, k3_2, z3_2, k3_3, z3_3⟩ := H.b4 (g := g3) m1; obtain ⟨k1_0, z1_0, k1_1, z1_1, k1_2, z1_2, k1_3, z1_3⟩ := H.b4 (g := g1) m2)
    | (clear st33; go_at_call 43; (with_reducible refine (FloorR (H.row _ m5) (H.row _ m4) (limR bn1.out (by decide)) (limR bd1.out (by decide)) f1 hf.out).mono ?_); rintro e w30 ⟨A31, c32, rfl, hr, hb⟩; replace H := H.got hr hb; clear hr hb; clear k5_0 z5_0 k5_1 z5_1 k5_2 z5_2 k5_3 z5_3 k3_0 z3_0 k3_1 z3_1 k3_2 z3_2 k3_3 z3_3 k1_0 z1_0 k1_1 z1_1 k1_2 z1_2 k1_3 z1_3; obtain ⟨k5_0, z5_0, k5_1, z5_1, k5_2, z5_2, k5_3, z5_3⟩ := H.b4 (g := g5) m0; obtain ⟨k3_0, z3_0, k3_1, z3_1, k3_2, z3_2, k3_3, z3_3⟩ := H.b4 (g := g3) m1; obtain ⟨k1_0, z1_0, k1_1, z1_1, k1_2, z1_2, k1_3, z1_3⟩ := H.b4 (g := g1) m2)
    | (clear st35; go_at_call 26; (with_reducible refine (TextQ (H.row _ m0) (lim bf1.out (by decide)) ⟨#[45, 50]⟩ t2.out).mono ?_); rintro e w34 ⟨rfl, hb⟩; replace H := H.call hb; clear hb; clear k5_0 z5_0 k5_1 z5_1 k5_2 z5_2 k5_3 z5_3 k3_0 z3_0 k3_1 z3_1 k3_2 z3_2 k3_3 z3_3 k1_0 z1_0 k1_1 z1_1 k1_2 z1_2 k1_3 z1_3; obtain ⟨k5_0, z5_0, k5_1, z5_1, k5_2, z5_2, k5_3, z5_3⟩ := H.b4 (g := g5) m0; obtain ⟨k3_0, z3_0, k3_1, z3_1, k3_2, z3_2, k3_3, z3_3⟩ := H.b4 (g := g3) m1; obtain ⟨k1_0, z1_0, k1_1, z1_1, k1_2, z1_2, k1_3, z1_3⟩ := H.b4 (g := g1) m2)
    | (clear st39; go_at_call 48; (with_reducible refine (CeilR (H.row _ m6) (H.row _ m5) (limR bn1.out (by decide)) (limR bd1.out (by decide)) c1 hc.out).mono ?_); rintro e w36 ⟨A37, c38, rfl, hr, hb⟩; replace H := H.got hr hb; clear hr hb; clear k5_0 z5_0 k5_1 z5_1 k5_2 z5_2 k5_3 z5_3 k3_0 z3_0 k3_1 z3_1 k3_2 z3_2 k3_3 z3_3 k1_0 z1_0 k1_1 z1_1 k1_2 z1_2 k1_3 z1_3; obtain ⟨k5_0, z5_0, k5_1, z5_1, k5_2, z5_2, k5_3, z5_3⟩ := H.b4 (g := g5) m0; obtain ⟨k3_0, z3_0, k3_1, z3_1, k3_2, z3_2, k3_3, z3_3⟩ := H.b4 (g := g3) m1; obtain ⟨k1_0, z1_0, k1_1, z1_1, k1_2, z1_2, k1_3, z1_3⟩ := H.b4 (g := g1) m2)
    | (clear st41; go_at_call 26; (with_reducible refine (TextQ (H.row _ m0) (lim bc1.out (by decide)) ⟨#[45, 49]⟩ t3.out).mono ?_); rintro e w40 ⟨rfl, hb⟩; replace H := H.call hb; clear hb; clear k5_0 z5_0 k5_1 z5_1 k5_2 z5_2 k5_3 z5_3 k3_0 z3_0 k3_1 z3_1 k3_2 z3_2 k3_3 z3_3 k1_0 z1_0 k1_1 z1_1 k1_2 z1_2 k1_3 z1_3; obtain ⟨k5_0, z5_0, k5_1, z5_1, k5_2, z5_2, k5_3, z5_3⟩ := H.b4 (g := g5) m0; obtain ⟨k3_0, z3_0, k3_1, z3_1, k3_2, z3_2, k3_3, z3_3⟩ := H.b4 (g := g3) m1; obtain ⟨k1_0, z1_0, k1_1, z1_1, k1_2, z1_2, k1_3, z1_3⟩ := H.b4 (g := g1) m2)
    | (clear st47; go_at_call 41; (with_reducible refine (AddR (H.row _ m5) (H.row _ m4) (H.row _ m3) (H.row _ m2) (limR ba1.out (by decide)) (limR bb1.out (by decide)) (limR bp1.out (by decide)) (limR bq1.out (by decide)) u1 v1 hA.out).mono ?_); rintro e w42 ⟨A43, c44, A45, c46, rfl, hr, hr2, hb⟩; replace H := (H.got hr hb).more ((H.got hr2 hb).row _ m0); clear hr hr2 hb; clear k5_0 z5_0 k5_1 z5_1 k5_2 z5_2 k5_3 z5_3 k3_0 z3_0 k3_1 z3_1 k3_2 z3_2 k3_3 z3_3 k1_0 z1_0 k1_1 z1_1 k1_2 z1_2 k1_3 z1_3; obtain ⟨k5_0, z5_0, k5_1, z5_1, k5_2, z5_2, k5_3, z5_3⟩ := H.b4 (g := g5) m0; obtain ⟨k3_0, z3_0, k3_1, z3_1, k3_2, z3_2, k3_3, z3_3⟩ := H.b4 (g := g3) m1; obtain ⟨k1_0, z1_0, k1_1, z1_1, k1_2, z1_2, k1_3, z1_3⟩ := H.b4 (g := g1) m2)
    | (clear st49; go_at_call 46; (with_reducible refine (TextR (H.row _ m1) (H.row _ m0) (limR bu1.out (by decide)) (limR bv1.out (by decide)) ⟨#[53, 47, 54]⟩ t4.out).mono ?_); rintro e w48 ⟨rfl, hb⟩; replace H := H.call hb; clear hb; clear k5_0 z5_0 k5_1 z5_1 k5_2 z5_2 k5_3 z5_3 k3_0 z3_0 k3_1 z3_1 k3_2 z3_2 k3_3 z3_3 k1_0 z1_0 k1_1 z1_1 k1_2 z1_2 k1_3 z1_3; obtain ⟨k5_0, z5_0, k5_1, z5_1, k5_2, z5_2, k5_3, z5_3⟩ := H.b4 (g := g5) m0; obtain ⟨k3_0, z3_0, k3_1, z3_1, k3_2, z3_2, k3_3, z3_3⟩ := H.b4 (g := g3) m1; obtain ⟨k1_0, z1_0, k1_1, z1_1, k1_2, z1_2, k1_3, z1_3⟩ := H.b4 (g := g1) m2))
  go_ret
  exact ⟨rfl, H.below⟩

end Go.Proofs.Ytdkapdgbfejgdaa
