/- bigint.Int as an integer: its digits, its sign; trim, signed, Neg by their contracts. -/
import Derived.Test.YtdkapdgbfejgdaaY0
import Derived.Test.YtdkapdgbfejgdaaQ2
set_option linter.unusedVariables false
set_option linter.unusedSimpArgs false
namespace Go.Proofs.Ytdkapdgbfejgdaa
open Go.RowKit Go.Proofs.YtdkapdgbfejgdaaW.PrintWords Go.Proofs.YtdkapdgbfejgdaaW.PrintLast Go.Proofs.YtdkapdgbfejgdaaW.PrintMore
open Go.Proofs.Ytdkapdgbfejgdaa.P

/-- The digits of |m| in base 2^32. -/
def digs (m : Int) : List Int := dg 4294967296 m.natAbs
def ln (m : Int) : Nat := (digs m).length
def ng (m : Int) : Bool := decide (m < 0)
def bw (A : Option Addr) (c : Nat) (m : Int) : Rw := ⟨.u32, A, c, digs m⟩

/-- It returns the bigint.Int m; its row lies in 'ok' or is new; what lay there lies as it lay. -/
def RetI (w : World) (ok : Nat → Prop) (m : Int) (e : Ending) (w' : World) : Prop :=
  ∃ A c, e = .returned (.agg #[.bool (ng m), .slice A (ln m) c]) ∧ (bw A c m).at w' (fun k => ok k ∨ w.heap.size ≤ k) ∧ Below w.heap.size w w'

theorem trim_l0 : ∀ (k : Nat) (l : List Int), l.length < k → l.length ≤ 1000000000 → bigint_trim.l0 k l = some (trimR l) := by
  intro k
  induction k with
  | zero => intro l h; omega
  | succ k ih =>
    intro l hk hl
    obtain rfl | ⟨xs, x, rfl⟩ : l = [] ∨ ∃ xs x, l = xs ++ [x] := by
      rcases List.eq_nil_or_concat l with h | ⟨xs, x, h⟩
      · exact .inl h
      · exact .inr ⟨xs, x, by simpa using h⟩
    · simp [bigint_trim.l0, trimR]
    · have hw : wrap64 ((((xs ++ [x]).length : Nat) : Int) - 1) = (xs.length : Int) := by
        unfold wrap64; simp only [List.length_append, List.length_cons, List.length_nil] at hl ⊢; omega
      simp only [bigint_trim.l0]
      rw [hw]
      have hr : rd (xs ++ [x]) (xs.length : Int) = x := by
        simp [rd, List.getD]
      rw [hr, if_pos (by simp), if_pos (by omega), if_pos (by simp; omega)]
      by_cases hx : x = 0
      · subst hx
        rw [if_pos rfl, if_pos (by simp; omega)]
        have ht : (xs ++ [0]).take (xs.length : Int).toNat = xs := by simp
        rw [ht, trimR_snoc_zero]
        exact ih xs (by simp at hk; omega) (by simp at hl; omega)
      · rw [if_neg hx, trimR_id]
        intro y hy; simp at hy; omega

theorem trim_f (k : Nat) (l : List Int) (h : l.length < k) (hl : l.length ≤ 1000000000) : bigint_trim.f k l = some (trimR l) := trim_l0 k l h hl

theorem digs_of (l : List Int) (h : Okd 4294967296 l) (s : Int) (hs : s = vl 4294967296 l ∨ s = -vl 4294967296 l) : trimR l = digs s := by
  have h1 := trimR_dg 4294967296 (by omega) l h
  have h2 := vl_nonneg (b := 4294967296) (by omega) h
  have h3 : s.natAbs = (vl 4294967296 l).toNat := by omega
  unfold digs
  rw [h3]; exact h1

theorem signed_ok (neg : Bool) (A : Option Addr) (c : Nat) (l : List Int) (m : Int) (w : World) (ok : Nat → Prop) (hl : Okd 4294967296 l) (hn : l.length ≤ 1000000000)
    (hf : (⟨.u32, A, c, l⟩ : Rw).at w ok) (hm : m = if neg then -(vl 4294967296 l) else vl 4294967296 l) :
    Calls Try.prog 78 #[.bool neg, .slice A l.length c] w (RetI w ok m) := by
  have ht := trim_f (l.length + 1) l (by omega) hn
  have hd : trimR l = digs m := digs_of l hl m (by cases neg <;> simp at hm <;> omega)
  have h0 := vl_nonneg (b := 4294967296) (by omega) hl
  have hs : bigint_signed.f (l.length + 1) neg l = some (ng m, digs m) := by
    unfold bigint_signed.f
    rw [ht, hd]
    simp only [Option.bind_some]
    cases neg with
    | false =>
      simp at hm
      rw [if_neg (by simp)]
      have : ng m = false := by unfold ng; simp; omega
      rw [this]
    | true =>
      simp at hm
      rw [if_pos rfl]
      have : ng m = decide (((digs m).length : Int) > 0) := by
        unfold ng
        by_cases hz : m = 0
        · subst hz; simp [digs, dg_zero]
        · have hne : digs m ≠ [] := fun e => by
            have := (dg_nil_iff 4294967296 (by omega) m.natAbs).mp e
            omega
          have hlen : 0 < (digs m).length := List.length_pos_iff.mpr hne
          rw [decide_eq_true (by omega : m < 0), decide_eq_true (by omega)]
      rw [this]
  refine (bigint_signed.calls _ neg ok A c l _ _ w ⟨A, c, rfl, hf.1, hf.2⟩ hs).mono ?_
  rintro e w' ⟨v, rfl, ⟨A', c', rfl, hc, hF⟩, hb⟩
  exact ⟨A', c', rfl, ⟨hc, hF⟩, hb⟩

theorem digs_neg (m : Int) : digs (-m) = digs m := by unfold digs; rw [Int.natAbs_neg]
theorem digs_vl (m : Int) : vl 4294967296 (digs m) = m.natAbs := dg_vl 4294967296 (by omega) _
theorem digs_okd (m : Int) : Okd 4294967296 (digs m) := dg_ok 4294967296 (by omega) _
theorem neg_val (m : Int) : -m = if (!ng m) = true then -(vl 4294967296 (digs m)) else vl 4294967296 (digs m) := by
  rw [digs_vl]; unfold ng
  by_cases h : m < 0 <;> simp [h] <;> omega

set_option maxHeartbeats 1000000 in
set_option maxRecDepth 100000 in
theorem Neg_ok (A : Option Addr) (c : Nat) (m : Int) (w : World) (ok : Nat → Prop) (hf : (bw A c m).at w ok) (hn : ln m ≤ 1000000000) :
    Calls Try.prog 37 #[.agg #[.bool (ng m), .slice A (ln m) c]] w (RetI w ok (-m)) := by
  have hu25 := Try.underlying25
  have H := (Sit.start w ok).arg hf
  clear hf
  go_enter Try.func37, Try.ntmps37
  go_wp2_with (first
    | ((with_reducible refine gate_dst (N := 1) rfl ?_); refine box_event ?hg (N := 1) ?hd (cs := #[.bool (ng m), .slice A (ln m) c]) (t := 25) ?hr ?_; (case hd => rfl); (case hg => rfl); (case hr => first | (go_simp; done) | (go_simp; rfl)); intro g1 hg w1 hbox hb; replace H := H.newbox hg hbox hb; clear hg hbox hb)
    | ((with_reducible refine gate_dst (N := 2) rfl ?_); refine box_event ?hg (N := 2) ?hd (cs := #[.bool false, .slice none 0 0]) (t := 25) ?hr ?_; (case hd => rfl); (case hg => rfl); (case hr => first | (go_simp; done) | (go_simp; rfl)); intro g2 hg w2 hbox hb; replace H := H.newbox hg hbox hb; clear hg hbox hb; have k0 : w2.cell? ⟨g1, 0, none⟩ = some (.bool (ng m)) := H.cell (.tail _ (.head _)) 0; have k1 : w2.cell? ⟨g1, 1, none⟩ = some (.slice A (ln m) c) := H.cell (.tail _ (.head _)) 1)
    | ((with_reducible refine gate_callee (f := 78) rfl ?_); refine goesL_ (some 8) rfl rfl Try.func78 (by kernel_rfl) rfl #[.bool (!ng m), .slice A (ln m) c] rfl (by (try simp only [List.map_toArray, List.map_cons, List.map_nil]); first | done | rfl) ?_; refine (signed_ok (!ng m) A c (digs m) (-m) _ _ (digs_okd m) hn (H.row _ (.head _)) (neg_val m)).mono ?_; rintro e w3 ⟨A3, c3, rfl, hr, hb⟩; refine ⟨_, rfl, ?_⟩; clear k0 k1; replace H := H.got hr hb; clear hr hb; have k0 : w3.cell? ⟨g2, 0, none⟩ = some (.bool false) := H.cell (.head _) 0; have k1 : w3.cell? ⟨g2, 1, none⟩ = some (.slice none 0 0) := H.cell (.head _) 1; have z0 := H.frozen (g := g2) (.head _) 0; have z1 := H.frozen (g := g2) (.head _) 1))
  refine bodyPost_ret (results_cell_row rfl _ _ g2 25 #[.bool (ng (-m)), .slice A3 (ln (-m)) c3] (0, 0) _ rfl (blk_put (cs := #[.bool (ng (-m)), .slice none 0 0]) (blk_put (cs := #[.bool false, .slice none 0 0]) (H.blk (.head _)) 0 _ rfl) 1 _ rfl) Try.underlying25 rfl (by kernel_rfl)) rfl ?_
  replace H := (H.setn [] 0 (.bool (ng (-m))) rfl).setn [] 1 (.slice A3 (ln (-m)) c3) rfl
  exact ⟨A3, c3, rfl, H.ret (.head _), H.below⟩


theorem ln_neg (m : Int) : ln (-m) = ln m := by unfold ln; rw [digs_neg]

end Go.Proofs.Ytdkapdgbfejgdaa
