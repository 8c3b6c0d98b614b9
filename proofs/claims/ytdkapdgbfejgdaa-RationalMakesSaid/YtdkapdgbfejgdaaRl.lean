/- Fractions in lowest terms: n / d is a / b; bounds of what the operations make. -/
import Derived.Test.YtdkapdgbfejgdaaSq
import Derived.Test.YtdkapdgbfejgdaaRd
import Derived.Lib.IndexLaws
/- rational.Parse. -/
namespace Go.Proofs.Ytdkapdgbfejgdaa
open Go.RowKit Go.Proofs.YtdkapdgbfejgdaaW.PrintWords Go.Proofs.YtdkapdgbfejgdaaW.PrintLast Go.Proofs.YtdkapdgbfejgdaaW.PrintMore
set_option linter.unusedSimpArgs false
set_option linter.unusedVariables false
set_option maxHeartbeats 8000000
set_option maxRecDepth 100000

/-- Where the first stroke stands. -/
def ci (s : ByteArray) : Int := Lib.indexByte s.data.toList 47
def cutL (s : ByteArray) : ByteArray := if 0 ≤ ci s then s.extract 0 (ci s).toNat else s
def cutR (s : ByteArray) : ByteArray := if 0 ≤ ci s then s.extract ((ci s).toNat + 1) s.size else ⟨#[]⟩
def cutF (s : ByteArray) : Bool := decide (0 ≤ ci s)
theorem ci_lt (s : ByteArray) (k : Nat) (h : ci s = (k : Int)) : (k : Int) + 1 ≤ (s.size : Int) := by
  have h1 := (Lib.indexByte_some h).1
  obtain ⟨h2, -⟩ := List.getElem?_eq_some_iff.mp h1
  have h3 : s.data.toList.length = s.size := Array.length_toList
  omega
/-- It returns the two sides of a cut. -/
def RetCut (w : World) (a b : ByteArray) (f : Bool) (e : Ending) (w' : World) : Prop := e = .returned (.tuple #[.string a, .string b, .bool f]) ∧ Below w.heap.size w w'

theorem CutY (s : ByteArray) (w : World) (k : Nat) (hk : Aside0 (ci s = (k : Int))) (h2 : (k : Int) + 1 ≤ (s.size : Int)) (h3 : (s.size : Int) ≤ 4096) : Calls Try.prog 104 #[.string s, .string ⟨#[47]⟩] w (RetCut w (s.extract 0 k) (s.extract (k + 1) s.size) true) := by
  have f1 : IntKind.i64.wrap ((k : Int) + 1) = (k : Int) + 1 := by rw [i64_w]; unfold wrap64; omega
  have f2 : (0 : Int) ≤ (k : Int) := by omega
  have f3 : (k : Int) ≤ (s.size : Int) := by omega
  have f4 : (0 : Int) ≤ (k : Int) + 1 := by omega
  go_enter Try.func104, Try.ntmps104
  go_wp2_with (first | (go_at_call 108; (with_reducible refine (Try.stringslite_Index_one s 47 _).mono ?_); rintro e w3 ⟨rfl, rfl⟩; rw [show Lib.indexByte s.data.toList 47 = (k : Int) from hk.out]))
  refine start_ (n := 12) (S := fun w' => True) (ds := []) #[false, false, false, false, false, false, false, false, false, false, false, false] (by kernel_rfl) rfl rfl trivial (fun hQ => ?_)
  refine pU 0 13 (bm 12 1) ?_
  refine pU 1 14 (bm 12 3) ?_
  refine pU 2 15 (bm 12 7) ?_
  refine pU 3 16 (bm 12 15) ?_
  refine pU 4 17 (bm 12 31) ?_
  refine pU 5 18 (bm 12 63) ?_
  refine pU 6 19 (bm 12 127) ?_
  refine pU 7 20 (bm 12 255) ?_
  refine pU 8 21 (bm 12 511) ?_
  refine pU 9 4 (bm 12 1023) ?_
  refine pU 10 5 (bm 12 2047) ?_
  refine pU 11 6 (bm 12 4095) ?_
  refine done_ (by kernel_rfl) ?_
  go_wp2
  refine bodyPost_ret (results_list (rs := [.tmp 4, .tmp 5, .tmp 6]) rfl (by simp) (.tmp (.tmp (.tmp .nil)))) rfl ?_
  exact ⟨rfl, below_drew (Below.refl _ _)⟩
theorem CutN (s : ByteArray) (w : World) (hk : Aside0 (ci s = -1)) : Calls Try.prog 104 #[.string s, .string ⟨#[47]⟩] w (RetCut w s ⟨#[]⟩ false) := by
  go_enter Try.func104, Try.ntmps104
  go_wp2_with (first | (go_at_call 108; (with_reducible refine (Try.stringslite_Index_one s 47 _).mono ?_); rintro e w3 ⟨rfl, rfl⟩; rw [show Lib.indexByte s.data.toList 47 = -1 from hk.out]))
  refine bodyPost_ret (results_list (rs := [.tmp 4, .tmp 5, .tmp 6]) rfl (by simp) (.tmp (.tmp (.tmp .nil)))) rfl ?_
  exact ⟨rfl, Below.refl _ _⟩
theorem Cut1 (s : ByteArray) (w : World) (hs : (s.size : Int) ≤ 4096) : Calls Try.prog 104 #[.string s, .string ⟨#[47]⟩] w (RetCut w (cutL s) (cutR s) (cutF s)) := by
  have hg := Lib.indexByte_ge s.data.toList 47
  by_cases h0 : 0 ≤ ci s
  · obtain ⟨k, hk⟩ := Int.eq_ofNat_of_zero_le h0
    unfold cutL cutR cutF
    rw [if_pos h0, if_pos h0, decide_eq_true h0, hk, Int.toNat_natCast]
    exact CutY s w k ⟨hk⟩ (ci_lt s k hk) hs
  · unfold cutL cutR cutF
    rw [if_neg h0, if_neg h0, decide_eq_false h0]
    exact CutN s w ⟨by unfold ci at h0 ⊢; omega⟩
theorem CutQ (s : ByteArray) (w : World) (hs : (s.size : Int) ≤ 4096) (a b : ByteArray) (f : Bool) (h : cutL s = a ∧ cutR s = b ∧ cutF s = f) : Calls Try.prog 87 #[.string s, .string ⟨#[47]⟩] w (RetCut w a b f) := by
  obtain ⟨rfl, rfl, rfl⟩ := h
  have hs := Aside0.mk hs
  go_enter Try.func87, Try.ntmps87
  go_wp2_with (first | (go_at_call 104; (with_reducible refine (Cut1 s _ hs.out).mono ?_); rintro e w3 ⟨rfl, hb⟩))
  refine bodyPost_ret (results_list (rs := [.tmp 4, .tmp 5, .tmp 6]) rfl (by simp) (.tmp (.tmp (.tmp .nil)))) rfl ?_
  exact ⟨rfl, hb⟩
theorem pow_lim (k s : Nat) (h : s ≤ 8 * k) : 10 ^ s ≤ 4294967296 ^ k := Nat.le_trans (Nat.le_trans (Nat.pow_le_pow_right (by omega) h) (Nat.pow_le_pow_left (show 10 ≤ 16 by omega) _)) (Nat.le_of_eq (Nat.pow_mul 16 8 k))
/-- The numbers of texts are small. -/
theorem pr_lim {a : ByteArray} {x e : Int} (h : pr a = (x, e)) : ln x ≤ 512 := by
  unfold pr at h
  split at h
  · injection h with h1 h2
    rw [← h1]
    exact Nat.zero_le _
  · split at h
    · injection h with h1 h2
      rw [← h1]
      exact Nat.zero_le _
    · next h4 hn =>
      have hd : Dg (cutS a) 0 (cutS a).size := Classical.not_not.mp (fun h' => hn (.inr (.inr h')))
      have hb := pc_bound hd
      have hs := cutS_size a
      injection h with h1 h2
      refine ln_bound _ _ ?_
      have e : x.natAbs = (pc (cutS a) 0 (cutS a).size).natAbs := by rw [← h1]; split <;> simp
      have e3 : (10 : Nat) ^ (cutS a).size ≤ 4294967296 ^ 512 := pow_lim 512 (cutS a).size (by omega)
      rw [e]
      refine Nat.lt_of_lt_of_le (Int.ofNat_lt.mp (?_ : (((pc (cutS a) 0 (cutS a).size).natAbs : Nat) : Int) < ((10 ^ (cutS a).size : Nat) : Int))) e3
      rw [Int.natAbs_of_nonneg hb.1, Int.natCast_pow]
      exact hb.2
theorem bQn {n d r : Int} {a : Nat} (hn : ln n ≤ a) (h : qn n d = r) : ln r ≤ a := by
  subst h
  unfold qn
  split
  · exact Nat.zero_le _
  · exact bTdiv (m := if d < 0 then -n else n) (by split; rw [ln_neg]; exact hn; exact hn) rfl
theorem bQd {n d r : Int} {a : Nat} (hd : ln d ≤ a) (h : qd n d = r) : ln r ≤ a := by
  subst h
  unfold qd
  split
  · exact Nat.zero_le _
  · exact bTdiv (m := if d < 0 then -d else d) (by split; rw [ln_neg]; exact hd; exact hd) rfl


theorem RParse_full (s : ByteArray) (w : World) (h : 4096 < (s.size : Int)) : Calls Try.prog 49 #[.string s] w (RetQP w 0 0 5) := by
  have hu25 := Try.underlying25
  have hu51 := Try.underlying51
  have H := Sit.start w (fun _ => False)
  have p1 : decide (4096 < (s.size : Int)) = true := decide_eq_true h
  have p2 : decide (4096 < s.size) = true := decide_eq_true (by omega)
  have p3 : 4096 < s.size := by omega
  go_enter Try.func49, Try.ntmps49
  have st2 := trivial
  go_wp2_with (first
    | (clear st2; (with_reducible refine gate_dst (N := 2) rfl ?_); refine bE #[.bool false, .slice none 0 0, .bool false, .slice none 0 0] 51 H ?_; clear H; intro g2 w1 H; have F2 := H.b4 (g := g2) m0))
  replace H := H.nilrow
  replace H := (((H.setn [] 0 (.bool false) rfl).setn [] 1 (.slice none 0 0) rfl).setn [] 2 (.bool false) rfl).setn [] 3 (.slice none 0 0) rfl
  refine bodyPost_ret (results_list (rs := [.cell 2 51, .tmp 3]) rfl (by simp) (.cell g2 51 #[.bool false, .slice none 0 0, .bool false, .slice none 0 0] (0, 0) _ rfl (H.blk m0) Try.underlying51 rfl (by kernel_rfl) (.tmp .nil))) rfl ?_
  exact ⟨none, 0, none, 0, rfl, bw_nil _ _, bw_nil _ _, H.below⟩

theorem RParse_y1 (s a b : ByteArray) (w : World) (h : (s.size : Int) ≤ 4096) (hcut : Aside0 (cutL s = a ∧ cutR s = b ∧ cutF s = true)) (n d e f : Int) (ha : Aside0 (pr a = (n, e))) (hb' : Aside0 (pr b = (d, f))) (t1 : (e != 0) = true) : Calls Try.prog 49 #[.string s] w (RetQP w 0 0 3) := by
  have hu25 := Try.underlying25
  have hu51 := Try.underlying51
  have H := Sit.start w (fun _ => False)
  have p1 : decide (4096 < (s.size : Int)) = false := decide_eq_false (by omega)
  have p2 : decide (4096 < s.size) = false := decide_eq_false (by omega)
  have p3 : ¬ 4096 < s.size := by omega
  replace h := Aside0.mk h
  go_enter Try.func49, Try.ntmps49
  have st2 := trivial
  have st4 := trivial
  have st8 := trivial
  have st10 := trivial
  go_upto_region 7 with (first
    | (clear st2; (with_reducible refine gate_dst (N := 2) rfl ?_); refine bE #[.bool false, .slice none 0 0, .bool false, .slice none 0 0] 51 H ?_; clear H; intro g2 w1 H; have F2 := H.b4 (g := g2) m0)
    | (clear st4; go_at_call 87; (with_reducible refine (CutQ s _ h.out a b true hcut.out).mono ?_); rintro e w3 ⟨rfl, hb⟩; replace H := H.call hb; clear hb; clear F2; have F2 := H.b4 (g := g2) m0)
    | (clear st8; go_at_call 23; (with_reducible refine (ParseQ a _ n e ha.out).mono ?_); rintro e w5 ⟨A6, c7, rfl, hr, hb⟩; replace H := H.got (fresh_row hr) hb; clear hr hb; clear F2; have F2 := H.b4 (g := g2) m0)
    | (clear st10; (with_reducible refine gate_dst (N := 7) rfl ?_); refine bE #[.bool false, .slice none 0 0] 25 H ?_; clear H; intro g7 w9 H; clear F2; have F7 := H.b2 (g := g7) m0; have F2 := H.b4 (g := g2) m1; have ne_g7_g2 := H.ne (g := g7) (g' := g2) 0 1 rfl rfl (by decide); have ne_g2_g7 := ne_g7_g2.symm))
  (try simp only [nn])
  replace H := ((H.setn [] 0 (.bool (ng n)) rfl).setn [] 1 (.slice A6 (ln n) c7) rfl)
  clear F7 F2
  generalize ((w9.setCell ⟨g7, 0, none⟩ (.bool (ng n))).setCell ⟨g7, 1, none⟩ (.slice A6 (ln n) c7)) = w11 at H ⊢
  have F7 := H.b2 (g := g7) m0
  have F2 := H.b4 (g := g2) m1
  have st15 := trivial
  have st17 := trivial
  go_upto_region 8 with (first
    | (clear st15; go_at_call 23; (with_reducible refine (ParseQ b _ d f hb'.out).mono ?_); rintro e w12 ⟨A13, c14, rfl, hr, hb⟩; replace H := H.got (fresh_row hr) hb; clear hr hb; clear F7 F2; have F7 := H.b2 (g := g7) m0; have F2 := H.b4 (g := g2) m1)
    | (clear st17; (with_reducible refine gate_dst (N := 9) rfl ?_); refine bE #[.bool false, .slice none 0 0] 25 H ?_; clear H; intro g9 w16 H; clear F7 F2; have F9 := H.b2 (g := g9) m0; have F7 := H.b2 (g := g7) m1; have F2 := H.b4 (g := g2) m2; have ne_g9_g7 := H.ne (g := g9) (g' := g7) 0 1 rfl rfl (by decide); have ne_g7_g9 := ne_g9_g7.symm; have ne_g9_g2 := H.ne (g := g9) (g' := g2) 0 2 rfl rfl (by decide); have ne_g2_g9 := ne_g9_g2.symm))
  (try simp only [nn])
  replace H := ((H.setn [] 0 (.bool (ng d)) rfl).setn [] 1 (.slice A13 (ln d) c14) rfl)
  clear F9 F7 F2
  generalize ((w16.setCell ⟨g9, 0, none⟩ (.bool (ng d))).setCell ⟨g9, 1, none⟩ (.slice A13 (ln d) c14)) = w18 at H ⊢
  have F9 := H.b2 (g := g9) m0
  have F7 := H.b2 (g := g7) m1
  have F2 := H.b4 (g := g2) m2
  go_wp2
  replace H := H.nilrow
  replace H := (((H.setn [_, _] 0 (.bool false) rfl).setn [_, _] 1 (.slice none 0 0) rfl).setn [_, _] 2 (.bool false) rfl).setn [_, _] 3 (.slice none 0 0) rfl
  refine bodyPost_ret (results_list (rs := [.cell 2 51, .tmp 3]) rfl (by simp) (.cell g2 51 #[.bool false, .slice none 0 0, .bool false, .slice none 0 0] (0, 0) _ rfl (H.blk m2) Try.underlying51 rfl (by kernel_rfl) (.tmp .nil))) rfl ?_
  exact ⟨none, 0, none, 0, rfl, bw_nil _ _, bw_nil _ _, H.below⟩

theorem RParse_y2 (s a b : ByteArray) (w : World) (h : (s.size : Int) ≤ 4096) (hcut : Aside0 (cutL s = a ∧ cutR s = b ∧ cutF s = true)) (n d e f : Int) (ha : Aside0 (pr a = (n, e))) (hb' : Aside0 (pr b = (d, f))) (t1 : (e != 0) = false) (t2 : (f != 0) = true) : Calls Try.prog 49 #[.string s] w (RetQP w 0 0 3) := by
  have hu25 := Try.underlying25
  have hu51 := Try.underlying51
  have H := Sit.start w (fun _ => False)
  have p1 : decide (4096 < (s.size : Int)) = false := decide_eq_false (by omega)
  have p2 : decide (4096 < s.size) = false := decide_eq_false (by omega)
  have p3 : ¬ 4096 < s.size := by omega
  replace h := Aside0.mk h
  go_enter Try.func49, Try.ntmps49
  have st2 := trivial
  have st4 := trivial
  have st8 := trivial
  have st10 := trivial
  go_upto_region 7 with (first
    | (clear st2; (with_reducible refine gate_dst (N := 2) rfl ?_); refine bE #[.bool false, .slice none 0 0, .bool false, .slice none 0 0] 51 H ?_; clear H; intro g2 w1 H; have F2 := H.b4 (g := g2) m0)
    | (clear st4; go_at_call 87; (with_reducible refine (CutQ s _ h.out a b true hcut.out).mono ?_); rintro e w3 ⟨rfl, hb⟩; replace H := H.call hb; clear hb; clear F2; have F2 := H.b4 (g := g2) m0)
    | (clear st8; go_at_call 23; (with_reducible refine (ParseQ a _ n e ha.out).mono ?_); rintro e w5 ⟨A6, c7, rfl, hr, hb⟩; replace H := H.got (fresh_row hr) hb; clear hr hb; clear F2; have F2 := H.b4 (g := g2) m0)
    | (clear st10; (with_reducible refine gate_dst (N := 7) rfl ?_); refine bE #[.bool false, .slice none 0 0] 25 H ?_; clear H; intro g7 w9 H; clear F2; have F7 := H.b2 (g := g7) m0; have F2 := H.b4 (g := g2) m1; have ne_g7_g2 := H.ne (g := g7) (g' := g2) 0 1 rfl rfl (by decide); have ne_g2_g7 := ne_g7_g2.symm))
  (try simp only [nn])
  replace H := ((H.setn [] 0 (.bool (ng n)) rfl).setn [] 1 (.slice A6 (ln n) c7) rfl)
  clear F7 F2
  generalize ((w9.setCell ⟨g7, 0, none⟩ (.bool (ng n))).setCell ⟨g7, 1, none⟩ (.slice A6 (ln n) c7)) = w11 at H ⊢
  have F7 := H.b2 (g := g7) m0
  have F2 := H.b4 (g := g2) m1
  have st15 := trivial
  have st17 := trivial
  go_upto_region 8 with (first
    | (clear st15; go_at_call 23; (with_reducible refine (ParseQ b _ d f hb'.out).mono ?_); rintro e w12 ⟨A13, c14, rfl, hr, hb⟩; replace H := H.got (fresh_row hr) hb; clear hr hb; clear F7 F2; have F7 := H.b2 (g := g7) m0; have F2 := H.b4 (g := g2) m1)
    | (clear st17; (with_reducible refine gate_dst (N := 9) rfl ?_); refine bE #[.bool false, .slice none 0 0] 25 H ?_; clear H; intro g9 w16 H; clear F7 F2; have F9 := H.b2 (g := g9) m0; have F7 := H.b2 (g := g7) m1; have F2 := H.b4 (g := g2) m2; have ne_g9_g7 := H.ne (g := g9) (g' := g7) 0 1 rfl rfl (by decide); have ne_g7_g9 := ne_g9_g7.symm; have ne_g9_g2 := H.ne (g := g9) (g' := g2) 0 2 rfl rfl (by decide); have ne_g2_g9 := ne_g9_g2.symm))
  (try simp only [nn])
  replace H := ((H.setn [] 0 (.bool (ng d)) rfl).setn [] 1 (.slice A13 (ln d) c14) rfl)
  clear F9 F7 F2
  generalize ((w16.setCell ⟨g9, 0, none⟩ (.bool (ng d))).setCell ⟨g9, 1, none⟩ (.slice A13 (ln d) c14)) = w18 at H ⊢
  have F9 := H.b2 (g := g9) m0
  have F7 := H.b2 (g := g7) m1
  have F2 := H.b4 (g := g2) m2
  go_wp2
  replace H := H.nilrow
  replace H := (((H.setn [_, _] 0 (.bool false) rfl).setn [_, _] 1 (.slice none 0 0) rfl).setn [_, _] 2 (.bool false) rfl).setn [_, _] 3 (.slice none 0 0) rfl
  refine bodyPost_ret (results_list (rs := [.cell 2 51, .tmp 3]) rfl (by simp) (.cell g2 51 #[.bool false, .slice none 0 0, .bool false, .slice none 0 0] (0, 0) _ rfl (H.blk m2) Try.underlying51 rfl (by kernel_rfl) (.tmp .nil))) rfl ?_
  exact ⟨none, 0, none, 0, rfl, bw_nil _ _, bw_nil _ _, H.below⟩

theorem RParse_y3 (s a b : ByteArray) (w : World) (h : (s.size : Int) ≤ 4096) (hcut : Aside0 (cutL s = a ∧ cutR s = b ∧ cutF s = true)) (n d e f : Int) (ha : Aside0 (pr a = (n, e))) (hb' : Aside0 (pr b = (d, f))) (t1 : (e != 0) = false) (t2 : (f != 0) = false) (bd : Aside0 (ln d ≤ 512)) (k : Int) (hs : Aside0 (sg d = k)) (t3 : decide (k ≤ 0) = true) : Calls Try.prog 49 #[.string s] w (RetQP w 0 0 3) := by
  have hu25 := Try.underlying25
  have hu51 := Try.underlying51
  have H := Sit.start w (fun _ => False)
  have p1 : decide (4096 < (s.size : Int)) = false := decide_eq_false (by omega)
  have p2 : decide (4096 < s.size) = false := decide_eq_false (by omega)
  have p3 : ¬ 4096 < s.size := by omega
  replace h := Aside0.mk h
  go_enter Try.func49, Try.ntmps49
  have st2 := trivial
  have st4 := trivial
  have st8 := trivial
  have st10 := trivial
  go_upto_region 7 with (first
    | (clear st2; (with_reducible refine gate_dst (N := 2) rfl ?_); refine bE #[.bool false, .slice none 0 0, .bool false, .slice none 0 0] 51 H ?_; clear H; intro g2 w1 H; have F2 := H.b4 (g := g2) m0)
    | (clear st4; go_at_call 87; (with_reducible refine (CutQ s _ h.out a b true hcut.out).mono ?_); rintro e w3 ⟨rfl, hb⟩; replace H := H.call hb; clear hb; clear F2; have F2 := H.b4 (g := g2) m0)
    | (clear st8; go_at_call 23; (with_reducible refine (ParseQ a _ n e ha.out).mono ?_); rintro e w5 ⟨A6, c7, rfl, hr, hb⟩; replace H := H.got (fresh_row hr) hb; clear hr hb; clear F2; have F2 := H.b4 (g := g2) m0)
    | (clear st10; (with_reducible refine gate_dst (N := 7) rfl ?_); refine bE #[.bool false, .slice none 0 0] 25 H ?_; clear H; intro g7 w9 H; clear F2; have F7 := H.b2 (g := g7) m0; have F2 := H.b4 (g := g2) m1; have ne_g7_g2 := H.ne (g := g7) (g' := g2) 0 1 rfl rfl (by decide); have ne_g2_g7 := ne_g7_g2.symm))
  (try simp only [nn])
  replace H := ((H.setn [] 0 (.bool (ng n)) rfl).setn [] 1 (.slice A6 (ln n) c7) rfl)
  clear F7 F2
  generalize ((w9.setCell ⟨g7, 0, none⟩ (.bool (ng n))).setCell ⟨g7, 1, none⟩ (.slice A6 (ln n) c7)) = w11 at H ⊢
  have F7 := H.b2 (g := g7) m0
  have F2 := H.b4 (g := g2) m1
  have st15 := trivial
  have st17 := trivial
  go_upto_region 8 with (first
    | (clear st15; go_at_call 23; (with_reducible refine (ParseQ b _ d f hb'.out).mono ?_); rintro e w12 ⟨A13, c14, rfl, hr, hb⟩; replace H := H.got (fresh_row hr) hb; clear hr hb; clear F7 F2; have F7 := H.b2 (g := g7) m0; have F2 := H.b4 (g := g2) m1)
    | (clear st17; (with_reducible refine gate_dst (N := 9) rfl ?_); refine bE #[.bool false, .slice none 0 0] 25 H ?_; clear H; intro g9 w16 H; clear F7 F2; have F9 := H.b2 (g := g9) m0; have F7 := H.b2 (g := g7) m1; have F2 := H.b4 (g := g2) m2; have ne_g9_g7 := H.ne (g := g9) (g' := g7) 0 1 rfl rfl (by decide); have ne_g7_g9 := ne_g9_g7.symm; have ne_g9_g2 := H.ne (g := g9) (g' := g2) 0 2 rfl rfl (by decide); have ne_g2_g9 := ne_g9_g2.symm))
  (try simp only [nn])
  replace H := ((H.setn [] 0 (.bool (ng d)) rfl).setn [] 1 (.slice A13 (ln d) c14) rfl)
  clear F9 F7 F2
  generalize ((w16.setCell ⟨g9, 0, none⟩ (.bool (ng d))).setCell ⟨g9, 1, none⟩ (.slice A13 (ln d) c14)) = w18 at H ⊢
  have F9 := H.b2 (g := g9) m0
  have F7 := H.b2 (g := g7) m1
  have F2 := H.b4 (g := g2) m2
  have st20 := trivial
  go_wp2_with (first
    | (clear st20; go_at_call 25; (with_reducible refine (SignQ _ _ _ (lim bd.out (by decide)) k hs.out).mono ?_); rintro e w19 ⟨rfl, hb⟩; replace H := H.call hb; clear hb; clear F9 F7 F2; have F9 := H.b2 (g := g9) m0; have F7 := H.b2 (g := g7) m1; have F2 := H.b4 (g := g2) m2))
  replace H := H.nilrow
  replace H := (((H.setn [_, _] 0 (.bool false) rfl).setn [_, _] 1 (.slice none 0 0) rfl).setn [_, _] 2 (.bool false) rfl).setn [_, _] 3 (.slice none 0 0) rfl
  refine bodyPost_ret (results_list (rs := [.cell 2 51, .tmp 3]) rfl (by simp) (.cell g2 51 #[.bool false, .slice none 0 0, .bool false, .slice none 0 0] (0, 0) _ rfl (H.blk m2) Try.underlying51 rfl (by kernel_rfl) (.tmp .nil))) rfl ?_
  exact ⟨none, 0, none, 0, rfl, bw_nil _ _, bw_nil _ _, H.below⟩

theorem RParse_y5 (s a b : ByteArray) (w : World) (h : (s.size : Int) ≤ 4096) (hcut : Aside0 (cutL s = a ∧ cutR s = b ∧ cutF s = true)) (n d e f : Int) (ha : Aside0 (pr a = (n, e))) (hb' : Aside0 (pr b = (d, f))) (t1 : (e != 0) = false) (t2 : (f != 0) = false) (bn : Aside0 (ln n ≤ 512)) (bd : Aside0 (ln d ≤ 512)) (hs : Aside0 (sg d = 1)) (rn rd : Int) (hm : Aside0 (qn n d = rn ∧ qd n d = rd)) (brn : Aside0 (ln rn ≤ 512)) (brd : Aside0 (ln rd ≤ 512)) (ht : Aside0 (qt rn rd = s)) (t4 : (s.toList == s.toList) = true) : Calls Try.prog 49 #[.string s] w (RetQP w rn rd 0) := by
  have hu25 := Try.underlying25
  have hu51 := Try.underlying51
  have H := Sit.start w (fun _ => False)
  have p1 : decide (4096 < (s.size : Int)) = false := decide_eq_false (by omega)
  have p2 : decide (4096 < s.size) = false := decide_eq_false (by omega)
  have p3 : ¬ 4096 < s.size := by omega
  replace h := Aside0.mk h
  go_enter Try.func49, Try.ntmps49
  have st2 := trivial
  have st4 := trivial
  have st8 := trivial
  have st10 := trivial
  go_upto_region 7 with (first
    | (clear st2; (with_reducible refine gate_dst (N := 2) rfl ?_); refine bE #[.bool false, .slice none 0 0, .bool false, .slice none 0 0] 51 H ?_; clear H; intro g2 w1 H; have F2 := H.b4 (g := g2) m0)
    | (clear st4; go_at_call 87; (with_reducible refine (CutQ s _ h.out a b true hcut.out).mono ?_); rintro e w3 ⟨rfl, hb⟩; replace H := H.call hb; clear hb; clear F2; have F2 := H.b4 (g := g2) m0)
    | (clear st8; go_at_call 23; (with_reducible refine (ParseQ a _ n e ha.out).mono ?_); rintro e w5 ⟨A6, c7, rfl, hr, hb⟩; replace H := H.got (fresh_row hr) hb; clear hr hb; clear F2; have F2 := H.b4 (g := g2) m0)
    | (clear st10; (with_reducible refine gate_dst (N := 7) rfl ?_); refine bE #[.bool false, .slice none 0 0] 25 H ?_; clear H; intro g7 w9 H; clear F2; have F7 := H.b2 (g := g7) m0; have F2 := H.b4 (g := g2) m1; have ne_g7_g2 := H.ne (g := g7) (g' := g2) 0 1 rfl rfl (by decide); have ne_g2_g7 := ne_g7_g2.symm))
  (try simp only [nn])
  replace H := ((H.setn [] 0 (.bool (ng n)) rfl).setn [] 1 (.slice A6 (ln n) c7) rfl)
  clear F7 F2
  generalize ((w9.setCell ⟨g7, 0, none⟩ (.bool (ng n))).setCell ⟨g7, 1, none⟩ (.slice A6 (ln n) c7)) = w11 at H ⊢
  have F7 := H.b2 (g := g7) m0
  have F2 := H.b4 (g := g2) m1
  have st15 := trivial
  have st17 := trivial
  go_upto_region 8 with (first
    | (clear st15; go_at_call 23; (with_reducible refine (ParseQ b _ d f hb'.out).mono ?_); rintro e w12 ⟨A13, c14, rfl, hr, hb⟩; replace H := H.got (fresh_row hr) hb; clear hr hb; clear F7 F2; have F7 := H.b2 (g := g7) m0; have F2 := H.b4 (g := g2) m1)
    | (clear st17; (with_reducible refine gate_dst (N := 9) rfl ?_); refine bE #[.bool false, .slice none 0 0] 25 H ?_; clear H; intro g9 w16 H; clear F7 F2; have F9 := H.b2 (g := g9) m0; have F7 := H.b2 (g := g7) m1; have F2 := H.b4 (g := g2) m2; have ne_g9_g7 := H.ne (g := g9) (g' := g7) 0 1 rfl rfl (by decide); have ne_g7_g9 := ne_g9_g7.symm; have ne_g9_g2 := H.ne (g := g9) (g' := g2) 0 2 rfl rfl (by decide); have ne_g2_g9 := ne_g9_g2.symm))
  (try simp only [nn])
  replace H := ((H.setn [] 0 (.bool (ng d)) rfl).setn [] 1 (.slice A13 (ln d) c14) rfl)
  clear F9 F7 F2
  generalize ((w16.setCell ⟨g9, 0, none⟩ (.bool (ng d))).setCell ⟨g9, 1, none⟩ (.slice A13 (ln d) c14)) = w18 at H ⊢
  have F9 := H.b2 (g := g9) m0
  have F7 := H.b2 (g := g7) m1
  have F2 := H.b4 (g := g2) m2
  have st20 := trivial
  have st26 := trivial
  have st28 := trivial
  go_upto_region 11 with (first
    | (clear st20; go_at_call 25; (with_reducible refine (SignQ _ _ _ (lim bd.out (by decide)) 1 hs.out).mono ?_); rintro e w19 ⟨rfl, hb⟩; replace H := H.call hb; clear hb; clear F9 F7 F2; have F9 := H.b2 (g := g9) m0; have F7 := H.b2 (g := g7) m1; have F2 := H.b4 (g := g2) m2)
    | (clear st26; go_at_call 86; (with_reducible refine (MustQ (H.row _ m1) (H.row _ m0) (lim bn.out (by decide)) (lim bd.out (by decide)) rn rd hm.out).mono ?_); rintro e w21 ⟨A22, c23, A24, c25, rfl, hr, hr2, hb⟩; replace H := (H.got hr hb).more ((H.got hr2 hb).row _ m0); clear hr hr2 hb; clear F9 F7 F2; have F9 := H.b2 (g := g9) m0; have F7 := H.b2 (g := g7) m1; have F2 := H.b4 (g := g2) m2)
    | (clear st28; (with_reducible refine gate_dst (N := 11) rfl ?_); refine bE #[.bool false, .slice none 0 0, .bool false, .slice none 0 0] 51 H ?_; clear H; intro g11 w27 H; clear F9 F7 F2; have F11 := H.b4 (g := g11) m0; have F9 := H.b2 (g := g9) m1; have F7 := H.b2 (g := g7) m2; have F2 := H.b4 (g := g2) m3; have ne_g11_g9 := H.ne (g := g11) (g' := g9) 0 1 rfl rfl (by decide); have ne_g9_g11 := ne_g11_g9.symm; have ne_g11_g7 := H.ne (g := g11) (g' := g7) 0 2 rfl rfl (by decide); have ne_g7_g11 := ne_g11_g7.symm; have ne_g11_g2 := H.ne (g := g11) (g' := g2) 0 3 rfl rfl (by decide); have ne_g2_g11 := ne_g11_g2.symm))
  (try simp only [nn])
  replace H := ((((H.setn [] 0 (.bool (ng rn)) rfl).setn [] 1 (.slice A22 (ln rn) c23) rfl).setn [] 2 (.bool (ng rd)) rfl).setn [] 3 (.slice A24 (ln rd) c25) rfl)
  clear F11 F9 F7 F2
  generalize ((((w27.setCell ⟨g11, 0, none⟩ (.bool (ng rn))).setCell ⟨g11, 1, none⟩ (.slice A22 (ln rn) c23)).setCell ⟨g11, 2, none⟩ (.bool (ng rd))).setCell ⟨g11, 3, none⟩ (.slice A24 (ln rd) c25)) = w29 at H ⊢
  have F11 := H.b4 (g := g11) m0
  have F9 := H.b2 (g := g9) m1
  have F7 := H.b2 (g := g7) m2
  have F2 := H.b4 (g := g2) m3
  have st31 := trivial
  go_wp2_with (first
    | (clear st31; go_at_call 46; (with_reducible refine (TextR (H.row _ m1) (H.row _ m0) (limR brn.out (by decide)) (limR brd.out (by decide)) s ht.out).mono ?_); rintro e w30 ⟨rfl, hb⟩; replace H := H.call hb; clear hb; clear F11 F9 F7 F2; have F11 := H.b4 (g := g11) m0; have F9 := H.b2 (g := g9) m1; have F7 := H.b2 (g := g7) m2; have F2 := H.b4 (g := g2) m3))
  replace H := ((((H.setn [_, _, _] 0 (.bool (ng rn)) rfl).setn [_, _, _] 1 (.slice A22 (ln rn) c23) rfl).setn [_, _, _] 2 (.bool (ng rd)) rfl).setn [_, _, _] 3 (.slice A24 (ln rd) c25) rfl)
  refine bodyPost_ret (results_list (rs := [.cell 2 51, .tmp 3]) rfl (by simp) (.cell g2 51 #[.bool (ng rn), .slice A22 (ln rn) c23, .bool (ng rd), .slice A24 (ln rd) c25] (0, 0) _ rfl (H.blk m3) Try.underlying51 rfl (by kernel_rfl) (.tmp .nil))) rfl ?_
  exact ⟨A22, c23, A24, c25, rfl, (H.ret m1).mono (fun k hk => hk.elim (fun h => h.elim) id), (H.ret m0).mono (fun k hk => hk.elim (fun h => h.elim) id), H.below⟩

theorem RParse_y4 (s a b : ByteArray) (w : World) (h : (s.size : Int) ≤ 4096) (hcut : Aside0 (cutL s = a ∧ cutR s = b ∧ cutF s = true)) (n d e f : Int) (ha : Aside0 (pr a = (n, e))) (hb' : Aside0 (pr b = (d, f))) (t1 : (e != 0) = false) (t2 : (f != 0) = false) (bn : Aside0 (ln n ≤ 512)) (bd : Aside0 (ln d ≤ 512)) (hs : Aside0 (sg d = 1)) (rn rd : Int) (hm : Aside0 (qn n d = rn ∧ qd n d = rd)) (brn : Aside0 (ln rn ≤ 512)) (brd : Aside0 (ln rd ≤ 512)) (t : ByteArray) (ht : Aside0 (qt rn rd = t)) (t4 : (t.toList == s.toList) = false) : Calls Try.prog 49 #[.string s] w (RetQP w 0 0 3) := by
  have hu25 := Try.underlying25
  have hu51 := Try.underlying51
  have H := Sit.start w (fun _ => False)
  have p1 : decide (4096 < (s.size : Int)) = false := decide_eq_false (by omega)
  have p2 : decide (4096 < s.size) = false := decide_eq_false (by omega)
  have p3 : ¬ 4096 < s.size := by omega
  replace h := Aside0.mk h
  go_enter Try.func49, Try.ntmps49
  have st2 := trivial
  have st4 := trivial
  have st8 := trivial
  have st10 := trivial
  go_upto_region 7 with (first
    | (clear st2; (with_reducible refine gate_dst (N := 2) rfl ?_); refine bE #[.bool false, .slice none 0 0, .bool false, .slice none 0 0] 51 H ?_; clear H; intro g2 w1 H; have F2 := H.b4 (g := g2) m0)
    | (clear st4; go_at_call 87; (with_reducible refine (CutQ s _ h.out a b true hcut.out).mono ?_); rintro e w3 ⟨rfl, hb⟩; replace H := H.call hb; clear hb; clear F2; have F2 := H.b4 (g := g2) m0)
    | (clear st8; go_at_call 23; (with_reducible refine (ParseQ a _ n e ha.out).mono ?_); rintro e w5 ⟨A6, c7, rfl, hr, hb⟩; replace H := H.got (fresh_row hr) hb; clear hr hb; clear F2; have F2 := H.b4 (g := g2) m0)
    | (clear st10; (with_reducible refine gate_dst (N := 7) rfl ?_); refine bE #[.bool false, .slice none 0 0] 25 H ?_; clear H; intro g7 w9 H; clear F2; have F7 := H.b2 (g := g7) m0; have F2 := H.b4 (g := g2) m1; have ne_g7_g2 := H.ne (g := g7) (g' := g2) 0 1 rfl rfl (by decide); have ne_g2_g7 := ne_g7_g2.symm))
  (try simp only [nn])
  replace H := ((H.setn [] 0 (.bool (ng n)) rfl).setn [] 1 (.slice A6 (ln n) c7) rfl)
  clear F7 F2
  generalize ((w9.setCell ⟨g7, 0, none⟩ (.bool (ng n))).setCell ⟨g7, 1, none⟩ (.slice A6 (ln n) c7)) = w11 at H ⊢
  have F7 := H.b2 (g := g7) m0
  have F2 := H.b4 (g := g2) m1
  have st15 := trivial
  have st17 := trivial
  go_upto_region 8 with (first
    | (clear st15; go_at_call 23; (with_reducible refine (ParseQ b _ d f hb'.out).mono ?_); rintro e w12 ⟨A13, c14, rfl, hr, hb⟩; replace H := H.got (fresh_row hr) hb; clear hr hb; clear F7 F2; have F7 := H.b2 (g := g7) m0; have F2 := H.b4 (g := g2) m1)
    | (clear st17; (with_reducible refine gate_dst (N := 9) rfl ?_); refine bE #[.bool false, .slice none 0 0] 25 H ?_; clear H; intro g9 w16 H; clear F7 F2; have F9 := H.b2 (g := g9) m0; have F7 := H.b2 (g := g7) m1; have F2 := H.b4 (g := g2) m2; have ne_g9_g7 := H.ne (g := g9) (g' := g7) 0 1 rfl rfl (by decide); have ne_g7_g9 := ne_g9_g7.symm; have ne_g9_g2 := H.ne (g := g9) (g' := g2) 0 2 rfl rfl (by decide); have ne_g2_g9 := ne_g9_g2.symm))
  (try simp only [nn])
  replace H := ((H.setn [] 0 (.bool (ng d)) rfl).setn [] 1 (.slice A13 (ln d) c14) rfl)
  clear F9 F7 F2
  generalize ((w16.setCell ⟨g9, 0, none⟩ (.bool (ng d))).setCell ⟨g9, 1, none⟩ (.slice A13 (ln d) c14)) = w18 at H ⊢
  have F9 := H.b2 (g := g9) m0
  have F7 := H.b2 (g := g7) m1
  have F2 := H.b4 (g := g2) m2
  have st20 := trivial
  have st26 := trivial
  have st28 := trivial
  go_upto_region 11 with (first
    | (clear st20; go_at_call 25; (with_reducible refine (SignQ _ _ _ (lim bd.out (by decide)) 1 hs.out).mono ?_); rintro e w19 ⟨rfl, hb⟩; replace H := H.call hb; clear hb; clear F9 F7 F2; have F9 := H.b2 (g := g9) m0; have F7 := H.b2 (g := g7) m1; have F2 := H.b4 (g := g2) m2)
    | (clear st26; go_at_call 86; (with_reducible refine (MustQ (H.row _ m1) (H.row _ m0) (lim bn.out (by decide)) (lim bd.out (by decide)) rn rd hm.out).mono ?_); rintro e w21 ⟨A22, c23, A24, c25, rfl, hr, hr2, hb⟩; replace H := (H.got hr hb).more ((H.got hr2 hb).row _ m0); clear hr hr2 hb; clear F9 F7 F2; have F9 := H.b2 (g := g9) m0; have F7 := H.b2 (g := g7) m1; have F2 := H.b4 (g := g2) m2)
    | (clear st28; (with_reducible refine gate_dst (N := 11) rfl ?_); refine bE #[.bool false, .slice none 0 0, .bool false, .slice none 0 0] 51 H ?_; clear H; intro g11 w27 H; clear F9 F7 F2; have F11 := H.b4 (g := g11) m0; have F9 := H.b2 (g := g9) m1; have F7 := H.b2 (g := g7) m2; have F2 := H.b4 (g := g2) m3; have ne_g11_g9 := H.ne (g := g11) (g' := g9) 0 1 rfl rfl (by decide); have ne_g9_g11 := ne_g11_g9.symm; have ne_g11_g7 := H.ne (g := g11) (g' := g7) 0 2 rfl rfl (by decide); have ne_g7_g11 := ne_g11_g7.symm; have ne_g11_g2 := H.ne (g := g11) (g' := g2) 0 3 rfl rfl (by decide); have ne_g2_g11 := ne_g11_g2.symm))
  (try simp only [nn])
  replace H := ((((H.setn [] 0 (.bool (ng rn)) rfl).setn [] 1 (.slice A22 (ln rn) c23) rfl).setn [] 2 (.bool (ng rd)) rfl).setn [] 3 (.slice A24 (ln rd) c25) rfl)
  clear F11 F9 F7 F2
  generalize ((((w27.setCell ⟨g11, 0, none⟩ (.bool (ng rn))).setCell ⟨g11, 1, none⟩ (.slice A22 (ln rn) c23)).setCell ⟨g11, 2, none⟩ (.bool (ng rd))).setCell ⟨g11, 3, none⟩ (.slice A24 (ln rd) c25)) = w29 at H ⊢
  have F11 := H.b4 (g := g11) m0
  have F9 := H.b2 (g := g9) m1
  have F7 := H.b2 (g := g7) m2
  have F2 := H.b4 (g := g2) m3
  have st31 := trivial
  go_wp2_with (first
    | (clear st31; go_at_call 46; (with_reducible refine (TextR (H.row _ m1) (H.row _ m0) (limR brn.out (by decide)) (limR brd.out (by decide)) t ht.out).mono ?_); rintro e w30 ⟨rfl, hb⟩; replace H := H.call hb; clear hb; clear F11 F9 F7 F2; have F11 := H.b4 (g := g11) m0; have F9 := H.b2 (g := g9) m1; have F7 := H.b2 (g := g7) m2; have F2 := H.b4 (g := g2) m3))
  replace H := H.nilrow
  replace H := (((H.setn [_, _, _] 0 (.bool false) rfl).setn [_, _, _] 1 (.slice none 0 0) rfl).setn [_, _, _] 2 (.bool false) rfl).setn [_, _, _] 3 (.slice none 0 0) rfl
  refine bodyPost_ret (results_list (rs := [.cell 2 51, .tmp 3]) rfl (by simp) (.cell g2 51 #[.bool false, .slice none 0 0, .bool false, .slice none 0 0] (0, 0) _ rfl (H.blk m3) Try.underlying51 rfl (by kernel_rfl) (.tmp .nil))) rfl ?_
  exact ⟨none, 0, none, 0, rfl, bw_nil _ _, bw_nil _ _, H.below⟩

theorem RParse_n1 (s a b : ByteArray) (w : World) (h : (s.size : Int) ≤ 4096) (hcut : Aside0 (cutL s = a ∧ cutR s = b ∧ cutF s = false)) (n d e f : Int) (ha : Aside0 (pr a = (n, e))) (hb' : Aside0 (pr ⟨#[49]⟩ = (d, f))) (t1 : (e != 0) = true) : Calls Try.prog 49 #[.string s] w (RetQP w 0 0 3) := by
  have hu25 := Try.underlying25
  have hu51 := Try.underlying51
  have H := Sit.start w (fun _ => False)
  have p1 : decide (4096 < (s.size : Int)) = false := decide_eq_false (by omega)
  have p2 : decide (4096 < s.size) = false := decide_eq_false (by omega)
  have p3 : ¬ 4096 < s.size := by omega
  replace h := Aside0.mk h
  go_enter Try.func49, Try.ntmps49
  have st2 := trivial
  have st4 := trivial
  have st8 := trivial
  have st10 := trivial
  go_upto_region 7 with (first
    | (clear st2; (with_reducible refine gate_dst (N := 2) rfl ?_); refine bE #[.bool false, .slice none 0 0, .bool false, .slice none 0 0] 51 H ?_; clear H; intro g2 w1 H; have F2 := H.b4 (g := g2) m0)
    | (clear st4; go_at_call 87; (with_reducible refine (CutQ s _ h.out a b false hcut.out).mono ?_); rintro e w3 ⟨rfl, hb⟩; replace H := H.call hb; clear hb; clear F2; have F2 := H.b4 (g := g2) m0)
    | (clear st8; go_at_call 23; (with_reducible refine (ParseQ a _ n e ha.out).mono ?_); rintro e w5 ⟨A6, c7, rfl, hr, hb⟩; replace H := H.got (fresh_row hr) hb; clear hr hb; clear F2; have F2 := H.b4 (g := g2) m0)
    | (clear st10; (with_reducible refine gate_dst (N := 7) rfl ?_); refine bE #[.bool false, .slice none 0 0] 25 H ?_; clear H; intro g7 w9 H; clear F2; have F7 := H.b2 (g := g7) m0; have F2 := H.b4 (g := g2) m1; have ne_g7_g2 := H.ne (g := g7) (g' := g2) 0 1 rfl rfl (by decide); have ne_g2_g7 := ne_g7_g2.symm))
  (try simp only [nn])
  replace H := ((H.setn [] 0 (.bool (ng n)) rfl).setn [] 1 (.slice A6 (ln n) c7) rfl)
  clear F7 F2
  generalize ((w9.setCell ⟨g7, 0, none⟩ (.bool (ng n))).setCell ⟨g7, 1, none⟩ (.slice A6 (ln n) c7)) = w11 at H ⊢
  have F7 := H.b2 (g := g7) m0
  have F2 := H.b4 (g := g2) m1
  have st15 := trivial
  have st17 := trivial
  go_upto_region 8 with (first
    | (clear st15; go_at_call 23; (with_reducible refine (ParseQ ⟨#[49]⟩ _ d f hb'.out).mono ?_); rintro e w12 ⟨A13, c14, rfl, hr, hb⟩; replace H := H.got (fresh_row hr) hb; clear hr hb; clear F7 F2; have F7 := H.b2 (g := g7) m0; have F2 := H.b4 (g := g2) m1)
    | (clear st17; (with_reducible refine gate_dst (N := 9) rfl ?_); refine bE #[.bool false, .slice none 0 0] 25 H ?_; clear H; intro g9 w16 H; clear F7 F2; have F9 := H.b2 (g := g9) m0; have F7 := H.b2 (g := g7) m1; have F2 := H.b4 (g := g2) m2; have ne_g9_g7 := H.ne (g := g9) (g' := g7) 0 1 rfl rfl (by decide); have ne_g7_g9 := ne_g9_g7.symm; have ne_g9_g2 := H.ne (g := g9) (g' := g2) 0 2 rfl rfl (by decide); have ne_g2_g9 := ne_g9_g2.symm))
  (try simp only [nn])
  replace H := ((H.setn [] 0 (.bool (ng d)) rfl).setn [] 1 (.slice A13 (ln d) c14) rfl)
  clear F9 F7 F2
  generalize ((w16.setCell ⟨g9, 0, none⟩ (.bool (ng d))).setCell ⟨g9, 1, none⟩ (.slice A13 (ln d) c14)) = w18 at H ⊢
  have F9 := H.b2 (g := g9) m0
  have F7 := H.b2 (g := g7) m1
  have F2 := H.b4 (g := g2) m2
  go_wp2
  replace H := H.nilrow
  replace H := (((H.setn [_, _] 0 (.bool false) rfl).setn [_, _] 1 (.slice none 0 0) rfl).setn [_, _] 2 (.bool false) rfl).setn [_, _] 3 (.slice none 0 0) rfl
  refine bodyPost_ret (results_list (rs := [.cell 2 51, .tmp 3]) rfl (by simp) (.cell g2 51 #[.bool false, .slice none 0 0, .bool false, .slice none 0 0] (0, 0) _ rfl (H.blk m2) Try.underlying51 rfl (by kernel_rfl) (.tmp .nil))) rfl ?_
  exact ⟨none, 0, none, 0, rfl, bw_nil _ _, bw_nil _ _, H.below⟩

theorem RParse_n2 (s a b : ByteArray) (w : World) (h : (s.size : Int) ≤ 4096) (hcut : Aside0 (cutL s = a ∧ cutR s = b ∧ cutF s = false)) (n d e f : Int) (ha : Aside0 (pr a = (n, e))) (hb' : Aside0 (pr ⟨#[49]⟩ = (d, f))) (t1 : (e != 0) = false) (t2 : (f != 0) = true) : Calls Try.prog 49 #[.string s] w (RetQP w 0 0 3) := by
  have hu25 := Try.underlying25
  have hu51 := Try.underlying51
  have H := Sit.start w (fun _ => False)
  have p1 : decide (4096 < (s.size : Int)) = false := decide_eq_false (by omega)
  have p2 : decide (4096 < s.size) = false := decide_eq_false (by omega)
  have p3 : ¬ 4096 < s.size := by omega
  replace h := Aside0.mk h
  go_enter Try.func49, Try.ntmps49
  have st2 := trivial
  have st4 := trivial
  have st8 := trivial
  have st10 := trivial
  go_upto_region 7 with (first
    | (clear st2; (with_reducible refine gate_dst (N := 2) rfl ?_); refine bE #[.bool false, .slice none 0 0, .bool false, .slice none 0 0] 51 H ?_; clear H; intro g2 w1 H; have F2 := H.b4 (g := g2) m0)
    | (clear st4; go_at_call 87; (with_reducible refine (CutQ s _ h.out a b false hcut.out).mono ?_); rintro e w3 ⟨rfl, hb⟩; replace H := H.call hb; clear hb; clear F2; have F2 := H.b4 (g := g2) m0)
    | (clear st8; go_at_call 23; (with_reducible refine (ParseQ a _ n e ha.out).mono ?_); rintro e w5 ⟨A6, c7, rfl, hr, hb⟩; replace H := H.got (fresh_row hr) hb; clear hr hb; clear F2; have F2 := H.b4 (g := g2) m0)
    | (clear st10; (with_reducible refine gate_dst (N := 7) rfl ?_); refine bE #[.bool false, .slice none 0 0] 25 H ?_; clear H; intro g7 w9 H; clear F2; have F7 := H.b2 (g := g7) m0; have F2 := H.b4 (g := g2) m1; have ne_g7_g2 := H.ne (g := g7) (g' := g2) 0 1 rfl rfl (by decide); have ne_g2_g7 := ne_g7_g2.symm))
  (try simp only [nn])
  replace H := ((H.setn [] 0 (.bool (ng n)) rfl).setn [] 1 (.slice A6 (ln n) c7) rfl)
  clear F7 F2
  generalize ((w9.setCell ⟨g7, 0, none⟩ (.bool (ng n))).setCell ⟨g7, 1, none⟩ (.slice A6 (ln n) c7)) = w11 at H ⊢
  have F7 := H.b2 (g := g7) m0
  have F2 := H.b4 (g := g2) m1
  have st15 := trivial
  have st17 := trivial
  go_upto_region 8 with (first
    | (clear st15; go_at_call 23; (with_reducible refine (ParseQ ⟨#[49]⟩ _ d f hb'.out).mono ?_); rintro e w12 ⟨A13, c14, rfl, hr, hb⟩; replace H := H.got (fresh_row hr) hb; clear hr hb; clear F7 F2; have F7 := H.b2 (g := g7) m0; have F2 := H.b4 (g := g2) m1)
    | (clear st17; (with_reducible refine gate_dst (N := 9) rfl ?_); refine bE #[.bool false, .slice none 0 0] 25 H ?_; clear H; intro g9 w16 H; clear F7 F2; have F9 := H.b2 (g := g9) m0; have F7 := H.b2 (g := g7) m1; have F2 := H.b4 (g := g2) m2; have ne_g9_g7 := H.ne (g := g9) (g' := g7) 0 1 rfl rfl (by decide); have ne_g7_g9 := ne_g9_g7.symm; have ne_g9_g2 := H.ne (g := g9) (g' := g2) 0 2 rfl rfl (by decide); have ne_g2_g9 := ne_g9_g2.symm))
  (try simp only [nn])
  replace H := ((H.setn [] 0 (.bool (ng d)) rfl).setn [] 1 (.slice A13 (ln d) c14) rfl)
  clear F9 F7 F2
  generalize ((w16.setCell ⟨g9, 0, none⟩ (.bool (ng d))).setCell ⟨g9, 1, none⟩ (.slice A13 (ln d) c14)) = w18 at H ⊢
  have F9 := H.b2 (g := g9) m0
  have F7 := H.b2 (g := g7) m1
  have F2 := H.b4 (g := g2) m2
  go_wp2
  replace H := H.nilrow
  replace H := (((H.setn [_, _] 0 (.bool false) rfl).setn [_, _] 1 (.slice none 0 0) rfl).setn [_, _] 2 (.bool false) rfl).setn [_, _] 3 (.slice none 0 0) rfl
  refine bodyPost_ret (results_list (rs := [.cell 2 51, .tmp 3]) rfl (by simp) (.cell g2 51 #[.bool false, .slice none 0 0, .bool false, .slice none 0 0] (0, 0) _ rfl (H.blk m2) Try.underlying51 rfl (by kernel_rfl) (.tmp .nil))) rfl ?_
  exact ⟨none, 0, none, 0, rfl, bw_nil _ _, bw_nil _ _, H.below⟩

theorem RParse_n3 (s a b : ByteArray) (w : World) (h : (s.size : Int) ≤ 4096) (hcut : Aside0 (cutL s = a ∧ cutR s = b ∧ cutF s = false)) (n d e f : Int) (ha : Aside0 (pr a = (n, e))) (hb' : Aside0 (pr ⟨#[49]⟩ = (d, f))) (t1 : (e != 0) = false) (t2 : (f != 0) = false) (bd : Aside0 (ln d ≤ 512)) (k : Int) (hs : Aside0 (sg d = k)) (t3 : decide (k ≤ 0) = true) : Calls Try.prog 49 #[.string s] w (RetQP w 0 0 3) := by
  have hu25 := Try.underlying25
  have hu51 := Try.underlying51
  have H := Sit.start w (fun _ => False)
  have p1 : decide (4096 < (s.size : Int)) = false := decide_eq_false (by omega)
  have p2 : decide (4096 < s.size) = false := decide_eq_false (by omega)
  have p3 : ¬ 4096 < s.size := by omega
  replace h := Aside0.mk h
  go_enter Try.func49, Try.ntmps49
  have st2 := trivial
  have st4 := trivial
  have st8 := trivial
  have st10 := trivial
  go_upto_region 7 with (first
    | (clear st2; (with_reducible refine gate_dst (N := 2) rfl ?_); refine bE #[.bool false, .slice none 0 0, .bool false, .slice none 0 0] 51 H ?_; clear H; intro g2 w1 H; have F2 := H.b4 (g := g2) m0)
    | (clear st4; go_at_call 87; (with_reducible refine (CutQ s _ h.out a b false hcut.out).mono ?_); rintro e w3 ⟨rfl, hb⟩; replace H := H.call hb; clear hb; clear F2; have F2 := H.b4 (g := g2) m0)
    | (clear st8; go_at_call 23; (with_reducible refine (ParseQ a _ n e ha.out).mono ?_); rintro e w5 ⟨A6, c7, rfl, hr, hb⟩; replace H := H.got (fresh_row hr) hb; clear hr hb; clear F2; have F2 := H.b4 (g := g2) m0)
    | (clear st10; (with_reducible refine gate_dst (N := 7) rfl ?_); refine bE #[.bool false, .slice none 0 0] 25 H ?_; clear H; intro g7 w9 H; clear F2; have F7 := H.b2 (g := g7) m0; have F2 := H.b4 (g := g2) m1; have ne_g7_g2 := H.ne (g := g7) (g' := g2) 0 1 rfl rfl (by decide); have ne_g2_g7 := ne_g7_g2.symm))
  (try simp only [nn])
  replace H := ((H.setn [] 0 (.bool (ng n)) rfl).setn [] 1 (.slice A6 (ln n) c7) rfl)
  clear F7 F2
  generalize ((w9.setCell ⟨g7, 0, none⟩ (.bool (ng n))).setCell ⟨g7, 1, none⟩ (.slice A6 (ln n) c7)) = w11 at H ⊢
  have F7 := H.b2 (g := g7) m0
  have F2 := H.b4 (g := g2) m1
  have st15 := trivial
  have st17 := trivial
  go_upto_region 8 with (first
    | (clear st15; go_at_call 23; (with_reducible refine (ParseQ ⟨#[49]⟩ _ d f hb'.out).mono ?_); rintro e w12 ⟨A13, c14, rfl, hr, hb⟩; replace H := H.got (fresh_row hr) hb; clear hr hb; clear F7 F2; have F7 := H.b2 (g := g7) m0; have F2 := H.b4 (g := g2) m1)
    | (clear st17; (with_reducible refine gate_dst (N := 9) rfl ?_); refine bE #[.bool false, .slice none 0 0] 25 H ?_; clear H; intro g9 w16 H; clear F7 F2; have F9 := H.b2 (g := g9) m0; have F7 := H.b2 (g := g7) m1; have F2 := H.b4 (g := g2) m2; have ne_g9_g7 := H.ne (g := g9) (g' := g7) 0 1 rfl rfl (by decide); have ne_g7_g9 := ne_g9_g7.symm; have ne_g9_g2 := H.ne (g := g9) (g' := g2) 0 2 rfl rfl (by decide); have ne_g2_g9 := ne_g9_g2.symm))
  (try simp only [nn])
  replace H := ((H.setn [] 0 (.bool (ng d)) rfl).setn [] 1 (.slice A13 (ln d) c14) rfl)
  clear F9 F7 F2
  generalize ((w16.setCell ⟨g9, 0, none⟩ (.bool (ng d))).setCell ⟨g9, 1, none⟩ (.slice A13 (ln d) c14)) = w18 at H ⊢
  have F9 := H.b2 (g := g9) m0
  have F7 := H.b2 (g := g7) m1
  have F2 := H.b4 (g := g2) m2
  have st20 := trivial
  go_wp2_with (first
    | (clear st20; go_at_call 25; (with_reducible refine (SignQ _ _ _ (lim bd.out (by decide)) k hs.out).mono ?_); rintro e w19 ⟨rfl, hb⟩; replace H := H.call hb; clear hb; clear F9 F7 F2; have F9 := H.b2 (g := g9) m0; have F7 := H.b2 (g := g7) m1; have F2 := H.b4 (g := g2) m2))
  replace H := H.nilrow
  replace H := (((H.setn [_, _] 0 (.bool false) rfl).setn [_, _] 1 (.slice none 0 0) rfl).setn [_, _] 2 (.bool false) rfl).setn [_, _] 3 (.slice none 0 0) rfl
  refine bodyPost_ret (results_list (rs := [.cell 2 51, .tmp 3]) rfl (by simp) (.cell g2 51 #[.bool false, .slice none 0 0, .bool false, .slice none 0 0] (0, 0) _ rfl (H.blk m2) Try.underlying51 rfl (by kernel_rfl) (.tmp .nil))) rfl ?_
  exact ⟨none, 0, none, 0, rfl, bw_nil _ _, bw_nil _ _, H.below⟩

theorem RParse_n5 (s a b : ByteArray) (w : World) (h : (s.size : Int) ≤ 4096) (hcut : Aside0 (cutL s = a ∧ cutR s = b ∧ cutF s = false)) (n d e f : Int) (ha : Aside0 (pr a = (n, e))) (hb' : Aside0 (pr ⟨#[49]⟩ = (d, f))) (t1 : (e != 0) = false) (t2 : (f != 0) = false) (bn : Aside0 (ln n ≤ 512)) (bd : Aside0 (ln d ≤ 512)) (hs : Aside0 (sg d = 1)) (rn rd : Int) (hm : Aside0 (qn n d = rn ∧ qd n d = rd)) (brn : Aside0 (ln rn ≤ 512)) (brd : Aside0 (ln rd ≤ 512)) (ht : Aside0 (qt rn rd = s)) (t4 : (s.toList == s.toList) = true) : Calls Try.prog 49 #[.string s] w (RetQP w rn rd 0) := by
  have hu25 := Try.underlying25
  have hu51 := Try.underlying51
  have H := Sit.start w (fun _ => False)
  have p1 : decide (4096 < (s.size : Int)) = false := decide_eq_false (by omega)
  have p2 : decide (4096 < s.size) = false := decide_eq_false (by omega)
  have p3 : ¬ 4096 < s.size := by omega
  replace h := Aside0.mk h
  go_enter Try.func49, Try.ntmps49
  have st2 := trivial
  have st4 := trivial
  have st8 := trivial
  have st10 := trivial
  go_upto_region 7 with (first
    | (clear st2; (with_reducible refine gate_dst (N := 2) rfl ?_); refine bE #[.bool false, .slice none 0 0, .bool false, .slice none 0 0] 51 H ?_; clear H; intro g2 w1 H; have F2 := H.b4 (g := g2) m0)
    | (clear st4; go_at_call 87; (with_reducible refine (CutQ s _ h.out a b false hcut.out).mono ?_); rintro e w3 ⟨rfl, hb⟩; replace H := H.call hb; clear hb; clear F2; have F2 := H.b4 (g := g2) m0)
    | (clear st8; go_at_call 23; (with_reducible refine (ParseQ a _ n e ha.out).mono ?_); rintro e w5 ⟨A6, c7, rfl, hr, hb⟩; replace H := H.got (fresh_row hr) hb; clear hr hb; clear F2; have F2 := H.b4 (g := g2) m0)
    | (clear st10; (with_reducible refine gate_dst (N := 7) rfl ?_); refine bE #[.bool false, .slice none 0 0] 25 H ?_; clear H; intro g7 w9 H; clear F2; have F7 := H.b2 (g := g7) m0; have F2 := H.b4 (g := g2) m1; have ne_g7_g2 := H.ne (g := g7) (g' := g2) 0 1 rfl rfl (by decide); have ne_g2_g7 := ne_g7_g2.symm))
  (try simp only [nn])
  replace H := ((H.setn [] 0 (.bool (ng n)) rfl).setn [] 1 (.slice A6 (ln n) c7) rfl)
  clear F7 F2
  generalize ((w9.setCell ⟨g7, 0, none⟩ (.bool (ng n))).setCell ⟨g7, 1, none⟩ (.slice A6 (ln n) c7)) = w11 at H ⊢
  have F7 := H.b2 (g := g7) m0
  have F2 := H.b4 (g := g2) m1
  have st15 := trivial
  have st17 := trivial
  go_upto_region 8 with (first
    | (clear st15; go_at_call 23; (with_reducible refine (ParseQ ⟨#[49]⟩ _ d f hb'.out).mono ?_); rintro e w12 ⟨A13, c14, rfl, hr, hb⟩; replace H := H.got (fresh_row hr) hb; clear hr hb; clear F7 F2; have F7 := H.b2 (g := g7) m0; have F2 := H.b4 (g := g2) m1)
    | (clear st17; (with_reducible refine gate_dst (N := 9) rfl ?_); refine bE #[.bool false, .slice none 0 0] 25 H ?_; clear H; intro g9 w16 H; clear F7 F2; have F9 := H.b2 (g := g9) m0; have F7 := H.b2 (g := g7) m1; have F2 := H.b4 (g := g2) m2; have ne_g9_g7 := H.ne (g := g9) (g' := g7) 0 1 rfl rfl (by decide); have ne_g7_g9 := ne_g9_g7.symm; have ne_g9_g2 := H.ne (g := g9) (g' := g2) 0 2 rfl rfl (by decide); have ne_g2_g9 := ne_g9_g2.symm))
  (try simp only [nn])
  replace H := ((H.setn [] 0 (.bool (ng d)) rfl).setn [] 1 (.slice A13 (ln d) c14) rfl)
  clear F9 F7 F2
  generalize ((w16.setCell ⟨g9, 0, none⟩ (.bool (ng d))).setCell ⟨g9, 1, none⟩ (.slice A13 (ln d) c14)) = w18 at H ⊢
  have F9 := H.b2 (g := g9) m0
  have F7 := H.b2 (g := g7) m1
  have F2 := H.b4 (g := g2) m2
  have st20 := trivial
  have st26 := trivial
  have st28 := trivial
  go_upto_region 11 with (first
    | (clear st20; go_at_call 25; (with_reducible refine (SignQ _ _ _ (lim bd.out (by decide)) 1 hs.out).mono ?_); rintro e w19 ⟨rfl, hb⟩; replace H := H.call hb; clear hb; clear F9 F7 F2; have F9 := H.b2 (g := g9) m0; have F7 := H.b2 (g := g7) m1; have F2 := H.b4 (g := g2) m2)
    | (clear st26; go_at_call 86; (with_reducible refine (MustQ (H.row _ m1) (H.row _ m0) (lim bn.out (by decide)) (lim bd.out (by decide)) rn rd hm.out).mono ?_); rintro e w21 ⟨A22, c23, A24, c25, rfl, hr, hr2, hb⟩; replace H := (H.got hr hb).more ((H.got hr2 hb).row _ m0); clear hr hr2 hb; clear F9 F7 F2; have F9 := H.b2 (g := g9) m0; have F7 := H.b2 (g := g7) m1; have F2 := H.b4 (g := g2) m2)
    | (clear st28; (with_reducible refine gate_dst (N := 11) rfl ?_); refine bE #[.bool false, .slice none 0 0, .bool false, .slice none 0 0] 51 H ?_; clear H; intro g11 w27 H; clear F9 F7 F2; have F11 := H.b4 (g := g11) m0; have F9 := H.b2 (g := g9) m1; have F7 := H.b2 (g := g7) m2; have F2 := H.b4 (g := g2) m3; have ne_g11_g9 := H.ne (g := g11) (g' := g9) 0 1 rfl rfl (by decide); have ne_g9_g11 := ne_g11_g9.symm; have ne_g11_g7 := H.ne (g := g11) (g' := g7) 0 2 rfl rfl (by decide); have ne_g7_g11 := ne_g11_g7.symm; have ne_g11_g2 := H.ne (g := g11) (g' := g2) 0 3 rfl rfl (by decide); have ne_g2_g11 := ne_g11_g2.symm))
  (try simp only [nn])
  replace H := ((((H.setn [] 0 (.bool (ng rn)) rfl).setn [] 1 (.slice A22 (ln rn) c23) rfl).setn [] 2 (.bool (ng rd)) rfl).setn [] 3 (.slice A24 (ln rd) c25) rfl)
  clear F11 F9 F7 F2
  generalize ((((w27.setCell ⟨g11, 0, none⟩ (.bool (ng rn))).setCell ⟨g11, 1, none⟩ (.slice A22 (ln rn) c23)).setCell ⟨g11, 2, none⟩ (.bool (ng rd))).setCell ⟨g11, 3, none⟩ (.slice A24 (ln rd) c25)) = w29 at H ⊢
  have F11 := H.b4 (g := g11) m0
  have F9 := H.b2 (g := g9) m1
  have F7 := H.b2 (g := g7) m2
  have F2 := H.b4 (g := g2) m3
  have st31 := trivial
  go_wp2_with (first
    | (clear st31; go_at_call 46; (with_reducible refine (TextR (H.row _ m1) (H.row _ m0) (limR brn.out (by decide)) (limR brd.out (by decide)) s ht.out).mono ?_); rintro e w30 ⟨rfl, hb⟩; replace H := H.call hb; clear hb; clear F11 F9 F7 F2; have F11 := H.b4 (g := g11) m0; have F9 := H.b2 (g := g9) m1; have F7 := H.b2 (g := g7) m2; have F2 := H.b4 (g := g2) m3))
  replace H := ((((H.setn [_, _, _] 0 (.bool (ng rn)) rfl).setn [_, _, _] 1 (.slice A22 (ln rn) c23) rfl).setn [_, _, _] 2 (.bool (ng rd)) rfl).setn [_, _, _] 3 (.slice A24 (ln rd) c25) rfl)
  refine bodyPost_ret (results_list (rs := [.cell 2 51, .tmp 3]) rfl (by simp) (.cell g2 51 #[.bool (ng rn), .slice A22 (ln rn) c23, .bool (ng rd), .slice A24 (ln rd) c25] (0, 0) _ rfl (H.blk m3) Try.underlying51 rfl (by kernel_rfl) (.tmp .nil))) rfl ?_
  exact ⟨A22, c23, A24, c25, rfl, (H.ret m1).mono (fun k hk => hk.elim (fun h => h.elim) id), (H.ret m0).mono (fun k hk => hk.elim (fun h => h.elim) id), H.below⟩

theorem RParse_n4 (s a b : ByteArray) (w : World) (h : (s.size : Int) ≤ 4096) (hcut : Aside0 (cutL s = a ∧ cutR s = b ∧ cutF s = false)) (n d e f : Int) (ha : Aside0 (pr a = (n, e))) (hb' : Aside0 (pr ⟨#[49]⟩ = (d, f))) (t1 : (e != 0) = false) (t2 : (f != 0) = false) (bn : Aside0 (ln n ≤ 512)) (bd : Aside0 (ln d ≤ 512)) (hs : Aside0 (sg d = 1)) (rn rd : Int) (hm : Aside0 (qn n d = rn ∧ qd n d = rd)) (brn : Aside0 (ln rn ≤ 512)) (brd : Aside0 (ln rd ≤ 512)) (t : ByteArray) (ht : Aside0 (qt rn rd = t)) (t4 : (t.toList == s.toList) = false) : Calls Try.prog 49 #[.string s] w (RetQP w 0 0 3) := by
  have hu25 := Try.underlying25
  have hu51 := Try.underlying51
  have H := Sit.start w (fun _ => False)
  have p1 : decide (4096 < (s.size : Int)) = false := decide_eq_false (by omega)
  have p2 : decide (4096 < s.size) = false := decide_eq_false (by omega)
  have p3 : ¬ 4096 < s.size := by omega
  replace h := Aside0.mk h
  go_enter Try.func49, Try.ntmps49
  have st2 := trivial
  have st4 := trivial
  have st8 := trivial
  have st10 := trivial
  go_upto_region 7 with (first
    | (clear st2; (with_reducible refine gate_dst (N := 2) rfl ?_); refine bE #[.bool false, .slice none 0 0, .bool false, .slice none 0 0] 51 H ?_; clear H; intro g2 w1 H; have F2 := H.b4 (g := g2) m0)
    | (clear st4; go_at_call 87; (with_reducible refine (CutQ s _ h.out a b false hcut.out).mono ?_); rintro e w3 ⟨rfl, hb⟩; replace H := H.call hb; clear hb; clear F2; have F2 := H.b4 (g := g2) m0)
    | (clear st8; go_at_call 23; (with_reducible refine (ParseQ a _ n e ha.out).mono ?_); rintro e w5 ⟨A6, c7, rfl, hr, hb⟩; replace H := H.got (fresh_row hr) hb; clear hr hb; clear F2; have F2 := H.b4 (g := g2) m0)
    | (clear st10; (with_reducible refine gate_dst (N := 7) rfl ?_); refine bE #[.bool false, .slice none 0 0] 25 H ?_; clear H; intro g7 w9 H; clear F2; have F7 := H.b2 (g := g7) m0; have F2 := H.b4 (g := g2) m1; have ne_g7_g2 := H.ne (g := g7) (g' := g2) 0 1 rfl rfl (by decide); have ne_g2_g7 := ne_g7_g2.symm))
  (try simp only [nn])
  replace H := ((H.setn [] 0 (.bool (ng n)) rfl).setn [] 1 (.slice A6 (ln n) c7) rfl)
  clear F7 F2
  generalize ((w9.setCell ⟨g7, 0, none⟩ (.bool (ng n))).setCell ⟨g7, 1, none⟩ (.slice A6 (ln n) c7)) = w11 at H ⊢
  have F7 := H.b2 (g := g7) m0
  have F2 := H.b4 (g := g2) m1
  have st15 := trivial
  have st17 := trivial
  go_upto_region 8 with (first
    | (clear st15; go_at_call 23; (with_reducible refine (ParseQ ⟨#[49]⟩ _ d f hb'.out).mono ?_); rintro e w12 ⟨A13, c14, rfl, hr, hb⟩; replace H := H.got (fresh_row hr) hb; clear hr hb; clear F7 F2; have F7 := H.b2 (g := g7) m0; have F2 := H.b4 (g := g2) m1)
    | (clear st17; (with_reducible refine gate_dst (N := 9) rfl ?_); refine bE #[.bool false, .slice none 0 0] 25 H ?_; clear H; intro g9 w16 H; clear F7 F2; have F9 := H.b2 (g := g9) m0; have F7 := H.b2 (g := g7) m1; have F2 := H.b4 (g := g2) m2; have ne_g9_g7 := H.ne (g := g9) (g' := g7) 0 1 rfl rfl (by decide); have ne_g7_g9 := ne_g9_g7.symm; have ne_g9_g2 := H.ne (g := g9) (g' := g2) 0 2 rfl rfl (by decide); have ne_g2_g9 := ne_g9_g2.symm))
  (try simp only [nn])
  replace H := ((H.setn [] 0 (.bool (ng d)) rfl).setn [] 1 (.slice A13 (ln d) c14) rfl)
  clear F9 F7 F2
  generalize ((w16.setCell ⟨g9, 0, none⟩ (.bool (ng d))).setCell ⟨g9, 1, none⟩ (.slice A13 (ln d) c14)) = w18 at H ⊢
  have F9 := H.b2 (g := g9) m0
  have F7 := H.b2 (g := g7) m1
  have F2 := H.b4 (g := g2) m2
  have st20 := trivial
  have st26 := trivial
  have st28 := trivial
  go_upto_region 11 with (first
    | (clear st20; go_at_call 25; (with_reducible refine (SignQ _ _ _ (lim bd.out (by decide)) 1 hs.out).mono ?_); rintro e w19 ⟨rfl, hb⟩; replace H := H.call hb; clear hb; clear F9 F7 F2; have F9 := H.b2 (g := g9) m0; have F7 := H.b2 (g := g7) m1; have F2 := H.b4 (g := g2) m2)
    | (clear st26; go_at_call 86; (with_reducible refine (MustQ (H.row _ m1) (H.row _ m0) (lim bn.out (by decide)) (lim bd.out (by decide)) rn rd hm.out).mono ?_); rintro e w21 ⟨A22, c23, A24, c25, rfl, hr, hr2, hb⟩; replace H := (H.got hr hb).more ((H.got hr2 hb).row _ m0); clear hr hr2 hb; clear F9 F7 F2; have F9 := H.b2 (g := g9) m0; have F7 := H.b2 (g := g7) m1; have F2 := H.b4 (g := g2) m2)
    | (clear st28; (with_reducible refine gate_dst (N := 11) rfl ?_); refine bE #[.bool false, .slice none 0 0, .bool false, .slice none 0 0] 51 H ?_; clear H; intro g11 w27 H; clear F9 F7 F2; have F11 := H.b4 (g := g11) m0; have F9 := H.b2 (g := g9) m1; have F7 := H.b2 (g := g7) m2; have F2 := H.b4 (g := g2) m3; have ne_g11_g9 := H.ne (g := g11) (g' := g9) 0 1 rfl rfl (by decide); have ne_g9_g11 := ne_g11_g9.symm; have ne_g11_g7 := H.ne (g := g11) (g' := g7) 0 2 rfl rfl (by decide); have ne_g7_g11 := ne_g11_g7.symm; have ne_g11_g2 := H.ne (g := g11) (g' := g2) 0 3 rfl rfl (by decide); have ne_g2_g11 := ne_g11_g2.symm))
  (try simp only [nn])
  replace H := ((((H.setn [] 0 (.bool (ng rn)) rfl).setn [] 1 (.slice A22 (ln rn) c23) rfl).setn [] 2 (.bool (ng rd)) rfl).setn [] 3 (.slice A24 (ln rd) c25) rfl)
  clear F11 F9 F7 F2
  generalize ((((w27.setCell ⟨g11, 0, none⟩ (.bool (ng rn))).setCell ⟨g11, 1, none⟩ (.slice A22 (ln rn) c23)).setCell ⟨g11, 2, none⟩ (.bool (ng rd))).setCell ⟨g11, 3, none⟩ (.slice A24 (ln rd) c25)) = w29 at H ⊢
  have F11 := H.b4 (g := g11) m0
  have F9 := H.b2 (g := g9) m1
  have F7 := H.b2 (g := g7) m2
  have F2 := H.b4 (g := g2) m3
  have st31 := trivial
  go_wp2_with (first
    | (clear st31; go_at_call 46; (with_reducible refine (TextR (H.row _ m1) (H.row _ m0) (limR brn.out (by decide)) (limR brd.out (by decide)) t ht.out).mono ?_); rintro e w30 ⟨rfl, hb⟩; replace H := H.call hb; clear hb; clear F11 F9 F7 F2; have F11 := H.b4 (g := g11) m0; have F9 := H.b2 (g := g9) m1; have F7 := H.b2 (g := g7) m2; have F2 := H.b4 (g := g2) m3))
  replace H := H.nilrow
  replace H := (((H.setn [_, _, _] 0 (.bool false) rfl).setn [_, _, _] 1 (.slice none 0 0) rfl).setn [_, _, _] 2 (.bool false) rfl).setn [_, _, _] 3 (.slice none 0 0) rfl
  refine bodyPost_ret (results_list (rs := [.cell 2 51, .tmp 3]) rfl (by simp) (.cell g2 51 #[.bool false, .slice none 0 0, .bool false, .slice none 0 0] (0, 0) _ rfl (H.blk m3) Try.underlying51 rfl (by kernel_rfl) (.tmp .nil))) rfl ?_
  exact ⟨none, 0, none, 0, rfl, bw_nil _ _, bw_nil _ _, H.below⟩


/- rational.Parse by its value; ontimelaw02.awake. -/

theorem Dg_all' {t : ByteArray} {k : Nat} (h : ((List.range k).all fun j => decide (48 ≤ bt t (j : Int) ∧ bt t (j : Int) ≤ 57)) = true) : Dg t 0 k := by
  intro j _ hj
  have := List.all_eq_true.mp h j (List.mem_range.mpr (by omega))
  exact of_decide_eq_true this
theorem toList_eq' (t : ByteArray) : t.toList = t.data.toList := by
  have key : ∀ (n i : Nat) (r : List UInt8), t.size - i = n → ByteArray.toList.loop t i r = r.reverse ++ t.data.toList.drop i := by
    intro n
    induction n with
    | zero =>
      intro i r h
      unfold ByteArray.toList.loop
      have h0 : ¬ i < t.size := by omega
      rw [if_neg h0, List.drop_eq_nil_of_le (by rw [Array.length_toList]; show t.size ≤ i; omega), List.append_nil]
    | succ n ih =>
      intro i r h
      unfold ByteArray.toList.loop
      have h0 : i < t.size := by omega
      rw [if_pos h0, ih (i + 1) _ (by omega)]
      have hl : i < t.data.toList.length := by rw [Array.length_toList]; exact h0
      rw [List.drop_eq_getElem_cons hl, List.reverse_cons, List.append_assoc]
      congr 1
      simp only [List.singleton_append, List.cons.injEq, and_true]
      show t.get! i = _
      have : t.get! i = t.data[i]! := rfl
      rw [this, getElem!_pos t.data i h0]
      exact (Array.getElem_toList h0).symm
  have := key t.size 0 [] (by omega)
  unfold ByteArray.toList
  simpa using this
/-- What Parse makes of a text. -/
noncomputable def rp (s : ByteArray) : Int × Int × Int :=
  if 4096 < s.size then (0, 0, 5)
  else
    let a := pr (cutL s)
    let b := pr (if cutF s = true then cutR s else ⟨#[49]⟩)
    if a.2 ≠ 0 ∨ b.2 ≠ 0 ∨ b.1 ≤ 0 then (0, 0, 3)
    else if (qt (qn a.1 b.1) (qd a.1 b.1)).toList = s.toList then (qn a.1 b.1, qd a.1 b.1, 0) else (0, 0, 3)
theorem toList_inj {a b : ByteArray} (h : a.toList = b.toList) : a = b := by
  rw [toList_eq', toList_eq'] at h
  cases a; cases b
  congr 1
  exact Array.toList_inj.mp h
theorem ParseR (s : ByteArray) (w : World) (rn rd err : Int) (h : rp s = (rn, rd, err)) : Calls Try.prog 49 #[.string s] w (RetQP w rn rd err) := by
  unfold rp at h
  by_cases h0 : 4096 < s.size
  · rw [if_pos h0] at h
    obtain ⟨rfl, rfl, rfl⟩ : 0 = rn ∧ 0 = rd ∧ 5 = err := by simpa using h
    exact RParse_full s w (by omega)
  · rw [if_neg h0] at h
    obtain ⟨⟨n, e⟩, ha⟩ : ∃ v, pr (cutL s) = v := ⟨_, rfl⟩
    obtain ⟨⟨d, f⟩, hb⟩ : ∃ v, pr (if cutF s = true then cutR s else ⟨#[49]⟩) = v := ⟨_, rfl⟩
    simp only [ha, hb] at h
    have bn := pr_lim ha
    have bd := pr_lim hb
    have bq1 := bQn (d := d) bn rfl
    have bq2 := bQd (n := n) bd rfl
    have hs : (s.size : Int) ≤ 4096 := by omega
    by_cases he : e = 0
    · have t1 : (e != 0) = false := by rw [he]; rfl
      by_cases hf : f = 0
      · have t2 : (f != 0) = false := by rw [hf]; rfl
        by_cases hd : d ≤ 0
        · rw [if_pos (.inr (.inr hd))] at h
          obtain ⟨rfl, rfl, rfl⟩ : 0 = rn ∧ 0 = rd ∧ 3 = err := by simpa using h
          have t3 : decide (sg d ≤ 0) = true := decide_eq_true (by unfold sg; repeat' split <;> omega)
          by_cases hc : cutF s = true
          · rw [if_pos hc] at hb; exact RParse_y3 s _ _ w hs ⟨rfl, rfl, hc⟩ n d e f ⟨ha⟩ ⟨hb⟩ t1 t2 ⟨bd⟩ _ ⟨rfl⟩ t3
          · rw [if_neg hc] at hb; exact RParse_n3 s _ _ w hs ⟨rfl, rfl, by simpa using hc⟩ n d e f ⟨ha⟩ ⟨hb⟩ t1 t2 ⟨bd⟩ _ ⟨rfl⟩ t3
        · rw [if_neg (by rintro (h1 | h1 | h1); exact h1 he; exact h1 hf; exact hd h1)] at h
          have hsg : sg d = 1 := by unfold sg; rw [if_neg (by omega), if_neg (by omega)]
          by_cases ht : (qt (qn n d) (qd n d)).toList = s.toList
          · rw [if_pos ht] at h
            obtain ⟨rfl, rfl, rfl⟩ : qn n d = rn ∧ qd n d = rd ∧ 0 = err := by simpa using h
            have t4 : (s.toList == s.toList) = true := beq_self_eq_true _
            by_cases hc : cutF s = true
            · rw [if_pos hc] at hb; exact RParse_y5 s _ _ w hs ⟨rfl, rfl, hc⟩ n d e f ⟨ha⟩ ⟨hb⟩ t1 t2 ⟨bn⟩ ⟨bd⟩ ⟨hsg⟩ _ _ ⟨rfl, rfl⟩ ⟨bq1⟩ ⟨bq2⟩ ⟨toList_inj ht⟩ t4
            · rw [if_neg hc] at hb; exact RParse_n5 s _ _ w hs ⟨rfl, rfl, by simpa using hc⟩ n d e f ⟨ha⟩ ⟨hb⟩ t1 t2 ⟨bn⟩ ⟨bd⟩ ⟨hsg⟩ _ _ ⟨rfl, rfl⟩ ⟨bq1⟩ ⟨bq2⟩ ⟨toList_inj ht⟩ t4
          · rw [if_neg ht] at h
            obtain ⟨rfl, rfl, rfl⟩ : 0 = rn ∧ 0 = rd ∧ 3 = err := by simpa using h
            have t4 : ((qt (qn n d) (qd n d)).toList == s.toList) = false := beq_eq_false_iff_ne.mpr ht
            by_cases hc : cutF s = true
            · rw [if_pos hc] at hb; exact RParse_y4 s _ _ w hs ⟨rfl, rfl, hc⟩ n d e f ⟨ha⟩ ⟨hb⟩ t1 t2 ⟨bn⟩ ⟨bd⟩ ⟨hsg⟩ _ _ ⟨rfl, rfl⟩ ⟨bq1⟩ ⟨bq2⟩ _ ⟨rfl⟩ t4
            · rw [if_neg hc] at hb; exact RParse_n4 s _ _ w hs ⟨rfl, rfl, by simpa using hc⟩ n d e f ⟨ha⟩ ⟨hb⟩ t1 t2 ⟨bn⟩ ⟨bd⟩ ⟨hsg⟩ _ _ ⟨rfl, rfl⟩ ⟨bq1⟩ ⟨bq2⟩ _ ⟨rfl⟩ t4
      · rw [if_pos (.inr (.inl hf))] at h
        obtain ⟨rfl, rfl, rfl⟩ : 0 = rn ∧ 0 = rd ∧ 3 = err := by simpa using h
        have t2 : (f != 0) = true := by simpa using hf
        by_cases hc : cutF s = true
        · rw [if_pos hc] at hb; exact RParse_y2 s _ _ w hs ⟨rfl, rfl, hc⟩ n d e f ⟨ha⟩ ⟨hb⟩ t1 t2
        · rw [if_neg hc] at hb; exact RParse_n2 s _ _ w hs ⟨rfl, rfl, by simpa using hc⟩ n d e f ⟨ha⟩ ⟨hb⟩ t1 t2
    · rw [if_pos (.inl he)] at h
      obtain ⟨rfl, rfl, rfl⟩ : 0 = rn ∧ 0 = rd ∧ 3 = err := by simpa using h
      have t1 : (e != 0) = true := by simpa using he
      by_cases hc : cutF s = true
      · rw [if_pos hc] at hb; exact RParse_y1 s _ _ w hs ⟨rfl, rfl, hc⟩ n d e f ⟨ha⟩ ⟨hb⟩ t1
      · rw [if_neg hc] at hb; exact RParse_n1 s _ _ w hs ⟨rfl, rfl, by simpa using hc⟩ n d e f ⟨ha⟩ ⟨hb⟩ t1

theorem pr_49 : pr ⟨#[49]⟩ = (1, 0) := by
  have e1 : cutS ⟨#[49]⟩ = ⟨#[49]⟩ := by rfl
  have e2 : cutB ⟨#[49]⟩ = false := by rfl
  unfold pr
  rw [e1, e2, toList_eq', if_neg (by decide), if_neg, if_neg (by decide)]
  · rfl
  · rintro (h | h | h)
    · cases h
    · exact absurd h.1 (by decide)
    · exact h (Dg_all' (by decide))
theorem pr_50 : pr ⟨#[50]⟩ = (2, 0) := by
  have e1 : cutS ⟨#[50]⟩ = ⟨#[50]⟩ := by rfl
  have e2 : cutB ⟨#[50]⟩ = false := by rfl
  unfold pr
  rw [e1, e2, toList_eq', if_neg (by decide), if_neg, if_neg (by decide)]
  · rfl
  · rintro (h | h | h)
    · cases h
    · exact absurd h.1 (by decide)
    · exact h (Dg_all' (by decide))
theorem pr_51 : pr ⟨#[51]⟩ = (3, 0) := by
  have e1 : cutS ⟨#[51]⟩ = ⟨#[51]⟩ := by rfl
  have e2 : cutB ⟨#[51]⟩ = false := by rfl
  unfold pr
  rw [e1, e2, toList_eq', if_neg (by decide), if_neg, if_neg (by decide)]
  · rfl
  · rintro (h | h | h)
    · cases h
    · exact absurd h.1 (by decide)
    · exact h (Dg_all' (by decide))
theorem rp_50 : rp ⟨#[49, 47, 50]⟩ = (1, 2, 0) := by
  have e0 : cutF ⟨#[49, 47, 50]⟩ = true := by decide +kernel
  have e1 : cutL ⟨#[49, 47, 50]⟩ = ⟨#[49]⟩ := by decide +kernel
  have e2 : cutR ⟨#[49, 47, 50]⟩ = ⟨#[50]⟩ := by decide +kernel
  have q1 : qn 1 2 = 1 := by decide +kernel
  have q2 : qd 1 2 = 2 := by decide +kernel
  have q3 : qt 1 2 = ⟨#[49, 47, 50]⟩ := by decide +kernel
  unfold rp
  rw [if_neg (by decide)]
  simp only [e0, e1, e2, if_true, pr_49, pr_50, q1, q2, q3]
  rfl
theorem rp_51 : rp ⟨#[49, 47, 51]⟩ = (1, 3, 0) := by
  have e0 : cutF ⟨#[49, 47, 51]⟩ = true := by decide +kernel
  have e1 : cutL ⟨#[49, 47, 51]⟩ = ⟨#[49]⟩ := by decide +kernel
  have e2 : cutR ⟨#[49, 47, 51]⟩ = ⟨#[51]⟩ := by decide +kernel
  have q1 : qn 1 3 = 1 := by decide +kernel
  have q2 : qd 1 3 = 3 := by decide +kernel
  have q3 : qt 1 3 = ⟨#[49, 47, 51]⟩ := by decide +kernel
  unfold rp
  rw [if_neg (by decide)]
  simp only [e0, e1, e2, if_true, pr_49, pr_51, q1, q2, q3]
  rfl

theorem awake2 (w : World) : Calls Try.prog 38 #[] w (fun e w' => e = .returned (.bool true) ∧ Below w.heap.size w w') := by
  have hu25 := Try.underlying25
  have hu51 := Try.underlying51
  have H := Sit.start w (fun _ => False)
  obtain ⟨n1, en1⟩ : ∃ v : Int, v = -3 := ⟨_, rfl⟩
  obtain ⟨d1, ed1⟩ : ∃ v : Int, v = 2 := ⟨_, rfl⟩
  obtain ⟨a1, ea1⟩ : ∃ v : Int, v = 1 := ⟨_, rfl⟩
  obtain ⟨b1, eb1⟩ : ∃ v : Int, v = 2 := ⟨_, rfl⟩
  obtain ⟨p1, ep1⟩ : ∃ v : Int, v = 1 := ⟨_, rfl⟩
  obtain ⟨q1, eq1⟩ : ∃ v : Int, v = 3 := ⟨_, rfl⟩
  obtain ⟨u1, eu1⟩ : ∃ v : Int, v = 5 := ⟨_, rfl⟩
  obtain ⟨v1, ev1⟩ : ∃ v : Int, v = 6 := ⟨_, rfl⟩
  obtain ⟨f1, ef1⟩ : ∃ v : Int, v = -2 := ⟨_, rfl⟩
  obtain ⟨c1, ec1⟩ : ∃ v : Int, v = -1 := ⟨_, rfl⟩
  have bn1 := Aside0.mk (show ln n1 ≤ 1 from ln_bound n1 1 (by omega))
  have bd1 := Aside0.mk (show ln d1 ≤ 1 from ln_bound d1 1 (by omega))
  have ba1 := Aside0.mk (show ln a1 ≤ 1 from ln_bound a1 1 (by omega))
  have bb1 := Aside0.mk (show ln b1 ≤ 1 from ln_bound b1 1 (by omega))
  have bp1 := Aside0.mk (show ln p1 ≤ 1 from ln_bound p1 1 (by omega))
  have bq1 := Aside0.mk (show ln q1 ≤ 1 from ln_bound q1 1 (by omega))
  have bu1 := Aside0.mk (show ln u1 ≤ 1 from ln_bound u1 1 (by omega))
  have bv1 := Aside0.mk (show ln v1 ≤ 1 from ln_bound v1 1 (by omega))
  have bf1 := Aside0.mk (show ln f1 ≤ 1 from ln_bound f1 1 (by omega))
  have bc1 := Aside0.mk (show ln c1 ≤ 1 from ln_bound c1 1 (by omega))
  have hF := Aside0.mk (show (qn 6 (-4) = n1 ∧ qd 6 (-4) = d1 ∧ qe (-4) = 0) ∧ (-9223372036854775808 ≤ (6 : Int) ∧ (6 : Int) ≤ 9223372036854775807) ∧ (-9223372036854775808 ≤ (-4 : Int) ∧ (-4 : Int) ≤ 9223372036854775807) by rw [en1, ed1]; decide +kernel)
  have hP := Aside0.mk (show rp ⟨#[49, 47, 50]⟩ = (a1, b1, 0) by rw [ea1, eb1]; exact rp_50)
  have hR := Aside0.mk (show rp ⟨#[49, 47, 51]⟩ = (p1, q1, 0) by rw [ep1, eq1]; exact rp_51)
  have t1 := Aside0.mk (show qt n1 d1 = ⟨#[45, 51, 47, 50]⟩ by rw [en1, ed1]; decide +kernel)
  have hf := Aside0.mk (show flr n1 d1 = f1 by rw [en1, ed1, ef1]; decide +kernel)
  have t2 := Aside0.mk (show tx f1 = ⟨#[45, 50]⟩ by rw [ef1]; decide +kernel)
  have hc := Aside0.mk (show -(flr (-n1) d1) = c1 by rw [en1, ed1, ec1]; decide +kernel)
  have t3 := Aside0.mk (show tx c1 = ⟨#[45, 49]⟩ by rw [ec1]; decide +kernel)
  have hA := Aside0.mk (show qn (a1 * dd q1 + p1 * dd b1) (dd b1 * dd q1) = u1 ∧ qd (a1 * dd q1 + p1 * dd b1) (dd b1 * dd q1) = v1 by rw [ea1, eb1, ep1, eq1, eu1, ev1]; decide +kernel)
  have t4 := Aside0.mk (show qt u1 v1 = ⟨#[53, 47, 54]⟩ by rw [eu1, ev1]; decide +kernel)
  clear en1 ed1 ea1 eb1 ep1 eq1 eu1 ev1 ef1 ec1
  go_enter Try.func38, Try.ntmps38
  have st6 := trivial
  have st8 := trivial
  go_upto_region 2 with (first
    | (clear st6; go_at_call 39; (with_reducible refine (FracQ _ 6 (-4) n1 d1 0 hF.out).mono ?_); rintro e w1 ⟨A2, c3, A4, c5, rfl, hr, hr2, hb⟩; replace H := (H.got (fresh_row hr) hb).more ((H.got (fresh_row hr2) hb).row _ m0); clear hr hr2 hb)
    | (clear st8; (with_reducible refine gate_dst (N := 1) rfl ?_); refine bE #[.bool false, .slice none 0 0, .bool false, .slice none 0 0] 51 H ?_; clear H; intro g1 w7 H; have F1 := H.b4 (g := g1) m0))
  (try simp only [nn])
  replace H := ((((H.setn [] 0 (.bool (ng n1)) rfl).setn [] 1 (.slice A2 (ln n1) c3) rfl).setn [] 2 (.bool (ng d1)) rfl).setn [] 3 (.slice A4 (ln d1) c5) rfl)
  clear F1
  generalize ((((w7.setCell ⟨g1, 0, none⟩ (.bool (ng n1))).setCell ⟨g1, 1, none⟩ (.slice A2 (ln n1) c3)).setCell ⟨g1, 2, none⟩ (.bool (ng d1))).setCell ⟨g1, 3, none⟩ (.slice A4 (ln d1) c5)) = w9 at H ⊢
  have F1 := H.b4 (g := g1) m0
  have st15 := trivial
  have st17 := trivial
  go_upto_region 3 with (first
    | (clear st15; go_at_call 49; (with_reducible refine (ParseR ⟨#[49, 47, 50]⟩ _ a1 b1 0 hP.out).mono ?_); rintro e w10 ⟨A11, c12, A13, c14, rfl, hr, hr2, hb⟩; replace H := (H.got (fresh_row hr) hb).more ((H.got (fresh_row hr2) hb).row _ m0); clear hr hr2 hb; clear F1; have F1 := H.b4 (g := g1) m0)
    | (clear st17; (with_reducible refine gate_dst (N := 3) rfl ?_); refine bE #[.bool false, .slice none 0 0, .bool false, .slice none 0 0] 51 H ?_; clear H; intro g3 w16 H; clear F1; have F3 := H.b4 (g := g3) m0; have F1 := H.b4 (g := g1) m1; have ne_g3_g1 := H.ne (g := g3) (g' := g1) 0 1 rfl rfl (by decide); have ne_g1_g3 := ne_g3_g1.symm))
  (try simp only [nn])
  replace H := ((((H.setn [] 0 (.bool (ng a1)) rfl).setn [] 1 (.slice A11 (ln a1) c12) rfl).setn [] 2 (.bool (ng b1)) rfl).setn [] 3 (.slice A13 (ln b1) c14) rfl)
  clear F3 F1
  generalize ((((w16.setCell ⟨g3, 0, none⟩ (.bool (ng a1))).setCell ⟨g3, 1, none⟩ (.slice A11 (ln a1) c12)).setCell ⟨g3, 2, none⟩ (.bool (ng b1))).setCell ⟨g3, 3, none⟩ (.slice A13 (ln b1) c14)) = w18 at H ⊢
  have F3 := H.b4 (g := g3) m0
  have F1 := H.b4 (g := g1) m1
  have st24 := trivial
  have st26 := trivial
  go_upto_region 4 with (first
    | (clear st24; go_at_call 49; (with_reducible refine (ParseR ⟨#[49, 47, 51]⟩ _ p1 q1 0 hR.out).mono ?_); rintro e w19 ⟨A20, c21, A22, c23, rfl, hr, hr2, hb⟩; replace H := (H.got (fresh_row hr) hb).more ((H.got (fresh_row hr2) hb).row _ m0); clear hr hr2 hb; clear F3 F1; have F3 := H.b4 (g := g3) m0; have F1 := H.b4 (g := g1) m1)
    | (clear st26; (with_reducible refine gate_dst (N := 5) rfl ?_); refine bE #[.bool false, .slice none 0 0, .bool false, .slice none 0 0] 51 H ?_; clear H; intro g5 w25 H; clear F3 F1; have F5 := H.b4 (g := g5) m0; have F3 := H.b4 (g := g3) m1; have F1 := H.b4 (g := g1) m2; have ne_g5_g3 := H.ne (g := g5) (g' := g3) 0 1 rfl rfl (by decide); have ne_g3_g5 := ne_g5_g3.symm; have ne_g5_g1 := H.ne (g := g5) (g' := g1) 0 2 rfl rfl (by decide); have ne_g1_g5 := ne_g5_g1.symm))
  (try simp only [nn])
  replace H := ((((H.setn [] 0 (.bool (ng p1)) rfl).setn [] 1 (.slice A20 (ln p1) c21) rfl).setn [] 2 (.bool (ng q1)) rfl).setn [] 3 (.slice A22 (ln q1) c23) rfl)
  clear F5 F3 F1
  generalize ((((w25.setCell ⟨g5, 0, none⟩ (.bool (ng p1))).setCell ⟨g5, 1, none⟩ (.slice A20 (ln p1) c21)).setCell ⟨g5, 2, none⟩ (.bool (ng q1))).setCell ⟨g5, 3, none⟩ (.slice A22 (ln q1) c23)) = w27 at H ⊢
  have F5 := H.b4 (g := g5) m0
  have F3 := H.b4 (g := g3) m1
  have F1 := H.b4 (g := g1) m2
  have st29 := trivial
  have st33 := trivial
  have st35 := trivial
  have st39 := trivial
  have st41 := trivial
  have st47 := trivial
  have st49 := trivial
  go_wp2_with (first
    | (clear st29; go_at_call 46; (with_reducible refine (TextR (H.row _ m5) (H.row _ m4) (limR bn1.out (by decide)) (limR bd1.out (by decide)) ⟨#[45, 51, 47, 50]⟩ t1.out).mono ?_); rintro e w28 ⟨rfl, hb⟩; replace H := H.call hb; clear hb; clear F5 F3 F1; have F5 := H.b4 (g := g5) m0; have F3 := H.b4 (g := g3) m1; have F1 := H.b4 (g := g1) m2)
    | (clear st33; go_at_call 43; (with_reducible refine (FloorR (H.row _ m5) (H.row _ m4) (limR bn1.out (by decide)) (limR bd1.out (by decide)) f1 hf.out).mono ?_); rintro e w30 ⟨A31, c32, rfl, hr, hb⟩; replace H := H.got hr hb; clear hr hb; clear F5 F3 F1; have F5 := H.b4 (g := g5) m0; have F3 := H.b4 (g := g3) m1; have F1 := H.b4 (g := g1) m2)
    | (clear st35; go_at_call 26; (with_reducible refine (TextQ (H.row _ m0) (lim bf1.out (by decide)) ⟨#[45, 50]⟩ t2.out).mono ?_); rintro e w34 ⟨rfl, hb⟩; replace H := H.call hb; clear hb; clear F5 F3 F1; have F5 := H.b4 (g := g5) m0; have F3 := H.b4 (g := g3) m1; have F1 := H.b4 (g := g1) m2)
    | (clear st39; go_at_call 48; (with_reducible refine (CeilR (H.row _ m6) (H.row _ m5) (limR bn1.out (by decide)) (limR bd1.out (by decide)) c1 hc.out).mono ?_); rintro e w36 ⟨A37, c38, rfl, hr, hb⟩; replace H := H.got hr hb; clear hr hb; clear F5 F3 F1; have F5 := H.b4 (g := g5) m0; have F3 := H.b4 (g := g3) m1; have F1 := H.b4 (g := g1) m2)
    | (clear st41; go_at_call 26; (with_reducible refine (TextQ (H.row _ m0) (lim bc1.out (by decide)) ⟨#[45, 49]⟩ t3.out).mono ?_); rintro e w40 ⟨rfl, hb⟩; replace H := H.call hb; clear hb; clear F5 F3 F1; have F5 := H.b4 (g := g5) m0; have F3 := H.b4 (g := g3) m1; have F1 := H.b4 (g := g1) m2)
    | (clear st47; go_at_call 41; (with_reducible refine (AddR (H.row _ m5) (H.row _ m4) (H.row _ m3) (H.row _ m2) (limR ba1.out (by decide)) (limR bb1.out (by decide)) (limR bp1.out (by decide)) (limR bq1.out (by decide)) u1 v1 hA.out).mono ?_); rintro e w42 ⟨A43, c44, A45, c46, rfl, hr, hr2, hb⟩; replace H := (H.got hr hb).more ((H.got hr2 hb).row _ m0); clear hr hr2 hb; clear F5 F3 F1; have F5 := H.b4 (g := g5) m0; have F3 := H.b4 (g := g3) m1; have F1 := H.b4 (g := g1) m2)
    | (clear st49; go_at_call 46; (with_reducible refine (TextR (H.row _ m1) (H.row _ m0) (limR bu1.out (by decide)) (limR bv1.out (by decide)) ⟨#[53, 47, 54]⟩ t4.out).mono ?_); rintro e w48 ⟨rfl, hb⟩; replace H := H.call hb; clear hb; clear F5 F3 F1; have F5 := H.b4 (g := g5) m0; have F3 := H.b4 (g := g3) m1; have F1 := H.b4 (g := g1) m2))
  go_ret
  exact ⟨rfl, H.below⟩


/- ontimelaw02.two and long. -/

/-- It returns two fresh fractions and whether both are there. -/
def RetTwoR (w : World) (n d p q : Int) (b : Bool) (e : Ending) (w' : World) : Prop :=
  ∃ A c B k A' c' B' k', e = .returned (.tuple #[.agg #[.bool (ng n), .slice A (ln n) c, .bool (ng d), .slice B (ln d) k], .agg #[.bool (ng p), .slice A' (ln p) c', .bool (ng q), .slice B' (ln q) k'], .bool b]) ∧
    (bw A c n).at w' (fun k => w.heap.size ≤ k) ∧ (bw B k d).at w' (fun k => w.heap.size ≤ k) ∧ (bw A' c' p).at w' (fun k => w.heap.size ≤ k) ∧ (bw B' k' q).at w' (fun k => w.heap.size ≤ k) ∧ Below w.heap.size w w'

/-- A store of four cells. -/
theorem Sit.set4 {w0 w : World} {ok : Nat → Prop} {fs : List Rw} (pre : List (Nat × Obj)) {post : List (Nat × Obj)} {g : Nat} {a b c d : Value} {t : TypeId} (h : Sit w0 w ok (pre ++ (g, .cells #[a, b, c, d] t (0, 0)) :: post) fs) (a' b' c' d' : Value) :
    Sit w0 ((((w.setCell ⟨g, 0, none⟩ a').setCell ⟨g, 1, none⟩ b').setCell ⟨g, 2, none⟩ c').setCell ⟨g, 3, none⟩ d') ok (pre ++ (g, .cells #[a', b', c', d'] t (0, 0)) :: post) fs :=
  (((h.setn pre 0 a' rfl).setn pre 1 b' rfl).setn pre 2 c' rfl).setn pre 3 d' rfl

def tb67.T3 : Bool × List (List Nat × List Nat) := (true, [([], []), ([], []), ([], []), ([2], [2]), ([3], [3]), ([4], [4]), ([5, 4], [4, 5]), ([4, 6], [4, 6]), ([0, 4, 0], [0]), ([1, 8, 0, 1, 8], [1]), ([7, 9, 0, 1, 2, 3, 4, 5, 6, 7, 8, 9], [7])])
def tb67.B3 : List Nat := [0, 0, 0, 4, 12, 28, 60, 124, 29, 287, 1023]
theorem tb67.tab3 : rtab .any (opsOf Try.f67 3) = tb67.T3 := by kernel_rfl
theorem tb67.bits3 : waitsOk tb67.T3.2 tb67.B3 = true := by kernel_rfl

theorem Two_e (a b : ByteArray) (w : World) (n d e p q f : Int) (ha : Aside0 (rp a = (n, d, e))) (hb' : Aside0 (rp b = (p, q, f))) (t1 : (e == 0) = false) : Calls Try.prog 67 #[.string a, .string b] w (RetTwoR w n d p q false) := by
  have hu25 := Try.underlying25
  have hu51 := Try.underlying51
  have H := Sit.start w (fun _ => False)
  go_enter Try.func67, Try.ntmps67
  have st2 := trivial
  have st4 := trivial
  have st10 := trivial
  go_upto_region 2 with (first
    | (clear st2; (with_reducible refine gate_dst (N := 4) rfl ?_); refine bE #[.bool false, .slice none 0 0, .bool false, .slice none 0 0] 51 H ?_; clear H; intro g4 w1 H; have F4 := H.b4 (g := g4) m0)
    | (clear st4; (with_reducible refine gate_dst (N := 5) rfl ?_); refine bE #[.bool false, .slice none 0 0, .bool false, .slice none 0 0] 51 H ?_; clear H; intro g5 w3 H; clear F4; have F5 := H.b4 (g := g5) m0; have F4 := H.b4 (g := g4) m1; have ne_g5_g4 := H.ne (g := g5) (g' := g4) 0 1 rfl rfl (by decide); have ne_g4_g5 := ne_g5_g4.symm)
    | (clear st10; go_at_call 49; (with_reducible refine (ParseR a _ n d e ha.out).mono ?_); rintro e w5 ⟨A6, c7, A8, c9, rfl, hr, hr2, hb⟩; replace H := (H.got (fresh_row hr) hb).more ((H.got (fresh_row hr2) hb).row _ m0); clear hr hr2 hb; clear F5 F4; have F5 := H.b4 (g := g5) m0; have F4 := H.b4 (g := g4) m1))
  (try simp only [nn])
  replace H := H.set4 [_] (.bool (ng n)) (.slice A6 (ln n) c7) (.bool (ng d)) (.slice A8 (ln d) c9)
  clear F5 F4
  generalize ((((w5.setCell ⟨g4, 0, none⟩ (.bool (ng n))).setCell ⟨g4, 1, none⟩ (.slice A6 (ln n) c7)).setCell ⟨g4, 2, none⟩ (.bool (ng d))).setCell ⟨g4, 3, none⟩ (.slice A8 (ln d) c9)) = w11 at H ⊢
  have F5 := H.b4 (g := g5) m0
  have F4 := H.b4 (g := g4) m1
  have st17 := trivial
  go_upto_region 3 with (first
    | (clear st17; go_at_call 49; (with_reducible refine (ParseR b _ p q f hb'.out).mono ?_); rintro e w12 ⟨A13, c14, A15, c16, rfl, hr, hr2, hb⟩; replace H := (H.got (fresh_row hr) hb).more ((H.got (fresh_row hr2) hb).row _ m0); clear hr hr2 hb; clear F5 F4; have F5 := H.b4 (g := g5) m0; have F4 := H.b4 (g := g4) m1))
  (try simp only [nn])
  replace H := H.set4 [] (.bool (ng p)) (.slice A13 (ln p) c14) (.bool (ng q)) (.slice A15 (ln q) c16)
  clear F5 F4
  generalize ((((w12.setCell ⟨g5, 0, none⟩ (.bool (ng p))).setCell ⟨g5, 1, none⟩ (.slice A13 (ln p) c14)).setCell ⟨g5, 2, none⟩ (.bool (ng q))).setCell ⟨g5, 3, none⟩ (.slice A15 (ln q) c16)) = w18 at H ⊢
  have F5 := H.b4 (g := g5) m0
  have F4 := H.b4 (g := g4) m1
  clear F5 F4
  replace H := H.drew
  refine start_ (n := 11) (S := fun w' => w'.cell? ⟨g4, 0, none⟩ = some (.bool (ng n)) ∧ w'.cell? ⟨g4, 1, none⟩ = some (.slice A6 (ln n) c7) ∧ w'.cell? ⟨g4, 2, none⟩ = some (.bool (ng d)) ∧ w'.cell? ⟨g4, 3, none⟩ = some (.slice A8 (ln d) c9) ∧ w'.cell? ⟨g5, 0, none⟩ = some (.bool (ng p)) ∧ w'.cell? ⟨g5, 1, none⟩ = some (.slice A13 (ln p) c14) ∧ w'.cell? ⟨g5, 2, none⟩ = some (.bool (ng q)) ∧ w'.cell? ⟨g5, 3, none⟩ = some (.slice A15 (ln q) c16)) (ds := [9]) #[false, false, false, false, false, false, false, false, false, false, false] (by kernel_rfl) rfl rfl (H.c4 m1 (H.d4 m0)) (fun hQ => ?_)
  generalize w18.drew = w19 at H hQ ⊢
  refine with_tabW tb67.tab3 tb67.bits3 (fun HT_ HW_ => ?_)
  refine pT HT_ 2 21 (bm 11 4) ?_
  refine pT HT_ 3 22 (bm 11 12) ?_
  refine pT HT_ 4 23 (bm 11 28) ?_
  refine xT HT_ 5 24 (bm 11 60) ?_
  refine xT HT_ 6 25 (bm 11 124) ?_
  refine pT HT_ 7 26 (bm 11 252) ?_
  refine tT HT_ HW_ hQ 0 19 (bm 11 253) ?_
  refine tT HT_ HW_ hQ 1 20 (bm 11 255) ?_
  refine oT0 HT_ 8 (bm 11 511) (fun K hK => ?_)
  have F5 := H.b4 (g := g5) m0
  have F4 := H.b4 (g := g4) m1
  refine kT ?_
  replace H := H.set4 [_] (.bool (ng n)) (.slice A6 (ln n) c7) (.bool (ng d)) (.slice A8 (ln d) c9)
  clear F5 F4
  generalize ((((w19.setCell ⟨g4, 0, none⟩ (.bool (ng n))).setCell ⟨g4, 1, none⟩ (.slice A6 (ln n) c7)).setCell ⟨g4, 2, none⟩ (.bool (ng d))).setCell ⟨g4, 3, none⟩ (.slice A8 (ln d) c9)) = w20 at H ⊢
  refine hK.out _ _ (H.c4 m1 (H.d4 m0)) (fun hQ => ?_)
  clear hK K
  refine lT HT_ 9 (bm 11 1023) (fun K hK => ?_)
  have F5 := H.b4 (g := g5) m0
  have F4 := H.b4 (g := g4) m1
  refine kT ?_
  refine hK.out _ _ ?_
  clear hK K
  refine pT HT_ 10 6 (bm 11 2047) ?_
  refine done_ (done_of HT_.out (by kernel_rfl)) ?_
  try clear hQ
  replace H := H.set4 [] (.bool (ng p)) (.slice A13 (ln p) c14) (.bool (ng q)) (.slice A15 (ln q) c16)
  go_wp2
  refine bodyPost_ret (results_list (rs := [.cell 4 51, .cell 5 51, .tmp 6]) rfl (by simp) (.cell g4 51 #[.bool (ng n), .slice A6 (ln n) c7, .bool (ng d), .slice A8 (ln d) c9] (0, 0) _ rfl (H.blk m1) Try.underlying51 rfl (by kernel_rfl) (.cell g5 51 #[.bool (ng p), .slice A13 (ln p) c14, .bool (ng q), .slice A15 (ln q) c16] (0, 0) _ rfl (H.blk m0) Try.underlying51 rfl (by kernel_rfl) (.tmp .nil)))) rfl ?_
  exact ⟨A6, c7, A8, c9, A13, c14, A15, c16, rfl, (H.ret m3).mono (fun k hk => hk.elim (fun h => h.elim) id), (H.ret m2).mono (fun k hk => hk.elim (fun h => h.elim) id), (H.ret m1).mono (fun k hk => hk.elim (fun h => h.elim) id), (H.ret m0).mono (fun k hk => hk.elim (fun h => h.elim) id), H.below⟩


theorem Two_f (a b : ByteArray) (w : World) (n d e p q f : Int) (ha : Aside0 (rp a = (n, d, e))) (hb' : Aside0 (rp b = (p, q, f))) (t1 : (e == 0) = true) (v : Bool) (t2 : (f == 0) = v) : Calls Try.prog 67 #[.string a, .string b] w (RetTwoR w n d p q v) := by
  have hu25 := Try.underlying25
  have hu51 := Try.underlying51
  have H := Sit.start w (fun _ => False)
  go_enter Try.func67, Try.ntmps67
  have st2 := trivial
  have st4 := trivial
  have st10 := trivial
  go_upto_region 2 with (first
    | (clear st2; (with_reducible refine gate_dst (N := 4) rfl ?_); refine bE #[.bool false, .slice none 0 0, .bool false, .slice none 0 0] 51 H ?_; clear H; intro g4 w1 H; have F4 := H.b4 (g := g4) m0)
    | (clear st4; (with_reducible refine gate_dst (N := 5) rfl ?_); refine bE #[.bool false, .slice none 0 0, .bool false, .slice none 0 0] 51 H ?_; clear H; intro g5 w3 H; clear F4; have F5 := H.b4 (g := g5) m0; have F4 := H.b4 (g := g4) m1; have ne_g5_g4 := H.ne (g := g5) (g' := g4) 0 1 rfl rfl (by decide); have ne_g4_g5 := ne_g5_g4.symm)
    | (clear st10; go_at_call 49; (with_reducible refine (ParseR a _ n d e ha.out).mono ?_); rintro e w5 ⟨A6, c7, A8, c9, rfl, hr, hr2, hb⟩; replace H := (H.got (fresh_row hr) hb).more ((H.got (fresh_row hr2) hb).row _ m0); clear hr hr2 hb; clear F5 F4; have F5 := H.b4 (g := g5) m0; have F4 := H.b4 (g := g4) m1))
  (try simp only [nn])
  replace H := H.set4 [_] (.bool (ng n)) (.slice A6 (ln n) c7) (.bool (ng d)) (.slice A8 (ln d) c9)
  clear F5 F4
  generalize ((((w5.setCell ⟨g4, 0, none⟩ (.bool (ng n))).setCell ⟨g4, 1, none⟩ (.slice A6 (ln n) c7)).setCell ⟨g4, 2, none⟩ (.bool (ng d))).setCell ⟨g4, 3, none⟩ (.slice A8 (ln d) c9)) = w11 at H ⊢
  have F5 := H.b4 (g := g5) m0
  have F4 := H.b4 (g := g4) m1
  have st17 := trivial
  go_upto_region 3 with (first
    | (clear st17; go_at_call 49; (with_reducible refine (ParseR b _ p q f hb'.out).mono ?_); rintro e w12 ⟨A13, c14, A15, c16, rfl, hr, hr2, hb⟩; replace H := (H.got (fresh_row hr) hb).more ((H.got (fresh_row hr2) hb).row _ m0); clear hr hr2 hb; clear F5 F4; have F5 := H.b4 (g := g5) m0; have F4 := H.b4 (g := g4) m1))
  (try simp only [nn])
  replace H := H.set4 [] (.bool (ng p)) (.slice A13 (ln p) c14) (.bool (ng q)) (.slice A15 (ln q) c16)
  clear F5 F4
  generalize ((((w12.setCell ⟨g5, 0, none⟩ (.bool (ng p))).setCell ⟨g5, 1, none⟩ (.slice A13 (ln p) c14)).setCell ⟨g5, 2, none⟩ (.bool (ng q))).setCell ⟨g5, 3, none⟩ (.slice A15 (ln q) c16)) = w18 at H ⊢
  have F5 := H.b4 (g := g5) m0
  have F4 := H.b4 (g := g4) m1
  clear F5 F4
  replace H := H.drew
  refine start_ (n := 11) (S := fun w' => w'.cell? ⟨g4, 0, none⟩ = some (.bool (ng n)) ∧ w'.cell? ⟨g4, 1, none⟩ = some (.slice A6 (ln n) c7) ∧ w'.cell? ⟨g4, 2, none⟩ = some (.bool (ng d)) ∧ w'.cell? ⟨g4, 3, none⟩ = some (.slice A8 (ln d) c9) ∧ w'.cell? ⟨g5, 0, none⟩ = some (.bool (ng p)) ∧ w'.cell? ⟨g5, 1, none⟩ = some (.slice A13 (ln p) c14) ∧ w'.cell? ⟨g5, 2, none⟩ = some (.bool (ng q)) ∧ w'.cell? ⟨g5, 3, none⟩ = some (.slice A15 (ln q) c16)) (ds := [9]) #[false, false, false, false, false, false, false, false, false, false, false] (by kernel_rfl) rfl rfl (H.c4 m1 (H.d4 m0)) (fun hQ => ?_)
  generalize w18.drew = w19 at H hQ ⊢
  refine with_tabW tb67.tab3 tb67.bits3 (fun HT_ HW_ => ?_)
  refine pT HT_ 2 21 (bm 11 4) ?_
  refine pT HT_ 3 22 (bm 11 12) ?_
  refine pT HT_ 4 23 (bm 11 28) ?_
  refine pT HT_ 5 24 (bm 11 60) ?_
  refine pT HT_ 6 25 (bm 11 124) ?_
  refine pT HT_ 7 26 (bm 11 252) ?_
  refine tT HT_ HW_ hQ 0 19 (bm 11 253) ?_
  refine tT HT_ HW_ hQ 1 20 (bm 11 255) ?_
  refine oT0 HT_ 8 (bm 11 511) (fun K hK => ?_)
  have F5 := H.b4 (g := g5) m0
  have F4 := H.b4 (g := g4) m1
  refine kT ?_
  replace H := H.set4 [_] (.bool (ng n)) (.slice A6 (ln n) c7) (.bool (ng d)) (.slice A8 (ln d) c9)
  clear F5 F4
  generalize ((((w19.setCell ⟨g4, 0, none⟩ (.bool (ng n))).setCell ⟨g4, 1, none⟩ (.slice A6 (ln n) c7)).setCell ⟨g4, 2, none⟩ (.bool (ng d))).setCell ⟨g4, 3, none⟩ (.slice A8 (ln d) c9)) = w20 at H ⊢
  refine hK.out _ _ (H.c4 m1 (H.d4 m0)) (fun hQ => ?_)
  clear hK K
  refine lT HT_ 9 (bm 11 1023) (fun K hK => ?_)
  have F5 := H.b4 (g := g5) m0
  have F4 := H.b4 (g := g4) m1
  refine kT ?_
  refine hK.out _ _ ?_
  clear hK K
  refine pT HT_ 10 6 (bm 11 2047) ?_
  refine done_ (done_of HT_.out (by kernel_rfl)) ?_
  try clear hQ
  replace H := H.set4 [] (.bool (ng p)) (.slice A13 (ln p) c14) (.bool (ng q)) (.slice A15 (ln q) c16)
  go_wp2
  refine bodyPost_ret (results_list (rs := [.cell 4 51, .cell 5 51, .tmp 6]) rfl (by simp) (.cell g4 51 #[.bool (ng n), .slice A6 (ln n) c7, .bool (ng d), .slice A8 (ln d) c9] (0, 0) _ rfl (H.blk m1) Try.underlying51 rfl (by kernel_rfl) (.cell g5 51 #[.bool (ng p), .slice A13 (ln p) c14, .bool (ng q), .slice A15 (ln q) c16] (0, 0) _ rfl (H.blk m0) Try.underlying51 rfl (by kernel_rfl) (.tmp .nil)))) rfl ?_
  exact ⟨A6, c7, A8, c9, A13, c14, A15, c16, rfl, (H.ret m3).mono (fun k hk => hk.elim (fun h => h.elim) id), (H.ret m2).mono (fun k hk => hk.elim (fun h => h.elim) id), (H.ret m1).mono (fun k hk => hk.elim (fun h => h.elim) id), (H.ret m0).mono (fun k hk => hk.elim (fun h => h.elim) id), H.below⟩

/-- Both texts are accepted. -/
def BothR (a b : ByteArray) (n d p q : Int) : Prop := rp a = (n, d, 0) ∧ rp b = (p, q, 0)
theorem twoR_ok {a b : ByteArray} {n d p q : Int} (h : BothR a b n d p q) (w : World) : Calls Try.prog 67 #[.string a, .string b] w (RetTwoR w n d p q true) :=
  Two_f a b w n d 0 p q 0 ⟨h.1⟩ ⟨h.2⟩ rfl true rfl
theorem twoR_not (a b : ByteArray) (h : ¬ ∃ n d p q, BothR a b n d p q) : ∃ n d p q, ∀ w, Calls Try.prog 67 #[.string a, .string b] w (RetTwoR w n d p q false) := by
  obtain ⟨⟨n, d, e⟩, ha⟩ : ∃ v, rp a = v := ⟨_, rfl⟩
  obtain ⟨⟨p, q, f⟩, hb⟩ : ∃ v, rp b = v := ⟨_, rfl⟩
  refine ⟨n, d, p, q, fun w => ?_⟩
  by_cases he : e = 0
  · by_cases hf : f = 0
    · subst he hf
      exact absurd ⟨n, d, p, q, ha, hb⟩ h
    · exact Two_f a b w n d e p q f ⟨ha⟩ ⟨hb⟩ (beq_iff_eq.mpr he) false (beq_eq_false_iff_ne.mpr hf)
  · exact Two_e a b w n d e p q f ⟨ha⟩ ⟨hb⟩ (beq_eq_false_iff_ne.mpr he)


/- Fractions in lowest terms: the plain laws; ontimelaw02.long. -/

/-- A fraction with a positive denominator is its parts in lowest terms, times what they have in common. -/
theorem q_scale {a b : Int} (hb : 0 < b) : ∃ g : Int, 0 < g ∧ a = qn a b * g ∧ b = qd a b * g ∧ 0 < qd a b := by
  have hg : 0 < ((Int.gcd a b : Nat) : Int) := by
    have : 0 < Nat.gcd a.natAbs b.natAbs := Nat.gcd_pos_of_pos_right _ (by omega)
    have e : Int.gcd a b = Nat.gcd a.natAbs b.natAbs := rfl
    omega
  have h1 : ((Int.gcd a b : Nat) : Int) ∣ a := Int.gcd_dvd_left ..
  have h2 : ((Int.gcd a b : Nat) : Int) ∣ b := Int.gcd_dvd_right ..
  refine ⟨((Int.gcd a b : Nat) : Int), hg, ?_, ?_, ?_⟩
  · unfold qn; rw [if_neg (by omega), if_neg (by omega), Int.tdiv_mul_cancel h1]
  · unfold qd; rw [if_neg (by omega), if_neg (by omega), Int.tdiv_mul_cancel h2]
  · unfold qd
    rw [if_neg (by omega), if_neg (by omega)]
    generalize ((Int.gcd a b : Nat) : Int) = G at hg h2
    obtain ⟨k, rfl⟩ := h2
    rw [Int.mul_tdiv_cancel_left _ (by omega)]
    by_cases h0 : 0 < k
    · exact h0
    · exfalso
      have : G * k ≤ 0 := Int.mul_nonpos_of_nonneg_of_nonpos (by omega) (by omega)
      omega
theorem dd_pos {d : Int} (h : 0 < d) : dd d = d := by unfold dd; rw [if_neg (by omega)]
/-- Lowest terms are unique. -/
theorem low_unique {n d p q : Int} (hd : 0 < d) (hq : 0 < q) (h1 : Int.gcd n d = 1) (h2 : Int.gcd p q = 1) (h : n * q = p * d) : n = p ∧ d = q := by
  have c1 : d.natAbs ∣ q.natAbs := by
    have : d.natAbs ∣ n.natAbs * q.natAbs := by rw [← Int.natAbs_mul, h, Int.natAbs_mul]; exact ⟨p.natAbs, Nat.mul_comm _ _⟩
    exact (Nat.Coprime.symm h1).dvd_of_dvd_mul_left this
  have c2 : q.natAbs ∣ d.natAbs := by
    have : q.natAbs ∣ p.natAbs * d.natAbs := by rw [← Int.natAbs_mul, ← h, Int.natAbs_mul]; exact ⟨n.natAbs, Nat.mul_comm _ _⟩
    exact (Nat.Coprime.symm h2).dvd_of_dvd_mul_left this
  have c3 := Nat.dvd_antisymm c1 c2
  have e : d = q := by omega
  subst e
  exact ⟨Int.eq_of_mul_eq_mul_right (by omega) h, rfl⟩
/-- Equal fractions have the same lowest terms. -/
theorem q_low {a b : Int} (hb : 0 < b) : Int.gcd (qn a b) (qd a b) = 1 := by
  have hg : 0 < Nat.gcd a.natAbs b.natAbs := Nat.gcd_pos_of_pos_right _ (by omega)
  have e1 : (qn a b).natAbs = a.natAbs / Nat.gcd a.natAbs b.natAbs := by unfold qn; rw [if_neg (by omega), if_neg (by omega), Int.natAbs_tdiv, Int.natAbs_natCast]; rfl
  have e2 : (qd a b).natAbs = b.natAbs / Nat.gcd a.natAbs b.natAbs := by unfold qd; rw [if_neg (by omega), if_neg (by omega), Int.natAbs_tdiv, Int.natAbs_natCast]; rfl
  have e3 : Int.gcd (qn a b) (qd a b) = Nat.gcd (qn a b).natAbs (qd a b).natAbs := rfl
  rw [e3, e1, e2, Nat.gcd_div (Nat.gcd_dvd_left _ _) (Nat.gcd_dvd_right _ _), Nat.div_self hg]
theorem sg_pos {x : Int} (h : 0 < x) : sg x = 1 := by unfold sg; rw [if_neg (by omega), if_neg (by omega)]
/-- What Parse accepts is a fraction in lowest terms with a positive denominator. -/
theorem rpL {s : ByteArray} {n d : Int} (h : rp s = (n, d, 0)) : 0 < d ∧ Int.gcd n d = 1 ∧ ln n ≤ 512 ∧ ln d ≤ 512 := by
  unfold rp at h
  split at h
  · simp at h
  · obtain ⟨⟨a, e⟩, ha⟩ : ∃ v, pr (cutL s) = v := ⟨_, rfl⟩
    obtain ⟨⟨b, f⟩, hb⟩ : ∃ v, pr (if cutF s = true then cutR s else ⟨#[49]⟩) = v := ⟨_, rfl⟩
    simp only [ha, hb] at h
    split at h
    · simp at h
    · next hn =>
      have hb0 : 0 < b := by omega
      split at h
      · obtain ⟨h1, h2, -⟩ : qn a b = n ∧ qd a b = d ∧ True := by simpa using h
        have bn := bQn (d := b) (pr_lim ha) h1
        have bd := bQd (n := a) (pr_lim hb) h2
        unfold qn at h1
        unfold qd at h2
        rw [if_neg (by omega), if_neg (by omega)] at h1 h2
        have hg : 0 < Nat.gcd a.natAbs b.natAbs := Nat.gcd_pos_of_pos_right _ (by omega)
        have hg' : 0 < ((Int.gcd a b : Nat) : Int) := by have : Int.gcd a b = Nat.gcd a.natAbs b.natAbs := rfl; omega
        refine ⟨?_, ?_, bn, bd⟩
        · rw [← h2]
          have hdv : ((Int.gcd a b : Nat) : Int) ∣ b := Int.gcd_dvd_right ..
          generalize ((Int.gcd a b : Nat) : Int) = G at hdv hg'
          obtain ⟨k, rfl⟩ := hdv
          rw [Int.mul_tdiv_cancel_left _ (by omega)]
          by_cases h0 : 0 < k
          · exact h0
          · exfalso
            have : G * k ≤ 0 := Int.mul_nonpos_of_nonneg_of_nonpos (by omega) (by omega)
            omega
        · have e1 : n.natAbs = a.natAbs / Nat.gcd a.natAbs b.natAbs := by rw [← h1, Int.natAbs_tdiv, Int.natAbs_natCast]; rfl
          have e2 : d.natAbs = b.natAbs / Nat.gcd a.natAbs b.natAbs := by rw [← h2, Int.natAbs_tdiv, Int.natAbs_natCast]; rfl
          have e3 : Int.gcd n d = Nat.gcd n.natAbs d.natAbs := rfl
          rw [e3, e1, e2, Nat.gcd_div (Nat.gcd_dvd_left _ _) (Nat.gcd_dvd_right _ _), Nat.div_self hg]
      · simp at h
/-- What Parse accepts it writes again. -/
theorem rp_text {s : ByteArray} {n d : Int} (h : rp s = (n, d, 0)) : qt n d = s := by
  unfold rp at h
  split at h
  · simp at h
  · obtain ⟨⟨a, e⟩, ha⟩ : ∃ v, pr (cutL s) = v := ⟨_, rfl⟩
    obtain ⟨⟨b, f⟩, hb⟩ : ∃ v, pr (if cutF s = true then cutR s else ⟨#[49]⟩) = v := ⟨_, rfl⟩
    simp only [ha, hb] at h
    split at h
    · simp at h
    · split at h
      · next ht =>
        obtain ⟨h1, h2⟩ : qn a b = n ∧ qd a b = d := by simpa using h
        rw [← h1, ← h2]
        exact toList_inj ht
      · simp at h
theorem LongR (s : ByteArray) (w : World) (b : Bool) (h : decide (200 < (s.size : Int)) = b) : Calls Try.prog 50 #[.string s] w (RetB b w) := by
  subst h
  have e : decide (200 < s.size) = decide (200 < (s.size : Int)) := by by_cases h1 : 200 < s.size <;> simp [h1] <;> omega
  go_enter Try.func50, Try.ntmps50
  go_wp2
  go_ret
  exact ⟨by first | rfl | rw [e], Below.refl _ _⟩


/- Fractions in lowest terms: n / d is a / b; bounds of what the operations make. -/

theorem same1 {x y x' y' : Int} (h : x = x' ∧ y = y') : Aside0 (cmp3 (x * dd y') (x' * dd y) = 0) := by obtain ⟨rfl, rfl⟩ := h; exact ⟨cmp3_eq rfl⟩
theorem same2 {x y x' y' : Int} (h : x = x' ∧ y = y') : Aside0 (qt x y = qt x' y') := by obtain ⟨rfl, rfl⟩ := h; exact ⟨rfl⟩
/-- n / d is a / b in lowest terms. -/
def Lo (n d a b : Int) : Prop := 0 < d ∧ Int.gcd n d = 1 ∧ b ≠ 0 ∧ n * b = a * d
theorem Lo.self {n d : Int} (h : 0 < d) (hg : Int.gcd n d = 1) : Lo n d n d := ⟨h, hg, by omega, rfl⟩
theorem Lo.pos {a b : Int} (hb : 0 < b) : Lo (qn a b) (qd a b) a b := by
  obtain ⟨g, hg, e1, e2, e3⟩ := q_scale (a := a) hb
  exact ⟨e3, q_low hb, by omega, by grind⟩
theorem q_neg {a b : Int} (hb : b < 0) : qn a b = qn (-a) (-b) ∧ qd a b = qd (-a) (-b) := by
  unfold qn qd
  simp only [if_neg (show ¬ b = 0 by omega), if_neg (show ¬ -b = 0 by omega), if_pos hb, if_neg (show ¬ -b < 0 by omega), Int.gcd_neg, Int.neg_gcd, and_self]
theorem Lo.q {a b x y : Int} (hb : b ≠ 0) (hx : qn a b = x) (hy : qd a b = y) : Lo x y a b := by
  subst hx hy
  by_cases h : 0 < b
  · exact Lo.pos h
  · obtain ⟨e1, e2⟩ := q_neg (a := a) (b := b) (by omega)
    obtain ⟨h1, h2, h3, h4⟩ := Lo.pos (a := -a) (b := -b) (by omega)
    rw [e1, e2]
    exact ⟨h1, h2, hb, by grind⟩
theorem Lo.uniq {n d a b p q a' b' : Int} (h : Lo n d a b) (k : Lo p q a' b') (e : a * b' = a' * b) : n = p ∧ d = q := by
  obtain ⟨h1, h2, h3, h4⟩ := h
  obtain ⟨k1, k2, k3, k4⟩ := k
  refine low_unique h1 k1 h2 k2 ?_
  have hbb : b * b' ≠ 0 := Int.mul_ne_zero h3 k3
  refine Int.eq_of_mul_eq_mul_right hbb ?_
  grind
theorem Lo.tr {x y A B a b : Int} (h : Lo x y A B) (hb : b ≠ 0) (e : A * b = a * B) : Lo x y a b := by
  obtain ⟨h1, h2, h3, h4⟩ := h
  refine ⟨h1, h2, hb, ?_⟩
  refine Int.eq_of_mul_eq_mul_right h3 ?_
  grind
section
variable {n d a b p q a' b' x y : Int}
theorem Lo.add (h : Lo n d a b) (k : Lo p q a' b') (e : qn (n * dd q + p * dd d) (dd d * dd q) = x ∧ qd (n * dd q + p * dd d) (dd d * dd q) = y) : Lo x y (a * b' + a' * b) (b * b') := by
  obtain ⟨h1, h2, h3, h4⟩ := h
  obtain ⟨k1, k2, k3, k4⟩ := k
  rw [dd_pos h1, dd_pos k1] at e
  exact (Lo.q (Int.mul_ne_zero (by omega) (by omega)) e.1 e.2).tr (Int.mul_ne_zero h3 k3) (by grind)
theorem Lo.sub (h : Lo n d a b) (k : Lo p q a' b') (e : qn (n * dd q + -p * dd d) (dd d * dd q) = x ∧ qd (n * dd q + -p * dd d) (dd d * dd q) = y) : Lo x y (a * b' - a' * b) (b * b') := by
  obtain ⟨h1, h2, h3, h4⟩ := h
  obtain ⟨k1, k2, k3, k4⟩ := k
  rw [dd_pos h1, dd_pos k1] at e
  exact (Lo.q (Int.mul_ne_zero (by omega) (by omega)) e.1 e.2).tr (Int.mul_ne_zero h3 k3) (by grind)
theorem Lo.neg (h : Lo n d a b) (e : -n = x ∧ d = y) : Lo x y (-a) b := by
  obtain ⟨rfl, rfl⟩ := e
  obtain ⟨h1, h2, h3, h4⟩ := h
  exact ⟨h1, by rw [Int.neg_gcd]; exact h2, h3, by grind⟩
end
section
variable {n d p q x y : Int} {m : Nat}
theorem bA2 (hn : ln n ≤ m) (hd : ln d ≤ m) (hp : ln p ≤ m) (hq : ln q ≤ m) (h1 : 1 ≤ m) (e : qn (n * dd q + p * dd d) (dd d * dd q) = x ∧ qd (n * dd q + p * dd d) (dd d * dd q) = y) : ln x ≤ 2 * m + 1 ∧ ln y ≤ 2 * m + 1 := by
  have e1 := bDd hd h1 rfl
  have e2 := bDd hq h1 rfl
  exact ⟨bQn (Nat.le_trans (bAdd (bMul hn e2 rfl) (bMul hp e1 rfl) rfl) (by omega)) e.1, bQd (Nat.le_trans (bMul e1 e2 rfl) (by omega)) e.2⟩
theorem bM2 (hn : ln n ≤ m) (hd : ln d ≤ m) (hp : ln p ≤ m) (hq : ln q ≤ m) (h1 : 1 ≤ m) (e : qn (n * p) (dd d * dd q) = x ∧ qd (n * p) (dd d * dd q) = y) : ln x ≤ 2 * m + 1 ∧ ln y ≤ 2 * m + 1 := by
  have e1 := bDd hd h1 rfl
  have e2 := bDd hq h1 rfl
  exact ⟨bQn (Nat.le_trans (bMul hn hp rfl) (by omega)) e.1, bQd (Nat.le_trans (bMul e1 e2 rfl) (by omega)) e.2⟩
theorem bD2 (hn : ln n ≤ m) (hd : ln d ≤ m) (hp : ln p ≤ m) (hq : ln q ≤ m) (h1 : 1 ≤ m) (e : qn (n * dd q) (dd d * p) = x ∧ qd (n * dd q) (dd d * p) = y) : ln x ≤ 2 * m + 1 ∧ ln y ≤ 2 * m + 1 := by
  have e1 := bDd hd h1 rfl
  have e2 := bDd hq h1 rfl
  exact ⟨bQn (Nat.le_trans (bMul hn e2 rfl) (by omega)) e.1, bQd (Nat.le_trans (bMul e1 hp rfl) (by omega)) e.2⟩
theorem bS2 (hn : ln n ≤ m) (hd : ln d ≤ m) (hp : ln p ≤ m) (hq : ln q ≤ m) (h1 : 1 ≤ m) (e : qn (n * dd q + -p * dd d) (dd d * dd q) = x ∧ qd (n * dd q + -p * dd d) (dd d * dd q) = y) : ln x ≤ 2 * m + 1 ∧ ln y ≤ 2 * m + 1 := bA2 hn hd (by rw [ln_neg]; exact hp) hq h1 e
end
end Go.Proofs.Ytdkapdgbfejgdaa
