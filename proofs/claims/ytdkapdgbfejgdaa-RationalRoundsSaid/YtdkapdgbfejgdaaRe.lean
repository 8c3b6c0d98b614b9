/- rational.Parse. -/
import Derived.Test.YtdkapdgbfejgdaaRd
import Derived.Lib.IndexLaws
namespace Go.Proofs.Ytdkapdgbfejgdaa
open Go.RowKit Go.Proofs.YtdkapdgbfejgdaaW.PrintWords Go.Proofs.YtdkapdgbfejgdaaW.PrintLast Go.Proofs.YtdkapdgbfejgdaaW.PrintMore
set_option linter.unusedSimpArgs false
set_option linter.unusedVariables false
set_option maxHeartbeats 8000000
set_option maxRecDepth 100000

/-- Where the first stroke stands. -/
def ci (s : ByteArray) : Int := Lib.indexByte s.data.toList 47
def cutL (s : ByteArray) : ByteArray := if 0 ≤ ci s then s.extract 0 (ci s).toNat else s
def cutR (s : ByteArray) : ByteArray := if 0 ≤ ci s then s.extract ((ci s).toNat + 1) s.size else ⟨#[]⟩
def cutF (s : ByteArray) : Bool := decide (0 ≤ ci s)
theorem ci_lt (s : ByteArray) (k : Nat) (h : ci s = (k : Int)) : (k : Int) + 1 ≤ (s.size : Int) := by
  have h1 := (Lib.indexByte_some h).1
  obtain ⟨h2, -⟩ := List.getElem?_eq_some_iff.mp h1
  have h3 : s.data.toList.length = s.size := Array.length_toList
  omega
/-- It returns the two sides of a cut. -/
def RetCut (w : World) (a b : ByteArray) (f : Bool) (e : Ending) (w' : World) : Prop := e = .returned (.tuple #[.string a, .string b, .bool f]) ∧ Below w.heap.size w w'

theorem CutY (s : ByteArray) (w : World) (k : Nat) (hk : Aside0 (ci s = (k : Int))) (h2 : (k : Int) + 1 ≤ (s.size : Int)) (h3 : (s.size : Int) ≤ 4096) : Calls Try.prog 104 #[.string s, .string ⟨#[47]⟩] w (RetCut w (s.extract 0 k) (s.extract (k + 1) s.size) true) := by
  have f1 : IntKind.i64.wrap ((k : Int) + 1) = (k : Int) + 1 := by rw [i64_w]; unfold wrap64; omega
  have f2 : (0 : Int) ≤ (k : Int) := by omega
  have f3 : (k : Int) ≤ (s.size : Int) := by omega
  have f4 : (0 : Int) ≤ (k : Int) + 1 := by omega
  go_enter Try.func104, Try.ntmps104
  go_wp2_with (first | (go_at_call 108; (with_reducible refine (Try.stringslite_Index_one s 47 _).mono ?_); rintro e w3 ⟨rfl, rfl⟩; rw [show Lib.indexByte s.data.toList 47 = (k : Int) from hk.out]))
  refine start_ (n := 12) (S := fun w' => True) (ds := []) #[false, false, false, false, false, false, false, false, false, false, false, false] (by kernel_rfl) rfl rfl trivial (fun hQ => ?_)
  refine pure_ (i := 0) (N := some 13) (v := ?_) (a' := ?_) (bm 12 1) rfl rfl (by kernel_rfl) (fun _ _ _ h => h) (Or.inl ⟨by rfl, ?_⟩) ?_ ?_
  rotate_left
  · intro w'
    go_simp
    with_reducible rfl
  rotate_left
  · simp only [Act.put, List.setIfInBounds_toArray, List.set_cons_zero, List.set_cons_succ, i64_w, i32_w]
    rfl
  refine pure_ (i := 1) (N := some 14) (v := ?_) (a' := ?_) (bm 12 3) rfl rfl (by kernel_rfl) (fun _ _ _ h => h) (Or.inl ⟨by rfl, ?_⟩) ?_ ?_
  rotate_left
  · intro w'
    go_simp
    with_reducible rfl
  rotate_left
  · simp only [Act.put, List.setIfInBounds_toArray, List.set_cons_zero, List.set_cons_succ, i64_w, i32_w]
    rfl
  refine pure_ (i := 2) (N := some 15) (v := ?_) (a' := ?_) (bm 12 7) rfl rfl (by kernel_rfl) (fun _ _ _ h => h) (Or.inl ⟨by rfl, ?_⟩) ?_ ?_
  rotate_left
  · intro w'
    go_simp
    with_reducible rfl
  rotate_left
  · simp only [Act.put, List.setIfInBounds_toArray, List.set_cons_zero, List.set_cons_succ, i64_w, i32_w]
    rfl
  refine pure_ (i := 3) (N := some 16) (v := ?_) (a' := ?_) (bm 12 15) rfl rfl (by kernel_rfl) (fun _ _ _ h => h) (Or.inl ⟨by rfl, ?_⟩) ?_ ?_
  rotate_left
  · intro w'
    go_simp
    with_reducible rfl
  rotate_left
  · simp only [Act.put, List.setIfInBounds_toArray, List.set_cons_zero, List.set_cons_succ, i64_w, i32_w]
    rfl
  refine pure_ (i := 4) (N := some 17) (v := ?_) (a' := ?_) (bm 12 31) rfl rfl (by kernel_rfl) (fun _ _ _ h => h) (Or.inl ⟨by rfl, ?_⟩) ?_ ?_
  rotate_left
  · intro w'
    go_simp
    with_reducible rfl
  rotate_left
  · simp only [Act.put, List.setIfInBounds_toArray, List.set_cons_zero, List.set_cons_succ, i64_w, i32_w]
    rfl
  refine pure_ (i := 5) (N := some 18) (v := ?_) (a' := ?_) (bm 12 63) rfl rfl (by kernel_rfl) (fun _ _ _ h => h) (Or.inl ⟨by rfl, ?_⟩) ?_ ?_
  rotate_left
  · intro w'
    go_simp
    with_reducible rfl
  rotate_left
  · simp only [Act.put, List.setIfInBounds_toArray, List.set_cons_zero, List.set_cons_succ, i64_w, i32_w]
    rfl
  refine pure_ (i := 6) (N := some 19) (v := ?_) (a' := ?_) (bm 12 127) rfl rfl (by kernel_rfl) (fun _ _ _ h => h) (Or.inl ⟨by rfl, ?_⟩) ?_ ?_
  rotate_left
  · intro w'
    go_simp
    with_reducible rfl
  rotate_left
  · simp only [Act.put, List.setIfInBounds_toArray, List.set_cons_zero, List.set_cons_succ, i64_w, i32_w]
    rfl
  refine pure_ (i := 7) (N := some 20) (v := ?_) (a' := ?_) (bm 12 255) rfl rfl (by kernel_rfl) (fun _ _ _ h => h) (Or.inl ⟨by rfl, ?_⟩) ?_ ?_
  rotate_left
  · intro w'
    go_simp
    with_reducible rfl
  rotate_left
  · simp only [Act.put, List.setIfInBounds_toArray, List.set_cons_zero, List.set_cons_succ, i64_w, i32_w]
    rfl
  refine pure_ (i := 8) (N := some 21) (v := ?_) (a' := ?_) (bm 12 511) rfl rfl (by kernel_rfl) (fun _ _ _ h => h) (Or.inl ⟨by rfl, ?_⟩) ?_ ?_
  rotate_left
  · intro w'
    go_simp
    with_reducible rfl
  rotate_left
  · simp only [Act.put, List.setIfInBounds_toArray, List.set_cons_zero, List.set_cons_succ, i64_w, i32_w]
    rfl
  refine pure_ (i := 9) (N := some 4) (v := ?_) (a' := ?_) (bm 12 1023) rfl rfl (by kernel_rfl) (fun _ _ _ h => h) (Or.inl ⟨by rfl, ?_⟩) ?_ ?_
  rotate_left
  · intro w'
    go_simp
    with_reducible rfl
  rotate_left
  · simp only [Act.put, List.setIfInBounds_toArray, List.set_cons_zero, List.set_cons_succ, i64_w, i32_w]
    rfl
  refine pure_ (i := 10) (N := some 5) (v := ?_) (a' := ?_) (bm 12 2047) rfl rfl (by kernel_rfl) (fun _ _ _ h => h) (Or.inl ⟨by rfl, ?_⟩) ?_ ?_
  rotate_left
  · intro w'
    go_simp
    with_reducible rfl
  rotate_left
  · simp only [Act.put, List.setIfInBounds_toArray, List.set_cons_zero, List.set_cons_succ, i64_w, i32_w]
    rfl
  refine pure_ (i := 11) (N := some 6) (v := ?_) (a' := ?_) (bm 12 4095) rfl rfl (by kernel_rfl) (fun _ _ _ h => h) (Or.inl ⟨by rfl, ?_⟩) ?_ ?_
  rotate_left
  · intro w'
    go_simp
    with_reducible rfl
  rotate_left
  · simp only [Act.put, List.setIfInBounds_toArray, List.set_cons_zero, List.set_cons_succ, i64_w, i32_w]
    rfl
  refine done_ (by kernel_rfl) ?_
  go_wp2
  refine bodyPost_ret (results_list (rs := [.tmp 4, .tmp 5, .tmp 6]) rfl (by simp) (.tmp (.tmp (.tmp .nil)))) rfl ?_
  exact ⟨rfl, below_drew (Below.refl _ _)⟩
theorem CutN (s : ByteArray) (w : World) (hk : Aside0 (ci s = -1)) : Calls Try.prog 104 #[.string s, .string ⟨#[47]⟩] w (RetCut w s ⟨#[]⟩ false) := by
  go_enter Try.func104, Try.ntmps104
  go_wp2_with (first | (go_at_call 108; (with_reducible refine (Try.stringslite_Index_one s 47 _).mono ?_); rintro e w3 ⟨rfl, rfl⟩; rw [show Lib.indexByte s.data.toList 47 = -1 from hk.out]))
  refine bodyPost_ret (results_list (rs := [.tmp 4, .tmp 5, .tmp 6]) rfl (by simp) (.tmp (.tmp (.tmp .nil)))) rfl ?_
  exact ⟨rfl, Below.refl _ _⟩
theorem Cut1 (s : ByteArray) (w : World) (hs : (s.size : Int) ≤ 4096) : Calls Try.prog 104 #[.string s, .string ⟨#[47]⟩] w (RetCut w (cutL s) (cutR s) (cutF s)) := by
  have hg := Lib.indexByte_ge s.data.toList 47
  by_cases h0 : 0 ≤ ci s
  · obtain ⟨k, hk⟩ := Int.eq_ofNat_of_zero_le h0
    unfold cutL cutR cutF
    rw [if_pos h0, if_pos h0, decide_eq_true h0, hk, Int.toNat_natCast]
    exact CutY s w k ⟨hk⟩ (ci_lt s k hk) hs
  · unfold cutL cutR cutF
    rw [if_neg h0, if_neg h0, decide_eq_false h0]
    exact CutN s w ⟨by unfold ci at h0 ⊢; omega⟩
theorem CutQ (s : ByteArray) (w : World) (hs : (s.size : Int) ≤ 4096) (a b : ByteArray) (f : Bool) (h : cutL s = a ∧ cutR s = b ∧ cutF s = f) : Calls Try.prog 87 #[.string s, .string ⟨#[47]⟩] w (RetCut w a b f) := by
  obtain ⟨rfl, rfl, rfl⟩ := h
  have hs := Aside0.mk hs
  go_enter Try.func87, Try.ntmps87
  go_wp2_with (first | (go_at_call 104; (with_reducible refine (Cut1 s _ hs.out).mono ?_); rintro e w3 ⟨rfl, hb⟩))
  refine bodyPost_ret (results_list (rs := [.tmp 4, .tmp 5, .tmp 6]) rfl (by simp) (.tmp (.tmp (.tmp .nil)))) rfl ?_
  exact ⟨rfl, hb⟩
theorem pow_lim (k s : Nat) (h : s ≤ 8 * k) : 10 ^ s ≤ 4294967296 ^ k := Nat.le_trans (Nat.le_trans (Nat.pow_le_pow_right (by omega) h) (Nat.pow_le_pow_left (show 10 ≤ 16 by omega) _)) (Nat.le_of_eq (Nat.pow_mul 16 8 k))
/-- The numbers of texts are small. -/
theorem pr_lim {a : ByteArray} {x e : Int} (h : pr a = (x, e)) : ln x ≤ 512 := by
  unfold pr at h
  split at h
  · injection h with h1 h2
    rw [← h1]
    exact Nat.zero_le _
  · split at h
    · injection h with h1 h2
      rw [← h1]
      exact Nat.zero_le _
    · next h4 hn =>
      have hd : Dg (cutS a) 0 (cutS a).size := Classical.not_not.mp (fun h' => hn (.inr (.inr h')))
      have hb := pc_bound hd
      have hs := cutS_size a
      injection h with h1 h2
      refine ln_bound _ _ ?_
      have e : x.natAbs = (pc (cutS a) 0 (cutS a).size).natAbs := by rw [← h1]; split <;> simp
      have e3 : (10 : Nat) ^ (cutS a).size ≤ 4294967296 ^ 512 := pow_lim 512 (cutS a).size (by omega)
      rw [e]
      refine Nat.lt_of_lt_of_le (Int.ofNat_lt.mp (?_ : (((pc (cutS a) 0 (cutS a).size).natAbs : Nat) : Int) < ((10 ^ (cutS a).size : Nat) : Int))) e3
      rw [Int.natAbs_of_nonneg hb.1, Int.natCast_pow]
      exact hb.2
theorem bQn {n d r : Int} {a : Nat} (hn : ln n ≤ a) (h : qn n d = r) : ln r ≤ a := by
  subst h
  unfold qn
  split
  · exact Nat.zero_le _
  · exact bTdiv (m := if d < 0 then -n else n) (by split; rw [ln_neg]; exact hn; exact hn) rfl
theorem bQd {n d r : Int} {a : Nat} (hd : ln d ≤ a) (h : qd n d = r) : ln r ≤ a := by
  subst h
  unfold qd
  split
  · exact Nat.zero_le _
  · exact bTdiv (m := if d < 0 then -d else d) (by split; rw [ln_neg]; exact hd; exact hd) rfl


theorem RParse_full (s : ByteArray) (w : World) (h : 4096 < (s.size : Int)) : Calls Try.prog 49 #[.string s] w (RetQP w 0 0 5) := by
  have hu25 := Try.underlying25
  have hu51 := Try.underlying51
  have H := Sit.start w (fun _ => False)
  have p1 : decide (4096 < (s.size : Int)) = true := decide_eq_true h
  have p2 : decide (4096 < s.size) = true := decide_eq_true (by omega)
  have p3 : 4096 < s.size := by omega
  go_enter Try.func49, Try.ntmps49
  have st2 := trivial
  go_wp2_with (first
    | (clear st2; (with_reducible refine gate_dst (N := 2) rfl ?_); refine box_event ?hg (N := 2) ?hd (cs := #[.bool false, .slice none 0 0, .bool false, .slice none 0 0]) (t := 51) ?hr ?_; (case hd => rfl); (case hg => rfl); (case hr => go_simp; try rfl); intro g2 hg w1 hbox hb; replace H := H.newbox hg hbox hb; clear hg hbox hb; obtain ⟨k2_0, z2_0, k2_1, z2_1, k2_2, z2_2, k2_3, z2_3⟩ := H.b4 (g := g2) m0))
  replace H := H.nilrow
  replace H := (((H.setn [] 0 (.bool false) rfl).setn [] 1 (.slice none 0 0) rfl).setn [] 2 (.bool false) rfl).setn [] 3 (.slice none 0 0) rfl
  refine bodyPost_ret (results_list (rs := [.cell 2 51, .tmp 3]) rfl (by simp) (.cell g2 51 #[.bool false, .slice none 0 0, .bool false, .slice none 0 0] (0, 0) _ rfl (H.blk m0) Try.underlying51 rfl (by kernel_rfl) (.tmp .nil))) rfl ?_
  exact ⟨none, 0, none, 0, rfl, bw_nil _ _, bw_nil _ _, H.below⟩

theorem RParse_y1 (s a b : ByteArray) (w : World) (h : (s.size : Int) ≤ 4096) (hcut : Aside0 (cutL s = a ∧ cutR s = b ∧ cutF s = true)) (n d e f : Int) (ha : Aside0 (pr a = (n, e))) (hb' : Aside0 (pr b = (d, f))) (t1 : (e != 0) = true) : Calls Try.prog 49 #[.string s] w (RetQP w 0 0 3) := by
  have hu25 := Try.underlying25
  have hu51 := Try.underlying51
  have H := Sit.start w (fun _ => False)
  have p1 : decide (4096 < (s.size : Int)) = false := decide_eq_false (by omega)
  have p2 : decide (4096 < s.size) = false := decide_eq_false (by omega)
  have p3 : ¬ 4096 < s.size := by omega
  replace h := Aside0.mk h
  go_enter Try.func49, Try.ntmps49
  have st2 := trivial
  have st4 := trivial
  have st8 := trivial
  have st10 := trivial
  go_upto_region 7 with (first
    | (clear st2; (with_reducible refine gate_dst (N := 2) rfl ?_); refine box_event ?hg (N := 2) ?hd (cs := #[.bool false, .slice none 0 0, .bool false, .slice none 0 0]) (t := 51) ?hr ?_; (case hd => rfl); (case hg => rfl); (case hr => go_simp; try rfl); intro g2 hg w1 hbox hb; replace H := H.newbox hg hbox hb; clear hg hbox hb; obtain ⟨k2_0, z2_0, k2_1, z2_1, k2_2, z2_2, k2_3, z2_3⟩ := H.b4 (g := g2) m0)
    | (clear st4; go_at_call 87; (with_reducible refine (CutQ s _ h.out a b true hcut.out).mono ?_); rintro e w3 ⟨rfl, hb⟩; replace H := H.call hb; clear hb; clear k2_0 z2_0 k2_1 z2_1 k2_2 z2_2 k2_3 z2_3; obtain ⟨k2_0, z2_0, k2_1, z2_1, k2_2, z2_2, k2_3, z2_3⟩ := H.b4 (g := g2) m0)
    | (clear st8; go_at_call 23; (with_reducible refine (ParseQ a _ n e ha.out).mono ?_); rintro e w5 ⟨A6, c7, rfl, hr, hb⟩; replace H := H.got (fresh_row hr) hb; clear hr hb; clear k2_0 z2_0 k2_1 z2_1 k2_2 z2_2 k2_3 z2_3; obtain ⟨k2_0, z2_0, k2_1, z2_1, k2_2, z2_2, k2_3, z2_3⟩ := H.b4 (g := g2) m0)
    | (clear st10; (with_reducible refine gate_dst (N := 7) rfl ?_); refine box_event ?hg (N := 7) ?hd (cs := #[.bool false, .slice none 0 0]) (t := 25) ?hr ?_; (case hd => rfl); (case hg => rfl); (case hr => go_simp; try rfl); intro g7 hg w9 hbox hb; replace H := H.newbox hg hbox hb; clear hg hbox hb; clear k2_0 z2_0 k2_1 z2_1 k2_2 z2_2 k2_3 z2_3; obtain ⟨k7_0, z7_0, k7_1, z7_1⟩ := H.b2 (g := g7) m0; obtain ⟨k2_0, z2_0, k2_1, z2_1, k2_2, z2_2, k2_3, z2_3⟩ := H.b4 (g := g2) m1; have ne_g7_g2 := H.ne (g := g7) (g' := g2) 0 1 rfl rfl (by decide); have ne_g2_g7 := ne_g7_g2.symm))
  (try simp only [Act.put, List.setIfInBounds_toArray, List.set_cons_zero, List.set_cons_succ])
  replace H := ((H.setn [] 0 (.bool (ng n)) rfl).setn [] 1 (.slice A6 (ln n) c7) rfl)
  clear k7_0 z7_0 k7_1 z7_1 k2_0 z2_0 k2_1 z2_1 k2_2 z2_2 k2_3 z2_3
  generalize ((w9.setCell ⟨g7, 0, none⟩ (.bool (ng n))).setCell ⟨g7, 1, none⟩ (.slice A6 (ln n) c7)) = w11 at H ⊢
  obtain ⟨k7_0, z7_0, k7_1, z7_1⟩ := H.b2 (g := g7) m0
  obtain ⟨k2_0, z2_0, k2_1, z2_1, k2_2, z2_2, k2_3, z2_3⟩ := H.b4 (g := g2) m1
  have st15 := trivial
  have st17 := trivial
  go_upto_region 8 with (first
    | (clear st15; go_at_call 23; (with_reducible refine (ParseQ b _ d f hb'.out).mono ?_); rintro e w12 ⟨A13, c14, rfl, hr, hb⟩; replace H := H.got (fresh_row hr) hb; clear hr hb; clear k7_0 z7_0 k7_1 z7_1 k2_0 z2_0 k2_1 z2_1 k2_2 z2_2 k2_3 z2_3; obtain ⟨k7_0, z7_0, k7_1, z7_1⟩ := H.b2 (g := g7) m0; obtain ⟨k2_0, z2_0, k2_1, z2_1, k2_2, z2_2, k2_3, z2_3⟩ := H.b4 (g := g2) m1)
    | (clear st17; (with_reducible refine gate_dst (N := 9) rfl ?_); refine box_event ?hg (N := 9) ?hd (cs := #[.bool false, .slice none 0 0]) (t := 25) ?hr ?_; (case hd => rfl); (case hg => rfl); (case hr => go_simp; try rfl); intro g9 hg w16 hbox hb; replace H := H.newbox hg hbox hb; clear hg hbox hb; clear k7_0 z7_0 k7_1 z7_1 k2_0 z2_0 k2_1 z2_1 k2_2 z2_2 k2_3 z2_3; obtain ⟨k9_0, z9_0, k9_1, z9_1⟩ := H.b2 (g := g9) m0; obtain ⟨k7_0, z7_0, k7_1, z7_1⟩ := H.b2 (g := g7) m1; obtain ⟨k2_0, z2_0, k2_1, z2_1, k2_2, z2_2, k2_3, z2_3⟩ := H.b4 (g := g2) m2; have ne_g9_g7 := H.ne (g := g9) (g' := g7) 0 1 rfl rfl (by decide); have ne_g7_g9 := ne_g9_g7.symm; have ne_g9_g2 := H.ne (g := g9) (g' := g2) 0 2 rfl rfl (by decide); have ne_g2_g9 := ne_g9_g2.symm))
  (try simp only [Act.put, List.setIfInBounds_toArray, List.set_cons_zero, List.set_cons_succ])
  replace H := ((H.setn [] 0 (.bool (ng d)) rfl).setn [] 1 (.slice A13 (ln d) c14) rfl)
  clear k9_0 z9_0 k9_1 z9_1 k7_0 z7_0 k7_1 z7_1 k2_0 z2_0 k2_1 z2_1 k2_2 z2_2 k2_3 z2_3
  generalize ((w16.setCell ⟨g9, 0, none⟩ (.bool (ng d))).setCell ⟨g9, 1, none⟩ (.slice A13 (ln d) c14)) = w18 at H ⊢
  obtain ⟨k9_0, z9_0, k9_1, z9_1⟩ := H.b2 (g := g9) m0
  obtain ⟨k7_0, z7_0, k7_1, z7_1⟩ := H.b2 (g := g7) m1
  obtain ⟨k2_0, z2_0, k2_1, z2_1, k2_2, z2_2, k2_3, z2_3⟩ := H.b4 (g := g2) m2
  go_wp2
  replace H := H.nilrow
  replace H := (((H.setn [_, _] 0 (.bool false) rfl).setn [_, _] 1 (.slice none 0 0) rfl).setn [_, _] 2 (.bool false) rfl).setn [_, _] 3 (.slice none 0 0) rfl
  refine bodyPost_ret (results_list (rs := [.cell 2 51, .tmp 3]) rfl (by simp) (.cell g2 51 #[.bool false, .slice none 0 0, .bool false, .slice none 0 0] (0, 0) _ rfl (H.blk m2) Try.underlying51 rfl (by kernel_rfl) (.tmp .nil))) rfl ?_
  exact ⟨none, 0, none, 0, rfl, bw_nil _ _, bw_nil _ _, H.below⟩

theorem RParse_y2 (s a b : ByteArray) (w : World) (h : (s.size : Int) ≤ 4096) (hcut : Aside0 (cutL s = a ∧ cutR s = b ∧ cutF s = true)) (n d e f : Int) (ha : Aside0 (pr a = (n, e))) (hb' : Aside0 (pr b = (d, f))) (t1 : (e != 0) = false) (t2 : (f != 0) = true) : Calls Try.prog 49 #[.string s] w (RetQP w 0 0 3) := by
  have hu25 := Try.underlying25
  have hu51 := Try.underlying51
  have H := Sit.start w (fun _ => False)
  have p1 : decide (4096 < (s.size : Int)) = false := decide_eq_false (by omega)
  have p2 : decide (4096 < s.size) = false := decide_eq_false (by omega)
  have p3 : ¬ 4096 < s.size := by omega
  replace h := Aside0.mk h
  go_enter Try.func49, Try.ntmps49
  have st2 := trivial
  have st4 := trivial
  have st8 := trivial
  have st10 := trivial
  go_upto_region 7 with (first
    | (clear st2; (with_reducible refine gate_dst (N := 2) rfl ?_); refine box_event ?hg (N := 2) ?hd (cs := #[.bool false, .slice none 0 0, .bool false, .slice none 0 0]) (t := 51) ?hr ?_; (case hd => rfl); (case hg => rfl); (case hr => go_simp; try rfl); intro g2 hg w1 hbox hb; replace H := H.newbox hg hbox hb; clear hg hbox hb; obtain ⟨k2_0, z2_0, k2_1, z2_1, k2_2, z2_2, k2_3, z2_3⟩ := H.b4 (g := g2) m0)
    | (clear st4; go_at_call 87; (with_reducible refine (CutQ s _ h.out a b true hcut.out).mono ?_); rintro e w3 ⟨rfl, hb⟩; replace H := H.call hb; clear hb; clear k2_0 z2_0 k2_1 z2_1 k2_2 z2_2 k2_3 z2_3; obtain ⟨k2_0, z2_0, k2_1, z2_1, k2_2, z2_2, k2_3, z2_3⟩ := H.b4 (g := g2) m0)
    | (clear st8; go_at_call 23; (with_reducible refine (ParseQ a _ n e ha.out).mono ?_); rintro e w5 ⟨A6, c7, rfl, hr, hb⟩; replace H := H.got (fresh_row hr) hb; clear hr hb; clear k2_0 z2_0 k2_1 z2_1 k2_2 z2_2 k2_3 z2_3; obtain ⟨k2_0, z2_0, k2_1, z2_1, k2_2, z2_2, k2_3, z2_3⟩ := H.b4 (g := g2) m0)
    | (clear st10; (with_reducible refine gate_dst (N := 7) rfl ?_); refine box_event ?hg (N := 7) ?hd (cs := #[.bool false, .slice none 0 0]) (t := 25) ?hr ?_; (case hd => rfl); (case hg => rfl); (case hr => go_simp; try rfl); intro g7 hg w9 hbox hb; replace H := H.newbox hg hbox hb; clear hg hbox hb; clear k2_0 z2_0 k2_1 z2_1 k2_2 z2_2 k2_3 z2_3; obtain ⟨k7_0, z7_0, k7_1, z7_1⟩ := H.b2 (g := g7) m0; obtain ⟨k2_0, z2_0, k2_1, z2_1, k2_2, z2_2, k2_3, z2_3⟩ := H.b4 (g := g2) m1; have ne_g7_g2 := H.ne (g := g7) (g' := g2) 0 1 rfl rfl (by decide); have ne_g2_g7 := ne_g7_g2.symm))
  (try simp only [Act.put, List.setIfInBounds_toArray, List.set_cons_zero, List.set_cons_succ])
  replace H := ((H.setn [] 0 (.bool (ng n)) rfl).setn [] 1 (.slice A6 (ln n) c7) rfl)
  clear k7_0 z7_0 k7_1 z7_1 k2_0 z2_0 k2_1 z2_1 k2_2 z2_2 k2_3 z2_3
  generalize ((w9.setCell ⟨g7, 0, none⟩ (.bool (ng n))).setCell ⟨g7, 1, none⟩ (.slice A6 (ln n) c7)) = w11 at H ⊢
  obtain ⟨k7_0, z7_0, k7_1, z7_1⟩ := H.b2 (g := g7) m0
  obtain ⟨k2_0, z2_0, k2_1, z2_1, k2_2, z2_2, k2_3, z2_3⟩ := H.b4 (g := g2) m1
  have st15 := trivial
  have st17 := trivial
  go_upto_region 8 with (first
    | (clear st15; go_at_call 23; (with_reducible refine (ParseQ b _ d f hb'.out).mono ?_); rintro e w12 ⟨A13, c14, rfl, hr, hb⟩; replace H := H.got (fresh_row hr) hb; clear hr hb; clear k7_0 z7_0 k7_1 z7_1 k2_0 z2_0 k2_1 z2_1 k2_2 z2_2 k2_3 z2_3; obtain ⟨k7_0, z7_0, k7_1, z7_1⟩ := H.b2 (g := g7) m0; obtain ⟨k2_0, z2_0, k2_1, z2_1, k2_2, z2_2, k2_3, z2_3⟩ := H.b4 (g := g2) m1)
    | (clear st17; (with_reducible refine gate_dst (N := 9) rfl ?_); refine box_event ?hg (N := 9) ?hd (cs := #[.bool false, .slice none 0 0]) (t := 25) ?hr ?_; (case hd => rfl); (case hg => rfl); (case hr => go_simp; try rfl); intro g9 hg w16 hbox hb; replace H := H.newbox hg hbox hb; clear hg hbox hb; clear k7_0 z7_0 k7_1 z7_1 k2_0 z2_0 k2_1 z2_1 k2_2 z2_2 k2_3 z2_3; obtain ⟨k9_0, z9_0, k9_1, z9_1⟩ := H.b2 (g := g9) m0; obtain ⟨k7_0, z7_0, k7_1, z7_1⟩ := H.b2 (g := g7) m1; obtain ⟨k2_0, z2_0, k2_1, z2_1, k2_2, z2_2, k2_3, z2_3⟩ := H.b4 (g := g2) m2; have ne_g9_g7 := H.ne (g := g9) (g' := g7) 0 1 rfl rfl (by decide); have ne_g7_g9 := ne_g9_g7.symm; have ne_g9_g2 := H.ne (g := g9) (g' := g2) 0 2 rfl rfl (by decide); have ne_g2_g9 := ne_g9_g2.symm))
  (try simp only [Act.put, List.setIfInBounds_toArray, List.set_cons_zero, List.set_cons_succ])
  replace H := ((H.setn [] 0 (.bool (ng d)) rfl).setn [] 1 (.slice A13 (ln d) c14) rfl)
  clear k9_0 z9_0 k9_1 z9_1 k7_0 z7_0 k7_1 z7_1 k2_0 z2_0 k2_1 z2_1 k2_2 z2_2 k2_3 z2_3
  generalize ((w16.setCell ⟨g9, 0, none⟩ (.bool (ng d))).setCell ⟨g9, 1, none⟩ (.slice A13 (ln d) c14)) = w18 at H ⊢
  obtain ⟨k9_0, z9_0, k9_1, z9_1⟩ := H.b2 (g := g9) m0
  obtain ⟨k7_0, z7_0, k7_1, z7_1⟩ := H.b2 (g := g7) m1
  obtain ⟨k2_0, z2_0, k2_1, z2_1, k2_2, z2_2, k2_3, z2_3⟩ := H.b4 (g := g2) m2
  go_wp2
  replace H := H.nilrow
  replace H := (((H.setn [_, _] 0 (.bool false) rfl).setn [_, _] 1 (.slice none 0 0) rfl).setn [_, _] 2 (.bool false) rfl).setn [_, _] 3 (.slice none 0 0) rfl
  refine bodyPost_ret (results_list (rs := [.cell 2 51, .tmp 3]) rfl (by simp) (.cell g2 51 #[.bool false, .slice none 0 0, .bool false, .slice none 0 0] (0, 0) _ rfl (H.blk m2) Try.underlying51 rfl (by kernel_rfl) (.tmp .nil))) rfl ?_
  exact ⟨none, 0, none, 0, rfl, bw_nil _ _, bw_nil _ _, H.below⟩

theorem RParse_y3 (s a b : ByteArray) (w : World) (h : (s.size : Int) ≤ 4096) (hcut : Aside0 (cutL s = a ∧ cutR s = b ∧ cutF s = true)) (n d e f : Int) (ha : Aside0 (pr a = (n, e))) (hb' : Aside0 (pr b = (d, f))) (t1 : (e != 0) = false) (t2 : (f != 0) = false) (bd : Aside0 (ln d ≤ 512)) (k : Int) (hs : Aside0 (sg d = k)) (t3 : decide (k ≤ 0) = true) : Calls Try.prog 49 #[.string s] w (RetQP w 0 0 3) := by
  have hu25 := Try.underlying25
  have hu51 := Try.underlying51
  have H := Sit.start w (fun _ => False)
  have p1 : decide (4096 < (s.size : Int)) = false := decide_eq_false (by omega)
  have p2 : decide (4096 < s.size) = false := decide_eq_false (by omega)
  have p3 : ¬ 4096 < s.size := by omega
  replace h := Aside0.mk h
  go_enter Try.func49, Try.ntmps49
  have st2 := trivial
  have st4 := trivial
  have st8 := trivial
  have st10 := trivial
  go_upto_region 7 with (first
    | (clear st2; (with_reducible refine gate_dst (N := 2) rfl ?_); refine box_event ?hg (N := 2) ?hd (cs := #[.bool false, .slice none 0 0, .bool false, .slice none 0 0]) (t := 51) ?hr ?_; (case hd => rfl); (case hg => rfl); (case hr => go_simp; try rfl); intro g2 hg w1 hbox hb; replace H := H.newbox hg hbox hb; clear hg hbox hb; obtain ⟨k2_0, z2_0, k2_1, z2_1, k2_2, z2_2, k2_3, z2_3⟩ := H.b4 (g := g2) m0)
    | (clear st4; go_at_call 87; (with_reducible refine (CutQ s _ h.out a b true hcut.out).mono ?_); rintro e w3 ⟨rfl, hb⟩; replace H := H.call hb; clear hb; clear k2_0 z2_0 k2_1 z2_1 k2_2 z2_2 k2_3 z2_3; obtain ⟨k2_0, z2_0, k2_1, z2_1, k2_2, z2_2, k2_3, z2_3⟩ := H.b4 (g := g2) m0)
    | (clear st8; go_at_call 23; (with_reducible refine (ParseQ a _ n e ha.out).mono ?_); rintro e w5 ⟨A6, c7, rfl, hr, hb⟩; replace H := H.got (fresh_row hr) hb; clear hr hb; clear k2_0 z2_0 k2_1 z2_1 k2_2 z2_2 k2_3 z2_3; obtain ⟨k2_0, z2_0, k2_1, z2_1, k2_2, z2_2, k2_3, z2_3⟩ := H.b4 (g := g2) m0)
    | (clear st10; (with_reducible refine gate_dst (N := 7) rfl ?_); refine box_event ?hg (N := 7) ?hd (cs := #[.bool false, .slice none 0 0]) (t := 25) ?hr ?_; (case hd => rfl); (case hg => rfl); (case hr => go_simp; try rfl); intro g7 hg w9 hbox hb; replace H := H.newbox hg hbox hb; clear hg hbox hb; clear k2_0 z2_0 k2_1 z2_1 k2_2 z2_2 k2_3 z2_3; obtain ⟨k7_0, z7_0, k7_1, z7_1⟩ := H.b2 (g := g7) m0; obtain ⟨k2_0, z2_0, k2_1, z2_1, k2_2, z2_2, k2_3, z2_3⟩ := H.b4 (g := g2) m1; have ne_g7_g2 := H.ne (g := g7) (g' := g2) 0 1 rfl rfl (by decide); have ne_g2_g7 := ne_g7_g2.symm))
  (try simp only [Act.put, List.setIfInBounds_toArray, List.set_cons_zero, List.set_cons_succ])
  replace H := ((H.setn [] 0 (.bool (ng n)) rfl).setn [] 1 (.slice A6 (ln n) c7) rfl)
  clear k7_0 z7_0 k7_1 z7_1 k2_0 z2_0 k2_1 z2_1 k2_2 z2_2 k2_3 z2_3
  generalize ((w9.setCell ⟨g7, 0, none⟩ (.bool (ng n))).setCell ⟨g7, 1, none⟩ (.slice A6 (ln n) c7)) = w11 at H ⊢
  obtain ⟨k7_0, z7_0, k7_1, z7_1⟩ := H.b2 (g := g7) m0
  obtain ⟨k2_0, z2_0, k2_1, z2_1, k2_2, z2_2, k2_3, z2_3⟩ := H.b4 (g := g2) m1
  have st15 := trivial
  have st17 := trivial
  go_upto_region 8 with (first
    | (clear st15; go_at_call 23; (with_reducible refine (ParseQ b _ d f hb'.out).mono ?_); rintro e w12 ⟨A13, c14, rfl, hr, hb⟩; replace H := H.got (fresh_row hr) hb; clear hr hb; clear k7_0 z7_0 k7_1 z7_1 k2_0 z2_0 k2_1 z2_1 k2_2 z2_2 k2_3 z2_3; obtain ⟨k7_0, z7_0, k7_1, z7_1⟩ := H.b2 (g := g7) m0; obtain ⟨k2_0, z2_0, k2_1, z2_1, k2_2, z2_2, k2_3, z2_3⟩ := H.b4 (g := g2) m1)
    | (clear st17; (with_reducible refine gate_dst (N := 9) rfl ?_); refine box_event ?hg (N := 9) ?hd (cs := #[.bool false, .slice none 0 0]) (t := 25) ?hr ?_; (case hd => rfl); (case hg => rfl); (case hr => go_simp; try rfl); intro g9 hg w16 hbox hb; replace H := H.newbox hg hbox hb; clear hg hbox hb; clear k7_0 z7_0 k7_1 z7_1 k2_0 z2_0 k2_1 z2_1 k2_2 z2_2 k2_3 z2_3; obtain ⟨k9_0, z9_0, k9_1, z9_1⟩ := H.b2 (g := g9) m0; obtain ⟨k7_0, z7_0, k7_1, z7_1⟩ := H.b2 (g := g7) m1; obtain ⟨k2_0, z2_0, k2_1, z2_1, k2_2, z2_2, k2_3, z2_3⟩ := H.b4 (g := g2) m2; have ne_g9_g7 := H.ne (g := g9) (g' := g7) 0 1 rfl rfl (by decide); have ne_g7_g9 := ne_g9_g7.symm; have ne_g9_g2 := H.ne (g := g9) (g' := g2) 0 2 rfl rfl (by decide); have ne_g2_g9 := ne_g9_g2.symm))
  (try simp only [Act.put, List.setIfInBounds_toArray, List.set_cons_zero, List.set_cons_succ])
  replace H := ((H.setn [] 0 (.bool (ng d)) rfl).setn [] 1 (.slice A13 (ln d) c14) rfl)
  clear k9_0 z9_0 k9_1 z9_1 k7_0 z7_0 k7_1 z7_1 k2_0 z2_0 k2_1 z2_1 k2_2 z2_2 k2_3 z2_3
  generalize ((w16.setCell ⟨g9, 0, none⟩ (.bool (ng d))).setCell ⟨g9, 1, none⟩ (.slice A13 (ln d) c14)) = w18 at H ⊢
  obtain ⟨k9_0, z9_0, k9_1, z9_1⟩ := H.b2 (g := g9) m0
  obtain ⟨k7_0, z7_0, k7_1, z7_1⟩ := H.b2 (g := g7) m1
  obtain ⟨k2_0, z2_0, k2_1, z2_1, k2_2, z2_2, k2_3, z2_3⟩ := H.b4 (g := g2) m2
  have st20 := trivial
  go_wp2_with (first
    | (clear st20; go_at_call 25; (with_reducible refine (SignQ _ _ _ (lim bd.out (by decide)) k hs.out).mono ?_); rintro e w19 ⟨rfl, hb⟩; replace H := H.call hb; clear hb; clear k9_0 z9_0 k9_1 z9_1 k7_0 z7_0 k7_1 z7_1 k2_0 z2_0 k2_1 z2_1 k2_2 z2_2 k2_3 z2_3; obtain ⟨k9_0, z9_0, k9_1, z9_1⟩ := H.b2 (g := g9) m0; obtain ⟨k7_0, z7_0, k7_1, z7_1⟩ := H.b2 (g := g7) m1; obtain ⟨k2_0, z2_0, k2_1, z2_1, k2_2, z2_2, k2_3, z2_3⟩ := H.b4 (g := g2) m2))
  replace H := H.nilrow
  replace H := (((H.setn [_, _] 0 (.bool false) rfl).setn [_, _] 1 (.slice none 0 0) rfl).setn [_, _] 2 (.bool false) rfl).setn [_, _] 3 (.slice none 0 0) rfl
  refine bodyPost_ret (results_list (rs := [.cell 2 51, .tmp 3]) rfl (by simp) (.cell g2 51 #[.bool false, .slice none 0 0, .bool false, .slice none 0 0] (0, 0) _ rfl (H.blk m2) Try.underlying51 rfl (by kernel_rfl) (.tmp .nil))) rfl ?_
  exact ⟨none, 0, none, 0, rfl, bw_nil _ _, bw_nil _ _, H.below⟩

theorem RParse_y5 (s a b : ByteArray) (w : World) (h : (s.size : Int) ≤ 4096) (hcut : Aside0 (cutL s = a ∧ cutR s = b ∧ cutF s = true)) (n d e f : Int) (ha : Aside0 (pr a = (n, e))) (hb' : Aside0 (pr b = (d, f))) (t1 : (e != 0) = false) (t2 : (f != 0) = false) (bn : Aside0 (ln n ≤ 512)) (bd : Aside0 (ln d ≤ 512)) (hs : Aside0 (sg d = 1)) (rn rd : Int) (hm : Aside0 (qn n d = rn ∧ qd n d = rd)) (brn : Aside0 (ln rn ≤ 512)) (brd : Aside0 (ln rd ≤ 512)) (ht : Aside0 (qt rn rd = s)) (t4 : (s.toList == s.toList) = true) : Calls Try.prog 49 #[.string s] w (RetQP w rn rd 0) := by
  have hu25 := Try.underlying25
  have hu51 := Try.underlying51
  have H := Sit.start w (fun _ => False)
  have p1 : decide (4096 < (s.size : Int)) = false := decide_eq_false (by omega)
  have p2 : decide (4096 < s.size) = false := decide_eq_false (by omega)
  have p3 : ¬ 4096 < s.size := by omega
  replace h := Aside0.mk h
  go_enter Try.func49, Try.ntmps49
  have st2 := trivial
  have st4 := trivial
  have st8 := trivial
  have st10 := trivial
  go_upto_region 7 with (first
    | (clear st2; (with_reducible refine gate_dst (N := 2) rfl ?_); refine box_event ?hg (N := 2) ?hd (cs := #[.bool false, .slice none 0 0, .bool false, .slice none 0 0]) (t := 51) ?hr ?_; (case hd => rfl); (case hg => rfl); (case hr => go_simp; try rfl); intro g2 hg w1 hbox hb; replace H := H.newbox hg hbox hb; clear hg hbox hb; obtain ⟨k2_0, z2_0, k2_1, z2_1, k2_2, z2_2, k2_3, z2_3⟩ := H.b4 (g := g2) m0)
    | (clear st4; go_at_call 87; (with_reducible refine (CutQ s _ h.out a b true hcut.out).mono ?_); rintro e w3 ⟨rfl, hb⟩; replace H := H.call hb; clear hb; clear k2_0 z2_0 k2_1 z2_1 k2_2 z2_2 k2_3 z2_3; obtain ⟨k2_0, z2_0, k2_1, z2_1, k2_2, z2_2, k2_3, z2_3⟩ := H.b4 (g := g2) m0)
    | (clear st8; go_at_call 23; (with_reducible refine (ParseQ a _ n e ha.out).mono ?_); rintro e w5 ⟨A6, c7, rfl, hr, hb⟩; replace H := H.got (fresh_row hr) hb; clear hr hb; clear k2_0 z2_0 k2_1 z2_1 k2_2 z2_2 k2_3 z2_3; obtain ⟨k2_0, z2_0, k2_1, z2_1, k2_2, z2_2, k2_3, z2_3⟩ := H.b4 (g := g2) m0)
    | (clear st10; (with_reducible refine gate_dst (N := 7) rfl ?_); refine box_event ?hg (N := 7) ?hd (cs := #[.bool false, .slice none 0 0]) (t := 25) ?hr ?_; (case hd => rfl); (case hg => rfl); (case hr => go_simp; try rfl); intro g7 hg w9 hbox hb; replace H := H.newbox hg hbox hb; clear hg hbox hb; clear k2_0 z2_0 k2_1 z2_1 k2_2 z2_2 k2_3 z2_3; obtain ⟨k7_0, z7_0, k7_1, z7_1⟩ := H.b2 (g := g7) m0; obtain ⟨k2_0, z2_0, k2_1, z2_1, k2_2, z2_2, k2_3, z2_3⟩ := H.b4 (g := g2) m1; have ne_g7_g2 := H.ne (g := g7) (g' := g2) 0 1 rfl rfl (by decide); have ne_g2_g7 := ne_g7_g2.symm))
  (try simp only [Act.put, List.setIfInBounds_toArray, List.set_cons_zero, List.set_cons_succ])
  replace H := ((H.setn [] 0 (.bool (ng n)) rfl).setn [] 1 (.slice A6 (ln n) c7) rfl)
  clear k7_0 z7_0 k7_1 z7_1 k2_0 z2_0 k2_1 z2_1 k2_2 z2_2 k2_3 z2_3
  generalize ((w9.setCell ⟨g7, 0, none⟩ (.bool (ng n))).setCell ⟨g7, 1, none⟩ (.slice A6 (ln n) c7)) = w11 at H ⊢
  obtain ⟨k7_0, z7_0, k7_1, z7_1⟩ := H.b2 (g := g7) m0
  obtain ⟨k2_0, z2_0, k2_1, z2_1, k2_2, z2_2, k2_3, z2_3⟩ := H.b4 (g := g2) m1
  have st15 := trivial
  have st17 := trivial
  go_upto_region 8 with (first
    | (clear st15; go_at_call 23; (with_reducible refine (ParseQ b _ d f hb'.out).mono ?_); rintro e w12 ⟨A13, c14, rfl, hr, hb⟩; replace H := H.got (fresh_row hr) hb; clear hr hb; clear k7_0 z7_0 k7_1 z7_1 k2_0 z2_0 k2_1 z2_1 k2_2 z2_2 k2_3 z2_3; obtain ⟨k7_0, z7_0, k7_1, z7_1⟩ := H.b2 (g := g7) m0; obtain ⟨k2_0, z2_0, k2_1, z2_1, k2_2, z2_2, k2_3, z2_3⟩ := H.b4 (g := g2) m1)
    | (clear st17; (with_reducible refine gate_dst (N := 9) rfl ?_); refine box_event ?hg (N := 9) ?hd (cs := #[.bool false, .slice none 0 0]) (t := 25) ?hr ?_; (case hd => rfl); (case hg => rfl); (case hr => go_simp; try rfl); intro g9 hg w16 hbox hb; replace H := H.newbox hg hbox hb; clear hg hbox hb; clear k7_0 z7_0 k7_1 z7_1 k2_0 z2_0 k2_1 z2_1 k2_2 z2_2 k2_3 z2_3; obtain ⟨k9_0, z9_0, k9_1, z9_1⟩ := H.b2 (g := g9) m0; obtain ⟨k7_0, z7_0, k7_1, z7_1⟩ := H.b2 (g := g7) m1; obtain ⟨k2_0, z2_0, k2_1, z2_1, k2_2, z2_2, k2_3, z2_3⟩ := H.b4 (g := g2) m2; have ne_g9_g7 := H.ne (g := g9) (g' := g7) 0 1 rfl rfl (by decide); have ne_g7_g9 := ne_g9_g7.symm; have ne_g9_g2 := H.ne (g := g9) (g' := g2) 0 2 rfl rfl (by decide); have ne_g2_g9 := ne_g9_g2.symm))
  (try simp only [Act.put, List.setIfInBounds_toArray, List.set_cons_zero, List.set_cons_succ])
  replace H := ((H.setn [] 0 (.bool (ng d)) rfl).setn [] 1 (.slice A13 (ln d) c14) rfl)
  clear k9_0 z9_0 k9_1 z9_1 k7_0 z7_0 k7_1 z7_1 k2_0 z2_0 k2_1 z2_1 k2_2 z2_2 k2_3 z2_3
  generalize ((w16.setCell ⟨g9, 0, none⟩ (.bool (ng d))).setCell ⟨g9, 1, none⟩ (.slice A13 (ln d) c14)) = w18 at H ⊢
  obtain ⟨k9_0, z9_0, k9_1, z9_1⟩ := H.b2 (g := g9) m0
  obtain ⟨k7_0, z7_0, k7_1, z7_1⟩ := H.b2 (g := g7) m1
  obtain ⟨k2_0, z2_0, k2_1, z2_1, k2_2, z2_2, k2_3, z2_3⟩ := H.b4 (g := g2) m2
  have st20 := trivial
  have st26 := trivial
  have st28 := trivial
  go_upto_region 11 with (first
    | (clear st20; go_at_call 25; (with_reducible refine (SignQ _ _ _ (lim bd.out (by decide)) 1 hs.out).mono ?_); rintro e w19 ⟨rfl, hb⟩; replace H := H.call hb; clear hb; clear k9_0 z9_0 k9_1 z9_1 k7_0 z7_0 k7_1 z7_1 k2_0 z2_0 k2_1 z2_1 k2_2 z2_2 k2_3 z2_3; obtain ⟨k9_0, z9_0, k9_1, z9_1⟩ := H.b2 (g := g9) m0; obtain ⟨k7_0, z7_0, k7_1, z7_1⟩ := H.b2 (g := g7) m1; obtain ⟨k2_0, z2_0, k2_1, z2_1, k2_2, z2_2, k2_3, z2_3⟩ := H.b4 (g := g2) m2)
    | (clear st26; go_at_call 86; (with_reducible refine (MustQ (H.row _ m1) (H.row _ m0) (lim bn.out (by decide)) (lim bd.out (by decide)) rn rd hm.out).mono ?_); rintro e w21 ⟨A22, c23, A24, c25, rfl, hr, hr2, hb⟩; replace H := (H.got hr hb).more ((H.got hr2 hb).row _ m0); clear hr hr2 hb; clear k9_0 z9_0 k9_1 z9_1 k7_0 z7_0 k7_1 z7_1 k2_0 z2_0 k2_1 z2_1 k2_2 z2_2 k2_3 z2_3; obtain ⟨k9_0, z9_0, k9_1, z9_1⟩ := H.b2 (g := g9) m0; obtain ⟨k7_0, z7_0, k7_1, z7_1⟩ := H.b2 (g := g7) m1; obtain ⟨k2_0, z2_0, k2_1, z2_1, k2_2, z2_2, k2_3, z2_3⟩ := H.b4 (g := g2) m2)
    | (clear st28; (with_reducible refine gate_dst (N := 11) rfl ?_); refine box_event ?hg (N := 11) ?hd (cs := #[.bool false, .slice none 0 0, .bool false, .slice none 0 0]) (t := 51) ?hr ?_; (case hd => rfl); (case hg => rfl); (case hr => go_simp; try rfl); intro g11 hg w27 hbox hb; replace H := H.newbox hg hbox hb; clear hg hbox hb; clear k9_0 z9_0 k9_1 z9_1 k7_0 z7_0 k7_1 z7_1 k2_0 z2_0 k2_1 z2_1 k2_2 z2_2 k2_3 z2_3; obtain ⟨k11_0, z11_0, k11_1, z11_1, k11_2, z11_2, k11_3, z11_3⟩ := H.b4 (g := g11) m0; obtain ⟨k9_0, z9_0, k9_1, z9_1⟩ := H.b2 (g := g9) m1; obtain ⟨k7_0, z7_0, k7_1, z7_1⟩ := H.b2 (g := g7) m2; obtain ⟨k2_0, z2_0, k2_1, z2_1, k2_2, z2_2, k2_3, z2_3⟩ := H.b4 (g := g2) m3; have ne_g11_g9 := H.ne (g := g11) (g' := g9) 0 1 rfl rfl (by decide); have ne_g9_g11 := ne_g11_g9.symm; have ne_g11_g7 := H.ne (g := g11) (g' := g7) 0 2 rfl rfl (by decide); have ne_g7_g11 := ne_g11_g7.symm; have ne_g11_g2 := H.ne (g := g11) (g' := g2) 0 3 rfl rfl (by decide); have ne_g2_g11 := ne_g11_g2.symm))
  (try simp only [Act.put, List.setIfInBounds_toArray, List.set_cons_zero, List.set_cons_succ])
  replace H := ((((H.setn [] 0 (.bool (ng rn)) rfl).setn [] 1 (.slice A22 (ln rn) c23) rfl).setn [] 2 (.bool (ng rd)) rfl).setn [] 3 (.slice A24 (ln rd) c25) rfl)
  clear k11_0 z11_0 k11_1 z11_1 k11_2 z11_2 k11_3 z11_3 k9_0 z9_0 k9_1 z9_1 k7_0 z7_0 k7_1 z7_1 k2_0 z2_0 k2_1 z2_1 k2_2 z2_2 k2_3 z2_3
  generalize ((((w27.setCell ⟨g11, 0, none⟩ (.bool (ng rn))).setCell ⟨g11, 1, none⟩ (.slice A22 (ln rn) c23)).setCell ⟨g11, 2, none⟩ (.bool (ng rd))).setCell ⟨g11, 3, none⟩ (.slice A24 (ln rd) c25)) = w29 at H ⊢
  obtain ⟨k11_0, z11_0, k11_1, z11_1, k11_2, z11_2, k11_3, z11_3⟩ := H.b4 (g := g11) m0
  obtain ⟨k9_0, z9_0, k9_1, z9_1⟩ := H.b2 (g := g9) m1
  obtain ⟨k7_0, z7_0, k7_1, z7_1⟩ := H.b2 (g := g7) m2
  obtain ⟨k2_0, z2_0, k2_1, z2_1, k2_2, z2_2, k2_3, z2_3⟩ := H.b4 (g := g2) m3
  have st31 := trivial
  go_wp2_with (first
    | (clear st31; go_at_call 46; (with_reducible refine (TextR (H.row _ m1) (H.row _ m0) (limR brn.out (by decide)) (limR brd.out (by decide)) s ht.out).mono ?_); rintro e w30 ⟨rfl, hb⟩; replace H := H.call hb; clear hb; clear k11_0 z11_0 k11_1 z11_1 k11_2 z11_2 k11_3 z11_3 k9_0 z9_0 k9_1 z9_1 k7_0 z7_0 k7_1 z7_1 k2_0 z2_0 k2_1 z2_1 k2_2 z2_2 k2_3 z2_3; obtain ⟨k11_0, z11_0, k11_1, z11_1, k11_2, z11_2, k11_3, z11_3⟩ := H.b4 (g := g11) m0; obtain ⟨k9_0, z9_0, k9_1, z9_1⟩ := H.b2 (g := g9) m1; obtain ⟨k7_0, z7_0, k7_1, z7_1⟩ := H.b2 (g := g7) m2; obtain ⟨k2_0, z2_0, k2_1, z2_1, k2_2, z2_2, k2_3, z2_3⟩ := H.b4 (g := g2) m3))
  replace H := ((((H.setn [_, _, _] 0 (.bool (ng rn)) rfl).setn [_, _, _] 1 (.slice A22 (ln rn) c23) rfl).setn [_, _, _] 2 (.bool (ng rd)) rfl).setn [_, _, _] 3 (.slice A24 (ln rd) c25) rfl)
  refine bodyPost_ret (results_list (rs := [.cell 2 51, .tmp 3]) rfl (by simp) (.cell g2 51 #[.bool (ng rn), .slice A22 (ln rn) c23, .bool (ng rd), .slice A24 (ln rd) c25] (0, 0) _ rfl (H.blk m3) Try.underlying51 rfl (by kernel_rfl) (.tmp .nil))) rfl ?_
  exact ⟨A22, c23, A24, c25, rfl, (H.ret m1).mono (fun k hk => hk.elim (fun h => h.elim) id), (H.ret m0).mono (fun k hk => hk.elim (fun h => h.elim) id), H.below⟩

theorem RParse_y4 (s a b : ByteArray) (w : World) (h : (s.size : Int) ≤ 4096) (hcut : Aside0 (cutL s = a ∧ cutR s = b ∧ cutF s = true)) (n d e f : Int) (ha : Aside0 (pr a = (n, e))) (hb' : Aside0 (pr b = (d, f))) (t1 : (e != 0) = false) (t2 : (f != 0) = false) (bn : Aside0 (ln n ≤ 512)) (bd : Aside0 (ln d ≤ 512)) (hs : Aside0 (sg d = 1)) (rn rd : Int) (hm : Aside0 (qn n d = rn ∧ qd n d = rd)) (brn : Aside0 (ln rn ≤ 512)) (brd : Aside0 (ln rd ≤ 512)) (t : ByteArray) (ht : Aside0 (qt rn rd = t)) (t4 : (t.toList == s.toList) = false) : Calls Try.prog 49 #[.string s] w (RetQP w 0 0 3) := by
  have hu25 := Try.underlying25
  have hu51 := Try.underlying51
  have H := Sit.start w (fun _ => False)
  have p1 : decide (4096 < (s.size : Int)) = false := decide_eq_false (by omega)
  have p2 : decide (4096 < s.size) = false := decide_eq_false (by omega)
  have p3 : ¬ 4096 < s.size := by omega
  replace h := Aside0.mk h
  go_enter Try.func49, Try.ntmps49
  have st2 := trivial
  have st4 := trivial
  have st8 := trivial
  have st10 := trivial
  go_upto_region 7 with (first
    | (clear st2; (with_reducible refine gate_dst (N := 2) rfl ?_); refine box_event ?hg (N := 2) ?hd (cs := #[.bool false, .slice none 0 0, .bool false, .slice none 0 0]) (t := 51) ?hr ?_; (case hd => rfl); (case hg => rfl); (case hr => go_simp; try rfl); intro g2 hg w1 hbox hb; replace H := H.newbox hg hbox hb; clear hg hbox hb; obtain ⟨k2_0, z2_0, k2_1, z2_1, k2_2, z2_2, k2_3, z2_3⟩ := H.b4 (g := g2) m0)
    | (clear st4; go_at_call 87; (with_reducible refine (CutQ s _ h.out a b true hcut.out).mono ?_); rintro e w3 ⟨rfl, hb⟩; replace H := H.call hb; clear hb; clear k2_0 z2_0 k2_1 z2_1 k2_2 z2_2 k2_3 z2_3; obtain ⟨k2_0, z2_0, k2_1, z2_1, k2_2, z2_2, k2_3, z2_3⟩ := H.b4 (g := g2) m0)
    | (clear st8; go_at_call 23; (with_reducible refine (ParseQ a _ n e ha.out).mono ?_); rintro e w5 ⟨A6, c7, rfl, hr, hb⟩; replace H := H.got (fresh_row hr) hb; clear hr hb; clear k2_0 z2_0 k2_1 z2_1 k2_2 z2_2 k2_3 z2_3; obtain ⟨k2_0, z2_0, k2_1, z2_1, k2_2, z2_2, k2_3, z2_3⟩ := H.b4 (g := g2) m0)
    | (clear st10; (with_reducible refine gate_dst (N := 7) rfl ?_); refine box_event ?hg (N := 7) ?hd (cs := #[.bool false, .slice none 0 0]) (t := 25) ?hr ?_; (case hd => rfl); (case hg => rfl); (case hr => go_simp; try rfl); intro g7 hg w9 hbox hb; replace H := H.newbox hg hbox hb; clear hg hbox hb; clear k2_0 z2_0 k2_1 z2_1 k2_2 z2_2 k2_3 z2_3; obtain ⟨k7_0, z7_0, k7_1, z7_1⟩ := H.b2 (g := g7) m0; obtain ⟨k2_0, z2_0, k2_1, z2_1, k2_2, z2_2, k2_3, z2_3⟩ := H.b4 (g := g2) m1; have ne_g7_g2 := H.ne (g := g7) (g' := g2) 0 1 rfl rfl (by decide); have ne_g2_g7 := ne_g7_g2.symm))
  (try simp only [Act.put, List.setIfInBounds_toArray, List.set_cons_zero, List.set_cons_succ])
  replace H := ((H.setn [] 0 (.bool (ng n)) rfl).setn [] 1 (.slice A6 (ln n) c7) rfl)
  clear k7_0 z7_0 k7_1 z7_1 k2_0 z2_0 k2_1 z2_1 k2_2 z2_2 k2_3 z2_3
  generalize ((w9.setCell ⟨g7, 0, none⟩ (.bool (ng n))).setCell ⟨g7, 1, none⟩ (.slice A6 (ln n) c7)) = w11 at H ⊢
  obtain ⟨k7_0, z7_0, k7_1, z7_1⟩ := H.b2 (g := g7) m0
  obtain ⟨k2_0, z2_0, k2_1, z2_1, k2_2, z2_2, k2_3, z2_3⟩ := H.b4 (g := g2) m1
  have st15 := trivial
  have st17 := trivial
  go_upto_region 8 with (first
    | (clear st15; go_at_call 23; (with_reducible refine (ParseQ b _ d f hb'.out).mono ?_); rintro e w12 ⟨A13, c14, rfl, hr, hb⟩; replace H := H.got (fresh_row hr) hb; clear hr hb; clear k7_0 z7_0 k7_1 z7_1 k2_0 z2_0 k2_1 z2_1 k2_2 z2_2 k2_3 z2_3; obtain ⟨k7_0, z7_0, k7_1, z7_1⟩ := H.b2 (g := g7) m0; obtain ⟨k2_0, z2_0, k2_1, z2_1, k2_2, z2_2, k2_3, z2_3⟩ := H.b4 (g := g2) m1)
    | (clear st17; (with_reducible refine gate_dst (N := 9) rfl ?_); refine box_event ?hg (N := 9) ?hd (cs := #[.bool false, .slice none 0 0]) (t := 25) ?hr ?_; (case hd => rfl); (case hg => rfl); (case hr => go_simp; try rfl); intro g9 hg w16 hbox hb; replace H := H.newbox hg hbox hb; clear hg hbox hb; clear k7_0 z7_0 k7_1 z7_1 k2_0 z2_0 k2_1 z2_1 k2_2 z2_2 k2_3 z2_3; obtain ⟨k9_0, z9_0, k9_1, z9_1⟩ := H.b2 (g := g9) m0; obtain ⟨k7_0, z7_0, k7_1, z7_1⟩ := H.b2 (g := g7) m1; obtain ⟨k2_0, z2_0, k2_1, z2_1, k2_2, z2_2, k2_3, z2_3⟩ := H.b4 (g := g2) m2; have ne_g9_g7 := H.ne (g := g9) (g' := g7) 0 1 rfl rfl (by decide); have ne_g7_g9 := ne_g9_g7.symm; have ne_g9_g2 := H.ne (g := g9) (g' := g2) 0 2 rfl rfl (by decide); have ne_g2_g9 := ne_g9_g2.symm))
  (try simp only [Act.put, List.setIfInBounds_toArray, List.set_cons_zero, List.set_cons_succ])
  replace H := ((H.setn [] 0 (.bool (ng d)) rfl).setn [] 1 (.slice A13 (ln d) c14) rfl)
  clear k9_0 z9_0 k9_1 z9_1 k7_0 z7_0 k7_1 z7_1 k2_0 z2_0 k2_1 z2_1 k2_2 z2_2 k2_3 z2_3
  generalize ((w16.setCell ⟨g9, 0, none⟩ (.bool (ng d))).setCell ⟨g9, 1, none⟩ (.slice A13 (ln d) c14)) = w18 at H ⊢
  obtain ⟨k9_0, z9_0, k9_1, z9_1⟩ := H.b2 (g := g9) m0
  obtain ⟨k7_0, z7_0, k7_1, z7_1⟩ := H.b2 (g := g7) m1
  obtain ⟨k2_0, z2_0, k2_1, z2_1, k2_2, z2_2, k2_3, z2_3⟩ := H.b4 (g := g2) m2
  have st20 := trivial
  have st26 := trivial
  have st28 := trivial
  go_upto_region 11 with (first
    | (clear st20; go_at_call 25; (with_reducible refine (SignQ _ _ _ (lim bd.out (by decide)) 1 hs.out).mono ?_); rintro e w19 ⟨rfl, hb⟩; replace H := H.call hb; clear hb; clear k9_0 z9_0 k9_1 z9_1 k7_0 z7_0 k7_1 z7_1 k2_0 z2_0 k2_1 z2_1 k2_2 z2_2 k2_3 z2_3; obtain ⟨k9_0, z9_0, k9_1, z9_1⟩ := H.b2 (g := g9) m0; obtain ⟨k7_0, z7_0, k7_1, z7_1⟩ := H.b2 (g := g7) m1; obtain ⟨k2_0, z2_0, k2_1, z2_1, k2_2, z2_2, k2_3, z2_3⟩ := H.b4 (g := g2) m2)
    | (clear st26; go_at_call 86; (with_reducible refine (MustQ (H.row _ m1) (H.row _ m0) (lim bn.out (by decide)) (lim bd.out (by decide)) rn rd hm.out).mono ?_); rintro e w21 ⟨A22, c23, A24, c25, rfl, hr, hr2, hb⟩; replace H := (H.got hr hb).more ((H.got hr2 hb).row _ m0); clear hr hr2 hb; clear k9_0 z9_0 k9_1 z9_1 k7_0 z7_0 k7_1 z7_1 k2_0 z2_0 k2_1 z2_1 k2_2 z2_2 k2_3 z2_3; obtain ⟨k9_0, z9_0, k9_1, z9_1⟩ := H.b2 (g := g9) m0; obtain ⟨k7_0, z7_0, k7_1, z7_1⟩ := H.b2 (g := g7) m1; obtain ⟨k2_0, z2_0, k2_1, z2_1, k2_2, z2_2, k2_3, z2_3⟩ := H.b4 (g := g2) m2)
    | (clear st28; (with_reducible refine gate_dst (N := 11) rfl ?_); refine box_event ?hg (N := 11) ?hd (cs := #[.bool false, .slice none 0 0, .bool false, .slice none 0 0]) (t := 51) ?hr ?_; (case hd => rfl); (case hg => rfl); (case hr => go_simp; try rfl); intro g11 hg w27 hbox hb; replace H := H.newbox hg hbox hb; clear hg hbox hb; clear k9_0 z9_0 k9_1 z9_1 k7_0 z7_0 k7_1 z7_1 k2_0 z2_0 k2_1 z2_1 k2_2 z2_2 k2_3 z2_3; obtain ⟨k11_0, z11_0, k11_1, z11_1, k11_2, z11_2, k11_3, z11_3⟩ := H.b4 (g := g11) m0; obtain ⟨k9_0, z9_0, k9_1, z9_1⟩ := H.b2 (g := g9) m1; obtain ⟨k7_0, z7_0, k7_1, z7_1⟩ := H.b2 (g := g7) m2; obtain ⟨k2_0, z2_0, k2_1, z2_1, k2_2, z2_2, k2_3, z2_3⟩ := H.b4 (g := g2) m3; have ne_g11_g9 := H.ne (g := g11) (g' := g9) 0 1 rfl rfl (by decide); have ne_g9_g11 := ne_g11_g9.symm; have ne_g11_g7 := H.ne (g := g11) (g' := g7) 0 2 rfl rfl (by decide); have ne_g7_g11 := ne_g11_g7.symm; have ne_g11_g2 := H.ne (g := g11) (g' := g2) 0 3 rfl rfl (by decide); have ne_g2_g11 := ne_g11_g2.symm))
  (try simp only [Act.put, List.setIfInBounds_toArray, List.set_cons_zero, List.set_cons_succ])
  replace H := ((((H.setn [] 0 (.bool (ng rn)) rfl).setn [] 1 (.slice A22 (ln rn) c23) rfl).setn [] 2 (.bool (ng rd)) rfl).setn [] 3 (.slice A24 (ln rd) c25) rfl)
  clear k11_0 z11_0 k11_1 z11_1 k11_2 z11_2 k11_3 z11_3 k9_0 z9_0 k9_1 z9_1 k7_0 z7_0 k7_1 z7_1 k2_0 z2_0 k2_1 z2_1 k2_2 z2_2 k2_3 z2_3
  generalize ((((w27.setCell ⟨g11, 0, none⟩ (.bool (ng rn))).setCell ⟨g11, 1, none⟩ (.slice A22 (ln rn) c23)).setCell ⟨g11, 2, none⟩ (.bool (ng rd))).setCell ⟨g11, 3, none⟩ (.slice A24 (ln rd) c25)) = w29 at H ⊢
  obtain ⟨k11_0, z11_0, k11_1, z11_1, k11_2, z11_2, k11_3, z11_3⟩ := H.b4 (g := g11) m0
  obtain ⟨k9_0, z9_0, k9_1, z9_1⟩ := H.b2 (g := g9) m1
  obtain ⟨k7_0, z7_0, k7_1, z7_1⟩ := H.b2 (g := g7) m2
  obtain ⟨k2_0, z2_0, k2_1, z2_1, k2_2, z2_2, k2_3, z2_3⟩ := H.b4 (g := g2) m3
  have st31 := trivial
  go_wp2_with (first
    | (clear st31; go_at_call 46; (with_reducible refine (TextR (H.row _ m1) (H.row _ m0) (limR brn.out (by decide)) (limR brd.out (by decide)) t ht.out).mono ?_); rintro e w30 ⟨rfl, hb⟩; replace H := H.call hb; clear hb; clear k11_0 z11_0 k11_1 z11_1 k11_2 z11_2 k11_3 z11_3 k9_0 z9_0 k9_1 z9_1 k7_0 z7_0 k7_1 z7_1 k2_0 z2_0 k2_1 z2_1 k2_2 z2_2 k2_3 z2_3; obtain ⟨k11_0, z11_0, k11_1, z11_1, k11_2, z11_2, k11_3, z11_3⟩ := H.b4 (g := g11) m0; obtain ⟨k9_0, z9_0, k9_1, z9_1⟩ := H.b2 (g := g9) m1; obtain ⟨k7_0, z7_0, k7_1, z7_1⟩ := H.b2 (g := g7) m2; obtain ⟨k2_0, z2_0, k2_1, z2_1, k2_2, z2_2, k2_3, z2_3⟩ := H.b4 (g := g2) m3))
  replace H := H.nilrow
  replace H := (((H.setn [_, _, _] 0 (.bool false) rfl).setn [_, _, _] 1 (.slice none 0 0) rfl).setn [_, _, _] 2 (.bool false) rfl).setn [_, _, _] 3 (.slice none 0 0) rfl
  refine bodyPost_ret (results_list (rs := [.cell 2 51, .tmp 3]) rfl (by simp) (.cell g2 51 #[.bool false, .slice none 0 0, .bool false, .slice none 0 0] (0, 0) _ rfl (H.blk m3) Try.underlying51 rfl (by kernel_rfl) (.tmp .nil))) rfl ?_
  exact ⟨none, 0, none, 0, rfl, bw_nil _ _, bw_nil _ _, H.below⟩

theorem RParse_n1 (s a b : ByteArray) (w : World) (h : (s.size : Int) ≤ 4096) (hcut : Aside0 (cutL s = a ∧ cutR s = b ∧ cutF s = false)) (n d e f : Int) (ha : Aside0 (pr a = (n, e))) (hb' : Aside0 (pr ⟨#[49]⟩ = (d, f))) (t1 : (e != 0) = true) : Calls Try.prog 49 #[.string s] w (RetQP w 0 0 3) := by
  have hu25 := Try.underlying25
  have hu51 := Try.underlying51
  have H := Sit.start w (fun _ => False)
  have p1 : decide (4096 < (s.size : Int)) = false := decide_eq_false (by omega)
  have p2 : decide (4096 < s.size) = false := decide_eq_false (by omega)
  have p3 : ¬ 4096 < s.size := by omega
  replace h := Aside0.mk h
  go_enter Try.func49, Try.ntmps49
  have st2 := trivial
  have st4 := trivial
  have st8 := trivial
  have st10 := trivial
  go_upto_region 7 with (first
    | (clear st2; (with_reducible refine gate_dst (N := 2) rfl ?_); refine box_event ?hg (N := 2) ?hd (cs := #[.bool false, .slice none 0 0, .bool false, .slice none 0 0]) (t := 51) ?hr ?_; (case hd => rfl); (case hg => rfl); (case hr => go_simp; try rfl); intro g2 hg w1 hbox hb; replace H := H.newbox hg hbox hb; clear hg hbox hb; obtain ⟨k2_0, z2_0, k2_1, z2_1, k2_2, z2_2, k2_3, z2_3⟩ := H.b4 (g := g2) m0)
    | (clear st4; go_at_call 87; (with_reducible refine (CutQ s _ h.out a b false hcut.out).mono ?_); rintro e w3 ⟨rfl, hb⟩; replace H := H.call hb; clear hb; clear k2_0 z2_0 k2_1 z2_1 k2_2 z2_2 k2_3 z2_3; obtain ⟨k2_0, z2_0, k2_1, z2_1, k2_2, z2_2, k2_3, z2_3⟩ := H.b4 (g := g2) m0)
    | (clear st8; go_at_call 23; (with_reducible refine (ParseQ a _ n e ha.out).mono ?_); rintro e w5 ⟨A6, c7, rfl, hr, hb⟩; replace H := H.got (fresh_row hr) hb; clear hr hb; clear k2_0 z2_0 k2_1 z2_1 k2_2 z2_2 k2_3 z2_3; obtain ⟨k2_0, z2_0, k2_1, z2_1, k2_2, z2_2, k2_3, z2_3⟩ := H.b4 (g := g2) m0)
    | (clear st10; (with_reducible refine gate_dst (N := 7) rfl ?_); refine box_event ?hg (N := 7) ?hd (cs := #[.bool false, .slice none 0 0]) (t := 25) ?hr ?_; (case hd => rfl); (case hg => rfl); (case hr => go_simp; try rfl); intro g7 hg w9 hbox hb; replace H := H.newbox hg hbox hb; clear hg hbox hb; clear k2_0 z2_0 k2_1 z2_1 k2_2 z2_2 k2_3 z2_3; obtain ⟨k7_0, z7_0, k7_1, z7_1⟩ := H.b2 (g := g7) m0; obtain ⟨k2_0, z2_0, k2_1, z2_1, k2_2, z2_2, k2_3, z2_3⟩ := H.b4 (g := g2) m1; have ne_g7_g2 := H.ne (g := g7) (g' := g2) 0 1 rfl rfl (by decide); have ne_g2_g7 := ne_g7_g2.symm))
  (try simp only [Act.put, List.setIfInBounds_toArray, List.set_cons_zero, List.set_cons_succ])
  replace H := ((H.setn [] 0 (.bool (ng n)) rfl).setn [] 1 (.slice A6 (ln n) c7) rfl)
  clear k7_0 z7_0 k7_1 z7_1 k2_0 z2_0 k2_1 z2_1 k2_2 z2_2 k2_3 z2_3
  generalize ((w9.setCell ⟨g7, 0, none⟩ (.bool (ng n))).setCell ⟨g7, 1, none⟩ (.slice A6 (ln n) c7)) = w11 at H ⊢
  obtain ⟨k7_0, z7_0, k7_1, z7_1⟩ := H.b2 (g := g7) m0
  obtain ⟨k2_0, z2_0, k2_1, z2_1, k2_2, z2_2, k2_3, z2_3⟩ := H.b4 (g := g2) m1
  have st15 := trivial
  have st17 := trivial
  go_upto_region 8 with (first
    | (clear st15; go_at_call 23; (with_reducible refine (ParseQ ⟨#[49]⟩ _ d f hb'.out).mono ?_); rintro e w12 ⟨A13, c14, rfl, hr, hb⟩; replace H := H.got (fresh_row hr) hb; clear hr hb; clear k7_0 z7_0 k7_1 z7_1 k2_0 z2_0 k2_1 z2_1 k2_2 z2_2 k2_3 z2_3; obtain ⟨k7_0, z7_0, k7_1, z7_1⟩ := H.b2 (g := g7) m0; obtain ⟨k2_0, z2_0, k2_1, z2_1, k2_2, z2_2, k2_3, z2_3⟩ := H.b4 (g := g2) m1)
    | (clear st17; (with_reducible refine gate_dst (N := 9) rfl ?_); refine box_event ?hg (N := 9) ?hd (cs := #[.bool false, .slice none 0 0]) (t := 25) ?hr ?_; (case hd => rfl); (case hg => rfl); (case hr => go_simp; try rfl); intro g9 hg w16 hbox hb; replace H := H.newbox hg hbox hb; clear hg hbox hb; clear k7_0 z7_0 k7_1 z7_1 k2_0 z2_0 k2_1 z2_1 k2_2 z2_2 k2_3 z2_3; obtain ⟨k9_0, z9_0, k9_1, z9_1⟩ := H.b2 (g := g9) m0; obtain ⟨k7_0, z7_0, k7_1, z7_1⟩ := H.b2 (g := g7) m1; obtain ⟨k2_0, z2_0, k2_1, z2_1, k2_2, z2_2, k2_3, z2_3⟩ := H.b4 (g := g2) m2; have ne_g9_g7 := H.ne (g := g9) (g' := g7) 0 1 rfl rfl (by decide); have ne_g7_g9 := ne_g9_g7.symm; have ne_g9_g2 := H.ne (g := g9) (g' := g2) 0 2 rfl rfl (by decide); have ne_g2_g9 := ne_g9_g2.symm))
  (try simp only [Act.put, List.setIfInBounds_toArray, List.set_cons_zero, List.set_cons_succ])
  replace H := ((H.setn [] 0 (.bool (ng d)) rfl).setn [] 1 (.slice A13 (ln d) c14) rfl)
  clear k9_0 z9_0 k9_1 z9_1 k7_0 z7_0 k7_1 z7_1 k2_0 z2_0 k2_1 z2_1 k2_2 z2_2 k2_3 z2_3
  generalize ((w16.setCell ⟨g9, 0, none⟩ (.bool (ng d))).setCell ⟨g9, 1, none⟩ (.slice A13 (ln d) c14)) = w18 at H ⊢
  obtain ⟨k9_0, z9_0, k9_1, z9_1⟩ := H.b2 (g := g9) m0
  obtain ⟨k7_0, z7_0, k7_1, z7_1⟩ := H.b2 (g := g7) m1
  obtain ⟨k2_0, z2_0, k2_1, z2_1, k2_2, z2_2, k2_3, z2_3⟩ := H.b4 (g := g2) m2
  go_wp2
  replace H := H.nilrow
  replace H := (((H.setn [_, _] 0 (.bool false) rfl).setn [_, _] 1 (.slice none 0 0) rfl).setn [_, _] 2 (.bool false) rfl).setn [_, _] 3 (.slice none 0 0) rfl
  refine bodyPost_ret (results_list (rs := [.cell 2 51, .tmp 3]) rfl (by simp) (.cell g2 51 #[.bool false, .slice none 0 0, .bool false, .slice none 0 0] (0, 0) _ rfl (H.blk m2) Try.underlying51 rfl (by kernel_rfl) (.tmp .nil))) rfl ?_
  exact ⟨none, 0, none, 0, rfl, bw_nil _ _, bw_nil _ _, H.below⟩

theorem RParse_n2 (s a b : ByteArray) (w : World) (h : (s.size : Int) ≤ 4096) (hcut : Aside0 (cutL s = a ∧ cutR s = b ∧ cutF s = false)) (n d e f : Int) (ha : Aside0 (pr a = (n, e))) (hb' : Aside0 (pr ⟨#[49]⟩ = (d, f))) (t1 : (e != 0) = false) (t2 : (f != 0) = true) : Calls Try.prog 49 #[.string s] w (RetQP w 0 0 3) := by
  have hu25 := Try.underlying25
  have hu51 := Try.underlying51
  have H := Sit.start w (fun _ => False)
  have p1 : decide (4096 < (s.size : Int)) = false := decide_eq_false (by omega)
  have p2 : decide (4096 < s.size) = false := decide_eq_false (by omega)
  have p3 : ¬ 4096 < s.size := by omega
  replace h := Aside0.mk h
  go_enter Try.func49, Try.ntmps49
  have st2 := trivial
  have st4 := trivial
  have st8 := trivial
  have st10 := trivial
  go_upto_region 7 with (first
    | (clear st2; (with_reducible refine gate_dst (N := 2) rfl ?_); refine box_event ?hg (N := 2) ?hd (cs := #[.bool false, .slice none 0 0, .bool false, .slice none 0 0]) (t := 51) ?hr ?_; (case hd => rfl); (case hg => rfl); (case hr => go_simp; try rfl); intro g2 hg w1 hbox hb; replace H := H.newbox hg hbox hb; clear hg hbox hb; obtain ⟨k2_0, z2_0, k2_1, z2_1, k2_2, z2_2, k2_3, z2_3⟩ := H.b4 (g := g2) m0)
    | (clear st4; go_at_call 87; (with_reducible refine (CutQ s _ h.out a b false hcut.out).mono ?_); rintro e w3 ⟨rfl, hb⟩; replace H := H.call hb; clear hb; clear k2_0 z2_0 k2_1 z2_1 k2_2 z2_2 k2_3 z2_3; obtain ⟨k2_0, z2_0, k2_1, z2_1, k2_2, z2_2, k2_3, z2_3⟩ := H.b4 (g := g2) m0)
    | (clear st8; go_at_call 23; (with_reducible refine (ParseQ a _ n e ha.out).mono ?_); rintro e w5 ⟨A6, c7, rfl, hr, hb⟩; replace H := H.got (fresh_row hr) hb; clear hr hb; clear k2_0 z2_0 k2_1 z2_1 k2_2 z2_2 k2_3 z2_3; obtain ⟨k2_0, z2_0, k2_1, z2_1, k2_2, z2_2, k2_3, z2_3⟩ := H.b4 (g := g2) m0)
    | (clear st10; (with_reducible refine gate_dst (N := 7) rfl ?_); refine box_event ?hg (N := 7) ?hd (cs := #[.bool false, .slice none 0 0]) (t := 25) ?hr ?_; (case hd => rfl); (case hg => rfl); (case hr => go_simp; try rfl); intro g7 hg w9 hbox hb; replace H := H.newbox hg hbox hb; clear hg hbox hb; clear k2_0 z2_0 k2_1 z2_1 k2_2 z2_2 k2_3 z2_3; obtain ⟨k7_0, z7_0, k7_1, z7_1⟩ := H.b2 (g := g7) m0; obtain ⟨k2_0, z2_0, k2_1, z2_1, k2_2, z2_2, k2_3, z2_3⟩ := H.b4 (g := g2) m1; have ne_g7_g2 := H.ne (g := g7) (g' := g2) 0 1 rfl rfl (by decide); have ne_g2_g7 := ne_g7_g2.symm))
  (try simp only [Act.put, List.setIfInBounds_toArray, List.set_cons_zero, List.set_cons_succ])
  replace H := ((H.setn [] 0 (.bool (ng n)) rfl).setn [] 1 (.slice A6 (ln n) c7) rfl)
  clear k7_0 z7_0 k7_1 z7_1 k2_0 z2_0 k2_1 z2_1 k2_2 z2_2 k2_3 z2_3
  generalize ((w9.setCell ⟨g7, 0, none⟩ (.bool (ng n))).setCell ⟨g7, 1, none⟩ (.slice A6 (ln n) c7)) = w11 at H ⊢
  obtain ⟨k7_0, z7_0, k7_1, z7_1⟩ := H.b2 (g := g7) m0
  obtain ⟨k2_0, z2_0, k2_1, z2_1, k2_2, z2_2, k2_3, z2_3⟩ := H.b4 (g := g2) m1
  have st15 := trivial
  have st17 := trivial
  go_upto_region 8 with (first
    | (clear st15; go_at_call 23; (with_reducible refine (ParseQ ⟨#[49]⟩ _ d f hb'.out).mono ?_); rintro e w12 ⟨A13, c14, rfl, hr, hb⟩; replace H := H.got (fresh_row hr) hb; clear hr hb; clear k7_0 z7_0 k7_1 z7_1 k2_0 z2_0 k2_1 z2_1 k2_2 z2_2 k2_3 z2_3; obtain ⟨k7_0, z7_0, k7_1, z7_1⟩ := H.b2 (g := g7) m0; obtain ⟨k2_0, z2_0, k2_1, z2_1, k2_2, z2_2, k2_3, z2_3⟩ := H.b4 (g := g2) m1)
    | (clear st17; (with_reducible refine gate_dst (N := 9) rfl ?_); refine box_event ?hg (N := 9) ?hd (cs := #[.bool false, .slice none 0 0]) (t := 25) ?hr ?_; (case hd => rfl); (case hg => rfl); (case hr => go_simp; try rfl); intro g9 hg w16 hbox hb; replace H := H.newbox hg hbox hb; clear hg hbox hb; clear k7_0 z7_0 k7_1 z7_1 k2_0 z2_0 k2_1 z2_1 k2_2 z2_2 k2_3 z2_3; obtain ⟨k9_0, z9_0, k9_1, z9_1⟩ := H.b2 (g := g9) m0; obtain ⟨k7_0, z7_0, k7_1, z7_1⟩ := H.b2 (g := g7) m1; obtain ⟨k2_0, z2_0, k2_1, z2_1, k2_2, z2_2, k2_3, z2_3⟩ := H.b4 (g := g2) m2; have ne_g9_g7 := H.ne (g := g9) (g' := g7) 0 1 rfl rfl (by decide); have ne_g7_g9 := ne_g9_g7.symm; have ne_g9_g2 := H.ne (g := g9) (g' := g2) 0 2 rfl rfl (by decide); have ne_g2_g9 := ne_g9_g2.symm))
  (try simp only [Act.put, List.setIfInBounds_toArray, List.set_cons_zero, List.set_cons_succ])
  replace H := ((H.setn [] 0 (.bool (ng d)) rfl).setn [] 1 (.slice A13 (ln d) c14) rfl)
  clear k9_0 z9_0 k9_1 z9_1 k7_0 z7_0 k7_1 z7_1 k2_0 z2_0 k2_1 z2_1 k2_2 z2_2 k2_3 z2_3
  generalize ((w16.setCell ⟨g9, 0, none⟩ (.bool (ng d))).setCell ⟨g9, 1, none⟩ (.slice A13 (ln d) c14)) = w18 at H ⊢
  obtain ⟨k9_0, z9_0, k9_1, z9_1⟩ := H.b2 (g := g9) m0
  obtain ⟨k7_0, z7_0, k7_1, z7_1⟩ := H.b2 (g := g7) m1
  obtain ⟨k2_0, z2_0, k2_1, z2_1, k2_2, z2_2, k2_3, z2_3⟩ := H.b4 (g := g2) m2
  go_wp2
  replace H := H.nilrow
  replace H := (((H.setn [_, _] 0 (.bool false) rfl).setn [_, _] 1 (.slice none 0 0) rfl).setn [_, _] 2 (.bool false) rfl).setn [_, _] 3 (.slice none 0 0) rfl
  refine bodyPost_ret (results_list (rs := [.cell 2 51, .tmp 3]) rfl (by simp) (.cell g2 51 #[.bool false, .slice none 0 0, .bool false, .slice none 0 0] (0, 0) _ rfl (H.blk m2) Try.underlying51 rfl (by kernel_rfl) (.tmp .nil))) rfl ?_
  exact ⟨none, 0, none, 0, rfl, bw_nil _ _, bw_nil _ _, H.below⟩

theorem RParse_n3 (s a b : ByteArray) (w : World) (h : (s.size : Int) ≤ 4096) (hcut : Aside0 (cutL s = a ∧ cutR s = b ∧ cutF s = false)) (n d e f : Int) (ha : Aside0 (pr a = (n, e))) (hb' : Aside0 (pr ⟨#[49]⟩ = (d, f))) (t1 : (e != 0) = false) (t2 : (f != 0) = false) (bd : Aside0 (ln d ≤ 512)) (k : Int) (hs : Aside0 (sg d = k)) (t3 : decide (k ≤ 0) = true) : Calls Try.prog 49 #[.string s] w (RetQP w 0 0 3) := by
  have hu25 := Try.underlying25
  have hu51 := Try.underlying51
  have H := Sit.start w (fun _ => False)
  have p1 : decide (4096 < (s.size : Int)) = false := decide_eq_false (by omega)
  have p2 : decide (4096 < s.size) = false := decide_eq_false (by omega)
  have p3 : ¬ 4096 < s.size := by omega
  replace h := Aside0.mk h
  go_enter Try.func49, Try.ntmps49
  have st2 := trivial
  have st4 := trivial
  have st8 := trivial
  have st10 := trivial
  go_upto_region 7 with (first
    | (clear st2; (with_reducible refine gate_dst (N := 2) rfl ?_); refine box_event ?hg (N := 2) ?hd (cs := #[.bool false, .slice none 0 0, .bool false, .slice none 0 0]) (t := 51) ?hr ?_; (case hd => rfl); (case hg => rfl); (case hr => go_simp; try rfl); intro g2 hg w1 hbox hb; replace H := H.newbox hg hbox hb; clear hg hbox hb; obtain ⟨k2_0, z2_0, k2_1, z2_1, k2_2, z2_2, k2_3, z2_3⟩ := H.b4 (g := g2) m0)
    | (clear st4; go_at_call 87; (with_reducible refine (CutQ s _ h.out a b false hcut.out).mono ?_); rintro e w3 ⟨rfl, hb⟩; replace H := H.call hb; clear hb; clear k2_0 z2_0 k2_1 z2_1 k2_2 z2_2 k2_3 z2_3; obtain ⟨k2_0, z2_0, k2_1, z2_1, k2_2, z2_2, k2_3, z2_3⟩ := H.b4 (g := g2) m0)
    | (clear st8; go_at_call 23; (with_reducible refine (ParseQ a _ n e ha.out).mono ?_); rintro e w5 ⟨A6, c7, rfl, hr, hb⟩; replace H := H.got (fresh_row hr) hb; clear hr hb; clear k2_0 z2_0 k2_1 z2_1 k2_2 z2_2 k2_3 z2_3; obtain ⟨k2_0, z2_0, k2_1, z2_1, k2_2, z2_2, k2_3, z2_3⟩ := H.b4 (g := g2) m0)
    | (clear st10; (with_reducible refine gate_dst (N := 7) rfl ?_); refine box_event ?hg (N := 7) ?hd (cs := #[.bool false, .slice none 0 0]) (t := 25) ?hr ?_; (case hd => rfl); (case hg => rfl); (case hr => go_simp; try rfl); intro g7 hg w9 hbox hb; replace H := H.newbox hg hbox hb; clear hg hbox hb; clear k2_0 z2_0 k2_1 z2_1 k2_2 z2_2 k2_3 z2_3; obtain ⟨k7_0, z7_0, k7_1, z7_1⟩ := H.b2 (g := g7) m0; obtain ⟨k2_0, z2_0, k2_1, z2_1, k2_2, z2_2, k2_3, z2_3⟩ := H.b4 (g := g2) m1; have ne_g7_g2 := H.ne (g := g7) (g' := g2) 0 1 rfl rfl (by decide); have ne_g2_g7 := ne_g7_g2.symm))
  (try simp only [Act.put, List.setIfInBounds_toArray, List.set_cons_zero, List.set_cons_succ])
  replace H := ((H.setn [] 0 (.bool (ng n)) rfl).setn [] 1 (.slice A6 (ln n) c7) rfl)
  clear k7_0 z7_0 k7_1 z7_1 k2_0 z2_0 k2_1 z2_1 k2_2 z2_2 k2_3 z2_3
  generalize ((w9.setCell ⟨g7, 0, none⟩ (.bool (ng n))).setCell ⟨g7, 1, none⟩ (.slice A6 (ln n) c7)) = w11 at H ⊢
  obtain ⟨k7_0, z7_0, k7_1, z7_1⟩ := H.b2 (g := g7) m0
  obtain ⟨k2_0, z2_0, k2_1, z2_1, k2_2, z2_2, k2_3, z2_3⟩ := H.b4 (g := g2) m1
  have st15 := trivial
  have st17 := trivial
  go_upto_region 8 with (first
    | (clear st15; go_at_call 23; (with_reducible refine (ParseQ ⟨#[49]⟩ _ d f hb'.out).mono ?_); rintro e w12 ⟨A13, c14, rfl, hr, hb⟩; replace H := H.got (fresh_row hr) hb; clear hr hb; clear k7_0 z7_0 k7_1 z7_1 k2_0 z2_0 k2_1 z2_1 k2_2 z2_2 k2_3 z2_3; obtain ⟨k7_0, z7_0, k7_1, z7_1⟩ := H.b2 (g := g7) m0; obtain ⟨k2_0, z2_0, k2_1, z2_1, k2_2, z2_2, k2_3, z2_3⟩ := H.b4 (g := g2) m1)
    | (clear st17; (with_reducible refine gate_dst (N := 9) rfl ?_); refine box_event ?hg (N := 9) ?hd (cs := #[.bool false, .slice none 0 0]) (t := 25) ?hr ?_; (case hd => rfl); (case hg => rfl); (case hr => go_simp; try rfl); intro g9 hg w16 hbox hb; replace H := H.newbox hg hbox hb; clear hg hbox hb; clear k7_0 z7_0 k7_1 z7_1 k2_0 z2_0 k2_1 z2_1 k2_2 z2_2 k2_3 z2_3; obtain ⟨k9_0, z9_0, k9_1, z9_1⟩ := H.b2 (g := g9) m0; obtain ⟨k7_0, z7_0, k7_1, z7_1⟩ := H.b2 (g := g7) m1; obtain ⟨k2_0, z2_0, k2_1, z2_1, k2_2, z2_2, k2_3, z2_3⟩ := H.b4 (g := g2) m2; have ne_g9_g7 := H.ne (g := g9) (g' := g7) 0 1 rfl rfl (by decide); have ne_g7_g9 := ne_g9_g7.symm; have ne_g9_g2 := H.ne (g := g9) (g' := g2) 0 2 rfl rfl (by decide); have ne_g2_g9 := ne_g9_g2.symm))
  (try simp only [Act.put, List.setIfInBounds_toArray, List.set_cons_zero, List.set_cons_succ])
  replace H := ((H.setn [] 0 (.bool (ng d)) rfl).setn [] 1 (.slice A13 (ln d) c14) rfl)
  clear k9_0 z9_0 k9_1 z9_1 k7_0 z7_0 k7_1 z7_1 k2_0 z2_0 k2_1 z2_1 k2_2 z2_2 k2_3 z2_3
  generalize ((w16.setCell ⟨g9, 0, none⟩ (.bool (ng d))).setCell ⟨g9, 1, none⟩ (.slice A13 (ln d) c14)) = w18 at H ⊢
  obtain ⟨k9_0, z9_0, k9_1, z9_1⟩ := H.b2 (g := g9) m0
  obtain ⟨k7_0, z7_0, k7_1, z7_1⟩ := H.b2 (g := g7) m1
  obtain ⟨k2_0, z2_0, k2_1, z2_1, k2_2, z2_2, k2_3, z2_3⟩ := H.b4 (g := g2) m2
  have st20 := trivial
  go_wp2_with (first
    | (clear st20; go_at_call 25; (with_reducible refine (SignQ _ _ _ (lim bd.out (by decide)) k hs.out).mono ?_); rintro e w19 ⟨rfl, hb⟩; replace H := H.call hb; clear hb; clear k9_0 z9_0 k9_1 z9_1 k7_0 z7_0 k7_1 z7_1 k2_0 z2_0 k2_1 z2_1 k2_2 z2_2 k2_3 z2_3; obtain ⟨k9_0, z9_0, k9_1, z9_1⟩ := H.b2 (g := g9) m0; obtain ⟨k7_0, z7_0, k7_1, z7_1⟩ := H.b2 (g := g7) m1; obtain ⟨k2_0, z2_0, k2_1, z2_1, k2_2, z2_2, k2_3, z2_3⟩ := H.b4 (g := g2) m2))
  replace H := H.nilrow
  replace H := (((H.setn [_, _] 0 (.bool false) rfl).setn [_, _] 1 (.slice none 0 0) rfl).setn [_, _] 2 (.bool false) rfl).setn [_, _] 3 (.slice none 0 0) rfl
  refine bodyPost_ret (results_list (rs := [.cell 2 51, .tmp 3]) rfl (by simp) (.cell g2 51 #[.bool false, .slice none 0 0, .bool false, .slice none 0 0] (0, 0) _ rfl (H.blk m2) Try.underlying51 rfl (by kernel_rfl) (.tmp .nil))) rfl ?_
  exact ⟨none, 0, none, 0, rfl, bw_nil _ _, bw_nil _ _, H.below⟩

theorem RParse_n5 (s a b : ByteArray) (w : World) (h : (s.size : Int) ≤ 4096) (hcut : Aside0 (cutL s = a ∧ cutR s = b ∧ cutF s = false)) (n d e f : Int) (ha : Aside0 (pr a = (n, e))) (hb' : Aside0 (pr ⟨#[49]⟩ = (d, f))) (t1 : (e != 0) = false) (t2 : (f != 0) = false) (bn : Aside0 (ln n ≤ 512)) (bd : Aside0 (ln d ≤ 512)) (hs : Aside0 (sg d = 1)) (rn rd : Int) (hm : Aside0 (qn n d = rn ∧ qd n d = rd)) (brn : Aside0 (ln rn ≤ 512)) (brd : Aside0 (ln rd ≤ 512)) (ht : Aside0 (qt rn rd = s)) (t4 : (s.toList == s.toList) = true) : Calls Try.prog 49 #[.string s] w (RetQP w rn rd 0) := by
  have hu25 := Try.underlying25
  have hu51 := Try.underlying51
  have H := Sit.start w (fun _ => False)
  have p1 : decide (4096 < (s.size : Int)) = false := decide_eq_false (by omega)
  have p2 : decide (4096 < s.size) = false := decide_eq_false (by omega)
  have p3 : ¬ 4096 < s.size := by omega
  replace h := Aside0.mk h
  go_enter Try.func49, Try.ntmps49
  have st2 := trivial
  have st4 := trivial
  have st8 := trivial
  have st10 := trivial
  go_upto_region 7 with (first
    | (clear st2; (with_reducible refine gate_dst (N := 2) rfl ?_); refine box_event ?hg (N := 2) ?hd (cs := #[.bool false, .slice none 0 0, .bool false, .slice none 0 0]) (t := 51) ?hr ?_; (case hd => rfl); (case hg => rfl); (case hr => go_simp; try rfl); intro g2 hg w1 hbox hb; replace H := H.newbox hg hbox hb; clear hg hbox hb; obtain ⟨k2_0, z2_0, k2_1, z2_1, k2_2, z2_2, k2_3, z2_3⟩ := H.b4 (g := g2) m0)
    | (clear st4; go_at_call 87; (with_reducible refine (CutQ s _ h.out a b false hcut.out).mono ?_); rintro e w3 ⟨rfl, hb⟩; replace H := H.call hb; clear hb; clear k2_0 z2_0 k2_1 z2_1 k2_2 z2_2 k2_3 z2_3; obtain ⟨k2_0, z2_0, k2_1, z2_1, k2_2, z2_2, k2_3, z2_3⟩ := H.b4 (g := g2) m0)
    | (clear st8; go_at_call 23; (with_reducible refine (ParseQ a _ n e ha.out).mono ?_); rintro e w5 ⟨A6, c7, rfl, hr, hb⟩; replace H := H.got (fresh_row hr) hb; clear hr hb; clear k2_0 z2_0 k2_1 z2_1 k2_2 z2_2 k2_3 z2_3; obtain ⟨k2_0, z2_0, k2_1, z2_1, k2_2, z2_2, k2_3, z2_3⟩ := H.b4 (g := g2) m0)
    | (clear st10; (with_reducible refine gate_dst (N := 7) rfl ?_); refine box_event ?hg (N := 7) ?hd (cs := #[.bool false, .slice none 0 0]) (t := 25) ?hr ?_; (case hd => rfl); (case hg => rfl); (case hr => go_simp; try rfl); intro g7 hg w9 hbox hb; replace H := H.newbox hg hbox hb; clear hg hbox hb; clear k2_0 z2_0 k2_1 z2_1 k2_2 z2_2 k2_3 z2_3; obtain ⟨k7_0, z7_0, k7_1, z7_1⟩ := H.b2 (g := g7) m0; obtain ⟨k2_0, z2_0, k2_1, z2_1, k2_2, z2_2, k2_3, z2_3⟩ := H.b4 (g := g2) m1; have ne_g7_g2 := H.ne (g := g7) (g' := g2) 0 1 rfl rfl (by decide); have ne_g2_g7 := ne_g7_g2.symm))
  (try simp only [Act.put, List.setIfInBounds_toArray, List.set_cons_zero, List.set_cons_succ])
  replace H := ((H.setn [] 0 (.bool (ng n)) rfl).setn [] 1 (.slice A6 (ln n) c7) rfl)
  clear k7_0 z7_0 k7_1 z7_1 k2_0 z2_0 k2_1 z2_1 k2_2 z2_2 k2_3 z2_3
  generalize ((w9.setCell ⟨g7, 0, none⟩ (.bool (ng n))).setCell ⟨g7, 1, none⟩ (.slice A6 (ln n) c7)) = w11 at H ⊢
  obtain ⟨k7_0, z7_0, k7_1, z7_1⟩ := H.b2 (g := g7) m0
  obtain ⟨k2_0, z2_0, k2_1, z2_1, k2_2, z2_2, k2_3, z2_3⟩ := H.b4 (g := g2) m1
  have st15 := trivial
  have st17 := trivial
  go_upto_region 8 with (first
    | (clear st15; go_at_call 23; (with_reducible refine (ParseQ ⟨#[49]⟩ _ d f hb'.out).mono ?_); rintro e w12 ⟨A13, c14, rfl, hr, hb⟩; replace H := H.got (fresh_row hr) hb; clear hr hb; clear k7_0 z7_0 k7_1 z7_1 k2_0 z2_0 k2_1 z2_1 k2_2 z2_2 k2_3 z2_3; obtain ⟨k7_0, z7_0, k7_1, z7_1⟩ := H.b2 (g := g7) m0; obtain ⟨k2_0, z2_0, k2_1, z2_1, k2_2, z2_2, k2_3, z2_3⟩ := H.b4 (g := g2) m1)
    | (clear st17; (with_reducible refine gate_dst (N := 9) rfl ?_); refine box_event ?hg (N := 9) ?hd (cs := #[.bool false, .slice none 0 0]) (t := 25) ?hr ?_; (case hd => rfl); (case hg => rfl); (case hr => go_simp; try rfl); intro g9 hg w16 hbox hb; replace H := H.newbox hg hbox hb; clear hg hbox hb; clear k7_0 z7_0 k7_1 z7_1 k2_0 z2_0 k2_1 z2_1 k2_2 z2_2 k2_3 z2_3; obtain ⟨k9_0, z9_0, k9_1, z9_1⟩ := H.b2 (g := g9) m0; obtain ⟨k7_0, z7_0, k7_1, z7_1⟩ := H.b2 (g := g7) m1; obtain ⟨k2_0, z2_0, k2_1, z2_1, k2_2, z2_2, k2_3, z2_3⟩ := H.b4 (g := g2) m2; have ne_g9_g7 := H.ne (g := g9) (g' := g7) 0 1 rfl rfl (by decide); have ne_g7_g9 := ne_g9_g7.symm; have ne_g9_g2 := H.ne (g := g9) (g' := g2) 0 2 rfl rfl (by decide); have ne_g2_g9 := ne_g9_g2.symm))
  (try simp only [Act.put, List.setIfInBounds_toArray, List.set_cons_zero, List.set_cons_succ])
  replace H := ((H.setn [] 0 (.bool (ng d)) rfl).setn [] 1 (.slice A13 (ln d) c14) rfl)
  clear k9_0 z9_0 k9_1 z9_1 k7_0 z7_0 k7_1 z7_1 k2_0 z2_0 k2_1 z2_1 k2_2 z2_2 k2_3 z2_3
  generalize ((w16.setCell ⟨g9, 0, none⟩ (.bool (ng d))).setCell ⟨g9, 1, none⟩ (.slice A13 (ln d) c14)) = w18 at H ⊢
  obtain ⟨k9_0, z9_0, k9_1, z9_1⟩ := H.b2 (g := g9) m0
  obtain ⟨k7_0, z7_0, k7_1, z7_1⟩ := H.b2 (g := g7) m1
  obtain ⟨k2_0, z2_0, k2_1, z2_1, k2_2, z2_2, k2_3, z2_3⟩ := H.b4 (g := g2) m2
  have st20 := trivial
  have st26 := trivial
  have st28 := trivial
  go_upto_region 11 with (first
    | (clear st20; go_at_call 25; (with_reducible refine (SignQ _ _ _ (lim bd.out (by decide)) 1 hs.out).mono ?_); rintro e w19 ⟨rfl, hb⟩; replace H := H.call hb; clear hb; clear k9_0 z9_0 k9_1 z9_1 k7_0 z7_0 k7_1 z7_1 k2_0 z2_0 k2_1 z2_1 k2_2 z2_2 k2_3 z2_3; obtain ⟨k9_0, z9_0, k9_1, z9_1⟩ := H.b2 (g := g9) m0; obtain ⟨k7_0, z7_0, k7_1, z7_1⟩ := H.b2 (g := g7) m1; obtain ⟨k2_0, z2_0, k2_1, z2_1, k2_2, z2_2, k2_3, z2_3⟩ := H.b4 (g := g2) m2)
    | (clear st26; go_at_call 86; (with_reducible refine (MustQ (H.row _ m1) (H.row _ m0) (lim bn.out (by decide)) (lim bd.out (by decide)) rn rd hm.out).mono ?_); rintro e w21 ⟨A22, c23, A24, c25, rfl, hr, hr2, hb⟩; replace H := (H.got hr hb).more ((H.got hr2 hb).row _ m0); clear hr hr2 hb; clear k9_0 z9_0 k9_1 z9_1 k7_0 z7_0 k7_1 z7_1 k2_0 z2_0 k2_1 z2_1 k2_2 z2_2 k2_3 z2_3; obtain ⟨k9_0, z9_0, k9_1, z9_1⟩ := H.b2 (g := g9) m0; obtain ⟨k7_0, z7_0, k7_1, z7_1⟩ := H.b2 (g := g7) m1; obtain ⟨k2_0, z2_0, k2_1, z2_1, k2_2, z2_2, k2_3, z2_3⟩ := H.b4 (g := g2) m2)
    | (clear st28; (with_reducible refine gate_dst (N := 11) rfl ?_); refine box_event ?hg (N := 11) ?hd (cs := #[.bool false, .slice none 0 0, .bool false, .slice none 0 0]) (t := 51) ?hr ?_; (case hd => rfl); (case hg => rfl); (case hr => go_simp; try rfl); intro g11 hg w27 hbox hb; replace H := H.newbox hg hbox hb; clear hg hbox hb; clear k9_0 z9_0 k9_1 z9_1 k7_0 z7_0 k7_1 z7_1 k2_0 z2_0 k2_1 z2_1 k2_2 z2_2 k2_3 z2_3; obtain ⟨k11_0, z11_0, k11_1, z11_1, k11_2, z11_2, k11_3, z11_3⟩ := H.b4 (g := g11) m0; obtain ⟨k9_0, z9_0, k9_1, z9_1⟩ := H.b2 (g := g9) m1; obtain ⟨k7_0, z7_0, k7_1, z7_1⟩ := H.b2 (g := g7) m2; obtain ⟨k2_0, z2_0, k2_1, z2_1, k2_2, z2_2, k2_3, z2_3⟩ := H.b4 (g := g2) m3; have ne_g11_g9 := H.ne (g := g11) (g' := g9) 0 1 rfl rfl (by decide); have ne_g9_g11 := ne_g11_g9.symm; have ne_g11_g7 := H.ne (g := g11) (g' := g7) 0 2 rfl rfl (by decide); have ne_g7_g11 := ne_g11_g7.symm; have ne_g11_g2 := H.ne (g := g11) (g' := g2) 0 3 rfl rfl (by decide); have ne_g2_g11 := ne_g11_g2.symm))
  (try simp only [Act.put, List.setIfInBounds_toArray, List.set_cons_zero, List.set_cons_succ])
  replace H := ((((H.setn [] 0 (.bool (ng rn)) rfl).setn [] 1 (.slice A22 (ln rn) c23) rfl).setn [] 2 (.bool (ng rd)) rfl).setn [] 3 (.slice A24 (ln rd) c25) rfl)
  clear k11_0 z11_0 k11_1 z11_1 k11_2 z11_2 k11_3 z11_3 k9_0 z9_0 k9_1 z9_1 k7_0 z7_0 k7_1 z7_1 k2_0 z2_0 k2_1 z2_1 k2_2 z2_2 k2_3 z2_3
  generalize ((((w27.setCell ⟨g11, 0, none⟩ (.bool (ng rn))).setCell ⟨g11, 1, none⟩ (.slice A22 (ln rn) c23)).setCell ⟨g11, 2, none⟩ (.bool (ng rd))).setCell ⟨g11, 3, none⟩ (.slice A24 (ln rd) c25)) = w29 at H ⊢
  obtain ⟨k11_0, z11_0, k11_1, z11_1, k11_2, z11_2, k11_3, z11_3⟩ := H.b4 (g := g11) m0
  obtain ⟨k9_0, z9_0, k9_1, z9_1⟩ := H.b2 (g := g9) m1
  obtain ⟨k7_0, z7_0, k7_1, z7_1⟩ := H.b2 (g := g7) m2
  obtain ⟨k2_0, z2_0, k2_1, z2_1, k2_2, z2_2, k2_3, z2_3⟩ := H.b4 (g := g2) m3
  have st31 := trivial
  go_wp2_with (first
    | (clear st31; go_at_call 46; (with_reducible refine (TextR (H.row _ m1) (H.row _ m0) (limR brn.out (by decide)) (limR brd.out (by decide)) s ht.out).mono ?_); rintro e w30 ⟨rfl, hb⟩; replace H := H.call hb; clear hb; clear k11_0 z11_0 k11_1 z11_1 k11_2 z11_2 k11_3 z11_3 k9_0 z9_0 k9_1 z9_1 k7_0 z7_0 k7_1 z7_1 k2_0 z2_0 k2_1 z2_1 k2_2 z2_2 k2_3 z2_3; obtain ⟨k11_0, z11_0, k11_1, z11_1, k11_2, z11_2, k11_3, z11_3⟩ := H.b4 (g := g11) m0; obtain ⟨k9_0, z9_0, k9_1, z9_1⟩ := H.b2 (g := g9) m1; obtain ⟨k7_0, z7_0, k7_1, z7_1⟩ := H.b2 (g := g7) m2; obtain ⟨k2_0, z2_0, k2_1, z2_1, k2_2, z2_2, k2_3, z2_3⟩ := H.b4 (g := g2) m3))
  replace H := ((((H.setn [_, _, _] 0 (.bool (ng rn)) rfl).setn [_, _, _] 1 (.slice A22 (ln rn) c23) rfl).setn [_, _, _] 2 (.bool (ng rd)) rfl).setn [_, _, _] 3 (.slice A24 (ln rd) c25) rfl)
  refine bodyPost_ret (results_list (rs := [.cell 2 51, .tmp 3]) rfl (by simp) (.cell g2 51 #[.bool (ng rn), .slice A22 (ln rn) c23, .bool (ng rd), .slice A24 (ln rd) c25] (0, 0) _ rfl (H.blk m3) Try.underlying51 rfl (by kernel_rfl) (.tmp .nil))) rfl ?_
  exact ⟨A22, c23, A24, c25, rfl, (H.ret m1).mono (fun k hk => hk.elim (fun h => h.elim) id), (H.ret m0).mono (fun k hk => hk.elim (fun h => h.elim) id), H.below⟩

theorem RParse_n4 (s a b : ByteArray) (w : World) (h : (s.size : Int) ≤ 4096) (hcut : Aside0 (cutL s = a ∧ cutR s = b ∧ cutF s = false)) (n d e f : Int) (ha : Aside0 (pr a = (n, e))) (hb' : Aside0 (pr ⟨#[49]⟩ = (d, f))) (t1 : (e != 0) = false) (t2 : (f != 0) = false) (bn : Aside0 (ln n ≤ 512)) (bd : Aside0 (ln d ≤ 512)) (hs : Aside0 (sg d = 1)) (rn rd : Int) (hm : Aside0 (qn n d = rn ∧ qd n d = rd)) (brn : Aside0 (ln rn ≤ 512)) (brd : Aside0 (ln rd ≤ 512)) (t : ByteArray) (ht : Aside0 (qt rn rd = t)) (t4 : (t.toList == s.toList) = false) : Calls Try.prog 49 #[.string s] w (RetQP w 0 0 3) := by
  have hu25 := Try.underlying25
  have hu51 := Try.underlying51
  have H := Sit.start w (fun _ => False)
  have p1 : decide (4096 < (s.size : Int)) = false := decide_eq_false (by omega)
  have p2 : decide (4096 < s.size) = false := decide_eq_false (by omega)
  have p3 : ¬ 4096 < s.size := by omega
  replace h := Aside0.mk h
  go_enter Try.func49, Try.ntmps49
  have st2 := trivial
  have st4 := trivial
  have st8 := trivial
  have st10 := trivial
  go_upto_region 7 with (first
    | (clear st2; (with_reducible refine gate_dst (N := 2) rfl ?_); refine box_event ?hg (N := 2) ?hd (cs := #[.bool false, .slice none 0 0, .bool false, .slice none 0 0]) (t := 51) ?hr ?_; (case hd => rfl); (case hg => rfl); (case hr => go_simp; try rfl); intro g2 hg w1 hbox hb; replace H := H.newbox hg hbox hb; clear hg hbox hb; obtain ⟨k2_0, z2_0, k2_1, z2_1, k2_2, z2_2, k2_3, z2_3⟩ := H.b4 (g := g2) m0)
    | (clear st4; go_at_call 87; (with_reducible refine (CutQ s _ h.out a b false hcut.out).mono ?_); rintro e w3 ⟨rfl, hb⟩; replace H := H.call hb; clear hb; clear k2_0 z2_0 k2_1 z2_1 k2_2 z2_2 k2_3 z2_3; obtain ⟨k2_0, z2_0, k2_1, z2_1, k2_2, z2_2, k2_3, z2_3⟩ := H.b4 (g := g2) m0)
    | (clear st8; go_at_call 23; (with_reducible refine (ParseQ a _ n e ha.out).mono ?_); rintro e w5 ⟨A6, c7, rfl, hr, hb⟩; replace H := H.got (fresh_row hr) hb; clear hr hb; clear k2_0 z2_0 k2_1 z2_1 k2_2 z2_2 k2_3 z2_3; obtain ⟨k2_0, z2_0, k2_1, z2_1, k2_2, z2_2, k2_3, z2_3⟩ := H.b4 (g := g2) m0)
    | (clear st10; (with_reducible refine gate_dst (N := 7) rfl ?_); refine box_event ?hg (N := 7) ?hd (cs := #[.bool false, .slice none 0 0]) (t := 25) ?hr ?_; (case hd => rfl); (case hg => rfl); (case hr => go_simp; try rfl); intro g7 hg w9 hbox hb; replace H := H.newbox hg hbox hb; clear hg hbox hb; clear k2_0 z2_0 k2_1 z2_1 k2_2 z2_2 k2_3 z2_3; obtain ⟨k7_0, z7_0, k7_1, z7_1⟩ := H.b2 (g := g7) m0; obtain ⟨k2_0, z2_0, k2_1, z2_1, k2_2, z2_2, k2_3, z2_3⟩ := H.b4 (g := g2) m1; have ne_g7_g2 := H.ne (g := g7) (g' := g2) 0 1 rfl rfl (by decide); have ne_g2_g7 := ne_g7_g2.symm))
  (try simp only [Act.put, List.setIfInBounds_toArray, List.set_cons_zero, List.set_cons_succ])
  replace H := ((H.setn [] 0 (.bool (ng n)) rfl).setn [] 1 (.slice A6 (ln n) c7) rfl)
  clear k7_0 z7_0 k7_1 z7_1 k2_0 z2_0 k2_1 z2_1 k2_2 z2_2 k2_3 z2_3
  generalize ((w9.setCell ⟨g7, 0, none⟩ (.bool (ng n))).setCell ⟨g7, 1, none⟩ (.slice A6 (ln n) c7)) = w11 at H ⊢
  obtain ⟨k7_0, z7_0, k7_1, z7_1⟩ := H.b2 (g := g7) m0
  obtain ⟨k2_0, z2_0, k2_1, z2_1, k2_2, z2_2, k2_3, z2_3⟩ := H.b4 (g := g2) m1
  have st15 := trivial
  have st17 := trivial
  go_upto_region 8 with (first
    | (clear st15; go_at_call 23; (with_reducible refine (ParseQ ⟨#[49]⟩ _ d f hb'.out).mono ?_); rintro e w12 ⟨A13, c14, rfl, hr, hb⟩; replace H := H.got (fresh_row hr) hb; clear hr hb; clear k7_0 z7_0 k7_1 z7_1 k2_0 z2_0 k2_1 z2_1 k2_2 z2_2 k2_3 z2_3; obtain ⟨k7_0, z7_0, k7_1, z7_1⟩ := H.b2 (g := g7) m0; obtain ⟨k2_0, z2_0, k2_1, z2_1, k2_2, z2_2, k2_3, z2_3⟩ := H.b4 (g := g2) m1)
    | (clear st17; (with_reducible refine gate_dst (N := 9) rfl ?_); refine box_event ?hg (N := 9) ?hd (cs := #[.bool false, .slice none 0 0]) (t := 25) ?hr ?_; (case hd => rfl); (case hg => rfl); (case hr => go_simp; try rfl); intro g9 hg w16 hbox hb; replace H := H.newbox hg hbox hb; clear hg hbox hb; clear k7_0 z7_0 k7_1 z7_1 k2_0 z2_0 k2_1 z2_1 k2_2 z2_2 k2_3 z2_3; obtain ⟨k9_0, z9_0, k9_1, z9_1⟩ := H.b2 (g := g9) m0; obtain ⟨k7_0, z7_0, k7_1, z7_1⟩ := H.b2 (g := g7) m1; obtain ⟨k2_0, z2_0, k2_1, z2_1, k2_2, z2_2, k2_3, z2_3⟩ := H.b4 (g := g2) m2; have ne_g9_g7 := H.ne (g := g9) (g' := g7) 0 1 rfl rfl (by decide); have ne_g7_g9 := ne_g9_g7.symm; have ne_g9_g2 := H.ne (g := g9) (g' := g2) 0 2 rfl rfl (by decide); have ne_g2_g9 := ne_g9_g2.symm))
  (try simp only [Act.put, List.setIfInBounds_toArray, List.set_cons_zero, List.set_cons_succ])
  replace H := ((H.setn [] 0 (.bool (ng d)) rfl).setn [] 1 (.slice A13 (ln d) c14) rfl)
  clear k9_0 z9_0 k9_1 z9_1 k7_0 z7_0 k7_1 z7_1 k2_0 z2_0 k2_1 z2_1 k2_2 z2_2 k2_3 z2_3
  generalize ((w16.setCell ⟨g9, 0, none⟩ (.bool (ng d))).setCell ⟨g9, 1, none⟩ (.slice A13 (ln d) c14)) = w18 at H ⊢
  obtain ⟨k9_0, z9_0, k9_1, z9_1⟩ := H.b2 (g := g9) m0
  obtain ⟨k7_0, z7_0, k7_1, z7_1⟩ := H.b2 (g := g7) m1
  obtain ⟨k2_0, z2_0, k2_1, z2_1, k2_2, z2_2, k2_3, z2_3⟩ := H.b4 (g := g2) m2
  have st20 := trivial
  have st26 := trivial
  have st28 := trivial
  go_upto_region 11 with (first
    | (clear st20; go_at_call 25; (with_reducible refine (SignQ _ _ _ (lim bd.out (by decide)) 1 hs.out).mono ?_); rintro e w19 ⟨rfl, hb⟩; replace H := H.call hb; clear hb; clear k9_0 z9_0 k9_1 z9_1 k7_0 z7_0 k7_1 z7_1 k2_0 z2_0 k2_1 z2_1 k2_2 z2_2 k2_3 z2_3; obtain ⟨k9_0, z9_0, k9_1, z9_1⟩ := H.b2 (g := g9) m0; obtain ⟨k7_0, z7_0, k7_1, z7_1⟩ := H.b2 (g := g7) m1; obtain ⟨k2_0, z2_0, k2_1, z2_1, k2_2, z2_2, k2_3, z2_3⟩ := H.b4 (g := g2) m2)
    | (clear st26; go_at_call 86; (with_reducible refine (MustQ (H.row _ m1) (H.row _ m0) (lim bn.out (by decide)) (lim bd.out (by decide)) rn rd hm.out).mono ?_); rintro e w21 ⟨A22, c23, A24, c25, rfl, hr, hr2, hb⟩; replace H := (H.got hr hb).more ((H.got hr2 hb).row _ m0); clear hr hr2 hb; clear k9_0 z9_0 k9_1 z9_1 k7_0 z7_0 k7_1 z7_1 k2_0 z2_0 k2_1 z2_1 k2_2 z2_2 k2_3 z2_3; obtain ⟨k9_0, z9_0, k9_1, z9_1⟩ := H.b2 (g := g9) m0; obtain ⟨k7_0, z7_0, k7_1, z7_1⟩ := H.b2 (g := g7) m1; obtain ⟨k2_0, z2_0, k2_1, z2_1, k2_2, z2_2, k2_3, z2_3⟩ := H.b4 (g := g2) m2)
    | (clear st28; (with_reducible refine gate_dst (N := 11) rfl ?_); refine box_event ?hg (N := 11) ?hd (cs := #[.bool false, .slice none 0 0, .bool false, .slice none 0 0]) (t := 51) ?hr ?_; (case hd => rfl); (case hg => rfl); (case hr => go_simp; try rfl); intro g11 hg w27 hbox hb; replace H := H.newbox hg hbox hb; clear hg hbox hb; clear k9_0 z9_0 k9_1 z9_1 k7_0 z7_0 k7_1 z7_1 k2_0 z2_0 k2_1 z2_1 k2_2 z2_2 k2_3 z2_3; obtain ⟨k11_0, z11_0, k11_1, z11_1, k11_2, z11_2, k11_3, z11_3⟩ := H.b4 (g := g11) m0; obtain ⟨k9_0, z9_0, k9_1, z9_1⟩ := H.b2 (g := g9) m1; obtain ⟨k7_0, z7_0, k7_1, z7_1⟩ := H.b2 (g := g7) m2; obtain ⟨k2_0, z2_0, k2_1, z2_1, k2_2, z2_2, k2_3, z2_3⟩ := H.b4 (g := g2) m3; have ne_g11_g9 := H.ne (g := g11) (g' := g9) 0 1 rfl rfl (by decide); have ne_g9_g11 := ne_g11_g9.symm; have ne_g11_g7 := H.ne (g := g11) (g' := g7) 0 2 rfl rfl (by decide); have ne_g7_g11 := ne_g11_g7.symm; have ne_g11_g2 := H.ne (g := g11) (g' := g2) 0 3 rfl rfl (by decide); have ne_g2_g11 := ne_g11_g2.symm))
  (try simp only [Act.put, List.setIfInBounds_toArray, List.set_cons_zero, List.set_cons_succ])
  replace H := ((((H.setn [] 0 (.bool (ng rn)) rfl).setn [] 1 (.slice A22 (ln rn) c23) rfl).setn [] 2 (.bool (ng rd)) rfl).setn [] 3 (.slice A24 (ln rd) c25) rfl)
  clear k11_0 z11_0 k11_1 z11_1 k11_2 z11_2 k11_3 z11_3 k9_0 z9_0 k9_1 z9_1 k7_0 z7_0 k7_1 z7_1 k2_0 z2_0 k2_1 z2_1 k2_2 z2_2 k2_3 z2_3
  generalize ((((w27.setCell ⟨g11, 0, none⟩ (.bool (ng rn))).setCell ⟨g11, 1, none⟩ (.slice A22 (ln rn) c23)).setCell ⟨g11, 2, none⟩ (.bool (ng rd))).setCell ⟨g11, 3, none⟩ (.slice A24 (ln rd) c25)) = w29 at H ⊢
  obtain ⟨k11_0, z11_0, k11_1, z11_1, k11_2, z11_2, k11_3, z11_3⟩ := H.b4 (g := g11) m0
  obtain ⟨k9_0, z9_0, k9_1, z9_1⟩ := H.b2 (g := g9) m1
  obtain ⟨k7_0, z7_0, k7_1, z7_1⟩ := H.b2 (g := g7) m2
  obtain ⟨k2_0, z2_0, k2_1, z2_1, k2_2, z2_2, k2_3, z2_3⟩ := H.b4 (g := g2) m3
  have st31 := trivial
  go_wp2_with (first
    | (clear st31; go_at_call 46; (with_reducible refine (TextR (H.row _ m1) (H.row _ m0) (limR brn.out (by decide)) (limR brd.out (by decide)) t ht.out).mono ?_); rintro e w30 ⟨rfl, hb⟩; replace H := H.call hb; clear hb; clear k11_0 z11_0 k11_1 z11_1 k11_2 z11_2 k11_3 z11_3 k9_0 z9_0 k9_1 z9_1 k7_0 z7_0 k7_1 z7_1 k2_0 z2_0 k2_1 z2_1 k2_2 z2_2 k2_3 z2_3; obtain ⟨k11_0, z11_0, k11_1, z11_1, k11_2, z11_2, k11_3, z11_3⟩ := H.b4 (g := g11) m0; obtain ⟨k9_0, z9_0, k9_1, z9_1⟩ := H.b2 (g := g9) m1; obtain ⟨k7_0, z7_0, k7_1, z7_1⟩ := H.b2 (g := g7) m2; obtain ⟨k2_0, z2_0, k2_1, z2_1, k2_2, z2_2, k2_3, z2_3⟩ := H.b4 (g := g2) m3))
  replace H := H.nilrow
  replace H := (((H.setn [_, _, _] 0 (.bool false) rfl).setn [_, _, _] 1 (.slice none 0 0) rfl).setn [_, _, _] 2 (.bool false) rfl).setn [_, _, _] 3 (.slice none 0 0) rfl
  refine bodyPost_ret (results_list (rs := [.cell 2 51, .tmp 3]) rfl (by simp) (.cell g2 51 #[.bool false, .slice none 0 0, .bool false, .slice none 0 0] (0, 0) _ rfl (H.blk m3) Try.underlying51 rfl (by kernel_rfl) (.tmp .nil))) rfl ?_
  exact ⟨none, 0, none, 0, rfl, bw_nil _ _, bw_nil _ _, H.below⟩

end Go.Proofs.Ytdkapdgbfejgdaa
