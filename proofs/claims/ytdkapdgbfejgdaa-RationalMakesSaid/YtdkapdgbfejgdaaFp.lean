/- ontimeref02.Parse. -/
import Derived.Test.YtdkapdgbfejgdaaSq
import Derived.Test.YtdkapdgbfejgdaaFb
namespace Go.Proofs.Ytdkapdgbfejgdaa
open Go.RowKit Go.Proofs.YtdkapdgbfejgdaaW.PrintWords Go.Proofs.YtdkapdgbfejgdaaW.PrintLast Go.Proofs.YtdkapdgbfejgdaaW.PrintMore
set_option linter.unusedSimpArgs false
set_option linter.unusedVariables false
set_option maxHeartbeats 8000000
set_option maxRecDepth 100000

/-- It returns a number of the reference that is a block of its own, and whether there is one. -/
def RetNP (w : World) (x : Int) (b : Bool) (e : Ending) (w' : World) : Prop :=
  ∃ A c, e = .returned (.tuple #[.agg #[.int .i64 (sg x), .slice A (dn x) c], .bool b]) ∧ (nw A c x).at w' (fun k => w.heap.size ≤ k) ∧ Below w.heap.size w w'
theorem ParseN_ok {s : ByteArray} (hs : s.size ≤ 4096) {x : Int} (h : pr s = (x, 0)) (w : World) : Calls Try.prog 24 #[.string s] w (RetNP w x true) := RefParse_ok s hs x h w
theorem ParseN_no {s : ByteArray} (hs : s.size ≤ 4096) {x e : Int} (h : pr s = (x, e)) (he : e ≠ 0) (w : World) : Calls Try.prog 24 #[.string s] w (RetNP w 0 false) := RefParse_no s hs x e h he w
theorem dn_ln {x : Int} {k : Nat} (h : ln x ≤ k) : dn x ≤ 10 * k := by
  refine dn_bound x _ ?_
  have h1 : x.natAbs < 4294967296 ^ (digs x).length := dg_lt 4294967296 (by omega) _
  have h2 : (4294967296 : Nat) ^ (digs x).length ≤ (10 ^ 10) ^ (digs x).length := Nat.pow_le_pow_left (by omega) _
  have h3 : ((10 : Nat) ^ 10) ^ (digs x).length = 10 ^ (10 * (digs x).length) := (Nat.pow_mul ..).symm
  have h4 : (10 : Nat) ^ (10 * (digs x).length) ≤ 10 ^ (10 * k) := Nat.pow_le_pow_right (by omega) (Nat.mul_le_mul_left 10 h)
  omega
/-- It returns a fraction of the reference that is its own, and whether there is one. -/
def RetFP (w : World) (n d : Int) (b : Bool) (e : Ending) (w' : World) : Prop :=
  ∃ A c B k, e = .returned (.tuple #[.agg #[.int .i64 (sg n), .slice A (dn n) c, .int .i64 (sg d), .slice B (dn d) k], .bool b]) ∧ (nw A c n).at w' (fun k => w.heap.size ≤ k) ∧ (nw B k d).at w' (fun k => w.heap.size ≤ k) ∧ Below w.heap.size w w'
/-- Where the first stroke stands, or the end. -/
def at_ (s : ByteArray) : Nat := if 0 ≤ ci s then (ci s).toNat else s.size
theorem at_le (s : ByteArray) : at_ s ≤ s.size := by
  unfold at_
  split
  · next h => have := ci_lt s (ci s).toNat (by omega); omega
  · omega
theorem at_lt (s : ByteArray) : at_ s < s.size ↔ 0 ≤ ci s := by
  unfold at_
  split
  · next h => have := ci_lt s (ci s).toNat (by omega); omega
  · omega
theorem bt_47 (s : ByteArray) (i : Nat) (hi : i < s.size) : bt s (i : Int) = 47 ↔ s.data.toList[i]? = some 47 := by
  have h1 : i < s.data.toList.length := by rw [Array.length_toList]; exact hi
  rw [bt_getD]
  unfold bytesOf
  rw [List.getD_eq_getElem?_getD, List.getElem?_map, List.getElem?_eq_getElem h1]
  show ((s.data.toList[i].toNat : Nat) : Int) = 47 ↔ some s.data.toList[i] = some 47
  constructor
  · intro h
    have h2 : s.data.toList[i].toNat = 47 := by omega
    rw [show s.data.toList[i] = (47 : UInt8) from UInt8.toNat_inj.mp h2]
  · intro h
    injection h with h
    rw [h]; rfl
theorem at_before (s : ByteArray) (i : Nat) (h : i < at_ s) : bt s (i : Int) ≠ 47 := by
  have hle := at_le s
  intro hb
  have hb := (bt_47 s i (by omega)).mp hb
  unfold at_ at h
  split at h
  · next h0 =>
    obtain ⟨k, hk⟩ := Int.eq_ofNat_of_zero_le h0
    rw [hk, Int.toNat_natCast] at h
    exact (Lib.indexByte_some hk).2 i h hb
  · next h0 =>
    have h2 : Lib.indexByte s.data.toList 47 = -1 := by
      have := Lib.indexByte_ge s.data.toList 47
      unfold ci at h0
      omega
    exact Lib.indexByte_none h2 i hb
theorem at_there (s : ByteArray) (h : at_ s < s.size) : bt s ((at_ s : Nat) : Int) = 47 := by
  have h0 := (at_lt s).mp h
  obtain ⟨k, hk⟩ := Int.eq_ofNat_of_zero_le h0
  have e : at_ s = k := by unfold at_; rw [if_pos h0, hk, Int.toNat_natCast]
  rw [e] at h ⊢
  exact (bt_47 s k h).mpr (Lib.indexByte_some hk).1
theorem sg_le {v : Int} (h : v ≤ 0) : decide (0 < sg v) = false := by
  refine decide_eq_false ?_
  unfold sg
  split
  · decide
  · rw [if_pos (by omega)]; decide
theorem qn_dn' {a b r : Int} {m : Nat} (h : dn a ≤ m) (e : qn a b = r) : dn r ≤ m := by
  refine dLe h ?_
  rw [← e]
  unfold qn
  split
  · omega
  · rw [Int.natAbs_tdiv]
    refine Nat.le_trans (Nat.div_le_self _ _) ?_
    split <;> omega
theorem qd_dn' {a b r : Int} {m : Nat} (h : dn b ≤ m) (e : qd a b = r) : dn r ≤ m := by
  refine dLe h ?_
  rw [← e]
  unfold qd
  split
  · omega
  · rw [Int.natAbs_tdiv]
    refine Nat.le_trans (Nat.div_le_self _ _) ?_
    split <;> omega


theorem ParseF_ (s : ByteArray) (w : World) (K : Nat) (hK : at_ s = K) (hs : s.size ≤ 4096) (u v i R D : Int) (b1 b2 bb : Bool) (t : ByteArray) (bu : Aside0 (dn u ≤ 90000)) (bv : Aside0 (dn v ≤ 90000)) (bi : Aside0 (dn i ≤ 90000)) (bR : Aside0 (dn R ≤ 90000)) (bD : Aside0 (dn D ≤ 90000)) (hi : Aside0 (1 = i))
    (hP1 : Aside0 (∀ w, Calls Try.prog 24 #[.string (s.extract 0 K)] w (RetNP w u b1))) (hP2' : Aside0 (K < s.size → ∀ w, Calls Try.prog 24 #[.string (s.extract (K + 1) s.size)] w (RetNP w v b2)))
    (hcs : Aside0 ((b1 = false ∧ R = 0 ∧ D = 0 ∧ bb = false) ∨ (b1 = true ∧ ¬ K < s.size ∧ (i ≠ 0 ∧ qn u i = R ∧ qd u i = D) ∧ (D ≠ 0 ∧ qt R D = t) ∧ (t.toList == s.toList) = bb) ∨ (b1 = true ∧ K < s.size ∧ b2 = false ∧ R = 0 ∧ D = 0 ∧ bb = false) ∨
      (b1 = true ∧ K < s.size ∧ b2 = true ∧ decide (0 < sg v) = false ∧ R = 0 ∧ D = 0 ∧ bb = false) ∨ (b1 = true ∧ K < s.size ∧ b2 = true ∧ decide (0 < sg v) = true ∧ (v ≠ 0 ∧ qn u v = R ∧ qd u v = D) ∧ (D ≠ 0 ∧ qt R D = t) ∧ (t.toList == s.toList) = bb))) : Calls Try.prog 62 #[.string s] w (RetFP w R D bb) := by
  have hu31 := Try.underlying31
  have hu76 := Try.underlying76
  have HK := Aside0.mk hK
  have hKs : K ≤ s.size := by rw [← hK]; exact at_le s
  clear hK
  have H := Sit.start w (fun _ => False)
  go_enter Try.func62, Try.ntmps62
  go_wp2_with (first
    | ((with_reducible refine gate_dst (N := 2) rfl ?_); refine bE #[.int .i64 0, .slice none 0 0, .int .i64 0, .slice none 0 0] 76 H ?_; clear H; intro g2 w1 H))
  go_loopw [4, 5] (fun va vi wr => ∃ (i a : Nat), vi = .int .i64 i ∧ va = .int .i64 a ∧ i ≤ s.size ∧ a = (if K < i then K else s.size) ∧ Sit w wr (fun _ => False) [(g2, .cells #[.int .i64 0, .slice none 0 0, .int .i64 0, .slice none 0 0] 76 (0, 0))] []) (fun _ vi _ => s.size - (intOf vi).toNat)
  case atStart => exact ⟨0, s.size, by go_num, rfl, by omega, by rw [if_neg (by omega)], H⟩
  case round =>
    clear H
    obtain ⟨i', a, rfl, rfl, hil, ha, H⟩ := hrel
    by_cases hlt : i' < s.size
    · have hx : ∀ h : i' < s.size, ((s[i']'h).toNat : Int) = bt s (i' : Int) := bt_at s (i' : Int)
      obtain ⟨b, hb⟩ : ∃ b, bt s (i' : Int) = b := ⟨_, rfl⟩
      rw [hb] at hx
      rcases Nat.lt_trichotomy i' K with hc | hc | hc
      · have t1 : (b == 47) = false := beq_eq_false_iff_ne.mpr (by rw [← hb]; exact at_before s i' (by rw [HK.out]; exact hc))
        rw [if_neg (show ¬ K < i' by omega)] at ha
        have HA := Aside0.mk (show a = if K < i' + 1 then K else s.size by rw [if_neg (show ¬ K < i' + 1 by omega)]; exact ha)
        clear ha hb hc
        go_wp2
        go_roundw
        case rel => exact ⟨i' + 1, a, by go_num, rfl, by omega, HA.out, H⟩
        case measure => first | (simp [intOf]; done) | (simp [intOf]; omega)
      · have t1 : (b == 47) = true := beq_iff_eq.mpr (by rw [← hb, hc, ← HK.out]; exact at_there s (by rw [HK.out]; omega))
        rw [if_neg (show ¬ K < i' by omega)] at ha
        subst ha
        have HA := Aside0.mk (show i' = if K < i' + 1 then K else s.size by rw [if_pos (show K < i' + 1 by omega)]; exact hc)
        have t2 : (s.size == s.size) = true := by simp
        clear hb hc
        go_wp2
        go_roundw
        case rel => exact ⟨i' + 1, i', by go_num, rfl, by omega, HA.out, H⟩
        case measure => first | (simp [intOf]; done) | (simp [intOf]; omega)
      · rw [if_pos hc] at ha
        subst ha
        have HA := Aside0.mk (show a = if a < i' + 1 then a else s.size by rw [if_pos (show a < i' + 1 by omega)])
        have hne : ¬ a = s.size := by omega
        have t2 : ((a : Int) == (s.size : Int)) = false := beq_eq_false_iff_ne.mpr (by omega)
        have t3 : (a == s.size) = false := beq_eq_false_iff_ne.mpr hne
        clear hb
        have hbb : (b == 47) = true ∨ (b == 47) = false := by cases (b == 47) <;> simp
        rcases hbb with t1 | t1
        all_goals
          go_wp2
          go_roundw
          case rel => exact ⟨i' + 1, a, by go_num, rfl, by omega, HA.out, H⟩
          case measure => first | (simp [intOf]; done) | (simp [intOf]; omega)
    · obtain rfl : i' = s.size := by omega
      obtain rfl : a = K := by rw [ha]; split <;> omega
      clear hlt hil ha
      have f1 : (0 : Int) ≤ (a : Int) := by omega
      have f3 : (a : Int) ≤ (s.size : Int) := by omega
      have f2 := H.b4 (g := g2) m0
      rcases hcs.out with ⟨e1, eR, eD, eb⟩ | ⟨e1, hle, hm, ht, fT⟩ | ⟨e1, hlt, e2, eR, eD, eb⟩ | ⟨e1, hlt, e2, t5, eR, eD, eb⟩ | ⟨e1, hlt, e2, t5, hm, ht, fT⟩
      · skip
        subst e1 eR eD eb
        have st4 := trivial
        have st6 := trivial
        go_upto_region 8 with (first
          | (clear st4; go_at_call 24; (with_reducible refine (hP1.out _).mono ?_); rintro e w1 ⟨A2, c3, rfl, hr, hb⟩; replace H := H.got (fresh_row hr) hb; clear hr hb; clear f2; have f2 := H.b4 (g := g2) m0)
          | (clear st6; (with_reducible refine gate_dst (N := 6) rfl ?_); refine bE #[.int .i64 0, .slice none 0 0] 31 H ?_; clear H; intro g6 w5 H; clear f2; have f6 := H.b2 (g := g6) m0; have f2 := H.b4 (g := g2) m1; have ne_g6_g2 := H.ne (g := g6) (g' := g2) 0 1 rfl rfl (by decide); have ne_g2_g6 := ne_g6_g2.symm))
        (try simp only [nn])
        replace H := ((H.setn [] 0 (.int .i64 (sg u)) rfl).setn [] 1 (.slice A2 (dn u) c3) rfl)
        clear f6 f2
        generalize ((w5.setCell ⟨g6, 0, none⟩ (.int .i64 (sg u))).setCell ⟨g6, 1, none⟩ (.slice A2 (dn u) c3)) = w7 at H ⊢
        have f6 := H.b2 (g := g6) m0
        have f2 := H.b4 (g := g2) m1
        have st11 := trivial
        have st13 := trivial
        go_upto_region 9 with (first
          | (clear st11; go_at_call 93; (with_reducible refine (OneN _ i hi.out).mono ?_); rintro e w8 ⟨A9, c10, rfl, hr, hb⟩; replace H := H.got (fresh_row hr) hb; clear hr hb; clear f6 f2; have f6 := H.b2 (g := g6) m0; have f2 := H.b4 (g := g2) m1)
          | (clear st13; (with_reducible refine gate_dst (N := 8) rfl ?_); refine bE #[.int .i64 0, .slice none 0 0] 31 H ?_; clear H; intro g8 w12 H; clear f6 f2; have f8 := H.b2 (g := g8) m0; have f6 := H.b2 (g := g6) m1; have f2 := H.b4 (g := g2) m2; have ne_g8_g6 := H.ne (g := g8) (g' := g6) 0 1 rfl rfl (by decide); have ne_g6_g8 := ne_g8_g6.symm; have ne_g8_g2 := H.ne (g := g8) (g' := g2) 0 2 rfl rfl (by decide); have ne_g2_g8 := ne_g8_g2.symm))
        (try simp only [nn])
        replace H := ((H.setn [] 0 (.int .i64 (sg i)) rfl).setn [] 1 (.slice A9 (dn i) c10) rfl)
        clear f8 f6 f2
        generalize ((w12.setCell ⟨g8, 0, none⟩ (.int .i64 (sg i))).setCell ⟨g8, 1, none⟩ (.slice A9 (dn i) c10)) = w14 at H ⊢
        have f8 := H.b2 (g := g8) m0
        have f6 := H.b2 (g := g6) m1
        have f2 := H.b4 (g := g2) m2
        go_wp2
        replace H := H.set4 [_, _] (.int .i64 0) (.slice none 0 0) (.int .i64 0) (.slice none 0 0)
        refine bodyPost_ret (results_list (rs := [.cell 2 76, .tmp 3]) rfl (by simp) (.cell g2 76 #[.int .i64 0, .slice none 0 0, .int .i64 0, .slice none 0 0] (0, 0) _ rfl (H.blk m2) Try.underlying76 rfl (by kernel_rfl) (.tmp .nil))) rfl ?_
        exact ⟨none, 0, none, 0, rfl, nw_nil _ _, nw_nil _ _, H.below⟩
      · skip
        subst e1
        have z1 : ¬ a < s.size := hle
        have z2 : decide (a < s.size) = false := decide_eq_false hle
        have hM := Aside0.mk hm; have hT := Aside0.mk ht; clear hm ht
        have st18 := trivial
        have st20 := trivial
        go_upto_region 8 with (first
          | (clear st18; go_at_call 24; (with_reducible refine (hP1.out _).mono ?_); rintro e w15 ⟨A16, c17, rfl, hr, hb⟩; replace H := H.got (fresh_row hr) hb; clear hr hb; clear f2; have f2 := H.b4 (g := g2) m0)
          | (clear st20; (with_reducible refine gate_dst (N := 6) rfl ?_); refine bE #[.int .i64 0, .slice none 0 0] 31 H ?_; clear H; intro g6 w19 H; clear f2; have f6 := H.b2 (g := g6) m0; have f2 := H.b4 (g := g2) m1; have ne_g6_g2 := H.ne (g := g6) (g' := g2) 0 1 rfl rfl (by decide); have ne_g2_g6 := ne_g6_g2.symm))
        (try simp only [nn])
        replace H := ((H.setn [] 0 (.int .i64 (sg u)) rfl).setn [] 1 (.slice A16 (dn u) c17) rfl)
        clear f6 f2
        generalize ((w19.setCell ⟨g6, 0, none⟩ (.int .i64 (sg u))).setCell ⟨g6, 1, none⟩ (.slice A16 (dn u) c17)) = w21 at H ⊢
        have f6 := H.b2 (g := g6) m0
        have f2 := H.b4 (g := g2) m1
        have st25 := trivial
        have st27 := trivial
        go_upto_region 9 with (first
          | (clear st25; go_at_call 93; (with_reducible refine (OneN _ i hi.out).mono ?_); rintro e w22 ⟨A23, c24, rfl, hr, hb⟩; replace H := H.got (fresh_row hr) hb; clear hr hb; clear f6 f2; have f6 := H.b2 (g := g6) m0; have f2 := H.b4 (g := g2) m1)
          | (clear st27; (with_reducible refine gate_dst (N := 8) rfl ?_); refine bE #[.int .i64 0, .slice none 0 0] 31 H ?_; clear H; intro g8 w26 H; clear f6 f2; have f8 := H.b2 (g := g8) m0; have f6 := H.b2 (g := g6) m1; have f2 := H.b4 (g := g2) m2; have ne_g8_g6 := H.ne (g := g8) (g' := g6) 0 1 rfl rfl (by decide); have ne_g6_g8 := ne_g8_g6.symm; have ne_g8_g2 := H.ne (g := g8) (g' := g2) 0 2 rfl rfl (by decide); have ne_g2_g8 := ne_g8_g2.symm))
        (try simp only [nn])
        replace H := ((H.setn [] 0 (.int .i64 (sg i)) rfl).setn [] 1 (.slice A23 (dn i) c24) rfl)
        clear f8 f6 f2
        generalize ((w26.setCell ⟨g8, 0, none⟩ (.int .i64 (sg i))).setCell ⟨g8, 1, none⟩ (.slice A23 (dn i) c24)) = w28 at H ⊢
        have f8 := H.b2 (g := g8) m0
        have f6 := H.b2 (g := g6) m1
        have f2 := H.b4 (g := g2) m2
        go_upto_region 14 with fail
        (try simp only [nn])
        have st34 := trivial
        have st36 := trivial
        go_upto_region 15 with (first
          | (clear st34; go_at_call 65; (with_reducible refine (MakeF (H.row _ m1) (H.row _ m0) (Nat.le_trans bu.out (by decide)) (Nat.le_trans bi.out (by decide)) R D hM.out).mono ?_); rintro e w29 ⟨A30, c31, A32, c33, rfl, hr, hr2, hb⟩; replace H := (H.got hr hb).more ((H.got hr2 hb).row _ m0); clear hr hr2 hb; clear f8 f6 f2; have f8 := H.b2 (g := g8) m0; have f6 := H.b2 (g := g6) m1; have f2 := H.b4 (g := g2) m2)
          | (clear st36; (with_reducible refine gate_dst (N := 9) rfl ?_); refine bE #[.int .i64 0, .slice none 0 0, .int .i64 0, .slice none 0 0] 76 H ?_; clear H; intro g9 w35 H; clear f8 f6 f2; have f9 := H.b4 (g := g9) m0; have f8 := H.b2 (g := g8) m1; have f6 := H.b2 (g := g6) m2; have f2 := H.b4 (g := g2) m3; have ne_g9_g8 := H.ne (g := g9) (g' := g8) 0 1 rfl rfl (by decide); have ne_g8_g9 := ne_g9_g8.symm; have ne_g9_g6 := H.ne (g := g9) (g' := g6) 0 2 rfl rfl (by decide); have ne_g6_g9 := ne_g9_g6.symm; have ne_g9_g2 := H.ne (g := g9) (g' := g2) 0 3 rfl rfl (by decide); have ne_g2_g9 := ne_g9_g2.symm))
        (try simp only [nn])
        replace H := H.set4 [] (.int .i64 (sg R)) (.slice A30 (dn R) c31) (.int .i64 (sg D)) (.slice A32 (dn D) c33)
        clear f9 f8 f6 f2
        generalize ((((w35.setCell ⟨g9, 0, none⟩ (.int .i64 (sg R))).setCell ⟨g9, 1, none⟩ (.slice A30 (dn R) c31)).setCell ⟨g9, 2, none⟩ (.int .i64 (sg D))).setCell ⟨g9, 3, none⟩ (.slice A32 (dn D) c33)) = w37 at H ⊢
        have f9 := H.b4 (g := g9) m0
        have f8 := H.b2 (g := g8) m1
        have f6 := H.b2 (g := g6) m2
        have f2 := H.b4 (g := g2) m3
        clear f9 f8 f6 f2
        replace H := H.drew
        refine start_ (n := 7) (S := fun w' => w'.cell? ⟨g9, 0, none⟩ = some (.int .i64 (sg R)) ∧ w'.cell? ⟨g9, 1, none⟩ = some (.slice A30 (dn R) c31) ∧ w'.cell? ⟨g9, 2, none⟩ = some (.int .i64 (sg D)) ∧ w'.cell? ⟨g9, 3, none⟩ = some (.slice A32 (dn D) c33)) (ds := [5]) #[false, false, false, false, false, false, false] (by kernel_rfl) rfl rfl (H.d4 m0) (fun hQ => ?_)
        generalize w37.drew = w38 at H hQ ⊢
        refine pU 3 67 (bm 7 8) ?_
        refine tU hQ 0 64 (bm 7 9) ?_
        refine tU hQ 1 65 (bm 7 11) ?_
        refine one_ (i := 2) (N := some 66) #[true, true, true, true, false, false, false] rfl rfl (by kernel_rfl) (by decide) (fun a hK => ?_)
        refine gT Try.func64 #[.agg #[.int .i64 (sg R), .slice A30 (dn R) c31, .int .i64 (sg D), .slice A32 (dn D) c33]] ?_
        with_reducible refine (TextF (H.row _ m1) (H.row _ m0) (Nat.le_trans bR.out (by decide)) (Nat.le_trans bD.out (by decide)) t hT.out).mono ?_
        rintro e w39 ⟨rfl, hb⟩
        replace H := H.call hb
        clear hb
        refine ⟨_, rfl, ?_⟩
        refine hK.out _ _ (H.d4 m0) (fun hQ => ?_)
        clear hK a
        refine nT ?_
        refine pU 4 68 (bm 7 31) ?_
        refine last_ (i := 5) (N := none) #[true, true, true, true, true, true, false] rfl rfl (by kernel_rfl) (by decide) (fun a hK => ?_)
        have f9 := H.b4 (g := g9) m0
        have f2 := H.b4 (g := g2) m3
        refine kT ?_
        refine hK.out _ _ ?_
        clear hK a
        refine pU 6 3 (bm 7 127) ?_
        refine done_ (by kernel_rfl) ?_
        try clear hQ
        go_wp2
        replace H := H.set4 [_, _, _] (.int .i64 (sg R)) (.slice A30 (dn R) c31) (.int .i64 (sg D)) (.slice A32 (dn D) c33)
        refine bodyPost_ret (results_list (rs := [.cell 2 76, .tmp 3]) rfl (by simp) (.cell g2 76 #[.int .i64 (sg R), .slice A30 (dn R) c31, .int .i64 (sg D), .slice A32 (dn D) c33] (0, 0) _ rfl (H.blk m3) Try.underlying76 rfl (by kernel_rfl) (.tmp .nil))) rfl ?_
        exact ⟨A30, c31, A32, c33, rfl, (H.ret m1).mono (fun k hk => hk.elim (fun h => h.elim) id), (H.ret m0).mono (fun k hk => hk.elim (fun h => h.elim) id), H.below⟩
      · skip
        subst e1
        have z2 : decide (a < s.size) = true := decide_eq_true hlt
        have hP2 := Aside0.mk (hP2'.out hlt)
        have f4 : IntKind.i64.wrap ((a : Int) + 1) = (a : Int) + 1 := by rw [i64_w, w64 (by omega) (by omega)]
        have f5 : (0 : Int) ≤ (a : Int) + 1 := by omega
        have f6 : (a : Int) + 1 ≤ (s.size : Int) := by omega
        subst e2 eR eD eb
        have st43 := trivial
        have st45 := trivial
        go_upto_region 8 with (first
          | (clear st43; go_at_call 24; (with_reducible refine (hP1.out _).mono ?_); rintro e w40 ⟨A41, c42, rfl, hr, hb⟩; replace H := H.got (fresh_row hr) hb; clear hr hb; clear f2; have f2 := H.b4 (g := g2) m0)
          | (clear st45; (with_reducible refine gate_dst (N := 6) rfl ?_); refine bE #[.int .i64 0, .slice none 0 0] 31 H ?_; clear H; intro g6 w44 H; clear f2; have f6 := H.b2 (g := g6) m0; have f2 := H.b4 (g := g2) m1; have ne_g6_g2 := H.ne (g := g6) (g' := g2) 0 1 rfl rfl (by decide); have ne_g2_g6 := ne_g6_g2.symm))
        (try simp only [nn])
        replace H := ((H.setn [] 0 (.int .i64 (sg u)) rfl).setn [] 1 (.slice A41 (dn u) c42) rfl)
        clear f6 f2
        generalize ((w44.setCell ⟨g6, 0, none⟩ (.int .i64 (sg u))).setCell ⟨g6, 1, none⟩ (.slice A41 (dn u) c42)) = w46 at H ⊢
        have f6 := H.b2 (g := g6) m0
        have f2 := H.b4 (g := g2) m1
        have st50 := trivial
        have st52 := trivial
        go_upto_region 9 with (first
          | (clear st50; go_at_call 93; (with_reducible refine (OneN _ i hi.out).mono ?_); rintro e w47 ⟨A48, c49, rfl, hr, hb⟩; replace H := H.got (fresh_row hr) hb; clear hr hb; clear f6 f2; have f6 := H.b2 (g := g6) m0; have f2 := H.b4 (g := g2) m1)
          | (clear st52; (with_reducible refine gate_dst (N := 8) rfl ?_); refine bE #[.int .i64 0, .slice none 0 0] 31 H ?_; clear H; intro g8 w51 H; clear f6 f2; have f8 := H.b2 (g := g8) m0; have f6 := H.b2 (g := g6) m1; have f2 := H.b4 (g := g2) m2; have ne_g8_g6 := H.ne (g := g8) (g' := g6) 0 1 rfl rfl (by decide); have ne_g6_g8 := ne_g8_g6.symm; have ne_g8_g2 := H.ne (g := g8) (g' := g2) 0 2 rfl rfl (by decide); have ne_g2_g8 := ne_g8_g2.symm))
        (try simp only [nn])
        replace H := ((H.setn [] 0 (.int .i64 (sg i)) rfl).setn [] 1 (.slice A48 (dn i) c49) rfl)
        clear f8 f6 f2
        generalize ((w51.setCell ⟨g8, 0, none⟩ (.int .i64 (sg i))).setCell ⟨g8, 1, none⟩ (.slice A48 (dn i) c49)) = w53 at H ⊢
        have f8 := H.b2 (g := g8) m0
        have f6 := H.b2 (g := g6) m1
        have f2 := H.b4 (g := g2) m2
        have st57 := trivial
        go_upto_region 11 with (first
          | (clear st57; go_at_call 24; (with_reducible refine (hP2.out _).mono ?_); rintro e w54 ⟨A55, c56, rfl, hr, hb⟩; replace H := H.got (fresh_row hr) hb; clear hr hb; clear f8 f6 f2; have f8 := H.b2 (g := g8) m0; have f6 := H.b2 (g := g6) m1; have f2 := H.b4 (g := g2) m2))
        (try simp only [nn])
        replace H := ((H.setn [] 0 (.int .i64 (sg v)) rfl).setn [] 1 (.slice A55 (dn v) c56) rfl)
        clear f8 f6 f2
        generalize ((w54.setCell ⟨g8, 0, none⟩ (.int .i64 (sg v))).setCell ⟨g8, 1, none⟩ (.slice A55 (dn v) c56)) = w58 at H ⊢
        have f8 := H.b2 (g := g8) m0
        have f6 := H.b2 (g := g6) m1
        have f2 := H.b4 (g := g2) m2
        go_wp2
        replace H := H.set4 [_, _] (.int .i64 0) (.slice none 0 0) (.int .i64 0) (.slice none 0 0)
        refine bodyPost_ret (results_list (rs := [.cell 2 76, .tmp 3]) rfl (by simp) (.cell g2 76 #[.int .i64 0, .slice none 0 0, .int .i64 0, .slice none 0 0] (0, 0) _ rfl (H.blk m2) Try.underlying76 rfl (by kernel_rfl) (.tmp .nil))) rfl ?_
        exact ⟨none, 0, none, 0, rfl, nw_nil _ _, nw_nil _ _, H.below⟩
      · skip
        subst e1
        have z2 : decide (a < s.size) = true := decide_eq_true hlt
        have hP2 := Aside0.mk (hP2'.out hlt)
        have f4 : IntKind.i64.wrap ((a : Int) + 1) = (a : Int) + 1 := by rw [i64_w, w64 (by omega) (by omega)]
        have f5 : (0 : Int) ≤ (a : Int) + 1 := by omega
        have f6 : (a : Int) + 1 ≤ (s.size : Int) := by omega
        subst e2 eR eD eb
        have st62 := trivial
        have st64 := trivial
        go_upto_region 8 with (first
          | (clear st62; go_at_call 24; (with_reducible refine (hP1.out _).mono ?_); rintro e w59 ⟨A60, c61, rfl, hr, hb⟩; replace H := H.got (fresh_row hr) hb; clear hr hb; clear f2; have f2 := H.b4 (g := g2) m0)
          | (clear st64; (with_reducible refine gate_dst (N := 6) rfl ?_); refine bE #[.int .i64 0, .slice none 0 0] 31 H ?_; clear H; intro g6 w63 H; clear f2; have f6 := H.b2 (g := g6) m0; have f2 := H.b4 (g := g2) m1; have ne_g6_g2 := H.ne (g := g6) (g' := g2) 0 1 rfl rfl (by decide); have ne_g2_g6 := ne_g6_g2.symm))
        (try simp only [nn])
        replace H := ((H.setn [] 0 (.int .i64 (sg u)) rfl).setn [] 1 (.slice A60 (dn u) c61) rfl)
        clear f6 f2
        generalize ((w63.setCell ⟨g6, 0, none⟩ (.int .i64 (sg u))).setCell ⟨g6, 1, none⟩ (.slice A60 (dn u) c61)) = w65 at H ⊢
        have f6 := H.b2 (g := g6) m0
        have f2 := H.b4 (g := g2) m1
        have st69 := trivial
        have st71 := trivial
        go_upto_region 9 with (first
          | (clear st69; go_at_call 93; (with_reducible refine (OneN _ i hi.out).mono ?_); rintro e w66 ⟨A67, c68, rfl, hr, hb⟩; replace H := H.got (fresh_row hr) hb; clear hr hb; clear f6 f2; have f6 := H.b2 (g := g6) m0; have f2 := H.b4 (g := g2) m1)
          | (clear st71; (with_reducible refine gate_dst (N := 8) rfl ?_); refine bE #[.int .i64 0, .slice none 0 0] 31 H ?_; clear H; intro g8 w70 H; clear f6 f2; have f8 := H.b2 (g := g8) m0; have f6 := H.b2 (g := g6) m1; have f2 := H.b4 (g := g2) m2; have ne_g8_g6 := H.ne (g := g8) (g' := g6) 0 1 rfl rfl (by decide); have ne_g6_g8 := ne_g8_g6.symm; have ne_g8_g2 := H.ne (g := g8) (g' := g2) 0 2 rfl rfl (by decide); have ne_g2_g8 := ne_g8_g2.symm))
        (try simp only [nn])
        replace H := ((H.setn [] 0 (.int .i64 (sg i)) rfl).setn [] 1 (.slice A67 (dn i) c68) rfl)
        clear f8 f6 f2
        generalize ((w70.setCell ⟨g8, 0, none⟩ (.int .i64 (sg i))).setCell ⟨g8, 1, none⟩ (.slice A67 (dn i) c68)) = w72 at H ⊢
        have f8 := H.b2 (g := g8) m0
        have f6 := H.b2 (g := g6) m1
        have f2 := H.b4 (g := g2) m2
        have st76 := trivial
        go_upto_region 11 with (first
          | (clear st76; go_at_call 24; (with_reducible refine (hP2.out _).mono ?_); rintro e w73 ⟨A74, c75, rfl, hr, hb⟩; replace H := H.got (fresh_row hr) hb; clear hr hb; clear f8 f6 f2; have f8 := H.b2 (g := g8) m0; have f6 := H.b2 (g := g6) m1; have f2 := H.b4 (g := g2) m2))
        (try simp only [nn])
        replace H := ((H.setn [] 0 (.int .i64 (sg v)) rfl).setn [] 1 (.slice A74 (dn v) c75) rfl)
        clear f8 f6 f2
        generalize ((w73.setCell ⟨g8, 0, none⟩ (.int .i64 (sg v))).setCell ⟨g8, 1, none⟩ (.slice A74 (dn v) c75)) = w77 at H ⊢
        have f8 := H.b2 (g := g8) m0
        have f6 := H.b2 (g := g6) m1
        have f2 := H.b4 (g := g2) m2
        go_wp2
        replace H := H.set4 [_, _] (.int .i64 0) (.slice none 0 0) (.int .i64 0) (.slice none 0 0)
        refine bodyPost_ret (results_list (rs := [.cell 2 76, .tmp 3]) rfl (by simp) (.cell g2 76 #[.int .i64 0, .slice none 0 0, .int .i64 0, .slice none 0 0] (0, 0) _ rfl (H.blk m2) Try.underlying76 rfl (by kernel_rfl) (.tmp .nil))) rfl ?_
        exact ⟨none, 0, none, 0, rfl, nw_nil _ _, nw_nil _ _, H.below⟩
      · skip
        subst e1
        have z2 : decide (a < s.size) = true := decide_eq_true hlt
        have hP2 := Aside0.mk (hP2'.out hlt)
        have f4 : IntKind.i64.wrap ((a : Int) + 1) = (a : Int) + 1 := by rw [i64_w, w64 (by omega) (by omega)]
        have f5 : (0 : Int) ≤ (a : Int) + 1 := by omega
        have f6 : (a : Int) + 1 ≤ (s.size : Int) := by omega
        subst e2
        have hM := Aside0.mk hm; have hT := Aside0.mk ht; clear hm ht
        have st81 := trivial
        have st83 := trivial
        go_upto_region 8 with (first
          | (clear st81; go_at_call 24; (with_reducible refine (hP1.out _).mono ?_); rintro e w78 ⟨A79, c80, rfl, hr, hb⟩; replace H := H.got (fresh_row hr) hb; clear hr hb; clear f2; have f2 := H.b4 (g := g2) m0)
          | (clear st83; (with_reducible refine gate_dst (N := 6) rfl ?_); refine bE #[.int .i64 0, .slice none 0 0] 31 H ?_; clear H; intro g6 w82 H; clear f2; have f6 := H.b2 (g := g6) m0; have f2 := H.b4 (g := g2) m1; have ne_g6_g2 := H.ne (g := g6) (g' := g2) 0 1 rfl rfl (by decide); have ne_g2_g6 := ne_g6_g2.symm))
        (try simp only [nn])
        replace H := ((H.setn [] 0 (.int .i64 (sg u)) rfl).setn [] 1 (.slice A79 (dn u) c80) rfl)
        clear f6 f2
        generalize ((w82.setCell ⟨g6, 0, none⟩ (.int .i64 (sg u))).setCell ⟨g6, 1, none⟩ (.slice A79 (dn u) c80)) = w84 at H ⊢
        have f6 := H.b2 (g := g6) m0
        have f2 := H.b4 (g := g2) m1
        have st88 := trivial
        have st90 := trivial
        go_upto_region 9 with (first
          | (clear st88; go_at_call 93; (with_reducible refine (OneN _ i hi.out).mono ?_); rintro e w85 ⟨A86, c87, rfl, hr, hb⟩; replace H := H.got (fresh_row hr) hb; clear hr hb; clear f6 f2; have f6 := H.b2 (g := g6) m0; have f2 := H.b4 (g := g2) m1)
          | (clear st90; (with_reducible refine gate_dst (N := 8) rfl ?_); refine bE #[.int .i64 0, .slice none 0 0] 31 H ?_; clear H; intro g8 w89 H; clear f6 f2; have f8 := H.b2 (g := g8) m0; have f6 := H.b2 (g := g6) m1; have f2 := H.b4 (g := g2) m2; have ne_g8_g6 := H.ne (g := g8) (g' := g6) 0 1 rfl rfl (by decide); have ne_g6_g8 := ne_g8_g6.symm; have ne_g8_g2 := H.ne (g := g8) (g' := g2) 0 2 rfl rfl (by decide); have ne_g2_g8 := ne_g8_g2.symm))
        (try simp only [nn])
        replace H := ((H.setn [] 0 (.int .i64 (sg i)) rfl).setn [] 1 (.slice A86 (dn i) c87) rfl)
        clear f8 f6 f2
        generalize ((w89.setCell ⟨g8, 0, none⟩ (.int .i64 (sg i))).setCell ⟨g8, 1, none⟩ (.slice A86 (dn i) c87)) = w91 at H ⊢
        have f8 := H.b2 (g := g8) m0
        have f6 := H.b2 (g := g6) m1
        have f2 := H.b4 (g := g2) m2
        have st95 := trivial
        go_upto_region 11 with (first
          | (clear st95; go_at_call 24; (with_reducible refine (hP2.out _).mono ?_); rintro e w92 ⟨A93, c94, rfl, hr, hb⟩; replace H := H.got (fresh_row hr) hb; clear hr hb; clear f8 f6 f2; have f8 := H.b2 (g := g8) m0; have f6 := H.b2 (g := g6) m1; have f2 := H.b4 (g := g2) m2))
        (try simp only [nn])
        replace H := ((H.setn [] 0 (.int .i64 (sg v)) rfl).setn [] 1 (.slice A93 (dn v) c94) rfl)
        clear f8 f6 f2
        generalize ((w92.setCell ⟨g8, 0, none⟩ (.int .i64 (sg v))).setCell ⟨g8, 1, none⟩ (.slice A93 (dn v) c94)) = w96 at H ⊢
        have f8 := H.b2 (g := g8) m0
        have f6 := H.b2 (g := g6) m1
        have f2 := H.b4 (g := g2) m2
        go_upto_region 14 with fail
        (try simp only [nn])
        have st102 := trivial
        have st104 := trivial
        go_upto_region 15 with (first
          | (clear st102; go_at_call 65; (with_reducible refine (MakeF (H.row _ m2) (H.row _ m0) (Nat.le_trans bu.out (by decide)) (Nat.le_trans bv.out (by decide)) R D hM.out).mono ?_); rintro e w97 ⟨A98, c99, A100, c101, rfl, hr, hr2, hb⟩; replace H := (H.got hr hb).more ((H.got hr2 hb).row _ m0); clear hr hr2 hb; clear f8 f6 f2; have f8 := H.b2 (g := g8) m0; have f6 := H.b2 (g := g6) m1; have f2 := H.b4 (g := g2) m2)
          | (clear st104; (with_reducible refine gate_dst (N := 9) rfl ?_); refine bE #[.int .i64 0, .slice none 0 0, .int .i64 0, .slice none 0 0] 76 H ?_; clear H; intro g9 w103 H; clear f8 f6 f2; have f9 := H.b4 (g := g9) m0; have f8 := H.b2 (g := g8) m1; have f6 := H.b2 (g := g6) m2; have f2 := H.b4 (g := g2) m3; have ne_g9_g8 := H.ne (g := g9) (g' := g8) 0 1 rfl rfl (by decide); have ne_g8_g9 := ne_g9_g8.symm; have ne_g9_g6 := H.ne (g := g9) (g' := g6) 0 2 rfl rfl (by decide); have ne_g6_g9 := ne_g9_g6.symm; have ne_g9_g2 := H.ne (g := g9) (g' := g2) 0 3 rfl rfl (by decide); have ne_g2_g9 := ne_g9_g2.symm))
        (try simp only [nn])
        replace H := H.set4 [] (.int .i64 (sg R)) (.slice A98 (dn R) c99) (.int .i64 (sg D)) (.slice A100 (dn D) c101)
        clear f9 f8 f6 f2
        generalize ((((w103.setCell ⟨g9, 0, none⟩ (.int .i64 (sg R))).setCell ⟨g9, 1, none⟩ (.slice A98 (dn R) c99)).setCell ⟨g9, 2, none⟩ (.int .i64 (sg D))).setCell ⟨g9, 3, none⟩ (.slice A100 (dn D) c101)) = w105 at H ⊢
        have f9 := H.b4 (g := g9) m0
        have f8 := H.b2 (g := g8) m1
        have f6 := H.b2 (g := g6) m2
        have f2 := H.b4 (g := g2) m3
        clear f9 f8 f6 f2
        replace H := H.drew
        refine start_ (n := 7) (S := fun w' => w'.cell? ⟨g9, 0, none⟩ = some (.int .i64 (sg R)) ∧ w'.cell? ⟨g9, 1, none⟩ = some (.slice A98 (dn R) c99) ∧ w'.cell? ⟨g9, 2, none⟩ = some (.int .i64 (sg D)) ∧ w'.cell? ⟨g9, 3, none⟩ = some (.slice A100 (dn D) c101)) (ds := [5]) #[false, false, false, false, false, false, false] (by kernel_rfl) rfl rfl (H.d4 m0) (fun hQ => ?_)
        generalize w105.drew = w106 at H hQ ⊢
        refine pU 3 67 (bm 7 8) ?_
        refine tU hQ 0 64 (bm 7 9) ?_
        refine tU hQ 1 65 (bm 7 11) ?_
        refine one_ (i := 2) (N := some 66) #[true, true, true, true, false, false, false] rfl rfl (by kernel_rfl) (by decide) (fun a hK => ?_)
        refine gT Try.func64 #[.agg #[.int .i64 (sg R), .slice A98 (dn R) c99, .int .i64 (sg D), .slice A100 (dn D) c101]] ?_
        with_reducible refine (TextF (H.row _ m1) (H.row _ m0) (Nat.le_trans bR.out (by decide)) (Nat.le_trans bD.out (by decide)) t hT.out).mono ?_
        rintro e w107 ⟨rfl, hb⟩
        replace H := H.call hb
        clear hb
        refine ⟨_, rfl, ?_⟩
        refine hK.out _ _ (H.d4 m0) (fun hQ => ?_)
        clear hK a
        refine nT ?_
        refine pU 4 68 (bm 7 31) ?_
        refine last_ (i := 5) (N := none) #[true, true, true, true, true, true, false] rfl rfl (by kernel_rfl) (by decide) (fun a hK => ?_)
        have f9 := H.b4 (g := g9) m0
        have f2 := H.b4 (g := g2) m3
        refine kT ?_
        refine hK.out _ _ ?_
        clear hK a
        refine pU 6 3 (bm 7 127) ?_
        refine done_ (by kernel_rfl) ?_
        try clear hQ
        go_wp2
        replace H := H.set4 [_, _, _] (.int .i64 (sg R)) (.slice A98 (dn R) c99) (.int .i64 (sg D)) (.slice A100 (dn D) c101)
        refine bodyPost_ret (results_list (rs := [.cell 2 76, .tmp 3]) rfl (by simp) (.cell g2 76 #[.int .i64 (sg R), .slice A98 (dn R) c99, .int .i64 (sg D), .slice A100 (dn D) c101] (0, 0) _ rfl (H.blk m3) Try.underlying76 rfl (by kernel_rfl) (.tmp .nil))) rfl ?_
        exact ⟨A98, c99, A100, c101, rfl, (H.ret m1).mono (fun k hk => hk.elim (fun h => h.elim) id), (H.ret m0).mono (fun k hk => hk.elim (fun h => h.elim) id), H.below⟩

theorem cut_at (s : ByteArray) : cutL s = s.extract 0 (at_ s) ∧ (cutF s = decide (at_ s < s.size)) ∧ (at_ s < s.size → cutR s = s.extract (at_ s + 1) s.size) := by
  unfold cutL cutF cutR
  by_cases h : 0 ≤ ci s
  · have e : at_ s = (ci s).toNat := by unfold at_; rw [if_pos h]
    have := (at_lt s).mpr h
    rw [if_pos h, if_pos h, e]
    exact ⟨rfl, by rw [← e, decide_eq_true h, decide_eq_true this], fun _ => rfl⟩
  · have e : at_ s = s.size := by unfold at_; rw [if_neg h]
    rw [if_neg h, e, decide_eq_false h, decide_eq_false (by omega)]
    refine ⟨?_, rfl, fun h => absurd h (by omega)⟩
    simp
/-- What ontimeref02.Parse makes of a text. -/
noncomputable def fp (s : ByteArray) : Int × Int × Bool :=
  let a := pr (cutL s)
  let b := pr (if cutF s = true then cutR s else ⟨#[49]⟩)
  if a.2 ≠ 0 ∨ b.2 ≠ 0 ∨ b.1 ≤ 0 then (0, 0, false) else (qn a.1 b.1, qd a.1 b.1, (qt (qn a.1 b.1) (qd a.1 b.1)).toList == s.toList)
theorem extract_size_le (s : ByteArray) (a b : Nat) (h : s.size ≤ 4096) : (s.extract a b).size ≤ 4096 := by simp [ByteArray.size_extract]; omega
theorem ParseF (s : ByteArray) (hs : s.size ≤ 4096) (w : World) (n d : Int) (b : Bool) (h : fp s = (n, d, b)) : Calls Try.prog 62 #[.string s] w (RetFP w n d b) := by
  unfold fp at h
  obtain ⟨c1, c2, c3⟩ := cut_at s
  obtain ⟨K, hK⟩ : ∃ K, at_ s = K := ⟨_, rfl⟩
  rw [hK] at c1 c2 c3
  have b1 : dn 1 ≤ 90000 := Nat.le_trans (dn_bound 1 1 (by decide)) (by decide)
  have b0 : dn 0 ≤ 90000 := Nat.zero_le _
  have s1 := extract_size_le s 0 K hs
  have s2 := extract_size_le s (K + 1) s.size hs
  rw [c1] at h
  obtain ⟨⟨u, e⟩, hu⟩ : ∃ v, pr (s.extract 0 K) = v := ⟨_, rfl⟩
  have bu : dn u ≤ 5120 := dn_ln (pr_lim hu)
  have up : ∀ {x : Int}, dn x ≤ 5120 → dn x ≤ 90000 := fun h => Nat.le_trans h (by decide)
  by_cases hk : K < s.size
  · rw [decide_eq_true hk] at c2
    rw [c2, if_pos rfl, c3 hk] at h
    obtain ⟨⟨v, f⟩, hv⟩ : ∃ t, pr (s.extract (K + 1) s.size) = t := ⟨_, rfl⟩
    have bv : dn v ≤ 5120 := dn_ln (pr_lim hv)
    simp only [hu, hv] at h
    by_cases he : e = 0
    · subst he
      by_cases hf : f = 0
      · subst hf
        by_cases hd : v ≤ 0
        · rw [if_pos (.inr (.inr hd))] at h
          obtain ⟨rfl, rfl, rfl⟩ : 0 = n ∧ 0 = d ∧ false = b := by simpa using h
          exact ParseF_ s w K hK hs u v 1 0 0 true true false s ⟨up bu⟩ ⟨up bv⟩ ⟨b1⟩ ⟨b0⟩ ⟨b0⟩ ⟨rfl⟩ ⟨ParseN_ok s1 hu⟩ ⟨fun _ => ParseN_ok s2 hv⟩ ⟨.inr (.inr (.inr (.inl ⟨rfl, hk, rfl, sg_le hd, rfl, rfl, rfl⟩)))⟩
        · rw [if_neg (by rintro (h1 | h1 | h1); exact h1 rfl; exact h1 rfl; exact hd h1)] at h
          obtain ⟨h1, h2, h3⟩ : qn u v = n ∧ qd u v = d ∧ ((qt (qn u v) (qd u v)).toList == s.toList) = b := by simpa using h
          rw [h1, h2] at h3
          obtain ⟨_, -, -, -, e4⟩ := q_scale (a := u) (b := v) (by omega)
          have hd0 : d ≠ 0 := by intro h; rw [h] at h2; omega
          exact ParseF_ s w K hK hs u v 1 n d true true b (qt n d) ⟨up bu⟩ ⟨up bv⟩ ⟨b1⟩ ⟨up (qn_dn' bu h1)⟩ ⟨up (qd_dn' bv h2)⟩ ⟨rfl⟩ ⟨ParseN_ok s1 hu⟩ ⟨fun _ => ParseN_ok s2 hv⟩ ⟨.inr (.inr (.inr (.inr ⟨rfl, hk, rfl, decide_eq_true (by unfold sg; rw [if_neg (by omega), if_neg (by omega)]; decide), ⟨by omega, h1, h2⟩, ⟨hd0, rfl⟩, h3⟩)))⟩
      · rw [if_pos (.inr (.inl hf))] at h
        obtain ⟨rfl, rfl, rfl⟩ : 0 = n ∧ 0 = d ∧ false = b := by simpa using h
        exact ParseF_ s w K hK hs u 0 1 0 0 true false false s ⟨up bu⟩ ⟨b0⟩ ⟨b1⟩ ⟨b0⟩ ⟨b0⟩ ⟨rfl⟩ ⟨ParseN_ok s1 hu⟩ ⟨fun _ => ParseN_no s2 hv hf⟩ ⟨.inr (.inr (.inl ⟨rfl, hk, rfl, rfl, rfl, rfl⟩))⟩
    · rw [if_pos (.inl he)] at h
      obtain ⟨rfl, rfl, rfl⟩ : 0 = n ∧ 0 = d ∧ false = b := by simpa using h
      by_cases hf : f = 0
      · subst hf
        exact ParseF_ s w K hK hs 0 v 1 0 0 false true false s ⟨b0⟩ ⟨up bv⟩ ⟨b1⟩ ⟨b0⟩ ⟨b0⟩ ⟨rfl⟩ ⟨ParseN_no s1 hu he⟩ ⟨fun _ => ParseN_ok s2 hv⟩ ⟨.inl ⟨rfl, rfl, rfl, rfl⟩⟩
      · exact ParseF_ s w K hK hs 0 0 1 0 0 false false false s ⟨b0⟩ ⟨b0⟩ ⟨b1⟩ ⟨b0⟩ ⟨b0⟩ ⟨rfl⟩ ⟨ParseN_no s1 hu he⟩ ⟨fun _ => ParseN_no s2 hv hf⟩ ⟨.inl ⟨rfl, rfl, rfl, rfl⟩⟩
  · rw [decide_eq_false hk] at c2
    rw [c2] at h
    simp only [hu, Bool.false_eq_true, if_false, pr_49] at h
    by_cases he : e = 0
    · subst he
      rw [if_neg (by decide)] at h
      obtain ⟨h1, h2, h3⟩ : qn u 1 = n ∧ qd u 1 = d ∧ ((qt (qn u 1) (qd u 1)).toList == s.toList) = b := by simpa using h
      rw [h1, h2] at h3
      obtain ⟨_, -, -, -, e4⟩ := q_scale (a := u) (b := 1) (by omega)
      have hd0 : d ≠ 0 := by intro h; rw [h] at h2; omega
      have b2 : dn 1 ≤ 5120 := Nat.le_trans (dn_bound 1 1 (by decide)) (by decide)
      exact ParseF_ s w K hK hs u 0 1 n d true false b (qt n d) ⟨up bu⟩ ⟨b0⟩ ⟨b1⟩ ⟨up (qn_dn' bu h1)⟩ ⟨up (qd_dn' b2 h2)⟩ ⟨rfl⟩ ⟨ParseN_ok s1 hu⟩ ⟨fun h => absurd h hk⟩ ⟨.inr (.inl ⟨rfl, hk, ⟨by decide, h1, h2⟩, ⟨hd0, rfl⟩, h3⟩)⟩
    · rw [if_pos (.inl he)] at h
      obtain ⟨rfl, rfl, rfl⟩ : 0 = n ∧ 0 = d ∧ false = b := by simpa using h
      exact ParseF_ s w K hK hs 0 0 1 0 0 false false false s ⟨b0⟩ ⟨b0⟩ ⟨b1⟩ ⟨b0⟩ ⟨b0⟩ ⟨rfl⟩ ⟨ParseN_no s1 hu he⟩ ⟨fun h => absurd h hk⟩ ⟨.inl ⟨rfl, rfl, rfl, rfl⟩⟩
/-- rational.Parse and ontimeref02.Parse accept the same texts as the same numbers. -/
theorem fp_rp {s : ByteArray} (hs : s.size ≤ 4096) {n d e : Int} (h : rp s = (n, d, e)) : (e = 0 ∧ fp s = (n, d, true)) ∨ (e = 3 ∧ n = 0 ∧ ∃ n' d', fp s = (n', d', false)) := by
  unfold rp at h
  rw [if_neg (by omega)] at h
  unfold fp
  obtain ⟨⟨u, e'⟩, hu⟩ : ∃ v, pr (cutL s) = v := ⟨_, rfl⟩
  obtain ⟨⟨v, f⟩, hv⟩ : ∃ t, pr (if cutF s = true then cutR s else ⟨#[49]⟩) = t := ⟨_, rfl⟩
  simp only [hu, hv] at h ⊢
  by_cases hc : e' ≠ 0 ∨ f ≠ 0 ∨ v ≤ 0
  · rw [if_pos hc] at h ⊢
    obtain ⟨h1, h2, h3⟩ : 0 = n ∧ 0 = d ∧ 3 = e := by simpa using h
    exact .inr ⟨h3.symm, h1.symm, _, _, rfl⟩
  · rw [if_neg hc] at h ⊢
    by_cases ht : (qt (qn u v) (qd u v)).toList = s.toList
    · rw [if_pos ht] at h
      obtain ⟨h1, h2, h3⟩ : qn u v = n ∧ qd u v = d ∧ 0 = e := by simpa using h
      exact .inl ⟨h3.symm, by rw [beq_iff_eq.mpr ht, h1, h2]⟩
    · rw [if_neg ht] at h
      obtain ⟨h1, h2, h3⟩ : 0 = n ∧ 0 = d ∧ 3 = e := by simpa using h
      exact .inr ⟨h3.symm, h1.symm, _, _, by rw [beq_eq_false_iff_ne.mpr ht]⟩

end Go.Proofs.Ytdkapdgbfejgdaa
