/- bigint.Parse: the walk. -/
import Derived.Test.YtdkapdgbfejgdaaSq
import Derived.Test.YtdkapdgbfejgdaaU
import Derived.Test.YtdkapdgbfejgdaaYe
namespace Go.Proofs.Ytdkapdgbfejgdaa
open Go.RowKit Go.Proofs.YtdkapdgbfejgdaaW.PrintWords Go.Proofs.YtdkapdgbfejgdaaW.PrintLast Go.Proofs.YtdkapdgbfejgdaaW.PrintMore
attribute [local go_sem] max2_int min2_int max_two min_two max_three min_three
set_option linter.unusedSimpArgs false
set_option linter.unusedVariables false

set_option maxHeartbeats 4000000 in
set_option maxRecDepth 100000 in
theorem Parse_full (s : ByteArray) (w : World) (h : 4096 < (s.size : Int)) : Calls Try.prog 23 #[.string s] w (RetPa w 0 5) := by
  have hu25 := Try.underlying25
  have H := (Sit.start w (fun _ => False)).nilrow
  have p1 : decide (4096 < (s.size : Int)) = true := decide_eq_true h
  have p2 : decide (4096 < s.size) = true := decide_eq_true (by omega)
  clear h
  go_enter Try.func23, Try.ntmps23
  go_wp2_with (first
    | ((with_reducible refine gate_dst (N := 2) rfl ?_); refine bE #[.bool false, .slice none 0 0] 25 H ?_; clear H; intro g2 w2 H; have kz_0 : w2.cell? ⟨g2, 0, none⟩ = some (.bool false) := H.cell m0 0; have kz_1 : w2.cell? ⟨g2, 1, none⟩ = some (.slice none 0 0) := H.cell m0 1; have kzz_0 := H.frozen (g := g2) m0 0; have kzz_1 := H.frozen (g := g2) m0 1))
  replace H := (H.setn [] 0 (.bool (ng (0))) rfl).setn [] 1 (.slice none (ln (0)) 0) rfl
  refine bodyPost_ret (results_list (rs := [.cell 2 25, .tmp 3]) rfl (by simp) (.cell g2 25 #[.bool (ng (0)), .slice none (ln (0)) 0] (0, 0) _ rfl (H.blk m0) Try.underlying25 rfl (by kernel_rfl) (.tmp .nil))) rfl ?_
  exact ⟨none, 0, rfl, (H.ret m0).mono (fun k hk => hk.resolve_left id), H.below⟩

set_option maxHeartbeats 4000000 in
set_option maxRecDepth 100000 in
theorem Parse_none (s : ByteArray) (w : World) (h : (s.size : Int) ≤ 4096) (h1 : (cutS s).toList = []) : Calls Try.prog 23 #[.string s] w (RetPa w 0 3) := by
  have hu25 := Try.underlying25
  have H := (Sit.start w (fun _ => False)).nilrow
  have p1 : decide (4096 < (s.size : Int)) = false := decide_eq_false (by omega)
  have p2 : decide (4096 < s.size) = false := decide_eq_false (by omega)
  obtain ⟨t, ht⟩ : ∃ t, cutS s = t := ⟨_, rfl⟩
  obtain ⟨neg, hn⟩ : ∃ b, cutB s = b := ⟨_, rfl⟩
  have HT := Aside0.mk ht
  have HN := Aside0.mk hn
  rw [ht] at h1
  clear ht hn h
  have e1 : (t.toList == ([] : List UInt8)) = true := beq_iff_eq.mpr h1
  have e2 : (t.toList != ([] : List UInt8)) = false := bne_eq_false_iff_eq.mpr h1
  go_enter Try.func23, Try.ntmps23
  go_wp2_with (first
    | ((with_reducible refine gate_dst (N := 2) rfl ?_); refine bE #[.bool false, .slice none 0 0] 25 H ?_; clear H; intro g2 w2 H; have kz_0 : w2.cell? ⟨g2, 0, none⟩ = some (.bool false) := H.cell m0 0; have kz_1 : w2.cell? ⟨g2, 1, none⟩ = some (.slice none 0 0) := H.cell m0 1; have kzz_0 := H.frozen (g := g2) m0 0; have kzz_1 := H.frozen (g := g2) m0 1)
    | (go_at_call 74; (with_reducible refine (Cut_ok s t neg HT.out HN.out _).mono ?_); rintro e w5 ⟨rfl, rfl⟩))
  replace H := (H.setn [] 0 (.bool (ng (0))) rfl).setn [] 1 (.slice none (ln (0)) 0) rfl
  refine bodyPost_ret (results_list (rs := [.cell 2 25, .tmp 3]) rfl (by simp) (.cell g2 25 #[.bool (ng (0)), .slice none (ln (0)) 0] (0, 0) _ rfl (H.blk m0) Try.underlying25 rfl (by kernel_rfl) (.tmp .nil))) rfl ?_
  exact ⟨none, 0, rfl, (H.ret m0).mono (fun k hk => hk.resolve_left id), H.below⟩

set_option maxHeartbeats 4000000 in
set_option maxRecDepth 100000 in
theorem Parse_zero (s : ByteArray) (w : World) (h : (s.size : Int) ≤ 4096) (h1 : (cutS s).toList ≠ [] ∧ 0 < (cutS s).size ∧ bt (cutS s) 0 = 48 ∧ s.toList ≠ [48]) : Calls Try.prog 23 #[.string s] w (RetPa w 0 3) := by
  have hu25 := Try.underlying25
  have H := (Sit.start w (fun _ => False)).nilrow
  have p1 : decide (4096 < (s.size : Int)) = false := decide_eq_false (by omega)
  have p2 : decide (4096 < s.size) = false := decide_eq_false (by omega)
  obtain ⟨t, ht⟩ : ∃ t, cutS s = t := ⟨_, rfl⟩
  obtain ⟨neg, hn⟩ : ∃ b, cutB s = b := ⟨_, rfl⟩
  have HT := Aside0.mk ht
  have HN := Aside0.mk hn
  rw [ht] at h1
  clear ht hn h
  have e1 : (t.toList == ([] : List UInt8)) = false := beq_eq_false_iff_ne.mpr h1.1
  have e2 : (t.toList != ([] : List UInt8)) = true := bne_iff_ne.mpr h1.1
  have q10 : (0 < t.size) = True := eq_true h1.2.1
  have qi10 : (0 < (t.size : Int)) = True := eq_true (by have := h1.2.1; omega)
  have hx10 : ∀ h : 0 < t.size, ((t[0]'h).toNat : Int) = bt t 0 := bt_at t 0
  have c1 : ((bt t 0) == 48) = true := beq_iff_eq.mpr h1.2.2.1
  have c2 : ((bt t 0) != 48) = false := bne_eq_false_iff_eq.mpr h1.2.2.1
  have c3 : (s.toList != ([48] : List UInt8)) = true := bne_iff_ne.mpr h1.2.2.2
  have c4 : (s.toList == ([48] : List UInt8)) = false := beq_eq_false_iff_ne.mpr h1.2.2.2
  clear h1
  go_enter Try.func23, Try.ntmps23
  go_wp2_with (first
    | ((with_reducible refine gate_dst (N := 2) rfl ?_); refine bE #[.bool false, .slice none 0 0] 25 H ?_; clear H; intro g2 w2 H; have kz_0 : w2.cell? ⟨g2, 0, none⟩ = some (.bool false) := H.cell m0 0; have kz_1 : w2.cell? ⟨g2, 1, none⟩ = some (.slice none 0 0) := H.cell m0 1; have kzz_0 := H.frozen (g := g2) m0 0; have kzz_1 := H.frozen (g := g2) m0 1)
    | (go_at_call 74; (with_reducible refine (Cut_ok s t neg HT.out HN.out _).mono ?_); rintro e w5 ⟨rfl, rfl⟩))
  replace H := (H.setn [] 0 (.bool (ng (0))) rfl).setn [] 1 (.slice none (ln (0)) 0) rfl
  refine bodyPost_ret (results_list (rs := [.cell 2 25, .tmp 3]) rfl (by simp) (.cell g2 25 #[.bool (ng (0)), .slice none (ln (0)) 0] (0, 0) _ rfl (H.blk m0) Try.underlying25 rfl (by kernel_rfl) (.tmp .nil))) rfl ?_
  exact ⟨none, 0, rfl, (H.ret m0).mono (fun k hk => hk.resolve_left id), H.below⟩

set_option maxHeartbeats 4000000 in
set_option maxRecDepth 100000 in
theorem Parse_dig (s : ByteArray) (w : World) (h : (s.size : Int) ≤ 4096) (h1 : (cutS s).toList ≠ [] ∧ 0 < (cutS s).size ∧ bt (cutS s) 0 ≠ 48) (hsz : ((cutS s).size : Int) ≤ 4096) (m err : Int) (RW : parseT (cutS s) (cutB s) m err) : Calls Try.prog 23 #[.string s] w (RetPa w m err) := by
  have hu25 := Try.underlying25
  have H := (Sit.start w (fun _ => False)).nilrow
  have p1 : decide (4096 < (s.size : Int)) = false := decide_eq_false (by omega)
  have p2 : decide (4096 < s.size) = false := decide_eq_false (by omega)
  obtain ⟨t, ht⟩ : ∃ t, cutS s = t := ⟨_, rfl⟩
  obtain ⟨neg, hn⟩ : ∃ b, cutB s = b := ⟨_, rfl⟩
  have HT := Aside0.mk ht
  have HN := Aside0.mk hn
  rw [ht] at h1 RW hsz
  rw [hn] at RW
  clear ht hn h
  have e1 : (t.toList == ([] : List UInt8)) = false := beq_eq_false_iff_ne.mpr h1.1
  have e2 : (t.toList != ([] : List UInt8)) = true := bne_iff_ne.mpr h1.1
  have q10 : (0 < t.size) = True := eq_true h1.2.1
  have qi10 : (0 < (t.size : Int)) = True := eq_true (by have := h1.2.1; omega)
  have hx10 : ∀ h : 0 < t.size, ((t[0]'h).toNat : Int) = bt t 0 := bt_at t 0
  have c1 : ((bt t 0) == 48) = false := beq_eq_false_iff_ne.mpr h1.2.2
  have c2 : ((bt t 0) != 48) = true := bne_iff_ne.mpr h1.2.2
  have RZ := Aside0.mk (show parseT t neg 0 3 → m = 0 ∧ err = 3 from fun h => parseT_eq RW h)
  have RY := Aside0.mk RW
  clear h1 RW
  have HS := Aside0.mk hsz
  clear hsz
  go_enter Try.func23, Try.ntmps23
  go_wp2_with (first
    | ((with_reducible refine gate_dst (N := 2) rfl ?_); refine bE #[.bool false, .slice none 0 0] 25 H ?_; clear H; intro g2 w2 H; have kz_0 : w2.cell? ⟨g2, 0, none⟩ = some (.bool false) := H.cell m0 0; have kz_1 : w2.cell? ⟨g2, 1, none⟩ = some (.slice none 0 0) := H.cell m0 1; have kzz_0 := H.frozen (g := g2) m0 0; have kzz_1 := H.frozen (g := g2) m0 1)
    | (go_at_call 74; (with_reducible refine (Cut_ok s t neg HT.out HN.out _).mono ?_); rintro e w5 ⟨rfl, rfl⟩)
    | ((with_reducible refine gate_dst (N := 6) rfl ?_); refine bE #[.bool false, .slice none 0 0] 25 H ?_; clear H; intro g6 w6 H; clear kz_0 kz_1 kzz_0 kzz_1; have kx_0 : w6.cell? ⟨g6, 0, none⟩ = some (.bool false) := H.cell m0 0; have kx_1 : w6.cell? ⟨g6, 1, none⟩ = some (.slice none 0 0) := H.cell m0 1; have kxz_0 := H.frozen (g := g6) m0 0; have kxz_1 := H.frozen (g := g6) m0 1))
  replace H := (H.setn [] 0 (.bool (ng (0))) rfl).setn [] 1 (.slice none (ln (0)) 0) rfl
  have hI := POut.start t HS.out
  go_loopw [7] (fun i wr => ∃ (i' x : Int) (AX : Option Addr) (CX : Nat), i = .int .i64 i' ∧ POut t i' x ∧ Sit w wr (fun _ => False) [(g6, .cells #[.bool (ng x), .slice AX (ln x) CX] 25 (0, 0)), (g2, .cells #[.bool false, .slice none 0 0] 25 (0, 0))] [bw AX CX x, bw none 0 0]) (fun i _ => t.size + 20 - (intOf i).toNat)
  case atStart => exact ⟨0, 0, none, 0, rfl, hI, H.nilrow⟩
  case round =>
    clear H hI
    obtain ⟨i, x, AX, CX, rfl, hO, H⟩ := hrel
    obtain ⟨o1, o2, o3, -, -⟩ := id hO
    obtain ⟨xl0, xl1, xl2⟩ := hO.ln
    have HO := Aside0.mk hO
    clear hO
    by_cases hi : i < (t.size : Int)
    · have c17b0 : decide (i < (t.size : Int)) = true := decide_eq_true hi
      obtain ⟨j, hj⟩ : ∃ j : Int, (if (t.size : Int) < i + 9 then (t.size : Int) else i + 9) = j := ⟨_, rfl⟩
      have hj1 : j ≤ (t.size : Int) ∧ j ≤ i + 9 ∧ i < j := by rw [← hj]; split <;> omega
      have hwj : (if (t.size : Int) < (wrap64 (i + 9)) then (t.size : Int) else (wrap64 (i + 9))) = j := by rw [← hj, show wrap64 (i + 9) = i + 9 by unfold wrap64; omega]
      have HJ := Aside0.mk hj
      have hmj : mn (i + 9) (t.size : Int) = j := hj
      have u1 := eq_true (show 0 ≤ i by omega)
      have u2 : decide (0 ≤ i) = true := decide_eq_true (by omega)
      have u3 := eq_true (show i ≤ j by omega)
      have u4 : decide (i ≤ j) = true := decide_eq_true (by omega)
      have u5 := eq_true (show j ≤ (t.size : Int) by omega)
      have u6 : decide (j ≤ (t.size : Int)) = true := decide_eq_true (by omega)
      have HSZ := Aside0.mk (size_extract' t i j o1 (by omega) hj1.1)
      go_wp2
      clear c17b0 hwj hj hmj u1 u2 u3 u4 u5 u6
      go_loopw [9, 10, 50] (fun vn vs vk wr => ∃ (n sc k : Int), vn = .int .i64 n ∧ vs = .int .i64 sc ∧ vk = .int .i64 k ∧ PIn t i j k n sc ∧ Sit w wr (fun _ => False) [(g6, .cells #[.bool (ng x), .slice AX (ln x) CX] 25 (0, 0)), (g2, .cells #[.bool false, .slice none 0 0] 25 (0, 0))] [bw AX CX x, bw none 0 0]) (fun _ _ vk _ => 20 - (intOf vk).toNat)
      case atStart => exact ⟨0, 1, 0, rfl, rfl, rfl, PIn.start t i j (by omega), H⟩
      case round =>
        clear H
        obtain ⟨n, sc, k, rfl, rfl, rfl, hP, H⟩ := hrel
        obtain ⟨n0, n1, s0, s1⟩ := hP.range hj1.2.1
        have k0 := hP.1
        have k1 := hP.2.1
        have hsz := HSZ.out
        by_cases hk : i + k < j
        · have v1 : decide (k < ((t.extract i.toNat j.toNat).size : Int)) = true := decide_eq_true (by omega)
          have v2 : decide (0 ≤ k) = true := decide_eq_true k0
          have v3 := eq_true k0
          have v4 := eq_true (show k < ((t.extract i.toNat j.toNat).size : Int) by omega)
          have hx := bt_at (t.extract i.toNat j.toNat) k
          obtain ⟨b, hb⟩ : ∃ b, bt (t.extract i.toNat j.toNat) k = b := ⟨_, rfl⟩
          have hbb := bt_range (t.extract i.toNat j.toNat) k
          have hb2 := (bt_extract t i j k o1 k0 hk hj1.1).symm.trans hb
          rw [hb] at hx hbb
          by_cases bad : b < 48 ∨ 57 < b
          · have BAD := Aside0.mk (bad_dig (t := t) (p := i.toNat + k.toNat) (by omega) (by rw [hb2]; exact bad) neg)
            have ne1 := H.ne01; have ne2 := H.ne01.symm; have kz_0 : wr.cell? ⟨g2, 0, none⟩ = some (.bool false) := H.cell m1 0; have kz_1 : wr.cell? ⟨g2, 1, none⟩ = some (.slice none 0 0) := H.cell m1 1; have kzz_0 := H.frozen (g := g2) m1 0; have kzz_1 := H.frozen (g := g2) m1 1
            by_cases b0 : b < 48
            · have y1 : decide (b < 48) = true := decide_eq_true b0
              clear hP bad hb hb2 b0 hsz
              go_wp2
              obtain ⟨rfl, rfl⟩ := RZ.out BAD.out
              replace H := (H.setn [_] 0 (.bool (ng (0))) rfl).setn [_] 1 (.slice none (ln (0)) 0) rfl
              refine bodyPost_ret (results_list (rs := [.cell 2 25, .tmp 3]) rfl (by simp) (.cell g2 25 #[.bool (ng (0)), .slice none (ln (0)) 0] (0, 0) _ rfl (H.blk m1) Try.underlying25 rfl (by kernel_rfl) (.tmp .nil))) rfl ?_
              exact ⟨none, 0, rfl, (H.ret m1).mono (fun k hk => hk.resolve_left id), H.below⟩
            · have y1 : decide (b < 48) = false := decide_eq_false b0
              have y2 : decide (57 < b) = true := decide_eq_true (by omega)
              clear hP bad hb hb2 b0 hsz
              go_wp2
              obtain ⟨rfl, rfl⟩ := RZ.out BAD.out
              replace H := (H.setn [_] 0 (.bool (ng (0))) rfl).setn [_] 1 (.slice none (ln (0)) 0) rfl
              refine bodyPost_ret (results_list (rs := [.cell 2 25, .tmp 3]) rfl (by simp) (.cell g2 25 #[.bool (ng (0)), .slice none (ln (0)) 0] (0, 0) _ rfl (H.blk m1) Try.underlying25 rfl (by kernel_rfl) (.tmp .nil))) rfl ?_
              exact ⟨none, 0, rfl, (H.ret m1).mono (fun k hk => hk.resolve_left id), H.below⟩
          · have b0 : 48 ≤ b := by omega
            have b1 : b ≤ 57 := by omega
            have y1 : decide (b < 48) = false := decide_eq_false (by omega)
            have y2 : decide (57 < b) = false := decide_eq_false (by omega)
            have T := Aside0.mk (hP.step hk o1 hb2 b0 b1)
            have E1 : wrap64 (wrap64 (10 * n) + (b - 48) % 256) = 10 * n + (b - 48) := by unfold wrap64; omega
            have E2 : wrap64 (10 * sc) = 10 * sc := by unfold wrap64; omega
            clear hP bad hb hb2 hsz
            go_wp2
            go_roundw
            case rel => exact ⟨10 * n + (b - 48), 10 * sc, k + 1, by go_num, by go_num, by go_num, T.out, H⟩
            case measure => simp [intOf]; omega
        · have v1 : decide (k < ((t.extract i.toNat j.toNat).size : Int)) = false := decide_eq_false (by omega)
          have T := Aside0.mk (hP.next HO.out (by omega) hi HJ.out.symm)
          have lx := Aside0.mk (ln_small (s := sc) (by omega) (by omega))
          have l0 := Aside0.mk (ln_small (s := n) (by omega) (by omega))
          have lm := Aside0.mk (ln_mul_le (x := x) (s := sc) 4096 xl1 lx.out)
          have xl2' := Aside0.mk xl2
          have ll := Aside0.mk (Nat.le_trans xl1 (show 4096 ≤ 10000000 by omega))
          obtain ⟨tl0, tl1, tl2⟩ := T.out.ln
          have TL := Aside0.mk tl2
          clear hP hsz tl0 tl1 tl2 hi hj1 xl1 xl2
          try go_wp2
          replace H := H.drew
          clear v1
          refine start_ (n := 8) (S := fun w' => w'.cell? ⟨g6, 0, none⟩ = some (.bool (ng x)) ∧ w'.cell? ⟨g6, 1, none⟩ = some (.slice AX (ln x) CX)) (ds := [7]) #[false, false, false, false, false, false, false, false] (by kernel_rfl) rfl rfl (H.d2 m0) (fun hQ => ?_)
          refine pU 1 76 (bm 8 2) ?_
          refine pU 4 79 (bm 8 18) ?_
          refine tU hQ 0 75 (bm 8 19) ?_
          refine oU 2 77 (bm 8 23) (fun K hK => ?_)
          refine gT Try.func27 #[.int .i64 sc] ?_
          with_reducible refine (Of_ok sc _ (fun _ => False) (by omega) (by omega)).mono ?_
          rintro e w8 ⟨A8, c8, rfl, hr, hb⟩
          refine ⟨_, rfl, ?_⟩
          replace H := H.got (hr.mono (fun _ h => .inr (h.resolve_left id))) hb
          clear hr hb
          refine hK.out _ _ (H.d2 m0) (fun hQ => ?_)
          clear hK K
          refine nT ?_
          refine oU 3 78 (bm 8 31) (fun K hK => ?_)
          refine gT Try.func31 #[.agg #[.bool (ng x), .slice AX (ln x) CX], .agg #[.bool (ng sc), .slice A8 (ln sc) c8]] ?_
          with_reducible refine (Mul_ok AX A8 CX c8 x sc _ _ (H.row _ m1) (H.row _ m0) ll.out (Nat.le_trans lx.out (by omega))).mono ?_
          rintro e w9 ⟨A9, c9, rfl, hr, hb⟩
          refine ⟨_, rfl, ?_⟩
          replace H := H.got (hr) hb
          clear hr hb
          refine hK.out _ _ (H.d2 m0) (fun hQ => ?_)
          clear hK K
          refine nT ?_
          refine oU 5 80 (bm 8 63) (fun K hK => ?_)
          refine gT Try.func27 #[.int .i64 n] ?_
          with_reducible refine (Of_ok n _ (fun _ => False) (by omega) (by omega)).mono ?_
          rintro e w10 ⟨A10, c10, rfl, hr, hb⟩
          refine ⟨_, rfl, ?_⟩
          replace H := H.got (hr.mono (fun _ h => .inr (h.resolve_left id))) hb
          clear hr hb
          refine hK.out _ _ (H.d2 m0) (fun hQ => ?_)
          clear hK K
          refine nT ?_
          refine oU 6 81 (bm 8 127) (fun K hK => ?_)
          refine gT Try.func28 #[.agg #[.bool (ng (x * sc)), .slice A9 (ln (x * sc)) c9], .agg #[.bool (ng n), .slice A10 (ln n) c10]] ?_
          with_reducible refine (Add_ok A9 A10 c9 c10 (x * sc) n _ _ (H.row _ m1) (H.row _ m0) (Nat.le_trans lm.out (by omega)) (Nat.le_trans l0.out (by omega))).mono ?_
          rintro e w11 ⟨A11, c11, rfl, hr, hb⟩
          refine ⟨_, rfl, ?_⟩
          replace H := H.got (hr) hb
          clear hr hb
          refine hK.out _ _ (H.d2 m0) (fun hQ => ?_)
          clear hK K
          refine nT ?_
          refine lU 7 (bm 8 255) (fun K hK => ?_)
          have kx_0 : w11.cell? ⟨g6, 0, none⟩ = some (.bool (ng x)) := H.cell m0 0
          have kx_1 : w11.cell? ⟨g6, 1, none⟩ = some (.slice AX (ln x) CX) := H.cell m0 1
          have kxz_0 := H.frozen (g := g6) m0 0
          have kxz_1 := H.frozen (g := g6) m0 1
          refine kT ?_
          refine hK.out _ _ ?_
          clear hK K
          refine done_ (by kernel_rfl) ?_
          replace H := (H.setn [] 0 (.bool (ng (x * sc + n))) rfl).setn [] 1 (.slice A11 (ln (x * sc + n)) c11) rfl
          try go_wp2
          go_roundw
          case rel => exact ⟨i + 9, x * sc + n, A11, c11, by go_num, T.out, ⟨H.below, H.nd, H.box, fun f hf => H.row f (by rcases List.mem_cons.mp hf with rfl | hf; exact m0; rcases List.mem_cons.mp hf with rfl | hf; exact m5; cases hf)⟩⟩
          case measure => simp [intOf]; omega
    · have v1 : decide (i < (t.size : Int)) = false := decide_eq_false hi
      obtain ⟨sd, sx⟩ := HO.out.stop (by omega)
      have ne1 := H.ne01; have ne2 := H.ne01.symm; have kx_0 : wr.cell? ⟨g6, 0, none⟩ = some (.bool (ng x)) := H.cell m0 0; have kx_1 : wr.cell? ⟨g6, 1, none⟩ = some (.slice AX (ln x) CX) := H.cell m0 1; have kxz_0 := H.frozen (g := g6) m0 0; have kxz_1 := H.frozen (g := g6) m0 1; have kz_0 : wr.cell? ⟨g2, 0, none⟩ = some (.bool false) := H.cell m1 0; have kz_1 : wr.cell? ⟨g2, 1, none⟩ = some (.slice none 0 0) := H.cell m1 1; have kzz_0 := H.frozen (g := g2) m1 0; have kzz_1 := H.frozen (g := g2) m1 1
      have xl3 := Aside0.mk (Nat.le_trans xl1 (show 4096 ≤ 1000000000 by omega))
      clear xl0 xl1 xl2 hi HO o1 o2 o3
      cases neg with
      | true =>
        have RE := Aside0.mk (parseT_eq RY.out (.inl ⟨sd, rfl, rfl⟩))
        have SX := Aside0.mk sx
        clear sd sx RY RZ
        go_wp2_with (first
          | (go_at_call 37; (with_reducible refine (Neg_ok AX CX x _ _ (H.row _ m0) xl3.out).mono ?_); rintro e w12 ⟨A12, c12, rfl, hr, hb⟩; replace H := H.got hr hb; clear hr hb kx_0 kx_1 kxz_0 kxz_1 kz_0 kz_1 kzz_0 kzz_1; have kx_0 : w12.cell? ⟨g6, 0, none⟩ = some (.bool (ng x)) := H.cell m0 0; have kx_1 : w12.cell? ⟨g6, 1, none⟩ = some (.slice AX (ln x) CX) := H.cell m0 1; have kxz_0 := H.frozen (g := g6) m0 0; have kxz_1 := H.frozen (g := g6) m0 1; have kz_0 : w12.cell? ⟨g2, 0, none⟩ = some (.bool false) := H.cell m1 0; have kz_1 : w12.cell? ⟨g2, 1, none⟩ = some (.slice none 0 0) := H.cell m1 1; have kzz_0 := H.frozen (g := g2) m1 0; have kzz_1 := H.frozen (g := g2) m1 1))
        replace H := (((H.setn [] 0 (.bool (ng (-x))) rfl).setn [] 1 (.slice A12 (ln (-x)) c12) rfl).setn [_] 0 (.bool (ng (-x))) rfl).setn [_] 1 (.slice A12 (ln (-x)) c12) rfl
        obtain ⟨rfl, rfl⟩ := RE.out
        obtain rfl := SX.out
        refine bodyPost_ret (results_list (rs := [.cell 2 25, .tmp 3]) rfl (by simp) (.cell g2 25 #[.bool (ng (-(pc t 0 t.size))), .slice A12 (ln (-(pc t 0 t.size))) c12] (0, 0) _ rfl (H.blk m1) Try.underlying25 rfl (by kernel_rfl) (.tmp .nil))) rfl ?_
        exact ⟨A12, c12, rfl, (H.ret m0).mono (fun k hk => hk.resolve_left id), H.below⟩
      | false =>
        have RE := Aside0.mk (parseT_eq RY.out (.inl ⟨sd, rfl, rfl⟩))
        have SX := Aside0.mk sx
        clear sd sx RY RZ
        go_wp2
        replace H := (H.setn [_] 0 (.bool (ng x)) rfl).setn [_] 1 (.slice AX (ln x) CX) rfl
        obtain ⟨rfl, rfl⟩ := RE.out
        obtain rfl := SX.out
        refine bodyPost_ret (results_list (rs := [.cell 2 25, .tmp 3]) rfl (by simp) (.cell g2 25 #[.bool (ng (pc t 0 t.size)), .slice AX (ln (pc t 0 t.size)) CX] (0, 0) _ rfl (H.blk m1) Try.underlying25 rfl (by kernel_rfl) (.tmp .nil))) rfl ?_
        exact ⟨AX, CX, rfl, (H.ret m0).mono (fun k hk => hk.resolve_left id), H.below⟩

set_option maxHeartbeats 4000000 in
set_option maxRecDepth 100000 in
theorem Parse_null (s : ByteArray) (w : World) (h : (s.size : Int) ≤ 4096) (h1 : (cutS s).toList ≠ [] ∧ 0 < (cutS s).size ∧ bt (cutS s) 0 = 48 ∧ s.toList = [48]) (hsz : ((cutS s).size : Int) ≤ 4096) (m err : Int) (RW : parseT (cutS s) (cutB s) m err) : Calls Try.prog 23 #[.string s] w (RetPa w m err) := by
  have hu25 := Try.underlying25
  have H := (Sit.start w (fun _ => False)).nilrow
  have p1 : decide (4096 < (s.size : Int)) = false := decide_eq_false (by omega)
  have p2 : decide (4096 < s.size) = false := decide_eq_false (by omega)
  obtain ⟨t, ht⟩ : ∃ t, cutS s = t := ⟨_, rfl⟩
  obtain ⟨neg, hn⟩ : ∃ b, cutB s = b := ⟨_, rfl⟩
  have HT := Aside0.mk ht
  have HN := Aside0.mk hn
  rw [ht] at h1 RW hsz
  rw [hn] at RW
  clear ht hn h
  have e1 : (t.toList == ([] : List UInt8)) = false := beq_eq_false_iff_ne.mpr h1.1
  have e2 : (t.toList != ([] : List UInt8)) = true := bne_iff_ne.mpr h1.1
  have q10 : (0 < t.size) = True := eq_true h1.2.1
  have qi10 : (0 < (t.size : Int)) = True := eq_true (by have := h1.2.1; omega)
  have hx10 : ∀ h : 0 < t.size, ((t[0]'h).toNat : Int) = bt t 0 := bt_at t 0
  have c1 : ((bt t 0) == 48) = true := beq_iff_eq.mpr h1.2.2.1
  have c2 : ((bt t 0) != 48) = false := bne_eq_false_iff_eq.mpr h1.2.2.1
  have c3 : (s.toList != ([48] : List UInt8)) = false := bne_eq_false_iff_eq.mpr h1.2.2.2
  have c4 : (s.toList == ([48] : List UInt8)) = true := beq_iff_eq.mpr h1.2.2.2
  have RZ := Aside0.mk (show parseT t neg 0 3 → m = 0 ∧ err = 3 from fun h => parseT_eq RW h)
  have RY := Aside0.mk RW
  clear h1 RW
  have HS := Aside0.mk hsz
  clear hsz
  go_enter Try.func23, Try.ntmps23
  go_wp2_with (first
    | ((with_reducible refine gate_dst (N := 2) rfl ?_); refine bE #[.bool false, .slice none 0 0] 25 H ?_; clear H; intro g2 w2 H; have kz_0 : w2.cell? ⟨g2, 0, none⟩ = some (.bool false) := H.cell m0 0; have kz_1 : w2.cell? ⟨g2, 1, none⟩ = some (.slice none 0 0) := H.cell m0 1; have kzz_0 := H.frozen (g := g2) m0 0; have kzz_1 := H.frozen (g := g2) m0 1)
    | (go_at_call 74; (with_reducible refine (Cut_ok s t neg HT.out HN.out _).mono ?_); rintro e w5 ⟨rfl, rfl⟩)
    | ((with_reducible refine gate_dst (N := 6) rfl ?_); refine bE #[.bool false, .slice none 0 0] 25 H ?_; clear H; intro g6 w6 H; clear kz_0 kz_1 kzz_0 kzz_1; have kx_0 : w6.cell? ⟨g6, 0, none⟩ = some (.bool false) := H.cell m0 0; have kx_1 : w6.cell? ⟨g6, 1, none⟩ = some (.slice none 0 0) := H.cell m0 1; have kxz_0 := H.frozen (g := g6) m0 0; have kxz_1 := H.frozen (g := g6) m0 1))
  replace H := (H.setn [] 0 (.bool (ng (0))) rfl).setn [] 1 (.slice none (ln (0)) 0) rfl
  have hI := POut.start t HS.out
  go_loopw [7] (fun i wr => ∃ (i' x : Int) (AX : Option Addr) (CX : Nat), i = .int .i64 i' ∧ POut t i' x ∧ Sit w wr (fun _ => False) [(g6, .cells #[.bool (ng x), .slice AX (ln x) CX] 25 (0, 0)), (g2, .cells #[.bool false, .slice none 0 0] 25 (0, 0))] [bw AX CX x, bw none 0 0]) (fun i _ => t.size + 20 - (intOf i).toNat)
  case atStart => exact ⟨0, 0, none, 0, rfl, hI, H.nilrow⟩
  case round =>
    clear H hI
    obtain ⟨i, x, AX, CX, rfl, hO, H⟩ := hrel
    obtain ⟨o1, o2, o3, -, -⟩ := id hO
    obtain ⟨xl0, xl1, xl2⟩ := hO.ln
    have HO := Aside0.mk hO
    clear hO
    by_cases hi : i < (t.size : Int)
    · have c17b0 : decide (i < (t.size : Int)) = true := decide_eq_true hi
      obtain ⟨j, hj⟩ : ∃ j : Int, (if (t.size : Int) < i + 9 then (t.size : Int) else i + 9) = j := ⟨_, rfl⟩
      have hj1 : j ≤ (t.size : Int) ∧ j ≤ i + 9 ∧ i < j := by rw [← hj]; split <;> omega
      have hwj : (if (t.size : Int) < (wrap64 (i + 9)) then (t.size : Int) else (wrap64 (i + 9))) = j := by rw [← hj, show wrap64 (i + 9) = i + 9 by unfold wrap64; omega]
      have HJ := Aside0.mk hj
      have hmj : mn (i + 9) (t.size : Int) = j := hj
      have u1 := eq_true (show 0 ≤ i by omega)
      have u2 : decide (0 ≤ i) = true := decide_eq_true (by omega)
      have u3 := eq_true (show i ≤ j by omega)
      have u4 : decide (i ≤ j) = true := decide_eq_true (by omega)
      have u5 := eq_true (show j ≤ (t.size : Int) by omega)
      have u6 : decide (j ≤ (t.size : Int)) = true := decide_eq_true (by omega)
      have HSZ := Aside0.mk (size_extract' t i j o1 (by omega) hj1.1)
      go_wp2
      clear c17b0 hwj hj hmj u1 u2 u3 u4 u5 u6
      go_loopw [9, 10, 50] (fun vn vs vk wr => ∃ (n sc k : Int), vn = .int .i64 n ∧ vs = .int .i64 sc ∧ vk = .int .i64 k ∧ PIn t i j k n sc ∧ Sit w wr (fun _ => False) [(g6, .cells #[.bool (ng x), .slice AX (ln x) CX] 25 (0, 0)), (g2, .cells #[.bool false, .slice none 0 0] 25 (0, 0))] [bw AX CX x, bw none 0 0]) (fun _ _ vk _ => 20 - (intOf vk).toNat)
      case atStart => exact ⟨0, 1, 0, rfl, rfl, rfl, PIn.start t i j (by omega), H⟩
      case round =>
        clear H
        obtain ⟨n, sc, k, rfl, rfl, rfl, hP, H⟩ := hrel
        obtain ⟨n0, n1, s0, s1⟩ := hP.range hj1.2.1
        have k0 := hP.1
        have k1 := hP.2.1
        have hsz := HSZ.out
        by_cases hk : i + k < j
        · have v1 : decide (k < ((t.extract i.toNat j.toNat).size : Int)) = true := decide_eq_true (by omega)
          have v2 : decide (0 ≤ k) = true := decide_eq_true k0
          have v3 := eq_true k0
          have v4 := eq_true (show k < ((t.extract i.toNat j.toNat).size : Int) by omega)
          have hx := bt_at (t.extract i.toNat j.toNat) k
          obtain ⟨b, hb⟩ : ∃ b, bt (t.extract i.toNat j.toNat) k = b := ⟨_, rfl⟩
          have hbb := bt_range (t.extract i.toNat j.toNat) k
          have hb2 := (bt_extract t i j k o1 k0 hk hj1.1).symm.trans hb
          rw [hb] at hx hbb
          by_cases bad : b < 48 ∨ 57 < b
          · have BAD := Aside0.mk (bad_dig (t := t) (p := i.toNat + k.toNat) (by omega) (by rw [hb2]; exact bad) neg)
            have ne1 := H.ne01; have ne2 := H.ne01.symm; have kz_0 : wr.cell? ⟨g2, 0, none⟩ = some (.bool false) := H.cell m1 0; have kz_1 : wr.cell? ⟨g2, 1, none⟩ = some (.slice none 0 0) := H.cell m1 1; have kzz_0 := H.frozen (g := g2) m1 0; have kzz_1 := H.frozen (g := g2) m1 1
            by_cases b0 : b < 48
            · have y1 : decide (b < 48) = true := decide_eq_true b0
              clear hP bad hb hb2 b0 hsz
              go_wp2
              obtain ⟨rfl, rfl⟩ := RZ.out BAD.out
              replace H := (H.setn [_] 0 (.bool (ng (0))) rfl).setn [_] 1 (.slice none (ln (0)) 0) rfl
              refine bodyPost_ret (results_list (rs := [.cell 2 25, .tmp 3]) rfl (by simp) (.cell g2 25 #[.bool (ng (0)), .slice none (ln (0)) 0] (0, 0) _ rfl (H.blk m1) Try.underlying25 rfl (by kernel_rfl) (.tmp .nil))) rfl ?_
              exact ⟨none, 0, rfl, (H.ret m1).mono (fun k hk => hk.resolve_left id), H.below⟩
            · have y1 : decide (b < 48) = false := decide_eq_false b0
              have y2 : decide (57 < b) = true := decide_eq_true (by omega)
              clear hP bad hb hb2 b0 hsz
              go_wp2
              obtain ⟨rfl, rfl⟩ := RZ.out BAD.out
              replace H := (H.setn [_] 0 (.bool (ng (0))) rfl).setn [_] 1 (.slice none (ln (0)) 0) rfl
              refine bodyPost_ret (results_list (rs := [.cell 2 25, .tmp 3]) rfl (by simp) (.cell g2 25 #[.bool (ng (0)), .slice none (ln (0)) 0] (0, 0) _ rfl (H.blk m1) Try.underlying25 rfl (by kernel_rfl) (.tmp .nil))) rfl ?_
              exact ⟨none, 0, rfl, (H.ret m1).mono (fun k hk => hk.resolve_left id), H.below⟩
          · have b0 : 48 ≤ b := by omega
            have b1 : b ≤ 57 := by omega
            have y1 : decide (b < 48) = false := decide_eq_false (by omega)
            have y2 : decide (57 < b) = false := decide_eq_false (by omega)
            have T := Aside0.mk (hP.step hk o1 hb2 b0 b1)
            have E1 : wrap64 (wrap64 (10 * n) + (b - 48) % 256) = 10 * n + (b - 48) := by unfold wrap64; omega
            have E2 : wrap64 (10 * sc) = 10 * sc := by unfold wrap64; omega
            clear hP bad hb hb2 hsz
            go_wp2
            go_roundw
            case rel => exact ⟨10 * n + (b - 48), 10 * sc, k + 1, by go_num, by go_num, by go_num, T.out, H⟩
            case measure => simp [intOf]; omega
        · have v1 : decide (k < ((t.extract i.toNat j.toNat).size : Int)) = false := decide_eq_false (by omega)
          have T := Aside0.mk (hP.next HO.out (by omega) hi HJ.out.symm)
          have lx := Aside0.mk (ln_small (s := sc) (by omega) (by omega))
          have l0 := Aside0.mk (ln_small (s := n) (by omega) (by omega))
          have lm := Aside0.mk (ln_mul_le (x := x) (s := sc) 4096 xl1 lx.out)
          have xl2' := Aside0.mk xl2
          have ll := Aside0.mk (Nat.le_trans xl1 (show 4096 ≤ 10000000 by omega))
          obtain ⟨tl0, tl1, tl2⟩ := T.out.ln
          have TL := Aside0.mk tl2
          clear hP hsz tl0 tl1 tl2 hi hj1 xl1 xl2
          try go_wp2
          replace H := H.drew
          clear v1
          refine start_ (n := 8) (S := fun w' => w'.cell? ⟨g6, 0, none⟩ = some (.bool (ng x)) ∧ w'.cell? ⟨g6, 1, none⟩ = some (.slice AX (ln x) CX)) (ds := [7]) #[false, false, false, false, false, false, false, false] (by kernel_rfl) rfl rfl (H.d2 m0) (fun hQ => ?_)
          refine pU 1 76 (bm 8 2) ?_
          refine pU 4 79 (bm 8 18) ?_
          refine tU hQ 0 75 (bm 8 19) ?_
          refine oU 2 77 (bm 8 23) (fun K hK => ?_)
          refine gT Try.func27 #[.int .i64 sc] ?_
          with_reducible refine (Of_ok sc _ (fun _ => False) (by omega) (by omega)).mono ?_
          rintro e w8 ⟨A8, c8, rfl, hr, hb⟩
          refine ⟨_, rfl, ?_⟩
          replace H := H.got (hr.mono (fun _ h => .inr (h.resolve_left id))) hb
          clear hr hb
          refine hK.out _ _ (H.d2 m0) (fun hQ => ?_)
          clear hK K
          refine nT ?_
          refine oU 3 78 (bm 8 31) (fun K hK => ?_)
          refine gT Try.func31 #[.agg #[.bool (ng x), .slice AX (ln x) CX], .agg #[.bool (ng sc), .slice A8 (ln sc) c8]] ?_
          with_reducible refine (Mul_ok AX A8 CX c8 x sc _ _ (H.row _ m1) (H.row _ m0) ll.out (Nat.le_trans lx.out (by omega))).mono ?_
          rintro e w9 ⟨A9, c9, rfl, hr, hb⟩
          refine ⟨_, rfl, ?_⟩
          replace H := H.got (hr) hb
          clear hr hb
          refine hK.out _ _ (H.d2 m0) (fun hQ => ?_)
          clear hK K
          refine nT ?_
          refine oU 5 80 (bm 8 63) (fun K hK => ?_)
          refine gT Try.func27 #[.int .i64 n] ?_
          with_reducible refine (Of_ok n _ (fun _ => False) (by omega) (by omega)).mono ?_
          rintro e w10 ⟨A10, c10, rfl, hr, hb⟩
          refine ⟨_, rfl, ?_⟩
          replace H := H.got (hr.mono (fun _ h => .inr (h.resolve_left id))) hb
          clear hr hb
          refine hK.out _ _ (H.d2 m0) (fun hQ => ?_)
          clear hK K
          refine nT ?_
          refine oU 6 81 (bm 8 127) (fun K hK => ?_)
          refine gT Try.func28 #[.agg #[.bool (ng (x * sc)), .slice A9 (ln (x * sc)) c9], .agg #[.bool (ng n), .slice A10 (ln n) c10]] ?_
          with_reducible refine (Add_ok A9 A10 c9 c10 (x * sc) n _ _ (H.row _ m1) (H.row _ m0) (Nat.le_trans lm.out (by omega)) (Nat.le_trans l0.out (by omega))).mono ?_
          rintro e w11 ⟨A11, c11, rfl, hr, hb⟩
          refine ⟨_, rfl, ?_⟩
          replace H := H.got (hr) hb
          clear hr hb
          refine hK.out _ _ (H.d2 m0) (fun hQ => ?_)
          clear hK K
          refine nT ?_
          refine lU 7 (bm 8 255) (fun K hK => ?_)
          have kx_0 : w11.cell? ⟨g6, 0, none⟩ = some (.bool (ng x)) := H.cell m0 0
          have kx_1 : w11.cell? ⟨g6, 1, none⟩ = some (.slice AX (ln x) CX) := H.cell m0 1
          have kxz_0 := H.frozen (g := g6) m0 0
          have kxz_1 := H.frozen (g := g6) m0 1
          refine kT ?_
          refine hK.out _ _ ?_
          clear hK K
          refine done_ (by kernel_rfl) ?_
          replace H := (H.setn [] 0 (.bool (ng (x * sc + n))) rfl).setn [] 1 (.slice A11 (ln (x * sc + n)) c11) rfl
          try go_wp2
          go_roundw
          case rel => exact ⟨i + 9, x * sc + n, A11, c11, by go_num, T.out, ⟨H.below, H.nd, H.box, fun f hf => H.row f (by rcases List.mem_cons.mp hf with rfl | hf; exact m0; rcases List.mem_cons.mp hf with rfl | hf; exact m5; cases hf)⟩⟩
          case measure => simp [intOf]; omega
    · have v1 : decide (i < (t.size : Int)) = false := decide_eq_false hi
      obtain ⟨sd, sx⟩ := HO.out.stop (by omega)
      have ne1 := H.ne01; have ne2 := H.ne01.symm; have kx_0 : wr.cell? ⟨g6, 0, none⟩ = some (.bool (ng x)) := H.cell m0 0; have kx_1 : wr.cell? ⟨g6, 1, none⟩ = some (.slice AX (ln x) CX) := H.cell m0 1; have kxz_0 := H.frozen (g := g6) m0 0; have kxz_1 := H.frozen (g := g6) m0 1; have kz_0 : wr.cell? ⟨g2, 0, none⟩ = some (.bool false) := H.cell m1 0; have kz_1 : wr.cell? ⟨g2, 1, none⟩ = some (.slice none 0 0) := H.cell m1 1; have kzz_0 := H.frozen (g := g2) m1 0; have kzz_1 := H.frozen (g := g2) m1 1
      have xl3 := Aside0.mk (Nat.le_trans xl1 (show 4096 ≤ 1000000000 by omega))
      clear xl0 xl1 xl2 hi HO o1 o2 o3
      cases neg with
      | true =>
        have RE := Aside0.mk (parseT_eq RY.out (.inl ⟨sd, rfl, rfl⟩))
        have SX := Aside0.mk sx
        clear sd sx RY RZ
        go_wp2_with (first
          | (go_at_call 37; (with_reducible refine (Neg_ok AX CX x _ _ (H.row _ m0) xl3.out).mono ?_); rintro e w12 ⟨A12, c12, rfl, hr, hb⟩; replace H := H.got hr hb; clear hr hb kx_0 kx_1 kxz_0 kxz_1 kz_0 kz_1 kzz_0 kzz_1; have kx_0 : w12.cell? ⟨g6, 0, none⟩ = some (.bool (ng x)) := H.cell m0 0; have kx_1 : w12.cell? ⟨g6, 1, none⟩ = some (.slice AX (ln x) CX) := H.cell m0 1; have kxz_0 := H.frozen (g := g6) m0 0; have kxz_1 := H.frozen (g := g6) m0 1; have kz_0 : w12.cell? ⟨g2, 0, none⟩ = some (.bool false) := H.cell m1 0; have kz_1 : w12.cell? ⟨g2, 1, none⟩ = some (.slice none 0 0) := H.cell m1 1; have kzz_0 := H.frozen (g := g2) m1 0; have kzz_1 := H.frozen (g := g2) m1 1))
        replace H := (((H.setn [] 0 (.bool (ng (-x))) rfl).setn [] 1 (.slice A12 (ln (-x)) c12) rfl).setn [_] 0 (.bool (ng (-x))) rfl).setn [_] 1 (.slice A12 (ln (-x)) c12) rfl
        obtain ⟨rfl, rfl⟩ := RE.out
        obtain rfl := SX.out
        refine bodyPost_ret (results_list (rs := [.cell 2 25, .tmp 3]) rfl (by simp) (.cell g2 25 #[.bool (ng (-(pc t 0 t.size))), .slice A12 (ln (-(pc t 0 t.size))) c12] (0, 0) _ rfl (H.blk m1) Try.underlying25 rfl (by kernel_rfl) (.tmp .nil))) rfl ?_
        exact ⟨A12, c12, rfl, (H.ret m0).mono (fun k hk => hk.resolve_left id), H.below⟩
      | false =>
        have RE := Aside0.mk (parseT_eq RY.out (.inl ⟨sd, rfl, rfl⟩))
        have SX := Aside0.mk sx
        clear sd sx RY RZ
        go_wp2
        replace H := (H.setn [_] 0 (.bool (ng x)) rfl).setn [_] 1 (.slice AX (ln x) CX) rfl
        obtain ⟨rfl, rfl⟩ := RE.out
        obtain rfl := SX.out
        refine bodyPost_ret (results_list (rs := [.cell 2 25, .tmp 3]) rfl (by simp) (.cell g2 25 #[.bool (ng (pc t 0 t.size)), .slice AX (ln (pc t 0 t.size)) CX] (0, 0) _ rfl (H.blk m1) Try.underlying25 rfl (by kernel_rfl) (.tmp .nil))) rfl ?_
        exact ⟨AX, CX, rfl, (H.ret m0).mono (fun k hk => hk.resolve_left id), H.below⟩

open Classical in
/-- What bigint.Parse makes of a text: the number, and the error's number. -/
noncomputable def pr (s : ByteArray) : Int × Int :=
  if 4096 < s.size then (0, 5)
  else if (cutS s).toList = [] ∨ (bt (cutS s) 0 = 48 ∧ s.toList ≠ [48]) ∨ ¬ Dg (cutS s) 0 (cutS s).size then (0, 3)
  else ((if cutB s = true then -(pc (cutS s) 0 (cutS s).size) else pc (cutS s) 0 (cutS s).size), 0)

theorem cutS_size (s : ByteArray) : (cutS s).size ≤ s.size := by
  have h : ∀ l : List UInt8, (Lib.trimPrefix l [45]).length ≤ l.length := by
    intro l
    unfold Lib.trimPrefix
    split <;> simp
  have h2 := h s.data.toList
  show ((Lib.trimPrefix s.data.toList [45]).toArray).size ≤ s.data.size
  rw [List.size_toArray]
  rwa [Array.length_toList] at h2
theorem size_pos_of (t : ByteArray) (h : t.toList ≠ []) : 0 < t.size := by
  rcases Nat.eq_zero_or_pos t.size with h0 | h0
  · refine absurd ?_ h
    obtain ⟨d⟩ := t
    obtain rfl : d = #[] := Array.eq_empty_of_size_eq_zero h0
    unfold ByteArray.toList ByteArray.toList.loop
    rfl
  · exact h0

theorem Parse_ok (s : ByteArray) (w : World) : Calls Try.prog 23 #[.string s] w (RetPa w (pr s).1 (pr s).2) := by
  unfold pr
  by_cases hf : 4096 < s.size
  · rw [if_pos hf]; exact Parse_full s w (by omega)
  · rw [if_neg hf]
    have hsz : ((cutS s).size : Int) ≤ 4096 := by have := cutS_size s; omega
    by_cases h0 : (cutS s).toList = []
    · rw [if_pos (.inl h0)]; exact Parse_none s w (by omega) h0
    · have hp := size_pos_of _ h0
      by_cases h1 : bt (cutS s) 0 = 48
      · by_cases h2 : s.toList = [48]
        · refine Parse_null s w (by omega) ⟨h0, hp, h1, h2⟩ hsz _ _ ?_
          split
          · next h =>
            rcases h with h | h | h
            · exact absurd h h0
            · exact absurd h2 h.2
            · exact .inr ⟨h, rfl, rfl⟩
          · next h => exact .inl ⟨Classical.not_not.mp (fun h' => h (.inr (.inr h'))), rfl, rfl⟩
        · rw [if_pos (.inr (.inl ⟨h1, h2⟩))]; exact Parse_zero s w (by omega) ⟨h0, hp, h1, h2⟩
      · refine Parse_dig s w (by omega) ⟨h0, hp, h1⟩ hsz _ _ ?_
        split
        · next h =>
          rcases h with h | h | h
          · exact absurd h h0
          · exact absurd h.1 h1
          · exact .inr ⟨h, rfl, rfl⟩
        · next h => exact .inl ⟨Classical.not_not.mp (fun h' => h (.inr (.inr h'))), rfl, rfl⟩

end Go.Proofs.Ytdkapdgbfejgdaa
