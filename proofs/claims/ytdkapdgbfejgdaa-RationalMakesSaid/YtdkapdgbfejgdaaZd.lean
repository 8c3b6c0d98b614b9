/- bigint.Int.Div with named results. -/
import Derived.Test.YtdkapdgbfejgdaaSq
import Derived.Test.YtdkapdgbfejgdaaLr
import Derived.Test.YtdkapdgbfejgdaaYe
import Derived.Test.YtdkapdgbfejgdaaZ
/- bigint.long: the quotient and the remainder of two numbers in digits. -/
namespace Go.Proofs.Ytdkapdgbfejgdaa
open Go.Shelf
open Go.RowKit Go.Proofs.YtdkapdgbfejgdaaW.PrintWords Go.Proofs.YtdkapdgbfejgdaaW.PrintLast Go.Proofs.YtdkapdgbfejgdaaW.PrintMore
attribute [local go_sem] Oper.semAt_some
set_option linter.unusedSimpArgs false
set_option linter.unusedVariables false

theorem LZ_ok (d : Int) (s : Nat) (w : World) (h0 : 0 ≤ d) (h1 : d ≤ 4294967295) (h : (32 - (Lib.bitLen d.toNat : Int)) = s) : Calls Try.prog 100 #[.int .u32 d] w fun e w' => e = .returned (.int .i64 (s : Int)) ∧ w = w' :=
  (Try.bits_LeadingZeros32 d w h0 h1).mono fun _ _ ⟨a, b⟩ => ⟨by rw [a, h], b.symm⟩

/-- It returns two rows. -/
def RetLL (w : World) (q r : List Int) (e : Ending) (w' : World) : Prop :=
  ∃ A c A' c', e = .returned (.tuple #[.slice A q.length c, .slice A' r.length c']) ∧ (⟨.u32, A, c, q⟩ : Rw).at w' (fun k => w.heap.size ≤ k) ∧ (⟨.u32, A', c', r⟩ : Rw).at w' (fun k => w.heap.size ≤ k) ∧ Below w.heap.size w w'

theorem LI.posV {A : Int} {V out U : List Int} {j : Nat} (h : LI A V out U j) : 0 < vl 4294967296 V := by
  obtain ⟨hU, ho, hll, hj, hA, hlt, hz⟩ := h
  have hn : 0 ≤ vl 4294967296 U := by have := (okd_lt hU U.length).2; rwa [vl_take_all (Nat.le_refl _)] at this
  have hP := pow_pos j
  refine Int.lt_of_mul_lt_mul_left (a := 4294967296 ^ j) ?_ (Int.le_of_lt hP)
  rw [Int.mul_zero]
  exact Int.lt_of_le_of_lt hn hlt
theorem long_end {l l2 O Uf V rr q r U : List Int} {s n : Nat} (hl : Okd 4294967296 l) (hl2 : Okd 4294967296 l2) (hn : l2.length = n) (h : LI (vl 4294967296 U) V O Uf 0) (e3 : vl 4294967296 V = vl 4294967296 l2 * 2 ^ s) (u3 : vl 4294967296 U = vl 4294967296 l * 2 ^ s)
    (hun : UN Uf rr s n n) (hq : dg 4294967296 (vl 4294967296 l / vl 4294967296 l2).toNat = q) (hr : dg 4294967296 (vl 4294967296 l % vl 4294967296 l2).toNat = r) : trimR O = q ∧ trimR rr = r := by
  have hV := h.posV
  obtain ⟨d1, d2⟩ := h.done hV
  have hp : (0 : Int) < 2 ^ s := Int.pow_pos (by omega)
  have hl20 : 0 < vl 4294967296 l2 := by
    rw [e3] at hV
    refine Int.lt_of_mul_lt_mul_right (a := 2 ^ s) ?_ (Int.le_of_lt hp)
    rw [Int.zero_mul]; exact hV
  rw [e3, u3] at d1 d2
  obtain ⟨f1, f2⟩ := norm_done hl20 d1 d2
  have hlt : vl 4294967296 l % vl 4294967296 l2 < 4294967296 ^ n := by
    have h1 := Int.emod_lt_of_pos (vl 4294967296 l) hl20
    have h2 := vl_lt (b := 4294967296) (by omega) hl2
    rw [hn] at h2
    exact Int.lt_trans h1 h2
  have f3 := hun.done f2 (Int.emod_nonneg _ (by omega)) hlt
  constructor
  · have := trimR_dg 4294967296 (by omega) O h.2.1
    rw [this]; show dg 4294967296 (vl 4294967296 O).toNat = _
    rw [f1]; exact hq
  · have := trimR_dg 4294967296 (by omega) rr hun.2.1
    rw [this]; show dg 4294967296 (vl 4294967296 rr).toNat = _
    rw [f3]; exact hr
theorem LS.newbox0 {s : Nat} {w0 W W' : World} {ok : Nat → Prop} {bs : List (Nat × Obj)} (h : LS s w0 W ok bs []) {g : Nat} {o : Obj} (hg : g = W.heap.size) (hbox : W'.heap[g]? = some o) (hc : o.isCells = true) (hb : Below W.heap.size W W') : LS s w0 W' ok ((g, o) :: bs) [] := by
  have := h.sit.newbox hg hbox hb
  refine ⟨h.hs, this.below, this.nd, this.box, ?_, by simp⟩
  intro b hm
  rcases List.mem_cons.mp hm with rfl | hm
  · exact hc
  · exact h.cel b hm
theorem idx_s {i n L Lu : Nat} (hi : i < n) (hL : 1 ≤ L) (h : L + n = Lu) : i + 1 < Lu := by omega
theorem un_zero {y : Int} {s : Nat} (h : s = 0) : y * 2 ^ (32 - s) % 4294967296 = 0 := by
  subst h
  exact Int.mul_emod_left y 4294967296
theorem wrap_succ {i : Nat} (h : i ≤ 10000001) : wrap64 ((i : Int) + 1) = ((i + 1 : Nat) : Int) := by unfold wrap64; omega
theorem wrap_32 {s : Nat} (h : s ≤ 31) : wrap64 (32 - (s : Int)) = ((32 - s : Nat) : Int) := by unfold wrap64; omega
theorem addr_at (g i : Nat) : (⟨g, 0, none⟩ : Addr).add i = ⟨g, i, none⟩ := by
  unfold Addr.add
  by_cases h0 : i = 0 <;> simp [h0]
theorem Sit.newbox2 {w0 w : World} {ok : Nat → Prop} {bs : List (Nat × Obj)} {fs : List Rw} {o1 : Obj} (h : Sit w0 (w.alloc o1) ok bs fs) (o : Obj) : Sit w0 ((w.alloc o1).alloc o) ok ((w.heap.size + 1, o) :: bs) fs := by
  have e : w.heap.size + 1 = (w.alloc o1).heap.size := (World.size_alloc _ _).symm
  rw [e]
  exact h.newbox rfl (blk_new _ o) (below_alloc (Below.refl _ _) _)
theorem wp_normal {P : Program} {cd : Code} {Q : Exit → Act → World → Prop} {a : Act} {w : World} (h : cd.wp P (Exit.then (Q .normal) (fun _ _ _ => False)) a w) : cd.wp P Q a w :=
  Go.wp_mono h (fun e a w q => by cases e <;> first | exact q | exact q.elim)
theorem wp_strict {P : Program} {cd : Code} {K : Act → World → Prop} {Q : Exit → Act → World → Prop} {a : Act} {w : World} (h : cd.wp P (Exit.then K (fun _ _ _ => False)) a w) : cd.wp P (Exit.then K Q) a w :=
  Go.wp_mono h (fun e a w q => by cases e <;> first | exact q | exact q.elim)

set_option maxHeartbeats 16000000 in
set_option maxRecDepth 200000 in
theorem long_ok (A : Option Addr) (c : Nat) (l : List Int) (A' : Option Addr) (c' : Nat) (l2 q r : List Int) (a L n m : Nat) (d : Int) (w : World) (ok : Nat → Prop)
    (hl : Okd 4294967296 l) (hl2 : Okd 4294967296 l2) (ha : l.length = a) (hn : l2.length = n) (hm : n = m + 2) (hL : a + 1 = L + n) (hL1 : 1 ≤ L) (hsz : a ≤ 10000000) (hd : l2.getD (m + 1) 0 = d) (hd0 : 1 ≤ d)
    (hf : (⟨.u32, A, c, l⟩ : Rw).at w ok) (hf' : (⟨.u32, A', c', l2⟩ : Rw).at w ok) (hq : dg 4294967296 (vl 4294967296 l / vl 4294967296 l2).toNat = q) (hr : dg 4294967296 (vl 4294967296 l % vl 4294967296 l2).toNat = r) :
    Calls Try.prog 83 #[.slice A a c, .slice A' n c'] w (RetLL w q r) := by
  have H := ((Sit.start w ok).arg hf).arg hf'
  clear hf hf'
  obtain ⟨ad, ea, ra⟩ := H.read (f := ⟨.u32, A', c', l2⟩) m0 (m + 1) (by simp only; omega)
  simp only at ea ra
  subst ea
  rw [hd] at ra
  have hd9 := hl2.getD (by omega) (m + 1)
  rw [hd] at hd9
  obtain ⟨s, hs, hls, hd1, hd2⟩ := lz_ok hd0 hd9.2
  obtain ⟨kU, U, hU, u1, u2, u3⟩ := shift_f l s hl hs (by omega)
  obtain ⟨kV, V1, hV, v1, v2, v3⟩ := shift_f l2 s hl2 hs (by omega)
  obtain ⟨e3, top, LI0⟩ := norm_ok (n := m + 1) hl hl2 (by omega) (by omega) hd hs hd1 hd2 u1 u2 u3 v1 v2 v3
  rw [show l.length - (m + 1) = L by omega] at LI0
  rw [show m + 1 + 1 = n by omega] at LI0 e3
  obtain ⟨m1', hm1⟩ : ∃ m1', m + 1 = m1' := ⟨_, rfl⟩
  rw [hm1] at ra top
  obtain ⟨Lu, hLu⟩ : ∃ Lu, L + n = Lu := ⟨_, rfl⟩
  obtain ⟨n1, hn1⟩ : ∃ n1, n + 1 = n1 := ⟨_, rfl⟩
  have x1 : wrap64 ((n : Int) - 1) = (m1' : Int) := by unfold wrap64; omega
  have x2 : wrap64 ((n : Int) - 2) = (m : Int) := by unfold wrap64; omega
  have x3 : wrap64 ((Lu : Int) - (n : Int)) = (L : Int) := by unfold wrap64; omega
  have y1 : m1' < n := by omega
  have y2 : m < n := by omega
  have y3 : n ≤ n1 := by omega
  have y4 : L ≤ 10000000 := by omega
  have HU := Aside0.mk hU
  have HV := Aside0.mk hV
  have U1 := Aside0.mk (show U.length = Lu by omega)
  have V1L := Aside0.mk (show V1.length = n1 by omega)
  have P1 := Aside0.mk (show 0 < Lu by omega)
  have P2 := Aside0.mk (show 0 < n1 by omega)
  have LZ := Aside0.mk hls
  have HQ := Aside0.mk hq
  have HR := Aside0.mk hr
  have LI0 := Aside0.mk LI0
  have TOP := Aside0.mk top
  have E3 := Aside0.mk e3
  have U3 := Aside0.mk u3
  have V2 := Aside0.mk v2
  have HL := Aside0.mk hl
  have HL2 := Aside0.mk hl2
  have HD := Aside0.mk hd
  have HA := Aside0.mk ha
  have HN := Aside0.mk hn
  have HM := Aside0.mk (And.intro hm hm1)
  have HLu := Aside0.mk (And.intro hLu hn1)
  have HLa := Aside0.mk hL
  have HN5 := Aside0.mk (show n ≤ 10000001 by omega)
  have d0 : 0 ≤ d := by omega
  have d1 : d ≤ 4294967295 := by omega
  clear hd1 hd2 hd9 hU hV u1 u2 u3 v1 v2 v3 e3 top hls hq hr hl hl2 hd hL ha hn hm hm1 hLu hn1
  refine callsIn_wide.1 (callsIn_of_wp_marks (F := Fence.wide) (n := 5) Try.func83 rfl trivial ?_)
  refine wpIn_wide.2 ?_
  simp only [Try.ntmps83, List.size_toArray, List.length_cons, List.length_nil, Nat.reduceAdd, Nat.reduceSub, Array.replicate_succ, Array.replicate_zero, List.push_toArray, List.append_toArray, List.nil_append, List.cons_append]
  go_wp2_with (first
    | (go_at_call 100; (with_reducible refine (LZ_ok d s _ d0 d1 LZ.out).mono ?_); rintro e w1 ⟨rfl, rfl⟩))
  clear ra
  replace H := H.drew
  refine wp_strict ?_
  refine start_ (n := 13) (S := fun w' => True) (ds := [11, 12]) #[false, false, false, false, false, false, false, false, false, false, false, false, false] (by kernel_rfl) rfl rfl trivial (fun hQ => ?_)
  generalize w.drew = w2 at H hQ ⊢
  refine pU 0 30 (bm 13 1) ?_
  refine pU 1 31 (bm 13 3) ?_
  refine pU 3 33 (bm 13 11) ?_
  refine pU 4 34 (bm 13 27) ?_
  refine pU 6 36 (bm 13 91) ?_
  refine pU 7 37 (bm 13 219) ?_
  refine join_ (σ := Nat × Nat × List Value × Nat × Nat × List Value × Nat × Nat) 2 #[true, true, true, true, true, true, true, true, true, true, true, false, false] (fun s_ => [(32, .slice (some ⟨s_.1, 0, none⟩) Lu s_.2.1), (35, .slice (some ⟨s_.2.2.2.1, 0, none⟩) n1 s_.2.2.2.2.1), (7, .pointer (some ⟨s_.2.2.2.2.2.2.1, 0, none⟩)), (8, .pointer (some ⟨s_.2.2.2.2.2.2.2, 0, none⟩)), (38, .slice (some ⟨s_.2.2.2.1, 0, none⟩) n s_.2.2.2.2.1)]) (fun s_ w' => Sit w w' ok [(s_.2.2.2.2.2.2.2, .cells #[.slice none 0 0] 23 (0, 0)), (s_.2.2.2.2.2.2.1, .cells #[.slice none 0 0] 23 (0, 0)), (s_.2.2.2.1, .cells (V1.map (Value.int .u32) ++ s_.2.2.2.2.2.1).toArray 93 (0, 0)), (s_.1, .cells (U.map (Value.int .u32) ++ s_.2.2.1).toArray 93 (0, 0))] [⟨.u32, some ad, c', l2⟩, ⟨.u32, A, c, l⟩] ∧ Lu ≤ s_.2.1 ∧ n1 ≤ s_.2.2.2.2.1) ?_ ?_
  rotate_left
  · intro hCont
    refine three_ (i := 2) (j := 9) (k := 10) (Ni := some 32) (Nj := some 7) (Nk := some 8) (bm 13 223) (bm 13 731) (bm 13 1243) rfl rfl rfl rfl rfl rfl (by kernel_rfl) (by decide) (by decide) (by decide) (fun K hK => ?_) (fun K hK => ?_) (fun K hK => ?_)
    · skip
      refine gT Try.func101 #[.slice A a c, .int .i64 (s : Int)] ?_
      with_reducible refine (shift_box (H.row _ m1) HU.out a HA.out Lu U1.out P1.out).mono ?_
      rintro e w3 ⟨gu, cu, tlu, rfl, hg, hh, hcu, hb⟩
      replace H := H.gotbox hg hh hb
      clear hg hh hb
      refine ⟨_, rfl, ?_⟩
      refine hK.out _ _ trivial (fun hQ => ?_)
      clear hK K
      refine nT ?_
      refine three_ (i := 5) (j := 9) (k := 10) (Ni := some 35) (Nj := some 7) (Nk := some 8) (bm 13 255) (bm 13 735) (bm 13 1247) rfl rfl rfl rfl rfl rfl (by kernel_rfl) (by decide) (by decide) (by decide) (fun K hK => ?_) (fun K hK => ?_) (fun K hK => ?_)
      · skip
        refine gT Try.func101 #[.slice (some ad) n c', .int .i64 (s : Int)] ?_
        with_reducible refine (shift_box (H.row _ m0) HV.out n HN.out n1 V1L.out P2.out).mono ?_
        rintro e w3 ⟨gv, cv, tlv, rfl, hg, hh, hcv, hb⟩
        have hcn : n ≤ cv := Nat.le_trans y3 hcv
        replace H := H.gotbox hg hh hb
        clear hg hh hb
        refine ⟨_, rfl, ?_⟩
        refine hK.out _ _ trivial (fun hQ => ?_)
        clear hK K
        refine nT ?_
        refine pU 8 38 (bm 13 511) ?_
        refine two_ (i := 9) (j := 10) (Ni := some 7) (Nj := some 8) (bm 13 1023) (bm 13 1535) rfl rfl rfl rfl (by kernel_rfl) (by decide) (by decide) (fun K hK => ?_) (fun K hK => ?_)
        · skip
          refine value_ (w1 := ?_) (v := ?_) (by rfl) rfl ?_ ?_
          rotate_left 2
          · go_simp
            constructor
            · rfl
            · rfl
          replace H := H.newbox rfl (blk_new _ (.cells #[.slice none 0 0] 23 (0, 0))) (below_alloc (Below.refl _ _) _)
          refine hK.out _ _ trivial (fun hQ => ?_)
          clear hK K
          refine nT ?_
          refine oU 10 8 (bm 13 2047) (fun K hK => ?_)
          refine value_ (w1 := ?_) (v := ?_) (by rfl) rfl ?_ ?_
          rotate_left 2
          · go_simp
            constructor
            · rfl
            · rfl
          replace H := H.newbox2 (.cells #[.slice none 0 0] 23 (0, 0))
          refine hK.out _ _ trivial (fun hQ => ?_)
          clear hK K
          refine nT ?_
          exact norm_ (by simp only [putAll, Act.put, List.setIfInBounds_toArray, List.set_cons_zero, List.set_cons_succ]; try rfl) (hCont ⟨gu, cu, tlu, gv, cv, tlv, _, _⟩ _ ⟨H, hcu, hcv⟩)
        · skip
          refine value_ (w1 := ?_) (v := ?_) (by rfl) rfl ?_ ?_
          rotate_left 2
          · go_simp
            constructor
            · rfl
            · rfl
          replace H := H.newbox rfl (blk_new _ (.cells #[.slice none 0 0] 23 (0, 0))) (below_alloc (Below.refl _ _) _)
          refine hK.out _ _ trivial (fun hQ => ?_)
          clear hK K
          refine nT ?_
          refine oU 9 7 (bm 13 2047) (fun K hK => ?_)
          refine value_ (w1 := ?_) (v := ?_) (by rfl) rfl ?_ ?_
          rotate_left 2
          · go_simp
            constructor
            · rfl
            · rfl
          replace H := H.newbox2 (.cells #[.slice none 0 0] 23 (0, 0))
          refine hK.out _ _ trivial (fun hQ => ?_)
          clear hK K
          refine nT ?_
          exact norm_ (by simp only [putAll, Act.put, List.setIfInBounds_toArray, List.set_cons_zero, List.set_cons_succ]; try rfl) (hCont ⟨gu, cu, tlu, gv, cv, tlv, _, _⟩ _ ⟨(H.perm (.swap _ _ _)), hcu, hcv⟩)
      · skip
        refine value_ (w1 := ?_) (v := ?_) (by rfl) rfl ?_ ?_
        rotate_left 2
        · go_simp
          constructor
          · rfl
          · rfl
        replace H := H.newbox rfl (blk_new _ (.cells #[.slice none 0 0] 23 (0, 0))) (below_alloc (Below.refl _ _) _)
        refine hK.out _ _ trivial (fun hQ => ?_)
        clear hK K
        refine nT ?_
        refine two_ (i := 5) (j := 10) (Ni := some 35) (Nj := some 8) (bm 13 767) (bm 13 1759) rfl rfl rfl rfl (by kernel_rfl) (by decide) (by decide) (fun K hK => ?_) (fun K hK => ?_)
        · skip
          refine gT Try.func101 #[.slice (some ad) n c', .int .i64 (s : Int)] ?_
          with_reducible refine (shift_box (H.row _ m0) HV.out n HN.out n1 V1L.out P2.out).mono ?_
          rintro e w3 ⟨gv, cv, tlv, rfl, hg, hh, hcv, hb⟩
          have hcn : n ≤ cv := Nat.le_trans y3 hcv
          replace H := H.gotbox hg hh hb
          clear hg hh hb
          refine ⟨_, rfl, ?_⟩
          refine hK.out _ _ trivial (fun hQ => ?_)
          clear hK K
          refine nT ?_
          refine pU 8 38 (bm 13 1023) ?_
          refine oU 10 8 (bm 13 2047) (fun K hK => ?_)
          refine value_ (w1 := ?_) (v := ?_) (by rfl) rfl ?_ ?_
          rotate_left 2
          · go_simp
            constructor
            · rfl
            · rfl
          replace H := H.newbox rfl (blk_new _ (.cells #[.slice none 0 0] 23 (0, 0))) (below_alloc (Below.refl _ _) _)
          refine hK.out _ _ trivial (fun hQ => ?_)
          clear hK K
          refine nT ?_
          exact norm_ (by simp only [putAll, Act.put, List.setIfInBounds_toArray, List.set_cons_zero, List.set_cons_succ]; try rfl) (hCont ⟨gu, cu, tlu, gv, cv, tlv, _, _⟩ _ ⟨(H.perm (.cons _ (.swap _ _ _))), hcu, hcv⟩)
        · skip
          refine value_ (w1 := ?_) (v := ?_) (by rfl) rfl ?_ ?_
          rotate_left 2
          · go_simp
            constructor
            · rfl
            · rfl
          replace H := H.newbox2 (.cells #[.slice none 0 0] 23 (0, 0))
          refine hK.out _ _ trivial (fun hQ => ?_)
          clear hK K
          refine nT ?_
          refine oU 5 35 (bm 13 1791) (fun K hK => ?_)
          refine gT Try.func101 #[.slice (some ad) n c', .int .i64 (s : Int)] ?_
          with_reducible refine (shift_box (H.row _ m0) HV.out n HN.out n1 V1L.out P2.out).mono ?_
          rintro e w3 ⟨gv, cv, tlv, rfl, hg, hh, hcv, hb⟩
          have hcn : n ≤ cv := Nat.le_trans y3 hcv
          replace H := H.gotbox hg hh hb
          clear hg hh hb
          refine ⟨_, rfl, ?_⟩
          refine hK.out _ _ trivial (fun hQ => ?_)
          clear hK K
          refine nT ?_
          refine pU 8 38 (bm 13 2047) ?_
          exact norm_ (by simp only [putAll, Act.put, List.setIfInBounds_toArray, List.set_cons_zero, List.set_cons_succ]; try rfl) (hCont ⟨gu, cu, tlu, gv, cv, tlv, _, _⟩ _ ⟨(H.perm (List.Perm.trans (.swap _ _ _) (.cons _ (.swap _ _ _)))), hcu, hcv⟩)
      · skip
        refine value_ (w1 := ?_) (v := ?_) (by rfl) rfl ?_ ?_
        rotate_left 2
        · go_simp
          constructor
          · rfl
          · rfl
        replace H := H.newbox rfl (blk_new _ (.cells #[.slice none 0 0] 23 (0, 0))) (below_alloc (Below.refl _ _) _)
        refine hK.out _ _ trivial (fun hQ => ?_)
        clear hK K
        refine nT ?_
        refine two_ (i := 5) (j := 9) (Ni := some 35) (Nj := some 7) (bm 13 1279) (bm 13 1759) rfl rfl rfl rfl (by kernel_rfl) (by decide) (by decide) (fun K hK => ?_) (fun K hK => ?_)
        · skip
          refine gT Try.func101 #[.slice (some ad) n c', .int .i64 (s : Int)] ?_
          with_reducible refine (shift_box (H.row _ m0) HV.out n HN.out n1 V1L.out P2.out).mono ?_
          rintro e w3 ⟨gv, cv, tlv, rfl, hg, hh, hcv, hb⟩
          have hcn : n ≤ cv := Nat.le_trans y3 hcv
          replace H := H.gotbox hg hh hb
          clear hg hh hb
          refine ⟨_, rfl, ?_⟩
          refine hK.out _ _ trivial (fun hQ => ?_)
          clear hK K
          refine nT ?_
          refine pU 8 38 (bm 13 1535) ?_
          refine oU 9 7 (bm 13 2047) (fun K hK => ?_)
          refine value_ (w1 := ?_) (v := ?_) (by rfl) rfl ?_ ?_
          rotate_left 2
          · go_simp
            constructor
            · rfl
            · rfl
          replace H := H.newbox rfl (blk_new _ (.cells #[.slice none 0 0] 23 (0, 0))) (below_alloc (Below.refl _ _) _)
          refine hK.out _ _ trivial (fun hQ => ?_)
          clear hK K
          refine nT ?_
          exact norm_ (by simp only [putAll, Act.put, List.setIfInBounds_toArray, List.set_cons_zero, List.set_cons_succ]; try rfl) (hCont ⟨gu, cu, tlu, gv, cv, tlv, _, _⟩ _ ⟨(H.perm (List.Perm.trans (.cons _ (.swap _ _ _)) (.swap _ _ _))), hcu, hcv⟩)
        · skip
          refine value_ (w1 := ?_) (v := ?_) (by rfl) rfl ?_ ?_
          rotate_left 2
          · go_simp
            constructor
            · rfl
            · rfl
          replace H := H.newbox2 (.cells #[.slice none 0 0] 23 (0, 0))
          refine hK.out _ _ trivial (fun hQ => ?_)
          clear hK K
          refine nT ?_
          refine oU 5 35 (bm 13 1791) (fun K hK => ?_)
          refine gT Try.func101 #[.slice (some ad) n c', .int .i64 (s : Int)] ?_
          with_reducible refine (shift_box (H.row _ m0) HV.out n HN.out n1 V1L.out P2.out).mono ?_
          rintro e w3 ⟨gv, cv, tlv, rfl, hg, hh, hcv, hb⟩
          have hcn : n ≤ cv := Nat.le_trans y3 hcv
          replace H := H.gotbox hg hh hb
          clear hg hh hb
          refine ⟨_, rfl, ?_⟩
          refine hK.out _ _ trivial (fun hQ => ?_)
          clear hK K
          refine nT ?_
          refine pU 8 38 (bm 13 2047) ?_
          exact norm_ (by simp only [putAll, Act.put, List.setIfInBounds_toArray, List.set_cons_zero, List.set_cons_succ]; try rfl) (hCont ⟨gu, cu, tlu, gv, cv, tlv, _, _⟩ _ ⟨(H.perm (List.Perm.trans (List.Perm.trans (.cons _ (.swap _ _ _)) (.swap _ _ _)) (.cons _ (.swap _ _ _)))), hcu, hcv⟩)
    · skip
      refine value_ (w1 := ?_) (v := ?_) (by rfl) rfl ?_ ?_
      rotate_left 2
      · go_simp
        constructor
        · rfl
        · rfl
      replace H := H.newbox rfl (blk_new _ (.cells #[.slice none 0 0] 23 (0, 0))) (below_alloc (Below.refl _ _) _)
      refine hK.out _ _ trivial (fun hQ => ?_)
      clear hK K
      refine nT ?_
      refine two_ (i := 2) (j := 10) (Ni := some 32) (Nj := some 8) (bm 13 735) (bm 13 1755) rfl rfl rfl rfl (by kernel_rfl) (by decide) (by decide) (fun K hK => ?_) (fun K hK => ?_)
      · skip
        refine gT Try.func101 #[.slice A a c, .int .i64 (s : Int)] ?_
        with_reducible refine (shift_box (H.row _ m1) HU.out a HA.out Lu U1.out P1.out).mono ?_
        rintro e w3 ⟨gu, cu, tlu, rfl, hg, hh, hcu, hb⟩
        replace H := H.gotbox hg hh hb
        clear hg hh hb
        refine ⟨_, rfl, ?_⟩
        refine hK.out _ _ trivial (fun hQ => ?_)
        clear hK K
        refine nT ?_
        refine two_ (i := 5) (j := 10) (Ni := some 35) (Nj := some 8) (bm 13 767) (bm 13 1759) rfl rfl rfl rfl (by kernel_rfl) (by decide) (by decide) (fun K hK => ?_) (fun K hK => ?_)
        · skip
          refine gT Try.func101 #[.slice (some ad) n c', .int .i64 (s : Int)] ?_
          with_reducible refine (shift_box (H.row _ m0) HV.out n HN.out n1 V1L.out P2.out).mono ?_
          rintro e w3 ⟨gv, cv, tlv, rfl, hg, hh, hcv, hb⟩
          have hcn : n ≤ cv := Nat.le_trans y3 hcv
          replace H := H.gotbox hg hh hb
          clear hg hh hb
          refine ⟨_, rfl, ?_⟩
          refine hK.out _ _ trivial (fun hQ => ?_)
          clear hK K
          refine nT ?_
          refine pU 8 38 (bm 13 1023) ?_
          refine oU 10 8 (bm 13 2047) (fun K hK => ?_)
          refine value_ (w1 := ?_) (v := ?_) (by rfl) rfl ?_ ?_
          rotate_left 2
          · go_simp
            constructor
            · rfl
            · rfl
          replace H := H.newbox rfl (blk_new _ (.cells #[.slice none 0 0] 23 (0, 0))) (below_alloc (Below.refl _ _) _)
          refine hK.out _ _ trivial (fun hQ => ?_)
          clear hK K
          refine nT ?_
          exact norm_ (by simp only [putAll, Act.put, List.setIfInBounds_toArray, List.set_cons_zero, List.set_cons_succ]; try rfl) (hCont ⟨gu, cu, tlu, gv, cv, tlv, _, _⟩ _ ⟨(H.perm (List.Perm.trans (.cons _ (.cons _ (.swap _ _ _))) (.cons _ (.swap _ _ _)))), hcu, hcv⟩)
        · skip
          refine value_ (w1 := ?_) (v := ?_) (by rfl) rfl ?_ ?_
          rotate_left 2
          · go_simp
            constructor
            · rfl
            · rfl
          replace H := H.newbox rfl (blk_new _ (.cells #[.slice none 0 0] 23 (0, 0))) (below_alloc (Below.refl _ _) _)
          refine hK.out _ _ trivial (fun hQ => ?_)
          clear hK K
          refine nT ?_
          refine oU 5 35 (bm 13 1791) (fun K hK => ?_)
          refine gT Try.func101 #[.slice (some ad) n c', .int .i64 (s : Int)] ?_
          with_reducible refine (shift_box (H.row _ m0) HV.out n HN.out n1 V1L.out P2.out).mono ?_
          rintro e w3 ⟨gv, cv, tlv, rfl, hg, hh, hcv, hb⟩
          have hcn : n ≤ cv := Nat.le_trans y3 hcv
          replace H := H.gotbox hg hh hb
          clear hg hh hb
          refine ⟨_, rfl, ?_⟩
          refine hK.out _ _ trivial (fun hQ => ?_)
          clear hK K
          refine nT ?_
          refine pU 8 38 (bm 13 2047) ?_
          exact norm_ (by simp only [putAll, Act.put, List.setIfInBounds_toArray, List.set_cons_zero, List.set_cons_succ]; try rfl) (hCont ⟨gu, cu, tlu, gv, cv, tlv, _, _⟩ _ ⟨(H.perm (List.Perm.trans (List.Perm.trans (.swap _ _ _) (.cons _ (.cons _ (.swap _ _ _)))) (.cons _ (.swap _ _ _)))), hcu, hcv⟩)
      · skip
        refine value_ (w1 := ?_) (v := ?_) (by rfl) rfl ?_ ?_
        rotate_left 2
        · go_simp
          constructor
          · rfl
          · rfl
        replace H := H.newbox2 (.cells #[.slice none 0 0] 23 (0, 0))
        refine hK.out _ _ trivial (fun hQ => ?_)
        clear hK K
        refine nT ?_
        refine oU 2 32 (bm 13 1759) (fun K hK => ?_)
        refine gT Try.func101 #[.slice A a c, .int .i64 (s : Int)] ?_
        with_reducible refine (shift_box (H.row _ m1) HU.out a HA.out Lu U1.out P1.out).mono ?_
        rintro e w3 ⟨gu, cu, tlu, rfl, hg, hh, hcu, hb⟩
        replace H := H.gotbox hg hh hb
        clear hg hh hb
        refine ⟨_, rfl, ?_⟩
        refine hK.out _ _ trivial (fun hQ => ?_)
        clear hK K
        refine nT ?_
        refine oU 5 35 (bm 13 1791) (fun K hK => ?_)
        refine gT Try.func101 #[.slice (some ad) n c', .int .i64 (s : Int)] ?_
        with_reducible refine (shift_box (H.row _ m0) HV.out n HN.out n1 V1L.out P2.out).mono ?_
        rintro e w3 ⟨gv, cv, tlv, rfl, hg, hh, hcv, hb⟩
        have hcn : n ≤ cv := Nat.le_trans y3 hcv
        replace H := H.gotbox hg hh hb
        clear hg hh hb
        refine ⟨_, rfl, ?_⟩
        refine hK.out _ _ trivial (fun hQ => ?_)
        clear hK K
        refine nT ?_
        refine pU 8 38 (bm 13 2047) ?_
        exact norm_ (by simp only [putAll, Act.put, List.setIfInBounds_toArray, List.set_cons_zero, List.set_cons_succ]; try rfl) (hCont ⟨gu, cu, tlu, gv, cv, tlv, _, _⟩ _ ⟨(H.perm (List.Perm.trans (List.Perm.trans (List.Perm.trans (.cons _ (.swap _ _ _)) (.swap _ _ _)) (.cons _ (.cons _ (.swap _ _ _)))) (.cons _ (.swap _ _ _)))), hcu, hcv⟩)
    · skip
      refine value_ (w1 := ?_) (v := ?_) (by rfl) rfl ?_ ?_
      rotate_left 2
      · go_simp
        constructor
        · rfl
        · rfl
      replace H := H.newbox rfl (blk_new _ (.cells #[.slice none 0 0] 23 (0, 0))) (below_alloc (Below.refl _ _) _)
      refine hK.out _ _ trivial (fun hQ => ?_)
      clear hK K
      refine nT ?_
      refine two_ (i := 2) (j := 9) (Ni := some 32) (Nj := some 7) (bm 13 1247) (bm 13 1755) rfl rfl rfl rfl (by kernel_rfl) (by decide) (by decide) (fun K hK => ?_) (fun K hK => ?_)
      · skip
        refine gT Try.func101 #[.slice A a c, .int .i64 (s : Int)] ?_
        with_reducible refine (shift_box (H.row _ m1) HU.out a HA.out Lu U1.out P1.out).mono ?_
        rintro e w3 ⟨gu, cu, tlu, rfl, hg, hh, hcu, hb⟩
        replace H := H.gotbox hg hh hb
        clear hg hh hb
        refine ⟨_, rfl, ?_⟩
        refine hK.out _ _ trivial (fun hQ => ?_)
        clear hK K
        refine nT ?_
        refine two_ (i := 5) (j := 9) (Ni := some 35) (Nj := some 7) (bm 13 1279) (bm 13 1759) rfl rfl rfl rfl (by kernel_rfl) (by decide) (by decide) (fun K hK => ?_) (fun K hK => ?_)
        · skip
          refine gT Try.func101 #[.slice (some ad) n c', .int .i64 (s : Int)] ?_
          with_reducible refine (shift_box (H.row _ m0) HV.out n HN.out n1 V1L.out P2.out).mono ?_
          rintro e w3 ⟨gv, cv, tlv, rfl, hg, hh, hcv, hb⟩
          have hcn : n ≤ cv := Nat.le_trans y3 hcv
          replace H := H.gotbox hg hh hb
          clear hg hh hb
          refine ⟨_, rfl, ?_⟩
          refine hK.out _ _ trivial (fun hQ => ?_)
          clear hK K
          refine nT ?_
          refine pU 8 38 (bm 13 1535) ?_
          refine oU 9 7 (bm 13 2047) (fun K hK => ?_)
          refine value_ (w1 := ?_) (v := ?_) (by rfl) rfl ?_ ?_
          rotate_left 2
          · go_simp
            constructor
            · rfl
            · rfl
          replace H := H.newbox rfl (blk_new _ (.cells #[.slice none 0 0] 23 (0, 0))) (below_alloc (Below.refl _ _) _)
          refine hK.out _ _ trivial (fun hQ => ?_)
          clear hK K
          refine nT ?_
          exact norm_ (by simp only [putAll, Act.put, List.setIfInBounds_toArray, List.set_cons_zero, List.set_cons_succ]; try rfl) (hCont ⟨gu, cu, tlu, gv, cv, tlv, _, _⟩ _ ⟨(H.perm (List.Perm.trans (List.Perm.trans (.cons _ (.cons _ (.swap _ _ _))) (.cons _ (.swap _ _ _))) (.swap _ _ _))), hcu, hcv⟩)
        · skip
          refine value_ (w1 := ?_) (v := ?_) (by rfl) rfl ?_ ?_
          rotate_left 2
          · go_simp
            constructor
            · rfl
            · rfl
          replace H := H.newbox rfl (blk_new _ (.cells #[.slice none 0 0] 23 (0, 0))) (below_alloc (Below.refl _ _) _)
          refine hK.out _ _ trivial (fun hQ => ?_)
          clear hK K
          refine nT ?_
          refine oU 5 35 (bm 13 1791) (fun K hK => ?_)
          refine gT Try.func101 #[.slice (some ad) n c', .int .i64 (s : Int)] ?_
          with_reducible refine (shift_box (H.row _ m0) HV.out n HN.out n1 V1L.out P2.out).mono ?_
          rintro e w3 ⟨gv, cv, tlv, rfl, hg, hh, hcv, hb⟩
          have hcn : n ≤ cv := Nat.le_trans y3 hcv
          replace H := H.gotbox hg hh hb
          clear hg hh hb
          refine ⟨_, rfl, ?_⟩
          refine hK.out _ _ trivial (fun hQ => ?_)
          clear hK K
          refine nT ?_
          refine pU 8 38 (bm 13 2047) ?_
          exact norm_ (by simp only [putAll, Act.put, List.setIfInBounds_toArray, List.set_cons_zero, List.set_cons_succ]; try rfl) (hCont ⟨gu, cu, tlu, gv, cv, tlv, _, _⟩ _ ⟨(H.perm (List.Perm.trans (List.Perm.trans (List.Perm.trans (.cons _ (.cons _ (.swap _ _ _))) (.cons _ (.swap _ _ _))) (.swap _ _ _)) (.cons _ (.swap _ _ _)))), hcu, hcv⟩)
      · skip
        refine value_ (w1 := ?_) (v := ?_) (by rfl) rfl ?_ ?_
        rotate_left 2
        · go_simp
          constructor
          · rfl
          · rfl
        replace H := H.newbox2 (.cells #[.slice none 0 0] 23 (0, 0))
        refine hK.out _ _ trivial (fun hQ => ?_)
        clear hK K
        refine nT ?_
        refine oU 2 32 (bm 13 1759) (fun K hK => ?_)
        refine gT Try.func101 #[.slice A a c, .int .i64 (s : Int)] ?_
        with_reducible refine (shift_box (H.row _ m1) HU.out a HA.out Lu U1.out P1.out).mono ?_
        rintro e w3 ⟨gu, cu, tlu, rfl, hg, hh, hcu, hb⟩
        replace H := H.gotbox hg hh hb
        clear hg hh hb
        refine ⟨_, rfl, ?_⟩
        refine hK.out _ _ trivial (fun hQ => ?_)
        clear hK K
        refine nT ?_
        refine oU 5 35 (bm 13 1791) (fun K hK => ?_)
        refine gT Try.func101 #[.slice (some ad) n c', .int .i64 (s : Int)] ?_
        with_reducible refine (shift_box (H.row _ m0) HV.out n HN.out n1 V1L.out P2.out).mono ?_
        rintro e w3 ⟨gv, cv, tlv, rfl, hg, hh, hcv, hb⟩
        have hcn : n ≤ cv := Nat.le_trans y3 hcv
        replace H := H.gotbox hg hh hb
        clear hg hh hb
        refine ⟨_, rfl, ?_⟩
        refine hK.out _ _ trivial (fun hQ => ?_)
        clear hK K
        refine nT ?_
        refine pU 8 38 (bm 13 2047) ?_
        exact norm_ (by simp only [putAll, Act.put, List.setIfInBounds_toArray, List.set_cons_zero, List.set_cons_succ]; try rfl) (hCont ⟨gu, cu, tlu, gv, cv, tlv, _, _⟩ _ ⟨(H.perm (List.Perm.trans (List.Perm.trans (List.Perm.trans (List.Perm.trans (.cons _ (.cons _ (.swap _ _ _))) (.cons _ (.swap _ _ _))) (.swap _ _ _)) (.cons _ (.cons _ (.swap _ _ _)))) (.cons _ (.swap _ _ _)))), hcu, hcv⟩)
  rintro ⟨gu, cu, tlu, gv, cv, tlv, g7, g8⟩ wF ⟨H, hcu, hcv⟩
  replace H : Sit w wF ok [(g8, .cells #[.slice none 0 0] 23 (0, 0)), (g7, .cells #[.slice none 0 0] 23 (0, 0)), (gv, .cells (V1.map (Value.int .u32) ++ tlv).toArray 93 (0, 0)), (gu, .cells (U.map (Value.int .u32) ++ tlu).toArray 93 (0, 0))] [⟨.u32, some ad, c', l2⟩, ⟨.u32, A, c, l⟩] := H
  replace hcu : Lu ≤ cu := hcu
  replace hcv : n1 ≤ cv := hcv
  clear hQ
  have hQ := trivial
  have hcn : n ≤ cv := Nat.le_trans y3 hcv
  refine norm_ (a' := ?_) ?_ ?_
  rotate_left
  · simp only [putAll, Act.put, List.setIfInBounds_toArray, List.set_cons_zero, List.set_cons_succ]
    rfl
  refine lU 11 (bm 13 4095) (fun K hK => ?_)
  have k7 : wF.cell? ⟨g7, 0, none⟩ = some (.slice none 0 0) := H.cell m1 0
  have z7 := H.frozen (g := g7) m1 0
  have k8 : wF.cell? ⟨g8, 0, none⟩ = some (.slice none 0 0) := H.cell m0 0
  have z8 := H.frozen (g := g8) m0 0
  have ne1 := H.neL (g := g7) (g' := g8) 1 0 rfl rfl (by decide)
  have ne2 := ne1.symm
  refine kT ?_
  refine hK.out _ _ ?_
  clear hK K
  refine lU 12 (bm 13 8191) (fun K hK => ?_)
  refine kT ?_
  refine hK.out _ _ ?_
  clear hK K
  refine done_ (by kernel_rfl) ?_
  replace H : Sit w _ ok [(g8, .cells #[.slice (some ⟨gv, 0, none⟩) n cv] 23 (0, 0)), (g7, .cells #[.slice (some ⟨gu, 0, none⟩) Lu cu] 23 (0, 0)), (gv, .cells (V1.map (Value.int .u32) ++ tlv).toArray 93 (0, 0)), (gu, .cells (U.map (Value.int .u32) ++ tlu).toArray 93 (0, 0))] [⟨.u32, some ad, c', l2⟩, ⟨.u32, A, c, l⟩] := (H.setn [_] 0 (.slice (some ⟨gu, 0, none⟩) Lu cu) rfl).setn [] 0 (.slice (some ⟨gv, 0, none⟩) n cv) rfl
  clear k7 z7 k8 z8
  generalize ((wF.setCell ⟨g7, 0, none⟩ (.slice (some ⟨gu, 0, none⟩) Lu cu)).setCell ⟨g8, 0, none⟩ (.slice (some ⟨gv, 0, none⟩) n cv)) = w3 at H ⊢
  replace H := H.norows
  have k7 : w3.cell? ⟨g7, 0, none⟩ = some (.slice (some ⟨gu, 0, none⟩) Lu cu) := H.cell m1 0
  have k8 : w3.cell? ⟨g8, 0, none⟩ = some (.slice (some ⟨gv, 0, none⟩) n cv) := H.cell m0 0
  go_wp2_with (first
    | ((with_reducible refine gate_dst (N := 9) rfl ?_); refine bE #[.int .i64 0] 3 H ?_; clear H; intro g9 w4 H; clear k7 k8; have k9 : w4.cell? ⟨g9, 0, none⟩ = some (.int .i64 0) := H.cell m0 0; have z9 := H.frozen (g := g9) m0 0; have k7 : w4.cell? ⟨g7, 0, none⟩ = some (.slice (some ⟨gu, 0, none⟩) Lu cu) := H.cell m2 0; have ne3 := H.neL (g := g9) (g' := g7) 0 2 rfl rfl (by decide); have ne4 := ne3.symm)
    | ((with_reducible refine gate_dst (N := 45) rfl ?_); rw [x3]; refine make_event rfl (N := 45) rfl 23 (.tmp 44) (.tmp 44) rfl .u32 93 4 L rfl rfl Try.underlying23 info93 (by omega) (by omega) ?_; intro go hg w5 hbox hb; replace H := (H.setn [] 0 (.int .i64 (n : Int)) rfl).newbox hg hbox hb; clear hg hbox hb k7 k9 z9)
    | ((with_reducible refine gate_dst (N := 10) rfl ?_); refine bE #[.slice none 0 0] 23 H ?_; clear H; intro g10 w6 H; have k10 : w6.cell? ⟨g10, 0, none⟩ = some (.slice none 0 0) := H.cell m0 0; have z10 := H.frozen (g := g10) m0 0)
    | (go_at_call 96; replace H := H.setn [] 0 (.slice (some ⟨go, 0, none⟩) L L) rfl; refine (Backward_ok _ _ _ _).mono ?_; rintro e w7 ⟨gb, rfl, hg, hbox, hb⟩; replace H := H.newbox hg hbox hb; clear hg hbox hb k10 z10))
  replace H : Sit w w7 ok [(gb, .cells #[.slice (some ⟨go, 0, none⟩) L L] 23 (0, 0)), (g10, .cells #[.slice (some ⟨go, 0, none⟩) L L] 23 (0, 0)), (go, .cells ((List.replicate L (0 : Int)).map (Value.int .u32)).toArray 93 (0, 0)), (g9, .cells #[.int .i64 (n : Int)] 3 (0, 0)), (g8, .cells #[.slice (some ⟨gv, 0, none⟩) n cv] 23 (0, 0)), (g7, .cells #[.slice (some ⟨gu, 0, none⟩) Lu cu] 23 (0, 0)), (gv, .cells (V1.map (Value.int .u32) ++ tlv).toArray 93 (0, 0)), (gu, .cells (U.map (Value.int .u32) ++ tlu).toArray 93 (0, 0))] [] := H
  have hL := LS.of H (by intro b hb; simp at hb; rcases hb with rfl | rfl | rfl | rfl | rfl | rfl | rfl | rfl <;> rfl)
  have hgo : go < w7.heap.size := blk_lt (H.blk m2)
  have hgO : w.heap.size ≤ go := (H.box _ m2).2
  have hI0 : LoopI w ok w7.heap.size (vl 4294967296 U) (V1.take n) V1 tlu tlv n Lu L cu cv gb g10 go g9 g8 g7 gv gu L w7 := ⟨List.replicate L 0, U, LI0.out, by simp, U1.out, hL⟩
  obtain ⟨cd, body, hcd, hbody, hround⟩ := long_round
  refine wpIn_wide.1 (wpIn_back (n := 5) rfl (by omega) (Bs := gb) (A := some ⟨go, 0, none⟩) (len := L) (cap := L) (by omega) rfl trivial (fun i x => #[.int .i64 (i : Int), .int .u32 x]) (fun _ _ => rfl) rfl
    (LoopI w ok w7.heap.size (vl 4294967296 U) (V1.take n) V1 tlu tlv n Lu L cu cv gb g10 go g9 g8 g7 gv gu) (fun _ _ => False)
    (fun k A B row hs hg hr => by obtain ⟨O, U', h1, h2, h3, hs⟩ := hs; exact ⟨O, U', h1, h2, h3, hs.grown hg hr⟩) (fun _ _ _ _ hs _ _ => hs)
    (fun k W h => by obtain ⟨O, U', h1, h2, h3, hs⟩ := h; exact hs.sit.cell m0 0)
    (fun i W h hi => by obtain ⟨O, U', h1, h2, h3, hs⟩ := h; exact ⟨⟨go, 0, none⟩, rfl, O.getD i 0, (by rw [addr_at]; exact (hs.sit.cell m2 i).trans (by rw [List.getElem?_toArray, List.getElem?_map, List.getElem?_eq_getElem (by rw [h2]; exact hi)]; simp [List.getD, show i < O.length by rw [h2]; exact hi]))⟩)
    hI0
    (fun i x => { tmps := #[.slice A a c, .slice (some ad) n c', undef, undef, .slice none 0 0, .slice none 0 0, .int .i64 (s : Int), .pointer (some ⟨g7, 0, none⟩), .pointer (some ⟨g8, 0, none⟩), .pointer (some ⟨g9, 0, none⟩), .pointer (some ⟨g10, 0, none⟩), .int .i64 (i : Int), undef, undef, undef, undef, undef, undef, undef, undef, undef, undef, undef, .slice (some ad) n c', .slice (some ad) n c', .int .i64 (n : Int), .int .i64 (m1' : Int), .pointer (some (ad.add m1')), .int .u32 d, .int .i64 (s : Int), .slice A a c, .int .i64 (s : Int), .slice (some ⟨gu, 0, none⟩) Lu cu, .slice (some ad) n c', .int .i64 (s : Int), .slice (some ⟨gv, 0, none⟩) n1 cv, .slice (some ad) n c', .int .i64 (n : Int), .slice (some ⟨gv, 0, none⟩) n cv, .slice (some ⟨gv, 0, none⟩) n cv, .int .i64 (n : Int), .slice (some ⟨gu, 0, none⟩) Lu cu, .int .i64 (Lu : Int), .int .i64 (n : Int), .int .i64 (L : Int), .slice (some ⟨go, 0, none⟩) L L, .slice (some ⟨go, 0, none⟩) L L, .func (.func 106) #[] #[.pointer (some ⟨gb, 0, none⟩)], .int .i64 (i : Int), .int .u32 x, undef, undef, undef, undef, undef, undef, undef, undef, undef, undef, undef, undef, undef, undef, undef, undef, undef, undef, undef, undef, undef, undef, undef, undef, undef, undef, undef, undef, undef, undef, undef, undef, undef, undef, undef, undef, undef, undef, undef, undef, undef, undef, undef, undef, undef, undef, undef, undef, undef, undef, undef, undef, undef, undef, undef, undef, undef, undef, undef, undef, undef, undef, undef, undef, undef, undef, undef, undef, undef, undef, undef, undef, undef, undef, undef, undef, undef, undef, undef, undef, undef, undef, undef, undef, undef, undef, undef, undef, undef, undef, undef, undef, undef, undef, undef, undef, undef, undef, undef, undef, undef, undef, undef, undef, undef, undef, undef, undef, undef, undef, undef, undef, undef, undef, undef, undef, undef, undef, undef, undef, undef, undef, undef, undef, undef, undef, undef, undef, undef, undef, undef, undef, undef, undef, undef, undef, undef, undef, undef, undef, undef, undef, undef, undef, undef, undef, undef, undef, undef, undef, undef, undef, undef, undef, undef, undef, undef, undef, undef, undef, undef, undef, undef, undef, undef, undef, undef, undef, undef, undef, undef, undef, undef, undef, undef, undef, undef, undef, undef, undef, undef, undef, undef, undef, undef, undef, undef, undef, undef, undef, undef, undef, undef, undef, undef, undef, undef, undef, undef, undef, undef], defers := [] }) ?assign ?body ?done ?stop)
  case assign =>
    intro l i x W K hK
    gi_wp2
    exact hK
  case body =>
    intro lb i x ad' W hI hi _ _
    have hb : rfBody 20 cd = some _ := hbody
    have e : body = _ := (Option.some.inj (hbody.symm.trans (by rw [← Option.some.inj hcd]; rfl)))
    subst e
    exact hround w ok w7.heap.size (vl 4294967296 U) (V1.take n) V1 tlu tlv n Lu L cu cv gb g10 go g9 g8 g7 gv gu m m1' n1 i lb _ _ _ _ _ _ _ _ _ _ _ _ _ _ _ _ _ _ _ _ _ _ _ _ _ _ _ _ _ _ _ _ W rfl V1L.out HLu.out.2 V2.out HM.out.1 HM.out.2 HLu.out.1 (Nat.le_trans y4 (by decide)) HN5.out TOP.out hI hi
  case done => 
    rintro D W hD ⟨O, Uf, hLI, hOl, hUl, hS⟩ hK
    have hDW : D < W.heap.size := blk_lt hK
    have k9 : W.cell? ⟨g9, 0, none⟩ = some (.int .i64 (n : Int)) := hS.sit.cell m3 0
    have hn5 : n ≤ 10000001 := HN5.out
    have HD0 := Aside0.mk hDW
    have HD1 := Aside0.mk hD
    have HGO := Aside0.mk (And.intro hgo hgO)
    have HLI := Aside0.mk hLI
    have HOU := Aside0.mk (And.intro hOl hUl)
    clear hL hI0 hround hgo hgO hDW hD hLI hOl hUl
    go_wp2_with (first
      | ((with_reducible refine gate_dst (N := 215) rfl ?_); refine make_event rfl (N := 215) rfl 23 (.tmp 214) (.tmp 214) rfl .u32 93 4 n rfl rfl Try.underlying23 info93 (by omega) (by omega) ?_; intro gr hg w8 hbox hb; have hgr := Aside0.mk hg; replace hS := hS.newbox0 hg hbox rfl hb; replace hK := (hb.block D (blk_lt hK)).trans hK; clear hg hbox hb k9))
    replace hS : LS w7.heap.size w w8 ok [(gr, .cells ((List.replicate n (0 : Int)).map (Value.int .u32)).toArray 93 (0, 0)), (gb, .cells #[.slice (some ⟨go, 0, none⟩) L L] 23 (0, 0)), (g10, .cells #[.slice (some ⟨go, 0, none⟩) L L] 23 (0, 0)), (go, .cells (O.map (Value.int .u32)).toArray 93 (0, 0)), (g9, .cells #[.int .i64 (n : Int)] 3 (0, 0)), (g8, .cells #[.slice (some ⟨gv, 0, none⟩) n cv] 23 (0, 0)), (g7, .cells #[.slice (some ⟨gu, 0, none⟩) Lu cu] 23 (0, 0)), (gv, .cells (V1.map (Value.int .u32) ++ tlv).toArray 93 (0, 0)), (gu, .cells (Uf.map (Value.int .u32) ++ tlu).toArray 93 (0, 0))] [] := hS
    have HGR := Aside0.mk (show D < gr by rw [hgr.out]; exact HD0.out)
    have UN0 := Aside0.mk (UN.start Uf s n)
    go_loopw [218] (fun ix wr => ∃ (i : Nat) (rr : List Int), ix = .int .i64 i ∧ UN Uf rr s n i ∧ LS w7.heap.size w wr ok [(gr, .cells (rr.map (Value.int .u32)).toArray 93 (0, 0)), (gb, .cells #[.slice (some ⟨go, 0, none⟩) L L] 23 (0, 0)), (g10, .cells #[.slice (some ⟨go, 0, none⟩) L L] 23 (0, 0)), (go, .cells (O.map (Value.int .u32)).toArray 93 (0, 0)), (g9, .cells #[.int .i64 (n : Int)] 3 (0, 0)), (g8, .cells #[.slice (some ⟨gv, 0, none⟩) n cv] 23 (0, 0)), (g7, .cells #[.slice (some ⟨gu, 0, none⟩) Lu cu] 23 (0, 0)), (gv, .cells (V1.map (Value.int .u32) ++ tlv).toArray 93 (0, 0)), (gu, .cells (Uf.map (Value.int .u32) ++ tlu).toArray 93 (0, 0))] [] ∧ wr.heap[D]? = some (.deferred (some []))) (fun ix _ => n - (intOf ix).toNat)
    case atStart => exact ⟨0, _, rfl, UN0.out, hS, hK⟩
    case round =>
      clear hS hK UN0
      obtain ⟨i, rr, rfl, hUN, hS, hK⟩ := hrel
      obtain ⟨wo, rfl⟩ : ∃ wo : World, wo = wr := ⟨_, rfl⟩
      by_cases hi : i < n
      · obtain ⟨i1, hi1⟩ : ∃ i1, i + 1 = i1 := ⟨_, rfl⟩
        obtain ⟨x, hx⟩ : ∃ x, Uf.getD i 0 = x := ⟨_, rfl⟩
        obtain ⟨y, hy⟩ : ∃ y, Uf.getD i1 0 = y := ⟨_, rfl⟩
        have hl1 : i + 1 < Uf.length := by rw [HOU.out.2]; exact idx_s hi hL1 HLu.out.1
        have hrl : rr.length = n := hUN.1
        obtain ⟨T, t1, t2, t3⟩ := hUN.step (x := x) (y := y) HLI.out.1 hi hl1 hx (by rw [hi1]; exact hy) hs
        have y0 := (HLI.out.1.getD (by decide) i1).1
        rw [hy] at y0
        obtain ⟨xs, hxs⟩ : ∃ xs, x / 2 ^ s = xs := ⟨_, rfl⟩
        obtain ⟨yl, hyl⟩ : ∃ yl, y * 2 ^ (32 - s) % 4294967296 = yl := ⟨_, rfl⟩
        have f1 : shr .u32 x (s : Int) = xs := by rw [shr32 hs]; exact hxs
        have HT := Aside0.mk T
        have hrl' : i < rr.length := by rw [hrl]; exact hi
        have kr0 : wo.cell? ⟨gr, i, none⟩ = some (.int .u32 (rr.getD i 0)) := (hS.sit.cell m0 i).trans (by rw [List.getElem?_toArray, List.getElem?_map, List.getElem?_eq_getElem hrl']; simp [List.getD, hrl'])
        have zr := hS.sit.frozen (g := gr) m0 i
        have k7 : wo.cell? ⟨g7, 0, none⟩ = some (.slice (some ⟨gu, 0, none⟩) Lu cu) := hS.sit.cell m6 0
        have ku0 : wo.cell? ⟨gu, i, none⟩ = some (.int .u32 x) := (hS.sit.cell m8 i).trans ((cell_app (l := Uf) (Nat.lt_trans (Nat.lt_succ_self i) hl1)).trans (by rw [hx]))
        have b1 : i < Lu := by rw [← HOU.out.2]; exact Nat.lt_trans (Nat.lt_succ_self i) hl1
        have HI1 := Aside0.mk hi1
        have HY := Aside0.mk hy
        have HL1' := Aside0.mk hl1
        have HRL := Aside0.mk hrl'
        have HX := Aside0.mk (And.intro hxs hyl)
        have HT2 := Aside0.mk (And.intro t1 (And.intro t2 (And.intro t3 y0)))
        clear T t1 t2 t3 hx hy hl1 hrl hrl' hyl hi1 y0 hUN
        by_cases hs0 : s = 0
        · have hs1 : decide (0 < (s : Int)) = false := by rw [hs0]; rfl
          have hs2 : ¬ (0 < s) := by rw [hs0]; exact Nat.lt_irrefl 0
          have T2 := Aside0.mk (show UN Uf (rr.set i xs) s n (i + 1) by
            have := HT.out
            rw [HX.out.1, HX.out.2, ← HX.out.2, un_zero hs0, Int.add_zero] at this
            exact this)
          have T3 := Aside0.mk hs0
          clear hs0
          go_wp2
          go_roundw
          case rel => first | exact ⟨_, T2.out, hS.setn [] i _ (by rw [List.setIfInBounds_toArray, ← List.map_set]), (Below.heap_setCell _ _ _ D (Nat.ne_of_lt HGR.out)).trans hK⟩ | exact ⟨i + 1, _, by go_num, T2.out, hS.setn [] i _ (by rw [List.setIfInBounds_toArray, ← List.map_set]), (Below.heap_setCell _ _ _ D (Nat.ne_of_lt HGR.out)).trans hK⟩
          case measure => first | exact idx_meas hi | exact idx_meas2 hi | (simp only [intOf]; first | exact idx_meas hi | exact idx_meas2 hi)
        · have hs1 : decide (0 < (s : Int)) = true := decide_eq_true (Int.natCast_pos.mpr (Nat.pos_of_ne_zero hs0))
          have hs2 : 0 < s := Nat.pos_of_ne_zero hs0
          clear hs0
          go_wp2
          refine wp_normal ?_
          replace hK : (wo.setCell ⟨gr, i, none⟩ (.int .u32 xs)).heap[D]? = some (.deferred (some [])) := (Below.heap_setCell wo ⟨gr, i, none⟩ (.int .u32 xs) D (Nat.ne_of_lt HGR.out)).trans hK
          replace hS : LS w7.heap.size w _ ok [(gr, .cells ((rr.set i xs).map (Value.int .u32)).toArray 93 (0, 0)), (gb, .cells #[.slice (some ⟨go, 0, none⟩) L L] 23 (0, 0)), (g10, .cells #[.slice (some ⟨go, 0, none⟩) L L] 23 (0, 0)), (go, .cells (O.map (Value.int .u32)).toArray 93 (0, 0)), (g9, .cells #[.int .i64 (n : Int)] 3 (0, 0)), (g8, .cells #[.slice (some ⟨gv, 0, none⟩) n cv] 23 (0, 0)), (g7, .cells #[.slice (some ⟨gu, 0, none⟩) Lu cu] 23 (0, 0)), (gv, .cells (V1.map (Value.int .u32) ++ tlv).toArray 93 (0, 0)), (gu, .cells (Uf.map (Value.int .u32) ++ tlu).toArray 93 (0, 0))] [] := hS.setn [] i (.int .u32 xs) (by rw [List.setIfInBounds_toArray, ← List.map_set])
          clear kr0 zr k7 ku0
          generalize wo.setCell ⟨gr, i, none⟩ (.int .u32 xs) = w9 at hS hK ⊢
          have hSd := hS.drew
          have k7 : w9.drew.cell? ⟨g7, 0, none⟩ = some (.slice (some ⟨gu, 0, none⟩) Lu cu) := hSd.sit.cell m6 0
          have kr : w9.drew.cell? ⟨gr, i, none⟩ = some (.int .u32 xs) := (hSd.sit.cell m0 i).trans (by rw [List.getElem?_toArray, List.getElem?_map, List.getElem?_set_self (HRL.out)]; rfl)
          have zr := hSd.sit.frozen (g := gr) m0 i
          have ku1 : w9.drew.cell? ⟨gu, i1, none⟩ = some (.int .u32 y) := (hSd.sit.cell m8 i1).trans ((cell_app (l := Uf) (by rw [← HI1.out]; exact HL1'.out)).trans (by rw [HY.out]))
          have xi1 : wrap64 ((i : Int) + 1) = (i1 : Int) := by rw [← HI1.out]; exact wrap_succ (Nat.le_trans (Nat.le_of_lt hi) hn5)
          have b2 : i1 < Lu := by rw [← HOU.out.2, ← HI1.out]; exact HL1'.out
          obtain ⟨s2, hs3⟩ : ∃ s2, 32 - s = s2 := ⟨_, rfl⟩
          have xs2 : wrap64 (32 - (s : Int)) = (s2 : Int) := by rw [← hs3]; exact wrap_32 hs
          have f2 : IntKind.u32.wrap (y * 2 ^ min s2 32) = yl := by rw [IntKind.wrap_u32, ← hs3, Nat.min_eq_left (Nat.sub_le 32 s)]; exact HX.out.2
          have f3 : Go.bits .or .u32 xs yl = xs + yl := by rw [← HX.out.1, ← HX.out.2]; exact or32b hs HT2.out.1 HT2.out.2.1 HT2.out.2.2.2
          have HS3 := Aside0.mk hs3
          clear hs3
          refine start_ (n := 15) (S := fun w' => w'.cell? ⟨g7, 0, none⟩ = some (.slice (some ⟨gu, 0, none⟩) Lu cu) ∧ w'.cell? ⟨gr, i, none⟩ = some (.int .u32 xs) ∧ w'.cell? ⟨gu, i1, none⟩ = some (.int .u32 y)) (ds := [14]) #[false, false, false, false, false, false, false, false, false, false, false, false, false, false, false] (by kernel_rfl) rfl rfl ⟨k7, kr, ku1⟩ (fun hQ => ?_)
          refine pU 0 232 (bm 15 1) ?_
          refine pU 1 233 (bm 15 3) ?_
          refine pU 2 234 (bm 15 7) ?_
          refine pU 5 237 (bm 15 39) ?_
          refine pU 6 238 (bm 15 103) ?_
          refine pU 9 241 (bm 15 615) ?_
          refine pU 10 242 (bm 15 1639) ?_
          refine tU hQ 3 235 (bm 15 1647) ?_
          refine tU hQ 4 236 (bm 15 1663) ?_
          refine pU 7 239 (bm 15 1791) ?_
          refine tU hQ 8 240 (bm 15 2047) ?_
          refine pU 11 243 (bm 15 4095) ?_
          refine pU 12 244 (bm 15 8191) ?_
          refine pU 13 245 (bm 15 16383) ?_
          refine lU 14 (bm 15 32767) (fun K hK => ?_)
          refine kT ?_
          refine hK.out _ _ ?_
          clear hK K
          refine done_ (by kernel_rfl) ?_
          clear hQ hSd k7 kr ku1 zr
          replace hK : (w9.setCell ⟨gr, i, none⟩ (.int .u32 (xs + yl))).drew.heap[D]? = some (.deferred (some [])) := (Below.heap_setCell w9 ⟨gr, i, none⟩ (.int .u32 (xs + yl)) D (Nat.ne_of_lt HGR.out)).trans hK
          replace hS : LS w7.heap.size w (w9.setCell ⟨gr, i, none⟩ (.int .u32 (xs + yl))).drew ok [(gr, .cells ((rr.set i (xs + yl)).map (Value.int .u32)).toArray 93 (0, 0)), (gb, .cells #[.slice (some ⟨go, 0, none⟩) L L] 23 (0, 0)), (g10, .cells #[.slice (some ⟨go, 0, none⟩) L L] 23 (0, 0)), (go, .cells (O.map (Value.int .u32)).toArray 93 (0, 0)), (g9, .cells #[.int .i64 (n : Int)] 3 (0, 0)), (g8, .cells #[.slice (some ⟨gv, 0, none⟩) n cv] 23 (0, 0)), (g7, .cells #[.slice (some ⟨gu, 0, none⟩) Lu cu] 23 (0, 0)), (gv, .cells (V1.map (Value.int .u32) ++ tlv).toArray 93 (0, 0)), (gu, .cells (Uf.map (Value.int .u32) ++ tlu).toArray 93 (0, 0))] [] := (hS.setn [] i (.int .u32 (xs + yl)) (cs' := ((rr.set i (xs + yl)).map (Value.int .u32)).toArray) (by rw [List.setIfInBounds_toArray, ← List.map_set, List.set_set])).drew
          generalize (w9.setCell ⟨gr, i, none⟩ (.int .u32 (xs + yl))).drew = w10 at hS hK ⊢
          change (Exit.inBlock 9 _) Exit.normal _ _
          go_wp2
          go_roundw
          case rel => first | exact ⟨_, (by have := HT.out; rw [HX.out.1, HX.out.2] at this; exact this), hS, hK⟩ | exact ⟨i + 1, _, by go_num, (by have := HT.out; rw [HX.out.1, HX.out.2] at this; exact this), hS, hK⟩
          case measure => first | exact idx_meas hi | exact idx_meas2 hi | (simp only [intOf]; first | exact idx_meas hi | exact idx_meas2 hi)
      · have ei : n = i := (idx_eq hi hUN.2.2.1).symm
        subst ei
        obtain ⟨E1, E2⟩ := long_end HL.out HL2.out HN.out HLI.out E3.out U3.out hUN HQ.out HR.out
        have E1 := Aside0.mk E1
        have E2 := Aside0.mk E2
        have hrl := Aside0.mk hUN.1
        have L1 := Aside0.mk (show L ≤ 1000000000 from Nat.le_trans y4 (by decide))
        have L2 := Aside0.mk (show L ≤ 9223372036854775807 from Nat.le_trans y4 (by decide))
        have N1 := Aside0.mk (show n ≤ 1000000000 from Nat.le_trans hn5 (by decide))
        have N2 := Aside0.mk (show n ≤ 9223372036854775807 from Nat.le_trans hn5 (by decide))
        have k10 : wo.cell? ⟨g10, 0, none⟩ = some (.slice (some ⟨go, 0, none⟩) L L) := hS.sit.cell m2 0
        have HDO := Aside0.mk (blk_lt hK)
        clear hUN
        go_wp2_with (first
          | (go_at_call 97; (with_reducible refine (trim_ok (some ⟨go, 0, none⟩) L L O q _ (fun j => j = go) HOU.out.1 L1.out (box_row (e := 93) (hS.sit.blk m3) HOU.out.1 (Nat.le_refl _) L2.out) E1.out).mono ?_); rintro e w11 ⟨A7, c7, rfl, hr7, hb7⟩; replace hS := hS.call hb7; have hK2 := (hb7.block D (blk_lt hK)).trans hK; clear k10)
          | (go_at_call 97; (with_reducible refine (trim_ok (some ⟨gr, 0, none⟩) n n rr r _ (fun j => j = gr) hrl.out N1.out (box_row (e := 93) (hS.sit.blk m0) hrl.out (Nat.le_refl _) N2.out) E2.out).mono ?_); rintro e w12 ⟨A8, c8, rfl, hr8, hb8⟩; replace hS := hS.call hb8; have hK3 := (hb8.block D (blk_lt hK2)).trans hK2)
          | fail)
        have hS' := hS.grown (grownBy_putObj' _ D (.deferred none)) (fun r e => by cases e; exact ⟨HD1.out, _, hK3, rfl⟩)
        refine ⟨by simp, .inl ⟨_, _, rfl, run_takeDeferred hK3, ?_⟩⟩
        have hgoD : go < D := Nat.lt_of_lt_of_le HGO.out.1 HD1.out
        have hDwo : D < wo.heap.size := HDO.out
        have hwo : w.heap.size ≤ wo.heap.size := Nat.le_trans HGO.out.2 (Nat.le_of_lt (Nat.lt_trans hgoD hDwo))
        have h11 : wo.heap.size ≤ w11.heap.size := below_size hb7
        have hgrw : w.heap.size ≤ gr := Nat.le_trans HGO.out.2 (Nat.le_of_lt (Nat.lt_trans hgoD HGR.out))
        refine ⟨.tuple #[.slice A7 q.length c7, .slice A8 r.length c8], by simp [results, Try.results83, go_sem], A7, c7, A8, c8, rfl, ⟨hr7.1, Kd.F_mono (Kd.F_grown (hr7.below hb8).2 (grownBy_putObj' _ D (.deferred none)) ?_) ?_⟩, ⟨hr8.1, Kd.F_mono (Kd.F_grown hr8.2 (grownBy_putObj' _ D (.deferred none)) ?_) ?_⟩, hS'.below⟩
        · rintro k hk e
          cases e
          rcases hk with rfl | hk
          · exact absurd hgoD (Nat.lt_irrefl _)
          · exact absurd (Nat.lt_of_lt_of_le hDwo hk) (Nat.lt_irrefl _)
        · rintro k (rfl | hk)
          · exact HGO.out.2
          · exact Nat.le_trans hwo hk
        · rintro k hk e
          cases e
          rcases hk with rfl | hk
          · exact absurd HGR.out (Nat.lt_irrefl _)
          · exact absurd (Nat.lt_of_lt_of_le hDwo (Nat.le_trans h11 hk)) (Nat.lt_irrefl _)
        · rintro k (rfl | hk)
          · exact hgrw
          · exact Nat.le_trans (Nat.le_trans hwo h11) hk

  case stop =>
    rintro D cc W hD h hK
    exact h.elim

end Go.Proofs.Ytdkapdgbfejgdaa

/- bigint.Int.Div of any two numbers. -/
namespace Go.Proofs.Ytdkapdgbfejgdaa
open Go.RowKit Go.Proofs.YtdkapdgbfejgdaaW.PrintWords Go.Proofs.YtdkapdgbfejgdaaW.PrintLast Go.Proofs.YtdkapdgbfejgdaaW.PrintMore
set_option linter.unusedSimpArgs false
set_option linter.unusedVariables false

theorem ln_mono {m n : Int} (h : n.natAbs ≤ m.natAbs) : ln n ≤ ln m := sub_len h
theorem longI {A A' : Option Addr} {c c' : Nat} {m n : Int} {w : World} {ok : Nat → Prop} (hf : (bw A c m).at w ok) (hf' : (bw A' c' n).at w ok) (hm : ln m ≤ 10000000) (h2 : 2 ≤ ln n) (hle : n.natAbs ≤ m.natAbs) :
    Calls Try.prog 83 #[.slice A (ln m) c, .slice A' (ln n) c'] w (RetLL w (dg 4294967296 (m.natAbs / n.natAbs)) (dg 4294967296 (m.natAbs % n.natAbs))) := by
  have hl := ln_mono hle
  have hn0 : n ≠ 0 := by rintro rfl; rw [ln_zero] at h2; omega
  obtain ⟨t, ht, t1, -⟩ := top_digit hn0
  exact long_ok A c (digs m) A' c' (digs n) _ _ (ln m) (ln m + 1 - ln n) (ln n) (ln n - 2) t w ok (digs_okd m) (digs_okd n) rfl rfl (by omega) (by omega) (by omega) hm (by rw [← ht]; congr 1; omega) (by omega) hf hf'
    (by rw [digs_vl, digs_vl]; rfl) (by rw [digs_vl, digs_vl]; rfl)

set_option maxHeartbeats 4000000 in
set_option maxRecDepth 100000 in
theorem Div_big (A A' : Option Addr) (c c' : Nat) (m n : Int) (w : World) (ok : Nat → Prop) (hf : (bw A c m).at w ok) (hf' : (bw A' c' n).at w ok) (hm : ln m ≤ 10000000) (hn : ln n ≤ 10000000) (h2 : 2 ≤ ln n) (hge : n.natAbs ≤ m.natAbs) : Calls Try.prog 32 #[.agg #[.bool (ng m), .slice A (ln m) c], .agg #[.bool (ng n), .slice A' (ln n) c']] w (RetD w ok (m.tdiv n) (m.tmod n) 0) := by
  have hu25 := Try.underlying25
  have H := (((Sit.start w ok).arg hf).arg hf').nilrow
  clear hf hf'
  have p1 : ((ln n : Int) == 0) = false := by simp; omega
  have p2 : (ln n == 0) = false := by simp; omega
  have p3 : ((ln n : Int) == 1) = false := by simp; omega
  have p4 : (ln n == 1) = false := by simp; omega
  obtain ⟨u, CE, hu⟩ : ∃ u, Aside0 (cmp3 m.natAbs n.natAbs = u) ∧ 0 ≤ u := by
    refine ⟨_, ⟨rfl⟩, ?_⟩
    unfold cmp3; split
    · omega
    · split <;> omega
  have hu2 : decide (u < 0) = false := by simpa using hu
  have hne : n ≠ 0 := by rintro rfl; rw [ln_zero] at h2; omega
  have VQ := Aside0.mk (show m.tdiv n = if (!(ng m == ng n)) = true then -(vl 4294967296 (dg 4294967296 (m.natAbs / n.natAbs))) else vl 4294967296 (dg 4294967296 (m.natAbs / n.natAbs)) from div_sign hne)
  have VR := Aside0.mk (show m.tmod n = if (ng m) = true then -(vl 4294967296 (dg 4294967296 (m.natAbs % n.natAbs))) else vl 4294967296 (dg 4294967296 (m.natAbs % n.natAbs)) by
    rw [rem_sign hne, vl_dgn])
  have QL := Aside0.mk (show (dg 4294967296 (m.natAbs / n.natAbs)).length ≤ 10000000 from Nat.le_trans (dg_len_le 4294967296 (by omega) _ (ln m) (Nat.lt_of_le_of_lt (Nat.div_le_self _ _) (ln_lt m))) hm)
  have RL := Aside0.mk (show (dg 4294967296 (m.natAbs % n.natAbs)).length ≤ 10000000 from Nat.le_trans (dg_len_le 4294967296 (by omega) _ (ln m) (Nat.lt_of_le_of_lt (Nat.mod_le _ _) (ln_lt m))) hm)
  have H2 := Aside0.mk h2
  have HGE := Aside0.mk hge
  clear h2 hge hu hne
  go_enter Try.func32, Try.ntmps32
  go_wp2_with (first
    | ((with_reducible refine gate_dst (N := 2) rfl ?_); refine bE #[.bool (ng m), .slice A (ln m) c] 25 H ?_; clear H; intro g1 w1 H)
    | ((with_reducible refine gate_dst (N := 3) rfl ?_); refine bE #[.bool (ng n), .slice A' (ln n) c'] 25 H ?_; clear H; intro g2 w2 H)
    | ((with_reducible refine gate_dst (N := 4) rfl ?_); refine bE #[.bool false, .slice none 0 0] 25 H ?_; clear H; intro g3 w3 H)
    | ((with_reducible refine gate_dst (N := 5) rfl ?_); refine bE #[.bool false, .slice none 0 0] 25 H ?_; clear H; intro g4 w4 H; have kx_0 : w4.cell? ⟨g1, 0, none⟩ = some (.bool (ng m)) := H.cell m3 0; have kx_1 : w4.cell? ⟨g1, 1, none⟩ = some (.slice A (ln m) c) := H.cell m3 1; have ky_0 : w4.cell? ⟨g2, 0, none⟩ = some (.bool (ng n)) := H.cell m2 0; have ky_1 : w4.cell? ⟨g2, 1, none⟩ = some (.slice A' (ln n) c') := H.cell m2 1; have kz_0 : w4.cell? ⟨g3, 0, none⟩ = some (.bool false) := H.cell m1 0; have kz_1 : w4.cell? ⟨g3, 1, none⟩ = some (.slice none 0 0) := H.cell m1 1; have kzz_0 := H.frozen (g := g3) m1 0; have kzz_1 := H.frozen (g := g3) m1 1; have ku_0 : w4.cell? ⟨g4, 0, none⟩ = some (.bool false) := H.cell m0 0; have ku_1 : w4.cell? ⟨g4, 1, none⟩ = some (.slice none 0 0) := H.cell m0 1; have kuz_0 := H.frozen (g := g4) m0 0; have kuz_1 := H.frozen (g := g4) m0 1; have ne1 := H.ne01; have ne2 := H.ne01.symm)
    | (go_at_call 81; (with_reducible refine (compareI (H.row _ m2) (H.row _ m1) hm u CE.out).mono ?_); rintro e w5 ⟨rfl, hb⟩; replace H := H.call hb; clear hb kx_0 kx_1 ky_0 ky_1 kz_0 kz_1 ku_0 ku_1 kzz_0 kzz_1 kuz_0 kuz_1; have kx_0 : w5.cell? ⟨g1, 0, none⟩ = some (.bool (ng m)) := H.cell m3 0; have kx_1 : w5.cell? ⟨g1, 1, none⟩ = some (.slice A (ln m) c) := H.cell m3 1; have ky_0 : w5.cell? ⟨g2, 0, none⟩ = some (.bool (ng n)) := H.cell m2 0; have ky_1 : w5.cell? ⟨g2, 1, none⟩ = some (.slice A' (ln n) c') := H.cell m2 1)
    | (go_at_call 83; (with_reducible refine (longI (H.row _ m2) (H.row _ m1) hm H2.out HGE.out).mono ?_); rintro e w6 ⟨A6, c6, A7, c7, rfl, hq6, hr6, hb⟩; replace H := (H.got (hq6.mono (fun _ h => .inr h)) hb).more ((H.got (hr6.mono (fun _ h => .inr h)) hb).row _ m0); clear hq6 hr6 hb kx_0 kx_1 ky_0 ky_1; have kx_0 : w6.cell? ⟨g1, 0, none⟩ = some (.bool (ng m)) := H.cell m3 0; have kx_1 : w6.cell? ⟨g1, 1, none⟩ = some (.slice A (ln m) c) := H.cell m3 1; have ky_0 : w6.cell? ⟨g2, 0, none⟩ = some (.bool (ng n)) := H.cell m2 0; have ky_1 : w6.cell? ⟨g2, 1, none⟩ = some (.slice A' (ln n) c') := H.cell m2 1))
  go_region_held3 (fun w' => w'.cell? ⟨g1, 0, none⟩ = some (.bool (ng m)) ∧ w'.cell? ⟨g1, 1, none⟩ = some (.slice A (ln m) c) ∧ w'.cell? ⟨g2, 0, none⟩ = some (.bool (ng n)) ∧ w'.cell? ⟨g2, 1, none⟩ = some (.slice A' (ln n) c')) (first
      | exact (H.c2 m3 (H.d2 m2))
      | (have H' := (((H.setn [_] 0 (.bool (ng (m.tdiv n))) rfl).setn [_] 1 (.slice A5 (ln (m.tdiv n)) c5) rfl).setn [] 0 (.bool (ng (m.tmod n))) rfl).setn [] 1 (.slice A6 (ln (m.tmod n)) c6) rfl; exact ⟨H'.cell m3 0, H'.cell m3 1, H'.cell m2 0, H'.cell m2 1⟩)
      | (have H' := (H.setn [_] 0 (.bool (ng (m.tdiv n))) rfl).setn [_] 1 (.slice A5 (ln (m.tdiv n)) c5) rfl; exact ⟨H'.cell m3 0, H'.cell m3 1, H'.cell m2 0, H'.cell m2 1⟩)
      | fail)
    (first
     | (go_at_call 78; (with_reducible refine (signedN rfl (dg_okd _) (Nat.le_trans QL.out (by omega)) (H.drew.row _ m1) VQ.out).mono ?_); rintro e w8 ⟨A5, c5, rfl, hr, hb⟩; replace H := H.drew.got hr hb; clear hr hb)
     | (go_at_call 78; (with_reducible refine (signedN rfl (dg_okd _) (Nat.le_trans RL.out (by omega)) (H.row _ m1) VR.out).mono ?_); rintro e w9 ⟨A6, c6, rfl, hr, hb⟩; replace H := H.got hr hb; clear hr hb; have kz_0 : w9.cell? ⟨g3, 0, none⟩ = some (.bool false) := H.cell m1 0; have kz_1 : w9.cell? ⟨g3, 1, none⟩ = some (.slice none 0 0) := H.cell m1 1; have kzz_0 := H.frozen (g := g3) m1 0; have kzz_1 := H.frozen (g := g3) m1 1; have ku_0 : w9.cell? ⟨g4, 0, none⟩ = some (.bool false) := H.cell m0 0; have ku_1 : w9.cell? ⟨g4, 1, none⟩ = some (.slice none 0 0) := H.cell m0 1; have kuz_0 := H.frozen (g := g4) m0 0; have kuz_1 := H.frozen (g := g4) m0 1)
     | fail)
  go_wp2
  replace H := (((H.setn [_] 0 (.bool (ng (m.tdiv n))) rfl).setn [_] 1 (.slice A5 (ln (m.tdiv n)) c5) rfl).setn [] 0 (.bool (ng (m.tmod n))) rfl).setn [] 1 (.slice A6 (ln (m.tmod n)) c6) rfl
  refine bodyPost_ret (results_list (rs := [.cell 4 25, .cell 5 25, .tmp 6]) rfl (by simp) (.cell g3 25 #[.bool (ng (m.tdiv n)), .slice A5 (ln (m.tdiv n)) c5] (0, 0) _ rfl (H.blk m1) Try.underlying25 rfl (by kernel_rfl) (.cell g4 25 #[.bool (ng (m.tmod n)), .slice A6 (ln (m.tmod n)) c6] (0, 0) _ rfl (H.blk m0) Try.underlying25 rfl (by kernel_rfl) (.tmp .nil)))) rfl ?_
  exact ⟨A5, c5, A6, c6, rfl, H.ret m1, H.ret m0, H.below⟩

theorem Div_ok (A A' : Option Addr) (c c' : Nat) (m n : Int) (w : World) (ok : Nat → Prop) (hf : (bw A c m).at w ok) (hf' : (bw A' c' n).at w ok) (hm : ln m ≤ 10000000) (hn : ln n ≤ 10000000) (h0 : n ≠ 0) : Calls Try.prog 32 #[.agg #[.bool (ng m), .slice A (ln m) c], .agg #[.bool (ng n), .slice A' (ln n) c']] w (RetD w ok (m.tdiv n) (m.tmod n) 0) := by
  by_cases hlt : m.natAbs < n.natAbs
  · exact Div_small A A' c c' m n w ok hf hf' hm hn h0 hlt
  · by_cases h1 : ln n ≤ 1
    · have := ln_pos h0
      exact Div_one A A' c c' m n w ok hf hf' hm hn (by omega) (by omega)
    · exact Div_big A A' c c' m n w ok hf hf' hm hn (by omega) (by omega)

end Go.Proofs.Ytdkapdgbfejgdaa

/- bigint.Int.Div with named results. -/
set_option linter.unusedVariables false
set_option linter.unusedSimpArgs false
namespace Go.Proofs.Ytdkapdgbfejgdaa
open Go.RowKit Go.Proofs.YtdkapdgbfejgdaaW.PrintWords Go.Proofs.YtdkapdgbfejgdaaW.PrintLast Go.Proofs.YtdkapdgbfejgdaaW.PrintMore

theorem DivQ {A A' : Option Addr} {c c' : Nat} {m n : Int} {w : World} {ok : Nat → Prop} (hf : (bw A c m).at w ok) (hf' : (bw A' c' n).at w ok) (hm : ln m ≤ 10000000) (hn : ln n ≤ 10000000) (h0 : n ≠ 0) (q r : Int) (hq : m.tdiv n = q) (hr : m.tmod n = r) :
    Calls Try.prog 32 #[.agg #[.bool (ng m), .slice A (ln m) c], .agg #[.bool (ng n), .slice A' (ln n) c']] w (RetD w ok q r 0) := by
  subst hq hr
  exact Div_ok A A' c c' m n w ok hf hf' hm hn h0
theorem bTdiv {k : Nat} {m n q : Int} (h : ln m ≤ k) (hq : m.tdiv n = q) : ln q ≤ k := by
  refine bAbs h ?_
  rw [← hq, Int.natAbs_tdiv]
  exact Nat.div_le_self _ _
theorem bTmod {k : Nat} {m n r : Int} (h : ln m ≤ k) (hr : m.tmod n = r) : ln r ≤ k := by
  refine bAbs h ?_
  rw [← hr, Int.natAbs_tmod]
  exact Nat.mod_le _ _
theorem bTmod2 {k : Nat} {m n r : Int} (h : ln n ≤ k) (h0 : n ≠ 0) (hr : m.tmod n = r) : ln r ≤ k := by
  refine bAbs h ?_
  rw [← hr, Int.natAbs_tmod]
  exact Nat.le_of_lt (Nat.mod_lt _ (by omega))
end Go.Proofs.Ytdkapdgbfejgdaa
