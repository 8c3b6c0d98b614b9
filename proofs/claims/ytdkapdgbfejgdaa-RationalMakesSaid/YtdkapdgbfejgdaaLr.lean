/- One round of bigint.long: one digit of the quotient. -/
import Derived.Test.YtdkapdgbfejgdaaLa
import Derived.LoopIn
namespace Go.Proofs.Ytdkapdgbfejgdaa
open Go.Shelf
open Go.RowKit Go.Proofs.YtdkapdgbfejgdaaW.PrintWords Go.Proofs.YtdkapdgbfejgdaaW.PrintLast Go.Proofs.YtdkapdgbfejgdaaW.PrintMore
attribute [local go_sem] Oper.semAt_some
set_option linter.unusedSimpArgs false
set_option linter.unusedVariables false

theorem cell_app {l : List Int} {tl : List Value} {i : Nat} (hi : i < l.length) : (l.map (Value.int .u32) ++ tl).toArray[i]? = some (.int .u32 (l.getD i 0)) := by
  rw [List.getElem?_toArray, List.getElem?_append_left (by simpa using hi), List.getElem?_map, List.getElem?_eq_getElem hi]
  simp [List.getD, hi]
theorem set_app {l : List Int} {tl : List Value} {i : Nat} {v : Int} (hi : i < l.length) : (l.map (Value.int .u32) ++ tl).toArray.setIfInBounds i (.int .u32 v) = ((l.set i v).map (Value.int .u32) ++ tl).toArray := by
  rw [List.setIfInBounds_toArray, List.set_append_left _ _ (by simpa using hi), List.map_set]
theorem take_getD {l : List Int} {n i : Nat} (hi : i < n) : (l.take n).getD i 0 = l.getD i 0 := by
  simp [List.getD, List.getElem?_take, hi]
theorem Sit.neL {w0 w : World} {ok : Nat → Prop} {bs : List (Nat × Obj)} {fs : List Rw} (h : Sit w0 w ok bs fs) {g g' : Nat} (i j : Nat) (hi : (bs.map (·.1))[i]? = some g) (hj : (bs.map (·.1))[j]? = some g') (hij : i ≠ j) : g ≠ g' := by
  rintro rfl
  obtain ⟨hl, e1⟩ := List.getElem?_eq_some_iff.mp hi
  obtain ⟨hl', e2⟩ := List.getElem?_eq_some_iff.mp hj
  exact hij ((List.getElem_inj h.nd).mp (e1.trans e2.symm))
/-- The body of the first range over a function. -/
def rfBody : Nat → Code → Option Code
  | 0, _ => none
  | k + 1, .seq a b => match rfBody k a with
    | some c => some c
    | none => rfBody k b
  | k + 1, .block _ c => rfBody k c
  | _ + 1, .rangeFunc _ _ _ body => some body
  | _ + 1, _ => none

/-- k digits are still to come. -/
def LoopI (w : World) (ok : Nat → Prop) (s0 : Nat) (A0 : Int) (V V1 : List Int) (tlu tlv : List Value) (n Lu L cu cv gb g10 go g9 g8 g7 gv gu : Nat) (k : Nat) (W : World) : Prop := ∃ O U, LI A0 V O U k ∧ O.length = L ∧ U.length = Lu ∧ LS s0 w W ok [(gb, .cells #[.slice (some ⟨go, 0, none⟩) L L] 23 (0, 0)), (g10, .cells #[.slice (some ⟨go, 0, none⟩) L L] 23 (0, 0)), (go, .cells (O.map (Value.int .u32)).toArray 93 (0, 0)), (g9, .cells #[.int .i64 (n : Int)] 3 (0, 0)), (g8, .cells #[.slice (some ⟨gv, 0, none⟩) n cv] 23 (0, 0)), (g7, .cells #[.slice (some ⟨gu, 0, none⟩) Lu cu] 23 (0, 0)), (gv, .cells (V1.map (Value.int .u32) ++ tlv).toArray 93 (0, 0)), (gu, .cells (U.map (Value.int .u32) ++ tlu).toArray 93 (0, 0))] []

theorem round_nums {u2 u1 u0 v1 v2 tp G0 R0 : Int} (au2 : 0 ≤ u2 ∧ u2 < 4294967296) (au1 : 0 ≤ u1 ∧ u1 < 4294967296) (au0 : 0 ≤ u0 ∧ u0 < 4294967296) (av1 : 0 ≤ v1 ∧ v1 < 4294967296) (av2 : 0 ≤ v2 ∧ v2 < 4294967296)
    (htp : u2 * 4294967296 + u1 = tp) (hG0 : tp / v1 = G0) (hR0 : tp % v1 = R0) (g0 : 0 ≤ G0) (g1 : G0 ≤ 4294967297) (r0 : 0 ≤ R0) (GR0 : R0 < 4294967296) (htop : 2147483648 ≤ v1) :
    (IntKind.u64.wrap (u2 * 4294967296) = u2 * 4294967296) ∧ (IntKind.u64.wrap u1 = u1) ∧ (IntKind.u64.wrap u2 = u2) ∧ (IntKind.u64.wrap v1 = v1) ∧ (Go.bits .or .u64 (u2 * 4294967296) u1 = tp) ∧ (¬ v1 = 0) ∧ (tp.tdiv v1 = G0) ∧ (tp.tmod v1 = R0) ∧ (IntKind.u64.wrap G0 = G0) ∧ (IntKind.u64.wrap R0 = R0) ∧ (IntKind.u64.wrap u0 = u0) ∧ (IntKind.u64.wrap v2 = v2) := by
  have t0 : 0 ≤ tp := by omega
  refine ⟨?_, ?_, ?_, ?_, ?_, ?_, ?_, ?_, ?_, ?_, ?_, ?_⟩
  · exact u64_id (by omega) (by omega)
  · exact u64_id (by omega) (by omega)
  · exact u64_id (by omega) (by omega)
  · exact u64_id (by omega) (by omega)
  · rw [← htp]; exact join64 au2.1 au2.2 au1.1 au1.2
  · omega
  · rw [Int.tdiv_eq_ediv_of_nonneg (by omega)]; exact hG0
  · rw [Int.tmod_eq_emod_of_nonneg (by omega)]; exact hR0
  · exact u64_id g0 (by omega)
  · exact u64_id r0 (by omega)
  · exact u64_id (by omega) (by omega)
  · exact u64_id (by omega) (by omega)
theorem round_idx {n m m1' i jn jn1 jn2 : Nat} (hm : n = m + 2) (hm1 : m + 1 = m1') (hjn : i + n = jn) (hjn1 : i + m1' = jn1) (hjn2 : i + m = jn2) (hn : n ≤ 10000001) (hi : i ≤ 10000001) :
    wrap64 ((i : Int) + (n : Int)) = (jn : Int) ∧ wrap64 ((jn : Int) - 1) = (jn1 : Int) ∧ wrap64 ((jn : Int) - 2) = (jn2 : Int) ∧ wrap64 ((n : Int) - 1) = (m1' : Int) ∧ wrap64 ((n : Int) - 2) = (m : Int) := by
  refine ⟨?_, ?_, ?_, ?_, ?_⟩ <;> unfold wrap64 <;> omega
theorem round_cmp {G R v2 u0 X Y : Int} (g0 : 0 ≤ G) (g1 : G < 4294967296) (r0 : 0 ≤ R) (r1 : R < 4294967296) (av2 : 0 ≤ v2 ∧ v2 < 4294967296) (au0 : 0 ≤ u0 ∧ u0 < 4294967296) (hX : R * 4294967296 + u0 = X) (hY : G * v2 = Y) :
    (IntKind.u64.wrap (G * v2) = Y) ∧ (IntKind.u64.wrap (R * 4294967296) = R * 4294967296) ∧ (Go.bits .or .u64 (R * 4294967296) u0 = X) := by
  have h1 : G * v2 ≤ 4294967295 * v2 := mul_mono (by omega) av2.1
  have h2 : 0 ≤ G * v2 := Int.mul_nonneg g0 av2.1
  refine ⟨?_, ?_, ?_⟩
  · rw [← hY]; exact u64_id h2 (by omega)
  · exact u64_id (by omega) (by omega)
  · rw [← hX]; exact join64 r0 r1 au0.1 au0.2
theorem round_down {G R v1 : Int} (g0 : 1 ≤ G) (g1 : G ≤ 4294967297) (r0 : 0 ≤ R) (r1 : R < 4294967296) (av1 : 0 ≤ v1 ∧ v1 < 4294967296) : (IntKind.u64.wrap (G - 1) = G - 1) ∧ (IntKind.u64.wrap (R + v1) = R + v1) := by
  exact ⟨u64_id (by omega) (by omega), u64_id (by omega) (by omega)⟩
theorem round_meas {G : Int} (h : 1 ≤ G) : max (G - 1) 0 < G := by omega
theorem round_mul {G vv cy Y pp pm : Int} (g0 : 0 ≤ G) (g1 : G < 4294967296) (av : 0 ≤ vv ∧ vv < 4294967296) (c0 : 0 ≤ cy) (c1 : cy < 4294967296) (hY : G * vv = Y) (hp : Y + cy = pp) (hm : pp % 4294967296 = pm) :
    (IntKind.u64.wrap G = G) ∧ (IntKind.u64.wrap vv = vv) ∧ (IntKind.u64.wrap (G * vv) = Y) ∧ (IntKind.u64.wrap (Y + cy) = pp) ∧ (IntKind.u32.wrap pp = pm) ∧ (0 ≤ pm ∧ pm < 4294967296) := by
  have h1 : G * vv ≤ 4294967295 * vv := mul_mono (by omega) av.1
  have h2 : 0 ≤ G * vv := Int.mul_nonneg g0 av.1
  refine ⟨?_, ?_, ?_, ?_, ?_, ?_⟩
  · exact u64_id g0 (by omega)
  · exact u64_id av.1 (by omega)
  · rw [hY]; exact u64_id (by omega) (by omega)
  · rw [hp]; exact u64_id (by omega) (by omega)
  · rw [IntKind.wrap_u32]; exact hm
  · omega
theorem SubB {x y b d b2 : Int} (w : World) (ax : 0 ≤ x ∧ x < 4294967296) (ay : 0 ≤ y ∧ y < 4294967296) (ab : 0 ≤ b ∧ b ≤ 1) (hd : (x - y - b) % 4294967296 = d) (hb : (if x < y + b then (1 : Int) else 0) = b2) :
    Calls Try.prog 99 #[.int .u32 x, .int .u32 y, .int .u32 b] w fun e w' => e = .returned (.tuple #[.int .u32 d, .int .u32 b2]) ∧ w = w' := by
  subst hd hb
  exact (Sub32_ok x y b w ax.1 ax.2 ay.1 ay.2 ab.1 ab.2).mono fun _ _ h => h
theorem sub_fact {x y b d b2 : Int} (ax : 0 ≤ x ∧ x < 4294967296) (ay : 0 ≤ y ∧ y < 4294967296) (ab : 0 ≤ b ∧ b ≤ 1) (hd : (x - y - b) % 4294967296 = d) (hb : (if x < y + b then (1 : Int) else 0) = b2) :
    0 ≤ d ∧ d < 4294967296 ∧ 0 ≤ b2 ∧ b2 ≤ 1 ∧ d = x - y - b + 4294967296 * b2 := by
  split at hb <;> omega
theorem AddB {x y b d b2 : Int} (w : World) (ax : 0 ≤ x ∧ x < 4294967296) (ay : 0 ≤ y ∧ y < 4294967296) (ab : 0 ≤ b ∧ b ≤ 1) (hd : (x + y + b) % 4294967296 = d) (hb : (x + y + b) / 4294967296 = b2) :
    Calls Try.prog 102 #[.int .u32 x, .int .u32 y, .int .u32 b] w fun e w' => e = .returned (.tuple #[.int .u32 d, .int .u32 b2]) ∧ w = w' := by
  subst hd hb
  exact Add32_ok x y b w ax.1 ax.2 ay.1 ay.2 ab.1 ab.2
theorem add_fact {x y b d b2 : Int} (ax : 0 ≤ x ∧ x < 4294967296) (ay : 0 ≤ y ∧ y < 4294967296) (ab : 0 ≤ b ∧ b ≤ 1) (hd : (x + y + b) % 4294967296 = d) (hb : (x + y + b) / 4294967296 = b2) :
    0 ≤ d ∧ d < 4294967296 ∧ 0 ≤ b2 ∧ b2 ≤ 1 ∧ d = x + y + b - 4294967296 * b2 := by omega
theorem idx_add {k i ki : Nat} (h : k + i = ki) (hk : k ≤ 10000001) (hi : i ≤ 10000001) : wrap64 ((k : Int) + (i : Int)) = (ki : Int) := by unfold wrap64; omega
theorem MS.bounds {U0 V U : List Int} {j i : Nat} {g cy bw : Int} (h : MS U0 V U j g i cy bw) : (0 ≤ cy ∧ cy < 4294967296) ∧ (0 ≤ bw ∧ bw ≤ 1) ∧ U.length = U0.length ∧ Okd 4294967296 U ∧ i ≤ V.length := ⟨⟨h.2.2.2.1, h.2.2.2.2.1⟩, ⟨h.2.2.2.2.2.1, h.2.2.2.2.2.2.1⟩, h.1, h.2.1, h.2.2.1⟩
theorem AB.bounds {U0 V U : List Int} {j i : Nat} {c : Int} (h : AB U0 V U j i c) : (0 ≤ c ∧ c ≤ 1) ∧ U.length = U0.length ∧ Okd 4294967296 U ∧ i ≤ V.length := ⟨⟨h.2.2.2.1, h.2.2.2.2.1⟩, h.1, h.2.1, h.2.2.1⟩
theorem u32_id' {n : Int} (h : 0 ≤ n ∧ n < 4294967296) : IntKind.u32.wrap n = n := u32_id h.1 h.2
theorem idx_lt {k i ki n L Lu : Nat} (hki : k + i = ki) (hk : k < n) (hi : i < L) (hLu : L + n = Lu) : ki < Lu := by omega
theorem idx_n1 {k n n1 : Nat} (hk : k < n) (h : n + 1 = n1) : k < n1 := by omega
theorem idx_meas {k n : Nat} (hk : k < n) : n - (k + 1) < n - k := by omega
theorem idx_meas2 {k n : Nat} (hk : k < n) : n - ((k : Int) + 1).toNat < n - k := by omega
theorem idx_eq {k n : Nat} (h : ¬ k < n) (h2 : k ≤ n) : k = n := by omega
theorem idx_n {i n jn L Lu : Nat} (h : i + n = jn) (hi : i < L) (hLu : L + n = Lu) : jn < Lu := by omega
theorem b2_cases {b : Int} (h0 : 0 ≤ b) (h1 : b ≤ 1) : b = 0 ∨ b = 1 := by omega
theorem sub_one_fits {G : Int} (h1 : 1 ≤ G) (h2 : G < 4294967296) : (IntKind.u64.wrap (G - 1) = G - 1) ∧ (IntKind.u32.wrap (G - 1) = G - 1) := ⟨u64_id (by omega) (by omega), u32_id (by omega) (by omega)⟩
theorem sum_fact {u c d b2 : Int} (au : 0 ≤ u ∧ u < 4294967296) (ac : 0 ≤ c ∧ c ≤ 1) (hd : (u + c) % 4294967296 = d) (hb : (u + c) / 4294967296 = b2) : (IntKind.u32.wrap (u + c) = d) ∧ 0 ≤ d ∧ d < 4294967296 ∧ 0 ≤ b2 ∧ b2 ≤ 1 ∧ d = u + c - 4294967296 * b2 := by
  refine ⟨?_, ?_⟩
  · rw [IntKind.wrap_u32]; exact hd
  · omega
set_option maxHeartbeats 16000000 in
set_option maxRecDepth 200000 in
theorem long_round : ∃ cd body, Try.f83.body = some cd ∧ rfBody 20 cd = some body ∧ ∀ (w : World) (ok : Nat → Prop) (s0 : Nat) (A0 : Int) (V V1 : List Int) (tlu tlv : List Value) (n Lu L cu cv gb g10 go g9 g8 g7 gv gu : Nat) (m m1' n1 i lb : Nat) (z0 z1 z2 z3 z4 z5 z6 z23 z24 z25 z26 z27 z28 z29 z30 z31 z32 z33 z34 z35 z36 z37 z38 z39 z40 z41 z42 z43 z44 z45 z46 x : Value) (W : World)
    (hV : V1.take n = V) (hV1 : V1.length = n1) (hn1 : n + 1 = n1) (hVok : Okd 4294967296 V1) (hm : n = m + 2) (hm1 : m + 1 = m1') (hLu : L + n = Lu) (hL : L ≤ 10000001) (hn : n ≤ 10000001) (htop : 2147483648 ≤ V1.getD m1' 0)
    (hI : LoopI w ok s0 A0 V V1 tlu tlv n Lu L cu cv gb g10 go g9 g8 g7 gv gu (i + 1) W) (hi : i < L),
    body.wpIn (Fence.wide.inRound lb) 3 Try.prog (postB s0 (LoopI w ok s0 A0 V V1 tlu tlv n Lu L cu cv gb g10 go g9 g8 g7 gv gu) (fun _ _ => False) i W) { tmps := #[z0, z1, z2, z3, z4, z5, z6, .pointer (some ⟨g7, 0, none⟩), .pointer (some ⟨g8, 0, none⟩), .pointer (some ⟨g9, 0, none⟩), .pointer (some ⟨g10, 0, none⟩), .int .i64 (i : Int), undef, undef, undef, undef, undef, undef, undef, undef, undef, undef, undef, z23, z24, z25, z26, z27, z28, z29, z30, z31, z32, z33, z34, z35, z36, z37, z38, z39, z40, z41, z42, z43, z44, z45, z46, .func (.func 106) #[] #[.pointer (some ⟨gb, 0, none⟩)], .int .i64 (i : Int), x, undef, undef, undef, undef, undef, undef, undef, undef, undef, undef, undef, undef, undef, undef, undef, undef, undef, undef, undef, undef, undef, undef, undef, undef, undef, undef, undef, undef, undef, undef, undef, undef, undef, undef, undef, undef, undef, undef, undef, undef, undef, undef, undef, undef, undef, undef, undef, undef, undef, undef, undef, undef, undef, undef, undef, undef, undef, undef, undef, undef, undef, undef, undef, undef, undef, undef, undef, undef, undef, undef, undef, undef, undef, undef, undef, undef, undef, undef, undef, undef, undef, undef, undef, undef, undef, undef, undef, undef, undef, undef, undef, undef, undef, undef, undef, undef, undef, undef, undef, undef, undef, undef, undef, undef, undef, undef, undef, undef, undef, undef, undef, undef, undef, undef, undef, undef, undef, undef, undef, undef, undef, undef, undef, undef, undef, undef, undef, undef, undef, undef, undef, undef, undef, undef, undef, undef, undef, undef, undef, undef, undef, undef, undef, undef, undef, undef, undef, undef, undef, undef, undef, undef, undef, undef, undef, undef, undef, undef, undef, undef, undef, undef, undef, undef, undef, undef, undef, undef, undef, undef, undef, undef, undef, undef, undef, undef, undef, undef, undef, undef, undef, undef, undef, undef, undef, undef, undef, undef, undef, undef, undef, undef, undef, undef, undef, undef, undef, undef, undef, undef, undef], defers := [] } W := by
  refine ⟨_, _, rfl, rfl, ?_⟩
  intro w ok s0 A0 V V1 tlu tlv n Lu L cu cv gb g10 go g9 g8 g7 gv gu m m1' n1 i lb z0 z1 z2 z3 z4 z5 z6 z23 z24 z25 z26 z27 z28 z29 z30 z31 z32 z33 z34 z35 z36 z37 z38 z39 z40 z41 z42 z43 z44 z45 z46 x W hV hV1 hn1 hVok hm hm1 hLu hL hn htop ⟨O, U, hLI, hOl, hUl, hS⟩ hi
  have hVl : V.length = n := by rw [← hV, List.length_take]; omega
  have hVk : Okd 4294967296 V := by rw [← hV]; exact hVok.take n
  obtain ⟨v1, hv1⟩ : ∃ v1, V1.getD m1' 0 = v1 := ⟨_, rfl⟩
  obtain ⟨v2, hv2⟩ : ∃ v2, V1.getD m 0 = v2 := ⟨_, rfl⟩
  obtain ⟨jn, hjn⟩ : ∃ jn, i + n = jn := ⟨_, rfl⟩
  obtain ⟨jn1, hjn1⟩ : ∃ jn1, i + m1' = jn1 := ⟨_, rfl⟩
  obtain ⟨jn2, hjn2⟩ : ∃ jn2, i + m = jn2 := ⟨_, rfl⟩
  obtain ⟨u2, hu2⟩ : ∃ u2, U.getD jn 0 = u2 := ⟨_, rfl⟩
  obtain ⟨u1, hu1⟩ : ∃ u1, U.getD jn1 0 = u1 := ⟨_, rfl⟩
  obtain ⟨u0, hu0⟩ : ∃ u0, U.getD jn2 0 = u0 := ⟨_, rfl⟩
  have av1 := hVok.getD (by omega) m1'
  have av2 := hVok.getD (by omega) m
  have au2 := hLI.1.getD (by omega) jn
  have au1 := hLI.1.getD (by omega) jn1
  have au0 := hLI.1.getD (by omega) jn2
  rw [hv1] at av1 htop
  rw [hv2] at av2
  rw [hu2] at au2
  rw [hu1] at au1
  rw [hu0] at au0
  obtain ⟨WJ, hWJ⟩ : ∃ WJ, vl 4294967296 U / 4294967296 ^ i = WJ := ⟨_, rfl⟩
  have GHH : GH WJ (vl 4294967296 V) v1 v2 u2 u1 u0 := by
    refine ⟨?_, htop, av1.2, av2.1, av2.2, au2.1, au2.2, au1.1, au1.2, au0.1, au0.2⟩
    have := LI.head hLI hVk (m := m) (by omega) (v1 := v1) (v2 := v2) (u2 := u2) (u1 := u1) (u0 := u0) (by rw [← hV, take_getD (by omega), hm1]; exact hv1) (by rw [← hV, take_getD (by omega)]; exact hv2) (by rw [show i + (m + 2) = jn by omega]; exact hu2) (by rw [show i + (m + 1) = jn1 by omega]; exact hu1) (by rw [hjn2]; exact hu0)
    rw [hWJ] at this
    exact this
  have b1 : jn < Lu := by omega
  have b2 : jn1 < Lu := by omega
  have b3 : jn2 < Lu := by omega
  have b4 : m1' < n := by omega
  have b5 : m < n := by omega
  have k1e := hv1
  have k2e := hv2
  have q2e := hu2
  have q1e := hu1
  have q0e := hu0
  have xm1 : n - 1 = m1' := by omega
  have bV1 : m1' < V1.length := by omega
  have bV2 : m < V1.length := by omega
  have bU2 : jn < U.length := by omega
  have bU1 : jn1 < U.length := by omega
  have bU0 : jn2 < U.length := by omega
  obtain ⟨tp, htp⟩ : ∃ tp, u2 * 4294967296 + u1 = tp := ⟨_, rfl⟩
  obtain ⟨G0, hG0⟩ : ∃ G0, tp / v1 = G0 := ⟨_, rfl⟩
  obtain ⟨R0, hR0⟩ : ∃ R0, tp % v1 = R0 := ⟨_, rfl⟩
  obtain ⟨GS0, GR0⟩ := GHH.first
  rw [htp, hG0, hR0] at GS0
  rw [htp, hR0] at GR0
  obtain ⟨e1, e2, e2', e3, hj, e4, e5, e6, e7, e8, e9, e10⟩ := round_nums au2 au1 au0 av1 av2 htp hG0 hR0 GS0.2.2.2.2 GS0.2.2.2.1 GS0.2.1 GR0 htop

  obtain ⟨xj, xj1, xj2, xn1, xn2⟩ := round_idx hm hm1 hjn hjn1 hjn2 hn (Nat.le_trans (Nat.le_of_lt hi) hL)
  have AV1 := Aside0.mk av1
  have AV2 := Aside0.mk av2
  have AU0 := Aside0.mk au0
  have HGS := Aside0.mk GS0
  have HGR := Aside0.mk GR0
  have HGH := Aside0.mk GHH
  have HLI := Aside0.mk hLI
  have HVe := Aside0.mk (And.intro hV (And.intro hVl hVk))
  have HLn := Aside0.mk (And.intro hLu (And.intro hOl hUl))
  have HJ := Aside0.mk hjn
  have HTP := Aside0.mk htp
  have HWJ := Aside0.mk hWJ
  have HMM := Aside0.mk (And.intro hm hm1)
  have HNN := Aside0.mk (And.intro hV1 hn1)
  have HVo := Aside0.mk hVok
  have BV1 := Aside0.mk (And.intro bV1 bV2)
  have BU1 := Aside0.mk (And.intro bU2 (And.intro bU1 bU0))
  have HTOP := Aside0.mk htop
  have KV := Aside0.mk (And.intro k1e k2e)
  have KU := Aside0.mk (And.intro q2e (And.intro q1e q0e))
  have c7 : W.cell? ⟨g7, 0, none⟩ = some (.slice (some ⟨gu, 0, none⟩) Lu cu) := hS.sit.cell m5 0
  have c8 : W.cell? ⟨g8, 0, none⟩ = some (.slice (some ⟨gv, 0, none⟩) n cv) := hS.sit.cell m4 0
  have c9 : W.cell? ⟨g9, 0, none⟩ = some (.int .i64 (n : Int)) := hS.sit.cell m3 0
  have k1 : W.cell? ⟨gv, m1', none⟩ = some (.int .u32 v1) := (hS.sit.cell m6 m1').trans ((cell_app (l := V1) (BV1.out.1)).trans (by rw [KV.out.1]))
  have k2 : W.cell? ⟨gv, m, none⟩ = some (.int .u32 v2) := (hS.sit.cell m6 m).trans ((cell_app (l := V1) (BV1.out.2)).trans (by rw [KV.out.2]))
  have q2 : W.cell? ⟨gu, jn, none⟩ = some (.int .u32 u2) := (hS.sit.cell m7 jn).trans ((cell_app (l := U) (BU1.out.1)).trans (by rw [KU.out.1]))
  have q1 : W.cell? ⟨gu, jn1, none⟩ = some (.int .u32 u1) := (hS.sit.cell m7 jn1).trans ((cell_app (l := U) (BU1.out.2.1)).trans (by rw [KU.out.2.1]))
  have q0 : W.cell? ⟨gu, jn2, none⟩ = some (.int .u32 u0) := (hS.sit.cell m7 jn2).trans ((cell_app (l := U) (BU1.out.2.2)).trans (by rw [KU.out.2.2]))
  clear hV hV1 hn1 hVok hm hm1 hLu hv1 hv2 hjn hjn1 hjn2 hu2 hu1 hu0 hWJ GHH htp hG0 hR0 GS0 GR0 hLI hOl hUl k1e k2e q2e q1e q0e bV1 bV2 bU2 bU1 bU0 av1 av2 au2 au1 au0 htop hVl hVk
  gi_wp2
  have KF := KeepsFrom.refl s0 W
  refine startR (m := 18) (S := fun w' => w'.cell? ⟨g7, 0, none⟩ = some (.slice (some ⟨gu, 0, none⟩) Lu cu) ∧ w'.cell? ⟨g9, 0, none⟩ = some (.int .i64 (n : Int)) ∧ w'.cell? ⟨gu, jn, none⟩ = some (.int .u32 u2) ∧ w'.cell? ⟨gu, jn1, none⟩ = some (.int .u32 u1)) (ds := []) #[false, false, false, false, false, false, false, false, false, false, false, false, false, false, false, false, false, false] (by kernel_rfl) rfl rfl (by kernel_rfl) (fun _ _ h => h) ⟨c7, c9, q2, q1⟩ (fun hQ => ?_)
  refine pure_ (i := 1) (N := some 51) (v := ?_) (a' := ?_) (bm 18 2) rfl rfl (by kernel_rfl) (fun _ _ _ h => h) (Or.inl ⟨by rfl, ?_⟩) ?_ ?_
  rotate_left
  · intro w'
    go_simp
    with_reducible rfl
  rotate_left
  · simp only [Act.put, List.setIfInBounds_toArray, List.set_cons_zero, List.set_cons_succ, i64_w, i32_w]
    rfl
  refine pure_ (i := 9) (N := some 59) (v := ?_) (a' := ?_) (bm 18 514) rfl rfl (by kernel_rfl) (fun _ _ _ h => h) (Or.inl ⟨by rfl, ?_⟩) ?_ ?_
  rotate_left
  · intro w'
    go_simp
    with_reducible rfl
  rotate_left
  · simp only [Act.put, List.setIfInBounds_toArray, List.set_cons_zero, List.set_cons_succ, i64_w, i32_w]
    rfl
  refine take_ (i := 0) (N := some 50) (v := ?_) (a' := ?_) (bm 18 515) rfl rfl (by kernel_rfl) (fun _ _ _ h => h) (Or.inl ⟨by rfl, ?_⟩) hQ ?_ ?_
  rotate_left
  · rintro w' ⟨s0, s1, s2, s3⟩
    go_simp
    with_reducible rfl
  rotate_left
  · simp only [Act.put, List.setIfInBounds_toArray, List.set_cons_zero, List.set_cons_succ, i64_w, i32_w]
    rfl
  refine take_ (i := 2) (N := some 52) (v := ?_) (a' := ?_) (bm 18 519) rfl rfl (by kernel_rfl) (fun _ _ _ h => h) (Or.inl ⟨by rfl, ?_⟩) hQ ?_ ?_
  rotate_left
  · rintro w' ⟨s0, s1, s2, s3⟩
    go_simp
    with_reducible rfl
  rotate_left
  · simp only [Act.put, List.setIfInBounds_toArray, List.set_cons_zero, List.set_cons_succ, i64_w, i32_w]
    rfl
  refine pure_ (i := 3) (N := some 53) (v := ?_) (a' := ?_) (bm 18 527) rfl rfl (by kernel_rfl) (fun _ _ _ h => h) (Or.inl ⟨by rfl, ?_⟩) ?_ ?_
  rotate_left
  · intro w'
    go_simp
    with_reducible rfl
  rotate_left
  · simp only [Act.put, List.setIfInBounds_toArray, List.set_cons_zero, List.set_cons_succ, i64_w, i32_w]
    rfl
  refine pure_ (i := 4) (N := some 54) (v := ?_) (a' := ?_) (bm 18 543) rfl rfl (by kernel_rfl) (fun _ _ _ h => h) (Or.inl ⟨by rfl, ?_⟩) ?_ ?_
  rotate_left
  · intro w'
    go_simp
    with_reducible rfl
  rotate_left
  · simp only [Act.put, List.setIfInBounds_toArray, List.set_cons_zero, List.set_cons_succ, i64_w, i32_w]
    rfl
  refine take_ (i := 5) (N := some 55) (v := ?_) (a' := ?_) (bm 18 575) rfl rfl (by kernel_rfl) (fun _ _ _ h => h) (Or.inl ⟨by rfl, ?_⟩) hQ ?_ ?_
  rotate_left
  · rintro w' ⟨s0, s1, s2, s3⟩
    go_simp
    with_reducible rfl
  rotate_left
  · simp only [Act.put, List.setIfInBounds_toArray, List.set_cons_zero, List.set_cons_succ, i64_w, i32_w]
    rfl
  refine pure_ (i := 6) (N := some 56) (v := ?_) (a' := ?_) (bm 18 639) rfl rfl (by kernel_rfl) (fun _ _ _ h => h) (Or.inl ⟨by rfl, ?_⟩) ?_ ?_
  rotate_left
  · intro w'
    go_simp
    with_reducible rfl
  rotate_left
  · simp only [Act.put, List.setIfInBounds_toArray, List.set_cons_zero, List.set_cons_succ, i64_w, i32_w]
    rfl
  refine pure_ (i := 7) (N := some 57) (v := ?_) (a' := ?_) (bm 18 767) rfl rfl (by kernel_rfl) (fun _ _ _ h => h) (Or.inl ⟨by rfl, ?_⟩) ?_ ?_
  rotate_left
  · intro w'
    go_simp
    with_reducible rfl
  rotate_left
  · simp only [Act.put, List.setIfInBounds_toArray, List.set_cons_zero, List.set_cons_succ, i64_w, i32_w]
    rfl
  refine take_ (i := 8) (N := some 58) (v := ?_) (a' := ?_) (bm 18 1023) rfl rfl (by kernel_rfl) (fun _ _ _ h => h) (Or.inl ⟨by rfl, ?_⟩) hQ ?_ ?_
  rotate_left
  · rintro w' ⟨s0, s1, s2, s3⟩
    go_simp
    with_reducible rfl
  rotate_left
  · simp only [Act.put, List.setIfInBounds_toArray, List.set_cons_zero, List.set_cons_succ, i64_w, i32_w]
    rfl
  refine take_ (i := 10) (N := some 60) (v := ?_) (a' := ?_) (bm 18 2047) rfl rfl (by kernel_rfl) (fun _ _ _ h => h) (Or.inl ⟨by rfl, ?_⟩) hQ ?_ ?_
  rotate_left
  · rintro w' ⟨s0, s1, s2, s3⟩
    go_simp
    with_reducible rfl
  rotate_left
  · simp only [Act.put, List.setIfInBounds_toArray, List.set_cons_zero, List.set_cons_succ, i64_w, i32_w]
    rfl
  refine pure_ (i := 11) (N := some 61) (v := ?_) (a' := ?_) (bm 18 4095) rfl rfl (by kernel_rfl) (fun _ _ _ h => h) (Or.inl ⟨by rfl, ?_⟩) ?_ ?_
  rotate_left
  · intro w'
    go_simp
    with_reducible rfl
  rotate_left
  · simp only [Act.put, List.setIfInBounds_toArray, List.set_cons_zero, List.set_cons_succ, i64_w, i32_w]
    rfl
  refine pure_ (i := 12) (N := some 62) (v := ?_) (a' := ?_) (bm 18 8191) rfl rfl (by kernel_rfl) (fun _ _ _ h => h) (Or.inl ⟨by rfl, ?_⟩) ?_ ?_
  rotate_left
  · intro w'
    go_simp
    with_reducible rfl
  rotate_left
  · simp only [Act.put, List.setIfInBounds_toArray, List.set_cons_zero, List.set_cons_succ, i64_w, i32_w]
    rfl
  refine pure_ (i := 13) (N := some 63) (v := ?_) (a' := ?_) (bm 18 16383) rfl rfl (by kernel_rfl) (fun _ _ _ h => h) (Or.inl ⟨by rfl, ?_⟩) ?_ ?_
  rotate_left
  · intro w'
    go_simp
    with_reducible rfl
  rotate_left
  · simp only [Act.put, List.setIfInBounds_toArray, List.set_cons_zero, List.set_cons_succ, i64_w, i32_w]
    rfl
  refine take_ (i := 14) (N := some 64) (v := ?_) (a' := ?_) (bm 18 32767) rfl rfl (by kernel_rfl) (fun _ _ _ h => h) (Or.inl ⟨by rfl, ?_⟩) hQ ?_ ?_
  rotate_left
  · rintro w' ⟨s0, s1, s2, s3⟩
    go_simp
    with_reducible rfl
  rotate_left
  · simp only [Act.put, List.setIfInBounds_toArray, List.set_cons_zero, List.set_cons_succ, i64_w, i32_w]
    rfl
  refine pure_ (i := 15) (N := some 65) (v := ?_) (a' := ?_) (bm 18 65535) rfl rfl (by kernel_rfl) (fun _ _ _ h => h) (Or.inl ⟨by rfl, ?_⟩) ?_ ?_
  rotate_left
  · intro w'
    go_simp
    with_reducible rfl
  rotate_left
  · simp only [Act.put, List.setIfInBounds_toArray, List.set_cons_zero, List.set_cons_succ, i64_w, i32_w]
    rfl
  refine pure_ (i := 16) (N := some 66) (v := ?_) (a' := ?_) (bm 18 131071) rfl rfl (by kernel_rfl) (fun _ _ _ h => h) (Or.inl ⟨by rfl, ?_⟩) ?_ ?_
  rotate_left
  · intro w'
    go_simp
    with_reducible rfl
  rotate_left
  · simp only [Act.put, List.setIfInBounds_toArray, List.set_cons_zero, List.set_cons_succ, i64_w, i32_w]
    rfl
  refine pure_ (i := 17) (N := some 12) (v := ?_) (a' := ?_) (bm 18 262143) rfl rfl (by kernel_rfl) (fun _ _ _ h => h) (Or.inl ⟨by rfl, ?_⟩) ?_ ?_
  rotate_left
  · intro w'
    go_simp
    with_reducible rfl
  rotate_left
  · simp only [Act.put, List.setIfInBounds_toArray, List.set_cons_zero, List.set_cons_succ, i64_w, i32_w]
    rfl
  refine done_ (by kernel_rfl) ?_
  clear c7 c8 c9 k1 k2 q2 q1 q0 hQ
  replace KF := kf_drew KF
  replace hS := hS.drew
  generalize W.drew = W1 at hS KF ⊢
  have c7 : W1.cell? ⟨g7, 0, none⟩ = some (.slice (some ⟨gu, 0, none⟩) Lu cu) := hS.sit.cell m5 0
  have c8 : W1.cell? ⟨g8, 0, none⟩ = some (.slice (some ⟨gv, 0, none⟩) n cv) := hS.sit.cell m4 0
  have c9 : W1.cell? ⟨g9, 0, none⟩ = some (.int .i64 (n : Int)) := hS.sit.cell m3 0
  have k1 : W1.cell? ⟨gv, m1', none⟩ = some (.int .u32 v1) := (hS.sit.cell m6 m1').trans ((cell_app (l := V1) (BV1.out.1)).trans (by rw [KV.out.1]))
  have k2 : W1.cell? ⟨gv, m, none⟩ = some (.int .u32 v2) := (hS.sit.cell m6 m).trans ((cell_app (l := V1) (BV1.out.2)).trans (by rw [KV.out.2]))
  have q2 : W1.cell? ⟨gu, jn, none⟩ = some (.int .u32 u2) := (hS.sit.cell m7 jn).trans ((cell_app (l := U) (BU1.out.1)).trans (by rw [KU.out.1]))
  have q1 : W1.cell? ⟨gu, jn1, none⟩ = some (.int .u32 u1) := (hS.sit.cell m7 jn1).trans ((cell_app (l := U) (BU1.out.2.1)).trans (by rw [KU.out.2.1]))
  have q0 : W1.cell? ⟨gu, jn2, none⟩ = some (.int .u32 u0) := (hS.sit.cell m7 jn2).trans ((cell_app (l := U) (BU1.out.2.2)).trans (by rw [KU.out.2.2]))
  gi_wp2
  refine startR (m := 18) (S := fun w' => w'.cell? ⟨g8, 0, none⟩ = some (.slice (some ⟨gv, 0, none⟩) n cv) ∧ w'.cell? ⟨g9, 0, none⟩ = some (.int .i64 (n : Int)) ∧ w'.cell? ⟨gv, m1', none⟩ = some (.int .u32 v1)) (ds := []) #[false, false, false, false, false, false, false, false, false, false, false, false, false, false, false, false, false, false] (by kernel_rfl) rfl rfl (by kernel_rfl) (fun _ _ h => h) ⟨c8, c9, k1⟩ (fun hQ => ?_)
  refine pure_ (i := 0) (N := some 67) (v := ?_) (a' := ?_) (bm 18 1) rfl rfl (by kernel_rfl) (fun _ _ _ h => h) (Or.inl ⟨by rfl, ?_⟩) ?_ ?_
  rotate_left
  · intro w'
    go_simp
    with_reducible rfl
  rotate_left
  · simp only [Act.put, List.setIfInBounds_toArray, List.set_cons_zero, List.set_cons_succ, i64_w, i32_w]
    rfl
  refine pure_ (i := 8) (N := some 75) (v := ?_) (a' := ?_) (bm 18 257) rfl rfl (by kernel_rfl) (fun _ _ _ h => h) (Or.inl ⟨by rfl, ?_⟩) ?_ ?_
  rotate_left
  · intro w'
    go_simp
    with_reducible rfl
  rotate_left
  · simp only [Act.put, List.setIfInBounds_toArray, List.set_cons_zero, List.set_cons_succ, i64_w, i32_w]
    rfl
  refine take_ (i := 1) (N := some 68) (v := ?_) (a' := ?_) (bm 18 259) rfl rfl (by kernel_rfl) (fun _ _ _ h => h) (Or.inl ⟨by rfl, ?_⟩) hQ ?_ ?_
  rotate_left
  · rintro w' ⟨s0, s1, s2⟩
    go_simp
    with_reducible rfl
  rotate_left
  · simp only [Act.put, List.setIfInBounds_toArray, List.set_cons_zero, List.set_cons_succ, i64_w, i32_w]
    rfl
  refine take_ (i := 2) (N := some 69) (v := ?_) (a' := ?_) (bm 18 263) rfl rfl (by kernel_rfl) (fun _ _ _ h => h) (Or.inl ⟨by rfl, ?_⟩) hQ ?_ ?_
  rotate_left
  · rintro w' ⟨s0, s1, s2⟩
    go_simp
    with_reducible rfl
  rotate_left
  · simp only [Act.put, List.setIfInBounds_toArray, List.set_cons_zero, List.set_cons_succ, i64_w, i32_w]
    rfl
  refine pure_ (i := 3) (N := some 70) (v := ?_) (a' := ?_) (bm 18 271) rfl rfl (by kernel_rfl) (fun _ _ _ h => h) (Or.inl ⟨by rfl, ?_⟩) ?_ ?_
  rotate_left
  · intro w'
    go_simp
    with_reducible rfl
  rotate_left
  · simp only [Act.put, List.setIfInBounds_toArray, List.set_cons_zero, List.set_cons_succ, i64_w, i32_w]
    rfl
  refine pure_ (i := 4) (N := some 71) (v := ?_) (a' := ?_) (bm 18 287) rfl rfl (by kernel_rfl) (fun _ _ _ h => h) (Or.inl ⟨by rfl, ?_⟩) ?_ ?_
  rotate_left
  · intro w'
    go_simp
    with_reducible rfl
  rotate_left
  · simp only [Act.put, List.setIfInBounds_toArray, List.set_cons_zero, List.set_cons_succ, i64_w, i32_w]
    rfl
  refine take_ (i := 5) (N := some 72) (v := ?_) (a' := ?_) (bm 18 319) rfl rfl (by kernel_rfl) (fun _ _ _ h => h) (Or.inl ⟨by rfl, ?_⟩) hQ ?_ ?_
  rotate_left
  · rintro w' ⟨s0, s1, s2⟩
    go_simp
    with_reducible rfl
  rotate_left
  · simp only [Act.put, List.setIfInBounds_toArray, List.set_cons_zero, List.set_cons_succ, i64_w, i32_w]
    rfl
  refine pure_ (i := 6) (N := some 73) (v := ?_) (a' := ?_) (bm 18 383) rfl rfl (by kernel_rfl) (fun _ _ _ h => h) (Or.inl ⟨by rfl, ?_⟩) ?_ ?_
  rotate_left
  · intro w'
    go_simp
    with_reducible rfl
  rotate_left
  · simp only [Act.put, List.setIfInBounds_toArray, List.set_cons_zero, List.set_cons_succ, i64_w, i32_w]
    rfl
  refine pure_ (i := 7) (N := some 74) (v := ?_) (a' := ?_) (bm 18 511) rfl rfl (by kernel_rfl) (fun _ _ _ h => h) (Or.inl ⟨by rfl, ?_⟩) ?_ ?_
  rotate_left
  · intro w'
    go_simp
    with_reducible rfl
  rotate_left
  · simp only [Act.put, List.setIfInBounds_toArray, List.set_cons_zero, List.set_cons_succ, i64_w, i32_w]
    rfl
  refine pure_ (i := 16) (N := some 13) (v := ?_) (a' := ?_) (bm 18 66047) rfl rfl (by kernel_rfl) (fun _ _ _ h => h) (Or.inl ⟨by rfl, ?_⟩) ?_ ?_
  rotate_left
  · intro w'
    go_simp
    with_reducible rfl
  rotate_left
  · simp only [Act.put, List.setIfInBounds_toArray, List.set_cons_zero, List.set_cons_succ, i64_w, i32_w]
    rfl
  refine take_ (i := 9) (N := some 76) (v := ?_) (a' := ?_) (bm 18 66559) rfl rfl (by kernel_rfl) (fun _ _ _ h => h) (Or.inl ⟨by rfl, ?_⟩) hQ ?_ ?_
  rotate_left
  · rintro w' ⟨s0, s1, s2⟩
    go_simp
    with_reducible rfl
  rotate_left
  · simp only [Act.put, List.setIfInBounds_toArray, List.set_cons_zero, List.set_cons_succ, i64_w, i32_w]
    rfl
  refine take_ (i := 10) (N := some 77) (v := ?_) (a' := ?_) (bm 18 67583) rfl rfl (by kernel_rfl) (fun _ _ _ h => h) (Or.inl ⟨by rfl, ?_⟩) hQ ?_ ?_
  rotate_left
  · rintro w' ⟨s0, s1, s2⟩
    go_simp
    with_reducible rfl
  rotate_left
  · simp only [Act.put, List.setIfInBounds_toArray, List.set_cons_zero, List.set_cons_succ, i64_w, i32_w]
    rfl
  refine pure_ (i := 11) (N := some 78) (v := ?_) (a' := ?_) (bm 18 69631) rfl rfl (by kernel_rfl) (fun _ _ _ h => h) (Or.inl ⟨by rfl, ?_⟩) ?_ ?_
  rotate_left
  · intro w'
    go_simp
    with_reducible rfl
  rotate_left
  · simp only [Act.put, List.setIfInBounds_toArray, List.set_cons_zero, List.set_cons_succ, i64_w, i32_w]
    rfl
  refine pure_ (i := 12) (N := some 79) (v := ?_) (a' := ?_) (bm 18 73727) rfl rfl (by kernel_rfl) (fun _ _ _ h => h) (Or.inl ⟨by rfl, ?_⟩) ?_ ?_
  rotate_left
  · intro w'
    go_simp
    with_reducible rfl
  rotate_left
  · simp only [Act.put, List.setIfInBounds_toArray, List.set_cons_zero, List.set_cons_succ, i64_w, i32_w]
    rfl
  refine take_ (i := 13) (N := some 80) (v := ?_) (a' := ?_) (bm 18 81919) rfl rfl (by kernel_rfl) (fun _ _ _ h => h) (Or.inl ⟨by rfl, ?_⟩) hQ ?_ ?_
  rotate_left
  · rintro w' ⟨s0, s1, s2⟩
    go_simp
    with_reducible rfl
  rotate_left
  · simp only [Act.put, List.setIfInBounds_toArray, List.set_cons_zero, List.set_cons_succ, i64_w, i32_w]
    rfl
  refine pure_ (i := 14) (N := some 81) (v := ?_) (a' := ?_) (bm 18 98303) rfl rfl (by kernel_rfl) (fun _ _ _ h => h) (Or.inl ⟨by rfl, ?_⟩) ?_ ?_
  rotate_left
  · intro w'
    go_simp
    with_reducible rfl
  rotate_left
  · simp only [Act.put, List.setIfInBounds_toArray, List.set_cons_zero, List.set_cons_succ, i64_w, i32_w]
    rfl
  refine pure_ (i := 15) (N := some 82) (v := ?_) (a' := ?_) (bm 18 131071) rfl rfl (by kernel_rfl) (fun _ _ _ h => h) (Or.inl ⟨by rfl, ?_⟩) ?_ ?_
  rotate_left
  · intro w'
    go_simp
    with_reducible rfl
  rotate_left
  · simp only [Act.put, List.setIfInBounds_toArray, List.set_cons_zero, List.set_cons_succ, i64_w, i32_w]
    rfl
  refine pure_ (i := 17) (N := some 14) (v := ?_) (a' := ?_) (bm 18 262143) rfl rfl (by kernel_rfl) (fun _ _ _ h => h) (Or.inl ⟨by rfl, ?_⟩) ?_ ?_
  rotate_left
  · intro w'
    go_simp
    with_reducible rfl
  rotate_left
  · simp only [Act.put, List.setIfInBounds_toArray, List.set_cons_zero, List.set_cons_succ, i64_w, i32_w]
    rfl
  refine done_ (by kernel_rfl) ?_
  clear c7 c8 c9 k1 k2 q2 q1 q0 e1 e2 e2' hj e4 e5 e6 hQ
  replace KF := kf_drew KF
  replace hS := hS.drew
  generalize W1.drew = W2 at hS KF ⊢
  gi_wp2
  rename_i K2 hK2
  have REST : ∀ (G : Int) (y12 y14 y50 y51 y52 y53 y54 y55 y56 y57 y58 y59 y60 y61 y62 y63 y64 y65 y66 y67 y68 y69 y70 y71 y72 y73 y74 y75 y76 y77 y78 y79 y80 y81 y82 y83 y84 y85 y86 y87 y88 y89 y90 y91 y92 y93 y94 y95 y96 y97 y98 y99 y100 y101 y102 y103 y104 y105 y106 y107 y108 y109 y110 y111 y112 y113 y114 y115 y116 y117 y118 : Value) (W3 : World), Aside0 (0 ≤ G ∧ G < 4294967296 ∧ WJ / vl 4294967296 V ≤ G ∧ G - 1 ≤ WJ / vl 4294967296 V) → KeepsFrom s0 W W3 → LS s0 w W3 ok [(gb, .cells #[.slice (some ⟨go, 0, none⟩) L L] 23 (0, 0)), (g10, .cells #[.slice (some ⟨go, 0, none⟩) L L] 23 (0, 0)), (go, .cells (O.map (Value.int .u32)).toArray 93 (0, 0)), (g9, .cells #[.int .i64 (n : Int)] 3 (0, 0)), (g8, .cells #[.slice (some ⟨gv, 0, none⟩) n cv] 23 (0, 0)), (g7, .cells #[.slice (some ⟨gu, 0, none⟩) Lu cu] 23 (0, 0)), (gv, .cells (V1.map (Value.int .u32) ++ tlv).toArray 93 (0, 0)), (gu, .cells (U.map (Value.int .u32) ++ tlu).toArray 93 (0, 0))] [] → K2 { tmps := #[z0, z1, z2, z3, z4, z5, z6, .pointer (some ⟨g7, 0, none⟩), .pointer (some ⟨g8, 0, none⟩), .pointer (some ⟨g9, 0, none⟩), .pointer (some ⟨g10, 0, none⟩), .int .i64 (i : Int), y12, .int .u64 G, y14, undef, undef, undef, undef, undef, undef, undef, undef, z23, z24, z25, z26, z27, z28, z29, z30, z31, z32, z33, z34, z35, z36, z37, z38, z39, z40, z41, z42, z43, z44, z45, z46, .func (.func 106) #[] #[.pointer (some ⟨gb, 0, none⟩)], .int .i64 (i : Int), x, y50, y51, y52, y53, y54, y55, y56, y57, y58, y59, y60, y61, y62, y63, y64, y65, y66, y67, y68, y69, y70, y71, y72, y73, y74, y75, y76, y77, y78, y79, y80, y81, y82, y83, y84, y85, y86, y87, y88, y89, y90, y91, y92, y93, y94, y95, y96, y97, y98, y99, y100, y101, y102, y103, y104, y105, y106, y107, y108, y109, y110, y111, y112, y113, y114, y115, y116, y117, y118, undef, undef, undef, undef, undef, undef, undef, undef, undef, undef, undef, undef, undef, undef, undef, undef, undef, undef, undef, undef, undef, undef, undef, undef, undef, undef, undef, undef, undef, undef, undef, undef, undef, undef, undef, undef, undef, undef, undef, undef, undef, undef, undef, undef, undef, undef, undef, undef, undef, undef, undef, undef, undef, undef, undef, undef, undef, undef, undef, undef, undef, undef, undef, undef, undef, undef, undef, undef, undef, undef, undef, undef, undef, undef, undef, undef, undef, undef, undef, undef, undef, undef, undef, undef, undef, undef, undef, undef, undef, undef, undef, undef, undef, undef, undef, undef, undef, undef, undef, undef, undef, undef, undef, undef, undef, undef, undef, undef, undef, undef, undef, undef, undef, undef, undef, undef, undef, undef, undef, undef, undef, undef, undef, undef, undef, undef, undef, undef, undef, undef, undef, undef], defers := [] } W3 := by
    clear KF hS e3 e7 e8
    intro G y12 y14 y50 y51 y52 y53 y54 y55 y56 y57 y58 y59 y60 y61 y62 y63 y64 y65 y66 y67 y68 y69 y70 y71 y72 y73 y74 y75 y76 y77 y78 y79 y80 y81 y82 y83 y84 y85 y86 y87 y88 y89 y90 y91 y92 y93 y94 y95 y96 y97 y98 y99 y100 y101 y102 y103 y104 y105 y106 y107 y108 y109 y110 y111 y112 y113 y114 y115 y116 y117 y118 W3 HG KF hS
    refine hK2 _ _ ?_
    clear hK2
    have c9 : W3.cell? ⟨g9, 0, none⟩ = some (.int .i64 (n : Int)) := hS.sit.cell m3 0
    have HIi := Aside0.mk (show i ≤ 10000001 from Nat.le_trans (Nat.le_of_lt hi) hL)
    have HOi := Aside0.mk (show i < O.length by rw [HLn.out.2.1]; exact hi)
    have MS0 := MS.start (V := V) (j := i) (g := G) HLI.out.1
    gi_wp2
    gi_loopw [15, 16, 120] (fun cy bw k wr => ∃ (k' : Nat) (cy' bw' : Int) (U' : List Int), k = .int .i64 k' ∧ cy = .int .u64 cy' ∧ bw = .int .u32 bw' ∧ MS U V U' i G k' cy' bw' ∧ KeepsFrom s0 W wr ∧ LS s0 w wr ok [(gb, .cells #[.slice (some ⟨go, 0, none⟩) L L] 23 (0, 0)), (g10, .cells #[.slice (some ⟨go, 0, none⟩) L L] 23 (0, 0)), (go, .cells (O.map (Value.int .u32)).toArray 93 (0, 0)), (g9, .cells #[.int .i64 (n : Int)] 3 (0, 0)), (g8, .cells #[.slice (some ⟨gv, 0, none⟩) n cv] 23 (0, 0)), (g7, .cells #[.slice (some ⟨gu, 0, none⟩) Lu cu] 23 (0, 0)), (gv, .cells (V1.map (Value.int .u32) ++ tlv).toArray 93 (0, 0)), (gu, .cells (U'.map (Value.int .u32) ++ tlu).toArray 93 (0, 0))] []) (fun _ _ k _ => n - (intOf k).toNat)
    case atStart => exact ⟨0, 0, 0, U, rfl, rfl, rfl, MS0, KF, hS⟩
    case round =>
      clear KF hS MS0 c9
      obtain ⟨k, cy, bw, U', rfl, rfl, rfl, hMS, KF, hS⟩ := hrel
      obtain ⟨acy, abw, hl', hok', hkl⟩ := hMS.bounds
      have c7 : wr.cell? ⟨g7, 0, none⟩ = some (.slice (some ⟨gu, 0, none⟩) Lu cu) := hS.sit.cell m5 0
      have c8 : wr.cell? ⟨g8, 0, none⟩ = some (.slice (some ⟨gv, 0, none⟩) n cv) := hS.sit.cell m4 0
      have c9 : wr.cell? ⟨g9, 0, none⟩ = some (.int .i64 (n : Int)) := hS.sit.cell m3 0
      by_cases hk : k < n
      · obtain ⟨vv, hvv⟩ : ∃ vv, V.getD k 0 = vv := ⟨_, rfl⟩
        obtain ⟨ki, hki⟩ : ∃ ki, k + i = ki := ⟨_, rfl⟩
        obtain ⟨uu, huu⟩ : ∃ uu, U'.getD ki 0 = uu := ⟨_, rfl⟩
        have avv := HVe.out.2.2.getD (by decide) k
        rw [hvv] at avv
        have auu := hok'.getD (by decide) ki
        rw [huu] at auu
        obtain ⟨Y, hY⟩ : ∃ Y, G * vv = Y := ⟨_, rfl⟩
        obtain ⟨pp, hpp⟩ : ∃ pp, Y + cy = pp := ⟨_, rfl⟩
        obtain ⟨pm, hpm⟩ : ∃ pm, pp % 4294967296 = pm := ⟨_, rfl⟩
        obtain ⟨cy2, hcy2⟩ : ∃ cy2, pp / 4294967296 = cy2 := ⟨_, rfl⟩
        obtain ⟨d, hd⟩ : ∃ d, (uu - pm - bw) % 4294967296 = d := ⟨_, rfl⟩
        obtain ⟨b2, hb2⟩ : ∃ b2, (if uu < pm + bw then (1 : Int) else 0) = b2 := ⟨_, rfl⟩
        obtain ⟨r1, r2, r3, r4, r5, apm⟩ := round_mul HG.out.1 HG.out.2.1 avv acy.1 acy.2 hY hpp hpm
        obtain ⟨d0, d1, b0, b1', hdd⟩ := sub_fact auu apm abw hd hb2
        have xki := idx_add hki (Nat.le_trans (Nat.le_of_lt hk) hn) HIi.out
        have hkU : ki < U'.length := by rw [hl', HLn.out.2.2]; exact idx_lt hki hk hi HLn.out.1
        have hkLu : ki < Lu := by rw [← HLn.out.2.2, ← hl']; exact hkU
        have T := Aside0.mk (hMS.step (v := vv) (u := uu) (d := d) (b := b2) (by rw [HVe.out.2.1]; exact hk) (by rw [hki]; exact hkU) hvv (by rw [hki]; exact huu) HG.out.1 HG.out.2.1 avv.1 avv.2 d0 d1 b0 b1' (by rw [hY, hpp, hpm]; exact hdd))
        rw [hki, hY, hpp, hcy2] at T
        have kv : wr.cell? ⟨gv, k, none⟩ = some (.int .u32 vv) := (hS.sit.cell m6 k).trans ((cell_app (l := V1) (by rw [HNN.out.1]; exact idx_n1 hk HNN.out.2)).trans (by rw [← hvv, ← HVe.out.1, take_getD hk]))
        have ku : wr.cell? ⟨gu, ki, none⟩ = some (.int .u32 uu) := (hS.sit.cell m7 ki).trans ((cell_app (l := U') (hkU)).trans (by rw [huu]))
        have zu := hS.sit.frozen (g := gu) m7 ki
        have HD := Aside0.mk hd
        have HB2 := Aside0.mk hb2
        have AUU := Aside0.mk auu
        have APM := Aside0.mk apm
        have ABW := Aside0.mk abw
        have HKU := Aside0.mk hkU
        clear hvv huu avv auu hY hpp hpm hd hb2 d0 d1 b0 b1' hdd hMS hki hl' hok' hkl acy abw apm hkU
        gi_wp2
        refine startR (m := 20) (S := fun w' => w'.cell? ⟨g7, 0, none⟩ = some (.slice (some ⟨gu, 0, none⟩) Lu cu) ∧ w'.cell? ⟨gu, ki, none⟩ = some (.int .u32 uu)) (ds := [18]) #[false, false, false, false, false, false, false, false, false, false, false, false, false, false, false, false, false, false, false, false] (by kernel_rfl) rfl rfl (by kernel_rfl) (fun _ _ h => h) ⟨c7, ku⟩ (fun hQ => ?_)
        refine pure_ (i := 1) (N := some 136) (v := ?_) (a' := ?_) (bm 20 2) rfl rfl (by kernel_rfl) (fun _ _ _ h => h) (Or.inl ⟨by rfl, ?_⟩) ?_ ?_
        rotate_left
        · intro w'
          go_simp
          with_reducible rfl
        rotate_left
        · simp only [Act.put, List.setIfInBounds_toArray, List.set_cons_zero, List.set_cons_succ, i64_w, i32_w]
          rfl
        refine pure_ (i := 2) (N := some 137) (v := ?_) (a' := ?_) (bm 20 6) rfl rfl (by kernel_rfl) (fun _ _ _ h => h) (Or.inl ⟨by rfl, ?_⟩) ?_ ?_
        rotate_left
        · intro w'
          go_simp
          with_reducible rfl
        rotate_left
        · simp only [Act.put, List.setIfInBounds_toArray, List.set_cons_zero, List.set_cons_succ, i64_w, i32_w]
          rfl
        refine pure_ (i := 3) (N := some 138) (v := ?_) (a' := ?_) (bm 20 14) rfl rfl (by kernel_rfl) (fun _ _ _ h => h) (Or.inl ⟨by rfl, ?_⟩) ?_ ?_
        rotate_left
        · intro w'
          go_simp
          with_reducible rfl
        rotate_left
        · simp only [Act.put, List.setIfInBounds_toArray, List.set_cons_zero, List.set_cons_succ, i64_w, i32_w]
          rfl
        refine pure_ (i := 5) (N := some 140) (v := ?_) (a' := ?_) (bm 20 46) rfl rfl (by kernel_rfl) (fun _ _ _ h => h) (Or.inl ⟨by rfl, ?_⟩) ?_ ?_
        rotate_left
        · intro w'
          go_simp
          with_reducible rfl
        rotate_left
        · simp only [Act.put, List.setIfInBounds_toArray, List.set_cons_zero, List.set_cons_succ, i64_w, i32_w]
          rfl
        refine pure_ (i := 6) (N := some 141) (v := ?_) (a' := ?_) (bm 20 110) rfl rfl (by kernel_rfl) (fun _ _ _ h => h) (Or.inl ⟨by rfl, ?_⟩) ?_ ?_
        rotate_left
        · intro w'
          go_simp
          with_reducible rfl
        rotate_left
        · simp only [Act.put, List.setIfInBounds_toArray, List.set_cons_zero, List.set_cons_succ, i64_w, i32_w]
          rfl
        refine pure_ (i := 7) (N := some 142) (v := ?_) (a' := ?_) (bm 20 238) rfl rfl (by kernel_rfl) (fun _ _ _ h => h) (Or.inl ⟨by rfl, ?_⟩) ?_ ?_
        rotate_left
        · intro w'
          go_simp
          with_reducible rfl
        rotate_left
        · simp only [Act.put, List.setIfInBounds_toArray, List.set_cons_zero, List.set_cons_succ, i64_w, i32_w]
          rfl
        refine pure_ (i := 10) (N := some 145) (v := ?_) (a' := ?_) (bm 20 1262) rfl rfl (by kernel_rfl) (fun _ _ _ h => h) (Or.inl ⟨by rfl, ?_⟩) ?_ ?_
        rotate_left
        · intro w'
          go_simp
          with_reducible rfl
        rotate_left
        · simp only [Act.put, List.setIfInBounds_toArray, List.set_cons_zero, List.set_cons_succ, i64_w, i32_w]
          rfl
        refine pure_ (i := 11) (N := some 146) (v := ?_) (a' := ?_) (bm 20 3310) rfl rfl (by kernel_rfl) (fun _ _ _ h => h) (Or.inl ⟨by rfl, ?_⟩) ?_ ?_
        rotate_left
        · intro w'
          go_simp
          with_reducible rfl
        rotate_left
        · simp only [Act.put, List.setIfInBounds_toArray, List.set_cons_zero, List.set_cons_succ, i64_w, i32_w]
          rfl
        refine pure_ (i := 12) (N := some 147) (v := ?_) (a' := ?_) (bm 20 7406) rfl rfl (by kernel_rfl) (fun _ _ _ h => h) (Or.inl ⟨by rfl, ?_⟩) ?_ ?_
        rotate_left
        · intro w'
          go_simp
          with_reducible rfl
        rotate_left
        · simp only [Act.put, List.setIfInBounds_toArray, List.set_cons_zero, List.set_cons_succ, i64_w, i32_w]
          rfl
        refine take_ (i := 0) (N := some 135) (v := ?_) (a' := ?_) (bm 20 7407) rfl rfl (by kernel_rfl) (fun _ _ _ h => h) (Or.inl ⟨by rfl, ?_⟩) hQ ?_ ?_
        rotate_left
        · rintro w' ⟨s0, s1⟩
          go_simp
          with_reducible rfl
        rotate_left
        · simp only [Act.put, List.setIfInBounds_toArray, List.set_cons_zero, List.set_cons_succ, i64_w, i32_w]
          rfl
        refine take_ (i := 4) (N := some 139) (v := ?_) (a' := ?_) (bm 20 7423) rfl rfl (by kernel_rfl) (fun _ _ _ h => h) (Or.inl ⟨by rfl, ?_⟩) hQ ?_ ?_
        rotate_left
        · rintro w' ⟨s0, s1⟩
          go_simp
          with_reducible rfl
        rotate_left
        · simp only [Act.put, List.setIfInBounds_toArray, List.set_cons_zero, List.set_cons_succ, i64_w, i32_w]
          rfl
        refine pure_ (i := 8) (N := some 143) (v := ?_) (a' := ?_) (bm 20 7679) rfl rfl (by kernel_rfl) (fun _ _ _ h => h) (Or.inl ⟨by rfl, ?_⟩) ?_ ?_
        rotate_left
        · intro w'
          go_simp
          with_reducible rfl
        rotate_left
        · simp only [Act.put, List.setIfInBounds_toArray, List.set_cons_zero, List.set_cons_succ, i64_w, i32_w]
          rfl
        refine take_ (i := 9) (N := some 144) (v := ?_) (a' := ?_) (bm 20 8191) rfl rfl (by kernel_rfl) (fun _ _ _ h => h) (Or.inl ⟨by rfl, ?_⟩) hQ ?_ ?_
        rotate_left
        · rintro w' ⟨s0, s1⟩
          go_simp
          with_reducible rfl
        rotate_left
        · simp only [Act.put, List.setIfInBounds_toArray, List.set_cons_zero, List.set_cons_succ, i64_w, i32_w]
          rfl
        refine one_ (i := 13) (N := some 148) (bm 20 16383) rfl rfl (by kernel_rfl) (by decide) (fun K hK => ?_)
        refine goes_ Try.func99 (by kernel_rfl) rfl #[.int .u32 uu, .int .u32 pm, .int .u32 bw] (by rfl) rfl rfl (by simp only [List.map_toArray, List.map_cons, List.map_nil]; try rfl) ?_
        with_reducible refine (SubB _ AUU.out APM.out ABW.out HD.out HB2.out).mono ?_
        rintro e w3 ⟨rfl, rfl⟩
        refine ⟨_, rfl, ?_⟩
        refine hK.out _ _ ⟨c7, ku⟩ (fun hQ => ?_)
        clear hK K
        refine norm_ (a' := ?_) ?_ ?_
        rotate_left
        · show Act.put _ (some 148) _ = _
          simp only [Act.put, List.setIfInBounds_toArray, List.set_cons_zero, List.set_cons_succ, i64_w, i32_w]
          rfl
        refine pure_ (i := 14) (N := some 134) (v := ?_) (a' := ?_) (bm 20 32767) rfl rfl (by kernel_rfl) (fun _ _ _ h => h) (Or.inl ⟨by rfl, ?_⟩) ?_ ?_
        rotate_left
        · intro w'
          go_simp
          with_reducible rfl
        rotate_left
        · simp only [Act.put, List.setIfInBounds_toArray, List.set_cons_zero, List.set_cons_succ, i64_w, i32_w]
          rfl
        refine pure_ (i := 15) (N := some 149) (v := ?_) (a' := ?_) (bm 20 65535) rfl rfl (by kernel_rfl) (fun _ _ _ h => h) (Or.inl ⟨by rfl, ?_⟩) ?_ ?_
        rotate_left
        · intro w'
          go_simp
          with_reducible rfl
        rotate_left
        · simp only [Act.put, List.setIfInBounds_toArray, List.set_cons_zero, List.set_cons_succ, i64_w, i32_w]
          rfl
        refine pure_ (i := 16) (N := some 150) (v := ?_) (a' := ?_) (bm 20 131071) rfl rfl (by kernel_rfl) (fun _ _ _ h => h) (Or.inl ⟨by rfl, ?_⟩) ?_ ?_
        rotate_left
        · intro w'
          go_simp
          with_reducible rfl
        rotate_left
        · simp only [Act.put, List.setIfInBounds_toArray, List.set_cons_zero, List.set_cons_succ, i64_w, i32_w]
          rfl
        refine pure_ (i := 17) (N := some 151) (v := ?_) (a' := ?_) (bm 20 262143) rfl rfl (by kernel_rfl) (fun _ _ _ h => h) (Or.inl ⟨by rfl, ?_⟩) ?_ ?_
        rotate_left
        · intro w'
          go_simp
          with_reducible rfl
        rotate_left
        · simp only [Act.put, List.setIfInBounds_toArray, List.set_cons_zero, List.set_cons_succ, i64_w, i32_w]
          rfl
        refine last_ (i := 18) (N := none) (bm 20 524287) rfl rfl (by kernel_rfl) (by decide) (fun K hK => ?_)
        refine skip_ (w1 := ?_) (by rfl) rfl ?_ ?_
        rotate_left
        · go_simp
          rfl
        refine hK.out _ _ ?_
        clear hK K
        refine pure_ (i := 19) (N := some 16) (v := ?_) (a' := ?_) (bm 20 1048575) rfl rfl (by kernel_rfl) (fun _ _ _ h => h) (Or.inl ⟨by rfl, ?_⟩) ?_ ?_
        rotate_left
        · intro w'
          go_simp
          with_reducible rfl
        rotate_left
        · simp only [Act.put, List.setIfInBounds_toArray, List.set_cons_zero, List.set_cons_succ, i64_w, i32_w]
          rfl
        refine done_ (by kernel_rfl) ?_
        clear c7 c8 c9 kv ku zu hQ
        replace KF := kf_drew (kf_set KF ⟨gu, ki, none⟩ (.int .u32 d))
        replace hS := (hS.setn [_, _, _, _, _, _, _] ki (.int .u32 d) (set_app (l := U') (HKU.out))).drew
        generalize (wr.setCell ⟨gu, ki, none⟩ (.int .u32 d)).drew = W5 at hS KF ⊢
        gi_wp2
        go_roundw
        case rel => first | exact ⟨_, T.out, KF, hS⟩ | exact ⟨k + 1, cy2, b2, _, by go_num, rfl, rfl, T.out, KF, hS⟩
        case measure => first | exact idx_meas hk | exact idx_meas2 hk | (simp only [intOf]; first | exact idx_meas hk | exact idx_meas2 hk)
      · have ek : k = n := idx_eq hk (by rw [← HVe.out.2.1]; exact hkl)
        subst ek
        obtain ⟨uu, huu⟩ : ∃ uu, U'.getD jn 0 = uu := ⟨_, rfl⟩
        have auu := hok'.getD (by decide) jn
        rw [huu] at auu
        obtain ⟨d, hd⟩ : ∃ d, (uu - cy - bw) % 4294967296 = d := ⟨_, rfl⟩
        obtain ⟨b2, hb2⟩ : ∃ b2, (if uu < cy + bw then (1 : Int) else 0) = b2 := ⟨_, rfl⟩
        obtain ⟨d0, d1, b0, b1', hdd⟩ := sub_fact auu acy abw hd hb2
        have hjU : jn < U'.length := by rw [hl', HLn.out.2.2]; exact idx_n HJ.out hi HLn.out.1
        have hMS' := hMS
        rw [← HVe.out.2.1] at hMS'
        have HT := MS.last (u := uu) (d := d) (b := b2) hMS' (by rw [HVe.out.2.1, HJ.out]; exact hjU) (by rw [HVe.out.2.1, HJ.out]; exact huu) d0 d1 hdd
        rw [HVe.out.2.1, HJ.out] at HT
        have T := Aside0.mk HT
        have wcy : IntKind.u32.wrap cy = cy := u32_id' acy
        have ku : wr.cell? ⟨gu, jn, none⟩ = some (.int .u32 uu) := (hS.sit.cell m7 jn).trans ((cell_app (l := U') (hjU)).trans (by rw [huu]))
        have zu := hS.sit.frozen (g := gu) m7 jn
        have HD := Aside0.mk hd
        have HB2 := Aside0.mk hb2
        have AUU := Aside0.mk auu
        have ACY := Aside0.mk acy
        have ABW := Aside0.mk abw
        have HJU := Aside0.mk hjU
        have HL' := Aside0.mk hl'
        clear huu auu hd hb2 d0 d1 hdd hMS hMS' HT hl' hok' hkl acy abw hjU
        have BB2 := Aside0.mk (And.intro b0 b1')
        clear b0 b1'
        gi_wp2
        refine startR (m := 20) (S := fun w' => w'.cell? ⟨g7, 0, none⟩ = some (.slice (some ⟨gu, 0, none⟩) Lu cu) ∧ w'.cell? ⟨g9, 0, none⟩ = some (.int .i64 (k : Int)) ∧ w'.cell? ⟨gu, jn, none⟩ = some (.int .u32 uu)) (ds := [18]) #[false, false, false, false, false, false, false, false, false, false, false, false, false, false, false, false, false, false, false, false] (by kernel_rfl) rfl rfl (by kernel_rfl) (fun _ _ h => h) ⟨c7, c9, ku⟩ (fun hQ => ?_)
        refine pure_ (i := 1) (N := some 155) (v := ?_) (a' := ?_) (bm 20 2) rfl rfl (by kernel_rfl) (fun _ _ _ h => h) (Or.inl ⟨by rfl, ?_⟩) ?_ ?_
        rotate_left
        · intro w'
          go_simp
          with_reducible rfl
        rotate_left
        · simp only [Act.put, List.setIfInBounds_toArray, List.set_cons_zero, List.set_cons_succ, i64_w, i32_w]
          rfl
        refine pure_ (i := 5) (N := some 159) (v := ?_) (a' := ?_) (bm 20 34) rfl rfl (by kernel_rfl) (fun _ _ _ h => h) (Or.inl ⟨by rfl, ?_⟩) ?_ ?_
        rotate_left
        · intro w'
          go_simp
          with_reducible rfl
        rotate_left
        · simp only [Act.put, List.setIfInBounds_toArray, List.set_cons_zero, List.set_cons_succ, i64_w, i32_w]
          rfl
        refine pure_ (i := 10) (N := some 164) (v := ?_) (a' := ?_) (bm 20 1058) rfl rfl (by kernel_rfl) (fun _ _ _ h => h) (Or.inl ⟨by rfl, ?_⟩) ?_ ?_
        rotate_left
        · intro w'
          go_simp
          with_reducible rfl
        rotate_left
        · simp only [Act.put, List.setIfInBounds_toArray, List.set_cons_zero, List.set_cons_succ, i64_w, i32_w]
          rfl
        refine pure_ (i := 11) (N := some 165) (v := ?_) (a' := ?_) (bm 20 3106) rfl rfl (by kernel_rfl) (fun _ _ _ h => h) (Or.inl ⟨by rfl, ?_⟩) ?_ ?_
        rotate_left
        · intro w'
          go_simp
          with_reducible rfl
        rotate_left
        · simp only [Act.put, List.setIfInBounds_toArray, List.set_cons_zero, List.set_cons_succ, i64_w, i32_w]
          rfl
        refine pure_ (i := 12) (N := some 166) (v := ?_) (a' := ?_) (bm 20 7202) rfl rfl (by kernel_rfl) (fun _ _ _ h => h) (Or.inl ⟨by rfl, ?_⟩) ?_ ?_
        rotate_left
        · intro w'
          go_simp
          with_reducible rfl
        rotate_left
        · simp only [Act.put, List.setIfInBounds_toArray, List.set_cons_zero, List.set_cons_succ, i64_w, i32_w]
          rfl
        refine take_ (i := 0) (N := some 154) (v := ?_) (a' := ?_) (bm 20 7203) rfl rfl (by kernel_rfl) (fun _ _ _ h => h) (Or.inl ⟨by rfl, ?_⟩) hQ ?_ ?_
        rotate_left
        · rintro w' ⟨s0, s1, s2⟩
          go_simp
          with_reducible rfl
        rotate_left
        · simp only [Act.put, List.setIfInBounds_toArray, List.set_cons_zero, List.set_cons_succ, i64_w, i32_w]
          rfl
        refine take_ (i := 2) (N := some 156) (v := ?_) (a' := ?_) (bm 20 7207) rfl rfl (by kernel_rfl) (fun _ _ _ h => h) (Or.inl ⟨by rfl, ?_⟩) hQ ?_ ?_
        rotate_left
        · rintro w' ⟨s0, s1, s2⟩
          go_simp
          with_reducible rfl
        rotate_left
        · simp only [Act.put, List.setIfInBounds_toArray, List.set_cons_zero, List.set_cons_succ, i64_w, i32_w]
          rfl
        refine pure_ (i := 3) (N := some 157) (v := ?_) (a' := ?_) (bm 20 7215) rfl rfl (by kernel_rfl) (fun _ _ _ h => h) (Or.inl ⟨by rfl, ?_⟩) ?_ ?_
        rotate_left
        · intro w'
          go_simp
          with_reducible rfl
        rotate_left
        · simp only [Act.put, List.setIfInBounds_toArray, List.set_cons_zero, List.set_cons_succ, i64_w, i32_w]
          rfl
        refine take_ (i := 4) (N := some 158) (v := ?_) (a' := ?_) (bm 20 7231) rfl rfl (by kernel_rfl) (fun _ _ _ h => h) (Or.inl ⟨by rfl, ?_⟩) hQ ?_ ?_
        rotate_left
        · rintro w' ⟨s0, s1, s2⟩
          go_simp
          with_reducible rfl
        rotate_left
        · simp only [Act.put, List.setIfInBounds_toArray, List.set_cons_zero, List.set_cons_succ, i64_w, i32_w]
          rfl
        refine take_ (i := 6) (N := some 160) (v := ?_) (a' := ?_) (bm 20 7295) rfl rfl (by kernel_rfl) (fun _ _ _ h => h) (Or.inl ⟨by rfl, ?_⟩) hQ ?_ ?_
        rotate_left
        · rintro w' ⟨s0, s1, s2⟩
          go_simp
          with_reducible rfl
        rotate_left
        · simp only [Act.put, List.setIfInBounds_toArray, List.set_cons_zero, List.set_cons_succ, i64_w, i32_w]
          rfl
        refine pure_ (i := 7) (N := some 161) (v := ?_) (a' := ?_) (bm 20 7423) rfl rfl (by kernel_rfl) (fun _ _ _ h => h) (Or.inl ⟨by rfl, ?_⟩) ?_ ?_
        rotate_left
        · intro w'
          go_simp
          with_reducible rfl
        rotate_left
        · simp only [Act.put, List.setIfInBounds_toArray, List.set_cons_zero, List.set_cons_succ, i64_w, i32_w]
          rfl
        refine pure_ (i := 8) (N := some 162) (v := ?_) (a' := ?_) (bm 20 7679) rfl rfl (by kernel_rfl) (fun _ _ _ h => h) (Or.inl ⟨by rfl, ?_⟩) ?_ ?_
        rotate_left
        · intro w'
          go_simp
          with_reducible rfl
        rotate_left
        · simp only [Act.put, List.setIfInBounds_toArray, List.set_cons_zero, List.set_cons_succ, i64_w, i32_w]
          rfl
        refine take_ (i := 9) (N := some 163) (v := ?_) (a' := ?_) (bm 20 8191) rfl rfl (by kernel_rfl) (fun _ _ _ h => h) (Or.inl ⟨by rfl, ?_⟩) hQ ?_ ?_
        rotate_left
        · rintro w' ⟨s0, s1, s2⟩
          go_simp
          with_reducible rfl
        rotate_left
        · simp only [Act.put, List.setIfInBounds_toArray, List.set_cons_zero, List.set_cons_succ, i64_w, i32_w]
          rfl
        refine one_ (i := 13) (N := some 167) (bm 20 16383) rfl rfl (by kernel_rfl) (by decide) (fun K hK => ?_)
        refine goes_ Try.func99 (by kernel_rfl) rfl #[.int .u32 uu, .int .u32 cy, .int .u32 bw] (by rfl) rfl rfl (by simp only [List.map_toArray, List.map_cons, List.map_nil]; try rfl) ?_
        with_reducible refine (SubB _ AUU.out ACY.out ABW.out HD.out HB2.out).mono ?_
        rintro e w3 ⟨rfl, rfl⟩
        refine ⟨_, rfl, ?_⟩
        refine hK.out _ _ ⟨c7, c9, ku⟩ (fun hQ => ?_)
        clear hK K
        refine norm_ (a' := ?_) ?_ ?_
        rotate_left
        · show Act.put _ (some 167) _ = _
          simp only [Act.put, List.setIfInBounds_toArray, List.set_cons_zero, List.set_cons_succ, i64_w, i32_w]
          rfl
        refine pure_ (i := 14) (N := some 153) (v := ?_) (a' := ?_) (bm 20 32767) rfl rfl (by kernel_rfl) (fun _ _ _ h => h) (Or.inl ⟨by rfl, ?_⟩) ?_ ?_
        rotate_left
        · intro w'
          go_simp
          with_reducible rfl
        rotate_left
        · simp only [Act.put, List.setIfInBounds_toArray, List.set_cons_zero, List.set_cons_succ, i64_w, i32_w]
          rfl
        refine pure_ (i := 15) (N := some 168) (v := ?_) (a' := ?_) (bm 20 65535) rfl rfl (by kernel_rfl) (fun _ _ _ h => h) (Or.inl ⟨by rfl, ?_⟩) ?_ ?_
        rotate_left
        · intro w'
          go_simp
          with_reducible rfl
        rotate_left
        · simp only [Act.put, List.setIfInBounds_toArray, List.set_cons_zero, List.set_cons_succ, i64_w, i32_w]
          rfl
        refine pure_ (i := 16) (N := some 169) (v := ?_) (a' := ?_) (bm 20 131071) rfl rfl (by kernel_rfl) (fun _ _ _ h => h) (Or.inl ⟨by rfl, ?_⟩) ?_ ?_
        rotate_left
        · intro w'
          go_simp
          with_reducible rfl
        rotate_left
        · simp only [Act.put, List.setIfInBounds_toArray, List.set_cons_zero, List.set_cons_succ, i64_w, i32_w]
          rfl
        refine pure_ (i := 17) (N := some 170) (v := ?_) (a' := ?_) (bm 20 262143) rfl rfl (by kernel_rfl) (fun _ _ _ h => h) (Or.inl ⟨by rfl, ?_⟩) ?_ ?_
        rotate_left
        · intro w'
          go_simp
          with_reducible rfl
        rotate_left
        · simp only [Act.put, List.setIfInBounds_toArray, List.set_cons_zero, List.set_cons_succ, i64_w, i32_w]
          rfl
        refine last_ (i := 18) (N := none) (bm 20 524287) rfl rfl (by kernel_rfl) (by decide) (fun K hK => ?_)
        refine skip_ (w1 := ?_) (by rfl) rfl ?_ ?_
        rotate_left
        · go_simp
          rfl
        refine hK.out _ _ ?_
        clear hK K
        refine pure_ (i := 19) (N := some 16) (v := ?_) (a' := ?_) (bm 20 1048575) rfl rfl (by kernel_rfl) (fun _ _ _ h => h) (Or.inl ⟨by rfl, ?_⟩) ?_ ?_
        rotate_left
        · intro w'
          go_simp
          with_reducible rfl
        rotate_left
        · simp only [Act.put, List.setIfInBounds_toArray, List.set_cons_zero, List.set_cons_succ, i64_w, i32_w]
          rfl
        refine done_ (by kernel_rfl) ?_
        clear c7 c8 c9 ku zu hQ
        replace KF := kf_drew (kf_set KF ⟨gu, jn, none⟩ (.int .u32 d))
        replace hS := (hS.setn [_, _, _, _, _, _, _] jn (.int .u32 d) (set_app (l := U') (HJU.out))).drew
        obtain ⟨U1, hU1⟩ : ∃ U1, U'.set jn d = U1 := ⟨_, rfl⟩
        rw [hU1] at hS T
        have HL1 := Aside0.mk (show U1.length = Lu by rw [← hU1, List.length_set, HL'.out]; exact HLn.out.2.2)
        clear hU1
        generalize (wr.setCell ⟨gu, jn, none⟩ (.int .u32 d)).drew = W8 at hS KF ⊢
        rcases b2_cases BB2.out.1 BB2.out.2 with rfl | rfl
        · have hfit : IntKind.u32.wrap G = G := u32_id' ⟨HG.out.1, HG.out.2.1⟩
          have FIN := Aside0.mk (LI.fit (out := O) (U1 := U1) (g := G) HLI.out HGH.out.pos.1 (by rw [HWJ.out]; exact HG.out.2.2.1) HG.out.1 HG.out.2.1 T.out.1 T.out.2.1 (by have := T.out.2.2.1; rw [Int.mul_zero, Int.add_zero] at this; exact this))
          have c10 : W8.cell? ⟨g10, 0, none⟩ = some (.slice (some ⟨go, 0, none⟩) L L) := hS.sit.cell m1 0
          have co : W8.cell? ⟨go, i, none⟩ = some (.int .u32 (O.getD i 0)) := (hS.sit.cell m2 i).trans (by rw [List.getElem?_toArray, List.getElem?_map, List.getElem?_eq_getElem (HOi.out)]; simp [List.getD, HOi.out])
          have zo := hS.sit.frozen (g := go) m2 i
          gi_wp2
          refine ⟨kf_set KF _ _, O.set i G, U1, FIN.out, by rw [List.length_set]; exact HLn.out.2.1, HL1.out, hS.setn [_, _] i (.int .u32 G) (by rw [List.setIfInBounds_toArray, ← List.map_set])⟩
        · have eJ : i + V.length = jn := by rw [HVe.out.2.1]; exact HJ.out
          have T2 := T.out
          rw [← eJ] at T2
          have g1 : 1 ≤ G := LI.pos HLI.out HVe.out.2.2 HG.out.1 T2.2.1 T2.2.2.2 (by have := T2.2.2.1; rw [Int.mul_one] at this; exact this)
          obtain ⟨s1, s2⟩ := sub_one_fits g1 HG.out.2.1
          have AB0 := AB.start (V := V) (j := i) T2.2.1
          have HT2 := Aside0.mk T2
          have HG1 := Aside0.mk g1
          have HeJ := Aside0.mk eJ
          clear T2 g1 eJ T
          have c9 : W8.cell? ⟨g9, 0, none⟩ = some (.int .i64 (k : Int)) := hS.sit.cell m3 0
          gi_wp2
          gi_loopw [19, 176] (fun c kq wr => ∃ (k' : Nat) (c' : Int) (U' : List Int), kq = .int .i64 k' ∧ c = .int .u32 c' ∧ AB U1 V U' i k' c' ∧ KeepsFrom s0 W wr ∧ LS s0 w wr ok [(gb, .cells #[.slice (some ⟨go, 0, none⟩) L L] 23 (0, 0)), (g10, .cells #[.slice (some ⟨go, 0, none⟩) L L] 23 (0, 0)), (go, .cells (O.map (Value.int .u32)).toArray 93 (0, 0)), (g9, .cells #[.int .i64 (k : Int)] 3 (0, 0)), (g8, .cells #[.slice (some ⟨gv, 0, none⟩) k cv] 23 (0, 0)), (g7, .cells #[.slice (some ⟨gu, 0, none⟩) Lu cu] 23 (0, 0)), (gv, .cells (V1.map (Value.int .u32) ++ tlv).toArray 93 (0, 0)), (gu, .cells (U'.map (Value.int .u32) ++ tlu).toArray 93 (0, 0))] []) (fun _ kx _ => k - (intOf kx).toNat)
          case atStart => exact ⟨0, 0, U1, rfl, rfl, AB0, KF, hS⟩
          case round =>
            clear KF hS AB0 c9
            obtain ⟨kk, cc, U2, rfl, rfl, hAB, KF, hS⟩ := hrel
            obtain ⟨acc, hl', hok', hkl⟩ := hAB.bounds
            have c7 : wr.cell? ⟨g7, 0, none⟩ = some (.slice (some ⟨gu, 0, none⟩) Lu cu) := hS.sit.cell m5 0
            have c8 : wr.cell? ⟨g8, 0, none⟩ = some (.slice (some ⟨gv, 0, none⟩) k cv) := hS.sit.cell m4 0
            have c9 : wr.cell? ⟨g9, 0, none⟩ = some (.int .i64 (k : Int)) := hS.sit.cell m3 0
            by_cases hk2 : kk < k
            · obtain ⟨vv, hvv⟩ : ∃ vv, V.getD kk 0 = vv := ⟨_, rfl⟩
              obtain ⟨ki, hki⟩ : ∃ ki, kk + i = ki := ⟨_, rfl⟩
              obtain ⟨uu, huu⟩ : ∃ uu, U2.getD ki 0 = uu := ⟨_, rfl⟩
              have avv := HVe.out.2.2.getD (by decide) kk
              rw [hvv] at avv
              have auu := hok'.getD (by decide) ki
              rw [huu] at auu
              obtain ⟨d, hd⟩ : ∃ d, (uu + vv + cc) % 4294967296 = d := ⟨_, rfl⟩
              obtain ⟨b3, hb3⟩ : ∃ b3, (uu + vv + cc) / 4294967296 = b3 := ⟨_, rfl⟩
              obtain ⟨d0, d1, b0, b1', hdd⟩ := add_fact auu avv acc hd hb3
              have xki := idx_add hki (Nat.le_trans (Nat.le_of_lt hk2) hn) HIi.out
              have hkU : ki < U2.length := by rw [hl', HL1.out]; exact idx_lt hki hk2 hi HLn.out.1
              have hkLu : ki < Lu := by rw [← HL1.out, ← hl']; exact hkU
              have T := Aside0.mk (hAB.step (v := vv) (u := uu) (d := d) (b := b3) (by rw [HVe.out.2.1]; exact hk2) (by rw [hki]; exact hkU) hvv (by rw [hki]; exact huu) d0 d1 b0 b1' hdd)
              rw [hki] at T
              have kv : wr.cell? ⟨gv, kk, none⟩ = some (.int .u32 vv) := (hS.sit.cell m6 kk).trans ((cell_app (l := V1) (by rw [HNN.out.1]; exact idx_n1 hk2 HNN.out.2)).trans (by rw [← hvv, ← HVe.out.1, take_getD hk2]))
              have ku : wr.cell? ⟨gu, ki, none⟩ = some (.int .u32 uu) := (hS.sit.cell m7 ki).trans ((cell_app (l := U2) (hkU)).trans (by rw [huu]))
              have zu := hS.sit.frozen (g := gu) m7 ki
              have HD := Aside0.mk hd
              have HB3 := Aside0.mk hb3
              have AUU := Aside0.mk auu
              have AVV := Aside0.mk avv
              have ACC := Aside0.mk acc
              have HKU := Aside0.mk hkU
              clear hvv huu avv auu hd hb3 d0 d1 b0 b1' hdd hAB hki hl' hok' hkl acc hkU
              gi_wp2
              refine startR (m := 22) (S := fun w' => w'.cell? ⟨g7, 0, none⟩ = some (.slice (some ⟨gu, 0, none⟩) Lu cu) ∧ w'.cell? ⟨g8, 0, none⟩ = some (.slice (some ⟨gv, 0, none⟩) k cv) ∧ w'.cell? ⟨gu, ki, none⟩ = some (.int .u32 uu) ∧ w'.cell? ⟨gv, kk, none⟩ = some (.int .u32 vv)) (ds := [20]) #[false, false, false, false, false, false, false, false, false, false, false, false, false, false, false, false, false, false, false, false, false, false] (by kernel_rfl) rfl rfl (by kernel_rfl) (fun _ _ h => h) ⟨c7, c8, ku, kv⟩ (fun hQ => ?_)
              refine pure_ (i := 1) (N := some 181) (v := ?_) (a' := ?_) (bm 22 2) rfl rfl (by kernel_rfl) (fun _ _ _ h => h) (Or.inl ⟨by rfl, ?_⟩) ?_ ?_
              rotate_left
              · intro w'
                go_simp
                with_reducible rfl
              rotate_left
              · simp only [Act.put, List.setIfInBounds_toArray, List.set_cons_zero, List.set_cons_succ, i64_w, i32_w]
                rfl
              refine pure_ (i := 2) (N := some 182) (v := ?_) (a' := ?_) (bm 22 6) rfl rfl (by kernel_rfl) (fun _ _ _ h => h) (Or.inl ⟨by rfl, ?_⟩) ?_ ?_
              rotate_left
              · intro w'
                go_simp
                with_reducible rfl
              rotate_left
              · simp only [Act.put, List.setIfInBounds_toArray, List.set_cons_zero, List.set_cons_succ, i64_w, i32_w]
                rfl
              refine pure_ (i := 3) (N := some 183) (v := ?_) (a' := ?_) (bm 22 14) rfl rfl (by kernel_rfl) (fun _ _ _ h => h) (Or.inl ⟨by rfl, ?_⟩) ?_ ?_
              rotate_left
              · intro w'
                go_simp
                with_reducible rfl
              rotate_left
              · simp only [Act.put, List.setIfInBounds_toArray, List.set_cons_zero, List.set_cons_succ, i64_w, i32_w]
                rfl
              refine pure_ (i := 5) (N := some 185) (v := ?_) (a' := ?_) (bm 22 46) rfl rfl (by kernel_rfl) (fun _ _ _ h => h) (Or.inl ⟨by rfl, ?_⟩) ?_ ?_
              rotate_left
              · intro w'
                go_simp
                with_reducible rfl
              rotate_left
              · simp only [Act.put, List.setIfInBounds_toArray, List.set_cons_zero, List.set_cons_succ, i64_w, i32_w]
                rfl
              refine pure_ (i := 6) (N := some 186) (v := ?_) (a' := ?_) (bm 22 110) rfl rfl (by kernel_rfl) (fun _ _ _ h => h) (Or.inl ⟨by rfl, ?_⟩) ?_ ?_
              rotate_left
              · intro w'
                go_simp
                with_reducible rfl
              rotate_left
              · simp only [Act.put, List.setIfInBounds_toArray, List.set_cons_zero, List.set_cons_succ, i64_w, i32_w]
                rfl
              refine pure_ (i := 7) (N := some 187) (v := ?_) (a' := ?_) (bm 22 238) rfl rfl (by kernel_rfl) (fun _ _ _ h => h) (Or.inl ⟨by rfl, ?_⟩) ?_ ?_
              rotate_left
              · intro w'
                go_simp
                with_reducible rfl
              rotate_left
              · simp only [Act.put, List.setIfInBounds_toArray, List.set_cons_zero, List.set_cons_succ, i64_w, i32_w]
                rfl
              refine pure_ (i := 11) (N := some 191) (v := ?_) (a' := ?_) (bm 22 2286) rfl rfl (by kernel_rfl) (fun _ _ _ h => h) (Or.inl ⟨by rfl, ?_⟩) ?_ ?_
              rotate_left
              · intro w'
                go_simp
                with_reducible rfl
              rotate_left
              · simp only [Act.put, List.setIfInBounds_toArray, List.set_cons_zero, List.set_cons_succ, i64_w, i32_w]
                rfl
              refine pure_ (i := 14) (N := some 194) (v := ?_) (a' := ?_) (bm 22 18670) rfl rfl (by kernel_rfl) (fun _ _ _ h => h) (Or.inl ⟨by rfl, ?_⟩) ?_ ?_
              rotate_left
              · intro w'
                go_simp
                with_reducible rfl
              rotate_left
              · simp only [Act.put, List.setIfInBounds_toArray, List.set_cons_zero, List.set_cons_succ, i64_w, i32_w]
                rfl
              refine take_ (i := 0) (N := some 180) (v := ?_) (a' := ?_) (bm 22 18671) rfl rfl (by kernel_rfl) (fun _ _ _ h => h) (Or.inl ⟨by rfl, ?_⟩) hQ ?_ ?_
              rotate_left
              · rintro w' ⟨s0, s1, s2, s3⟩
                go_simp
                with_reducible rfl
              rotate_left
              · simp only [Act.put, List.setIfInBounds_toArray, List.set_cons_zero, List.set_cons_succ, i64_w, i32_w]
                rfl
              refine take_ (i := 4) (N := some 184) (v := ?_) (a' := ?_) (bm 22 18687) rfl rfl (by kernel_rfl) (fun _ _ _ h => h) (Or.inl ⟨by rfl, ?_⟩) hQ ?_ ?_
              rotate_left
              · rintro w' ⟨s0, s1, s2, s3⟩
                go_simp
                with_reducible rfl
              rotate_left
              · simp only [Act.put, List.setIfInBounds_toArray, List.set_cons_zero, List.set_cons_succ, i64_w, i32_w]
                rfl
              refine pure_ (i := 8) (N := some 188) (v := ?_) (a' := ?_) (bm 22 18943) rfl rfl (by kernel_rfl) (fun _ _ _ h => h) (Or.inl ⟨by rfl, ?_⟩) ?_ ?_
              rotate_left
              · intro w'
                go_simp
                with_reducible rfl
              rotate_left
              · simp only [Act.put, List.setIfInBounds_toArray, List.set_cons_zero, List.set_cons_succ, i64_w, i32_w]
                rfl
              refine take_ (i := 9) (N := some 189) (v := ?_) (a' := ?_) (bm 22 19455) rfl rfl (by kernel_rfl) (fun _ _ _ h => h) (Or.inl ⟨by rfl, ?_⟩) hQ ?_ ?_
              rotate_left
              · rintro w' ⟨s0, s1, s2, s3⟩
                go_simp
                with_reducible rfl
              rotate_left
              · simp only [Act.put, List.setIfInBounds_toArray, List.set_cons_zero, List.set_cons_succ, i64_w, i32_w]
                rfl
              refine take_ (i := 10) (N := some 190) (v := ?_) (a' := ?_) (bm 22 20479) rfl rfl (by kernel_rfl) (fun _ _ _ h => h) (Or.inl ⟨by rfl, ?_⟩) hQ ?_ ?_
              rotate_left
              · rintro w' ⟨s0, s1, s2, s3⟩
                go_simp
                with_reducible rfl
              rotate_left
              · simp only [Act.put, List.setIfInBounds_toArray, List.set_cons_zero, List.set_cons_succ, i64_w, i32_w]
                rfl
              refine pure_ (i := 12) (N := some 192) (v := ?_) (a' := ?_) (bm 22 24575) rfl rfl (by kernel_rfl) (fun _ _ _ h => h) (Or.inl ⟨by rfl, ?_⟩) ?_ ?_
              rotate_left
              · intro w'
                go_simp
                with_reducible rfl
              rotate_left
              · simp only [Act.put, List.setIfInBounds_toArray, List.set_cons_zero, List.set_cons_succ, i64_w, i32_w]
                rfl
              refine take_ (i := 13) (N := some 193) (v := ?_) (a' := ?_) (bm 22 32767) rfl rfl (by kernel_rfl) (fun _ _ _ h => h) (Or.inl ⟨by rfl, ?_⟩) hQ ?_ ?_
              rotate_left
              · rintro w' ⟨s0, s1, s2, s3⟩
                go_simp
                with_reducible rfl
              rotate_left
              · simp only [Act.put, List.setIfInBounds_toArray, List.set_cons_zero, List.set_cons_succ, i64_w, i32_w]
                rfl
              refine one_ (i := 15) (N := some 195) (bm 22 65535) rfl rfl (by kernel_rfl) (by decide) (fun K hK => ?_)
              refine goes_ Try.func102 (by kernel_rfl) rfl #[.int .u32 uu, .int .u32 vv, .int .u32 cc] (by rfl) rfl rfl (by simp only [List.map_toArray, List.map_cons, List.map_nil]; try rfl) ?_
              with_reducible refine (AddB _ AUU.out AVV.out ACC.out HD.out HB3.out).mono ?_
              rintro e w3 ⟨rfl, rfl⟩
              refine ⟨_, rfl, ?_⟩
              refine hK.out _ _ ⟨c7, c8, ku, kv⟩ (fun hQ => ?_)
              clear hK K
              refine norm_ (a' := ?_) ?_ ?_
              rotate_left
              · show Act.put _ (some 195) _ = _
                simp only [Act.put, List.setIfInBounds_toArray, List.set_cons_zero, List.set_cons_succ, i64_w, i32_w]
                rfl
              refine pure_ (i := 16) (N := some 179) (v := ?_) (a' := ?_) (bm 22 131071) rfl rfl (by kernel_rfl) (fun _ _ _ h => h) (Or.inl ⟨by rfl, ?_⟩) ?_ ?_
              rotate_left
              · intro w'
                go_simp
                with_reducible rfl
              rotate_left
              · simp only [Act.put, List.setIfInBounds_toArray, List.set_cons_zero, List.set_cons_succ, i64_w, i32_w]
                rfl
              refine pure_ (i := 17) (N := some 196) (v := ?_) (a' := ?_) (bm 22 262143) rfl rfl (by kernel_rfl) (fun _ _ _ h => h) (Or.inl ⟨by rfl, ?_⟩) ?_ ?_
              rotate_left
              · intro w'
                go_simp
                with_reducible rfl
              rotate_left
              · simp only [Act.put, List.setIfInBounds_toArray, List.set_cons_zero, List.set_cons_succ, i64_w, i32_w]
                rfl
              refine pure_ (i := 18) (N := some 197) (v := ?_) (a' := ?_) (bm 22 524287) rfl rfl (by kernel_rfl) (fun _ _ _ h => h) (Or.inl ⟨by rfl, ?_⟩) ?_ ?_
              rotate_left
              · intro w'
                go_simp
                with_reducible rfl
              rotate_left
              · simp only [Act.put, List.setIfInBounds_toArray, List.set_cons_zero, List.set_cons_succ, i64_w, i32_w]
                rfl
              refine pure_ (i := 19) (N := some 198) (v := ?_) (a' := ?_) (bm 22 1048575) rfl rfl (by kernel_rfl) (fun _ _ _ h => h) (Or.inl ⟨by rfl, ?_⟩) ?_ ?_
              rotate_left
              · intro w'
                go_simp
                with_reducible rfl
              rotate_left
              · simp only [Act.put, List.setIfInBounds_toArray, List.set_cons_zero, List.set_cons_succ, i64_w, i32_w]
                rfl
              refine last_ (i := 20) (N := none) (bm 22 2097151) rfl rfl (by kernel_rfl) (by decide) (fun K hK => ?_)
              refine skip_ (w1 := ?_) (by rfl) rfl ?_ ?_
              rotate_left
              · go_simp
                rfl
              refine hK.out _ _ ?_
              clear hK K
              refine pure_ (i := 21) (N := some 19) (v := ?_) (a' := ?_) (bm 22 4194303) rfl rfl (by kernel_rfl) (fun _ _ _ h => h) (Or.inl ⟨by rfl, ?_⟩) ?_ ?_
              rotate_left
              · intro w'
                go_simp
                with_reducible rfl
              rotate_left
              · simp only [Act.put, List.setIfInBounds_toArray, List.set_cons_zero, List.set_cons_succ, i64_w, i32_w]
                rfl
              refine done_ (by kernel_rfl) ?_
              clear c7 c8 c9 kv ku zu hQ
              replace KF := kf_drew (kf_set KF ⟨gu, ki, none⟩ (.int .u32 d))
              replace hS := (hS.setn [_, _, _, _, _, _, _] ki (.int .u32 d) (set_app (l := U2) (HKU.out))).drew
              generalize (wr.setCell ⟨gu, ki, none⟩ (.int .u32 d)).drew = W5 at hS KF ⊢
              gi_wp2
              go_roundw
              case rel => first | exact ⟨_, T.out, KF, hS⟩ | exact ⟨kk + 1, b3, _, by go_num, rfl, T.out, KF, hS⟩
              case measure => first | exact idx_meas hk2 | exact idx_meas2 hk2 | (simp only [intOf]; first | exact idx_meas hk2 | exact idx_meas2 hk2)
            · have ek : kk = k := idx_eq hk2 (by rw [← HVe.out.2.1]; exact hkl)
              subst ek
              obtain ⟨uu, huu⟩ : ∃ uu, U2.getD jn 0 = uu := ⟨_, rfl⟩
              have auu := hok'.getD (by decide) jn
              rw [huu] at auu
              obtain ⟨d, hd⟩ : ∃ d, (uu + cc) % 4294967296 = d := ⟨_, rfl⟩
              obtain ⟨b3, hb3⟩ : ∃ b3, (uu + cc) / 4294967296 = b3 := ⟨_, rfl⟩
              obtain ⟨wsum, d0, d1, b0, b1', hdd⟩ := sum_fact auu acc hd hb3
              have hjU : jn < U2.length := by rw [hl', HL1.out]; exact idx_n HJ.out hi HLn.out.1
              have hAB' := hAB
              rw [← HVe.out.2.1] at hAB'
              have HT := AB.last (u := uu) (d := d) (b := b3) hAB' (by rw [HeJ.out]; exact hjU) (by rw [HeJ.out]; exact huu) d0 d1 hdd
              have FIN := Aside0.mk (LI.back (out := O) (U1 := U1) (g := G) (b := b3) HLI.out HVe.out.2.2 HGH.out.pos.1 (by rw [HWJ.out]; exact HG.out.2.2.2) HG1.out HG.out.2.1 HT2.out.1 HT2.out.2.1 HT2.out.2.2.2 (by have := HT2.out.2.2.1; rw [Int.mul_one] at this; exact this) HT.1 HT.2.1 HT.2.2.2 b0 b1' HT.2.2.1)
              rw [HeJ.out] at FIN
              have HL2' := Aside0.mk (show (U2.set jn d).length = Lu by rw [List.length_set, hl']; exact HL1.out)
              have kuA : wr.cell? ⟨gu, jn, none⟩ = some (.int .u32 uu) := (hS.sit.cell m7 jn).trans ((cell_app (l := U2) (hjU)).trans (by rw [huu]))
              have zuA := hS.sit.frozen (g := gu) m7 jn
              have kuB : wr.cell? ⟨gu, i + kk, none⟩ = some (.int .u32 uu) := by rw [HJ.out]; exact kuA
              have zuB : wr.frozen? ⟨gu, i + kk, none⟩ = false := by rw [HJ.out]; exact zuA
              have b1B : i + kk < Lu := by rw [HJ.out]; exact b1
              have c10 : wr.cell? ⟨g10, 0, none⟩ = some (.slice (some ⟨go, 0, none⟩) L L) := hS.sit.cell m1 0
              have co : wr.cell? ⟨go, i, none⟩ = some (.int .u32 (O.getD i 0)) := (hS.sit.cell m2 i).trans (by rw [List.getElem?_toArray, List.getElem?_map, List.getElem?_eq_getElem (HOi.out)]; simp [List.getD, HOi.out])
              have zo := hS.sit.frozen (g := go) m2 i
              have n1' := hS.sit.neL (g := gu) (g' := g10) 7 1 rfl rfl (by decide)
              have n2' := n1'.symm
              have n3' := hS.sit.neL (g := gu) (g' := go) 7 2 rfl rfl (by decide)
              have n4' := n3'.symm
              have HJU := Aside0.mk hjU
              clear huu auu hd hb3 d0 d1 b0 b1' hdd hAB hAB' hl' hok' hkl acc HT hjU
              gi_wp2
              refine ⟨kf_set (kf_set KF _ _) _ _, O.set i (G - 1), U2.set jn d, FIN.out, by rw [List.length_set]; exact HLn.out.2.1, HL2'.out, ?_⟩
              first
                | exact (hS.setn [_, _, _, _, _, _, _] jn (.int .u32 d) (set_app (l := U2) (HJU.out))).setn [_, _] i (.int .u32 (G - 1)) (by rw [List.setIfInBounds_toArray, ← List.map_set])
                | (rw [HJ.out]; exact (hS.setn [_, _, _, _, _, _, _] jn (.int .u32 d) (set_app (l := U2) (HJU.out))).setn [_, _] i (.int .u32 (G - 1)) (by rw [List.setIfInBounds_toArray, ← List.map_set]))
  clear hK2
  gi_loopw [13, 14] (fun g r wr => ∃ G R, g = .int .u64 G ∧ r = .int .u64 R ∧ GS WJ (vl 4294967296 V) v1 tp G R ∧ R < 4294967296 ∧ KeepsFrom s0 W wr ∧ LS s0 w wr ok [(gb, .cells #[.slice (some ⟨go, 0, none⟩) L L] 23 (0, 0)), (g10, .cells #[.slice (some ⟨go, 0, none⟩) L L] 23 (0, 0)), (go, .cells (O.map (Value.int .u32)).toArray 93 (0, 0)), (g9, .cells #[.int .i64 (n : Int)] 3 (0, 0)), (g8, .cells #[.slice (some ⟨gv, 0, none⟩) n cv] 23 (0, 0)), (g7, .cells #[.slice (some ⟨gu, 0, none⟩) Lu cu] 23 (0, 0)), (gv, .cells (V1.map (Value.int .u32) ++ tlv).toArray 93 (0, 0)), (gu, .cells (U.map (Value.int .u32) ++ tlu).toArray 93 (0, 0))] []) (fun g _ _ => (intOf g).toNat)
  case atStart => exact ⟨G0, R0, rfl, rfl, HGS.out, HGR.out, KF, hS⟩
  case round =>
    clear KF hS e7 e8
    obtain ⟨G, R, rfl, rfl, GS', hR', KF, hS⟩ := hrel
    have c7 : wr.cell? ⟨g7, 0, none⟩ = some (.slice (some ⟨gu, 0, none⟩) Lu cu) := hS.sit.cell m5 0
    have c8 : wr.cell? ⟨g8, 0, none⟩ = some (.slice (some ⟨gv, 0, none⟩) n cv) := hS.sit.cell m4 0
    have c9 : wr.cell? ⟨g9, 0, none⟩ = some (.int .i64 (n : Int)) := hS.sit.cell m3 0
    have k1 : wr.cell? ⟨gv, m1', none⟩ = some (.int .u32 v1) := (hS.sit.cell m6 m1').trans ((cell_app (l := V1) (BV1.out.1)).trans (by rw [KV.out.1]))
    have k2 : wr.cell? ⟨gv, m, none⟩ = some (.int .u32 v2) := (hS.sit.cell m6 m).trans ((cell_app (l := V1) (BV1.out.2)).trans (by rw [KV.out.2]))
    have q2 : wr.cell? ⟨gu, jn, none⟩ = some (.int .u32 u2) := (hS.sit.cell m7 jn).trans ((cell_app (l := U) (BU1.out.1)).trans (by rw [KU.out.1]))
    have q1 : wr.cell? ⟨gu, jn1, none⟩ = some (.int .u32 u1) := (hS.sit.cell m7 jn1).trans ((cell_app (l := U) (BU1.out.2.1)).trans (by rw [KU.out.2.1]))
    have q0 : wr.cell? ⟨gu, jn2, none⟩ = some (.int .u32 u0) := (hS.sit.cell m7 jn2).trans ((cell_app (l := U) (BU1.out.2.2)).trans (by rw [KU.out.2.2]))
    by_cases hbig : 4294967296 ≤ G
    · have hb2 : decide (4294967296 ≤ G) = true := decide_eq_true hbig
      obtain ⟨D, D1⟩ := HGH.out.down (by rw [HTP.out]; exact GS') (.inl hbig)
      rw [HTP.out] at D
      gi_wp2
      refine startR (m := 24) (S := fun w' => True) (ds := []) #[false, false, false, false, false, false, false, false, false, false, false, false, false, false, false, false, false, false, false, false, false, false, false, false] (by kernel_rfl) rfl rfl (by kernel_rfl) (fun _ _ h => h) trivial (fun hQ => ?_)
      refine pure_ (i := 0) (N := some 83) (v := ?_) (a' := ?_) (bm 24 1) rfl rfl (by kernel_rfl) (fun _ _ _ h => h) (Or.inl ⟨by rfl, ?_⟩) ?_ ?_
      rotate_left
      · intro w'
        go_simp
        with_reducible rfl
      rotate_left
      · simp only [Act.put, List.setIfInBounds_toArray, List.set_cons_zero, List.set_cons_succ, i64_w, i32_w]
        rfl
      refine pure_ (i := 1) (N := some 84) (v := ?_) (a' := ?_) (bm 24 3) rfl rfl (by kernel_rfl) (fun _ _ _ h => h) (Or.inl ⟨by rfl, ?_⟩) ?_ ?_
      rotate_left
      · intro w'
        go_simp
        with_reducible rfl
      rotate_left
      · simp only [Act.put, List.setIfInBounds_toArray, List.set_cons_zero, List.set_cons_succ, i64_w, i32_w]
        rfl
      refine pure_ (i := 2) (N := some 85) (v := ?_) (a' := ?_) (bm 24 7) rfl rfl (by kernel_rfl) (fun _ _ _ h => h) (Or.inl ⟨by rfl, ?_⟩) ?_ ?_
      rotate_left
      · intro w'
        go_simp
        with_reducible rfl
      rotate_left
      · simp only [Act.put, List.setIfInBounds_toArray, List.set_cons_zero, List.set_cons_succ, i64_w, i32_w]
        rfl
      refine pure_ (i := 3) (N := some 86) (v := undef) (a' := ?_) (bm 24 15) rfl rfl (by kernel_rfl) (fun _ _ _ h => h) (Or.inr ⟨by rfl, rfl⟩) ?_ ?_
      rotate_left
      · simp only [Act.put, List.setIfInBounds_toArray, List.set_cons_zero, List.set_cons_succ, i64_w, i32_w]
        rfl
      refine pure_ (i := 4) (N := some 87) (v := undef) (a' := ?_) (bm 24 31) rfl rfl (by kernel_rfl) (fun _ _ _ h => h) (Or.inr ⟨by rfl, rfl⟩) ?_ ?_
      rotate_left
      · simp only [Act.put, List.setIfInBounds_toArray, List.set_cons_zero, List.set_cons_succ, i64_w, i32_w]
        rfl
      refine pure_ (i := 5) (N := some 88) (v := undef) (a' := ?_) (bm 24 63) rfl rfl (by kernel_rfl) (fun _ _ _ h => h) (Or.inr ⟨by rfl, rfl⟩) ?_ ?_
      rotate_left
      · simp only [Act.put, List.setIfInBounds_toArray, List.set_cons_zero, List.set_cons_succ, i64_w, i32_w]
        rfl
      refine pure_ (i := 6) (N := some 89) (v := undef) (a' := ?_) (bm 24 127) rfl rfl (by kernel_rfl) (fun _ _ _ h => h) (Or.inr ⟨by rfl, rfl⟩) ?_ ?_
      rotate_left
      · simp only [Act.put, List.setIfInBounds_toArray, List.set_cons_zero, List.set_cons_succ, i64_w, i32_w]
        rfl
      refine pure_ (i := 7) (N := some 90) (v := undef) (a' := ?_) (bm 24 255) rfl rfl (by kernel_rfl) (fun _ _ _ h => h) (Or.inr ⟨by rfl, rfl⟩) ?_ ?_
      rotate_left
      · simp only [Act.put, List.setIfInBounds_toArray, List.set_cons_zero, List.set_cons_succ, i64_w, i32_w]
        rfl
      refine pure_ (i := 8) (N := some 91) (v := undef) (a' := ?_) (bm 24 511) rfl rfl (by kernel_rfl) (fun _ _ _ h => h) (Or.inr ⟨by rfl, rfl⟩) ?_ ?_
      rotate_left
      · simp only [Act.put, List.setIfInBounds_toArray, List.set_cons_zero, List.set_cons_succ, i64_w, i32_w]
        rfl
      refine pure_ (i := 9) (N := some 92) (v := undef) (a' := ?_) (bm 24 1023) rfl rfl (by kernel_rfl) (fun _ _ _ h => h) (Or.inr ⟨by rfl, rfl⟩) ?_ ?_
      rotate_left
      · simp only [Act.put, List.setIfInBounds_toArray, List.set_cons_zero, List.set_cons_succ, i64_w, i32_w]
        rfl
      refine pure_ (i := 10) (N := some 93) (v := undef) (a' := ?_) (bm 24 2047) rfl rfl (by kernel_rfl) (fun _ _ _ h => h) (Or.inr ⟨by rfl, rfl⟩) ?_ ?_
      rotate_left
      · simp only [Act.put, List.setIfInBounds_toArray, List.set_cons_zero, List.set_cons_succ, i64_w, i32_w]
        rfl
      refine pure_ (i := 11) (N := some 94) (v := undef) (a' := ?_) (bm 24 4095) rfl rfl (by kernel_rfl) (fun _ _ _ h => h) (Or.inr ⟨by rfl, rfl⟩) ?_ ?_
      rotate_left
      · simp only [Act.put, List.setIfInBounds_toArray, List.set_cons_zero, List.set_cons_succ, i64_w, i32_w]
        rfl
      refine pure_ (i := 12) (N := some 95) (v := undef) (a' := ?_) (bm 24 8191) rfl rfl (by kernel_rfl) (fun _ _ _ h => h) (Or.inr ⟨by rfl, rfl⟩) ?_ ?_
      rotate_left
      · simp only [Act.put, List.setIfInBounds_toArray, List.set_cons_zero, List.set_cons_succ, i64_w, i32_w]
        rfl
      refine pure_ (i := 13) (N := some 96) (v := undef) (a' := ?_) (bm 24 16383) rfl rfl (by kernel_rfl) (fun _ _ _ h => h) (Or.inr ⟨by rfl, rfl⟩) ?_ ?_
      rotate_left
      · simp only [Act.put, List.setIfInBounds_toArray, List.set_cons_zero, List.set_cons_succ, i64_w, i32_w]
        rfl
      refine pure_ (i := 14) (N := some 97) (v := undef) (a' := ?_) (bm 24 32767) rfl rfl (by kernel_rfl) (fun _ _ _ h => h) (Or.inr ⟨by rfl, rfl⟩) ?_ ?_
      rotate_left
      · simp only [Act.put, List.setIfInBounds_toArray, List.set_cons_zero, List.set_cons_succ, i64_w, i32_w]
        rfl
      refine pure_ (i := 15) (N := some 98) (v := undef) (a' := ?_) (bm 24 65535) rfl rfl (by kernel_rfl) (fun _ _ _ h => h) (Or.inr ⟨by rfl, rfl⟩) ?_ ?_
      rotate_left
      · simp only [Act.put, List.setIfInBounds_toArray, List.set_cons_zero, List.set_cons_succ, i64_w, i32_w]
        rfl
      refine pure_ (i := 16) (N := some 99) (v := undef) (a' := ?_) (bm 24 131071) rfl rfl (by kernel_rfl) (fun _ _ _ h => h) (Or.inr ⟨by rfl, rfl⟩) ?_ ?_
      rotate_left
      · simp only [Act.put, List.setIfInBounds_toArray, List.set_cons_zero, List.set_cons_succ, i64_w, i32_w]
        rfl
      refine pure_ (i := 17) (N := some 100) (v := undef) (a' := ?_) (bm 24 262143) rfl rfl (by kernel_rfl) (fun _ _ _ h => h) (Or.inr ⟨by rfl, rfl⟩) ?_ ?_
      rotate_left
      · simp only [Act.put, List.setIfInBounds_toArray, List.set_cons_zero, List.set_cons_succ, i64_w, i32_w]
        rfl
      refine pure_ (i := 18) (N := some 101) (v := undef) (a' := ?_) (bm 24 524287) rfl rfl (by kernel_rfl) (fun _ _ _ h => h) (Or.inr ⟨by rfl, rfl⟩) ?_ ?_
      rotate_left
      · simp only [Act.put, List.setIfInBounds_toArray, List.set_cons_zero, List.set_cons_succ, i64_w, i32_w]
        rfl
      refine pure_ (i := 19) (N := some 102) (v := undef) (a' := ?_) (bm 24 1048575) rfl rfl (by kernel_rfl) (fun _ _ _ h => h) (Or.inr ⟨by rfl, rfl⟩) ?_ ?_
      rotate_left
      · simp only [Act.put, List.setIfInBounds_toArray, List.set_cons_zero, List.set_cons_succ, i64_w, i32_w]
        rfl
      refine pure_ (i := 20) (N := some 103) (v := undef) (a' := ?_) (bm 24 2097151) rfl rfl (by kernel_rfl) (fun _ _ _ h => h) (Or.inr ⟨by rfl, rfl⟩) ?_ ?_
      rotate_left
      · simp only [Act.put, List.setIfInBounds_toArray, List.set_cons_zero, List.set_cons_succ, i64_w, i32_w]
        rfl
      refine pure_ (i := 21) (N := some 104) (v := undef) (a' := ?_) (bm 24 4194303) rfl rfl (by kernel_rfl) (fun _ _ _ h => h) (Or.inr ⟨by rfl, rfl⟩) ?_ ?_
      rotate_left
      · simp only [Act.put, List.setIfInBounds_toArray, List.set_cons_zero, List.set_cons_succ, i64_w, i32_w]
        rfl
      refine pure_ (i := 22) (N := some 105) (v := undef) (a' := ?_) (bm 24 8388607) rfl rfl (by kernel_rfl) (fun _ _ _ h => h) (Or.inr ⟨by rfl, rfl⟩) ?_ ?_
      rotate_left
      · simp only [Act.put, List.setIfInBounds_toArray, List.set_cons_zero, List.set_cons_succ, i64_w, i32_w]
        rfl
      refine pure_ (i := 23) (N := some 106) (v := ?_) (a' := ?_) (bm 24 16777215) rfl rfl (by kernel_rfl) (fun _ _ _ h => h) (Or.inl ⟨by rfl, ?_⟩) ?_ ?_
      rotate_left
      · intro w'
        go_simp
        with_reducible rfl
      rotate_left
      · simp only [Act.put, List.setIfInBounds_toArray, List.set_cons_zero, List.set_cons_succ, i64_w, i32_w]
        rfl
      refine done_ (by kernel_rfl) ?_
      clear c7 c8 c9 k1 k2 q2 q1 q0 hQ
      replace KF := kf_drew KF
      replace hS := hS.drew
      generalize wr.drew = W4 at hS KF ⊢
      have c7 : W4.cell? ⟨g7, 0, none⟩ = some (.slice (some ⟨gu, 0, none⟩) Lu cu) := hS.sit.cell m5 0
      have c8 : W4.cell? ⟨g8, 0, none⟩ = some (.slice (some ⟨gv, 0, none⟩) n cv) := hS.sit.cell m4 0
      have c9 : W4.cell? ⟨g9, 0, none⟩ = some (.int .i64 (n : Int)) := hS.sit.cell m3 0
      have k1 : W4.cell? ⟨gv, m1', none⟩ = some (.int .u32 v1) := (hS.sit.cell m6 m1').trans ((cell_app (l := V1) (BV1.out.1)).trans (by rw [KV.out.1]))
      have k2 : W4.cell? ⟨gv, m, none⟩ = some (.int .u32 v2) := (hS.sit.cell m6 m).trans ((cell_app (l := V1) (BV1.out.2)).trans (by rw [KV.out.2]))
      have q2 : W4.cell? ⟨gu, jn, none⟩ = some (.int .u32 u2) := (hS.sit.cell m7 jn).trans ((cell_app (l := U) (BU1.out.1)).trans (by rw [KU.out.1]))
      have q1 : W4.cell? ⟨gu, jn1, none⟩ = some (.int .u32 u1) := (hS.sit.cell m7 jn1).trans ((cell_app (l := U) (BU1.out.2.1)).trans (by rw [KU.out.2.1]))
      have q0 : W4.cell? ⟨gu, jn2, none⟩ = some (.int .u32 u0) := (hS.sit.cell m7 jn2).trans ((cell_app (l := U) (BU1.out.2.2)).trans (by rw [KU.out.2.2]))
      obtain ⟨rd1, rd2⟩ := round_down D1 GS'.2.2.2.1 GS'.2.1 hR' AV1.out
      have DD := Aside0.mk D
      clear D
      by_cases hst : 4294967296 ≤ R + v1
      · have hst2 : decide (4294967296 ≤ R + v1) = true := decide_eq_true hst
        have hst3 := Aside0.mk (HGH.out.stop (by rw [HTP.out]; exact DD.out) (.inl hst))
        gi_wp2
        exact REST _ _ _ _ _ _ _ _ _ _ _ _ _ _ _ _ _ _ _ _ _ _ _ _ _ _ _ _ _ _ _ _ _ _ _ _ _ _ _ _ _ _ _ _ _ _ _ _ _ _ _ _ _ _ _ _ _ _ _ _ _ _ _ _ _ _ _ _ _ _ _ _ _ ⟨DD.out.2.2.2.2, hst3.out.1, DD.out.2.2.1, hst3.out.2⟩ KF hS
      · have hst2 : decide (4294967296 ≤ R + v1) = false := decide_eq_false hst
        gi_wp2
        go_roundw
        case rel => exact DD.out
        case measure => exact round_meas D1
    · have hb2 : decide (4294967296 ≤ G) = false := decide_eq_false hbig
      obtain ⟨X, hX⟩ : ∃ X, R * 4294967296 + u0 = X := ⟨_, rfl⟩
      obtain ⟨Y, hY⟩ : ∃ Y, G * v2 = Y := ⟨_, rfl⟩
      obtain ⟨f1, f2, f3⟩ := round_cmp GS'.2.2.2.2 (Int.not_le.mp hbig) GS'.2.1 hR' AV2.out AU0.out hX hY
      by_cases hlt : X < Y
      · have hlt2 : decide (X < Y) = true := decide_eq_true hlt
        obtain ⟨D, D1⟩ := HGH.out.down (by rw [HTP.out]; exact GS') (.inr (by rw [hX, hY]; exact hlt))
        rw [HTP.out] at D
        clear hX hY
        gi_wp2
        refine startR (m := 24) (S := fun w' => w'.cell? ⟨g7, 0, none⟩ = some (.slice (some ⟨gu, 0, none⟩) Lu cu) ∧ w'.cell? ⟨g8, 0, none⟩ = some (.slice (some ⟨gv, 0, none⟩) n cv) ∧ w'.cell? ⟨g9, 0, none⟩ = some (.int .i64 (n : Int)) ∧ w'.cell? ⟨gv, m, none⟩ = some (.int .u32 v2) ∧ w'.cell? ⟨gu, jn2, none⟩ = some (.int .u32 u0)) (ds := []) #[false, false, false, false, false, false, false, false, false, false, false, false, false, false, false, false, false, false, false, false, false, false, false, false] (by kernel_rfl) rfl rfl (by kernel_rfl) (fun _ _ h => h) ⟨c7, c8, c9, k2, q0⟩ (fun hQ => ?_)
        refine pure_ (i := 0) (N := some 83) (v := ?_) (a' := ?_) (bm 24 1) rfl rfl (by kernel_rfl) (fun _ _ _ h => h) (Or.inl ⟨by rfl, ?_⟩) ?_ ?_
        rotate_left
        · intro w'
          go_simp
          with_reducible rfl
        rotate_left
        · simp only [Act.put, List.setIfInBounds_toArray, List.set_cons_zero, List.set_cons_succ, i64_w, i32_w]
          rfl
        refine pure_ (i := 1) (N := some 84) (v := ?_) (a' := ?_) (bm 24 3) rfl rfl (by kernel_rfl) (fun _ _ _ h => h) (Or.inl ⟨by rfl, ?_⟩) ?_ ?_
        rotate_left
        · intro w'
          go_simp
          with_reducible rfl
        rotate_left
        · simp only [Act.put, List.setIfInBounds_toArray, List.set_cons_zero, List.set_cons_succ, i64_w, i32_w]
          rfl
        refine pure_ (i := 2) (N := some 85) (v := ?_) (a' := ?_) (bm 24 7) rfl rfl (by kernel_rfl) (fun _ _ _ h => h) (Or.inl ⟨by rfl, ?_⟩) ?_ ?_
        rotate_left
        · intro w'
          go_simp
          with_reducible rfl
        rotate_left
        · simp only [Act.put, List.setIfInBounds_toArray, List.set_cons_zero, List.set_cons_succ, i64_w, i32_w]
          rfl
        refine pure_ (i := 3) (N := some 86) (v := ?_) (a' := ?_) (bm 24 15) rfl rfl (by kernel_rfl) (fun _ _ _ h => h) (Or.inl ⟨by rfl, ?_⟩) ?_ ?_
        rotate_left
        · intro w'
          go_simp
          with_reducible rfl
        rotate_left
        · simp only [Act.put, List.setIfInBounds_toArray, List.set_cons_zero, List.set_cons_succ, i64_w, i32_w]
          rfl
        refine pure_ (i := 11) (N := some 94) (v := ?_) (a' := ?_) (bm 24 2063) rfl rfl (by kernel_rfl) (fun _ _ _ h => h) (Or.inl ⟨by rfl, ?_⟩) ?_ ?_
        rotate_left
        · intro w'
          go_simp
          with_reducible rfl
        rotate_left
        · simp only [Act.put, List.setIfInBounds_toArray, List.set_cons_zero, List.set_cons_succ, i64_w, i32_w]
          rfl
        refine pure_ (i := 12) (N := some 95) (v := ?_) (a' := ?_) (bm 24 6159) rfl rfl (by kernel_rfl) (fun _ _ _ h => h) (Or.inl ⟨by rfl, ?_⟩) ?_ ?_
        rotate_left
        · intro w'
          go_simp
          with_reducible rfl
        rotate_left
        · simp only [Act.put, List.setIfInBounds_toArray, List.set_cons_zero, List.set_cons_succ, i64_w, i32_w]
          rfl
        refine pure_ (i := 14) (N := some 97) (v := ?_) (a' := ?_) (bm 24 22543) rfl rfl (by kernel_rfl) (fun _ _ _ h => h) (Or.inl ⟨by rfl, ?_⟩) ?_ ?_
        rotate_left
        · intro w'
          go_simp
          with_reducible rfl
        rotate_left
        · simp only [Act.put, List.setIfInBounds_toArray, List.set_cons_zero, List.set_cons_succ, i64_w, i32_w]
          rfl
        refine take_ (i := 4) (N := some 87) (v := ?_) (a' := ?_) (bm 24 22559) rfl rfl (by kernel_rfl) (fun _ _ _ h => h) (Or.inl ⟨by rfl, ?_⟩) hQ ?_ ?_
        rotate_left
        · rintro w' ⟨s0, s1, s2, s3, s4⟩
          go_simp
          with_reducible rfl
        rotate_left
        · simp only [Act.put, List.setIfInBounds_toArray, List.set_cons_zero, List.set_cons_succ, i64_w, i32_w]
          rfl
        refine take_ (i := 5) (N := some 88) (v := ?_) (a' := ?_) (bm 24 22591) rfl rfl (by kernel_rfl) (fun _ _ _ h => h) (Or.inl ⟨by rfl, ?_⟩) hQ ?_ ?_
        rotate_left
        · rintro w' ⟨s0, s1, s2, s3, s4⟩
          go_simp
          with_reducible rfl
        rotate_left
        · simp only [Act.put, List.setIfInBounds_toArray, List.set_cons_zero, List.set_cons_succ, i64_w, i32_w]
          rfl
        refine pure_ (i := 6) (N := some 89) (v := ?_) (a' := ?_) (bm 24 22655) rfl rfl (by kernel_rfl) (fun _ _ _ h => h) (Or.inl ⟨by rfl, ?_⟩) ?_ ?_
        rotate_left
        · intro w'
          go_simp
          with_reducible rfl
        rotate_left
        · simp only [Act.put, List.setIfInBounds_toArray, List.set_cons_zero, List.set_cons_succ, i64_w, i32_w]
          rfl
        refine pure_ (i := 7) (N := some 90) (v := ?_) (a' := ?_) (bm 24 22783) rfl rfl (by kernel_rfl) (fun _ _ _ h => h) (Or.inl ⟨by rfl, ?_⟩) ?_ ?_
        rotate_left
        · intro w'
          go_simp
          with_reducible rfl
        rotate_left
        · simp only [Act.put, List.setIfInBounds_toArray, List.set_cons_zero, List.set_cons_succ, i64_w, i32_w]
          rfl
        refine take_ (i := 8) (N := some 91) (v := ?_) (a' := ?_) (bm 24 23039) rfl rfl (by kernel_rfl) (fun _ _ _ h => h) (Or.inl ⟨by rfl, ?_⟩) hQ ?_ ?_
        rotate_left
        · rintro w' ⟨s0, s1, s2, s3, s4⟩
          go_simp
          with_reducible rfl
        rotate_left
        · simp only [Act.put, List.setIfInBounds_toArray, List.set_cons_zero, List.set_cons_succ, i64_w, i32_w]
          rfl
        refine pure_ (i := 9) (N := some 92) (v := ?_) (a' := ?_) (bm 24 23551) rfl rfl (by kernel_rfl) (fun _ _ _ h => h) (Or.inl ⟨by rfl, ?_⟩) ?_ ?_
        rotate_left
        · intro w'
          go_simp
          with_reducible rfl
        rotate_left
        · simp only [Act.put, List.setIfInBounds_toArray, List.set_cons_zero, List.set_cons_succ, i64_w, i32_w]
          rfl
        refine pure_ (i := 10) (N := some 93) (v := ?_) (a' := ?_) (bm 24 24575) rfl rfl (by kernel_rfl) (fun _ _ _ h => h) (Or.inl ⟨by rfl, ?_⟩) ?_ ?_
        rotate_left
        · intro w'
          go_simp
          with_reducible rfl
        rotate_left
        · simp only [Act.put, List.setIfInBounds_toArray, List.set_cons_zero, List.set_cons_succ, i64_w, i32_w]
          rfl
        refine take_ (i := 13) (N := some 96) (v := ?_) (a' := ?_) (bm 24 32767) rfl rfl (by kernel_rfl) (fun _ _ _ h => h) (Or.inl ⟨by rfl, ?_⟩) hQ ?_ ?_
        rotate_left
        · rintro w' ⟨s0, s1, s2, s3, s4⟩
          go_simp
          with_reducible rfl
        rotate_left
        · simp only [Act.put, List.setIfInBounds_toArray, List.set_cons_zero, List.set_cons_succ, i64_w, i32_w]
          rfl
        refine take_ (i := 15) (N := some 98) (v := ?_) (a' := ?_) (bm 24 65535) rfl rfl (by kernel_rfl) (fun _ _ _ h => h) (Or.inl ⟨by rfl, ?_⟩) hQ ?_ ?_
        rotate_left
        · rintro w' ⟨s0, s1, s2, s3, s4⟩
          go_simp
          with_reducible rfl
        rotate_left
        · simp only [Act.put, List.setIfInBounds_toArray, List.set_cons_zero, List.set_cons_succ, i64_w, i32_w]
          rfl
        refine pure_ (i := 16) (N := some 99) (v := ?_) (a' := ?_) (bm 24 131071) rfl rfl (by kernel_rfl) (fun _ _ _ h => h) (Or.inl ⟨by rfl, ?_⟩) ?_ ?_
        rotate_left
        · intro w'
          go_simp
          with_reducible rfl
        rotate_left
        · simp only [Act.put, List.setIfInBounds_toArray, List.set_cons_zero, List.set_cons_succ, i64_w, i32_w]
          rfl
        refine pure_ (i := 17) (N := some 100) (v := ?_) (a' := ?_) (bm 24 262143) rfl rfl (by kernel_rfl) (fun _ _ _ h => h) (Or.inl ⟨by rfl, ?_⟩) ?_ ?_
        rotate_left
        · intro w'
          go_simp
          with_reducible rfl
        rotate_left
        · simp only [Act.put, List.setIfInBounds_toArray, List.set_cons_zero, List.set_cons_succ, i64_w, i32_w]
          rfl
        refine pure_ (i := 18) (N := some 101) (v := ?_) (a' := ?_) (bm 24 524287) rfl rfl (by kernel_rfl) (fun _ _ _ h => h) (Or.inl ⟨by rfl, ?_⟩) ?_ ?_
        rotate_left
        · intro w'
          go_simp
          with_reducible rfl
        rotate_left
        · simp only [Act.put, List.setIfInBounds_toArray, List.set_cons_zero, List.set_cons_succ, i64_w, i32_w]
          rfl
        refine take_ (i := 19) (N := some 102) (v := ?_) (a' := ?_) (bm 24 1048575) rfl rfl (by kernel_rfl) (fun _ _ _ h => h) (Or.inl ⟨by rfl, ?_⟩) hQ ?_ ?_
        rotate_left
        · rintro w' ⟨s0, s1, s2, s3, s4⟩
          go_simp
          with_reducible rfl
        rotate_left
        · simp only [Act.put, List.setIfInBounds_toArray, List.set_cons_zero, List.set_cons_succ, i64_w, i32_w]
          rfl
        refine pure_ (i := 20) (N := some 103) (v := ?_) (a' := ?_) (bm 24 2097151) rfl rfl (by kernel_rfl) (fun _ _ _ h => h) (Or.inl ⟨by rfl, ?_⟩) ?_ ?_
        rotate_left
        · intro w'
          go_simp
          with_reducible rfl
        rotate_left
        · simp only [Act.put, List.setIfInBounds_toArray, List.set_cons_zero, List.set_cons_succ, i64_w, i32_w]
          rfl
        refine pure_ (i := 21) (N := some 104) (v := ?_) (a' := ?_) (bm 24 4194303) rfl rfl (by kernel_rfl) (fun _ _ _ h => h) (Or.inl ⟨by rfl, ?_⟩) ?_ ?_
        rotate_left
        · intro w'
          go_simp
          with_reducible rfl
        rotate_left
        · simp only [Act.put, List.setIfInBounds_toArray, List.set_cons_zero, List.set_cons_succ, i64_w, i32_w]
          rfl
        refine pure_ (i := 22) (N := some 105) (v := ?_) (a' := ?_) (bm 24 8388607) rfl rfl (by kernel_rfl) (fun _ _ _ h => h) (Or.inl ⟨by rfl, ?_⟩) ?_ ?_
        rotate_left
        · intro w'
          go_simp
          with_reducible rfl
        rotate_left
        · simp only [Act.put, List.setIfInBounds_toArray, List.set_cons_zero, List.set_cons_succ, i64_w, i32_w]
          rfl
        refine pure_ (i := 23) (N := some 106) (v := ?_) (a' := ?_) (bm 24 16777215) rfl rfl (by kernel_rfl) (fun _ _ _ h => h) (Or.inl ⟨by rfl, ?_⟩) ?_ ?_
        rotate_left
        · intro w'
          go_simp
          with_reducible rfl
        rotate_left
        · simp only [Act.put, List.setIfInBounds_toArray, List.set_cons_zero, List.set_cons_succ, i64_w, i32_w]
          rfl
        refine done_ (by kernel_rfl) ?_
        clear c7 c8 c9 k1 k2 q2 q1 q0 hQ
        replace KF := kf_drew KF
        replace hS := hS.drew
        generalize wr.drew = W4 at hS KF ⊢
        have c7 : W4.cell? ⟨g7, 0, none⟩ = some (.slice (some ⟨gu, 0, none⟩) Lu cu) := hS.sit.cell m5 0
        have c8 : W4.cell? ⟨g8, 0, none⟩ = some (.slice (some ⟨gv, 0, none⟩) n cv) := hS.sit.cell m4 0
        have c9 : W4.cell? ⟨g9, 0, none⟩ = some (.int .i64 (n : Int)) := hS.sit.cell m3 0
        have k1 : W4.cell? ⟨gv, m1', none⟩ = some (.int .u32 v1) := (hS.sit.cell m6 m1').trans ((cell_app (l := V1) (BV1.out.1)).trans (by rw [KV.out.1]))
        have k2 : W4.cell? ⟨gv, m, none⟩ = some (.int .u32 v2) := (hS.sit.cell m6 m).trans ((cell_app (l := V1) (BV1.out.2)).trans (by rw [KV.out.2]))
        have q2 : W4.cell? ⟨gu, jn, none⟩ = some (.int .u32 u2) := (hS.sit.cell m7 jn).trans ((cell_app (l := U) (BU1.out.1)).trans (by rw [KU.out.1]))
        have q1 : W4.cell? ⟨gu, jn1, none⟩ = some (.int .u32 u1) := (hS.sit.cell m7 jn1).trans ((cell_app (l := U) (BU1.out.2.1)).trans (by rw [KU.out.2.1]))
        have q0 : W4.cell? ⟨gu, jn2, none⟩ = some (.int .u32 u0) := (hS.sit.cell m7 jn2).trans ((cell_app (l := U) (BU1.out.2.2)).trans (by rw [KU.out.2.2]))
        obtain ⟨rd1, rd2⟩ := round_down D1 GS'.2.2.2.1 GS'.2.1 hR' AV1.out
        have DD := Aside0.mk D
        clear D
        by_cases hst : 4294967296 ≤ R + v1
        · have hst2 : decide (4294967296 ≤ R + v1) = true := decide_eq_true hst
          have hst3 := Aside0.mk (HGH.out.stop (by rw [HTP.out]; exact DD.out) (.inl hst))
          gi_wp2
          exact REST _ _ _ _ _ _ _ _ _ _ _ _ _ _ _ _ _ _ _ _ _ _ _ _ _ _ _ _ _ _ _ _ _ _ _ _ _ _ _ _ _ _ _ _ _ _ _ _ _ _ _ _ _ _ _ _ _ _ _ _ _ _ _ _ _ _ _ _ _ _ _ _ _ ⟨DD.out.2.2.2.2, hst3.out.1, DD.out.2.2.1, hst3.out.2⟩ KF hS
        · have hst2 : decide (4294967296 ≤ R + v1) = false := decide_eq_false hst
          gi_wp2
          go_roundw
          case rel => exact DD.out
          case measure => exact round_meas D1
      · have hlt2 : decide (X < Y) = false := decide_eq_false hlt
        have hst3 := Aside0.mk (HGH.out.stop (by rw [HTP.out]; exact GS') (.inr ⟨Int.not_le.mp hbig, by rw [hX, hY]; exact Int.not_lt.mp hlt⟩))
        have GSS := Aside0.mk GS'
        clear hX hY
        gi_wp2
        refine startR (m := 24) (S := fun w' => w'.cell? ⟨g7, 0, none⟩ = some (.slice (some ⟨gu, 0, none⟩) Lu cu) ∧ w'.cell? ⟨g8, 0, none⟩ = some (.slice (some ⟨gv, 0, none⟩) n cv) ∧ w'.cell? ⟨g9, 0, none⟩ = some (.int .i64 (n : Int)) ∧ w'.cell? ⟨gv, m, none⟩ = some (.int .u32 v2) ∧ w'.cell? ⟨gu, jn2, none⟩ = some (.int .u32 u0)) (ds := []) #[false, false, false, false, false, false, false, false, false, false, false, false, false, false, false, false, false, false, false, false, false, false, false, false] (by kernel_rfl) rfl rfl (by kernel_rfl) (fun _ _ h => h) ⟨c7, c8, c9, k2, q0⟩ (fun hQ => ?_)
        refine pure_ (i := 0) (N := some 83) (v := ?_) (a' := ?_) (bm 24 1) rfl rfl (by kernel_rfl) (fun _ _ _ h => h) (Or.inl ⟨by rfl, ?_⟩) ?_ ?_
        rotate_left
        · intro w'
          go_simp
          with_reducible rfl
        rotate_left
        · simp only [Act.put, List.setIfInBounds_toArray, List.set_cons_zero, List.set_cons_succ, i64_w, i32_w]
          rfl
        refine pure_ (i := 1) (N := some 84) (v := ?_) (a' := ?_) (bm 24 3) rfl rfl (by kernel_rfl) (fun _ _ _ h => h) (Or.inl ⟨by rfl, ?_⟩) ?_ ?_
        rotate_left
        · intro w'
          go_simp
          with_reducible rfl
        rotate_left
        · simp only [Act.put, List.setIfInBounds_toArray, List.set_cons_zero, List.set_cons_succ, i64_w, i32_w]
          rfl
        refine pure_ (i := 2) (N := some 85) (v := ?_) (a' := ?_) (bm 24 7) rfl rfl (by kernel_rfl) (fun _ _ _ h => h) (Or.inl ⟨by rfl, ?_⟩) ?_ ?_
        rotate_left
        · intro w'
          go_simp
          with_reducible rfl
        rotate_left
        · simp only [Act.put, List.setIfInBounds_toArray, List.set_cons_zero, List.set_cons_succ, i64_w, i32_w]
          rfl
        refine pure_ (i := 3) (N := some 86) (v := ?_) (a' := ?_) (bm 24 15) rfl rfl (by kernel_rfl) (fun _ _ _ h => h) (Or.inl ⟨by rfl, ?_⟩) ?_ ?_
        rotate_left
        · intro w'
          go_simp
          with_reducible rfl
        rotate_left
        · simp only [Act.put, List.setIfInBounds_toArray, List.set_cons_zero, List.set_cons_succ, i64_w, i32_w]
          rfl
        refine pure_ (i := 11) (N := some 94) (v := ?_) (a' := ?_) (bm 24 2063) rfl rfl (by kernel_rfl) (fun _ _ _ h => h) (Or.inl ⟨by rfl, ?_⟩) ?_ ?_
        rotate_left
        · intro w'
          go_simp
          with_reducible rfl
        rotate_left
        · simp only [Act.put, List.setIfInBounds_toArray, List.set_cons_zero, List.set_cons_succ, i64_w, i32_w]
          rfl
        refine pure_ (i := 12) (N := some 95) (v := ?_) (a' := ?_) (bm 24 6159) rfl rfl (by kernel_rfl) (fun _ _ _ h => h) (Or.inl ⟨by rfl, ?_⟩) ?_ ?_
        rotate_left
        · intro w'
          go_simp
          with_reducible rfl
        rotate_left
        · simp only [Act.put, List.setIfInBounds_toArray, List.set_cons_zero, List.set_cons_succ, i64_w, i32_w]
          rfl
        refine pure_ (i := 14) (N := some 97) (v := ?_) (a' := ?_) (bm 24 22543) rfl rfl (by kernel_rfl) (fun _ _ _ h => h) (Or.inl ⟨by rfl, ?_⟩) ?_ ?_
        rotate_left
        · intro w'
          go_simp
          with_reducible rfl
        rotate_left
        · simp only [Act.put, List.setIfInBounds_toArray, List.set_cons_zero, List.set_cons_succ, i64_w, i32_w]
          rfl
        refine take_ (i := 4) (N := some 87) (v := ?_) (a' := ?_) (bm 24 22559) rfl rfl (by kernel_rfl) (fun _ _ _ h => h) (Or.inl ⟨by rfl, ?_⟩) hQ ?_ ?_
        rotate_left
        · rintro w' ⟨s0, s1, s2, s3, s4⟩
          go_simp
          with_reducible rfl
        rotate_left
        · simp only [Act.put, List.setIfInBounds_toArray, List.set_cons_zero, List.set_cons_succ, i64_w, i32_w]
          rfl
        refine take_ (i := 5) (N := some 88) (v := ?_) (a' := ?_) (bm 24 22591) rfl rfl (by kernel_rfl) (fun _ _ _ h => h) (Or.inl ⟨by rfl, ?_⟩) hQ ?_ ?_
        rotate_left
        · rintro w' ⟨s0, s1, s2, s3, s4⟩
          go_simp
          with_reducible rfl
        rotate_left
        · simp only [Act.put, List.setIfInBounds_toArray, List.set_cons_zero, List.set_cons_succ, i64_w, i32_w]
          rfl
        refine pure_ (i := 6) (N := some 89) (v := ?_) (a' := ?_) (bm 24 22655) rfl rfl (by kernel_rfl) (fun _ _ _ h => h) (Or.inl ⟨by rfl, ?_⟩) ?_ ?_
        rotate_left
        · intro w'
          go_simp
          with_reducible rfl
        rotate_left
        · simp only [Act.put, List.setIfInBounds_toArray, List.set_cons_zero, List.set_cons_succ, i64_w, i32_w]
          rfl
        refine pure_ (i := 7) (N := some 90) (v := ?_) (a' := ?_) (bm 24 22783) rfl rfl (by kernel_rfl) (fun _ _ _ h => h) (Or.inl ⟨by rfl, ?_⟩) ?_ ?_
        rotate_left
        · intro w'
          go_simp
          with_reducible rfl
        rotate_left
        · simp only [Act.put, List.setIfInBounds_toArray, List.set_cons_zero, List.set_cons_succ, i64_w, i32_w]
          rfl
        refine take_ (i := 8) (N := some 91) (v := ?_) (a' := ?_) (bm 24 23039) rfl rfl (by kernel_rfl) (fun _ _ _ h => h) (Or.inl ⟨by rfl, ?_⟩) hQ ?_ ?_
        rotate_left
        · rintro w' ⟨s0, s1, s2, s3, s4⟩
          go_simp
          with_reducible rfl
        rotate_left
        · simp only [Act.put, List.setIfInBounds_toArray, List.set_cons_zero, List.set_cons_succ, i64_w, i32_w]
          rfl
        refine pure_ (i := 9) (N := some 92) (v := ?_) (a' := ?_) (bm 24 23551) rfl rfl (by kernel_rfl) (fun _ _ _ h => h) (Or.inl ⟨by rfl, ?_⟩) ?_ ?_
        rotate_left
        · intro w'
          go_simp
          with_reducible rfl
        rotate_left
        · simp only [Act.put, List.setIfInBounds_toArray, List.set_cons_zero, List.set_cons_succ, i64_w, i32_w]
          rfl
        refine pure_ (i := 10) (N := some 93) (v := ?_) (a' := ?_) (bm 24 24575) rfl rfl (by kernel_rfl) (fun _ _ _ h => h) (Or.inl ⟨by rfl, ?_⟩) ?_ ?_
        rotate_left
        · intro w'
          go_simp
          with_reducible rfl
        rotate_left
        · simp only [Act.put, List.setIfInBounds_toArray, List.set_cons_zero, List.set_cons_succ, i64_w, i32_w]
          rfl
        refine take_ (i := 13) (N := some 96) (v := ?_) (a' := ?_) (bm 24 32767) rfl rfl (by kernel_rfl) (fun _ _ _ h => h) (Or.inl ⟨by rfl, ?_⟩) hQ ?_ ?_
        rotate_left
        · rintro w' ⟨s0, s1, s2, s3, s4⟩
          go_simp
          with_reducible rfl
        rotate_left
        · simp only [Act.put, List.setIfInBounds_toArray, List.set_cons_zero, List.set_cons_succ, i64_w, i32_w]
          rfl
        refine take_ (i := 15) (N := some 98) (v := ?_) (a' := ?_) (bm 24 65535) rfl rfl (by kernel_rfl) (fun _ _ _ h => h) (Or.inl ⟨by rfl, ?_⟩) hQ ?_ ?_
        rotate_left
        · rintro w' ⟨s0, s1, s2, s3, s4⟩
          go_simp
          with_reducible rfl
        rotate_left
        · simp only [Act.put, List.setIfInBounds_toArray, List.set_cons_zero, List.set_cons_succ, i64_w, i32_w]
          rfl
        refine pure_ (i := 16) (N := some 99) (v := ?_) (a' := ?_) (bm 24 131071) rfl rfl (by kernel_rfl) (fun _ _ _ h => h) (Or.inl ⟨by rfl, ?_⟩) ?_ ?_
        rotate_left
        · intro w'
          go_simp
          with_reducible rfl
        rotate_left
        · simp only [Act.put, List.setIfInBounds_toArray, List.set_cons_zero, List.set_cons_succ, i64_w, i32_w]
          rfl
        refine pure_ (i := 17) (N := some 100) (v := ?_) (a' := ?_) (bm 24 262143) rfl rfl (by kernel_rfl) (fun _ _ _ h => h) (Or.inl ⟨by rfl, ?_⟩) ?_ ?_
        rotate_left
        · intro w'
          go_simp
          with_reducible rfl
        rotate_left
        · simp only [Act.put, List.setIfInBounds_toArray, List.set_cons_zero, List.set_cons_succ, i64_w, i32_w]
          rfl
        refine pure_ (i := 18) (N := some 101) (v := ?_) (a' := ?_) (bm 24 524287) rfl rfl (by kernel_rfl) (fun _ _ _ h => h) (Or.inl ⟨by rfl, ?_⟩) ?_ ?_
        rotate_left
        · intro w'
          go_simp
          with_reducible rfl
        rotate_left
        · simp only [Act.put, List.setIfInBounds_toArray, List.set_cons_zero, List.set_cons_succ, i64_w, i32_w]
          rfl
        refine take_ (i := 19) (N := some 102) (v := ?_) (a' := ?_) (bm 24 1048575) rfl rfl (by kernel_rfl) (fun _ _ _ h => h) (Or.inl ⟨by rfl, ?_⟩) hQ ?_ ?_
        rotate_left
        · rintro w' ⟨s0, s1, s2, s3, s4⟩
          go_simp
          with_reducible rfl
        rotate_left
        · simp only [Act.put, List.setIfInBounds_toArray, List.set_cons_zero, List.set_cons_succ, i64_w, i32_w]
          rfl
        refine pure_ (i := 20) (N := some 103) (v := ?_) (a' := ?_) (bm 24 2097151) rfl rfl (by kernel_rfl) (fun _ _ _ h => h) (Or.inl ⟨by rfl, ?_⟩) ?_ ?_
        rotate_left
        · intro w'
          go_simp
          with_reducible rfl
        rotate_left
        · simp only [Act.put, List.setIfInBounds_toArray, List.set_cons_zero, List.set_cons_succ, i64_w, i32_w]
          rfl
        refine pure_ (i := 21) (N := some 104) (v := ?_) (a' := ?_) (bm 24 4194303) rfl rfl (by kernel_rfl) (fun _ _ _ h => h) (Or.inl ⟨by rfl, ?_⟩) ?_ ?_
        rotate_left
        · intro w'
          go_simp
          with_reducible rfl
        rotate_left
        · simp only [Act.put, List.setIfInBounds_toArray, List.set_cons_zero, List.set_cons_succ, i64_w, i32_w]
          rfl
        refine pure_ (i := 22) (N := some 105) (v := ?_) (a' := ?_) (bm 24 8388607) rfl rfl (by kernel_rfl) (fun _ _ _ h => h) (Or.inl ⟨by rfl, ?_⟩) ?_ ?_
        rotate_left
        · intro w'
          go_simp
          with_reducible rfl
        rotate_left
        · simp only [Act.put, List.setIfInBounds_toArray, List.set_cons_zero, List.set_cons_succ, i64_w, i32_w]
          rfl
        refine pure_ (i := 23) (N := some 106) (v := ?_) (a' := ?_) (bm 24 16777215) rfl rfl (by kernel_rfl) (fun _ _ _ h => h) (Or.inl ⟨by rfl, ?_⟩) ?_ ?_
        rotate_left
        · intro w'
          go_simp
          with_reducible rfl
        rotate_left
        · simp only [Act.put, List.setIfInBounds_toArray, List.set_cons_zero, List.set_cons_succ, i64_w, i32_w]
          rfl
        refine done_ (by kernel_rfl) ?_
        clear c7 c8 c9 k1 k2 q2 q1 q0 hQ
        replace KF := kf_drew KF
        replace hS := hS.drew
        generalize wr.drew = W4 at hS KF ⊢
        have c7 : W4.cell? ⟨g7, 0, none⟩ = some (.slice (some ⟨gu, 0, none⟩) Lu cu) := hS.sit.cell m5 0
        have c8 : W4.cell? ⟨g8, 0, none⟩ = some (.slice (some ⟨gv, 0, none⟩) n cv) := hS.sit.cell m4 0
        have c9 : W4.cell? ⟨g9, 0, none⟩ = some (.int .i64 (n : Int)) := hS.sit.cell m3 0
        have k1 : W4.cell? ⟨gv, m1', none⟩ = some (.int .u32 v1) := (hS.sit.cell m6 m1').trans ((cell_app (l := V1) (BV1.out.1)).trans (by rw [KV.out.1]))
        have k2 : W4.cell? ⟨gv, m, none⟩ = some (.int .u32 v2) := (hS.sit.cell m6 m).trans ((cell_app (l := V1) (BV1.out.2)).trans (by rw [KV.out.2]))
        have q2 : W4.cell? ⟨gu, jn, none⟩ = some (.int .u32 u2) := (hS.sit.cell m7 jn).trans ((cell_app (l := U) (BU1.out.1)).trans (by rw [KU.out.1]))
        have q1 : W4.cell? ⟨gu, jn1, none⟩ = some (.int .u32 u1) := (hS.sit.cell m7 jn1).trans ((cell_app (l := U) (BU1.out.2.1)).trans (by rw [KU.out.2.1]))
        have q0 : W4.cell? ⟨gu, jn2, none⟩ = some (.int .u32 u0) := (hS.sit.cell m7 jn2).trans ((cell_app (l := U) (BU1.out.2.2)).trans (by rw [KU.out.2.2]))
        gi_wp2
        exact REST _ _ _ _ _ _ _ _ _ _ _ _ _ _ _ _ _ _ _ _ _ _ _ _ _ _ _ _ _ _ _ _ _ _ _ _ _ _ _ _ _ _ _ _ _ _ _ _ _ _ _ _ _ _ _ _ _ _ _ _ _ _ _ _ _ _ _ _ _ _ _ _ _ ⟨GSS.out.2.2.2.2, hst3.out.1, GSS.out.2.2.1, hst3.out.2⟩ KF hS

end Go.Proofs.Ytdkapdgbfejgdaa
