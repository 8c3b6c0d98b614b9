/- bigint.short: a magnitude divided by a digit. -/
import Derived.Test.YtdkapdgbfejgdaaSq
import Derived.Test.YtdkapdgbfejgdaaYb
import Derived.OrdersIn
import Derived.Test.YtdkapdgbfejgdaaY8
/- A region that draws its order, inside a round of a range over a function: by the steps that serve everywhere. -/
set_option linter.unusedVariables false
set_option linter.unusedSimpArgs false
namespace Go.Proofs.Ytdkapdgbfejgdaa
open Go.RowKit Go.Proofs.YtdkapdgbfejgdaaW.PrintWords Go.Proofs.YtdkapdgbfejgdaaW.PrintLast Go.Proofs.YtdkapdgbfejgdaaW.PrintMore

section
variable {P : Program} {l0 n : Nat} {md : Region.Mode} {ops : Array Oper} {Q : Exit → Act → World → Prop}

theorem wpIn_of_wp {o : Oper} (hd : ∀ c, o.op ≠ .defer c) (hout : ∀ a w, ¬ Q .outgrown a w) {K K' : Act → World → Prop} (hK : ∀ a w, K a w → K' a w) {a : Act} {w : World} (h : o.wp P a w K Q) :
    o.wpIn (Fence.wide.inRound l0) n P a w K' Q := by
  refine ⟨fun _ _ => trivial, ?_⟩
  rw [Oper.semAt_eq _ _ _ hd]
  unfold Oper.wp at h
  generalize (execOp a.eval o).run P w = r at h ⊢
  unfold Oper.upon at h
  split at h
  · exact hK _ _ h
  · exact hK _ _ h
  · exact hK _ _ h
  · refine ⟨fun hh => (by cases hh), CallsIn.inRound l0 (callsIn_wide.2 (h.mono ?_))⟩
    intro e w'' he
    cases e with
    | returned v => exact hK _ _ he
    | panicked c => exact he
    | outgrown => exact he
  · refine ⟨fun hh => (by cases hh), ?_⟩
    intro c cs hr
    obtain ⟨v, w', r, s⟩ := h c cs
    exact ⟨v, w', hK _ _ r, stepsIn_wide.2 s⟩
  · exact h
  · exact h.elim

theorem wpAnyIn_of (hd : ∀ (i : Nat) (o : Oper), ops[i]? = some o → ∀ c, o.op ≠ .defer c) (hout : ∀ a w, ¬ Q .outgrown a w) : ∀ (fuel : Nat) (listed : Array Bool) (a : Act) (w : World),
    wpAny P md ops Q fuel listed a w → wpAnyIn (Fence.wide.inRound l0) n P md ops Q fuel listed a w
  | 0, _, _, _, h => h
  | fuel + 1, listed, a, w, h => by
    refine ⟨h.1, fun i hi => ?_⟩
    have h2 := h.2 i hi
    unfold wpOp at h2
    unfold wpOpIn
    cases ho : ops[i]? with
    | none => rw [ho] at h2; exact wpAnyIn_of hd hout fuel _ _ _ h2
    | some o =>
      rw [ho] at h2
      simp only at h2 ⊢
      split
      · next hw =>
        rw [if_pos hw] at h2
        rcases h2 with h2 | ⟨-, a', w', hq⟩
        · exact wpIn_of_wp (hd i o ho) hout (fun a w => wpAnyIn_of hd hout fuel _ a w) h2
        · exact absurd hq (hout a' w')
      · next hw =>
        rw [if_neg hw] at h2
        exact ⟨fun _ _ => trivial, wpAnyIn_of hd hout fuel _ _ _ h2⟩

def plainOp (o : Oper) : Bool := match o.op with
  | .defer _ => false
  | _ => true

theorem startR {id m : Nat} {S : World → Prop} {ds : List Nat} {a : Act} {w : World} (l : Array Bool) (hm : P.follows .mixedOrders = true) (hn : ops.size = m) (hl : Array.replicate m false = l) (hnd : ops.all plainOp = true) (hout : ∀ a w, ¬ Q .outgrown a w) (hS : S w.drew)
    (h : S w.drew → wpAnyLast P .any ops Q S ds m l a w.drew) : (Code.region id ops true).wpIn (Fence.wide.inRound l0) n P Q a w := by
  subst hn
  subst hl
  refine wpIn_region_any hm (wpAnyIn_of ?_ hout _ _ _ _ (wpAny_of_last _ _ _ _ (h hS)))
  intro i o ho c e
  have h1 := Array.all_eq_true.mp hnd i (Array.getElem?_eq_some_iff.mp ho).1
  rw [(Array.getElem?_eq_some_iff.mp ho).2] at h1
  unfold plainOp at h1
  rw [e] at h1
  cases h1
end

end Go.Proofs.Ytdkapdgbfejgdaa

/- bigint.short: a magnitude divided by a digit. -/
namespace Go.Proofs.Ytdkapdgbfejgdaa
open Go.Shelf
open Go.RowKit Go.Proofs.YtdkapdgbfejgdaaW.PrintWords Go.Proofs.YtdkapdgbfejgdaaW.PrintLast Go.Proofs.YtdkapdgbfejgdaaW.PrintMore
attribute [local go_sem] Oper.semAt_some
set_option linter.unusedSimpArgs false
set_option linter.unusedVariables false

/-- What is left when k digits are still to come. -/
def ShortInv (l o : List Int) (d : Int) (k : Nat) (r : Int) : Prop :=
  o.length = l.length ∧ Okd 4294967296 o ∧ 0 ≤ r ∧ r < d ∧ vl 4294967296 (l.drop k) = d * vl 4294967296 (o.drop k) + r

theorem vl_drop_at (b : Int) (l : List Int) (i : Nat) (h : i < l.length) : vl b (l.drop i) = l.getD i 0 + b * vl b (l.drop (i + 1)) := by
  rw [List.drop_eq_getElem_cons h, vl_cons]
  simp [List.getD, h]

theorem ShortInv.step {l o : List Int} {d r x q r2 : Int} {i : Nat} (h : ShortInv l o d (i + 1) r) (hi : i < l.length) (hx : l.getD i 0 = x) (d0 : 1 ≤ d) (d1 : d < 4294967296) (x0 : 0 ≤ x) (x1 : x < 4294967296)
    (hq : (r * 4294967296 + x) / d = q) (hr : (r * 4294967296 + x) % d = r2) : ShortInv l (o.set i q) d i r2 ∧ 0 ≤ q ∧ q < 4294967296 ∧ 0 ≤ r2 ∧ r2 < d := by
  obtain ⟨h1, h2, h3, h4, h5⟩ := h
  have hsum := Int.mul_ediv_add_emod (r * 4294967296 + x) d
  rw [hq, hr] at hsum
  have r0 : 0 ≤ r2 := by rw [← hr]; exact Int.emod_nonneg _ (by omega)
  have r1 : r2 < d := by rw [← hr]; exact Int.emod_lt_of_pos _ (by omega)
  have q0 : 0 ≤ q := by rw [← hq]; exact Int.ediv_nonneg (by omega) (by omega)
  have q1 : q < 4294967296 := by
    rw [← hq]
    refine Int.ediv_lt_of_lt_mul (by omega) ?_
    have : (r + 1) * 4294967296 ≤ d * 4294967296 := Int.mul_le_mul_of_nonneg_right (by omega) (by omega)
    omega
  refine ⟨⟨by simp [h1], h2.set _ q0 q1, r0, r1, ?_⟩, q0, q1, r0, r1⟩
  rw [vl_drop_at _ _ _ hi, hx, vl_drop_at _ (o.set i q) i (by simp; omega), h5]
  have e1 : (o.set i q).getD i 0 = q := by simp [List.getD, h1, hi]
  have e2 : (o.set i q).drop (i + 1) = o.drop (i + 1) := by rw [List.drop_set_of_lt (by omega)]
  rw [e1, e2, Int.mul_add, Int.mul_add, Int.mul_left_comm]
  rw [Int.mul_comm r] at hsum
  omega

theorem u64_id {n : Int} (h0 : 0 ≤ n) (h1 : n < 18446744073709551616) : IntKind.u64.wrap n = n := by rw [IntKind.wrap]; simp [IntKind.bits, IntKind.signed]; omega
theorem join64 {r x : Int} (r0 : 0 ≤ r) (r1 : r < 4294967296) (x0 : 0 ≤ x) (x1 : x < 4294967296) : Go.bits .or .u64 (r * 4294967296) x = r * 4294967296 + x := by
  have h := bits_join .u64 64 (by decide) (fun n h0 h1 => by rw [IntKind.wrap]; simp [IntKind.bits, IntKind.signed]; omega) 32 (r * 4294967296) x (by omega) (by omega) (by omega) x0 (by omega) (by omega)
  exact h

/-- It returns a row and a digit. -/
def RetLD (w : World) (l : List Int) (r : Int) (e : Ending) (w' : World) : Prop :=
  ∃ A c, e = .returned (.tuple #[.slice A l.length c, .int .u32 r]) ∧ (⟨.u32, A, c, l⟩ : Rw).at w' (fun k => w.heap.size ≤ k) ∧ Below w.heap.size w w'

set_option maxHeartbeats 4000000 in
set_option maxRecDepth 100000 in
theorem short_ok (A : Option Addr) (c : Nat) (l q : List Int) (d r : Int) (w : World) (ok : Nat → Prop) (hl : Okd 4294967296 l) (hn : l.length ≤ 10000000) (d0 : 1 ≤ d) (d1 : d < 4294967296)
    (hf : (⟨.u32, A, c, l⟩ : Rw).at w ok) (hq : dg 4294967296 (vl 4294967296 l / d).toNat = q) (hr : vl 4294967296 l % d = r) :
    Calls Try.prog 76 #[.slice A l.length c, .int .u32 d] w (RetLD w q r) := by
  have H := (Sit.start w ok).arg hf
  clear hf
  have HQ := Aside0.mk hq
  have HR := Aside0.mk hr
  clear hq hr
  refine callsIn_wide.1 (callsIn_of_wp_marks (F := Fence.wide) (n := 5) Try.func76 rfl trivial ?_)
  refine wpIn_wide.2 ?_
  simp only [Try.ntmps76, List.size_toArray, List.length_cons, List.length_nil, Nat.reduceAdd, Nat.reduceSub, Array.replicate_succ, Array.replicate_zero, List.push_toArray, List.append_toArray, List.nil_append, List.cons_append]
  go_wp2_with (first
    | ((with_reducible refine gate_dst (N := 2) rfl ?_); refine bE #[.slice A l.length c] 23 H ?_; clear H; intro g1 w1 H)
    | ((with_reducible refine gate_dst (N := 3) rfl ?_); refine bE #[.int .u32 d] 93 H ?_; clear H; intro g2 w2 H; have k1 : w2.cell? ⟨g1, 0, none⟩ = some (.slice A l.length c) := H.cell m1 0)
    | ((with_reducible refine gate_dst (N := 11) rfl ?_); refine make_event rfl (N := 11) rfl 23 (.tmp 10) (.tmp 10) rfl .u32 93 4 l.length rfl rfl Try.underlying23 info93 (by omega) (by omega) ?_; intro g3 hg w3 hbox hb; replace H := H.newbox hg hbox hb; clear hg hbox hb k1)
    | ((with_reducible refine gate_dst (N := 6) rfl ?_); refine bE #[.slice none 0 0] 23 H ?_; clear H; intro g4 w4 H; have k4 : w4.cell? ⟨g4, 0, none⟩ = some (.slice none 0 0) := H.cell m0 0; have z4 := H.frozen (g := g4) m0 0)
    | ((with_reducible refine gate_dst (N := 7) rfl ?_); replace H := H.setn [] 0 (.slice (some ⟨g3, 0, none⟩) l.length l.length) rfl; clear k4 z4; refine bE #[.int .u64 0] 99 H ?_; clear H; intro g5 w5 H; have k1 : w5.cell? ⟨g1, 0, none⟩ = some (.slice A l.length c) := H.cell m4 0)
    | (go_at_call 96; refine (Backward_ok _ _ _ _).mono ?_; rintro e w6 ⟨g6, rfl, hg, hbox, hb⟩; replace H := H.newbox hg hbox hb; clear hg hbox hb k1))
  have hL := LS.of H (by intro b hb; simp at hb; rcases hb with rfl | rfl | rfl | rfl | rfl | rfl <;> rfl)
  have hI0 : ShortInv l (List.replicate l.length 0) d l.length 0 := ⟨by simp, Okd.replicate (by omega) _, by omega, by omega, by simp [vl]⟩
  refine wpIn_wide.1 (wpIn_back (n := 5) rfl (by omega) (Bs := g6) (A := A) (len := l.length) (cap := c) (by omega) rfl trivial (fun i x => #[.int .i64 (i : Int), .int .u32 x]) (fun _ _ => rfl) rfl
    (fun k W => ∃ (p : List Int) (s : Int), ShortInv l p d k s ∧ LS w6.heap.size w W ok [(g6, .cells #[.slice A l.length c] 23 (0, 0)), (g5, .cells #[.int .u64 s] 99 (0, 0)), (g4, .cells #[.slice (some ⟨g3, 0, none⟩) l.length l.length] 23 (0, 0)), (g3, .cells (p.map (Value.int .u32)).toArray 93 (0, 0)), (g2, .cells #[.int .u32 d] 93 (0, 0)), (g1, .cells #[.slice A l.length c] 23 (0, 0))] [⟨.u32, A, c, l⟩])
    (fun _ _ => False)
    (fun k A B row hs hg hr => by obtain ⟨p, s, hp, hs⟩ := hs; exact ⟨p, s, hp, hs.grown hg hr⟩) (fun _ _ _ _ hs _ _ => hs)
    (fun k W h => by obtain ⟨p, s, hp, hs⟩ := h; exact hs.sit.cell (.head _) 0) (fun i W h hi => by obtain ⟨p, s, hp, hs⟩ := h; obtain ⟨ad, e, hc⟩ := hs.sit.read (f := ⟨.u32, A, c, l⟩) (.head _) i hi; exact ⟨ad, e, _, hc⟩)
    ⟨_, 0, hI0, hL⟩
    (fun i x => { tmps := #[.slice A l.length c, .int .u32 d, .pointer (some ⟨g1, 0, none⟩), .pointer (some ⟨g2, 0, none⟩), .slice none 0 0, .int .u32 0, .pointer (some ⟨g4, 0, none⟩), .pointer (some ⟨g5, 0, none⟩), .int .i64 (i : Int), .slice A l.length c, .int .i64 (l.length : Int), .slice (some ⟨g3, 0, none⟩) l.length l.length, .slice A l.length c, .func (.func 106) #[] #[.pointer (some ⟨g6, 0, none⟩)], .int .i64 (i : Int), .int .u32 x, undef, undef, undef, undef, undef, undef, undef, undef, undef, undef, undef, undef, undef, undef, undef, undef, undef, undef, undef, undef, undef, undef, undef, undef], defers := [] }) ?assign ?body ?done ?stop)
  case assign =>
    intro l i x W K hK
    gi_wp2
    exact hK
  case body =>
    rintro lb i x ad W ⟨p, s, hP, hS⟩ hlt rfl hx
    obtain ⟨ad0, e0, r0⟩ := hS.sit.read (f := ⟨.u32, some ad, c, l⟩) (.head _) i hlt
    cases e0
    obtain rfl : x = l.getD i 0 := by rw [hx] at r0; simpa using r0
    obtain ⟨x, hx'⟩ : ∃ x, l.getD i 0 = x := ⟨_, rfl⟩
    obtain ⟨x0, x1⟩ := hl.getD (by omega) i
    rw [hx'] at hx x0 x1 ⊢
    clear r0
    obtain ⟨p1, p2, p3, p4, -⟩ := id hP
    obtain ⟨q', hq'⟩ : ∃ q', (s * 4294967296 + x) / d = q' := ⟨_, rfl⟩
    obtain ⟨r', hr'⟩ : ∃ r', (s * 4294967296 + x) % d = r' := ⟨_, rfl⟩
    obtain ⟨T, t0, t1, t2, t3⟩ := hP.step hlt hx' d0 d1 x0 x1 hq' hr'
    replace T := Aside0.mk T
    have hj := join64 p3 (by omega) x0 x1
    have c5 : W.cell? ⟨g5, 0, none⟩ = some (.int .u64 s) := hS.sit.cell m1 0
    have z5 := hS.sit.frozen (g := g5) m1 0
    have c4 : W.cell? ⟨g4, 0, none⟩ = some (.slice (some ⟨g3, 0, none⟩) l.length l.length) := hS.sit.cell m2 0
    have c3 : W.cell? ⟨g3, i, none⟩ = some (.int .u32 (p.getD i 0)) := (hS.sit.cell m3 i).trans (by simp [List.getD, p1, hlt])
    have z3 := hS.sit.frozen (g := g3) m3 i
    have c2 : W.cell? ⟨g2, 0, none⟩ = some (.int .u32 d) := hS.sit.cell m4 0
    have c1 : W.cell? ⟨g1, 0, none⟩ = some (.slice (some ad) l.length c) := hS.sit.cell m5 0
    clear hx' hP p2
    have e1 : IntKind.u64.wrap (s * 4294967296) = s * 4294967296 := u64_id (by omega) (by omega)
    have e2 : IntKind.u64.wrap x = x := u64_id (by omega) (by omega)
    have e3 : IntKind.u64.wrap d = d := u64_id (by omega) (by omega)
    have e4 : ¬ d = 0 := by omega
    have e5 : (s * 4294967296 + x).tdiv d = q' := by rw [Int.tdiv_eq_ediv_of_nonneg (by omega)]; exact hq'
    have e6 : IntKind.u64.wrap q' = q' := u64_id (by omega) (by omega)
    have e7 : IntKind.u32.wrap q' = q' := by rw [IntKind.wrap_u32]; exact Int.emod_eq_of_lt (by omega) (by omega)
    gi_wp2
    refine startR (m := 9) (S := fun w' => w'.cell? ⟨g5, 0, none⟩ = some (.int .u64 s) ∧ w'.cell? ⟨g1, 0, none⟩ = some (.slice (some ad) l.length c) ∧ w'.cell? (ad.add i) = some (.int .u32 x)) (ds := [8]) #[false, false, false, false, false, false, false, false, false] (by kernel_rfl) rfl rfl (by kernel_rfl) (fun _ _ h => h) ⟨c5, c1, hx⟩ (fun hQ => ?_)
    refine pU 3 19 (bm 9 8) ?_
    refine tU hQ 0 16 (bm 9 9) ?_
    refine pU 1 17 (bm 9 11) ?_
    refine tU hQ 2 18 (bm 9 15) ?_
    refine pU 4 20 (bm 9 31) ?_
    refine tU hQ 5 21 (bm 9 63) ?_
    refine pU 6 22 (bm 9 127) ?_
    refine pU 7 23 (bm 9 255) ?_
    refine lU 8 (bm 9 511) (fun K hK => ?_)
    refine kT ?_
    refine hK.out _ _ ?_
    clear hK K
    refine done_ (by kernel_rfl) ?_
    have KF := kf_drew (kf_set (KeepsFrom.refl w6.heap.size W) ⟨g5, 0, none⟩ (.int .u64 (s * 4294967296 + x)))
    replace hS := (hS.setn [_] 0 (.int .u64 (s * 4294967296 + x)) rfl).drew
    clear c5 z5 c4 c3 z3 c2 c1 hx hQ
    gi_wp2
    generalize (W.setCell ⟨g5, 0, none⟩ (.int .u64 (s * 4294967296 + x))).drew = W1 at hS KF ⊢
    have c5 : W1.cell? ⟨g5, 0, none⟩ = some (.int .u64 (s * 4294967296 + x)) := hS.sit.cell m1 0
    have z5 := hS.sit.frozen (g := g5) m1 0
    have c4 : W1.cell? ⟨g4, 0, none⟩ = some (.slice (some ⟨g3, 0, none⟩) l.length l.length) := hS.sit.cell m2 0
    have c3 : W1.cell? ⟨g3, i, none⟩ = some (.int .u32 (p.getD i 0)) := (hS.sit.cell m3 i).trans (by simp [List.getD, p1, hlt])
    have z3 := hS.sit.frozen (g := g3) m3 i
    have c2 : W1.cell? ⟨g2, 0, none⟩ = some (.int .u32 d) := hS.sit.cell m4 0
    refine startR (m := 9) (S := fun w' => w'.cell? ⟨g4, 0, none⟩ = some (.slice (some ⟨g3, 0, none⟩) l.length l.length) ∧ w'.cell? ⟨g5, 0, none⟩ = some (.int .u64 (s * 4294967296 + x)) ∧ w'.cell? ⟨g2, 0, none⟩ = some (.int .u32 d)) (ds := [8]) #[false, false, false, false, false, false, false, false, false] (by kernel_rfl) rfl rfl (by kernel_rfl) (fun _ _ h => h) ⟨c4, c5, c2⟩ (fun hQ => ?_)
    refine pU 1 25 (bm 9 2) ?_
    refine tU hQ 0 24 (bm 9 3) ?_
    refine tU hQ 2 26 (bm 9 7) ?_
    refine tU hQ 3 27 (bm 9 15) ?_
    refine pU 4 28 (bm 9 31) ?_
    refine pU 5 29 (bm 9 63) ?_
    refine pU 6 30 (bm 9 127) ?_
    refine pU 7 31 (bm 9 255) ?_
    refine lU 8 (bm 9 511) (fun K hK => ?_)
    refine kT ?_
    refine hK.out _ _ ?_
    clear hK K
    refine done_ (by kernel_rfl) ?_
    replace KF := kf_drew (kf_set KF ⟨g3, i, none⟩ (.int .u32 q'))
    replace hS := (hS.setn [_, _, _] i (.int .u32 q') (cs' := ((p.set i q').map (Value.int .u32)).toArray) (by simp [List.map_set])).drew
    clear c5 z5 c4 c3 z3 c2 hQ
    generalize (W1.setCell ⟨g3, i, none⟩ (.int .u32 q')).drew = W2 at hS KF ⊢
    have c5 : W2.cell? ⟨g5, 0, none⟩ = some (.int .u64 (s * 4294967296 + x)) := hS.sit.cell m1 0
    have z5 := hS.sit.frozen (g := g5) m1 0
    have c2 : W2.cell? ⟨g2, 0, none⟩ = some (.int .u32 d) := hS.sit.cell m4 0
    have e8 : (s * 4294967296 + x).tmod d = r' := by rw [Int.tmod_eq_emod_of_nonneg (by omega)]; exact hr'
    gi_wp2
    exact ⟨kf_set KF _ _, p.set i q', r', T.out, hS.setn [_] 0 _ rfl⟩
  case done =>
    rintro D W hD ⟨p, s, ⟨p1, p2, p3, p4, p5⟩, hS⟩ hK
    have hv : vl 4294967296 l = d * vl 4294967296 p + s := p5
    have c5 : W.cell? ⟨g5, 0, none⟩ = some (.int .u64 s) := hS.sit.cell m1 0
    have c4 : W.cell? ⟨g4, 0, none⟩ = some (.slice (some ⟨g3, 0, none⟩) l.length l.length) := hS.sit.cell m2 0
    have E1 := Aside0.mk (show trimR p = q by
      have := trimR_dg 4294967296 (by omega) p p2
      rw [this]; show dg 4294967296 (vl 4294967296 p).toNat = _
      rw [← HQ.out, hv, Int.add_comm, Int.add_mul_ediv_left _ _ (by omega), Int.ediv_eq_zero_of_lt p3 p4, Int.zero_add])
    have E2 := Aside0.mk (show s = r by rw [← HR.out, hv, Int.add_comm, Int.add_mul_emod_self_left, Int.emod_eq_of_lt p3 p4])
    have P2 := Aside0.mk p2
    clear p5 hv p2
    go_wp2
    go_region_held3 (fun w' => w'.cell? ⟨g4, 0, none⟩ = some (.slice (some ⟨g3, 0, none⟩) l.length l.length) ∧ w'.cell? ⟨g5, 0, none⟩ = some (.int .u64 s)) (first
        | exact ⟨hS.sit.cell m2 0, hS.sit.cell m1 0⟩
        | exact ⟨hS.drew.sit.cell m2 0, hS.drew.sit.cell m1 0⟩)
      (first
       | (go_at_call 97; (with_reducible refine (trim_ok (some ⟨g3, 0, none⟩) l.length l.length p q _ (fun j => j = g3) p1 (by omega) (box_row (e := 93) (hS.drew.sit.blk m3) p1 (Nat.le_refl _) (by omega)) E1.out).mono ?_); rintro e w7 ⟨A7, c7, rfl, hr, hb⟩; replace hS := hS.drew.call hb; have hK2 := (hb.block D (blk_lt (w := W.drew) hK)).trans hK))
    go_wp2
    have hDW : D < W.heap.size := blk_lt hK
    have hg3 : g3 < W.heap.size := Nat.lt_of_lt_of_le (blk_lt (H.blk m3)) (Nat.le_trans hD (Nat.le_of_lt hDW))
    have hg3D : g3 < D := Nat.lt_of_lt_of_le (blk_lt (H.blk m3)) hD
    have hS' := hS.grown (grownBy_putObj' _ D (.deferred none)) (fun r e => by cases e; exact ⟨hD, _, hK2, rfl⟩)
    refine ⟨by simp, .inl ⟨_, _, rfl, run_takeDeferred hK2, ?_⟩⟩
    refine ⟨.tuple #[.slice A7 q.length c7, .int .u32 r], by simp [results, Try.results76, go_sem, E2.out]; rw [IntKind.wrap_u32]; exact Int.emod_eq_of_lt (by have := E2.out; omega) (by have := E2.out; omega), A7, c7, rfl, ⟨hr.1, Kd.F_mono (Kd.F_grown hr.2 (grownBy_putObj' _ D (.deferred none)) (fun k hk e => by cases e; rcases hk with hk | hk; (exact absurd hk (by omega)); (have : W.drew.heap.size = W.heap.size := rfl; omega))) ?_⟩, hS'.below⟩
    rintro k (rfl | hk)
    · exact (hS.sit.box _ m3).2
    · exact (Nat.le_trans (below_size H.below) (Nat.le_trans hD (Nat.le_trans (Nat.le_of_lt hDW) hk)))
  case stop =>
    rintro D cc W hD h hK
    exact h.elim

end Go.Proofs.Ytdkapdgbfejgdaa
