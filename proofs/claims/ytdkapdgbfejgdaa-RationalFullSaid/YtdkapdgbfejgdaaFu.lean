/- The walk of the law RationalFull. -/
import Derived.Test.YtdkapdgbfejgdaaRl
import Derived.Test.YtdkapdgbfejgdaaTp
namespace Go.Proofs.Ytdkapdgbfejgdaa
open Go.RowKit Go.Proofs.YtdkapdgbfejgdaaW.PrintWords Go.Proofs.YtdkapdgbfejgdaaW.PrintLast Go.Proofs.YtdkapdgbfejgdaaW.PrintMore
set_option linter.unusedSimpArgs false
set_option linter.unusedVariables false
set_option maxHeartbeats 8000000
set_option maxRecDepth 100000

theorem wf_u16 {a : Int} (h : (Lit.int .u16 a).wf = true) : 0 ≤ a ∧ a ≤ 65535 := by
  simp only [Lit.wf, Bool.and_eq_true, decide_eq_true_eq] at h
  exact h
/-- k ones. -/
def ones (k : Nat) : List Int := List.replicate k 49
/-- k ones, and perhaps an x in the middle. -/
def tl (k : Nat) (b : Bool) : List Int := if b then (ones k).set (k / 2) 120 else ones k
def tS (k : Nat) (b : Bool) : ByteArray := strOfNums (tl k b)
theorem tl_len (k : Nat) (b : Bool) : (tl k b).length = k := by unfold tl ones; split <;> simp
theorem tl_range (k : Nat) (b : Bool) : ∀ x ∈ tl k b, x = 49 ∨ x = 120 := by
  intro x hx
  unfold tl ones at hx
  split at hx
  · rcases List.mem_or_eq_of_mem_set hx with h | h
    · exact .inl (List.eq_of_mem_replicate h)
    · exact .inr h
  · exact .inl (List.eq_of_mem_replicate hx)
theorem tS_bytes (k : Nat) (b : Bool) : bytesOf (tS k b) = tl k b := by
  unfold tS bytesOf strOfNums
  have h : ∀ l : List Int, (∀ x ∈ l, x = 49 ∨ x = 120) → (l.map fun n => UInt8.ofNat n.toNat).map (fun b : UInt8 => (b.toNat : Int)) = l := by
    intro l
    induction l with
    | nil => intro _; rfl
    | cons x r ih =>
      intro h
      rw [List.map_cons, List.map_cons, ih (fun y hy => h y (.tail _ hy))]
      rcases h x (.head _) with rfl | rfl <;> rfl
  simpa using h (tl k b) (tl_range k b)
theorem tS_size (k : Nat) (b : Bool) : (tS k b).size = k := by rw [← bytesOf_length, tS_bytes, tl_len]
theorem tS_bt (k : Nat) (b : Bool) (i : Nat) : bt (tS k b) (i : Int) = (tl k b).getD i 0 := by rw [bt_getD, tS_bytes]
theorem tS_bt1 {k : Nat} {b : Bool} {i : Nat} (h : i < k) : bt (tS k b) (i : Int) = 49 ∨ bt (tS k b) (i : Int) = 120 := by
  rw [tS_bt]
  have hi : i < (tl k b).length := by rw [tl_len]; exact h
  rw [List.getD_eq_getElem?_getD, List.getElem?_eq_getElem hi]
  exact tl_range k b _ (List.getElem_mem hi)
theorem tS_no47 (k : Nat) (b : Bool) : cutF (tS k b) = false := by
  unfold cutF
  refine decide_eq_false (fun h => ?_)
  obtain ⟨j, hj⟩ := Int.eq_ofNat_of_zero_le h
  have h1 := ci_lt _ j hj
  have h2 := (Lib.indexByte_some hj).1
  obtain ⟨h3, h4⟩ := List.getElem?_eq_some_iff.mp h2
  have h5 : j < k := by rw [tS_size] at h1; omega
  have h6 := tS_bt1 (b := b) h5
  have h7 : bt (tS k b) (j : Int) = 47 := by
    rw [bt_getD]
    unfold bytesOf
    rw [List.getD_eq_getElem?_getD, List.getElem?_map, h2]
    rfl
  omega
theorem tS_cut (k : Nat) (b : Bool) (h : 1 ≤ k) : cutB (tS k b) = false ∧ frm (tS k b) = 0 := by
  rcases cut_cases (tS k b) with ⟨-, -, h2, -⟩ | ⟨h1, -, -⟩
  · have := tS_bt1 (k := k) (b := b) (i := 0) (by omega)
    have e : bt (tS k b) ((0 : Nat) : Int) = 45 := h2
    omega
  · exact ⟨h1, by unfold frm; rw [h1]; rfl⟩
theorem tS_mid (k : Nat) (h : 1 ≤ k) : bt (tS k true) ((k / 2 : Nat) : Int) = 120 := by
  rw [tS_bt]
  have h2 : k / 2 < (ones k).length := by unfold ones; rw [List.length_replicate]; omega
  unfold tl
  rw [if_pos rfl, List.getD_eq_getElem?_getD, List.getElem?_set_self h2]
  rfl
theorem tS_one (k i : Nat) (h : i < k) : bt (tS k false) (i : Int) = 49 := by
  rw [tS_bt]
  unfold tl ones
  simp [List.getD_eq_getElem?_getD, h]
theorem tS_pr (k : Nat) (h : 1 ≤ k) (h2 : k ≤ 4096) : ∃ x, pr (tS k false) = (x, 0) ∧ 0 < x := by
  obtain ⟨⟨x, e⟩, hp⟩ : ∃ v, pr (tS k false) = v := ⟨_, rfl⟩
  obtain ⟨c1, c2⟩ := tS_cut k false h
  have c3 : bt (tS k false) ((0 : Nat) : Int) = 49 := tS_one k 0 (by omega)
  have hd : Dg (tS k false) 0 k := by
    intro j _ hj
    have : bt (tS k false) (j : Int) = 49 := tS_one k j (by omega)
    exact ⟨by omega, by omega⟩
  rcases pr_eq _ (by rw [tS_size]; exact h2) x e hp with ⟨g1, g2, g3, g4, g5⟩ | ⟨g1, -, -⟩
  · subst g4
    refine ⟨x, hp, ?_⟩
    rw [c1, if_neg (by simp), c2, tS_size] at g5
    obtain ⟨m, rfl⟩ : ∃ m, k = m + 1 := ⟨k - 1, by omega⟩
    have hb := (pc_bound (k := m) (fun j a b => hd j a (by omega))).1
    rw [g5, show m + 1 - 0 = m + 1 from rfl, pc, tS_one (m + 1) (0 + m) (by omega)]
    omega
  · exfalso
    rw [c2, tS_size] at g1
    rcases g1 with g1 | g1 | g1
    · omega
    · omega
    · exact g1 hd
theorem tS_pr' (k : Nat) (h : 1 ≤ k) (h2 : k ≤ 4096) : (pr (tS k true)).2 ≠ 0 := by
  obtain ⟨⟨x, e⟩, hp⟩ : ∃ v, pr (tS k true) = v := ⟨_, rfl⟩
  obtain ⟨c1, c2⟩ := tS_cut k true h
  rw [hp]
  rcases pr_eq _ (by rw [tS_size]; exact h2) x e hp with ⟨g1, g2, g3, g4, g5⟩ | ⟨-, g1, -⟩
  · exfalso
    rw [c2, tS_size] at g3
    have := (g3 (k / 2) (by omega) (by omega)).2
    have := tS_mid k h
    omega
  · simp only [g1]; decide
theorem cutL_no {s : ByteArray} (h : cutF s = false) : cutL s = s := by
  unfold cutF at h
  unfold cutL
  rw [if_neg (of_decide_eq_false h)]
theorem qn_one (n : Int) : qn n 1 = n ∧ qd n 1 = 1 := by
  unfold qn qd
  rw [if_neg (by decide), if_neg (by decide), if_neg (by decide), if_neg (by decide)]
  have : Int.gcd n 1 = 1 := by simp
  rw [this]
  exact ⟨Int.tdiv_one n, by decide⟩
theorem tS_rp (k : Nat) (b : Bool) (h : 1 ≤ k) : ∃ n d e, rp (tS k b) = (n, d, e) ∧ ln n ≤ 512 ∧ ln d ≤ 512 ∧ (4096 < k → e = 5 ∧ n = 0) ∧ (k ≤ 4096 → b = true → e = 3 ∧ n = 0) ∧ (k ≤ 4096 → b = false → e = 0 ∧ qt n d = tS k b) := by
  obtain ⟨⟨n, d, e⟩, hp⟩ : ∃ v, rp (tS k b) = v := ⟨_, rfl⟩
  have hz : ∀ {n d e : Int}, n = 0 → d = 0 → ln n ≤ 512 ∧ ln d ≤ 512 := by rintro _ _ _ rfl rfl; exact ⟨Nat.zero_le _, Nat.zero_le _⟩
  have hp0 := hp
  unfold rp at hp
  rw [tS_size] at hp
  by_cases h1 : 4096 < k
  · rw [if_pos h1] at hp
    obtain ⟨rfl, rfl, rfl⟩ : 0 = n ∧ 0 = d ∧ 5 = e := by simpa using hp
    exact ⟨0, 0, 5, hp0, Nat.zero_le _, Nat.zero_le _, fun _ => ⟨rfl, rfl⟩, fun h => absurd h (by omega), fun h => absurd h (by omega)⟩
  · rw [if_neg h1, cutL_no (tS_no47 k b), tS_no47 k b] at hp
    cases b with
    | true =>
      have := tS_pr' k h (by omega)
      simp only [this, ne_eq, not_false_eq_true, true_or, if_true] at hp
      obtain ⟨rfl, rfl, rfl⟩ : 0 = n ∧ 0 = d ∧ 3 = e := by simpa using hp
      exact ⟨0, 0, 3, hp0, Nat.zero_le _, Nat.zero_le _, fun h => absurd h h1, fun _ _ => ⟨rfl, rfl⟩, fun _ h => by cases h⟩
    | false =>
      obtain ⟨x, hx, hx0⟩ := tS_pr k h (by omega)
      have ht : qt x 1 = tS k false := by
        unfold qt
        rw [if_pos (by decide)]
        exact tx_pr _ (by rw [tS_size]; omega) x hx
      simp only [hx, pr_49, (qn_one x).1, (qn_one x).2, ht, if_true, if_false, Bool.false_eq_true] at hp
      rw [if_neg (by decide)] at hp
      obtain ⟨rfl, rfl, rfl⟩ : x = n ∧ 1 = d ∧ 0 = e := by simpa using hp
      exact ⟨x, 1, 0, hp0, pr_lim hx, Nat.le_trans (ln_bound 1 1 (by decide)) (by decide), fun h => absurd h h1, fun _ h => by (cases h), fun _ _ => ⟨rfl, ht⟩⟩

/-- A box of bytes, read from its beginning. -/
theorem box_reads {w : World} {g e n : Nat} {l : List Int} (h : w.heap[g]? = some (.cells (l.map (Value.int .u8)).toArray e (0, 0))) (hn : n = l.length) (hl : n ≤ 9223372036854775807) : ReadsInt w .u8 (some ⟨g, 0, none⟩) n l := by
  subst hn
  refine ⟨rfl, hl, fun _ => ⟨_, rfl, fun j hj => ?_⟩⟩
  have h1 := blk_cell h j
  have h2 : (⟨g, 0, none⟩ : Addr).add j = ⟨g, j, none⟩ := by
    unfold Addr.add
    by_cases h0 : j = 0 <;> simp [h0]
  rw [h2, h1]
  simp [List.getD, List.getElem?_eq_getElem hj]
theorem conv_event {P : Program} {ops : Array Oper} {Q : Exit → Act → World → Prop} {rest : List Oper} {o : Oper} {a : Act} {W : World} (hgd : o.guard = none) {N : Tmp} (hd : o.dst = some N) (src dst e : TypeId) (x : Operand) (ho : o.op = .convert src dst x)
    {A : Option Addr} {n c : Nat} {xs : List Int} (hx : a.eval x = .slice A n c) (hs : P.underlying src = some (.slice e)) (he : P.underlying e = some (.int .u8)) (hds : P.underlying dst = some .string) (hr : ReadsInt W .u8 A n xs) (s : ByteArray) (hxs : strOfNums xs = s)
    (h : wpList P ops Q rest (a.put (some N) (.string s)) W) : wpList P ops Q (o :: rest) a W := by
  subst hxs
  refine Kd.event_run hgd (v := .string (strOfNums xs)) (w1 := W) ?_ (by rw [hd]; exact h)
  unfold execOp
  simp only [ho, hx]
  simp [string_of_reads hs he hds hr]
def fillO (K k : Nat) : List Int := List.replicate k 49 ++ List.replicate (K - k) 0
theorem fillO_get {K k : Nat} (h : k < K) : ((fillO K k).map (Value.int .u8)).toArray[k]? = some (.int .u8 0) := by
  have e : (fillO K k)[k]? = some 0 := by
    unfold fillO
    rw [List.getElem?_append_right (by simp), List.length_replicate, Nat.sub_self, List.getElem?_replicate, if_pos (by omega)]
  simp [e]
theorem fillO_set {K k : Nat} (h : k < K) : (fillO K k).set k 49 = fillO K (k + 1) := by
  unfold fillO
  rw [List.set_append_right _ _ (by simp), List.length_replicate, Nat.sub_self]
  obtain ⟨d, hd⟩ : ∃ d, K - k = d + 1 := ⟨K - k - 1, by omega⟩
  rw [hd, List.replicate_succ, List.set_cons_zero, show K - (k + 1) = d by omega, List.replicate_succ']
  simp
theorem fillO_all (K : Nat) : fillO K K = ones K := by unfold fillO ones; rw [Nat.sub_self]; simp
theorem ones_get {K k : Nat} (h : k < K) : ((ones K).map (Value.int .u8)).toArray[k]? = some (.int .u8 49) := by
  unfold ones
  simp [h]
theorem info5' : (Try.prog.info? 5).map (fun i => (i.zero, i.size, i.bytes)) = some (some (.int .u8 0), 1, 1) := by kernel_rfl

theorem ful_bt (a : Int) (a0 : 0 ≤ a) (a1 : a ≤ 65535) (K : Nat) (hK : 4000 + a % 300 = (K : Int)) (hr0 : 0 ≤ a % 300) (hr1 : a % 300 < 300) (h4 : 4000 ≤ K) (h5 : K ≤ 4300) (n d : Int) (bn : Aside0 (ln n ≤ 512)) (bd : Aside0 (ln d ≤ 512)) (hbig : 4096 < K) (hp : Aside0 (rp (tS K true) = (n, d, 5))) (hs : Aside0 (sg n = 0)) (w : World) : Calls Try.prog 15 #[.int .u16 a, .bool true] w (fun e W' => e = .returned (.bool true) ∧ Below w.heap.size w W') := by
  have hu25 := Try.underlying25
  have hu51 := Try.underlying51
  have hu5 := Try.underlying5
  have H := Sit.start w (fun _ => False)
  go_enter Try.func15, Try.ntmps15
  have st2 := trivial
  go_upto_region 4 with (first
    | (clear st2; go_at_call 38; (with_reducible refine (awake2 _).mono ?_); rintro e wA ⟨rfl, hb⟩; replace H := H.call hb; clear hb))
  (try simp only [Act.put, List.setIfInBounds_toArray, List.set_cons_zero, List.set_cons_succ])
  try simp only [hK]
  have st3 := trivial
  go_wp2_with (first
    | (clear st3; (with_reducible refine gate_dst (N := 17) rfl ?_); refine make_event rfl (N := 17) rfl 57 (.tmp 16) (.tmp 16) rfl .u8 5 1 K rfl rfl Try.underlying57 info5' (by omega) (by omega) ?_; intro gb hg w4 hbox hb; replace H := H.newbox hg hbox hb; clear hg hbox hb))
  go_loopw [20] (fun iv wr => ∃ k : Nat, iv = .int .i64 k ∧ k ≤ K ∧ Sit w wr (fun _ => False) [(gb, .cells ((fillO K k).map (Value.int .u8)).toArray 5 (0, 0))] []) (fun iv _ => 5000 - (intOf iv).toNat)
  case atStart => exact ⟨0, rfl, by omega, H⟩
  case round =>
    clear H
    obtain ⟨k, rfl, hk, H⟩ := hrel
    by_cases hlt : k < K
    · skip
      have z0 : wr.cell? ⟨gb, k, none⟩ = some (.int .u8 0) := (H.cell m0 k).trans (fillO_get hlt)
      have z1 := H.frozen (g := gb) m0 k
      go_wp2
      go_roundw
      case rel => exact ⟨k + 1, by go_num, by omega, H.setn [] k _ (by rw [← fillO_set hlt]; simp [List.map_set])⟩
      case measure => first | (simp [intOf]; done) | (simp [intOf]; omega)
    · skip
      obtain rfl : k = K := by omega
      clear hk hlt
      rw [fillO_all] at H
      have hkb : k / 2 < k := by omega
      have hq : (k : Int).tdiv 2 = ((k / 2 : Nat) : Int) := by rw [Int.tdiv_eq_ediv_of_nonneg (by omega)]; omega
      have z0 : wr.cell? ⟨gb, k / 2, none⟩ = some (.int .u8 49) := (H.cell m0 (k / 2)).trans (ones_get hkb)
      have z1 := H.frozen (g := gb) m0 (k / 2)
      have hq2 : ((k / 2 : Nat) : Int) < (k : Int) := by omega
      have HS := H.setn [] (k / 2) (.int .u8 120) (cs' := ((tl k true).map (Value.int .u8)).toArray) (by unfold tl; simp [List.map_set])
      go_upto_region 12 with fail
      replace H := HS
      clear z0 z1
      have z5 : (4096 : Int) < (k : Int) := by omega
      have z6 : decide ((4096 : Int) < (k : Int)) = true := decide_eq_true z5
      have z7 : decide (4096 < k) = true := decide_eq_true (by omega)
      have z8 : 4096 < k := by omega
      have st4 := trivial
      have st10 := trivial
      have st12 := trivial
      go_upto_region 13 with (first
        | (clear st4; (with_reducible refine gate_dst (N := 34) rfl ?_); refine conv_event rfl (N := 34) rfl 57 9 5 (.tmp 33) rfl (A := some ⟨gb, 0, none⟩) (n := k) (c := k) (xs := tl k true) rfl Try.underlying57 Try.underlying5 Try.underlying9 (box_reads (H.blk m0) (tl_len k true).symm (by omega)) (tS k true) rfl ?_)
        | (clear st10; go_at_call 49; (with_reducible refine (ParseR (tS k true) _ n d 5 hp.out).mono ?_); rintro e w5 ⟨A6, c7, A8, c9, rfl, hr, hr2, hb⟩; replace H := (H.got (fresh_row hr) hb).more ((H.got (fresh_row hr2) hb).row _ m0); clear hr hr2 hb)
        | (clear st12; (with_reducible refine gate_dst (N := 8) rfl ?_); refine box_event ?hg (N := 8) ?hd (cs := #[.bool false, .slice none 0 0, .bool false, .slice none 0 0]) (t := 51) ?hr ?_; (case hd => rfl); (case hg => rfl); (case hr => go_simp; try rfl); intro g8 hg w11 hbox hb; replace H := H.newbox hg hbox hb; clear hg hbox hb; obtain ⟨k8_0, z8_0, k8_1, z8_1, k8_2, z8_2, k8_3, z8_3⟩ := H.b4 (g := g8) m0; have ne_g8_gb := H.ne (g := g8) (g' := gb) 0 1 rfl rfl (by decide); have ne_gb_g8 := ne_g8_gb.symm))
      (try simp only [Act.put, List.setIfInBounds_toArray, List.set_cons_zero, List.set_cons_succ])
      replace H := H.set4 [] (.bool (ng n)) (.slice A6 (ln n) c7) (.bool (ng d)) (.slice A8 (ln d) c9)
      clear k8_0 z8_0 k8_1 z8_1 k8_2 z8_2 k8_3 z8_3
      generalize ((((w11.setCell ⟨g8, 0, none⟩ (.bool (ng n))).setCell ⟨g8, 1, none⟩ (.slice A6 (ln n) c7)).setCell ⟨g8, 2, none⟩ (.bool (ng d))).setCell ⟨g8, 3, none⟩ (.slice A8 (ln d) c9)) = w13 at H ⊢
      obtain ⟨k8_0, z8_0, k8_1, z8_1, k8_2, z8_2, k8_3, z8_3⟩ := H.b4 (g := g8) m0
      have st15 := trivial
      go_wp2_with (first
        | (clear st15; go_at_call 54; (with_reducible refine (SignR (lim bn.out (by decide)) 0 hs.out).mono ?_); rintro e w14 ⟨rfl, hb⟩; replace H := H.call hb; clear hb; clear k8_0 z8_0 k8_1 z8_1 k8_2 z8_2 k8_3 z8_3; obtain ⟨k8_0, z8_0, k8_1, z8_1, k8_2, z8_2, k8_3, z8_3⟩ := H.b4 (g := g8) m0))
      go_ret
      exact ⟨rfl, H.below⟩

theorem ful_xt (a : Int) (a0 : 0 ≤ a) (a1 : a ≤ 65535) (K : Nat) (hK : 4000 + a % 300 = (K : Int)) (hr0 : 0 ≤ a % 300) (hr1 : a % 300 < 300) (h4 : 4000 ≤ K) (h5 : K ≤ 4300) (n d : Int) (bn : Aside0 (ln n ≤ 512)) (bd : Aside0 (ln d ≤ 512)) (hbig : K ≤ 4096) (hp : Aside0 (rp (tS K true) = (n, d, 3))) (hs : Aside0 (sg n = 0)) (w : World) : Calls Try.prog 15 #[.int .u16 a, .bool true] w (fun e W' => e = .returned (.bool true) ∧ Below w.heap.size w W') := by
  have hu25 := Try.underlying25
  have hu51 := Try.underlying51
  have hu5 := Try.underlying5
  have H := Sit.start w (fun _ => False)
  go_enter Try.func15, Try.ntmps15
  have st2 := trivial
  go_upto_region 4 with (first
    | (clear st2; go_at_call 38; (with_reducible refine (awake2 _).mono ?_); rintro e wA ⟨rfl, hb⟩; replace H := H.call hb; clear hb))
  (try simp only [Act.put, List.setIfInBounds_toArray, List.set_cons_zero, List.set_cons_succ])
  try simp only [hK]
  have st3 := trivial
  go_wp2_with (first
    | (clear st3; (with_reducible refine gate_dst (N := 17) rfl ?_); refine make_event rfl (N := 17) rfl 57 (.tmp 16) (.tmp 16) rfl .u8 5 1 K rfl rfl Try.underlying57 info5' (by omega) (by omega) ?_; intro gb hg w4 hbox hb; replace H := H.newbox hg hbox hb; clear hg hbox hb))
  go_loopw [20] (fun iv wr => ∃ k : Nat, iv = .int .i64 k ∧ k ≤ K ∧ Sit w wr (fun _ => False) [(gb, .cells ((fillO K k).map (Value.int .u8)).toArray 5 (0, 0))] []) (fun iv _ => 5000 - (intOf iv).toNat)
  case atStart => exact ⟨0, rfl, by omega, H⟩
  case round =>
    clear H
    obtain ⟨k, rfl, hk, H⟩ := hrel
    by_cases hlt : k < K
    · skip
      have z0 : wr.cell? ⟨gb, k, none⟩ = some (.int .u8 0) := (H.cell m0 k).trans (fillO_get hlt)
      have z1 := H.frozen (g := gb) m0 k
      go_wp2
      go_roundw
      case rel => exact ⟨k + 1, by go_num, by omega, H.setn [] k _ (by rw [← fillO_set hlt]; simp [List.map_set])⟩
      case measure => first | (simp [intOf]; done) | (simp [intOf]; omega)
    · skip
      obtain rfl : k = K := by omega
      clear hk hlt
      rw [fillO_all] at H
      have hkb : k / 2 < k := by omega
      have hq : (k : Int).tdiv 2 = ((k / 2 : Nat) : Int) := by rw [Int.tdiv_eq_ediv_of_nonneg (by omega)]; omega
      have z0 : wr.cell? ⟨gb, k / 2, none⟩ = some (.int .u8 49) := (H.cell m0 (k / 2)).trans (ones_get hkb)
      have z1 := H.frozen (g := gb) m0 (k / 2)
      have hq2 : ((k / 2 : Nat) : Int) < (k : Int) := by omega
      have HS := H.setn [] (k / 2) (.int .u8 120) (cs' := ((tl k true).map (Value.int .u8)).toArray) (by unfold tl; simp [List.map_set])
      go_upto_region 12 with fail
      replace H := HS
      clear z0 z1
      have z8 : ¬ 4096 < k := by omega
      have z7 : decide (4096 < k) = false := decide_eq_false z8
      have st4 := trivial
      have st10 := trivial
      have st12 := trivial
      go_upto_region 13 with (first
        | (clear st4; (with_reducible refine gate_dst (N := 34) rfl ?_); refine conv_event rfl (N := 34) rfl 57 9 5 (.tmp 33) rfl (A := some ⟨gb, 0, none⟩) (n := k) (c := k) (xs := tl k true) rfl Try.underlying57 Try.underlying5 Try.underlying9 (box_reads (H.blk m0) (tl_len k true).symm (by omega)) (tS k true) rfl ?_)
        | (clear st10; go_at_call 49; (with_reducible refine (ParseR (tS k true) _ n d 3 hp.out).mono ?_); rintro e w5 ⟨A6, c7, A8, c9, rfl, hr, hr2, hb⟩; replace H := (H.got (fresh_row hr) hb).more ((H.got (fresh_row hr2) hb).row _ m0); clear hr hr2 hb)
        | (clear st12; (with_reducible refine gate_dst (N := 8) rfl ?_); refine box_event ?hg (N := 8) ?hd (cs := #[.bool false, .slice none 0 0, .bool false, .slice none 0 0]) (t := 51) ?hr ?_; (case hd => rfl); (case hg => rfl); (case hr => go_simp; try rfl); intro g8 hg w11 hbox hb; replace H := H.newbox hg hbox hb; clear hg hbox hb; obtain ⟨k8_0, z8_0, k8_1, z8_1, k8_2, z8_2, k8_3, z8_3⟩ := H.b4 (g := g8) m0; have ne_g8_gb := H.ne (g := g8) (g' := gb) 0 1 rfl rfl (by decide); have ne_gb_g8 := ne_g8_gb.symm))
      (try simp only [Act.put, List.setIfInBounds_toArray, List.set_cons_zero, List.set_cons_succ])
      replace H := H.set4 [] (.bool (ng n)) (.slice A6 (ln n) c7) (.bool (ng d)) (.slice A8 (ln d) c9)
      clear k8_0 z8_0 k8_1 z8_1 k8_2 z8_2 k8_3 z8_3
      generalize ((((w11.setCell ⟨g8, 0, none⟩ (.bool (ng n))).setCell ⟨g8, 1, none⟩ (.slice A6 (ln n) c7)).setCell ⟨g8, 2, none⟩ (.bool (ng d))).setCell ⟨g8, 3, none⟩ (.slice A8 (ln d) c9)) = w13 at H ⊢
      obtain ⟨k8_0, z8_0, k8_1, z8_1, k8_2, z8_2, k8_3, z8_3⟩ := H.b4 (g := g8) m0
      have st15 := trivial
      go_wp2_with (first
        | (clear st15; go_at_call 54; (with_reducible refine (SignR (lim bn.out (by decide)) 0 hs.out).mono ?_); rintro e w14 ⟨rfl, hb⟩; replace H := H.call hb; clear hb; clear k8_0 z8_0 k8_1 z8_1 k8_2 z8_2 k8_3 z8_3; obtain ⟨k8_0, z8_0, k8_1, z8_1, k8_2, z8_2, k8_3, z8_3⟩ := H.b4 (g := g8) m0))
      go_ret
      exact ⟨rfl, H.below⟩

theorem ful_bf (a : Int) (a0 : 0 ≤ a) (a1 : a ≤ 65535) (K : Nat) (hK : 4000 + a % 300 = (K : Int)) (hr0 : 0 ≤ a % 300) (hr1 : a % 300 < 300) (h4 : 4000 ≤ K) (h5 : K ≤ 4300) (n d : Int) (bn : Aside0 (ln n ≤ 512)) (bd : Aside0 (ln d ≤ 512)) (hbig : 4096 < K) (hp : Aside0 (rp (tS K false) = (n, d, 5))) (hs : Aside0 (sg n = 0)) (w : World) : Calls Try.prog 15 #[.int .u16 a, .bool false] w (fun e W' => e = .returned (.bool true) ∧ Below w.heap.size w W') := by
  have hu25 := Try.underlying25
  have hu51 := Try.underlying51
  have hu5 := Try.underlying5
  have H := Sit.start w (fun _ => False)
  go_enter Try.func15, Try.ntmps15
  have st2 := trivial
  go_upto_region 4 with (first
    | (clear st2; go_at_call 38; (with_reducible refine (awake2 _).mono ?_); rintro e wA ⟨rfl, hb⟩; replace H := H.call hb; clear hb))
  (try simp only [Act.put, List.setIfInBounds_toArray, List.set_cons_zero, List.set_cons_succ])
  try simp only [hK]
  have st3 := trivial
  go_wp2_with (first
    | (clear st3; (with_reducible refine gate_dst (N := 17) rfl ?_); refine make_event rfl (N := 17) rfl 57 (.tmp 16) (.tmp 16) rfl .u8 5 1 K rfl rfl Try.underlying57 info5' (by omega) (by omega) ?_; intro gb hg w4 hbox hb; replace H := H.newbox hg hbox hb; clear hg hbox hb))
  go_loopw [20] (fun iv wr => ∃ k : Nat, iv = .int .i64 k ∧ k ≤ K ∧ Sit w wr (fun _ => False) [(gb, .cells ((fillO K k).map (Value.int .u8)).toArray 5 (0, 0))] []) (fun iv _ => 5000 - (intOf iv).toNat)
  case atStart => exact ⟨0, rfl, by omega, H⟩
  case round =>
    clear H
    obtain ⟨k, rfl, hk, H⟩ := hrel
    by_cases hlt : k < K
    · skip
      have z0 : wr.cell? ⟨gb, k, none⟩ = some (.int .u8 0) := (H.cell m0 k).trans (fillO_get hlt)
      have z1 := H.frozen (g := gb) m0 k
      go_wp2
      go_roundw
      case rel => exact ⟨k + 1, by go_num, by omega, H.setn [] k _ (by rw [← fillO_set hlt]; simp [List.map_set])⟩
      case measure => first | (simp [intOf]; done) | (simp [intOf]; omega)
    · skip
      obtain rfl : k = K := by omega
      clear hk hlt
      rw [fillO_all] at H
      replace H : Sit w wr (fun _ => False) [(gb, .cells ((tl k false).map (Value.int .u8)).toArray 5 (0, 0))] [] := H
      have z5 : (4096 : Int) < (k : Int) := by omega
      have z6 : decide ((4096 : Int) < (k : Int)) = true := decide_eq_true z5
      have z7 : decide (4096 < k) = true := decide_eq_true (by omega)
      have z8 : 4096 < k := by omega
      have st4 := trivial
      have st10 := trivial
      have st12 := trivial
      go_upto_region 13 with (first
        | (clear st4; (with_reducible refine gate_dst (N := 34) rfl ?_); refine conv_event rfl (N := 34) rfl 57 9 5 (.tmp 33) rfl (A := some ⟨gb, 0, none⟩) (n := k) (c := k) (xs := tl k false) rfl Try.underlying57 Try.underlying5 Try.underlying9 (box_reads (H.blk m0) (tl_len k false).symm (by omega)) (tS k false) rfl ?_)
        | (clear st10; go_at_call 49; (with_reducible refine (ParseR (tS k false) _ n d 5 hp.out).mono ?_); rintro e w5 ⟨A6, c7, A8, c9, rfl, hr, hr2, hb⟩; replace H := (H.got (fresh_row hr) hb).more ((H.got (fresh_row hr2) hb).row _ m0); clear hr hr2 hb)
        | (clear st12; (with_reducible refine gate_dst (N := 8) rfl ?_); refine box_event ?hg (N := 8) ?hd (cs := #[.bool false, .slice none 0 0, .bool false, .slice none 0 0]) (t := 51) ?hr ?_; (case hd => rfl); (case hg => rfl); (case hr => go_simp; try rfl); intro g8 hg w11 hbox hb; replace H := H.newbox hg hbox hb; clear hg hbox hb; obtain ⟨k8_0, z8_0, k8_1, z8_1, k8_2, z8_2, k8_3, z8_3⟩ := H.b4 (g := g8) m0; have ne_g8_gb := H.ne (g := g8) (g' := gb) 0 1 rfl rfl (by decide); have ne_gb_g8 := ne_g8_gb.symm))
      (try simp only [Act.put, List.setIfInBounds_toArray, List.set_cons_zero, List.set_cons_succ])
      replace H := H.set4 [] (.bool (ng n)) (.slice A6 (ln n) c7) (.bool (ng d)) (.slice A8 (ln d) c9)
      clear k8_0 z8_0 k8_1 z8_1 k8_2 z8_2 k8_3 z8_3
      generalize ((((w11.setCell ⟨g8, 0, none⟩ (.bool (ng n))).setCell ⟨g8, 1, none⟩ (.slice A6 (ln n) c7)).setCell ⟨g8, 2, none⟩ (.bool (ng d))).setCell ⟨g8, 3, none⟩ (.slice A8 (ln d) c9)) = w13 at H ⊢
      obtain ⟨k8_0, z8_0, k8_1, z8_1, k8_2, z8_2, k8_3, z8_3⟩ := H.b4 (g := g8) m0
      have st15 := trivial
      go_wp2_with (first
        | (clear st15; go_at_call 54; (with_reducible refine (SignR (lim bn.out (by decide)) 0 hs.out).mono ?_); rintro e w14 ⟨rfl, hb⟩; replace H := H.call hb; clear hb; clear k8_0 z8_0 k8_1 z8_1 k8_2 z8_2 k8_3 z8_3; obtain ⟨k8_0, z8_0, k8_1, z8_1, k8_2, z8_2, k8_3, z8_3⟩ := H.b4 (g := g8) m0))
      go_ret
      exact ⟨rfl, H.below⟩

theorem ful_ok (a : Int) (a0 : 0 ≤ a) (a1 : a ≤ 65535) (K : Nat) (hK : 4000 + a % 300 = (K : Int)) (hr0 : 0 ≤ a % 300) (hr1 : a % 300 < 300) (h4 : 4000 ≤ K) (h5 : K ≤ 4300) (n d : Int) (bn : Aside0 (ln n ≤ 512)) (bd : Aside0 (ln d ≤ 512)) (hbig : K ≤ 4096) (hp : Aside0 (rp (tS K false) = (n, d, 0))) (ht : Aside0 (qt n d = tS K false)) (f9 : ((tS K false).toList == (tS K false).toList) = true) (w : World) : Calls Try.prog 15 #[.int .u16 a, .bool false] w (fun e W' => e = .returned (.bool true) ∧ Below w.heap.size w W') := by
  have hu25 := Try.underlying25
  have hu51 := Try.underlying51
  have hu5 := Try.underlying5
  have H := Sit.start w (fun _ => False)
  go_enter Try.func15, Try.ntmps15
  have st2 := trivial
  go_upto_region 4 with (first
    | (clear st2; go_at_call 38; (with_reducible refine (awake2 _).mono ?_); rintro e wA ⟨rfl, hb⟩; replace H := H.call hb; clear hb))
  (try simp only [Act.put, List.setIfInBounds_toArray, List.set_cons_zero, List.set_cons_succ])
  try simp only [hK]
  have st3 := trivial
  go_wp2_with (first
    | (clear st3; (with_reducible refine gate_dst (N := 17) rfl ?_); refine make_event rfl (N := 17) rfl 57 (.tmp 16) (.tmp 16) rfl .u8 5 1 K rfl rfl Try.underlying57 info5' (by omega) (by omega) ?_; intro gb hg w4 hbox hb; replace H := H.newbox hg hbox hb; clear hg hbox hb))
  go_loopw [20] (fun iv wr => ∃ k : Nat, iv = .int .i64 k ∧ k ≤ K ∧ Sit w wr (fun _ => False) [(gb, .cells ((fillO K k).map (Value.int .u8)).toArray 5 (0, 0))] []) (fun iv _ => 5000 - (intOf iv).toNat)
  case atStart => exact ⟨0, rfl, by omega, H⟩
  case round =>
    clear H
    obtain ⟨k, rfl, hk, H⟩ := hrel
    by_cases hlt : k < K
    · skip
      have z0 : wr.cell? ⟨gb, k, none⟩ = some (.int .u8 0) := (H.cell m0 k).trans (fillO_get hlt)
      have z1 := H.frozen (g := gb) m0 k
      go_wp2
      go_roundw
      case rel => exact ⟨k + 1, by go_num, by omega, H.setn [] k _ (by rw [← fillO_set hlt]; simp [List.map_set])⟩
      case measure => first | (simp [intOf]; done) | (simp [intOf]; omega)
    · skip
      obtain rfl : k = K := by omega
      clear hk hlt
      rw [fillO_all] at H
      replace H : Sit w wr (fun _ => False) [(gb, .cells ((tl k false).map (Value.int .u8)).toArray 5 (0, 0))] [] := H
      have z8 : ¬ 4096 < k := by omega
      have z7 : decide (4096 < k) = false := decide_eq_false z8
      have st4 := trivial
      have st10 := trivial
      have st12 := trivial
      go_upto_region 13 with (first
        | (clear st4; (with_reducible refine gate_dst (N := 34) rfl ?_); refine conv_event rfl (N := 34) rfl 57 9 5 (.tmp 33) rfl (A := some ⟨gb, 0, none⟩) (n := k) (c := k) (xs := tl k false) rfl Try.underlying57 Try.underlying5 Try.underlying9 (box_reads (H.blk m0) (tl_len k false).symm (by omega)) (tS k false) rfl ?_)
        | (clear st10; go_at_call 49; (with_reducible refine (ParseR (tS k false) _ n d 0 hp.out).mono ?_); rintro e w5 ⟨A6, c7, A8, c9, rfl, hr, hr2, hb⟩; replace H := (H.got (fresh_row hr) hb).more ((H.got (fresh_row hr2) hb).row _ m0); clear hr hr2 hb)
        | (clear st12; (with_reducible refine gate_dst (N := 8) rfl ?_); refine box_event ?hg (N := 8) ?hd (cs := #[.bool false, .slice none 0 0, .bool false, .slice none 0 0]) (t := 51) ?hr ?_; (case hd => rfl); (case hg => rfl); (case hr => go_simp; try rfl); intro g8 hg w11 hbox hb; replace H := H.newbox hg hbox hb; clear hg hbox hb; obtain ⟨k8_0, z8_0, k8_1, z8_1, k8_2, z8_2, k8_3, z8_3⟩ := H.b4 (g := g8) m0; have ne_g8_gb := H.ne (g := g8) (g' := gb) 0 1 rfl rfl (by decide); have ne_gb_g8 := ne_g8_gb.symm))
      (try simp only [Act.put, List.setIfInBounds_toArray, List.set_cons_zero, List.set_cons_succ])
      replace H := H.set4 [] (.bool (ng n)) (.slice A6 (ln n) c7) (.bool (ng d)) (.slice A8 (ln d) c9)
      clear k8_0 z8_0 k8_1 z8_1 k8_2 z8_2 k8_3 z8_3
      generalize ((((w11.setCell ⟨g8, 0, none⟩ (.bool (ng n))).setCell ⟨g8, 1, none⟩ (.slice A6 (ln n) c7)).setCell ⟨g8, 2, none⟩ (.bool (ng d))).setCell ⟨g8, 3, none⟩ (.slice A8 (ln d) c9)) = w13 at H ⊢
      obtain ⟨k8_0, z8_0, k8_1, z8_1, k8_2, z8_2, k8_3, z8_3⟩ := H.b4 (g := g8) m0
      go_upto_region 17 with fail
      (try simp only [Act.put, List.setIfInBounds_toArray, List.set_cons_zero, List.set_cons_succ])
      clear k8_0 z8_0 k8_1 z8_1 k8_2 z8_2 k8_3 z8_3
      replace H := H.drew
      have hcv : ∀ w' : World, w'.heap[gb]? = some (.cells (((tl k false).map (Value.int .u8)).toArray) 5 (0, 0)) → (convert 57 9 (.slice (some ⟨gb, 0, none⟩) k k)).run Try.prog w' = .ok (.string (tS k false)) w' := fun w' h => string_of_reads (P := Try.prog) Try.underlying57 Try.underlying5 Try.underlying9 (box_reads h (tl_len k false).symm (show k ≤ 9223372036854775807 by omega))
      refine start_ (n := 10) (S := fun w' => w'.cell? ⟨g8, 0, none⟩ = some (.bool (ng n)) ∧ w'.cell? ⟨g8, 1, none⟩ = some (.slice A6 (ln n) c7) ∧ w'.cell? ⟨g8, 2, none⟩ = some (.bool (ng d)) ∧ w'.cell? ⟨g8, 3, none⟩ = some (.slice A8 (ln d) c9) ∧ w'.heap[gb]? = some (.cells (((tl k false).map (Value.int .u8)).toArray) 5 (0, 0))) (ds := []) #[false, false, false, false, false, false, false, false, false, false] (by kernel_rfl) rfl rfl ⟨H.cell m0 0, H.cell m0 1, H.cell m0 2, H.cell m0 3, H.blk m1⟩ (fun hQ => ?_)
      refine pure_ (i := 0) (N := some 57) (v := ?_) (a' := ?_) (bm 10 1) rfl rfl (by kernel_rfl) (fun _ _ _ h => h) (Or.inl ⟨by rfl, ?_⟩) ?_ ?_
      rotate_left
      · intro w'
        go_simp
        with_reducible rfl
      rotate_left
      · simp only [Act.put, List.setIfInBounds_toArray, List.set_cons_zero, List.set_cons_succ, i64_w, i32_w]
        rfl
      refine pure_ (i := 1) (N := some 58) (v := ?_) (a' := ?_) (bm 10 3) rfl rfl (by kernel_rfl) (fun _ _ _ h => h) (Or.inl ⟨by rfl, ?_⟩) ?_ ?_
      rotate_left
      · intro w'
        go_simp
        with_reducible rfl
      rotate_left
      · simp only [Act.put, List.setIfInBounds_toArray, List.set_cons_zero, List.set_cons_succ, i64_w, i32_w]
        rfl
      refine pure_ (i := 2) (N := some 59) (v := ?_) (a' := ?_) (bm 10 7) rfl rfl (by kernel_rfl) (fun _ _ _ h => h) (Or.inl ⟨by rfl, ?_⟩) ?_ ?_
      rotate_left
      · intro w'
        go_simp
        with_reducible rfl
      rotate_left
      · simp only [Act.put, List.setIfInBounds_toArray, List.set_cons_zero, List.set_cons_succ, i64_w, i32_w]
        rfl
      refine pure_ (i := 5) (N := some 62) (v := ?_) (a' := ?_) (bm 10 39) rfl rfl (by kernel_rfl) (fun _ _ _ h => h) (Or.inl ⟨by rfl, ?_⟩) ?_ ?_
      rotate_left
      · intro w'
        go_simp
        with_reducible rfl
      rotate_left
      · simp only [Act.put, List.setIfInBounds_toArray, List.set_cons_zero, List.set_cons_succ, i64_w, i32_w]
        rfl
      refine take_ (i := 3) (N := some 60) (v := ?_) (a' := ?_) (bm 10 47) rfl rfl (by kernel_rfl) (fun _ _ _ h => h) (Or.inl ⟨by rfl, ?_⟩) hQ ?_ ?_
      rotate_left
      · rintro w' ⟨s0, s1, s2, s3, s4⟩
        go_simp
        with_reducible rfl
      rotate_left
      · simp only [Act.put, List.setIfInBounds_toArray, List.set_cons_zero, List.set_cons_succ, i64_w, i32_w]
        rfl
      refine take_ (i := 6) (N := some 63) (v := ?_) (a' := ?_) (bm 10 111) rfl rfl (by kernel_rfl) (fun _ _ _ h => h) (Or.inl ⟨by rfl, ?_⟩) hQ ?_ ?_
      rotate_left
      · rintro w' ⟨s0, s1, s2, s3, s4⟩
        go_simp
        with_reducible rfl
      rotate_left
      · simp only [Act.put, List.setIfInBounds_toArray, List.set_cons_zero, List.set_cons_succ, i64_w, i32_w]
        rfl
      refine one_ (i := 4) (N := some 61) (bm 10 127) rfl rfl (by kernel_rfl) (by decide) (fun K hK => ?_)
      refine goes_ Try.func46 (by kernel_rfl) rfl #[.agg #[.bool (ng n), .slice A6 (ln n) c7, .bool (ng d), .slice A8 (ln d) c9]] (by rfl) rfl rfl (by simp only [List.map_toArray, List.map_cons, List.map_nil]; try rfl) ?_
      with_reducible refine (TextR (H.row _ m1) (H.row _ m0) (limR bn.out (by decide)) (limR bd.out (by decide)) (tS k false) ht.out).mono ?_
      rintro e w9 ⟨rfl, hb⟩
      refine ⟨_, rfl, ?_⟩
      replace H := H.call hb
      clear hb
      refine hK.out _ _ ⟨H.cell m0 0, H.cell m0 1, H.cell m0 2, H.cell m0 3, H.blk m1⟩ (fun hQ => ?_)
      clear hK K
      refine norm_ (a' := ?_) ?_ ?_
      rotate_left
      · show Act.put _ (some 61) _ = _
        simp only [Act.put, List.setIfInBounds_toArray, List.set_cons_zero, List.set_cons_succ, i64_w, i32_w]
        rfl
      refine pure_ (i := 7) (N := some 64) (v := ?_) (a' := ?_) (bm 10 255) rfl rfl (by kernel_rfl) (fun _ _ _ h => h) (Or.inl ⟨by rfl, ?_⟩) ?_ ?_
      rotate_left
      · intro w'
        go_simp
        with_reducible rfl
      rotate_left
      · simp only [Act.put, List.setIfInBounds_toArray, List.set_cons_zero, List.set_cons_succ, i64_w, i32_w]
        rfl
      refine pure_ (i := 8) (N := some 65) (v := ?_) (a' := ?_) (bm 10 511) rfl rfl (by kernel_rfl) (fun _ _ _ h => h) (Or.inl ⟨by rfl, ?_⟩) ?_ ?_
      rotate_left
      · intro w'
        go_simp
        with_reducible rfl
      rotate_left
      · simp only [Act.put, List.setIfInBounds_toArray, List.set_cons_zero, List.set_cons_succ, i64_w, i32_w]
        rfl
      refine pure_ (i := 9) (N := some 4) (v := ?_) (a' := ?_) (bm 10 1023) rfl rfl (by kernel_rfl) (fun _ _ _ h => h) (Or.inl ⟨by rfl, ?_⟩) ?_ ?_
      rotate_left
      · intro w'
        go_simp
        with_reducible rfl
      rotate_left
      · simp only [Act.put, List.setIfInBounds_toArray, List.set_cons_zero, List.set_cons_succ, i64_w, i32_w]
        rfl
      refine done_ (by kernel_rfl) ?_
      go_wp2
      go_ret
      exact ⟨rfl, H.below⟩

theorem ful_walk (a : Int) (s : Bool) (w : World) (a0 : 0 ≤ a) (a1 : a ≤ 65535) : Calls Try.prog 15 #[.int .u16 a, .bool s] w (fun e W' => e = .returned (.bool true) ∧ Below w.heap.size w W') := by
  have r0 : 0 ≤ a % 300 := Int.emod_nonneg _ (by decide)
  have r1 : a % 300 < 300 := Int.emod_lt_of_pos _ (by decide)
  obtain ⟨K, hK⟩ := Int.eq_ofNat_of_zero_le (show 0 ≤ 4000 + a % 300 by omega)
  obtain ⟨n, d, e, hp, bn, bd, c1, c2, c3⟩ := tS_rp K s (by omega)
  have hK : 4000 + a % 300 = (K : Int) := hK
  have s0 : ∀ {n : Int}, n = 0 → sg n = 0 := by rintro _ rfl; rfl
  by_cases hb : 4096 < K
  · obtain ⟨rfl, h0⟩ := c1 hb
    cases s
    · exact ful_bf a a0 a1 K hK r0 r1 (by omega) (by omega) n d ⟨bn⟩ ⟨bd⟩ hb ⟨hp⟩ ⟨s0 h0⟩ w
    · exact ful_bt a a0 a1 K hK r0 r1 (by omega) (by omega) n d ⟨bn⟩ ⟨bd⟩ hb ⟨hp⟩ ⟨s0 h0⟩ w
  · cases s
    · obtain ⟨rfl, ht⟩ := c3 (by omega) rfl
      exact ful_ok a a0 a1 K hK r0 r1 (by omega) (by omega) n d ⟨bn⟩ ⟨bd⟩ (by omega) ⟨hp⟩ ⟨ht⟩ (by simp) w
    · obtain ⟨rfl, h0⟩ := c2 (by omega) rfl
      exact ful_xt a a0 a1 K hK r0 r1 (by omega) (by omega) n d ⟨bn⟩ ⟨bd⟩ (by omega) ⟨hp⟩ ⟨s0 h0⟩ w

end Go.Proofs.Ytdkapdgbfejgdaa
