/- The walk of the law BigintFull: over every number of 8 bits it returns true. -/
import Derived.Test.YtdkapdgbfejgdaaTw
namespace Go.Proofs.Ytdkapdgbfejgdaa
open Go.RowKit Go.Proofs.YtdkapdgbfejgdaaW.PrintWords Go.Proofs.YtdkapdgbfejgdaaW.PrintLast Go.Proofs.YtdkapdgbfejgdaaW.PrintMore
set_option linter.unusedSimpArgs false
set_option linter.unusedVariables false

theorem wf_u8 {a : Int} (h : (Lit.int .u8 a).wf = true) : 0 ≤ a ∧ a ≤ 255 := by
  simp only [Lit.wf, Bool.and_eq_true, decide_eq_true_eq] at h
  exact h
/-- k signs of the digit 7. -/
def sev (k : Nat) : ByteArray := strOfNums (List.replicate k 55)
theorem sev_bytes (k : Nat) : bytesOf (sev k) = List.replicate k 55 := by
  unfold sev bytesOf strOfNums
  simp
theorem sev_size (k : Nat) : (sev k).size = k := by rw [← bytesOf_length, sev_bytes]; simp
theorem sev_bt {k i : Nat} (h : i < k) : bt (sev k) (i : Int) = 55 := by
  rw [← rd_bytesOf, sev_bytes]; unfold rd; rw [Int.toNat_natCast]; simp [List.getD, h]
theorem sev_pc (k : Nat) : ∀ n, n + 1 ≤ k → 7 ≤ pc (sev k) 0 (n + 1)
  | 0, h => by
    have e : bt (sev k) ((0 + 0 : Nat) : Int) = 55 := sev_bt (by omega)
    rw [pc, e, pc]; omega
  | n + 1, h => by
    have e : bt (sev k) ((0 + (n + 1) : Nat) : Int) = 55 := sev_bt (by omega)
    have := sev_pc k n (by omega)
    rw [pc, e]; omega
theorem sev_Dg (k : Nat) : Dg (sev k) 0 k := by
  intro j _ h
  have e : bt (sev k) (j : Int) = 55 := sev_bt (by omega)
  exact ⟨by omega, by omega⟩
theorem sev_cut (k : Nat) (h : 1 ≤ k) : cutB (sev k) = false ∧ cutS (sev k) = sev k := by
  obtain ⟨m, rfl⟩ : ∃ m, k = m + 1 := ⟨k - 1, by omega⟩
  have hd : (sev (m + 1)).data.toList = 55 :: List.replicate m 55 := by
    unfold sev strOfNums
    simp [List.replicate_succ]
  have hp : Lib.hasPrefix (sev (m + 1)).data.toList [45] = false := by rw [hd]; rfl
  refine ⟨hp, ?_⟩
  unfold cutS Lib.trimPrefix
  rw [hp]
  simp
theorem sev_pr (k : Nat) (h : 1 ≤ k) (h2 : k ≤ 4096) : pr (sev k) = (pc (sev k) 0 k, 0) := by
  obtain ⟨c1, c2⟩ := sev_cut k h
  unfold pr
  rw [sev_size, if_neg (by omega), c1, c2, sev_size, if_neg, if_neg (by simp)]
  rintro (h3 | h3 | h3)
  · have := size_pos_of (sev k)
    have h4 := sev_size k
    rw [toList_eq] at h3
    have h5 : (sev k).data.toList.length = k := by rw [Array.length_toList]; exact h4
    rw [h3] at h5
    simp at h5
    omega
  · have e : bt (sev k) ((0 : Nat) : Int) = 55 := sev_bt (by omega)
    have e2 : bt (sev k) 0 = 55 := e
    omega
  · exact h3 (sev_Dg k)
theorem sev_pr2 (k : Nat) (h : 4096 < k) : pr (sev k) = (0, 5) := by
  unfold pr
  rw [sev_size, if_pos h]
theorem sev_ln (k : Nat) (h2 : k ≤ 4096) : ln (pc (sev k) 0 k) ≤ 4096 := by
  have hb := pc_bound (sev_Dg k)
  refine Nat.le_trans (ln_bound _ k ?_) h2
  have h1 : (((pc (sev k) 0 k).natAbs : Nat) : Int) < ((10 ^ k : Nat) : Int) := by rw [Int.natAbs_of_nonneg hb.1, Int.natCast_pow]; exact hb.2
  have h3 : (10 : Nat) ^ k ≤ 4294967296 ^ k := Nat.pow_le_pow_left (by omega) k
  omega
/-- A box of bytes, read from its beginning. -/
theorem box_reads {w : World} {g e n : Nat} {l : List Int} (h : w.heap[g]? = some (.cells (l.map (Value.int .u8)).toArray e (0, 0))) (hn : n ≤ l.length) (hl : n ≤ 9223372036854775807) : ReadsInt w .u8 (some ⟨g, 0, none⟩) n (l.take n) := by
  refine ⟨by simp; omega, hl, fun _ => ⟨_, rfl, fun j hj => ?_⟩⟩
  have h1 := blk_cell h j
  have h2 : (⟨g, 0, none⟩ : Addr).add j = ⟨g, j, none⟩ := by
    unfold Addr.add
    by_cases h0 : j = 0 <;> simp [h0]
  rw [h2, h1]
  have hj2 : j < l.length := by omega
  simp [List.getD, List.getElem?_take, hj, hj2]
theorem conv_event {P : Program} {ops : Array Oper} {Q : Exit → Act → World → Prop} {rest : List Oper} {o : Oper} {a : Act} {W : World} (hgd : o.guard = none) {N : Tmp} (hd : o.dst = some N) (src dst e : TypeId) (x : Operand) (ho : o.op = .convert src dst x)
    {A : Option Addr} {n c : Nat} {xs : List Int} (hx : a.eval x = .slice A n c) (hs : P.underlying src = some (.slice e)) (he : P.underlying e = some (.int .u8)) (hds : P.underlying dst = some .string) (hr : ReadsInt W .u8 A n xs) (s : ByteArray) (hxs : strOfNums xs = s)
    (h : wpList P ops Q rest (a.put (some N) (.string s)) W) : wpList P ops Q (o :: rest) a W := by
  subst hxs
  refine Kd.event_run hgd (v := .string (strOfNums xs)) (w1 := W) ?_ (by rw [hd]; exact h)
  unfold execOp
  simp only [ho, hx]
  simp [string_of_reads hs he hds hr]

def fillL (K k : Nat) : List Int := List.replicate k 55 ++ List.replicate (K - k) 0
theorem fillL_get {K k : Nat} (h : k < K) : ((fillL K k).map (Value.int .u8)).toArray[k]? = some (.int .u8 0) := by
  have e : (fillL K k)[k]? = some 0 := by
    unfold fillL
    rw [List.getElem?_append_right (by simp), List.length_replicate, Nat.sub_self, List.getElem?_replicate, if_pos (by omega)]
  simp [e]
theorem fillL_set {K k : Nat} (h : k < K) : (fillL K k).set k 55 = fillL K (k + 1) := by
  unfold fillL
  rw [List.set_append_right _ _ (by simp), List.length_replicate, Nat.sub_self]
  obtain ⟨d, hd⟩ : ∃ d, K - k = d + 1 := ⟨K - k - 1, by omega⟩
  rw [hd, List.replicate_succ, List.set_cons_zero, show K - (k + 1) = d by omega, List.replicate_succ']
  simp

theorem info5' : (Try.prog.info? 5).map (fun i => (i.zero, i.size, i.bytes)) = some (some (.int .u8 0), 1, 1) := by kernel_rfl

def tb8.T11 : Bool × List (List Nat × List Nat) := (true, [([], []), ([0], [0]), ([1], [1]), ([2], [2]), ([3, 2, 2], [2, 3]), ([4, 2], [2, 4]), ([2, 5], [2, 5]), ([6, 4], [6]), ([7], [7]), ([8, 7], [7, 8]), ([7, 9], [7, 9]), ([10, 7], [10]), ([11], [11]), ([12, 11, 11], [11, 12]), ([13, 11], [11, 13]), ([11, 14], [11, 14]), ([15, 13], [15]), ([16], [16]), ([17, 16, 16], [16, 17]), ([18, 16], [16, 18]), ([16, 19], [16, 19]), ([20, 18], [20]), ([21], [21]), ([22, 21, 21], [21, 22]), ([23, 21], [21, 23]), ([21, 24], [21, 24]), ([25, 23], [25]), ([26], [26]), ([26], [26]), ([27, 28, 26, 26], [26, 27, 28]), ([26], [26]), ([29, 30, 29, 26], [26, 29, 30]), ([31, 26], [26, 31]), ([26, 32], [26, 32]), ([33, 31], [33]), ([34], [34]), ([34], [34]), ([35, 36, 34, 34], [34, 35, 36]), ([37, 37, 34], [34, 37]), ([38, 34], [34, 38]), ([34, 39], [34, 39]), ([40, 38], [40]), ([41], [41]), ([42, 41, 41], [41, 42]), ([43, 41], [41, 43]), ([41, 44], [41, 44]), ([45, 43, 0, 1, 2, 3, 4, 5, 6, 7, 8, 9, 10, 11, 12, 13, 14, 15, 16, 17, 18, 19, 20, 21, 22, 23, 24, 25, 26, 27, 28, 29, 30, 31, 32, 33, 34, 35, 36, 37, 38, 39, 40, 41, 42, 43, 44, 45], [45])])
def tb8.B11 : List Nat := [0, 1, 3, 7, 15, 31, 63, 127, 255, 511, 1023, 2047, 4095, 8191, 16383, 32767, 65535, 131071, 262143, 524287, 1048575, 2097151, 4194303, 8388607, 16777215, 33554431, 67108863, 134217727, 134217727, 536870911, 134217727, 2147483647, 4294967295, 8589934591, 17179869183, 34359738367, 34359738367, 137438953471, 274877906943, 549755813887, 1099511627775, 2199023255551, 4398046511103, 8796093022207, 17592186044415, 35184372088831, 70368744177663]
theorem tb8.tab11 : rtab .any (opsOf Try.f8 11) = tb8.T11 := by kernel_rfl
theorem tb8.bits11 : waitsOk tb8.T11.2 tb8.B11 = true := by kernel_rfl

set_option maxHeartbeats 8000000 in
set_option maxRecDepth 100000 in
theorem full_m (m : Nat) (w : World) (hm : m ≤ 255) : Calls Try.prog 8 #[.int .u8 (m : Int)] w (fun e W' => e = .returned (.bool true) ∧ Below w.heap.size w W') := by
  obtain ⟨x, ex⟩ : ∃ v, pc (sev 4096) 0 4096 = v := ⟨_, rfl⟩
  have hp1 := Aside0.mk (show pr (sev 4096) = (x, 0) by rw [← ex]; exact sev_pr 4096 (by omega) (by omega))
  have hp2 := Aside0.mk (sev_pr2 (4097 + m) (by omega))
  have bx := Aside0.mk (show ln x ≤ 4096 by rw [← ex]; exact sev_ln 4096 (by omega))
  have b0 := Aside0.mk (show ln 0 ≤ 1 from Nat.zero_le _)
  have hx7 : 7 ≤ x := by rw [← ex]; exact sev_pc 4096 4095 (by omega)
  have hsx := Aside0.mk (show sg x = 1 by unfold sg; rw [if_neg (by omega), if_neg (by omega)])
  have hs0 := Aside0.mk (show sg 0 = 0 from rfl)
  have ht0 := Aside0.mk (show tx 0 = ⟨#[48]⟩ from rfl)
  have hb0 := Aside0.mk (show ((blen (0 : Int).natAbs : Nat) : Int) = 0 from rfl)
  obtain ⟨s, es⟩ : ∃ v : Int, 0 + x = v := ⟨_, rfl⟩
  obtain ⟨p, ep⟩ : ∃ v : Int, 0 * x = v := ⟨_, rfl⟩
  have hs := Aside0.mk es
  have hp := Aside0.mk ep
  have bs := Aside0.mk (bAdd b0.out bx.out es)
  have bp := Aside0.mk (bMul b0.out bx.out ep)
  have hc := Aside0.mk (show cmp3 s x = 0 from cmp3_eq (by rw [← es]; omega))
  have hsp := Aside0.mk (show sg p = 0 by rw [← ep, Int.zero_mul]; rfl)
  have hs1 := Aside0.mk (show strOfNums ((fillL (4097 + m) (4097 + m)).take 4096) = sev 4096 by unfold fillL sev; rw [Nat.sub_self, List.replicate_zero, List.append_nil, List.take_replicate, Nat.min_eq_left (by omega)])
  have hs2 := Aside0.mk (show strOfNums ((fillL (4097 + m) (4097 + m)).take (4097 + m)) = sev (4097 + m) by unfold fillL sev; rw [Nat.sub_self, List.replicate_zero, List.append_nil, List.take_replicate, Nat.min_self])
  clear ex es ep hx7
  have hu25 := Try.underlying25
  have H := Sit.start w (fun _ => False)
  have hu5 := Try.underlying5
  go_enter Try.func8, Try.ntmps8
  have st2 := trivial
  have st3 := trivial
  go_wp2_with (first
    | (clear st2; go_at_call 22; (with_reducible refine (awake_ok _).mono ?_); rintro e wA ⟨rfl, hb⟩; replace H := H.call hb; clear hb)
    | (clear st3; (with_reducible refine gate_dst (N := 15) rfl ?_); refine make_event rfl (N := 15) rfl 57 (.tmp 14) (.tmp 14) rfl .u8 5 1 (4097 + m) rfl rfl Try.underlying57 info5' (by omega) (by omega) ?_; intro gb hg w4 hbox hb; replace H := H.newbox hg hbox hb; clear hg hbox hb))
  go_loopw [4] (fun iv wr => ∃ k : Nat, iv = .int .i64 k ∧ k ≤ 4097 + m ∧ Sit w wr (fun _ => False) [(gb, .cells ((fillL (4097 + m) k).map (Value.int .u8)).toArray 5 (0, 0))] []) (fun iv _ => 5000 - (intOf iv).toNat)
  case atStart => exact ⟨0, rfl, by omega, H⟩
  case round =>
    clear H
    obtain ⟨k, rfl, hk, H⟩ := hrel
    by_cases hlt : k < 4097 + m
    · skip
      have z0 : wr.cell? ⟨gb, k, none⟩ = some (.int .u8 0) := (H.cell m0 k).trans (fillL_get hlt)
      have z1 := H.frozen (g := gb) m0 k
      go_wp2
      go_roundw
      case rel => exact ⟨k + 1, by go_num, by omega, H.setn [] k _ (by rw [← fillL_set hlt]; simp [List.map_set])⟩
      case measure => simp [intOf]; omega
    · skip
      obtain rfl : k = 4097 + m := by omega
      clear hk hlt
      have st4 := trivial
      have st8 := trivial
      have st10 := trivial
      go_upto_region 9 with (first
        | (clear st4; (with_reducible refine gate_dst (N := 28) rfl ?_); refine conv_event rfl (N := 28) rfl 57 9 5 (.tmp 27) rfl (A := some ⟨gb, 0, none⟩) (n := 4096) (c := 4097 + m) (xs := (fillL (4097 + m) (4097 + m)).take 4096) rfl Try.underlying57 Try.underlying5 Try.underlying9 (box_reads (H.blk m0) (by simp only [fillL, List.length_append, List.length_replicate]; omega) (by omega)) (sev 4096) hs1.out ?_)
        | (clear st8; go_at_call 23; (with_reducible refine (ParseQ (sev 4096) _ x 0 hp1.out).mono ?_); rintro e w5 ⟨A6, c7, rfl, hr, hb⟩; replace H := H.got (fresh_row hr) hb; clear hr hb)
        | (clear st10; (with_reducible refine gate_dst (N := 5) rfl ?_); refine box_event ?hg (N := 5) ?hd (cs := #[.bool false, .slice none 0 0]) (t := 25) ?hr ?_; (case hd => rfl); (case hg => rfl); (case hr => first | (go_simp; done) | (go_simp; rfl)); intro gx hg w9 hbox hb; replace H := H.newbox hg hbox hb; clear hg hbox hb; have kgx_0 : w9.cell? ⟨gx, 0, none⟩ = some (.bool false) := H.cell m0 0; have zgx_0 := H.frozen (g := gx) m0 0; have kgx_1 : w9.cell? ⟨gx, 1, none⟩ = some (.slice none 0 0) := H.cell m0 1; have zgx_1 := H.frozen (g := gx) m0 1; have ne_gx_gb := H.ne (g := gx) (g' := gb) 0 1 rfl rfl (by decide); have ne_gb_gx := ne_gx_gb.symm))
      (try simp only [Act.put, List.setIfInBounds_toArray, List.set_cons_zero, List.set_cons_succ])
      replace H := ((H.setn [] 0 (.bool (ng x)) rfl).setn [] 1 (.slice A6 (ln x) c7) rfl)
      clear kgx_0 zgx_0 kgx_1 zgx_1
      generalize ((w9.setCell ⟨gx, 0, none⟩ (.bool (ng x))).setCell ⟨gx, 1, none⟩ (.slice A6 (ln x) c7)) = w11 at H ⊢
      have kgx_0 : w11.cell? ⟨gx, 0, none⟩ = some (.bool (ng x)) := H.cell m0 0
      have zgx_0 := H.frozen (g := gx) m0 0
      have kgx_1 : w11.cell? ⟨gx, 1, none⟩ = some (.slice A6 (ln x) c7) := H.cell m0 1
      have zgx_1 := H.frozen (g := gx) m0 1
      have st12 := trivial
      have st16 := trivial
      have st18 := trivial
      go_upto_region 10 with (first
        | (clear st12; (with_reducible refine gate_dst (N := 34) rfl ?_); refine conv_event rfl (N := 34) rfl 57 9 5 (.tmp 33) rfl (A := some ⟨gb, 0, none⟩) (n := 4097 + m) (c := 4097 + m) (xs := (fillL (4097 + m) (4097 + m)).take (4097 + m)) rfl Try.underlying57 Try.underlying5 Try.underlying9 (box_reads (H.blk m1) (by simp only [fillL, List.length_append, List.length_replicate]; omega) (by omega)) (sev (4097 + m)) hs2.out ?_)
        | (clear st16; go_at_call 23; (with_reducible refine (ParseQ (sev (4097 + m)) _ 0 5 hp2.out).mono ?_); rintro e w13 ⟨A14, c15, rfl, hr, hb⟩; replace H := H.got (fresh_row hr) hb; clear hr hb; clear kgx_0 zgx_0 kgx_1 zgx_1; have kgx_0 : w13.cell? ⟨gx, 0, none⟩ = some (.bool (ng x)) := H.cell m0 0; have zgx_0 := H.frozen (g := gx) m0 0; have kgx_1 : w13.cell? ⟨gx, 1, none⟩ = some (.slice A6 (ln x) c7) := H.cell m0 1; have zgx_1 := H.frozen (g := gx) m0 1)
        | (clear st18; (with_reducible refine gate_dst (N := 7) rfl ?_); refine box_event ?hg (N := 7) ?hd (cs := #[.bool false, .slice none 0 0]) (t := 25) ?hr ?_; (case hd => rfl); (case hg => rfl); (case hr => first | (go_simp; done) | (go_simp; rfl)); intro gy hg w17 hbox hb; replace H := H.newbox hg hbox hb; clear hg hbox hb; clear kgx_0 zgx_0 kgx_1 zgx_1; have kgy_0 : w17.cell? ⟨gy, 0, none⟩ = some (.bool false) := H.cell m0 0; have zgy_0 := H.frozen (g := gy) m0 0; have kgy_1 : w17.cell? ⟨gy, 1, none⟩ = some (.slice none 0 0) := H.cell m0 1; have zgy_1 := H.frozen (g := gy) m0 1; have kgx_0 : w17.cell? ⟨gx, 0, none⟩ = some (.bool (ng x)) := H.cell m1 0; have zgx_0 := H.frozen (g := gx) m1 0; have kgx_1 : w17.cell? ⟨gx, 1, none⟩ = some (.slice A6 (ln x) c7) := H.cell m1 1; have zgx_1 := H.frozen (g := gx) m1 1; have ne_gy_gx := H.ne (g := gy) (g' := gx) 0 1 rfl rfl (by decide); have ne_gx_gy := ne_gy_gx.symm; have ne_gy_gb := H.ne (g := gy) (g' := gb) 0 2 rfl rfl (by decide); have ne_gb_gy := ne_gy_gb.symm))
      (try simp only [Act.put, List.setIfInBounds_toArray, List.set_cons_zero, List.set_cons_succ])
      replace H := ((H.setn [] 0 (.bool (ng 0)) rfl).setn [] 1 (.slice A14 (ln 0) c15) rfl)
      clear kgy_0 zgy_0 kgy_1 zgy_1 kgx_0 zgx_0 kgx_1 zgx_1
      generalize ((w17.setCell ⟨gy, 0, none⟩ (.bool (ng 0))).setCell ⟨gy, 1, none⟩ (.slice A14 (ln 0) c15)) = w19 at H ⊢
      have kgy_0 : w19.cell? ⟨gy, 0, none⟩ = some (.bool (ng 0)) := H.cell m0 0
      have zgy_0 := H.frozen (g := gy) m0 0
      have kgy_1 : w19.cell? ⟨gy, 1, none⟩ = some (.slice A14 (ln 0) c15) := H.cell m0 1
      have zgy_1 := H.frozen (g := gy) m0 1
      have kgx_0 : w19.cell? ⟨gx, 0, none⟩ = some (.bool (ng x)) := H.cell m1 0
      have zgx_0 := H.frozen (g := gx) m1 0
      have kgx_1 : w19.cell? ⟨gx, 1, none⟩ = some (.slice A6 (ln x) c7) := H.cell m1 1
      have zgx_1 := H.frozen (g := gx) m1 1
      have st21 := trivial
      go_upto_region 11 with (first
        | (clear st21; (with_reducible refine gate_dst (N := 9) rfl ?_); refine box_event ?hg (N := 9) ?hd (cs := #[.bool false, .slice none 0 0]) (t := 25) ?hr ?_; (case hd => rfl); (case hg => rfl); (case hr => first | (go_simp; done) | (go_simp; rfl)); intro gz hg w20 hbox hb; replace H := H.newbox hg hbox hb; clear hg hbox hb; clear kgy_0 zgy_0 kgy_1 zgy_1 kgx_0 zgx_0 kgx_1 zgx_1; have kgz_0 : w20.cell? ⟨gz, 0, none⟩ = some (.bool false) := H.cell m0 0; have zgz_0 := H.frozen (g := gz) m0 0; have kgz_1 : w20.cell? ⟨gz, 1, none⟩ = some (.slice none 0 0) := H.cell m0 1; have zgz_1 := H.frozen (g := gz) m0 1; have kgy_0 : w20.cell? ⟨gy, 0, none⟩ = some (.bool (ng 0)) := H.cell m1 0; have zgy_0 := H.frozen (g := gy) m1 0; have kgy_1 : w20.cell? ⟨gy, 1, none⟩ = some (.slice A14 (ln 0) c15) := H.cell m1 1; have zgy_1 := H.frozen (g := gy) m1 1; have kgx_0 : w20.cell? ⟨gx, 0, none⟩ = some (.bool (ng x)) := H.cell m2 0; have zgx_0 := H.frozen (g := gx) m2 0; have kgx_1 : w20.cell? ⟨gx, 1, none⟩ = some (.slice A6 (ln x) c7) := H.cell m2 1; have zgx_1 := H.frozen (g := gx) m2 1; have ne_gz_gy := H.ne (g := gz) (g' := gy) 0 1 rfl rfl (by decide); have ne_gy_gz := ne_gz_gy.symm; have ne_gz_gx := H.ne (g := gz) (g' := gx) 0 2 rfl rfl (by decide); have ne_gx_gz := ne_gz_gx.symm; have ne_gz_gb := H.ne (g := gz) (g' := gb) 0 3 rfl rfl (by decide); have ne_gb_gz := ne_gz_gb.symm))
      (try simp only [Act.put, List.setIfInBounds_toArray, List.set_cons_zero, List.set_cons_succ])
      replace H := H.nilrow
      clear kgz_0 zgz_0 kgz_1 zgz_1 kgy_0 zgy_0 kgy_1 zgy_1 kgx_0 zgx_0 kgx_1 zgx_1
      replace H := H.drew
      refine start_ (n := 47) (S := fun w' => w'.cell? ⟨gx, 0, none⟩ = some (.bool (ng x)) ∧ w'.cell? ⟨gx, 1, none⟩ = some (.slice A6 (ln x) c7) ∧ w'.cell? ⟨gy, 0, none⟩ = some (.bool (ng 0)) ∧ w'.cell? ⟨gy, 1, none⟩ = some (.slice A14 (ln 0) c15) ∧ w'.cell? ⟨gz, 0, none⟩ = some (.bool false) ∧ w'.cell? ⟨gz, 1, none⟩ = some (.slice none 0 0)) (ds := []) #[false, false, false, false, false, false, false, false, false, false, false, false, false, false, false, false, false, false, false, false, false, false, false, false, false, false, false, false, false, false, false, false, false, false, false, false, false, false, false, false, false, false, false, false, false, false, false] (by kernel_rfl) rfl rfl ⟨H.cell m2 0, H.cell m2 1, H.cell m1 0, H.cell m1 1, H.cell m0 0, H.cell m0 1⟩ (fun hHeld => ?_)
      generalize w20.drew = w22 at H hHeld ⊢
      refine with_tabW tb8.tab11 tb8.bits11 (fun HT_ HW_ => ?_)
      refine pure_ (i := 0) (N := some 38) (v := ?_) (a' := ?_) #[true, false, false, false, false, false, false, false, false, false, false, false, false, false, false, false, false, false, false, false, false, false, false, false, false, false, false, false, false, false, false, false, false, false, false, false, false, false, false, false, false, false, false, false, false, false, false] rfl rfl (any_of HT_.out (by kernel_rfl)) (fun _ _ _ h => h) (Or.inl ⟨by rfl, ?_⟩) ?_ ?_
      rotate_left
      · intro w'
        go_simp
        with_reducible rfl
      rotate_left
      · simp only [Act.put, List.setIfInBounds_toArray, List.set_cons_zero, List.set_cons_succ, i64_w, i32_w]
        rfl
      refine pure_ (i := 1) (N := some 39) (v := ?_) (a' := ?_) #[true, true, false, false, false, false, false, false, false, false, false, false, false, false, false, false, false, false, false, false, false, false, false, false, false, false, false, false, false, false, false, false, false, false, false, false, false, false, false, false, false, false, false, false, false, false, false] rfl rfl (any_of HT_.out (by kernel_rfl)) (fun _ _ _ h => h) (Or.inl ⟨by rfl, ?_⟩) ?_ ?_
      rotate_left
      · intro w'
        go_simp
        with_reducible rfl
      rotate_left
      · simp only [Act.put, List.setIfInBounds_toArray, List.set_cons_zero, List.set_cons_succ, i64_w, i32_w]
        rfl
      refine pure_ (i := 2) (N := some 40) (v := ?_) (a' := ?_) #[true, true, true, false, false, false, false, false, false, false, false, false, false, false, false, false, false, false, false, false, false, false, false, false, false, false, false, false, false, false, false, false, false, false, false, false, false, false, false, false, false, false, false, false, false, false, false] rfl rfl (any_of HT_.out (by kernel_rfl)) (fun _ _ _ h => h) (Or.inl ⟨by rfl, ?_⟩) ?_ ?_
      rotate_left
      · intro w'
        go_simp
        with_reducible rfl
      rotate_left
      · simp only [Act.put, List.setIfInBounds_toArray, List.set_cons_zero, List.set_cons_succ, i64_w, i32_w]
        rfl
      refine take_ (i := 3) (N := some 41) (v := ?_) (a' := ?_) #[true, true, true, true, false, false, false, false, false, false, false, false, false, false, false, false, false, false, false, false, false, false, false, false, false, false, false, false, false, false, false, false, false, false, false, false, false, false, false, false, false, false, false, false, false, false, false] rfl rfl (take_ofW HT_.out HW_.out (by kernel_rfl)) (fun _ _ _ h => h) (Or.inl ⟨by rfl, ?_⟩) hHeld ?_ ?_
      rotate_left
      · rintro w' ⟨s0, s1, s2, s3, s4, s5⟩
        go_simp
        with_reducible rfl
      rotate_left
      · simp only [Act.put, List.setIfInBounds_toArray, List.set_cons_zero, List.set_cons_succ, i64_w, i32_w]
        rfl
      refine one_ (i := 4) (N := some 42) #[true, true, true, true, true, false, false, false, false, false, false, false, false, false, false, false, false, false, false, false, false, false, false, false, false, false, false, false, false, false, false, false, false, false, false, false, false, false, false, false, false, false, false, false, false, false, false] rfl rfl (one_of HT_.out (by kernel_rfl)) (by decide) (fun K hK => ?_)
      refine goes_ Try.func25 (by kernel_rfl) rfl #[.agg #[.bool (ng x), .slice A6 (ln x) c7]] (by rfl) rfl rfl (by (try simp only [List.map_toArray, List.map_cons, List.map_nil]); first | done | rfl) ?_
      with_reducible refine (SignQ _ _ _ (lim bx.out (by decide)) 1 hsx.out).mono ?_
      rintro e w23 ⟨rfl, hb⟩
      replace H := H.call hb
      clear hb
      refine ⟨_, rfl, ?_⟩
      refine hK.out _ _ ⟨H.cell m2 0, H.cell m2 1, H.cell m1 0, H.cell m1 1, H.cell m0 0, H.cell m0 1⟩ (fun hHeld => ?_)
      clear hK K
      refine norm_ (a' := ?_) ?_ ?_
      rotate_left
      · show Act.put _ (some 42) _ = _
        simp only [Act.put, List.setIfInBounds_toArray, List.set_cons_zero, List.set_cons_succ, i64_w, i32_w]
        rfl
      refine pure_ (i := 5) (N := some 43) (v := ?_) (a' := ?_) #[true, true, true, true, true, true, false, false, false, false, false, false, false, false, false, false, false, false, false, false, false, false, false, false, false, false, false, false, false, false, false, false, false, false, false, false, false, false, false, false, false, false, false, false, false, false, false] rfl rfl (any_of HT_.out (by kernel_rfl)) (fun _ _ _ h => h) (Or.inl ⟨by rfl, ?_⟩) ?_ ?_
      rotate_left
      · intro w'
        go_simp
        with_reducible rfl
      rotate_left
      · simp only [Act.put, List.setIfInBounds_toArray, List.set_cons_zero, List.set_cons_succ, i64_w, i32_w]
        rfl
      refine pure_ (i := 6) (N := some 44) (v := ?_) (a' := ?_) #[true, true, true, true, true, true, true, false, false, false, false, false, false, false, false, false, false, false, false, false, false, false, false, false, false, false, false, false, false, false, false, false, false, false, false, false, false, false, false, false, false, false, false, false, false, false, false] rfl rfl (any_of HT_.out (by kernel_rfl)) (fun _ _ _ h => h) (Or.inl ⟨by rfl, ?_⟩) ?_ ?_
      rotate_left
      · intro w'
        go_simp
        with_reducible rfl
      rotate_left
      · simp only [Act.put, List.setIfInBounds_toArray, List.set_cons_zero, List.set_cons_succ, i64_w, i32_w]
        rfl
      refine pure_ (i := 7) (N := some 45) (v := ?_) (a' := ?_) #[true, true, true, true, true, true, true, true, false, false, false, false, false, false, false, false, false, false, false, false, false, false, false, false, false, false, false, false, false, false, false, false, false, false, false, false, false, false, false, false, false, false, false, false, false, false, false] rfl rfl (any_of HT_.out (by kernel_rfl)) (fun _ _ _ h => h) (Or.inl ⟨by rfl, ?_⟩) ?_ ?_
      rotate_left
      · intro w'
        go_simp
        with_reducible rfl
      rotate_left
      · simp only [Act.put, List.setIfInBounds_toArray, List.set_cons_zero, List.set_cons_succ, i64_w, i32_w]
        rfl
      refine pure_ (i := 8) (N := some 46) (v := ?_) (a' := ?_) #[true, true, true, true, true, true, true, true, true, false, false, false, false, false, false, false, false, false, false, false, false, false, false, false, false, false, false, false, false, false, false, false, false, false, false, false, false, false, false, false, false, false, false, false, false, false, false] rfl rfl (any_of HT_.out (by kernel_rfl)) (fun _ _ _ h => h) (Or.inl ⟨by rfl, ?_⟩) ?_ ?_
      rotate_left
      · intro w'
        go_simp
        with_reducible rfl
      rotate_left
      · simp only [Act.put, List.setIfInBounds_toArray, List.set_cons_zero, List.set_cons_succ, i64_w, i32_w]
        rfl
      refine pure_ (i := 9) (N := some 47) (v := ?_) (a' := ?_) #[true, true, true, true, true, true, true, true, true, true, false, false, false, false, false, false, false, false, false, false, false, false, false, false, false, false, false, false, false, false, false, false, false, false, false, false, false, false, false, false, false, false, false, false, false, false, false] rfl rfl (any_of HT_.out (by kernel_rfl)) (fun _ _ _ h => h) (Or.inl ⟨by rfl, ?_⟩) ?_ ?_
      rotate_left
      · intro w'
        go_simp
        with_reducible rfl
      rotate_left
      · simp only [Act.put, List.setIfInBounds_toArray, List.set_cons_zero, List.set_cons_succ, i64_w, i32_w]
        rfl
      refine pure_ (i := 10) (N := some 48) (v := ?_) (a' := ?_) #[true, true, true, true, true, true, true, true, true, true, true, false, false, false, false, false, false, false, false, false, false, false, false, false, false, false, false, false, false, false, false, false, false, false, false, false, false, false, false, false, false, false, false, false, false, false, false] rfl rfl (any_of HT_.out (by kernel_rfl)) (fun _ _ _ h => h) (Or.inl ⟨by rfl, ?_⟩) ?_ ?_
      rotate_left
      · intro w'
        go_simp
        with_reducible rfl
      rotate_left
      · simp only [Act.put, List.setIfInBounds_toArray, List.set_cons_zero, List.set_cons_succ, i64_w, i32_w]
        rfl
      refine pure_ (i := 11) (N := some 49) (v := ?_) (a' := ?_) #[true, true, true, true, true, true, true, true, true, true, true, true, false, false, false, false, false, false, false, false, false, false, false, false, false, false, false, false, false, false, false, false, false, false, false, false, false, false, false, false, false, false, false, false, false, false, false] rfl rfl (any_of HT_.out (by kernel_rfl)) (fun _ _ _ h => h) (Or.inl ⟨by rfl, ?_⟩) ?_ ?_
      rotate_left
      · intro w'
        go_simp
        with_reducible rfl
      rotate_left
      · simp only [Act.put, List.setIfInBounds_toArray, List.set_cons_zero, List.set_cons_succ, i64_w, i32_w]
        rfl
      refine take_ (i := 12) (N := some 50) (v := ?_) (a' := ?_) #[true, true, true, true, true, true, true, true, true, true, true, true, true, false, false, false, false, false, false, false, false, false, false, false, false, false, false, false, false, false, false, false, false, false, false, false, false, false, false, false, false, false, false, false, false, false, false] rfl rfl (take_ofW HT_.out HW_.out (by kernel_rfl)) (fun _ _ _ h => h) (Or.inl ⟨by rfl, ?_⟩) hHeld ?_ ?_
      rotate_left
      · rintro w' ⟨s0, s1, s2, s3, s4, s5⟩
        go_simp
        with_reducible rfl
      rotate_left
      · simp only [Act.put, List.setIfInBounds_toArray, List.set_cons_zero, List.set_cons_succ, i64_w, i32_w]
        rfl
      refine one_ (i := 13) (N := some 51) #[true, true, true, true, true, true, true, true, true, true, true, true, true, true, false, false, false, false, false, false, false, false, false, false, false, false, false, false, false, false, false, false, false, false, false, false, false, false, false, false, false, false, false, false, false, false, false] rfl rfl (one_of HT_.out (by kernel_rfl)) (by decide) (fun K hK => ?_)
      refine goes_ Try.func25 (by kernel_rfl) rfl #[.agg #[.bool (ng (0)), .slice A14 (ln (0)) c15]] (by rfl) rfl rfl (by (try simp only [List.map_toArray, List.map_cons, List.map_nil]); first | done | rfl) ?_
      with_reducible refine (SignQ _ _ _ (lim b0.out (by decide)) 0 hs0.out).mono ?_
      rintro e w24 ⟨rfl, hb⟩
      replace H := H.call hb
      clear hb
      refine ⟨_, rfl, ?_⟩
      refine hK.out _ _ ⟨H.cell m2 0, H.cell m2 1, H.cell m1 0, H.cell m1 1, H.cell m0 0, H.cell m0 1⟩ (fun hHeld => ?_)
      clear hK K
      refine norm_ (a' := ?_) ?_ ?_
      rotate_left
      · show Act.put _ (some 51) _ = _
        simp only [Act.put, List.setIfInBounds_toArray, List.set_cons_zero, List.set_cons_succ, i64_w, i32_w]
        rfl
      refine pure_ (i := 14) (N := some 52) (v := ?_) (a' := ?_) #[true, true, true, true, true, true, true, true, true, true, true, true, true, true, true, false, false, false, false, false, false, false, false, false, false, false, false, false, false, false, false, false, false, false, false, false, false, false, false, false, false, false, false, false, false, false, false] rfl rfl (any_of HT_.out (by kernel_rfl)) (fun _ _ _ h => h) (Or.inl ⟨by rfl, ?_⟩) ?_ ?_
      rotate_left
      · intro w'
        go_simp
        with_reducible rfl
      rotate_left
      · simp only [Act.put, List.setIfInBounds_toArray, List.set_cons_zero, List.set_cons_succ, i64_w, i32_w]
        rfl
      refine pure_ (i := 15) (N := some 53) (v := ?_) (a' := ?_) #[true, true, true, true, true, true, true, true, true, true, true, true, true, true, true, true, false, false, false, false, false, false, false, false, false, false, false, false, false, false, false, false, false, false, false, false, false, false, false, false, false, false, false, false, false, false, false] rfl rfl (any_of HT_.out (by kernel_rfl)) (fun _ _ _ h => h) (Or.inl ⟨by rfl, ?_⟩) ?_ ?_
      rotate_left
      · intro w'
        go_simp
        with_reducible rfl
      rotate_left
      · simp only [Act.put, List.setIfInBounds_toArray, List.set_cons_zero, List.set_cons_succ, i64_w, i32_w]
        rfl
      refine pure_ (i := 16) (N := some 54) (v := ?_) (a' := ?_) #[true, true, true, true, true, true, true, true, true, true, true, true, true, true, true, true, true, false, false, false, false, false, false, false, false, false, false, false, false, false, false, false, false, false, false, false, false, false, false, false, false, false, false, false, false, false, false] rfl rfl (any_of HT_.out (by kernel_rfl)) (fun _ _ _ h => h) (Or.inl ⟨by rfl, ?_⟩) ?_ ?_
      rotate_left
      · intro w'
        go_simp
        with_reducible rfl
      rotate_left
      · simp only [Act.put, List.setIfInBounds_toArray, List.set_cons_zero, List.set_cons_succ, i64_w, i32_w]
        rfl
      refine take_ (i := 17) (N := some 55) (v := ?_) (a' := ?_) #[true, true, true, true, true, true, true, true, true, true, true, true, true, true, true, true, true, true, false, false, false, false, false, false, false, false, false, false, false, false, false, false, false, false, false, false, false, false, false, false, false, false, false, false, false, false, false] rfl rfl (take_ofW HT_.out HW_.out (by kernel_rfl)) (fun _ _ _ h => h) (Or.inl ⟨by rfl, ?_⟩) hHeld ?_ ?_
      rotate_left
      · rintro w' ⟨s0, s1, s2, s3, s4, s5⟩
        go_simp
        with_reducible rfl
      rotate_left
      · simp only [Act.put, List.setIfInBounds_toArray, List.set_cons_zero, List.set_cons_succ, i64_w, i32_w]
        rfl
      refine one_ (i := 18) (N := some 56) #[true, true, true, true, true, true, true, true, true, true, true, true, true, true, true, true, true, true, true, false, false, false, false, false, false, false, false, false, false, false, false, false, false, false, false, false, false, false, false, false, false, false, false, false, false, false, false] rfl rfl (one_of HT_.out (by kernel_rfl)) (by decide) (fun K hK => ?_)
      refine goes_ Try.func26 (by kernel_rfl) rfl #[.agg #[.bool (ng 0), .slice none (ln 0) 0]] (by rfl) rfl rfl (by (try simp only [List.map_toArray, List.map_cons, List.map_nil]); first | done | rfl) ?_
      with_reducible refine (TextQ (H.row _ m0) (lim b0.out (by decide)) _ ht0.out).mono ?_
      rintro e w25 ⟨rfl, hb⟩
      replace H := H.call hb
      clear hb
      refine ⟨_, rfl, ?_⟩
      refine hK.out _ _ ⟨H.cell m2 0, H.cell m2 1, H.cell m1 0, H.cell m1 1, H.cell m0 0, H.cell m0 1⟩ (fun hHeld => ?_)
      clear hK K
      refine norm_ (a' := ?_) ?_ ?_
      rotate_left
      · show Act.put _ (some 56) _ = _
        simp only [Act.put, List.setIfInBounds_toArray, List.set_cons_zero, List.set_cons_succ, i64_w, i32_w]
        rfl
      refine pure_ (i := 19) (N := some 57) (v := ?_) (a' := ?_) #[true, true, true, true, true, true, true, true, true, true, true, true, true, true, true, true, true, true, true, true, false, false, false, false, false, false, false, false, false, false, false, false, false, false, false, false, false, false, false, false, false, false, false, false, false, false, false] rfl rfl (any_of HT_.out (by kernel_rfl)) (fun _ _ _ h => h) (Or.inl ⟨by rfl, ?_⟩) ?_ ?_
      rotate_left
      · intro w'
        go_simp
        with_reducible rfl
      rotate_left
      · simp only [Act.put, List.setIfInBounds_toArray, List.set_cons_zero, List.set_cons_succ, i64_w, i32_w]
        rfl
      refine pure_ (i := 20) (N := some 58) (v := ?_) (a' := ?_) #[true, true, true, true, true, true, true, true, true, true, true, true, true, true, true, true, true, true, true, true, true, false, false, false, false, false, false, false, false, false, false, false, false, false, false, false, false, false, false, false, false, false, false, false, false, false, false] rfl rfl (any_of HT_.out (by kernel_rfl)) (fun _ _ _ h => h) (Or.inl ⟨by rfl, ?_⟩) ?_ ?_
      rotate_left
      · intro w'
        go_simp
        with_reducible rfl
      rotate_left
      · simp only [Act.put, List.setIfInBounds_toArray, List.set_cons_zero, List.set_cons_succ, i64_w, i32_w]
        rfl
      refine pure_ (i := 21) (N := some 59) (v := ?_) (a' := ?_) #[true, true, true, true, true, true, true, true, true, true, true, true, true, true, true, true, true, true, true, true, true, true, false, false, false, false, false, false, false, false, false, false, false, false, false, false, false, false, false, false, false, false, false, false, false, false, false] rfl rfl (any_of HT_.out (by kernel_rfl)) (fun _ _ _ h => h) (Or.inl ⟨by rfl, ?_⟩) ?_ ?_
      rotate_left
      · intro w'
        go_simp
        with_reducible rfl
      rotate_left
      · simp only [Act.put, List.setIfInBounds_toArray, List.set_cons_zero, List.set_cons_succ, i64_w, i32_w]
        rfl
      refine take_ (i := 22) (N := some 60) (v := ?_) (a' := ?_) #[true, true, true, true, true, true, true, true, true, true, true, true, true, true, true, true, true, true, true, true, true, true, true, false, false, false, false, false, false, false, false, false, false, false, false, false, false, false, false, false, false, false, false, false, false, false, false] rfl rfl (take_ofW HT_.out HW_.out (by kernel_rfl)) (fun _ _ _ h => h) (Or.inl ⟨by rfl, ?_⟩) hHeld ?_ ?_
      rotate_left
      · rintro w' ⟨s0, s1, s2, s3, s4, s5⟩
        go_simp
        with_reducible rfl
      rotate_left
      · simp only [Act.put, List.setIfInBounds_toArray, List.set_cons_zero, List.set_cons_succ, i64_w, i32_w]
        rfl
      refine one_ (i := 23) (N := some 61) #[true, true, true, true, true, true, true, true, true, true, true, true, true, true, true, true, true, true, true, true, true, true, true, true, false, false, false, false, false, false, false, false, false, false, false, false, false, false, false, false, false, false, false, false, false, false, false] rfl rfl (one_of HT_.out (by kernel_rfl)) (by decide) (fun K hK => ?_)
      refine goes_ Try.func25 (by kernel_rfl) rfl #[.agg #[.bool (ng 0), .slice none (ln 0) 0]] (by rfl) rfl rfl (by (try simp only [List.map_toArray, List.map_cons, List.map_nil]); first | done | rfl) ?_
      with_reducible refine (SignQ _ _ _ (lim b0.out (by decide)) 0 hs0.out).mono ?_
      rintro e w26 ⟨rfl, hb⟩
      replace H := H.call hb
      clear hb
      refine ⟨_, rfl, ?_⟩
      refine hK.out _ _ ⟨H.cell m2 0, H.cell m2 1, H.cell m1 0, H.cell m1 1, H.cell m0 0, H.cell m0 1⟩ (fun hHeld => ?_)
      clear hK K
      refine norm_ (a' := ?_) ?_ ?_
      rotate_left
      · show Act.put _ (some 61) _ = _
        simp only [Act.put, List.setIfInBounds_toArray, List.set_cons_zero, List.set_cons_succ, i64_w, i32_w]
        rfl
      refine pure_ (i := 24) (N := some 62) (v := ?_) (a' := ?_) #[true, true, true, true, true, true, true, true, true, true, true, true, true, true, true, true, true, true, true, true, true, true, true, true, true, false, false, false, false, false, false, false, false, false, false, false, false, false, false, false, false, false, false, false, false, false, false] rfl rfl (any_of HT_.out (by kernel_rfl)) (fun _ _ _ h => h) (Or.inl ⟨by rfl, ?_⟩) ?_ ?_
      rotate_left
      · intro w'
        go_simp
        with_reducible rfl
      rotate_left
      · simp only [Act.put, List.setIfInBounds_toArray, List.set_cons_zero, List.set_cons_succ, i64_w, i32_w]
        rfl
      refine pure_ (i := 25) (N := some 63) (v := ?_) (a' := ?_) #[true, true, true, true, true, true, true, true, true, true, true, true, true, true, true, true, true, true, true, true, true, true, true, true, true, true, false, false, false, false, false, false, false, false, false, false, false, false, false, false, false, false, false, false, false, false, false] rfl rfl (any_of HT_.out (by kernel_rfl)) (fun _ _ _ h => h) (Or.inl ⟨by rfl, ?_⟩) ?_ ?_
      rotate_left
      · intro w'
        go_simp
        with_reducible rfl
      rotate_left
      · simp only [Act.put, List.setIfInBounds_toArray, List.set_cons_zero, List.set_cons_succ, i64_w, i32_w]
        rfl
      refine pure_ (i := 26) (N := some 64) (v := ?_) (a' := ?_) #[true, true, true, true, true, true, true, true, true, true, true, true, true, true, true, true, true, true, true, true, true, true, true, true, true, true, true, false, false, false, false, false, false, false, false, false, false, false, false, false, false, false, false, false, false, false, false] rfl rfl (any_of HT_.out (by kernel_rfl)) (fun _ _ _ h => h) (Or.inl ⟨by rfl, ?_⟩) ?_ ?_
      rotate_left
      · intro w'
        go_simp
        with_reducible rfl
      rotate_left
      · simp only [Act.put, List.setIfInBounds_toArray, List.set_cons_zero, List.set_cons_succ, i64_w, i32_w]
        rfl
      refine take_ (i := 27) (N := some 65) (v := ?_) (a' := ?_) #[true, true, true, true, true, true, true, true, true, true, true, true, true, true, true, true, true, true, true, true, true, true, true, true, true, true, true, true, false, false, false, false, false, false, false, false, false, false, false, false, false, false, false, false, false, false, false] rfl rfl (take_ofW HT_.out HW_.out (by kernel_rfl)) (fun _ _ _ h => h) (Or.inl ⟨by rfl, ?_⟩) hHeld ?_ ?_
      rotate_left
      · rintro w' ⟨s0, s1, s2, s3, s4, s5⟩
        go_simp
        with_reducible rfl
      rotate_left
      · simp only [Act.put, List.setIfInBounds_toArray, List.set_cons_zero, List.set_cons_succ, i64_w, i32_w]
        rfl
      refine take_ (i := 28) (N := some 66) (v := ?_) (a' := ?_) #[true, true, true, true, true, true, true, true, true, true, true, true, true, true, true, true, true, true, true, true, true, true, true, true, true, true, true, true, true, false, false, false, false, false, false, false, false, false, false, false, false, false, false, false, false, false, false] rfl rfl (take_ofW HT_.out HW_.out (by kernel_rfl)) (fun _ _ _ h => h) (Or.inl ⟨by rfl, ?_⟩) hHeld ?_ ?_
      rotate_left
      · rintro w' ⟨s0, s1, s2, s3, s4, s5⟩
        go_simp
        with_reducible rfl
      rotate_left
      · simp only [Act.put, List.setIfInBounds_toArray, List.set_cons_zero, List.set_cons_succ, i64_w, i32_w]
        rfl
      refine take_ (i := 30) (N := some 68) (v := ?_) (a' := ?_) #[true, true, true, true, true, true, true, true, true, true, true, true, true, true, true, true, true, true, true, true, true, true, true, true, true, true, true, true, true, false, true, false, false, false, false, false, false, false, false, false, false, false, false, false, false, false, false] rfl rfl (take_ofW HT_.out HW_.out (by kernel_rfl)) (fun _ _ _ h => h) (Or.inl ⟨by rfl, ?_⟩) hHeld ?_ ?_
      rotate_left
      · rintro w' ⟨s0, s1, s2, s3, s4, s5⟩
        go_simp
        with_reducible rfl
      rotate_left
      · simp only [Act.put, List.setIfInBounds_toArray, List.set_cons_zero, List.set_cons_succ, i64_w, i32_w]
        rfl
      refine one_ (i := 29) (N := some 67) #[true, true, true, true, true, true, true, true, true, true, true, true, true, true, true, true, true, true, true, true, true, true, true, true, true, true, true, true, true, true, true, false, false, false, false, false, false, false, false, false, false, false, false, false, false, false, false] rfl rfl (one_of HT_.out (by kernel_rfl)) (by decide) (fun K hK => ?_)
      refine goes_ Try.func28 (by kernel_rfl) rfl #[.agg #[.bool (ng 0), .slice none (ln 0) 0], .agg #[.bool (ng x), .slice A6 (ln x) c7]] (by rfl) rfl rfl (by (try simp only [List.map_toArray, List.map_cons, List.map_nil]); first | done | rfl) ?_
      with_reducible refine (AddQ (H.row _ m0) (H.row _ m2) (lim b0.out (by decide)) (lim bx.out (by decide)) s hs.out).mono ?_
      rintro e w27 ⟨A28, c29, rfl, hr, hb⟩
      replace H := H.got hr hb
      clear hr hb
      refine ⟨_, rfl, ?_⟩
      refine hK.out _ _ ⟨H.cell m2 0, H.cell m2 1, H.cell m1 0, H.cell m1 1, H.cell m0 0, H.cell m0 1⟩ (fun hHeld => ?_)
      clear hK K
      refine norm_ (a' := ?_) ?_ ?_
      rotate_left
      · show Act.put _ (some 67) _ = _
        simp only [Act.put, List.setIfInBounds_toArray, List.set_cons_zero, List.set_cons_succ, i64_w, i32_w]
        rfl
      refine one_ (i := 31) (N := some 69) #[true, true, true, true, true, true, true, true, true, true, true, true, true, true, true, true, true, true, true, true, true, true, true, true, true, true, true, true, true, true, true, true, false, false, false, false, false, false, false, false, false, false, false, false, false, false, false] rfl rfl (one_of HT_.out (by kernel_rfl)) (by decide) (fun K hK => ?_)
      refine goes_ Try.func34 (by kernel_rfl) rfl #[.agg #[.bool (ng s), .slice A28 (ln s) c29], .agg #[.bool (ng x), .slice A6 (ln x) c7]] (by rfl) rfl rfl (by (try simp only [List.map_toArray, List.map_cons, List.map_nil]); first | done | rfl) ?_
      with_reducible refine (CmpQ (H.row _ m0) (H.row _ m3) (lim bs.out (by decide)) (lim bx.out (by decide)) 0 hc.out).mono ?_
      rintro e w30 ⟨rfl, hb⟩
      replace H := H.call hb
      clear hb
      refine ⟨_, rfl, ?_⟩
      refine hK.out _ _ ⟨H.cell m2 0, H.cell m2 1, H.cell m1 0, H.cell m1 1, H.cell m0 0, H.cell m0 1⟩ (fun hHeld => ?_)
      clear hK K
      refine norm_ (a' := ?_) ?_ ?_
      rotate_left
      · show Act.put _ (some 69) _ = _
        simp only [Act.put, List.setIfInBounds_toArray, List.set_cons_zero, List.set_cons_succ, i64_w, i32_w]
        rfl
      refine pure_ (i := 32) (N := some 70) (v := ?_) (a' := ?_) #[true, true, true, true, true, true, true, true, true, true, true, true, true, true, true, true, true, true, true, true, true, true, true, true, true, true, true, true, true, true, true, true, true, false, false, false, false, false, false, false, false, false, false, false, false, false, false] rfl rfl (any_of HT_.out (by kernel_rfl)) (fun _ _ _ h => h) (Or.inl ⟨by rfl, ?_⟩) ?_ ?_
      rotate_left
      · intro w'
        go_simp
        with_reducible rfl
      rotate_left
      · simp only [Act.put, List.setIfInBounds_toArray, List.set_cons_zero, List.set_cons_succ, i64_w, i32_w]
        rfl
      refine pure_ (i := 33) (N := some 71) (v := ?_) (a' := ?_) #[true, true, true, true, true, true, true, true, true, true, true, true, true, true, true, true, true, true, true, true, true, true, true, true, true, true, true, true, true, true, true, true, true, true, false, false, false, false, false, false, false, false, false, false, false, false, false] rfl rfl (any_of HT_.out (by kernel_rfl)) (fun _ _ _ h => h) (Or.inl ⟨by rfl, ?_⟩) ?_ ?_
      rotate_left
      · intro w'
        go_simp
        with_reducible rfl
      rotate_left
      · simp only [Act.put, List.setIfInBounds_toArray, List.set_cons_zero, List.set_cons_succ, i64_w, i32_w]
        rfl
      refine pure_ (i := 34) (N := some 72) (v := ?_) (a' := ?_) #[true, true, true, true, true, true, true, true, true, true, true, true, true, true, true, true, true, true, true, true, true, true, true, true, true, true, true, true, true, true, true, true, true, true, true, false, false, false, false, false, false, false, false, false, false, false, false] rfl rfl (any_of HT_.out (by kernel_rfl)) (fun _ _ _ h => h) (Or.inl ⟨by rfl, ?_⟩) ?_ ?_
      rotate_left
      · intro w'
        go_simp
        with_reducible rfl
      rotate_left
      · simp only [Act.put, List.setIfInBounds_toArray, List.set_cons_zero, List.set_cons_succ, i64_w, i32_w]
        rfl
      refine take_ (i := 35) (N := some 73) (v := ?_) (a' := ?_) #[true, true, true, true, true, true, true, true, true, true, true, true, true, true, true, true, true, true, true, true, true, true, true, true, true, true, true, true, true, true, true, true, true, true, true, true, false, false, false, false, false, false, false, false, false, false, false] rfl rfl (take_ofW HT_.out HW_.out (by kernel_rfl)) (fun _ _ _ h => h) (Or.inl ⟨by rfl, ?_⟩) hHeld ?_ ?_
      rotate_left
      · rintro w' ⟨s0, s1, s2, s3, s4, s5⟩
        go_simp
        with_reducible rfl
      rotate_left
      · simp only [Act.put, List.setIfInBounds_toArray, List.set_cons_zero, List.set_cons_succ, i64_w, i32_w]
        rfl
      refine take_ (i := 36) (N := some 74) (v := ?_) (a' := ?_) #[true, true, true, true, true, true, true, true, true, true, true, true, true, true, true, true, true, true, true, true, true, true, true, true, true, true, true, true, true, true, true, true, true, true, true, true, true, false, false, false, false, false, false, false, false, false, false] rfl rfl (take_ofW HT_.out HW_.out (by kernel_rfl)) (fun _ _ _ h => h) (Or.inl ⟨by rfl, ?_⟩) hHeld ?_ ?_
      rotate_left
      · rintro w' ⟨s0, s1, s2, s3, s4, s5⟩
        go_simp
        with_reducible rfl
      rotate_left
      · simp only [Act.put, List.setIfInBounds_toArray, List.set_cons_zero, List.set_cons_succ, i64_w, i32_w]
        rfl
      refine one_ (i := 37) (N := some 75) #[true, true, true, true, true, true, true, true, true, true, true, true, true, true, true, true, true, true, true, true, true, true, true, true, true, true, true, true, true, true, true, true, true, true, true, true, true, true, false, false, false, false, false, false, false, false, false] rfl rfl (one_of HT_.out (by kernel_rfl)) (by decide) (fun K hK => ?_)
      refine goes_ Try.func31 (by kernel_rfl) rfl #[.agg #[.bool (ng 0), .slice none (ln 0) 0], .agg #[.bool (ng x), .slice A6 (ln x) c7]] (by rfl) rfl rfl (by (try simp only [List.map_toArray, List.map_cons, List.map_nil]); first | done | rfl) ?_
      with_reducible refine (MulQ (H.row _ m1) (H.row _ m3) (lim b0.out (by decide)) (lim bx.out (by decide)) p hp.out).mono ?_
      rintro e w31 ⟨A32, c33, rfl, hr, hb⟩
      replace H := H.got hr hb
      clear hr hb
      refine ⟨_, rfl, ?_⟩
      refine hK.out _ _ ⟨H.cell m2 0, H.cell m2 1, H.cell m1 0, H.cell m1 1, H.cell m0 0, H.cell m0 1⟩ (fun hHeld => ?_)
      clear hK K
      refine norm_ (a' := ?_) ?_ ?_
      rotate_left
      · show Act.put _ (some 75) _ = _
        simp only [Act.put, List.setIfInBounds_toArray, List.set_cons_zero, List.set_cons_succ, i64_w, i32_w]
        rfl
      refine one_ (i := 38) (N := some 76) #[true, true, true, true, true, true, true, true, true, true, true, true, true, true, true, true, true, true, true, true, true, true, true, true, true, true, true, true, true, true, true, true, true, true, true, true, true, true, true, false, false, false, false, false, false, false, false] rfl rfl (one_of HT_.out (by kernel_rfl)) (by decide) (fun K hK => ?_)
      refine goes_ Try.func25 (by kernel_rfl) rfl #[.agg #[.bool (ng p), .slice A32 (ln p) c33]] (by rfl) rfl rfl (by (try simp only [List.map_toArray, List.map_cons, List.map_nil]); first | done | rfl) ?_
      with_reducible refine (SignQ _ _ _ (lim bp.out (by decide)) 0 hsp.out).mono ?_
      rintro e w34 ⟨rfl, hb⟩
      replace H := H.call hb
      clear hb
      refine ⟨_, rfl, ?_⟩
      refine hK.out _ _ ⟨H.cell m2 0, H.cell m2 1, H.cell m1 0, H.cell m1 1, H.cell m0 0, H.cell m0 1⟩ (fun hHeld => ?_)
      clear hK K
      refine norm_ (a' := ?_) ?_ ?_
      rotate_left
      · show Act.put _ (some 76) _ = _
        simp only [Act.put, List.setIfInBounds_toArray, List.set_cons_zero, List.set_cons_succ, i64_w, i32_w]
        rfl
      refine pure_ (i := 39) (N := some 77) (v := ?_) (a' := ?_) #[true, true, true, true, true, true, true, true, true, true, true, true, true, true, true, true, true, true, true, true, true, true, true, true, true, true, true, true, true, true, true, true, true, true, true, true, true, true, true, true, false, false, false, false, false, false, false] rfl rfl (any_of HT_.out (by kernel_rfl)) (fun _ _ _ h => h) (Or.inl ⟨by rfl, ?_⟩) ?_ ?_
      rotate_left
      · intro w'
        go_simp
        with_reducible rfl
      rotate_left
      · simp only [Act.put, List.setIfInBounds_toArray, List.set_cons_zero, List.set_cons_succ, i64_w, i32_w]
        rfl
      refine pure_ (i := 40) (N := some 78) (v := ?_) (a' := ?_) #[true, true, true, true, true, true, true, true, true, true, true, true, true, true, true, true, true, true, true, true, true, true, true, true, true, true, true, true, true, true, true, true, true, true, true, true, true, true, true, true, true, false, false, false, false, false, false] rfl rfl (any_of HT_.out (by kernel_rfl)) (fun _ _ _ h => h) (Or.inl ⟨by rfl, ?_⟩) ?_ ?_
      rotate_left
      · intro w'
        go_simp
        with_reducible rfl
      rotate_left
      · simp only [Act.put, List.setIfInBounds_toArray, List.set_cons_zero, List.set_cons_succ, i64_w, i32_w]
        rfl
      refine pure_ (i := 41) (N := some 79) (v := ?_) (a' := ?_) #[true, true, true, true, true, true, true, true, true, true, true, true, true, true, true, true, true, true, true, true, true, true, true, true, true, true, true, true, true, true, true, true, true, true, true, true, true, true, true, true, true, true, false, false, false, false, false] rfl rfl (any_of HT_.out (by kernel_rfl)) (fun _ _ _ h => h) (Or.inl ⟨by rfl, ?_⟩) ?_ ?_
      rotate_left
      · intro w'
        go_simp
        with_reducible rfl
      rotate_left
      · simp only [Act.put, List.setIfInBounds_toArray, List.set_cons_zero, List.set_cons_succ, i64_w, i32_w]
        rfl
      refine take_ (i := 42) (N := some 80) (v := ?_) (a' := ?_) #[true, true, true, true, true, true, true, true, true, true, true, true, true, true, true, true, true, true, true, true, true, true, true, true, true, true, true, true, true, true, true, true, true, true, true, true, true, true, true, true, true, true, true, false, false, false, false] rfl rfl (take_ofW HT_.out HW_.out (by kernel_rfl)) (fun _ _ _ h => h) (Or.inl ⟨by rfl, ?_⟩) hHeld ?_ ?_
      rotate_left
      · rintro w' ⟨s0, s1, s2, s3, s4, s5⟩
        go_simp
        with_reducible rfl
      rotate_left
      · simp only [Act.put, List.setIfInBounds_toArray, List.set_cons_zero, List.set_cons_succ, i64_w, i32_w]
        rfl
      refine one_ (i := 43) (N := some 81) #[true, true, true, true, true, true, true, true, true, true, true, true, true, true, true, true, true, true, true, true, true, true, true, true, true, true, true, true, true, true, true, true, true, true, true, true, true, true, true, true, true, true, true, true, false, false, false] rfl rfl (one_of HT_.out (by kernel_rfl)) (by decide) (fun K hK => ?_)
      refine goes_ Try.func36 (by kernel_rfl) rfl #[.agg #[.bool (ng 0), .slice none (ln 0) 0]] (by rfl) rfl rfl (by (try simp only [List.map_toArray, List.map_cons, List.map_nil]); first | done | rfl) ?_
      with_reducible refine (BitsQ (H.row _ m2) (lim b0.out (by decide)) 0 hb0.out).mono ?_
      rintro e w35 ⟨rfl, hb⟩
      replace H := H.call hb
      clear hb
      refine ⟨_, rfl, ?_⟩
      refine hK.out _ _ ⟨H.cell m2 0, H.cell m2 1, H.cell m1 0, H.cell m1 1, H.cell m0 0, H.cell m0 1⟩ (fun hHeld => ?_)
      clear hK K
      refine norm_ (a' := ?_) ?_ ?_
      rotate_left
      · show Act.put _ (some 81) _ = _
        simp only [Act.put, List.setIfInBounds_toArray, List.set_cons_zero, List.set_cons_succ, i64_w, i32_w]
        rfl
      refine pure_ (i := 44) (N := some 82) (v := ?_) (a' := ?_) #[true, true, true, true, true, true, true, true, true, true, true, true, true, true, true, true, true, true, true, true, true, true, true, true, true, true, true, true, true, true, true, true, true, true, true, true, true, true, true, true, true, true, true, true, true, false, false] rfl rfl (any_of HT_.out (by kernel_rfl)) (fun _ _ _ h => h) (Or.inl ⟨by rfl, ?_⟩) ?_ ?_
      rotate_left
      · intro w'
        go_simp
        with_reducible rfl
      rotate_left
      · simp only [Act.put, List.setIfInBounds_toArray, List.set_cons_zero, List.set_cons_succ, i64_w, i32_w]
        rfl
      refine pure_ (i := 45) (N := some 83) (v := ?_) (a' := ?_) #[true, true, true, true, true, true, true, true, true, true, true, true, true, true, true, true, true, true, true, true, true, true, true, true, true, true, true, true, true, true, true, true, true, true, true, true, true, true, true, true, true, true, true, true, true, true, false] rfl rfl (any_of HT_.out (by kernel_rfl)) (fun _ _ _ h => h) (Or.inl ⟨by rfl, ?_⟩) ?_ ?_
      rotate_left
      · intro w'
        go_simp
        with_reducible rfl
      rotate_left
      · simp only [Act.put, List.setIfInBounds_toArray, List.set_cons_zero, List.set_cons_succ, i64_w, i32_w]
        rfl
      refine pure_ (i := 46) (N := some 2) (v := ?_) (a' := ?_) #[true, true, true, true, true, true, true, true, true, true, true, true, true, true, true, true, true, true, true, true, true, true, true, true, true, true, true, true, true, true, true, true, true, true, true, true, true, true, true, true, true, true, true, true, true, true, true] rfl rfl (any_of HT_.out (by kernel_rfl)) (fun _ _ _ h => h) (Or.inl ⟨by rfl, ?_⟩) ?_ ?_
      rotate_left
      · intro w'
        go_simp
        with_reducible rfl
      rotate_left
      · simp only [Act.put, List.setIfInBounds_toArray, List.set_cons_zero, List.set_cons_succ, i64_w, i32_w]
        rfl
      refine done_ (done_of HT_.out (by kernel_rfl)) ?_
      try clear hHeld
      go_wp2
      go_ret
      exact ⟨rfl, H.below⟩

theorem full_walk (n : Int) (w : World) (n0 : 0 ≤ n) (n1 : n ≤ 255) : Calls Try.prog 8 #[.int .u8 n] w (fun e W' => e = .returned (.bool true) ∧ Below w.heap.size w W') := by
  obtain ⟨m, rfl⟩ := Int.eq_ofNat_of_zero_le n0
  exact full_m m w (by omega)

end Go.Proofs.Ytdkapdgbfejgdaa
