/- The walk of the law BigintComputes. -/
import Derived.Test.YtdkapdgbfejgdaaNn
import Derived.Test.YtdkapdgbfejgdaaTw
import Derived.Test.YtdkapdgbfejgdaaZd
namespace Go.Proofs.Ytdkapdgbfejgdaa
open Go.RowKit Go.Proofs.YtdkapdgbfejgdaaW.PrintWords Go.Proofs.YtdkapdgbfejgdaaW.PrintLast Go.Proofs.YtdkapdgbfejgdaaW.PrintMore
set_option linter.unusedSimpArgs false
set_option linter.unusedVariables false
set_option maxHeartbeats 8000000
set_option maxRecDepth 100000

/-- It returns a number of the reference that is a block of its own, and whether there is one. -/
def RetNP (w : World) (x : Int) (b : Bool) (e : Ending) (w' : World) : Prop :=
  ∃ A c, e = .returned (.tuple #[.agg #[.int .i64 (sg x), .slice A (dn x) c], .bool b]) ∧ (nw A c x).at w' (fun k => w.heap.size ≤ k) ∧ Below w.heap.size w w'
theorem ParseN_ok {s : ByteArray} (hs : s.size ≤ 4096) {x : Int} (h : pr s = (x, 0)) (w : World) : Calls Try.prog 24 #[.string s] w (RetNP w x true) := RefParse_ok s hs x h w
theorem ParseN_no {s : ByteArray} (hs : s.size ≤ 4096) {x e : Int} (h : pr s = (x, e)) (he : e ≠ 0) (w : World) : Calls Try.prog 24 #[.string s] w (RetNP w 0 false) := RefParse_no s hs x e h he w
theorem dn_ln {x : Int} {k : Nat} (h : ln x ≤ k) : dn x ≤ 10 * k := by
  refine dn_bound x _ ?_
  have h1 : x.natAbs < 4294967296 ^ (digs x).length := dg_lt 4294967296 (by omega) _
  have h2 : (4294967296 : Nat) ^ (digs x).length ≤ (10 ^ 10) ^ (digs x).length := Nat.pow_le_pow_left (by omega) _
  have h3 : ((10 : Nat) ^ 10) ^ (digs x).length = 10 ^ (10 * (digs x).length) := (Nat.pow_mul ..).symm
  have h4 : (10 : Nat) ^ (10 * (digs x).length) ≤ 10 ^ (10 * k) := Nat.pow_le_pow_right (by omega) (Nat.mul_le_mul_left 10 h)
  omega

theorem comp_f (a b : ByteArray) (w : World) (x y : Int) (hAB : Aside0 (∀ w, Calls Try.prog 33 #[.string a, .string b] w (RetTwo w x y false))) : Calls Try.prog 10 #[.string a, .string b] w (fun e W' => e = .returned (.bool true) ∧ Below w.heap.size w W') := by
  have hu25 := Try.underlying25
  have hu31 := Try.underlying31
  have H := Sit.start w (fun _ => False)
  go_enter Try.func10, Try.ntmps10
  have st2 := trivial
  have st8 := trivial
  have st10 := trivial
  have st12 := trivial
  go_upto_region 4 with (first
    | (clear st2; go_at_call 22; (with_reducible refine (awake_ok _).mono ?_); rintro e wA ⟨rfl, hb⟩; replace H := H.call hb; clear hb)
    | (clear st8; go_at_call 33; (with_reducible refine (hAB.out _).mono ?_); rintro e w3 ⟨A4, c5, A6, c7, rfl, hr, hr2, hb⟩; replace H := (H.got (fresh_row hr) hb).more ((H.got (fresh_row hr2) hb).row _ m0); clear hr hr2 hb)
    | (clear st10; (with_reducible refine gate_dst (N := 5) rfl ?_); refine box_event ?hg (N := 5) ?hd (cs := #[.bool false, .slice none 0 0]) (t := 25) ?hr ?_; (case hd => rfl); (case hg => rfl); (case hr => go_simp; try rfl); intro g5 hg w9 hbox hb; replace H := H.newbox hg hbox hb; clear hg hbox hb; obtain ⟨k5_0, z5_0, k5_1, z5_1⟩ := H.b2 (g := g5) m0)
    | (clear st12; (with_reducible refine gate_dst (N := 6) rfl ?_); refine box_event ?hg (N := 6) ?hd (cs := #[.bool false, .slice none 0 0]) (t := 25) ?hr ?_; (case hd => rfl); (case hg => rfl); (case hr => go_simp; try rfl); intro g6 hg w11 hbox hb; replace H := H.newbox hg hbox hb; clear hg hbox hb; clear k5_0 z5_0 k5_1 z5_1; obtain ⟨k6_0, z6_0, k6_1, z6_1⟩ := H.b2 (g := g6) m0; obtain ⟨k5_0, z5_0, k5_1, z5_1⟩ := H.b2 (g := g5) m1; have ne_g6_g5 := H.ne (g := g6) (g' := g5) 0 1 rfl rfl (by decide); have ne_g5_g6 := ne_g6_g5.symm))
  (try simp only [Act.put, List.setIfInBounds_toArray, List.set_cons_zero, List.set_cons_succ])
  replace H := ((((H.setn [_] 0 (.bool (ng x)) rfl).setn [_] 1 (.slice A4 (ln x) c5) rfl).setn [] 0 (.bool (ng y)) rfl).setn [] 1 (.slice A6 (ln y) c7) rfl)
  clear k6_0 z6_0 k6_1 z6_1 k5_0 z5_0 k5_1 z5_1
  generalize ((((w11.setCell ⟨g5, 0, none⟩ (.bool (ng x))).setCell ⟨g5, 1, none⟩ (.slice A4 (ln x) c5)).setCell ⟨g6, 0, none⟩ (.bool (ng y))).setCell ⟨g6, 1, none⟩ (.slice A6 (ln y) c7)) = w13 at H ⊢
  obtain ⟨k6_0, z6_0, k6_1, z6_1⟩ := H.b2 (g := g6) m0
  obtain ⟨k5_0, z5_0, k5_1, z5_1⟩ := H.b2 (g := g5) m1
  go_wp2
  go_ret
  exact ⟨rfl, H.below⟩

def tb10.T8 : Bool × List (List Nat × List Nat) := (true, [([], []), ([], []), ([0, 1], [0, 1]), ([2, 2], [2]), ([], []), ([], []), ([4, 5, 3], [4, 5]), ([6, 6], [6]), ([3, 7], [3, 7]), ([8, 7], [8]), ([9], [9]), ([9], [9]), ([10, 11, 9, 9], [9, 10, 11]), ([12, 12, 9], [9, 12]), ([9], [9]), ([9], [9]), ([15, 13, 9], [9, 15]), ([14, 16, 16, 9], [9, 14, 16]), ([17, 17, 9], [9, 17]), ([13, 18, 9], [9, 13, 18]), ([9, 19], [9, 19]), ([20, 18], [20]), ([21], [21]), ([21], [21]), ([22, 23, 21, 21], [21, 22, 23]), ([24, 24, 21], [21, 24]), ([21], [21]), ([21], [21]), ([26, 27, 25, 21], [21, 26, 27]), ([28, 28, 21], [21, 28]), ([25, 29, 21], [21, 25, 29]), ([21, 30], [21, 30]), ([31, 29], [31]), ([32], [32]), ([33, 32, 32], [32, 33]), ([34, 34, 32], [32, 34]), ([32], [32]), ([36, 35, 32], [32, 36]), ([37, 37, 32], [32, 37]), ([35, 38, 32], [32, 35, 38]), ([32, 39], [32, 39]), ([40, 38], [40]), ([41], [41]), ([41], [41]), ([42, 43, 41, 41], [41, 42, 43]), ([41], [41]), ([41], [41]), ([45, 46, 44, 41], [41, 45, 46]), ([44, 47, 41], [41, 44, 47]), ([41, 48], [41, 48])])
def tb10.B8 : List Nat := [0, 0, 3, 7, 0, 0, 63, 127, 255, 511, 1023, 1023, 4095, 8191, 1023, 1023, 49151, 131071, 262143, 524287, 1048575, 2097151, 4194303, 4194303, 16777215, 33554431, 4194303, 4194303, 268435455, 536870911, 1073741823, 2147483647, 4294967295, 8589934591, 17179869183, 34359738367, 8589934591, 137438953471, 274877906943, 549755813887, 1099511627775, 2199023255551, 4398046511103, 4398046511103, 17592186044415, 4398046511103, 4398046511103, 140737488355327, 281474976710655, 562949953421311]
theorem tb10.tab8 : rtab .any (opsOf Try.f10 8) = tb10.T8 := by kernel_rfl
theorem tb10.bits8 : waitsOk tb10.T8.2 tb10.B8 = true := by kernel_rfl
def tb10.T14 : Bool × List (List Nat × List Nat) := (true, [([], []), ([0], [0]), ([1], [1]), ([2], [2]), ([3, 2, 2], [2, 3]), ([2], [2]), ([5, 4, 2], [2, 5]), ([4, 6, 2], [2, 4, 6]), ([2, 7], [2, 7]), ([8, 6], [8]), ([9], [9]), ([10, 9, 9], [9, 10]), ([9], [9]), ([12, 11, 9], [9, 12]), ([11, 13, 9], [9, 11, 13]), ([9, 14], [9, 14]), ([15, 13], [15]), ([16], [16]), ([17, 16, 16], [16, 17]), ([16], [16]), ([18, 19, 16], [16, 18, 19]), ([16, 20], [16, 20]), ([21, 18], [21]), ([22], [22]), ([23, 22, 22], [22, 23]), ([22], [22]), ([24, 25, 22], [22, 24, 25]), ([22, 26], [22, 26]), ([27, 24, 0, 1, 2, 3, 4, 5, 6, 7, 8, 9, 10, 11, 12, 13, 14, 15, 16, 17, 18, 19, 20, 21, 22, 23, 24, 25, 26, 27], [27])])
def tb10.B14 : List Nat := [0, 1, 3, 7, 15, 7, 63, 127, 255, 511, 1023, 2047, 1023, 8191, 16383, 32767, 65535, 131071, 262143, 131071, 1048575, 2097151, 4194303, 8388607, 16777215, 8388607, 67108863, 134217727, 268435455]
theorem tb10.tab14 : rtab .any (opsOf Try.f10 14) = tb10.T14 := by kernel_rfl
theorem tb10.bits14 : waitsOk tb10.T14.2 tb10.B14 = true := by kernel_rfl

theorem comp_t (a b : ByteArray) (w : World) (x y : Int) (bx : Aside0 (ln x ≤ 10)) (bY : Aside0 (ln y ≤ 10)) (b0 : Aside0 (ln 0 ≤ 1)) (s d p n q r u v s2 mv d2 p2 n2 qq rr k : Int) (ts td tp tn tq tr : ByteArray) (bs : Aside0 (ln s ≤ 1000)) (bd : Aside0 (ln d ≤ 1000)) (bp : Aside0 (ln p ≤ 1000)) (bn : Aside0 (ln n ≤ 1000)) (bq : Aside0 (ln q ≤ 1000)) (br : Aside0 (ln r ≤ 1000)) (bu : Aside0 (dn u ≤ 10000)) (bv : Aside0 (dn v ≤ 10000)) (bs2 : Aside0 (dn s2 ≤ 10000)) (bmv : Aside0 (dn mv ≤ 10000)) (bd2 : Aside0 (dn d2 ≤ 10000)) (bp2 : Aside0 (dn p2 ≤ 10000)) (bn2 : Aside0 (dn n2 ≤ 10000)) (bqq : Aside0 (dn qq ≤ 10000)) (brr : Aside0 (dn rr ≤ 10000)) (hAB : Aside0 (∀ w, Calls Try.prog 33 #[.string a, .string b] w (RetTwo w x y true)))
    (hPu : Aside0 (∀ w, Calls Try.prog 24 #[.string a] w (RetNP w u true))) (hPv : Aside0 (∀ w, Calls Try.prog 24 #[.string b] w (RetNP w v true)))
    (hs : Aside0 (x + y = s)) (hts : Aside0 (tx s = ts)) (hs2 : Aside0 (u + v = s2)) (hts2 : Aside0 (tx s2 = ts)) (hd : Aside0 (x - y = d)) (htd : Aside0 (tx d = td)) (hmv : Aside0 (-v = mv)) (hd2 : Aside0 (u + mv = d2)) (htd2 : Aside0 (tx d2 = td))
    (hp : Aside0 (x * y = p)) (htp : Aside0 (tx p = tp)) (hp2 : Aside0 (u * v = p2)) (htp2 : Aside0 (tx p2 = tp)) (hn : Aside0 (-x = n)) (htn : Aside0 (tx n = tn)) (hn2 : Aside0 (-u = n2)) (htn2 : Aside0 (tx n2 = tn)) (hk : Aside0 (cmp3 x y = k)) (hk2 : Aside0 (cmp3 u v = k))
    (hcs : Aside0 ((y = 0 ∧ (sg v == 0) = true) ∨ (y ≠ 0 ∧ (sg v == 0) = false))) (hs0 : Aside0 (sg 0 = 0)) (hq : Aside0 (x.tdiv y = q)) (hr' : Aside0 (x.tmod y = r)) (hdv0 : Aside0 (y ≠ 0 → v ≠ 0 ∧ u.tdiv v = qq ∧ u.tmod v = rr)) (htq : Aside0 (tx q = tq)) (htqq : Aside0 (tx qq = tq)) (htr : Aside0 (tx r = tr)) (htrr : Aside0 (tx rr = tr)) (hta : Aside0 (tx x = a)) (htb : Aside0 (tx y = b))
    (f1 : (ts.toList != ts.toList) = false) (f2 : (td.toList != td.toList) = false) (f3 : (tp.toList != tp.toList) = false) (f4 : (tn.toList != tn.toList) = false) (f5 : (k != k) = false) (f6 : (tq.toList == tq.toList) = true) (f7 : (tr.toList == tr.toList) = true) (f8 : (a.toList == a.toList) = true) (f9 : (b.toList == b.toList) = true) : Calls Try.prog 10 #[.string a, .string b] w (fun e W' => e = .returned (.bool true) ∧ Below w.heap.size w W') := by
  have hu25 := Try.underlying25
  have hu31 := Try.underlying31
  have H := Sit.start w (fun _ => False)
  go_enter Try.func10, Try.ntmps10
  have st2 := trivial
  have st8 := trivial
  have st10 := trivial
  have st12 := trivial
  go_upto_region 4 with (first
    | (clear st2; go_at_call 22; (with_reducible refine (awake_ok _).mono ?_); rintro e wA ⟨rfl, hb⟩; replace H := H.call hb; clear hb)
    | (clear st8; go_at_call 33; (with_reducible refine (hAB.out _).mono ?_); rintro e w3 ⟨A4, c5, A6, c7, rfl, hr, hr2, hb⟩; replace H := (H.got (fresh_row hr) hb).more ((H.got (fresh_row hr2) hb).row _ m0); clear hr hr2 hb)
    | (clear st10; (with_reducible refine gate_dst (N := 5) rfl ?_); refine box_event ?hg (N := 5) ?hd (cs := #[.bool false, .slice none 0 0]) (t := 25) ?hr ?_; (case hd => rfl); (case hg => rfl); (case hr => go_simp; try rfl); intro g5 hg w9 hbox hb; replace H := H.newbox hg hbox hb; clear hg hbox hb; obtain ⟨k5_0, z5_0, k5_1, z5_1⟩ := H.b2 (g := g5) m0)
    | (clear st12; (with_reducible refine gate_dst (N := 6) rfl ?_); refine box_event ?hg (N := 6) ?hd (cs := #[.bool false, .slice none 0 0]) (t := 25) ?hr ?_; (case hd => rfl); (case hg => rfl); (case hr => go_simp; try rfl); intro g6 hg w11 hbox hb; replace H := H.newbox hg hbox hb; clear hg hbox hb; clear k5_0 z5_0 k5_1 z5_1; obtain ⟨k6_0, z6_0, k6_1, z6_1⟩ := H.b2 (g := g6) m0; obtain ⟨k5_0, z5_0, k5_1, z5_1⟩ := H.b2 (g := g5) m1; have ne_g6_g5 := H.ne (g := g6) (g' := g5) 0 1 rfl rfl (by decide); have ne_g5_g6 := ne_g6_g5.symm))
  (try simp only [Act.put, List.setIfInBounds_toArray, List.set_cons_zero, List.set_cons_succ])
  replace H := ((((H.setn [_] 0 (.bool (ng x)) rfl).setn [_] 1 (.slice A4 (ln x) c5) rfl).setn [] 0 (.bool (ng y)) rfl).setn [] 1 (.slice A6 (ln y) c7) rfl)
  clear k6_0 z6_0 k6_1 z6_1 k5_0 z5_0 k5_1 z5_1
  generalize ((((w11.setCell ⟨g5, 0, none⟩ (.bool (ng x))).setCell ⟨g5, 1, none⟩ (.slice A4 (ln x) c5)).setCell ⟨g6, 0, none⟩ (.bool (ng y))).setCell ⟨g6, 1, none⟩ (.slice A6 (ln y) c7)) = w13 at H ⊢
  obtain ⟨k6_0, z6_0, k6_1, z6_1⟩ := H.b2 (g := g6) m0
  obtain ⟨k5_0, z5_0, k5_1, z5_1⟩ := H.b2 (g := g5) m1
  have st17 := trivial
  have st19 := trivial
  go_upto_region 7 with (first
    | (clear st17; go_at_call 24; (with_reducible refine (hPu.out _).mono ?_); rintro e w14 ⟨A15, c16, rfl, hr, hb⟩; replace H := H.got (fresh_row hr) hb; clear hr hb; clear k6_0 z6_0 k6_1 z6_1 k5_0 z5_0 k5_1 z5_1; obtain ⟨k6_0, z6_0, k6_1, z6_1⟩ := H.b2 (g := g6) m0; obtain ⟨k5_0, z5_0, k5_1, z5_1⟩ := H.b2 (g := g5) m1)
    | (clear st19; (with_reducible refine gate_dst (N := 8) rfl ?_); refine box_event ?hg (N := 8) ?hd (cs := #[.int .i64 0, .slice none 0 0]) (t := 31) ?hr ?_; (case hd => rfl); (case hg => rfl); (case hr => go_simp; try rfl); intro g8 hg w18 hbox hb; replace H := H.newbox hg hbox hb; clear hg hbox hb; clear k6_0 z6_0 k6_1 z6_1 k5_0 z5_0 k5_1 z5_1; obtain ⟨k8_0, z8_0, k8_1, z8_1⟩ := H.b2 (g := g8) m0; obtain ⟨k6_0, z6_0, k6_1, z6_1⟩ := H.b2 (g := g6) m1; obtain ⟨k5_0, z5_0, k5_1, z5_1⟩ := H.b2 (g := g5) m2; have ne_g8_g6 := H.ne (g := g8) (g' := g6) 0 1 rfl rfl (by decide); have ne_g6_g8 := ne_g8_g6.symm; have ne_g8_g5 := H.ne (g := g8) (g' := g5) 0 2 rfl rfl (by decide); have ne_g5_g8 := ne_g8_g5.symm))
  (try simp only [Act.put, List.setIfInBounds_toArray, List.set_cons_zero, List.set_cons_succ])
  replace H := ((H.setn [] 0 (.int .i64 (sg u)) rfl).setn [] 1 (.slice A15 (dn u) c16) rfl)
  clear k8_0 z8_0 k8_1 z8_1 k6_0 z6_0 k6_1 z6_1 k5_0 z5_0 k5_1 z5_1
  generalize ((w18.setCell ⟨g8, 0, none⟩ (.int .i64 (sg u))).setCell ⟨g8, 1, none⟩ (.slice A15 (dn u) c16)) = w20 at H ⊢
  obtain ⟨k8_0, z8_0, k8_1, z8_1⟩ := H.b2 (g := g8) m0
  obtain ⟨k6_0, z6_0, k6_1, z6_1⟩ := H.b2 (g := g6) m1
  obtain ⟨k5_0, z5_0, k5_1, z5_1⟩ := H.b2 (g := g5) m2
  have st24 := trivial
  have st26 := trivial
  go_upto_region 8 with (first
    | (clear st24; go_at_call 24; (with_reducible refine (hPv.out _).mono ?_); rintro e w21 ⟨A22, c23, rfl, hr, hb⟩; replace H := H.got (fresh_row hr) hb; clear hr hb; clear k8_0 z8_0 k8_1 z8_1 k6_0 z6_0 k6_1 z6_1 k5_0 z5_0 k5_1 z5_1; obtain ⟨k8_0, z8_0, k8_1, z8_1⟩ := H.b2 (g := g8) m0; obtain ⟨k6_0, z6_0, k6_1, z6_1⟩ := H.b2 (g := g6) m1; obtain ⟨k5_0, z5_0, k5_1, z5_1⟩ := H.b2 (g := g5) m2)
    | (clear st26; (with_reducible refine gate_dst (N := 10) rfl ?_); refine box_event ?hg (N := 10) ?hd (cs := #[.int .i64 0, .slice none 0 0]) (t := 31) ?hr ?_; (case hd => rfl); (case hg => rfl); (case hr => go_simp; try rfl); intro g10 hg w25 hbox hb; replace H := H.newbox hg hbox hb; clear hg hbox hb; clear k8_0 z8_0 k8_1 z8_1 k6_0 z6_0 k6_1 z6_1 k5_0 z5_0 k5_1 z5_1; obtain ⟨k10_0, z10_0, k10_1, z10_1⟩ := H.b2 (g := g10) m0; obtain ⟨k8_0, z8_0, k8_1, z8_1⟩ := H.b2 (g := g8) m1; obtain ⟨k6_0, z6_0, k6_1, z6_1⟩ := H.b2 (g := g6) m2; obtain ⟨k5_0, z5_0, k5_1, z5_1⟩ := H.b2 (g := g5) m3; have ne_g10_g8 := H.ne (g := g10) (g' := g8) 0 1 rfl rfl (by decide); have ne_g8_g10 := ne_g10_g8.symm; have ne_g10_g6 := H.ne (g := g10) (g' := g6) 0 2 rfl rfl (by decide); have ne_g6_g10 := ne_g10_g6.symm; have ne_g10_g5 := H.ne (g := g10) (g' := g5) 0 3 rfl rfl (by decide); have ne_g5_g10 := ne_g10_g5.symm))
  (try simp only [Act.put, List.setIfInBounds_toArray, List.set_cons_zero, List.set_cons_succ])
  replace H := ((H.setn [] 0 (.int .i64 (sg v)) rfl).setn [] 1 (.slice A22 (dn v) c23) rfl)
  clear k10_0 z10_0 k10_1 z10_1 k8_0 z8_0 k8_1 z8_1 k6_0 z6_0 k6_1 z6_1 k5_0 z5_0 k5_1 z5_1
  generalize ((w25.setCell ⟨g10, 0, none⟩ (.int .i64 (sg v))).setCell ⟨g10, 1, none⟩ (.slice A22 (dn v) c23)) = w27 at H ⊢
  obtain ⟨k10_0, z10_0, k10_1, z10_1⟩ := H.b2 (g := g10) m0
  obtain ⟨k8_0, z8_0, k8_1, z8_1⟩ := H.b2 (g := g8) m1
  obtain ⟨k6_0, z6_0, k6_1, z6_1⟩ := H.b2 (g := g6) m2
  obtain ⟨k5_0, z5_0, k5_1, z5_1⟩ := H.b2 (g := g5) m3
  clear k10_0 z10_0 k10_1 z10_1 k8_0 z8_0 k8_1 z8_1 k6_0 z6_0 k6_1 z6_1 k5_0 z5_0 k5_1 z5_1
  replace H := H.drew
  refine start_ (n := 50) (S := fun w' => w'.cell? ⟨g5, 0, none⟩ = some (.bool (ng x)) ∧ w'.cell? ⟨g5, 1, none⟩ = some (.slice A4 (ln x) c5) ∧ w'.cell? ⟨g6, 0, none⟩ = some (.bool (ng y)) ∧ w'.cell? ⟨g6, 1, none⟩ = some (.slice A6 (ln y) c7) ∧ w'.cell? ⟨g8, 0, none⟩ = some (.int .i64 (sg u)) ∧ w'.cell? ⟨g8, 1, none⟩ = some (.slice A15 (dn u) c16) ∧ w'.cell? ⟨g10, 0, none⟩ = some (.int .i64 (sg v)) ∧ w'.cell? ⟨g10, 1, none⟩ = some (.slice A22 (dn v) c23)) (ds := []) #[false, false, false, false, false, false, false, false, false, false, false, false, false, false, false, false, false, false, false, false, false, false, false, false, false, false, false, false, false, false, false, false, false, false, false, false, false, false, false, false, false, false, false, false, false, false, false, false, false, false] (by kernel_rfl) rfl rfl ⟨H.cell m3 0, H.cell m3 1, H.cell m2 0, H.cell m2 1, H.cell m1 0, H.cell m1 1, H.cell m0 0, H.cell m0 1⟩ (fun hQ => ?_)
  generalize w27.drew = w28 at H hQ ⊢
  refine with_tabW tb10.tab8 tb10.bits8 (fun HT_ HW_ => ?_)
  refine take_ (i := 0) (N := some 38) (v := ?_) (a' := ?_) (bm 50 1) rfl rfl (take_ofW HT_.out HW_.out (by kernel_rfl)) (fun _ _ _ h => h) (Or.inl ⟨by rfl, ?_⟩) hQ ?_ ?_
  rotate_left
  · rintro w' ⟨s0, s1, s2, s3, s4, s5, s6, s7⟩
    go_simp
    with_reducible rfl
  rotate_left
  · simp only [Act.put, List.setIfInBounds_toArray, List.set_cons_zero, List.set_cons_succ, i64_w, i32_w]
    rfl
  refine take_ (i := 1) (N := some 39) (v := ?_) (a' := ?_) (bm 50 3) rfl rfl (take_ofW HT_.out HW_.out (by kernel_rfl)) (fun _ _ _ h => h) (Or.inl ⟨by rfl, ?_⟩) hQ ?_ ?_
  rotate_left
  · rintro w' ⟨s0, s1, s2, s3, s4, s5, s6, s7⟩
    go_simp
    with_reducible rfl
  rotate_left
  · simp only [Act.put, List.setIfInBounds_toArray, List.set_cons_zero, List.set_cons_succ, i64_w, i32_w]
    rfl
  refine take_ (i := 4) (N := some 42) (v := ?_) (a' := ?_) (bm 50 19) rfl rfl (take_ofW HT_.out HW_.out (by kernel_rfl)) (fun _ _ _ h => h) (Or.inl ⟨by rfl, ?_⟩) hQ ?_ ?_
  rotate_left
  · rintro w' ⟨s0, s1, s2, s3, s4, s5, s6, s7⟩
    go_simp
    with_reducible rfl
  rotate_left
  · simp only [Act.put, List.setIfInBounds_toArray, List.set_cons_zero, List.set_cons_succ, i64_w, i32_w]
    rfl
  refine take_ (i := 5) (N := some 43) (v := ?_) (a' := ?_) (bm 50 51) rfl rfl (take_ofW HT_.out HW_.out (by kernel_rfl)) (fun _ _ _ h => h) (Or.inl ⟨by rfl, ?_⟩) hQ ?_ ?_
  rotate_left
  · rintro w' ⟨s0, s1, s2, s3, s4, s5, s6, s7⟩
    go_simp
    with_reducible rfl
  rotate_left
  · simp only [Act.put, List.setIfInBounds_toArray, List.set_cons_zero, List.set_cons_succ, i64_w, i32_w]
    rfl
  refine one_ (i := 2) (N := some 40) (bm 50 55) rfl rfl (one_of HT_.out (by kernel_rfl)) (by decide) (fun K hK => ?_)
  refine goes_ Try.func28 (by kernel_rfl) rfl #[.agg #[.bool (ng x), .slice A4 (ln x) c5], .agg #[.bool (ng y), .slice A6 (ln y) c7]] (by rfl) rfl rfl (by simp only [List.map_toArray, List.map_cons, List.map_nil]; try rfl) ?_
  with_reducible refine (AddQ (H.row _ m3) (H.row _ m2) (lim bx.out (by decide)) (lim bY.out (by decide)) s hs.out).mono ?_
  rintro e w29 ⟨A30, c31, rfl, hr, hb⟩
  replace H := H.got hr hb
  clear hr hb
  refine ⟨_, rfl, ?_⟩
  refine hK.out _ _ ⟨H.cell m3 0, H.cell m3 1, H.cell m2 0, H.cell m2 1, H.cell m1 0, H.cell m1 1, H.cell m0 0, H.cell m0 1⟩ (fun hQ => ?_)
  clear hK K
  refine norm_ (a' := ?_) ?_ ?_
  rotate_left
  · show Act.put _ (some 40) _ = _
    simp only [Act.put, List.setIfInBounds_toArray, List.set_cons_zero, List.set_cons_succ, i64_w, i32_w]
    rfl
  refine one_ (i := 3) (N := some 41) (bm 50 63) rfl rfl (one_of HT_.out (by kernel_rfl)) (by decide) (fun K hK => ?_)
  refine goes_ Try.func26 (by kernel_rfl) rfl #[.agg #[.bool (ng s), .slice A30 (ln s) c31]] (by rfl) rfl rfl (by simp only [List.map_toArray, List.map_cons, List.map_nil]; try rfl) ?_
  with_reducible refine (TextQ (H.row _ m0) (lim bs.out (by decide)) ts hts.out).mono ?_
  rintro e w32 ⟨rfl, hb⟩
  replace H := H.call hb
  clear hb
  refine ⟨_, rfl, ?_⟩
  refine hK.out _ _ ⟨H.cell m3 0, H.cell m3 1, H.cell m2 0, H.cell m2 1, H.cell m1 0, H.cell m1 1, H.cell m0 0, H.cell m0 1⟩ (fun hQ => ?_)
  clear hK K
  refine norm_ (a' := ?_) ?_ ?_
  rotate_left
  · show Act.put _ (some 41) _ = _
    simp only [Act.put, List.setIfInBounds_toArray, List.set_cons_zero, List.set_cons_succ, i64_w, i32_w]
    rfl
  refine one_ (i := 6) (N := some 44) (bm 50 127) rfl rfl (one_of HT_.out (by kernel_rfl)) (by decide) (fun K hK => ?_)
  refine goes_ Try.func56 (by kernel_rfl) rfl #[.agg #[.int .i64 (sg u), .slice A15 (dn u) c16], .agg #[.int .i64 (sg v), .slice A22 (dn v) c23]] (by rfl) rfl rfl (by simp only [List.map_toArray, List.map_cons, List.map_nil]; try rfl) ?_
  with_reducible refine (AddN (H.row _ m2) (H.row _ m1) (Nat.le_trans bu.out (by decide)) (Nat.le_trans bv.out (by decide)) s2 hs2.out).mono ?_
  rintro e w33 ⟨A34, c35, rfl, hr, hb⟩
  replace H := H.got hr hb
  clear hr hb
  refine ⟨_, rfl, ?_⟩
  refine hK.out _ _ ⟨H.cell m3 0, H.cell m3 1, H.cell m2 0, H.cell m2 1, H.cell m1 0, H.cell m1 1, H.cell m0 0, H.cell m0 1⟩ (fun hQ => ?_)
  clear hK K
  refine norm_ (a' := ?_) ?_ ?_
  rotate_left
  · show Act.put _ (some 44) _ = _
    simp only [Act.put, List.setIfInBounds_toArray, List.set_cons_zero, List.set_cons_succ, i64_w, i32_w]
    rfl
  refine one_ (i := 7) (N := some 45) (bm 50 255) rfl rfl (one_of HT_.out (by kernel_rfl)) (by decide) (fun K hK => ?_)
  refine goes_ Try.func55 (by kernel_rfl) rfl #[.agg #[.int .i64 (sg s2), .slice A34 (dn s2) c35]] (by rfl) rfl rfl (by simp only [List.map_toArray, List.map_cons, List.map_nil]; try rfl) ?_
  with_reducible refine (TextN (Nat.le_trans bs2.out (by decide)) (H.row _ m0) ts hts2.out).mono ?_
  rintro e w36 ⟨rfl, hb⟩
  replace H := H.call hb
  clear hb
  refine ⟨_, rfl, ?_⟩
  refine hK.out _ _ ⟨H.cell m3 0, H.cell m3 1, H.cell m2 0, H.cell m2 1, H.cell m1 0, H.cell m1 1, H.cell m0 0, H.cell m0 1⟩ (fun hQ => ?_)
  clear hK K
  refine norm_ (a' := ?_) ?_ ?_
  rotate_left
  · show Act.put _ (some 45) _ = _
    simp only [Act.put, List.setIfInBounds_toArray, List.set_cons_zero, List.set_cons_succ, i64_w, i32_w]
    rfl
  refine pure_ (i := 8) (N := some 46) (v := ?_) (a' := ?_) (bm 50 511) rfl rfl (any_of HT_.out (by kernel_rfl)) (fun _ _ _ h => h) (Or.inl ⟨by rfl, ?_⟩) ?_ ?_
  rotate_left
  · intro w'
    go_simp
    with_reducible rfl
  rotate_left
  · simp only [Act.put, List.setIfInBounds_toArray, List.set_cons_zero, List.set_cons_succ, i64_w, i32_w]
    rfl
  refine pure_ (i := 9) (N := some 47) (v := ?_) (a' := ?_) (bm 50 1023) rfl rfl (any_of HT_.out (by kernel_rfl)) (fun _ _ _ h => h) (Or.inl ⟨by rfl, ?_⟩) ?_ ?_
  rotate_left
  · intro w'
    go_simp
    with_reducible rfl
  rotate_left
  · simp only [Act.put, List.setIfInBounds_toArray, List.set_cons_zero, List.set_cons_succ, i64_w, i32_w]
    rfl
  refine take_ (i := 10) (N := some 48) (v := ?_) (a' := ?_) (bm 50 2047) rfl rfl (take_ofW HT_.out HW_.out (by kernel_rfl)) (fun _ _ _ h => h) (Or.inl ⟨by rfl, ?_⟩) hQ ?_ ?_
  rotate_left
  · rintro w' ⟨s0, s1, s2, s3, s4, s5, s6, s7⟩
    go_simp
    with_reducible rfl
  rotate_left
  · simp only [Act.put, List.setIfInBounds_toArray, List.set_cons_zero, List.set_cons_succ, i64_w, i32_w]
    rfl
  refine take_ (i := 11) (N := some 49) (v := ?_) (a' := ?_) (bm 50 4095) rfl rfl (take_ofW HT_.out HW_.out (by kernel_rfl)) (fun _ _ _ h => h) (Or.inl ⟨by rfl, ?_⟩) hQ ?_ ?_
  rotate_left
  · rintro w' ⟨s0, s1, s2, s3, s4, s5, s6, s7⟩
    go_simp
    with_reducible rfl
  rotate_left
  · simp only [Act.put, List.setIfInBounds_toArray, List.set_cons_zero, List.set_cons_succ, i64_w, i32_w]
    rfl
  refine take_ (i := 14) (N := some 52) (v := ?_) (a' := ?_) (bm 50 20479) rfl rfl (take_ofW HT_.out HW_.out (by kernel_rfl)) (fun _ _ _ h => h) (Or.inl ⟨by rfl, ?_⟩) hQ ?_ ?_
  rotate_left
  · rintro w' ⟨s0, s1, s2, s3, s4, s5, s6, s7⟩
    go_simp
    with_reducible rfl
  rotate_left
  · simp only [Act.put, List.setIfInBounds_toArray, List.set_cons_zero, List.set_cons_succ, i64_w, i32_w]
    rfl
  refine take_ (i := 15) (N := some 53) (v := ?_) (a' := ?_) (bm 50 53247) rfl rfl (take_ofW HT_.out HW_.out (by kernel_rfl)) (fun _ _ _ h => h) (Or.inl ⟨by rfl, ?_⟩) hQ ?_ ?_
  rotate_left
  · rintro w' ⟨s0, s1, s2, s3, s4, s5, s6, s7⟩
    go_simp
    with_reducible rfl
  rotate_left
  · simp only [Act.put, List.setIfInBounds_toArray, List.set_cons_zero, List.set_cons_succ, i64_w, i32_w]
    rfl
  refine one_ (i := 12) (N := some 50) (bm 50 57343) rfl rfl (one_of HT_.out (by kernel_rfl)) (by decide) (fun K hK => ?_)
  refine goes_ Try.func30 (by kernel_rfl) rfl #[.agg #[.bool (ng x), .slice A4 (ln x) c5], .agg #[.bool (ng y), .slice A6 (ln y) c7]] (by rfl) rfl rfl (by simp only [List.map_toArray, List.map_cons, List.map_nil]; try rfl) ?_
  with_reducible refine (SubQ (H.row _ m5) (H.row _ m4) (lim bx.out (by decide)) (lim bY.out (by decide)) d hd.out).mono ?_
  rintro e w37 ⟨A38, c39, rfl, hr, hb⟩
  replace H := H.got hr hb
  clear hr hb
  refine ⟨_, rfl, ?_⟩
  refine hK.out _ _ ⟨H.cell m3 0, H.cell m3 1, H.cell m2 0, H.cell m2 1, H.cell m1 0, H.cell m1 1, H.cell m0 0, H.cell m0 1⟩ (fun hQ => ?_)
  clear hK K
  refine norm_ (a' := ?_) ?_ ?_
  rotate_left
  · show Act.put _ (some 50) _ = _
    simp only [Act.put, List.setIfInBounds_toArray, List.set_cons_zero, List.set_cons_succ, i64_w, i32_w]
    rfl
  refine one_ (i := 13) (N := some 51) (bm 50 65535) rfl rfl (one_of HT_.out (by kernel_rfl)) (by decide) (fun K hK => ?_)
  refine goes_ Try.func26 (by kernel_rfl) rfl #[.agg #[.bool (ng d), .slice A38 (ln d) c39]] (by rfl) rfl rfl (by simp only [List.map_toArray, List.map_cons, List.map_nil]; try rfl) ?_
  with_reducible refine (TextQ (H.row _ m0) (lim bd.out (by decide)) td htd.out).mono ?_
  rintro e w40 ⟨rfl, hb⟩
  replace H := H.call hb
  clear hb
  refine ⟨_, rfl, ?_⟩
  refine hK.out _ _ ⟨H.cell m3 0, H.cell m3 1, H.cell m2 0, H.cell m2 1, H.cell m1 0, H.cell m1 1, H.cell m0 0, H.cell m0 1⟩ (fun hQ => ?_)
  clear hK K
  refine norm_ (a' := ?_) ?_ ?_
  rotate_left
  · show Act.put _ (some 51) _ = _
    simp only [Act.put, List.setIfInBounds_toArray, List.set_cons_zero, List.set_cons_succ, i64_w, i32_w]
    rfl
  refine one_ (i := 16) (N := some 54) (bm 50 131071) rfl rfl (one_of HT_.out (by kernel_rfl)) (by decide) (fun K hK => ?_)
  refine goes_ Try.func57 (by kernel_rfl) rfl #[.agg #[.int .i64 (sg v), .slice A22 (dn v) c23]] (by rfl) rfl rfl (by simp only [List.map_toArray, List.map_cons, List.map_nil]; try rfl) ?_
  with_reducible refine (NegN (H.row _ m3) mv hmv.out).mono ?_
  rintro e w41 ⟨A42, c43, rfl, hr, hb⟩
  replace H := H.got hr hb
  clear hr hb
  refine ⟨_, rfl, ?_⟩
  refine hK.out _ _ ⟨H.cell m3 0, H.cell m3 1, H.cell m2 0, H.cell m2 1, H.cell m1 0, H.cell m1 1, H.cell m0 0, H.cell m0 1⟩ (fun hQ => ?_)
  clear hK K
  refine norm_ (a' := ?_) ?_ ?_
  rotate_left
  · show Act.put _ (some 54) _ = _
    simp only [Act.put, List.setIfInBounds_toArray, List.set_cons_zero, List.set_cons_succ, i64_w, i32_w]
    rfl
  refine one_ (i := 17) (N := some 55) (bm 50 262143) rfl rfl (one_of HT_.out (by kernel_rfl)) (by decide) (fun K hK => ?_)
  refine goes_ Try.func56 (by kernel_rfl) rfl #[.agg #[.int .i64 (sg u), .slice A15 (dn u) c16], .agg #[.int .i64 (sg mv), .slice A42 (dn mv) c43]] (by rfl) rfl rfl (by simp only [List.map_toArray, List.map_cons, List.map_nil]; try rfl) ?_
  with_reducible refine (AddN (H.row _ m5) (H.row _ m0) (Nat.le_trans bu.out (by decide)) (Nat.le_trans bmv.out (by decide)) d2 hd2.out).mono ?_
  rintro e w44 ⟨A45, c46, rfl, hr, hb⟩
  replace H := H.got hr hb
  clear hr hb
  refine ⟨_, rfl, ?_⟩
  refine hK.out _ _ ⟨H.cell m3 0, H.cell m3 1, H.cell m2 0, H.cell m2 1, H.cell m1 0, H.cell m1 1, H.cell m0 0, H.cell m0 1⟩ (fun hQ => ?_)
  clear hK K
  refine norm_ (a' := ?_) ?_ ?_
  rotate_left
  · show Act.put _ (some 55) _ = _
    simp only [Act.put, List.setIfInBounds_toArray, List.set_cons_zero, List.set_cons_succ, i64_w, i32_w]
    rfl
  refine one_ (i := 18) (N := some 56) (bm 50 524287) rfl rfl (one_of HT_.out (by kernel_rfl)) (by decide) (fun K hK => ?_)
  refine goes_ Try.func55 (by kernel_rfl) rfl #[.agg #[.int .i64 (sg d2), .slice A45 (dn d2) c46]] (by rfl) rfl rfl (by simp only [List.map_toArray, List.map_cons, List.map_nil]; try rfl) ?_
  with_reducible refine (TextN (Nat.le_trans bd2.out (by decide)) (H.row _ m0) td htd2.out).mono ?_
  rintro e w47 ⟨rfl, hb⟩
  replace H := H.call hb
  clear hb
  refine ⟨_, rfl, ?_⟩
  refine hK.out _ _ ⟨H.cell m3 0, H.cell m3 1, H.cell m2 0, H.cell m2 1, H.cell m1 0, H.cell m1 1, H.cell m0 0, H.cell m0 1⟩ (fun hQ => ?_)
  clear hK K
  refine norm_ (a' := ?_) ?_ ?_
  rotate_left
  · show Act.put _ (some 56) _ = _
    simp only [Act.put, List.setIfInBounds_toArray, List.set_cons_zero, List.set_cons_succ, i64_w, i32_w]
    rfl
  refine pure_ (i := 19) (N := some 57) (v := ?_) (a' := ?_) (bm 50 1048575) rfl rfl (any_of HT_.out (by kernel_rfl)) (fun _ _ _ h => h) (Or.inl ⟨by rfl, ?_⟩) ?_ ?_
  rotate_left
  · intro w'
    go_simp
    with_reducible rfl
  rotate_left
  · simp only [Act.put, List.setIfInBounds_toArray, List.set_cons_zero, List.set_cons_succ, i64_w, i32_w]
    rfl
  refine pure_ (i := 20) (N := some 58) (v := ?_) (a' := ?_) (bm 50 2097151) rfl rfl (any_of HT_.out (by kernel_rfl)) (fun _ _ _ h => h) (Or.inl ⟨by rfl, ?_⟩) ?_ ?_
  rotate_left
  · intro w'
    go_simp
    with_reducible rfl
  rotate_left
  · simp only [Act.put, List.setIfInBounds_toArray, List.set_cons_zero, List.set_cons_succ, i64_w, i32_w]
    rfl
  refine pure_ (i := 21) (N := some 59) (v := ?_) (a' := ?_) (bm 50 4194303) rfl rfl (any_of HT_.out (by kernel_rfl)) (fun _ _ _ h => h) (Or.inl ⟨by rfl, ?_⟩) ?_ ?_
  rotate_left
  · intro w'
    go_simp
    with_reducible rfl
  rotate_left
  · simp only [Act.put, List.setIfInBounds_toArray, List.set_cons_zero, List.set_cons_succ, i64_w, i32_w]
    rfl
  refine take_ (i := 22) (N := some 60) (v := ?_) (a' := ?_) (bm 50 8388607) rfl rfl (take_ofW HT_.out HW_.out (by kernel_rfl)) (fun _ _ _ h => h) (Or.inl ⟨by rfl, ?_⟩) hQ ?_ ?_
  rotate_left
  · rintro w' ⟨s0, s1, s2, s3, s4, s5, s6, s7⟩
    go_simp
    with_reducible rfl
  rotate_left
  · simp only [Act.put, List.setIfInBounds_toArray, List.set_cons_zero, List.set_cons_succ, i64_w, i32_w]
    rfl
  refine take_ (i := 23) (N := some 61) (v := ?_) (a' := ?_) (bm 50 16777215) rfl rfl (take_ofW HT_.out HW_.out (by kernel_rfl)) (fun _ _ _ h => h) (Or.inl ⟨by rfl, ?_⟩) hQ ?_ ?_
  rotate_left
  · rintro w' ⟨s0, s1, s2, s3, s4, s5, s6, s7⟩
    go_simp
    with_reducible rfl
  rotate_left
  · simp only [Act.put, List.setIfInBounds_toArray, List.set_cons_zero, List.set_cons_succ, i64_w, i32_w]
    rfl
  refine take_ (i := 26) (N := some 64) (v := ?_) (a' := ?_) (bm 50 83886079) rfl rfl (take_ofW HT_.out HW_.out (by kernel_rfl)) (fun _ _ _ h => h) (Or.inl ⟨by rfl, ?_⟩) hQ ?_ ?_
  rotate_left
  · rintro w' ⟨s0, s1, s2, s3, s4, s5, s6, s7⟩
    go_simp
    with_reducible rfl
  rotate_left
  · simp only [Act.put, List.setIfInBounds_toArray, List.set_cons_zero, List.set_cons_succ, i64_w, i32_w]
    rfl
  refine take_ (i := 27) (N := some 65) (v := ?_) (a' := ?_) (bm 50 218103807) rfl rfl (take_ofW HT_.out HW_.out (by kernel_rfl)) (fun _ _ _ h => h) (Or.inl ⟨by rfl, ?_⟩) hQ ?_ ?_
  rotate_left
  · rintro w' ⟨s0, s1, s2, s3, s4, s5, s6, s7⟩
    go_simp
    with_reducible rfl
  rotate_left
  · simp only [Act.put, List.setIfInBounds_toArray, List.set_cons_zero, List.set_cons_succ, i64_w, i32_w]
    rfl
  refine one_ (i := 24) (N := some 62) (bm 50 234881023) rfl rfl (one_of HT_.out (by kernel_rfl)) (by decide) (fun K hK => ?_)
  refine goes_ Try.func31 (by kernel_rfl) rfl #[.agg #[.bool (ng x), .slice A4 (ln x) c5], .agg #[.bool (ng y), .slice A6 (ln y) c7]] (by rfl) rfl rfl (by simp only [List.map_toArray, List.map_cons, List.map_nil]; try rfl) ?_
  with_reducible refine (MulQ (H.row _ m8) (H.row _ m7) (lim bx.out (by decide)) (lim bY.out (by decide)) p hp.out).mono ?_
  rintro e w48 ⟨A49, c50, rfl, hr, hb⟩
  replace H := H.got hr hb
  clear hr hb
  refine ⟨_, rfl, ?_⟩
  refine hK.out _ _ ⟨H.cell m3 0, H.cell m3 1, H.cell m2 0, H.cell m2 1, H.cell m1 0, H.cell m1 1, H.cell m0 0, H.cell m0 1⟩ (fun hQ => ?_)
  clear hK K
  refine norm_ (a' := ?_) ?_ ?_
  rotate_left
  · show Act.put _ (some 62) _ = _
    simp only [Act.put, List.setIfInBounds_toArray, List.set_cons_zero, List.set_cons_succ, i64_w, i32_w]
    rfl
  refine one_ (i := 25) (N := some 63) (bm 50 268435455) rfl rfl (one_of HT_.out (by kernel_rfl)) (by decide) (fun K hK => ?_)
  refine goes_ Try.func26 (by kernel_rfl) rfl #[.agg #[.bool (ng p), .slice A49 (ln p) c50]] (by rfl) rfl rfl (by simp only [List.map_toArray, List.map_cons, List.map_nil]; try rfl) ?_
  with_reducible refine (TextQ (H.row _ m0) (lim bp.out (by decide)) tp htp.out).mono ?_
  rintro e w51 ⟨rfl, hb⟩
  replace H := H.call hb
  clear hb
  refine ⟨_, rfl, ?_⟩
  refine hK.out _ _ ⟨H.cell m3 0, H.cell m3 1, H.cell m2 0, H.cell m2 1, H.cell m1 0, H.cell m1 1, H.cell m0 0, H.cell m0 1⟩ (fun hQ => ?_)
  clear hK K
  refine norm_ (a' := ?_) ?_ ?_
  rotate_left
  · show Act.put _ (some 63) _ = _
    simp only [Act.put, List.setIfInBounds_toArray, List.set_cons_zero, List.set_cons_succ, i64_w, i32_w]
    rfl
  refine one_ (i := 28) (N := some 66) (bm 50 536870911) rfl rfl (one_of HT_.out (by kernel_rfl)) (by decide) (fun K hK => ?_)
  refine goes_ Try.func58 (by kernel_rfl) rfl #[.agg #[.int .i64 (sg u), .slice A15 (dn u) c16], .agg #[.int .i64 (sg v), .slice A22 (dn v) c23]] (by rfl) rfl rfl (by simp only [List.map_toArray, List.map_cons, List.map_nil]; try rfl) ?_
  with_reducible refine (MulN (H.row _ m7) (H.row _ m6) (Nat.le_trans bu.out (by decide)) (Nat.le_trans bv.out (by decide)) p2 hp2.out).mono ?_
  rintro e w52 ⟨A53, c54, rfl, hr, hb⟩
  replace H := H.got hr hb
  clear hr hb
  refine ⟨_, rfl, ?_⟩
  refine hK.out _ _ ⟨H.cell m3 0, H.cell m3 1, H.cell m2 0, H.cell m2 1, H.cell m1 0, H.cell m1 1, H.cell m0 0, H.cell m0 1⟩ (fun hQ => ?_)
  clear hK K
  refine norm_ (a' := ?_) ?_ ?_
  rotate_left
  · show Act.put _ (some 66) _ = _
    simp only [Act.put, List.setIfInBounds_toArray, List.set_cons_zero, List.set_cons_succ, i64_w, i32_w]
    rfl
  refine one_ (i := 29) (N := some 67) (bm 50 1073741823) rfl rfl (one_of HT_.out (by kernel_rfl)) (by decide) (fun K hK => ?_)
  refine goes_ Try.func55 (by kernel_rfl) rfl #[.agg #[.int .i64 (sg p2), .slice A53 (dn p2) c54]] (by rfl) rfl rfl (by simp only [List.map_toArray, List.map_cons, List.map_nil]; try rfl) ?_
  with_reducible refine (TextN (Nat.le_trans bp2.out (by decide)) (H.row _ m0) tp htp2.out).mono ?_
  rintro e w55 ⟨rfl, hb⟩
  replace H := H.call hb
  clear hb
  refine ⟨_, rfl, ?_⟩
  refine hK.out _ _ ⟨H.cell m3 0, H.cell m3 1, H.cell m2 0, H.cell m2 1, H.cell m1 0, H.cell m1 1, H.cell m0 0, H.cell m0 1⟩ (fun hQ => ?_)
  clear hK K
  refine norm_ (a' := ?_) ?_ ?_
  rotate_left
  · show Act.put _ (some 67) _ = _
    simp only [Act.put, List.setIfInBounds_toArray, List.set_cons_zero, List.set_cons_succ, i64_w, i32_w]
    rfl
  refine pure_ (i := 30) (N := some 68) (v := ?_) (a' := ?_) (bm 50 2147483647) rfl rfl (any_of HT_.out (by kernel_rfl)) (fun _ _ _ h => h) (Or.inl ⟨by rfl, ?_⟩) ?_ ?_
  rotate_left
  · intro w'
    go_simp
    with_reducible rfl
  rotate_left
  · simp only [Act.put, List.setIfInBounds_toArray, List.set_cons_zero, List.set_cons_succ, i64_w, i32_w]
    rfl
  refine pure_ (i := 31) (N := some 69) (v := ?_) (a' := ?_) (bm 50 4294967295) rfl rfl (any_of HT_.out (by kernel_rfl)) (fun _ _ _ h => h) (Or.inl ⟨by rfl, ?_⟩) ?_ ?_
  rotate_left
  · intro w'
    go_simp
    with_reducible rfl
  rotate_left
  · simp only [Act.put, List.setIfInBounds_toArray, List.set_cons_zero, List.set_cons_succ, i64_w, i32_w]
    rfl
  refine pure_ (i := 32) (N := some 70) (v := ?_) (a' := ?_) (bm 50 8589934591) rfl rfl (any_of HT_.out (by kernel_rfl)) (fun _ _ _ h => h) (Or.inl ⟨by rfl, ?_⟩) ?_ ?_
  rotate_left
  · intro w'
    go_simp
    with_reducible rfl
  rotate_left
  · simp only [Act.put, List.setIfInBounds_toArray, List.set_cons_zero, List.set_cons_succ, i64_w, i32_w]
    rfl
  refine take_ (i := 33) (N := some 71) (v := ?_) (a' := ?_) (bm 50 17179869183) rfl rfl (take_ofW HT_.out HW_.out (by kernel_rfl)) (fun _ _ _ h => h) (Or.inl ⟨by rfl, ?_⟩) hQ ?_ ?_
  rotate_left
  · rintro w' ⟨s0, s1, s2, s3, s4, s5, s6, s7⟩
    go_simp
    with_reducible rfl
  rotate_left
  · simp only [Act.put, List.setIfInBounds_toArray, List.set_cons_zero, List.set_cons_succ, i64_w, i32_w]
    rfl
  refine take_ (i := 36) (N := some 74) (v := ?_) (a' := ?_) (bm 50 85899345919) rfl rfl (take_ofW HT_.out HW_.out (by kernel_rfl)) (fun _ _ _ h => h) (Or.inl ⟨by rfl, ?_⟩) hQ ?_ ?_
  rotate_left
  · rintro w' ⟨s0, s1, s2, s3, s4, s5, s6, s7⟩
    go_simp
    with_reducible rfl
  rotate_left
  · simp only [Act.put, List.setIfInBounds_toArray, List.set_cons_zero, List.set_cons_succ, i64_w, i32_w]
    rfl
  refine one_ (i := 34) (N := some 72) (bm 50 103079215103) rfl rfl (one_of HT_.out (by kernel_rfl)) (by decide) (fun K hK => ?_)
  refine goes_ Try.func37 (by kernel_rfl) rfl #[.agg #[.bool (ng x), .slice A4 (ln x) c5]] (by rfl) rfl rfl (by simp only [List.map_toArray, List.map_cons, List.map_nil]; try rfl) ?_
  with_reducible refine (NegQ (H.row _ m10) (lim bx.out (by decide)) n hn.out).mono ?_
  rintro e w56 ⟨A57, c58, rfl, hr, hb⟩
  replace H := H.got hr hb
  clear hr hb
  refine ⟨_, rfl, ?_⟩
  refine hK.out _ _ ⟨H.cell m3 0, H.cell m3 1, H.cell m2 0, H.cell m2 1, H.cell m1 0, H.cell m1 1, H.cell m0 0, H.cell m0 1⟩ (fun hQ => ?_)
  clear hK K
  refine norm_ (a' := ?_) ?_ ?_
  rotate_left
  · show Act.put _ (some 72) _ = _
    simp only [Act.put, List.setIfInBounds_toArray, List.set_cons_zero, List.set_cons_succ, i64_w, i32_w]
    rfl
  refine one_ (i := 35) (N := some 73) (bm 50 137438953471) rfl rfl (one_of HT_.out (by kernel_rfl)) (by decide) (fun K hK => ?_)
  refine goes_ Try.func26 (by kernel_rfl) rfl #[.agg #[.bool (ng n), .slice A57 (ln n) c58]] (by rfl) rfl rfl (by simp only [List.map_toArray, List.map_cons, List.map_nil]; try rfl) ?_
  with_reducible refine (TextQ (H.row _ m0) (lim bn.out (by decide)) tn htn.out).mono ?_
  rintro e w59 ⟨rfl, hb⟩
  replace H := H.call hb
  clear hb
  refine ⟨_, rfl, ?_⟩
  refine hK.out _ _ ⟨H.cell m3 0, H.cell m3 1, H.cell m2 0, H.cell m2 1, H.cell m1 0, H.cell m1 1, H.cell m0 0, H.cell m0 1⟩ (fun hQ => ?_)
  clear hK K
  refine norm_ (a' := ?_) ?_ ?_
  rotate_left
  · show Act.put _ (some 73) _ = _
    simp only [Act.put, List.setIfInBounds_toArray, List.set_cons_zero, List.set_cons_succ, i64_w, i32_w]
    rfl
  refine one_ (i := 37) (N := some 75) (bm 50 274877906943) rfl rfl (one_of HT_.out (by kernel_rfl)) (by decide) (fun K hK => ?_)
  refine goes_ Try.func57 (by kernel_rfl) rfl #[.agg #[.int .i64 (sg u), .slice A15 (dn u) c16]] (by rfl) rfl rfl (by simp only [List.map_toArray, List.map_cons, List.map_nil]; try rfl) ?_
  with_reducible refine (NegN (H.row _ m9) n2 hn2.out).mono ?_
  rintro e w60 ⟨A61, c62, rfl, hr, hb⟩
  replace H := H.got hr hb
  clear hr hb
  refine ⟨_, rfl, ?_⟩
  refine hK.out _ _ ⟨H.cell m3 0, H.cell m3 1, H.cell m2 0, H.cell m2 1, H.cell m1 0, H.cell m1 1, H.cell m0 0, H.cell m0 1⟩ (fun hQ => ?_)
  clear hK K
  refine norm_ (a' := ?_) ?_ ?_
  rotate_left
  · show Act.put _ (some 75) _ = _
    simp only [Act.put, List.setIfInBounds_toArray, List.set_cons_zero, List.set_cons_succ, i64_w, i32_w]
    rfl
  refine one_ (i := 38) (N := some 76) (bm 50 549755813887) rfl rfl (one_of HT_.out (by kernel_rfl)) (by decide) (fun K hK => ?_)
  refine goes_ Try.func55 (by kernel_rfl) rfl #[.agg #[.int .i64 (sg n2), .slice A61 (dn n2) c62]] (by rfl) rfl rfl (by simp only [List.map_toArray, List.map_cons, List.map_nil]; try rfl) ?_
  with_reducible refine (TextN (Nat.le_trans bn2.out (by decide)) (H.row _ m0) tn htn2.out).mono ?_
  rintro e w63 ⟨rfl, hb⟩
  replace H := H.call hb
  clear hb
  refine ⟨_, rfl, ?_⟩
  refine hK.out _ _ ⟨H.cell m3 0, H.cell m3 1, H.cell m2 0, H.cell m2 1, H.cell m1 0, H.cell m1 1, H.cell m0 0, H.cell m0 1⟩ (fun hQ => ?_)
  clear hK K
  refine norm_ (a' := ?_) ?_ ?_
  rotate_left
  · show Act.put _ (some 76) _ = _
    simp only [Act.put, List.setIfInBounds_toArray, List.set_cons_zero, List.set_cons_succ, i64_w, i32_w]
    rfl
  refine pure_ (i := 39) (N := some 77) (v := ?_) (a' := ?_) (bm 50 1099511627775) rfl rfl (any_of HT_.out (by kernel_rfl)) (fun _ _ _ h => h) (Or.inl ⟨by rfl, ?_⟩) ?_ ?_
  rotate_left
  · intro w'
    go_simp
    with_reducible rfl
  rotate_left
  · simp only [Act.put, List.setIfInBounds_toArray, List.set_cons_zero, List.set_cons_succ, i64_w, i32_w]
    rfl
  refine pure_ (i := 40) (N := some 78) (v := ?_) (a' := ?_) (bm 50 2199023255551) rfl rfl (any_of HT_.out (by kernel_rfl)) (fun _ _ _ h => h) (Or.inl ⟨by rfl, ?_⟩) ?_ ?_
  rotate_left
  · intro w'
    go_simp
    with_reducible rfl
  rotate_left
  · simp only [Act.put, List.setIfInBounds_toArray, List.set_cons_zero, List.set_cons_succ, i64_w, i32_w]
    rfl
  refine pure_ (i := 41) (N := some 79) (v := ?_) (a' := ?_) (bm 50 4398046511103) rfl rfl (any_of HT_.out (by kernel_rfl)) (fun _ _ _ h => h) (Or.inl ⟨by rfl, ?_⟩) ?_ ?_
  rotate_left
  · intro w'
    go_simp
    with_reducible rfl
  rotate_left
  · simp only [Act.put, List.setIfInBounds_toArray, List.set_cons_zero, List.set_cons_succ, i64_w, i32_w]
    rfl
  refine take_ (i := 42) (N := some 80) (v := ?_) (a' := ?_) (bm 50 8796093022207) rfl rfl (take_ofW HT_.out HW_.out (by kernel_rfl)) (fun _ _ _ h => h) (Or.inl ⟨by rfl, ?_⟩) hQ ?_ ?_
  rotate_left
  · rintro w' ⟨s0, s1, s2, s3, s4, s5, s6, s7⟩
    go_simp
    with_reducible rfl
  rotate_left
  · simp only [Act.put, List.setIfInBounds_toArray, List.set_cons_zero, List.set_cons_succ, i64_w, i32_w]
    rfl
  refine take_ (i := 43) (N := some 81) (v := ?_) (a' := ?_) (bm 50 17592186044415) rfl rfl (take_ofW HT_.out HW_.out (by kernel_rfl)) (fun _ _ _ h => h) (Or.inl ⟨by rfl, ?_⟩) hQ ?_ ?_
  rotate_left
  · rintro w' ⟨s0, s1, s2, s3, s4, s5, s6, s7⟩
    go_simp
    with_reducible rfl
  rotate_left
  · simp only [Act.put, List.setIfInBounds_toArray, List.set_cons_zero, List.set_cons_succ, i64_w, i32_w]
    rfl
  refine take_ (i := 45) (N := some 83) (v := ?_) (a' := ?_) (bm 50 52776558133247) rfl rfl (take_ofW HT_.out HW_.out (by kernel_rfl)) (fun _ _ _ h => h) (Or.inl ⟨by rfl, ?_⟩) hQ ?_ ?_
  rotate_left
  · rintro w' ⟨s0, s1, s2, s3, s4, s5, s6, s7⟩
    go_simp
    with_reducible rfl
  rotate_left
  · simp only [Act.put, List.setIfInBounds_toArray, List.set_cons_zero, List.set_cons_succ, i64_w, i32_w]
    rfl
  refine take_ (i := 46) (N := some 84) (v := ?_) (a' := ?_) (bm 50 123145302310911) rfl rfl (take_ofW HT_.out HW_.out (by kernel_rfl)) (fun _ _ _ h => h) (Or.inl ⟨by rfl, ?_⟩) hQ ?_ ?_
  rotate_left
  · rintro w' ⟨s0, s1, s2, s3, s4, s5, s6, s7⟩
    go_simp
    with_reducible rfl
  rotate_left
  · simp only [Act.put, List.setIfInBounds_toArray, List.set_cons_zero, List.set_cons_succ, i64_w, i32_w]
    rfl
  refine one_ (i := 44) (N := some 82) (bm 50 140737488355327) rfl rfl (one_of HT_.out (by kernel_rfl)) (by decide) (fun K hK => ?_)
  refine goes_ Try.func34 (by kernel_rfl) rfl #[.agg #[.bool (ng x), .slice A4 (ln x) c5], .agg #[.bool (ng y), .slice A6 (ln y) c7]] (by rfl) rfl rfl (by simp only [List.map_toArray, List.map_cons, List.map_nil]; try rfl) ?_
  with_reducible refine (CmpQ (H.row _ (mt (mt m10))) (H.row _ (mt m10)) (lim bx.out (by decide)) (lim bY.out (by decide)) k hk.out).mono ?_
  rintro e w64 ⟨rfl, hb⟩
  replace H := H.call hb
  clear hb
  refine ⟨_, rfl, ?_⟩
  refine hK.out _ _ ⟨H.cell m3 0, H.cell m3 1, H.cell m2 0, H.cell m2 1, H.cell m1 0, H.cell m1 1, H.cell m0 0, H.cell m0 1⟩ (fun hQ => ?_)
  clear hK K
  refine norm_ (a' := ?_) ?_ ?_
  rotate_left
  · show Act.put _ (some 82) _ = _
    simp only [Act.put, List.setIfInBounds_toArray, List.set_cons_zero, List.set_cons_succ, i64_w, i32_w]
    rfl
  refine one_ (i := 47) (N := some 85) (bm 50 281474976710655) rfl rfl (one_of HT_.out (by kernel_rfl)) (by decide) (fun K hK => ?_)
  refine goes_ Try.func59 (by kernel_rfl) rfl #[.agg #[.int .i64 (sg u), .slice A15 (dn u) c16], .agg #[.int .i64 (sg v), .slice A22 (dn v) c23]] (by rfl) rfl rfl (by simp only [List.map_toArray, List.map_cons, List.map_nil]; try rfl) ?_
  with_reducible refine (CmpN (H.row _ m10) (H.row _ m9) (Nat.le_trans bu.out (by decide)) (Nat.le_trans bv.out (by decide)) k hk2.out).mono ?_
  rintro e w65 ⟨rfl, hb⟩
  replace H := H.call hb
  clear hb
  refine ⟨_, rfl, ?_⟩
  refine hK.out _ _ ⟨H.cell m3 0, H.cell m3 1, H.cell m2 0, H.cell m2 1, H.cell m1 0, H.cell m1 1, H.cell m0 0, H.cell m0 1⟩ (fun hQ => ?_)
  clear hK K
  refine norm_ (a' := ?_) ?_ ?_
  rotate_left
  · show Act.put _ (some 85) _ = _
    simp only [Act.put, List.setIfInBounds_toArray, List.set_cons_zero, List.set_cons_succ, i64_w, i32_w]
    rfl
  refine pure_ (i := 48) (N := some 86) (v := ?_) (a' := ?_) (bm 50 562949953421311) rfl rfl (any_of HT_.out (by kernel_rfl)) (fun _ _ _ h => h) (Or.inl ⟨by rfl, ?_⟩) ?_ ?_
  rotate_left
  · intro w'
    go_simp
    with_reducible rfl
  rotate_left
  · simp only [Act.put, List.setIfInBounds_toArray, List.set_cons_zero, List.set_cons_succ, i64_w, i32_w]
    rfl
  refine pure_ (i := 49) (N := some 87) (v := ?_) (a' := ?_) (bm 50 1125899906842623) rfl rfl (any_of HT_.out (by kernel_rfl)) (fun _ _ _ h => h) (Or.inl ⟨by rfl, ?_⟩) ?_ ?_
  rotate_left
  · intro w'
    go_simp
    with_reducible rfl
  rotate_left
  · simp only [Act.put, List.setIfInBounds_toArray, List.set_cons_zero, List.set_cons_succ, i64_w, i32_w]
    rfl
  refine done_ (done_of HT_.out (by kernel_rfl)) ?_
  try clear hQ
  go_upto_region 10 with fail
  (try simp only [Act.put, List.setIfInBounds_toArray, List.set_cons_zero, List.set_cons_succ])
  obtain ⟨k10_0, z10_0, k10_1, z10_1⟩ := H.b2 (g := g10) m0
  obtain ⟨k8_0, z8_0, k8_1, z8_1⟩ := H.b2 (g := g8) m1
  obtain ⟨k6_0, z6_0, k6_1, z6_1⟩ := H.b2 (g := g6) m2
  obtain ⟨k5_0, z5_0, k5_1, z5_1⟩ := H.b2 (g := g5) m3
  rcases hcs.out with ⟨e1, z1⟩ | ⟨e1, z1⟩
  · skip
    have hz' := Aside0.mk e1; clear e1
    have st71 := trivial
    have st73 := trivial
    have st75 := trivial
    go_upto_region 11 with (first
      | (clear st71; go_at_call 32; (with_reducible refine (DivQ0 (H.row _ (mt (mt m10))) _ _ hz'.out).mono ?_); rintro e w66 ⟨A67, c68, A69, c70, rfl, hr, hr2, hb⟩; replace H := (H.got hr hb).more ((H.got hr2 hb).row _ m0); clear hr hr2 hb; clear k10_0 z10_0 k10_1 z10_1 k8_0 z8_0 k8_1 z8_1 k6_0 z6_0 k6_1 z6_1 k5_0 z5_0 k5_1 z5_1; obtain ⟨k10_0, z10_0, k10_1, z10_1⟩ := H.b2 (g := g10) m0; obtain ⟨k8_0, z8_0, k8_1, z8_1⟩ := H.b2 (g := g8) m1; obtain ⟨k6_0, z6_0, k6_1, z6_1⟩ := H.b2 (g := g6) m2; obtain ⟨k5_0, z5_0, k5_1, z5_1⟩ := H.b2 (g := g5) m3)
      | (clear st73; (with_reducible refine gate_dst (N := 12) rfl ?_); refine box_event ?hg (N := 12) ?hd (cs := #[.bool false, .slice none 0 0]) (t := 25) ?hr ?_; (case hd => rfl); (case hg => rfl); (case hr => go_simp; try rfl); intro g12 hg w72 hbox hb; replace H := H.newbox hg hbox hb; clear hg hbox hb; clear k10_0 z10_0 k10_1 z10_1 k8_0 z8_0 k8_1 z8_1 k6_0 z6_0 k6_1 z6_1 k5_0 z5_0 k5_1 z5_1; obtain ⟨k12_0, z12_0, k12_1, z12_1⟩ := H.b2 (g := g12) m0; obtain ⟨k10_0, z10_0, k10_1, z10_1⟩ := H.b2 (g := g10) m1; obtain ⟨k8_0, z8_0, k8_1, z8_1⟩ := H.b2 (g := g8) m2; obtain ⟨k6_0, z6_0, k6_1, z6_1⟩ := H.b2 (g := g6) m3; obtain ⟨k5_0, z5_0, k5_1, z5_1⟩ := H.b2 (g := g5) m4; have ne_g12_g10 := H.ne (g := g12) (g' := g10) 0 1 rfl rfl (by decide); have ne_g10_g12 := ne_g12_g10.symm; have ne_g12_g8 := H.ne (g := g12) (g' := g8) 0 2 rfl rfl (by decide); have ne_g8_g12 := ne_g12_g8.symm; have ne_g12_g6 := H.ne (g := g12) (g' := g6) 0 3 rfl rfl (by decide); have ne_g6_g12 := ne_g12_g6.symm; have ne_g12_g5 := H.ne (g := g12) (g' := g5) 0 4 rfl rfl (by decide); have ne_g5_g12 := ne_g12_g5.symm)
      | (clear st75; (with_reducible refine gate_dst (N := 13) rfl ?_); refine box_event ?hg (N := 13) ?hd (cs := #[.bool false, .slice none 0 0]) (t := 25) ?hr ?_; (case hd => rfl); (case hg => rfl); (case hr => go_simp; try rfl); intro g13 hg w74 hbox hb; replace H := H.newbox hg hbox hb; clear hg hbox hb; clear k12_0 z12_0 k12_1 z12_1 k10_0 z10_0 k10_1 z10_1 k8_0 z8_0 k8_1 z8_1 k6_0 z6_0 k6_1 z6_1 k5_0 z5_0 k5_1 z5_1; obtain ⟨k13_0, z13_0, k13_1, z13_1⟩ := H.b2 (g := g13) m0; obtain ⟨k12_0, z12_0, k12_1, z12_1⟩ := H.b2 (g := g12) m1; obtain ⟨k10_0, z10_0, k10_1, z10_1⟩ := H.b2 (g := g10) m2; obtain ⟨k8_0, z8_0, k8_1, z8_1⟩ := H.b2 (g := g8) m3; obtain ⟨k6_0, z6_0, k6_1, z6_1⟩ := H.b2 (g := g6) m4; obtain ⟨k5_0, z5_0, k5_1, z5_1⟩ := H.b2 (g := g5) m5; have ne_g13_g12 := H.ne (g := g13) (g' := g12) 0 1 rfl rfl (by decide); have ne_g12_g13 := ne_g13_g12.symm; have ne_g13_g10 := H.ne (g := g13) (g' := g10) 0 2 rfl rfl (by decide); have ne_g10_g13 := ne_g13_g10.symm; have ne_g13_g8 := H.ne (g := g13) (g' := g8) 0 3 rfl rfl (by decide); have ne_g8_g13 := ne_g13_g8.symm; have ne_g13_g6 := H.ne (g := g13) (g' := g6) 0 4 rfl rfl (by decide); have ne_g6_g13 := ne_g13_g6.symm; have ne_g13_g5 := H.ne (g := g13) (g' := g5) 0 5 rfl rfl (by decide); have ne_g5_g13 := ne_g13_g5.symm))
    (try simp only [Act.put, List.setIfInBounds_toArray, List.set_cons_zero, List.set_cons_succ])
    replace H := ((((H.setn [_] 0 (.bool (ng 0)) rfl).setn [_] 1 (.slice A67 (ln 0) c68) rfl).setn [] 0 (.bool (ng (0))) rfl).setn [] 1 (.slice A69 (ln (0)) c70) rfl)
    clear k13_0 z13_0 k13_1 z13_1 k12_0 z12_0 k12_1 z12_1 k10_0 z10_0 k10_1 z10_1 k8_0 z8_0 k8_1 z8_1 k6_0 z6_0 k6_1 z6_1 k5_0 z5_0 k5_1 z5_1
    generalize ((((w74.setCell ⟨g12, 0, none⟩ (.bool (ng 0))).setCell ⟨g12, 1, none⟩ (.slice A67 (ln 0) c68)).setCell ⟨g13, 0, none⟩ (.bool (ng (0)))).setCell ⟨g13, 1, none⟩ (.slice A69 (ln (0)) c70)) = w76 at H ⊢
    obtain ⟨k13_0, z13_0, k13_1, z13_1⟩ := H.b2 (g := g13) m0
    obtain ⟨k12_0, z12_0, k12_1, z12_1⟩ := H.b2 (g := g12) m1
    obtain ⟨k10_0, z10_0, k10_1, z10_1⟩ := H.b2 (g := g10) m2
    obtain ⟨k8_0, z8_0, k8_1, z8_1⟩ := H.b2 (g := g8) m3
    obtain ⟨k6_0, z6_0, k6_1, z6_1⟩ := H.b2 (g := g6) m4
    obtain ⟨k5_0, z5_0, k5_1, z5_1⟩ := H.b2 (g := g5) m5
    have st78 := trivial
    have st80 := trivial
    go_wp2_with (first
      | (clear st78; go_at_call 25; (with_reducible refine (SignQ _ _ _ (lim b0.out (by decide)) 0 hs0.out).mono ?_); rintro e w77 ⟨rfl, hb⟩; replace H := H.call hb; clear hb; clear k13_0 z13_0 k13_1 z13_1 k12_0 z12_0 k12_1 z12_1 k10_0 z10_0 k10_1 z10_1 k8_0 z8_0 k8_1 z8_1 k6_0 z6_0 k6_1 z6_1 k5_0 z5_0 k5_1 z5_1; obtain ⟨k13_0, z13_0, k13_1, z13_1⟩ := H.b2 (g := g13) m0; obtain ⟨k12_0, z12_0, k12_1, z12_1⟩ := H.b2 (g := g12) m1; obtain ⟨k10_0, z10_0, k10_1, z10_1⟩ := H.b2 (g := g10) m2; obtain ⟨k8_0, z8_0, k8_1, z8_1⟩ := H.b2 (g := g8) m3; obtain ⟨k6_0, z6_0, k6_1, z6_1⟩ := H.b2 (g := g6) m4; obtain ⟨k5_0, z5_0, k5_1, z5_1⟩ := H.b2 (g := g5) m5)
      | (clear st80; go_at_call 25; (with_reducible refine (SignQ _ _ _ (lim b0.out (by decide)) 0 hs0.out).mono ?_); rintro e w79 ⟨rfl, hb⟩; replace H := H.call hb; clear hb; clear k13_0 z13_0 k13_1 z13_1 k12_0 z12_0 k12_1 z12_1 k10_0 z10_0 k10_1 z10_1 k8_0 z8_0 k8_1 z8_1 k6_0 z6_0 k6_1 z6_1 k5_0 z5_0 k5_1 z5_1; obtain ⟨k13_0, z13_0, k13_1, z13_1⟩ := H.b2 (g := g13) m0; obtain ⟨k12_0, z12_0, k12_1, z12_1⟩ := H.b2 (g := g12) m1; obtain ⟨k10_0, z10_0, k10_1, z10_1⟩ := H.b2 (g := g10) m2; obtain ⟨k8_0, z8_0, k8_1, z8_1⟩ := H.b2 (g := g8) m3; obtain ⟨k6_0, z6_0, k6_1, z6_1⟩ := H.b2 (g := g6) m4; obtain ⟨k5_0, z5_0, k5_1, z5_1⟩ := H.b2 (g := g5) m5))
    go_ret
    exact ⟨rfl, H.below⟩
  · skip
    have hz' := Aside0.mk e1; clear e1
    have st86 := trivial
    have st88 := trivial
    have st90 := trivial
    go_upto_region 11 with (first
      | (clear st86; go_at_call 32; (with_reducible refine (DivQ (H.row _ (mt (mt m10))) (H.row _ (mt m10)) (lim bx.out (by decide)) (lim bY.out (by decide)) hz'.out q r hq.out hr'.out).mono ?_); rintro e w81 ⟨A82, c83, A84, c85, rfl, hr, hr2, hb⟩; replace H := (H.got hr hb).more ((H.got hr2 hb).row _ m0); clear hr hr2 hb; clear k10_0 z10_0 k10_1 z10_1 k8_0 z8_0 k8_1 z8_1 k6_0 z6_0 k6_1 z6_1 k5_0 z5_0 k5_1 z5_1; obtain ⟨k10_0, z10_0, k10_1, z10_1⟩ := H.b2 (g := g10) m0; obtain ⟨k8_0, z8_0, k8_1, z8_1⟩ := H.b2 (g := g8) m1; obtain ⟨k6_0, z6_0, k6_1, z6_1⟩ := H.b2 (g := g6) m2; obtain ⟨k5_0, z5_0, k5_1, z5_1⟩ := H.b2 (g := g5) m3)
      | (clear st88; (with_reducible refine gate_dst (N := 12) rfl ?_); refine box_event ?hg (N := 12) ?hd (cs := #[.bool false, .slice none 0 0]) (t := 25) ?hr ?_; (case hd => rfl); (case hg => rfl); (case hr => go_simp; try rfl); intro g12 hg w87 hbox hb; replace H := H.newbox hg hbox hb; clear hg hbox hb; clear k10_0 z10_0 k10_1 z10_1 k8_0 z8_0 k8_1 z8_1 k6_0 z6_0 k6_1 z6_1 k5_0 z5_0 k5_1 z5_1; obtain ⟨k12_0, z12_0, k12_1, z12_1⟩ := H.b2 (g := g12) m0; obtain ⟨k10_0, z10_0, k10_1, z10_1⟩ := H.b2 (g := g10) m1; obtain ⟨k8_0, z8_0, k8_1, z8_1⟩ := H.b2 (g := g8) m2; obtain ⟨k6_0, z6_0, k6_1, z6_1⟩ := H.b2 (g := g6) m3; obtain ⟨k5_0, z5_0, k5_1, z5_1⟩ := H.b2 (g := g5) m4; have ne_g12_g10 := H.ne (g := g12) (g' := g10) 0 1 rfl rfl (by decide); have ne_g10_g12 := ne_g12_g10.symm; have ne_g12_g8 := H.ne (g := g12) (g' := g8) 0 2 rfl rfl (by decide); have ne_g8_g12 := ne_g12_g8.symm; have ne_g12_g6 := H.ne (g := g12) (g' := g6) 0 3 rfl rfl (by decide); have ne_g6_g12 := ne_g12_g6.symm; have ne_g12_g5 := H.ne (g := g12) (g' := g5) 0 4 rfl rfl (by decide); have ne_g5_g12 := ne_g12_g5.symm)
      | (clear st90; (with_reducible refine gate_dst (N := 13) rfl ?_); refine box_event ?hg (N := 13) ?hd (cs := #[.bool false, .slice none 0 0]) (t := 25) ?hr ?_; (case hd => rfl); (case hg => rfl); (case hr => go_simp; try rfl); intro g13 hg w89 hbox hb; replace H := H.newbox hg hbox hb; clear hg hbox hb; clear k12_0 z12_0 k12_1 z12_1 k10_0 z10_0 k10_1 z10_1 k8_0 z8_0 k8_1 z8_1 k6_0 z6_0 k6_1 z6_1 k5_0 z5_0 k5_1 z5_1; obtain ⟨k13_0, z13_0, k13_1, z13_1⟩ := H.b2 (g := g13) m0; obtain ⟨k12_0, z12_0, k12_1, z12_1⟩ := H.b2 (g := g12) m1; obtain ⟨k10_0, z10_0, k10_1, z10_1⟩ := H.b2 (g := g10) m2; obtain ⟨k8_0, z8_0, k8_1, z8_1⟩ := H.b2 (g := g8) m3; obtain ⟨k6_0, z6_0, k6_1, z6_1⟩ := H.b2 (g := g6) m4; obtain ⟨k5_0, z5_0, k5_1, z5_1⟩ := H.b2 (g := g5) m5; have ne_g13_g12 := H.ne (g := g13) (g' := g12) 0 1 rfl rfl (by decide); have ne_g12_g13 := ne_g13_g12.symm; have ne_g13_g10 := H.ne (g := g13) (g' := g10) 0 2 rfl rfl (by decide); have ne_g10_g13 := ne_g13_g10.symm; have ne_g13_g8 := H.ne (g := g13) (g' := g8) 0 3 rfl rfl (by decide); have ne_g8_g13 := ne_g13_g8.symm; have ne_g13_g6 := H.ne (g := g13) (g' := g6) 0 4 rfl rfl (by decide); have ne_g6_g13 := ne_g13_g6.symm; have ne_g13_g5 := H.ne (g := g13) (g' := g5) 0 5 rfl rfl (by decide); have ne_g5_g13 := ne_g13_g5.symm))
    (try simp only [Act.put, List.setIfInBounds_toArray, List.set_cons_zero, List.set_cons_succ])
    replace H := ((((H.setn [_] 0 (.bool (ng q)) rfl).setn [_] 1 (.slice A82 (ln q) c83) rfl).setn [] 0 (.bool (ng r)) rfl).setn [] 1 (.slice A84 (ln r) c85) rfl)
    clear k13_0 z13_0 k13_1 z13_1 k12_0 z12_0 k12_1 z12_1 k10_0 z10_0 k10_1 z10_1 k8_0 z8_0 k8_1 z8_1 k6_0 z6_0 k6_1 z6_1 k5_0 z5_0 k5_1 z5_1
    generalize ((((w89.setCell ⟨g12, 0, none⟩ (.bool (ng q))).setCell ⟨g12, 1, none⟩ (.slice A82 (ln q) c83)).setCell ⟨g13, 0, none⟩ (.bool (ng r))).setCell ⟨g13, 1, none⟩ (.slice A84 (ln r) c85)) = w91 at H ⊢
    obtain ⟨k13_0, z13_0, k13_1, z13_1⟩ := H.b2 (g := g13) m0
    obtain ⟨k12_0, z12_0, k12_1, z12_1⟩ := H.b2 (g := g12) m1
    obtain ⟨k10_0, z10_0, k10_1, z10_1⟩ := H.b2 (g := g10) m2
    obtain ⟨k8_0, z8_0, k8_1, z8_1⟩ := H.b2 (g := g8) m3
    obtain ⟨k6_0, z6_0, k6_1, z6_1⟩ := H.b2 (g := g6) m4
    obtain ⟨k5_0, z5_0, k5_1, z5_1⟩ := H.b2 (g := g5) m5
    have hdv := Aside0.mk (hdv0.out hz'.out)
    have st97 := trivial
    have st99 := trivial
    have st101 := trivial
    go_upto_region 14 with (first
      | (clear st97; go_at_call 60; (with_reducible refine (DivN (H.row _ (mt (mt m10))) (H.row _ (mt m10)) (Nat.le_trans bu.out (by decide)) (Nat.le_trans bv.out (by decide)) qq rr hdv.out).mono ?_); rintro e w92 ⟨A93, c94, A95, c96, rfl, hr, hr2, hb⟩; replace H := (H.got hr hb).more ((H.got hr2 hb).row _ m0); clear hr hr2 hb; clear k13_0 z13_0 k13_1 z13_1 k12_0 z12_0 k12_1 z12_1 k10_0 z10_0 k10_1 z10_1 k8_0 z8_0 k8_1 z8_1 k6_0 z6_0 k6_1 z6_1 k5_0 z5_0 k5_1 z5_1; obtain ⟨k13_0, z13_0, k13_1, z13_1⟩ := H.b2 (g := g13) m0; obtain ⟨k12_0, z12_0, k12_1, z12_1⟩ := H.b2 (g := g12) m1; obtain ⟨k10_0, z10_0, k10_1, z10_1⟩ := H.b2 (g := g10) m2; obtain ⟨k8_0, z8_0, k8_1, z8_1⟩ := H.b2 (g := g8) m3; obtain ⟨k6_0, z6_0, k6_1, z6_1⟩ := H.b2 (g := g6) m4; obtain ⟨k5_0, z5_0, k5_1, z5_1⟩ := H.b2 (g := g5) m5)
      | (clear st99; (with_reducible refine gate_dst (N := 15) rfl ?_); refine box_event ?hg (N := 15) ?hd (cs := #[.int .i64 0, .slice none 0 0]) (t := 31) ?hr ?_; (case hd => rfl); (case hg => rfl); (case hr => go_simp; try rfl); intro g15 hg w98 hbox hb; replace H := H.newbox hg hbox hb; clear hg hbox hb; clear k13_0 z13_0 k13_1 z13_1 k12_0 z12_0 k12_1 z12_1 k10_0 z10_0 k10_1 z10_1 k8_0 z8_0 k8_1 z8_1 k6_0 z6_0 k6_1 z6_1 k5_0 z5_0 k5_1 z5_1; obtain ⟨k15_0, z15_0, k15_1, z15_1⟩ := H.b2 (g := g15) m0; obtain ⟨k13_0, z13_0, k13_1, z13_1⟩ := H.b2 (g := g13) m1; obtain ⟨k12_0, z12_0, k12_1, z12_1⟩ := H.b2 (g := g12) m2; obtain ⟨k10_0, z10_0, k10_1, z10_1⟩ := H.b2 (g := g10) m3; obtain ⟨k8_0, z8_0, k8_1, z8_1⟩ := H.b2 (g := g8) m4; obtain ⟨k6_0, z6_0, k6_1, z6_1⟩ := H.b2 (g := g6) m5; obtain ⟨k5_0, z5_0, k5_1, z5_1⟩ := H.b2 (g := g5) m6; have ne_g15_g13 := H.ne (g := g15) (g' := g13) 0 1 rfl rfl (by decide); have ne_g13_g15 := ne_g15_g13.symm; have ne_g15_g12 := H.ne (g := g15) (g' := g12) 0 2 rfl rfl (by decide); have ne_g12_g15 := ne_g15_g12.symm; have ne_g15_g10 := H.ne (g := g15) (g' := g10) 0 3 rfl rfl (by decide); have ne_g10_g15 := ne_g15_g10.symm; have ne_g15_g8 := H.ne (g := g15) (g' := g8) 0 4 rfl rfl (by decide); have ne_g8_g15 := ne_g15_g8.symm; have ne_g15_g6 := H.ne (g := g15) (g' := g6) 0 5 rfl rfl (by decide); have ne_g6_g15 := ne_g15_g6.symm; have ne_g15_g5 := H.ne (g := g15) (g' := g5) 0 6 rfl rfl (by decide); have ne_g5_g15 := ne_g15_g5.symm)
      | (clear st101; (with_reducible refine gate_dst (N := 16) rfl ?_); refine box_event ?hg (N := 16) ?hd (cs := #[.int .i64 0, .slice none 0 0]) (t := 31) ?hr ?_; (case hd => rfl); (case hg => rfl); (case hr => go_simp; try rfl); intro g16 hg w100 hbox hb; replace H := H.newbox hg hbox hb; clear hg hbox hb; clear k15_0 z15_0 k15_1 z15_1 k13_0 z13_0 k13_1 z13_1 k12_0 z12_0 k12_1 z12_1 k10_0 z10_0 k10_1 z10_1 k8_0 z8_0 k8_1 z8_1 k6_0 z6_0 k6_1 z6_1 k5_0 z5_0 k5_1 z5_1; obtain ⟨k16_0, z16_0, k16_1, z16_1⟩ := H.b2 (g := g16) m0; obtain ⟨k15_0, z15_0, k15_1, z15_1⟩ := H.b2 (g := g15) m1; obtain ⟨k13_0, z13_0, k13_1, z13_1⟩ := H.b2 (g := g13) m2; obtain ⟨k12_0, z12_0, k12_1, z12_1⟩ := H.b2 (g := g12) m3; obtain ⟨k10_0, z10_0, k10_1, z10_1⟩ := H.b2 (g := g10) m4; obtain ⟨k8_0, z8_0, k8_1, z8_1⟩ := H.b2 (g := g8) m5; obtain ⟨k6_0, z6_0, k6_1, z6_1⟩ := H.b2 (g := g6) m6; obtain ⟨k5_0, z5_0, k5_1, z5_1⟩ := H.b2 (g := g5) m7; have ne_g16_g15 := H.ne (g := g16) (g' := g15) 0 1 rfl rfl (by decide); have ne_g15_g16 := ne_g16_g15.symm; have ne_g16_g13 := H.ne (g := g16) (g' := g13) 0 2 rfl rfl (by decide); have ne_g13_g16 := ne_g16_g13.symm; have ne_g16_g12 := H.ne (g := g16) (g' := g12) 0 3 rfl rfl (by decide); have ne_g12_g16 := ne_g16_g12.symm; have ne_g16_g10 := H.ne (g := g16) (g' := g10) 0 4 rfl rfl (by decide); have ne_g10_g16 := ne_g16_g10.symm; have ne_g16_g8 := H.ne (g := g16) (g' := g8) 0 5 rfl rfl (by decide); have ne_g8_g16 := ne_g16_g8.symm; have ne_g16_g6 := H.ne (g := g16) (g' := g6) 0 6 rfl rfl (by decide); have ne_g6_g16 := ne_g16_g6.symm; have ne_g16_g5 := H.ne (g := g16) (g' := g5) 0 7 rfl rfl (by decide); have ne_g5_g16 := ne_g16_g5.symm))
    (try simp only [Act.put, List.setIfInBounds_toArray, List.set_cons_zero, List.set_cons_succ])
    replace H := ((((H.setn [_] 0 (.int .i64 (sg qq)) rfl).setn [_] 1 (.slice A93 (dn qq) c94) rfl).setn [] 0 (.int .i64 (sg rr)) rfl).setn [] 1 (.slice A95 (dn rr) c96) rfl)
    clear k16_0 z16_0 k16_1 z16_1 k15_0 z15_0 k15_1 z15_1 k13_0 z13_0 k13_1 z13_1 k12_0 z12_0 k12_1 z12_1 k10_0 z10_0 k10_1 z10_1 k8_0 z8_0 k8_1 z8_1 k6_0 z6_0 k6_1 z6_1 k5_0 z5_0 k5_1 z5_1
    generalize ((((w100.setCell ⟨g15, 0, none⟩ (.int .i64 (sg qq))).setCell ⟨g15, 1, none⟩ (.slice A93 (dn qq) c94)).setCell ⟨g16, 0, none⟩ (.int .i64 (sg rr))).setCell ⟨g16, 1, none⟩ (.slice A95 (dn rr) c96)) = w102 at H ⊢
    obtain ⟨k16_0, z16_0, k16_1, z16_1⟩ := H.b2 (g := g16) m0
    obtain ⟨k15_0, z15_0, k15_1, z15_1⟩ := H.b2 (g := g15) m1
    obtain ⟨k13_0, z13_0, k13_1, z13_1⟩ := H.b2 (g := g13) m2
    obtain ⟨k12_0, z12_0, k12_1, z12_1⟩ := H.b2 (g := g12) m3
    obtain ⟨k10_0, z10_0, k10_1, z10_1⟩ := H.b2 (g := g10) m4
    obtain ⟨k8_0, z8_0, k8_1, z8_1⟩ := H.b2 (g := g8) m5
    obtain ⟨k6_0, z6_0, k6_1, z6_1⟩ := H.b2 (g := g6) m6
    obtain ⟨k5_0, z5_0, k5_1, z5_1⟩ := H.b2 (g := g5) m7
    clear k16_0 z16_0 k16_1 z16_1 k15_0 z15_0 k15_1 z15_1 k13_0 z13_0 k13_1 z13_1 k12_0 z12_0 k12_1 z12_1 k10_0 z10_0 k10_1 z10_1 k8_0 z8_0 k8_1 z8_1 k6_0 z6_0 k6_1 z6_1 k5_0 z5_0 k5_1 z5_1
    replace H := H.drew
    refine start_ (n := 29) (S := fun w' => w'.cell? ⟨g12, 0, none⟩ = some (.bool (ng q)) ∧ w'.cell? ⟨g12, 1, none⟩ = some (.slice A82 (ln q) c83) ∧ w'.cell? ⟨g15, 0, none⟩ = some (.int .i64 (sg qq)) ∧ w'.cell? ⟨g15, 1, none⟩ = some (.slice A93 (dn qq) c94) ∧ w'.cell? ⟨g13, 0, none⟩ = some (.bool (ng r)) ∧ w'.cell? ⟨g13, 1, none⟩ = some (.slice A84 (ln r) c85) ∧ w'.cell? ⟨g16, 0, none⟩ = some (.int .i64 (sg rr)) ∧ w'.cell? ⟨g16, 1, none⟩ = some (.slice A95 (dn rr) c96) ∧ w'.cell? ⟨g5, 0, none⟩ = some (.bool (ng x)) ∧ w'.cell? ⟨g5, 1, none⟩ = some (.slice A4 (ln x) c5) ∧ w'.cell? ⟨g6, 0, none⟩ = some (.bool (ng y)) ∧ w'.cell? ⟨g6, 1, none⟩ = some (.slice A6 (ln y) c7)) (ds := []) #[false, false, false, false, false, false, false, false, false, false, false, false, false, false, false, false, false, false, false, false, false, false, false, false, false, false, false, false, false] (by kernel_rfl) rfl rfl ⟨H.cell m3 0, H.cell m3 1, H.cell m1 0, H.cell m1 1, H.cell m2 0, H.cell m2 1, H.cell m0 0, H.cell m0 1, H.cell m7 0, H.cell m7 1, H.cell m6 0, H.cell m6 1⟩ (fun hQ => ?_)
    generalize w102.drew = w103 at H hQ ⊢
    refine with_tabW tb10.tab14 tb10.bits14 (fun HT_ HW_ => ?_)
    refine pure_ (i := 0) (N := some 116) (v := ?_) (a' := ?_) (bm 29 1) rfl rfl (any_of HT_.out (by kernel_rfl)) (fun _ _ _ h => h) (Or.inl ⟨by rfl, ?_⟩) ?_ ?_
    rotate_left
    · intro w'
      go_simp
      with_reducible rfl
    rotate_left
    · simp only [Act.put, List.setIfInBounds_toArray, List.set_cons_zero, List.set_cons_succ, i64_w, i32_w]
      rfl
    refine pure_ (i := 1) (N := some 117) (v := ?_) (a' := ?_) (bm 29 3) rfl rfl (any_of HT_.out (by kernel_rfl)) (fun _ _ _ h => h) (Or.inl ⟨by rfl, ?_⟩) ?_ ?_
    rotate_left
    · intro w'
      go_simp
      with_reducible rfl
    rotate_left
    · simp only [Act.put, List.setIfInBounds_toArray, List.set_cons_zero, List.set_cons_succ, i64_w, i32_w]
      rfl
    refine pure_ (i := 2) (N := some 118) (v := ?_) (a' := ?_) (bm 29 7) rfl rfl (any_of HT_.out (by kernel_rfl)) (fun _ _ _ h => h) (Or.inl ⟨by rfl, ?_⟩) ?_ ?_
    rotate_left
    · intro w'
      go_simp
      with_reducible rfl
    rotate_left
    · simp only [Act.put, List.setIfInBounds_toArray, List.set_cons_zero, List.set_cons_succ, i64_w, i32_w]
      rfl
    refine take_ (i := 3) (N := some 119) (v := ?_) (a' := ?_) (bm 29 15) rfl rfl (take_ofW HT_.out HW_.out (by kernel_rfl)) (fun _ _ _ h => h) (Or.inl ⟨by rfl, ?_⟩) hQ ?_ ?_
    rotate_left
    · rintro w' ⟨s0, s1, s2, s3, s4, s5, s6, s7, s8, s9, s10, s11⟩
      go_simp
      with_reducible rfl
    rotate_left
    · simp only [Act.put, List.setIfInBounds_toArray, List.set_cons_zero, List.set_cons_succ, i64_w, i32_w]
      rfl
    refine take_ (i := 5) (N := some 121) (v := ?_) (a' := ?_) (bm 29 47) rfl rfl (take_ofW HT_.out HW_.out (by kernel_rfl)) (fun _ _ _ h => h) (Or.inl ⟨by rfl, ?_⟩) hQ ?_ ?_
    rotate_left
    · rintro w' ⟨s0, s1, s2, s3, s4, s5, s6, s7, s8, s9, s10, s11⟩
      go_simp
      with_reducible rfl
    rotate_left
    · simp only [Act.put, List.setIfInBounds_toArray, List.set_cons_zero, List.set_cons_succ, i64_w, i32_w]
      rfl
    refine one_ (i := 4) (N := some 120) (bm 29 63) rfl rfl (one_of HT_.out (by kernel_rfl)) (by decide) (fun K hK => ?_)
    refine goes_ Try.func26 (by kernel_rfl) rfl #[.agg #[.bool (ng q), .slice A82 (ln q) c83]] (by rfl) rfl rfl (by simp only [List.map_toArray, List.map_cons, List.map_nil]; try rfl) ?_
    with_reducible refine (TextQ (H.row _ m3) (lim bq.out (by decide)) tq htq.out).mono ?_
    rintro e w104 ⟨rfl, hb⟩
    replace H := H.call hb
    clear hb
    refine ⟨_, rfl, ?_⟩
    refine hK.out _ _ ⟨H.cell m3 0, H.cell m3 1, H.cell m1 0, H.cell m1 1, H.cell m2 0, H.cell m2 1, H.cell m0 0, H.cell m0 1, H.cell m7 0, H.cell m7 1, H.cell m6 0, H.cell m6 1⟩ (fun hQ => ?_)
    clear hK K
    refine norm_ (a' := ?_) ?_ ?_
    rotate_left
    · show Act.put _ (some 120) _ = _
      simp only [Act.put, List.setIfInBounds_toArray, List.set_cons_zero, List.set_cons_succ, i64_w, i32_w]
      rfl
    refine one_ (i := 6) (N := some 122) (bm 29 127) rfl rfl (one_of HT_.out (by kernel_rfl)) (by decide) (fun K hK => ?_)
    refine goes_ Try.func55 (by kernel_rfl) rfl #[.agg #[.int .i64 (sg qq), .slice A93 (dn qq) c94]] (by rfl) rfl rfl (by simp only [List.map_toArray, List.map_cons, List.map_nil]; try rfl) ?_
    with_reducible refine (TextN (Nat.le_trans bqq.out (by decide)) (H.row _ m1) tq htqq.out).mono ?_
    rintro e w105 ⟨rfl, hb⟩
    replace H := H.call hb
    clear hb
    refine ⟨_, rfl, ?_⟩
    refine hK.out _ _ ⟨H.cell m3 0, H.cell m3 1, H.cell m1 0, H.cell m1 1, H.cell m2 0, H.cell m2 1, H.cell m0 0, H.cell m0 1, H.cell m7 0, H.cell m7 1, H.cell m6 0, H.cell m6 1⟩ (fun hQ => ?_)
    clear hK K
    refine norm_ (a' := ?_) ?_ ?_
    rotate_left
    · show Act.put _ (some 122) _ = _
      simp only [Act.put, List.setIfInBounds_toArray, List.set_cons_zero, List.set_cons_succ, i64_w, i32_w]
      rfl
    refine pure_ (i := 7) (N := some 123) (v := ?_) (a' := ?_) (bm 29 255) rfl rfl (any_of HT_.out (by kernel_rfl)) (fun _ _ _ h => h) (Or.inl ⟨by rfl, ?_⟩) ?_ ?_
    rotate_left
    · intro w'
      go_simp
      with_reducible rfl
    rotate_left
    · simp only [Act.put, List.setIfInBounds_toArray, List.set_cons_zero, List.set_cons_succ, i64_w, i32_w]
      rfl
    refine pure_ (i := 8) (N := some 124) (v := ?_) (a' := ?_) (bm 29 511) rfl rfl (any_of HT_.out (by kernel_rfl)) (fun _ _ _ h => h) (Or.inl ⟨by rfl, ?_⟩) ?_ ?_
    rotate_left
    · intro w'
      go_simp
      with_reducible rfl
    rotate_left
    · simp only [Act.put, List.setIfInBounds_toArray, List.set_cons_zero, List.set_cons_succ, i64_w, i32_w]
      rfl
    refine pure_ (i := 9) (N := some 125) (v := ?_) (a' := ?_) (bm 29 1023) rfl rfl (any_of HT_.out (by kernel_rfl)) (fun _ _ _ h => h) (Or.inl ⟨by rfl, ?_⟩) ?_ ?_
    rotate_left
    · intro w'
      go_simp
      with_reducible rfl
    rotate_left
    · simp only [Act.put, List.setIfInBounds_toArray, List.set_cons_zero, List.set_cons_succ, i64_w, i32_w]
      rfl
    refine take_ (i := 10) (N := some 126) (v := ?_) (a' := ?_) (bm 29 2047) rfl rfl (take_ofW HT_.out HW_.out (by kernel_rfl)) (fun _ _ _ h => h) (Or.inl ⟨by rfl, ?_⟩) hQ ?_ ?_
    rotate_left
    · rintro w' ⟨s0, s1, s2, s3, s4, s5, s6, s7, s8, s9, s10, s11⟩
      go_simp
      with_reducible rfl
    rotate_left
    · simp only [Act.put, List.setIfInBounds_toArray, List.set_cons_zero, List.set_cons_succ, i64_w, i32_w]
      rfl
    refine take_ (i := 12) (N := some 128) (v := ?_) (a' := ?_) (bm 29 6143) rfl rfl (take_ofW HT_.out HW_.out (by kernel_rfl)) (fun _ _ _ h => h) (Or.inl ⟨by rfl, ?_⟩) hQ ?_ ?_
    rotate_left
    · rintro w' ⟨s0, s1, s2, s3, s4, s5, s6, s7, s8, s9, s10, s11⟩
      go_simp
      with_reducible rfl
    rotate_left
    · simp only [Act.put, List.setIfInBounds_toArray, List.set_cons_zero, List.set_cons_succ, i64_w, i32_w]
      rfl
    refine one_ (i := 11) (N := some 127) (bm 29 8191) rfl rfl (one_of HT_.out (by kernel_rfl)) (by decide) (fun K hK => ?_)
    refine goes_ Try.func26 (by kernel_rfl) rfl #[.agg #[.bool (ng r), .slice A84 (ln r) c85]] (by rfl) rfl rfl (by simp only [List.map_toArray, List.map_cons, List.map_nil]; try rfl) ?_
    with_reducible refine (TextQ (H.row _ m2) (lim br.out (by decide)) tr htr.out).mono ?_
    rintro e w106 ⟨rfl, hb⟩
    replace H := H.call hb
    clear hb
    refine ⟨_, rfl, ?_⟩
    refine hK.out _ _ ⟨H.cell m3 0, H.cell m3 1, H.cell m1 0, H.cell m1 1, H.cell m2 0, H.cell m2 1, H.cell m0 0, H.cell m0 1, H.cell m7 0, H.cell m7 1, H.cell m6 0, H.cell m6 1⟩ (fun hQ => ?_)
    clear hK K
    refine norm_ (a' := ?_) ?_ ?_
    rotate_left
    · show Act.put _ (some 127) _ = _
      simp only [Act.put, List.setIfInBounds_toArray, List.set_cons_zero, List.set_cons_succ, i64_w, i32_w]
      rfl
    refine one_ (i := 13) (N := some 129) (bm 29 16383) rfl rfl (one_of HT_.out (by kernel_rfl)) (by decide) (fun K hK => ?_)
    refine goes_ Try.func55 (by kernel_rfl) rfl #[.agg #[.int .i64 (sg rr), .slice A95 (dn rr) c96]] (by rfl) rfl rfl (by simp only [List.map_toArray, List.map_cons, List.map_nil]; try rfl) ?_
    with_reducible refine (TextN (Nat.le_trans brr.out (by decide)) (H.row _ m0) tr htrr.out).mono ?_
    rintro e w107 ⟨rfl, hb⟩
    replace H := H.call hb
    clear hb
    refine ⟨_, rfl, ?_⟩
    refine hK.out _ _ ⟨H.cell m3 0, H.cell m3 1, H.cell m1 0, H.cell m1 1, H.cell m2 0, H.cell m2 1, H.cell m0 0, H.cell m0 1, H.cell m7 0, H.cell m7 1, H.cell m6 0, H.cell m6 1⟩ (fun hQ => ?_)
    clear hK K
    refine norm_ (a' := ?_) ?_ ?_
    rotate_left
    · show Act.put _ (some 129) _ = _
      simp only [Act.put, List.setIfInBounds_toArray, List.set_cons_zero, List.set_cons_succ, i64_w, i32_w]
      rfl
    refine pure_ (i := 14) (N := some 130) (v := ?_) (a' := ?_) (bm 29 32767) rfl rfl (any_of HT_.out (by kernel_rfl)) (fun _ _ _ h => h) (Or.inl ⟨by rfl, ?_⟩) ?_ ?_
    rotate_left
    · intro w'
      go_simp
      with_reducible rfl
    rotate_left
    · simp only [Act.put, List.setIfInBounds_toArray, List.set_cons_zero, List.set_cons_succ, i64_w, i32_w]
      rfl
    refine pure_ (i := 15) (N := some 131) (v := ?_) (a' := ?_) (bm 29 65535) rfl rfl (any_of HT_.out (by kernel_rfl)) (fun _ _ _ h => h) (Or.inl ⟨by rfl, ?_⟩) ?_ ?_
    rotate_left
    · intro w'
      go_simp
      with_reducible rfl
    rotate_left
    · simp only [Act.put, List.setIfInBounds_toArray, List.set_cons_zero, List.set_cons_succ, i64_w, i32_w]
      rfl
    refine pure_ (i := 16) (N := some 132) (v := ?_) (a' := ?_) (bm 29 131071) rfl rfl (any_of HT_.out (by kernel_rfl)) (fun _ _ _ h => h) (Or.inl ⟨by rfl, ?_⟩) ?_ ?_
    rotate_left
    · intro w'
      go_simp
      with_reducible rfl
    rotate_left
    · simp only [Act.put, List.setIfInBounds_toArray, List.set_cons_zero, List.set_cons_succ, i64_w, i32_w]
      rfl
    refine pure_ (i := 19) (N := some 135) (v := ?_) (a' := ?_) (bm 29 655359) rfl rfl (any_of HT_.out (by kernel_rfl)) (fun _ _ _ h => h) (Or.inl ⟨by rfl, ?_⟩) ?_ ?_
    rotate_left
    · intro w'
      go_simp
      with_reducible rfl
    rotate_left
    · simp only [Act.put, List.setIfInBounds_toArray, List.set_cons_zero, List.set_cons_succ, i64_w, i32_w]
      rfl
    refine take_ (i := 17) (N := some 133) (v := ?_) (a' := ?_) (bm 29 786431) rfl rfl (take_ofW HT_.out HW_.out (by kernel_rfl)) (fun _ _ _ h => h) (Or.inl ⟨by rfl, ?_⟩) hQ ?_ ?_
    rotate_left
    · rintro w' ⟨s0, s1, s2, s3, s4, s5, s6, s7, s8, s9, s10, s11⟩
      go_simp
      with_reducible rfl
    rotate_left
    · simp only [Act.put, List.setIfInBounds_toArray, List.set_cons_zero, List.set_cons_succ, i64_w, i32_w]
      rfl
    refine one_ (i := 18) (N := some 134) (bm 29 1048575) rfl rfl (one_of HT_.out (by kernel_rfl)) (by decide) (fun K hK => ?_)
    refine goes_ Try.func26 (by kernel_rfl) rfl #[.agg #[.bool (ng x), .slice A4 (ln x) c5]] (by rfl) rfl rfl (by simp only [List.map_toArray, List.map_cons, List.map_nil]; try rfl) ?_
    with_reducible refine (TextQ (H.row _ (mt (mt (mt (mt (mt (mt m10))))))) (lim bx.out (by decide)) a hta.out).mono ?_
    rintro e w108 ⟨rfl, hb⟩
    replace H := H.call hb
    clear hb
    refine ⟨_, rfl, ?_⟩
    refine hK.out _ _ ⟨H.cell m3 0, H.cell m3 1, H.cell m1 0, H.cell m1 1, H.cell m2 0, H.cell m2 1, H.cell m0 0, H.cell m0 1, H.cell m7 0, H.cell m7 1, H.cell m6 0, H.cell m6 1⟩ (fun hQ => ?_)
    clear hK K
    refine norm_ (a' := ?_) ?_ ?_
    rotate_left
    · show Act.put _ (some 134) _ = _
      simp only [Act.put, List.setIfInBounds_toArray, List.set_cons_zero, List.set_cons_succ, i64_w, i32_w]
      rfl
    refine pure_ (i := 20) (N := some 136) (v := ?_) (a' := ?_) (bm 29 2097151) rfl rfl (any_of HT_.out (by kernel_rfl)) (fun _ _ _ h => h) (Or.inl ⟨by rfl, ?_⟩) ?_ ?_
    rotate_left
    · intro w'
      go_simp
      with_reducible rfl
    rotate_left
    · simp only [Act.put, List.setIfInBounds_toArray, List.set_cons_zero, List.set_cons_succ, i64_w, i32_w]
      rfl
    refine pure_ (i := 21) (N := some 137) (v := ?_) (a' := ?_) (bm 29 4194303) rfl rfl (any_of HT_.out (by kernel_rfl)) (fun _ _ _ h => h) (Or.inl ⟨by rfl, ?_⟩) ?_ ?_
    rotate_left
    · intro w'
      go_simp
      with_reducible rfl
    rotate_left
    · simp only [Act.put, List.setIfInBounds_toArray, List.set_cons_zero, List.set_cons_succ, i64_w, i32_w]
      rfl
    refine pure_ (i := 22) (N := some 138) (v := ?_) (a' := ?_) (bm 29 8388607) rfl rfl (any_of HT_.out (by kernel_rfl)) (fun _ _ _ h => h) (Or.inl ⟨by rfl, ?_⟩) ?_ ?_
    rotate_left
    · intro w'
      go_simp
      with_reducible rfl
    rotate_left
    · simp only [Act.put, List.setIfInBounds_toArray, List.set_cons_zero, List.set_cons_succ, i64_w, i32_w]
      rfl
    refine pure_ (i := 25) (N := some 141) (v := ?_) (a' := ?_) (bm 29 41943039) rfl rfl (any_of HT_.out (by kernel_rfl)) (fun _ _ _ h => h) (Or.inl ⟨by rfl, ?_⟩) ?_ ?_
    rotate_left
    · intro w'
      go_simp
      with_reducible rfl
    rotate_left
    · simp only [Act.put, List.setIfInBounds_toArray, List.set_cons_zero, List.set_cons_succ, i64_w, i32_w]
      rfl
    refine take_ (i := 23) (N := some 139) (v := ?_) (a' := ?_) (bm 29 50331647) rfl rfl (take_ofW HT_.out HW_.out (by kernel_rfl)) (fun _ _ _ h => h) (Or.inl ⟨by rfl, ?_⟩) hQ ?_ ?_
    rotate_left
    · rintro w' ⟨s0, s1, s2, s3, s4, s5, s6, s7, s8, s9, s10, s11⟩
      go_simp
      with_reducible rfl
    rotate_left
    · simp only [Act.put, List.setIfInBounds_toArray, List.set_cons_zero, List.set_cons_succ, i64_w, i32_w]
      rfl
    refine one_ (i := 24) (N := some 140) (bm 29 67108863) rfl rfl (one_of HT_.out (by kernel_rfl)) (by decide) (fun K hK => ?_)
    refine goes_ Try.func26 (by kernel_rfl) rfl #[.agg #[.bool (ng y), .slice A6 (ln y) c7]] (by rfl) rfl rfl (by simp only [List.map_toArray, List.map_cons, List.map_nil]; try rfl) ?_
    with_reducible refine (TextQ (H.row _ (mt (mt (mt (mt (mt m10)))))) (lim bY.out (by decide)) b htb.out).mono ?_
    rintro e w109 ⟨rfl, hb⟩
    replace H := H.call hb
    clear hb
    refine ⟨_, rfl, ?_⟩
    refine hK.out _ _ ⟨H.cell m3 0, H.cell m3 1, H.cell m1 0, H.cell m1 1, H.cell m2 0, H.cell m2 1, H.cell m0 0, H.cell m0 1, H.cell m7 0, H.cell m7 1, H.cell m6 0, H.cell m6 1⟩ (fun hQ => ?_)
    clear hK K
    refine norm_ (a' := ?_) ?_ ?_
    rotate_left
    · show Act.put _ (some 140) _ = _
      simp only [Act.put, List.setIfInBounds_toArray, List.set_cons_zero, List.set_cons_succ, i64_w, i32_w]
      rfl
    refine pure_ (i := 26) (N := some 142) (v := ?_) (a' := ?_) (bm 29 134217727) rfl rfl (any_of HT_.out (by kernel_rfl)) (fun _ _ _ h => h) (Or.inl ⟨by rfl, ?_⟩) ?_ ?_
    rotate_left
    · intro w'
      go_simp
      with_reducible rfl
    rotate_left
    · simp only [Act.put, List.setIfInBounds_toArray, List.set_cons_zero, List.set_cons_succ, i64_w, i32_w]
      rfl
    refine pure_ (i := 27) (N := some 143) (v := ?_) (a' := ?_) (bm 29 268435455) rfl rfl (any_of HT_.out (by kernel_rfl)) (fun _ _ _ h => h) (Or.inl ⟨by rfl, ?_⟩) ?_ ?_
    rotate_left
    · intro w'
      go_simp
      with_reducible rfl
    rotate_left
    · simp only [Act.put, List.setIfInBounds_toArray, List.set_cons_zero, List.set_cons_succ, i64_w, i32_w]
      rfl
    refine pure_ (i := 28) (N := some 4) (v := ?_) (a' := ?_) (bm 29 536870911) rfl rfl (any_of HT_.out (by kernel_rfl)) (fun _ _ _ h => h) (Or.inl ⟨by rfl, ?_⟩) ?_ ?_
    rotate_left
    · intro w'
      go_simp
      with_reducible rfl
    rotate_left
    · simp only [Act.put, List.setIfInBounds_toArray, List.set_cons_zero, List.set_cons_succ, i64_w, i32_w]
      rfl
    refine done_ (done_of HT_.out (by kernel_rfl)) ?_
    try clear hQ
    go_wp2
    go_ret
    exact ⟨rfl, H.below⟩

theorem comp_walk (a b : ByteArray) (w : World) : Calls Try.prog 10 #[.string a, .string b] w (fun e W' => e = .returned (.bool true) ∧ Below w.heap.size w W') := by
  by_cases h : ∃ x y, Both a b x y
  · obtain ⟨x, y, h⟩ := h
    obtain ⟨s1, s2⟩ := both_small h
    have h4 := h
    obtain ⟨ha, hb, pa, pb⟩ := h4
    have up : ∀ {z : Int}, ln z ≤ 10 → ln z ≤ 1000 := fun h => Nat.le_trans h (by decide)
    have du : ∀ {z : Int}, ln z ≤ 1000 → dn z ≤ 10000 := fun h => Nat.le_trans (dn_ln h) (by decide)
    have bs : ln (x + y) ≤ 1000 := Nat.le_trans (bAdd s1 s2 rfl) (by decide)
    have bd : ln (x - y) ≤ 1000 := Nat.le_trans (bSub s1 s2 rfl) (by decide)
    have bp : ln (x * y) ≤ 1000 := Nat.le_trans (bMul s1 s2 rfl) (by decide)
    have bn : ln (-x) ≤ 1000 := by rw [ln_neg]; exact up s1
    have bn2 : ln (-y) ≤ 1000 := by rw [ln_neg]; exact up s2
    have bq : ln (x.tdiv y) ≤ 1000 := up (bTdiv s1 rfl)
    have br : ln (x.tmod y) ≤ 1000 := up (bTmod s1 rfl)
    refine comp_t a b w x y ⟨s1⟩ ⟨s2⟩ ⟨Nat.zero_le _⟩ _ _ _ _ _ _ x y (x + y) (-y) (x - y) (x * y) (-x) (x.tdiv y) (x.tmod y) _ _ _ _ _ _ _ ⟨bs⟩ ⟨bd⟩ ⟨bp⟩ ⟨bn⟩ ⟨bq⟩ ⟨br⟩ ⟨du (up s1)⟩ ⟨du (up s2)⟩ ⟨du bs⟩ ⟨du bn2⟩ ⟨du bd⟩ ⟨du bp⟩ ⟨du bn⟩ ⟨du bq⟩ ⟨du br⟩ ⟨two_ok h⟩
      ⟨ParseN_ok (by omega) pa⟩ ⟨ParseN_ok (by omega) pb⟩ ⟨rfl⟩ ⟨rfl⟩ ⟨rfl⟩ ⟨rfl⟩ ⟨rfl⟩ ⟨rfl⟩ ⟨rfl⟩ ⟨by omega⟩ ⟨rfl⟩ ⟨rfl⟩ ⟨rfl⟩ ⟨rfl⟩ ⟨rfl⟩ ⟨rfl⟩ ⟨rfl⟩ ⟨rfl⟩ ⟨rfl⟩ ⟨rfl⟩ ⟨rfl⟩ ⟨?_⟩ ⟨rfl⟩ ⟨rfl⟩ ⟨rfl⟩ ⟨fun h => ⟨h, rfl, rfl⟩⟩ ⟨rfl⟩ ⟨rfl⟩ ⟨rfl⟩ ⟨rfl⟩ ⟨tx_pr a (by omega) x pa⟩ ⟨tx_pr b (by omega) y pb⟩
      (by simp) (by simp) (by simp) (by simp) (by simp) (by simp) (by simp) (by simp) (by simp)
    by_cases h0 : y = 0
    · exact .inl ⟨h0, by rw [h0]; rfl⟩
    · exact .inr ⟨h0, beq_eq_false_iff_ne.mpr (fun h => h0 (sg_0 h))⟩
  · obtain ⟨x, y, h⟩ := two_not a b h
    exact comp_f a b w x y ⟨h⟩

end Go.Proofs.Ytdkapdgbfejgdaa
