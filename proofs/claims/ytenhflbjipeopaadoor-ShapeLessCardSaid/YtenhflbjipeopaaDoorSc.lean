/- How rows stand by keys: the statement, and how its arguments read (the session's own words). -/
import Derived.Test.YtenhflbjipeopaaDoorSb
import Derived.Test.YtenhflbjipeopaaDoorOpS
namespace Go.Proofs.YtenhflbjipeopaaDoor
open Go Go.Eng Go.Proofs Go.RowKit
set_option linter.unusedVariables false
set_option linter.unusedSimpArgs false
set_option maxRecDepth 100000
set_option maxHeartbeats 4000000
theorem shapeLess (ks : List Key) (a b : List Val) (ha : a.length ≤ maxLen) (hb : b.length ≤ maxLen) (hk : ks.length ≤ maxLen) (hi : ∀ k ∈ ks, in64 k.item) : FF 3 [.sl (ks.map keyC), .sl (a.map valCells), .sl (b.map valCells)] = some (.v (.bool true)) := by
  have fx := fixed28
  obtain ⟨r1, g1, q1, rfl, h1⟩ := greatV a ha
  obtain ⟨r2, g2, q2, rfl, h2⟩ := greatV b hb
  unfold maxLen at ha hb hk
  by_cases hq : q1 = false ∧ q2 = false ∧ ks.length ≤ 100
  · obtain ⟨hq1, hq2, hkl⟩ := hq
    have k1 := h1 hq1
    have k2 := h2 hq2
    clear h1 h2
    subst hq1 hq2
    have e1 := lessX ks a b hkl k1.1 k2.1 hi
    have e2 := refLessX ks a b hkl k1.1 k2.1 hi k1.2 k2.2
    have e3 := lessX ks b a hkl k2.1 k1.1 hi
    have e4 := lessX ks a a hkl k1.1 k1.1 hi
    rw [keysCmp_self] at e4
    rw [keysCmp_neg] at e3
    clear k1 k2 hi
    generalize keysCmp ks a b = Z at *
    rw [kB_eq] at *
    rw [show decide ((0 : Int) < 0) = false from rfl] at e4
    by_cases hz : Z < 0
    · have hz2 : ¬ -Z < 0 := by omega
      rw [decide_eq_true hz] at e1 e2
      rw [decide_eq_false hz2] at e3
      refine FF_val Tryd.func3 rfl rfl ?_
      simp only [Tryd.ntmps3, Tryd.results3]
      repeat' (first | (intro hc; (try simp only [bne_eq_false_iff_eq, bne_iff_ne, beq_iff_eq, beq_eq_false_iff_ne, Bool.not_eq_true', Bool.not_eq_false', decide_eq_true_eq, decide_eq_false_iff_not] at hc); (try replace hc := eq_true (show (_ : ByteArray) = _ from hc)); (try (exfalso; first | omega | exact hc trivial | exact hc))) | refine And.intro (show okTr _ _ = true by kernel_rfl) ?_ | refine And.intro ?_ ?_ | refine stp_guard ?_ ?_ | refine stq_guard ?_ ?_ | refine dwp_seq ?_ | refine dwp_block ?_ | ((first | refine dwp_region ?_ | refine dwp_any ?_ | refine dwp_skip ?_ | refine dwp_exit ?_ | refine dwp_ret ?_ | refine dwp_if ?_ | skip); (simp only [go_sem, beq_true, beq_false, Bool.true_beq, Bool.false_beq, Bool.bne_true, Bool.bne_false, Bool.true_bne, Bool.false_bne, Option.isSome_none, ne_eq, Int.cast_ofNat_Int, ↓reduceIte, reduceCtorEq, Nat.reduceBEq, Nat.reduceEqDiff, Nat.reduceLT, Nat.reduceLeDiff, Nat.reduceAdd, Nat.reduceMul, Nat.reducePow, Nat.reduceSub, Int.reduceEq, Int.reduceLT, Int.reduceLE, Int.reduceToNat, Int.reduceMul, Int.reduceNeg, Int.reduceAdd, Int.reduceSub, *]; try simp (disch := (first | omega | (simp only [ByteArray.size_append, bs_size, lit_size, cut_size, List.length_append, List.length_cons, List.length_nil]; omega))) only [sls2S, sls_lS, sls_hS, bop_sadd, List.length_drop, List.length_take, List.length_append, ite_ok, w_i64, w_u64, w_u8, w_u32, w_u16, w_i32, room_le, tm_nn, td_nn, nsucc])) | simp (disch := (first | omega | (simp only [ByteArray.size_append, bs_size, lit_size, cut_size, List.length_append, List.length_cons, List.length_nil]; omega))) only [sls2S, sls_lS, sls_hS, bop_sadd, List.length_drop, List.length_take, List.length_append, ite_ok, w_i64, w_u64, w_u8, w_u32, w_u16, w_i32, room_le, tm_nn, td_nn, nsucc])
    · rw [decide_eq_false hz] at e1 e2
      refine FF_val Tryd.func3 rfl rfl ?_
      simp only [Tryd.ntmps3, Tryd.results3]
      repeat' (first | (intro hc; (try simp only [bne_eq_false_iff_eq, bne_iff_ne, beq_iff_eq, beq_eq_false_iff_ne, Bool.not_eq_true', Bool.not_eq_false', decide_eq_true_eq, decide_eq_false_iff_not] at hc); (try replace hc := eq_true (show (_ : ByteArray) = _ from hc)); (try (exfalso; first | omega | exact hc trivial | exact hc))) | refine And.intro (show okTr _ _ = true by kernel_rfl) ?_ | refine And.intro ?_ ?_ | refine stp_guard ?_ ?_ | refine stq_guard ?_ ?_ | refine dwp_seq ?_ | refine dwp_block ?_ | ((first | refine dwp_region ?_ | refine dwp_any ?_ | refine dwp_skip ?_ | refine dwp_exit ?_ | refine dwp_ret ?_ | refine dwp_if ?_ | skip); (simp only [go_sem, beq_true, beq_false, Bool.true_beq, Bool.false_beq, Bool.bne_true, Bool.bne_false, Bool.true_bne, Bool.false_bne, Option.isSome_none, ne_eq, Int.cast_ofNat_Int, ↓reduceIte, reduceCtorEq, Nat.reduceBEq, Nat.reduceEqDiff, Nat.reduceLT, Nat.reduceLeDiff, Nat.reduceAdd, Nat.reduceMul, Nat.reducePow, Nat.reduceSub, Int.reduceEq, Int.reduceLT, Int.reduceLE, Int.reduceToNat, Int.reduceMul, Int.reduceNeg, Int.reduceAdd, Int.reduceSub, *]; try simp (disch := (first | omega | (simp only [ByteArray.size_append, bs_size, lit_size, cut_size, List.length_append, List.length_cons, List.length_nil]; omega))) only [sls2S, sls_lS, sls_hS, bop_sadd, List.length_drop, List.length_take, List.length_append, ite_ok, w_i64, w_u64, w_u8, w_u32, w_u16, w_i32, room_le, tm_nn, td_nn, nsucc])) | simp (disch := (first | omega | (simp only [ByteArray.size_append, bs_size, lit_size, cut_size, List.length_append, List.length_cons, List.length_nil]; omega))) only [sls2S, sls_lS, sls_hS, bop_sadd, List.length_drop, List.length_take, List.length_append, ite_ok, w_i64, w_u64, w_u8, w_u32, w_u16, w_i32, room_le, tm_nn, td_nn, nsucc])
  · refine FF_val Tryd.func3 rfl rfl ?_
    simp only [Tryd.ntmps3, Tryd.results3]
    clear h1 h2 hi
    cases q1 <;> cases q2
    · have hkl : (100 : Int) < ks.length := by simp at hq; omega
      clear hq
      repeat' (first | (intro hc; (try simp only [bne_eq_false_iff_eq, bne_iff_ne, beq_iff_eq, beq_eq_false_iff_ne, Bool.not_eq_true', Bool.not_eq_false', decide_eq_true_eq, decide_eq_false_iff_not] at hc); (try replace hc := eq_true (show (_ : ByteArray) = _ from hc)); (try (exfalso; first | omega | exact hc trivial | exact hc))) | refine And.intro (show okTr _ _ = true by kernel_rfl) ?_ | refine And.intro ?_ ?_ | refine stp_guard ?_ ?_ | refine stq_guard ?_ ?_ | refine dwp_seq ?_ | refine dwp_block ?_ | ((first | refine dwp_region ?_ | refine dwp_any ?_ | refine dwp_skip ?_ | refine dwp_exit ?_ | refine dwp_ret ?_ | refine dwp_if ?_ | skip); (simp only [go_sem, beq_true, beq_false, Bool.true_beq, Bool.false_beq, Bool.bne_true, Bool.bne_false, Bool.true_bne, Bool.false_bne, Option.isSome_none, ne_eq, Int.cast_ofNat_Int, ↓reduceIte, reduceCtorEq, Nat.reduceBEq, Nat.reduceEqDiff, Nat.reduceLT, Nat.reduceLeDiff, Nat.reduceAdd, Nat.reduceMul, Nat.reducePow, Nat.reduceSub, Int.reduceEq, Int.reduceLT, Int.reduceLE, Int.reduceToNat, Int.reduceMul, Int.reduceNeg, Int.reduceAdd, Int.reduceSub, *]; try simp (disch := (first | omega | (simp only [ByteArray.size_append, bs_size, lit_size, cut_size, List.length_append, List.length_cons, List.length_nil]; omega))) only [sls2S, sls_lS, sls_hS, bop_sadd, List.length_drop, List.length_take, List.length_append, ite_ok, w_i64, w_u64, w_u8, w_u32, w_u16, w_i32, room_le, tm_nn, td_nn, nsucc])) | simp (disch := (first | omega | (simp only [ByteArray.size_append, bs_size, lit_size, cut_size, List.length_append, List.length_cons, List.length_nil]; omega))) only [sls2S, sls_lS, sls_hS, bop_sadd, List.length_drop, List.length_take, List.length_append, ite_ok, w_i64, w_u64, w_u8, w_u32, w_u16, w_i32, room_le, tm_nn, td_nn, nsucc])
    all_goals clear hq
    all_goals repeat' (first | (intro hc; (try simp only [bne_eq_false_iff_eq, bne_iff_ne, beq_iff_eq, beq_eq_false_iff_ne, Bool.not_eq_true', Bool.not_eq_false', decide_eq_true_eq, decide_eq_false_iff_not] at hc); (try replace hc := eq_true (show (_ : ByteArray) = _ from hc)); (try (exfalso; first | omega | exact hc trivial | exact hc))) | refine And.intro (show okTr _ _ = true by kernel_rfl) ?_ | refine And.intro ?_ ?_ | refine stp_guard ?_ ?_ | refine stq_guard ?_ ?_ | refine dwp_seq ?_ | refine dwp_block ?_ | ((first | refine dwp_region ?_ | refine dwp_any ?_ | refine dwp_skip ?_ | refine dwp_exit ?_ | refine dwp_ret ?_ | refine dwp_if ?_ | skip); (simp only [go_sem, beq_true, beq_false, Bool.true_beq, Bool.false_beq, Bool.bne_true, Bool.bne_false, Bool.true_bne, Bool.false_bne, Option.isSome_none, ne_eq, Int.cast_ofNat_Int, ↓reduceIte, reduceCtorEq, Nat.reduceBEq, Nat.reduceEqDiff, Nat.reduceLT, Nat.reduceLeDiff, Nat.reduceAdd, Nat.reduceMul, Nat.reducePow, Nat.reduceSub, Int.reduceEq, Int.reduceLT, Int.reduceLE, Int.reduceToNat, Int.reduceMul, Int.reduceNeg, Int.reduceAdd, Int.reduceSub, *]; try simp (disch := (first | omega | (simp only [ByteArray.size_append, bs_size, lit_size, cut_size, List.length_append, List.length_cons, List.length_nil]; omega))) only [sls2S, sls_lS, sls_hS, bop_sadd, List.length_drop, List.length_take, List.length_append, ite_ok, w_i64, w_u64, w_u8, w_u32, w_u16, w_i32, room_le, tm_nn, td_nn, nsucc])) | simp (disch := (first | omega | (simp only [ByteArray.size_append, bs_size, lit_size, cut_size, List.length_append, List.length_cons, List.length_nil]; omega))) only [sls2S, sls_lS, sls_hS, bop_sadd, List.length_drop, List.length_take, List.length_append, ite_ok, w_i64, w_u64, w_u8, w_u32, w_u16, w_i32, room_le, tm_nn, td_nn, nsucc])
theorem i64_of {n : Int} (h : (Lit.int .i64 n).wf = true) : in64 n := by
  have := wf_i64 h
  exact ⟨this.1, by have := this.2; omega⟩
theorem opd_key : ∀ m, OpD Tryd.prog 46 keyC (fun k => in64 k.item) m
  | 0 => opd_zero
  | m + 1 => opd_map (opd_struct Tryd.underlying46 (by kernel_rfl) (fsd_cons (k := 1) (opd_string Tryd.underlying9 m) (by kernel_rfl) (fsd_cons (k := 1) (opd_int Tryd.underlying3 m) (by kernel_rfl) (fsd_one (n := 1) (opd_bool Tryd.underlying4 m) (by kernel_rfl)) rfl) rfl)) (fun y => (⟨y.1, y.2.1, y.2.2⟩ : Key)) (fun y => rfl) (fun y h => i64_of h.2.1)
theorem opd_keys (m : Nat) : OpD Tryd.prog 22 (fun l : List Key => [.sl (l.map keyC)]) (fun l => l.length ≤ maxLen ∧ ∀ k ∈ l, in64 k.item) m :=
  opd_slice (k := 3) Tryd.underlying22 (by kernel_rfl) (by decide) (fun _ => rfl) (fun _ => rfl) m (opd_key m)
theorem opd_val : ∀ m, OpD Tryd.prog 35 valCells (fun v => True) m
  | 0 => opd_zero
  | m + 1 => opd_map (opd_struct Tryd.underlying35 (by kernel_rfl) (fsd_cons (k := 1) (opd_int Tryd.underlying5 m) (by kernel_rfl) (fsd_cons (k := 1) (opd_int Tryd.underlying2 m) (by kernel_rfl) (fsd_one (n := 1) (opd_string Tryd.underlying9 m) (by kernel_rfl)) rfl) rfl)) (fun y => (⟨y.1, y.2.1, y.2.2⟩ : Val)) (fun y => rfl) (fun y h => trivial)
theorem opd_vals (m : Nat) : OpD Tryd.prog 23 (fun l : List Val => [.sl (l.map valCells)]) (fun l => l.length ≤ maxLen ∧ ∀ v ∈ l, True) m :=
  opd_slice (k := 3) Tryd.underlying23 (by kernel_rfl) (by decide) (fun _ => rfl) (fun _ => rfl) m (opd_val m)
theorem shapeLess_ok (ks : List Key) (a b : List Val) (hk : ks.length ≤ maxLen ∧ ∀ k ∈ ks, in64 k.item) (ha : a.length ≤ maxLen ∧ ∀ v ∈ a, True) (hb : b.length ≤ maxLen ∧ ∀ v ∈ b, True) :
    FF 3 [.sl (ks.map keyC), .sl (a.map valCells), .sl (b.map valCells)] = some (.v (.bool true)) := shapeLess ks a b ha.1 hb.1 hk.1 hk.2
end Go.Proofs.YtenhflbjipeopaaDoor
