/- Totals: the statement, and how its arguments read (the session's own words). -/
import Derived.Test.YtenhflbjipeopaaGreatDoorUd
import Derived.Test.YtenhflbjipeopaaGreatDoorOpS
namespace Go.Proofs.YtenhflbjipeopaaGreatDoor
open Go Go.Eng Go.Proofs Go.RowKit
set_option linter.unusedVariables false
set_option linter.unusedSimpArgs false
set_option maxRecDepth 100000
set_option maxHeartbeats 4000000
theorem shapeTotal (op : ByteArray) (l : List Val) (hl : l.length ≤ maxLen) (hi : ∀ v ∈ l, I64 v.int) : FF 3 [.v (.string op), .sl (l.map valCells)] = some (.v (.bool true)) := by
  have fx := fixed28
  obtain ⟨r1, g1, q, rfl, h1⟩ := greatV l hl
  refine FF_val Tryz.func3 rfl rfl ?_
  simp only [Tryz.ntmps3, Tryz.results3]
  cases q with
  | true =>
    clear h1 hi
    repeat' (first | (intro hc; (try simp only [bne_eq_false_iff_eq, bne_iff_ne, beq_iff_eq, beq_eq_false_iff_ne, Bool.not_eq_true', Bool.not_eq_false', decide_eq_true_eq, decide_eq_false_iff_not] at hc); (try replace hc := eq_true (show (_ : ByteArray) = _ from hc)); (try (exfalso; first | omega | exact hc trivial | exact hc))) | refine And.intro (show okTr _ _ = true by kernel_rfl) ?_ | refine And.intro ?_ ?_ | refine stp_guard ?_ ?_ | refine stq_guard ?_ ?_ | refine dwp_seq ?_ | refine dwp_block ?_ | ((first | refine dwp_region ?_ | refine dwp_any ?_ | refine dwp_skip ?_ | refine dwp_exit ?_ | refine dwp_ret ?_ | refine dwp_if ?_ | skip); (simp only [go_sem, beq_true, beq_false, Bool.true_beq, Bool.false_beq, Bool.bne_true, Bool.bne_false, Bool.true_bne, Bool.false_bne, Option.isSome_none, ne_eq, Int.cast_ofNat_Int, ↓reduceIte, reduceCtorEq, Nat.reduceBEq, Nat.reduceEqDiff, Nat.reduceLT, Nat.reduceLeDiff, Nat.reduceAdd, Nat.reduceMul, Nat.reducePow, Nat.reduceSub, Int.reduceEq, Int.reduceLT, Int.reduceLE, Int.reduceToNat, Int.reduceMul, Int.reduceNeg, Int.reduceAdd, Int.reduceSub, *]; try simp (disch := (first | omega | (simp only [ByteArray.size_append, bs_size, lit_size, cut_size, List.length_append, List.length_cons, List.length_nil]; omega))) only [sls2S, sls_lS, sls_hS, bop_sadd, List.length_drop, List.length_take, List.length_append, ite_ok, w_i64, w_u64, w_u8, w_u32, w_u16, w_i32, room_le, tm_nn, td_nn, nsucc])) | simp (disch := (first | omega | (simp only [ByteArray.size_append, bs_size, lit_size, cut_size, List.length_append, List.length_cons, List.length_nil]; omega))) only [sls2S, sls_lS, sls_hS, bop_sadd, List.length_drop, List.length_take, List.length_append, ite_ok, w_i64, w_u64, w_u8, w_u32, w_u16, w_i32, room_le, tm_nn, td_nn, nsucc])
  | false =>
    have h1 := h1 rfl
    have e1 := totalP op l h1.1 hi
    have e2 := refTotalX op l h1.1 hi h1.2
    clear h1 hi
    generalize totalV op l = Z at *
    obtain ⟨⟨z1, z2, z3⟩, zb⟩ := Z
    rw [show valCells (⟨z1, z2, z3⟩ : Val) = [.v (.int .u8 z1), .v (.int .i64 z2), .v (.string z3)] from rfl] at *
    simp only at e1 e2
    repeat' (first | (intro hc; (try simp only [bne_eq_false_iff_eq, bne_iff_ne, beq_iff_eq, beq_eq_false_iff_ne, Bool.not_eq_true', Bool.not_eq_false', decide_eq_true_eq, decide_eq_false_iff_not] at hc); (try replace hc := eq_true (show (_ : ByteArray) = _ from hc)); (try (exfalso; first | omega | exact hc trivial | exact hc))) | refine And.intro (show okTr _ _ = true by kernel_rfl) ?_ | refine And.intro ?_ ?_ | refine stp_guard ?_ ?_ | refine stq_guard ?_ ?_ | refine dwp_seq ?_ | refine dwp_block ?_ | ((first | refine dwp_region ?_ | refine dwp_any ?_ | refine dwp_skip ?_ | refine dwp_exit ?_ | refine dwp_ret ?_ | refine dwp_if ?_ | skip); (simp only [go_sem, beq_true, beq_false, Bool.true_beq, Bool.false_beq, Bool.bne_true, Bool.bne_false, Bool.true_bne, Bool.false_bne, Option.isSome_none, ne_eq, Int.cast_ofNat_Int, ↓reduceIte, reduceCtorEq, Nat.reduceBEq, Nat.reduceEqDiff, Nat.reduceLT, Nat.reduceLeDiff, Nat.reduceAdd, Nat.reduceMul, Nat.reducePow, Nat.reduceSub, Int.reduceEq, Int.reduceLT, Int.reduceLE, Int.reduceToNat, Int.reduceMul, Int.reduceNeg, Int.reduceAdd, Int.reduceSub, *]; try simp (disch := (first | omega | (simp only [ByteArray.size_append, bs_size, lit_size, cut_size, List.length_append, List.length_cons, List.length_nil]; omega))) only [sls2S, sls_lS, sls_hS, bop_sadd, List.length_drop, List.length_take, List.length_append, ite_ok, w_i64, w_u64, w_u8, w_u32, w_u16, w_i32, room_le, tm_nn, td_nn, nsucc])) | simp (disch := (first | omega | (simp only [ByteArray.size_append, bs_size, lit_size, cut_size, List.length_append, List.length_cons, List.length_nil]; omega))) only [sls2S, sls_lS, sls_hS, bop_sadd, List.length_drop, List.length_take, List.length_append, ite_ok, w_i64, w_u64, w_u8, w_u32, w_u16, w_i32, room_le, tm_nn, td_nn, nsucc])
theorem opd_val : ∀ m, OpD Tryz.prog 26 valCells (fun v => I64 v.int) m
  | 0 => opd_zero
  | m + 1 => opd_map (opd_struct Tryz.underlying26 (by kernel_rfl) (fsd_cons (k := 1) (opd_int Tryz.underlying5 m) (by kernel_rfl) (fsd_cons (k := 1) (opd_int Tryz.underlying2 m) (by kernel_rfl) (fsd_one (n := 1) (opd_string Tryz.underlying9 m) (by kernel_rfl)) rfl) rfl)) (fun y => (⟨y.1, y.2.1, y.2.2⟩ : Val)) (fun y => rfl) (fun y h => wf_i64 h.2.1)
theorem opd_vals (m : Nat) : OpD Tryz.prog 22 (fun l : List Val => [.sl (l.map valCells)]) (fun l => l.length ≤ maxLen ∧ ∀ v ∈ l, I64 v.int) m :=
  opd_slice (k := 3) Tryz.underlying22 (by kernel_rfl) (by decide) (fun _ => rfl) (fun _ => rfl) m (opd_val m)
theorem shapeTotal_ok (op : ByteArray) (l : List Val) (ho : op.size ≤ maxLen) (hl : l.length ≤ maxLen ∧ ∀ v ∈ l, I64 v.int) : FF 3 [.v (.string op), .sl (l.map valCells)] = some (.v (.bool true)) := shapeTotal op l hl.1 hl.2
end Go.Proofs.YtenhflbjipeopaaGreatDoor
