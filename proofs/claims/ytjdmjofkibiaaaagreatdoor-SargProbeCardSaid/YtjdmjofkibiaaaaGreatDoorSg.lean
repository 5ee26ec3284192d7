/- The chapter's example holds (the session's own words). -/
import Derived.Test.YtjdmjofkibiaaaaGreatDoorSf
namespace Go.Proofs.YtjdmjofkibiaaaaGreatDoor
open Go Go.Eng Go.Proofs
set_option linter.unusedVariables false
set_option linter.unusedSimpArgs false
set_option maxRecDepth 100000
set_option maxHeartbeats 4000000
theorem fxSame : FF 21 [usD, .sl [[.v (.int .i64 0)], [.v (.int .i64 1)]]] = some (.v (.bool true)) := FF_runQ 30 (by kernel_rfl)
def k2D : D := .v (.string ⟨#[2, 128, 0, 0, 0, 0, 0, 0, 5, 2, 128, 0, 0, 0, 0, 0, 0, 2]⟩)
def k3D : D := .v (.string ⟨#[2, 128, 0, 0, 0, 0, 0, 0, 5, 2, 128, 0, 0, 0, 0, 0, 0, 3]⟩)
theorem fxPut2 : FF 16 [.sl [[.v (.int .u8 1), .v (.int .i64 5), .v (.string ⟨#[]⟩)], [.v (.int .u8 1), .v (.int .i64 2), .v (.string ⟨#[]⟩)]]] = some (.tup [k2D, .v (.int .i64 0)]) := FF_runQ 30 (by kernel_rfl)
theorem fxPut3 : FF 16 [.sl [[.v (.int .u8 1), .v (.int .i64 5), .v (.string ⟨#[]⟩)], [.v (.int .u8 1), .v (.int .i64 3), .v (.string ⟨#[]⟩)]]] = some (.tup [k3D, .v (.int .i64 0)]) := FF_runQ 30 (by kernel_rfl)
theorem fxIn2 : FF 17 [rgD, k2D] = some (.v (.bool false)) := FF_runQ 30 (by kernel_rfl)
theorem fxIn3 : FF 17 [rgD, k3D] = some (.v (.bool true)) := FF_runQ 30 (by kernel_rfl)
theorem fixed21 : FF 6 [] = some (.v (.bool true)) := by
  have h1 := fxParse
  have h2 := fxBind
  have h3 := fxRanges
  have h4 := fxSame
  have h5 := fxPut2
  have h6 := fxPut3
  have h7 := fxIn2
  have h8 := fxIn3
  simp only [qsD, bkD, qyD, kD, rgD, usD, k2D, k3D] at h1 h2 h3 h4 h5 h6 h7 h8
  refine FF_val Tryz.func6 rfl rfl ?_
  simp only [Tryz.ntmps6, Tryz.results6]
  repeat' (first | (intro hc; (try simp only [bne_eq_false_iff_eq, bne_iff_ne, beq_iff_eq, beq_eq_false_iff_ne, Bool.not_eq_true', Bool.not_eq_false', decide_eq_true_eq, decide_eq_false_iff_not] at hc); (try replace hc := eq_true (show (_ : ByteArray) = _ from hc)); (try (exfalso; first | omega | exact hc trivial | exact hc))) | refine And.intro (show okTr _ _ = true by kernel_rfl) ?_ | refine And.intro ?_ ?_ | refine stp_guard ?_ ?_ | refine stq_guard ?_ ?_ | refine dwp_seq ?_ | refine dwp_block ?_ | ((first | refine dwp_region ?_ | refine dwp_any ?_ | refine dwp_skip ?_ | refine dwp_exit ?_ | refine dwp_ret ?_ | refine dwp_if ?_ | skip); (simp only [go_sem, beq_true, beq_false, Bool.true_beq, Bool.false_beq, Bool.bne_true, Bool.bne_false, Bool.true_bne, Bool.false_bne, Option.isSome_none, ne_eq, Int.cast_ofNat_Int, ↓reduceIte, reduceCtorEq, Nat.reduceBEq, Nat.reduceEqDiff, Nat.reduceLT, Nat.reduceLeDiff, Nat.reduceAdd, Nat.reduceMul, Nat.reducePow, Nat.reduceSub, Int.reduceEq, Int.reduceLT, Int.reduceLE, Int.reduceToNat, Int.reduceMul, Int.reduceNeg, Int.reduceAdd, Int.reduceSub, *]; try simp (disch := (first | omega | (simp only [ByteArray.size_append, bs_size, lit_size, cut_size, List.length_append, List.length_cons, List.length_nil]; omega))) only [sls2S, sls_lS, sls_hS, bop_sadd, List.length_drop, List.length_take, List.length_append, ite_ok, w_i64, w_u64, w_u8, w_u32, w_u16, w_i32, room_le, tm_nn, td_nn, nsucc])) | simp (disch := (first | omega | (simp only [ByteArray.size_append, bs_size, lit_size, cut_size, List.length_append, List.length_cons, List.length_nil]; omega))) only [sls2S, sls_lS, sls_hS, bop_sadd, List.length_drop, List.length_take, List.length_append, ite_ok, w_i64, w_u64, w_u8, w_u32, w_u16, w_i32, room_le, tm_nn, td_nn, nsucc])
end Go.Proofs.YtjdmjofkibiaaaaGreatDoor
