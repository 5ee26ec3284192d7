/- Plans' texts: the chapter's example (the session's own words). -/
import Derived.Test.YtjdkcedhmfgmoaaDoorXg
namespace Go.Proofs.YtjdkcedhmfgmoaaDoor
open Go Go.Eng Go.Proofs
set_option linter.unusedVariables false
set_option linter.unusedSimpArgs false
set_option maxRecDepth 100000
set_option maxHeartbeats 8000000
theorem dec0 : dec 0 = ⟨#[48]⟩ := by
  show bs (Lib.itoa ((0 : Nat) : Int)) = _
  rw [Lib.itoa_nonneg, Lib.decDigits_one (by decide)]
  rfl
def fxB : Bok := ⟨[⟨⟨#[97]⟩, [], 0, 0, 0⟩], []⟩
def fxK : Blk := ⟨false, [0], [], [], [], [], false, [], [], [], 0⟩
def fxS : Stp := ⟨0, 0, ⟨0, 0, [], [], 0, [], []⟩, 0, 0⟩
def fxT : ByteArray := ⟨#[102, 105, 114, 115, 116, 32, 97, 35, 48, 32, 104, 101, 97, 112, 10]⟩
theorem fxText : ptxt fxB fxK [fxS] = fxT := by
  show ⟨#[]⟩ ++ rstep fxB fxK fxS = _
  unfold rstep rhead fxS
  simp only [dec0]
  rfl
theorem fxPlan : FF 13 [.agg (bokC fxB), .agg (blkC fxK), .agg [.sl ([fxS].map stpC), .v (.bool false)]] = some (.v (.string fxT)) := by
  rw [← fxText]
  refine planX fxB fxK [fxS] false ⟨by decide, by decide, by simp [fxB], by simp only [fxB, List.mem_singleton, forall_eq]; decide⟩ (by decide) (by simp only [fxK, List.mem_singleton, forall_eq]; decide) ?_ (by decide)
  intro s hs
  obtain rfl : s = fxS := by simpa using hs
  exact ⟨by decide, by decide, by decide, ⟨by decide, by decide, by decide, by decide, by decide⟩, by decide⟩
theorem fixed30 : FF 12 [] = some (.v (.bool true)) := by
  have h := fxPlan
  simp only [bokC_eq, blkC_eq, fxB, fxK, fxS, List.map_cons, List.map_nil, stpC_eq, tblC, intC] at h
  unfold fxT at h
  refine FF_val Tryd.func12 rfl rfl ?_
  simp only [Tryd.ntmps12, Tryd.results12]
  repeat' (first | (intro hc; (try simp only [bne_eq_false_iff_eq, bne_iff_ne, beq_iff_eq, beq_eq_false_iff_ne, Bool.not_eq_true', Bool.not_eq_false', decide_eq_true_eq, decide_eq_false_iff_not] at hc); (try replace hc := eq_true (show (_ : ByteArray) = _ from hc)); (try (exfalso; first | omega | exact hc trivial | exact hc))) | refine And.intro (show okTr _ _ = true by kernel_rfl) ?_ | refine And.intro ?_ ?_ | refine stp_guard ?_ ?_ | refine stq_guard ?_ ?_ | refine dwp_seq ?_ | refine dwp_block ?_ | ((first | refine dwp_region ?_ | refine dwp_any ?_ | refine dwp_skip ?_ | refine dwp_exit ?_ | refine dwp_ret ?_ | refine dwp_if ?_ | skip); (simp only [go_sem, beq_true, beq_false, Bool.true_beq, Bool.false_beq, Bool.bne_true, Bool.bne_false, Bool.true_bne, Bool.false_bne, Option.isSome_none, ne_eq, Int.cast_ofNat_Int, ↓reduceIte, reduceCtorEq, Nat.reduceBEq, Nat.reduceEqDiff, Nat.reduceLT, Nat.reduceLeDiff, Nat.reduceAdd, Nat.reduceMul, Nat.reducePow, Nat.reduceSub, Int.reduceEq, Int.reduceLT, Int.reduceLE, Int.reduceToNat, Int.reduceMul, Int.reduceNeg, Int.reduceAdd, Int.reduceSub, *]; try simp (disch := (first | omega | (simp only [ByteArray.size_append, bs_size, lit_size, cut_size, List.length_append, List.length_cons, List.length_nil]; omega))) only [sls2S, sls_lS, sls_hS, bop_sadd, List.length_drop, List.length_take, List.length_append, ite_ok, w_i64, w_u64, w_u8, w_u32, w_u16, w_i32, room_le, tm_nn, td_nn, nsucc, apSK_ok])) | simp (disch := (first | omega | (simp only [ByteArray.size_append, bs_size, lit_size, cut_size, List.length_append, List.length_cons, List.length_nil]; omega))) only [sls2S, sls_lS, sls_hS, bop_sadd, List.length_drop, List.length_take, List.length_append, ite_ok, w_i64, w_u64, w_u8, w_u32, w_u16, w_i32, room_le, tm_nn, td_nn, nsucc, apSK_ok])
end Go.Proofs.YtjdkcedhmfgmoaaDoor
