/- Lexing: runs (the session's own words). -/
import Derived.Test.YtcdeidljcmlfdaaDoorVa
import Derived.Test.YtcdeidljcmlfdaaDoorRun
import Derived.Test.YtcdeidljcmlfdaaDoorPc
namespace Go.Proofs.YtcdeidljcmlfdaaDoor
open Go Go.Eng Go.Proofs
set_option linter.unusedVariables false
set_option linter.unusedSimpArgs false
set_option maxRecDepth 100000
set_option maxHeartbeats 8000000
def isBool (o : Option (D × List (List D))) (os : List (List D)) (b : Bool) : Bool := match o with
  | some (.v (.bool c), _) => c == b
  | _ => false
theorem run_all : ((List.range 256).all fun n => match denNQ Tryd.prog hints prims 9 22 [.v (.int .u8 (n : Int))] [] with
  | some (.v (.bool c), []) => c == isRun (UInt8.ofNat n)
  | _ => false) = true := by kernel_rfl
theorem runX (c : UInt8) : FF 22 [.v (.int .u8 (c.toNat : Int))] = some (.v (.bool (isRun c))) := by
  have h := List.all_eq_true.1 run_all c.toNat (List.mem_range.2 c.toNat_lt)
  split at h
  · rename_i b he
    refine FF_runQ 9 ?_
    rw [he, eq_of_beq h]
    simp
  · cases h
/-- a name? -/
noncomputable def nmB (s : ByteArray) : Bool := @decide (FF 31 [.v (.string s)] = some (.v (.bool true))) (Classical.propDecidable _)
theorem nameX (s : ByteArray) (hs : s.size ≤ 5000) : FF 31 [.v (.string s)] = some (.v (.bool (nmB s))) := by
  have key : ∃ r, FF 31 [.v (.string s)] = some r ∧ ∃ b, r = .v (.bool b) := by
    refine FF_ex Tryd.func31 rfl rfl ?_
    simp only [Tryd.ntmps31, Tryd.results31]
    repeat' (first | (intro hc; (try simp only [bne_eq_false_iff_eq, bne_iff_ne, beq_iff_eq, beq_eq_false_iff_ne, Bool.not_eq_true', Bool.not_eq_false', decide_eq_true_eq, decide_eq_false_iff_not] at hc); (try replace hc := eq_true (show (_ : ByteArray) = _ from hc)); (try (exfalso; first | omega | exact hc trivial | exact hc))) | refine And.intro (show okTr _ _ = true by kernel_rfl) ?_ | refine And.intro ?_ ?_ | refine stp_guard ?_ ?_ | refine stq_guard ?_ ?_ | refine dwp_seq ?_ | refine dwp_block ?_ | ((first | refine dwp_region ?_ | refine dwp_any ?_ | refine dwp_skip ?_ | refine dwp_exit ?_ | refine dwp_ret ?_ | refine dwp_if ?_ | skip); (simp only [go_sem, beq_true, beq_false, Bool.true_beq, Bool.false_beq, Bool.bne_true, Bool.bne_false, Bool.true_bne, Bool.false_bne, Option.isSome_none, ne_eq, Int.cast_ofNat_Int, ↓reduceIte, reduceCtorEq, Nat.reduceBEq, Nat.reduceEqDiff, Nat.reduceLT, Nat.reduceLeDiff, Nat.reduceAdd, Nat.reduceMul, Nat.reducePow, Nat.reduceSub, Int.reduceEq, Int.reduceLT, Int.reduceLE, Int.reduceToNat, Int.reduceMul, Int.reduceNeg, Int.reduceAdd, Int.reduceSub, *]; try simp (disch := (first | omega | (simp only [ByteArray.size_append, bs_size, lit_size, cut_size, List.length_append, List.length_cons, List.length_nil]; omega))) only [sls2S, sls_lS, sls_hS, bop_sadd, List.length_drop, List.length_take, List.length_append, ite_ok, w_i64, w_u64, w_u8, w_u32, w_u16, w_i32, room_le, tm_nn, td_nn, nsucc, apSK_ok])) | simp (disch := (first | omega | (simp only [ByteArray.size_append, bs_size, lit_size, cut_size, List.length_append, List.length_cons, List.length_nil]; omega))) only [sls2S, sls_lS, sls_hS, bop_sadd, List.length_drop, List.length_take, List.length_append, ite_ok, w_i64, w_u64, w_u8, w_u32, w_u16, w_i32, room_le, tm_nn, td_nn, nsucc, apSK_ok])
    refine dwp_indL [0, 2, 7] [] (fun n f g => ∃ i : Nat, n = s.size - i ∧ i ≤ s.size ∧ f 8 = .v (.int .i64 i)) _ ⟨0, rfl, Nat.zero_le _, ?_⟩ ?_
    · simp only [go_sem, beq_true, beq_false, Bool.true_beq, Bool.false_beq, Bool.bne_true, Bool.bne_false, Bool.true_bne, Bool.false_bne, Option.isSome_none, ne_eq, Int.cast_ofNat_Int, ↓reduceIte, reduceCtorEq, Nat.reduceBEq, Nat.reduceEqDiff, Nat.reduceLT, Nat.reduceLeDiff, Nat.reduceAdd, Nat.reduceMul, Nat.reducePow, Nat.reduceSub, Int.reduceEq, Int.reduceLT, Int.reduceLE, Int.reduceToNat, Int.reduceMul, Int.reduceNeg, Int.reduceAdd, Int.reduceSub]
      try exact rfl
    rintro n f g hL hG ⟨i, hn1, hi, hf8⟩ ih2
    (simp only [sameOn_cons, sameOn_one, sameOn_nil] at hL hG; (try simp only [go_sem, beq_true, beq_false, Bool.true_beq, Bool.false_beq, Bool.bne_true, Bool.bne_false, Bool.true_bne, Bool.false_bne, Option.isSome_none, ne_eq, Int.cast_ofNat_Int, ↓reduceIte, reduceCtorEq, Nat.reduceBEq, Nat.reduceEqDiff, Nat.reduceLT, Nat.reduceLeDiff, Nat.reduceAdd, Nat.reduceMul, Nat.reducePow, Nat.reduceSub, Int.reduceEq, Int.reduceLT, Int.reduceLE, Int.reduceToNat, Int.reduceMul, Int.reduceNeg, Int.reduceAdd, Int.reduceSub] at hL); (try simp only [go_sem, beq_true, beq_false, Bool.true_beq, Bool.false_beq, Bool.bne_true, Bool.bne_false, Bool.true_bne, Bool.false_bne, Option.isSome_none, ne_eq, Int.cast_ofNat_Int, ↓reduceIte, reduceCtorEq, Nat.reduceBEq, Nat.reduceEqDiff, Nat.reduceLT, Nat.reduceLeDiff, Nat.reduceAdd, Nat.reduceMul, Nat.reducePow, Nat.reduceSub, Int.reduceEq, Int.reduceLT, Int.reduceLE, Int.reduceToNat, Int.reduceMul, Int.reduceNeg, Int.reduceAdd, Int.reduceSub] at hG))
    rcases Nat.lt_or_ge i s.size with h | h
    · generalize hb : bt s i = x at *
      repeat' (first | (intro hc; (try simp only [bne_eq_false_iff_eq, bne_iff_ne, beq_iff_eq, beq_eq_false_iff_ne, Bool.not_eq_true', Bool.not_eq_false', decide_eq_true_eq, decide_eq_false_iff_not] at hc); (try replace hc := eq_true (show (_ : ByteArray) = _ from hc)); (try (exfalso; first | omega | exact hc trivial | exact hc))) | refine And.intro (show okTr _ _ = true by kernel_rfl) ?_ | refine And.intro ?_ ?_ | refine stp_guard ?_ ?_ | refine stq_guard ?_ ?_ | refine dwp_seq ?_ | refine dwp_block ?_ | ((first | refine dwp_region ?_ | refine dwp_any ?_ | refine dwp_skip ?_ | refine dwp_exit ?_ | refine dwp_ret ?_ | refine dwp_if ?_ | skip); (simp only [go_sem, beq_true, beq_false, Bool.true_beq, Bool.false_beq, Bool.bne_true, Bool.bne_false, Bool.true_bne, Bool.false_bne, Option.isSome_none, ne_eq, Int.cast_ofNat_Int, ↓reduceIte, reduceCtorEq, Nat.reduceBEq, Nat.reduceEqDiff, Nat.reduceLT, Nat.reduceLeDiff, Nat.reduceAdd, Nat.reduceMul, Nat.reducePow, Nat.reduceSub, Int.reduceEq, Int.reduceLT, Int.reduceLE, Int.reduceToNat, Int.reduceMul, Int.reduceNeg, Int.reduceAdd, Int.reduceSub, *]; try simp (disch := (first | omega | (simp only [ByteArray.size_append, bs_size, lit_size, cut_size, List.length_append, List.length_cons, List.length_nil]; omega))) only [sls2S, sls_lS, sls_hS, bop_sadd, List.length_drop, List.length_take, List.length_append, ite_ok, w_i64, w_u64, w_u8, w_u32, w_u16, w_i32, room_le, tm_nn, td_nn, nsucc, apSK_ok])) | simp (disch := (first | omega | (simp only [ByteArray.size_append, bs_size, lit_size, cut_size, List.length_append, List.length_cons, List.length_nil]; omega))) only [sls2S, sls_lS, sls_hS, bop_sadd, List.length_drop, List.length_take, List.length_append, ite_ok, w_i64, w_u64, w_u8, w_u32, w_u16, w_i32, room_le, tm_nn, td_nn, nsucc, apSK_ok])
      all_goals first
        | exact ⟨_, rfl⟩
        | (refine ih2 _ _ _ ?_ ?_ ?_ ⟨i + 1, rfl, by omega, ?_⟩
           · omega
           · (simp only [sameOn_cons, sameOn_one, sameOn_nil]; (try simp only [go_sem, beq_true, beq_false, Bool.true_beq, Bool.false_beq, Bool.bne_true, Bool.bne_false, Bool.true_bne, Bool.false_bne, Option.isSome_none, ne_eq, Int.cast_ofNat_Int, ↓reduceIte, reduceCtorEq, Nat.reduceBEq, Nat.reduceEqDiff, Nat.reduceLT, Nat.reduceLeDiff, Nat.reduceAdd, Nat.reduceMul, Nat.reducePow, Nat.reduceSub, Int.reduceEq, Int.reduceLT, Int.reduceLE, Int.reduceToNat, Int.reduceMul, Int.reduceNeg, Int.reduceAdd, Int.reduceSub, *]); (try trivial))
           · (simp only [sameOn_cons, sameOn_one, sameOn_nil]; (try simp only [go_sem, beq_true, beq_false, Bool.true_beq, Bool.false_beq, Bool.bne_true, Bool.bne_false, Bool.true_bne, Bool.false_bne, Option.isSome_none, ne_eq, Int.cast_ofNat_Int, ↓reduceIte, reduceCtorEq, Nat.reduceBEq, Nat.reduceEqDiff, Nat.reduceLT, Nat.reduceLeDiff, Nat.reduceAdd, Nat.reduceMul, Nat.reducePow, Nat.reduceSub, Int.reduceEq, Int.reduceLT, Int.reduceLE, Int.reduceToNat, Int.reduceMul, Int.reduceNeg, Int.reduceAdd, Int.reduceSub, *]); (try trivial))
           · simp only [go_sem, beq_true, beq_false, Bool.true_beq, Bool.false_beq, Bool.bne_true, Bool.bne_false, Bool.true_bne, Bool.false_bne, Option.isSome_none, ne_eq, Int.cast_ofNat_Int, ↓reduceIte, reduceCtorEq, Nat.reduceBEq, Nat.reduceEqDiff, Nat.reduceLT, Nat.reduceLeDiff, Nat.reduceAdd, Nat.reduceMul, Nat.reducePow, Nat.reduceSub, Int.reduceEq, Int.reduceLT, Int.reduceLE, Int.reduceToNat, Int.reduceMul, Int.reduceNeg, Int.reduceAdd, Int.reduceSub]
             try omega)
    · obtain rfl : i = s.size := by omega
      by_cases h0 : s = ⟨#[]⟩
      · repeat' (first | (intro hc; (try simp only [bne_eq_false_iff_eq, bne_iff_ne, beq_iff_eq, beq_eq_false_iff_ne, Bool.not_eq_true', Bool.not_eq_false', decide_eq_true_eq, decide_eq_false_iff_not] at hc); (try replace hc := eq_true (show (_ : ByteArray) = _ from hc)); (try (exfalso; first | omega | exact hc trivial | exact hc))) | refine And.intro (show okTr _ _ = true by kernel_rfl) ?_ | refine And.intro ?_ ?_ | refine stp_guard ?_ ?_ | refine stq_guard ?_ ?_ | refine dwp_seq ?_ | refine dwp_block ?_ | ((first | refine dwp_region ?_ | refine dwp_any ?_ | refine dwp_skip ?_ | refine dwp_exit ?_ | refine dwp_ret ?_ | refine dwp_if ?_ | skip); (simp only [go_sem, beq_true, beq_false, Bool.true_beq, Bool.false_beq, Bool.bne_true, Bool.bne_false, Bool.true_bne, Bool.false_bne, Option.isSome_none, ne_eq, Int.cast_ofNat_Int, ↓reduceIte, reduceCtorEq, Nat.reduceBEq, Nat.reduceEqDiff, Nat.reduceLT, Nat.reduceLeDiff, Nat.reduceAdd, Nat.reduceMul, Nat.reducePow, Nat.reduceSub, Int.reduceEq, Int.reduceLT, Int.reduceLE, Int.reduceToNat, Int.reduceMul, Int.reduceNeg, Int.reduceAdd, Int.reduceSub, *]; try simp (disch := (first | omega | (simp only [ByteArray.size_append, bs_size, lit_size, cut_size, List.length_append, List.length_cons, List.length_nil]; omega))) only [sls2S, sls_lS, sls_hS, bop_sadd, List.length_drop, List.length_take, List.length_append, ite_ok, w_i64, w_u64, w_u8, w_u32, w_u16, w_i32, room_le, tm_nn, td_nn, nsucc, apSK_ok])) | simp (disch := (first | omega | (simp only [ByteArray.size_append, bs_size, lit_size, cut_size, List.length_append, List.length_cons, List.length_nil]; omega))) only [sls2S, sls_lS, sls_hS, bop_sadd, List.length_drop, List.length_take, List.length_append, ite_ok, w_i64, w_u64, w_u8, w_u32, w_u16, w_i32, room_le, tm_nn, td_nn, nsucc, apSK_ok])
        all_goals exact ⟨_, rfl⟩
      · replace h0 := eq_false h0
        repeat' (first | (intro hc; (try simp only [bne_eq_false_iff_eq, bne_iff_ne, beq_iff_eq, beq_eq_false_iff_ne, Bool.not_eq_true', Bool.not_eq_false', decide_eq_true_eq, decide_eq_false_iff_not] at hc); (try replace hc := eq_true (show (_ : ByteArray) = _ from hc)); (try (exfalso; first | omega | exact hc trivial | exact hc))) | refine And.intro (show okTr _ _ = true by kernel_rfl) ?_ | refine And.intro ?_ ?_ | refine stp_guard ?_ ?_ | refine stq_guard ?_ ?_ | refine dwp_seq ?_ | refine dwp_block ?_ | ((first | refine dwp_region ?_ | refine dwp_any ?_ | refine dwp_skip ?_ | refine dwp_exit ?_ | refine dwp_ret ?_ | refine dwp_if ?_ | skip); (simp only [go_sem, beq_true, beq_false, Bool.true_beq, Bool.false_beq, Bool.bne_true, Bool.bne_false, Bool.true_bne, Bool.false_bne, Option.isSome_none, ne_eq, Int.cast_ofNat_Int, ↓reduceIte, reduceCtorEq, Nat.reduceBEq, Nat.reduceEqDiff, Nat.reduceLT, Nat.reduceLeDiff, Nat.reduceAdd, Nat.reduceMul, Nat.reducePow, Nat.reduceSub, Int.reduceEq, Int.reduceLT, Int.reduceLE, Int.reduceToNat, Int.reduceMul, Int.reduceNeg, Int.reduceAdd, Int.reduceSub, *]; try simp (disch := (first | omega | (simp only [ByteArray.size_append, bs_size, lit_size, cut_size, List.length_append, List.length_cons, List.length_nil]; omega))) only [sls2S, sls_lS, sls_hS, bop_sadd, List.length_drop, List.length_take, List.length_append, ite_ok, w_i64, w_u64, w_u8, w_u32, w_u16, w_i32, room_le, tm_nn, td_nn, nsucc, apSK_ok])) | simp (disch := (first | omega | (simp only [ByteArray.size_append, bs_size, lit_size, cut_size, List.length_append, List.length_cons, List.length_nil]; omega))) only [sls2S, sls_lS, sls_hS, bop_sadd, List.length_drop, List.length_take, List.length_append, ite_ok, w_i64, w_u64, w_u8, w_u32, w_u16, w_i32, room_le, tm_nn, td_nn, nsucc, apSK_ok])
        all_goals exact ⟨_, rfl⟩
  obtain ⟨r, h1, b, rfl⟩ := key
  rw [h1]
  unfold nmB
  rw [h1]
  cases b <;> simp
def tokC (k : Int) (t : List UInt8) (a : Nat) : List D := [.v (.int .u8 k), .v (.string (bs t)), .v (.int .i64 (a : Int))]
def numOk (l : List UInt8) : Bool := match Lib.parseIntB 64 l with
  | .ok _ => true
  | _ => false
noncomputable def pkF (l : List UInt8) : Int := if isWord (bs l) = true then 1 else if nmB (bs l) = true then 2 else 3
noncomputable def peF (l : List UInt8) : Int := if isWord (bs l) = true then 0 else if nmB (bs l) = true then 0 else if isDigs (bs l) = true then (if numOk l = true then 0 else 5) else 11
end Go.Proofs.YtcdeidljcmlfdaaDoor
