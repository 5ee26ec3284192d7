/- Lexing: words, names, numbers (the session's own words). -/
import Derived.Test.YtcdeidljcmlfdaaDoorXa
namespace Go.Proofs.YtcdeidljcmlfdaaDoor
open Go Go.Eng Go.Proofs
set_option linter.unusedVariables false
set_option linter.unusedSimpArgs false
set_option maxRecDepth 100000
set_option maxHeartbeats 8000000
theorem run_ascii {c : UInt8} (h : isRun c = true) : c.toNat < 128 := by
  unfold isRun at h
  simp only [Bool.or_eq_true, Bool.and_eq_true, decide_eq_true_eq, beq_iff_eq, UInt8.le_iff_toNat_le] at h
  rcases h with ((h | h) | h) | h
  · exact Nat.lt_of_le_of_lt h.2 (by decide)
  · exact Nat.lt_of_le_of_lt h.2 (by decide)
  · exact Nat.lt_of_le_of_lt h.2 (by decide)
  · subst h; decide
theorem bop_nili (n : Nat) : bop Tryd.prog .neq 64 (.tmp n) (.const .nilIface) .nilIface .nilIface = some (.bool false) := by
  have h1 : pureRun Tryd.prog (eqGuard .neq 64 (.tmp n) (.const .nilIface) .nilIface .nilIface) = some () := by simp [eqGuard, pureRun, pure]
  unfold bop
  rw [pureRun_bind, h1, Option.bind_some]
  show pureRun Tryd.prog (Op.equal 64 .nilIface .nilIface >>= fun r => pure (Value.bool !r)) = _
  kernel_rfl
attribute [go_sem] bop_nili
theorem plainX (l : List UInt8) (hr : l.all isRun = true) (h1 : 1 ≤ l.length) (hs : l.length ≤ 5000) : FF 23 [.v (.string (bs l))] = some (if peF l = 0 then .tup [.agg (tokC (pkF l) l 0), .v (.int .i64 0)] else .tup [.agg (tokC 0 [] 0), .v (.int .i64 (peF l))]) := by
  have hw : FF 11 [.v (.string (bs l))] = some (.v (.bool (isWord (bs l)))) := FF_prim rfl
  have hn := nameX (bs l) hs
  have hd : FF 32 [.v (.string (bs l))] = some (.v (.bool (isDigs (bs l)))) := by
    refine FF_prim ?_
    show pDigits [.v (.string (bs l))] [] = _
    unfold pDigits
    simp only
    rw [if_pos ⟨List.all_eq_true.2 fun c hc => decide_eq_true (run_ascii (List.all_eq_true.1 hr c hc)), h1, hs⟩]
  have hz : tokC 0 [] 0 = [.v (.int .u8 0), .v (.string ⟨#[]⟩), .v (.int .i64 0)] := rfl
  have hc : ∀ k, tokC k l 0 = [.v (.int .u8 k), .v (.string (bs l)), .v (.int .i64 0)] := fun k => rfl
  unfold peF pkF
  by_cases b1 : isWord (bs l) = true
  · rw [if_pos b1, if_pos rfl, if_pos b1, hc]
    rw [b1] at hw
    clear hd hn hz hc
    refine FF_val Tryd.func23 rfl rfl ?_
    simp only [Tryd.ntmps23, Tryd.results23]
    repeat' (first | (intro hc; (try simp only [bne_eq_false_iff_eq, bne_iff_ne, beq_iff_eq, beq_eq_false_iff_ne, Bool.not_eq_true', Bool.not_eq_false', decide_eq_true_eq, decide_eq_false_iff_not] at hc); (try replace hc := eq_true (show (_ : ByteArray) = _ from hc)); (try (exfalso; first | omega | exact hc trivial | exact hc))) | refine And.intro (show okTr _ _ = true by kernel_rfl) ?_ | refine And.intro ?_ ?_ | refine stp_guard ?_ ?_ | refine stq_guard ?_ ?_ | refine dwp_seq ?_ | refine dwp_block ?_ | ((first | refine dwp_region ?_ | refine dwp_any ?_ | refine dwp_skip ?_ | refine dwp_exit ?_ | refine dwp_ret ?_ | refine dwp_if ?_ | skip); (simp only [go_sem, beq_true, beq_false, Bool.true_beq, Bool.false_beq, Bool.bne_true, Bool.bne_false, Bool.true_bne, Bool.false_bne, Option.isSome_none, ne_eq, Int.cast_ofNat_Int, ↓reduceIte, reduceCtorEq, Nat.reduceBEq, Nat.reduceEqDiff, Nat.reduceLT, Nat.reduceLeDiff, Nat.reduceAdd, Nat.reduceMul, Nat.reducePow, Nat.reduceSub, Int.reduceEq, Int.reduceLT, Int.reduceLE, Int.reduceToNat, Int.reduceMul, Int.reduceNeg, Int.reduceAdd, Int.reduceSub, *]; try simp (disch := (first | omega | (simp only [ByteArray.size_append, bs_size, lit_size, cut_size, List.length_append, List.length_cons, List.length_nil]; omega))) only [sls2S, sls_lS, sls_hS, bop_sadd, List.length_drop, List.length_take, List.length_append, ite_ok, w_i64, w_u64, w_u8, w_u32, w_u16, w_i32, room_le, tm_nn, td_nn, nsucc, apSK_ok])) | simp (disch := (first | omega | (simp only [ByteArray.size_append, bs_size, lit_size, cut_size, List.length_append, List.length_cons, List.length_nil]; omega))) only [sls2S, sls_lS, sls_hS, bop_sadd, List.length_drop, List.length_take, List.length_append, ite_ok, w_i64, w_u64, w_u8, w_u32, w_u16, w_i32, room_le, tm_nn, td_nn, nsucc, apSK_ok])
  rw [if_neg b1, if_neg b1]
  have b1 : isWord (bs l) = false := by simpa using b1
  rw [b1] at hw
  by_cases b2 : nmB (bs l) = true
  · rw [if_pos b2, if_pos rfl, if_pos b2, hc]
    rw [b2] at hn
    clear hd hz hc
    refine FF_val Tryd.func23 rfl rfl ?_
    simp only [Tryd.ntmps23, Tryd.results23]
    repeat' (first | (intro hc; (try simp only [bne_eq_false_iff_eq, bne_iff_ne, beq_iff_eq, beq_eq_false_iff_ne, Bool.not_eq_true', Bool.not_eq_false', decide_eq_true_eq, decide_eq_false_iff_not] at hc); (try replace hc := eq_true (show (_ : ByteArray) = _ from hc)); (try (exfalso; first | omega | exact hc trivial | exact hc))) | refine And.intro (show okTr _ _ = true by kernel_rfl) ?_ | refine And.intro ?_ ?_ | refine stp_guard ?_ ?_ | refine stq_guard ?_ ?_ | refine dwp_seq ?_ | refine dwp_block ?_ | ((first | refine dwp_region ?_ | refine dwp_any ?_ | refine dwp_skip ?_ | refine dwp_exit ?_ | refine dwp_ret ?_ | refine dwp_if ?_ | skip); (simp only [go_sem, beq_true, beq_false, Bool.true_beq, Bool.false_beq, Bool.bne_true, Bool.bne_false, Bool.true_bne, Bool.false_bne, Option.isSome_none, ne_eq, Int.cast_ofNat_Int, ↓reduceIte, reduceCtorEq, Nat.reduceBEq, Nat.reduceEqDiff, Nat.reduceLT, Nat.reduceLeDiff, Nat.reduceAdd, Nat.reduceMul, Nat.reducePow, Nat.reduceSub, Int.reduceEq, Int.reduceLT, Int.reduceLE, Int.reduceToNat, Int.reduceMul, Int.reduceNeg, Int.reduceAdd, Int.reduceSub, *]; try simp (disch := (first | omega | (simp only [ByteArray.size_append, bs_size, lit_size, cut_size, List.length_append, List.length_cons, List.length_nil]; omega))) only [sls2S, sls_lS, sls_hS, bop_sadd, List.length_drop, List.length_take, List.length_append, ite_ok, w_i64, w_u64, w_u8, w_u32, w_u16, w_i32, room_le, tm_nn, td_nn, nsucc, apSK_ok])) | simp (disch := (first | omega | (simp only [ByteArray.size_append, bs_size, lit_size, cut_size, List.length_append, List.length_cons, List.length_nil]; omega))) only [sls2S, sls_lS, sls_hS, bop_sadd, List.length_drop, List.length_take, List.length_append, ite_ok, w_i64, w_u64, w_u8, w_u32, w_u16, w_i32, room_le, tm_nn, td_nn, nsucc, apSK_ok])
  rw [if_neg b2, if_neg b2]
  have b2 : nmB (bs l) = false := by simpa using b2
  rw [b2] at hn
  by_cases b3 : isDigs (bs l) = true
  · rw [if_pos b3]
    rw [b3] at hd
    have hp : FF 33 [.v (.string (bs l)), .v (.int .i64 10), .v (.int .i64 64)] = (match Lib.parseIntB 64 l with
      | .ok v => some (.tup [.v (.int .i64 v), .v .nilIface])
      | .range => some (.tup [.v (.int .i64 (Lib.intSat 64 l)), .nn])
      | _ => some (.tup [.v (.int .i64 0), .nn])) := by
      have hpp : pParseInt [.v (.string (bs l)), .v (.int .i64 10), .v (.int .i64 64)] [] = (match Lib.parseIntB 64 l with
        | .ok v => some (.tup [.v (.int .i64 v), .v .nilIface], [])
        | .range => some (.tup [.v (.int .i64 (Lib.intSat 64 l)), .nn], [])
        | _ => some (.tup [.v (.int .i64 0), .nn], [])) := by
        show (if (bs l).size ≤ 281474976710656 then _ else _) = _
        rw [if_pos (by rw [bs_size]; omega)]
        rfl
      cases hq : Lib.parseIntB 64 l with
      | ok v => rw [hq] at hpp; exact FF_prim hpp
      | range => rw [hq] at hpp; exact FF_prim hpp
      | _ => rw [hq] at hpp; exact FF_prim hpp
    by_cases b4 : numOk l = true
    · rw [if_pos b4, if_pos rfl, hc]
      unfold numOk at b4
      split at b4
      · rename_i v hq
        rw [hq] at hp
        clear hz hc
        refine FF_val Tryd.func23 rfl rfl ?_
        simp only [Tryd.ntmps23, Tryd.results23]
        repeat' (first | (intro hc; (try simp only [bne_eq_false_iff_eq, bne_iff_ne, beq_iff_eq, beq_eq_false_iff_ne, Bool.not_eq_true', Bool.not_eq_false', decide_eq_true_eq, decide_eq_false_iff_not] at hc); (try replace hc := eq_true (show (_ : ByteArray) = _ from hc)); (try (exfalso; first | omega | exact hc trivial | exact hc))) | refine And.intro (show okTr _ _ = true by kernel_rfl) ?_ | refine And.intro ?_ ?_ | refine stp_guard ?_ ?_ | refine stq_guard ?_ ?_ | refine dwp_seq ?_ | refine dwp_block ?_ | ((first | refine dwp_region ?_ | refine dwp_any ?_ | refine dwp_skip ?_ | refine dwp_exit ?_ | refine dwp_ret ?_ | refine dwp_if ?_ | skip); (simp only [go_sem, beq_true, beq_false, Bool.true_beq, Bool.false_beq, Bool.bne_true, Bool.bne_false, Bool.true_bne, Bool.false_bne, Option.isSome_none, ne_eq, Int.cast_ofNat_Int, ↓reduceIte, reduceCtorEq, Nat.reduceBEq, Nat.reduceEqDiff, Nat.reduceLT, Nat.reduceLeDiff, Nat.reduceAdd, Nat.reduceMul, Nat.reducePow, Nat.reduceSub, Int.reduceEq, Int.reduceLT, Int.reduceLE, Int.reduceToNat, Int.reduceMul, Int.reduceNeg, Int.reduceAdd, Int.reduceSub, *]; try simp (disch := (first | omega | (simp only [ByteArray.size_append, bs_size, lit_size, cut_size, List.length_append, List.length_cons, List.length_nil]; omega))) only [sls2S, sls_lS, sls_hS, bop_sadd, List.length_drop, List.length_take, List.length_append, ite_ok, w_i64, w_u64, w_u8, w_u32, w_u16, w_i32, room_le, tm_nn, td_nn, nsucc, apSK_ok])) | simp (disch := (first | omega | (simp only [ByteArray.size_append, bs_size, lit_size, cut_size, List.length_append, List.length_cons, List.length_nil]; omega))) only [sls2S, sls_lS, sls_hS, bop_sadd, List.length_drop, List.length_take, List.length_append, ite_ok, w_i64, w_u64, w_u8, w_u32, w_u16, w_i32, room_le, tm_nn, td_nn, nsucc, apSK_ok])
      · cases b4
    · rw [if_neg b4, if_neg (by decide), hz]
      obtain ⟨n, hn'⟩ : ∃ n, FF 33 [.v (.string (bs l)), .v (.int .i64 10), .v (.int .i64 64)] = some (.tup [.v (.int .i64 n), .nn]) := by
        rw [hp]
        unfold numOk at b4
        cases hq : Lib.parseIntB 64 l with
        | ok v => rw [hq] at b4; exact absurd rfl b4
        | range => exact ⟨_, rfl⟩
        | _ => exact ⟨_, rfl⟩
      clear hz hc hp
      refine FF_val Tryd.func23 rfl rfl ?_
      simp only [Tryd.ntmps23, Tryd.results23]
      repeat' (first | (intro hc; (try simp only [bne_eq_false_iff_eq, bne_iff_ne, beq_iff_eq, beq_eq_false_iff_ne, Bool.not_eq_true', Bool.not_eq_false', decide_eq_true_eq, decide_eq_false_iff_not] at hc); (try replace hc := eq_true (show (_ : ByteArray) = _ from hc)); (try (exfalso; first | omega | exact hc trivial | exact hc))) | refine And.intro (show okTr _ _ = true by kernel_rfl) ?_ | refine And.intro ?_ ?_ | refine stp_guard ?_ ?_ | refine stq_guard ?_ ?_ | refine dwp_seq ?_ | refine dwp_block ?_ | ((first | refine dwp_region ?_ | refine dwp_any ?_ | refine dwp_skip ?_ | refine dwp_exit ?_ | refine dwp_ret ?_ | refine dwp_if ?_ | skip); (simp only [go_sem, beq_true, beq_false, Bool.true_beq, Bool.false_beq, Bool.bne_true, Bool.bne_false, Bool.true_bne, Bool.false_bne, Option.isSome_none, ne_eq, Int.cast_ofNat_Int, ↓reduceIte, reduceCtorEq, Nat.reduceBEq, Nat.reduceEqDiff, Nat.reduceLT, Nat.reduceLeDiff, Nat.reduceAdd, Nat.reduceMul, Nat.reducePow, Nat.reduceSub, Int.reduceEq, Int.reduceLT, Int.reduceLE, Int.reduceToNat, Int.reduceMul, Int.reduceNeg, Int.reduceAdd, Int.reduceSub, *]; try simp (disch := (first | omega | (simp only [ByteArray.size_append, bs_size, lit_size, cut_size, List.length_append, List.length_cons, List.length_nil]; omega))) only [sls2S, sls_lS, sls_hS, bop_sadd, List.length_drop, List.length_take, List.length_append, ite_ok, w_i64, w_u64, w_u8, w_u32, w_u16, w_i32, room_le, tm_nn, td_nn, nsucc, apSK_ok])) | simp (disch := (first | omega | (simp only [ByteArray.size_append, bs_size, lit_size, cut_size, List.length_append, List.length_cons, List.length_nil]; omega))) only [sls2S, sls_lS, sls_hS, bop_sadd, List.length_drop, List.length_take, List.length_append, ite_ok, w_i64, w_u64, w_u8, w_u32, w_u16, w_i32, room_le, tm_nn, td_nn, nsucc, apSK_ok])
  · rw [if_neg b3, if_neg (by decide), hz]
    have b3 : isDigs (bs l) = false := by simpa using b3
    rw [b3] at hd
    clear hz hc
    refine FF_val Tryd.func23 rfl rfl ?_
    simp only [Tryd.ntmps23, Tryd.results23]
    repeat' (first | (intro hc; (try simp only [bne_eq_false_iff_eq, bne_iff_ne, beq_iff_eq, beq_eq_false_iff_ne, Bool.not_eq_true', Bool.not_eq_false', decide_eq_true_eq, decide_eq_false_iff_not] at hc); (try replace hc := eq_true (show (_ : ByteArray) = _ from hc)); (try (exfalso; first | omega | exact hc trivial | exact hc))) | refine And.intro (show okTr _ _ = true by kernel_rfl) ?_ | refine And.intro ?_ ?_ | refine stp_guard ?_ ?_ | refine stq_guard ?_ ?_ | refine dwp_seq ?_ | refine dwp_block ?_ | ((first | refine dwp_region ?_ | refine dwp_any ?_ | refine dwp_skip ?_ | refine dwp_exit ?_ | refine dwp_ret ?_ | refine dwp_if ?_ | skip); (simp only [go_sem, beq_true, beq_false, Bool.true_beq, Bool.false_beq, Bool.bne_true, Bool.bne_false, Bool.true_bne, Bool.false_bne, Option.isSome_none, ne_eq, Int.cast_ofNat_Int, ↓reduceIte, reduceCtorEq, Nat.reduceBEq, Nat.reduceEqDiff, Nat.reduceLT, Nat.reduceLeDiff, Nat.reduceAdd, Nat.reduceMul, Nat.reducePow, Nat.reduceSub, Int.reduceEq, Int.reduceLT, Int.reduceLE, Int.reduceToNat, Int.reduceMul, Int.reduceNeg, Int.reduceAdd, Int.reduceSub, *]; try simp (disch := (first | omega | (simp only [ByteArray.size_append, bs_size, lit_size, cut_size, List.length_append, List.length_cons, List.length_nil]; omega))) only [sls2S, sls_lS, sls_hS, bop_sadd, List.length_drop, List.length_take, List.length_append, ite_ok, w_i64, w_u64, w_u8, w_u32, w_u16, w_i32, room_le, tm_nn, td_nn, nsucc, apSK_ok])) | simp (disch := (first | omega | (simp only [ByteArray.size_append, bs_size, lit_size, cut_size, List.length_append, List.length_cons, List.length_nil]; omega))) only [sls2S, sls_lS, sls_hS, bop_sadd, List.length_drop, List.length_take, List.length_append, ite_ok, w_i64, w_u64, w_u8, w_u32, w_u16, w_i32, room_le, tm_nn, td_nn, nsucc, apSK_ok])
end Go.Proofs.YtcdeidljcmlfdaaDoor
