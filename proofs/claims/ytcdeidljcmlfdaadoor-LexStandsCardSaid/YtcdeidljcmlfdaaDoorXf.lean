/- Lexing: the token at the front (the session's own words). -/
import Derived.Test.YtcdeidljcmlfdaaDoorXb
import Derived.Test.YtcdeidljcmlfdaaDoorXe
namespace Go.Proofs.YtcdeidljcmlfdaaDoor
open Go Go.Eng Go.Proofs
set_option linter.unusedVariables false
set_option linter.unusedSimpArgs false
set_option maxRecDepth 100000
set_option maxHeartbeats 8000000
/-- what a function gives that reads a token -/
def NxR (x : Nx) (r : D) : Prop := ∃ k t n, r = .tup [.agg (tokC k t 0), .v (.int .i64 n), .v (.int .i64 x.e)] ∧ (x.e = 0 → k = x.k ∧ t = x.t ∧ n = (x.n : Int))
theorem run_at : ∀ (l : List UInt8) (i : Nat) (c : UInt8), l[i]? = some c → i < (l.takeWhile isRun).length → isRun c = true
  | [], i, c, h, _ => by simp at h
  | x :: l, i, c, h, hi => by
    by_cases hx : isRun x = true
    · rw [List.takeWhile_cons_of_pos hx] at hi
      cases i with
      | zero => simp at h; subst h; exact hx
      | succ i => exact run_at l i c (by simpa using h) (by simpa using hi)
    · rw [List.takeWhile_cons_of_neg hx] at hi
      simp at hi
theorem run_stop : ∀ (l : List UInt8) (c : UInt8), l[(l.takeWhile isRun).length]? = some c → isRun c = false
  | [], c, h => by simp at h
  | x :: l, c, h => by
    by_cases hx : isRun x = true
    · rw [List.takeWhile_cons_of_pos hx] at h
      exact run_stop l c (by simpa using h)
    · rw [List.takeWhile_cons_of_neg hx] at h
      simp at h
      subst h
      simpa using hx
def sgNx (c : UInt8) : List UInt8 → Nx
  | d :: _ => if isTwo c d = true then ⟨5, [c, d], 2, 0⟩ else if isSg c = true then ⟨5, [c], 1, 0⟩ else ⟨0, [], 0, 11⟩
  | [] => if isSg c = true then ⟨5, [c], 1, 0⟩ else ⟨0, [], 0, 11⟩
theorem nextX (c : UInt8) (r : List UInt8) (hl : (c :: r).length ≤ 5000) : ∃ d, FF 14 [.v (.string (bs (c :: r)))] = some d ∧ NxR (nxt pkF peF (c :: r)) d := by
  have hls : (bs (c :: r)).size = r.length + 1 := rfl
  have hix : inx Tryd.prog 9 (.string (bs (c :: r))) (.int .i64 0) = some (.int .u8 (c.toNat : Int)) := by
    have := inx_str Tryd.underlying9 .i64 (bs (c :: r)) 0 (by rw [bs_size]; simp)
    rw [show ((0 : Nat) : Int) = 0 from rfl] at this
    rw [this]
    rfl
  by_cases h39 : c = 39
  · subst h39
    replace hix : inx Tryd.prog 9 (.string (bs (39 :: r))) (.int .i64 0) = some (.int .u8 39) := hix
    have ht := textX (39 :: r) (by simp) hl
    rw [show (39 :: r).drop 1 = r from rfl] at ht
    have hx : nxt pkF peF (39 :: r) = (match quo r with
      | none => ⟨4, [], 0, 11⟩
      | some (t, n) => if 48 < t.length then ⟨4, [], 0, 4⟩ else ⟨4, t, n + 1, 0⟩) := by
      simp only [nxt, if_true]
      cases quo r <;> rfl
    rw [hx]
    cases hq : quo r with
    | none =>
      rw [hq] at ht
      simp only [quoD] at ht
      refine ⟨_, ?_, 4, [], 0, rfl, fun h => absurd h (by decide)⟩
      clear hx hq
      generalize bs (39 :: r) = s at *
      show FF 14 [.v (.string s)] = some (.tup [.agg [.v (.int .u8 4), .v (.string ⟨#[]⟩), .v (.int .i64 0)], .v (.int .i64 0), .v (.int .i64 11)])
      refine FF_val Tryd.func14 rfl rfl ?_
      simp only [Tryd.ntmps14, Tryd.results14]
      repeat' (first | (intro hc; (try simp only [bne_eq_false_iff_eq, bne_iff_ne, beq_iff_eq, beq_eq_false_iff_ne, Bool.not_eq_true', Bool.not_eq_false', decide_eq_true_eq, decide_eq_false_iff_not] at hc); (try replace hc := eq_true (show (_ : ByteArray) = _ from hc)); (try (exfalso; first | omega | exact hc trivial | exact hc))) | refine And.intro (show okTr _ _ = true by kernel_rfl) ?_ | refine And.intro ?_ ?_ | refine stp_guard ?_ ?_ | refine stq_guard ?_ ?_ | refine dwp_seq ?_ | refine dwp_block ?_ | ((first | refine dwp_region ?_ | refine dwp_any ?_ | refine dwp_skip ?_ | refine dwp_exit ?_ | refine dwp_ret ?_ | refine dwp_if ?_ | skip); (simp only [go_sem, beq_true, beq_false, Bool.true_beq, Bool.false_beq, Bool.bne_true, Bool.bne_false, Bool.true_bne, Bool.false_bne, Option.isSome_none, ne_eq, Int.cast_ofNat_Int, ↓reduceIte, reduceCtorEq, Nat.reduceBEq, Nat.reduceEqDiff, Nat.reduceLT, Nat.reduceLeDiff, Nat.reduceAdd, Nat.reduceMul, Nat.reducePow, Nat.reduceSub, Int.reduceEq, Int.reduceLT, Int.reduceLE, Int.reduceToNat, Int.reduceMul, Int.reduceNeg, Int.reduceAdd, Int.reduceSub, *]; try simp (disch := (first | omega | (simp only [ByteArray.size_append, bs_size, lit_size, cut_size, List.length_append, List.length_cons, List.length_nil]; omega))) only [sls2S, sls_lS, sls_hS, bop_sadd, List.length_drop, List.length_take, List.length_append, ite_ok, w_i64, w_u64, w_u8, w_u32, w_u16, w_i32, room_le, tm_nn, td_nn, nsucc, apSK_ok])) | simp (disch := (first | omega | (simp only [ByteArray.size_append, bs_size, lit_size, cut_size, List.length_append, List.length_cons, List.length_nil]; omega))) only [sls2S, sls_lS, sls_hS, bop_sadd, List.length_drop, List.length_take, List.length_append, ite_ok, w_i64, w_u64, w_u8, w_u32, w_u16, w_i32, room_le, tm_nn, td_nn, nsucc, apSK_ok])
    | some p =>
      obtain ⟨t, n⟩ := p
      rw [hq] at ht
      simp only [quoD] at ht
      clear hx hq
      by_cases h48 : 48 < t.length
      · rw [if_pos h48] at ht
        simp only [if_pos h48]
        refine ⟨_, ?_, 4, [], 0, rfl, fun h => absurd h (by decide)⟩
        generalize bs (39 :: r) = s at *
        show FF 14 [.v (.string s)] = some (.tup [.agg [.v (.int .u8 4), .v (.string ⟨#[]⟩), .v (.int .i64 0)], .v (.int .i64 0), .v (.int .i64 4)])
        refine FF_val Tryd.func14 rfl rfl ?_
        simp only [Tryd.ntmps14, Tryd.results14]
        repeat' (first | (intro hc; (try simp only [bne_eq_false_iff_eq, bne_iff_ne, beq_iff_eq, beq_eq_false_iff_ne, Bool.not_eq_true', Bool.not_eq_false', decide_eq_true_eq, decide_eq_false_iff_not] at hc); (try replace hc := eq_true (show (_ : ByteArray) = _ from hc)); (try (exfalso; first | omega | exact hc trivial | exact hc))) | refine And.intro (show okTr _ _ = true by kernel_rfl) ?_ | refine And.intro ?_ ?_ | refine stp_guard ?_ ?_ | refine stq_guard ?_ ?_ | refine dwp_seq ?_ | refine dwp_block ?_ | ((first | refine dwp_region ?_ | refine dwp_any ?_ | refine dwp_skip ?_ | refine dwp_exit ?_ | refine dwp_ret ?_ | refine dwp_if ?_ | skip); (simp only [go_sem, beq_true, beq_false, Bool.true_beq, Bool.false_beq, Bool.bne_true, Bool.bne_false, Bool.true_bne, Bool.false_bne, Option.isSome_none, ne_eq, Int.cast_ofNat_Int, ↓reduceIte, reduceCtorEq, Nat.reduceBEq, Nat.reduceEqDiff, Nat.reduceLT, Nat.reduceLeDiff, Nat.reduceAdd, Nat.reduceMul, Nat.reducePow, Nat.reduceSub, Int.reduceEq, Int.reduceLT, Int.reduceLE, Int.reduceToNat, Int.reduceMul, Int.reduceNeg, Int.reduceAdd, Int.reduceSub, *]; try simp (disch := (first | omega | (simp only [ByteArray.size_append, bs_size, lit_size, cut_size, List.length_append, List.length_cons, List.length_nil]; omega))) only [sls2S, sls_lS, sls_hS, bop_sadd, List.length_drop, List.length_take, List.length_append, ite_ok, w_i64, w_u64, w_u8, w_u32, w_u16, w_i32, room_le, tm_nn, td_nn, nsucc, apSK_ok])) | simp (disch := (first | omega | (simp only [ByteArray.size_append, bs_size, lit_size, cut_size, List.length_append, List.length_cons, List.length_nil]; omega))) only [sls2S, sls_lS, sls_hS, bop_sadd, List.length_drop, List.length_take, List.length_append, ite_ok, w_i64, w_u64, w_u8, w_u32, w_u16, w_i32, room_le, tm_nn, td_nn, nsucc, apSK_ok])
      · rw [if_neg h48] at ht
        simp only [if_neg h48]
        refine ⟨_, ?_, 4, t, ((n + 1 : Nat) : Int), rfl, fun _ => ⟨rfl, rfl, rfl⟩⟩
        generalize bs (39 :: r) = s at *
        show FF 14 [.v (.string s)] = some (.tup [.agg [.v (.int .u8 4), .v (.string (bs t)), .v (.int .i64 0)], .v (.int .i64 ((n + 1 : Nat) : Int)), .v (.int .i64 0)])
        refine FF_val Tryd.func14 rfl rfl ?_
        simp only [Tryd.ntmps14, Tryd.results14]
        repeat' (first | (intro hc; (try simp only [bne_eq_false_iff_eq, bne_iff_ne, beq_iff_eq, beq_eq_false_iff_ne, Bool.not_eq_true', Bool.not_eq_false', decide_eq_true_eq, decide_eq_false_iff_not] at hc); (try replace hc := eq_true (show (_ : ByteArray) = _ from hc)); (try (exfalso; first | omega | exact hc trivial | exact hc))) | refine And.intro (show okTr _ _ = true by kernel_rfl) ?_ | refine And.intro ?_ ?_ | refine stp_guard ?_ ?_ | refine stq_guard ?_ ?_ | refine dwp_seq ?_ | refine dwp_block ?_ | ((first | refine dwp_region ?_ | refine dwp_any ?_ | refine dwp_skip ?_ | refine dwp_exit ?_ | refine dwp_ret ?_ | refine dwp_if ?_ | skip); (simp only [go_sem, beq_true, beq_false, Bool.true_beq, Bool.false_beq, Bool.bne_true, Bool.bne_false, Bool.true_bne, Bool.false_bne, Option.isSome_none, ne_eq, Int.cast_ofNat_Int, ↓reduceIte, reduceCtorEq, Nat.reduceBEq, Nat.reduceEqDiff, Nat.reduceLT, Nat.reduceLeDiff, Nat.reduceAdd, Nat.reduceMul, Nat.reducePow, Nat.reduceSub, Int.reduceEq, Int.reduceLT, Int.reduceLE, Int.reduceToNat, Int.reduceMul, Int.reduceNeg, Int.reduceAdd, Int.reduceSub, *]; try simp (disch := (first | omega | (simp only [ByteArray.size_append, bs_size, lit_size, cut_size, List.length_append, List.length_cons, List.length_nil]; omega))) only [sls2S, sls_lS, sls_hS, bop_sadd, List.length_drop, List.length_take, List.length_append, ite_ok, w_i64, w_u64, w_u8, w_u32, w_u16, w_i32, room_le, tm_nn, td_nn, nsucc, apSK_ok])) | simp (disch := (first | omega | (simp only [ByteArray.size_append, bs_size, lit_size, cut_size, List.length_append, List.length_cons, List.length_nil]; omega))) only [sls2S, sls_lS, sls_hS, bop_sadd, List.length_drop, List.length_take, List.length_append, ite_ok, w_i64, w_u64, w_u8, w_u32, w_u16, w_i32, room_le, tm_nn, td_nn, nsucc, apSK_ok])
  have hc39 : ¬ (c.toNat : Int) = 39 := fun e => h39 (UInt8.toNat_inj.1 (by show c.toNat = 39; omega))
  obtain ⟨m, hm⟩ : ∃ m, ((c :: r).takeWhile isRun).length = m := ⟨_, rfl⟩
  have hml : m ≤ (c :: r).length := by rw [← hm]; exact (List.takeWhile_sublist isRun).length_le
  have htk : (c :: r).take m = (c :: r).takeWhile isRun := by rw [← hm]; exact take_run _
  have hrun : ∀ (i : Nat) (x : UInt8), (c :: r)[i]? = some x → i < m → FF 22 [.v (.int .u8 (bt (bs (c :: r)) i))] = some (.v (.bool true)) := fun i x hx hi => by
    rw [bt_bs _ _ _ hx, ← run_at (c :: r) i x hx (by rw [hm]; exact hi)]
    exact runX x
  have hend : ∀ (x : UInt8), (c :: r)[m]? = some x → FF 22 [.v (.int .u8 (bt (bs (c :: r)) m))] = some (.v (.bool false)) := fun x hx => by
    rw [bt_bs _ _ _ hx, ← run_stop (c :: r) x (by rw [hm]; exact hx)]
    exact runX x
  have hll : (c :: r).length = r.length + 1 := rfl
  by_cases hr : isRun c = true
  · obtain ⟨k, hk⟩ : ∃ k, m = k + 1 := by
      rw [List.takeWhile_cons_of_pos hr, List.length_cons] at hm
      exact ⟨_, hm.symm⟩
    have hx : nxt pkF peF (c :: r) = ⟨pkF ((c :: r).takeWhile isRun), (c :: r).takeWhile isRun, m, peF ((c :: r).takeWhile isRun)⟩ := by
      rw [← hm]
      simp only [nxt, if_neg h39, if_pos hr]
    rw [hx]
    have hp := plainX ((c :: r).takeWhile isRun) (List.all_takeWhile) (by rw [hm]; omega) (by rw [hm]; omega)
    have hcut : cut (bs (c :: r)) 0 m = bs ((c :: r).takeWhile isRun) := by rw [cut_bs, htk]; rfl
    clear hx htk hm
    generalize (c :: r).takeWhile isRun = T at *
    obtain ⟨k1, t1, e1, hp1, hp2⟩ : ∃ k1 t1 e1, FF 23 [.v (.string (bs T))] = some (.tup [.agg [.v (.int .u8 k1), .v (.string (bs t1)), .v (.int .i64 0)], .v (.int .i64 e1)]) ∧ e1 = peF T ∧ (e1 = 0 → k1 = pkF T ∧ t1 = T) := by
      by_cases he : peF T = 0
      · rw [if_pos he] at hp
        exact ⟨_, _, _, hp, he.symm, fun _ => ⟨rfl, rfl⟩⟩
      · rw [if_neg he] at hp
        exact ⟨_, _, _, hp, rfl, fun h => absurd h he⟩
    obtain ⟨rfl, hp2⟩ := hp2
    have hm0 : 0 < m := by omega
    replace hk : Hid (m = k + 1) := hk
    have hin : ∀ i, i < (c :: r).length → inx Tryd.prog 9 (.string (bs (c :: r))) (.int .i64 (i : Int)) = some (.int .u8 (bt (bs (c :: r)) i)) := fun i hi => inx_str Tryd.underlying9 .i64 (bs (c :: r)) i (by rw [bs_size]; exact hi)
    refine ⟨.tup [.agg [.v (.int .u8 k1), .v (.string (bs t1)), .v (.int .i64 0)], .v (.int .i64 m), .v (.int .i64 (peF T))], ?_, k1, t1, m, rfl, fun h => ⟨(hp2 h).1, (hp2 h).2, rfl⟩⟩
    clear hp hp2
    generalize peF T = e1 at *
    generalize hS : bs (c :: r) = s at *
    refine FF_val Tryd.func14 rfl rfl ?_
    simp only [Tryd.ntmps14, Tryd.results14]
    repeat' (first | (intro hc; (try simp only [bne_eq_false_iff_eq, bne_iff_ne, beq_iff_eq, beq_eq_false_iff_ne, Bool.not_eq_true', Bool.not_eq_false', decide_eq_true_eq, decide_eq_false_iff_not] at hc); (try replace hc := eq_true (show (_ : ByteArray) = _ from hc)); (try (exfalso; first | omega | exact hc trivial | exact hc))) | refine And.intro (show okTr _ _ = true by kernel_rfl) ?_ | refine And.intro ?_ ?_ | refine stp_guard ?_ ?_ | refine stq_guard ?_ ?_ | refine dwp_seq ?_ | refine dwp_block ?_ | ((first | refine dwp_region ?_ | refine dwp_any ?_ | refine dwp_skip ?_ | refine dwp_exit ?_ | refine dwp_ret ?_ | refine dwp_if ?_ | skip); (simp only [go_sem, beq_true, beq_false, Bool.true_beq, Bool.false_beq, Bool.bne_true, Bool.bne_false, Bool.true_bne, Bool.false_bne, Option.isSome_none, ne_eq, Int.cast_ofNat_Int, ↓reduceIte, reduceCtorEq, Nat.reduceBEq, Nat.reduceEqDiff, Nat.reduceLT, Nat.reduceLeDiff, Nat.reduceAdd, Nat.reduceMul, Nat.reducePow, Nat.reduceSub, Int.reduceEq, Int.reduceLT, Int.reduceLE, Int.reduceToNat, Int.reduceMul, Int.reduceNeg, Int.reduceAdd, Int.reduceSub, *]; try simp (disch := (first | omega | (simp only [ByteArray.size_append, bs_size, lit_size, cut_size, List.length_append, List.length_cons, List.length_nil]; omega))) only [sls2S, sls_lS, sls_hS, bop_sadd, List.length_drop, List.length_take, List.length_append, ite_ok, w_i64, w_u64, w_u8, w_u32, w_u16, w_i32, room_le, tm_nn, td_nn, nsucc, apSK_ok])) | simp (disch := (first | omega | (simp only [ByteArray.size_append, bs_size, lit_size, cut_size, List.length_append, List.length_cons, List.length_nil]; omega))) only [sls2S, sls_lS, sls_hS, bop_sadd, List.length_drop, List.length_take, List.length_append, ite_ok, w_i64, w_u64, w_u8, w_u32, w_u16, w_i32, room_le, tm_nn, td_nn, nsucc, apSK_ok])
    refine dwp_indL [0, 2, 3, 4] [2] (fun n f g => ∃ i : Nat, n = m - i ∧ i ≤ m ∧ f 8 = .v (.int .i64 i)) _ ⟨0, rfl, Nat.zero_le _, ?_⟩ ?_
    · simp only [go_sem, beq_true, beq_false, Bool.true_beq, Bool.false_beq, Bool.bne_true, Bool.bne_false, Bool.true_bne, Bool.false_bne, Option.isSome_none, ne_eq, Int.cast_ofNat_Int, ↓reduceIte, reduceCtorEq, Nat.reduceBEq, Nat.reduceEqDiff, Nat.reduceLT, Nat.reduceLeDiff, Nat.reduceAdd, Nat.reduceMul, Nat.reducePow, Nat.reduceSub, Int.reduceEq, Int.reduceLT, Int.reduceLE, Int.reduceToNat, Int.reduceMul, Int.reduceNeg, Int.reduceAdd, Int.reduceSub]
      try exact rfl
    rintro n f g hL hG ⟨i, hn, hi, hf8⟩ ih2
    (simp only [sameOn_cons, sameOn_one, sameOn_nil] at hL hG; (try simp only [go_sem, beq_true, beq_false, Bool.true_beq, Bool.false_beq, Bool.bne_true, Bool.bne_false, Bool.true_bne, Bool.false_bne, Option.isSome_none, ne_eq, Int.cast_ofNat_Int, ↓reduceIte, reduceCtorEq, Nat.reduceBEq, Nat.reduceEqDiff, Nat.reduceLT, Nat.reduceLeDiff, Nat.reduceAdd, Nat.reduceMul, Nat.reducePow, Nat.reduceSub, Int.reduceEq, Int.reduceLT, Int.reduceLE, Int.reduceToNat, Int.reduceMul, Int.reduceNeg, Int.reduceAdd, Int.reduceSub] at hL); (try simp only [go_sem, beq_true, beq_false, Bool.true_beq, Bool.false_beq, Bool.bne_true, Bool.bne_false, Bool.true_bne, Bool.false_bne, Option.isSome_none, ne_eq, Int.cast_ofNat_Int, ↓reduceIte, reduceCtorEq, Nat.reduceBEq, Nat.reduceEqDiff, Nat.reduceLT, Nat.reduceLeDiff, Nat.reduceAdd, Nat.reduceMul, Nat.reducePow, Nat.reduceSub, Int.reduceEq, Int.reduceLT, Int.reduceLE, Int.reduceToNat, Int.reduceMul, Int.reduceNeg, Int.reduceAdd, Int.reduceSub] at hG))
    rcases Nat.lt_or_ge i m with him | him
    · have hri := hrun i _ (List.getElem?_eq_getElem (show i < (c :: r).length by omega)) him
      have hii := hin i (by omega)
      clear hrun hend hix hin
      generalize hbt : bt s i = x at *
      replace hbt : Hid (_ = _) := hbt
      repeat' (first | (intro hc; (try simp only [bne_eq_false_iff_eq, bne_iff_ne, beq_iff_eq, beq_eq_false_iff_ne, Bool.not_eq_true', Bool.not_eq_false', decide_eq_true_eq, decide_eq_false_iff_not] at hc); (try replace hc := eq_true (show (_ : ByteArray) = _ from hc)); (try (exfalso; first | omega | exact hc trivial | exact hc))) | refine And.intro (show okTr _ _ = true by kernel_rfl) ?_ | refine And.intro ?_ ?_ | refine stp_guard ?_ ?_ | refine stq_guard ?_ ?_ | refine dwp_seq ?_ | refine dwp_block ?_ | ((first | refine dwp_region ?_ | refine dwp_any ?_ | refine dwp_skip ?_ | refine dwp_exit ?_ | refine dwp_ret ?_ | refine dwp_if ?_ | skip); (simp only [go_sem, beq_true, beq_false, Bool.true_beq, Bool.false_beq, Bool.bne_true, Bool.bne_false, Bool.true_bne, Bool.false_bne, Option.isSome_none, ne_eq, Int.cast_ofNat_Int, ↓reduceIte, reduceCtorEq, Nat.reduceBEq, Nat.reduceEqDiff, Nat.reduceLT, Nat.reduceLeDiff, Nat.reduceAdd, Nat.reduceMul, Nat.reducePow, Nat.reduceSub, Int.reduceEq, Int.reduceLT, Int.reduceLE, Int.reduceToNat, Int.reduceMul, Int.reduceNeg, Int.reduceAdd, Int.reduceSub, *]; try simp (disch := (first | omega | (simp only [ByteArray.size_append, bs_size, lit_size, cut_size, List.length_append, List.length_cons, List.length_nil]; omega))) only [sls2S, sls_lS, sls_hS, bop_sadd, List.length_drop, List.length_take, List.length_append, ite_ok, w_i64, w_u64, w_u8, w_u32, w_u16, w_i32, room_le, tm_nn, td_nn, nsucc, apSK_ok])) | simp (disch := (first | omega | (simp only [ByteArray.size_append, bs_size, lit_size, cut_size, List.length_append, List.length_cons, List.length_nil]; omega))) only [sls2S, sls_lS, sls_hS, bop_sadd, List.length_drop, List.length_take, List.length_append, ite_ok, w_i64, w_u64, w_u8, w_u32, w_u16, w_i32, room_le, tm_nn, td_nn, nsucc, apSK_ok])
      refine ih2 _ _ _ ?_ ?_ ?_ ⟨i + 1, rfl, by omega, ?_⟩
      · omega
      · (simp only [sameOn_cons, sameOn_one, sameOn_nil]; (try simp only [go_sem, beq_true, beq_false, Bool.true_beq, Bool.false_beq, Bool.bne_true, Bool.bne_false, Bool.true_bne, Bool.false_bne, Option.isSome_none, ne_eq, Int.cast_ofNat_Int, ↓reduceIte, reduceCtorEq, Nat.reduceBEq, Nat.reduceEqDiff, Nat.reduceLT, Nat.reduceLeDiff, Nat.reduceAdd, Nat.reduceMul, Nat.reducePow, Nat.reduceSub, Int.reduceEq, Int.reduceLT, Int.reduceLE, Int.reduceToNat, Int.reduceMul, Int.reduceNeg, Int.reduceAdd, Int.reduceSub, *]); (try trivial))
      · (simp only [sameOn_cons, sameOn_one, sameOn_nil]; (try simp only [go_sem, beq_true, beq_false, Bool.true_beq, Bool.false_beq, Bool.bne_true, Bool.bne_false, Bool.true_bne, Bool.false_bne, Option.isSome_none, ne_eq, Int.cast_ofNat_Int, ↓reduceIte, reduceCtorEq, Nat.reduceBEq, Nat.reduceEqDiff, Nat.reduceLT, Nat.reduceLeDiff, Nat.reduceAdd, Nat.reduceMul, Nat.reducePow, Nat.reduceSub, Int.reduceEq, Int.reduceLT, Int.reduceLE, Int.reduceToNat, Int.reduceMul, Int.reduceNeg, Int.reduceAdd, Int.reduceSub, *]); (try trivial))
      · simp only [go_sem, beq_true, beq_false, Bool.true_beq, Bool.false_beq, Bool.bne_true, Bool.bne_false, Bool.true_bne, Bool.false_bne, Option.isSome_none, ne_eq, Int.cast_ofNat_Int, ↓reduceIte, reduceCtorEq, Nat.reduceBEq, Nat.reduceEqDiff, Nat.reduceLT, Nat.reduceLeDiff, Nat.reduceAdd, Nat.reduceMul, Nat.reducePow, Nat.reduceSub, Int.reduceEq, Int.reduceLT, Int.reduceLE, Int.reduceToNat, Int.reduceMul, Int.reduceNeg, Int.reduceAdd, Int.reduceSub]
        try omega
    · obtain rfl : i = m := by omega
      rcases Nat.lt_or_ge i (c :: r).length with hie | hie
      · have hre := hend _ (List.getElem?_eq_getElem hie)
        have hii := hin i hie
        clear hrun hend hix hin
        have him' : i < r.length + 1 := hie
        generalize hbt : bt s i = x at *
        replace hbt : Hid (_ = _) := hbt
        repeat' (first | (intro hc; (try simp only [bne_eq_false_iff_eq, bne_iff_ne, beq_iff_eq, beq_eq_false_iff_ne, Bool.not_eq_true', Bool.not_eq_false', decide_eq_true_eq, decide_eq_false_iff_not] at hc); (try replace hc := eq_true (show (_ : ByteArray) = _ from hc)); (try (exfalso; first | omega | exact hc trivial | exact hc))) | refine And.intro (show okTr _ _ = true by kernel_rfl) ?_ | refine And.intro ?_ ?_ | refine stp_guard ?_ ?_ | refine stq_guard ?_ ?_ | refine dwp_seq ?_ | refine dwp_block ?_ | ((first | refine dwp_region ?_ | refine dwp_any ?_ | refine dwp_skip ?_ | refine dwp_exit ?_ | refine dwp_ret ?_ | refine dwp_if ?_ | skip); (simp only [go_sem, beq_true, beq_false, Bool.true_beq, Bool.false_beq, Bool.bne_true, Bool.bne_false, Bool.true_bne, Bool.false_bne, Option.isSome_none, ne_eq, Int.cast_ofNat_Int, ↓reduceIte, reduceCtorEq, Nat.reduceBEq, Nat.reduceEqDiff, Nat.reduceLT, Nat.reduceLeDiff, Nat.reduceAdd, Nat.reduceMul, Nat.reducePow, Nat.reduceSub, Int.reduceEq, Int.reduceLT, Int.reduceLE, Int.reduceToNat, Int.reduceMul, Int.reduceNeg, Int.reduceAdd, Int.reduceSub, Int.toNat_natCast, *]; try simp (disch := (first | omega | (simp only [ByteArray.size_append, bs_size, lit_size, cut_size, List.length_append, List.length_cons, List.length_nil]; omega))) only [sls2S, sls_lS, sls_hS, bop_sadd, List.length_drop, List.length_take, List.length_append, ite_ok, w_i64, w_u64, w_u8, w_u32, w_u16, w_i32, room_le, tm_nn, td_nn, nsucc, apSK_ok])) | simp (disch := (first | omega | (simp only [ByteArray.size_append, bs_size, lit_size, cut_size, List.length_append, List.length_cons, List.length_nil]; omega))) only [sls2S, sls_lS, sls_hS, bop_sadd, List.length_drop, List.length_take, List.length_append, ite_ok, w_i64, w_u64, w_u8, w_u32, w_u16, w_i32, room_le, tm_nn, td_nn, nsucc, apSK_ok])
      · clear hrun hend hix hin
        have him' : i = r.length + 1 := by omega
        have hnn : ¬ ((i : Int) < ((r.length + 1 : Nat) : Int)) := by omega
        replace him' : Hid (_ = _) := him'
        repeat' (first | (intro hc; (try simp only [bne_eq_false_iff_eq, bne_iff_ne, beq_iff_eq, beq_eq_false_iff_ne, Bool.not_eq_true', Bool.not_eq_false', decide_eq_true_eq, decide_eq_false_iff_not] at hc); (try replace hc := eq_true (show (_ : ByteArray) = _ from hc)); (try (exfalso; first | omega | exact hc trivial | exact hc))) | refine And.intro (show okTr _ _ = true by kernel_rfl) ?_ | refine And.intro ?_ ?_ | refine stp_guard ?_ ?_ | refine stq_guard ?_ ?_ | refine dwp_seq ?_ | refine dwp_block ?_ | ((first | refine dwp_region ?_ | refine dwp_any ?_ | refine dwp_skip ?_ | refine dwp_exit ?_ | refine dwp_ret ?_ | refine dwp_if ?_ | skip); (simp only [go_sem, beq_true, beq_false, Bool.true_beq, Bool.false_beq, Bool.bne_true, Bool.bne_false, Bool.true_bne, Bool.false_bne, Option.isSome_none, ne_eq, Int.cast_ofNat_Int, ↓reduceIte, reduceCtorEq, Nat.reduceBEq, Nat.reduceEqDiff, Nat.reduceLT, Nat.reduceLeDiff, Nat.reduceAdd, Nat.reduceMul, Nat.reducePow, Nat.reduceSub, Int.reduceEq, Int.reduceLT, Int.reduceLE, Int.reduceToNat, Int.reduceMul, Int.reduceNeg, Int.reduceAdd, Int.reduceSub, Int.toNat_natCast, *]; try simp (disch := (first | omega | (simp only [ByteArray.size_append, bs_size, lit_size, cut_size, List.length_append, List.length_cons, List.length_nil]; omega))) only [sls2S, sls_lS, sls_hS, bop_sadd, List.length_drop, List.length_take, List.length_append, ite_ok, w_i64, w_u64, w_u8, w_u32, w_u16, w_i32, room_le, tm_nn, td_nn, nsucc, apSK_ok])) | simp (disch := (first | omega | (simp only [ByteArray.size_append, bs_size, lit_size, cut_size, List.length_append, List.length_cons, List.length_nil]; omega))) only [sls2S, sls_lS, sls_hS, bop_sadd, List.length_drop, List.length_take, List.length_append, ite_ok, w_i64, w_u64, w_u8, w_u32, w_u16, w_i32, room_le, tm_nn, td_nn, nsucc, apSK_ok])
  · have hm0 : m = 0 := by
      rw [List.takeWhile_cons_of_neg hr] at hm
      exact hm.symm
    subst hm0
    have hre := runX c
    rw [show isRun c = false by simpa using hr] at hre
    have hsg := signX (c :: r) (by simp) hl
    have hx : nxt pkF peF (c :: r) = sgNx c r := by
      simp only [nxt, if_neg h39, if_neg hr]
      cases r <;> rfl
    rw [hx]
    have hls' : 0 < r.length + 1 := by omega
    clear hx htk hm hrun hend hml
    have go : ∀ t : List UInt8, t.length ≤ 2 → FF 24 [.v (.string (bs (c :: r)))] = some (.tup [.v (.string (bs t)), .v (.bool true)]) → FF 14 [.v (.string (bs (c :: r)))] = some (.tup [.agg (tokC 5 t 0), .v (.int .i64 ((t.length : Nat) : Int)), .v (.int .i64 0)]) := fun t htl hs => by
      have hz : (bs t).size = t.length := rfl
      clear hsg
      rw [show tokC 5 t 0 = [.v (.int .u8 5), .v (.string (bs t)), .v (.int .i64 0)] from rfl]
      generalize bs (c :: r) = s at *
      refine FF_val Tryd.func14 rfl rfl ?_
      simp only [Tryd.ntmps14, Tryd.results14]
      repeat' (first | (intro hc; (try simp only [bne_eq_false_iff_eq, bne_iff_ne, beq_iff_eq, beq_eq_false_iff_ne, Bool.not_eq_true', Bool.not_eq_false', decide_eq_true_eq, decide_eq_false_iff_not] at hc); (try replace hc := eq_true (show (_ : ByteArray) = _ from hc)); (try (exfalso; first | omega | exact hc trivial | exact hc))) | refine And.intro (show okTr _ _ = true by kernel_rfl) ?_ | refine And.intro ?_ ?_ | refine stp_guard ?_ ?_ | refine stq_guard ?_ ?_ | refine dwp_seq ?_ | refine dwp_block ?_ | ((first | refine dwp_region ?_ | refine dwp_any ?_ | refine dwp_skip ?_ | refine dwp_exit ?_ | refine dwp_ret ?_ | refine dwp_if ?_ | skip); (simp only [go_sem, beq_true, beq_false, Bool.true_beq, Bool.false_beq, Bool.bne_true, Bool.bne_false, Bool.true_bne, Bool.false_bne, Option.isSome_none, ne_eq, Int.cast_ofNat_Int, ↓reduceIte, reduceCtorEq, Nat.reduceBEq, Nat.reduceEqDiff, Nat.reduceLT, Nat.reduceLeDiff, Nat.reduceAdd, Nat.reduceMul, Nat.reducePow, Nat.reduceSub, Int.reduceEq, Int.reduceLT, Int.reduceLE, Int.reduceToNat, Int.reduceMul, Int.reduceNeg, Int.reduceAdd, Int.reduceSub, *]; try simp (disch := (first | omega | (simp only [ByteArray.size_append, bs_size, lit_size, cut_size, List.length_append, List.length_cons, List.length_nil]; omega))) only [sls2S, sls_lS, sls_hS, bop_sadd, List.length_drop, List.length_take, List.length_append, ite_ok, w_i64, w_u64, w_u8, w_u32, w_u16, w_i32, room_le, tm_nn, td_nn, nsucc, apSK_ok])) | simp (disch := (first | omega | (simp only [ByteArray.size_append, bs_size, lit_size, cut_size, List.length_append, List.length_cons, List.length_nil]; omega))) only [sls2S, sls_lS, sls_hS, bop_sadd, List.length_drop, List.length_take, List.length_append, ite_ok, w_i64, w_u64, w_u8, w_u32, w_u16, w_i32, room_le, tm_nn, td_nn, nsucc, apSK_ok])
      iterate 1 (refine dwp_loop ?_; repeat' (first | (intro hc; (try simp only [bne_eq_false_iff_eq, bne_iff_ne, beq_iff_eq, beq_eq_false_iff_ne, Bool.not_eq_true', Bool.not_eq_false', decide_eq_true_eq, decide_eq_false_iff_not] at hc); (try replace hc := eq_true (show (_ : ByteArray) = _ from hc)); (try (exfalso; first | omega | exact hc trivial | exact hc))) | refine And.intro (show okTr _ _ = true by kernel_rfl) ?_ | refine And.intro ?_ ?_ | refine stp_guard ?_ ?_ | refine stq_guard ?_ ?_ | refine dwp_seq ?_ | refine dwp_block ?_ | ((first | refine dwp_region ?_ | refine dwp_any ?_ | refine dwp_skip ?_ | refine dwp_exit ?_ | refine dwp_ret ?_ | refine dwp_if ?_ | skip); (simp only [go_sem, beq_true, beq_false, Bool.true_beq, Bool.false_beq, Bool.bne_true, Bool.bne_false, Bool.true_bne, Bool.false_bne, Option.isSome_none, ne_eq, Int.cast_ofNat_Int, ↓reduceIte, reduceCtorEq, Nat.reduceBEq, Nat.reduceEqDiff, Nat.reduceLT, Nat.reduceLeDiff, Nat.reduceAdd, Nat.reduceMul, Nat.reducePow, Nat.reduceSub, Int.reduceEq, Int.reduceLT, Int.reduceLE, Int.reduceToNat, Int.reduceMul, Int.reduceNeg, Int.reduceAdd, Int.reduceSub, *]; try simp (disch := (first | omega | (simp only [ByteArray.size_append, bs_size, lit_size, cut_size, List.length_append, List.length_cons, List.length_nil]; omega))) only [sls2S, sls_lS, sls_hS, bop_sadd, List.length_drop, List.length_take, List.length_append, ite_ok, w_i64, w_u64, w_u8, w_u32, w_u16, w_i32, room_le, tm_nn, td_nn, nsucc, apSK_ok])) | simp (disch := (first | omega | (simp only [ByteArray.size_append, bs_size, lit_size, cut_size, List.length_append, List.length_cons, List.length_nil]; omega))) only [sls2S, sls_lS, sls_hS, bop_sadd, List.length_drop, List.length_take, List.length_append, ite_ok, w_i64, w_u64, w_u8, w_u32, w_u16, w_i32, room_le, tm_nn, td_nn, nsucc, apSK_ok]))
    have no : FF 24 [.v (.string (bs (c :: r)))] = some (.tup [.v (.string ⟨#[]⟩), .v (.bool false)]) → FF 14 [.v (.string (bs (c :: r)))] = some (.tup [.agg (tokC 0 [] 0), .v (.int .i64 0), .v (.int .i64 11)]) := fun hs => by
      clear hsg go
      rw [show tokC 0 [] 0 = [.v (.int .u8 0), .v (.string ⟨#[]⟩), .v (.int .i64 0)] from rfl]
      generalize bs (c :: r) = s at *
      refine FF_val Tryd.func14 rfl rfl ?_
      simp only [Tryd.ntmps14, Tryd.results14]
      repeat' (first | (intro hc; (try simp only [bne_eq_false_iff_eq, bne_iff_ne, beq_iff_eq, beq_eq_false_iff_ne, Bool.not_eq_true', Bool.not_eq_false', decide_eq_true_eq, decide_eq_false_iff_not] at hc); (try replace hc := eq_true (show (_ : ByteArray) = _ from hc)); (try (exfalso; first | omega | exact hc trivial | exact hc))) | refine And.intro (show okTr _ _ = true by kernel_rfl) ?_ | refine And.intro ?_ ?_ | refine stp_guard ?_ ?_ | refine stq_guard ?_ ?_ | refine dwp_seq ?_ | refine dwp_block ?_ | ((first | refine dwp_region ?_ | refine dwp_any ?_ | refine dwp_skip ?_ | refine dwp_exit ?_ | refine dwp_ret ?_ | refine dwp_if ?_ | skip); (simp only [go_sem, beq_true, beq_false, Bool.true_beq, Bool.false_beq, Bool.bne_true, Bool.bne_false, Bool.true_bne, Bool.false_bne, Option.isSome_none, ne_eq, Int.cast_ofNat_Int, ↓reduceIte, reduceCtorEq, Nat.reduceBEq, Nat.reduceEqDiff, Nat.reduceLT, Nat.reduceLeDiff, Nat.reduceAdd, Nat.reduceMul, Nat.reducePow, Nat.reduceSub, Int.reduceEq, Int.reduceLT, Int.reduceLE, Int.reduceToNat, Int.reduceMul, Int.reduceNeg, Int.reduceAdd, Int.reduceSub, *]; try simp (disch := (first | omega | (simp only [ByteArray.size_append, bs_size, lit_size, cut_size, List.length_append, List.length_cons, List.length_nil]; omega))) only [sls2S, sls_lS, sls_hS, bop_sadd, List.length_drop, List.length_take, List.length_append, ite_ok, w_i64, w_u64, w_u8, w_u32, w_u16, w_i32, room_le, tm_nn, td_nn, nsucc, apSK_ok])) | simp (disch := (first | omega | (simp only [ByteArray.size_append, bs_size, lit_size, cut_size, List.length_append, List.length_cons, List.length_nil]; omega))) only [sls2S, sls_lS, sls_hS, bop_sadd, List.length_drop, List.length_take, List.length_append, ite_ok, w_i64, w_u64, w_u8, w_u32, w_u16, w_i32, room_le, tm_nn, td_nn, nsucc, apSK_ok])
      iterate 1 (refine dwp_loop ?_; repeat' (first | (intro hc; (try simp only [bne_eq_false_iff_eq, bne_iff_ne, beq_iff_eq, beq_eq_false_iff_ne, Bool.not_eq_true', Bool.not_eq_false', decide_eq_true_eq, decide_eq_false_iff_not] at hc); (try replace hc := eq_true (show (_ : ByteArray) = _ from hc)); (try (exfalso; first | omega | exact hc trivial | exact hc))) | refine And.intro (show okTr _ _ = true by kernel_rfl) ?_ | refine And.intro ?_ ?_ | refine stp_guard ?_ ?_ | refine stq_guard ?_ ?_ | refine dwp_seq ?_ | refine dwp_block ?_ | ((first | refine dwp_region ?_ | refine dwp_any ?_ | refine dwp_skip ?_ | refine dwp_exit ?_ | refine dwp_ret ?_ | refine dwp_if ?_ | skip); (simp only [go_sem, beq_true, beq_false, Bool.true_beq, Bool.false_beq, Bool.bne_true, Bool.bne_false, Bool.true_bne, Bool.false_bne, Option.isSome_none, ne_eq, Int.cast_ofNat_Int, ↓reduceIte, reduceCtorEq, Nat.reduceBEq, Nat.reduceEqDiff, Nat.reduceLT, Nat.reduceLeDiff, Nat.reduceAdd, Nat.reduceMul, Nat.reducePow, Nat.reduceSub, Int.reduceEq, Int.reduceLT, Int.reduceLE, Int.reduceToNat, Int.reduceMul, Int.reduceNeg, Int.reduceAdd, Int.reduceSub, *]; try simp (disch := (first | omega | (simp only [ByteArray.size_append, bs_size, lit_size, cut_size, List.length_append, List.length_cons, List.length_nil]; omega))) only [sls2S, sls_lS, sls_hS, bop_sadd, List.length_drop, List.length_take, List.length_append, ite_ok, w_i64, w_u64, w_u8, w_u32, w_u16, w_i32, room_le, tm_nn, td_nn, nsucc, apSK_ok])) | simp (disch := (first | omega | (simp only [ByteArray.size_append, bs_size, lit_size, cut_size, List.length_append, List.length_cons, List.length_nil]; omega))) only [sls2S, sls_lS, sls_hS, bop_sadd, List.length_drop, List.length_take, List.length_append, ite_ok, w_i64, w_u64, w_u8, w_u32, w_u16, w_i32, room_le, tm_nn, td_nn, nsucc, apSK_ok]))
    have bad : FF 24 [.v (.string (bs (c :: r)))] = some (.tup [.v (.string ⟨#[]⟩), .v (.bool false)]) → ∃ d, FF 14 [.v (.string (bs (c :: r)))] = some d ∧ NxR ⟨0, [], 0, 11⟩ d := fun hs => ⟨_, no hs, 0, [], 0, rfl, fun h => absurd h (by decide)⟩
    have good : ∀ t : List UInt8, t.length ≤ 2 → FF 24 [.v (.string (bs (c :: r)))] = some (.tup [.v (.string (bs t)), .v (.bool true)]) → ∃ d, FF 14 [.v (.string (bs (c :: r)))] = some d ∧ NxR ⟨5, t, t.length, 0⟩ d := fun t ht hs => ⟨_, go t ht hs, 5, t, _, rfl, fun _ => ⟨rfl, rfl, rfl⟩⟩
    cases r with
    | nil =>
      simp only [sgD] at hsg
      simp only [sgNx]
      by_cases hs : isSg c = true
      · rw [if_pos hs] at hsg
        rw [if_pos hs]
        exact good [c] (by simp) hsg
      · rw [if_neg hs] at hsg
        rw [if_neg hs]
        exact bad hsg
    | cons d r =>
      simp only [sgD] at hsg
      simp only [sgNx]
      by_cases ht : isTwo c d = true
      · rw [if_pos ht] at hsg
        rw [if_pos ht]
        exact good [c, d] (by simp) hsg
      · rw [if_neg ht] at hsg
        rw [if_neg ht]
        by_cases hs : isSg c = true
        · rw [if_pos hs] at hsg
          rw [if_pos hs]
          exact good [c] (by simp) hsg
        · rw [if_neg hs] at hsg
          rw [if_neg hs]
          exact bad hsg
end Go.Proofs.YtcdeidljcmlfdaaDoor
