/- What the functions make of data: terms, conditions. -/
import Derived.Test.YtjdkcedhmfgmoaaTi
namespace Go.Proofs.Ytjdkcedhmfgmoaa
open Go Go.Eng Go.Proofs
set_option linter.unusedVariables false
set_option linter.unusedSimpArgs false
set_option maxRecDepth 100000
set_option maxHeartbeats 4000000
theorem at30 (rows : List (List Val)) (tb co : Int) (hr0 : rows.length < 2 ^ 62) (hr1 : ∀ r ∈ rows, r.length < 2 ^ 62) : FF 30 [.sl (rows.map rowC), .v (.int .i64 tb), .v (.int .i64 co)] = some (.agg (rsR (atO rows tb co))) := by
  unfold atO
  by_cases t0 : tb < 0
  · rw [if_pos (.inl t0)]
    clear hr1
    refine FF_val Try.func30 rfl rfl ?_
    simp only [Try.ntmps30, Try.results30]
    repeat' (first | (intro hc; (try simp only [bne_eq_false_iff_eq, bne_iff_ne, beq_iff_eq, beq_eq_false_iff_ne, Bool.not_eq_true', Bool.not_eq_false', decide_eq_true_eq, decide_eq_false_iff_not] at hc); (try replace hc := eq_true (show (_ : ByteArray) = _ from hc)); (try (exfalso; first | omega | exact hc trivial | exact hc))) | refine And.intro (show okTr _ _ = true by kernel_rfl) ?_ | refine And.intro ?_ ?_ | refine stp_guard ?_ ?_ | refine stq_guard ?_ ?_ | refine dwp_seq ?_ | refine dwp_block ?_ | ((first | refine dwp_region ?_ | refine dwp_any ?_ | refine dwp_skip ?_ | refine dwp_exit ?_ | refine dwp_ret ?_ | refine dwp_if ?_ | skip); (simp only [go_sem, beq_true, beq_false, Bool.true_beq, Bool.false_beq, Bool.bne_true, Bool.bne_false, Bool.true_bne, Bool.false_bne, Option.isSome_none, ne_eq, Int.cast_ofNat_Int, ↓reduceIte, reduceCtorEq, Nat.reduceBEq, Nat.reduceEqDiff, Nat.reduceLT, Nat.reduceLeDiff, Nat.reduceAdd, Nat.reduceMul, Nat.reducePow, Nat.reduceSub, Int.reduceEq, Int.reduceLT, Int.reduceLE, Int.reduceToNat, Int.reduceMul, Int.reduceNeg, Int.reduceAdd, Int.reduceSub, *]; try simp (disch := omega) only [List.length_drop, List.length_take, List.length_append, ite_ok, w_i64, w_u64, w_u8, w_u32, w_u16, w_i32, room_le, tm_nn, td_nn, nsucc])) | simp (disch := omega) only [List.length_drop, List.length_take, List.length_append, ite_ok, w_i64, w_u64, w_u8, w_u32, w_u16, w_i32, room_le, tm_nn, td_nn, nsucc])
  by_cases c0 : co < 0
  · rw [if_pos (.inr c0)]
    clear hr1
    refine FF_val Try.func30 rfl rfl ?_
    simp only [Try.ntmps30, Try.results30]
    repeat' (first | (intro hc; (try simp only [bne_eq_false_iff_eq, bne_iff_ne, beq_iff_eq, beq_eq_false_iff_ne, Bool.not_eq_true', Bool.not_eq_false', decide_eq_true_eq, decide_eq_false_iff_not] at hc); (try replace hc := eq_true (show (_ : ByteArray) = _ from hc)); (try (exfalso; first | omega | exact hc trivial | exact hc))) | refine And.intro (show okTr _ _ = true by kernel_rfl) ?_ | refine And.intro ?_ ?_ | refine stp_guard ?_ ?_ | refine stq_guard ?_ ?_ | refine dwp_seq ?_ | refine dwp_block ?_ | ((first | refine dwp_region ?_ | refine dwp_any ?_ | refine dwp_skip ?_ | refine dwp_exit ?_ | refine dwp_ret ?_ | refine dwp_if ?_ | skip); (simp only [go_sem, beq_true, beq_false, Bool.true_beq, Bool.false_beq, Bool.bne_true, Bool.bne_false, Bool.true_bne, Bool.false_bne, Option.isSome_none, ne_eq, Int.cast_ofNat_Int, ↓reduceIte, reduceCtorEq, Nat.reduceBEq, Nat.reduceEqDiff, Nat.reduceLT, Nat.reduceLeDiff, Nat.reduceAdd, Nat.reduceMul, Nat.reducePow, Nat.reduceSub, Int.reduceEq, Int.reduceLT, Int.reduceLE, Int.reduceToNat, Int.reduceMul, Int.reduceNeg, Int.reduceAdd, Int.reduceSub, *]; try simp (disch := omega) only [List.length_drop, List.length_take, List.length_append, ite_ok, w_i64, w_u64, w_u8, w_u32, w_u16, w_i32, room_le, tm_nn, td_nn, nsucc])) | simp (disch := omega) only [List.length_drop, List.length_take, List.length_append, ite_ok, w_i64, w_u64, w_u8, w_u32, w_u16, w_i32, room_le, tm_nn, td_nn, nsucc])
  rw [if_neg (by omega)]
  obtain ⟨n, rfl⟩ : ∃ n : Nat, tb = n := ⟨tb.toNat, by omega⟩
  obtain ⟨m, rfl⟩ : ∃ n : Nat, co = n := ⟨co.toNat, by omega⟩
  rw [Int.toNat_natCast, Int.toNat_natCast]
  cases hg : rows[n]? with
  | none =>
    have : ¬ n < rows.length := by have := List.getElem?_eq_none_iff.1 hg; omega
    clear hr1
    rw [Option.bind_none]
    refine FF_val Try.func30 rfl rfl ?_
    simp only [Try.ntmps30, Try.results30]
    repeat' (first | (intro hc; (try simp only [bne_eq_false_iff_eq, bne_iff_ne, beq_iff_eq, beq_eq_false_iff_ne, Bool.not_eq_true', Bool.not_eq_false', decide_eq_true_eq, decide_eq_false_iff_not] at hc); (try replace hc := eq_true (show (_ : ByteArray) = _ from hc)); (try (exfalso; first | omega | exact hc trivial | exact hc))) | refine And.intro (show okTr _ _ = true by kernel_rfl) ?_ | refine And.intro ?_ ?_ | refine stp_guard ?_ ?_ | refine stq_guard ?_ ?_ | refine dwp_seq ?_ | refine dwp_block ?_ | ((first | refine dwp_region ?_ | refine dwp_any ?_ | refine dwp_skip ?_ | refine dwp_exit ?_ | refine dwp_ret ?_ | refine dwp_if ?_ | skip); (simp only [go_sem, beq_true, beq_false, Bool.true_beq, Bool.false_beq, Bool.bne_true, Bool.bne_false, Bool.true_bne, Bool.false_bne, Option.isSome_none, ne_eq, Int.cast_ofNat_Int, ↓reduceIte, reduceCtorEq, Nat.reduceBEq, Nat.reduceEqDiff, Nat.reduceLT, Nat.reduceLeDiff, Nat.reduceAdd, Nat.reduceMul, Nat.reducePow, Nat.reduceSub, Int.reduceEq, Int.reduceLT, Int.reduceLE, Int.reduceToNat, Int.reduceMul, Int.reduceNeg, Int.reduceAdd, Int.reduceSub, *]; try simp (disch := omega) only [List.length_drop, List.length_take, List.length_append, ite_ok, w_i64, w_u64, w_u8, w_u32, w_u16, w_i32, room_le, tm_nn, td_nn, nsucc])) | simp (disch := omega) only [List.length_drop, List.length_take, List.length_append, ite_ok, w_i64, w_u64, w_u8, w_u32, w_u16, w_i32, room_le, tm_nn, td_nn, nsucc])
  | some r =>
    have hlt : n < rows.length := (List.getElem?_eq_some_iff.1 hg).1
    have hrl := hr1 r (List.mem_of_getElem? hg)
    clear hr1
    rw [Option.bind_some]
    cases hg2 : r[m]? with
    | none =>
      have : ¬ m < r.length := by have := List.getElem?_eq_none_iff.1 hg2; omega
      refine FF_val Try.func30 rfl rfl ?_
      simp only [Try.ntmps30, Try.results30]
      repeat' (first | (intro hc; (try simp only [bne_eq_false_iff_eq, bne_iff_ne, beq_iff_eq, beq_eq_false_iff_ne, Bool.not_eq_true', Bool.not_eq_false', decide_eq_true_eq, decide_eq_false_iff_not] at hc); (try replace hc := eq_true (show (_ : ByteArray) = _ from hc)); (try (exfalso; first | omega | exact hc trivial | exact hc))) | refine And.intro (show okTr _ _ = true by kernel_rfl) ?_ | refine And.intro ?_ ?_ | refine stp_guard ?_ ?_ | refine stq_guard ?_ ?_ | refine dwp_seq ?_ | refine dwp_block ?_ | ((first | refine dwp_region ?_ | refine dwp_any ?_ | refine dwp_skip ?_ | refine dwp_exit ?_ | refine dwp_ret ?_ | refine dwp_if ?_ | skip); (simp only [go_sem, beq_true, beq_false, Bool.true_beq, Bool.false_beq, Bool.bne_true, Bool.bne_false, Bool.true_bne, Bool.false_bne, Option.isSome_none, ne_eq, Int.cast_ofNat_Int, ↓reduceIte, reduceCtorEq, Nat.reduceBEq, Nat.reduceEqDiff, Nat.reduceLT, Nat.reduceLeDiff, Nat.reduceAdd, Nat.reduceMul, Nat.reducePow, Nat.reduceSub, Int.reduceEq, Int.reduceLT, Int.reduceLE, Int.reduceToNat, Int.reduceMul, Int.reduceNeg, Int.reduceAdd, Int.reduceSub, *]; try simp (disch := omega) only [List.length_drop, List.length_take, List.length_append, ite_ok, w_i64, w_u64, w_u8, w_u32, w_u16, w_i32, room_le, tm_nn, td_nn, nsucc])) | simp (disch := omega) only [List.length_drop, List.length_take, List.length_append, ite_ok, w_i64, w_u64, w_u8, w_u32, w_u16, w_i32, room_le, tm_nn, td_nn, nsucc])
    | some v =>
      have hlt2 : m < r.length := (List.getElem?_eq_some_iff.1 hg2).1
      refine FF_val Try.func30 rfl rfl ?_
      simp only [Try.ntmps30, Try.results30]
      repeat' (first | (intro hc; (try simp only [bne_eq_false_iff_eq, bne_iff_ne, beq_iff_eq, beq_eq_false_iff_ne, Bool.not_eq_true', Bool.not_eq_false', decide_eq_true_eq, decide_eq_false_iff_not] at hc); (try replace hc := eq_true (show (_ : ByteArray) = _ from hc)); (try (exfalso; first | omega | exact hc trivial | exact hc))) | refine And.intro (show okTr _ _ = true by kernel_rfl) ?_ | refine And.intro ?_ ?_ | refine stp_guard ?_ ?_ | refine stq_guard ?_ ?_ | refine dwp_seq ?_ | refine dwp_block ?_ | ((first | refine dwp_region ?_ | refine dwp_any ?_ | refine dwp_skip ?_ | refine dwp_exit ?_ | refine dwp_ret ?_ | refine dwp_if ?_ | skip); (simp only [go_sem, beq_true, beq_false, Bool.true_beq, Bool.false_beq, Bool.bne_true, Bool.bne_false, Bool.true_bne, Bool.false_bne, Option.isSome_none, ne_eq, Int.cast_ofNat_Int, ↓reduceIte, reduceCtorEq, Nat.reduceBEq, Nat.reduceEqDiff, Nat.reduceLT, Nat.reduceLeDiff, Nat.reduceAdd, Nat.reduceMul, Nat.reducePow, Nat.reduceSub, Int.reduceEq, Int.reduceLT, Int.reduceLE, Int.reduceToNat, Int.reduceMul, Int.reduceNeg, Int.reduceAdd, Int.reduceSub, *]; try simp (disch := omega) only [List.length_drop, List.length_take, List.length_append, ite_ok, w_i64, w_u64, w_u8, w_u32, w_u16, w_i32, room_le, tm_nn, td_nn, nsucc])) | simp (disch := omega) only [List.length_drop, List.length_take, List.length_append, ite_ok, w_i64, w_u64, w_u8, w_u32, w_u16, w_i32, room_le, tm_nn, td_nn, nsucc])
theorem eval14 (rows : List (List Val)) (tot : List Val) (hr : okRows rows) (ht : ∀ v ∈ tot, okV v) (hl : tot.length < 2 ^ 62) : ∀ t, okT t → FF 14 [.agg (tcells t), .sl (rows.map rowC), .sl (tot.map valCells)] = some (.agg (rsR (evalT rows tot t))) := by
  refine Term.ind fun t ih hok => ?_
  have hres := okR_eval hr ht
  have a1 := at30 rows t.tb t.co hr.1 fun r h => (hr.2 r h).1
  have a2 : FF 30 [.sl [[.sl (tot.map valCells)]], .v (.int .i64 0), .v (.int .i64 t.co)] = some (.agg (rsR (atV tot t.co))) := by
    have h := at30 [tot] 0 t.co (by simp) (fun r h => by simp at h; subst h; exact hl)
    have e : atO [tot] 0 t.co = atV tot t.co := by
      unfold atO atV
      by_cases c0 : t.co < 0
      · rw [if_pos (.inr c0), if_pos c0]
      · rw [if_neg (by omega), if_neg c0]; rfl
    rw [e] at h
    exact h
  obtain ⟨_, hv, hn, ha⟩ := hok
  rw [evalT_eq]
  by_cases k1 : t.kind = 1
  · rw [if_pos k1]
    clear hr ht ih ha hres
    refine FF_val Try.func14 rfl rfl ?_
    simp only [Try.ntmps14, Try.results14]
    repeat' (first | (intro hc; (try simp only [bne_eq_false_iff_eq, bne_iff_ne, beq_iff_eq, beq_eq_false_iff_ne, Bool.not_eq_true', Bool.not_eq_false', decide_eq_true_eq, decide_eq_false_iff_not] at hc); (try replace hc := eq_true (show (_ : ByteArray) = _ from hc)); (try (exfalso; first | omega | exact hc trivial | exact hc))) | refine And.intro (show okTr _ _ = true by kernel_rfl) ?_ | refine And.intro ?_ ?_ | refine stp_guard ?_ ?_ | refine stq_guard ?_ ?_ | refine dwp_seq ?_ | refine dwp_block ?_ | ((first | refine dwp_region ?_ | refine dwp_any ?_ | refine dwp_skip ?_ | refine dwp_exit ?_ | refine dwp_ret ?_ | refine dwp_if ?_ | skip); (simp only [go_sem, beq_true, beq_false, Bool.true_beq, Bool.false_beq, Bool.bne_true, Bool.bne_false, Bool.true_bne, Bool.false_bne, Option.isSome_none, ne_eq, Int.cast_ofNat_Int, ↓reduceIte, reduceCtorEq, Nat.reduceBEq, Nat.reduceEqDiff, Nat.reduceLT, Nat.reduceLeDiff, Nat.reduceAdd, Nat.reduceMul, Nat.reducePow, Nat.reduceSub, Int.reduceEq, Int.reduceLT, Int.reduceLE, Int.reduceToNat, Int.reduceMul, Int.reduceNeg, Int.reduceAdd, Int.reduceSub, *]; try simp (disch := omega) only [List.length_drop, List.length_take, List.length_append, ite_ok, w_i64, w_u64, w_u8, w_u32, w_u16, w_i32, room_le, tm_nn, td_nn, nsucc])) | simp (disch := omega) only [List.length_drop, List.length_take, List.length_append, ite_ok, w_i64, w_u64, w_u8, w_u32, w_u16, w_i32, room_le, tm_nn, td_nn, nsucc])
  rw [if_neg k1]
  by_cases k2 : t.kind = 2
  · rw [if_pos k2]
    clear hr ht ih ha hres
    refine FF_val Try.func14 rfl rfl ?_
    simp only [Try.ntmps14, Try.results14]
    repeat' (first | (intro hc; (try simp only [bne_eq_false_iff_eq, bne_iff_ne, beq_iff_eq, beq_eq_false_iff_ne, Bool.not_eq_true', Bool.not_eq_false', decide_eq_true_eq, decide_eq_false_iff_not] at hc); (try replace hc := eq_true (show (_ : ByteArray) = _ from hc)); (try (exfalso; first | omega | exact hc trivial | exact hc))) | refine And.intro (show okTr _ _ = true by kernel_rfl) ?_ | refine And.intro ?_ ?_ | refine stp_guard ?_ ?_ | refine stq_guard ?_ ?_ | refine dwp_seq ?_ | refine dwp_block ?_ | ((first | refine dwp_region ?_ | refine dwp_any ?_ | refine dwp_skip ?_ | refine dwp_exit ?_ | refine dwp_ret ?_ | refine dwp_if ?_ | skip); (simp only [go_sem, beq_true, beq_false, Bool.true_beq, Bool.false_beq, Bool.bne_true, Bool.bne_false, Bool.true_bne, Bool.false_bne, Option.isSome_none, ne_eq, Int.cast_ofNat_Int, ↓reduceIte, reduceCtorEq, Nat.reduceBEq, Nat.reduceEqDiff, Nat.reduceLT, Nat.reduceLeDiff, Nat.reduceAdd, Nat.reduceMul, Nat.reducePow, Nat.reduceSub, Int.reduceEq, Int.reduceLT, Int.reduceLE, Int.reduceToNat, Int.reduceMul, Int.reduceNeg, Int.reduceAdd, Int.reduceSub, *]; try simp (disch := omega) only [List.length_drop, List.length_take, List.length_append, ite_ok, w_i64, w_u64, w_u8, w_u32, w_u16, w_i32, room_le, tm_nn, td_nn, nsucc])) | simp (disch := omega) only [List.length_drop, List.length_take, List.length_append, ite_ok, w_i64, w_u64, w_u8, w_u32, w_u16, w_i32, room_le, tm_nn, td_nn, nsucc])
  rw [if_neg k2]
  by_cases k7 : t.kind = 7
  · rw [if_pos k7]
    clear hr ht ih ha hres
    refine FF_val Try.func14 rfl rfl ?_
    simp only [Try.ntmps14, Try.results14]
    repeat' (first | (intro hc; (try simp only [bne_eq_false_iff_eq, bne_iff_ne, beq_iff_eq, beq_eq_false_iff_ne, Bool.not_eq_true', Bool.not_eq_false', decide_eq_true_eq, decide_eq_false_iff_not] at hc); (try replace hc := eq_true (show (_ : ByteArray) = _ from hc)); (try (exfalso; first | omega | exact hc trivial | exact hc))) | refine And.intro (show okTr _ _ = true by kernel_rfl) ?_ | refine And.intro ?_ ?_ | refine stp_guard ?_ ?_ | refine stq_guard ?_ ?_ | refine dwp_seq ?_ | refine dwp_block ?_ | ((first | refine dwp_region ?_ | refine dwp_any ?_ | refine dwp_skip ?_ | refine dwp_exit ?_ | refine dwp_ret ?_ | refine dwp_if ?_ | skip); (simp only [go_sem, beq_true, beq_false, Bool.true_beq, Bool.false_beq, Bool.bne_true, Bool.bne_false, Bool.true_bne, Bool.false_bne, Option.isSome_none, ne_eq, Int.cast_ofNat_Int, ↓reduceIte, reduceCtorEq, Nat.reduceBEq, Nat.reduceEqDiff, Nat.reduceLT, Nat.reduceLeDiff, Nat.reduceAdd, Nat.reduceMul, Nat.reducePow, Nat.reduceSub, Int.reduceEq, Int.reduceLT, Int.reduceLE, Int.reduceToNat, Int.reduceMul, Int.reduceNeg, Int.reduceAdd, Int.reduceSub, *]; try simp (disch := omega) only [List.length_drop, List.length_take, List.length_append, ite_ok, w_i64, w_u64, w_u8, w_u32, w_u16, w_i32, room_le, tm_nn, td_nn, nsucc])) | simp (disch := omega) only [List.length_drop, List.length_take, List.length_append, ite_ok, w_i64, w_u64, w_u8, w_u32, w_u16, w_i32, room_le, tm_nn, td_nn, nsucc])
  rw [if_neg k7]
  refine FF_val Try.func14 rfl rfl ?_
  simp only [Try.ntmps14, Try.results14]
  repeat' (first | (intro hc; (try simp only [bne_eq_false_iff_eq, bne_iff_ne, beq_iff_eq, beq_eq_false_iff_ne, Bool.not_eq_true', Bool.not_eq_false', decide_eq_true_eq, decide_eq_false_iff_not] at hc); (try replace hc := eq_true (show (_ : ByteArray) = _ from hc)); (try (exfalso; first | omega | exact hc trivial | exact hc))) | refine And.intro (show okTr _ _ = true by kernel_rfl) ?_ | refine And.intro ?_ ?_ | refine stp_guard ?_ ?_ | refine stq_guard ?_ ?_ | refine dwp_seq ?_ | refine dwp_block ?_ | ((first | refine dwp_region ?_ | refine dwp_any ?_ | refine dwp_skip ?_ | refine dwp_exit ?_ | refine dwp_ret ?_ | refine dwp_if ?_ | skip); (simp only [go_sem, beq_true, beq_false, Bool.true_beq, Bool.false_beq, Bool.bne_true, Bool.bne_false, Bool.true_bne, Bool.false_bne, Option.isSome_none, ne_eq, Int.cast_ofNat_Int, ↓reduceIte, reduceCtorEq, Nat.reduceBEq, Nat.reduceEqDiff, Nat.reduceLT, Nat.reduceLeDiff, Nat.reduceAdd, Nat.reduceMul, Nat.reducePow, Nat.reduceSub, Int.reduceEq, Int.reduceLT, Int.reduceLE, Int.reduceToNat, Int.reduceMul, Int.reduceNeg, Int.reduceAdd, Int.reduceSub, *]; try simp (disch := omega) only [List.length_drop, List.length_take, List.length_append, ite_ok, w_i64, w_u64, w_u8, w_u32, w_u16, w_i32, room_le, tm_nn, td_nn, nsucc])) | simp (disch := omega) only [List.length_drop, List.length_take, List.length_append, ite_ok, w_i64, w_u64, w_u8, w_u32, w_u16, w_i32, room_le, tm_nn, td_nn, nsucc])
  refine dwp_ind (fun n f g => ∃ (i : Nat), n = t.args.length - i ∧ i ≤ t.args.length ∧
    f 1 = .sl (rows.map rowC) ∧ f 2 = .sl (tot.map valCells) ∧ f 3 = .bp 3 0 ∧ g 3 = some (tcells t) ∧ f 6 = .bp 6 0 ∧ g 6 = some [.v (.int .u8 0), .v (.int .i64 0), .v (.string ⟨#[]⟩), .v (.bool false)] ∧ f 35 = .v (.int .i64 i) ∧ f 34 = .v (.int .i64 t.args.length) ∧
    f 7 = .own 40 4 (((t.args.take i).map (evalT rows tot)).map rsR)) _ ⟨0, rfl, by omega, ?_⟩ ?_
  · clear hr ht ih ha hres
    simp only [go_sem, beq_true, beq_false, Bool.true_beq, Bool.false_beq, Bool.bne_true, Bool.bne_false, Bool.true_bne, Bool.false_bne, Option.isSome_none, ne_eq, Int.cast_ofNat_Int, ↓reduceIte, reduceCtorEq, Nat.reduceBEq, Nat.reduceEqDiff, Nat.reduceLT, Nat.reduceLeDiff, Nat.reduceAdd, Nat.reduceMul, Nat.reducePow, Nat.reduceSub, Int.reduceEq, Int.reduceLT, Int.reduceLE, Int.reduceToNat, Int.reduceMul, Int.reduceNeg, Int.reduceAdd, Int.reduceSub, *]
  clear a1 a2
  rintro n f g ⟨i, hn1, hi, f1, f2, f3, g3, f6, g6, f35, f34, f7⟩ ih2
  rcases Nat.lt_or_ge i t.args.length with h | h
  · have ga : t.args[i]? = some t.args[i] := List.getElem?_eq_getElem h
    have hm : t.args[i] ∈ t.args := List.getElem_mem h
    have hs : (t.args.take (i + 1)).map (evalT rows tot) = (t.args.take i).map (evalT rows tot) ++ [evalT rows tot t.args[i]] := by rw [List.take_add_one, ga, List.map_append]; rfl
    have hll : ((t.args.take i).map (evalT rows tot)).length = i := by simp; omega
    generalize t.args[i] = b at *
    have h1 := ih b hm (ha b hm)
    clear hr ht ih ha hres hv
    generalize (t.args.take i).map (evalT rows tot) = acc at *
    generalize evalT rows tot b = x at *
    repeat' (first | (intro hc; (try simp only [bne_eq_false_iff_eq, bne_iff_ne, beq_iff_eq, beq_eq_false_iff_ne, Bool.not_eq_true', Bool.not_eq_false', decide_eq_true_eq, decide_eq_false_iff_not] at hc); (try replace hc := eq_true (show (_ : ByteArray) = _ from hc)); (try (exfalso; first | omega | exact hc trivial | exact hc))) | refine And.intro (show okTr _ _ = true by kernel_rfl) ?_ | refine And.intro ?_ ?_ | refine stp_guard ?_ ?_ | refine stq_guard ?_ ?_ | refine dwp_seq ?_ | refine dwp_block ?_ | ((first | refine dwp_region ?_ | refine dwp_any ?_ | refine dwp_skip ?_ | refine dwp_exit ?_ | refine dwp_ret ?_ | refine dwp_if ?_ | skip); (simp only [go_sem, beq_true, beq_false, Bool.true_beq, Bool.false_beq, Bool.bne_true, Bool.bne_false, Bool.true_bne, Bool.false_bne, Option.isSome_none, ne_eq, Int.cast_ofNat_Int, ↓reduceIte, reduceCtorEq, Nat.reduceBEq, Nat.reduceEqDiff, Nat.reduceLT, Nat.reduceLeDiff, Nat.reduceAdd, Nat.reduceMul, Nat.reducePow, Nat.reduceSub, Int.reduceEq, Int.reduceLT, Int.reduceLE, Int.reduceToNat, Int.reduceMul, Int.reduceNeg, Int.reduceAdd, Int.reduceSub, *]; try simp (disch := omega) only [List.length_drop, List.length_take, List.length_append, ite_ok, w_i64, w_u64, w_u8, w_u32, w_u16, w_i32, room_le, tm_nn, td_nn, nsucc])) | simp (disch := omega) only [List.length_drop, List.length_take, List.length_append, ite_ok, w_i64, w_u64, w_u8, w_u32, w_u16, w_i32, room_le, tm_nn, td_nn, nsucc])
    refine ih2 _ _ _ ?_ ⟨i + 1, rfl, by omega, ?_⟩
    · omega
    · simp only [go_sem, beq_true, beq_false, Bool.true_beq, Bool.false_beq, Bool.bne_true, Bool.bne_false, Bool.true_bne, Bool.false_bne, Option.isSome_none, ne_eq, Int.cast_ofNat_Int, ↓reduceIte, reduceCtorEq, Nat.reduceBEq, Nat.reduceEqDiff, Nat.reduceLT, Nat.reduceLeDiff, Nat.reduceAdd, Nat.reduceMul, Nat.reducePow, Nat.reduceSub, Int.reduceEq, Int.reduceLT, Int.reduceLE, Int.reduceToNat, Int.reduceMul, Int.reduceNeg, Int.reduceAdd, Int.reduceSub, *]
      simp
  · obtain rfl : i = t.args.length := by omega
    rw [List.take_length] at f7
    clear ih ih2
    have hargs : ∀ x ∈ t.args.map (evalT rows tot), okR x := fun x hx => by
      obtain ⟨b, hb, rfl⟩ := List.mem_map.1 hx
      exact hres b (ha b hb)
    have hlen : (t.args.map (evalT rows tot)).length ≤ 1000 := by simpa using hn
    generalize t.args.map (evalT rows tot) = l at *
    clear hr ht ha hres hv
    match l with
    | [] =>
      unfold opO
      repeat' (first | (intro hc; (try simp only [bne_eq_false_iff_eq, bne_iff_ne, beq_iff_eq, beq_eq_false_iff_ne, Bool.not_eq_true', Bool.not_eq_false', decide_eq_true_eq, decide_eq_false_iff_not] at hc); (try replace hc := eq_true (show (_ : ByteArray) = _ from hc)); (try (exfalso; first | omega | exact hc trivial | exact hc))) | refine And.intro (show okTr _ _ = true by kernel_rfl) ?_ | refine And.intro ?_ ?_ | refine stp_guard ?_ ?_ | refine stq_guard ?_ ?_ | refine dwp_seq ?_ | refine dwp_block ?_ | ((first | refine dwp_region ?_ | refine dwp_any ?_ | refine dwp_skip ?_ | refine dwp_exit ?_ | refine dwp_ret ?_ | refine dwp_if ?_ | skip); (simp only [go_sem, beq_true, beq_false, Bool.true_beq, Bool.false_beq, Bool.bne_true, Bool.bne_false, Bool.true_bne, Bool.false_bne, Option.isSome_none, ne_eq, Int.cast_ofNat_Int, ↓reduceIte, reduceCtorEq, Nat.reduceBEq, Nat.reduceEqDiff, Nat.reduceLT, Nat.reduceLeDiff, Nat.reduceAdd, Nat.reduceMul, Nat.reducePow, Nat.reduceSub, Int.reduceEq, Int.reduceLT, Int.reduceLE, Int.reduceToNat, Int.reduceMul, Int.reduceNeg, Int.reduceAdd, Int.reduceSub, *]; try simp (disch := omega) only [List.length_drop, List.length_take, List.length_append, ite_ok, w_i64, w_u64, w_u8, w_u32, w_u16, w_i32, room_le, tm_nn, td_nn, nsucc])) | simp (disch := omega) only [List.length_drop, List.length_take, List.length_append, ite_ok, w_i64, w_u64, w_u8, w_u32, w_u16, w_i32, room_le, tm_nn, td_nn, nsucc])
    | [a] =>
      have h1 := one31 t.op a (hargs a (by simp))
      have h2 := in34 a [] t.nt (hargs a (by simp)) (fun b hb => by cases hb) (by decide)
      rw [List.map_nil] at h2
      have h3 := value33' 3
      have h4 := value33' 0
      unfold opO
      clear hargs
      rcases a with _ | v
      · simp only [rsR_none] at *
        repeat' (first | (intro hc; (try simp only [bne_eq_false_iff_eq, bne_iff_ne, beq_iff_eq, beq_eq_false_iff_ne, Bool.not_eq_true', Bool.not_eq_false', decide_eq_true_eq, decide_eq_false_iff_not] at hc); (try replace hc := eq_true (show (_ : ByteArray) = _ from hc)); (try (exfalso; first | omega | exact hc trivial | exact hc))) | refine And.intro (show okTr _ _ = true by kernel_rfl) ?_ | refine And.intro ?_ ?_ | refine stp_guard ?_ ?_ | refine stq_guard ?_ ?_ | refine dwp_seq ?_ | refine dwp_block ?_ | ((first | refine dwp_region ?_ | refine dwp_any ?_ | refine dwp_skip ?_ | refine dwp_exit ?_ | refine dwp_ret ?_ | refine dwp_if ?_ | skip); (simp only [go_sem, beq_true, beq_false, Bool.true_beq, Bool.false_beq, Bool.bne_true, Bool.bne_false, Bool.true_bne, Bool.false_bne, Option.isSome_none, ne_eq, Int.cast_ofNat_Int, ↓reduceIte, reduceCtorEq, Nat.reduceBEq, Nat.reduceEqDiff, Nat.reduceLT, Nat.reduceLeDiff, Nat.reduceAdd, Nat.reduceMul, Nat.reducePow, Nat.reduceSub, Int.reduceEq, Int.reduceLT, Int.reduceLE, Int.reduceToNat, Int.reduceMul, Int.reduceNeg, Int.reduceAdd, Int.reduceSub, *]; try simp (disch := omega) only [List.length_drop, List.length_take, List.length_append, ite_ok, w_i64, w_u64, w_u8, w_u32, w_u16, w_i32, room_le, tm_nn, td_nn, nsucc])) | simp (disch := omega) only [List.length_drop, List.length_take, List.length_append, ite_ok, w_i64, w_u64, w_u8, w_u32, w_u16, w_i32, room_le, tm_nn, td_nn, nsucc])
      · simp only [rsR_some] at *
        repeat' (first | (intro hc; (try simp only [bne_eq_false_iff_eq, bne_iff_ne, beq_iff_eq, beq_eq_false_iff_ne, Bool.not_eq_true', Bool.not_eq_false', decide_eq_true_eq, decide_eq_false_iff_not] at hc); (try replace hc := eq_true (show (_ : ByteArray) = _ from hc)); (try (exfalso; first | omega | exact hc trivial | exact hc))) | refine And.intro (show okTr _ _ = true by kernel_rfl) ?_ | refine And.intro ?_ ?_ | refine stp_guard ?_ ?_ | refine stq_guard ?_ ?_ | refine dwp_seq ?_ | refine dwp_block ?_ | ((first | refine dwp_region ?_ | refine dwp_any ?_ | refine dwp_skip ?_ | refine dwp_exit ?_ | refine dwp_ret ?_ | refine dwp_if ?_ | skip); (simp only [go_sem, beq_true, beq_false, Bool.true_beq, Bool.false_beq, Bool.bne_true, Bool.bne_false, Bool.true_bne, Bool.false_bne, Option.isSome_none, ne_eq, Int.cast_ofNat_Int, ↓reduceIte, reduceCtorEq, Nat.reduceBEq, Nat.reduceEqDiff, Nat.reduceLT, Nat.reduceLeDiff, Nat.reduceAdd, Nat.reduceMul, Nat.reducePow, Nat.reduceSub, Int.reduceEq, Int.reduceLT, Int.reduceLE, Int.reduceToNat, Int.reduceMul, Int.reduceNeg, Int.reduceAdd, Int.reduceSub, *]; try simp (disch := omega) only [List.length_drop, List.length_take, List.length_append, ite_ok, w_i64, w_u64, w_u8, w_u32, w_u16, w_i32, room_le, tm_nn, td_nn, nsucc])) | simp (disch := omega) only [List.length_drop, List.length_take, List.length_append, ite_ok, w_i64, w_u64, w_u8, w_u32, w_u16, w_i32, room_le, tm_nn, td_nn, nsucc])
    | [a, b] =>
      have h1 := two32 t.op a b (hargs a (by simp)) (hargs b (by simp))
      have h2 := in34 a [b] t.nt (hargs a (by simp)) (fun x hx => hargs x (by simp at hx; simp [hx])) (by simp)
      simp only [List.map_cons, List.map_nil] at h2
      unfold opO
      clear hargs
      repeat' (first | (intro hc; (try simp only [bne_eq_false_iff_eq, bne_iff_ne, beq_iff_eq, beq_eq_false_iff_ne, Bool.not_eq_true', Bool.not_eq_false', decide_eq_true_eq, decide_eq_false_iff_not] at hc); (try replace hc := eq_true (show (_ : ByteArray) = _ from hc)); (try (exfalso; first | omega | exact hc trivial | exact hc))) | refine And.intro (show okTr _ _ = true by kernel_rfl) ?_ | refine And.intro ?_ ?_ | refine stp_guard ?_ ?_ | refine stq_guard ?_ ?_ | refine dwp_seq ?_ | refine dwp_block ?_ | ((first | refine dwp_region ?_ | refine dwp_any ?_ | refine dwp_skip ?_ | refine dwp_exit ?_ | refine dwp_ret ?_ | refine dwp_if ?_ | skip); (simp only [go_sem, beq_true, beq_false, Bool.true_beq, Bool.false_beq, Bool.bne_true, Bool.bne_false, Bool.true_bne, Bool.false_bne, Option.isSome_none, ne_eq, Int.cast_ofNat_Int, ↓reduceIte, reduceCtorEq, Nat.reduceBEq, Nat.reduceEqDiff, Nat.reduceLT, Nat.reduceLeDiff, Nat.reduceAdd, Nat.reduceMul, Nat.reducePow, Nat.reduceSub, Int.reduceEq, Int.reduceLT, Int.reduceLE, Int.reduceToNat, Int.reduceMul, Int.reduceNeg, Int.reduceAdd, Int.reduceSub, *]; try simp (disch := omega) only [List.length_drop, List.length_take, List.length_append, ite_ok, w_i64, w_u64, w_u8, w_u32, w_u16, w_i32, room_le, tm_nn, td_nn, nsucc])) | simp (disch := omega) only [List.length_drop, List.length_take, List.length_append, ite_ok, w_i64, w_u64, w_u8, w_u32, w_u16, w_i32, room_le, tm_nn, td_nn, nsucc])
    | a :: b :: c :: l =>
      have h2 := in34 a (b :: c :: l) t.nt (hargs a (by simp)) (fun x hx => hargs x (List.mem_cons_of_mem _ hx)) (by simp at hlen ⊢; omega)
      rw [opO_3]
      clear hargs
      have e3 : 2 ≤ (b :: c :: l).length := by simp
      generalize b :: c :: l = r at *
      repeat' (first | (intro hc; (try simp only [bne_eq_false_iff_eq, bne_iff_ne, beq_iff_eq, beq_eq_false_iff_ne, Bool.not_eq_true', Bool.not_eq_false', decide_eq_true_eq, decide_eq_false_iff_not] at hc); (try replace hc := eq_true (show (_ : ByteArray) = _ from hc)); (try (exfalso; first | omega | exact hc trivial | exact hc))) | refine And.intro (show okTr _ _ = true by kernel_rfl) ?_ | refine And.intro ?_ ?_ | refine stp_guard ?_ ?_ | refine stq_guard ?_ ?_ | refine dwp_seq ?_ | refine dwp_block ?_ | ((first | refine dwp_region ?_ | refine dwp_any ?_ | refine dwp_skip ?_ | refine dwp_exit ?_ | refine dwp_ret ?_ | refine dwp_if ?_ | skip); (simp only [go_sem, beq_true, beq_false, Bool.true_beq, Bool.false_beq, Bool.bne_true, Bool.bne_false, Bool.true_bne, Bool.false_bne, Option.isSome_none, ne_eq, Int.cast_ofNat_Int, ↓reduceIte, reduceCtorEq, Nat.reduceBEq, Nat.reduceEqDiff, Nat.reduceLT, Nat.reduceLeDiff, Nat.reduceAdd, Nat.reduceMul, Nat.reducePow, Nat.reduceSub, Int.reduceEq, Int.reduceLT, Int.reduceLE, Int.reduceToNat, Int.reduceMul, Int.reduceNeg, Int.reduceAdd, Int.reduceSub, *]; try simp (disch := omega) only [List.length_drop, List.length_take, List.length_append, ite_ok, w_i64, w_u64, w_u8, w_u32, w_u16, w_i32, room_le, tm_nn, td_nn, nsucc])) | simp (disch := omega) only [List.length_drop, List.length_take, List.length_append, ite_ok, w_i64, w_u64, w_u8, w_u32, w_u16, w_i32, room_le, tm_nn, td_nn, nsucc])
/-! ### constant terms -/
mutual
def constT : Term → Bool
  | .mk k o n v f m t c xs => !decide (k = 2) && !decide (k = 7) && constL xs
def constL : List Term → Bool
  | [] => true
  | t :: l => constT t && constL l
end
theorem constL_eq : ∀ l, constL l = l.all constT
  | [] => by simp [constL]
  | t :: l => by simp [constL, constL_eq l]
theorem constT_eq (t : Term) : constT t = (!decide (t.kind = 2) && !decide (t.kind = 7) && t.args.all constT) := by
  cases t with
  | mk => simp only [constT, constL_eq, Term.kind, Term.args]; rfl
theorem all_take {α : Type} (p : α → Bool) (l : List α) (i : Nat) (a : α) (h : l[i]? = some a) (h1 : (l.take i).all p = true) (h2 : p a = true) : (l.take (i + 1)).all p = true := by
  rw [List.take_add_one, h, List.all_append, h1]; simp [h2]
theorem all_false {α : Type} (p : α → Bool) (l : List α) (a : α) (h : a ∈ l) (h2 : p a = false) : l.all p = false := by
  rw [List.all_eq_false]; exact ⟨a, h, by simp [h2]⟩
theorem constant18 : ∀ t, okT t → FF 18 [.agg (tcells t)] = some (.v (.bool (constT t))) := by
  refine Term.ind fun t ih hok => ?_
  obtain ⟨_, hv, hn, ha⟩ := hok
  rw [constT_eq]
  by_cases k2 : t.kind = 2
  · clear ih ha
    refine FF_val Try.func18 rfl rfl ?_
    simp only [Try.ntmps18, Try.results18]
    repeat' (first | (intro hc; (try simp only [bne_eq_false_iff_eq, bne_iff_ne, beq_iff_eq, beq_eq_false_iff_ne, Bool.not_eq_true', Bool.not_eq_false', decide_eq_true_eq, decide_eq_false_iff_not] at hc); (try replace hc := eq_true (show (_ : ByteArray) = _ from hc)); (try (exfalso; first | omega | exact hc trivial | exact hc))) | refine And.intro (show okTr _ _ = true by kernel_rfl) ?_ | refine And.intro ?_ ?_ | refine stp_guard ?_ ?_ | refine stq_guard ?_ ?_ | refine dwp_seq ?_ | refine dwp_block ?_ | ((first | refine dwp_region ?_ | refine dwp_any ?_ | refine dwp_skip ?_ | refine dwp_exit ?_ | refine dwp_ret ?_ | refine dwp_if ?_ | skip); (simp only [go_sem, beq_true, beq_false, Bool.true_beq, Bool.false_beq, Bool.bne_true, Bool.bne_false, Bool.true_bne, Bool.false_bne, Option.isSome_none, ne_eq, Int.cast_ofNat_Int, ↓reduceIte, reduceCtorEq, Nat.reduceBEq, Nat.reduceEqDiff, Nat.reduceLT, Nat.reduceLeDiff, Nat.reduceAdd, Nat.reduceMul, Nat.reducePow, Nat.reduceSub, Int.reduceEq, Int.reduceLT, Int.reduceLE, Int.reduceToNat, Int.reduceMul, Int.reduceNeg, Int.reduceAdd, Int.reduceSub, *]; try simp (disch := omega) only [List.length_drop, List.length_take, List.length_append, ite_ok, w_i64, w_u64, w_u8, w_u32, w_u16, w_i32, room_le, tm_nn, td_nn, nsucc])) | simp (disch := omega) only [List.length_drop, List.length_take, List.length_append, ite_ok, w_i64, w_u64, w_u8, w_u32, w_u16, w_i32, room_le, tm_nn, td_nn, nsucc])
  by_cases k7 : t.kind = 7
  · clear ih ha
    refine FF_val Try.func18 rfl rfl ?_
    simp only [Try.ntmps18, Try.results18]
    repeat' (first | (intro hc; (try simp only [bne_eq_false_iff_eq, bne_iff_ne, beq_iff_eq, beq_eq_false_iff_ne, Bool.not_eq_true', Bool.not_eq_false', decide_eq_true_eq, decide_eq_false_iff_not] at hc); (try replace hc := eq_true (show (_ : ByteArray) = _ from hc)); (try (exfalso; first | omega | exact hc trivial | exact hc))) | refine And.intro (show okTr _ _ = true by kernel_rfl) ?_ | refine And.intro ?_ ?_ | refine stp_guard ?_ ?_ | refine stq_guard ?_ ?_ | refine dwp_seq ?_ | refine dwp_block ?_ | ((first | refine dwp_region ?_ | refine dwp_any ?_ | refine dwp_skip ?_ | refine dwp_exit ?_ | refine dwp_ret ?_ | refine dwp_if ?_ | skip); (simp only [go_sem, beq_true, beq_false, Bool.true_beq, Bool.false_beq, Bool.bne_true, Bool.bne_false, Bool.true_bne, Bool.false_bne, Option.isSome_none, ne_eq, Int.cast_ofNat_Int, ↓reduceIte, reduceCtorEq, Nat.reduceBEq, Nat.reduceEqDiff, Nat.reduceLT, Nat.reduceLeDiff, Nat.reduceAdd, Nat.reduceMul, Nat.reducePow, Nat.reduceSub, Int.reduceEq, Int.reduceLT, Int.reduceLE, Int.reduceToNat, Int.reduceMul, Int.reduceNeg, Int.reduceAdd, Int.reduceSub, *]; try simp (disch := omega) only [List.length_drop, List.length_take, List.length_append, ite_ok, w_i64, w_u64, w_u8, w_u32, w_u16, w_i32, room_le, tm_nn, td_nn, nsucc])) | simp (disch := omega) only [List.length_drop, List.length_take, List.length_append, ite_ok, w_i64, w_u64, w_u8, w_u32, w_u16, w_i32, room_le, tm_nn, td_nn, nsucc])
  simp only [decide_eq_false k2, decide_eq_false k7, Bool.not_false, Bool.true_and]
  refine FF_val Try.func18 rfl rfl ?_
  simp only [Try.ntmps18, Try.results18]
  repeat' (first | (intro hc; (try simp only [bne_eq_false_iff_eq, bne_iff_ne, beq_iff_eq, beq_eq_false_iff_ne, Bool.not_eq_true', Bool.not_eq_false', decide_eq_true_eq, decide_eq_false_iff_not] at hc); (try replace hc := eq_true (show (_ : ByteArray) = _ from hc)); (try (exfalso; first | omega | exact hc trivial | exact hc))) | refine And.intro (show okTr _ _ = true by kernel_rfl) ?_ | refine And.intro ?_ ?_ | refine stp_guard ?_ ?_ | refine stq_guard ?_ ?_ | refine dwp_seq ?_ | refine dwp_block ?_ | ((first | refine dwp_region ?_ | refine dwp_any ?_ | refine dwp_skip ?_ | refine dwp_exit ?_ | refine dwp_ret ?_ | refine dwp_if ?_ | skip); (simp only [go_sem, beq_true, beq_false, Bool.true_beq, Bool.false_beq, Bool.bne_true, Bool.bne_false, Bool.true_bne, Bool.false_bne, Option.isSome_none, ne_eq, Int.cast_ofNat_Int, ↓reduceIte, reduceCtorEq, Nat.reduceBEq, Nat.reduceEqDiff, Nat.reduceLT, Nat.reduceLeDiff, Nat.reduceAdd, Nat.reduceMul, Nat.reducePow, Nat.reduceSub, Int.reduceEq, Int.reduceLT, Int.reduceLE, Int.reduceToNat, Int.reduceMul, Int.reduceNeg, Int.reduceAdd, Int.reduceSub, *]; try simp (disch := omega) only [List.length_drop, List.length_take, List.length_append, ite_ok, w_i64, w_u64, w_u8, w_u32, w_u16, w_i32, room_le, tm_nn, td_nn, nsucc])) | simp (disch := omega) only [List.length_drop, List.length_take, List.length_append, ite_ok, w_i64, w_u64, w_u8, w_u32, w_u16, w_i32, room_le, tm_nn, td_nn, nsucc])
  refine dwp_ind (fun n f g => ∃ (i : Nat), n = t.args.length - i ∧ i ≤ t.args.length ∧ (t.args.take i).all constT = true ∧
    f 1 = .bp 1 0 ∧ g 1 = some (tcells t) ∧ f 15 = .v (.int .i64 i) ∧ f 14 = .v (.int .i64 t.args.length)) _ ⟨0, rfl, by omega, rfl, ?_⟩ ?_
  · clear ih ha
    simp only [go_sem, beq_true, beq_false, Bool.true_beq, Bool.false_beq, Bool.bne_true, Bool.bne_false, Bool.true_bne, Bool.false_bne, Option.isSome_none, ne_eq, Int.cast_ofNat_Int, ↓reduceIte, reduceCtorEq, Nat.reduceBEq, Nat.reduceEqDiff, Nat.reduceLT, Nat.reduceLeDiff, Nat.reduceAdd, Nat.reduceMul, Nat.reducePow, Nat.reduceSub, Int.reduceEq, Int.reduceLT, Int.reduceLE, Int.reduceToNat, Int.reduceMul, Int.reduceNeg, Int.reduceAdd, Int.reduceSub, *]
  rintro n f g ⟨i, hn1, hi, hall, f1, g1, f15, f14⟩ ih2
  rcases Nat.lt_or_ge i t.args.length with h | h
  · have ga : t.args[i]? = some t.args[i] := List.getElem?_eq_getElem h
    have hm : t.args[i] ∈ t.args := List.getElem_mem h
    have hs := all_take constT t.args i _ ga hall
    have hf := all_false constT t.args _ hm
    generalize t.args[i] = b at *
    have h1 := ih b hm (ha b hm)
    clear ih ha hv
    cases hc : constT b
    · rw [hc] at h1
      have hf := hf hc
      clear hs hc
      repeat' (first | (intro hc; (try simp only [bne_eq_false_iff_eq, bne_iff_ne, beq_iff_eq, beq_eq_false_iff_ne, Bool.not_eq_true', Bool.not_eq_false', decide_eq_true_eq, decide_eq_false_iff_not] at hc); (try replace hc := eq_true (show (_ : ByteArray) = _ from hc)); (try (exfalso; first | omega | exact hc trivial | exact hc))) | refine And.intro (show okTr _ _ = true by kernel_rfl) ?_ | refine And.intro ?_ ?_ | refine stp_guard ?_ ?_ | refine stq_guard ?_ ?_ | refine dwp_seq ?_ | refine dwp_block ?_ | ((first | refine dwp_region ?_ | refine dwp_any ?_ | refine dwp_skip ?_ | refine dwp_exit ?_ | refine dwp_ret ?_ | refine dwp_if ?_ | skip); (simp only [go_sem, beq_true, beq_false, Bool.true_beq, Bool.false_beq, Bool.bne_true, Bool.bne_false, Bool.true_bne, Bool.false_bne, Option.isSome_none, ne_eq, Int.cast_ofNat_Int, ↓reduceIte, reduceCtorEq, Nat.reduceBEq, Nat.reduceEqDiff, Nat.reduceLT, Nat.reduceLeDiff, Nat.reduceAdd, Nat.reduceMul, Nat.reducePow, Nat.reduceSub, Int.reduceEq, Int.reduceLT, Int.reduceLE, Int.reduceToNat, Int.reduceMul, Int.reduceNeg, Int.reduceAdd, Int.reduceSub, *]; try simp (disch := omega) only [List.length_drop, List.length_take, List.length_append, ite_ok, w_i64, w_u64, w_u8, w_u32, w_u16, w_i32, room_le, tm_nn, td_nn, nsucc])) | simp (disch := omega) only [List.length_drop, List.length_take, List.length_append, ite_ok, w_i64, w_u64, w_u8, w_u32, w_u16, w_i32, room_le, tm_nn, td_nn, nsucc])
    · rw [hc] at h1
      have hs := hs hc
      clear hf hc
      repeat' (first | (intro hc; (try simp only [bne_eq_false_iff_eq, bne_iff_ne, beq_iff_eq, beq_eq_false_iff_ne, Bool.not_eq_true', Bool.not_eq_false', decide_eq_true_eq, decide_eq_false_iff_not] at hc); (try replace hc := eq_true (show (_ : ByteArray) = _ from hc)); (try (exfalso; first | omega | exact hc trivial | exact hc))) | refine And.intro (show okTr _ _ = true by kernel_rfl) ?_ | refine And.intro ?_ ?_ | refine stp_guard ?_ ?_ | refine stq_guard ?_ ?_ | refine dwp_seq ?_ | refine dwp_block ?_ | ((first | refine dwp_region ?_ | refine dwp_any ?_ | refine dwp_skip ?_ | refine dwp_exit ?_ | refine dwp_ret ?_ | refine dwp_if ?_ | skip); (simp only [go_sem, beq_true, beq_false, Bool.true_beq, Bool.false_beq, Bool.bne_true, Bool.bne_false, Bool.true_bne, Bool.false_bne, Option.isSome_none, ne_eq, Int.cast_ofNat_Int, ↓reduceIte, reduceCtorEq, Nat.reduceBEq, Nat.reduceEqDiff, Nat.reduceLT, Nat.reduceLeDiff, Nat.reduceAdd, Nat.reduceMul, Nat.reducePow, Nat.reduceSub, Int.reduceEq, Int.reduceLT, Int.reduceLE, Int.reduceToNat, Int.reduceMul, Int.reduceNeg, Int.reduceAdd, Int.reduceSub, *]; try simp (disch := omega) only [List.length_drop, List.length_take, List.length_append, ite_ok, w_i64, w_u64, w_u8, w_u32, w_u16, w_i32, room_le, tm_nn, td_nn, nsucc])) | simp (disch := omega) only [List.length_drop, List.length_take, List.length_append, ite_ok, w_i64, w_u64, w_u8, w_u32, w_u16, w_i32, room_le, tm_nn, td_nn, nsucc])
      refine ih2 _ _ _ ?_ ⟨i + 1, rfl, by omega, hs, ?_⟩
      · omega
      · simp only [go_sem, beq_true, beq_false, Bool.true_beq, Bool.false_beq, Bool.bne_true, Bool.bne_false, Bool.true_bne, Bool.false_bne, Option.isSome_none, ne_eq, Int.cast_ofNat_Int, ↓reduceIte, reduceCtorEq, Nat.reduceBEq, Nat.reduceEqDiff, Nat.reduceLT, Nat.reduceLeDiff, Nat.reduceAdd, Nat.reduceMul, Nat.reducePow, Nat.reduceSub, Int.reduceEq, Int.reduceLT, Int.reduceLE, Int.reduceToNat, Int.reduceMul, Int.reduceNeg, Int.reduceAdd, Int.reduceSub, *]
  · obtain rfl : i = t.args.length := by omega
    rw [List.take_length] at hall
    clear ih ih2 ha
    repeat' (first | (intro hc; (try simp only [bne_eq_false_iff_eq, bne_iff_ne, beq_iff_eq, beq_eq_false_iff_ne, Bool.not_eq_true', Bool.not_eq_false', decide_eq_true_eq, decide_eq_false_iff_not] at hc); (try replace hc := eq_true (show (_ : ByteArray) = _ from hc)); (try (exfalso; first | omega | exact hc trivial | exact hc))) | refine And.intro (show okTr _ _ = true by kernel_rfl) ?_ | refine And.intro ?_ ?_ | refine stp_guard ?_ ?_ | refine stq_guard ?_ ?_ | refine dwp_seq ?_ | refine dwp_block ?_ | ((first | refine dwp_region ?_ | refine dwp_any ?_ | refine dwp_skip ?_ | refine dwp_exit ?_ | refine dwp_ret ?_ | refine dwp_if ?_ | skip); (simp only [go_sem, beq_true, beq_false, Bool.true_beq, Bool.false_beq, Bool.bne_true, Bool.bne_false, Bool.true_bne, Bool.false_bne, Option.isSome_none, ne_eq, Int.cast_ofNat_Int, ↓reduceIte, reduceCtorEq, Nat.reduceBEq, Nat.reduceEqDiff, Nat.reduceLT, Nat.reduceLeDiff, Nat.reduceAdd, Nat.reduceMul, Nat.reducePow, Nat.reduceSub, Int.reduceEq, Int.reduceLT, Int.reduceLE, Int.reduceToNat, Int.reduceMul, Int.reduceNeg, Int.reduceAdd, Int.reduceSub, *]; try simp (disch := omega) only [List.length_drop, List.length_take, List.length_append, ite_ok, w_i64, w_u64, w_u8, w_u32, w_u16, w_i32, room_le, tm_nn, td_nn, nsucc])) | simp (disch := omega) only [List.length_drop, List.length_take, List.length_append, ite_ok, w_i64, w_u64, w_u8, w_u32, w_u16, w_i32, room_le, tm_nn, td_nn, nsucc])
end Go.Proofs.Ytjdkcedhmfgmoaa
