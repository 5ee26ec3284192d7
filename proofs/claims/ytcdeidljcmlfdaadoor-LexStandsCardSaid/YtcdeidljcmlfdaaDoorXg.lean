/- Lexing: all tokens of a text (the session's own words). -/
import Derived.Test.YtcdeidljcmlfdaaDoorXc
import Derived.Test.YtcdeidljcmlfdaaDoorXf
namespace Go.Proofs.YtcdeidljcmlfdaaDoor
open Go Go.Eng Go.Proofs
set_option linter.unusedVariables false
set_option linter.unusedSimpArgs false
set_option maxRecDepth 100000
set_option maxHeartbeats 8000000
def tkC (t : Tk) : List D := tokC t.k t.t t.a
theorem tkC_len (l : List Tk) : lenAll 3 (l.map tkC) = true := lenAll_map tkC (fun _ => rfl) l
attribute [go_sem] tkC_len
def finD (p : List Tk × Int) : D := if p.2 = 0 then .tup [.sl (p.1.map tkC), .v (.int .i64 0)] else .tup [.sl [], .v (.int .i64 p.2)]
def comb (acc : List Tk) (p : List Tk × Int) : List Tk × Int := if p.2 = 0 then (acc ++ p.1, 0) else ([], p.2)
theorem comb_tok {pk pe : List UInt8 → Int} (acc : List Tk) (f : Nat) (l : List UInt8) (a c : Nat) (hr : trimB l ≠ []) (hc : c ≠ 1000) (he : (nxt pk pe (trimB l)).e = 0) :
    comb acc (tkz pk pe (f + 1) l a c) = comb (acc ++ [⟨(nxt pk pe (trimB l)).k, (nxt pk pe (trimB l)).t, a + (l.length - (trimB l).length)⟩]) (tkz pk pe f ((trimB l).drop (nxt pk pe (trimB l)).n) (a + (l.length - (trimB l).length) + (nxt pk pe (trimB l)).n) (c + 1)) := by
  rw [tkz, if_neg hr, if_neg hc, if_neg (by simp [he])]
  by_cases h : (tkz pk pe f ((trimB l).drop (nxt pk pe (trimB l)).n) (a + (l.length - (trimB l).length) + (nxt pk pe (trimB l)).n) (c + 1)).2 = 0
  · rw [if_neg (by simp [h])]
    simp [comb, h]
  · rw [if_pos h]
    simp [comb, h]
theorem tokensX (l : List UInt8) (hl : l.length ≤ 4096) : FF 8 [.v (.string (bs l))] = some (finD (tkz pkF peF (l.length + 1) l 0 0)) := by
  obtain ⟨Z, hZ⟩ : ∃ Z, tkz pkF peF (l.length + 1) l 0 0 = Z := ⟨_, rfl⟩
  rw [hZ]
  have hls : Hid ((bs l).size = l.length) := rfl
  have hls2 : (bs l).size ≤ 4096 := hl
  have hc0 : Hid (comb [] (tkz pkF peF (l.length + 1) (l.drop 0) 0 0) = Z) := by
    show _ = _
    rw [← hZ, List.drop_zero]
    unfold comb
    split
    · rename_i h; simp only [List.nil_append]; rw [← h]
    · rename_i h
      rw [tkz] at h ⊢
      split at h
      · exact absurd rfl h
      · rename_i h1
        rw [if_neg h1]
        split
        · rfl
        · split
          · rfl
          · split
            · rfl
            · rename_i h2 h3 h4
              rw [if_neg h2, if_neg h3, if_neg h4] at h
              exact absurd rfl h
  clear hZ
  refine FF_val Tryd.func8 rfl rfl ?_
  simp only [Tryd.ntmps8, Tryd.results8]
  repeat' (first | (intro hc; (try simp only [bne_eq_false_iff_eq, bne_iff_ne, beq_iff_eq, beq_eq_false_iff_ne, Bool.not_eq_true', Bool.not_eq_false', decide_eq_true_eq, decide_eq_false_iff_not] at hc); (try replace hc := eq_true (show (_ : ByteArray) = _ from hc)); (try (exfalso; first | omega | exact hc trivial | exact hc))) | refine And.intro (show okTr _ _ = true by kernel_rfl) ?_ | refine And.intro ?_ ?_ | refine stp_guard ?_ ?_ | refine stq_guard ?_ ?_ | refine dwp_seq ?_ | refine dwp_block ?_ | ((first | refine dwp_region ?_ | refine dwp_any ?_ | refine dwp_skip ?_ | refine dwp_exit ?_ | refine dwp_ret ?_ | refine dwp_if ?_ | skip); (simp only [go_sem, beq_true, beq_false, Bool.true_beq, Bool.false_beq, Bool.bne_true, Bool.bne_false, Bool.true_bne, Bool.false_bne, Option.isSome_none, ne_eq, Int.cast_ofNat_Int, ↓reduceIte, reduceCtorEq, Nat.reduceBEq, Nat.reduceEqDiff, Nat.reduceLT, Nat.reduceLeDiff, Nat.reduceAdd, Nat.reduceMul, Nat.reducePow, Nat.reduceSub, Int.reduceEq, Int.reduceLT, Int.reduceLE, Int.reduceToNat, Int.reduceMul, Int.reduceNeg, Int.reduceAdd, Int.reduceSub, *]; try simp (disch := (first | omega | (simp only [ByteArray.size_append, bs_size, lit_size, cut_size, List.length_append, List.length_cons, List.length_nil]; omega))) only [sls2S, sls_lS, sls_hS, bop_sadd, List.length_drop, List.length_take, List.length_append, ite_ok, w_i64, w_u64, w_u8, w_u32, w_u16, w_i32, room_le, tm_nn, td_nn, nsucc, apSK_ok])) | simp (disch := (first | omega | (simp only [ByteArray.size_append, bs_size, lit_size, cut_size, List.length_append, List.length_cons, List.length_nil]; omega))) only [sls2S, sls_lS, sls_hS, bop_sadd, List.length_drop, List.length_take, List.length_append, ite_ok, w_i64, w_u64, w_u8, w_u32, w_u16, w_i32, room_le, tm_nn, td_nn, nsucc, apSK_ok])
  refine dwp_indL [0] [] (fun n f g => ∃ (at' : Nat) (acc : List Tk), at' ≤ l.length ∧ l.length - at' < n ∧ acc.length ≤ 1000 ∧ Hid (comb acc (tkz pkF peF n (l.drop at') at' acc.length) = Z) ∧ f 5 = .v (.int .i64 at') ∧ f 4 = .own 29 3 (acc.map tkC)) _ ⟨0, [], Nat.zero_le _, by omega, by simp, hc0, ?_, ?_⟩ ?_
  · simp only [go_sem, beq_true, beq_false, Bool.true_beq, Bool.false_beq, Bool.bne_true, Bool.bne_false, Bool.true_bne, Bool.false_bne, Option.isSome_none, ne_eq, Int.cast_ofNat_Int, ↓reduceIte, reduceCtorEq, Nat.reduceBEq, Nat.reduceEqDiff, Nat.reduceLT, Nat.reduceLeDiff, Nat.reduceAdd, Nat.reduceMul, Nat.reducePow, Nat.reduceSub, Int.reduceEq, Int.reduceLT, Int.reduceLE, Int.reduceToNat, Int.reduceMul, Int.reduceNeg, Int.reduceAdd, Int.reduceSub]
    try exact rfl
  · simp only [go_sem, beq_true, beq_false, Bool.true_beq, Bool.false_beq, Bool.bne_true, Bool.bne_false, Bool.true_bne, Bool.false_bne, Option.isSome_none, ne_eq, Int.cast_ofNat_Int, ↓reduceIte, reduceCtorEq, Nat.reduceBEq, Nat.reduceEqDiff, Nat.reduceLT, Nat.reduceLeDiff, Nat.reduceAdd, Nat.reduceMul, Nat.reducePow, Nat.reduceSub, Int.reduceEq, Int.reduceLT, Int.reduceLE, Int.reduceToNat, Int.reduceMul, Int.reduceNeg, Int.reduceAdd, Int.reduceSub]
    try exact rfl
  rintro n f g hL hG ⟨at', acc, hat, hnl, hacc, hcb, hf5, hf4⟩ ih2
  (simp only [sameOn_cons, sameOn_one, sameOn_nil] at hL hG; (try simp only [go_sem, beq_true, beq_false, Bool.true_beq, Bool.false_beq, Bool.bne_true, Bool.bne_false, Bool.true_bne, Bool.false_bne, Option.isSome_none, ne_eq, Int.cast_ofNat_Int, ↓reduceIte, reduceCtorEq, Nat.reduceBEq, Nat.reduceEqDiff, Nat.reduceLT, Nat.reduceLeDiff, Nat.reduceAdd, Nat.reduceMul, Nat.reducePow, Nat.reduceSub, Int.reduceEq, Int.reduceLT, Int.reduceLE, Int.reduceToNat, Int.reduceMul, Int.reduceNeg, Int.reduceAdd, Int.reduceSub] at hL); (try simp only [go_sem, beq_true, beq_false, Bool.true_beq, Bool.false_beq, Bool.bne_true, Bool.bne_false, Bool.true_bne, Bool.false_bne, Option.isSome_none, ne_eq, Int.cast_ofNat_Int, ↓reduceIte, reduceCtorEq, Nat.reduceBEq, Nat.reduceEqDiff, Nat.reduceLT, Nat.reduceLeDiff, Nat.reduceAdd, Nat.reduceMul, Nat.reducePow, Nat.reduceSub, Int.reduceEq, Int.reduceLT, Int.reduceLE, Int.reduceToNat, Int.reduceMul, Int.reduceNeg, Int.reduceAdd, Int.reduceSub] at hG))
  obtain ⟨n, rfl⟩ : ∃ m, n = m + 1 := ⟨n - 1, by omega⟩
  have htr := trimX (l.drop at') (by rw [List.length_drop]; omega)
  have hcut : cut (bs l) at' (bs l).size = bs (l.drop at') := by rw [cut_bs, bs_size, List.take_length]
  have hat2 : at' ≤ (bs l).size := hat
  have hle := trim_le (l.drop at')
  have his := trim_is (l.drop at')
  rw [List.length_drop] at hle
  have ea : at' + ((l.drop at').length - (trimB (l.drop at')).length) = l.length - (trimB (l.drop at')).length := by rw [List.length_drop]; omega
  by_cases hr : trimB (l.drop at') = []
  · have hz : Z = (acc ++ [⟨0, [], l.length⟩], 0) := by
      rw [← show comb acc (tkz pkF peF (n + 1) (l.drop at') at' acc.length) = Z from hcb, tkz_end n at' acc.length hr, List.length_drop, show at' + (l.length - at') = l.length by omega]
      rfl
    subst hz
    rw [hr] at htr
    have e1 : finD (acc ++ [⟨0, [], l.length⟩], 0) = .tup [.sl (acc.map tkC ++ [[.v (.int .u8 0), .v (.string ⟨#[]⟩), .v (.int .i64 (((bs l).size : Nat) : Int))]]), .v (.int .i64 0)] := by
      unfold finD
      rw [if_pos rfl, List.map_append]
      rfl
    rw [e1]
    have hz0 : (bs ([] : List UInt8)).size = 0 := rfl
    have hz1 : (bs ([] : List UInt8) = ⟨#[]⟩) = True := eq_true rfl
    clear hcb hle his ea hr
    generalize bs ([] : List UInt8) = e at *
    generalize bs (l.drop at') = u at *
    generalize bs l = s at *
    repeat' (first | (intro hc; (try simp only [bne_eq_false_iff_eq, bne_iff_ne, beq_iff_eq, beq_eq_false_iff_ne, Bool.not_eq_true', Bool.not_eq_false', decide_eq_true_eq, decide_eq_false_iff_not] at hc); (try replace hc := eq_true (show (_ : ByteArray) = _ from hc)); (try (exfalso; first | omega | exact hc trivial | exact hc))) | refine And.intro (show okTr _ _ = true by kernel_rfl) ?_ | refine And.intro ?_ ?_ | refine stp_guard ?_ ?_ | refine stq_guard ?_ ?_ | refine dwp_seq ?_ | refine dwp_block ?_ | ((first | refine dwp_region ?_ | refine dwp_any ?_ | refine dwp_skip ?_ | refine dwp_exit ?_ | refine dwp_ret ?_ | refine dwp_if ?_ | skip); (simp only [go_sem, beq_true, beq_false, Bool.true_beq, Bool.false_beq, Bool.bne_true, Bool.bne_false, Bool.true_bne, Bool.false_bne, Option.isSome_none, ne_eq, Int.cast_ofNat_Int, ↓reduceIte, reduceCtorEq, Nat.reduceBEq, Nat.reduceEqDiff, Nat.reduceLT, Nat.reduceLeDiff, Nat.reduceAdd, Nat.reduceMul, Nat.reducePow, Nat.reduceSub, Int.reduceEq, Int.reduceLT, Int.reduceLE, Int.reduceToNat, Int.reduceMul, Int.reduceNeg, Int.reduceAdd, Int.reduceSub, Int.toNat_natCast, Int.sub_zero, List.length_map, *]; try simp (disch := (first | omega | (simp only [ByteArray.size_append, bs_size, lit_size, cut_size, List.length_append, List.length_cons, List.length_nil]; omega))) only [sls2S, sls_lS, sls_hS, bop_sadd, List.length_drop, List.length_take, List.length_append, ite_ok, w_i64, w_u64, w_u8, w_u32, w_u16, w_i32, room_le, tm_nn, td_nn, nsucc, apSK_ok])) | simp (disch := (first | omega | (simp only [ByteArray.size_append, bs_size, lit_size, cut_size, List.length_append, List.length_cons, List.length_nil]; omega))) only [sls2S, sls_lS, sls_hS, bop_sadd, List.length_drop, List.length_take, List.length_append, ite_ok, w_i64, w_u64, w_u8, w_u32, w_u16, w_i32, room_le, tm_nn, td_nn, nsucc, apSK_ok])
  · obtain ⟨c, r, hcr⟩ : ∃ c r, trimB (l.drop at') = c :: r := by
      cases h : trimB (l.drop at') with
      | nil => exact absurd h hr
      | cons c r => exact ⟨c, r, rfl⟩
    have hrl : (c :: r).length ≤ l.length - at' := by rw [← hcr]; exact hle
    have hz1 : (bs (c :: r) = ⟨#[]⟩) = False := eq_false fun e => by
      have := congrArg ByteArray.size e
      rw [bs_size] at this
      exact absurd this (by show ¬ (r.length + 1 = 0); omega)
    by_cases h1000 : acc.length = 1000
    · have hz : Z = ([], 15) := by
        rw [← show comb acc (tkz pkF peF (n + 1) (l.drop at') at' acc.length) = Z from hcb, tkz, if_neg hr, if_pos h1000]
        rfl
      subst hz
      rw [hcr] at htr
      have e1 : finD ([], 15) = .tup [.sl [], .v (.int .i64 15)] := rfl
      rw [e1]
      have h1000' : ((acc.length : Nat) : Int) = 1000 := by omega
      have hrs : (bs (c :: r)).size ≤ (bs l).size := by rw [bs_size, bs_size]; omega
      clear hcb hle his ea hr hcr hrl h1000
      generalize bs (c :: r) = e at *
      generalize bs (l.drop at') = u at *
      generalize bs l = s at *
      repeat' (first | (intro hc; (try simp only [bne_eq_false_iff_eq, bne_iff_ne, beq_iff_eq, beq_eq_false_iff_ne, Bool.not_eq_true', Bool.not_eq_false', decide_eq_true_eq, decide_eq_false_iff_not] at hc); (try replace hc := eq_true (show (_ : ByteArray) = _ from hc)); (try (exfalso; first | omega | exact hc trivial | exact hc))) | refine And.intro (show okTr _ _ = true by kernel_rfl) ?_ | refine And.intro ?_ ?_ | refine stp_guard ?_ ?_ | refine stq_guard ?_ ?_ | refine dwp_seq ?_ | refine dwp_block ?_ | ((first | refine dwp_region ?_ | refine dwp_any ?_ | refine dwp_skip ?_ | refine dwp_exit ?_ | refine dwp_ret ?_ | refine dwp_if ?_ | skip); (simp only [go_sem, beq_true, beq_false, Bool.true_beq, Bool.false_beq, Bool.bne_true, Bool.bne_false, Bool.true_bne, Bool.false_bne, Option.isSome_none, ne_eq, Int.cast_ofNat_Int, ↓reduceIte, reduceCtorEq, Nat.reduceBEq, Nat.reduceEqDiff, Nat.reduceLT, Nat.reduceLeDiff, Nat.reduceAdd, Nat.reduceMul, Nat.reducePow, Nat.reduceSub, Int.reduceEq, Int.reduceLT, Int.reduceLE, Int.reduceToNat, Int.reduceMul, Int.reduceNeg, Int.reduceAdd, Int.reduceSub, Int.toNat_natCast, Int.sub_zero, List.length_map, *]; try simp (disch := (first | omega | (simp only [ByteArray.size_append, bs_size, lit_size, cut_size, List.length_append, List.length_cons, List.length_nil]; omega))) only [sls2S, sls_lS, sls_hS, bop_sadd, List.length_drop, List.length_take, List.length_append, ite_ok, w_i64, w_u64, w_u8, w_u32, w_u16, w_i32, room_le, tm_nn, td_nn, nsucc, apSK_ok])) | simp (disch := (first | omega | (simp only [ByteArray.size_append, bs_size, lit_size, cut_size, List.length_append, List.length_cons, List.length_nil]; omega))) only [sls2S, sls_lS, sls_hS, bop_sadd, List.length_drop, List.length_take, List.length_append, ite_ok, w_i64, w_u64, w_u8, w_u32, w_u16, w_i32, room_le, tm_nn, td_nn, nsucc, apSK_ok])
    obtain ⟨d, hnx, k, t, m, rfl, hok⟩ := nextX c r (by omega)
    have hdrop : l.drop (l.length - (c :: r).length) = c :: r := by
      have h := his
      rw [List.drop_drop, ea, hcr] at h
      exact h
    by_cases he : (nxt pkF peF (c :: r)).e = 0
    · obtain ⟨rfl, rfl, rfl⟩ := hok he
      have hcb2 : Hid (comb (acc ++ [⟨(nxt pkF peF (c :: r)).k, (nxt pkF peF (c :: r)).t, l.length - (c :: r).length⟩]) (tkz pkF peF n (l.drop (l.length - (c :: r).length + (nxt pkF peF (c :: r)).n)) (l.length - (c :: r).length + (nxt pkF peF (c :: r)).n) (acc.length + 1)) = Z) := by
        show _ = _
        rw [← show comb acc (tkz pkF peF (n + 1) (l.drop at') at' acc.length) = Z from hcb, comb_tok acc n (l.drop at') at' acc.length hr h1000 (by rw [hcr]; exact he), ea, hcr]
        rw [← List.drop_drop, hdrop]
      obtain ⟨n1, n2, n3, n4⟩ := nxt_n (c :: r) he
      generalize nxt pkF peF (c :: r) = x at *
      obtain ⟨xk, xt, xn, xe⟩ := x
      dsimp only at he hnx hcb2 n1 n2 n3 n4 hok
      subst he
      rw [hcr] at htr
      have hrs : (bs (c :: r)).size ≤ (bs l).size := by rw [bs_size, bs_size]; omega
      have hat3 : (((bs l).size : Nat) : Int) - (((bs (c :: r)).size : Nat) : Int) = ((l.length - (c :: r).length : Nat) : Int) := by rw [bs_size, bs_size]; omega
      have h1000' : ¬ ((acc.length : Nat) : Int) = 1000 := by omega
      have hnew : (acc ++ [(⟨xk, xt, l.length - (c :: r).length⟩ : Tk)]).map tkC = acc.map tkC ++ [[.v (.int .u8 xk), .v (.string (bs xt)), .v (.int .i64 ((l.length - (c :: r).length : Nat) : Int))]] := by
        rw [List.map_append]; rfl
      replace hnx : FF 14 [.v (.string (bs (c :: r)))] = some (.tup [.agg [.v (.int .u8 xk), .v (.string (bs xt)), .v (.int .i64 0)], .v (.int .i64 (xn : Int)), .v (.int .i64 0)]) := hnx
      have hb1 : l.length - (c :: r).length + xn ≤ l.length := by omega
      have hb2 : l.length - (l.length - (c :: r).length + xn) < n := by omega
      clear hcb hle his ea hr hcr hok n3 n4 hdrop
      generalize hP : l.length - (c :: r).length = P at *
      have hat3 : (((bs l).size : Nat) : Int) - (((bs (c :: r)).size : Nat) : Int) = (P : Int) := hat3
      have hP : Hid (_ = _) := hP
      generalize bs (c :: r) = e at *
      generalize bs (l.drop at') = u at *
      generalize bs l = s at *
      repeat' (first | (intro hc; (try simp only [bne_eq_false_iff_eq, bne_iff_ne, beq_iff_eq, beq_eq_false_iff_ne, Bool.not_eq_true', Bool.not_eq_false', decide_eq_true_eq, decide_eq_false_iff_not] at hc); (try replace hc := eq_true (show (_ : ByteArray) = _ from hc)); (try (exfalso; first | omega | exact hc trivial | exact hc))) | refine And.intro (show okTr _ _ = true by kernel_rfl) ?_ | refine And.intro ?_ ?_ | refine stp_guard ?_ ?_ | refine stq_guard ?_ ?_ | refine dwp_seq ?_ | refine dwp_block ?_ | ((first | refine dwp_region ?_ | refine dwp_any ?_ | refine dwp_skip ?_ | refine dwp_exit ?_ | refine dwp_ret ?_ | refine dwp_if ?_ | skip); (simp only [go_sem, beq_true, beq_false, Bool.true_beq, Bool.false_beq, Bool.bne_true, Bool.bne_false, Bool.true_bne, Bool.false_bne, Option.isSome_none, ne_eq, Int.cast_ofNat_Int, ↓reduceIte, reduceCtorEq, Nat.reduceBEq, Nat.reduceEqDiff, Nat.reduceLT, Nat.reduceLeDiff, Nat.reduceAdd, Nat.reduceMul, Nat.reducePow, Nat.reduceSub, Int.reduceEq, Int.reduceLT, Int.reduceLE, Int.reduceToNat, Int.reduceMul, Int.reduceNeg, Int.reduceAdd, Int.reduceSub, Int.toNat_natCast, Int.sub_zero, List.length_map, *]; try simp (disch := (first | omega | (simp only [ByteArray.size_append, bs_size, lit_size, cut_size, List.length_append, List.length_cons, List.length_nil]; omega))) only [sls2S, sls_lS, sls_hS, bop_sadd, List.length_drop, List.length_take, List.length_append, ite_ok, w_i64, w_u64, w_u8, w_u32, w_u16, w_i32, room_le, tm_nn, td_nn, nsucc, apSK_ok])) | simp (disch := (first | omega | (simp only [ByteArray.size_append, bs_size, lit_size, cut_size, List.length_append, List.length_cons, List.length_nil]; omega))) only [sls2S, sls_lS, sls_hS, bop_sadd, List.length_drop, List.length_take, List.length_append, ite_ok, w_i64, w_u64, w_u8, w_u32, w_u16, w_i32, room_le, tm_nn, td_nn, nsucc, apSK_ok])
      refine ih2 n _ _ ?_ ?_ ?_ ⟨P + xn, acc ++ [⟨xk, xt, P⟩], hb1, hb2, ?_, ?_, ?_, ?_⟩
      · omega
      · (simp only [sameOn_cons, sameOn_one, sameOn_nil]; (try simp only [go_sem, beq_true, beq_false, Bool.true_beq, Bool.false_beq, Bool.bne_true, Bool.bne_false, Bool.true_bne, Bool.false_bne, Option.isSome_none, ne_eq, Int.cast_ofNat_Int, ↓reduceIte, reduceCtorEq, Nat.reduceBEq, Nat.reduceEqDiff, Nat.reduceLT, Nat.reduceLeDiff, Nat.reduceAdd, Nat.reduceMul, Nat.reducePow, Nat.reduceSub, Int.reduceEq, Int.reduceLT, Int.reduceLE, Int.reduceToNat, Int.reduceMul, Int.reduceNeg, Int.reduceAdd, Int.reduceSub, *]); (try trivial))
      · (simp only [sameOn_cons, sameOn_one, sameOn_nil]; (try simp only [go_sem, beq_true, beq_false, Bool.true_beq, Bool.false_beq, Bool.bne_true, Bool.bne_false, Bool.true_bne, Bool.false_bne, Option.isSome_none, ne_eq, Int.cast_ofNat_Int, ↓reduceIte, reduceCtorEq, Nat.reduceBEq, Nat.reduceEqDiff, Nat.reduceLT, Nat.reduceLeDiff, Nat.reduceAdd, Nat.reduceMul, Nat.reducePow, Nat.reduceSub, Int.reduceEq, Int.reduceLT, Int.reduceLE, Int.reduceToNat, Int.reduceMul, Int.reduceNeg, Int.reduceAdd, Int.reduceSub, *]); (try trivial))
      · rw [List.length_append]; show acc.length + 1 ≤ 1000; omega
      · rw [List.length_append]; exact hcb2
      · simp only [go_sem, beq_true, beq_false, Bool.true_beq, Bool.false_beq, Bool.bne_true, Bool.bne_false, Bool.true_bne, Bool.false_bne, Option.isSome_none, ne_eq, Int.cast_ofNat_Int, ↓reduceIte, reduceCtorEq, Nat.reduceBEq, Nat.reduceEqDiff, Nat.reduceLT, Nat.reduceLeDiff, Nat.reduceAdd, Nat.reduceMul, Nat.reducePow, Nat.reduceSub, Int.reduceEq, Int.reduceLT, Int.reduceLE, Int.reduceToNat, Int.reduceMul, Int.reduceNeg, Int.reduceAdd, Int.reduceSub]
        try exact congrArg (fun z => D.v (.int .i64 z)) (Int.natCast_add _ _).symm
      · rw [hnew]
        simp only [go_sem, beq_true, beq_false, Bool.true_beq, Bool.false_beq, Bool.bne_true, Bool.bne_false, Bool.true_bne, Bool.false_bne, Option.isSome_none, ne_eq, Int.cast_ofNat_Int, ↓reduceIte, reduceCtorEq, Nat.reduceBEq, Nat.reduceEqDiff, Nat.reduceLT, Nat.reduceLeDiff, Nat.reduceAdd, Nat.reduceMul, Nat.reducePow, Nat.reduceSub, Int.reduceEq, Int.reduceLT, Int.reduceLE, Int.reduceToNat, Int.reduceMul, Int.reduceNeg, Int.reduceAdd, Int.reduceSub]
    · obtain ⟨n1, rfl⟩ : ∃ n1, n1 = (nxt pkF peF (c :: r)).e := ⟨_, rfl⟩
      have hz : Z = ([], (nxt pkF peF (c :: r)).e) := by
        rw [← show comb acc (tkz pkF peF (n + 1) (l.drop at') at' acc.length) = Z from hcb, tkz, if_neg hr, if_neg h1000, hcr, if_pos he]
        simp [comb, he]
      subst hz
      have e1 : finD ([], (nxt pkF peF (c :: r)).e) = .tup [.sl [], .v (.int .i64 (nxt pkF peF (c :: r)).e)] := by simp [finD, he]
      rw [e1]
      generalize (nxt pkF peF (c :: r)).e = ee at *
      rw [hcr] at htr
      have hrs : (bs (c :: r)).size ≤ (bs l).size := by rw [bs_size, bs_size]; omega
      have h1000' : ¬ ((acc.length : Nat) : Int) = 1000 := by omega
      replace hnx : FF 14 [.v (.string (bs (c :: r)))] = some (.tup [.agg [.v (.int .u8 k), .v (.string (bs t)), .v (.int .i64 0)], .v (.int .i64 m), .v (.int .i64 ee)]) := hnx
      clear hcb hle his ea hr hcr hok hdrop
      generalize bs (c :: r) = e at *
      generalize bs (l.drop at') = u at *
      generalize bs l = s at *
      repeat' (first | (intro hc; (try simp only [bne_eq_false_iff_eq, bne_iff_ne, beq_iff_eq, beq_eq_false_iff_ne, Bool.not_eq_true', Bool.not_eq_false', decide_eq_true_eq, decide_eq_false_iff_not] at hc); (try replace hc := eq_true (show (_ : ByteArray) = _ from hc)); (try (exfalso; first | omega | exact hc trivial | exact hc))) | refine And.intro (show okTr _ _ = true by kernel_rfl) ?_ | refine And.intro ?_ ?_ | refine stp_guard ?_ ?_ | refine stq_guard ?_ ?_ | refine dwp_seq ?_ | refine dwp_block ?_ | ((first | refine dwp_region ?_ | refine dwp_any ?_ | refine dwp_skip ?_ | refine dwp_exit ?_ | refine dwp_ret ?_ | refine dwp_if ?_ | skip); (simp only [go_sem, beq_true, beq_false, Bool.true_beq, Bool.false_beq, Bool.bne_true, Bool.bne_false, Bool.true_bne, Bool.false_bne, Option.isSome_none, ne_eq, Int.cast_ofNat_Int, ↓reduceIte, reduceCtorEq, Nat.reduceBEq, Nat.reduceEqDiff, Nat.reduceLT, Nat.reduceLeDiff, Nat.reduceAdd, Nat.reduceMul, Nat.reducePow, Nat.reduceSub, Int.reduceEq, Int.reduceLT, Int.reduceLE, Int.reduceToNat, Int.reduceMul, Int.reduceNeg, Int.reduceAdd, Int.reduceSub, Int.toNat_natCast, Int.sub_zero, List.length_map, *]; try simp (disch := (first | omega | (simp only [ByteArray.size_append, bs_size, lit_size, cut_size, List.length_append, List.length_cons, List.length_nil]; omega))) only [sls2S, sls_lS, sls_hS, bop_sadd, List.length_drop, List.length_take, List.length_append, ite_ok, w_i64, w_u64, w_u8, w_u32, w_u16, w_i32, room_le, tm_nn, td_nn, nsucc, apSK_ok])) | simp (disch := (first | omega | (simp only [ByteArray.size_append, bs_size, lit_size, cut_size, List.length_append, List.length_cons, List.length_nil]; omega))) only [sls2S, sls_lS, sls_hS, bop_sadd, List.length_drop, List.length_take, List.length_append, ite_ok, w_i64, w_u64, w_u8, w_u32, w_u16, w_i32, room_le, tm_nn, td_nn, nsucc, apSK_ok])
end Go.Proofs.YtcdeidljcmlfdaaDoor
