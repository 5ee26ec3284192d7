/- What is written reads back, and what reads was written so (the session's own words). -/
import Derived.Test.YtjdkcedhmfgmoaaDoorVh
namespace Go.Proofs.YtjdkcedhmfgmoaaDoor
open Go Go.Eng Go.Proofs
set_option linter.unusedVariables false
set_option linter.unusedSimpArgs false
set_option maxRecDepth 100000
set_option maxHeartbeats 4000000
theorem bt_lit (a b c d : UInt8) : bt (⟨#[a, b, c, d]⟩ : ByteArray) 0 = (a.toNat : Int) := by rw [btG _ 0 (by show (0 : Nat) < 4; decide)]; rfl
theorem bt_lit5 (a b c d e : UInt8) : bt (⟨#[a, b, c, d, e]⟩ : ByteArray) 0 = (a.toNat : Int) := by rw [btG _ 0 (by show (0 : Nat) < 5; decide)]; rfl
theorem bt_q (l : List UInt8) : bt (bs ([39] ++ l ++ [39])) 0 = 39 := by rw [btG _ 0 (by rw [bs_size]; simp)]; rfl
theorem show_rd (v : Val) (hi : inI64 v.int) (h : mayV v = true) : rd (bs (vshow v)) = (v, true) := by
  obtain ⟨k, n, t⟩ := v
  unfold mayV at h
  simp only at h hi
  unfold vshow
  simp only
  by_cases k0 : k = 0
  · subst k0
    rw [if_pos rfl] at h
    simp only [Bool.and_eq_true, decide_eq_true_eq] at h
    obtain ⟨rfl, rfl⟩ := h
    rw [if_neg (by decide), if_neg (by decide), if_neg (by decide)]
    unfold rd
    rw [if_pos (show bs [78, 85, 76, 76] = ⟨#[78, 85, 76, 76]⟩ from rfl)]
    rfl
  rw [if_neg k0] at h
  by_cases k1 : k = 1
  · subst k1
    rw [if_pos rfl] at h ⊢
    simp only [decide_eq_true_eq] at h
    subst h
    have hb := itoa_bt n
    have n1 : ¬ bs (Lib.itoa n) = ⟨#[78, 85, 76, 76]⟩ := fun e => hb.1 (by rw [e, bt_lit]; rfl)
    have n2 : ¬ bs (Lib.itoa n) = ⟨#[84, 82, 85, 69]⟩ := fun e => hb.2.1 (by rw [e, bt_lit]; rfl)
    have n3 : ¬ bs (Lib.itoa n) = ⟨#[70, 65, 76, 83, 69]⟩ := fun e => hb.2.2.1 (by rw [e, bt_lit5]; rfl)
    rw [rd_n n1 n2 n3 (unq_num (num_itoa n hi)), num_itoa n hi]
  rw [if_neg k1] at h ⊢
  by_cases k2 : k = 2
  · subst k2
    rw [if_pos rfl] at h ⊢
    simp only [Bool.and_eq_true, Bool.or_eq_true, decide_eq_true_eq] at h
    obtain ⟨rfl, rfl | rfl⟩ := h
    · rw [if_pos rfl]
      unfold rd
      rw [if_neg (fun e => by cases bs_inj (b := [78, 85, 76, 76]) e), if_neg (fun e => by cases bs_inj (b := [84, 82, 85, 69]) e), if_pos (show bs [70, 65, 76, 83, 69] = ⟨#[70, 65, 76, 83, 69]⟩ from rfl)]
    · rw [if_neg (by decide)]
      unfold rd
      rw [if_neg (fun e => by cases bs_inj (b := [78, 85, 76, 76]) e), if_pos (show bs [84, 82, 85, 69] = ⟨#[84, 82, 85, 69]⟩ from rfl)]
  rw [if_neg k2] at h ⊢
  by_cases k3 : k = 3
  · subst k3
    rw [if_pos rfl] at h ⊢
    simp only [Bool.and_eq_true, decide_eq_true_eq] at h
    obtain ⟨rfl, hz⟩ := h
    have hb := bt_q (dbl (bl t))
    have n1 : ¬ bs ([39] ++ dbl (bl t) ++ [39]) = ⟨#[78, 85, 76, 76]⟩ := fun e => by rw [e, bt_lit] at hb; revert hb; decide
    have n2 : ¬ bs ([39] ++ dbl (bl t) ++ [39]) = ⟨#[84, 82, 85, 69]⟩ := fun e => by rw [e, bt_lit] at hb; revert hb; decide
    have n3 : ¬ bs ([39] ++ dbl (bl t) ++ [39]) = ⟨#[70, 65, 76, 83, 69]⟩ := fun e => by rw [e, bt_lit5] at hb; revert hb; decide
    rw [rd_q n1 n2 n3 (unq_dbl t), if_pos hz]
  · rw [if_neg k3] at h
    cases h
theorem rd_show (s : ByteArray) (h : (rd s).2 = true) : bs (vshow (rd s).1) = s ∧ mayV (rd s).1 = true ∧ inI64 (rd s).1.int := by
  by_cases n1 : s = ⟨#[78, 85, 76, 76]⟩
  · have e : rd s = (zV, true) := by unfold rd; rw [if_pos n1]
    rw [e, n1]
    exact ⟨rfl, rfl, by decide, by decide⟩
  by_cases n2 : s = ⟨#[84, 82, 85, 69]⟩
  · have e : rd s = (⟨2, 1, ⟨#[]⟩⟩, true) := by unfold rd; rw [if_neg n1, if_pos n2]
    rw [e, n2]
    exact ⟨rfl, rfl, by decide, by decide⟩
  by_cases n3 : s = ⟨#[70, 65, 76, 83, 69]⟩
  · have e : rd s = (⟨2, 0, ⟨#[]⟩⟩, true) := by unfold rd; rw [if_neg n1, if_neg n2, if_pos n3]
    rw [e, n3]
    exact ⟨rfl, rfl, by decide, by decide⟩
  cases hu : unq s with
  | some x =>
    have e := rd_q n1 n2 n3 hu
    by_cases hx : x.size ≤ 48
    · rw [if_pos hx] at e
      rw [e]
      refine ⟨(unq_some hu).symm, ?_, by show -9223372036854775808 ≤ (0 : Int); decide, by show (0 : Int) ≤ 9223372036854775807; decide⟩
      unfold mayV
      simp [hx]
    · rw [if_neg hx] at e
      rw [e] at h
      cases h
  | none =>
    have e := rd_n n1 n2 n3 hu
    cases hn : num s with
    | some n =>
      rw [hn] at e
      simp only at e
      rw [e]
      have := num_some hn
      exact ⟨this.2.symm, rfl, this.1⟩
    | none =>
      rw [hn] at e
      simp only at e
      rw [e] at h
      cases h
theorem rd_text (s : ByteArray) (h : (rd s).2 = true) : (rd s).1.text.size ≤ 100000 := by
  have := (rd_show s h).2.1
  unfold mayV at this
  split at this
  · simp only [Bool.and_eq_true, decide_eq_true_eq] at this; rw [this.2]; decide
  · split at this
    · simp only [decide_eq_true_eq] at this; rw [this]; decide
    · split at this
      · simp only [Bool.and_eq_true, decide_eq_true_eq] at this; rw [this.1]; decide
      · split at this
        · simp only [Bool.and_eq_true, decide_eq_true_eq] at this; omega
        · cases this
theorem vshow_size (v : Val) (hi : inI64 v.int) (ht : v.text.size ≤ 100000) : (bs (vshow v)).size ≤ 300000 := by
  rw [bs_size]
  unfold vshow
  have := Lib.itoa_length_le v.int hi.1 hi.2
  have h2 := dbl_len (bl v.text)
  rw [bl_size] at h2
  split
  · omega
  · split
    · split <;> decide
    · split
      · simp; omega
      · decide
theorem valShows (v : Val) (hi : inI64 v.int) (ht : v.text.size ≤ maxLen) : FF 7 [.agg (valCells v)] = some (.v (.bool true)) := by
  have hf := fixedV
  obtain ⟨_, h1, b1, rfl, hb1⟩ := greatV [v] (by unfold maxLen; simp)
  simp only [List.map_cons, List.map_nil, vc_eq] at h1
  cases b1
  case true =>
    clear hb1
    refine FF_val Tryd.func7 rfl rfl ?_
    simp only [Tryd.ntmps7, Tryd.results7]
    repeat' (first | (intro hc; (try simp only [bne_eq_false_iff_eq, bne_iff_ne, beq_iff_eq, beq_eq_false_iff_ne, Bool.not_eq_true', Bool.not_eq_false', decide_eq_true_eq, decide_eq_false_iff_not] at hc); (try replace hc := eq_true (show (_ : ByteArray) = _ from hc)); (try (exfalso; first | omega | exact hc trivial | exact hc))) | refine And.intro (show okTr _ _ = true by kernel_rfl) ?_ | refine And.intro ?_ ?_ | refine stp_guard ?_ ?_ | refine stq_guard ?_ ?_ | refine dwp_seq ?_ | refine dwp_block ?_ | ((first | refine dwp_region ?_ | refine dwp_any ?_ | refine dwp_skip ?_ | refine dwp_exit ?_ | refine dwp_ret ?_ | refine dwp_if ?_ | skip); (simp only [go_sem, beq_true, beq_false, Bool.true_beq, Bool.false_beq, Bool.bne_true, Bool.bne_false, Bool.true_bne, Bool.false_bne, Option.isSome_none, ne_eq, Int.cast_ofNat_Int, ↓reduceIte, reduceCtorEq, Nat.reduceBEq, Nat.reduceEqDiff, Nat.reduceLT, Nat.reduceLeDiff, Nat.reduceAdd, Nat.reduceMul, Nat.reducePow, Nat.reduceSub, Int.reduceEq, Int.reduceLT, Int.reduceLE, Int.reduceToNat, Int.reduceMul, Int.reduceNeg, Int.reduceAdd, Int.reduceSub, *]; try simp (disch := (first | omega | (simp only [ByteArray.size_append, bs_size, lit_size, cut_size, List.length_append, List.length_cons, List.length_nil]; omega))) only [sls2S, sls_lS, sls_hS, bop_sadd, List.length_drop, List.length_take, List.length_append, ite_ok, w_i64, w_u64, w_u8, w_u32, w_u16, w_i32, room_le, tm_nn, td_nn, nsucc])) | simp (disch := (first | omega | (simp only [ByteArray.size_append, bs_size, lit_size, cut_size, List.length_append, List.length_cons, List.length_nil]; omega))) only [sls2S, sls_lS, sls_hS, bop_sadd, List.length_drop, List.length_take, List.length_append, ite_ok, w_i64, w_u64, w_u8, w_u32, w_u16, w_i32, room_le, tm_nn, td_nn, nsucc])
  obtain ⟨_, hsm⟩ := hb1 rfl
  have hz : v.text.size ≤ 9000 := hsm v (by simp)
  have e1 := showP v hi (by omega)
  have e2 := showR v hi (by omega)
  have e3 := readP (bs (vshow v)) (vshow_size v hi (by omega))
  have e4 := mayR v
  have e5 := show_rd v hi
  cases hm : mayV v with
  | true =>
    rw [e5 hm] at e3
    rw [hm] at e4
    simp only [vc_eq] at e1 e2 e3 e4
    generalize bs (vshow v) = s at *
    clear hsm hb1 e5 hm ht hi
    refine FF_val Tryd.func7 rfl rfl ?_
    simp only [Tryd.ntmps7, Tryd.results7]
    repeat' (first | (intro hc; (try simp only [bne_eq_false_iff_eq, bne_iff_ne, beq_iff_eq, beq_eq_false_iff_ne, Bool.not_eq_true', Bool.not_eq_false', decide_eq_true_eq, decide_eq_false_iff_not] at hc); (try replace hc := eq_true (show (_ : ByteArray) = _ from hc)); (try (exfalso; first | omega | exact hc trivial | exact hc))) | refine And.intro (show okTr _ _ = true by kernel_rfl) ?_ | refine And.intro ?_ ?_ | refine stp_guard ?_ ?_ | refine stq_guard ?_ ?_ | refine dwp_seq ?_ | refine dwp_block ?_ | ((first | refine dwp_region ?_ | refine dwp_any ?_ | refine dwp_skip ?_ | refine dwp_exit ?_ | refine dwp_ret ?_ | refine dwp_if ?_ | skip); (simp only [go_sem, beq_true, beq_false, Bool.true_beq, Bool.false_beq, Bool.bne_true, Bool.bne_false, Bool.true_bne, Bool.false_bne, Option.isSome_none, ne_eq, Int.cast_ofNat_Int, ↓reduceIte, reduceCtorEq, Nat.reduceBEq, Nat.reduceEqDiff, Nat.reduceLT, Nat.reduceLeDiff, Nat.reduceAdd, Nat.reduceMul, Nat.reducePow, Nat.reduceSub, Int.reduceEq, Int.reduceLT, Int.reduceLE, Int.reduceToNat, Int.reduceMul, Int.reduceNeg, Int.reduceAdd, Int.reduceSub, *]; try simp (disch := (first | omega | (simp only [ByteArray.size_append, bs_size, lit_size, cut_size, List.length_append, List.length_cons, List.length_nil]; omega))) only [sls2S, sls_lS, sls_hS, bop_sadd, List.length_drop, List.length_take, List.length_append, ite_ok, w_i64, w_u64, w_u8, w_u32, w_u16, w_i32, room_le, tm_nn, td_nn, nsucc])) | simp (disch := (first | omega | (simp only [ByteArray.size_append, bs_size, lit_size, cut_size, List.length_append, List.length_cons, List.length_nil]; omega))) only [sls2S, sls_lS, sls_hS, bop_sadd, List.length_drop, List.length_take, List.length_append, ite_ok, w_i64, w_u64, w_u8, w_u32, w_u16, w_i32, room_le, tm_nn, td_nn, nsucc])
  | false =>
    rw [hm] at e4
    simp only [vc_eq] at e1 e2 e3 e4
    generalize bs (vshow v) = s at *
    generalize rd s = p at *
    obtain ⟨w, b⟩ := p
    simp only at e3
    clear hsm hb1 e5 hm ht hi
    refine FF_val Tryd.func7 rfl rfl ?_
    simp only [Tryd.ntmps7, Tryd.results7]
    repeat' (first | (intro hc; (try simp only [bne_eq_false_iff_eq, bne_iff_ne, beq_iff_eq, beq_eq_false_iff_ne, Bool.not_eq_true', Bool.not_eq_false', decide_eq_true_eq, decide_eq_false_iff_not] at hc); (try replace hc := eq_true (show (_ : ByteArray) = _ from hc)); (try (exfalso; first | omega | exact hc trivial | exact hc))) | refine And.intro (show okTr _ _ = true by kernel_rfl) ?_ | refine And.intro ?_ ?_ | refine stp_guard ?_ ?_ | refine stq_guard ?_ ?_ | refine dwp_seq ?_ | refine dwp_block ?_ | ((first | refine dwp_region ?_ | refine dwp_any ?_ | refine dwp_skip ?_ | refine dwp_exit ?_ | refine dwp_ret ?_ | refine dwp_if ?_ | skip); (simp only [go_sem, beq_true, beq_false, Bool.true_beq, Bool.false_beq, Bool.bne_true, Bool.bne_false, Bool.true_bne, Bool.false_bne, Option.isSome_none, ne_eq, Int.cast_ofNat_Int, ↓reduceIte, reduceCtorEq, Nat.reduceBEq, Nat.reduceEqDiff, Nat.reduceLT, Nat.reduceLeDiff, Nat.reduceAdd, Nat.reduceMul, Nat.reducePow, Nat.reduceSub, Int.reduceEq, Int.reduceLT, Int.reduceLE, Int.reduceToNat, Int.reduceMul, Int.reduceNeg, Int.reduceAdd, Int.reduceSub, *]; try simp (disch := (first | omega | (simp only [ByteArray.size_append, bs_size, lit_size, cut_size, List.length_append, List.length_cons, List.length_nil]; omega))) only [sls2S, sls_lS, sls_hS, bop_sadd, List.length_drop, List.length_take, List.length_append, ite_ok, w_i64, w_u64, w_u8, w_u32, w_u16, w_i32, room_le, tm_nn, td_nn, nsucc])) | simp (disch := (first | omega | (simp only [ByteArray.size_append, bs_size, lit_size, cut_size, List.length_append, List.length_cons, List.length_nil]; omega))) only [sls2S, sls_lS, sls_hS, bop_sadd, List.length_drop, List.length_take, List.length_append, ite_ok, w_i64, w_u64, w_u8, w_u32, w_u16, w_i32, room_le, tm_nn, td_nn, nsucc])
theorem valReads (s : ByteArray) : FF 8 [.v (.string s)] = some (.v (.bool true)) := by
  have hf := fixedV
  by_cases hs : 3000 < s.size
  · have hs' : (3000 : Int) < (s.size : Int) := by omega
    refine FF_val Tryd.func8 rfl rfl ?_
    simp only [Tryd.ntmps8, Tryd.results8]
    repeat' (first | (intro hc; (try simp only [bne_eq_false_iff_eq, bne_iff_ne, beq_iff_eq, beq_eq_false_iff_ne, Bool.not_eq_true', Bool.not_eq_false', decide_eq_true_eq, decide_eq_false_iff_not] at hc); (try replace hc := eq_true (show (_ : ByteArray) = _ from hc)); (try (exfalso; first | omega | exact hc trivial | exact hc))) | refine And.intro (show okTr _ _ = true by kernel_rfl) ?_ | refine And.intro ?_ ?_ | refine stp_guard ?_ ?_ | refine stq_guard ?_ ?_ | refine dwp_seq ?_ | refine dwp_block ?_ | ((first | refine dwp_region ?_ | refine dwp_any ?_ | refine dwp_skip ?_ | refine dwp_exit ?_ | refine dwp_ret ?_ | refine dwp_if ?_ | skip); (simp only [go_sem, beq_true, beq_false, Bool.true_beq, Bool.false_beq, Bool.bne_true, Bool.bne_false, Bool.true_bne, Bool.false_bne, Option.isSome_none, ne_eq, Int.cast_ofNat_Int, ↓reduceIte, reduceCtorEq, Nat.reduceBEq, Nat.reduceEqDiff, Nat.reduceLT, Nat.reduceLeDiff, Nat.reduceAdd, Nat.reduceMul, Nat.reducePow, Nat.reduceSub, Int.reduceEq, Int.reduceLT, Int.reduceLE, Int.reduceToNat, Int.reduceMul, Int.reduceNeg, Int.reduceAdd, Int.reduceSub, *]; try simp (disch := (first | omega | (simp only [ByteArray.size_append, bs_size, lit_size, cut_size, List.length_append, List.length_cons, List.length_nil]; omega))) only [sls2S, sls_lS, sls_hS, bop_sadd, List.length_drop, List.length_take, List.length_append, ite_ok, w_i64, w_u64, w_u8, w_u32, w_u16, w_i32, room_le, tm_nn, td_nn, nsucc])) | simp (disch := (first | omega | (simp only [ByteArray.size_append, bs_size, lit_size, cut_size, List.length_append, List.length_cons, List.length_nil]; omega))) only [sls2S, sls_lS, sls_hS, bop_sadd, List.length_drop, List.length_take, List.length_append, ite_ok, w_i64, w_u64, w_u8, w_u32, w_u16, w_i32, room_le, tm_nn, td_nn, nsucc])
  have e1 := readP s (by omega)
  have e2 := readR s (by omega)
  have e3 := rd_show s
  have e4 := rd_text s
  have hs' : ¬ (3000 : Int) < (s.size : Int) := by omega
  generalize rd s = p at *
  obtain ⟨w, b⟩ := p
  cases b with
  | true =>
    obtain ⟨r1, r2, r3⟩ := e3 rfl
    have e5 := showP w r3 (e4 rfl)
    have e6 := mayP w
    simp only at r1 r2
    rw [r1] at e5
    rw [r2] at e6
    simp only [vc_eq] at e1 e2 e5 e6
    clear e3 e4 r1 r2 r3 hs
    refine FF_val Tryd.func8 rfl rfl ?_
    simp only [Tryd.ntmps8, Tryd.results8]
    repeat' (first | (intro hc; (try simp only [bne_eq_false_iff_eq, bne_iff_ne, beq_iff_eq, beq_eq_false_iff_ne, Bool.not_eq_true', Bool.not_eq_false', decide_eq_true_eq, decide_eq_false_iff_not] at hc); (try replace hc := eq_true (show (_ : ByteArray) = _ from hc)); (try (exfalso; first | omega | exact hc trivial | exact hc))) | refine And.intro (show okTr _ _ = true by kernel_rfl) ?_ | refine And.intro ?_ ?_ | refine stp_guard ?_ ?_ | refine stq_guard ?_ ?_ | refine dwp_seq ?_ | refine dwp_block ?_ | ((first | refine dwp_region ?_ | refine dwp_any ?_ | refine dwp_skip ?_ | refine dwp_exit ?_ | refine dwp_ret ?_ | refine dwp_if ?_ | skip); (simp only [go_sem, beq_true, beq_false, Bool.true_beq, Bool.false_beq, Bool.bne_true, Bool.bne_false, Bool.true_bne, Bool.false_bne, Option.isSome_none, ne_eq, Int.cast_ofNat_Int, ↓reduceIte, reduceCtorEq, Nat.reduceBEq, Nat.reduceEqDiff, Nat.reduceLT, Nat.reduceLeDiff, Nat.reduceAdd, Nat.reduceMul, Nat.reducePow, Nat.reduceSub, Int.reduceEq, Int.reduceLT, Int.reduceLE, Int.reduceToNat, Int.reduceMul, Int.reduceNeg, Int.reduceAdd, Int.reduceSub, *]; try simp (disch := (first | omega | (simp only [ByteArray.size_append, bs_size, lit_size, cut_size, List.length_append, List.length_cons, List.length_nil]; omega))) only [sls2S, sls_lS, sls_hS, bop_sadd, List.length_drop, List.length_take, List.length_append, ite_ok, w_i64, w_u64, w_u8, w_u32, w_u16, w_i32, room_le, tm_nn, td_nn, nsucc])) | simp (disch := (first | omega | (simp only [ByteArray.size_append, bs_size, lit_size, cut_size, List.length_append, List.length_cons, List.length_nil]; omega))) only [sls2S, sls_lS, sls_hS, bop_sadd, List.length_drop, List.length_take, List.length_append, ite_ok, w_i64, w_u64, w_u8, w_u32, w_u16, w_i32, room_le, tm_nn, td_nn, nsucc])
  | false =>
    simp only [vc_eq] at e1 e2
    clear e3 e4 hs
    refine FF_val Tryd.func8 rfl rfl ?_
    simp only [Tryd.ntmps8, Tryd.results8]
    repeat' (first | (intro hc; (try simp only [bne_eq_false_iff_eq, bne_iff_ne, beq_iff_eq, beq_eq_false_iff_ne, Bool.not_eq_true', Bool.not_eq_false', decide_eq_true_eq, decide_eq_false_iff_not] at hc); (try replace hc := eq_true (show (_ : ByteArray) = _ from hc)); (try (exfalso; first | omega | exact hc trivial | exact hc))) | refine And.intro (show okTr _ _ = true by kernel_rfl) ?_ | refine And.intro ?_ ?_ | refine stp_guard ?_ ?_ | refine stq_guard ?_ ?_ | refine dwp_seq ?_ | refine dwp_block ?_ | ((first | refine dwp_region ?_ | refine dwp_any ?_ | refine dwp_skip ?_ | refine dwp_exit ?_ | refine dwp_ret ?_ | refine dwp_if ?_ | skip); (simp only [go_sem, beq_true, beq_false, Bool.true_beq, Bool.false_beq, Bool.bne_true, Bool.bne_false, Bool.true_bne, Bool.false_bne, Option.isSome_none, ne_eq, Int.cast_ofNat_Int, ↓reduceIte, reduceCtorEq, Nat.reduceBEq, Nat.reduceEqDiff, Nat.reduceLT, Nat.reduceLeDiff, Nat.reduceAdd, Nat.reduceMul, Nat.reducePow, Nat.reduceSub, Int.reduceEq, Int.reduceLT, Int.reduceLE, Int.reduceToNat, Int.reduceMul, Int.reduceNeg, Int.reduceAdd, Int.reduceSub, *]; try simp (disch := (first | omega | (simp only [ByteArray.size_append, bs_size, lit_size, cut_size, List.length_append, List.length_cons, List.length_nil]; omega))) only [sls2S, sls_lS, sls_hS, bop_sadd, List.length_drop, List.length_take, List.length_append, ite_ok, w_i64, w_u64, w_u8, w_u32, w_u16, w_i32, room_le, tm_nn, td_nn, nsucc])) | simp (disch := (first | omega | (simp only [ByteArray.size_append, bs_size, lit_size, cut_size, List.length_append, List.length_cons, List.length_nil]; omega))) only [sls2S, sls_lS, sls_hS, bop_sadd, List.length_drop, List.length_take, List.length_append, ite_ok, w_i64, w_u64, w_u8, w_u32, w_u16, w_i32, room_le, tm_nn, td_nn, nsucc])
end Go.Proofs.YtjdkcedhmfgmoaaDoor
