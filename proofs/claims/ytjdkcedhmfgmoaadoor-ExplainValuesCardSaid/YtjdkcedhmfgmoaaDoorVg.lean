/- How values read: numbers (the session's own words). -/
import Derived.Test.YtjdkcedhmfgmoaaDoorVf
namespace Go.Proofs.YtjdkcedhmfgmoaaDoor
open Go Go.Eng Go.Proofs
set_option linter.unusedVariables false
set_option linter.unusedSimpArgs false
set_option maxRecDepth 100000
set_option maxHeartbeats 4000000
/-- what has been read -/
def wd (s : ByteArray) (p i : Nat) : List UInt8 := ((bl s).take i).drop p
theorem wd_app (s : ByteArray) (p i : Nat) (h : p ≤ i) (hi : i ≤ s.size) : wd s p i ++ (bl s).drop i = (bl s).drop p := by
  unfold wd
  have hs := bl_size s
  conv => rhs; rw [← List.take_append_drop i (bl s)]
  rw [List.drop_append_of_le_length (by rw [List.length_take]; omega)]
theorem wd_one (s : ByteArray) (p i : Nat) (h : p ≤ i) (hi : i < s.size) : ∃ c : UInt8, wd s p (i + 1) = wd s p i ++ [c] ∧ bt s i = (c.toNat : Int) ∧ c ∈ (bl s).drop p := by
  have hs := bl_size s
  refine ⟨(bl s)[i]'(by omega), ?_, btG s i hi, ?_⟩
  · unfold wd
    rw [List.take_add_one, List.getElem?_eq_getElem (by omega), Option.toList_some, List.drop_append_of_le_length (by rw [List.length_take]; omega)]
  · rw [List.mem_iff_getElem]
    refine ⟨i - p, by rw [List.length_drop]; omega, ?_⟩
    rw [List.getElem_drop]
    congr 1
    omega
theorem wd_none (s : ByteArray) (p : Nat) : wd s p p = [] := by
  unfold wd
  rw [List.drop_of_length_le (by rw [List.length_take]; omega)]
/-- whether a sign stands ahead -/
def sgn (s : ByteArray) (p : Nat) : Prop := (p = 1 ∧ bt s 0 = 45) ∨ (p = 0 ∧ ¬ bt s 0 = 45)
theorem num_shape {s : ByteArray} {v : Int} (hv : inI64 v) (e : s = bs (Lib.itoa v)) (p : Nat) (hp : sgn s p) : p < s.size ∧ dgs ((bl s).drop p) ∧ vlD 0 ((bl s).drop p) = v.natAbs ∧ (p = 1 ↔ v < 0) := by
  subst e
  obtain ⟨d1, d2, d3⟩ := decDigits_spec v.natAbs
  by_cases h : v < 0
  · have e := itoa_neg v h
    have hp1 : p = 1 := by
      rcases hp with hp | hp
      · exact hp.1
      · refine absurd ?_ hp.2
        rw [btG _ 0 (by rw [bs_size, e]; simp)]
        simp only [bl_bs, e, List.getElem_cons_zero]
        decide
    subst hp1
    rw [e, bs_size, bl_bs, List.drop_succ_cons, List.drop_zero]
    refine ⟨?_, d1, d2, by simp [h]⟩
    cases hd : Lib.decDigits v.natAbs with
    | nil => exact absurd hd d3
    | cons c r => simp
  · have e := itoa_pos v h
    cases hd : Lib.decDigits v.natAbs with
    | nil => exact absurd hd d3
    | cons c r =>
      rw [hd] at d1 d2 e
      have hp1 : p = 0 := by
        rcases hp with hp | hp
        · have h4 := hp.2
          rw [btG _ 0 (by rw [bs_size, e]; simp)] at h4
          simp only [bl_bs, e, List.getElem_cons_zero] at h4
          have := d1 c (by simp)
          omega
        · exact hp.1
      subst hp1
      rw [e, bs_size, bl_bs, List.drop_zero]
      exact ⟨by simp, d1, d2, by simp [h]⟩
theorem num_bad {s : ByteArray} (p : Nat) (hp : sgn s p) (h : ¬ p < s.size) : num s = none :=
  num_none fun v hv e => h (num_shape hv e p hp).1
theorem num_char {s : ByteArray} (p : Nat) (hp : sgn s p) (c : UInt8) (h : c ∈ (bl s).drop p) (hc : ¬ (48 ≤ c.toNat ∧ c.toNat ≤ 57)) : num s = none :=
  num_none fun v hv e => hc ((num_shape hv e p hp).2.1 c h)
theorem num_big {s : ByteArray} (p i a : Nat) (hp : sgn s p) (h : p ≤ i) (hi : i ≤ s.size) (ha : vlD 0 (wd s p i) = a) (hb : 9223372036854775808 < a) : num s = none :=
  num_none fun v hv e => by
    have h3 := (num_shape hv e p hp).2.2.1
    rw [← wd_app s p i h hi, vlD_app, ha] at h3
    have := vlD_ge ((bl s).drop i) a
    unfold inI64 at hv
    omega
theorem num_end {s : ByteArray} (p a : Nat) (hp : sgn s p) (h : p ≤ s.size) (ha : vlD 0 (wd s p s.size) = a) (v : Int) (hv : inI64 v) (e : s = bs (Lib.itoa v)) : v.natAbs = a ∧ (p = 1 ↔ v < 0) := by
  have h3 := num_shape hv e p hp
  have hw := wd_app s p s.size h (Nat.le_refl _)
  rw [List.drop_of_length_le (by rw [bl_size]; omega), List.append_nil] at hw
  rw [← hw, ha] at h3
  exact ⟨h3.2.2.1.symm, h3.2.2.2⟩
theorem num_is {s : ByteArray} (p a : Nat) (hp : sgn s p) (h : p ≤ s.size) (ha : vlD 0 (wd s p s.size) = a) (n : Int) (hn : inI64 n) (hna : n.natAbs = a) (hs : p = 1 → n ≤ 0) (hs0 : p = 0 → 0 ≤ n) :
    (decide (bs (Lib.itoa n) = s) = true → num s = some n) ∧ (decide (bs (Lib.itoa n) = s) = false → num s = none) := by
  simp only [decide_eq_true_eq, decide_eq_false_iff_not]
  refine ⟨fun e => by rw [← e]; exact num_itoa n hn, fun e => num_none fun v hv e' => e ?_⟩
  obtain ⟨h1, h2⟩ := num_end p a hp h ha v hv e'
  have : v = n := by
    by_cases hv0 : v < 0
    · have := hs (h2.2 hv0); omega
    · have : ¬ p = 1 := fun hh => hv0 (h2.1 hh)
      have hp0 : p = 0 := by
        rcases hp with hp | hp <;> omega
      have := hs0 hp0; omega
  rw [← this]; exact e'.symm
theorem numberR (s : ByteArray) (hs : s.size ≤ 300000) : ∃ r, FF 54 [.v (.string s)] = some r ∧ ∃ n b, r = .tup [.v (.int .i64 n), .v (.bool b)] ∧ (b = true → num s = some n) ∧ (b = false → num s = none) := by
  refine FF_ex Tryd.func54 rfl rfl ?_
  simp only [Tryd.ntmps54, Tryd.results54]
  by_cases h0 : s.size = 0
  · have hu : num s = none := num_none fun v hv e => by
      have := (itoa_bt v).2.2.2.2
      rw [← e] at this
      omega
    have h00 : (s.size : Int) = 0 := by omega
    repeat' (first | (intro hc; (try simp only [bne_eq_false_iff_eq, bne_iff_ne, beq_iff_eq, beq_eq_false_iff_ne, Bool.not_eq_true', Bool.not_eq_false', decide_eq_true_eq, decide_eq_false_iff_not] at hc); (try replace hc := eq_true (show (_ : ByteArray) = _ from hc)); (try (exfalso; first | omega | exact hc trivial | exact hc))) | refine And.intro (show okTr _ _ = true by kernel_rfl) ?_ | refine And.intro ?_ ?_ | refine stp_guard ?_ ?_ | refine stq_guard ?_ ?_ | refine dwp_seq ?_ | refine dwp_block ?_ | ((first | refine dwp_region ?_ | refine dwp_any ?_ | refine dwp_skip ?_ | refine dwp_exit ?_ | refine dwp_ret ?_ | refine dwp_if ?_ | skip); (simp only [go_sem, beq_true, beq_false, Bool.true_beq, Bool.false_beq, Bool.bne_true, Bool.bne_false, Bool.true_bne, Bool.false_bne, Option.isSome_none, ne_eq, Int.cast_ofNat_Int, ↓reduceIte, reduceCtorEq, Nat.reduceBEq, Nat.reduceEqDiff, Nat.reduceLT, Nat.reduceLeDiff, Nat.reduceAdd, Nat.reduceMul, Nat.reducePow, Nat.reduceSub, Int.reduceEq, Int.reduceLT, Int.reduceLE, Int.reduceToNat, Int.reduceMul, Int.reduceNeg, Int.reduceAdd, Int.reduceSub, *]; try simp (disch := (first | omega | (simp only [ByteArray.size_append, bs_size, lit_size, cut_size, List.length_append, List.length_cons, List.length_nil]; omega))) only [sls2S, sls_lS, sls_hS, bop_sadd, List.length_drop, List.length_take, List.length_append, ite_ok, w_i64, w_u64, w_u8, w_u32, w_u16, w_i32, room_le, tm_nn, td_nn, nsucc, inx_strS, ix1])) | simp (disch := (first | omega | (simp only [ByteArray.size_append, bs_size, lit_size, cut_size, List.length_append, List.length_cons, List.length_nil]; omega))) only [sls2S, sls_lS, sls_hS, bop_sadd, List.length_drop, List.length_take, List.length_append, ite_ok, w_i64, w_u64, w_u8, w_u32, w_u16, w_i32, room_le, tm_nn, td_nn, nsucc, inx_strS, ix1])
    exact ⟨_, _, rfl, ⟨fun h => by (first | cases h | exact h.elim), fun _ => by (first | exact hu | trivial)⟩⟩
  by_cases h1 : bt s 0 = 45
  · have hp : sgn s 1 := .inl ⟨rfl, h1⟩
    by_cases hsz : s.size = 1
    · have hu := num_bad 1 hp (by omega)
      have h00 : (s.size : Int) = 1 := by omega
      clear hp
      repeat' (first | (intro hc; (try simp only [bne_eq_false_iff_eq, bne_iff_ne, beq_iff_eq, beq_eq_false_iff_ne, Bool.not_eq_true', Bool.not_eq_false', decide_eq_true_eq, decide_eq_false_iff_not] at hc); (try replace hc := eq_true (show (_ : ByteArray) = _ from hc)); (try (exfalso; first | omega | exact hc trivial | exact hc))) | refine And.intro (show okTr _ _ = true by kernel_rfl) ?_ | refine And.intro ?_ ?_ | refine stp_guard ?_ ?_ | refine stq_guard ?_ ?_ | refine dwp_seq ?_ | refine dwp_block ?_ | ((first | refine dwp_region ?_ | refine dwp_any ?_ | refine dwp_skip ?_ | refine dwp_exit ?_ | refine dwp_ret ?_ | refine dwp_if ?_ | skip); (simp only [go_sem, beq_true, beq_false, Bool.true_beq, Bool.false_beq, Bool.bne_true, Bool.bne_false, Bool.true_bne, Bool.false_bne, Option.isSome_none, ne_eq, Int.cast_ofNat_Int, ↓reduceIte, reduceCtorEq, Nat.reduceBEq, Nat.reduceEqDiff, Nat.reduceLT, Nat.reduceLeDiff, Nat.reduceAdd, Nat.reduceMul, Nat.reducePow, Nat.reduceSub, Int.reduceEq, Int.reduceLT, Int.reduceLE, Int.reduceToNat, Int.reduceMul, Int.reduceNeg, Int.reduceAdd, Int.reduceSub, *]; try simp (disch := (first | omega | (simp only [ByteArray.size_append, bs_size, lit_size, cut_size, List.length_append, List.length_cons, List.length_nil]; omega))) only [sls2S, sls_lS, sls_hS, bop_sadd, List.length_drop, List.length_take, List.length_append, ite_ok, w_i64, w_u64, w_u8, w_u32, w_u16, w_i32, room_le, tm_nn, td_nn, nsucc, inx_strS, ix1])) | simp (disch := (first | omega | (simp only [ByteArray.size_append, bs_size, lit_size, cut_size, List.length_append, List.length_cons, List.length_nil]; omega))) only [sls2S, sls_lS, sls_hS, bop_sadd, List.length_drop, List.length_take, List.length_append, ite_ok, w_i64, w_u64, w_u8, w_u32, w_u16, w_i32, room_le, tm_nn, td_nn, nsucc, inx_strS, ix1])
      exact ⟨_, _, rfl, ⟨fun h => by (first | cases h | exact h.elim), fun _ => by (first | exact hu | trivial)⟩⟩
    have hi0 : (1 : Int) < s.size := by omega
    repeat' (first | (intro hc; (try simp only [bne_eq_false_iff_eq, bne_iff_ne, beq_iff_eq, beq_eq_false_iff_ne, Bool.not_eq_true', Bool.not_eq_false', decide_eq_true_eq, decide_eq_false_iff_not] at hc); (try replace hc := eq_true (show (_ : ByteArray) = _ from hc)); (try (exfalso; first | omega | exact hc trivial | exact hc))) | refine And.intro (show okTr _ _ = true by kernel_rfl) ?_ | refine And.intro ?_ ?_ | refine stp_guard ?_ ?_ | refine stq_guard ?_ ?_ | refine dwp_seq ?_ | refine dwp_block ?_ | ((first | refine dwp_region ?_ | refine dwp_any ?_ | refine dwp_skip ?_ | refine dwp_exit ?_ | refine dwp_ret ?_ | refine dwp_if ?_ | skip); (simp only [go_sem, beq_true, beq_false, Bool.true_beq, Bool.false_beq, Bool.bne_true, Bool.bne_false, Bool.true_bne, Bool.false_bne, Option.isSome_none, ne_eq, Int.cast_ofNat_Int, ↓reduceIte, reduceCtorEq, Nat.reduceBEq, Nat.reduceEqDiff, Nat.reduceLT, Nat.reduceLeDiff, Nat.reduceAdd, Nat.reduceMul, Nat.reducePow, Nat.reduceSub, Int.reduceEq, Int.reduceLT, Int.reduceLE, Int.reduceToNat, Int.reduceMul, Int.reduceNeg, Int.reduceAdd, Int.reduceSub, *]; try simp (disch := (first | omega | (simp only [ByteArray.size_append, bs_size, lit_size, cut_size, List.length_append, List.length_cons, List.length_nil]; omega))) only [sls2S, sls_lS, sls_hS, bop_sadd, List.length_drop, List.length_take, List.length_append, ite_ok, w_i64, w_u64, w_u8, w_u32, w_u16, w_i32, room_le, tm_nn, td_nn, nsucc, inx_strS, ix1])) | simp (disch := (first | omega | (simp only [ByteArray.size_append, bs_size, lit_size, cut_size, List.length_append, List.length_cons, List.length_nil]; omega))) only [sls2S, sls_lS, sls_hS, bop_sadd, List.length_drop, List.length_take, List.length_append, ite_ok, w_i64, w_u64, w_u8, w_u32, w_u16, w_i32, room_le, tm_nn, td_nn, nsucc, inx_strS, ix1])
    refine dwp_indL [0, 5] [] (fun m f g => ∃ (i a : Nat), m = s.size - i ∧ 1 ≤ i ∧ i ≤ s.size ∧ vlD 0 (wd s 1 i) = a ∧ a ≤ 9223372036854775808 ∧ f 6 = .v (.int .i64 i) ∧ f 4 = .v (.int .i64 (-(a : Int)))) _ ⟨1, 0, rfl, Nat.le_refl _, by omega, by rw [wd_none]; rfl, by omega, ?_⟩ ?_
    · simp only [go_sem, beq_true, beq_false, Bool.true_beq, Bool.false_beq, Bool.bne_true, Bool.bne_false, Bool.true_bne, Bool.false_bne, Option.isSome_none, ne_eq, Int.cast_ofNat_Int, ↓reduceIte, reduceCtorEq, Nat.reduceBEq, Nat.reduceEqDiff, Nat.reduceLT, Nat.reduceLeDiff, Nat.reduceAdd, Nat.reduceMul, Nat.reducePow, Nat.reduceSub, Int.reduceEq, Int.reduceLT, Int.reduceLE, Int.reduceToNat, Int.reduceMul, Int.reduceNeg, Int.reduceAdd, Int.reduceSub]
      try exact rfl
    rintro m f g hL hG ⟨i, a, hm, hi1, hi2, ha, hab, hf6, hf4⟩ ih2
    (simp only [sameOn_cons, sameOn_one, sameOn_nil] at hL hG; (try simp only [go_sem, beq_true, beq_false, Bool.true_beq, Bool.false_beq, Bool.bne_true, Bool.bne_false, Bool.true_bne, Bool.false_bne, Option.isSome_none, ne_eq, Int.cast_ofNat_Int, ↓reduceIte, reduceCtorEq, Nat.reduceBEq, Nat.reduceEqDiff, Nat.reduceLT, Nat.reduceLeDiff, Nat.reduceAdd, Nat.reduceMul, Nat.reducePow, Nat.reduceSub, Int.reduceEq, Int.reduceLT, Int.reduceLE, Int.reduceToNat, Int.reduceMul, Int.reduceNeg, Int.reduceAdd, Int.reduceSub] at hL); (try simp only [go_sem, beq_true, beq_false, Bool.true_beq, Bool.false_beq, Bool.bne_true, Bool.bne_false, Bool.true_bne, Bool.false_bne, Option.isSome_none, ne_eq, Int.cast_ofNat_Int, ↓reduceIte, reduceCtorEq, Nat.reduceBEq, Nat.reduceEqDiff, Nat.reduceLT, Nat.reduceLeDiff, Nat.reduceAdd, Nat.reduceMul, Nat.reducePow, Nat.reduceSub, Int.reduceEq, Int.reduceLT, Int.reduceLE, Int.reduceToNat, Int.reduceMul, Int.reduceNeg, Int.reduceAdd, Int.reduceSub] at hG))
    rcases Nat.lt_or_ge i s.size with h | h
    · obtain ⟨c, e1, e2, e3⟩ := wd_one s 1 i hi1 h
      have e4 : vlD 0 (wd s 1 (i + 1)) = a * 10 + (c.toNat - 48) := by
        rw [e1, vlD_app, ha]
        rfl
      by_cases hc : 48 ≤ c.toNat ∧ c.toNat ≤ 57
      · obtain ⟨d, hd⟩ : ∃ d, c.toNat = 48 + d := ⟨c.toNat - 48, by omega⟩
        rw [show c.toNat - 48 = d by omega] at e4
        rw [hd] at e2
        have e2' : bt s i = 48 + (d : Int) := by rw [e2]; omega
        have hd9 : d ≤ 9 := by omega
        have hd8 : (48 : Int) + (d : Int) - 48 = d := by omega
        have hi5 : ((i : Int) + 1).toNat = i + 1 := by omega
        by_cases hbig : 9223372036854775808 < a * 10 + d
        · have hu := num_big 1 (i + 1) _ hp (by omega) h e4 hbig
          clear hp e1 e2 e3 e4 ha hd hc
          repeat' (first | (intro hc; (try simp only [bne_eq_false_iff_eq, bne_iff_ne, beq_iff_eq, beq_eq_false_iff_ne, Bool.not_eq_true', Bool.not_eq_false', decide_eq_true_eq, decide_eq_false_iff_not] at hc); (try replace hc := eq_true (show (_ : ByteArray) = _ from hc)); (try (exfalso; first | omega | exact hc trivial | exact hc))) | refine And.intro (show okTr _ _ = true by kernel_rfl) ?_ | refine And.intro ?_ ?_ | refine stp_guard ?_ ?_ | refine stq_guard ?_ ?_ | refine dwp_seq ?_ | refine dwp_block ?_ | ((first | refine dwp_region ?_ | refine dwp_any ?_ | refine dwp_skip ?_ | refine dwp_exit ?_ | refine dwp_ret ?_ | refine dwp_if ?_ | skip); (simp only [go_sem, beq_true, beq_false, Bool.true_beq, Bool.false_beq, Bool.bne_true, Bool.bne_false, Bool.true_bne, Bool.false_bne, Option.isSome_none, ne_eq, Int.cast_ofNat_Int, ↓reduceIte, reduceCtorEq, Nat.reduceBEq, Nat.reduceEqDiff, Nat.reduceLT, Nat.reduceLeDiff, Nat.reduceAdd, Nat.reduceMul, Nat.reducePow, Nat.reduceSub, Int.reduceEq, Int.reduceLT, Int.reduceLE, Int.reduceToNat, Int.reduceMul, Int.reduceNeg, Int.reduceAdd, Int.reduceSub, *]; try simp (disch := (first | omega | (simp only [ByteArray.size_append, bs_size, lit_size, cut_size, List.length_append, List.length_cons, List.length_nil]; omega))) only [sls2S, sls_lS, sls_hS, bop_sadd, List.length_drop, List.length_take, List.length_append, ite_ok, w_i64, w_u64, w_u8, w_u32, w_u16, w_i32, room_le, tm_nn, td_nn, nsucc, inx_strS, ix1])) | simp (disch := (first | omega | (simp only [ByteArray.size_append, bs_size, lit_size, cut_size, List.length_append, List.length_cons, List.length_nil]; omega))) only [sls2S, sls_lS, sls_hS, bop_sadd, List.length_drop, List.length_take, List.length_append, ite_ok, w_i64, w_u64, w_u8, w_u32, w_u16, w_i32, room_le, tm_nn, td_nn, nsucc, inx_strS, ix1])
          all_goals exact ⟨_, _, rfl, ⟨fun h => by (first | cases h | exact h.elim), fun _ => by (first | exact hu | trivial)⟩⟩
        · clear hp e1 e2 e3 ha hd hc
          repeat' (first | (intro hc; (try simp only [bne_eq_false_iff_eq, bne_iff_ne, beq_iff_eq, beq_eq_false_iff_ne, Bool.not_eq_true', Bool.not_eq_false', decide_eq_true_eq, decide_eq_false_iff_not] at hc); (try replace hc := eq_true (show (_ : ByteArray) = _ from hc)); (try (exfalso; first | omega | exact hc trivial | exact hc))) | refine And.intro (show okTr _ _ = true by kernel_rfl) ?_ | refine And.intro ?_ ?_ | refine stp_guard ?_ ?_ | refine stq_guard ?_ ?_ | refine dwp_seq ?_ | refine dwp_block ?_ | ((first | refine dwp_region ?_ | refine dwp_any ?_ | refine dwp_skip ?_ | refine dwp_exit ?_ | refine dwp_ret ?_ | refine dwp_if ?_ | skip); (simp only [go_sem, beq_true, beq_false, Bool.true_beq, Bool.false_beq, Bool.bne_true, Bool.bne_false, Bool.true_bne, Bool.false_bne, Option.isSome_none, ne_eq, Int.cast_ofNat_Int, ↓reduceIte, reduceCtorEq, Nat.reduceBEq, Nat.reduceEqDiff, Nat.reduceLT, Nat.reduceLeDiff, Nat.reduceAdd, Nat.reduceMul, Nat.reducePow, Nat.reduceSub, Int.reduceEq, Int.reduceLT, Int.reduceLE, Int.reduceToNat, Int.reduceMul, Int.reduceNeg, Int.reduceAdd, Int.reduceSub, *]; try simp (disch := (first | omega | (simp only [ByteArray.size_append, bs_size, lit_size, cut_size, List.length_append, List.length_cons, List.length_nil]; omega))) only [sls2S, sls_lS, sls_hS, bop_sadd, List.length_drop, List.length_take, List.length_append, ite_ok, w_i64, w_u64, w_u8, w_u32, w_u16, w_i32, room_le, tm_nn, td_nn, nsucc, inx_strS, ix1])) | simp (disch := (first | omega | (simp only [ByteArray.size_append, bs_size, lit_size, cut_size, List.length_append, List.length_cons, List.length_nil]; omega))) only [sls2S, sls_lS, sls_hS, bop_sadd, List.length_drop, List.length_take, List.length_append, ite_ok, w_i64, w_u64, w_u8, w_u32, w_u16, w_i32, room_le, tm_nn, td_nn, nsucc, inx_strS, ix1])
          all_goals refine ih2 _ _ _ ?_ ?_ ?_ ⟨i + 1, a * 10 + d, rfl, by omega, by omega, e4, by omega, ?_, ?_⟩
          all_goals first | omega | trivial | (simp only [sameOn_cons, sameOn_one, sameOn_nil]; (try simp only [go_sem, beq_true, beq_false, Bool.true_beq, Bool.false_beq, Bool.bne_true, Bool.bne_false, Bool.true_bne, Bool.false_bne, Option.isSome_none, ne_eq, Int.cast_ofNat_Int, ↓reduceIte, reduceCtorEq, Nat.reduceBEq, Nat.reduceEqDiff, Nat.reduceLT, Nat.reduceLeDiff, Nat.reduceAdd, Nat.reduceMul, Nat.reducePow, Nat.reduceSub, Int.reduceEq, Int.reduceLT, Int.reduceLE, Int.reduceToNat, Int.reduceMul, Int.reduceNeg, Int.reduceAdd, Int.reduceSub, *]); (try trivial)) | skip
          all_goals simp only [go_sem, beq_true, beq_false, Bool.true_beq, Bool.false_beq, Bool.bne_true, Bool.bne_false, Bool.true_bne, Bool.false_bne, Option.isSome_none, ne_eq, Int.cast_ofNat_Int, ↓reduceIte, reduceCtorEq, Nat.reduceBEq, Nat.reduceEqDiff, Nat.reduceLT, Nat.reduceLeDiff, Nat.reduceAdd, Nat.reduceMul, Nat.reducePow, Nat.reduceSub, Int.reduceEq, Int.reduceLT, Int.reduceLE, Int.reduceToNat, Int.reduceMul, Int.reduceNeg, Int.reduceAdd, Int.reduceSub]
          all_goals first | done | (refine congrArg (fun z => D.v (.int .i64 z)) ?_; omega)
      · have hu := num_char 1 hp c e3 hc
        clear hp e1 e3 e4 ha
        repeat' (first | (intro hc; (try simp only [bne_eq_false_iff_eq, bne_iff_ne, beq_iff_eq, beq_eq_false_iff_ne, Bool.not_eq_true', Bool.not_eq_false', decide_eq_true_eq, decide_eq_false_iff_not] at hc); (try replace hc := eq_true (show (_ : ByteArray) = _ from hc)); (try (exfalso; first | omega | exact hc trivial | exact hc))) | refine And.intro (show okTr _ _ = true by kernel_rfl) ?_ | refine And.intro ?_ ?_ | refine stp_guard ?_ ?_ | refine stq_guard ?_ ?_ | refine dwp_seq ?_ | refine dwp_block ?_ | ((first | refine dwp_region ?_ | refine dwp_any ?_ | refine dwp_skip ?_ | refine dwp_exit ?_ | refine dwp_ret ?_ | refine dwp_if ?_ | skip); (simp only [go_sem, beq_true, beq_false, Bool.true_beq, Bool.false_beq, Bool.bne_true, Bool.bne_false, Bool.true_bne, Bool.false_bne, Option.isSome_none, ne_eq, Int.cast_ofNat_Int, ↓reduceIte, reduceCtorEq, Nat.reduceBEq, Nat.reduceEqDiff, Nat.reduceLT, Nat.reduceLeDiff, Nat.reduceAdd, Nat.reduceMul, Nat.reducePow, Nat.reduceSub, Int.reduceEq, Int.reduceLT, Int.reduceLE, Int.reduceToNat, Int.reduceMul, Int.reduceNeg, Int.reduceAdd, Int.reduceSub, *]; try simp (disch := (first | omega | (simp only [ByteArray.size_append, bs_size, lit_size, cut_size, List.length_append, List.length_cons, List.length_nil]; omega))) only [sls2S, sls_lS, sls_hS, bop_sadd, List.length_drop, List.length_take, List.length_append, ite_ok, w_i64, w_u64, w_u8, w_u32, w_u16, w_i32, room_le, tm_nn, td_nn, nsucc, inx_strS, ix1])) | simp (disch := (first | omega | (simp only [ByteArray.size_append, bs_size, lit_size, cut_size, List.length_append, List.length_cons, List.length_nil]; omega))) only [sls2S, sls_lS, sls_hS, bop_sadd, List.length_drop, List.length_take, List.length_append, ite_ok, w_i64, w_u64, w_u8, w_u32, w_u16, w_i32, room_le, tm_nn, td_nn, nsucc, inx_strS, ix1])
        all_goals exact ⟨_, _, rfl, ⟨fun h => by (first | cases h | exact h.elim), fun _ => by (first | exact hu | trivial)⟩⟩
    · obtain rfl : i = s.size := by omega
      have hn := decimalR (-(a : Int)) ⟨by omega, by omega⟩
      have key := num_is 1 a hp (by omega) ha (-(a : Int)) ⟨by omega, by omega⟩ (by omega) (fun _ => by omega) (fun h => by cases h)
      clear hp ha
      repeat' (first | (intro hc; (try simp only [bne_eq_false_iff_eq, bne_iff_ne, beq_iff_eq, beq_eq_false_iff_ne, Bool.not_eq_true', Bool.not_eq_false', decide_eq_true_eq, decide_eq_false_iff_not] at hc); (try replace hc := eq_true (show (_ : ByteArray) = _ from hc)); (try (exfalso; first | omega | exact hc trivial | exact hc))) | refine And.intro (show okTr _ _ = true by kernel_rfl) ?_ | refine And.intro ?_ ?_ | refine stp_guard ?_ ?_ | refine stq_guard ?_ ?_ | refine dwp_seq ?_ | refine dwp_block ?_ | ((first | refine dwp_region ?_ | refine dwp_any ?_ | refine dwp_skip ?_ | refine dwp_exit ?_ | refine dwp_ret ?_ | refine dwp_if ?_ | skip); (simp only [go_sem, beq_true, beq_false, Bool.true_beq, Bool.false_beq, Bool.bne_true, Bool.bne_false, Bool.true_bne, Bool.false_bne, Option.isSome_none, ne_eq, Int.cast_ofNat_Int, ↓reduceIte, reduceCtorEq, Nat.reduceBEq, Nat.reduceEqDiff, Nat.reduceLT, Nat.reduceLeDiff, Nat.reduceAdd, Nat.reduceMul, Nat.reducePow, Nat.reduceSub, Int.reduceEq, Int.reduceLT, Int.reduceLE, Int.reduceToNat, Int.reduceMul, Int.reduceNeg, Int.reduceAdd, Int.reduceSub, *]; try simp (disch := (first | omega | (simp only [ByteArray.size_append, bs_size, lit_size, cut_size, List.length_append, List.length_cons, List.length_nil]; omega))) only [sls2S, sls_lS, sls_hS, bop_sadd, List.length_drop, List.length_take, List.length_append, ite_ok, w_i64, w_u64, w_u8, w_u32, w_u16, w_i32, room_le, tm_nn, td_nn, nsucc, inx_strS, ix1])) | simp (disch := (first | omega | (simp only [ByteArray.size_append, bs_size, lit_size, cut_size, List.length_append, List.length_cons, List.length_nil]; omega))) only [sls2S, sls_lS, sls_hS, bop_sadd, List.length_drop, List.length_take, List.length_append, ite_ok, w_i64, w_u64, w_u8, w_u32, w_u16, w_i32, room_le, tm_nn, td_nn, nsucc, inx_strS, ix1])
      exact ⟨_, _, rfl, key⟩
  · have hp : sgn s 0 := .inr ⟨rfl, h1⟩
    have hi0 : (0 : Int) < s.size := by omega
    repeat' (first | (intro hc; (try simp only [bne_eq_false_iff_eq, bne_iff_ne, beq_iff_eq, beq_eq_false_iff_ne, Bool.not_eq_true', Bool.not_eq_false', decide_eq_true_eq, decide_eq_false_iff_not] at hc); (try replace hc := eq_true (show (_ : ByteArray) = _ from hc)); (try (exfalso; first | omega | exact hc trivial | exact hc))) | refine And.intro (show okTr _ _ = true by kernel_rfl) ?_ | refine And.intro ?_ ?_ | refine stp_guard ?_ ?_ | refine stq_guard ?_ ?_ | refine dwp_seq ?_ | refine dwp_block ?_ | ((first | refine dwp_region ?_ | refine dwp_any ?_ | refine dwp_skip ?_ | refine dwp_exit ?_ | refine dwp_ret ?_ | refine dwp_if ?_ | skip); (simp only [go_sem, beq_true, beq_false, Bool.true_beq, Bool.false_beq, Bool.bne_true, Bool.bne_false, Bool.true_bne, Bool.false_bne, Option.isSome_none, ne_eq, Int.cast_ofNat_Int, ↓reduceIte, reduceCtorEq, Nat.reduceBEq, Nat.reduceEqDiff, Nat.reduceLT, Nat.reduceLeDiff, Nat.reduceAdd, Nat.reduceMul, Nat.reducePow, Nat.reduceSub, Int.reduceEq, Int.reduceLT, Int.reduceLE, Int.reduceToNat, Int.reduceMul, Int.reduceNeg, Int.reduceAdd, Int.reduceSub, *]; try simp (disch := (first | omega | (simp only [ByteArray.size_append, bs_size, lit_size, cut_size, List.length_append, List.length_cons, List.length_nil]; omega))) only [sls2S, sls_lS, sls_hS, bop_sadd, List.length_drop, List.length_take, List.length_append, ite_ok, w_i64, w_u64, w_u8, w_u32, w_u16, w_i32, room_le, tm_nn, td_nn, nsucc, inx_strS, ix1])) | simp (disch := (first | omega | (simp only [ByteArray.size_append, bs_size, lit_size, cut_size, List.length_append, List.length_cons, List.length_nil]; omega))) only [sls2S, sls_lS, sls_hS, bop_sadd, List.length_drop, List.length_take, List.length_append, ite_ok, w_i64, w_u64, w_u8, w_u32, w_u16, w_i32, room_le, tm_nn, td_nn, nsucc, inx_strS, ix1])
    refine dwp_indL [0, 5] [] (fun m f g => ∃ (i a : Nat), m = s.size - i ∧ 0 ≤ i ∧ i ≤ s.size ∧ vlD 0 (wd s 0 i) = a ∧ a ≤ 9223372036854775808 ∧ f 6 = .v (.int .i64 i) ∧ f 4 = .v (.int .i64 (-(a : Int)))) _ ⟨0, 0, rfl, Nat.le_refl _, by omega, by rw [wd_none]; rfl, by omega, ?_⟩ ?_
    · simp only [go_sem, beq_true, beq_false, Bool.true_beq, Bool.false_beq, Bool.bne_true, Bool.bne_false, Bool.true_bne, Bool.false_bne, Option.isSome_none, ne_eq, Int.cast_ofNat_Int, ↓reduceIte, reduceCtorEq, Nat.reduceBEq, Nat.reduceEqDiff, Nat.reduceLT, Nat.reduceLeDiff, Nat.reduceAdd, Nat.reduceMul, Nat.reducePow, Nat.reduceSub, Int.reduceEq, Int.reduceLT, Int.reduceLE, Int.reduceToNat, Int.reduceMul, Int.reduceNeg, Int.reduceAdd, Int.reduceSub]
      try exact rfl
    rintro m f g hL hG ⟨i, a, hm, hi1, hi2, ha, hab, hf6, hf4⟩ ih2
    (simp only [sameOn_cons, sameOn_one, sameOn_nil] at hL hG; (try simp only [go_sem, beq_true, beq_false, Bool.true_beq, Bool.false_beq, Bool.bne_true, Bool.bne_false, Bool.true_bne, Bool.false_bne, Option.isSome_none, ne_eq, Int.cast_ofNat_Int, ↓reduceIte, reduceCtorEq, Nat.reduceBEq, Nat.reduceEqDiff, Nat.reduceLT, Nat.reduceLeDiff, Nat.reduceAdd, Nat.reduceMul, Nat.reducePow, Nat.reduceSub, Int.reduceEq, Int.reduceLT, Int.reduceLE, Int.reduceToNat, Int.reduceMul, Int.reduceNeg, Int.reduceAdd, Int.reduceSub] at hL); (try simp only [go_sem, beq_true, beq_false, Bool.true_beq, Bool.false_beq, Bool.bne_true, Bool.bne_false, Bool.true_bne, Bool.false_bne, Option.isSome_none, ne_eq, Int.cast_ofNat_Int, ↓reduceIte, reduceCtorEq, Nat.reduceBEq, Nat.reduceEqDiff, Nat.reduceLT, Nat.reduceLeDiff, Nat.reduceAdd, Nat.reduceMul, Nat.reducePow, Nat.reduceSub, Int.reduceEq, Int.reduceLT, Int.reduceLE, Int.reduceToNat, Int.reduceMul, Int.reduceNeg, Int.reduceAdd, Int.reduceSub] at hG))
    rcases Nat.lt_or_ge i s.size with h | h
    · obtain ⟨c, e1, e2, e3⟩ := wd_one s 0 i hi1 h
      have e4 : vlD 0 (wd s 0 (i + 1)) = a * 10 + (c.toNat - 48) := by
        rw [e1, vlD_app, ha]
        rfl
      by_cases hc : 48 ≤ c.toNat ∧ c.toNat ≤ 57
      · obtain ⟨d, hd⟩ : ∃ d, c.toNat = 48 + d := ⟨c.toNat - 48, by omega⟩
        rw [show c.toNat - 48 = d by omega] at e4
        rw [hd] at e2
        have e2' : bt s i = 48 + (d : Int) := by rw [e2]; omega
        have hd9 : d ≤ 9 := by omega
        have hd8 : (48 : Int) + (d : Int) - 48 = d := by omega
        have hi5 : ((i : Int) + 1).toNat = i + 1 := by omega
        by_cases hbig : 9223372036854775808 < a * 10 + d
        · have hu := num_big 0 (i + 1) _ hp (by omega) h e4 hbig
          clear hp e1 e2 e3 e4 ha hd hc
          repeat' (first | (intro hc; (try simp only [bne_eq_false_iff_eq, bne_iff_ne, beq_iff_eq, beq_eq_false_iff_ne, Bool.not_eq_true', Bool.not_eq_false', decide_eq_true_eq, decide_eq_false_iff_not] at hc); (try replace hc := eq_true (show (_ : ByteArray) = _ from hc)); (try (exfalso; first | omega | exact hc trivial | exact hc))) | refine And.intro (show okTr _ _ = true by kernel_rfl) ?_ | refine And.intro ?_ ?_ | refine stp_guard ?_ ?_ | refine stq_guard ?_ ?_ | refine dwp_seq ?_ | refine dwp_block ?_ | ((first | refine dwp_region ?_ | refine dwp_any ?_ | refine dwp_skip ?_ | refine dwp_exit ?_ | refine dwp_ret ?_ | refine dwp_if ?_ | skip); (simp only [go_sem, beq_true, beq_false, Bool.true_beq, Bool.false_beq, Bool.bne_true, Bool.bne_false, Bool.true_bne, Bool.false_bne, Option.isSome_none, ne_eq, Int.cast_ofNat_Int, ↓reduceIte, reduceCtorEq, Nat.reduceBEq, Nat.reduceEqDiff, Nat.reduceLT, Nat.reduceLeDiff, Nat.reduceAdd, Nat.reduceMul, Nat.reducePow, Nat.reduceSub, Int.reduceEq, Int.reduceLT, Int.reduceLE, Int.reduceToNat, Int.reduceMul, Int.reduceNeg, Int.reduceAdd, Int.reduceSub, *]; try simp (disch := (first | omega | (simp only [ByteArray.size_append, bs_size, lit_size, cut_size, List.length_append, List.length_cons, List.length_nil]; omega))) only [sls2S, sls_lS, sls_hS, bop_sadd, List.length_drop, List.length_take, List.length_append, ite_ok, w_i64, w_u64, w_u8, w_u32, w_u16, w_i32, room_le, tm_nn, td_nn, nsucc, inx_strS, ix1])) | simp (disch := (first | omega | (simp only [ByteArray.size_append, bs_size, lit_size, cut_size, List.length_append, List.length_cons, List.length_nil]; omega))) only [sls2S, sls_lS, sls_hS, bop_sadd, List.length_drop, List.length_take, List.length_append, ite_ok, w_i64, w_u64, w_u8, w_u32, w_u16, w_i32, room_le, tm_nn, td_nn, nsucc, inx_strS, ix1])
          all_goals exact ⟨_, _, rfl, ⟨fun h => by (first | cases h | exact h.elim), fun _ => by (first | exact hu | trivial)⟩⟩
        · clear hp e1 e2 e3 ha hd hc
          repeat' (first | (intro hc; (try simp only [bne_eq_false_iff_eq, bne_iff_ne, beq_iff_eq, beq_eq_false_iff_ne, Bool.not_eq_true', Bool.not_eq_false', decide_eq_true_eq, decide_eq_false_iff_not] at hc); (try replace hc := eq_true (show (_ : ByteArray) = _ from hc)); (try (exfalso; first | omega | exact hc trivial | exact hc))) | refine And.intro (show okTr _ _ = true by kernel_rfl) ?_ | refine And.intro ?_ ?_ | refine stp_guard ?_ ?_ | refine stq_guard ?_ ?_ | refine dwp_seq ?_ | refine dwp_block ?_ | ((first | refine dwp_region ?_ | refine dwp_any ?_ | refine dwp_skip ?_ | refine dwp_exit ?_ | refine dwp_ret ?_ | refine dwp_if ?_ | skip); (simp only [go_sem, beq_true, beq_false, Bool.true_beq, Bool.false_beq, Bool.bne_true, Bool.bne_false, Bool.true_bne, Bool.false_bne, Option.isSome_none, ne_eq, Int.cast_ofNat_Int, ↓reduceIte, reduceCtorEq, Nat.reduceBEq, Nat.reduceEqDiff, Nat.reduceLT, Nat.reduceLeDiff, Nat.reduceAdd, Nat.reduceMul, Nat.reducePow, Nat.reduceSub, Int.reduceEq, Int.reduceLT, Int.reduceLE, Int.reduceToNat, Int.reduceMul, Int.reduceNeg, Int.reduceAdd, Int.reduceSub, *]; try simp (disch := (first | omega | (simp only [ByteArray.size_append, bs_size, lit_size, cut_size, List.length_append, List.length_cons, List.length_nil]; omega))) only [sls2S, sls_lS, sls_hS, bop_sadd, List.length_drop, List.length_take, List.length_append, ite_ok, w_i64, w_u64, w_u8, w_u32, w_u16, w_i32, room_le, tm_nn, td_nn, nsucc, inx_strS, ix1])) | simp (disch := (first | omega | (simp only [ByteArray.size_append, bs_size, lit_size, cut_size, List.length_append, List.length_cons, List.length_nil]; omega))) only [sls2S, sls_lS, sls_hS, bop_sadd, List.length_drop, List.length_take, List.length_append, ite_ok, w_i64, w_u64, w_u8, w_u32, w_u16, w_i32, room_le, tm_nn, td_nn, nsucc, inx_strS, ix1])
          all_goals refine ih2 _ _ _ ?_ ?_ ?_ ⟨i + 1, a * 10 + d, rfl, by omega, by omega, e4, by omega, ?_, ?_⟩
          all_goals first | omega | trivial | (simp only [sameOn_cons, sameOn_one, sameOn_nil]; (try simp only [go_sem, beq_true, beq_false, Bool.true_beq, Bool.false_beq, Bool.bne_true, Bool.bne_false, Bool.true_bne, Bool.false_bne, Option.isSome_none, ne_eq, Int.cast_ofNat_Int, ↓reduceIte, reduceCtorEq, Nat.reduceBEq, Nat.reduceEqDiff, Nat.reduceLT, Nat.reduceLeDiff, Nat.reduceAdd, Nat.reduceMul, Nat.reducePow, Nat.reduceSub, Int.reduceEq, Int.reduceLT, Int.reduceLE, Int.reduceToNat, Int.reduceMul, Int.reduceNeg, Int.reduceAdd, Int.reduceSub, *]); (try trivial)) | skip
          all_goals simp only [go_sem, beq_true, beq_false, Bool.true_beq, Bool.false_beq, Bool.bne_true, Bool.bne_false, Bool.true_bne, Bool.false_bne, Option.isSome_none, ne_eq, Int.cast_ofNat_Int, ↓reduceIte, reduceCtorEq, Nat.reduceBEq, Nat.reduceEqDiff, Nat.reduceLT, Nat.reduceLeDiff, Nat.reduceAdd, Nat.reduceMul, Nat.reducePow, Nat.reduceSub, Int.reduceEq, Int.reduceLT, Int.reduceLE, Int.reduceToNat, Int.reduceMul, Int.reduceNeg, Int.reduceAdd, Int.reduceSub]
          all_goals first | done | (refine congrArg (fun z => D.v (.int .i64 z)) ?_; omega)
      · have hu := num_char 0 hp c e3 hc
        clear hp e1 e3 e4 ha
        repeat' (first | (intro hc; (try simp only [bne_eq_false_iff_eq, bne_iff_ne, beq_iff_eq, beq_eq_false_iff_ne, Bool.not_eq_true', Bool.not_eq_false', decide_eq_true_eq, decide_eq_false_iff_not] at hc); (try replace hc := eq_true (show (_ : ByteArray) = _ from hc)); (try (exfalso; first | omega | exact hc trivial | exact hc))) | refine And.intro (show okTr _ _ = true by kernel_rfl) ?_ | refine And.intro ?_ ?_ | refine stp_guard ?_ ?_ | refine stq_guard ?_ ?_ | refine dwp_seq ?_ | refine dwp_block ?_ | ((first | refine dwp_region ?_ | refine dwp_any ?_ | refine dwp_skip ?_ | refine dwp_exit ?_ | refine dwp_ret ?_ | refine dwp_if ?_ | skip); (simp only [go_sem, beq_true, beq_false, Bool.true_beq, Bool.false_beq, Bool.bne_true, Bool.bne_false, Bool.true_bne, Bool.false_bne, Option.isSome_none, ne_eq, Int.cast_ofNat_Int, ↓reduceIte, reduceCtorEq, Nat.reduceBEq, Nat.reduceEqDiff, Nat.reduceLT, Nat.reduceLeDiff, Nat.reduceAdd, Nat.reduceMul, Nat.reducePow, Nat.reduceSub, Int.reduceEq, Int.reduceLT, Int.reduceLE, Int.reduceToNat, Int.reduceMul, Int.reduceNeg, Int.reduceAdd, Int.reduceSub, *]; try simp (disch := (first | omega | (simp only [ByteArray.size_append, bs_size, lit_size, cut_size, List.length_append, List.length_cons, List.length_nil]; omega))) only [sls2S, sls_lS, sls_hS, bop_sadd, List.length_drop, List.length_take, List.length_append, ite_ok, w_i64, w_u64, w_u8, w_u32, w_u16, w_i32, room_le, tm_nn, td_nn, nsucc, inx_strS, ix1])) | simp (disch := (first | omega | (simp only [ByteArray.size_append, bs_size, lit_size, cut_size, List.length_append, List.length_cons, List.length_nil]; omega))) only [sls2S, sls_lS, sls_hS, bop_sadd, List.length_drop, List.length_take, List.length_append, ite_ok, w_i64, w_u64, w_u8, w_u32, w_u16, w_i32, room_le, tm_nn, td_nn, nsucc, inx_strS, ix1])
        all_goals exact ⟨_, _, rfl, ⟨fun h => by (first | cases h | exact h.elim), fun _ => by (first | exact hu | trivial)⟩⟩
    · obtain rfl : i = s.size := by omega
      by_cases hmin : a = 9223372036854775808
      · have hu : num s = none := num_none fun v hv e => by
          have := num_end 0 a hp (by omega) ha v hv e
          unfold inI64 at hv
          omega
        subst hmin
        clear hp ha
        repeat' (first | (intro hc; (try simp only [bne_eq_false_iff_eq, bne_iff_ne, beq_iff_eq, beq_eq_false_iff_ne, Bool.not_eq_true', Bool.not_eq_false', decide_eq_true_eq, decide_eq_false_iff_not] at hc); (try replace hc := eq_true (show (_ : ByteArray) = _ from hc)); (try (exfalso; first | omega | exact hc trivial | exact hc))) | refine And.intro (show okTr _ _ = true by kernel_rfl) ?_ | refine And.intro ?_ ?_ | refine stp_guard ?_ ?_ | refine stq_guard ?_ ?_ | refine dwp_seq ?_ | refine dwp_block ?_ | ((first | refine dwp_region ?_ | refine dwp_any ?_ | refine dwp_skip ?_ | refine dwp_exit ?_ | refine dwp_ret ?_ | refine dwp_if ?_ | skip); (simp only [go_sem, beq_true, beq_false, Bool.true_beq, Bool.false_beq, Bool.bne_true, Bool.bne_false, Bool.true_bne, Bool.false_bne, Option.isSome_none, ne_eq, Int.cast_ofNat_Int, ↓reduceIte, reduceCtorEq, Nat.reduceBEq, Nat.reduceEqDiff, Nat.reduceLT, Nat.reduceLeDiff, Nat.reduceAdd, Nat.reduceMul, Nat.reducePow, Nat.reduceSub, Int.reduceEq, Int.reduceLT, Int.reduceLE, Int.reduceToNat, Int.reduceMul, Int.reduceNeg, Int.reduceAdd, Int.reduceSub, *]; try simp (disch := (first | omega | (simp only [ByteArray.size_append, bs_size, lit_size, cut_size, List.length_append, List.length_cons, List.length_nil]; omega))) only [sls2S, sls_lS, sls_hS, bop_sadd, List.length_drop, List.length_take, List.length_append, ite_ok, w_i64, w_u64, w_u8, w_u32, w_u16, w_i32, room_le, tm_nn, td_nn, nsucc, inx_strS, ix1])) | simp (disch := (first | omega | (simp only [ByteArray.size_append, bs_size, lit_size, cut_size, List.length_append, List.length_cons, List.length_nil]; omega))) only [sls2S, sls_lS, sls_hS, bop_sadd, List.length_drop, List.length_take, List.length_append, ite_ok, w_i64, w_u64, w_u8, w_u32, w_u16, w_i32, room_le, tm_nn, td_nn, nsucc, inx_strS, ix1])
        exact ⟨_, _, rfl, ⟨fun h => by (first | cases h | exact h.elim), fun _ => by (first | exact hu | trivial)⟩⟩
      · have hn := decimalR (a : Int) ⟨by omega, by omega⟩
        have key := num_is 0 a hp (by omega) ha (a : Int) ⟨by omega, by omega⟩ (by omega) (fun h => by cases h) (fun _ => by omega)
        have hen : (0 : Int) - -(a : Int) = a := by omega
        clear hp ha
        repeat' (first | (intro hc; (try simp only [bne_eq_false_iff_eq, bne_iff_ne, beq_iff_eq, beq_eq_false_iff_ne, Bool.not_eq_true', Bool.not_eq_false', decide_eq_true_eq, decide_eq_false_iff_not] at hc); (try replace hc := eq_true (show (_ : ByteArray) = _ from hc)); (try (exfalso; first | omega | exact hc trivial | exact hc))) | refine And.intro (show okTr _ _ = true by kernel_rfl) ?_ | refine And.intro ?_ ?_ | refine stp_guard ?_ ?_ | refine stq_guard ?_ ?_ | refine dwp_seq ?_ | refine dwp_block ?_ | ((first | refine dwp_region ?_ | refine dwp_any ?_ | refine dwp_skip ?_ | refine dwp_exit ?_ | refine dwp_ret ?_ | refine dwp_if ?_ | skip); (simp only [go_sem, beq_true, beq_false, Bool.true_beq, Bool.false_beq, Bool.bne_true, Bool.bne_false, Bool.true_bne, Bool.false_bne, Option.isSome_none, ne_eq, Int.cast_ofNat_Int, ↓reduceIte, reduceCtorEq, Nat.reduceBEq, Nat.reduceEqDiff, Nat.reduceLT, Nat.reduceLeDiff, Nat.reduceAdd, Nat.reduceMul, Nat.reducePow, Nat.reduceSub, Int.reduceEq, Int.reduceLT, Int.reduceLE, Int.reduceToNat, Int.reduceMul, Int.reduceNeg, Int.reduceAdd, Int.reduceSub, *]; try simp (disch := (first | omega | (simp only [ByteArray.size_append, bs_size, lit_size, cut_size, List.length_append, List.length_cons, List.length_nil]; omega))) only [sls2S, sls_lS, sls_hS, bop_sadd, List.length_drop, List.length_take, List.length_append, ite_ok, w_i64, w_u64, w_u8, w_u32, w_u16, w_i32, room_le, tm_nn, td_nn, nsucc, inx_strS, ix1])) | simp (disch := (first | omega | (simp only [ByteArray.size_append, bs_size, lit_size, cut_size, List.length_append, List.length_cons, List.length_nil]; omega))) only [sls2S, sls_lS, sls_hS, bop_sadd, List.length_drop, List.length_take, List.length_append, ite_ok, w_i64, w_u64, w_u8, w_u32, w_u16, w_i32, room_le, tm_nn, td_nn, nsucc, inx_strS, ix1])
        exact ⟨_, _, rfl, key⟩
end Go.Proofs.YtjdkcedhmfgmoaaDoor
