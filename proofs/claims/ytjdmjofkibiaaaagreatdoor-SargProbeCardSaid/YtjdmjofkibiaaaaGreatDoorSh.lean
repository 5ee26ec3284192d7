/- A value's key, by both (the session's own words). -/
import Derived.Test.YtjdmjofkibiaaaaGreatDoorSl
import Derived.Test.YtjdmjofkibiaaaaGreatDoorRun
namespace Go.Proofs.YtjdmjofkibiaaaaGreatDoor
open Go Go.Eng Go.Proofs
set_option linter.unusedVariables false
set_option linter.unusedSimpArgs false
set_option maxRecDepth 100000
set_option maxHeartbeats 4000000
theorem same_c (k : IntKind) (n : Int) : sameOp (.const (.int k n)) (.const (.int k n)) = true := by simp [sameOp]
theorem bytN_nil : bytN [] = some [] := (rfl)
theorem bytN_cons (n : Int) (es : List (List D)) : bytN ([.v (.int .u8 n)] :: es) = (bytN es).map (n :: ·) := (rfl)
theorem max8 : ((8 : Int) ≤ (maxLen : Int)) = True := by unfold maxLen; simp
theorem rep8 (x : D) : List.replicate 8 x = [x, x, x, x, x, x, x, x] := (rfl)
attribute [go_sem] rep8 same_c bytN_nil bytN_cons max8
def byC (l : List UInt8) : List (List D) := l.map fun c => [D.v (.int .u8 (c.toNat : Int))]
theorem byC_digs8 (M : Nat) : byC (digs 8 M) = [[D.v (.int .u8 ((M : Int) / 256 / 256 / 256 / 256 / 256 / 256 / 256 % 256))], [D.v (.int .u8 ((M : Int) / 256 / 256 / 256 / 256 / 256 / 256 % 256))], [D.v (.int .u8 ((M : Int) / 256 / 256 / 256 / 256 / 256 % 256))], [D.v (.int .u8 ((M : Int) / 256 / 256 / 256 / 256 % 256))], [D.v (.int .u8 ((M : Int) / 256 / 256 / 256 % 256))], [D.v (.int .u8 ((M : Int) / 256 / 256 % 256))], [D.v (.int .u8 ((M : Int) / 256 % 256))], [D.v (.int .u8 ((M : Int) % 256))]] := by
  simp only [digs, byC, List.nil_append, List.map_append, List.map_cons, List.map_nil, List.cons_append, UInt8.toNat_ofNat', Int.natCast_emod, Int.natCast_ediv, Int.cast_ofNat_Int, Nat.reducePow]
theorem number33 (n : Int) (h : i64 n) : FF 33 [.v (.int .i64 n)] = some (.sl (byC (digs 8 (n + 9223372036854775808).toNat))) := by
  obtain ⟨h1, h2⟩ := h
  obtain ⟨M, hM⟩ : ∃ M : Nat, n + 9223372036854775808 = M := ⟨(n + 9223372036854775808).toNat, by omega⟩
  have e1 : IntKind.u64.wrap (IntKind.u64.wrap n + 9223372036854775808) = (M : Int) := by
    simp only [IntKind.wrap, IntKind.bits, IntKind.signed]
    simp
    omega
  have hM2 : M < 18446744073709551616 := by omega
  rw [hM, Int.toNat_natCast, byC_digs8]
  clear hM h1 h2
  refine FF_val Tryz.func33 rfl rfl ?_
  simp only [Tryz.ntmps33, Tryz.results33]
  repeat' (first | (intro hc; (try simp only [bne_eq_false_iff_eq, bne_iff_ne, beq_iff_eq, beq_eq_false_iff_ne, Bool.not_eq_true', Bool.not_eq_false', decide_eq_true_eq, decide_eq_false_iff_not] at hc); (try replace hc := eq_true (show (_ : ByteArray) = _ from hc)); (try (exfalso; first | omega | exact hc trivial | exact hc))) | refine And.intro (show okTr _ _ = true by kernel_rfl) ?_ | refine And.intro ?_ ?_ | refine stp_guard ?_ ?_ | refine stq_guard ?_ ?_ | refine dwp_seq ?_ | refine dwp_block ?_ | ((first | refine dwp_region ?_ | refine dwp_any ?_ | refine dwp_skip ?_ | refine dwp_exit ?_ | refine dwp_ret ?_ | refine dwp_if ?_ | skip); (simp only [go_sem, beq_true, beq_false, Bool.true_beq, Bool.false_beq, Bool.bne_true, Bool.bne_false, Bool.true_bne, Bool.false_bne, Option.isSome_none, ne_eq, Int.cast_ofNat_Int, ↓reduceIte, reduceCtorEq, Nat.reduceBEq, Nat.reduceEqDiff, Nat.reduceLT, Nat.reduceLeDiff, Nat.reduceAdd, Nat.reduceMul, Nat.reducePow, Nat.reduceSub, Int.reduceEq, Int.reduceLT, Int.reduceLE, Int.reduceToNat, Int.reduceMul, Int.reduceNeg, Int.reduceAdd, Int.reduceSub, *]; try simp (disch := (first | omega | (simp only [ByteArray.size_append, bs_size, lit_size, cut_size, List.length_append, List.length_cons, List.length_nil]; omega))) only [sls2S, sls_lS, sls_hS, bop_sadd, List.length_drop, List.length_take, List.length_append, ite_ok, w_i64, w_u64, w_u8, w_u32, w_u16, w_i32, room_le, tm_nn, td_nn, nsucc])) | simp (disch := (first | omega | (simp only [ByteArray.size_append, bs_size, lit_size, cut_size, List.length_append, List.length_cons, List.length_nil]; omega))) only [sls2S, sls_lS, sls_hS, bop_sadd, List.length_drop, List.length_take, List.length_append, ite_ok, w_i64, w_u64, w_u8, w_u32, w_u16, w_i32, room_le, tm_nn, td_nn, nsucc])
  iterate 9 (refine dwp_loop ?_; repeat' (first | (intro hc; (try simp only [bne_eq_false_iff_eq, bne_iff_ne, beq_iff_eq, beq_eq_false_iff_ne, Bool.not_eq_true', Bool.not_eq_false', decide_eq_true_eq, decide_eq_false_iff_not] at hc); (try replace hc := eq_true (show (_ : ByteArray) = _ from hc)); (try (exfalso; first | omega | exact hc trivial | exact hc))) | refine And.intro (show okTr _ _ = true by kernel_rfl) ?_ | refine And.intro ?_ ?_ | refine stp_guard ?_ ?_ | refine stq_guard ?_ ?_ | refine dwp_seq ?_ | refine dwp_block ?_ | ((first | refine dwp_region ?_ | refine dwp_any ?_ | refine dwp_skip ?_ | refine dwp_exit ?_ | refine dwp_ret ?_ | refine dwp_if ?_ | skip); (simp only [go_sem, beq_true, beq_false, Bool.true_beq, Bool.false_beq, Bool.bne_true, Bool.bne_false, Bool.true_bne, Bool.false_bne, Option.isSome_none, ne_eq, Int.cast_ofNat_Int, ↓reduceIte, reduceCtorEq, Nat.reduceBEq, Nat.reduceEqDiff, Nat.reduceLT, Nat.reduceLeDiff, Nat.reduceAdd, Nat.reduceMul, Nat.reducePow, Nat.reduceSub, Int.reduceEq, Int.reduceLT, Int.reduceLE, Int.reduceToNat, Int.reduceMul, Int.reduceNeg, Int.reduceAdd, Int.reduceSub, *]; try simp (disch := (first | omega | (simp only [ByteArray.size_append, bs_size, lit_size, cut_size, List.length_append, List.length_cons, List.length_nil]; omega))) only [sls2S, sls_lS, sls_hS, bop_sadd, List.length_drop, List.length_take, List.length_append, ite_ok, w_i64, w_u64, w_u8, w_u32, w_u16, w_i32, room_le, tm_nn, td_nn, nsucc])) | simp (disch := (first | omega | (simp only [ByteArray.size_append, bs_size, lit_size, cut_size, List.length_append, List.length_cons, List.length_nil]; omega))) only [sls2S, sls_lS, sls_hS, bop_sadd, List.length_drop, List.length_take, List.length_append, ite_ok, w_i64, w_u64, w_u8, w_u32, w_u16, w_i32, room_le, tm_nn, td_nn, nsucc]))
  rfl
theorem least93 (k : Int) (h : 0 ≤ k) (h3 : k ≤ 3) : FF 93 [.v (.int .u8 k)] = some (.v (.string (bs [UInt8.ofNat (k.toNat + 1)]))) := by
  have h4 : ¬ 4 < k := by omega
  have e : bsI [k + 1] = bs [UInt8.ofNat (k.toNat + 1)] := by
    unfold bsI bs
    simp only [List.map_cons, List.map_nil]
    rw [show (k + 1).toNat = k.toNat + 1 by omega]
  rw [← e]
  refine FF_val Tryz.func93 rfl rfl ?_
  simp only [Tryz.ntmps93, Tryz.results93]
  repeat' (first | (intro hc; (try simp only [bne_eq_false_iff_eq, bne_iff_ne, beq_iff_eq, beq_eq_false_iff_ne, Bool.not_eq_true', Bool.not_eq_false', decide_eq_true_eq, decide_eq_false_iff_not] at hc); (try replace hc := eq_true (show (_ : ByteArray) = _ from hc)); (try (exfalso; first | omega | exact hc trivial | exact hc))) | refine And.intro (show okTr _ _ = true by kernel_rfl) ?_ | refine And.intro ?_ ?_ | refine stp_guard ?_ ?_ | refine stq_guard ?_ ?_ | refine dwp_seq ?_ | refine dwp_block ?_ | ((first | refine dwp_region ?_ | refine dwp_any ?_ | refine dwp_skip ?_ | refine dwp_exit ?_ | refine dwp_ret ?_ | refine dwp_if ?_ | skip); (simp only [go_sem, beq_true, beq_false, Bool.true_beq, Bool.false_beq, Bool.bne_true, Bool.bne_false, Bool.true_bne, Bool.false_bne, Option.isSome_none, ne_eq, Int.cast_ofNat_Int, ↓reduceIte, reduceCtorEq, Nat.reduceBEq, Nat.reduceEqDiff, Nat.reduceLT, Nat.reduceLeDiff, Nat.reduceAdd, Nat.reduceMul, Nat.reducePow, Nat.reduceSub, Int.reduceEq, Int.reduceLT, Int.reduceLE, Int.reduceToNat, Int.reduceMul, Int.reduceNeg, Int.reduceAdd, Int.reduceSub, *]; try simp (disch := (first | omega | (simp only [ByteArray.size_append, bs_size, lit_size, cut_size, List.length_append, List.length_cons, List.length_nil]; omega))) only [sls2S, sls_lS, sls_hS, bop_sadd, List.length_drop, List.length_take, List.length_append, ite_ok, w_i64, w_u64, w_u8, w_u32, w_u16, w_i32, room_le, tm_nn, td_nn, nsucc])) | simp (disch := (first | omega | (simp only [ByteArray.size_append, bs_size, lit_size, cut_size, List.length_append, List.length_cons, List.length_nil]; omega))) only [sls2S, sls_lS, sls_hS, bop_sadd, List.length_drop, List.length_take, List.length_append, ite_ok, w_i64, w_u64, w_u8, w_u32, w_u16, w_i32, room_le, tm_nn, td_nn, nsucc])
theorem flip_nat (X : Nat) (h : X < 2 ^ 64) : X ^^^ 2 ^ 63 = (2 ^ 63 + X) % 2 ^ 64 := by
  refine Nat.eq_of_testBit_eq fun i => ?_
  rw [Nat.testBit_xor, Nat.testBit_mod_two_pow, Nat.testBit_two_pow]
  rcases Nat.lt_trichotomy i 63 with hi | hi | hi
  · rw [Nat.testBit_two_pow_add_gt hi]
    simp [show i < 64 by omega, show ¬ 63 = i by omega]
  · subst hi
    rw [Nat.testBit_two_pow_add_eq]
    simp
  · rw [Nat.testBit_lt_two_pow (Nat.lt_of_lt_of_le h (Nat.pow_le_pow_right (by decide) (by omega : 64 ≤ i)))]
    simp [show ¬ i < 64 by omega, show ¬ 63 = i by omega]
theorem ibit_flip (n : Int) (M : Nat) (h1 : -9223372036854775808 ≤ n) (hM : n + 9223372036854775808 = M) (hM2 : M < 18446744073709551616) : ibit .xor .u64 (IntKind.u64.wrap n) 9223372036854775808 = (M : Int) := by
  obtain ⟨X, hX⟩ : ∃ X : Nat, IntKind.u64.wrap n = (X : Int) ∧ X < 2 ^ 64 ∧ (2 ^ 63 + X) % 2 ^ 64 = M := by
    have e : IntKind.u64.wrap n = n % 18446744073709551616 := by
      simp only [IntKind.wrap, IntKind.bits, IntKind.signed]
      simp
    refine ⟨(n % 18446744073709551616).toNat, ?_, ?_, ?_⟩ <;> (try rw [e]) <;> omega
  obtain ⟨hX, hX2, hX3⟩ := hX
  rw [hX]
  rw [show ibit .xor .u64 (X : Int) 9223372036854775808 = IntKind.u64.wrap (((BitVec.ofInt 64 (X : Int) ^^^ BitVec.ofInt 64 9223372036854775808).toNat : Nat) : Int) from rfl]
  have hb : (BitVec.ofInt 64 (X : Int) ^^^ BitVec.ofInt 64 9223372036854775808).toNat = M := by
    rw [BitVec.toNat_xor, BitVec.ofInt_natCast, BitVec.toNat_ofNat, Nat.mod_eq_of_lt hX2, show (BitVec.ofInt 64 9223372036854775808).toNat = 2 ^ 63 by decide, flip_nat X hX2, hX3]
  rw [hb]
  simp only [IntKind.wrap, IntKind.bits, IntKind.signed]
  simp
  omega
theorem fd8 (M j : Nat) : IntKind.u8.wrap ((M : Int).fdiv (2 ^ j)) = ((M / 2 ^ j % 256 : Nat) : Int) := by
  rw [Int.fdiv_eq_ediv_of_nonneg _ (by exact Int.pow_nonneg (by decide))]
  simp only [IntKind.wrap, IntKind.bits, IntKind.signed]
  simp
theorem fd0 (M : Nat) : IntKind.u8.wrap ((M : Int).fdiv 1) = ((M % 256 : Nat) : Int) := by
  have := fd8 M 0
  simpa using this
theorem strEs2 (c : UInt8) : strEs (bs [c]) = [[.v (.int .u8 (c.toNat : Int))]] := (rfl)
theorem bsI1 (n : Int) : bsI [n] = bs [UInt8.ofNat n.toNat] := (rfl)
theorem ofN (a : Nat) : UInt8.ofNat (a % 256) = UInt8.ofNat a := UInt8.toNat_inj.1 (by simp)
theorem bsI_digs (M : Nat) : bsI [2, ((M / 2 ^ 56 % 256 : Nat) : Int), ((M / 2 ^ 48 % 256 : Nat) : Int), ((M / 2 ^ 40 % 256 : Nat) : Int), ((M / 2 ^ 32 % 256 : Nat) : Int), ((M / 2 ^ 24 % 256 : Nat) : Int), ((M / 2 ^ 16 % 256 : Nat) : Int), ((M / 2 ^ 8 % 256 : Nat) : Int), ((M / 1 % 256 : Nat) : Int)] = bs (2 :: digs 8 M) := by
  unfold bsI bs
  simp only [List.map_cons, List.map_nil, Int.toNat_natCast, Nat.div_one, ofN, digs, List.nil_append, List.cons_append, Nat.div_div_eq_div_mul, Nat.reduceMul, Nat.reducePow]
  rfl
theorem one115 (v : Val) (h : mayV v = true) (hi : i64 v.int) : FF 115 [.agg (valCells v)] = some (.v (.string (bs (keyV v)))) := by
  obtain ⟨k, n, t⟩ := v
  rcases mayV_kinds h with ⟨e, e1, e2⟩ | ⟨e, e2⟩ | ⟨e, e1, e2⟩ | ⟨e, e1, e2⟩ <;> dsimp only at e e2 <;> subst e
  · have hl := least93 0 (by omega) (by omega)
    subst e2
    refine FF_val Tryz.func115 rfl rfl ?_
    simp only [Tryz.ntmps115, Tryz.results115]
    repeat' (first | (intro hc; (try simp only [bne_eq_false_iff_eq, bne_iff_ne, beq_iff_eq, beq_eq_false_iff_ne, Bool.not_eq_true', Bool.not_eq_false', decide_eq_true_eq, decide_eq_false_iff_not] at hc); (try replace hc := eq_true (show (_ : ByteArray) = _ from hc)); (try (exfalso; first | omega | exact hc trivial | exact hc))) | refine And.intro (show okTr _ _ = true by kernel_rfl) ?_ | refine And.intro ?_ ?_ | refine stp_guard ?_ ?_ | refine stq_guard ?_ ?_ | refine dwp_seq ?_ | refine dwp_block ?_ | ((first | refine dwp_region ?_ | refine dwp_any ?_ | refine dwp_skip ?_ | refine dwp_exit ?_ | refine dwp_ret ?_ | refine dwp_if ?_ | skip); (simp only [go_sem, beq_true, beq_false, Bool.true_beq, Bool.false_beq, Bool.bne_true, Bool.bne_false, Bool.true_bne, Bool.false_bne, Option.isSome_none, ne_eq, Int.cast_ofNat_Int, ↓reduceIte, reduceCtorEq, Nat.reduceBEq, Nat.reduceEqDiff, Nat.reduceLT, Nat.reduceLeDiff, Nat.reduceAdd, Nat.reduceMul, Nat.reducePow, Nat.reduceSub, Int.reduceEq, Int.reduceLT, Int.reduceLE, Int.reduceToNat, Int.reduceMul, Int.reduceNeg, Int.reduceAdd, Int.reduceSub, *]; try simp (disch := (first | omega | (simp only [ByteArray.size_append, bs_size, lit_size, cut_size, List.length_append, List.length_cons, List.length_nil]; omega))) only [sls2S, sls_lS, sls_hS, bop_sadd, List.length_drop, List.length_take, List.length_append, ite_ok, w_i64, w_u64, w_u8, w_u32, w_u16, w_i32, room_le, tm_nn, td_nn, nsucc])) | simp (disch := (first | omega | (simp only [ByteArray.size_append, bs_size, lit_size, cut_size, List.length_append, List.length_cons, List.length_nil]; omega))) only [sls2S, sls_lS, sls_hS, bop_sadd, List.length_drop, List.length_take, List.length_append, ite_ok, w_i64, w_u64, w_u8, w_u32, w_u16, w_i32, room_le, tm_nn, td_nn, nsucc])
    rfl
  · have hl := least93 1 (by omega) (by omega)
    subst e2
    obtain ⟨h1, h2⟩ := hi
    dsimp only at h1 h2
    obtain ⟨M, hM⟩ : ∃ M : Nat, n + 9223372036854775808 = M := ⟨(n + 9223372036854775808).toNat, by omega⟩
    have hf := ibit_flip n M h1 hM (by omega)
    have ek : keyV ⟨1, n, ⟨#[]⟩⟩ = 2 :: digs 8 M := by
      unfold keyV
      rw [if_pos rfl, hM, Int.toNat_natCast]
    rw [ek, ← bsI_digs]
    clear hM h1 h2 h ek
    refine FF_val Tryz.func115 rfl rfl ?_
    simp only [Tryz.ntmps115, Tryz.results115]
    repeat' (first | (intro hc; (try simp only [bne_eq_false_iff_eq, bne_iff_ne, beq_iff_eq, beq_eq_false_iff_ne, Bool.not_eq_true', Bool.not_eq_false', decide_eq_true_eq, decide_eq_false_iff_not] at hc); (try replace hc := eq_true (show (_ : ByteArray) = _ from hc)); (try (exfalso; first | omega | exact hc trivial | exact hc))) | refine And.intro (show okTr _ _ = true by kernel_rfl) ?_ | refine And.intro ?_ ?_ | refine stp_guard ?_ ?_ | refine stq_guard ?_ ?_ | refine dwp_seq ?_ | refine dwp_block ?_ | ((first | refine dwp_region ?_ | refine dwp_any ?_ | refine dwp_skip ?_ | refine dwp_exit ?_ | refine dwp_ret ?_ | refine dwp_if ?_ | skip); (simp only [go_sem, beq_true, beq_false, Bool.true_beq, Bool.false_beq, Bool.bne_true, Bool.bne_false, Bool.true_bne, Bool.false_bne, Option.isSome_none, ne_eq, Int.cast_ofNat_Int, ↓reduceIte, reduceCtorEq, Nat.reduceBEq, Nat.reduceEqDiff, Nat.reduceLT, Nat.reduceLeDiff, Nat.reduceAdd, Nat.reduceMul, Nat.reducePow, Nat.reduceSub, Int.reduceEq, Int.reduceLT, Int.reduceLE, Int.reduceToNat, Int.reduceMul, Int.reduceNeg, Int.reduceAdd, Int.reduceSub, strEs2, fd8, fd0, *]; try simp (disch := (first | omega | (simp only [ByteArray.size_append, bs_size, lit_size, cut_size, List.length_append, List.length_cons, List.length_nil]; omega))) only [sls2S, sls_lS, sls_hS, bop_sadd, List.length_drop, List.length_take, List.length_append, ite_ok, w_i64, w_u64, w_u8, w_u32, w_u16, w_i32, room_le, tm_nn, td_nn, nsucc])) | simp (disch := (first | omega | (simp only [ByteArray.size_append, bs_size, lit_size, cut_size, List.length_append, List.length_cons, List.length_nil]; omega))) only [sls2S, sls_lS, sls_hS, bop_sadd, List.length_drop, List.length_take, List.length_append, ite_ok, w_i64, w_u64, w_u8, w_u32, w_u16, w_i32, room_le, tm_nn, td_nn, nsucc])
    iterate 9 (refine dwp_loop ?_; repeat' (first | (intro hc; (try simp only [bne_eq_false_iff_eq, bne_iff_ne, beq_iff_eq, beq_eq_false_iff_ne, Bool.not_eq_true', Bool.not_eq_false', decide_eq_true_eq, decide_eq_false_iff_not] at hc); (try replace hc := eq_true (show (_ : ByteArray) = _ from hc)); (try (exfalso; first | omega | exact hc trivial | exact hc))) | refine And.intro (show okTr _ _ = true by kernel_rfl) ?_ | refine And.intro ?_ ?_ | refine stp_guard ?_ ?_ | refine stq_guard ?_ ?_ | refine dwp_seq ?_ | refine dwp_block ?_ | ((first | refine dwp_region ?_ | refine dwp_any ?_ | refine dwp_skip ?_ | refine dwp_exit ?_ | refine dwp_ret ?_ | refine dwp_if ?_ | skip); (simp only [go_sem, beq_true, beq_false, Bool.true_beq, Bool.false_beq, Bool.bne_true, Bool.bne_false, Bool.true_bne, Bool.false_bne, Option.isSome_none, ne_eq, Int.cast_ofNat_Int, ↓reduceIte, reduceCtorEq, Nat.reduceBEq, Nat.reduceEqDiff, Nat.reduceLT, Nat.reduceLeDiff, Nat.reduceAdd, Nat.reduceMul, Nat.reducePow, Nat.reduceSub, Int.reduceEq, Int.reduceLT, Int.reduceLE, Int.reduceToNat, Int.reduceMul, Int.reduceNeg, Int.reduceAdd, Int.reduceSub, strEs2, fd8, fd0, *]; try simp (disch := (first | omega | (simp only [ByteArray.size_append, bs_size, lit_size, cut_size, List.length_append, List.length_cons, List.length_nil]; omega))) only [sls2S, sls_lS, sls_hS, bop_sadd, List.length_drop, List.length_take, List.length_append, ite_ok, w_i64, w_u64, w_u8, w_u32, w_u16, w_i32, room_le, tm_nn, td_nn, nsucc])) | simp (disch := (first | omega | (simp only [ByteArray.size_append, bs_size, lit_size, cut_size, List.length_append, List.length_cons, List.length_nil]; omega))) only [sls2S, sls_lS, sls_hS, bop_sadd, List.length_drop, List.length_take, List.length_append, ite_ok, w_i64, w_u64, w_u8, w_u32, w_u16, w_i32, room_le, tm_nn, td_nn, nsucc]))
    rfl
  · have hl := least93 2 (by omega) (by omega)
    subst e2
    refine FF_val Tryz.func115 rfl rfl ?_
    simp only [Tryz.ntmps115, Tryz.results115]
    rcases e1 with e1 | e1 <;> dsimp only at e1 <;> subst e1
    · repeat' (first | (intro hc; (try simp only [bne_eq_false_iff_eq, bne_iff_ne, beq_iff_eq, beq_eq_false_iff_ne, Bool.not_eq_true', Bool.not_eq_false', decide_eq_true_eq, decide_eq_false_iff_not] at hc); (try replace hc := eq_true (show (_ : ByteArray) = _ from hc)); (try (exfalso; first | omega | exact hc trivial | exact hc))) | refine And.intro (show okTr _ _ = true by kernel_rfl) ?_ | refine And.intro ?_ ?_ | refine stp_guard ?_ ?_ | refine stq_guard ?_ ?_ | refine dwp_seq ?_ | refine dwp_block ?_ | ((first | refine dwp_region ?_ | refine dwp_any ?_ | refine dwp_skip ?_ | refine dwp_exit ?_ | refine dwp_ret ?_ | refine dwp_if ?_ | skip); (simp only [go_sem, beq_true, beq_false, Bool.true_beq, Bool.false_beq, Bool.bne_true, Bool.bne_false, Bool.true_bne, Bool.false_bne, Option.isSome_none, ne_eq, Int.cast_ofNat_Int, ↓reduceIte, reduceCtorEq, Nat.reduceBEq, Nat.reduceEqDiff, Nat.reduceLT, Nat.reduceLeDiff, Nat.reduceAdd, Nat.reduceMul, Nat.reducePow, Nat.reduceSub, Int.reduceEq, Int.reduceLT, Int.reduceLE, Int.reduceToNat, Int.reduceMul, Int.reduceNeg, Int.reduceAdd, Int.reduceSub, bsI1, *]; try simp (disch := (first | omega | (simp only [ByteArray.size_append, bs_size, lit_size, cut_size, List.length_append, List.length_cons, List.length_nil]; omega))) only [sls2S, sls_lS, sls_hS, bop_sadd, List.length_drop, List.length_take, List.length_append, ite_ok, w_i64, w_u64, w_u8, w_u32, w_u16, w_i32, room_le, tm_nn, td_nn, nsucc])) | simp (disch := (first | omega | (simp only [ByteArray.size_append, bs_size, lit_size, cut_size, List.length_append, List.length_cons, List.length_nil]; omega))) only [sls2S, sls_lS, sls_hS, bop_sadd, List.length_drop, List.length_take, List.length_append, ite_ok, w_i64, w_u64, w_u8, w_u32, w_u16, w_i32, room_le, tm_nn, td_nn, nsucc])
      rfl
    · repeat' (first | (intro hc; (try simp only [bne_eq_false_iff_eq, bne_iff_ne, beq_iff_eq, beq_eq_false_iff_ne, Bool.not_eq_true', Bool.not_eq_false', decide_eq_true_eq, decide_eq_false_iff_not] at hc); (try replace hc := eq_true (show (_ : ByteArray) = _ from hc)); (try (exfalso; first | omega | exact hc trivial | exact hc))) | refine And.intro (show okTr _ _ = true by kernel_rfl) ?_ | refine And.intro ?_ ?_ | refine stp_guard ?_ ?_ | refine stq_guard ?_ ?_ | refine dwp_seq ?_ | refine dwp_block ?_ | ((first | refine dwp_region ?_ | refine dwp_any ?_ | refine dwp_skip ?_ | refine dwp_exit ?_ | refine dwp_ret ?_ | refine dwp_if ?_ | skip); (simp only [go_sem, beq_true, beq_false, Bool.true_beq, Bool.false_beq, Bool.bne_true, Bool.bne_false, Bool.true_bne, Bool.false_bne, Option.isSome_none, ne_eq, Int.cast_ofNat_Int, ↓reduceIte, reduceCtorEq, Nat.reduceBEq, Nat.reduceEqDiff, Nat.reduceLT, Nat.reduceLeDiff, Nat.reduceAdd, Nat.reduceMul, Nat.reducePow, Nat.reduceSub, Int.reduceEq, Int.reduceLT, Int.reduceLE, Int.reduceToNat, Int.reduceMul, Int.reduceNeg, Int.reduceAdd, Int.reduceSub, bsI1, *]; try simp (disch := (first | omega | (simp only [ByteArray.size_append, bs_size, lit_size, cut_size, List.length_append, List.length_cons, List.length_nil]; omega))) only [sls2S, sls_lS, sls_hS, bop_sadd, List.length_drop, List.length_take, List.length_append, ite_ok, w_i64, w_u64, w_u8, w_u32, w_u16, w_i32, room_le, tm_nn, td_nn, nsucc])) | simp (disch := (first | omega | (simp only [ByteArray.size_append, bs_size, lit_size, cut_size, List.length_append, List.length_cons, List.length_nil]; omega))) only [sls2S, sls_lS, sls_hS, bop_sadd, List.length_drop, List.length_take, List.length_append, ite_ok, w_i64, w_u64, w_u8, w_u32, w_u16, w_i32, room_le, tm_nn, td_nn, nsucc])
      rfl
  · have hl := least93 3 (by omega) (by omega)
    dsimp only at e1
    subst e1
    have hr : FF 156 [.v (.string t), .v (.string ⟨#[0]⟩), .v (.string ⟨#[0, 255]⟩)] = some (.v (.string (bs (esc (bl t))))) := by
      refine FF_prim ?_
      have hc := Lib.countB_le (⟨#[0]⟩ : ByteArray) (by decide) t.size t (Nat.le_refl _)
      show pReplaceAll [.v (.string t), .v (.string ⟨#[0]⟩), .v (.string ⟨#[0, 255]⟩)] [] = _
      unfold pReplaceAll
      simp only
      rw [if_pos ⟨by omega, by decide, by show t.size + Lib.countB t ⟨#[0]⟩ * 2 ≤ _; omega⟩, show bl (⟨#[0]⟩ : ByteArray) = [0] from rfl, show bl (⟨#[0, 255]⟩ : ByteArray) = [0, 255] from rfl, replaceAll_esc]
    have hz : (esc (bl t)).length ≤ 96 := by
      have := esc_len (bl t)
      rw [bl_size] at this
      omega
    generalize hc : esc (bl t) = q at *
    have ek : bs (keyV ⟨3, 0, t⟩) = bs [4] ++ bs q ++ ⟨#[0, 1]⟩ := by
      rw [← hc]
      rfl
    rw [ek]
    refine FF_val Tryz.func115 rfl rfl ?_
    simp only [Tryz.ntmps115, Tryz.results115]
    repeat' (first | (intro hc; (try simp only [bne_eq_false_iff_eq, bne_iff_ne, beq_iff_eq, beq_eq_false_iff_ne, Bool.not_eq_true', Bool.not_eq_false', decide_eq_true_eq, decide_eq_false_iff_not] at hc); (try replace hc := eq_true (show (_ : ByteArray) = _ from hc)); (try (exfalso; first | omega | exact hc trivial | exact hc))) | refine And.intro (show okTr _ _ = true by kernel_rfl) ?_ | refine And.intro ?_ ?_ | refine stp_guard ?_ ?_ | refine stq_guard ?_ ?_ | refine dwp_seq ?_ | refine dwp_block ?_ | ((first | refine dwp_region ?_ | refine dwp_any ?_ | refine dwp_skip ?_ | refine dwp_exit ?_ | refine dwp_ret ?_ | refine dwp_if ?_ | skip); (simp only [go_sem, beq_true, beq_false, Bool.true_beq, Bool.false_beq, Bool.bne_true, Bool.bne_false, Bool.true_bne, Bool.false_bne, Option.isSome_none, ne_eq, Int.cast_ofNat_Int, ↓reduceIte, reduceCtorEq, Nat.reduceBEq, Nat.reduceEqDiff, Nat.reduceLT, Nat.reduceLeDiff, Nat.reduceAdd, Nat.reduceMul, Nat.reducePow, Nat.reduceSub, Int.reduceEq, Int.reduceLT, Int.reduceLE, Int.reduceToNat, Int.reduceMul, Int.reduceNeg, Int.reduceAdd, Int.reduceSub, *]; try simp (disch := (first | omega | (simp only [ByteArray.size_append, bs_size, lit_size, cut_size, List.length_append, List.length_cons, List.length_nil]; omega))) only [sls2S, sls_lS, sls_hS, bop_sadd, List.length_drop, List.length_take, List.length_append, ite_ok, w_i64, w_u64, w_u8, w_u32, w_u16, w_i32, room_le, tm_nn, td_nn, nsucc])) | simp (disch := (first | omega | (simp only [ByteArray.size_append, bs_size, lit_size, cut_size, List.length_append, List.length_cons, List.length_nil]; omega))) only [sls2S, sls_lS, sls_hS, bop_sadd, List.length_drop, List.length_take, List.length_append, ite_ok, w_i64, w_u64, w_u8, w_u32, w_u16, w_i32, room_le, tm_nn, td_nn, nsucc])
    rfl
end Go.Proofs.YtjdmjofkibiaaaaGreatDoor
