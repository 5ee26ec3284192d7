/- What the program's functions make of data: products; what an operation comes to. -/
import Derived.Test.YtjdkcedhmfgmoaaTd
namespace Go.Proofs.Ytjdkcedhmfgmoaa
open Go Go.Eng Go.Proofs
set_option linter.unusedVariables false
set_option linter.unusedSimpArgs false
set_option maxRecDepth 100000
set_option maxHeartbeats 4000000

theorem fdiv32 (x : Int) : x.fdiv (2 ^ 32) = x / 4294967296 := by
  rw [Int.fdiv_eq_ediv_of_nonneg _ (by decide)]; rfl
theorem and32 (x : Int) (h0 : 0 ≤ x) (h1 : x < 18446744073709551616) : ibit .and .u64 x 4294967295 = x % 4294967296 := by
  obtain ⟨m, rfl⟩ : ∃ m : Nat, x = (m : Int) := ⟨x.toNat, by omega⟩
  have e0 : (4294967295 : Int) = ((4294967295 : Nat) : Int) := by decide
  rw [e0]
  unfold ibit
  have e1 : ∀ n : Nat, BitVec.ofInt IntKind.u64.bits (n : Int) = BitVec.ofNat 64 n := fun n => by
    apply BitVec.eq_of_toInt_eq
    show (BitVec.ofInt 64 (n : Int)).toInt = (BitVec.ofNat 64 n).toInt
    simp
  simp only [e1]
  have e2 : (BitVec.ofNat 64 m &&& BitVec.ofNat 64 4294967295).toNat = m % 4294967296 := by
    rw [BitVec.toNat_and, BitVec.toNat_ofNat, BitVec.toNat_ofNat, Nat.mod_eq_of_lt (by omega), Nat.mod_eq_of_lt (by decide)]
    exact Nat.and_two_pow_sub_one_eq_mod m 32
  refine (congrArg (fun x : Nat => IntKind.u64.wrap (x : Int)) e2).trans ?_
  simp only [u64w]
  omega
theorem mul70 (a b : Int) (ha0 : 0 ≤ a) (ha : a < 18446744073709551616) (hb0 : 0 ≤ b) (hb : b < 18446744073709551616) : FF 70 [.v (.int .u64 a), .v (.int .u64 b)] = some (.tup [.v (.int .u64 (a * b / 18446744073709551616)), .v (.int .u64 (a * b % 18446744073709551616))]) := by
  obtain ⟨a1, a0, ea, h1, h2, h3, h4⟩ : ∃ a1 a0, a = a1 * 4294967296 + a0 ∧ 0 ≤ a0 ∧ a0 ≤ 4294967295 ∧ 0 ≤ a1 ∧ a1 ≤ 4294967295 := ⟨a / 4294967296, a % 4294967296, by omega, by omega, by omega, by omega, by omega⟩
  obtain ⟨b1, b0, eb, h5, h6, h7, h8⟩ : ∃ b1 b0, b = b1 * 4294967296 + b0 ∧ 0 ≤ b0 ∧ b0 ≤ 4294967295 ∧ 0 ≤ b1 ∧ b1 ≤ 4294967295 := ⟨b / 4294967296, b % 4294967296, by omega, by omega, by omega, by omega, by omega⟩
  have ma := and32 a ha0 ha
  have mb := and32 b hb0 hb
  have sa := fdiv32 a
  have sb := fdiv32 b
  rw [show a % 4294967296 = a0 by omega] at ma
  rw [show b % 4294967296 = b0 by omega] at mb
  rw [show a / 4294967296 = a1 by omega] at sa
  rw [show b / 4294967296 = b1 by omega] at sb
  have ep : a * b = a1 * b1 * 18446744073709551616 + (a1 * b0 + a0 * b1) * 4294967296 + a0 * b0 := by rw [ea, eb]; grind
  have bd : ∀ x y : Int, 0 ≤ x → x ≤ 4294967295 → 0 ≤ y → y ≤ 4294967295 → 0 ≤ x * y ∧ x * y ≤ 18446744065119617025 := fun x y hx0 hx hy0 hy =>
    ⟨Int.mul_nonneg hx0 hy0, Int.le_trans (Int.mul_le_mul hx hy hy0 (by decide)) (by decide)⟩
  have p11 := bd a1 b1 h3 h4 h7 h8; have p10 := bd a1 b0 h3 h4 h5 h6; have p01 := bd a0 b1 h1 h2 h7 h8; have p00 := bd a0 b0 h1 h2 h5 h6
  refine FF_val Try.func70 rfl rfl ?_
  simp only [Try.ntmps70, Try.results70]
  have hz : ¬ (32 : Int) < 0 := by decide
  have w5 : IntKind.u64.wrap (a * b) = a * b % 18446744073709551616 := u64w _
  have w00 : IntKind.u64.wrap (a0 * b0) = a0 * b0 := by rw [u64w]; omega
  have w10 : IntKind.u64.wrap (a1 * b0) = a1 * b0 := by rw [u64w]; omega
  have w01 : IntKind.u64.wrap (a0 * b1) = a0 * b1 := by rw [u64w]; omega
  have w11 : IntKind.u64.wrap (a1 * b1) = a1 * b1 := by rw [u64w]; omega
  have s00 := fdiv32 (a0 * b0)
  have wt : IntKind.u64.wrap (a1 * b0 + a0 * b0 / 4294967296) = a1 * b0 + a0 * b0 / 4294967296 := by rw [u64w]; omega
  have mt := and32 (a1 * b0 + a0 * b0 / 4294967296) (by omega) (by omega)
  have st := fdiv32 (a1 * b0 + a0 * b0 / 4294967296)
  have wm : IntKind.u64.wrap ((a1 * b0 + a0 * b0 / 4294967296) % 4294967296 + a0 * b1) = (a1 * b0 + a0 * b0 / 4294967296) % 4294967296 + a0 * b1 := by rw [u64w]; omega
  have sm := fdiv32 ((a1 * b0 + a0 * b0 / 4294967296) % 4294967296 + a0 * b1)
  have wh : IntKind.u64.wrap (a1 * b1 + (a1 * b0 + a0 * b0 / 4294967296) / 4294967296) = a1 * b1 + (a1 * b0 + a0 * b0 / 4294967296) / 4294967296 := by rw [u64w]; omega
  have wf : IntKind.u64.wrap (a1 * b1 + (a1 * b0 + a0 * b0 / 4294967296) / 4294967296 + ((a1 * b0 + a0 * b0 / 4294967296) % 4294967296 + a0 * b1) / 4294967296) = a * b / 18446744073709551616 := by rw [u64w, ep]; omega
  repeat (first | refine dwp_seq ?_ | refine dwp_block ?_ | ((first | refine dwp_region ?_ | refine dwp_any ?_ | refine dwp_skip ?_ | refine dwp_exit ?_ | refine dwp_ret ?_ | refine dwp_if ?_); simp only [go_sem, beq_true, beq_false, Bool.true_beq, Bool.false_beq, Bool.bne_true, Bool.bne_false, Bool.true_bne, Bool.false_bne, Option.isSome_none, ne_eq, Int.cast_ofNat_Int, ↓reduceIte, reduceCtorEq, Nat.reduceBEq, Nat.reduceEqDiff, Nat.reduceLT, Nat.reduceLeDiff, Nat.reduceAdd, Nat.reduceMul, Nat.reducePow, Nat.reduceSub, Int.reduceEq, Int.reduceLT, Int.reduceLE, Int.reduceToNat, Int.reduceMul, Int.reduceNeg, Int.reduceAdd, Int.reduceSub, ma, mb, sa, sb, hz, w5, w00, w10, w01, w11, s00, wt, mt, st, wm, sm, wh, wf]; try refine And.intro (show okTr _ _ = true by kernel_rfl) ?_))
theorem mul89 (a b : Int) (ha : I64 a) (hb : I64 b) : FF 89 [.v (.int .i64 a), .v (.int .i64 b)] = some (.tup [.v (.int .i64 (if inR (a * b) = true then a * b else 0)), .v (.bool (inR (a * b)))]) := by
  have z1 := size101 a ha
  have z2 := size101 b hb
  unfold I64 at ha hb
  have es : a * b = if (decide (a < 0)) != (decide (b < 0)) then -((a.natAbs : Int) * (b.natAbs : Int)) else (a.natAbs : Int) * (b.natAbs : Int) := by
    by_cases h1 : a < 0 <;> by_cases h2 : b < 0
    · rw [Int.ofNat_natAbs_of_nonpos (by omega), Int.ofNat_natAbs_of_nonpos (by omega)]; simp [h1, h2, Int.neg_mul, Int.mul_neg]
    · rw [Int.ofNat_natAbs_of_nonpos (by omega), Int.natAbs_of_nonneg (by omega)]; simp [h1, h2, Int.neg_mul, Int.mul_neg]
    · rw [Int.natAbs_of_nonneg (by omega), Int.ofNat_natAbs_of_nonpos (by omega)]; simp [h1, h2, Int.neg_mul, Int.mul_neg]
    · rw [Int.natAbs_of_nonneg (by omega), Int.natAbs_of_nonneg (by omega)]; simp [h1, h2, Int.neg_mul, Int.mul_neg]
  have hx : (a.natAbs : Int) ≤ 9223372036854775808 := by omega
  have hy : (b.natAbs : Int) ≤ 9223372036854775808 := by omega
  have hx0 : 0 ≤ (a.natAbs : Int) := by omega
  have hy0 : 0 ≤ (b.natAbs : Int) := by omega
  have hm := mul70 (a.natAbs : Int) (b.natAbs : Int) hx0 (by omega) hy0 (by omega)
  have hP : 0 ≤ (a.natAbs : Int) * (b.natAbs : Int) ∧ (a.natAbs : Int) * (b.natAbs : Int) ≤ 85070591730234615865843651857942052864 := ⟨Int.mul_nonneg hx0 hy0, Int.le_trans (Int.mul_le_mul hx hy hy0 (by decide)) (by decide)⟩
  generalize (a.natAbs : Int) * (b.natAbs : Int) = p at *
  have e1 : p / 18446744073709551616 = hi p := by unfold hi; omega
  have e2 : p % 18446744073709551616 = lo p := rfl
  rw [e1, e2] at hm
  have hmi := minus85 p
  refine FF_val Try.func89 rfl rfl ?_
  simp only [Try.ntmps89, Try.results89]
  cases hs : ((decide (a < 0)) != (decide (b < 0))) with
  | true =>
    rw [hs, if_pos rfl] at es
    have hr := right86 (-p) (by omega)
    rw [es]
    repeat (first | refine dwp_seq ?_ | refine dwp_block ?_ | ((first | refine dwp_region ?_ | refine dwp_any ?_ | refine dwp_skip ?_ | refine dwp_exit ?_ | refine dwp_ret ?_ | refine dwp_if ?_); simp only [go_sem, beq_true, beq_false, Bool.true_beq, Bool.false_beq, Bool.bne_true, Bool.bne_false, Bool.true_bne, Bool.false_bne, Option.isSome_none, ne_eq, Int.cast_ofNat_Int, ↓reduceIte, reduceCtorEq, Nat.reduceBEq, Nat.reduceEqDiff, Nat.reduceLT, Nat.reduceLeDiff, Nat.reduceAdd, Nat.reduceMul, Nat.reducePow, Nat.reduceSub, Int.reduceEq, Int.reduceLT, Int.reduceLE, Int.reduceToNat, Int.reduceMul, Int.reduceNeg, Int.reduceAdd, Int.reduceSub, z1, z2, hm, hmi, hs, hr]; try refine And.intro (show okTr _ _ = true by kernel_rfl) ?_))
  | false =>
    rw [hs, if_neg (by decide)] at es
    have hr := right86 p (by omega)
    rw [es]
    repeat (first | refine dwp_seq ?_ | refine dwp_block ?_ | ((first | refine dwp_region ?_ | refine dwp_any ?_ | refine dwp_skip ?_ | refine dwp_exit ?_ | refine dwp_ret ?_ | refine dwp_if ?_); simp only [go_sem, beq_true, beq_false, Bool.true_beq, Bool.false_beq, Bool.bne_true, Bool.bne_false, Bool.true_bne, Bool.false_bne, Option.isSome_none, ne_eq, Int.cast_ofNat_Int, ↓reduceIte, reduceCtorEq, Nat.reduceBEq, Nat.reduceEqDiff, Nat.reduceLT, Nat.reduceLeDiff, Nat.reduceAdd, Nat.reduceMul, Nat.reducePow, Nat.reduceSub, Int.reduceEq, Int.reduceLT, Int.reduceLE, Int.reduceToNat, Int.reduceMul, Int.reduceNeg, Int.reduceAdd, Int.reduceSub, z1, z2, hm, hmi, hs, hr]; try refine And.intro (show okTr _ _ = true by kernel_rfl) ?_))
def oAdd : ByteArray := ⟨#[43]⟩
def oSub : ByteArray := ⟨#[45]⟩
def oMul : ByteArray := ⟨#[42]⟩
/-- what an operation makes of two values, if it is right -/
def arith (op : ByteArray) (a b : Int) : Option Int := if op = oAdd then some (a + b) else if op = oSub then some (a - b) else if op = oMul then some (a * b) else none
def doV (op : ByteArray) (k n k' n' : Int) : Option (Int × Int) :=
  if 1 < k ∨ 1 < k' then none else match arith op n n' with
    | none => none
    | some z => if k = 0 ∨ k' = 0 then some (0, 0) else if inR z = true then some (1, z) else none
def doC (op : ByteArray) (k n k' n' : Int) : D := match doV op k n k' n' with
  | none => .tup [.agg [.v (.int .u8 0), .v (.int .i64 0), .v (.string ⟨#[]⟩)], .v (.bool false)]
  | some p => .tup [.agg [.v (.int .u8 p.1), .v (.int .i64 p.2), .v (.string ⟨#[]⟩)], .v (.bool true)]
theorem do75 (op : ByteArray) (k n : Int) (s : ByteArray) (k' n' : Int) (s' : ByteArray) (hn : I64 n) (hn' : I64 n') : FF 75 [.v (.string op), .agg [.v (.int .u8 k), .v (.int .i64 n), .v (.string s)], .agg [.v (.int .u8 k'), .v (.int .i64 n'), .v (.string s')]] = some (doC op k n k' n') := by
  have ha := add87 n n' hn hn'
  have hs := sub88 n n' hn hn'
  have hm := mul89 n n' hn hn'
  refine FF_val Try.func75 rfl rfl ?_
  simp only [Try.ntmps75, Try.results75]
  unfold doC doV
  by_cases h1 : 1 < k
  · rw [if_pos (.inl h1)]
    repeat (first | refine dwp_seq ?_ | refine dwp_block ?_ | ((first | refine dwp_region ?_ | refine dwp_any ?_ | refine dwp_skip ?_ | refine dwp_exit ?_ | refine dwp_ret ?_ | refine dwp_if ?_); simp only [go_sem, beq_true, beq_false, Bool.true_beq, Bool.false_beq, Bool.bne_true, Bool.bne_false, Bool.true_bne, Bool.false_bne, Option.isSome_none, ne_eq, Int.cast_ofNat_Int, ↓reduceIte, reduceCtorEq, Nat.reduceBEq, Nat.reduceEqDiff, Nat.reduceLT, Nat.reduceLeDiff, Nat.reduceAdd, Nat.reduceMul, Nat.reducePow, Nat.reduceSub, Int.reduceEq, Int.reduceLT, Int.reduceLE, Int.reduceToNat, Int.reduceMul, Int.reduceNeg, Int.reduceAdd, Int.reduceSub, h1]; try refine And.intro (show okTr _ _ = true by kernel_rfl) ?_))
  by_cases h2 : 1 < k'
  · rw [if_pos (.inr h2)]
    repeat (first | refine dwp_seq ?_ | refine dwp_block ?_ | ((first | refine dwp_region ?_ | refine dwp_any ?_ | refine dwp_skip ?_ | refine dwp_exit ?_ | refine dwp_ret ?_ | refine dwp_if ?_); simp only [go_sem, beq_true, beq_false, Bool.true_beq, Bool.false_beq, Bool.bne_true, Bool.bne_false, Bool.true_bne, Bool.false_bne, Option.isSome_none, ne_eq, Int.cast_ofNat_Int, ↓reduceIte, reduceCtorEq, Nat.reduceBEq, Nat.reduceEqDiff, Nat.reduceLT, Nat.reduceLeDiff, Nat.reduceAdd, Nat.reduceMul, Nat.reducePow, Nat.reduceSub, Int.reduceEq, Int.reduceLT, Int.reduceLE, Int.reduceToNat, Int.reduceMul, Int.reduceNeg, Int.reduceAdd, Int.reduceSub, h1, h2]; try refine And.intro (show okTr _ _ = true by kernel_rfl) ?_))
  rw [if_neg (by omega)]
  unfold arith
  by_cases o1 : op = oAdd
  · have o1' : (op = ⟨#[43]⟩) = True := eq_true o1
    simp only [if_pos o1]
    by_cases k0 : k = 0
    · rw [if_pos (.inl k0)]
      repeat (first | refine dwp_seq ?_ | refine dwp_block ?_ | ((first | refine dwp_region ?_ | refine dwp_any ?_ | refine dwp_skip ?_ | refine dwp_exit ?_ | refine dwp_ret ?_ | refine dwp_if ?_); simp only [go_sem, beq_true, beq_false, Bool.true_beq, Bool.false_beq, Bool.bne_true, Bool.bne_false, Bool.true_bne, Bool.false_bne, Option.isSome_none, ne_eq, Int.cast_ofNat_Int, ↓reduceIte, reduceCtorEq, Nat.reduceBEq, Nat.reduceEqDiff, Nat.reduceLT, Nat.reduceLeDiff, Nat.reduceAdd, Nat.reduceMul, Nat.reducePow, Nat.reduceSub, Int.reduceEq, Int.reduceLT, Int.reduceLE, Int.reduceToNat, Int.reduceMul, Int.reduceNeg, Int.reduceAdd, Int.reduceSub, h2, o1', k0]; try refine And.intro (show okTr _ _ = true by kernel_rfl) ?_))
    by_cases k1 : k' = 0
    · rw [if_pos (.inr k1)]
      repeat (first | refine dwp_seq ?_ | refine dwp_block ?_ | ((first | refine dwp_region ?_ | refine dwp_any ?_ | refine dwp_skip ?_ | refine dwp_exit ?_ | refine dwp_ret ?_ | refine dwp_if ?_); simp only [go_sem, beq_true, beq_false, Bool.true_beq, Bool.false_beq, Bool.bne_true, Bool.bne_false, Bool.true_bne, Bool.false_bne, Option.isSome_none, ne_eq, Int.cast_ofNat_Int, ↓reduceIte, reduceCtorEq, Nat.reduceBEq, Nat.reduceEqDiff, Nat.reduceLT, Nat.reduceLeDiff, Nat.reduceAdd, Nat.reduceMul, Nat.reducePow, Nat.reduceSub, Int.reduceEq, Int.reduceLT, Int.reduceLE, Int.reduceToNat, Int.reduceMul, Int.reduceNeg, Int.reduceAdd, Int.reduceSub, h1, o1', k0, k1]; try refine And.intro (show okTr _ _ = true by kernel_rfl) ?_))
    rw [if_neg (by omega)]
    cases hr : inR (n + n')
    · rw [hr] at ha
      repeat (first | refine dwp_seq ?_ | refine dwp_block ?_ | ((first | refine dwp_region ?_ | refine dwp_any ?_ | refine dwp_skip ?_ | refine dwp_exit ?_ | refine dwp_ret ?_ | refine dwp_if ?_); simp only [go_sem, beq_true, beq_false, Bool.true_beq, Bool.false_beq, Bool.bne_true, Bool.bne_false, Bool.true_bne, Bool.false_bne, Option.isSome_none, ne_eq, Int.cast_ofNat_Int, ↓reduceIte, reduceCtorEq, Nat.reduceBEq, Nat.reduceEqDiff, Nat.reduceLT, Nat.reduceLeDiff, Nat.reduceAdd, Nat.reduceMul, Nat.reducePow, Nat.reduceSub, Int.reduceEq, Int.reduceLT, Int.reduceLE, Int.reduceToNat, Int.reduceMul, Int.reduceNeg, Int.reduceAdd, Int.reduceSub, h1, h2, o1', k0, k1, ha]; try refine And.intro (show okTr _ _ = true by kernel_rfl) ?_))
    · rw [hr] at ha
      simp only [if_true] at ha
      repeat (first | refine dwp_seq ?_ | refine dwp_block ?_ | ((first | refine dwp_region ?_ | refine dwp_any ?_ | refine dwp_skip ?_ | refine dwp_exit ?_ | refine dwp_ret ?_ | refine dwp_if ?_); simp only [go_sem, beq_true, beq_false, Bool.true_beq, Bool.false_beq, Bool.bne_true, Bool.bne_false, Bool.true_bne, Bool.false_bne, Option.isSome_none, ne_eq, Int.cast_ofNat_Int, ↓reduceIte, reduceCtorEq, Nat.reduceBEq, Nat.reduceEqDiff, Nat.reduceLT, Nat.reduceLeDiff, Nat.reduceAdd, Nat.reduceMul, Nat.reducePow, Nat.reduceSub, Int.reduceEq, Int.reduceLT, Int.reduceLE, Int.reduceToNat, Int.reduceMul, Int.reduceNeg, Int.reduceAdd, Int.reduceSub, h1, h2, o1', k0, k1, ha]; try refine And.intro (show okTr _ _ = true by kernel_rfl) ?_))
  have o1' : ¬ op = ⟨#[43]⟩ := o1
  by_cases o2 : op = oSub
  · have o2' : (op = ⟨#[45]⟩) = True := eq_true o2
    simp only [if_neg o1, if_pos o2]
    by_cases k0 : k = 0
    · rw [if_pos (.inl k0)]
      repeat (first | refine dwp_seq ?_ | refine dwp_block ?_ | ((first | refine dwp_region ?_ | refine dwp_any ?_ | refine dwp_skip ?_ | refine dwp_exit ?_ | refine dwp_ret ?_ | refine dwp_if ?_); simp only [go_sem, beq_true, beq_false, Bool.true_beq, Bool.false_beq, Bool.bne_true, Bool.bne_false, Bool.true_bne, Bool.false_bne, Option.isSome_none, ne_eq, Int.cast_ofNat_Int, ↓reduceIte, reduceCtorEq, Nat.reduceBEq, Nat.reduceEqDiff, Nat.reduceLT, Nat.reduceLeDiff, Nat.reduceAdd, Nat.reduceMul, Nat.reducePow, Nat.reduceSub, Int.reduceEq, Int.reduceLT, Int.reduceLE, Int.reduceToNat, Int.reduceMul, Int.reduceNeg, Int.reduceAdd, Int.reduceSub, h2, o1', o2', k0]; try refine And.intro (show okTr _ _ = true by kernel_rfl) ?_))
    by_cases k1 : k' = 0
    · rw [if_pos (.inr k1)]
      repeat (first | refine dwp_seq ?_ | refine dwp_block ?_ | ((first | refine dwp_region ?_ | refine dwp_any ?_ | refine dwp_skip ?_ | refine dwp_exit ?_ | refine dwp_ret ?_ | refine dwp_if ?_); simp only [go_sem, beq_true, beq_false, Bool.true_beq, Bool.false_beq, Bool.bne_true, Bool.bne_false, Bool.true_bne, Bool.false_bne, Option.isSome_none, ne_eq, Int.cast_ofNat_Int, ↓reduceIte, reduceCtorEq, Nat.reduceBEq, Nat.reduceEqDiff, Nat.reduceLT, Nat.reduceLeDiff, Nat.reduceAdd, Nat.reduceMul, Nat.reducePow, Nat.reduceSub, Int.reduceEq, Int.reduceLT, Int.reduceLE, Int.reduceToNat, Int.reduceMul, Int.reduceNeg, Int.reduceAdd, Int.reduceSub, h1, o1', o2', k0, k1]; try refine And.intro (show okTr _ _ = true by kernel_rfl) ?_))
    rw [if_neg (by omega)]
    cases hr : inR (n - n')
    · rw [hr] at hs
      repeat (first | refine dwp_seq ?_ | refine dwp_block ?_ | ((first | refine dwp_region ?_ | refine dwp_any ?_ | refine dwp_skip ?_ | refine dwp_exit ?_ | refine dwp_ret ?_ | refine dwp_if ?_); simp only [go_sem, beq_true, beq_false, Bool.true_beq, Bool.false_beq, Bool.bne_true, Bool.bne_false, Bool.true_bne, Bool.false_bne, Option.isSome_none, ne_eq, Int.cast_ofNat_Int, ↓reduceIte, reduceCtorEq, Nat.reduceBEq, Nat.reduceEqDiff, Nat.reduceLT, Nat.reduceLeDiff, Nat.reduceAdd, Nat.reduceMul, Nat.reducePow, Nat.reduceSub, Int.reduceEq, Int.reduceLT, Int.reduceLE, Int.reduceToNat, Int.reduceMul, Int.reduceNeg, Int.reduceAdd, Int.reduceSub, h1, h2, o1', o2', k0, k1, hs]; try refine And.intro (show okTr _ _ = true by kernel_rfl) ?_))
    · rw [hr] at hs
      simp only [if_true] at hs
      repeat (first | refine dwp_seq ?_ | refine dwp_block ?_ | ((first | refine dwp_region ?_ | refine dwp_any ?_ | refine dwp_skip ?_ | refine dwp_exit ?_ | refine dwp_ret ?_ | refine dwp_if ?_); simp only [go_sem, beq_true, beq_false, Bool.true_beq, Bool.false_beq, Bool.bne_true, Bool.bne_false, Bool.true_bne, Bool.false_bne, Option.isSome_none, ne_eq, Int.cast_ofNat_Int, ↓reduceIte, reduceCtorEq, Nat.reduceBEq, Nat.reduceEqDiff, Nat.reduceLT, Nat.reduceLeDiff, Nat.reduceAdd, Nat.reduceMul, Nat.reducePow, Nat.reduceSub, Int.reduceEq, Int.reduceLT, Int.reduceLE, Int.reduceToNat, Int.reduceMul, Int.reduceNeg, Int.reduceAdd, Int.reduceSub, h1, h2, o1', o2', k0, k1, hs]; try refine And.intro (show okTr _ _ = true by kernel_rfl) ?_))
  have o2' : ¬ op = ⟨#[45]⟩ := o2
  by_cases o3 : op = oMul
  · have o3' : (op = ⟨#[42]⟩) = True := eq_true o3
    simp only [if_neg o1, if_neg o2, if_pos o3]
    by_cases k0 : k = 0
    · rw [if_pos (.inl k0)]
      repeat (first | refine dwp_seq ?_ | refine dwp_block ?_ | ((first | refine dwp_region ?_ | refine dwp_any ?_ | refine dwp_skip ?_ | refine dwp_exit ?_ | refine dwp_ret ?_ | refine dwp_if ?_); simp only [go_sem, beq_true, beq_false, Bool.true_beq, Bool.false_beq, Bool.bne_true, Bool.bne_false, Bool.true_bne, Bool.false_bne, Option.isSome_none, ne_eq, Int.cast_ofNat_Int, ↓reduceIte, reduceCtorEq, Nat.reduceBEq, Nat.reduceEqDiff, Nat.reduceLT, Nat.reduceLeDiff, Nat.reduceAdd, Nat.reduceMul, Nat.reducePow, Nat.reduceSub, Int.reduceEq, Int.reduceLT, Int.reduceLE, Int.reduceToNat, Int.reduceMul, Int.reduceNeg, Int.reduceAdd, Int.reduceSub, h2, o1', o2', o3', k0]; try refine And.intro (show okTr _ _ = true by kernel_rfl) ?_))
    by_cases k1 : k' = 0
    · rw [if_pos (.inr k1)]
      repeat (first | refine dwp_seq ?_ | refine dwp_block ?_ | ((first | refine dwp_region ?_ | refine dwp_any ?_ | refine dwp_skip ?_ | refine dwp_exit ?_ | refine dwp_ret ?_ | refine dwp_if ?_); simp only [go_sem, beq_true, beq_false, Bool.true_beq, Bool.false_beq, Bool.bne_true, Bool.bne_false, Bool.true_bne, Bool.false_bne, Option.isSome_none, ne_eq, Int.cast_ofNat_Int, ↓reduceIte, reduceCtorEq, Nat.reduceBEq, Nat.reduceEqDiff, Nat.reduceLT, Nat.reduceLeDiff, Nat.reduceAdd, Nat.reduceMul, Nat.reducePow, Nat.reduceSub, Int.reduceEq, Int.reduceLT, Int.reduceLE, Int.reduceToNat, Int.reduceMul, Int.reduceNeg, Int.reduceAdd, Int.reduceSub, h1, o1', o2', o3', k0, k1]; try refine And.intro (show okTr _ _ = true by kernel_rfl) ?_))
    rw [if_neg (by omega)]
    cases hr : inR (n * n')
    · rw [hr] at hm
      repeat (first | refine dwp_seq ?_ | refine dwp_block ?_ | ((first | refine dwp_region ?_ | refine dwp_any ?_ | refine dwp_skip ?_ | refine dwp_exit ?_ | refine dwp_ret ?_ | refine dwp_if ?_); simp only [go_sem, beq_true, beq_false, Bool.true_beq, Bool.false_beq, Bool.bne_true, Bool.bne_false, Bool.true_bne, Bool.false_bne, Option.isSome_none, ne_eq, Int.cast_ofNat_Int, ↓reduceIte, reduceCtorEq, Nat.reduceBEq, Nat.reduceEqDiff, Nat.reduceLT, Nat.reduceLeDiff, Nat.reduceAdd, Nat.reduceMul, Nat.reducePow, Nat.reduceSub, Int.reduceEq, Int.reduceLT, Int.reduceLE, Int.reduceToNat, Int.reduceMul, Int.reduceNeg, Int.reduceAdd, Int.reduceSub, h1, h2, o1', o2', o3', k0, k1, hm]; try refine And.intro (show okTr _ _ = true by kernel_rfl) ?_))
    · rw [hr] at hm
      simp only [if_true] at hm
      repeat (first | refine dwp_seq ?_ | refine dwp_block ?_ | ((first | refine dwp_region ?_ | refine dwp_any ?_ | refine dwp_skip ?_ | refine dwp_exit ?_ | refine dwp_ret ?_ | refine dwp_if ?_); simp only [go_sem, beq_true, beq_false, Bool.true_beq, Bool.false_beq, Bool.bne_true, Bool.bne_false, Bool.true_bne, Bool.false_bne, Option.isSome_none, ne_eq, Int.cast_ofNat_Int, ↓reduceIte, reduceCtorEq, Nat.reduceBEq, Nat.reduceEqDiff, Nat.reduceLT, Nat.reduceLeDiff, Nat.reduceAdd, Nat.reduceMul, Nat.reducePow, Nat.reduceSub, Int.reduceEq, Int.reduceLT, Int.reduceLE, Int.reduceToNat, Int.reduceMul, Int.reduceNeg, Int.reduceAdd, Int.reduceSub, h1, h2, o1', o2', o3', k0, k1, hm]; try refine And.intro (show okTr _ _ = true by kernel_rfl) ?_))
  have o3' : ¬ op = ⟨#[42]⟩ := o3
  simp only [if_neg o1, if_neg o2, if_neg o3]
  repeat (first | refine dwp_seq ?_ | refine dwp_block ?_ | ((first | refine dwp_region ?_ | refine dwp_any ?_ | refine dwp_skip ?_ | refine dwp_exit ?_ | refine dwp_ret ?_ | refine dwp_if ?_); simp only [go_sem, beq_true, beq_false, Bool.true_beq, Bool.false_beq, Bool.bne_true, Bool.bne_false, Bool.true_bne, Bool.false_bne, Option.isSome_none, ne_eq, Int.cast_ofNat_Int, ↓reduceIte, reduceCtorEq, Nat.reduceBEq, Nat.reduceEqDiff, Nat.reduceLT, Nat.reduceLeDiff, Nat.reduceAdd, Nat.reduceMul, Nat.reducePow, Nat.reduceSub, Int.reduceEq, Int.reduceLT, Int.reduceLE, Int.reduceToNat, Int.reduceMul, Int.reduceNeg, Int.reduceAdd, Int.reduceSub, h1, h2, o1', o2', o3']; try refine And.intro (show okTr _ _ = true by kernel_rfl) ?_))
end Go.Proofs.Ytjdkcedhmfgmoaa
