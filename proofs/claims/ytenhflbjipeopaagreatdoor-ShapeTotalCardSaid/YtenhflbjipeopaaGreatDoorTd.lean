/- What the program's functions make of data: calc. -/
import Derived.Test.YtenhflbjipeopaaGreatDoorVc
import Derived.Test.YtenhflbjipeopaaGreatDoorOpS
namespace Go.Proofs.YtenhflbjipeopaaGreatDoor
open Go Go.Eng Go.Proofs
set_option linter.unusedVariables false
set_option linter.unusedSimpArgs false
set_option maxRecDepth 100000
set_option maxHeartbeats 4000000

theorem ext41_0 (x y : Int) : ext Tryz.prog 102 [.v (.int .u64 x), .v (.int .u64 y), .v (.int .u64 0)] = some (.tup [.v (.int .u64 (((x.toNat + y.toNat + 0) % 2 ^ 64 : Nat) : Int)), .v (.int .u64 (((x.toNat + y.toNat + 0) / 2 ^ 64 : Nat) : Int))]) := by kernel_rfl
theorem ext41_1 (x y : Int) : ext Tryz.prog 102 [.v (.int .u64 x), .v (.int .u64 y), .v (.int .u64 1)] = some (.tup [.v (.int .u64 (((x.toNat + y.toNat + 1) % 2 ^ 64 : Nat) : Int)), .v (.int .u64 (((x.toNat + y.toNat + 1) / 2 ^ 64 : Nat) : Int))]) := by kernel_rfl
theorem u64w (n : Int) : IntKind.u64.wrap n = n % 18446744073709551616 := by
  simp [IntKind.wrap, IntKind.bits, IntKind.signed]
def lo (x : Int) : Int := x % 18446744073709551616
def hi (x : Int) : Int := x % 340282366920938463463374607431768211456 / 18446744073709551616
theorem lo_r (x : Int) : 0 ≤ lo x ∧ lo x < 18446744073709551616 := by unfold lo; omega
theorem hi_r (x : Int) : 0 ≤ hi x ∧ hi x < 18446744073709551616 := by unfold hi; omega
theorem add41 (x y c : Int) (hx : 0 ≤ x) (hy : 0 ≤ y) (hc : c = 0 ∨ c = 1) : ext Tryz.prog 102 [.v (.int .u64 x), .v (.int .u64 y), .v (.int .u64 c)] = some (.tup [.v (.int .u64 ((x + y + c) % 18446744073709551616)), .v (.int .u64 ((x + y + c) / 18446744073709551616))]) := by
  rcases hc with rfl | rfl
  · rw [ext41_0]
    have e1 : (((x.toNat + y.toNat + 0) % 2 ^ 64 : Nat) : Int) = (x + y + 0) % 18446744073709551616 := by omega
    have e2 : (((x.toNat + y.toNat + 0) / 2 ^ 64 : Nat) : Int) = (x + y + 0) / 18446744073709551616 := by omega
    rw [e1, e2]
  · rw [ext41_1]
    have e1 : (((x.toNat + y.toNat + 1) % 2 ^ 64 : Nat) : Int) = (x + y + 1) % 18446744073709551616 := by omega
    have e2 : (((x.toNat + y.toNat + 1) / 2 ^ 64 : Nat) : Int) = (x + y + 1) / 18446744073709551616 := by omega
    rw [e1, e2]
theorem fdiv63 (n : Int) : n.fdiv (2 ^ 63) = n / 9223372036854775808 := by
  rw [Int.fdiv_eq_ediv_of_nonneg _ (by decide)]; rfl
theorem of84 (n : Int) (h : I64 n) : FF 69 [.v (.int .i64 n)] = some (.agg [.v (.int .u64 (hi n)), .v (.int .u64 (lo n))]) := by
  have e1 : IntKind.u64.wrap (n.fdiv (2 ^ 63)) = hi n := by
    rw [u64w, fdiv63]; unfold hi; unfold I64 at h; omega
  have e2 : IntKind.u64.wrap n = lo n := u64w n
  have hz : ¬ (63 : Int) < 0 := by decide
  refine FF_val Tryz.func69 rfl rfl ?_
  simp only [Tryz.ntmps69, Tryz.results69]
  repeat (first | refine dwp_seq ?_ | refine dwp_block ?_ | ((first | refine dwp_region ?_ | refine dwp_any ?_ | refine dwp_skip ?_ | refine dwp_exit ?_ | refine dwp_ret ?_ | refine dwp_if ?_); simp only [go_sem, beq_true, beq_false, Bool.true_beq, Bool.false_beq, Bool.bne_true, Bool.bne_false, Bool.true_bne, Bool.false_bne, Option.isSome_none, ne_eq, Int.cast_ofNat_Int, ↓reduceIte, reduceCtorEq, Nat.reduceBEq, Nat.reduceEqDiff, Nat.reduceLT, Nat.reduceLeDiff, Nat.reduceAdd, Nat.reduceMul, Nat.reducePow, Nat.reduceSub, Int.reduceEq, Int.reduceLT, Int.reduceLE, Int.reduceToNat, Int.reduceMul, Int.reduceNeg, Int.reduceAdd, Int.reduceSub, e1, e2, hz]; try refine And.intro (show okTr _ _ = true by kernel_rfl) ?_))
theorem plus100 (x y : Int) : FF 68 [.agg [.v (.int .u64 (hi x)), .v (.int .u64 (lo x))], .agg [.v (.int .u64 (hi y)), .v (.int .u64 (lo y))]] = some (.agg [.v (.int .u64 (hi (x + y))), .v (.int .u64 (lo (x + y)))]) := by
  have lx := lo_r x; have ly := lo_r y; have hx := hi_r x; have hy := hi_r y
  have h1 := add41 (lo x) (lo y) 0 lx.1 ly.1 (.inl rfl)
  have h2 := add41 (hi x) (hi y) ((lo x + lo y + 0) / 18446744073709551616) hx.1 hy.1 (by omega)
  have e1 : (lo x + lo y + 0) % 18446744073709551616 = lo (x + y) := by unfold lo; omega
  have e2 : (hi x + hi y + (lo x + lo y + 0) / 18446744073709551616) % 18446744073709551616 = hi (x + y) := by unfold hi lo; omega
  rw [e1] at h1
  rw [e2] at h2
  generalize (hi x + hi y + (lo x + lo y + 0) / 18446744073709551616) / 18446744073709551616 = c2 at h2
  generalize (lo x + lo y + 0) / 18446744073709551616 = c at h1 h2
  refine FF_val Tryz.func68 rfl rfl ?_
  simp only [Tryz.ntmps68, Tryz.results68]
  repeat (first | refine dwp_seq ?_ | refine dwp_block ?_ | ((first | refine dwp_region ?_ | refine dwp_any ?_ | refine dwp_skip ?_ | refine dwp_exit ?_ | refine dwp_ret ?_ | refine dwp_if ?_); simp only [go_sem, beq_true, beq_false, Bool.true_beq, Bool.false_beq, Bool.bne_true, Bool.bne_false, Bool.true_bne, Bool.false_bne, Option.isSome_none, ne_eq, Int.cast_ofNat_Int, ↓reduceIte, reduceCtorEq, Nat.reduceBEq, Nat.reduceEqDiff, Nat.reduceLT, Nat.reduceLeDiff, Nat.reduceAdd, Nat.reduceMul, Nat.reducePow, Nat.reduceSub, Int.reduceEq, Int.reduceLT, Int.reduceLE, Int.reduceToNat, Int.reduceMul, Int.reduceNeg, Int.reduceAdd, Int.reduceSub, h1, h2]; try refine And.intro (show okTr _ _ = true by kernel_rfl) ?_))
theorem not_u64 (x : Int) (h0 : 0 ≤ x) (h1 : x < 18446744073709551616) : ibit .xor .u64 (if IntKind.u64.signed = true then -1 else IntKind.u64.max) x = 18446744073709551615 - x := by
  obtain ⟨m, rfl⟩ : ∃ m : Nat, x = (m : Int) := ⟨x.toNat, by omega⟩
  have e0 : (if IntKind.u64.signed = true then (-1 : Int) else IntKind.u64.max) = ((18446744073709551615 : Nat) : Int) := by decide
  rw [e0]
  unfold ibit
  have e1 : ∀ n : Nat, BitVec.ofInt IntKind.u64.bits (n : Int) = BitVec.ofNat 64 n := fun n => by
    apply BitVec.eq_of_toInt_eq
    show (BitVec.ofInt 64 (n : Int)).toInt = (BitVec.ofNat 64 n).toInt
    simp
  simp only [e1]
  have e2 : (BitVec.ofNat 64 18446744073709551615 ^^^ BitVec.ofNat 64 m).toNat = 18446744073709551615 - m := by
    rw [show BitVec.ofNat 64 18446744073709551615 = BitVec.allOnes 64 by decide, BitVec.allOnes_xor, BitVec.toNat_not, BitVec.toNat_ofNat]
    omega
  refine (congrArg (fun x : Nat => IntKind.u64.wrap (x : Int)) e2).trans ?_
  simp only [u64w]
  omega
theorem minus85 (x : Int) : FF 176 [.agg [.v (.int .u64 (hi x)), .v (.int .u64 (lo x))]] = some (.agg [.v (.int .u64 (hi (-x))), .v (.int .u64 (lo (-x)))]) := by
  have lx := lo_r x; have hx := hi_r x
  have hp := plus100 (-1 - x) 1
  rw [show -1 - x + 1 = -x by omega] at hp
  have e1 : hi (-1 - x) = 18446744073709551615 - hi x := by unfold hi; omega
  have e2 : lo (-1 - x) = 18446744073709551615 - lo x := by unfold lo; omega
  rw [e1, e2, show hi 1 = 0 by decide, show lo 1 = 1 by decide] at hp
  have n1 := not_u64 (hi x) hx.1 hx.2
  have n2 := not_u64 (lo x) lx.1 lx.2
  refine FF_val Tryz.func176 rfl rfl ?_
  simp only [Tryz.ntmps176, Tryz.results176]
  repeat (first | refine dwp_seq ?_ | refine dwp_block ?_ | ((first | refine dwp_region ?_ | refine dwp_any ?_ | refine dwp_skip ?_ | refine dwp_exit ?_ | refine dwp_ret ?_ | refine dwp_if ?_); simp only [go_sem, beq_true, beq_false, Bool.true_beq, Bool.false_beq, Bool.bne_true, Bool.bne_false, Bool.true_bne, Bool.false_bne, Option.isSome_none, ne_eq, Int.cast_ofNat_Int, ↓reduceIte, reduceCtorEq, Nat.reduceBEq, Nat.reduceEqDiff, Nat.reduceLT, Nat.reduceLeDiff, Nat.reduceAdd, Nat.reduceMul, Nat.reducePow, Nat.reduceSub, Int.reduceEq, Int.reduceLT, Int.reduceLE, Int.reduceToNat, Int.reduceMul, Int.reduceNeg, Int.reduceAdd, Int.reduceSub, n1, n2, hp]; try refine And.intro (show okTr _ _ = true by kernel_rfl) ?_))
theorem i64w {n : Int} (h : I64 n) : IntKind.i64.wrap n = n := wrap_fit h.1 h.2
theorem i64_lo (x : Int) : ∃ n, IntKind.i64.wrap (lo x) = n ∧ I64 n ∧ lo n = lo x := by
  refine ⟨_, rfl, ?_⟩
  unfold I64 lo
  simp only [IntKind.wrap, IntKind.bits, IntKind.signed]
  simp
  omega
def inR (x : Int) : Bool := decide (-9223372036854775808 ≤ x ∧ x < 9223372036854775808)
theorem right86 (x : Int) (hx : -85070591730234615865843651857942052864 ≤ x ∧ x ≤ 85070591730234615865843651857942052864) : FF 70 [.agg [.v (.int .u64 (hi x)), .v (.int .u64 (lo x))]] = some (.tup [.v (.int .i64 (if inR x = true then x else 0)), .v (.bool (inR x))]) := by
  obtain ⟨n, e1, hn, hl⟩ := i64_lo x
  have h84 := of84 n hn
  rw [hl] at h84
  have key : hi n = hi x ↔ n = x := by
    unfold I64 at hn
    unfold hi lo at *
    omega
  refine FF_val Tryz.func70 rfl rfl ?_
  simp only [Tryz.ntmps70, Tryz.results70]
  by_cases hq : n = x
  · have hr : inR x = true := by unfold inR; unfold I64 at hn; rw [← hq]; simp; exact hn
    have hh : hi n = hi x := key.2 hq
    subst hq
    repeat (first | refine dwp_seq ?_ | refine dwp_block ?_ | ((first | refine dwp_region ?_ | refine dwp_any ?_ | refine dwp_skip ?_ | refine dwp_exit ?_ | refine dwp_ret ?_ | refine dwp_if ?_); simp only [go_sem, beq_true, beq_false, Bool.true_beq, Bool.false_beq, Bool.bne_true, Bool.bne_false, Bool.true_bne, Bool.false_bne, Option.isSome_none, ne_eq, Int.cast_ofNat_Int, ↓reduceIte, reduceCtorEq, Nat.reduceBEq, Nat.reduceEqDiff, Nat.reduceLT, Nat.reduceLeDiff, Nat.reduceAdd, Nat.reduceMul, Nat.reducePow, Nat.reduceSub, Int.reduceEq, Int.reduceLT, Int.reduceLE, Int.reduceToNat, Int.reduceMul, Int.reduceNeg, Int.reduceAdd, Int.reduceSub, e1, h84, hr]; try refine And.intro (show okTr _ _ = true by kernel_rfl) ?_))
  · have hr : inR x = false := by
      unfold inR
      unfold I64 at hn
      unfold lo at hl
      simp
      omega
    have hh : ¬ hi n = hi x := fun h => hq (key.1 h)
    repeat (first | refine dwp_seq ?_ | refine dwp_block ?_ | ((first | refine dwp_region ?_ | refine dwp_any ?_ | refine dwp_skip ?_ | refine dwp_exit ?_ | refine dwp_ret ?_ | refine dwp_if ?_); simp only [go_sem, beq_true, beq_false, Bool.true_beq, Bool.false_beq, Bool.bne_true, Bool.bne_false, Bool.true_bne, Bool.false_bne, Option.isSome_none, ne_eq, Int.cast_ofNat_Int, ↓reduceIte, reduceCtorEq, Nat.reduceBEq, Nat.reduceEqDiff, Nat.reduceLT, Nat.reduceLeDiff, Nat.reduceAdd, Nat.reduceMul, Nat.reducePow, Nat.reduceSub, Int.reduceEq, Int.reduceLT, Int.reduceLE, Int.reduceToNat, Int.reduceMul, Int.reduceNeg, Int.reduceAdd, Int.reduceSub, e1, h84, hr, hh]; try refine And.intro (show okTr _ _ = true by kernel_rfl) ?_))
theorem neg73 (n : Int) (h : I64 n) : FF 160 [.v (.int .i64 n)] = some (.tup [.v (.int .i64 (if inR (-n) = true then -n else 0)), .v (.bool (inR (-n)))]) := by
  have h1 := of84 n h
  have h2 := minus85 n
  have h3 := right86 (-n) (by unfold I64 at h; omega)
  refine FF_val Tryz.func160 rfl rfl ?_
  simp only [Tryz.ntmps160, Tryz.results160]
  repeat (first | refine dwp_seq ?_ | refine dwp_block ?_ | ((first | refine dwp_region ?_ | refine dwp_any ?_ | refine dwp_skip ?_ | refine dwp_exit ?_ | refine dwp_ret ?_ | refine dwp_if ?_); simp only [go_sem, beq_true, beq_false, Bool.true_beq, Bool.false_beq, Bool.bne_true, Bool.bne_false, Bool.true_bne, Bool.false_bne, Option.isSome_none, ne_eq, Int.cast_ofNat_Int, ↓reduceIte, reduceCtorEq, Nat.reduceBEq, Nat.reduceEqDiff, Nat.reduceLT, Nat.reduceLeDiff, Nat.reduceAdd, Nat.reduceMul, Nat.reducePow, Nat.reduceSub, Int.reduceEq, Int.reduceLT, Int.reduceLE, Int.reduceToNat, Int.reduceMul, Int.reduceNeg, Int.reduceAdd, Int.reduceSub, h1, h2, h3]; try refine And.intro (show okTr _ _ = true by kernel_rfl) ?_))
theorem add87 (a b : Int) (ha : I64 a) (hb : I64 b) : FF 177 [.v (.int .i64 a), .v (.int .i64 b)] = some (.tup [.v (.int .i64 (if inR (a + b) = true then a + b else 0)), .v (.bool (inR (a + b)))]) := by
  have h1 := of84 a ha
  have h2 := of84 b hb
  have h4 := plus100 a b
  have h3 := right86 (a + b) (by unfold I64 at *; omega)
  refine FF_val Tryz.func177 rfl rfl ?_
  simp only [Tryz.ntmps177, Tryz.results177]
  repeat (first | refine dwp_seq ?_ | refine dwp_block ?_ | ((first | refine dwp_region ?_ | refine dwp_any ?_ | refine dwp_skip ?_ | refine dwp_exit ?_ | refine dwp_ret ?_ | refine dwp_if ?_); simp only [go_sem, beq_true, beq_false, Bool.true_beq, Bool.false_beq, Bool.bne_true, Bool.bne_false, Bool.true_bne, Bool.false_bne, Option.isSome_none, ne_eq, Int.cast_ofNat_Int, ↓reduceIte, reduceCtorEq, Nat.reduceBEq, Nat.reduceEqDiff, Nat.reduceLT, Nat.reduceLeDiff, Nat.reduceAdd, Nat.reduceMul, Nat.reducePow, Nat.reduceSub, Int.reduceEq, Int.reduceLT, Int.reduceLE, Int.reduceToNat, Int.reduceMul, Int.reduceNeg, Int.reduceAdd, Int.reduceSub, h1, h2, h3, h4]; try refine And.intro (show okTr _ _ = true by kernel_rfl) ?_))
theorem sub88 (a b : Int) (ha : I64 a) (hb : I64 b) : FF 178 [.v (.int .i64 a), .v (.int .i64 b)] = some (.tup [.v (.int .i64 (if inR (a - b) = true then a - b else 0)), .v (.bool (inR (a - b)))]) := by
  have h1 := of84 a ha
  have h2 := of84 b hb
  have h5 := minus85 b
  have h4 := plus100 a (-b)
  rw [← Int.sub_eq_add_neg] at h4
  have h3 := right86 (a - b) (by unfold I64 at *; omega)
  refine FF_val Tryz.func178 rfl rfl ?_
  simp only [Tryz.ntmps178, Tryz.results178]
  repeat (first | refine dwp_seq ?_ | refine dwp_block ?_ | ((first | refine dwp_region ?_ | refine dwp_any ?_ | refine dwp_skip ?_ | refine dwp_exit ?_ | refine dwp_ret ?_ | refine dwp_if ?_); simp only [go_sem, beq_true, beq_false, Bool.true_beq, Bool.false_beq, Bool.bne_true, Bool.bne_false, Bool.true_bne, Bool.false_bne, Option.isSome_none, ne_eq, Int.cast_ofNat_Int, ↓reduceIte, reduceCtorEq, Nat.reduceBEq, Nat.reduceEqDiff, Nat.reduceLT, Nat.reduceLeDiff, Nat.reduceAdd, Nat.reduceMul, Nat.reducePow, Nat.reduceSub, Int.reduceEq, Int.reduceLT, Int.reduceLE, Int.reduceToNat, Int.reduceMul, Int.reduceNeg, Int.reduceAdd, Int.reduceSub, h1, h2, h3, h4, h5]; try refine And.intro (show okTr _ _ = true by kernel_rfl) ?_))
theorem size101 (n : Int) (h : I64 n) : FF 190 [.v (.int .i64 n)] = some (.v (.int .u64 (n.natAbs : Int))) := by
  refine FF_val Tryz.func190 rfl rfl ?_
  simp only [Tryz.ntmps190, Tryz.results190]
  unfold I64 at h
  by_cases h0 : n < 0
  · have e1 : IntKind.u64.wrap (0 - IntKind.u64.wrap n) = (n.natAbs : Int) := by rw [u64w, u64w]; omega
    repeat (first | refine dwp_seq ?_ | refine dwp_block ?_ | ((first | refine dwp_region ?_ | refine dwp_any ?_ | refine dwp_skip ?_ | refine dwp_exit ?_ | refine dwp_ret ?_ | refine dwp_if ?_); simp only [go_sem, beq_true, beq_false, Bool.true_beq, Bool.false_beq, Bool.bne_true, Bool.bne_false, Bool.true_bne, Bool.false_bne, Option.isSome_none, ne_eq, Int.cast_ofNat_Int, ↓reduceIte, reduceCtorEq, Nat.reduceBEq, Nat.reduceEqDiff, Nat.reduceLT, Nat.reduceLeDiff, Nat.reduceAdd, Nat.reduceMul, Nat.reducePow, Nat.reduceSub, Int.reduceEq, Int.reduceLT, Int.reduceLE, Int.reduceToNat, Int.reduceMul, Int.reduceNeg, Int.reduceAdd, Int.reduceSub, h0, e1]; try refine And.intro (show okTr _ _ = true by kernel_rfl) ?_))
  · have e1 : IntKind.u64.wrap n = (n.natAbs : Int) := by rw [u64w]; omega
    repeat (first | refine dwp_seq ?_ | refine dwp_block ?_ | ((first | refine dwp_region ?_ | refine dwp_any ?_ | refine dwp_skip ?_ | refine dwp_exit ?_ | refine dwp_ret ?_ | refine dwp_if ?_); simp only [go_sem, beq_true, beq_false, Bool.true_beq, Bool.false_beq, Bool.bne_true, Bool.bne_false, Bool.true_bne, Bool.false_bne, Option.isSome_none, ne_eq, Int.cast_ofNat_Int, ↓reduceIte, reduceCtorEq, Nat.reduceBEq, Nat.reduceEqDiff, Nat.reduceLT, Nat.reduceLeDiff, Nat.reduceAdd, Nat.reduceMul, Nat.reducePow, Nat.reduceSub, Int.reduceEq, Int.reduceLT, Int.reduceLE, Int.reduceToNat, Int.reduceMul, Int.reduceNeg, Int.reduceAdd, Int.reduceSub, h0, e1]; try refine And.intro (show okTr _ _ = true by kernel_rfl) ?_))
end Go.Proofs.YtenhflbjipeopaaGreatDoor
