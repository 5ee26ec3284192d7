/- What the program's functions make of data: tests, and what sums come to. -/
import Derived.Test.YtjdkcedhmfgmoaaTb
namespace Go.Proofs.Ytjdkcedhmfgmoaa
open Go Go.Eng Go.Proofs
set_option linter.unusedVariables false
set_option linter.unusedSimpArgs false
set_option maxRecDepth 100000
set_option maxHeartbeats 4000000

def oEq : ByteArray := ⟨#[61]⟩
def oNe : ByteArray := ⟨#[60, 62]⟩
def oLt : ByteArray := ⟨#[60]⟩
def oLe : ByteArray := ⟨#[60, 61]⟩
def oGt : ByteArray := ⟨#[62]⟩
def oGe : ByteArray := ⟨#[62, 61]⟩
def testT (op : ByteArray) (k n : Int) (s : ByteArray) (k' n' : Int) (s' : ByteArray) : Int :=
  if k = 0 ∨ k' = 0 then 1 else if k ≠ k' ∨ 3 < k then 2 else
  let l := lessV k n s k' n' s'
  let m := lessV k' n' s' k n s
  if op = oEq then (if (!l && !m) = true then 3 else 0) else if op = oNe then (if (l || m) = true then 3 else 0) else if op = oLt then (if l = true then 3 else 0) else if op = oLe then (if m = true then 0 else 3)
  else if op = oGt then (if m = true then 3 else 0) else if op = oGe then (if l = true then 0 else 3) else 2
theorem testT_is (op : ByteArray) (k n : Int) (s : ByteArray) (k' n' : Int) (s' : ByteArray) : isT (testT op k n s k' n' s') := by
  have key : ∀ (p : Prop) [Decidable p] (a b : Int), isT a → isT b → isT (if p then a else b) := fun p _ a b ha hb => by split <;> assumption
  have d0 : isT 0 := by unfold isT; omega
  have d1 : isT 1 := by unfold isT; omega
  have d2 : isT 2 := by unfold isT; omega
  have d3 : isT 3 := by unfold isT; omega
  unfold testT
  exact key _ _ _ d1 (key _ _ _ d2 (key _ _ _ (key _ _ _ d3 d0) (key _ _ _ (key _ _ _ d3 d0) (key _ _ _ (key _ _ _ d3 d0) (key _ _ _ (key _ _ _ d0 d3) (key _ _ _ (key _ _ _ d3 d0) (key _ _ _ (key _ _ _ d0 d3) d2)))))))
theorem of79 (b : Bool) : FF 79 [.v (.bool b)] = some (.v (.int .u8 (if b = true then 3 else 0))) := by
  refine FF_val Try.func79 rfl rfl ?_
  simp only [Try.ntmps79, Try.results79]
  cases b <;> repeat (first | refine dwp_seq ?_ | refine dwp_block ?_ | ((first | refine dwp_region ?_ | refine dwp_any ?_ | refine dwp_skip ?_ | refine dwp_exit ?_ | refine dwp_ret ?_ | refine dwp_if ?_); simp only [go_sem, beq_true, beq_false, Bool.true_beq, Bool.false_beq, Bool.bne_true, Bool.bne_false, Bool.true_bne, Bool.false_bne, Option.isSome_none, ne_eq, Int.cast_ofNat_Int, ↓reduceIte, reduceCtorEq, Nat.reduceBEq, Nat.reduceEqDiff, Nat.reduceLT, Nat.reduceLeDiff, Nat.reduceAdd, Nat.reduceMul, Nat.reducePow, Nat.reduceSub, Int.reduceEq, Int.reduceLT, Int.reduceLE, Int.reduceToNat, Int.reduceMul, Int.reduceNeg, Int.reduceAdd, Int.reduceSub]; try refine And.intro (show okTr _ _ = true by kernel_rfl) ?_))
theorem test76 (op : ByteArray) (k n : Int) (s : ByteArray) (k' n' : Int) (s' : ByteArray) : FF 76 [.v (.string op), .agg [.v (.int .u8 k), .v (.int .i64 n), .v (.string s)], .agg [.v (.int .u8 k'), .v (.int .i64 n'), .v (.string s')]] = some (.v (.int .u8 (testT op k n s k' n' s'))) := by
  have hc := compare90 k n s k' n' s'
  refine FF_val Try.func76 rfl rfl ?_
  simp only [Try.ntmps76, Try.results76]
  unfold testT
  by_cases h0 : k = 0
  · rw [if_pos (.inl h0)]
    repeat (first | refine dwp_seq ?_ | refine dwp_block ?_ | ((first | refine dwp_region ?_ | refine dwp_any ?_ | refine dwp_skip ?_ | refine dwp_exit ?_ | refine dwp_ret ?_ | refine dwp_if ?_); simp only [go_sem, beq_true, beq_false, Bool.true_beq, Bool.false_beq, Bool.bne_true, Bool.bne_false, Bool.true_bne, Bool.false_bne, Option.isSome_none, ne_eq, Int.cast_ofNat_Int, ↓reduceIte, reduceCtorEq, Nat.reduceBEq, Nat.reduceEqDiff, Nat.reduceLT, Nat.reduceLeDiff, Nat.reduceAdd, Nat.reduceMul, Nat.reducePow, Nat.reduceSub, Int.reduceEq, Int.reduceLT, Int.reduceLE, Int.reduceToNat, Int.reduceMul, Int.reduceNeg, Int.reduceAdd, Int.reduceSub, h0]; try refine And.intro (show okTr _ _ = true by kernel_rfl) ?_))
  by_cases h0' : k' = 0
  · rw [if_pos (.inr h0')]
    repeat (first | refine dwp_seq ?_ | refine dwp_block ?_ | ((first | refine dwp_region ?_ | refine dwp_any ?_ | refine dwp_skip ?_ | refine dwp_exit ?_ | refine dwp_ret ?_ | refine dwp_if ?_); simp only [go_sem, beq_true, beq_false, Bool.true_beq, Bool.false_beq, Bool.bne_true, Bool.bne_false, Bool.true_bne, Bool.false_bne, Option.isSome_none, ne_eq, Int.cast_ofNat_Int, ↓reduceIte, reduceCtorEq, Nat.reduceBEq, Nat.reduceEqDiff, Nat.reduceLT, Nat.reduceLeDiff, Nat.reduceAdd, Nat.reduceMul, Nat.reducePow, Nat.reduceSub, Int.reduceEq, Int.reduceLT, Int.reduceLE, Int.reduceToNat, Int.reduceMul, Int.reduceNeg, Int.reduceAdd, Int.reduceSub, h0, h0']; try refine And.intro (show okTr _ _ = true by kernel_rfl) ?_))
  rw [if_neg (by omega)]
  by_cases hk : k = k'
  case neg =>
    rw [if_pos (.inl hk)]
    repeat (first | refine dwp_seq ?_ | refine dwp_block ?_ | ((first | refine dwp_region ?_ | refine dwp_any ?_ | refine dwp_skip ?_ | refine dwp_exit ?_ | refine dwp_ret ?_ | refine dwp_if ?_); simp only [go_sem, beq_true, beq_false, Bool.true_beq, Bool.false_beq, Bool.bne_true, Bool.bne_false, Bool.true_bne, Bool.false_bne, Option.isSome_none, ne_eq, Int.cast_ofNat_Int, ↓reduceIte, reduceCtorEq, Nat.reduceBEq, Nat.reduceEqDiff, Nat.reduceLT, Nat.reduceLeDiff, Nat.reduceAdd, Nat.reduceMul, Nat.reducePow, Nat.reduceSub, Int.reduceEq, Int.reduceLT, Int.reduceLE, Int.reduceToNat, Int.reduceMul, Int.reduceNeg, Int.reduceAdd, Int.reduceSub, h0, h0', hk]; try refine And.intro (show okTr _ _ = true by kernel_rfl) ?_))
  subst hk
  by_cases h3 : 3 < k
  · rw [if_pos (.inr h3)]
    repeat (first | refine dwp_seq ?_ | refine dwp_block ?_ | ((first | refine dwp_region ?_ | refine dwp_any ?_ | refine dwp_skip ?_ | refine dwp_exit ?_ | refine dwp_ret ?_ | refine dwp_if ?_); simp only [go_sem, beq_true, beq_false, Bool.true_beq, Bool.false_beq, Bool.bne_true, Bool.bne_false, Bool.true_bne, Bool.false_bne, Option.isSome_none, ne_eq, Int.cast_ofNat_Int, ↓reduceIte, reduceCtorEq, Nat.reduceBEq, Nat.reduceEqDiff, Nat.reduceLT, Nat.reduceLeDiff, Nat.reduceAdd, Nat.reduceMul, Nat.reducePow, Nat.reduceSub, Int.reduceEq, Int.reduceLT, Int.reduceLE, Int.reduceToNat, Int.reduceMul, Int.reduceNeg, Int.reduceAdd, Int.reduceSub, h0, h3]; try refine And.intro (show okTr _ _ = true by kernel_rfl) ?_))
  rw [if_neg (by omega)]
  have ha := @lessV_asymm k n k n' s s'
  unfold cmpV at hc
  generalize lessV k n s k n' s' = l at *
  generalize lessV k n' s' k n s = m at *
  have t1 : FF 79 [.v (.bool true)] = some (.v (.int .u8 3)) := of79 true
  have t0 : FF 79 [.v (.bool false)] = some (.v (.int .u8 0)) := of79 false
  have hlm : (l = true ∧ m = false) ∨ (l = false ∧ m = true) ∨ (l = false ∧ m = false) := by
    cases l <;> cases m <;> simp_all
  by_cases o1 : op = oEq
  · have o1' : (op = ⟨#[61]⟩) = True := eq_true o1
    rcases hlm with ⟨rfl, rfl⟩ | ⟨rfl, rfl⟩ | ⟨rfl, rfl⟩ <;> simp only [Bool.false_eq_true, if_true, if_false, Bool.not_true, Bool.not_false, Bool.and_true, Bool.and_false, Bool.or_true, Bool.or_false, if_pos o1] at hc ⊢
    all_goals
      repeat (first | refine dwp_seq ?_ | refine dwp_block ?_ | ((first | refine dwp_region ?_ | refine dwp_any ?_ | refine dwp_skip ?_ | refine dwp_exit ?_ | refine dwp_ret ?_ | refine dwp_if ?_); simp only [go_sem, beq_true, beq_false, Bool.true_beq, Bool.false_beq, Bool.bne_true, Bool.bne_false, Bool.true_bne, Bool.false_bne, Option.isSome_none, ne_eq, Int.cast_ofNat_Int, ↓reduceIte, reduceCtorEq, Nat.reduceBEq, Nat.reduceEqDiff, Nat.reduceLT, Nat.reduceLeDiff, Nat.reduceAdd, Nat.reduceMul, Nat.reducePow, Nat.reduceSub, Int.reduceEq, Int.reduceLT, Int.reduceLE, Int.reduceToNat, Int.reduceMul, Int.reduceNeg, Int.reduceAdd, Int.reduceSub, h0, h3, o1', hc, t0, t1]; try refine And.intro (show okTr _ _ = true by kernel_rfl) ?_))
  have o1' : ¬ op = ⟨#[61]⟩ := o1
  by_cases o2 : op = oNe
  · have o2' : (op = ⟨#[60, 62]⟩) = True := eq_true o2
    rcases hlm with ⟨rfl, rfl⟩ | ⟨rfl, rfl⟩ | ⟨rfl, rfl⟩ <;> simp only [Bool.false_eq_true, if_true, if_false, Bool.not_true, Bool.not_false, Bool.and_true, Bool.and_false, Bool.or_true, Bool.or_false, if_neg o1, if_pos o2] at hc ⊢
    all_goals
      repeat (first | refine dwp_seq ?_ | refine dwp_block ?_ | ((first | refine dwp_region ?_ | refine dwp_any ?_ | refine dwp_skip ?_ | refine dwp_exit ?_ | refine dwp_ret ?_ | refine dwp_if ?_); simp only [go_sem, beq_true, beq_false, Bool.true_beq, Bool.false_beq, Bool.bne_true, Bool.bne_false, Bool.true_bne, Bool.false_bne, Option.isSome_none, ne_eq, Int.cast_ofNat_Int, ↓reduceIte, reduceCtorEq, Nat.reduceBEq, Nat.reduceEqDiff, Nat.reduceLT, Nat.reduceLeDiff, Nat.reduceAdd, Nat.reduceMul, Nat.reducePow, Nat.reduceSub, Int.reduceEq, Int.reduceLT, Int.reduceLE, Int.reduceToNat, Int.reduceMul, Int.reduceNeg, Int.reduceAdd, Int.reduceSub, h0, h3, o1', o2', hc, t0, t1]; try refine And.intro (show okTr _ _ = true by kernel_rfl) ?_))
  have o2' : ¬ op = ⟨#[60, 62]⟩ := o2
  by_cases o3 : op = oLt
  · have o3' : (op = ⟨#[60]⟩) = True := eq_true o3
    rcases hlm with ⟨rfl, rfl⟩ | ⟨rfl, rfl⟩ | ⟨rfl, rfl⟩ <;> simp only [Bool.false_eq_true, if_true, if_false, Bool.not_true, Bool.not_false, Bool.and_true, Bool.and_false, Bool.or_true, Bool.or_false, if_neg o1, if_neg o2, if_pos o3] at hc ⊢
    all_goals
      repeat (first | refine dwp_seq ?_ | refine dwp_block ?_ | ((first | refine dwp_region ?_ | refine dwp_any ?_ | refine dwp_skip ?_ | refine dwp_exit ?_ | refine dwp_ret ?_ | refine dwp_if ?_); simp only [go_sem, beq_true, beq_false, Bool.true_beq, Bool.false_beq, Bool.bne_true, Bool.bne_false, Bool.true_bne, Bool.false_bne, Option.isSome_none, ne_eq, Int.cast_ofNat_Int, ↓reduceIte, reduceCtorEq, Nat.reduceBEq, Nat.reduceEqDiff, Nat.reduceLT, Nat.reduceLeDiff, Nat.reduceAdd, Nat.reduceMul, Nat.reducePow, Nat.reduceSub, Int.reduceEq, Int.reduceLT, Int.reduceLE, Int.reduceToNat, Int.reduceMul, Int.reduceNeg, Int.reduceAdd, Int.reduceSub, h0, h3, o1', o2', o3', hc, t0, t1]; try refine And.intro (show okTr _ _ = true by kernel_rfl) ?_))
  have o3' : ¬ op = ⟨#[60]⟩ := o3
  by_cases o4 : op = oLe
  · have o4' : (op = ⟨#[60, 61]⟩) = True := eq_true o4
    rcases hlm with ⟨rfl, rfl⟩ | ⟨rfl, rfl⟩ | ⟨rfl, rfl⟩ <;> simp only [Bool.false_eq_true, if_true, if_false, Bool.not_true, Bool.not_false, Bool.and_true, Bool.and_false, Bool.or_true, Bool.or_false, if_neg o1, if_neg o2, if_neg o3, if_pos o4] at hc ⊢
    all_goals
      repeat (first | refine dwp_seq ?_ | refine dwp_block ?_ | ((first | refine dwp_region ?_ | refine dwp_any ?_ | refine dwp_skip ?_ | refine dwp_exit ?_ | refine dwp_ret ?_ | refine dwp_if ?_); simp only [go_sem, beq_true, beq_false, Bool.true_beq, Bool.false_beq, Bool.bne_true, Bool.bne_false, Bool.true_bne, Bool.false_bne, Option.isSome_none, ne_eq, Int.cast_ofNat_Int, ↓reduceIte, reduceCtorEq, Nat.reduceBEq, Nat.reduceEqDiff, Nat.reduceLT, Nat.reduceLeDiff, Nat.reduceAdd, Nat.reduceMul, Nat.reducePow, Nat.reduceSub, Int.reduceEq, Int.reduceLT, Int.reduceLE, Int.reduceToNat, Int.reduceMul, Int.reduceNeg, Int.reduceAdd, Int.reduceSub, h0, h3, o1', o2', o3', o4', hc, t0, t1]; try refine And.intro (show okTr _ _ = true by kernel_rfl) ?_))
  have o4' : ¬ op = ⟨#[60, 61]⟩ := o4
  by_cases o5 : op = oGt
  · have o5' : (op = ⟨#[62]⟩) = True := eq_true o5
    rcases hlm with ⟨rfl, rfl⟩ | ⟨rfl, rfl⟩ | ⟨rfl, rfl⟩ <;> simp only [Bool.false_eq_true, if_true, if_false, Bool.not_true, Bool.not_false, Bool.and_true, Bool.and_false, Bool.or_true, Bool.or_false, if_neg o1, if_neg o2, if_neg o3, if_neg o4, if_pos o5] at hc ⊢
    all_goals
      repeat (first | refine dwp_seq ?_ | refine dwp_block ?_ | ((first | refine dwp_region ?_ | refine dwp_any ?_ | refine dwp_skip ?_ | refine dwp_exit ?_ | refine dwp_ret ?_ | refine dwp_if ?_); simp only [go_sem, beq_true, beq_false, Bool.true_beq, Bool.false_beq, Bool.bne_true, Bool.bne_false, Bool.true_bne, Bool.false_bne, Option.isSome_none, ne_eq, Int.cast_ofNat_Int, ↓reduceIte, reduceCtorEq, Nat.reduceBEq, Nat.reduceEqDiff, Nat.reduceLT, Nat.reduceLeDiff, Nat.reduceAdd, Nat.reduceMul, Nat.reducePow, Nat.reduceSub, Int.reduceEq, Int.reduceLT, Int.reduceLE, Int.reduceToNat, Int.reduceMul, Int.reduceNeg, Int.reduceAdd, Int.reduceSub, h0, h3, o1', o2', o3', o4', o5', hc, t0, t1]; try refine And.intro (show okTr _ _ = true by kernel_rfl) ?_))
  have o5' : ¬ op = ⟨#[62]⟩ := o5
  by_cases o6 : op = oGe
  · have o6' : (op = ⟨#[62, 61]⟩) = True := eq_true o6
    rcases hlm with ⟨rfl, rfl⟩ | ⟨rfl, rfl⟩ | ⟨rfl, rfl⟩ <;> simp only [Bool.false_eq_true, if_true, if_false, Bool.not_true, Bool.not_false, Bool.and_true, Bool.and_false, Bool.or_true, Bool.or_false, if_neg o1, if_neg o2, if_neg o3, if_neg o4, if_neg o5, if_pos o6] at hc ⊢
    all_goals
      repeat (first | refine dwp_seq ?_ | refine dwp_block ?_ | ((first | refine dwp_region ?_ | refine dwp_any ?_ | refine dwp_skip ?_ | refine dwp_exit ?_ | refine dwp_ret ?_ | refine dwp_if ?_); simp only [go_sem, beq_true, beq_false, Bool.true_beq, Bool.false_beq, Bool.bne_true, Bool.bne_false, Bool.true_bne, Bool.false_bne, Option.isSome_none, ne_eq, Int.cast_ofNat_Int, ↓reduceIte, reduceCtorEq, Nat.reduceBEq, Nat.reduceEqDiff, Nat.reduceLT, Nat.reduceLeDiff, Nat.reduceAdd, Nat.reduceMul, Nat.reducePow, Nat.reduceSub, Int.reduceEq, Int.reduceLT, Int.reduceLE, Int.reduceToNat, Int.reduceMul, Int.reduceNeg, Int.reduceAdd, Int.reduceSub, h0, h3, o1', o2', o3', o4', o5', o6', hc, t0, t1]; try refine And.intro (show okTr _ _ = true by kernel_rfl) ?_))
  have o6' : ¬ op = ⟨#[62, 61]⟩ := o6
  simp only [if_neg o1, if_neg o2, if_neg o3, if_neg o4, if_neg o5, if_neg o6]
  repeat (first | refine dwp_seq ?_ | refine dwp_block ?_ | ((first | refine dwp_region ?_ | refine dwp_any ?_ | refine dwp_skip ?_ | refine dwp_exit ?_ | refine dwp_ret ?_ | refine dwp_if ?_); simp only [go_sem, beq_true, beq_false, Bool.true_beq, Bool.false_beq, Bool.bne_true, Bool.bne_false, Bool.true_bne, Bool.false_bne, Option.isSome_none, ne_eq, Int.cast_ofNat_Int, ↓reduceIte, reduceCtorEq, Nat.reduceBEq, Nat.reduceEqDiff, Nat.reduceLT, Nat.reduceLeDiff, Nat.reduceAdd, Nat.reduceMul, Nat.reducePow, Nat.reduceSub, Int.reduceEq, Int.reduceLT, Int.reduceLE, Int.reduceToNat, Int.reduceMul, Int.reduceNeg, Int.reduceAdd, Int.reduceSub, h0, h3, o1', o2', o3', o4', o5', o6', hc, t0, t1]; try refine And.intro (show okTr _ _ = true by kernel_rfl) ?_))
end Go.Proofs.Ytjdkcedhmfgmoaa
