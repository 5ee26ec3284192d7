/- What SplitReady answers, of any data. -/
import Derived.Test.YtneihjdkaogkiaaDoorFd
namespace Go.Proofs.YtneihjdkaogkiaaDoor
open Go Go.Eng Go.Proofs
set_option linter.unusedVariables false
set_option linter.unusedSimpArgs false
set_option maxRecDepth 4000
set_option maxHeartbeats 4000000

theorem useBits_bit (l : List Term) (k : Nat) (hk : k < 32) : (useBits l).testBit k = l.any (fun f => f.tb == (k : Int)) := by
  have : ∀ (l : List Term) (n : Nat), (l.foldl (fun n f => if 0 ≤ f.tb ∧ f.tb < 32 then n ||| 2 ^ f.tb.toNat else n) n).testBit k = (n.testBit k || l.any (fun f => f.tb == (k : Int))) := by
    intro l
    induction l with
    | nil => intro n; simp
    | cons a l ih =>
      intro n
      rw [List.foldl_cons, ih, List.any_cons, ← Bool.or_assoc]
      congr 1
      split
      · rename_i h
        rw [Nat.testBit_or, Nat.testBit_two_pow]
        congr 1
        rw [Bool.eq_iff_iff, decide_eq_true_iff, beq_iff_eq]
        omega
      · rename_i h
        have : (a.tb == (k : Int)) = false := by
          rw [beq_eq_false_iff_ne]
          intro e
          exact h ⟨by omega, by omega⟩
        rw [this, Bool.or_false]
  have := this l 0
  simpa [useBits] using this
theorem andN_zero (n m : Nat) : (andN n m == 0) = (List.range 32).all (fun k => !n.testBit k || m.testBit k) := by
  have h1 : andN n m = ((BitVec.ofNat 32 n &&& ~~~(BitVec.ofNat 32 m)).toNat : Int) := by
    unfold andN ibit
    simp only [ofInt_nat]
    exact wrap_u32 (BitVec.isLt _)
  rw [h1, Bool.eq_iff_iff, beq_iff_eq, List.all_eq_true]
  constructor
  · intro h k hk
    have hk := List.mem_range.1 hk
    have h0 : (BitVec.ofNat 32 n &&& ~~~(BitVec.ofNat 32 m)).toNat = 0 := by omega
    have h2 : BitVec.ofNat 32 n &&& ~~~(BitVec.ofNat 32 m) = 0#32 := BitVec.eq_of_toNat_eq (by simpa using h0)
    have h3 := congrArg (fun x : BitVec 32 => x.getLsbD k) h2
    simp only [BitVec.getLsbD_and, BitVec.getLsbD_not, BitVec.getLsbD_ofNat, hk, decide_true, Bool.true_and, BitVec.getLsbD_zero] at h3
    cases hn : n.testBit k <;> cases hm : m.testBit k <;> simp_all
  · intro h
    have h2 : BitVec.ofNat 32 n &&& ~~~(BitVec.ofNat 32 m) = 0#32 := by
      refine BitVec.eq_of_getLsbD_eq fun k hk => ?_
      have := h k (List.mem_range.2 hk)
      simp only [BitVec.getLsbD_and, BitVec.getLsbD_not, BitVec.getLsbD_ofNat, hk, decide_true, Bool.true_and, BitVec.getLsbD_zero]
      cases hn : n.testBit k <;> cases hm : m.testBit k <;> simp_all
    rw [h2]
    rfl
theorem uses_all (t : Term) (m : Nat) : (usesN t 32).all (fun k => m.testBit k) = (andN (useBits (fields t)) m == 0) := by
  rw [andN_zero, Bool.eq_iff_iff, List.all_eq_true, List.all_eq_true]
  unfold usesN
  constructor
  · intro h k hk
    have hk' := List.mem_range.1 hk
    rw [useBits_bit _ _ hk']
    cases hh : hasT t k with
    | false => rw [show (fields t).any (fun f => f.tb == (k : Int)) = false from hh]; rfl
    | true =>
      have := h k (List.mem_filter.2 ⟨hk, hh⟩)
      rw [this, Bool.or_true]
  · intro h k hk
    obtain ⟨hk, hh⟩ := List.mem_filter.1 hk
    have := h k hk
    rw [useBits_bit _ _ (List.mem_range.1 hk), show (fields t).any (fun f => f.tb == (k : Int)) = true from hh] at this
    simpa using this
theorem c1_c2 (had now : Nat) (t : Term) : c1 had now t = c2 had now t := by
  unfold c1 c2
  rw [uses_all, uses_all]
  have e1 : (andN (useBits (fields t)) had != 0) = !(andN (useBits (fields t)) had == 0) := rfl
  have e2 : ((had : Int) != 0) = !((had : Int) == 0) := rfl
  rw [e1, e2]
  cases andN (useBits (fields t)) now == 0 <;> cases andN (useBits (fields t)) had == 0 <;> cases (had : Int) == 0 <;> rfl
theorem ready4 (l : List Term) (had now : Nat) (hh : had < 2 ^ 32) (hn : now < 2 ^ 32) : FF 4 [.sl 11 (l.map tcells), .v (.int .u32 (had : Int)), .v (.int .u32 (now : Int))] = some (.v (.bool true)) := by
  have hgr := great6_val l
  have hf := fixed7
  refine FF_val Tryd.func4 rfl rfl rfl ?_
  simp only [Tryd.ntmps4, Tryd.results4]
  cases hg : great6 l with
  | true =>
    rw [hg] at hgr
    repeat (first | refine dwp_seq ?_ | (refine dwp_region ?_; simp only [go_sem, ↓reduceIte, reduceCtorEq, Nat.reduceBEq, Nat.reduceEqDiff, Nat.reduceLT, Nat.reduceLeDiff, Nat.reduceAdd, Nat.reduceMul, Nat.reducePow, Nat.reduceSub, Int.reduceEq, Int.reduceLT, Int.reduceLE, Int.reduceToNat, Int.reduceMul, hgr, hf]) | (refine dwp_any ?_; simp only [go_sem, ↓reduceIte, reduceCtorEq, Nat.reduceBEq, Nat.reduceEqDiff, Nat.reduceLT, Nat.reduceLeDiff, Nat.reduceAdd, Nat.reduceMul, Nat.reducePow, Nat.reduceSub, Int.reduceEq, Int.reduceLT, Int.reduceLE, Int.reduceToNat, Int.reduceMul, hgr, hf]; refine ⟨by kernel_rfl, ?_⟩) | (refine dwp_skip ?_; simp only [go_sem, ↓reduceIte, reduceCtorEq, Nat.reduceBEq, Nat.reduceEqDiff, Nat.reduceLT, Nat.reduceLeDiff, Nat.reduceAdd, Nat.reduceMul, Nat.reducePow, Nat.reduceSub, Int.reduceEq, Int.reduceLT, Int.reduceLE, Int.reduceToNat, Int.reduceMul, hgr, hf]) | (refine dwp_exit ?_; simp only [go_sem, ↓reduceIte, reduceCtorEq, Nat.reduceBEq, Nat.reduceEqDiff, Nat.reduceLT, Nat.reduceLeDiff, Nat.reduceAdd, Nat.reduceMul, Nat.reducePow, Nat.reduceSub, Int.reduceEq, Int.reduceLT, Int.reduceLE, Int.reduceToNat, Int.reduceMul, hgr, hf]) | (refine dwp_ret ?_; simp only [go_sem, ↓reduceIte, reduceCtorEq, Nat.reduceBEq, Nat.reduceEqDiff, Nat.reduceLT, Nat.reduceLeDiff, Nat.reduceAdd, Nat.reduceMul, Nat.reducePow, Nat.reduceSub, Int.reduceEq, Int.reduceLT, Int.reduceLE, Int.reduceToNat, Int.reduceMul, hgr, hf]) | (refine dwp_if ?_; simp only [go_sem, ↓reduceIte, reduceCtorEq, Nat.reduceBEq, Nat.reduceEqDiff, Nat.reduceLT, Nat.reduceLeDiff, Nat.reduceAdd, Nat.reduceMul, Nat.reducePow, Nat.reduceSub, Int.reduceEq, Int.reduceLT, Int.reduceLE, Int.reduceToNat, Int.reduceMul, hgr, hf]) | refine dwp_block ?_)
  | false =>
    rw [hg] at hgr
    simp only [great6, Bool.or_eq_false_iff, decide_eq_false_iff_not, List.any_eq_false, Bool.not_eq_true] at hg
    have hl : l.length ≤ 40 := by omega
    have r1 := ready13 l had now hl hg.2
    have r2 := ready14 l had now hh hn hl hg.2
    rw [← idxs_congr (c := c1 had now) (c' := c2 had now) fun t _ => c1_c2 had now t] at r2
    have r3 := same_val ((idxs (c1 had now) l).map fun (n : Nat) => (n : Int)) ((idxs (c1 had now) l).map fun (n : Nat) => (n : Int)) (by
      rw [List.length_map]
      have := idxs_len (c1 had now) l
      omega)
    rw [← nats_ints, beq_self_eq_true] at r3
    repeat (first | refine dwp_seq ?_ | (refine dwp_region ?_; simp only [go_sem, ↓reduceIte, reduceCtorEq, Nat.reduceBEq, Nat.reduceEqDiff, Nat.reduceLT, Nat.reduceLeDiff, Nat.reduceAdd, Nat.reduceMul, Nat.reducePow, Nat.reduceSub, Int.reduceEq, Int.reduceLT, Int.reduceLE, Int.reduceToNat, Int.reduceMul, hgr, hf, r1, r2, r3]) | (refine dwp_any ?_; simp only [go_sem, ↓reduceIte, reduceCtorEq, Nat.reduceBEq, Nat.reduceEqDiff, Nat.reduceLT, Nat.reduceLeDiff, Nat.reduceAdd, Nat.reduceMul, Nat.reducePow, Nat.reduceSub, Int.reduceEq, Int.reduceLT, Int.reduceLE, Int.reduceToNat, Int.reduceMul, hgr, hf, r1, r2, r3]; refine ⟨by kernel_rfl, ?_⟩) | (refine dwp_skip ?_; simp only [go_sem, ↓reduceIte, reduceCtorEq, Nat.reduceBEq, Nat.reduceEqDiff, Nat.reduceLT, Nat.reduceLeDiff, Nat.reduceAdd, Nat.reduceMul, Nat.reducePow, Nat.reduceSub, Int.reduceEq, Int.reduceLT, Int.reduceLE, Int.reduceToNat, Int.reduceMul, hgr, hf, r1, r2, r3]) | (refine dwp_exit ?_; simp only [go_sem, ↓reduceIte, reduceCtorEq, Nat.reduceBEq, Nat.reduceEqDiff, Nat.reduceLT, Nat.reduceLeDiff, Nat.reduceAdd, Nat.reduceMul, Nat.reducePow, Nat.reduceSub, Int.reduceEq, Int.reduceLT, Int.reduceLE, Int.reduceToNat, Int.reduceMul, hgr, hf, r1, r2, r3]) | (refine dwp_ret ?_; simp only [go_sem, ↓reduceIte, reduceCtorEq, Nat.reduceBEq, Nat.reduceEqDiff, Nat.reduceLT, Nat.reduceLeDiff, Nat.reduceAdd, Nat.reduceMul, Nat.reducePow, Nat.reduceSub, Int.reduceEq, Int.reduceLT, Int.reduceLE, Int.reduceToNat, Int.reduceMul, hgr, hf, r1, r2, r3]) | (refine dwp_if ?_; simp only [go_sem, ↓reduceIte, reduceCtorEq, Nat.reduceBEq, Nat.reduceEqDiff, Nat.reduceLT, Nat.reduceLeDiff, Nat.reduceAdd, Nat.reduceMul, Nat.reducePow, Nat.reduceSub, Int.reduceEq, Int.reduceLT, Int.reduceLE, Int.reduceToNat, Int.reduceMul, hgr, hf, r1, r2, r3]) | refine dwp_block ?_)
end Go.Proofs.YtneihjdkaogkiaaDoor
