/- What the program's functions make of data: a clone of terms (the session's own words). -/
import Derived.Test.YtjdkcedhmfgmoaaTa
namespace Go.Proofs.Ytjdkcedhmfgmoaa
open Go Go.Eng Go.Proofs
set_option linter.unusedVariables false
set_option linter.unusedSimpArgs false
set_option maxRecDepth 100000
set_option maxHeartbeats 4000000
theorem tcs_all (l : List Term) : ((l.map tcells).all fun c => c.all fun d => nobs d && one d) = true := by
  rw [List.all_map, List.all_eq_true]
  intro t _
  simp only [Function.comp_apply, tcells_eq]
  rfl
theorem tcs_flat (l : List Term) : ((l.map tcells).flatten.map fin1) = (l.map tcells).flatten := by
  rw [List.map_flatten, List.map_map]
  congr 1
  exact List.map_congr_left fun t _ => tc_fin t
theorem tcs_out (l : List Term) : ((l.map tcells).flatten.all fun d => data d && (nobs d && one d)) = true := by
  rw [List.all_flatten, List.all_map, List.all_eq_true]
  intro t _
  simp only [Function.comp_apply, tcells_eq]
  rfl
theorem clone39 (x : Term) (l : List Term) (h : (l.length + 1) * 136 ≤ 140737488355328) : FF 39 [.sl (tcells x :: l.map tcells)] = some (.raw 11 (l.length + 1) (tcells x :: l.map tcells).flatten) := by
  have hr : room (l.length + 1) 136 = true := room_le ⟨h, by omega⟩
  have hl : lenAll 11 (tcells x :: l.map tcells) = true := lenAll_map tcells tc_len (x :: l)
  have hA : appE true (some 7) 29 11 [] (tcells x :: l.map tcells) [5] = { d := .bs 7 0 11 (l.length + 1), box := some (tcells x :: l.map tcells).flatten, gone := [5] } := by
    have := appE_t (dst := some 7) (p := tcells x :: l.map tcells) (by decide) rfl (tcs_all (x :: l)) 29 11 [5]
    simpa using this
  have hf : (tcells x :: l.map tcells).flatten.map fin1 = (tcells x :: l.map tcells).flatten := tcs_flat (x :: l)
  have ho : ((tcells x :: l.map tcells).flatten.all fun d => data d && (nobs d && one d)) = true := tcs_out (x :: l)
  generalize (tcells x :: l.map tcells).flatten = fl at hA hf ho ⊢
  refine FF_val Try.func39 rfl rfl ?_
  simp only [Try.ntmps39, Try.results39]
  repeat (first | refine dwp_seq ?_ | refine dwp_block ?_ | ((first | refine dwp_region ?_ | refine dwp_any ?_ | refine dwp_skip ?_ | refine dwp_exit ?_ | refine dwp_ret ?_ | refine dwp_if ?_); simp only [go_sem, beq_true, beq_false, Bool.true_beq, Bool.false_beq, Bool.bne_true, Bool.bne_false, Bool.true_bne, Bool.false_bne, Option.isSome_none, ne_eq, Int.cast_ofNat_Int, ↓reduceIte, reduceCtorEq, Nat.reduceBEq, Nat.reduceEqDiff, Nat.reduceLT, Nat.reduceLeDiff, Nat.reduceAdd, Nat.reduceMul, Nat.reducePow, Nat.reduceSub, Int.reduceEq, Int.reduceLT, Int.reduceLE, Int.reduceToNat, Int.reduceMul, Int.reduceNeg, Int.reduceAdd, Int.reduceSub, binK_slE, lenAll_map tcells tc_len, hr, hA]; try refine And.intro (show okTr _ _ = true by kernel_rfl) ?_))
  simp only [go_sem, beq_true, beq_false, Bool.true_beq, Bool.false_beq, Bool.bne_true, Bool.bne_false, Bool.true_bne, Bool.false_bne, Option.isSome_none, ne_eq, Int.cast_ofNat_Int, ↓reduceIte, reduceCtorEq, Nat.reduceBEq, Nat.reduceEqDiff, Nat.reduceLT, Nat.reduceLeDiff, Nat.reduceAdd, Nat.reduceMul, Nat.reducePow, Nat.reduceSub, Int.reduceEq, Int.reduceLT, Int.reduceLE, Int.reduceToNat, Int.reduceMul, Int.reduceNeg, Int.reduceAdd, Int.reduceSub, hf, ho]
end Go.Proofs.Ytjdkcedhmfgmoaa
