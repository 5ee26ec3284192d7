/- What the program's functions make of data: a term folded (the session's own words). -/
import Derived.Test.YtjdkcedhmfgmoaaTn
import Derived.Test.YtjdkcedhmfgmoaaTl
namespace Go.Proofs.Ytjdkcedhmfgmoaa
open Go Go.Eng Go.Proofs
set_option linter.unusedVariables false
set_option linter.unusedSimpArgs false
set_option maxRecDepth 100000
set_option maxHeartbeats 4000000

def litT (v : Val) : Term := .mk 1 ⟨#[]⟩ false v ⟨#[]⟩ ⟨#[]⟩ 0 0 []
mutual
def foldT : Term → Term
  | .mk k o n v f m t c xs => if k ≠ 1 ∧ constT (.mk k o n v f m t c xs) = true ∧ (evalT [] [] (.mk k o n v f m t c xs)).isSome = true then litT ((evalT [] [] (.mk k o n v f m t c xs)).getD ⟨0, 0, ⟨#[]⟩⟩) else .mk k o n v f m t c (foldL xs)
def foldL : List Term → List Term
  | [] => []
  | t :: l => foldT t :: foldL l
end
theorem foldL_eq : ∀ l : List Term, foldL l = l.map foldT
  | [] => by simp [foldL]
  | t :: l => by simp [foldL, foldL_eq l]
/-- elements laid side by side: one of them, one stored -/
theorem flat_part (l : List Term) (i : Nat) (t : Term) (h : l[i]? = some t) : (((l.map tcells).flatten).drop (i * 11)).take 11 = tcells t := by
  induction l generalizing i with
  | nil => simp at h
  | cons a l ih =>
    cases i with
    | zero =>
      simp only [List.getElem?_cons_zero, Option.some.injEq] at h
      subst h
      rw [List.map_cons, List.flatten_cons, Nat.zero_mul, List.drop_zero, List.take_append_of_le_length (by rw [tc_len]; exact Nat.le_refl _), tc_take]
    | succ i =>
      rw [List.getElem?_cons_succ] at h
      rw [List.map_cons, List.flatten_cons, List.drop_append, List.drop_of_length_le (by rw [tc_len]; omega), List.nil_append, tc_len, show (i + 1) * 11 - 11 = i * 11 by omega]
      exact ih i h
theorem flat_set (l : List Term) (i : Nat) (t : Term) (h : i < l.length) : setCells (l.map tcells).flatten (i * 11) (tcells t) = ((l.set i t).map tcells).flatten := by
  induction l generalizing i with
  | nil => simp at h
  | cons a l ih =>
    cases i with
    | zero =>
      simp only [setCells, List.map_cons, List.flatten_cons, List.set_cons_zero, Nat.zero_mul, List.take_zero, List.nil_append, Nat.zero_add, tc_len]
      rw [List.drop_append, List.drop_of_length_le (by rw [tc_len]; omega), List.nil_append, tc_len, Nat.sub_self, List.drop_zero]
    | succ i =>
      have := ih i (by simpa using h)
      simp only [setCells, tc_len] at this ⊢
      rw [List.map_cons, List.flatten_cons, List.set_cons_succ, List.map_cons, List.flatten_cons, ← this]
      rw [List.take_append, List.drop_append, tc_len, List.take_of_length_le (by rw [tc_len]; omega), List.drop_of_length_le (by rw [tc_len]; omega), List.nil_append, show (i + 1) * 11 - 11 = i * 11 by omega, show (i + 1) * 11 + 11 - 11 = i * 11 + 11 by omega]
      simp only [List.append_assoc]
end Go.Proofs.Ytjdkcedhmfgmoaa
