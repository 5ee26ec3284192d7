/- What the program's functions make of data: the parts of conditions. -/
import Derived.Test.YtneihjdkaogkiaaDoorFj
namespace Go.Proofs.YtneihjdkaogkiaaDoor
open Go Go.Eng Go.Proofs
set_option linter.unusedVariables false
set_option linter.unusedSimpArgs false
set_option maxRecDepth 100000
set_option maxHeartbeats 4000000

theorem ibit_and (n m : Nat) (hn : n < 2 ^ 32) (hm : m < 2 ^ 32) : ibit .and .u32 (n : Int) (m : Int) = ((n &&& m : Nat) : Int) := by
  have h : n &&& m < 2 ^ 32 := Nat.and_lt_two_pow n hm
  unfold ibit
  simp only [ofInt_nat]
  have e : (BitVec.ofNat 32 n &&& BitVec.ofNat 32 m).toNat = n &&& m := by
    rw [BitVec.toNat_and, BitVec.toNat_ofNat, BitVec.toNat_ofNat, Nat.mod_eq_of_lt hn, Nat.mod_eq_of_lt hm]
  exact (congrArg (fun x : Nat => IntKind.u32.wrap (x : Int)) e).trans (wrap_u32 h)
/-- a condition's tables, as bits -/
def bitsN (t : Term) (N : Nat) : Nat := useBits (fields t) &&& (2 ^ N - 1)
theorem bitsN_bit (t : Term) (N k : Nat) (hN : N ≤ 32) : (bitsN t N).testBit k = (hasT t k && decide (k < N)) := by
  unfold bitsN
  rw [Nat.testBit_and, Nat.testBit_two_pow_sub_one]
  by_cases hk : k < N
  · rw [useBits_bit _ _ (by omega)]
    simp [hk, hasT]
  · simp [hk]
theorem bitsN_lt (t : Term) (N : Nat) : bitsN t N < 2 ^ 32 := Nat.lt_of_le_of_lt Nat.and_le_left (useBits_lt _)
theorem countP_range (p : Nat → Bool) (N M : Nat) (h : N ≤ M) : (List.range M).countP (fun k => p k && decide (k < N)) = (List.range N).countP p := by
  induction M with
  | zero =>
    have : N = 0 := by omega
    subst this
    rfl
  | succ M ih =>
    by_cases hM : N ≤ M
    · rw [List.range_succ, List.countP_append, ih hM]
      have : ¬ M < N := by omega
      simp [this]
    · have : N = M + 1 := by omega
      subst this
      refine List.countP_congr fun k hk => ?_
      have := List.mem_range.1 hk
      simp [this]
theorem popc_uses (t : Term) (N : Nat) (hN : N ≤ 32) : popc (bitsN t N) = (usesN t N).length := by
  unfold popc usesN
  rw [← List.countP_eq_length_filter, ← countP_range (hasT t) N 32 hN]
  refine List.countP_congr fun k _ => ?_
  rw [bitsN_bit t N k hN]
theorem bitsN_one (t : Term) (N k : Nat) (hN : N ≤ 32) (h : usesN t N = [k]) : bitsN t N = 2 ^ k ∧ k < N := by
  have hm : ∀ j, j ∈ usesN t N ↔ j = k := fun j => by rw [h, List.mem_singleton]
  have hu : ∀ j, j ∈ usesN t N ↔ j < N ∧ hasT t j = true := fun j => by unfold usesN; rw [List.mem_filter, List.mem_range]
  refine ⟨Nat.eq_of_testBit_eq fun j => ?_, ((hu k).1 ((hm k).2 rfl)).1⟩
  rw [bitsN_bit t N j hN, Nat.testBit_two_pow, Bool.eq_iff_iff, Bool.and_eq_true, decide_eq_true_iff, decide_eq_true_iff]
  have h1 := hu j
  have h2 := hm j
  constructor
  · intro hj
    exact ((h2.1 (h1.2 ⟨hj.2, hj.1⟩))).symm
  · intro hj
    have := h1.1 (h2.2 hj.symm)
    exact ⟨this.2, this.1⟩
theorem all_lt (t : Int) : 2 ^ clampN t - 1 < 2 ^ 32 := by
  have := clampN_le t
  have hp : 2 ^ clampN t ≤ 2 ^ 31 := Nat.pow_le_pow_right (by decide) this
  omega
theorem popc_all (N : Nat) (hN : N ≤ 32) : popc (2 ^ N - 1) = N := by
  unfold popc
  have : ∀ k ∈ List.range 32, (2 ^ N - 1).testBit k = true ↔ (true && decide (k < N)) = true := fun k _ => by
    rw [Nat.testBit_two_pow_sub_one, Bool.true_and]
  rw [List.countP_congr this, countP_range (fun _ => true) N 32 hN]
  simp
def cN (n : Nat) (t : Term) (N : Nat) : Bool := (usesN t N).length == n
def cMany (N : Nat) (t : Term) : Bool := decide (2 ≤ (usesN t N).length)
def cNone (N : Nat) (t : Term) : Bool := (usesN t N).length == 0
def cK (N k : Nat) (t : Term) : Bool := usesN t N == [k]
/-- a row of numbers that was appended to, or none yet -/
def CN (c : D) (L : List Nat) : Prop := c = .own 3 1 (nats L) ∨ (c = .v (.slice none 0 0) ∧ L = [])
/-- what one condition adds to the joins -/
def joinOf (N : Nat) (t : Term) (i : Nat) : List (List D) := if cMany N t = true then (match sides t with
      | some (a, b) => if b.tb < a.tb then [jcells i b.tb a.tb b.co a.co] else if (a.tb != b.tb) = true then [jcells i a.tb b.tb a.co b.co] else []
      | none => []) else []
/-- the joins among conditions -/
def joinsOf (N : Nat) (l : List Term) (i : Nat) : List (List D) := match l with
  | [] => []
  | t :: l => joinOf N t i ++ joinsOf N l (i + 1)
theorem joinOf_len (N : Nat) (t : Term) (i : Nat) : (joinOf N t i).length ≤ 1 := by
  unfold joinOf
  split
  · split
    · split
      · exact Nat.le_refl _
      · split
        · exact Nat.le_refl _
        · exact Nat.zero_le _
    · exact Nat.zero_le _
  · exact Nat.zero_le _
theorem joinsOf_len (N : Nat) : ∀ (l : List Term) (i : Nat), (joinsOf N l i).length ≤ l.length
  | [], i => Nat.le_refl _
  | t :: l, i => by
    have ih := joinsOf_len N l (i + 1)
    have h1 := joinOf_len N t i
    rw [joinsOf, List.length_append, List.length_cons]
    omega
theorem joinsOf_snoc (N : Nat) (a : Term) : ∀ (l : List Term) (i : Nat), joinsOf N (l ++ [a]) i = joinsOf N l i ++ joinOf N a (i + l.length)
  | [], i => by simp only [joinsOf, List.nil_append, List.append_nil, List.length_nil, Nat.add_zero]
  | t :: l, i => by
    rw [List.cons_append, joinsOf, joinsOf, joinsOf_snoc N a l (i + 1), List.append_assoc, List.length_cons]
    rw [show i + 1 + l.length = i + (l.length + 1) by omega]
def CJ (c : D) (J : List (List D)) : Prop := c = .own 47 5 J ∨ (c = .v (.slice none 0 0) ∧ J = [])
end Go.Proofs.YtneihjdkaogkiaaDoor
