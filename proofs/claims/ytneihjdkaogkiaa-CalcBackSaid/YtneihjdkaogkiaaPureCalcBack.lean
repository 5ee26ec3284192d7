/- What is added and taken away again, or turned twice, is the number itself; order plays no part in sums and products: the pure statement of CalcBack. -/
import Derived.Test.YtneihjdkaogkiaaPCalcBackx4
namespace Go.Proofs.Ytneihjdkaogkiaa.Pure
open Go.RowKit Go.Proofs.Ytneihjdkaogkiaa.PCalcBack Go.Proofs.YtneihjdkaogkiaaW.PrintWords Go.Proofs.YtneihjdkaogkiaaW.PrintLast
set_option linter.unusedVariables false
set_option linter.unusedSimpArgs false

-- numbers of 128 bits: what calc's functions answer
theorem eta2 {α β : Type} (p : α × β) : (p.1, p.2) = p := rfl
/-- Not by sight ('rfl'): a rewriting that the kernel follows step by step. -/
theorem obs {α β : Type} (a : α) (f : α → Option β) : (some a).bind f = f a := congrArg (fun g : α → Option β => g a) (Eq.refl f)
theorem bind_is {α β : Type} {x : Option α} {f : α → Option β} {a : α} {r : Option β} (h : x = some a) (k : f a = r) : x.bind f = r := by rw [h]; exact k
theorem u64w (n : Int) : IntKind.u64.wrap n = n % 18446744073709551616 := by simp [IntKind.wrap, IntKind.bits, IntKind.signed]
def hi (n : Int) : Int := (n / 18446744073709551616) % 18446744073709551616
def lo (n : Int) : Int := n % 18446744073709551616
def I64 (n : Int) : Prop := -9223372036854775808 ≤ n ∧ n ≤ 9223372036854775807
theorem i64_of {n : Int} (h : (Lit.int .i64 n).wf = true) : I64 n := by
  unfold I64; simpa [Lit.wf, IntKind.min, IntKind.max, IntKind.signed, IntKind.bits] using h
theorem of_is (n : Int) (h : I64 n) : calc_of.f n = some (hi n, lo n) := by
  obtain ⟨h0, h1⟩ := h
  unfold calc_of.f hi lo
  rw [u64w, u64w, show n / 9223372036854775808 = n / 18446744073709551616 by omega]
theorem plus_is (a b : Int) : calc_wide_plus.f (hi a) (lo a) (hi b) (lo b) = some (hi (a + b), lo (a + b)) := by
  unfold calc_wide_plus.f hi lo
  rw [if_pos (by omega)]
  congr 2 <;> omega
def right (n : Int) : Int × Bool := if -9223372036854775808 ≤ n ∧ n ≤ 9223372036854775807 then (n, true) else (0, false)
theorem right_is (n : Int) (h0 : -170141183460469231731687303715884105728 ≤ n) (h1 : n < 170141183460469231731687303715884105728) : calc_wide_right.f (hi n) (lo n) = some (right n) := by
  unfold calc_wide_right.f
  have hw : I64 (wrap64 (lo n)) := by unfold I64 wrap64; omega
  rw [of_is _ hw]
  simp only [Option.bind_some]
  unfold right
  by_cases h : -9223372036854775808 ≤ n ∧ n ≤ 9223372036854775807
  · have e : wrap64 (lo n) = n := by unfold wrap64 lo; omega
    rw [e, if_pos h]
    simp
  · rw [if_neg h]
    have hne : ¬ (hi (wrap64 (lo n)) = hi n ∧ lo (wrap64 (lo n)) = lo n) := by
      unfold wrap64 hi lo
      omega
    rw [if_pos]
    by_cases e : hi (wrap64 (lo n)) = hi n
    · have e2 : ¬ lo (wrap64 (lo n)) = lo n := fun e2 => hne ⟨e, e2⟩
      simp [e2]
    · simp [e]

theorem not64 (x : Int) (h0 : 0 ≤ x) (h1 : x < 18446744073709551616) : Go.bits .xor .u64 IntKind.u64.max x = 18446744073709551615 - x := by
  obtain ⟨n, rfl⟩ := Int.eq_ofNat_of_zero_le h0
  have hn : n % 2 ^ 64 = n := Nat.mod_eq_of_lt (by omega)
  have e : BitVec.ofInt IntKind.u64.bits IntKind.u64.max = BitVec.allOnes 64 := by
    show BitVec.ofInt 64 IntKind.u64.max = BitVec.allOnes 64
    decide
  simp only [bits, BitVec.ofInt_natCast, e]
  show IntKind.u64.wrap ((BitVec.allOnes 64 ^^^ BitVec.ofNat 64 n).toNat : Int) = _
  rw [BitVec.allOnes_xor, BitVec.toNat_not, BitVec.toNat_ofNat, hn, u64w]
  omega
theorem minus_is (a : Int) : calc_wide_minus.f (hi a) (lo a) = some (hi (-a), lo (-a)) := by
  unfold calc_wide_minus.f
  rw [not64 (hi a) (by unfold hi; omega) (by unfold hi; omega), not64 (lo a) (by unfold lo; omega) (by unfold lo; omega)]
  have e1 : 18446744073709551615 - hi a = hi (-a - 1) := by unfold hi; omega
  have e2 : 18446744073709551615 - lo a = lo (-a - 1) := by unfold lo; omega
  have := plus_is (-a - 1) 1
  rw [show hi 1 = 0 by decide, show lo 1 = 1 by decide] at this
  rw [e1, e2, this]
  simp only [obs]
  rw [show -a - 1 + 1 = -a by omega]
theorem add_is (a b : Int) (ha : I64 a) (hb : I64 b) : calc_Add.f a b = some (right (a + b)) := by
  unfold calc_Add.f
  rw [of_is a ha, of_is b hb]
  simp only [obs]
  rw [plus_is]
  simp only [obs]
  rw [right_is _ (by unfold I64 at ha hb; omega) (by unfold I64 at ha hb; omega)]
  simp only [obs, eta2]
theorem sub_is (a b : Int) (ha : I64 a) (hb : I64 b) : calc_Sub.f a b = some (right (a - b)) := by
  unfold calc_Sub.f
  rw [of_is a ha, of_is b hb]
  simp only [obs]
  rw [minus_is]
  simp only [obs]
  rw [plus_is]
  simp only [obs]
  rw [show a + -b = a - b by omega, right_is _ (by unfold I64 at ha hb; omega) (by unfold I64 at ha hb; omega)]
  simp only [obs, eta2]
theorem neg_is (a : Int) (ha : I64 a) : calc_Neg.f a = some (right (-a)) := by
  unfold calc_Neg.f
  rw [of_is a ha]
  simp only [obs]
  rw [minus_is]
  simp only [obs]
  rw [right_is _ (by unfold I64 at ha; omega) (by unfold I64 at ha; omega)]
  simp only [obs, eta2]
theorem right_i64 (n : Int) : I64 (right n).1 := by
  unfold right I64; split
  · assumption
  · decide

theorem wraps_u64 (n : Int) (h₀ : 0 ≤ n) (h₁ : n < 2 ^ 64) : IntKind.u64.wrap n = n := by rw [u64w]; omega
theorem and32 (x : Int) (h0 : 0 ≤ x) (h1 : x < 18446744073709551616) : Go.bits .and .u64 x 4294967295 = x % 4294967296 := by
  have := bits_mask .u64 64 (by decide) wraps_u64 32 (by decide) x h0 (by omega)
  simpa using this
theorem mul64_is (a b : Int) (ha0 : 0 ≤ a) (ha : a < 18446744073709551616) (hb0 : 0 ≤ b) (hb : b < 18446744073709551616) :
    bits_Mul64.f a b = some (a * b / 18446744073709551616, a * b % 18446744073709551616) := by
  unfold bits_Mul64.f
  obtain ⟨a1, a0, ea, h1, h2, h3, h4⟩ : ∃ a1 a0, a = a1 * 4294967296 + a0 ∧ 0 ≤ a0 ∧ a0 ≤ 4294967295 ∧ 0 ≤ a1 ∧ a1 ≤ 4294967295 := ⟨a / 4294967296, a % 4294967296, by omega, by omega, by omega, by omega, by omega⟩
  obtain ⟨b1, b0, eb, h5, h6, h7, h8⟩ : ∃ b1 b0, b = b1 * 4294967296 + b0 ∧ 0 ≤ b0 ∧ b0 ≤ 4294967295 ∧ 0 ≤ b1 ∧ b1 ≤ 4294967295 := ⟨b / 4294967296, b % 4294967296, by omega, by omega, by omega, by omega, by omega⟩
  have ea1 : a / 4294967296 = a1 := by omega
  have eb1 : b / 4294967296 = b1 := by omega
  have ea0 : a % 4294967296 = a0 := by omega
  have eb0 : b % 4294967296 = b0 := by omega
  rw [and32 a ha0 ha, and32 b hb0 hb, ea1, eb1, ea0, eb0]
  have ep : a * b = a1 * b1 * 18446744073709551616 + (a1 * b0 + a0 * b1) * 4294967296 + a0 * b0 := by rw [ea, eb]; grind
  have bd : ∀ x y : Int, 0 ≤ x → x ≤ 4294967295 → 0 ≤ y → y ≤ 4294967295 → 0 ≤ x * y ∧ x * y ≤ 18446744065119617025 := fun x y hx0 hx hy0 hy =>
    ⟨Int.mul_nonneg hx0 hy0, Int.le_trans (Int.mul_le_mul hx hy hy0 (by decide)) (by decide)⟩
  have p11 := bd a1 b1 h3 h4 h7 h8; have p10 := bd a1 b0 h3 h4 h5 h6; have p01 := bd a0 b1 h1 h2 h7 h8; have p00 := bd a0 b0 h1 h2 h5 h6
  rw [ep]
  generalize a1 * b1 = x11 at *; generalize a1 * b0 = x10 at *; generalize a0 * b1 = x01 at *; generalize a0 * b0 = x00 at *
  clear ep ea eb ea1 eb1 ea0 eb0
  simp only [u64w]
  rw [show x00 % 18446744073709551616 = x00 by omega, show x10 % 18446744073709551616 = x10 by omega, show x01 % 18446744073709551616 = x01 by omega, show x11 % 18446744073709551616 = x11 by omega,
    show (x10 + x00 / 4294967296) % 18446744073709551616 = x10 + x00 / 4294967296 by omega, and32 (x10 + x00 / 4294967296) (by omega) (by omega)]
  congr 2 <;> omega
theorem size_is64 (a : Int) (ha : I64 a) : calc_size.f a = some (if a < 0 then -a else a) := by
  unfold calc_size.f I64 at *
  split
  · rw [u64w, u64w]; congr 1; omega
  · rw [u64w]; congr 1; omega
theorem mul_is (a b : Int) (ha : I64 a) (hb : I64 b) : calc_Mul.f a b = some (right (a * b)) := by
  unfold calc_Mul.f
  rw [size_is64 a ha, size_is64 b hb]
  simp only [obs]
  unfold I64 at ha hb
  have bx : ∀ x : Int, (-9223372036854775808 ≤ x ∧ x ≤ 9223372036854775807) → 0 ≤ (if x < 0 then -x else x) ∧ (if x < 0 then -x else x) ≤ 9223372036854775808 := fun x hx => by split <;> omega
  have sx := bx a ha; have sy := bx b hb
  have es : a * b = if (decide (a < 0)) != (decide (b < 0)) then -((if a < 0 then -a else a) * (if b < 0 then -b else b)) else (if a < 0 then -a else a) * (if b < 0 then -b else b) := by
    by_cases h1 : a < 0 <;> by_cases h2 : b < 0 <;> simp [h1, h2, Int.neg_mul, Int.mul_neg]
  generalize (if a < 0 then -a else a) = x at *
  generalize (if b < 0 then -b else b) = y at *
  have hP : 0 ≤ x * y ∧ x * y ≤ 85070591730234615865843651857942052864 := ⟨Int.mul_nonneg sx.1 sy.1, Int.le_trans (Int.mul_le_mul sx.2 sy.2 sy.1 (by decide)) (by decide)⟩
  rw [mul64_is x y (by omega) (by omega) (by omega) (by omega)]
  simp only [obs]
  generalize x * y = p at *
  have e1 : p / 18446744073709551616 = hi p := by unfold hi; omega
  have e2 : p % 18446744073709551616 = lo p := rfl
  rw [e1, e2]
  by_cases hs : ((decide (a < 0)) != (decide (b < 0))) = true
  · rw [if_pos hs] at es ⊢
    rw [minus_is]
    simp only [obs]
    rw [right_is _ (by omega) (by omega), es]
    simp only [obs, eta2]
  · rw [if_neg hs] at es ⊢
    rw [right_is _ (by omega) (by omega), es]
    simp only [obs, eta2]

theorem fixed_is : Ev (fun k => rowlocklaw03_fixed.f k) true := Ev.of (rowlocklaw03_fixed.mono) (k := 10) (by decide +kernel)

-- SAID What is added and taken away again, or turned twice, is the number itself; order plays no part in sums and products: the pure statement of CalcBack.
theorem CalcBack : rowlocklaw03_CalcBack.Pure := by
  intro a b ha hb
  have ha := i64_of ha; have hb := i64_of hb
  refine Ev.rounds (r := true) ?_
  have fin : Ev (fun k => rowlocklaw03_CalcBack.j1 k a b false) true := by
    refine Ev.step (f := fun k => (rowlocklaw03_fixed.f k).bind fun t => if t = true then some true else some false) (fun k => ?_) (Ev.bind (f := fun k t => if t = true then some true else some false) fixed_is (Ev.now _))
    simp only [rowlocklaw03_CalcBack.j1, add_is a b ha hb, add_is b a hb ha, mul_is a b ha hb, mul_is b a hb ha, obs, Int.add_comm b a, Int.mul_comm b a]
    simp
  have mid : Ev (fun k => rowlocklaw03_CalcBack.j0 k a b false) true := by
    refine Ev.step (f := fun k => rowlocklaw03_CalcBack.j1 k a b false) (fun k => ?_) fin
    simp only [rowlocklaw03_CalcBack.j0, neg_is a ha, obs, neg_is _ (right_i64 (-a))]
    unfold I64 at ha
    by_cases h : -9223372036854775808 ≤ -a ∧ -a ≤ 9223372036854775807
    · have e : right (-a) = (-a, true) := by unfold right; rw [if_pos h]
      have e2 : right (- -a) = (a, true) := by rw [Int.neg_neg]; unfold right; rw [if_pos ha]
      rw [e]
      simp only [e2]
      simp
    · have e : right (-a) = (0, false) := by unfold right; rw [if_neg h]
      simp [e]
  unfold rowlocklaw03_CalcBack.f
  refine Ev.congr (f := fun k => rowlocklaw03_CalcBack.j0 k a b false) (fun k => ?_) mid
  simp only [add_is a b ha hb, obs, sub_is _ b (right_i64 (a + b)) hb]
  unfold I64 at ha
  by_cases h : -9223372036854775808 ≤ a + b ∧ a + b ≤ 9223372036854775807
  · have e : right (a + b) = (a + b, true) := by unfold right; rw [if_pos h]
    have e2 : right (a + b - b) = (a, true) := by rw [show a + b - b = a by omega]; unfold right; rw [if_pos ha]
    rw [e]
    simp only [e2]
    simp
  · have e : right (a + b) = (0, false) := by unfold right; rw [if_neg h]
    simp [e]

end Go.Proofs.Ytneihjdkaogkiaa.Pure
