/- What an operation makes of any two values is the document's: the pure statement of CalcDo. -/
import Derived.Test.YtneihjdkaogkiaaGivenCalcDo
namespace Go.Proofs.Ytneihjdkaogkiaa.Pure
open Go.RowKit Go.Proofs.Ytneihjdkaogkiaa.PCalcDo Go.Proofs.Ytneihjdkaogkiaa.Opn Go.Proofs.YtneihjdkaogkiaaW.PrintWords Go.Proofs.YtneihjdkaogkiaaW.PrintLast
set_option linter.unusedVariables false
set_option linter.unusedSimpArgs false

-- numbers of 128 bits: what calc's functions answer
theorem eta2 {α β : Type} (p : α × β) : (p.1, p.2) = p := rfl
/-- Not by sight ('rfl'): a rewriting that the kernel follows step by step. -/
theorem obs {α β : Type} (a : α) (f : α → Option β) : (some a).bind f = f a := congrArg (fun g : α → Option β => g a) (Eq.refl f)
theorem bind_is {α β : Type} {x : Option α} {f : α → Option β} {a : α} {r : Option β} (h : x = some a) (k : f a = r) : x.bind f = r := by rw [h]; exact k
theorem ev_const {α : Type} {x : Option α} {r : α} (h : x = some r) : Ev (fun _ => x) r := ⟨0, fun _ _ => h⟩
theorem ev_if {α : Type} {f g : Nat → Option α} {r : α} (h : Ev f r) : Ev (fun k => if true = true then f k else g k) r := h
theorem u64w (n : Int) : IntKind.u64.wrap n = n % 18446744073709551616 := by simp [IntKind.wrap, IntKind.bits, IntKind.signed]
def hi (n : Int) : Int := (n / 18446744073709551616) % 18446744073709551616
def lo (n : Int) : Int := n % 18446744073709551616
def I64 (n : Int) : Prop := -9223372036854775808 ≤ n ∧ n ≤ 9223372036854775807
theorem i64_of {n : Int} (h : (Lit.int .i64 n).wf = true) : I64 n := by
  unfold I64; simpa [Lit.wf, IntKind.min, IntKind.max, IntKind.signed, IntKind.bits] using h
theorem of_is (n : Int) (h : I64 n) : calc_of.f n = some (hi n, lo n) := by
  obtain ⟨h0, h1⟩ := h
  unfold calc_of.f hi lo
  rw [u64w, u64w, show n / 9223372036854775808 = n / 18446744073709551616 by omega]
theorem plus_is (a b : Int) : calc_wide_plus.f (hi a) (lo a) (hi b) (lo b) = some (hi (a + b), lo (a + b)) := by
  unfold calc_wide_plus.f hi lo
  rw [if_pos (by omega)]
  congr 2 <;> omega
def right (n : Int) : Int × Bool := if -9223372036854775808 ≤ n ∧ n ≤ 9223372036854775807 then (n, true) else (0, false)
theorem right_is (n : Int) (h0 : -170141183460469231731687303715884105728 ≤ n) (h1 : n < 170141183460469231731687303715884105728) : calc_wide_right.f (hi n) (lo n) = some (right n) := by
  unfold calc_wide_right.f
  have hw : I64 (wrap64 (lo n)) := by unfold I64 wrap64; omega
  rw [of_is _ hw]
  simp only [Option.bind_some]
  unfold right
  by_cases h : -9223372036854775808 ≤ n ∧ n ≤ 9223372036854775807
  · have e : wrap64 (lo n) = n := by unfold wrap64 lo; omega
    rw [e, if_pos h]
    simp
  · rw [if_neg h]
    have hne : ¬ (hi (wrap64 (lo n)) = hi n ∧ lo (wrap64 (lo n)) = lo n) := by
      unfold wrap64 hi lo
      omega
    rw [if_pos]
    by_cases e : hi (wrap64 (lo n)) = hi n
    · have e2 : ¬ lo (wrap64 (lo n)) = lo n := fun e2 => hne ⟨e, e2⟩
      simp [e2]
    · simp [e]

theorem not64 (x : Int) (h0 : 0 ≤ x) (h1 : x < 18446744073709551616) : Go.bits .xor .u64 IntKind.u64.max x = 18446744073709551615 - x := by
  obtain ⟨n, rfl⟩ := Int.eq_ofNat_of_zero_le h0
  have hn : n % 2 ^ 64 = n := Nat.mod_eq_of_lt (by omega)
  have e : BitVec.ofInt IntKind.u64.bits IntKind.u64.max = BitVec.allOnes 64 := by
    show BitVec.ofInt 64 IntKind.u64.max = BitVec.allOnes 64
    decide
  simp only [bits, BitVec.ofInt_natCast, e]
  show IntKind.u64.wrap ((BitVec.allOnes 64 ^^^ BitVec.ofNat 64 n).toNat : Int) = _
  rw [BitVec.allOnes_xor, BitVec.toNat_not, BitVec.toNat_ofNat, hn, u64w]
  omega
theorem minus_is (a : Int) : calc_wide_minus.f (hi a) (lo a) = some (hi (-a), lo (-a)) := by
  unfold calc_wide_minus.f
  rw [not64 (hi a) (by unfold hi; omega) (by unfold hi; omega), not64 (lo a) (by unfold lo; omega) (by unfold lo; omega)]
  have e1 : 18446744073709551615 - hi a = hi (-a - 1) := by unfold hi; omega
  have e2 : 18446744073709551615 - lo a = lo (-a - 1) := by unfold lo; omega
  have := plus_is (-a - 1) 1
  rw [show hi 1 = 0 by decide, show lo 1 = 1 by decide] at this
  rw [e1, e2, this]
  simp only [obs]
  rw [show -a - 1 + 1 = -a by omega]
theorem add_is (a b : Int) (ha : I64 a) (hb : I64 b) : calc_Add.f a b = some (right (a + b)) := by
  unfold calc_Add.f
  rw [of_is a ha, of_is b hb]
  simp only [obs]
  rw [plus_is]
  simp only [obs]
  rw [right_is _ (by unfold I64 at ha hb; omega) (by unfold I64 at ha hb; omega)]
  simp only [obs, eta2]
theorem sub_is (a b : Int) (ha : I64 a) (hb : I64 b) : calc_Sub.f a b = some (right (a - b)) := by
  unfold calc_Sub.f
  rw [of_is a ha, of_is b hb]
  simp only [obs]
  rw [minus_is]
  simp only [obs]
  rw [plus_is]
  simp only [obs]
  rw [show a + -b = a - b by omega, right_is _ (by unfold I64 at ha hb; omega) (by unfold I64 at ha hb; omega)]
  simp only [obs, eta2]
theorem right_i64 (n : Int) : I64 (right n).1 := by
  unfold right I64; split
  · assumption
  · decide

theorem wraps_u64 (n : Int) (h₀ : 0 ≤ n) (h₁ : n < 2 ^ 64) : IntKind.u64.wrap n = n := by rw [u64w]; omega
theorem and32 (x : Int) (h0 : 0 ≤ x) (h1 : x < 18446744073709551616) : Go.bits .and .u64 x 4294967295 = x % 4294967296 := by
  have := bits_mask .u64 64 (by decide) wraps_u64 32 (by decide) x h0 (by omega)
  simpa using this
theorem mul64_is (a b : Int) (ha0 : 0 ≤ a) (ha : a < 18446744073709551616) (hb0 : 0 ≤ b) (hb : b < 18446744073709551616) :
    bits_Mul64.f a b = some (a * b / 18446744073709551616, a * b % 18446744073709551616) := by
  unfold bits_Mul64.f
  obtain ⟨a1, a0, ea, h1, h2, h3, h4⟩ : ∃ a1 a0, a = a1 * 4294967296 + a0 ∧ 0 ≤ a0 ∧ a0 ≤ 4294967295 ∧ 0 ≤ a1 ∧ a1 ≤ 4294967295 := ⟨a / 4294967296, a % 4294967296, by omega, by omega, by omega, by omega, by omega⟩
  obtain ⟨b1, b0, eb, h5, h6, h7, h8⟩ : ∃ b1 b0, b = b1 * 4294967296 + b0 ∧ 0 ≤ b0 ∧ b0 ≤ 4294967295 ∧ 0 ≤ b1 ∧ b1 ≤ 4294967295 := ⟨b / 4294967296, b % 4294967296, by omega, by omega, by omega, by omega, by omega⟩
  have ea1 : a / 4294967296 = a1 := by omega
  have eb1 : b / 4294967296 = b1 := by omega
  have ea0 : a % 4294967296 = a0 := by omega
  have eb0 : b % 4294967296 = b0 := by omega
  rw [and32 a ha0 ha, and32 b hb0 hb, ea1, eb1, ea0, eb0]
  have ep : a * b = a1 * b1 * 18446744073709551616 + (a1 * b0 + a0 * b1) * 4294967296 + a0 * b0 := by rw [ea, eb]; grind
  have bd : ∀ x y : Int, 0 ≤ x → x ≤ 4294967295 → 0 ≤ y → y ≤ 4294967295 → 0 ≤ x * y ∧ x * y ≤ 18446744065119617025 := fun x y hx0 hx hy0 hy =>
    ⟨Int.mul_nonneg hx0 hy0, Int.le_trans (Int.mul_le_mul hx hy hy0 (by decide)) (by decide)⟩
  have p11 := bd a1 b1 h3 h4 h7 h8; have p10 := bd a1 b0 h3 h4 h5 h6; have p01 := bd a0 b1 h1 h2 h7 h8; have p00 := bd a0 b0 h1 h2 h5 h6
  rw [ep]
  generalize a1 * b1 = x11 at *; generalize a1 * b0 = x10 at *; generalize a0 * b1 = x01 at *; generalize a0 * b0 = x00 at *
  clear ep ea eb ea1 eb1 ea0 eb0
  simp only [u64w]
  rw [show x00 % 18446744073709551616 = x00 by omega, show x10 % 18446744073709551616 = x10 by omega, show x01 % 18446744073709551616 = x01 by omega, show x11 % 18446744073709551616 = x11 by omega,
    show (x10 + x00 / 4294967296) % 18446744073709551616 = x10 + x00 / 4294967296 by omega, and32 (x10 + x00 / 4294967296) (by omega) (by omega)]
  congr 2 <;> omega
theorem size_is64 (a : Int) (ha : I64 a) : calc_size.f a = some (if a < 0 then -a else a) := by
  unfold calc_size.f I64 at *
  split
  · rw [u64w, u64w]; congr 1; omega
  · rw [u64w]; congr 1; omega
theorem mul_is (a b : Int) (ha : I64 a) (hb : I64 b) : calc_Mul.f a b = some (right (a * b)) := by
  unfold calc_Mul.f
  rw [size_is64 a ha, size_is64 b hb]
  simp only [obs]
  unfold I64 at ha hb
  have bx : ∀ x : Int, (-9223372036854775808 ≤ x ∧ x ≤ 9223372036854775807) → 0 ≤ (if x < 0 then -x else x) ∧ (if x < 0 then -x else x) ≤ 9223372036854775808 := fun x hx => by split <;> omega
  have sx := bx a ha; have sy := bx b hb
  have es : a * b = if (decide (a < 0)) != (decide (b < 0)) then -((if a < 0 then -a else a) * (if b < 0 then -b else b)) else (if a < 0 then -a else a) * (if b < 0 then -b else b) := by
    by_cases h1 : a < 0 <;> by_cases h2 : b < 0 <;> simp [h1, h2, Int.neg_mul, Int.mul_neg]
  generalize (if a < 0 then -a else a) = x at *
  generalize (if b < 0 then -b else b) = y at *
  have hP : 0 ≤ x * y ∧ x * y ≤ 85070591730234615865843651857942052864 := ⟨Int.mul_nonneg sx.1 sy.1, Int.le_trans (Int.mul_le_mul sx.2 sy.2 sy.1 (by decide)) (by decide)⟩
  rw [mul64_is x y (by omega) (by omega) (by omega) (by omega)]
  simp only [obs]
  generalize x * y = p at *
  have e1 : p / 18446744073709551616 = hi p := by unfold hi; omega
  have e2 : p % 18446744073709551616 = lo p := rfl
  rw [e1, e2]
  by_cases hs : ((decide (a < 0)) != (decide (b < 0))) = true
  · rw [if_pos hs] at es ⊢
    rw [minus_is]
    simp only [obs]
    rw [right_is _ (by omega) (by omega), es]
    simp only [obs, eta2]
  · rw [if_neg hs] at es ⊢
    rw [right_is _ (by omega) (by omega), es]
    simp only [obs, eta2]

-- numbers by digits of 2^16: what the document's functions answer
def val : List Int → Int
  | [] => 0
  | d :: r => d + 65536 * val r
def Dg (l : List Int) : Prop := ∀ d ∈ l, 0 ≤ d ∧ d < 65536
def dg (l : List Int) (i : Nat) : Int := l.getD i 0
def T (l : List Int) (i : Nat) : Int := val (l.drop i)
theorem dg_range {l : List Int} (h : Dg l) (i : Nat) : 0 ≤ dg l i ∧ dg l i < 65536 := by
  unfold dg
  rw [List.getD_eq_getElem?_getD]
  by_cases hi : i < l.length
  · rw [List.getElem?_eq_getElem hi]; exact h _ (List.getElem_mem hi)
  · rw [List.getElem?_eq_none (by omega)]; decide
theorem T_step (l : List Int) (i : Nat) : T l i = dg l i + 65536 * T l (i + 1) := by
  unfold T dg
  by_cases hi : i < l.length
  · rw [List.drop_eq_getElem_cons hi, val, List.getD_eq_getElem?_getD, List.getElem?_eq_getElem hi]; rfl
  · rw [List.drop_eq_nil_of_le (by omega), List.drop_eq_nil_of_le (by omega), List.getD_eq_getElem?_getD, List.getElem?_eq_none (by omega)]; rfl
theorem T_end (l : List Int) (i : Nat) (h : l.length ≤ i) : T l i = 0 := by unfold T; rw [List.drop_eq_nil_of_le h]; rfl
theorem T_zero (l : List Int) : T l 0 = val l := rfl
theorem val_nonneg {l : List Int} (h : Dg l) : 0 ≤ val l := by
  induction l with
  | nil => simp [val]
  | cons d r ih =>
    have h1 := h d (by simp)
    have h2 := ih (fun x hx => h x (by simp [hx]))
    simp only [val]; omega
theorem T_nonneg {l : List Int} (h : Dg l) (i : Nat) : 0 ≤ T l i := val_nonneg (fun d hd => h d (List.mem_of_mem_drop hd))
theorem T_le {l : List Int} (h : Dg l) (i : Nat) : T l i ≤ val l := by
  induction i with
  | zero => exact Int.le_refl _
  | succ i ih => have := T_step l i; have := dg_range h i; have := T_nonneg h (i + 1); omega
theorem lt_down {a b : List Int} (ha : Dg a) (hb : Dg b) (m : Nat) (h : T a m < T b m) : val a < val b := by
  induction m with
  | zero => exact h
  | succ m ih =>
    apply ih
    have := T_step a m; have := T_step b m; have := dg_range ha m; have := dg_range hb m
    omega
theorem digit_is (l : List Int) (i : Nat) : rowlockref03_digit.f l (i : Int) = some (dg l i) := by
  unfold rowlockref03_digit.f dg
  by_cases h : (i : Int) < (l.length : Int)
  · rw [if_pos h, if_pos (by omega)]; unfold rd; rw [Int.toNat_natCast]
  · rw [if_neg h, List.getD_eq_getElem?_getD, List.getElem?_eq_none (by omega)]; rfl
theorem less_l0 {a b : List Int} (ha : Dg a) (hb : Dg b) (s t : Int) (hl : a.length ≤ 140737488351232) (hl2 : b.length ≤ 140737488351232) : ∀ m : Nat, m ≤ 140737488351232 → T a m = T b m →
    Ev (fun k => rowlockref03_Less.l0 k ((m : Int) - 1) s a t b) (decide (val a < val b)) := by
  intro m
  induction m with
  | zero =>
    intro _ h
    refine Ev.step (f := fun _ => some (decide (val a < val b))) (fun k => ?_) (Ev.now _)
    simp only [rowlockref03_Less.l0]
    rw [if_neg (by omega)]
    have : ¬ val a < val b := by have h' : val a = val b := h; omega
    simp [this]
  | succ m ih =>
    intro hm h
    have e1 := T_step a m; have e2 := T_step b m
    have r1 := dg_range ha m; have r2 := dg_range hb m
    by_cases hd : dg a m = dg b m
    · refine Ev.step (f := fun k => rowlockref03_Less.l0 k ((m : Int) - 1) s a t b) (fun k => ?_) (ih (by omega) (by omega))
      simp only [rowlockref03_Less.l0]
      rw [if_pos (by omega), show ((m + 1 : Nat) : Int) - 1 = (m : Int) by omega, digit_is, digit_is]
      simp only [Option.bind_some]
      rw [if_pos hd, show wrap64 ((m : Int) - 1) = (m : Int) - 1 by unfold wrap64; omega]
    · refine Ev.step (f := fun _ => some (decide (val a < val b))) (fun k => ?_) (Ev.now _)
      simp only [rowlockref03_Less.l0]
      rw [if_pos (by omega), show ((m + 1 : Nat) : Int) - 1 = (m : Int) by omega, digit_is, digit_is]
      simp only [Option.bind_some]
      rw [if_neg hd]
      congr 1
      rw [decide_eq_decide]
      constructor
      · intro hlt; exact lt_down ha hb m (by omega)
      · intro hlt
        rcases Int.lt_trichotomy (dg a m) (dg b m) with h1 | h1 | h1
        · exact h1
        · exact absurd h1 hd
        · have := lt_down hb ha m (by omega); omega
theorem less_is {a b : List Int} (ha : Dg a) (hb : Dg b) (s t : Int) (hl : a.length ≤ 140737488351232) (hl2 : b.length ≤ 140737488351232) :
    Ev (fun k => rowlockref03_Less.f k s a t b) (decide (val a < val b)) := by
  unfold rowlockref03_Less.f
  by_cases h : (a.length : Int) < (b.length : Int)
  · refine Ev.congr (f := fun k => rowlockref03_Less.l0 k ((b.length : Int) - 1) s a t b) (fun k => ?_) (less_l0 ha hb s t hl hl2 b.length hl2 (by rw [T_end _ _ (by omega), T_end _ _ (Nat.le_refl _)]))
    rw [if_pos h, show wrap64 ((b.length : Int) - 1) = (b.length : Int) - 1 by unfold wrap64; omega]
  · refine Ev.congr (f := fun k => rowlockref03_Less.l0 k ((a.length : Int) - 1) s a t b) (fun k => ?_) (less_l0 ha hb s t hl hl2 a.length hl (by rw [T_end _ _ (by omega), T_end _ _ (by omega)]))
    rw [if_neg h, show wrap64 ((a.length : Int) - 1) = (a.length : Int) - 1 by unfold wrap64; omega]
theorem td (x : Int) (h : 0 ≤ x) : Int.tdiv x 65536 = x / 65536 := Int.tdiv_eq_ediv_of_nonneg h
theorem tm (x : Int) (h : 0 ≤ x) : Int.tmod x 65536 = x % 65536 := Int.tmod_eq_emod_of_nonneg h
theorem size_round {a b : List Int} (ha : Dg a) (hb : Dg b) (s t : Int) (k : Nat) (out : List Int) (c : Int) (i : Nat) (hc : 0 ≤ c ∧ c ≤ 1) (hi : i ≤ 140737488351232) (ho : out.length < 17592186044416) :
    rowlockref03_size.j1 (k + 1) out c (i : Int) true s a t b = rowlockref03_size.l0 k (out ++ [(dg a i + dg b i + c) % 65536]) ((dg a i + dg b i + c) / 65536) ((i + 1 : Nat) : Int) s a t b := by
  have r1 := dg_range ha i; have r2 := dg_range hb i
  simp only [rowlockref03_size.j1, if_true, digit_is, Option.bind_some, u64w]
  rw [if_pos ho, show ((dg a i + dg b i) % 18446744073709551616 + c) % 18446744073709551616 = dg a i + dg b i + c by omega, td _ (by omega), tm _ (by omega), show (dg a i + dg b i + c) / 65536 % 18446744073709551616 = (dg a i + dg b i + c) / 65536 by omega,
    show wrap64 ((i : Int) + 1) = ((i + 1 : Nat) : Int) by unfold wrap64; omega]
theorem size_l0 {a b : List Int} (ha : Dg a) (hb : Dg b) (s t : Int) (N : Nat) (hN : N ≤ 17592186044000) (hl : a.length ≤ N) (hl2 : b.length ≤ N) : ∀ (d : Nat) (out : List Int) (c : Int) (i : Nat), d = N - i → i ≤ N → out.length = i → 0 ≤ c ∧ c ≤ 1 →
    ∃ rest, Ev (fun k => rowlockref03_size.l0 k out c (i : Int) s a t b) (1, out ++ rest) ∧ Dg rest ∧ val rest = T a i + T b i + c ∧ i + rest.length ≤ N + 1 := by
  have stop : ∀ (out : List Int) (i : Nat), a.length ≤ i → b.length ≤ i → Ev (fun k => rowlockref03_size.l0 k out 0 (i : Int) s a t b) (1, out) := by
    intro out i h1 h2
    refine Ev.step (f := fun k => rowlockref03_size.j1 k out 0 (i : Int) false s a t b) (fun k => ?_) (Ev.step (f := fun _ => some (1, out)) (fun k => ?_) (Ev.now _))
    · simp only [rowlockref03_size.l0]
      rw [if_neg (by omega), if_neg (by omega)]; simp
    · simp [rowlockref03_size.j1]
  intro d
  induction d with
  | zero =>
    intro out c i hd hi ho hc
    by_cases h0 : (i : Int) < a.length ∨ (i : Int) < b.length
    · omega
    · by_cases hc0 : c = 0
      · subst hc0
        exact ⟨[], by rw [List.append_nil]; exact stop out i (by omega) (by omega), fun _ h => (by cases h), by rw [T_end _ _ (by omega), T_end _ _ (by omega)]; rfl, by simp; omega⟩
      · have hc1 : c = 1 := by omega
        subst hc1
        have e1 : dg a i = 0 := by have := T_step a i; have := T_end a i (by omega); have := T_end a (i+1) (by omega); omega
        have e2 : dg b i = 0 := by have := T_step b i; have := T_end b i (by omega); have := T_end b (i+1) (by omega); omega
        refine ⟨[1], ?_, fun x hx => by simp at hx; subst hx; decide, by rw [T_end _ _ (by omega), T_end _ _ (by omega)]; rfl, by simp; omega⟩
        refine Ev.step (f := fun k => rowlockref03_size.j1 k out 1 (i : Int) true s a t b) (fun k => ?_) (Ev.step (f := fun k => rowlockref03_size.l0 k (out ++ [1]) 0 ((i + 1 : Nat) : Int) s a t b) (fun k => ?_) (stop _ _ (by omega) (by omega)))
        · simp only [rowlockref03_size.l0]
          rw [if_neg (by omega), if_neg (by omega)]; simp
        · rw [size_round ha hb s t k out 1 i (by omega) (by omega) (by omega), e1, e2]; rfl
  | succ d ih =>
    intro out c i hd hi ho hc
    have r1 := dg_range ha i; have r2 := dg_range hb i
    have t1 := T_step a i; have t2 := T_step b i
    by_cases h0 : (i : Int) < a.length ∨ (i : Int) < b.length ∨ c > 0
    · obtain ⟨rest, he, hr, hv, hlen⟩ := ih (out ++ [(dg a i + dg b i + c) % 65536]) ((dg a i + dg b i + c) / 65536) (i + 1) (by omega) (by omega) (by simp [ho]) (by omega)
      refine ⟨(dg a i + dg b i + c) % 65536 :: rest, ?_, fun x hx => ?_, by simp only [val]; omega, by simp; omega⟩
      · refine Ev.step (f := fun k => rowlockref03_size.j1 k out c (i : Int) true s a t b) (fun k => ?_) (Ev.step (f := fun k => rowlockref03_size.l0 k (out ++ [(dg a i + dg b i + c) % 65536]) ((dg a i + dg b i + c) / 65536) ((i + 1 : Nat) : Int) s a t b) (fun k => ?_) (by simpa using he))
        · simp only [rowlockref03_size.l0]
          by_cases h1 : (i : Int) < a.length
          · rw [if_pos h1]
          · by_cases h2 : (i : Int) < b.length
            · rw [if_neg h1, if_pos h2]
            · rw [if_neg h1, if_neg h2, decide_eq_true (by omega)]
        · exact size_round ha hb s t k out c i hc (by omega) (by omega)
      · rcases List.mem_cons.1 hx with rfl | hx
        · omega
        · exact hr x hx
    · have hc0 : c = 0 := by omega
      subst hc0
      exact ⟨[], by rw [List.append_nil]; exact stop out i (by omega) (by omega), fun _ h => (by cases h), by rw [T_end _ _ (by omega), T_end _ _ (by omega)]; rfl, by simp; omega⟩
theorem size_is {a b : List Int} (ha : Dg a) (hb : Dg b) (s t : Int) (N : Nat) (hN : N ≤ 17592186044000) (hl : a.length ≤ N) (hl2 : b.length ≤ N) :
    ∃ r, Ev (fun k => rowlockref03_size.f k s a t b) (1, r) ∧ Dg r ∧ val r = val a + val b ∧ r.length ≤ N + 1 := by
  obtain ⟨rest, he, hr, hv, hlen⟩ := size_l0 ha hb s t N hN hl hl2 (N - 0) [] 0 0 rfl (by omega) rfl (by decide)
  have he2 : Ev (fun k => rowlockref03_size.l0 k [] 0 0 s a t b) (1, rest) := by simpa using he
  exact ⟨rest, he2, hr, by rw [hv, T_zero, T_zero]; omega, by omega⟩
theorem apart_l0 {a b : List Int} (ha : Dg a) (hb : Dg b) (s t : Int) (hl : a.length ≤ 17592186044000) : ∀ (d : Nat) (out : List Int) (c : Int) (i : Nat), d = a.length - i → i ≤ a.length → out.length = i → 0 ≤ c ∧ c ≤ 1 → T b i + c ≤ T a i →
    ∃ rest, Ev (fun k => rowlockref03_apart.l0 k out c (a.length : Int) (i : Int) s a t b) (1, out ++ rest) ∧ Dg rest ∧ val rest = T a i - T b i - c ∧ i + rest.length = a.length := by
  intro d
  induction d with
  | zero =>
    intro out c i hd hi ho hc hle
    have hia : i = a.length := by omega
    have e1 := T_end a i (by omega); have e2 := T_nonneg hb i
    refine ⟨[], ?_, fun _ h => (by cases h), by simp only [val]; omega, by simp; omega⟩
    rw [List.append_nil]
    refine Ev.step (f := fun _ => some (1, out)) (fun k => ?_) (Ev.now _)
    simp only [rowlockref03_apart.l0]
    rw [if_neg (by omega)]
  | succ d ih =>
    intro out c i hd hi ho hc hle
    have r1 := dg_range ha i; have r2 := dg_range hb i
    have t1 := T_step a i; have t2 := T_step b i
    obtain ⟨rest, he, hr, hv, hlen⟩ := ih (out ++ [(dg a i + 65536 - dg b i - c) % 65536]) (1 - (dg a i + 65536 - dg b i - c) / 65536) (i + 1) (by omega) (by omega) (by simp [ho]) (by omega) (by omega)
    refine ⟨(dg a i + 65536 - dg b i - c) % 65536 :: rest, ?_, fun x hx => ?_, by simp only [val]; omega, by simp; omega⟩
    · refine Ev.step (f := fun k => rowlockref03_apart.l0 k (out ++ [(dg a i + 65536 - dg b i - c) % 65536]) (1 - (dg a i + 65536 - dg b i - c) / 65536) (a.length : Int) ((i + 1 : Nat) : Int) s a t b) (fun k => ?_) (by simpa using he)
      simp only [rowlockref03_apart.l0]
      rw [if_pos (by omega), if_pos (by omega), if_pos (by omega), digit_is]
      simp only [Option.bind_some, u64w]
      have erd : rd a (i : Int) = dg a i := by unfold rd dg; rw [Int.toNat_natCast]
      rw [if_pos (by omega), erd, show (((dg a i + 65536) % 18446744073709551616 - dg b i) % 18446744073709551616 - c) % 18446744073709551616 = dg a i + 65536 - dg b i - c by omega, td _ (by omega), tm _ (by omega),
        show (1 - (dg a i + 65536 - dg b i - c) / 65536 % 18446744073709551616) % 18446744073709551616 = 1 - (dg a i + 65536 - dg b i - c) / 65536 by omega, show wrap64 ((i : Int) + 1) = ((i + 1 : Nat) : Int) by unfold wrap64; omega]
    · rcases List.mem_cons.1 hx with rfl | hx
      · omega
      · exact hr x hx
theorem apart_is {a b : List Int} (ha : Dg a) (hb : Dg b) (s t : Int) (hl : a.length ≤ 17592186044000) (h : val b ≤ val a) :
    ∃ r, Ev (fun k => rowlockref03_apart.f k s a t b) (1, r) ∧ Dg r ∧ val r = val a - val b ∧ r.length = a.length := by
  obtain ⟨rest, he, hr, hv, hlen⟩ := apart_l0 ha hb s t hl (a.length - 0) [] 0 0 rfl (by omega) rfl (by decide) (by rw [T_zero, T_zero]; omega)
  have he2 : Ev (fun k => rowlockref03_apart.l0 k [] 0 (a.length : Int) 0 s a t b) (1, rest) := by simpa using he
  exact ⟨rest, he2, hr, by rw [hv, T_zero, T_zero]; omega, by omega⟩
/-- (s, d) tells v, with at most n digits. -/
def Tells (s : Int) (d : List Int) (v : Int) (n : Nat) : Prop := (s = 1 ∧ val d = v ∨ s = -1 ∧ val d = -v) ∧ Dg d ∧ d.length ≤ n
theorem plus_tells {s t : Int} {a b : List Int} {x y : Int} {n : Nat} (hn : n ≤ 17592186043000) (h : Tells s a x n) (k : Tells t b y n) : ∃ u d, Ev (fun k => rowlockref03_Plus.f k s a t b) (u, d) ∧ Tells u d (x + y) (n + 1) := by
  obtain ⟨h1, ha, hl⟩ := h
  obtain ⟨k1, hb, hl2⟩ := k
  unfold rowlockref03_Plus.f
  by_cases e : s = t
  · obtain ⟨r, he, hr, hv, hlen⟩ := size_is ha hb s t n (by omega) hl hl2
    refine ⟨s, r, ?_, by omega, hr, hlen⟩
    refine Ev.congr (f := fun k => (rowlockref03_size.f k s a t b).bind fun z => some (s, z.2)) (fun k => by rw [if_pos e]) ?_
    exact Ev.bind he (Ev.now _)
  · by_cases hlt : val a < val b
    · obtain ⟨r, he, hr, hv, hlen⟩ := apart_is hb ha t s (by omega) (by omega)
      refine ⟨t, r, ?_, by omega, hr, by omega⟩
      refine Ev.congr (f := fun k => (rowlockref03_Less.f k s a t b).bind fun z => if z = true then ((rowlockref03_apart.f k t b s a).bind fun z => some (t, z.2)) else ((rowlockref03_apart.f k s a t b).bind fun z => some (s, z.2))) (fun k => by rw [if_neg e]) ?_
      refine Ev.bind (less_is ha hb s t (by omega) (by omega)) ?_
      simp only [hlt, decide_true, if_true]
      exact Ev.bind he (Ev.now _)
    · obtain ⟨r, he, hr, hv, hlen⟩ := apart_is ha hb s t (by omega) (by omega)
      refine ⟨s, r, ?_, by omega, hr, by omega⟩
      refine Ev.congr (f := fun k => (rowlockref03_Less.f k s a t b).bind fun z => if z = true then ((rowlockref03_apart.f k t b s a).bind fun z => some (t, z.2)) else ((rowlockref03_apart.f k s a t b).bind fun z => some (s, z.2))) (fun k => by rw [if_neg e]) ?_
      refine Ev.bind (less_is ha hb s t (by omega) (by omega)) ?_
      simp only [hlt, decide_false, Bool.false_eq_true, if_false]
      exact Ev.bind he (Ev.now _)
theorem whole_round (k : Nat) (x : Int) (out : List Int) (i : Int) (h0 : 0 ≤ x) (h1 : x < 18446744073709551616) (ho : out.length ≤ 4) (hi : 0 ≤ i ∧ i < 4) : rowlockref03_Whole.l0 (k + 1) x out i = rowlockref03_Whole.l0 k (x / 65536) (out ++ [x % 65536]) (i + 1) := by
  simp only [rowlockref03_Whole.l0]
  rw [if_pos hi.2, if_pos (by omega), u64w, td _ h0, tm _ h0, show x / 65536 % 18446744073709551616 = x / 65536 by omega, show wrap64 (i + 1) = i + 1 by unfold wrap64; omega]
theorem whole_tells (x : Int) (h0 : 0 ≤ x) (h1 : x < 18446744073709551616) : ∃ d, Ev (fun k => rowlockref03_Whole.f k x) (1, d) ∧ Tells 1 d x 4 := by
  refine ⟨[x % 65536, x / 65536 % 65536, x / 65536 / 65536 % 65536, x / 65536 / 65536 / 65536 % 65536], ⟨5, fun k hk => ?_⟩, .inl ⟨rfl, by simp only [val]; omega⟩, fun z hz => ?_, by simp⟩
  · obtain ⟨k, rfl⟩ : ∃ m, k = m + 5 := ⟨k - 5, by omega⟩
    show rowlockref03_Whole.l0 (k + 4 + 1) x [] 0 = _
    rw [whole_round (k + 4) x [] 0 h0 h1 (by simp) (by decide), whole_round (k + 3) (x / 65536) _ _ (by omega) (by omega) (by simp) (by decide), whole_round (k + 2) (x / 65536 / 65536) _ _ (by omega) (by omega) (by simp) (by decide), whole_round (k + 1) (x / 65536 / 65536 / 65536) _ _ (by omega) (by omega) (by simp) (by decide)]
    simp [rowlockref03_Whole.l0]
  · simp at hz; rcases hz with rfl | rfl | rfl | rfl <;> omega
theorem of_tells (x : Int) (h : I64 x) : ∃ s d, Ev (fun k => rowlockref03_Of.f k x) (s, d) ∧ Tells s d x 5 := by
  obtain ⟨h0, h1⟩ := h
  unfold rowlockref03_Of.f
  by_cases hx : x ≥ 0
  · obtain ⟨d, he, ht⟩ := whole_tells x hx (by omega)
    refine ⟨1, d, ?_, ht.1, ht.2.1, by have := ht.2.2; omega⟩
    refine Ev.congr (f := fun k => (rowlockref03_Whole.f k x).bind fun z => some (z.1, z.2)) (fun k => by rw [if_pos hx, u64w, show x % 18446744073709551616 = x by omega]) ?_
    exact Ev.bind he (Ev.now _)
  · obtain ⟨d, he, ht⟩ := whole_tells (-(x + 1)) (by omega) (by omega)
    obtain ⟨d1, he1, ht1⟩ := whole_tells 1 (by omega) (by omega)
    obtain ⟨r, her, hr, hv, hlen⟩ := size_is ht.2.1 ht1.2.1 1 1 4 (by omega) ht.2.2 ht1.2.2
    have v0 := ht.1; have v1 := ht1.1
    refine ⟨-1, r, ?_, .inr ⟨rfl, by omega⟩, hr, by omega⟩
    refine Ev.congr (f := fun k => (rowlockref03_Whole.f k (-(x + 1))).bind fun z => (rowlockref03_Whole.f k 1).bind fun z1 => (rowlockref03_size.f k z.1 z.2 z1.1 z1.2).bind fun z2 => some (-1, z2.2)) (fun k => by
      rw [if_neg hx, u64w, show wrap64 (-wrap64 (x + 1)) % 18446744073709551616 = -(x + 1) by unfold wrap64; omega]) ?_
    exact Ev.bind he (Ev.bind he1 (Ev.bind her (Ev.now _)))
theorem right_l0 {d : List Int} (hd : Dg d) (s : Int) (hl : d.length ≤ 140737488351232) (hv : val d ≤ 9223372036854775808) : ∀ m : Nat, m ≤ d.length →
    Ev (fun k => rowlockref03_Right.l0 k (-(T d m)) ((m : Int) - 1) s d) (if s > 0 then (wrap64 (val d), true) else (-(val d), true)) := by
  intro m
  induction m with
  | zero =>
    intro _
    refine Ev.step (f := fun _ => some (if s > 0 then (wrap64 (val d), true) else (-(val d), true))) (fun k => ?_) (Ev.now _)
    simp only [rowlockref03_Right.l0]
    rw [if_neg (by omega), T_zero, Int.neg_neg]
    split <;> rfl
  | succ m ih =>
    intro hm
    have e := T_step d m; have r := dg_range hd m; have t0 := T_nonneg hd (m + 1); have t1 := T_le hd m
    refine Ev.step (f := fun k => rowlockref03_Right.l0 k (-(T d m)) ((m : Int) - 1) s d) (fun k => ?_) (ih (by omega))
    simp only [rowlockref03_Right.l0]
    have erd : rd d (m : Int) = dg d m := by unfold rd dg; rw [Int.toNat_natCast]
    rw [if_pos (by omega), if_pos (by omega), if_pos (by omega), show ((m + 1 : Nat) : Int) - 1 = (m : Int) by omega, erd, show wrap64 ((m : Int) - 1) = (m : Int) - 1 by unfold wrap64; omega,
      show wrap64 (wrap64 (-T d (m + 1) * 65536) - wrap64 (dg d m)) = -(T d m) by unfold wrap64; omega]
def answer (n : Int) : Int × Bool := if -9223372036854775808 ≤ n ∧ n ≤ 9223372036854775807 then (n, true) else (0, false)
theorem right_tells {s : Int} {d : List Int} {v : Int} {n : Nat} (hn : n ≤ 140737488351232) (h : Tells s d v n) : Ev (fun k => rowlockref03_Right.f k s d) (answer v) := by
  obtain ⟨h1, hd, hl⟩ := h
  have htop : Dg [0, 0, 0, 32768] := by intro x hx; simp at hx; rcases hx with rfl | rfl <;> decide
  have hvt : val [0, 0, 0, 32768] = 9223372036854775808 := by decide
  have hv0 := val_nonneg hd
  unfold rowlockref03_Right.f
  simp only [Option.bind_some]
  have after : Ev (fun k => rowlockref03_Right.j0 k (decide (9223372036854775808 < val d)) s d) (if 9223372036854775808 < val d then (0, false) else if s > 0 then (wrap64 (val d), true) else (-(val d), true)) := by
    by_cases hb : 9223372036854775808 < val d
    · refine Ev.step (f := fun _ => some (0, false)) (fun k => ?_) (by rw [if_pos hb]; exact Ev.now _)
      simp only [rowlockref03_Right.j0, decide_eq_true hb, if_true]
    · have := right_l0 hd s (by omega) (by omega) d.length (Nat.le_refl _)
      rw [T_end _ _ (Nat.le_refl _)] at this
      refine Ev.step (f := fun k => rowlockref03_Right.l0 k (-0) ((d.length : Int) - 1) s d) (fun k => ?_) (by rw [if_neg hb]; exact this)
      simp only [rowlockref03_Right.j0, decide_eq_false hb, Bool.false_eq_true, if_false]
      rw [show wrap64 ((d.length : Int) - 1) = (d.length : Int) - 1 by unfold wrap64; omega]; rfl
  have lt2 := less_is htop hd 1 s (by simp) (by omega)
  rw [hvt] at lt2
  by_cases hs : s > 0
  · have lt1 := less_is hd htop s 1 (by omega) (by simp)
    rw [hvt] at lt1
    refine Ev.congr (f := fun k => (rowlockref03_Less.f k s d 1 [0, 0, 0, 32768]).bind fun t => if t = true then ((rowlockref03_Less.f k 1 [0, 0, 0, 32768] s d).bind fun t => rowlockref03_Right.j0 k t s d) else rowlockref03_Right.j0 k true s d) (fun k => by rw [if_pos hs]) ?_
    refine Ev.bind lt1 ?_
    by_cases hb : val d < 9223372036854775808
    · simp only [hb, decide_true, if_true]
      have := Ev.bind (f := fun k t => rowlockref03_Right.j0 k t s d) lt2 after
      rw [if_neg (by omega), if_pos hs] at this
      unfold answer
      rw [if_pos (by omega)]
      rw [show wrap64 (val d) = v by unfold wrap64; omega] at this
      exact this
    · simp only [hb, decide_false, Bool.false_eq_true, if_false]
      refine Ev.step (f := fun _ => some (answer v)) (fun k => ?_) (Ev.now _)
      unfold answer
      rw [if_neg (by omega)]
      simp [rowlockref03_Right.j0]
  · refine Ev.congr (f := fun k => (rowlockref03_Less.f k 1 [0, 0, 0, 32768] s d).bind fun t => rowlockref03_Right.j0 k t s d) (fun k => by rw [if_neg hs]) ?_
    have := Ev.bind (f := fun k t => rowlockref03_Right.j0 k t s d) lt2 after
    unfold answer
    by_cases hb : 9223372036854775808 < val d
    · rw [if_neg (by omega)]
      rw [if_pos hb] at this; exact this
    · rw [if_pos (by omega)]
      rw [if_neg hb, if_neg hs, show -(val d) = v by omega] at this; exact this

def P : Nat → Int
  | 0 => 1
  | i + 1 => P i * 65536
theorem val_append (x y : List Int) : val (x ++ y) = val x + P x.length * val y := by
  induction x with
  | nil => simp [val, P]
  | cons d x ih => simp only [List.cons_append, val, ih, List.length_cons, P]; grind
theorem val_zeros (i : Nat) : val (List.replicate i 0) = 0 := by
  induction i with
  | zero => rfl
  | succ i ih => simp only [List.replicate_succ, val, ih]; rfl
theorem dg_zeros (i : Nat) : Dg (List.replicate i 0) := fun d hd => by rw [(List.mem_replicate.1 hd).2]; decide
theorem dg_append {x y : List Int} (hx : Dg x) (hy : Dg y) : Dg (x ++ y) := fun d hd => by
  rcases List.mem_append.1 hd with h | h
  · exact hx d h
  · exact hy d h
theorem times_l1 {a b out : List Int} (s t u : Int) (n : Int) (i : Nat) (hi : i ≤ 1000) (r : Int × List Int) : ∀ (d j : Nat), i = j + d →
    Ev (fun k => rowlockref03_Times.l2 k (i : Int) (List.replicate i 0) 0 n (i : Int) (a.length : Int) 0 s a t b u out) r →
    Ev (fun k => rowlockref03_Times.l1 k (i : Int) (List.replicate j 0) (j : Int) n (i : Int) s a t b u out) r := by
  intro d
  induction d with
  | zero =>
    intro j hj h
    obtain rfl : i = j := by omega
    refine Ev.step (f := fun k => rowlockref03_Times.l2 k (i : Int) (List.replicate i 0) 0 n (i : Int) (a.length : Int) 0 s a t b u out) (fun k => ?_) h
    simp only [rowlockref03_Times.l1]
    rw [if_neg (by omega)]
  | succ d ih =>
    intro j hj h
    refine Ev.step (f := fun k => rowlockref03_Times.l1 k (i : Int) (List.replicate (j + 1) 0) ((j + 1 : Nat) : Int) n (i : Int) s a t b u out) (fun k => ?_) (ih (j + 1) (by omega) h)
    simp only [rowlockref03_Times.l1]
    rw [if_pos (by omega), if_pos (by rw [List.length_replicate]; omega), show wrap64 ((j : Int) + 1) = ((j + 1 : Nat) : Int) by unfold wrap64; omega, List.replicate_succ']
theorem times_l2 {a b out : List Int} (ha : Dg a) (hb : Dg b) (s t u : Int) (n : Int) (i : Nat) (hi : i < b.length) (hl : a.length ≤ 1000) (hi2 : i ≤ 1000) : ∀ (d k0 : Nat) (row : List Int) (c : Int), a.length = k0 + d → row.length = i + k0 → 0 ≤ c ∧ c ≤ 65535 →
    ∃ rest, Dg rest ∧ rest.length = d + 1 ∧ val rest = dg b i * T a k0 + c ∧ ∀ r, Ev (fun k => (rowlockref03_size.f k u out 1 (row ++ rest)).bind fun z => rowlockref03_Times.l0 k n ((i + 1 : Nat) : Int) s a t b z.1 z.2) r →
      Ev (fun k => rowlockref03_Times.l2 k (i : Int) row c n (i : Int) (a.length : Int) (k0 : Int) s a t b u out) r := by
  intro d
  have rb := dg_range hb i
  induction d with
  | zero =>
    intro k0 row c hk hr hc
    refine ⟨[c], fun x hx => by simp at hx; subst hx; omega, rfl, by rw [T_end _ _ (by omega)]; simp [val], fun r h => ?_⟩
    refine Ev.step (f := fun k => (rowlockref03_size.f k u out 1 (row ++ [c])).bind fun z => rowlockref03_Times.l0 k n ((i + 1 : Nat) : Int) s a t b z.1 z.2) (fun k => ?_) h
    simp only [rowlockref03_Times.l2]
    rw [if_neg (by omega), if_pos (by omega), show wrap64 ((i : Int) + 1) = ((i + 1 : Nat) : Int) by unfold wrap64; omega]
  | succ d ih =>
    intro k0 row c hk hr hc
    have ra := dg_range ha k0
    have pr : 0 ≤ dg a k0 * dg b i ∧ dg a k0 * dg b i ≤ 4294836225 := ⟨Int.mul_nonneg ra.1 rb.1, Int.le_trans (Int.mul_le_mul (by omega : dg a k0 ≤ 65535) (by omega : dg b i ≤ 65535) rb.1 (by decide)) (by decide)⟩
    have ts := T_step a k0
    have erd : rd a (k0 : Int) = dg a k0 := by unfold rd dg; rw [Int.toNat_natCast]
    have erd2 : rd b (i : Int) = dg b i := by unfold rd dg; rw [Int.toNat_natCast]
    have em : dg b i * T a k0 = dg a k0 * dg b i + 65536 * (dg b i * T a (k0 + 1)) := by rw [ts]; grind
    obtain ⟨rest, h1, h2, h3, h4⟩ := ih (k0 + 1) (row ++ [(dg a k0 * dg b i + c) % 65536]) ((dg a k0 * dg b i + c) / 65536) (by omega) (by simp; omega) (by omega)
    refine ⟨(dg a k0 * dg b i + c) % 65536 :: rest, fun x hx => ?_, by simp [h2], by simp only [val]; omega, fun r h => ?_⟩
    · rcases List.mem_cons.1 hx with rfl | hx
      · omega
      · exact h1 x hx
    · refine Ev.step (f := fun k => rowlockref03_Times.l2 k (i : Int) (row ++ [(dg a k0 * dg b i + c) % 65536]) ((dg a k0 * dg b i + c) / 65536) n (i : Int) (a.length : Int) ((k0 + 1 : Nat) : Int) s a t b u out) (fun k => ?_) (h4 r (by simpa using h))
      simp only [rowlockref03_Times.l2]
      rw [if_pos (by omega), if_pos (by omega), if_pos (by omega), if_pos (by omega), if_pos (by omega), if_pos (by omega), erd, erd2, u64w, u64w, u64w,
        show (dg a k0 * dg b i % 18446744073709551616 + c) % 18446744073709551616 = dg a k0 * dg b i + c by omega, td _ (by omega), tm _ (by omega), show (dg a k0 * dg b i + c) / 65536 % 18446744073709551616 = (dg a k0 * dg b i + c) / 65536 by omega,
        show wrap64 ((k0 : Int) + 1) = ((k0 + 1 : Nat) : Int) by unfold wrap64; omega]
theorem times_l0 {a b : List Int} (ha : Dg a) (hb : Dg b) (s t : Int) (hl : a.length ≤ 100) (hl2 : b.length ≤ 100) : ∀ (d i : Nat) (u : Int) (out : List Int), b.length = i + d → Dg out → out.length ≤ 400 + i →
    ∃ res, Ev (fun k => rowlockref03_Times.l0 k (b.length : Int) (i : Int) s a t b u out) (wrap64 (s * t), res) ∧ Dg res ∧ val res = val out + P i * (val a * T b i) ∧ res.length ≤ 400 + b.length := by
  intro d
  induction d with
  | zero =>
    intro i u out hd ho hlen
    refine ⟨out, Ev.step (f := fun _ => some (wrap64 (s * t), out)) (fun k => ?_) (Ev.now _), ho, by rw [T_end _ _ (by omega)]; simp, by omega⟩
    simp only [rowlockref03_Times.l0]
    rw [if_neg (by omega)]
  | succ d ih =>
    intro i u out hd ho hlen
    obtain ⟨rest, h1, h2, h3, h4⟩ := times_l2 (out := out) ha hb s t u (b.length : Int) i (by omega) (by omega) (by omega) a.length 0 (List.replicate i 0) 0 (by omega) (by simp) (by decide)
    obtain ⟨z, hz, hdz, hvz, hlz⟩ := size_is ho (dg_append (dg_zeros i) h1) u 1 (400 + i) (by omega) hlen (by simp; omega)
    obtain ⟨res, hr, hdr, hvr, hlr⟩ := ih (i + 1) 1 z (by omega) hdz (by omega)
    refine ⟨res, ?_, hdr, ?_, hlr⟩
    · refine Ev.step (f := fun k => rowlockref03_Times.l1 k (i : Int) [] 0 (b.length : Int) (i : Int) s a t b u out) (fun k => ?_) ?_
      · simp only [rowlockref03_Times.l0]
        rw [if_pos (by omega)]
      · exact times_l1 s t u (b.length : Int) i (by omega) _ i 0 (by omega) (h4 _ (Ev.bind hz hr))
    · rw [hvr, hvz, val_append, val_zeros, List.length_replicate, h3, T_zero]
      have := T_step b i
      rw [this]
      simp only [P]
      grind
theorem times_tells {s t : Int} {a b : List Int} {x y : Int} {n : Nat} (hn : n ≤ 100) (h : Tells s a x n) (k : Tells t b y n) : ∃ u d, Ev (fun k => rowlockref03_Times.f k s a t b) (u, d) ∧ Tells u d (x * y) 500 := by
  obtain ⟨h1, ha, hl⟩ := h
  obtain ⟨k1, hb, hl2⟩ := k
  obtain ⟨z, hz, htz⟩ := whole_tells 0 (by decide) (by decide)
  have hv0 : val z = 0 := by have := htz.1; omega
  obtain ⟨res, hr, hdr, hvr, hlr⟩ := times_l0 ha hb s t (by omega) (by omega) b.length 0 1 z (by omega) htz.2.1 (by have := htz.2.2; omega)
  refine ⟨wrap64 (s * t), res, ?_, ?_, hdr, by omega⟩
  · exact Ev.bind (f := fun k (z : Int × List Int) => rowlockref03_Times.l0 k (b.length : Int) 0 s a t b z.1 z.2) hz hr
  · rw [hv0, T_zero] at hvr
    have e : val res = val a * val b := by rw [hvr]; simp [P]
    rcases h1 with ⟨rfl, rfl⟩ | ⟨rfl, hx⟩ <;> rcases k1 with ⟨rfl, rfl⟩ | ⟨rfl, hy⟩
    · exact .inl ⟨by unfold wrap64; omega, e⟩
    · exact .inr ⟨by unfold wrap64; omega, by rw [e, hy]; grind⟩
    · exact .inr ⟨by unfold wrap64; omega, by rw [e, hx]; grind⟩
    · exact .inl ⟨by unfold wrap64; omega, by rw [e, hx, hy]; grind⟩
theorem turn_tells {s : Int} {d : List Int} {v : Int} {n : Nat} (h : Tells s d v n) : Tells (wrap64 (-s)) d (-v) n := by
  obtain ⟨h1, h2, h3⟩ := h
  refine ⟨?_, h2, h3⟩
  rcases h1 with ⟨rfl, h⟩ | ⟨rfl, h⟩
  · exact .inr ⟨by unfold wrap64; omega, by omega⟩
  · exact .inl ⟨by unfold wrap64; omega, by omega⟩

theorem fixed_is : Ev (fun k => rowlocklaw03_fixed.f k) true := Ev.of (rowlocklaw03_fixed.mono) (k := 10) (by decide +kernel)

-- SAID What an operation makes of any two values is the document's: the pure statement of CalcDo.
def none_ (b : Bool) : Int × Int × ByteArray × Bool := (0, 0, (⟨#[]⟩ : ByteArray), b)
def told (p q v : Int) : Int × Int × ByteArray × Bool := if p = 0 ∨ q = 0 then none_ true else if (right v).2 = true then (1, (right v).1, (⟨#[]⟩ : ByteArray), true) else none_ false
def doOf (op : ByteArray) (p x q y : Int) : Int × Int × ByteArray × Bool :=
  if p > 1 ∨ q > 1 then none_ false else if op.toList = [43] then told p q (x + y) else if op.toList = [45] then told p q (x - y) else if op.toList = [42] then told p q (x * y) else none_ false
theorem do_j1 (op s t : ByteArray) (p x q y : Int) (hx : I64 x) (hy : I64 y) (v : Int) (hv : op.toList = [43] ∧ v = x + y ∨ op.toList = [45] ∧ v = x - y ∨ op.toList = [42] ∧ v = x * y) (b : Bool) (hb : b = true ↔ p = 0 ∨ q = 0) :
    Ev (fun k => calc_Do.j1 k op b p x s q y t) (told p q v) := by
  refine Ev.step (f := fun _ => some (told p q v)) (fun k => ?_) (Ev.now _)
  simp only [calc_Do.j1]
  by_cases h : p = 0 ∨ q = 0
  · rw [if_pos (hb.2 h)]; unfold told; rw [if_pos h]; rfl
  · rw [if_neg (fun e => h (hb.1 e))]
    unfold told
    rw [if_neg h]
    rcases hv with ⟨e, rfl⟩ | ⟨e, rfl⟩ | ⟨e, rfl⟩
    · rw [if_pos e, add_is x y hx hy, obs]; split <;> rfl
    · rw [if_neg (by rw [e]; decide), if_pos e, sub_is x y hx hy, obs]; split <;> rfl
    · rw [if_neg (by rw [e]; decide), if_neg (by rw [e]; decide), if_pos e, mul_is x y hx hy, obs]; split <;> rfl
theorem do_is (op s t : ByteArray) (p x q y : Int) (hx : I64 x) (hy : I64 y) : Ev (fun k => calc_Do.f k op p x s q y t) (doOf op p x q y) := by
  unfold calc_Do.f doOf
  have bad : Ev (fun k => calc_Do.j0 k op true p x s q y t) (none_ false) := Ev.step (f := fun _ => some (none_ false)) (fun k => by simp only [calc_Do.j0, if_true]; rfl) (Ev.now _)
  by_cases h1 : p > 1
  · rw [if_pos (Or.inl h1)]; exact Ev.congr (fun k => by rw [if_pos h1]) bad
  · by_cases h2 : q > 1
    · rw [if_pos (Or.inr h2)]; exact Ev.congr (fun k => by rw [if_neg h1, if_pos h2]) bad
    · rw [if_neg (by omega)]
      have good : ∀ v : Int, (op.toList = [43] ∧ v = x + y ∨ op.toList = [45] ∧ v = x - y ∨ op.toList = [42] ∧ v = x * y) → Ev (fun k => calc_Do.j0 k op false p x s q y t) (told p q v) := by
        intro v hv
        by_cases hp : p = 0
        · refine Ev.step (f := fun k => calc_Do.j1 k op true p x s q y t) (fun k => ?_) (do_j1 op s t p x q y hx hy v hv true (by simp [hp]))
          simp only [calc_Do.j0, Bool.false_eq_true, if_false]; rw [if_pos hp]
        · refine Ev.step (f := fun k => calc_Do.j1 k op (q == 0) p x s q y t) (fun k => ?_) (do_j1 op s t p x q y hx hy v hv (q == 0) (by simp [hp]))
          simp only [calc_Do.j0, Bool.false_eq_true, if_false]; rw [if_neg hp]
      by_cases e1 : op.toList = [43]
      · rw [if_pos e1]; exact Ev.congr (fun k => by rw [if_neg h1, if_neg h2, if_pos e1]) (good _ (.inl ⟨e1, rfl⟩))
      · by_cases e2 : op.toList = [45]
        · rw [if_neg e1, if_pos e2]; exact Ev.congr (fun k => by rw [if_neg h1, if_neg h2, if_neg e1, if_pos e2]) (good _ (.inr (.inl ⟨e2, rfl⟩)))
        · rw [if_neg e1, if_neg e2]
          by_cases e3 : op.toList = [42]
          · rw [if_pos e3]; exact Ev.congr (fun k => by rw [if_neg h1, if_neg h2, if_neg e1, if_neg e2, e3]; rfl) (good _ (.inr (.inr ⟨e3, rfl⟩)))
          · rw [if_neg e3]; exact Ev.congr (fun k => by rw [if_neg h1, if_neg h2, if_neg e1, if_neg e2, bne_iff_ne.2 e3]) bad
theorem ref_j1 (s t : ByteArray) (p x q y u : Int) (d : List Int) (v : Int) (n : Nat) (hn : n ≤ 1000) (h : Tells u d v n) : Ev (fun k => rowlockref03_Do.j1 k p x s q y t 0 0 (⟨#[]⟩ : ByteArray) u d) (told p q v) := by
  have fin : ∀ b : Bool, (b = true ↔ p = 0 ∨ q = 0) → Ev (fun k => rowlockref03_Do.j2 k b 0 0 (⟨#[]⟩ : ByteArray) u d) (told p q v) := by
    intro b hb
    unfold told
    by_cases h0 : p = 0 ∨ q = 0
    · rw [if_pos h0, hb.2 h0]; exact Ev.step (f := fun _ => some (none_ true)) (fun k => by simp only [rowlockref03_Do.j2, if_true]; rfl) (Ev.now _)
    · rw [if_neg h0]
      have hf : ¬ b = true := fun e => h0 (hb.1 e)
      refine Ev.step (f := fun k => (rowlockref03_Right.f k u d).bind fun z => if z.2 = true then some (1, z.1, (⟨#[]⟩ : ByteArray), true) else some (none_ false)) (fun k => by simp only [rowlockref03_Do.j2]; rw [if_neg hf]; rfl) ?_
      refine Ev.bind (right_tells (by omega) h) ?_
      have e : answer v = right v := rfl
      rw [e]
      refine Ev.congr (f := fun _ => some (if (right v).2 = true then (1, (right v).1, (⟨#[]⟩ : ByteArray), true) else none_ false)) (fun k => ?_) (Ev.now _)
      split <;> rfl
  by_cases hp : p = 0
  · exact Ev.step (fun k => by simp only [rowlockref03_Do.j1]; rw [if_pos hp]) (fin true (by simp [hp]))
  · exact Ev.step (fun k => by simp only [rowlockref03_Do.j1]; rw [if_neg hp]) (fin (q == 0) (by simp [hp]))
theorem ref_is (op s t : ByteArray) (p x q y : Int) (hx : I64 x) (hy : I64 y) : Ev (fun k => rowlockref03_Do.f k op p x s q y t) (doOf op p x q y) := by
  unfold rowlockref03_Do.f doOf
  have bad : Ev (fun k => rowlockref03_Do.j0 k op true p x s q y t 0 0 (⟨#[]⟩ : ByteArray)) (none_ false) := Ev.step (f := fun _ => some (none_ false)) (fun k => by simp only [rowlockref03_Do.j0, if_true]; rfl) (Ev.now _)
  by_cases h1 : p > 1
  · rw [if_pos (Or.inl h1)]; exact Ev.congr (fun k => by rw [if_pos h1]) bad
  · by_cases h2 : q > 1
    · rw [if_pos (Or.inr h2)]; exact Ev.congr (fun k => by rw [if_neg h1, decide_eq_true h2]) bad
    · rw [if_neg (by omega)]
      refine Ev.congr (f := fun k => rowlockref03_Do.j0 k op false p x s q y t 0 0 (⟨#[]⟩ : ByteArray)) (fun k => by rw [if_neg h1, decide_eq_false h2]) ?_
      obtain ⟨u, d, hA, tA⟩ := of_tells x hx
      obtain ⟨v, e, hB, tB⟩ := of_tells y hy
      refine Ev.step (f := fun k => (rowlockref03_Of.f k x).bind fun a => (rowlockref03_Of.f k y).bind fun b => if op.toList = ([43] : List UInt8) then ((rowlockref03_Plus.f k a.1 a.2 b.1 b.2).bind fun z => rowlockref03_Do.j1 k p x s q y t 0 0 (⟨#[]⟩ : ByteArray) z.1 z.2) else (if op.toList = ([45] : List UInt8) then ((rowlockref03_Turn.f b.1 b.2).bind fun z => (rowlockref03_Plus.f k a.1 a.2 z.1 z.2).bind fun z => rowlockref03_Do.j1 k p x s q y t 0 0 (⟨#[]⟩ : ByteArray) z.1 z.2)
        else (if op.toList = ([42] : List UInt8) then ((rowlockref03_Times.f k a.1 a.2 b.1 b.2).bind fun z => rowlockref03_Do.j1 k p x s q y t 0 0 (⟨#[]⟩ : ByteArray) z.1 z.2) else some (none_ false)))) (fun k => by simp only [rowlockref03_Do.j0, Bool.false_eq_true, if_false]; rfl) ?_
      refine Ev.bind hA (Ev.bind hB ?_)
      by_cases e1 : op.toList = [43]
      · simp only [if_pos e1]
        obtain ⟨u1, d1, hP, tP⟩ := plus_tells (by decide) tA tB
        exact Ev.bind hP (ref_j1 s t p x q y u1 d1 (x + y) _ (by decide) tP)
      · simp only [if_neg e1]
        by_cases e2 : op.toList = [45]
        · simp only [if_pos e2]
          obtain ⟨u1, d1, hP, tP⟩ := plus_tells (by decide) tA (turn_tells tB)
          rw [show x + -y = x - y by omega] at tP
          exact Ev.bind (ev_const (show rowlockref03_Turn.f v e = some (wrap64 (-v), e) from rfl)) (Ev.bind hP (ref_j1 s t p x q y u1 d1 (x - y) _ (by decide) tP))
        · simp only [if_neg e2]
          by_cases e3 : op.toList = [42]
          · simp only [if_pos e3]
            obtain ⟨u1, d1, hP, tP⟩ := times_tells (by decide) tA tB
            exact Ev.bind hP (ref_j1 s t p x q y u1 d1 (x * y) _ (by decide) tP)
          · simp only [if_neg e3]; exact Ev.now _
theorem CalcDo : rowlocklaw03_CalcDo.Pure := by
  intro op p x s q y t _ ha hb
  have hx := i64_of ha.2.1; have hy := i64_of hb.2.1
  refine Ev.rounds (r := true) ?_
  unfold rowlocklaw03_CalcDo.f
  refine Ev.bind (do_is op s t p x q y hx hy) (Ev.bind (ref_is op s t p x q y hx hy) (Ev.bind fixed_is (ev_if ?_)))
  refine Ev.congr (f := fun _ => some true) (fun k => ?_) (Ev.now _)
  simp

end Go.Proofs.Ytneihjdkaogkiaa.Pure
