/- A product, divided: its product is at most that, and with one more it is above it; or it is beyond: the pure statement of CalcTimes. -/
import Derived.Test.YtneihjdkaogkiaaPCalcTimesx6
namespace Go.Proofs.Ytneihjdkaogkiaa.Pure
open Go.RowKit Go.Proofs.Ytneihjdkaogkiaa.PCalcTimes Go.Proofs.YtneihjdkaogkiaaW.PrintWords Go.Proofs.YtneihjdkaogkiaaW.PrintLast
set_option linter.unusedVariables false
set_option linter.unusedSimpArgs false

-- numbers of 128 bits: what calc's functions answer
theorem eta2 {α β : Type} (p : α × β) : (p.1, p.2) = p := rfl
/-- Not by sight ('rfl'): a rewriting that the kernel follows step by step. -/
theorem obs {α β : Type} (a : α) (f : α → Option β) : (some a).bind f = f a := congrArg (fun g : α → Option β => g a) (Eq.refl f)
theorem bind_is {α β : Type} {x : Option α} {f : α → Option β} {a : α} {r : Option β} (h : x = some a) (k : f a = r) : x.bind f = r := by rw [h]; exact k
theorem ev_const {α : Type} {x : Option α} {r : α} (h : x = some r) : Ev (fun _ => x) r := ⟨0, fun _ _ => h⟩
theorem ev_if {α : Type} {f g : Nat → Option α} {r : α} (h : Ev f r) : Ev (fun k => if true = true then f k else g k) r := h
theorem u64w (n : Int) : IntKind.u64.wrap n = n % 18446744073709551616 := by simp [IntKind.wrap, IntKind.bits, IntKind.signed]
def hi (n : Int) : Int := (n / 18446744073709551616) % 18446744073709551616
def lo (n : Int) : Int := n % 18446744073709551616
def I64 (n : Int) : Prop := -9223372036854775808 ≤ n ∧ n ≤ 9223372036854775807
theorem i64_of {n : Int} (h : (Lit.int .i64 n).wf = true) : I64 n := by
  unfold I64; simpa [Lit.wf, IntKind.min, IntKind.max, IntKind.signed, IntKind.bits] using h
theorem of_is (n : Int) (h : I64 n) : calc_of.f n = some (hi n, lo n) := by
  obtain ⟨h0, h1⟩ := h
  unfold calc_of.f hi lo
  rw [u64w, u64w, show n / 9223372036854775808 = n / 18446744073709551616 by omega]
theorem plus_is (a b : Int) : calc_wide_plus.f (hi a) (lo a) (hi b) (lo b) = some (hi (a + b), lo (a + b)) := by
  unfold calc_wide_plus.f hi lo
  rw [if_pos (by omega)]
  congr 2 <;> omega
def right (n : Int) : Int × Bool := if -9223372036854775808 ≤ n ∧ n ≤ 9223372036854775807 then (n, true) else (0, false)
theorem right_is (n : Int) (h0 : -170141183460469231731687303715884105728 ≤ n) (h1 : n < 170141183460469231731687303715884105728) : calc_wide_right.f (hi n) (lo n) = some (right n) := by
  unfold calc_wide_right.f
  have hw : I64 (wrap64 (lo n)) := by unfold I64 wrap64; omega
  rw [of_is _ hw]
  simp only [Option.bind_some]
  unfold right
  by_cases h : -9223372036854775808 ≤ n ∧ n ≤ 9223372036854775807
  · have e : wrap64 (lo n) = n := by unfold wrap64 lo; omega
    rw [e, if_pos h]
    simp
  · rw [if_neg h]
    have hne : ¬ (hi (wrap64 (lo n)) = hi n ∧ lo (wrap64 (lo n)) = lo n) := by
      unfold wrap64 hi lo
      omega
    rw [if_pos]
    by_cases e : hi (wrap64 (lo n)) = hi n
    · have e2 : ¬ lo (wrap64 (lo n)) = lo n := fun e2 => hne ⟨e, e2⟩
      simp [e2]
    · simp [e]

theorem wraps_u64 (n : Int) (h₀ : 0 ≤ n) (h₁ : n < 2 ^ 64) : IntKind.u64.wrap n = n := by rw [u64w]; omega
theorem and32 (x : Int) (h0 : 0 ≤ x) (h1 : x < 18446744073709551616) : Go.bits .and .u64 x 4294967295 = x % 4294967296 := by
  have := bits_mask .u64 64 (by decide) wraps_u64 32 (by decide) x h0 (by omega)
  simpa using this
theorem mul64_is (a b : Int) (ha0 : 0 ≤ a) (ha : a < 18446744073709551616) (hb0 : 0 ≤ b) (hb : b < 18446744073709551616) :
    bits_Mul64.f a b = some (a * b / 18446744073709551616, a * b % 18446744073709551616) := by
  unfold bits_Mul64.f
  obtain ⟨a1, a0, ea, h1, h2, h3, h4⟩ : ∃ a1 a0, a = a1 * 4294967296 + a0 ∧ 0 ≤ a0 ∧ a0 ≤ 4294967295 ∧ 0 ≤ a1 ∧ a1 ≤ 4294967295 := ⟨a / 4294967296, a % 4294967296, by omega, by omega, by omega, by omega, by omega⟩
  obtain ⟨b1, b0, eb, h5, h6, h7, h8⟩ : ∃ b1 b0, b = b1 * 4294967296 + b0 ∧ 0 ≤ b0 ∧ b0 ≤ 4294967295 ∧ 0 ≤ b1 ∧ b1 ≤ 4294967295 := ⟨b / 4294967296, b % 4294967296, by omega, by omega, by omega, by omega, by omega⟩
  have ea1 : a / 4294967296 = a1 := by omega
  have eb1 : b / 4294967296 = b1 := by omega
  have ea0 : a % 4294967296 = a0 := by omega
  have eb0 : b % 4294967296 = b0 := by omega
  rw [and32 a ha0 ha, and32 b hb0 hb, ea1, eb1, ea0, eb0]
  have ep : a * b = a1 * b1 * 18446744073709551616 + (a1 * b0 + a0 * b1) * 4294967296 + a0 * b0 := by rw [ea, eb]; grind
  have bd : ∀ x y : Int, 0 ≤ x → x ≤ 4294967295 → 0 ≤ y → y ≤ 4294967295 → 0 ≤ x * y ∧ x * y ≤ 18446744065119617025 := fun x y hx0 hx hy0 hy =>
    ⟨Int.mul_nonneg hx0 hy0, Int.le_trans (Int.mul_le_mul hx hy hy0 (by decide)) (by decide)⟩
  have p11 := bd a1 b1 h3 h4 h7 h8; have p10 := bd a1 b0 h3 h4 h5 h6; have p01 := bd a0 b1 h1 h2 h7 h8; have p00 := bd a0 b0 h1 h2 h5 h6
  rw [ep]
  generalize a1 * b1 = x11 at *; generalize a1 * b0 = x10 at *; generalize a0 * b1 = x01 at *; generalize a0 * b0 = x00 at *
  clear ep ea eb ea1 eb1 ea0 eb0
  simp only [u64w]
  rw [show x00 % 18446744073709551616 = x00 by omega, show x10 % 18446744073709551616 = x10 by omega, show x01 % 18446744073709551616 = x01 by omega, show x11 % 18446744073709551616 = x11 by omega,
    show (x10 + x00 / 4294967296) % 18446744073709551616 = x10 + x00 / 4294967296 by omega, and32 (x10 + x00 / 4294967296) (by omega) (by omega)]
  congr 2 <;> omega

-- numbers by digits of 2^16: what the document's functions answer
def val : List Int → Int
  | [] => 0
  | d :: r => d + 65536 * val r
def Dg (l : List Int) : Prop := ∀ d ∈ l, 0 ≤ d ∧ d < 65536
def dg (l : List Int) (i : Nat) : Int := l.getD i 0
def T (l : List Int) (i : Nat) : Int := val (l.drop i)
theorem dg_range {l : List Int} (h : Dg l) (i : Nat) : 0 ≤ dg l i ∧ dg l i < 65536 := by
  unfold dg
  rw [List.getD_eq_getElem?_getD]
  by_cases hi : i < l.length
  · rw [List.getElem?_eq_getElem hi]; exact h _ (List.getElem_mem hi)
  · rw [List.getElem?_eq_none (by omega)]; decide
theorem T_step (l : List Int) (i : Nat) : T l i = dg l i + 65536 * T l (i + 1) := by
  unfold T dg
  by_cases hi : i < l.length
  · rw [List.drop_eq_getElem_cons hi, val, List.getD_eq_getElem?_getD, List.getElem?_eq_getElem hi]; rfl
  · rw [List.drop_eq_nil_of_le (by omega), List.drop_eq_nil_of_le (by omega), List.getD_eq_getElem?_getD, List.getElem?_eq_none (by omega)]; rfl
theorem T_end (l : List Int) (i : Nat) (h : l.length ≤ i) : T l i = 0 := by unfold T; rw [List.drop_eq_nil_of_le h]; rfl
theorem T_zero (l : List Int) : T l 0 = val l := rfl
theorem val_nonneg {l : List Int} (h : Dg l) : 0 ≤ val l := by
  induction l with
  | nil => simp [val]
  | cons d r ih =>
    have h1 := h d (by simp)
    have h2 := ih (fun x hx => h x (by simp [hx]))
    simp only [val]; omega
theorem T_nonneg {l : List Int} (h : Dg l) (i : Nat) : 0 ≤ T l i := val_nonneg (fun d hd => h d (List.mem_of_mem_drop hd))
theorem T_le {l : List Int} (h : Dg l) (i : Nat) : T l i ≤ val l := by
  induction i with
  | zero => exact Int.le_refl _
  | succ i ih => have := T_step l i; have := dg_range h i; have := T_nonneg h (i + 1); omega
theorem lt_down {a b : List Int} (ha : Dg a) (hb : Dg b) (m : Nat) (h : T a m < T b m) : val a < val b := by
  induction m with
  | zero => exact h
  | succ m ih =>
    apply ih
    have := T_step a m; have := T_step b m; have := dg_range ha m; have := dg_range hb m
    omega
theorem digit_is (l : List Int) (i : Nat) : rowlockref03_digit.f l (i : Int) = some (dg l i) := by
  unfold rowlockref03_digit.f dg
  by_cases h : (i : Int) < (l.length : Int)
  · rw [if_pos h, if_pos (by omega)]; unfold rd; rw [Int.toNat_natCast]
  · rw [if_neg h, List.getD_eq_getElem?_getD, List.getElem?_eq_none (by omega)]; rfl
theorem less_l0 {a b : List Int} (ha : Dg a) (hb : Dg b) (s t : Int) (hl : a.length ≤ 140737488351232) (hl2 : b.length ≤ 140737488351232) : ∀ m : Nat, m ≤ 140737488351232 → T a m = T b m →
    Ev (fun k => rowlockref03_Less.l0 k ((m : Int) - 1) s a t b) (decide (val a < val b)) := by
  intro m
  induction m with
  | zero =>
    intro _ h
    refine Ev.step (f := fun _ => some (decide (val a < val b))) (fun k => ?_) (Ev.now _)
    simp only [rowlockref03_Less.l0]
    rw [if_neg (by omega)]
    have : ¬ val a < val b := by have h' : val a = val b := h; omega
    simp [this]
  | succ m ih =>
    intro hm h
    have e1 := T_step a m; have e2 := T_step b m
    have r1 := dg_range ha m; have r2 := dg_range hb m
    by_cases hd : dg a m = dg b m
    · refine Ev.step (f := fun k => rowlockref03_Less.l0 k ((m : Int) - 1) s a t b) (fun k => ?_) (ih (by omega) (by omega))
      simp only [rowlockref03_Less.l0]
      rw [if_pos (by omega), show ((m + 1 : Nat) : Int) - 1 = (m : Int) by omega, digit_is, digit_is]
      simp only [Option.bind_some]
      rw [if_pos hd, show wrap64 ((m : Int) - 1) = (m : Int) - 1 by unfold wrap64; omega]
    · refine Ev.step (f := fun _ => some (decide (val a < val b))) (fun k => ?_) (Ev.now _)
      simp only [rowlockref03_Less.l0]
      rw [if_pos (by omega), show ((m + 1 : Nat) : Int) - 1 = (m : Int) by omega, digit_is, digit_is]
      simp only [Option.bind_some]
      rw [if_neg hd]
      congr 1
      rw [decide_eq_decide]
      constructor
      · intro hlt; exact lt_down ha hb m (by omega)
      · intro hlt
        rcases Int.lt_trichotomy (dg a m) (dg b m) with h1 | h1 | h1
        · exact h1
        · exact absurd h1 hd
        · have := lt_down hb ha m (by omega); omega
theorem less_is {a b : List Int} (ha : Dg a) (hb : Dg b) (s t : Int) (hl : a.length ≤ 140737488351232) (hl2 : b.length ≤ 140737488351232) :
    Ev (fun k => rowlockref03_Less.f k s a t b) (decide (val a < val b)) := by
  unfold rowlockref03_Less.f
  by_cases h : (a.length : Int) < (b.length : Int)
  · refine Ev.congr (f := fun k => rowlockref03_Less.l0 k ((b.length : Int) - 1) s a t b) (fun k => ?_) (less_l0 ha hb s t hl hl2 b.length hl2 (by rw [T_end _ _ (by omega), T_end _ _ (Nat.le_refl _)]))
    rw [if_pos h, show wrap64 ((b.length : Int) - 1) = (b.length : Int) - 1 by unfold wrap64; omega]
  · refine Ev.congr (f := fun k => rowlockref03_Less.l0 k ((a.length : Int) - 1) s a t b) (fun k => ?_) (less_l0 ha hb s t hl hl2 a.length hl (by rw [T_end _ _ (by omega), T_end _ _ (by omega)]))
    rw [if_neg h, show wrap64 ((a.length : Int) - 1) = (a.length : Int) - 1 by unfold wrap64; omega]
theorem td (x : Int) (h : 0 ≤ x) : Int.tdiv x 65536 = x / 65536 := Int.tdiv_eq_ediv_of_nonneg h
theorem tm (x : Int) (h : 0 ≤ x) : Int.tmod x 65536 = x % 65536 := Int.tmod_eq_emod_of_nonneg h
theorem size_round {a b : List Int} (ha : Dg a) (hb : Dg b) (s t : Int) (k : Nat) (out : List Int) (c : Int) (i : Nat) (hc : 0 ≤ c ∧ c ≤ 1) (hi : i ≤ 140737488351232) (ho : out.length < 17592186044416) :
    rowlockref03_size.j1 (k + 1) out c (i : Int) true s a t b = rowlockref03_size.l0 k (out ++ [(dg a i + dg b i + c) % 65536]) ((dg a i + dg b i + c) / 65536) ((i + 1 : Nat) : Int) s a t b := by
  have r1 := dg_range ha i; have r2 := dg_range hb i
  simp only [rowlockref03_size.j1, if_true, digit_is, Option.bind_some, u64w]
  rw [if_pos ho, show ((dg a i + dg b i) % 18446744073709551616 + c) % 18446744073709551616 = dg a i + dg b i + c by omega, td _ (by omega), tm _ (by omega), show (dg a i + dg b i + c) / 65536 % 18446744073709551616 = (dg a i + dg b i + c) / 65536 by omega,
    show wrap64 ((i : Int) + 1) = ((i + 1 : Nat) : Int) by unfold wrap64; omega]
theorem size_l0 {a b : List Int} (ha : Dg a) (hb : Dg b) (s t : Int) (N : Nat) (hN : N ≤ 17592186044000) (hl : a.length ≤ N) (hl2 : b.length ≤ N) : ∀ (d : Nat) (out : List Int) (c : Int) (i : Nat), d = N - i → i ≤ N → out.length = i → 0 ≤ c ∧ c ≤ 1 →
    ∃ rest, Ev (fun k => rowlockref03_size.l0 k out c (i : Int) s a t b) (1, out ++ rest) ∧ Dg rest ∧ val rest = T a i + T b i + c ∧ i + rest.length ≤ N + 1 := by
  have stop : ∀ (out : List Int) (i : Nat), a.length ≤ i → b.length ≤ i → Ev (fun k => rowlockref03_size.l0 k out 0 (i : Int) s a t b) (1, out) := by
    intro out i h1 h2
    refine Ev.step (f := fun k => rowlockref03_size.j1 k out 0 (i : Int) false s a t b) (fun k => ?_) (Ev.step (f := fun _ => some (1, out)) (fun k => ?_) (Ev.now _))
    · simp only [rowlockref03_size.l0]
      rw [if_neg (by omega), if_neg (by omega)]; simp
    · simp [rowlockref03_size.j1]
  intro d
  induction d with
  | zero =>
    intro out c i hd hi ho hc
    by_cases h0 : (i : Int) < a.length ∨ (i : Int) < b.length
    · omega
    · by_cases hc0 : c = 0
      · subst hc0
        exact ⟨[], by rw [List.append_nil]; exact stop out i (by omega) (by omega), fun _ h => (by cases h), by rw [T_end _ _ (by omega), T_end _ _ (by omega)]; rfl, by simp; omega⟩
      · have hc1 : c = 1 := by omega
        subst hc1
        have e1 : dg a i = 0 := by have := T_step a i; have := T_end a i (by omega); have := T_end a (i+1) (by omega); omega
        have e2 : dg b i = 0 := by have := T_step b i; have := T_end b i (by omega); have := T_end b (i+1) (by omega); omega
        refine ⟨[1], ?_, fun x hx => by simp at hx; subst hx; decide, by rw [T_end _ _ (by omega), T_end _ _ (by omega)]; rfl, by simp; omega⟩
        refine Ev.step (f := fun k => rowlockref03_size.j1 k out 1 (i : Int) true s a t b) (fun k => ?_) (Ev.step (f := fun k => rowlockref03_size.l0 k (out ++ [1]) 0 ((i + 1 : Nat) : Int) s a t b) (fun k => ?_) (stop _ _ (by omega) (by omega)))
        · simp only [rowlockref03_size.l0]
          rw [if_neg (by omega), if_neg (by omega)]; simp
        · rw [size_round ha hb s t k out 1 i (by omega) (by omega) (by omega), e1, e2]; rfl
  | succ d ih =>
    intro out c i hd hi ho hc
    have r1 := dg_range ha i; have r2 := dg_range hb i
    have t1 := T_step a i; have t2 := T_step b i
    by_cases h0 : (i : Int) < a.length ∨ (i : Int) < b.length ∨ c > 0
    · obtain ⟨rest, he, hr, hv, hlen⟩ := ih (out ++ [(dg a i + dg b i + c) % 65536]) ((dg a i + dg b i + c) / 65536) (i + 1) (by omega) (by omega) (by simp [ho]) (by omega)
      refine ⟨(dg a i + dg b i + c) % 65536 :: rest, ?_, fun x hx => ?_, by simp only [val]; omega, by simp; omega⟩
      · refine Ev.step (f := fun k => rowlockref03_size.j1 k out c (i : Int) true s a t b) (fun k => ?_) (Ev.step (f := fun k => rowlockref03_size.l0 k (out ++ [(dg a i + dg b i + c) % 65536]) ((dg a i + dg b i + c) / 65536) ((i + 1 : Nat) : Int) s a t b) (fun k => ?_) (by simpa using he))
        · simp only [rowlockref03_size.l0]
          by_cases h1 : (i : Int) < a.length
          · rw [if_pos h1]
          · by_cases h2 : (i : Int) < b.length
            · rw [if_neg h1, if_pos h2]
            · rw [if_neg h1, if_neg h2, decide_eq_true (by omega)]
        · exact size_round ha hb s t k out c i hc (by omega) (by omega)
      · rcases List.mem_cons.1 hx with rfl | hx
        · omega
        · exact hr x hx
    · have hc0 : c = 0 := by omega
      subst hc0
      exact ⟨[], by rw [List.append_nil]; exact stop out i (by omega) (by omega), fun _ h => (by cases h), by rw [T_end _ _ (by omega), T_end _ _ (by omega)]; rfl, by simp; omega⟩
theorem size_is {a b : List Int} (ha : Dg a) (hb : Dg b) (s t : Int) (N : Nat) (hN : N ≤ 17592186044000) (hl : a.length ≤ N) (hl2 : b.length ≤ N) :
    ∃ r, Ev (fun k => rowlockref03_size.f k s a t b) (1, r) ∧ Dg r ∧ val r = val a + val b ∧ r.length ≤ N + 1 := by
  obtain ⟨rest, he, hr, hv, hlen⟩ := size_l0 ha hb s t N hN hl hl2 (N - 0) [] 0 0 rfl (by omega) rfl (by decide)
  have he2 : Ev (fun k => rowlockref03_size.l0 k [] 0 0 s a t b) (1, rest) := by simpa using he
  exact ⟨rest, he2, hr, by rw [hv, T_zero, T_zero]; omega, by omega⟩
theorem apart_l0 {a b : List Int} (ha : Dg a) (hb : Dg b) (s t : Int) (hl : a.length ≤ 17592186044000) : ∀ (d : Nat) (out : List Int) (c : Int) (i : Nat), d = a.length - i → i ≤ a.length → out.length = i → 0 ≤ c ∧ c ≤ 1 → T b i + c ≤ T a i →
    ∃ rest, Ev (fun k => rowlockref03_apart.l0 k out c (a.length : Int) (i : Int) s a t b) (1, out ++ rest) ∧ Dg rest ∧ val rest = T a i - T b i - c ∧ i + rest.length = a.length := by
  intro d
  induction d with
  | zero =>
    intro out c i hd hi ho hc hle
    have hia : i = a.length := by omega
    have e1 := T_end a i (by omega); have e2 := T_nonneg hb i
    refine ⟨[], ?_, fun _ h => (by cases h), by simp only [val]; omega, by simp; omega⟩
    rw [List.append_nil]
    refine Ev.step (f := fun _ => some (1, out)) (fun k => ?_) (Ev.now _)
    simp only [rowlockref03_apart.l0]
    rw [if_neg (by omega)]
  | succ d ih =>
    intro out c i hd hi ho hc hle
    have r1 := dg_range ha i; have r2 := dg_range hb i
    have t1 := T_step a i; have t2 := T_step b i
    obtain ⟨rest, he, hr, hv, hlen⟩ := ih (out ++ [(dg a i + 65536 - dg b i - c) % 65536]) (1 - (dg a i + 65536 - dg b i - c) / 65536) (i + 1) (by omega) (by omega) (by simp [ho]) (by omega) (by omega)
    refine ⟨(dg a i + 65536 - dg b i - c) % 65536 :: rest, ?_, fun x hx => ?_, by simp only [val]; omega, by simp; omega⟩
    · refine Ev.step (f := fun k => rowlockref03_apart.l0 k (out ++ [(dg a i + 65536 - dg b i - c) % 65536]) (1 - (dg a i + 65536 - dg b i - c) / 65536) (a.length : Int) ((i + 1 : Nat) : Int) s a t b) (fun k => ?_) (by simpa using he)
      simp only [rowlockref03_apart.l0]
      rw [if_pos (by omega), if_pos (by omega), if_pos (by omega), digit_is]
      simp only [Option.bind_some, u64w]
      have erd : rd a (i : Int) = dg a i := by unfold rd dg; rw [Int.toNat_natCast]
      rw [if_pos (by omega), erd, show (((dg a i + 65536) % 18446744073709551616 - dg b i) % 18446744073709551616 - c) % 18446744073709551616 = dg a i + 65536 - dg b i - c by omega, td _ (by omega), tm _ (by omega),
        show (1 - (dg a i + 65536 - dg b i - c) / 65536 % 18446744073709551616) % 18446744073709551616 = 1 - (dg a i + 65536 - dg b i - c) / 65536 by omega, show wrap64 ((i : Int) + 1) = ((i + 1 : Nat) : Int) by unfold wrap64; omega]
    · rcases List.mem_cons.1 hx with rfl | hx
      · omega
      · exact hr x hx
theorem apart_is {a b : List Int} (ha : Dg a) (hb : Dg b) (s t : Int) (hl : a.length ≤ 17592186044000) (h : val b ≤ val a) :
    ∃ r, Ev (fun k => rowlockref03_apart.f k s a t b) (1, r) ∧ Dg r ∧ val r = val a - val b ∧ r.length = a.length := by
  obtain ⟨rest, he, hr, hv, hlen⟩ := apart_l0 ha hb s t hl (a.length - 0) [] 0 0 rfl (by omega) rfl (by decide) (by rw [T_zero, T_zero]; omega)
  have he2 : Ev (fun k => rowlockref03_apart.l0 k [] 0 (a.length : Int) 0 s a t b) (1, rest) := by simpa using he
  exact ⟨rest, he2, hr, by rw [hv, T_zero, T_zero]; omega, by omega⟩
/-- (s, d) tells v, with at most n digits. -/
def Tells (s : Int) (d : List Int) (v : Int) (n : Nat) : Prop := (s = 1 ∧ val d = v ∨ s = -1 ∧ val d = -v) ∧ Dg d ∧ d.length ≤ n
theorem plus_tells {s t : Int} {a b : List Int} {x y : Int} {n : Nat} (hn : n ≤ 17592186043000) (h : Tells s a x n) (k : Tells t b y n) : ∃ u d, Ev (fun k => rowlockref03_Plus.f k s a t b) (u, d) ∧ Tells u d (x + y) (n + 1) := by
  obtain ⟨h1, ha, hl⟩ := h
  obtain ⟨k1, hb, hl2⟩ := k
  unfold rowlockref03_Plus.f
  by_cases e : s = t
  · obtain ⟨r, he, hr, hv, hlen⟩ := size_is ha hb s t n (by omega) hl hl2
    refine ⟨s, r, ?_, by omega, hr, hlen⟩
    refine Ev.congr (f := fun k => (rowlockref03_size.f k s a t b).bind fun z => some (s, z.2)) (fun k => by rw [if_pos e]) ?_
    exact Ev.bind he (Ev.now _)
  · by_cases hlt : val a < val b
    · obtain ⟨r, he, hr, hv, hlen⟩ := apart_is hb ha t s (by omega) (by omega)
      refine ⟨t, r, ?_, by omega, hr, by omega⟩
      refine Ev.congr (f := fun k => (rowlockref03_Less.f k s a t b).bind fun z => if z = true then ((rowlockref03_apart.f k t b s a).bind fun z => some (t, z.2)) else ((rowlockref03_apart.f k s a t b).bind fun z => some (s, z.2))) (fun k => by rw [if_neg e]) ?_
      refine Ev.bind (less_is ha hb s t (by omega) (by omega)) ?_
      simp only [hlt, decide_true, if_true]
      exact Ev.bind he (Ev.now _)
    · obtain ⟨r, he, hr, hv, hlen⟩ := apart_is ha hb s t (by omega) (by omega)
      refine ⟨s, r, ?_, by omega, hr, by omega⟩
      refine Ev.congr (f := fun k => (rowlockref03_Less.f k s a t b).bind fun z => if z = true then ((rowlockref03_apart.f k t b s a).bind fun z => some (t, z.2)) else ((rowlockref03_apart.f k s a t b).bind fun z => some (s, z.2))) (fun k => by rw [if_neg e]) ?_
      refine Ev.bind (less_is ha hb s t (by omega) (by omega)) ?_
      simp only [hlt, decide_false, Bool.false_eq_true, if_false]
      exact Ev.bind he (Ev.now _)
theorem whole_round (k : Nat) (x : Int) (out : List Int) (i : Int) (h0 : 0 ≤ x) (h1 : x < 18446744073709551616) (ho : out.length ≤ 4) (hi : 0 ≤ i ∧ i < 4) : rowlockref03_Whole.l0 (k + 1) x out i = rowlockref03_Whole.l0 k (x / 65536) (out ++ [x % 65536]) (i + 1) := by
  simp only [rowlockref03_Whole.l0]
  rw [if_pos hi.2, if_pos (by omega), u64w, td _ h0, tm _ h0, show x / 65536 % 18446744073709551616 = x / 65536 by omega, show wrap64 (i + 1) = i + 1 by unfold wrap64; omega]
theorem whole_tells (x : Int) (h0 : 0 ≤ x) (h1 : x < 18446744073709551616) : ∃ d, Ev (fun k => rowlockref03_Whole.f k x) (1, d) ∧ Tells 1 d x 4 := by
  refine ⟨[x % 65536, x / 65536 % 65536, x / 65536 / 65536 % 65536, x / 65536 / 65536 / 65536 % 65536], ⟨5, fun k hk => ?_⟩, .inl ⟨rfl, by simp only [val]; omega⟩, fun z hz => ?_, by simp⟩
  · obtain ⟨k, rfl⟩ : ∃ m, k = m + 5 := ⟨k - 5, by omega⟩
    show rowlockref03_Whole.l0 (k + 4 + 1) x [] 0 = _
    rw [whole_round (k + 4) x [] 0 h0 h1 (by simp) (by decide), whole_round (k + 3) (x / 65536) _ _ (by omega) (by omega) (by simp) (by decide), whole_round (k + 2) (x / 65536 / 65536) _ _ (by omega) (by omega) (by simp) (by decide), whole_round (k + 1) (x / 65536 / 65536 / 65536) _ _ (by omega) (by omega) (by simp) (by decide)]
    simp [rowlockref03_Whole.l0]
  · simp at hz; rcases hz with rfl | rfl | rfl | rfl <;> omega

def P : Nat → Int
  | 0 => 1
  | i + 1 => P i * 65536
theorem val_append (x y : List Int) : val (x ++ y) = val x + P x.length * val y := by
  induction x with
  | nil => simp [val, P]
  | cons d x ih => simp only [List.cons_append, val, ih, List.length_cons, P]; grind
theorem val_zeros (i : Nat) : val (List.replicate i 0) = 0 := by
  induction i with
  | zero => rfl
  | succ i ih => simp only [List.replicate_succ, val, ih]; rfl
theorem dg_zeros (i : Nat) : Dg (List.replicate i 0) := fun d hd => by rw [(List.mem_replicate.1 hd).2]; decide
theorem dg_append {x y : List Int} (hx : Dg x) (hy : Dg y) : Dg (x ++ y) := fun d hd => by
  rcases List.mem_append.1 hd with h | h
  · exact hx d h
  · exact hy d h
theorem times_l1 {a b out : List Int} (s t u : Int) (n : Int) (i : Nat) (hi : i ≤ 1000) (r : Int × List Int) : ∀ (d j : Nat), i = j + d →
    Ev (fun k => rowlockref03_Times.l2 k (i : Int) (List.replicate i 0) 0 n (i : Int) (a.length : Int) 0 s a t b u out) r →
    Ev (fun k => rowlockref03_Times.l1 k (i : Int) (List.replicate j 0) (j : Int) n (i : Int) s a t b u out) r := by
  intro d
  induction d with
  | zero =>
    intro j hj h
    obtain rfl : i = j := by omega
    refine Ev.step (f := fun k => rowlockref03_Times.l2 k (i : Int) (List.replicate i 0) 0 n (i : Int) (a.length : Int) 0 s a t b u out) (fun k => ?_) h
    simp only [rowlockref03_Times.l1]
    rw [if_neg (by omega)]
  | succ d ih =>
    intro j hj h
    refine Ev.step (f := fun k => rowlockref03_Times.l1 k (i : Int) (List.replicate (j + 1) 0) ((j + 1 : Nat) : Int) n (i : Int) s a t b u out) (fun k => ?_) (ih (j + 1) (by omega) h)
    simp only [rowlockref03_Times.l1]
    rw [if_pos (by omega), if_pos (by rw [List.length_replicate]; omega), show wrap64 ((j : Int) + 1) = ((j + 1 : Nat) : Int) by unfold wrap64; omega, List.replicate_succ']
theorem times_l2 {a b out : List Int} (ha : Dg a) (hb : Dg b) (s t u : Int) (n : Int) (i : Nat) (hi : i < b.length) (hl : a.length ≤ 1000) (hi2 : i ≤ 1000) : ∀ (d k0 : Nat) (row : List Int) (c : Int), a.length = k0 + d → row.length = i + k0 → 0 ≤ c ∧ c ≤ 65535 →
    ∃ rest, Dg rest ∧ rest.length = d + 1 ∧ val rest = dg b i * T a k0 + c ∧ ∀ r, Ev (fun k => (rowlockref03_size.f k u out 1 (row ++ rest)).bind fun z => rowlockref03_Times.l0 k n ((i + 1 : Nat) : Int) s a t b z.1 z.2) r →
      Ev (fun k => rowlockref03_Times.l2 k (i : Int) row c n (i : Int) (a.length : Int) (k0 : Int) s a t b u out) r := by
  intro d
  have rb := dg_range hb i
  induction d with
  | zero =>
    intro k0 row c hk hr hc
    refine ⟨[c], fun x hx => by simp at hx; subst hx; omega, rfl, by rw [T_end _ _ (by omega)]; simp [val], fun r h => ?_⟩
    refine Ev.step (f := fun k => (rowlockref03_size.f k u out 1 (row ++ [c])).bind fun z => rowlockref03_Times.l0 k n ((i + 1 : Nat) : Int) s a t b z.1 z.2) (fun k => ?_) h
    simp only [rowlockref03_Times.l2]
    rw [if_neg (by omega), if_pos (by omega), show wrap64 ((i : Int) + 1) = ((i + 1 : Nat) : Int) by unfold wrap64; omega]
  | succ d ih =>
    intro k0 row c hk hr hc
    have ra := dg_range ha k0
    have pr : 0 ≤ dg a k0 * dg b i ∧ dg a k0 * dg b i ≤ 4294836225 := ⟨Int.mul_nonneg ra.1 rb.1, Int.le_trans (Int.mul_le_mul (by omega : dg a k0 ≤ 65535) (by omega : dg b i ≤ 65535) rb.1 (by decide)) (by decide)⟩
    have ts := T_step a k0
    have erd : rd a (k0 : Int) = dg a k0 := by unfold rd dg; rw [Int.toNat_natCast]
    have erd2 : rd b (i : Int) = dg b i := by unfold rd dg; rw [Int.toNat_natCast]
    have em : dg b i * T a k0 = dg a k0 * dg b i + 65536 * (dg b i * T a (k0 + 1)) := by rw [ts]; grind
    obtain ⟨rest, h1, h2, h3, h4⟩ := ih (k0 + 1) (row ++ [(dg a k0 * dg b i + c) % 65536]) ((dg a k0 * dg b i + c) / 65536) (by omega) (by simp; omega) (by omega)
    refine ⟨(dg a k0 * dg b i + c) % 65536 :: rest, fun x hx => ?_, by simp [h2], by simp only [val]; omega, fun r h => ?_⟩
    · rcases List.mem_cons.1 hx with rfl | hx
      · omega
      · exact h1 x hx
    · refine Ev.step (f := fun k => rowlockref03_Times.l2 k (i : Int) (row ++ [(dg a k0 * dg b i + c) % 65536]) ((dg a k0 * dg b i + c) / 65536) n (i : Int) (a.length : Int) ((k0 + 1 : Nat) : Int) s a t b u out) (fun k => ?_) (h4 r (by simpa using h))
      simp only [rowlockref03_Times.l2]
      rw [if_pos (by omega), if_pos (by omega), if_pos (by omega), if_pos (by omega), if_pos (by omega), if_pos (by omega), erd, erd2, u64w, u64w, u64w,
        show (dg a k0 * dg b i % 18446744073709551616 + c) % 18446744073709551616 = dg a k0 * dg b i + c by omega, td _ (by omega), tm _ (by omega), show (dg a k0 * dg b i + c) / 65536 % 18446744073709551616 = (dg a k0 * dg b i + c) / 65536 by omega,
        show wrap64 ((k0 : Int) + 1) = ((k0 + 1 : Nat) : Int) by unfold wrap64; omega]
theorem times_l0 {a b : List Int} (ha : Dg a) (hb : Dg b) (s t : Int) (hl : a.length ≤ 100) (hl2 : b.length ≤ 100) : ∀ (d i : Nat) (u : Int) (out : List Int), b.length = i + d → Dg out → out.length ≤ 400 + i →
    ∃ res, Ev (fun k => rowlockref03_Times.l0 k (b.length : Int) (i : Int) s a t b u out) (wrap64 (s * t), res) ∧ Dg res ∧ val res = val out + P i * (val a * T b i) ∧ res.length ≤ 400 + b.length := by
  intro d
  induction d with
  | zero =>
    intro i u out hd ho hlen
    refine ⟨out, Ev.step (f := fun _ => some (wrap64 (s * t), out)) (fun k => ?_) (Ev.now _), ho, by rw [T_end _ _ (by omega)]; simp, by omega⟩
    simp only [rowlockref03_Times.l0]
    rw [if_neg (by omega)]
  | succ d ih =>
    intro i u out hd ho hlen
    obtain ⟨rest, h1, h2, h3, h4⟩ := times_l2 (out := out) ha hb s t u (b.length : Int) i (by omega) (by omega) (by omega) a.length 0 (List.replicate i 0) 0 (by omega) (by simp) (by decide)
    obtain ⟨z, hz, hdz, hvz, hlz⟩ := size_is ho (dg_append (dg_zeros i) h1) u 1 (400 + i) (by omega) hlen (by simp; omega)
    obtain ⟨res, hr, hdr, hvr, hlr⟩ := ih (i + 1) 1 z (by omega) hdz (by omega)
    refine ⟨res, ?_, hdr, ?_, hlr⟩
    · refine Ev.step (f := fun k => rowlockref03_Times.l1 k (i : Int) [] 0 (b.length : Int) (i : Int) s a t b u out) (fun k => ?_) ?_
      · simp only [rowlockref03_Times.l0]
        rw [if_pos (by omega)]
      · exact times_l1 s t u (b.length : Int) i (by omega) _ i 0 (by omega) (h4 _ (Ev.bind hz hr))
    · rw [hvr, hvz, val_append, val_zeros, List.length_replicate, h3, T_zero]
      have := T_step b i
      rw [this]
      simp only [P]
      grind
theorem times_tells {s t : Int} {a b : List Int} {x y : Int} {n : Nat} (hn : n ≤ 100) (h : Tells s a x n) (k : Tells t b y n) : ∃ u d, Ev (fun k => rowlockref03_Times.f k s a t b) (u, d) ∧ Tells u d (x * y) 500 := by
  obtain ⟨h1, ha, hl⟩ := h
  obtain ⟨k1, hb, hl2⟩ := k
  obtain ⟨z, hz, htz⟩ := whole_tells 0 (by decide) (by decide)
  have hv0 : val z = 0 := by have := htz.1; omega
  obtain ⟨res, hr, hdr, hvr, hlr⟩ := times_l0 ha hb s t (by omega) (by omega) b.length 0 1 z (by omega) htz.2.1 (by have := htz.2.2; omega)
  refine ⟨wrap64 (s * t), res, ?_, ?_, hdr, by omega⟩
  · exact Ev.bind (f := fun k (z : Int × List Int) => rowlockref03_Times.l0 k (b.length : Int) 0 s a t b z.1 z.2) hz hr
  · rw [hv0, T_zero] at hvr
    have e : val res = val a * val b := by rw [hvr]; simp [P]
    rcases h1 with ⟨rfl, rfl⟩ | ⟨rfl, hx⟩ <;> rcases k1 with ⟨rfl, rfl⟩ | ⟨rfl, hy⟩
    · exact .inl ⟨by unfold wrap64; omega, e⟩
    · exact .inr ⟨by unfold wrap64; omega, by rw [e, hy]; grind⟩
    · exact .inr ⟨by unfold wrap64; omega, by rw [e, hx]; grind⟩
    · exact .inl ⟨by unfold wrap64; omega, by rw [e, hx, hy]; grind⟩
theorem turn_tells {s : Int} {d : List Int} {v : Int} {n : Nat} (h : Tells s d v n) : Tells (wrap64 (-s)) d (-v) n := by
  obtain ⟨h1, h2, h3⟩ := h
  refine ⟨?_, h2, h3⟩
  rcases h1 with ⟨rfl, h⟩ | ⟨rfl, h⟩
  · exact .inr ⟨by unfold wrap64; omega, by omega⟩
  · exact .inl ⟨by unfold wrap64; omega, by omega⟩

theorem fixed_is : Ev (fun k => rowlocklaw03_fixed.f k) true := Ev.of (rowlocklaw03_fixed.mono) (k := 10) (by decide +kernel)

-- a division of 128 bits by 64: Knuth's, digit by digit of 2^32
def IsQ (q N Y : Int) : Prop := q * Y ≤ N ∧ N < (q + 1) * Y
theorem isq_one {q p N Y : Int} (hY : 0 < Y) (h : IsQ q N Y) (k : IsQ p N Y) : q = p := by
  obtain ⟨h1, h2⟩ := h
  obtain ⟨k1, k2⟩ := k
  rcases Int.lt_trichotomy q p with hlt | heq | hlt
  · have := Int.mul_le_mul_of_nonneg_right (show q + 1 ≤ p by omega) (Int.le_of_lt hY); omega
  · exact heq
  · have := Int.mul_le_mul_of_nonneg_right (show p + 1 ≤ q by omega) (Int.le_of_lt hY); omega
theorem isq_ex (N Y : Int) (hY : 0 < Y) : IsQ (N / Y) N Y := ⟨Int.ediv_mul_le N (by omega), Int.lt_ediv_add_one_mul_self N hY⟩
/-- What the loop knows of its guess. -/
def Inv (Y y1 y0 un d q r : Int) : Prop := q * y1 + r = un ∧ 0 ≤ r ∧ r < 4294967296 ∧ 0 ≤ q ∧ q ≤ 4294967297 ∧ un * 4294967296 + d < (q + 1) * Y
structure Parts (Y y1 y0 un d : Int) : Prop where
  e : Y = y1 * 4294967296 + y0
  a : 2147483648 ≤ y1 ∧ y1 < 4294967296
  b : 0 ≤ y0 ∧ y0 < 4294967296
  u : 0 ≤ un ∧ un < Y
  v : 0 ≤ d ∧ d < 4294967296
section
variable {Y y1 y0 un d q r : Int}
theorem guess_y0 (hp : Parts Y y1 y0 un d) (hi : Inv Y y1 y0 un d q r) : 0 ≤ q * y0 ∧ q * y0 ≤ 18446744073709551615 := by
  obtain ⟨_, _, _, h0, h1, _⟩ := hi
  exact ⟨Int.mul_nonneg h0 hp.b.1, Int.le_trans (Int.mul_le_mul h1 (show y0 ≤ 4294967295 by have := hp.b; omega) hp.b.1 (by decide)) (by decide)⟩
theorem guess_prod (hp : Parts Y y1 y0 un d) : q * Y = q * y1 * 4294967296 + q * y0 := by rw [hp.e]; grind
theorem guess_ends (hp : Parts Y y1 y0 un d) (hi : Inv Y y1 y0 un d q r) (h : ¬ q * y0 > 4294967296 * r + d) : IsQ q (un * 4294967296 + d) Y := by
  have e := guess_prod (q := q) hp
  obtain ⟨h1, _, _, _, _, h2⟩ := hi
  exact ⟨by omega, h2⟩
theorem guess_more (hp : Parts Y y1 y0 un d) (hi : Inv Y y1 y0 un d q r) (h : q ≥ 4294967296 ∨ q * y0 > 4294967296 * r + d) : un * 4294967296 + d < q * Y := by
  have e := guess_prod (q := q) hp
  obtain ⟨h1, _, _, _, _, h2⟩ := hi
  have := hp.u; have := hp.v
  rcases h with h | h
  · have := Int.mul_le_mul_of_nonneg_right h (show 0 ≤ Y by omega); omega
  · omega
theorem guess_pos (hp : Parts Y y1 y0 un d) (hi : Inv Y y1 y0 un d q r) (h : un * 4294967296 + d < q * Y) : 1 ≤ q := by
  have := hp.u; have := hp.v
  rcases Int.lt_or_le q 1 with hq | hq
  · have := Int.mul_le_mul_of_nonneg_right (show q ≤ 0 by omega) (show 0 ≤ Y by omega); omega
  · exact hq
theorem guess_next (hp : Parts Y y1 y0 un d) (hi : Inv Y y1 y0 un d q r) (h : un * 4294967296 + d < q * Y) (hr : r + y1 < 4294967296) : Inv Y y1 y0 un d (q - 1) (r + y1) := by
  have hq := guess_pos hp hi h
  have := hp.a
  obtain ⟨h1, h2, h3, h4, h5, h6⟩ := hi
  refine ⟨?_, by omega, hr, by omega, by omega, by rw [show q - 1 + 1 = q by omega]; exact h⟩
  rw [Int.sub_mul]; omega
theorem guess_last (hp : Parts Y y1 y0 un d) (hi : Inv Y y1 y0 un d q r) (h : un * 4294967296 + d < q * Y) (hr : ¬ r + y1 < 4294967296) : IsQ (q - 1) (un * 4294967296 + d) Y := by
  have hq := guess_pos hp hi h
  have e := guess_prod (q := q - 1) hp
  have h0 := hp.a; have h0' := hp.b; have h0'' := hp.v
  obtain ⟨h1, h2, h3, h4, h5, h6⟩ := hi
  have b : (q - 1) * y0 ≤ 18446744069414584320 := Int.le_trans (Int.mul_le_mul (show q - 1 ≤ 4294967296 by omega) (show y0 ≤ 4294967295 by omega) h0'.1 (by decide)) (by decide)
  refine ⟨?_, by rw [show q - 1 + 1 = q by omega]; exact h⟩
  have e2 : (q - 1) * y1 = q * y1 - y1 := by rw [Int.sub_mul]; omega
  omega
theorem guess_first (hp : Parts Y y1 y0 un d) : Inv Y y1 y0 un d (un / y1) (un - un / y1 * y1) := by
  have ha := hp.a; have hb := hp.b; have hu := hp.u; have hv := hp.v; have he := hp.e
  have q1 := Int.ediv_mul_le un (show y1 ≠ 0 by omega)
  have q2 := Int.lt_ediv_add_one_mul_self un (show 0 < y1 by omega)
  have q0 : 0 ≤ un / y1 := Int.ediv_nonneg hu.1 (by omega)
  have q3 : un / y1 ≤ 4294967297 := by
    rcases Int.lt_or_le 4294967297 (un / y1) with h | h
    · have := Int.mul_le_mul_of_nonneg_right (show 4294967298 ≤ un / y1 by omega) (show 0 ≤ y1 by omega); omega
    · exact h
  have e2 : (un / y1 + 1) * y1 = un / y1 * y1 + y1 := by rw [Int.add_mul]; omega
  refine ⟨by omega, by omega, by omega, q0, q3, ?_⟩
  have e := guess_prod (q := un / y1 + 1) hp
  have := Int.mul_nonneg (show 0 ≤ un / y1 + 1 by omega) hb.1
  omega
theorem isq_lt (hp : Parts Y y1 y0 un d) (h : IsQ q (un * 4294967296 + d) Y) : 0 ≤ q ∧ q < 4294967296 := by
  have hu := hp.u; have hv := hp.v
  obtain ⟨h1, h2⟩ := h
  constructor
  · rcases Int.lt_or_le q 0 with hq | hq
    · have := Int.mul_le_mul_of_nonneg_right (show q + 1 ≤ 0 by omega) (show 0 ≤ Y by omega); omega
    · exact hq
  · rcases Int.lt_or_le q 4294967296 with hq | hq
    · exact hq
    · have := Int.mul_le_mul_of_nonneg_right hq (show 0 ≤ Y by omega); omega
end
theorem loop0 {Y y1 y0 un d : Int} (s u0 : Int) {Q : Int} {res : Int × Int} (hp : Parts Y y1 y0 un d) (hQ : IsQ Q (un * 4294967296 + d) Y) (hn : Ev (fun k => bits_Div64.j2 k Y s y1 y0 un d u0 Q) res) :
    ∀ (m : Nat) (q r : Int), 4294967296 ≤ r + m * 2147483648 → Inv Y y1 y0 un d q r → Ev (fun k => bits_Div64.l0 k Y s y1 y0 un d u0 q r) res := by
  have hYp : 0 < Y := by have := hp.a; have := hp.b; have := hp.e; omega
  intro m
  induction m with
  | zero => intro q r hm hi; have := hi.2.2.1; omega
  | succ m ih =>
    intro q r hm hi
    have hy := guess_y0 hp hi
    have ha := hp.a; have hv := hp.v
    have e1 : q * y0 % 18446744073709551616 = q * y0 := by omega
    have e2 : ((4294967296 * r) % 18446744073709551616 + d) % 18446744073709551616 = 4294967296 * r + d := by have := hi.2.1; have := hi.2.2.1; omega
    have more : (q ≥ 4294967296 ∨ q * y0 > 4294967296 * r + d) → Ev (fun k => bits_Div64.j1 k Y s y1 y0 un d u0 q r true) res := by
      intro hc
      have hm2 := guess_more hp hi hc
      have hq := guess_pos hp hi hm2
      have e3 : (r + y1) % 18446744073709551616 = r + y1 := by have := hi.2.1; have := hi.2.2.1; omega
      have e4 : (q - 1) % 18446744073709551616 = q - 1 := by have := hi.2.2.2.2.1; omega
      by_cases hr : r + y1 < 4294967296
      · refine Ev.step (f := fun k => bits_Div64.l0 k Y s y1 y0 un d u0 (q - 1) (r + y1)) (fun k => ?_) (ih (q - 1) (r + y1) (by omega) (guess_next hp hi hm2 hr))
        simp only [bits_Div64.j1, u64w, if_true, e3, e4]
        rw [if_neg (by omega)]
      · have hl := isq_one hYp (guess_last hp hi hm2 hr) hQ
        refine Ev.step (f := fun k => bits_Div64.j2 k Y s y1 y0 un d u0 Q) (fun k => ?_) hn
        simp only [bits_Div64.j1, u64w, if_true, e3, e4]
        rw [if_pos (by omega), hl]
    by_cases hc : q ≥ 4294967296
    · refine Ev.step (f := fun k => bits_Div64.j1 k Y s y1 y0 un d u0 q r true) (fun k => ?_) (more (.inl hc))
      simp only [bits_Div64.l0]
      rw [if_pos hc]
    · by_cases hd : q * y0 > 4294967296 * r + d
      · refine Ev.step (f := fun k => bits_Div64.j1 k Y s y1 y0 un d u0 q r true) (fun k => ?_) (more (.inr hd))
        simp only [bits_Div64.l0, u64w, e1, e2]
        rw [if_neg hc, decide_eq_true hd]
      · refine Ev.step (f := fun k => bits_Div64.j1 k Y s y1 y0 un d u0 q r false) (fun k => ?_) (Ev.step (f := fun k => bits_Div64.j2 k Y s y1 y0 un d u0 Q) (fun k => ?_) hn)
        · simp only [bits_Div64.l0, u64w, e1, e2]
          rw [if_neg hc, decide_eq_false hd]
        · simp only [bits_Div64.j1, Bool.false_eq_true, if_false]
          rw [isq_one hYp (guess_ends hp hi hd) hQ]
theorem loop1 {Y y1 y0 un d : Int} (s q1 u17 : Int) (hs : 0 ≤ s) {Q : Int} (hp : Parts Y y1 y0 un d) (hQ : IsQ Q (un * 4294967296 + d) Y) :
    ∀ (m : Nat) (q r : Int), 4294967296 ≤ r + m * 2147483648 → Inv Y y1 y0 un d q r → ∃ rem, Ev (fun k => bits_Div64.l1 k Y s y1 y0 d q1 r u17 q) ((q1 * 4294967296 % 18446744073709551616 + Q) % 18446744073709551616, rem) := by
  have hYp : 0 < Y := by have := hp.a; have := hp.b; have := hp.e; omega
  intro m
  induction m with
  | zero => intro q r hm hi; have := hi.2.2.1; omega
  | succ m ih =>
    intro q r hm hi
    have hy := guess_y0 hp hi
    have ha := hp.a; have hv := hp.v
    have e1 : q * y0 % 18446744073709551616 = q * y0 := by omega
    have e2 : ((4294967296 * r) % 18446744073709551616 + d) % 18446744073709551616 = 4294967296 * r + d := by have := hi.2.1; have := hi.2.2.1; omega
    have more : (q ≥ 4294967296 ∨ q * y0 > 4294967296 * r + d) → ∃ rem, Ev (fun k => bits_Div64.j4 k Y s y1 y0 d q1 r u17 q true) ((q1 * 4294967296 % 18446744073709551616 + Q) % 18446744073709551616, rem) := by
      intro hc
      have hm2 := guess_more hp hi hc
      have hq := guess_pos hp hi hm2
      have e3 : (r + y1) % 18446744073709551616 = r + y1 := by have := hi.2.1; have := hi.2.2.1; omega
      have e4 : (q - 1) % 18446744073709551616 = q - 1 := by have := hi.2.2.2.2.1; omega
      by_cases hr : r + y1 < 4294967296
      · obtain ⟨rem, h⟩ := ih (q - 1) (r + y1) (by omega) (guess_next hp hi hm2 hr)
        refine ⟨rem, Ev.step (f := fun k => bits_Div64.l1 k Y s y1 y0 d q1 (r + y1) u17 (q - 1)) (fun k => ?_) h⟩
        simp only [bits_Div64.j4, u64w, if_true, e3, e4]
        rw [if_neg (by omega)]
      · have hl := isq_one hYp (guess_last hp hi hm2 hr) hQ
        have h : ∃ rem, ∀ k, bits_Div64.j4 (k + 1) Y s y1 y0 d q1 r u17 q true = some ((q1 * 4294967296 % 18446744073709551616 + Q) % 18446744073709551616, rem) := by
          have eQ : Q % 18446744073709551616 = Q := by have := isq_lt hp hQ; omega
          simp only [bits_Div64.j4, u64w, if_true, e3, hl, eQ, hs, show r + y1 ≥ 4294967296 by omega]
          exact ⟨_, fun _ => rfl⟩
        obtain ⟨rem, h⟩ := h
        exact ⟨rem, Ev.step (f := fun _ => some ((q1 * 4294967296 % 18446744073709551616 + Q) % 18446744073709551616, rem)) h (Ev.now _)⟩
    by_cases hc : q ≥ 4294967296
    · obtain ⟨rem, h⟩ := more (.inl hc)
      refine ⟨rem, Ev.step (f := fun k => bits_Div64.j4 k Y s y1 y0 d q1 r u17 q true) (fun k => ?_) h⟩
      simp only [bits_Div64.l1]
      rw [if_pos hc]
    · by_cases hd : q * y0 > 4294967296 * r + d
      · obtain ⟨rem, h⟩ := more (.inr hd)
        refine ⟨rem, Ev.step (f := fun k => bits_Div64.j4 k Y s y1 y0 d q1 r u17 q true) (fun k => ?_) h⟩
        simp only [bits_Div64.l1, u64w, e1, e2]
        rw [if_neg hc, decide_eq_true hd]
      · have h : ∃ rem, ∀ k, bits_Div64.j4 (k + 1) Y s y1 y0 d q1 r u17 q false = some ((q1 * 4294967296 % 18446744073709551616 + Q) % 18446744073709551616, rem) := by
          simp only [bits_Div64.j4, u64w, Bool.false_eq_true, if_false, if_true, hs, isq_one hYp (guess_ends hp hi hd) hQ]
          exact ⟨_, fun _ => rfl⟩
        obtain ⟨rem, h⟩ := h
        refine ⟨rem, Ev.step (f := fun k => bits_Div64.j4 k Y s y1 y0 d q1 r u17 q false) (fun k => ?_) (Ev.step (f := fun _ => some ((q1 * 4294967296 % 18446744073709551616 + Q) % 18446744073709551616, rem)) h (Ev.now _))⟩
        simp only [bits_Div64.l1, u64w, e1, e2]
        rw [if_neg hc, decide_eq_false hd]
theorem td64 {x y : Int} (h : 0 ≤ x) : Int.tdiv x y = x / y := Int.tdiv_eq_ediv_of_nonneg h
theorem two_digits {Y y1 y0 un u1 u0 : Int} (s : Int) (hs : 0 ≤ s) (hp : Parts Y y1 y0 un u1) (hY : Y < 18446744073709551616) (h0 : 0 ≤ u0 ∧ u0 < 4294967296) {q1 r1 : Int} (h1 : Inv Y y1 y0 un u1 q1 r1) :
    ∃ q rem, Ev (fun k => bits_Div64.l0 k Y s y1 y0 un u1 u0 q1 r1) (q, rem) ∧ IsQ q (un * 18446744073709551616 + u1 * 4294967296 + u0) Y := by
  have hYp : 0 < Y := by have := hp.a; have := hp.b; have := hp.e; omega
  have hQ := isq_ex (un * 4294967296 + u1) Y hYp
  generalize (un * 4294967296 + u1) / Y = Q at hQ
  have hQl := isq_lt hp hQ
  have hu := hp.u; have hv := hp.v; have ha := hp.a
  -- what is left
  have eR : ∃ R, R = un * 4294967296 + u1 - Q * Y ∧ 0 ≤ R ∧ R < Y := ⟨_, rfl, by have := hQ.1; omega, by have := hQ.2; rw [Int.add_mul] at this; omega⟩
  obtain ⟨R, hR, hR0, hR1⟩ := eR
  have hp2 : Parts Y y1 y0 R u0 := ⟨hp.e, hp.a, hp.b, ⟨hR0, hR1⟩, h0⟩
  have hQ2 := isq_ex (R * 4294967296 + u0) Y hYp
  generalize (R * 4294967296 + u0) / Y = P2 at hQ2
  have hP := isq_lt hp2 hQ2
  have hg := guess_first hp2
  obtain ⟨rem, hl⟩ := loop1 s Q R hs hp2 hQ2 2 _ _ (by have := hg.2.1; omega) hg
  rw [show (Q * 4294967296 % 18446744073709551616 + P2) % 18446744073709551616 = Q * 4294967296 + P2 by omega] at hl
  have hj : Ev (fun k => bits_Div64.j2 k Y s y1 y0 un u1 u0 Q) (Q * 4294967296 + P2, rem) := by
    refine Ev.step (f := fun k => bits_Div64.l1 k Y s y1 y0 u0 Q (R - R / y1 * y1) R (R / y1)) (fun k => ?_) hl
    have eu : ((un * 4294967296 % 18446744073709551616 + u1) % 18446744073709551616 - Q * Y % 18446744073709551616) % 18446744073709551616 = R := by omega
    have q0 : 0 ≤ R / y1 := Int.ediv_nonneg hR0 (by omega)
    have q1' := Int.ediv_mul_le R (show y1 ≠ 0 by omega)
    have q2' := Int.mul_nonneg q0 (show 0 ≤ y1 by omega)
    have q3 : R / y1 ≤ 4294967297 := hg.2.2.2.2.1
    simp only [bits_Div64.j2, u64w, eu, td64 hR0]
    rw [if_neg (by omega), show R / y1 % 18446744073709551616 = R / y1 by omega, show R / y1 * y1 % 18446744073709551616 = R / y1 * y1 by omega, show (R - R / y1 * y1) % 18446744073709551616 = R - R / y1 * y1 by omega]
  refine ⟨_, rem, loop0 s u0 hp hQ hj 2 q1 r1 (by have := h1.2.1; omega) h1, ?_⟩
  obtain ⟨a1, a2⟩ := hQ2
  have e1 : (Q * 4294967296 + P2) * Y = Q * Y * 4294967296 + P2 * Y := by grind
  have e2 : (Q * 4294967296 + P2 + 1) * Y = Q * Y * 4294967296 + (P2 + 1) * Y := by grind
  exact ⟨by omega, by omega⟩
-- how many bits a number has
def lg (n : Nat) : Int := if n = 0 then 0 else ((Nat.log2 n + 1 : Nat) : Int)
theorem tab_is : ∀ i : Nat, i < 256 → bt (⟨#[0, 1, 2, 2, 3, 3, 3, 3, 4, 4, 4, 4, 4, 4, 4, 4, 5, 5, 5, 5, 5, 5, 5, 5, 5, 5, 5, 5, 5, 5, 5, 5, 6, 6, 6, 6, 6, 6, 6, 6, 6, 6, 6, 6, 6, 6, 6, 6, 6, 6, 6, 6, 6, 6, 6, 6, 6, 6, 6, 6, 6, 6, 6, 6, 7, 7, 7, 7, 7, 7, 7, 7, 7, 7, 7, 7, 7, 7, 7, 7, 7, 7, 7, 7, 7, 7, 7, 7, 7, 7, 7, 7, 7, 7, 7, 7, 7, 7, 7, 7, 7, 7, 7, 7, 7, 7, 7, 7, 7, 7, 7, 7, 7, 7, 7, 7, 7, 7, 7, 7, 7, 7, 7, 7, 7, 7, 7, 7, 8, 8, 8, 8, 8, 8, 8, 8, 8, 8, 8, 8, 8, 8, 8, 8, 8, 8, 8, 8, 8, 8, 8, 8, 8, 8, 8, 8, 8, 8, 8, 8, 8, 8, 8, 8, 8, 8, 8, 8, 8, 8, 8, 8, 8, 8, 8, 8, 8, 8, 8, 8, 8, 8, 8, 8, 8, 8, 8, 8, 8, 8, 8, 8, 8, 8, 8, 8, 8, 8, 8, 8, 8, 8, 8, 8, 8, 8, 8, 8, 8, 8, 8, 8, 8, 8, 8, 8, 8, 8, 8, 8, 8, 8, 8, 8, 8, 8, 8, 8, 8, 8, 8, 8, 8, 8, 8, 8, 8, 8, 8, 8, 8, 8, 8, 8, 8, 8, 8, 8, 8, 8, 8, 8, 8, 8, 8, 8]⟩ : ByteArray) (i : Int) = lg i := by
  decide +kernel
/-- n is how many bits x has. -/
def Bits (x : Nat) (n : Int) : Prop := ∃ m : Nat, n = (m : Int) ∧ m ≤ 64 ∧ x < 2 ^ m ∧ (1 ≤ m → 2 ^ (m - 1) ≤ x)
theorem tab_bits (x : Nat) (h : x < 256) : Bits x (lg x) ∧ 0 ≤ lg x ∧ lg x ≤ 8 := by
  unfold lg
  by_cases hx : x = 0
  · subst hx; exact ⟨⟨0, rfl, by omega, by decide, by omega⟩, by simp⟩
  · rw [if_neg hx]
    have h1 := Nat.log2_self_le hx
    have h2 := @Nat.lt_log2_self x
    have h3 : Nat.log2 x < 8 := by
      rcases Nat.lt_or_ge (Nat.log2 x) 8 with h' | h'
      · exact h'
      · have := Nat.pow_le_pow_right (show 0 < 2 by decide) h'; omega
    refine ⟨⟨Nat.log2 x + 1, by simp, by omega, h2, fun _ => by simpa using h1⟩, by omega, by omega⟩
theorem bits_up {x : Nat} {n : Int} (j : Nat) (hj : j ≤ 32) (hx : 2 ^ j ≤ x) (h : Bits (x / 2 ^ j) n) (hn : n ≤ 32) : Bits x (n + j) := by
  obtain ⟨m, rfl, h1, h2, h3⟩ := h
  have hp : 0 < 2 ^ j := Nat.two_pow_pos j
  refine ⟨m + j, by simp, by omega, ?_, fun _ => ?_⟩
  · rw [Nat.pow_add]; exact (Nat.div_lt_iff_lt_mul hp).1 h2
  · have hm : 1 ≤ m := by
      rcases Nat.eq_zero_or_pos m with h0 | h0
      · subst h0
        have : 1 ≤ x / 2 ^ j := (Nat.le_div_iff_mul_le hp).2 (by omega)
        simp at h2; omega
      · exact h0
    rw [show m + j - 1 = (m - 1) + j by omega, Nat.pow_add]
    exact (Nat.le_div_iff_mul_le hp).1 (h3 hm)
theorem len_j0 (x : Nat) (hx : x < 4294967296) (b : Int) (hb : b = 0 ∨ b = 32) : ∃ n : Int, (∀ k, bits_Len64.j0 (k + 1) (x : Int) b = some (b + n)) ∧ Bits x n ∧ 0 ≤ n ∧ n ≤ 32 := by
  have fin : ∀ (j : Nat), j ≤ 24 → (2 ^ j ≤ x ∨ j = 0) → x / 2 ^ j < 256 → Bits x (lg (x / 2 ^ j) + (j : Int)) ∧ 0 ≤ lg (x / 2 ^ j) ∧ lg (x / 2 ^ j) ≤ 8 := by
    intro j hj h1 h2
    obtain ⟨h3, h4, h5⟩ := tab_bits (x / 2 ^ j) h2
    refine ⟨?_, h4, h5⟩
    rcases h1 with h1 | h1
    · exact bits_up j (by omega) h1 h3 (by omega)
    · subst h1; simpa using h3
  by_cases h1 : x ≥ 65536
  · by_cases h2 : x / 65536 ≥ 256
    · obtain ⟨f1, f2, f3⟩ := fin 24 (by decide) (.inl (by omega)) (by omega)
      refine ⟨_, fun k => ?_, f1, by omega, by omega⟩
      rw [bits_Len64.j0, if_pos (by omega), if_pos (by omega), show (x : Int) / 65536 / 256 % 256 = ((x / 2 ^ 24 : Nat) : Int) by omega, if_pos (by omega), if_pos (by omega), tab_is _ (by omega)]
      generalize lg (x / 2 ^ 24) = v at *
      congr 1
      unfold wrap64; omega
    · obtain ⟨f1, f2, f3⟩ := fin 16 (by decide) (.inl (by omega)) (by omega)
      refine ⟨_, fun k => ?_, f1, by omega, by omega⟩
      rw [bits_Len64.j0, if_pos (by omega), if_neg (by omega), show (x : Int) / 65536 % 256 = ((x / 2 ^ 16 : Nat) : Int) by omega, if_pos (by omega), if_pos (by omega), tab_is _ (by omega)]
      generalize lg (x / 2 ^ 16) = v at *
      congr 1
      unfold wrap64; omega
  · by_cases h2 : x ≥ 256
    · obtain ⟨f1, f2, f3⟩ := fin 8 (by decide) (.inl (by omega)) (by omega)
      refine ⟨_, fun k => ?_, f1, by omega, by omega⟩
      rw [bits_Len64.j0, if_neg (by omega), if_pos (by omega), show (x : Int) / 256 % 256 = ((x / 2 ^ 8 : Nat) : Int) by omega, if_pos (by omega), if_pos (by omega), tab_is _ (by omega)]
      generalize lg (x / 2 ^ 8) = v at *
      congr 1
      unfold wrap64; omega
    · obtain ⟨f1, f2, f3⟩ := fin 0 (by decide) (.inr rfl) (by omega)
      refine ⟨_, fun k => ?_, f1, by omega, by omega⟩
      rw [bits_Len64.j0, if_neg (by omega), if_neg (by omega), show (x : Int) % 256 = ((x / 2 ^ 0 : Nat) : Int) by omega, if_pos (by omega), if_pos (by omega), tab_is _ (by omega)]
      generalize lg (x / 2 ^ 0) = v at *
      congr 1
      unfold wrap64; omega
theorem len_is (x : Nat) (hx : x < 18446744073709551616) : ∃ n : Int, Ev (fun k => bits_Len64.f k (x : Int)) n ∧ Bits x n := by
  unfold bits_Len64.f
  by_cases h : x ≥ 4294967296
  · obtain ⟨n, h1, h2, h3, h4⟩ := len_j0 (x / 4294967296) (by omega) 32 (.inr rfl)
    refine ⟨n + 32, ?_, ?_⟩
    · refine Ev.congr (f := fun k => bits_Len64.j0 k ((x / 4294967296 : Nat) : Int) 32) (fun k => by rw [if_pos (by omega)]; congr 1) (Ev.step (f := fun _ => some (n + 32)) (fun k => by rw [h1, Int.add_comm]) (Ev.now _))
    · exact bits_up 32 (by decide) (by omega) h2 h4
  · obtain ⟨n, h1, h2, _⟩ := len_j0 x (by omega) 0 (.inl rfl)
    refine ⟨n, ?_, h2⟩
    refine Ev.congr (f := fun k => bits_Len64.j0 k (x : Int) 0) (fun k => by rw [if_neg (by omega)]) (Ev.step (f := fun _ => some n) (fun k => by rw [h1, Int.zero_add]) (Ev.now _))

-- SAID A product, divided: its product is at most that, and with one more it is above it; or it is beyond: the pure statement of CalcTimes.
theorem leading_is (y : Nat) (hy : y < 18446744073709551616) (h0 : 0 < y) : ∃ m : Nat, 1 ≤ m ∧ m ≤ 64 ∧ Ev (fun k => bits_LeadingZeros64.f k (y : Int)) (64 - (m : Int)) ∧ y < 2 ^ m ∧ 2 ^ (m - 1) ≤ y := by
  obtain ⟨n, h1, m, rfl, h2, h3, h4⟩ := len_is y hy
  have hm : 1 ≤ m := by
    rcases Nat.eq_zero_or_pos m with h | h
    · subst h; simp at h3; omega
    · exact h
  refine ⟨m, hm, h2, ?_, h3, h4 hm⟩
  refine Ev.bind h1 (Ev.congr (f := fun _ => some (64 - (m : Int))) (fun k => ?_) (Ev.now _))
  rw [show wrap64 (64 - (m : Int)) = 64 - (m : Int) by unfold wrap64; omega]
theorem scaled {y hi lo B C Y un r : Int} (hBC : B * C = 18446744073709551616) (hB : 0 < B) (hC : 0 < C) (hlo : 0 ≤ lo ∧ lo < 18446744073709551616) (hY : Y = y * B) (hu : un = hi * B + lo / C) (hr : r = lo * B % 18446744073709551616) {q : Int} (h : IsQ q (un * 18446744073709551616 + r) Y) :
    IsQ q (hi * 18446744073709551616 + lo) y := by
  have e0 := Int.mul_ediv_add_emod lo C
  have e1 : lo * B = lo / C * 18446744073709551616 + lo % C * B := by
    rw [← hBC]
    conv => lhs; rw [← e0]
    grind
  have e2 : 0 ≤ lo % C * B := Int.mul_nonneg (Int.emod_nonneg _ (by omega)) (by omega)
  have e3 : lo % C * B < 18446744073709551616 := by
    have h1 := Int.emod_lt_of_pos lo hC
    have := Int.mul_lt_mul_of_pos_right h1 hB
    rw [Int.mul_comm C B, hBC] at this; exact this
  have e4 : un * 18446744073709551616 + r = (hi * 18446744073709551616 + lo) * B := by
    have : r = lo % C * B := by rw [hr]; omega
    rw [hu, this]; grind
  obtain ⟨h1, h2⟩ := h
  rw [e4, hY] at h1 h2
  constructor
  · exact Int.le_of_mul_le_mul_right (by rw [Int.mul_assoc]; exact h1) hB
  · exact Int.lt_of_mul_lt_mul_right (by rw [Int.mul_assoc]; exact h2) (Int.le_of_lt hB)
theorem div64_is (hi lo y : Int) (h1 : 0 ≤ hi) (h2 : hi < y) (h3 : y < 18446744073709551616) (h4 : 0 ≤ lo) (h5 : lo < 18446744073709551616) : ∃ q rem, Ev (fun k => bits_Div64.f k hi lo y) (q, rem) ∧ IsQ q (hi * 18446744073709551616 + lo) y := by
  unfold bits_Div64.f
  by_cases h0 : hi = 0
  · subst h0
    have hq := isq_ex lo y (by omega)
    have b1 : 0 ≤ lo / y := Int.ediv_nonneg h4 (by omega)
    have b2 : lo / y ≤ lo := Int.ediv_le_self _ h4
    refine ⟨lo / y, Int.tmod lo y, Ev.congr (f := fun _ => some (lo / y, Int.tmod lo y)) (fun k => ?_) (Ev.now _), by rw [Int.zero_mul, Int.zero_add]; exact hq⟩
    rw [if_neg (by omega), if_neg (by omega), if_pos rfl, u64w, td64 h4, show lo / y % 18446744073709551616 = lo / y by omega]
  · obtain ⟨n, rfl⟩ := Int.eq_ofNat_of_zero_le (show 0 ≤ y by omega)
    obtain ⟨m, hm1, hm2, hl, hb1, hb2⟩ := leading_is n (by omega) (by omega)
    obtain ⟨j, hj⟩ : ∃ j : Nat, j = 64 - m := ⟨_, rfl⟩
    have hpow : (2 : Nat) ^ j * 2 ^ m = 18446744073709551616 := by rw [← Nat.pow_add, show j + m = 64 by omega]
    have hpow2 : (2 : Nat) ^ (m - 1) * 2 ^ j = 9223372036854775808 := by rw [← Nat.pow_add, show m - 1 + j = 63 by omega]
    have hjp : 0 < (2 : Nat) ^ j := Nat.two_pow_pos j
    have hmp : 0 < (2 : Nat) ^ m := Nat.two_pow_pos m
    have hBC : ((2 : Int) ^ j) * (2 : Int) ^ m = 18446744073709551616 := by
      have h' := congrArg (fun z : Nat => (z : Int)) hpow
      simp only [Int.natCast_mul, Int.natCast_pow] at h'
      exact h'
    have hB : (0 : Int) < (2 : Int) ^ j := by exact_mod_cast hjp
    have hC : (0 : Int) < (2 : Int) ^ m := by exact_mod_cast hmp
    have hY1 : (n : Int) * (2 : Int) ^ j < 18446744073709551616 := by
      rw [← hBC, Int.mul_comm ((2 : Int) ^ j)]
      exact Int.mul_lt_mul_of_pos_right (by exact_mod_cast hb1) hB
    have hY0 : 9223372036854775808 ≤ (n : Int) * (2 : Int) ^ j := by
      have h := Nat.mul_le_mul_right (2 ^ j) hb2
      rw [hpow2] at h
      have h' := Int.ofNat_le.2 h
      rw [Int.natCast_mul, Int.natCast_pow] at h'
      exact h'
    have hH : (hi + 1) * (2 : Int) ^ j ≤ (n : Int) * (2 : Int) ^ j := Int.mul_le_mul_of_nonneg_right (by omega) (Int.le_of_lt hB)
    have hH2 : (hi + 1) * (2 : Int) ^ j = hi * (2 : Int) ^ j + (2 : Int) ^ j := by grind
    have hH0 : 0 ≤ hi * (2 : Int) ^ j := Int.mul_nonneg h1 (Int.le_of_lt hB)
    have hL0 : 0 ≤ lo / (2 : Int) ^ m := Int.ediv_nonneg h4 (Int.le_of_lt hC)
    have hL1 : lo / (2 : Int) ^ m < (2 : Int) ^ j := Int.ediv_lt_of_lt_mul hC (by rw [hBC]; exact h5)
    have es : IntKind.u64.wrap (64 - (m : Int)) = (j : Int) := by rw [u64w]; omega
    have es2 : IntKind.u64.wrap (64 - (j : Int)) = (m : Int) := by rw [u64w]; omega
    have eY : shl .u64 (n : Int) (j : Int) = (n : Int) * (2 : Int) ^ j := by
      unfold shl; rw [u64w, Int.toNat_natCast, show min j IntKind.u64.bits = j from Nat.min_eq_left (by show j ≤ 64; omega)]; omega
    have eH : shl .u64 hi (j : Int) = hi * (2 : Int) ^ j := by
      unfold shl; rw [u64w, Int.toNat_natCast, show min j IntKind.u64.bits = j from Nat.min_eq_left (by show j ≤ 64; omega)]; omega
    have eL : shl .u64 lo (j : Int) = lo * (2 : Int) ^ j % 18446744073709551616 := by
      unfold shl; rw [u64w, Int.toNat_natCast, show min j IntKind.u64.bits = j from Nat.min_eq_left (by show j ≤ 64; omega)]
    have eR : shr .u64 lo (m : Int) = lo / (2 : Int) ^ m := by
      unfold shr; rw [Int.toNat_natCast, show min m IntKind.u64.bits = m from Nat.min_eq_left (by show m ≤ 64; omega)]
    have eO : Go.bits .or .u64 (hi * (2 : Int) ^ j) (lo / (2 : Int) ^ m) = hi * (2 : Int) ^ j + lo / (2 : Int) ^ m :=
      bits_join .u64 64 (by decide) wraps_u64 j _ _ hH0 (Int.mul_emod_left _ _) (by omega) hL0 hL1 (by omega)
    obtain ⟨Y, hYe⟩ : ∃ Y, Y = (n : Int) * (2 : Int) ^ j := ⟨_, rfl⟩
    obtain ⟨un, hun⟩ : ∃ un, un = hi * (2 : Int) ^ j + lo / (2 : Int) ^ m := ⟨_, rfl⟩
    obtain ⟨r, hr⟩ : ∃ r, r = lo * (2 : Int) ^ j % 18446744073709551616 := ⟨_, rfl⟩
    have r0 : 0 ≤ r ∧ r < 18446744073709551616 := by omega
    rw [← hYe] at eY hY1 hY0 hH
    rw [← hun] at eO
    rw [← hr] at eL
    have hp : Parts Y (Y / 4294967296) (Y % 4294967296) un (r / 4294967296) := ⟨by omega, by omega, by omega, ⟨by omega, by omega⟩, by omega⟩
    have hg := guess_first hp
    obtain ⟨q, rem, he, hq⟩ := two_digits (u0 := r % 4294967296) (j : Int) (by omega) hp hY1 (by omega) hg
    refine ⟨q, rem, ?_, scaled hBC hB hC ⟨h4, h5⟩ hYe hun hr (by rw [show un * 18446744073709551616 + r = un * 18446744073709551616 + r / 4294967296 * 4294967296 + r % 4294967296 by omega]; exact hq)⟩
    refine Ev.congr (f := fun k => (bits_LeadingZeros64.f k (n : Int)).bind fun t => if 0 ≤ (IntKind.u64.wrap (t)) then (if 0 ≤ (IntKind.u64.wrap (64 - (IntKind.u64.wrap (t)))) then (if ((shl .u64 (n : Int) (IntKind.u64.wrap (t))) / 4294967296) = 0 then (none) else (bits_Div64.l0 k (shl .u64 (n : Int) (IntKind.u64.wrap (t))) (IntKind.u64.wrap (t)) ((shl .u64 (n : Int) (IntKind.u64.wrap (t))) / 4294967296) (Go.bits .and .u64 (shl .u64 (n : Int) (IntKind.u64.wrap (t))) 4294967295) (Go.bits .or .u64 (shl .u64 hi (IntKind.u64.wrap (t))) (shr .u64 lo (IntKind.u64.wrap (64 - (IntKind.u64.wrap (t)))))) ((shl .u64 lo (IntKind.u64.wrap (t))) / 4294967296) (Go.bits .and .u64 (shl .u64 lo (IntKind.u64.wrap (t))) 4294967295) (IntKind.u64.wrap (Int.tdiv (Go.bits .or .u64 (shl .u64 hi (IntKind.u64.wrap (t))) (shr .u64 lo (IntKind.u64.wrap (64 - (IntKind.u64.wrap (t)))))) ((shl .u64 (n : Int) (IntKind.u64.wrap (t))) / 4294967296))) (IntKind.u64.wrap ((Go.bits .or .u64 (shl .u64 hi (IntKind.u64.wrap (t))) (shr .u64 lo (IntKind.u64.wrap (64 - (IntKind.u64.wrap (t)))))) - (IntKind.u64.wrap ((IntKind.u64.wrap (Int.tdiv (Go.bits .or .u64 (shl .u64 hi (IntKind.u64.wrap (t))) (shr .u64 lo (IntKind.u64.wrap (64 - (IntKind.u64.wrap (t)))))) ((shl .u64 (n : Int) (IntKind.u64.wrap (t))) / 4294967296))) * ((shl .u64 (n : Int) (IntKind.u64.wrap (t))) / 4294967296))))))) else (none)) else (none))
      (fun k => by rw [if_neg (by omega), if_neg (by omega), if_neg h0]) ?_
    refine Ev.bind hl ?_
    have q0 : 0 ≤ un / (Y / 4294967296) := hg.2.2.2.1
    have q1 := hg.2.2.2.2.1
    have q2 := Int.ediv_mul_le un (show Y / 4294967296 ≠ 0 by omega)
    have q3 := hg.2.1; have q4 := hg.2.2.1
    have q5 := Int.mul_nonneg q0 (show 0 ≤ Y / 4294967296 by omega)
    refine Ev.congr (f := fun k => bits_Div64.l0 k Y (j : Int) (Y / 4294967296) (Y % 4294967296) un (r / 4294967296) (r % 4294967296) (un / (Y / 4294967296)) (un - un / (Y / 4294967296) * (Y / 4294967296))) (fun k => ?_) he
    rw [es, es2, eY, eH, eL, eR, eO, and32 Y (by omega) (by omega), and32 r r0.1 r0.2, td64 (show 0 ≤ un by omega), u64w, u64w, u64w,
      show un / (Y / 4294967296) % 18446744073709551616 = un / (Y / 4294967296) by omega, show un / (Y / 4294967296) * (Y / 4294967296) % 18446744073709551616 = un / (Y / 4294967296) * (Y / 4294967296) by omega,
      show (un - un / (Y / 4294967296) * (Y / 4294967296)) % 18446744073709551616 = un - un / (Y / 4294967296) * (Y / 4294967296) by omega]
    rw [if_pos (by omega), if_pos (by omega), if_neg (by omega)]
theorem times_is (a b c : Int) (ha : 0 ≤ a) (ha2 : a < 18446744073709551616) (hb : 0 ≤ b) (hb2 : b < 18446744073709551616) (hc : 0 ≤ c) (hc2 : c < 18446744073709551616) :
    ∃ n, Ev (fun k => calc_Times.f k a b c) n ∧ 0 ≤ n ∧ n ≤ 18446744073709551615 ∧ (a * b = 0 → n = 0) ∧ (a * b ≠ 0 → c = 0 → n = 18446744073709551615) ∧ (a * b ≠ 0 → n * c ≤ a * b ∧ (n = 18446744073709551615 ∨ a * b < n * c + c)) := by
  have hP : 0 ≤ a * b := Int.mul_nonneg ha hb
  have hPt : a * b ≤ 18446744073709551615 * 18446744073709551615 := Int.mul_le_mul (by omega) (by omega) hb (by decide)
  unfold calc_Times.f
  rw [mul64_is a b ha ha2 hb hb2]
  generalize a * b = p at *
  simp only [obs]
  by_cases hp : p = 0
  · subst hp
    refine ⟨0, Ev.step (f := fun _ => some 0) (fun k => ?_) (Ev.now _), by omega, by omega, fun _ => rfl, fun h => absurd rfl h, fun h => absurd rfl h⟩
    rw [if_pos (by decide), show ((0 : Int) % 18446744073709551616 == 0) = true by decide]
    simp only [calc_Times.j0, if_true]
  · -- the product isn't 0
    have main : ∃ n, Ev (fun k => calc_Times.j0 k c (p / 18446744073709551616) (p % 18446744073709551616) false) n ∧ 0 ≤ n ∧ n ≤ 18446744073709551615 ∧ (c = 0 → n = 18446744073709551615) ∧ n * c ≤ p ∧ (n = 18446744073709551615 ∨ p < n * c + c) := by
      by_cases hh : p / 18446744073709551616 ≥ c
      · refine ⟨18446744073709551615, Ev.step (f := fun _ => some 18446744073709551615) (fun k => ?_) (Ev.now _), by omega, by omega, fun _ => rfl, by omega, .inl rfl⟩
        simp only [calc_Times.j0, Bool.false_eq_true, if_false]
        rw [if_pos hh]
      · obtain ⟨q, rem, he, hq⟩ := div64_is (p / 18446744073709551616) (p % 18446744073709551616) c (by omega) (by omega) hc2 (by omega) (by omega)
        rw [show p / 18446744073709551616 * 18446744073709551616 + p % 18446744073709551616 = p by omega] at hq
        obtain ⟨q1, q2⟩ := hq
        have e : (q + 1) * c = q * c + c := by grind
        have q0 : 0 ≤ q := by
          rcases Int.lt_or_le q 0 with h | h
          · have := Int.mul_le_mul_of_nonneg_right (show q + 1 ≤ 0 by omega) hc; omega
          · exact h
        have q3 : q ≤ 18446744073709551615 := by
          rcases Int.lt_or_le 18446744073709551615 q with h | h
          · have := Int.mul_le_mul_of_nonneg_right (show 18446744073709551616 ≤ q by omega) hc; omega
          · exact h
        refine ⟨q, Ev.step (f := fun k => (bits_Div64.f k (p / 18446744073709551616) (p % 18446744073709551616) c).bind fun z => some z.1) (fun k => ?_) (Ev.bind he (Ev.now _)), q0, q3, fun h => by omega, q1, .inr (by omega)⟩
        simp only [calc_Times.j0, Bool.false_eq_true, if_false]
        rw [if_neg hh]
    obtain ⟨n, h1, h2, h3, h4, h5, h6⟩ := main
    refine ⟨n, Ev.congr (fun k => ?_) h1, h2, h3, fun h => absurd h hp, fun _ => h4, fun _ => ⟨h5, h6⟩⟩
    by_cases h0 : p / 18446744073709551616 = 0
    · rw [if_pos h0, beq_eq_false_iff_ne.2 (by omega)]
    · rw [if_neg h0]
theorem tells_val {s : Int} {d : List Int} {v : Int} {n : Nat} (h : Tells s d v n) (hv : 0 ≤ v) : val d = v := by
  have := val_nonneg h.2.1
  rcases h.1 with ⟨_, h⟩ | ⟨_, h⟩ <;> omega
theorem u64_of {n : Int} (h : (Lit.int .u64 n).wf = true) : 0 ≤ n ∧ n < 18446744073709551616 := by
  have : 0 ≤ n ∧ n ≤ 18446744073709551615 := by simpa [Lit.wf, IntKind.min, IntKind.max, IntKind.signed, IntKind.bits] using h
  omega
theorem CalcTimes : rowlocklaw03_CalcTimes.Pure := by
  intro a b c ha hb hc
  have ha := u64_of ha; have hb := u64_of hb; have hc := u64_of hc
  obtain ⟨n, hn, n0, n1, hz, hm, hq⟩ := times_is a b c ha.1 ha.2 hb.1 hb.2 hc.1 hc.2
  have hP : 0 ≤ a * b := Int.mul_nonneg ha.1 hb.1
  obtain ⟨da, hA, tA⟩ := whole_tells a ha.1 ha.2
  obtain ⟨db, hB, tB⟩ := whole_tells b hb.1 hb.2
  obtain ⟨u, dp, hT, tP⟩ := times_tells (by decide) tA tB
  obtain ⟨d0, hZ, t0⟩ := whole_tells 0 (by decide) (by decide)
  have vp := tells_val tP hP
  have v0 := tells_val t0 (by decide)
  have l0 := less_is t0.2.1 tP.2.1 1 u (by have := t0.2.2; omega) (by have := tP.2.2; omega)
  rw [v0, vp] at l0
  refine Ev.rounds (r := true) ?_
  unfold rowlocklaw03_CalcTimes.f
  refine Ev.bind hn (Ev.bind hA (Ev.bind hB (Ev.bind hT (Ev.bind hZ (Ev.bind l0 ?_)))))
  by_cases hp : 0 < a * b
  · rw [decide_eq_true hp]
    refine ev_if ?_
    by_cases hc0 : c = 0
    · refine Ev.congr (f := fun k => (rowlocklaw03_fixed.f k).bind fun t => if t = true then some (n == 18446744073709551615) else some false) (fun k => by rw [if_pos hc0]) (Ev.bind fixed_is (ev_if ?_))
      rw [hm (by omega) hc0]
      exact Ev.now _
    · obtain ⟨hq1, hq2⟩ := hq (by omega)
      obtain ⟨dn, hN, tN⟩ := whole_tells n n0 (by omega)
      obtain ⟨dc, hC, tC⟩ := whole_tells c hc.1 hc.2
      obtain ⟨u1, dl, hL, tL⟩ := times_tells (by decide) tN tC
      obtain ⟨u2, dh, hH, tH⟩ := plus_tells (by decide) tL ⟨tC.1, tC.2.1, by have := tC.2.2; omega⟩
      have hnc : 0 ≤ n * c := Int.mul_nonneg n0 hc.1
      have vl := tells_val tL hnc
      have vh := tells_val tH (by omega)
      have l1 := less_is tP.2.1 tL.2.1 u u1 (by have := tP.2.2; omega) (by have := tL.2.2; omega)
      have l2 := less_is tP.2.1 tH.2.1 u u2 (by have := tP.2.2; omega) (by have := tH.2.2; omega)
      rw [vp, vl] at l1
      rw [vp, vh] at l2
      refine Ev.congr (fun k => by rw [if_neg hc0]) (Ev.bind hN (Ev.bind hC (Ev.bind hL (Ev.bind hC (Ev.bind hH (Ev.bind fixed_is (ev_if (Ev.bind l1 ?_))))))))
      rw [decide_eq_false (by omega)]
      by_cases hx : n = 18446744073709551615
      · refine Ev.congr (f := fun _ => some true) (fun k => ?_) (Ev.now _)
        rw [if_neg (by decide), if_pos hx]
      · refine Ev.congr (fun k => by rw [if_neg (by decide), if_neg hx]) (Ev.bind l2 ?_)
        rw [decide_eq_true (by omega)]
        exact Ev.now _
  · rw [decide_eq_false hp]
    refine Ev.congr (f := fun k => (rowlocklaw03_fixed.f k).bind fun t => if t = true then some (n == 0) else some false) (fun k => by rw [if_neg (by decide)]) (Ev.bind fixed_is (ev_if ?_))
    rw [hz (by omega)]
    exact Ev.now _

end Go.Proofs.Ytneihjdkaogkiaa.Pure
