/- The sum of any numbers, by a register of 128 bits and by digits, in any turn, is the same: the pure statement of CalcSum. -/
import Derived.Test.YtneihjdkaogkiaaPCalcSumx6
namespace Go.Proofs.Ytneihjdkaogkiaa.Pure
open Go.RowKit Go.Proofs.Ytneihjdkaogkiaa.PCalcSum Go.Proofs.YtneihjdkaogkiaaW.PrintWords Go.Proofs.YtneihjdkaogkiaaW.PrintLast
set_option linter.unusedVariables false

-- numbers of 128 bits: what calc's functions answer
theorem u64w (n : Int) : IntKind.u64.wrap n = n % 18446744073709551616 := by simp [IntKind.wrap, IntKind.bits, IntKind.signed]
def hi (n : Int) : Int := (n / 18446744073709551616) % 18446744073709551616
def lo (n : Int) : Int := n % 18446744073709551616
def I64 (n : Int) : Prop := -9223372036854775808 ≤ n ∧ n ≤ 9223372036854775807
theorem i64_of {n : Int} (h : (Lit.int .i64 n).wf = true) : I64 n := by
  unfold I64; simpa [Lit.wf, IntKind.min, IntKind.max, IntKind.signed, IntKind.bits] using h
theorem of_is (n : Int) (h : I64 n) : calc_of.f n = some (hi n, lo n) := by
  obtain ⟨h0, h1⟩ := h
  unfold calc_of.f hi lo
  rw [u64w, u64w, show n / 9223372036854775808 = n / 18446744073709551616 by omega]
theorem plus_is (a b : Int) : calc_wide_plus.f (hi a) (lo a) (hi b) (lo b) = some (hi (a + b), lo (a + b)) := by
  unfold calc_wide_plus.f hi lo
  rw [if_pos (by omega)]
  congr 2 <;> omega
def right (n : Int) : Int × Bool := if -9223372036854775808 ≤ n ∧ n ≤ 9223372036854775807 then (n, true) else (0, false)
theorem right_is (n : Int) (h0 : -170141183460469231731687303715884105728 ≤ n) (h1 : n < 170141183460469231731687303715884105728) : calc_wide_right.f (hi n) (lo n) = some (right n) := by
  unfold calc_wide_right.f
  have hw : I64 (wrap64 (lo n)) := by unfold I64 wrap64; omega
  rw [of_is _ hw]
  simp only [Option.bind_some]
  unfold right
  by_cases h : -9223372036854775808 ≤ n ∧ n ≤ 9223372036854775807
  · have e : wrap64 (lo n) = n := by unfold wrap64 lo; omega
    rw [e, if_pos h]
    simp
  · rw [if_neg h]
    have hne : ¬ (hi (wrap64 (lo n)) = hi n ∧ lo (wrap64 (lo n)) = lo n) := by
      unfold wrap64 hi lo
      omega
    rw [if_pos]
    by_cases e : hi (wrap64 (lo n)) = hi n
    · have e2 : ¬ lo (wrap64 (lo n)) = lo n := fun e2 => hne ⟨e, e2⟩
      simp [e2]
    · simp [e]

def tot : List Int → Int
  | [] => 0
  | x :: l => x + tot l
theorem tot_append (a b : List Int) : tot (a ++ b) = tot a + tot b := by
  induction a with
  | nil => simp [tot]
  | cons x a ih => simp only [List.cons_append, tot, ih]; omega
theorem rd_mid (pre suf : List Int) (x : Int) : rd (pre ++ x :: suf) (pre.length : Int) = x := by
  unfold rd
  rw [Int.toNat_natCast, List.getD_eq_getElem?_getD, List.getElem?_append_right (Nat.le_refl _)]
  simp
theorem sum_l0 (l : List Int) (hl : l.length ≤ 140737488351232) (hI : ∀ x ∈ l, I64 x) : ∀ (suf pre : List Int) (s : Int), l = pre ++ suf → -(9223372036854775808 * (pre.length : Int)) ≤ s → s ≤ 9223372036854775808 * (pre.length : Int) →
    Ev (fun k => calc_Sum.l0 k l (l.length : Int) (pre.length : Int) (hi s) (lo s)) (right (s + tot suf)) := by
  intro suf
  induction suf with
  | nil =>
    intro pre s hp h0 h1
    rw [List.append_nil] at hp
    subst hp
    refine Ev.step (f := fun _ => some (right (s + tot []))) (fun k => ?_) (Ev.now _)
    simp only [calc_Sum.l0]
    rw [if_neg (by omega), right_is s (by omega) (by omega)]
    simp [tot]
  | cons x suf ih =>
    intro pre s hp h0 h1
    have hlen : l.length = pre.length + suf.length + 1 := by rw [hp]; simp; omega
    have hx : I64 x := hI x (by rw [hp]; simp)
    have := ih (pre ++ [x]) (s + x) (by rw [hp]; simp) (by simp only [List.length_append, List.length_singleton]; unfold I64 at hx; omega) (by simp only [List.length_append, List.length_singleton]; unfold I64 at hx; omega)
    refine Ev.step (f := fun k => calc_Sum.l0 k l (l.length : Int) ((pre ++ [x]).length : Int) (hi (s + x)) (lo (s + x))) (fun k => ?_) (by rw [show s + tot (x :: suf) = s + x + tot suf by simp only [tot]; omega]; exact this)
    simp only [calc_Sum.l0]
    rw [if_pos (by omega), if_pos (by omega), if_pos (by omega), show rd l (pre.length : Int) = x by rw [hp]; exact rd_mid _ _ _, of_is x hx]
    simp only [Option.bind_some]
    rw [plus_is]
    simp only [Option.bind_some]
    rw [show wrap64 ((pre.length : Int) + 1) = ((pre ++ [x]).length : Int) by simp only [List.length_append, List.length_singleton]; unfold wrap64; omega]
theorem sum_is (l : List Int) (hl : l.length ≤ 140737488351232) (hI : ∀ x ∈ l, I64 x) : Ev (fun k => calc_Sum.f k l) (right (tot l)) := by
  have := sum_l0 l hl hI l [] 0 rfl (by simp) (by simp)
  have h2 : Ev (fun k => calc_Sum.l0 k l (l.length : Int) 0 0 0) (right (tot l)) := by simpa [hi, lo] using this
  exact h2

-- numbers by digits of 2^16: what the document's functions answer
def val : List Int → Int
  | [] => 0
  | d :: r => d + 65536 * val r
def Dg (l : List Int) : Prop := ∀ d ∈ l, 0 ≤ d ∧ d < 65536
def dg (l : List Int) (i : Nat) : Int := l.getD i 0
def T (l : List Int) (i : Nat) : Int := val (l.drop i)
theorem dg_range {l : List Int} (h : Dg l) (i : Nat) : 0 ≤ dg l i ∧ dg l i < 65536 := by
  unfold dg
  rw [List.getD_eq_getElem?_getD]
  by_cases hi : i < l.length
  · rw [List.getElem?_eq_getElem hi]; exact h _ (List.getElem_mem hi)
  · rw [List.getElem?_eq_none (by omega)]; decide
theorem T_step (l : List Int) (i : Nat) : T l i = dg l i + 65536 * T l (i + 1) := by
  unfold T dg
  by_cases hi : i < l.length
  · rw [List.drop_eq_getElem_cons hi, val, List.getD_eq_getElem?_getD, List.getElem?_eq_getElem hi]; rfl
  · rw [List.drop_eq_nil_of_le (by omega), List.drop_eq_nil_of_le (by omega), List.getD_eq_getElem?_getD, List.getElem?_eq_none (by omega)]; rfl
theorem T_end (l : List Int) (i : Nat) (h : l.length ≤ i) : T l i = 0 := by unfold T; rw [List.drop_eq_nil_of_le h]; rfl
theorem T_zero (l : List Int) : T l 0 = val l := rfl
theorem val_nonneg {l : List Int} (h : Dg l) : 0 ≤ val l := by
  induction l with
  | nil => simp [val]
  | cons d r ih =>
    have h1 := h d (by simp)
    have h2 := ih (fun x hx => h x (by simp [hx]))
    simp only [val]; omega
theorem T_nonneg {l : List Int} (h : Dg l) (i : Nat) : 0 ≤ T l i := val_nonneg (fun d hd => h d (List.mem_of_mem_drop hd))
theorem T_le {l : List Int} (h : Dg l) (i : Nat) : T l i ≤ val l := by
  induction i with
  | zero => exact Int.le_refl _
  | succ i ih => have := T_step l i; have := dg_range h i; have := T_nonneg h (i + 1); omega
theorem lt_down {a b : List Int} (ha : Dg a) (hb : Dg b) (m : Nat) (h : T a m < T b m) : val a < val b := by
  induction m with
  | zero => exact h
  | succ m ih =>
    apply ih
    have := T_step a m; have := T_step b m; have := dg_range ha m; have := dg_range hb m
    omega
theorem digit_is (l : List Int) (i : Nat) : rowlockref03_digit.f l (i : Int) = some (dg l i) := by
  unfold rowlockref03_digit.f dg
  by_cases h : (i : Int) < (l.length : Int)
  · rw [if_pos h, if_pos (by omega)]; unfold rd; rw [Int.toNat_natCast]
  · rw [if_neg h, List.getD_eq_getElem?_getD, List.getElem?_eq_none (by omega)]; rfl
theorem less_l0 {a b : List Int} (ha : Dg a) (hb : Dg b) (s t : Int) (hl : a.length ≤ 140737488351232) (hl2 : b.length ≤ 140737488351232) : ∀ m : Nat, m ≤ 140737488351232 → T a m = T b m →
    Ev (fun k => rowlockref03_Less.l0 k ((m : Int) - 1) s a t b) (decide (val a < val b)) := by
  intro m
  induction m with
  | zero =>
    intro _ h
    refine Ev.step (f := fun _ => some (decide (val a < val b))) (fun k => ?_) (Ev.now _)
    simp only [rowlockref03_Less.l0]
    rw [if_neg (by omega)]
    have : ¬ val a < val b := by have h' : val a = val b := h; omega
    simp [this]
  | succ m ih =>
    intro hm h
    have e1 := T_step a m; have e2 := T_step b m
    have r1 := dg_range ha m; have r2 := dg_range hb m
    by_cases hd : dg a m = dg b m
    · refine Ev.step (f := fun k => rowlockref03_Less.l0 k ((m : Int) - 1) s a t b) (fun k => ?_) (ih (by omega) (by omega))
      simp only [rowlockref03_Less.l0]
      rw [if_pos (by omega), show ((m + 1 : Nat) : Int) - 1 = (m : Int) by omega, digit_is, digit_is]
      simp only [Option.bind_some]
      rw [if_pos hd, show wrap64 ((m : Int) - 1) = (m : Int) - 1 by unfold wrap64; omega]
    · refine Ev.step (f := fun _ => some (decide (val a < val b))) (fun k => ?_) (Ev.now _)
      simp only [rowlockref03_Less.l0]
      rw [if_pos (by omega), show ((m + 1 : Nat) : Int) - 1 = (m : Int) by omega, digit_is, digit_is]
      simp only [Option.bind_some]
      rw [if_neg hd]
      congr 1
      rw [decide_eq_decide]
      constructor
      · intro hlt; exact lt_down ha hb m (by omega)
      · intro hlt
        rcases Int.lt_trichotomy (dg a m) (dg b m) with h1 | h1 | h1
        · exact h1
        · exact absurd h1 hd
        · have := lt_down hb ha m (by omega); omega
theorem less_is {a b : List Int} (ha : Dg a) (hb : Dg b) (s t : Int) (hl : a.length ≤ 140737488351232) (hl2 : b.length ≤ 140737488351232) :
    Ev (fun k => rowlockref03_Less.f k s a t b) (decide (val a < val b)) := by
  unfold rowlockref03_Less.f
  by_cases h : (a.length : Int) < (b.length : Int)
  · refine Ev.congr (f := fun k => rowlockref03_Less.l0 k ((b.length : Int) - 1) s a t b) (fun k => ?_) (less_l0 ha hb s t hl hl2 b.length hl2 (by rw [T_end _ _ (by omega), T_end _ _ (Nat.le_refl _)]))
    rw [if_pos h, show wrap64 ((b.length : Int) - 1) = (b.length : Int) - 1 by unfold wrap64; omega]
  · refine Ev.congr (f := fun k => rowlockref03_Less.l0 k ((a.length : Int) - 1) s a t b) (fun k => ?_) (less_l0 ha hb s t hl hl2 a.length hl (by rw [T_end _ _ (by omega), T_end _ _ (by omega)]))
    rw [if_neg h, show wrap64 ((a.length : Int) - 1) = (a.length : Int) - 1 by unfold wrap64; omega]
theorem td (x : Int) (h : 0 ≤ x) : Int.tdiv x 65536 = x / 65536 := Int.tdiv_eq_ediv_of_nonneg h
theorem tm (x : Int) (h : 0 ≤ x) : Int.tmod x 65536 = x % 65536 := Int.tmod_eq_emod_of_nonneg h
theorem size_round {a b : List Int} (ha : Dg a) (hb : Dg b) (s t : Int) (k : Nat) (out : List Int) (c : Int) (i : Nat) (hc : 0 ≤ c ∧ c ≤ 1) (hi : i ≤ 140737488351232) (ho : out.length < 17592186044416) :
    rowlockref03_size.j1 (k + 1) out c (i : Int) true s a t b = rowlockref03_size.l0 k (out ++ [(dg a i + dg b i + c) % 65536]) ((dg a i + dg b i + c) / 65536) ((i + 1 : Nat) : Int) s a t b := by
  have r1 := dg_range ha i; have r2 := dg_range hb i
  simp only [rowlockref03_size.j1, if_true, digit_is, Option.bind_some, u64w]
  rw [if_pos ho, show ((dg a i + dg b i) % 18446744073709551616 + c) % 18446744073709551616 = dg a i + dg b i + c by omega, td _ (by omega), tm _ (by omega), show (dg a i + dg b i + c) / 65536 % 18446744073709551616 = (dg a i + dg b i + c) / 65536 by omega,
    show wrap64 ((i : Int) + 1) = ((i + 1 : Nat) : Int) by unfold wrap64; omega]
theorem size_l0 {a b : List Int} (ha : Dg a) (hb : Dg b) (s t : Int) (N : Nat) (hN : N ≤ 17592186044000) (hl : a.length ≤ N) (hl2 : b.length ≤ N) : ∀ (d : Nat) (out : List Int) (c : Int) (i : Nat), d = N - i → i ≤ N → out.length = i → 0 ≤ c ∧ c ≤ 1 →
    ∃ rest, Ev (fun k => rowlockref03_size.l0 k out c (i : Int) s a t b) (1, out ++ rest) ∧ Dg rest ∧ val rest = T a i + T b i + c ∧ i + rest.length ≤ N + 1 := by
  have stop : ∀ (out : List Int) (i : Nat), a.length ≤ i → b.length ≤ i → Ev (fun k => rowlockref03_size.l0 k out 0 (i : Int) s a t b) (1, out) := by
    intro out i h1 h2
    refine Ev.step (f := fun k => rowlockref03_size.j1 k out 0 (i : Int) false s a t b) (fun k => ?_) (Ev.step (f := fun _ => some (1, out)) (fun k => ?_) (Ev.now _))
    · simp only [rowlockref03_size.l0]
      rw [if_neg (by omega), if_neg (by omega)]; simp
    · simp [rowlockref03_size.j1]
  intro d
  induction d with
  | zero =>
    intro out c i hd hi ho hc
    by_cases h0 : (i : Int) < a.length ∨ (i : Int) < b.length
    · omega
    · by_cases hc0 : c = 0
      · subst hc0
        exact ⟨[], by rw [List.append_nil]; exact stop out i (by omega) (by omega), fun _ h => (by cases h), by rw [T_end _ _ (by omega), T_end _ _ (by omega)]; rfl, by simp; omega⟩
      · have hc1 : c = 1 := by omega
        subst hc1
        have e1 : dg a i = 0 := by have := T_step a i; have := T_end a i (by omega); have := T_end a (i+1) (by omega); omega
        have e2 : dg b i = 0 := by have := T_step b i; have := T_end b i (by omega); have := T_end b (i+1) (by omega); omega
        refine ⟨[1], ?_, fun x hx => by simp at hx; subst hx; decide, by rw [T_end _ _ (by omega), T_end _ _ (by omega)]; rfl, by simp; omega⟩
        refine Ev.step (f := fun k => rowlockref03_size.j1 k out 1 (i : Int) true s a t b) (fun k => ?_) (Ev.step (f := fun k => rowlockref03_size.l0 k (out ++ [1]) 0 ((i + 1 : Nat) : Int) s a t b) (fun k => ?_) (stop _ _ (by omega) (by omega)))
        · simp only [rowlockref03_size.l0]
          rw [if_neg (by omega), if_neg (by omega)]; simp
        · rw [size_round ha hb s t k out 1 i (by omega) (by omega) (by omega), e1, e2]; rfl
  | succ d ih =>
    intro out c i hd hi ho hc
    have r1 := dg_range ha i; have r2 := dg_range hb i
    have t1 := T_step a i; have t2 := T_step b i
    by_cases h0 : (i : Int) < a.length ∨ (i : Int) < b.length ∨ c > 0
    · obtain ⟨rest, he, hr, hv, hlen⟩ := ih (out ++ [(dg a i + dg b i + c) % 65536]) ((dg a i + dg b i + c) / 65536) (i + 1) (by omega) (by omega) (by simp [ho]) (by omega)
      refine ⟨(dg a i + dg b i + c) % 65536 :: rest, ?_, fun x hx => ?_, by simp only [val]; omega, by simp; omega⟩
      · refine Ev.step (f := fun k => rowlockref03_size.j1 k out c (i : Int) true s a t b) (fun k => ?_) (Ev.step (f := fun k => rowlockref03_size.l0 k (out ++ [(dg a i + dg b i + c) % 65536]) ((dg a i + dg b i + c) / 65536) ((i + 1 : Nat) : Int) s a t b) (fun k => ?_) (by simpa using he))
        · simp only [rowlockref03_size.l0]
          by_cases h1 : (i : Int) < a.length
          · rw [if_pos h1]
          · by_cases h2 : (i : Int) < b.length
            · rw [if_neg h1, if_pos h2]
            · rw [if_neg h1, if_neg h2, decide_eq_true (by omega)]
        · exact size_round ha hb s t k out c i hc (by omega) (by omega)
      · rcases List.mem_cons.1 hx with rfl | hx
        · omega
        · exact hr x hx
    · have hc0 : c = 0 := by omega
      subst hc0
      exact ⟨[], by rw [List.append_nil]; exact stop out i (by omega) (by omega), fun _ h => (by cases h), by rw [T_end _ _ (by omega), T_end _ _ (by omega)]; rfl, by simp; omega⟩
theorem size_is {a b : List Int} (ha : Dg a) (hb : Dg b) (s t : Int) (N : Nat) (hN : N ≤ 17592186044000) (hl : a.length ≤ N) (hl2 : b.length ≤ N) :
    ∃ r, Ev (fun k => rowlockref03_size.f k s a t b) (1, r) ∧ Dg r ∧ val r = val a + val b ∧ r.length ≤ N + 1 := by
  obtain ⟨rest, he, hr, hv, hlen⟩ := size_l0 ha hb s t N hN hl hl2 (N - 0) [] 0 0 rfl (by omega) rfl (by decide)
  have he2 : Ev (fun k => rowlockref03_size.l0 k [] 0 0 s a t b) (1, rest) := by simpa using he
  exact ⟨rest, he2, hr, by rw [hv, T_zero, T_zero]; omega, by omega⟩
theorem apart_l0 {a b : List Int} (ha : Dg a) (hb : Dg b) (s t : Int) (hl : a.length ≤ 17592186044000) : ∀ (d : Nat) (out : List Int) (c : Int) (i : Nat), d = a.length - i → i ≤ a.length → out.length = i → 0 ≤ c ∧ c ≤ 1 → T b i + c ≤ T a i →
    ∃ rest, Ev (fun k => rowlockref03_apart.l0 k out c (a.length : Int) (i : Int) s a t b) (1, out ++ rest) ∧ Dg rest ∧ val rest = T a i - T b i - c ∧ i + rest.length = a.length := by
  intro d
  induction d with
  | zero =>
    intro out c i hd hi ho hc hle
    have hia : i = a.length := by omega
    have e1 := T_end a i (by omega); have e2 := T_nonneg hb i
    refine ⟨[], ?_, fun _ h => (by cases h), by simp only [val]; omega, by simp; omega⟩
    rw [List.append_nil]
    refine Ev.step (f := fun _ => some (1, out)) (fun k => ?_) (Ev.now _)
    simp only [rowlockref03_apart.l0]
    rw [if_neg (by omega)]
  | succ d ih =>
    intro out c i hd hi ho hc hle
    have r1 := dg_range ha i; have r2 := dg_range hb i
    have t1 := T_step a i; have t2 := T_step b i
    obtain ⟨rest, he, hr, hv, hlen⟩ := ih (out ++ [(dg a i + 65536 - dg b i - c) % 65536]) (1 - (dg a i + 65536 - dg b i - c) / 65536) (i + 1) (by omega) (by omega) (by simp [ho]) (by omega) (by omega)
    refine ⟨(dg a i + 65536 - dg b i - c) % 65536 :: rest, ?_, fun x hx => ?_, by simp only [val]; omega, by simp; omega⟩
    · refine Ev.step (f := fun k => rowlockref03_apart.l0 k (out ++ [(dg a i + 65536 - dg b i - c) % 65536]) (1 - (dg a i + 65536 - dg b i - c) / 65536) (a.length : Int) ((i + 1 : Nat) : Int) s a t b) (fun k => ?_) (by simpa using he)
      simp only [rowlockref03_apart.l0]
      rw [if_pos (by omega), if_pos (by omega), if_pos (by omega), digit_is]
      simp only [Option.bind_some, u64w]
      have erd : rd a (i : Int) = dg a i := by unfold rd dg; rw [Int.toNat_natCast]
      rw [if_pos (by omega), erd, show (((dg a i + 65536) % 18446744073709551616 - dg b i) % 18446744073709551616 - c) % 18446744073709551616 = dg a i + 65536 - dg b i - c by omega, td _ (by omega), tm _ (by omega),
        show (1 - (dg a i + 65536 - dg b i - c) / 65536 % 18446744073709551616) % 18446744073709551616 = 1 - (dg a i + 65536 - dg b i - c) / 65536 by omega, show wrap64 ((i : Int) + 1) = ((i + 1 : Nat) : Int) by unfold wrap64; omega]
    · rcases List.mem_cons.1 hx with rfl | hx
      · omega
      · exact hr x hx
theorem apart_is {a b : List Int} (ha : Dg a) (hb : Dg b) (s t : Int) (hl : a.length ≤ 17592186044000) (h : val b ≤ val a) :
    ∃ r, Ev (fun k => rowlockref03_apart.f k s a t b) (1, r) ∧ Dg r ∧ val r = val a - val b ∧ r.length = a.length := by
  obtain ⟨rest, he, hr, hv, hlen⟩ := apart_l0 ha hb s t hl (a.length - 0) [] 0 0 rfl (by omega) rfl (by decide) (by rw [T_zero, T_zero]; omega)
  have he2 : Ev (fun k => rowlockref03_apart.l0 k [] 0 (a.length : Int) 0 s a t b) (1, rest) := by simpa using he
  exact ⟨rest, he2, hr, by rw [hv, T_zero, T_zero]; omega, by omega⟩
/-- (s, d) tells v, with at most n digits. -/
def Tells (s : Int) (d : List Int) (v : Int) (n : Nat) : Prop := (s = 1 ∧ val d = v ∨ s = -1 ∧ val d = -v) ∧ Dg d ∧ d.length ≤ n
theorem plus_tells {s t : Int} {a b : List Int} {x y : Int} {n : Nat} (hn : n ≤ 17592186043000) (h : Tells s a x n) (k : Tells t b y n) : ∃ u d, Ev (fun k => rowlockref03_Plus.f k s a t b) (u, d) ∧ Tells u d (x + y) (n + 1) := by
  obtain ⟨h1, ha, hl⟩ := h
  obtain ⟨k1, hb, hl2⟩ := k
  unfold rowlockref03_Plus.f
  by_cases e : s = t
  · obtain ⟨r, he, hr, hv, hlen⟩ := size_is ha hb s t n (by omega) hl hl2
    refine ⟨s, r, ?_, by omega, hr, hlen⟩
    refine Ev.congr (f := fun k => (rowlockref03_size.f k s a t b).bind fun z => some (s, z.2)) (fun k => by rw [if_pos e]) ?_
    exact Ev.bind he (Ev.now _)
  · by_cases hlt : val a < val b
    · obtain ⟨r, he, hr, hv, hlen⟩ := apart_is hb ha t s (by omega) (by omega)
      refine ⟨t, r, ?_, by omega, hr, by omega⟩
      refine Ev.congr (f := fun k => (rowlockref03_Less.f k s a t b).bind fun z => if z = true then ((rowlockref03_apart.f k t b s a).bind fun z => some (t, z.2)) else ((rowlockref03_apart.f k s a t b).bind fun z => some (s, z.2))) (fun k => by rw [if_neg e]) ?_
      refine Ev.bind (less_is ha hb s t (by omega) (by omega)) ?_
      simp only [hlt, decide_true, if_true]
      exact Ev.bind he (Ev.now _)
    · obtain ⟨r, he, hr, hv, hlen⟩ := apart_is ha hb s t (by omega) (by omega)
      refine ⟨s, r, ?_, by omega, hr, by omega⟩
      refine Ev.congr (f := fun k => (rowlockref03_Less.f k s a t b).bind fun z => if z = true then ((rowlockref03_apart.f k t b s a).bind fun z => some (t, z.2)) else ((rowlockref03_apart.f k s a t b).bind fun z => some (s, z.2))) (fun k => by rw [if_neg e]) ?_
      refine Ev.bind (less_is ha hb s t (by omega) (by omega)) ?_
      simp only [hlt, decide_false, Bool.false_eq_true, if_false]
      exact Ev.bind he (Ev.now _)
theorem whole_round (k : Nat) (x : Int) (out : List Int) (i : Int) (h0 : 0 ≤ x) (h1 : x < 18446744073709551616) (ho : out.length ≤ 4) (hi : 0 ≤ i ∧ i < 4) : rowlockref03_Whole.l0 (k + 1) x out i = rowlockref03_Whole.l0 k (x / 65536) (out ++ [x % 65536]) (i + 1) := by
  simp only [rowlockref03_Whole.l0]
  rw [if_pos hi.2, if_pos (by omega), u64w, td _ h0, tm _ h0, show x / 65536 % 18446744073709551616 = x / 65536 by omega, show wrap64 (i + 1) = i + 1 by unfold wrap64; omega]
theorem whole_tells (x : Int) (h0 : 0 ≤ x) (h1 : x < 18446744073709551616) : ∃ d, Ev (fun k => rowlockref03_Whole.f k x) (1, d) ∧ Tells 1 d x 4 := by
  refine ⟨[x % 65536, x / 65536 % 65536, x / 65536 / 65536 % 65536, x / 65536 / 65536 / 65536 % 65536], ⟨5, fun k hk => ?_⟩, .inl ⟨rfl, by simp only [val]; omega⟩, fun z hz => ?_, by simp⟩
  · obtain ⟨k, rfl⟩ : ∃ m, k = m + 5 := ⟨k - 5, by omega⟩
    show rowlockref03_Whole.l0 (k + 4 + 1) x [] 0 = _
    rw [whole_round (k + 4) x [] 0 h0 h1 (by simp) (by decide), whole_round (k + 3) (x / 65536) _ _ (by omega) (by omega) (by simp) (by decide), whole_round (k + 2) (x / 65536 / 65536) _ _ (by omega) (by omega) (by simp) (by decide), whole_round (k + 1) (x / 65536 / 65536 / 65536) _ _ (by omega) (by omega) (by simp) (by decide)]
    simp [rowlockref03_Whole.l0]
  · simp at hz; rcases hz with rfl | rfl | rfl | rfl <;> omega
theorem of_tells (x : Int) (h : I64 x) : ∃ s d, Ev (fun k => rowlockref03_Of.f k x) (s, d) ∧ Tells s d x 5 := by
  obtain ⟨h0, h1⟩ := h
  unfold rowlockref03_Of.f
  by_cases hx : x ≥ 0
  · obtain ⟨d, he, ht⟩ := whole_tells x hx (by omega)
    refine ⟨1, d, ?_, ht.1, ht.2.1, by have := ht.2.2; omega⟩
    refine Ev.congr (f := fun k => (rowlockref03_Whole.f k x).bind fun z => some (z.1, z.2)) (fun k => by rw [if_pos hx, u64w, show x % 18446744073709551616 = x by omega]) ?_
    exact Ev.bind he (Ev.now _)
  · obtain ⟨d, he, ht⟩ := whole_tells (-(x + 1)) (by omega) (by omega)
    obtain ⟨d1, he1, ht1⟩ := whole_tells 1 (by omega) (by omega)
    obtain ⟨r, her, hr, hv, hlen⟩ := size_is ht.2.1 ht1.2.1 1 1 4 (by omega) ht.2.2 ht1.2.2
    have v0 := ht.1; have v1 := ht1.1
    refine ⟨-1, r, ?_, .inr ⟨rfl, by omega⟩, hr, by omega⟩
    refine Ev.congr (f := fun k => (rowlockref03_Whole.f k (-(x + 1))).bind fun z => (rowlockref03_Whole.f k 1).bind fun z1 => (rowlockref03_size.f k z.1 z.2 z1.1 z1.2).bind fun z2 => some (-1, z2.2)) (fun k => by
      rw [if_neg hx, u64w, show wrap64 (-wrap64 (x + 1)) % 18446744073709551616 = -(x + 1) by unfold wrap64; omega]) ?_
    exact Ev.bind he (Ev.bind he1 (Ev.bind her (Ev.now _)))
theorem right_l0 {d : List Int} (hd : Dg d) (s : Int) (hl : d.length ≤ 140737488351232) (hv : val d ≤ 9223372036854775808) : ∀ m : Nat, m ≤ d.length →
    Ev (fun k => rowlockref03_Right.l0 k (-(T d m)) ((m : Int) - 1) s d) (if s > 0 then (wrap64 (val d), true) else (-(val d), true)) := by
  intro m
  induction m with
  | zero =>
    intro _
    refine Ev.step (f := fun _ => some (if s > 0 then (wrap64 (val d), true) else (-(val d), true))) (fun k => ?_) (Ev.now _)
    simp only [rowlockref03_Right.l0]
    rw [if_neg (by omega), T_zero, Int.neg_neg]
    split <;> rfl
  | succ m ih =>
    intro hm
    have e := T_step d m; have r := dg_range hd m; have t0 := T_nonneg hd (m + 1); have t1 := T_le hd m
    refine Ev.step (f := fun k => rowlockref03_Right.l0 k (-(T d m)) ((m : Int) - 1) s d) (fun k => ?_) (ih (by omega))
    simp only [rowlockref03_Right.l0]
    have erd : rd d (m : Int) = dg d m := by unfold rd dg; rw [Int.toNat_natCast]
    rw [if_pos (by omega), if_pos (by omega), if_pos (by omega), show ((m + 1 : Nat) : Int) - 1 = (m : Int) by omega, erd, show wrap64 ((m : Int) - 1) = (m : Int) - 1 by unfold wrap64; omega,
      show wrap64 (wrap64 (-T d (m + 1) * 65536) - wrap64 (dg d m)) = -(T d m) by unfold wrap64; omega]
def answer (n : Int) : Int × Bool := if -9223372036854775808 ≤ n ∧ n ≤ 9223372036854775807 then (n, true) else (0, false)
theorem right_tells {s : Int} {d : List Int} {v : Int} {n : Nat} (hn : n ≤ 140737488351232) (h : Tells s d v n) : Ev (fun k => rowlockref03_Right.f k s d) (answer v) := by
  obtain ⟨h1, hd, hl⟩ := h
  have htop : Dg [0, 0, 0, 32768] := by intro x hx; simp at hx; rcases hx with rfl | rfl <;> decide
  have hvt : val [0, 0, 0, 32768] = 9223372036854775808 := by decide
  have hv0 := val_nonneg hd
  unfold rowlockref03_Right.f
  simp only [Option.bind_some]
  have after : Ev (fun k => rowlockref03_Right.j0 k (decide (9223372036854775808 < val d)) s d) (if 9223372036854775808 < val d then (0, false) else if s > 0 then (wrap64 (val d), true) else (-(val d), true)) := by
    by_cases hb : 9223372036854775808 < val d
    · refine Ev.step (f := fun _ => some (0, false)) (fun k => ?_) (by rw [if_pos hb]; exact Ev.now _)
      simp only [rowlockref03_Right.j0, decide_eq_true hb, if_true]
    · have := right_l0 hd s (by omega) (by omega) d.length (Nat.le_refl _)
      rw [T_end _ _ (Nat.le_refl _)] at this
      refine Ev.step (f := fun k => rowlockref03_Right.l0 k (-0) ((d.length : Int) - 1) s d) (fun k => ?_) (by rw [if_neg hb]; exact this)
      simp only [rowlockref03_Right.j0, decide_eq_false hb, Bool.false_eq_true, if_false]
      rw [show wrap64 ((d.length : Int) - 1) = (d.length : Int) - 1 by unfold wrap64; omega]; rfl
  have lt2 := less_is htop hd 1 s (by simp) (by omega)
  rw [hvt] at lt2
  by_cases hs : s > 0
  · have lt1 := less_is hd htop s 1 (by omega) (by simp)
    rw [hvt] at lt1
    refine Ev.congr (f := fun k => (rowlockref03_Less.f k s d 1 [0, 0, 0, 32768]).bind fun t => if t = true then ((rowlockref03_Less.f k 1 [0, 0, 0, 32768] s d).bind fun t => rowlockref03_Right.j0 k t s d) else rowlockref03_Right.j0 k true s d) (fun k => by rw [if_pos hs]) ?_
    refine Ev.bind lt1 ?_
    by_cases hb : val d < 9223372036854775808
    · simp only [hb, decide_true, if_true]
      have := Ev.bind (f := fun k t => rowlockref03_Right.j0 k t s d) lt2 after
      rw [if_neg (by omega), if_pos hs] at this
      unfold answer
      rw [if_pos (by omega)]
      rw [show wrap64 (val d) = v by unfold wrap64; omega] at this
      exact this
    · simp only [hb, decide_false, Bool.false_eq_true, if_false]
      refine Ev.step (f := fun _ => some (answer v)) (fun k => ?_) (Ev.now _)
      unfold answer
      rw [if_neg (by omega)]
      simp [rowlockref03_Right.j0]
  · refine Ev.congr (f := fun k => (rowlockref03_Less.f k 1 [0, 0, 0, 32768] s d).bind fun t => rowlockref03_Right.j0 k t s d) (fun k => by rw [if_neg hs]) ?_
    have := Ev.bind (f := fun k t => rowlockref03_Right.j0 k t s d) lt2 after
    unfold answer
    by_cases hb : 9223372036854775808 < val d
    · rw [if_neg (by omega)]
      rw [if_pos hb] at this; exact this
    · rw [if_pos (by omega)]
      rw [if_neg hb, if_neg hs, show -(val d) = v by omega] at this; exact this

-- SAID The sum of any numbers, by a register of 128 bits and by digits, in any turn, is the same: the pure statement of CalcSum.
theorem ref_sum_l0 (l : List Int) (hl : l.length ≤ 1000) (hI : ∀ x ∈ l, I64 x) : ∀ (suf pre : List Int) (s : Int) (d : List Int) (v : Int), l = pre ++ suf → Tells s d v (pre.length + 5) →
    Ev (fun k => rowlockref03_Sum.l0 k l (l.length : Int) (pre.length : Int) s d) (answer (v + tot suf)) := by
  intro suf
  induction suf with
  | nil =>
    intro pre s d v hp ht
    rw [List.append_nil] at hp
    have h := right_tells (by subst hp; omega) ht
    refine Ev.step (f := fun k => (rowlockref03_Right.f k s d).bind fun z => some (z.1, z.2)) (fun k => ?_) ?_
    · simp only [rowlockref03_Sum.l0]
      rw [if_neg (by rw [hp]; omega)]
    · rw [show v + tot [] = v by simp [tot]]
      exact Ev.bind (f := fun k (z : Int × Bool) => some (z.1, z.2)) h (Ev.now _)
  | cons x suf ih =>
    intro pre s d v hp ht
    have hlen : l.length = pre.length + suf.length + 1 := by rw [hp]; simp; omega
    obtain ⟨t, e, he, hx⟩ := of_tells x (hI x (by rw [hp]; simp))
    have hx' : Tells t e x (pre.length + 5) := ⟨hx.1, hx.2.1, by have := hx.2.2; omega⟩
    obtain ⟨u, w, hw, hu⟩ := plus_tells (by omega) ht hx'
    have h := ih (pre ++ [x]) u w (v + x) (by rw [hp]; simp) ⟨hu.1, hu.2.1, by have := hu.2.2; simp only [List.length_append, List.length_singleton]; omega⟩
    refine Ev.step (f := fun k => (rowlockref03_Of.f k x).bind fun z => (rowlockref03_Plus.f k s d z.1 z.2).bind fun z => rowlockref03_Sum.l0 k l (l.length : Int) ((pre ++ [x]).length : Int) z.1 z.2) (fun k => ?_) ?_
    · simp only [rowlockref03_Sum.l0]
      rw [if_pos (by omega), if_pos (by omega), if_pos (by omega), show rd l (pre.length : Int) = x by rw [hp]; exact rd_mid _ _ _,
        show wrap64 ((pre.length : Int) + 1) = ((pre ++ [x]).length : Int) by simp only [List.length_append, List.length_singleton]; unfold wrap64; omega]
    · rw [show v + tot (x :: suf) = v + x + tot suf by simp only [tot]; omega]
      exact Ev.bind he (Ev.bind hw h)
theorem ref_sum_is (l : List Int) (hl : l.length ≤ 1000) (hI : ∀ x ∈ l, I64 x) : Ev (fun k => rowlockref03_Sum.f k l) (answer (tot l)) := by
  obtain ⟨d, he, ht⟩ := whole_tells 0 (by decide) (by decide)
  have h := ref_sum_l0 l hl hI l [] 1 d 0 rfl ⟨ht.1, ht.2.1, by have := ht.2.2; simp; omega⟩
  rw [Int.zero_add] at h
  exact Ev.bind (f := fun k (z : Int × List Int) => rowlockref03_Sum.l0 k l (l.length : Int) 0 z.1 z.2) he h
theorem fixed_is : Ev (fun k => rowlocklaw03_fixed.f k) true := Ev.of (rowlocklaw03_fixed.mono) (k := 10) (by decide +kernel)
theorem CalcSum : rowlocklaw03_CalcSum.Pure := by
  intro l a hm _ hw ha
  have hI : ∀ x ∈ l, I64 x := fun x hx => i64_of (hw x hx)
  have ha' : 0 ≤ a ∧ a ≤ 255 := by simpa [Lit.wf, IntKind.min, IntKind.max, IntKind.signed, IntKind.bits] using ha
  refine Ev.rounds (r := true) ?_
  unfold rowlocklaw03_CalcSum.f
  by_cases h500 : (l.length : Int) > 500
  · refine Ev.congr (f := fun k => rowlocklaw03_CalcSum.j0 k l a true) (fun k => by rw [if_pos h500]) (Ev.step (f := fun k => (rowlocklaw03_fixed.f k).bind fun t => some t) (fun k => by simp [rowlocklaw03_CalcSum.j0]) ?_)
    exact Ev.bind (f := fun k t => some t) fixed_is (Ev.now _)
  · by_cases h0 : (l.length : Int) = 0
    · refine Ev.congr (f := fun k => rowlocklaw03_CalcSum.j0 k l a true) (fun k => by rw [if_neg h500, h0]; rfl) (Ev.step (f := fun k => (rowlocklaw03_fixed.f k).bind fun t => some t) (fun k => by simp [rowlocklaw03_CalcSum.j0]) ?_)
      exact Ev.bind (f := fun k t => some t) fixed_is (Ev.now _)
    · have s1 := sum_is l (by omega) hI
      have s2 := ref_sum_is l (by omega) hI
      have ej : Int.tmod (wrap64 a) (l.length : Int) = ((a.toNat % l.length : Nat) : Int) := by
        rw [show wrap64 a = a by unfold wrap64; omega, Int.tmod_eq_emod_of_nonneg ha'.1]
        obtain ⟨n, rfl⟩ := Int.eq_ofNat_of_zero_le ha'.1
        rw [Int.toNat_natCast]
        exact (Int.natCast_emod n l.length).symm
      have hj : a.toNat % l.length < l.length := Nat.mod_lt _ (by omega)
      have hd : (l.drop (a.toNat % l.length)).length ≤ l.length := by simp
      have ht : (l.take (a.toNat % l.length)).length ≤ l.length := by rw [List.length_take]; omega
      have s3 := sum_is (l.drop (a.toNat % l.length) ++ l.take (a.toNat % l.length)) (by rw [List.length_append]; omega) (fun x hx => by
        rcases List.mem_append.1 hx with hx | hx
        · exact hI x (List.mem_of_mem_drop hx)
        · exact hI x (List.mem_of_mem_take hx))
      have et : tot (l.drop (a.toNat % l.length) ++ l.take (a.toNat % l.length)) = tot l := by
        conv => rhs; rw [← List.take_append_drop (a.toNat % l.length) l]
        rw [tot_append, tot_append]; omega
      rw [et] at s3
      refine Ev.congr (f := fun k => rowlocklaw03_CalcSum.j0 k l a false) (fun k => by rw [if_neg h500, beq_eq_false_iff_ne.2 h0]) (Ev.step (f := fun k => (calc_Sum.f k l).bind fun z => (rowlockref03_Sum.f k l).bind fun y => (calc_Sum.f k (l.drop (a.toNat % l.length) ++ l.take (a.toNat % l.length))).bind fun x => (rowlocklaw03_fixed.f k).bind fun t =>
        if t = true then (if z.1 = y.1 then (if (z.2 == y.2) = true then (if x.1 = z.1 then some (x.2 == z.2) else some false) else some false) else some false) else some false) (fun k => ?_) ?_)
      · simp only [rowlocklaw03_CalcSum.j0]
        have c1 : (0 : Int) ≤ ((a.toNat % l.length : Nat) : Int) := by omega
        have c2 : ((a.toNat % l.length : Nat) : Int) ≤ (l.length : Int) := by omega
        have c3 : ([] : List Int).length + (l.drop (a.toNat % l.length)).length < 17592186044416 := by simp only [List.length_nil]; omega
        have c4 : (l.drop (a.toNat % l.length)).length + (l.take (a.toNat % l.length)).length < 17592186044416 := by omega
        simp only [ej, Int.toNat_natCast, h0, c1, c2, c3, c4, if_true, if_false, Option.bind_some, List.nil_append, Bool.false_eq_true]
      · refine Ev.bind s1 (Ev.bind s2 (Ev.bind s3 (Ev.bind fixed_is ?_)))
        refine Ev.congr (f := fun _ => some true) (fun k => ?_) (Ev.now _)
        simp [right, answer]

end Go.Proofs.Ytneihjdkaogkiaa.Pure
