/- Texts as tokens: the lexer as plain functions; what stands behind a token changes it not (the session's own words). -/
import Derived.Test.YtcdeidljcmlfdaaDoorEna
namespace Go.Eng
set_option linter.unusedVariables false
set_option linter.unusedSimpArgs false
/-- a blank -/
def isBl (c : UInt8) : Bool := c == 32 || c == 9 || c == 10 || c == 13
/-- without the blanks ahead -/
def trimB (l : List UInt8) : List UInt8 := l.dropWhile isBl
/-- a byte of a word, a name, a number -/
def isRun (c : UInt8) : Bool := (97 ≤ c && c ≤ 122) || (65 ≤ c && c ≤ 90) || (48 ≤ c && c ≤ 57) || c == 95
/-- the text behind a quote, and how many bytes it takes with the quote at its end -/
def quo : List UInt8 → Option (List UInt8 × Nat)
  | [] => none
  | c :: l => if c = 39 then (match l with
      | [] => some ([], 1)
      | d :: l' => if d = 39 then (quo l').map fun p => (39 :: p.1, p.2 + 2) else some ([], 1))
    else (quo l).map fun p => (c :: p.1, p.2 + 1)
/-- a sign of one byte: (),.*+-=<> -/
def isSg (c : UInt8) : Bool := c == 40 || c == 41 || c == 44 || c == 46 || c == 42 || c == 43 || c == 45 || c == 61 || c == 60 || c == 62
/-- two bytes that are one sign -/
def isTwo (c d : UInt8) : Bool := (c == 60 && d == 61) || (c == 62 && d == 61) || (c == 60 && d == 62)
/-- a token as it is read: its kind, its text, how many bytes it takes, the error's number -/
structure Nx where
  k : Int
  t : List UInt8
  n : Nat
  e : Int
section
variable (pk pe : List UInt8 → Int)
def nxt (l : List UInt8) : Nx :=
  match l with
  | [] => ⟨0, [], 0, 11⟩
  | c :: l' =>
    if c = 39 then (match quo l' with
      | none => ⟨4, [], 0, 11⟩
      | some (t, n) => if 48 < t.length then ⟨4, [], 0, 4⟩ else ⟨4, t, n + 1, 0⟩)
    else if isRun c = true then (let r := (c :: l').takeWhile isRun; ⟨pk r, r, r.length, pe r⟩)
    else match l' with
      | d :: _ => if isTwo c d = true then ⟨5, [c, d], 2, 0⟩ else if isSg c = true then ⟨5, [c], 1, 0⟩ else ⟨0, [], 0, 11⟩
      | [] => if isSg c = true then ⟨5, [c], 1, 0⟩ else ⟨0, [], 0, 11⟩
/-- a token, and where it stands -/
structure Tk where
  k : Int
  t : List UInt8
  a : Nat
  deriving DecidableEq
/-- the tokens of a text that stands at a place, behind so many; the error's number -/
def tkz : Nat → List UInt8 → Nat → Nat → List Tk × Int
  | 0, _, _, _ => ([], 99)
  | f + 1, l, a, c =>
    if trimB l = [] then ([⟨0, [], a + l.length⟩], 0)
    else if c = 1000 then ([], 15)
    else if (nxt pk pe (trimB l)).e ≠ 0 then ([], (nxt pk pe (trimB l)).e)
    else if (tkz f ((trimB l).drop (nxt pk pe (trimB l)).n) (a + (l.length - (trimB l).length) + (nxt pk pe (trimB l)).n) (c + 1)).2 ≠ 0 then ([], (tkz f ((trimB l).drop (nxt pk pe (trimB l)).n) (a + (l.length - (trimB l).length) + (nxt pk pe (trimB l)).n) (c + 1)).2)
    else (⟨(nxt pk pe (trimB l)).k, (nxt pk pe (trimB l)).t, a + (l.length - (trimB l).length)⟩ :: (tkz f ((trimB l).drop (nxt pk pe (trimB l)).n) (a + (l.length - (trimB l).length) + (nxt pk pe (trimB l)).n) (c + 1)).1, 0)
end
/-! ### what stands behind a token -/
/-- what may stand there: a blank, or what stood there -/
def okY (l : List UInt8) (n : Nat) (y : List UInt8) : Prop := ∀ d ∈ y.head?, d = 32 ∨ l[n]? = some d
theorem quo_nil : quo [] = none := by unfold quo; rfl
theorem quo_c {c : UInt8} (l : List UInt8) (h : c ≠ 39) : quo (c :: l) = (quo l).map fun p => (c :: p.1, p.2 + 1) := by conv => lhs; unfold quo; simp only [if_neg h]
theorem quo_1 : quo [39] = some ([], 1) := by unfold quo; rfl
theorem quo_2 (l : List UInt8) : quo (39 :: 39 :: l) = (quo l).map fun p => (39 :: p.1, p.2 + 2) := by conv => lhs; unfold quo; simp only [if_true]
theorem quo_3 {d : UInt8} (l : List UInt8) (h : d ≠ 39) : quo (39 :: d :: l) = some ([], 1) := by unfold quo; simp [h]
theorem quo_len : ∀ (m : Nat) (l : List UInt8) (t : List UInt8) (n : Nat), l.length ≤ m → quo l = some (t, n) → 1 ≤ n ∧ n ≤ l.length ∧ l[n - 1]? = some 39 ∧ t.length < n
  | m, [], t, n, _, h => by rw [quo_nil] at h; cases h
  | 0, c :: l, t, n, hm, _ => by simp at hm
  | m + 1, c :: l, t, n, hm, h => by
    by_cases hc : c = 39
    · subst hc
      cases l with
      | nil => rw [quo_1] at h; cases h; exact ⟨by decide, by simp, rfl, by decide⟩
      | cons d l' =>
        by_cases hd : d = 39
        · subst hd
          rw [quo_2] at h
          obtain ⟨⟨t', n'⟩, h', e⟩ := Option.map_eq_some_iff.1 h
          cases e
          obtain ⟨h1, h2, h3, h4⟩ := quo_len m l' t' n' (by simp at hm; omega) h'
          refine ⟨by omega, by simp; omega, ?_, by simp; omega⟩
          simp only
          rw [show n' + 2 - 1 = (n' - 1) + 1 + 1 by omega]
          simpa using h3
        · rw [quo_3 l' hd] at h
          cases h; exact ⟨by decide, by simp, rfl, by decide⟩
    · rw [quo_c l hc] at h
      obtain ⟨⟨t', n'⟩, h', e⟩ := Option.map_eq_some_iff.1 h
      cases e
      obtain ⟨h1, h2, h3, h4⟩ := quo_len m l t' n' (by simp at hm; omega) h'
      refine ⟨by omega, by simp; omega, ?_, by simp; omega⟩
      simp only
      rw [show n' + 1 - 1 = (n' - 1) + 1 by omega]
      simpa using h3
theorem quo_cut : ∀ (m : Nat) (l : List UInt8) (t : List UInt8) (n : Nat) (y : List UInt8), l.length ≤ m → quo l = some (t, n) → okY l n y → quo (l.take n ++ y) = some (t, n)
  | m, [], t, n, y, _, h, _ => by rw [quo_nil] at h; cases h
  | 0, c :: l, t, n, y, hm, _, _ => by simp at hm
  | m + 1, c :: l, t, n, y, hm, h, hy => by
    by_cases hc : c = 39
    · subst hc
      cases l with
      | nil =>
        rw [quo_1] at h
        cases h
        cases y with
        | nil => exact quo_1
        | cons d y =>
          have hd : d ≠ 39 := fun e => by
            rcases hy d (by simp) with h | h
            · subst e; exact absurd h (by decide)
            · simp at h
          exact quo_3 y hd
      | cons d l' =>
        by_cases hd : d = 39
        · subst hd
          rw [quo_2] at h
          obtain ⟨⟨t', n'⟩, h', e⟩ := Option.map_eq_some_iff.1 h
          cases e
          have h1 := quo_cut m l' t' n' y (by simp at hm; omega) h' (fun x hx => by simpa using hy x hx)
          show quo (39 :: 39 :: (l'.take n' ++ y)) = _
          rw [quo_2, h1]; rfl
        · rw [quo_3 l' hd] at h
          cases h
          cases y with
          | nil => exact quo_1
          | cons x y =>
            have hx : x ≠ 39 := fun e => by
              rcases hy x (by simp) with h | h
              · subst e; exact absurd h (by decide)
              · simp at h; exact hd (h.trans e)
            exact quo_3 y hx
    · rw [quo_c l hc] at h
      obtain ⟨⟨t', n'⟩, h', e⟩ := Option.map_eq_some_iff.1 h
      cases e
      have h1 := quo_cut m l t' n' y (by simp at hm; omega) h' (fun x hx => by simpa using hy x hx)
      show quo (c :: (l.take n' ++ y)) = _
      rw [quo_c _ hc, h1]; rfl
theorem run_cut : ∀ (l y : List UInt8), okY l (l.takeWhile isRun).length y → (l.take (l.takeWhile isRun).length ++ y).takeWhile isRun = l.takeWhile isRun
  | [], y, h => by
    cases y with
    | nil => rfl
    | cons d y =>
      rcases h d (by simp) with h | h
      · subst h; rfl
      · simp at h
  | c :: l, y, h => by
    by_cases hc : isRun c = true
    · have ih := run_cut l y (fun d hd => by have := h d hd; simpa [hc] using this)
      simp [hc, ih]
    · cases y with
      | nil => simp [hc]
      | cons d y =>
        have := h d (by simp)
        simp [hc] at this
        rcases this with h | h
        · subst h; simp [hc]; rfl
        · subst h; simp [hc]
theorem take_run (l : List UInt8) : l.take (l.takeWhile isRun).length = l.takeWhile isRun := by
  induction l with
  | nil => rfl
  | cons c l ih =>
    by_cases hc : isRun c = true
    · simp [hc, ih]
    · simp [hc]
variable {pk pe : List UInt8 → Int}
/-- what stands behind a token that is read changes it not -/
theorem nxt_cut (l y : List UInt8) (h : (nxt pk pe l).e = 0) (hy : okY l (nxt pk pe l).n y) : nxt pk pe (l.take (nxt pk pe l).n ++ y) = nxt pk pe l := by
  cases l with
  | nil => simp [nxt] at h
  | cons c l' =>
    by_cases h39 : c = 39
    · subst h39
      cases hq : quo l' with
      | none => simp [nxt, hq] at h
      | some p =>
        obtain ⟨t, n⟩ := p
        by_cases h48 : 48 < t.length
        · simp [nxt, hq, h48] at h
        · have e : nxt pk pe (39 :: l') = ⟨4, t, n + 1, 0⟩ := by simp [nxt, hq, h48]
          rw [e] at hy ⊢
          have := quo_cut l'.length l' t n y (Nat.le_refl _) hq (fun d hd => by simpa using hy d hd)
          simp [nxt, this, h48]
    · by_cases hr : isRun c = true
      · have e : nxt pk pe (c :: l') = ⟨pk ((c :: l').takeWhile isRun), (c :: l').takeWhile isRun, ((c :: l').takeWhile isRun).length, pe ((c :: l').takeWhile isRun)⟩ := by
          simp only [nxt, if_neg h39, if_pos hr]
        rw [e] at hy ⊢
        have h1 := run_cut (c :: l') y hy
        obtain ⟨m, hm⟩ : ∃ m, ((c :: l').takeWhile isRun).length = m + 1 := by simp [hr]
        have h2 : (c :: l').take ((c :: l').takeWhile isRun).length ++ y = c :: (l'.take m ++ y) := by rw [hm]; rfl
        rw [h2] at h1 ⊢
        simp only [nxt, if_neg h39, if_pos hr]
        simp only [h1]
      · have hsg : ∀ d y', y = d :: y' → (d = 32 ∨ (c :: l')[1]? = some d) → (isTwo c d = true → ∃ z, l' = d :: z) := by
          intro d y' _ hd h2
          rcases hd with rfl | hd
          · exfalso
            simp [isTwo] at h2
          · cases l' with
            | nil => simp at hd
            | cons x z => simp at hd; exact ⟨z, by rw [hd]⟩
        cases l' with
        | nil =>
          by_cases hs : isSg c = true
          · have e : nxt pk pe [c] = ⟨5, [c], 1, 0⟩ := by simp [nxt, h39, hr, hs]
            rw [e] at hy ⊢
            cases y with
            | nil => simp [nxt, h39, hr, hs]
            | cons d y =>
              have ht : ¬ isTwo c d = true := fun ht => by
                obtain ⟨z, hz⟩ := hsg d y rfl (hy d (by simp)) ht
                cases hz
              simp [nxt, h39, hr, hs, ht]
          · simp [nxt, h39, hr, hs] at h
        | cons d z =>
          by_cases ht : isTwo c d = true
          · have e : nxt pk pe (c :: d :: z) = ⟨5, [c, d], 2, 0⟩ := by simp [nxt, h39, hr, ht]
            rw [e] at hy ⊢
            simp [nxt, h39, hr, ht]
          · by_cases hs : isSg c = true
            · have e : nxt pk pe (c :: d :: z) = ⟨5, [c], 1, 0⟩ := by simp [nxt, h39, hr, hs, ht]
              rw [e] at hy ⊢
              cases y with
              | nil => simp [nxt, h39, hr, hs]
              | cons x y =>
                have ht' : ¬ isTwo c x = true := fun h' => by
                  obtain ⟨z', hz⟩ := hsg x y rfl (hy x (by simp)) h'
                  injection hz with h1 _
                  rw [h1] at ht
                  exact ht h'
                simp [nxt, h39, hr, hs, ht']
            · simp [nxt, h39, hr, hs, ht] at h
/-- how many bytes a token takes; its last byte is no blank; but for texts, its text is its bytes -/
theorem nxt_n (l : List UInt8) (h : (nxt pk pe l).e = 0) : 1 ≤ (nxt pk pe l).n ∧ (nxt pk pe l).n ≤ l.length ∧ (∀ c, l[(nxt pk pe l).n - 1]? = some c → isBl c = false) ∧ ((nxt pk pe l).k ≠ 4 → (nxt pk pe l).t = l.take (nxt pk pe l).n) := by
  cases l with
  | nil => simp [nxt] at h
  | cons c l' =>
    by_cases h39 : c = 39
    · subst h39
      cases hq : quo l' with
      | none => simp [nxt, hq] at h
      | some p =>
        obtain ⟨t, n⟩ := p
        by_cases h48 : 48 < t.length
        · simp [nxt, hq, h48] at h
        · have e : nxt pk pe (39 :: l') = ⟨4, t, n + 1, 0⟩ := by simp [nxt, hq, h48]
          rw [e]
          obtain ⟨h1, h2, h3, h4⟩ := quo_len l'.length l' t n (Nat.le_refl _) hq
          refine ⟨by simp, by simp; omega, fun c hc => ?_, fun h => absurd rfl h⟩
          simp only at hc
          rw [show n + 1 - 1 = (n - 1) + 1 by omega, List.getElem?_cons_succ, h3] at hc
          cases hc
          rfl
    · by_cases hr : isRun c = true
      · have e : nxt pk pe (c :: l') = ⟨pk ((c :: l').takeWhile isRun), (c :: l').takeWhile isRun, ((c :: l').takeWhile isRun).length, pe ((c :: l').takeWhile isRun)⟩ := by
          simp only [nxt, if_neg h39, if_pos hr]
        rw [e]
        have hl : ((c :: l').takeWhile isRun).length ≤ (c :: l').length := (List.takeWhile_sublist isRun).length_le
        refine ⟨by simp [hr], hl, fun d hd => ?_, fun _ => (take_run _).symm⟩
        simp only at hd
        have hp : 0 < ((c :: l').takeWhile isRun).length := by simp [hr]
        have hd2 : d ∈ (c :: l').takeWhile isRun := by
          rw [← take_run (c :: l')]
          refine List.mem_of_getElem? (i := ((c :: l').takeWhile isRun).length - 1) ?_
          rw [List.getElem?_take, if_pos (by omega)]
          exact hd
        have hd3 : isRun d = true := by
          have := List.all_takeWhile (p := isRun) (l := c :: l')
          exact List.all_eq_true.1 this d hd2
        cases hb : isBl d with
        | false => rfl
        | true =>
          exfalso
          simp only [isBl, Bool.or_eq_true, beq_iff_eq] at hb
          rcases hb with ((rfl | rfl) | rfl) | rfl <;> revert hd3 <;> decide
      · have hsb : isSg c = true → isBl c = false := fun h => by
          simp only [isSg, Bool.or_eq_true, beq_iff_eq] at h
          rcases h with ((((((((rfl | rfl) | rfl) | rfl) | rfl) | rfl) | rfl) | rfl) | rfl) | rfl <;> rfl
        cases l' with
        | nil =>
          by_cases hs : isSg c = true
          · have e : nxt pk pe [c] = ⟨5, [c], 1, 0⟩ := by simp [nxt, h39, hr, hs]
            rw [e]
            refine ⟨by simp, by simp, fun d hd => ?_, fun _ => rfl⟩
            simp at hd
            subst hd
            exact hsb hs
          · simp [nxt, h39, hr, hs] at h
        | cons d z =>
          by_cases ht : isTwo c d = true
          · have e : nxt pk pe (c :: d :: z) = ⟨5, [c, d], 2, 0⟩ := by simp [nxt, h39, hr, ht]
            rw [e]
            refine ⟨by simp, by simp, fun x hx => ?_, fun _ => rfl⟩
            simp at hx
            subst hx
            simp only [isTwo, Bool.or_eq_true, Bool.and_eq_true, beq_iff_eq] at ht
            rcases ht with (⟨_, rfl⟩ | ⟨_, rfl⟩) | ⟨_, rfl⟩ <;> rfl
          · by_cases hs : isSg c = true
            · have e : nxt pk pe (c :: d :: z) = ⟨5, [c], 1, 0⟩ := by simp [nxt, h39, hr, hs, ht]
              rw [e]
              refine ⟨by simp, by simp, fun x hx => ?_, fun _ => rfl⟩
              simp at hx
              subst hx
              exact hsb hs
            · simp [nxt, h39, hr, hs, ht] at h
end Go.Eng
