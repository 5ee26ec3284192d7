/- Texts with their quotes doubled; numbers as decimals: plain laws (the session's own words). -/
import Derived.Lib.Replace
import Derived.Lib.ItoaNum
import Derived.Lib.ItoaLen
import Derived.Lib.ParseIntB
namespace Go.Eng
set_option linter.unusedVariables false
set_option linter.unusedSimpArgs false
/-! ### what a replacement makes -/
theorem rep_skip (old new : List UInt8) (c : UInt8) (l : List UInt8) (h : old.isPrefixOf (c :: l) = false) : ∀ k, Lib.replaceK old new k (c :: l) = c :: Lib.replaceK old new k l
  | 0 => rfl
  | k + 1 => by
    have hi : Lib.index (c :: l) old = if Lib.index l old == -1 then -1 else Lib.index l old + 1 := by rw [Lib.index, h]; rfl
    rw [Lib.replaceK, Lib.replaceK]
    by_cases h1 : Lib.index l old == -1
    · rw [if_pos h1] at hi
      rw [hi, if_pos (by decide : ((-1 : Int) == -1) = true), if_pos h1]
    · rw [if_neg h1] at hi
      have hg := Lib.index_ge l old
      have hne : Lib.index l old ≠ -1 := by simpa using h1
      have h2 : ¬ (Lib.index (c :: l) old == -1) = true := by rw [hi]; simp; omega
      rw [if_neg h2, if_neg h1, hi]
      have e : (Lib.index l old + 1).toNat = (Lib.index l old).toNat + 1 := by omega
      rw [e, List.take_succ_cons, show (Lib.index l old).toNat + 1 + old.length = (Lib.index l old).toNat + old.length + 1 by omega, List.drop_succ_cons]
      rfl
theorem count_skip {old : List UInt8} (ho : old ≠ []) (c : UInt8) (l : List UInt8) (h : old.isPrefixOf (c :: l) = false) : Lib.count (c :: l) old = Lib.count l old := by
  have hi : Lib.index (c :: l) old = if Lib.index l old == -1 then -1 else Lib.index l old + 1 := by rw [Lib.index, h]; rfl
  by_cases h1 : Lib.index l old == -1
  · rw [if_pos h1] at hi
    rw [Lib.count_miss hi, Lib.count_miss (by simpa using h1)]
  · rw [if_neg h1] at hi
    have hg := Lib.index_ge l old
    have hne : Lib.index l old ≠ -1 := by simpa using h1
    have e1 : Lib.index l old = ((Lib.index l old).toNat : Int) := by omega
    have e2 : Lib.index (c :: l) old = (((Lib.index l old).toNat + 1 : Nat) : Int) := by omega
    rw [Lib.count_hit ho e2, Lib.count_hit ho e1, show (Lib.index l old).toNat + 1 + old.length = (Lib.index l old).toNat + old.length + 1 by omega, List.drop_succ_cons]
theorem rep_hit {old : List UInt8} (ho : old ≠ []) (new l : List UInt8) : Lib.replaceK old new (Lib.count (old ++ l) old) (old ++ l) = new ++ Lib.replaceK old new (Lib.count l old) l := by
  have hi : Lib.index (old ++ l) old = ((0 : Nat) : Int) := by
    cases old with
    | nil => exact absurd rfl ho
    | cons a o =>
      rw [List.cons_append, Lib.index, if_pos]; · rfl
      rw [← List.cons_append]; exact List.isPrefixOf_iff_prefix.2 (List.prefix_append _ _)
  rw [Lib.count_hit ho hi, Nat.zero_add, List.drop_left, Nat.add_comm 1, Lib.replaceK_hit _ _ _ _ 0 hi, List.take_zero, List.nil_append, Nat.zero_add, List.drop_left]
theorem replaceAll_eq (s old new : List UInt8) (h : (old == new) = false) : Lib.replaceAll s old new = Lib.replaceK old new (Lib.count s old) s := by
  unfold Lib.replaceAll Lib.replace Lib.replaceNum
  rw [if_neg (by rw [h]; simp), if_pos (.inl (by decide))]
/-- quotes doubled -/
def dbl : List UInt8 → List UInt8
  | [] => []
  | c :: l => if c = 39 then 39 :: 39 :: dbl l else c :: dbl l
/-- two quotes are one -/
def und : List UInt8 → List UInt8
  | [] => []
  | [c] => [c]
  | c :: d :: l => if c = 39 ∧ d = 39 then 39 :: und l else c :: und (d :: l)
/-- .. if they come in twos -/
def undo : List UInt8 → Option (List UInt8)
  | [] => some []
  | [c] => if c = 39 then none else some [c]
  | c :: d :: l => if c = 39 then (if d = 39 then (undo l).map (39 :: ·) else none) else (undo (d :: l)).map (c :: ·)
theorem repK_dbl : ∀ s : List UInt8, Lib.replaceK [39] [39, 39] (Lib.count s [39]) s = dbl s
  | [] => by
    have : Lib.count [] [39] = 0 := Lib.count_miss (by decide)
    rw [this]; rfl
  | c :: l => by
    rw [dbl]
    by_cases h : c = 39
    · subst h
      rw [if_pos rfl]
      have := rep_hit (old := [39]) (by simp) [39, 39] l
      simp only [List.cons_append, List.nil_append] at this
      rw [this, repK_dbl l]
    · rw [if_neg h]
      have hp : List.isPrefixOf [39] (c :: l) = false := by
        simp only [List.isPrefixOf, Bool.and_true]
        rw [beq_eq_false_iff_ne]; exact fun e => h e.symm
      rw [rep_skip _ _ _ _ hp, count_skip (by simp) _ _ hp, repK_dbl l]
theorem repK_und : ∀ s : List UInt8, Lib.replaceK [39, 39] [39] (Lib.count s [39, 39]) s = und s
  | [] => by
    have : Lib.count [] [39, 39] = 0 := Lib.count_miss (by decide)
    rw [this]; rfl
  | [c] => by
    have hp : List.isPrefixOf [39, 39] [c] = false := by simp [List.isPrefixOf]
    rw [rep_skip _ _ _ _ hp, count_skip (by simp) _ _ hp]
    have : Lib.count [] [39, 39] = 0 := Lib.count_miss (by decide)
    rw [this]; rfl
  | c :: d :: l => by
    rw [und]
    by_cases h : c = 39 ∧ d = 39
    · obtain ⟨rfl, rfl⟩ := h
      rw [if_pos ⟨rfl, rfl⟩]
      have := rep_hit (old := [39, 39]) (by simp) [39] l
      simp only [List.cons_append, List.nil_append] at this
      rw [this, repK_und l]
    · rw [if_neg h]
      have hp : List.isPrefixOf [39, 39] (c :: d :: l) = false := by
        simp only [List.isPrefixOf, Bool.and_true]
        rw [Bool.and_eq_false_iff]
        by_cases h1 : c = 39
        · exact .inr (beq_eq_false_iff_ne.2 fun e => h ⟨h1, e.symm⟩)
        · exact .inl (beq_eq_false_iff_ne.2 fun e => h1 e.symm)
      rw [rep_skip _ _ _ _ hp, count_skip (by simp) _ _ hp, repK_und (d :: l)]
theorem replaceAll_dbl (s : List UInt8) : Lib.replaceAll s [39] [39, 39] = dbl s := by rw [replaceAll_eq _ _ _ (by decide), repK_dbl]
theorem replaceAll_und (s : List UInt8) : Lib.replaceAll s [39, 39] [39] = und s := by rw [replaceAll_eq _ _ _ (by decide), repK_und]
theorem undo_dbl : ∀ t, undo (dbl t) = some t
  | [] => rfl
  | c :: t => by
    rw [dbl]
    by_cases h : c = 39
    · subst h
      rw [if_pos rfl, undo, if_pos rfl, if_pos rfl, undo_dbl t]; rfl
    · rw [if_neg h]
      have ih := undo_dbl t
      cases hd : dbl t with
      | nil =>
        rw [hd] at ih
        simp only [undo, Option.some.injEq] at ih
        subst ih
        rw [undo, if_neg h]
      | cons d l =>
        rw [undo, if_neg h, ← hd, ih]; rfl
theorem und_dbl : ∀ t, und (dbl t) = t
  | [] => rfl
  | c :: t => by
    rw [dbl]
    by_cases h : c = 39
    · subst h
      rw [if_pos rfl, und, if_pos ⟨rfl, rfl⟩, und_dbl t]
    · rw [if_neg h]
      have ih := und_dbl t
      cases hd : dbl t with
      | nil =>
        rw [hd] at ih
        simp only [und] at ih
        subst ih; rfl
      | cons d l =>
        rw [und, if_neg fun e => h e.1, ← hd, ih]
theorem undo_some : ∀ (s t : List UInt8), undo s = some t → s = dbl t
  | [], t, h => by simp only [undo, Option.some.injEq] at h; subst h; rfl
  | [c], t, h => by
    rw [undo] at h
    by_cases hc : c = 39
    · rw [if_pos hc] at h; cases h
    · rw [if_neg hc] at h
      simp only [Option.some.injEq] at h
      subst h
      rw [dbl, if_neg hc]; rfl
  | c :: d :: l, t, h => by
    rw [undo] at h
    by_cases hc : c = 39
    · rw [if_pos hc] at h
      by_cases hd : d = 39
      · rw [if_pos hd, Option.map_eq_some_iff] at h
        obtain ⟨t', ht, rfl⟩ := h
        rw [dbl, if_pos rfl, ← undo_some l t' ht, hc, hd]
      · rw [if_neg hd] at h; cases h
    · rw [if_neg hc, Option.map_eq_some_iff] at h
      obtain ⟨t', ht, rfl⟩ := h
      rw [dbl, if_neg hc, ← undo_some (d :: l) t' ht]
/-- a text is read where its quotes come in twos -/
theorem dbl_und (s : List UInt8) : dbl (und s) = s ↔ (undo s).isSome = true := by
  constructor
  · intro h
    rw [← h, undo_dbl]; rfl
  · intro h
    obtain ⟨t, ht⟩ := Option.isSome_iff_exists.1 h
    rw [undo_some s t ht, und_dbl]
theorem und_of {s t : List UInt8} (h : undo s = some t) : und s = t := by rw [undo_some s t h, und_dbl]
theorem dbl_len (s : List UInt8) : (dbl s).length ≤ 2 * s.length := by
  induction s with
  | nil => simp [dbl]
  | cons c l ih => rw [dbl]; split <;> simp <;> omega
theorem dbl_app (a b : List UInt8) : dbl (a ++ b) = dbl a ++ dbl b := by
  induction a with
  | nil => rfl
  | cons c l ih => rw [List.cons_append, dbl, dbl, ih]; split <;> rfl
/-! ### numbers -/
def dgs (l : List UInt8) : Prop := ∀ c ∈ l, 48 ≤ c.toNat ∧ c.toNat ≤ 57
def vlD (a : Nat) (l : List UInt8) : Nat := l.foldl (fun a c => a * 10 + (c.toNat - 48)) a
theorem vlD_app (a : Nat) (l m : List UInt8) : vlD a (l ++ m) = vlD (vlD a l) m := List.foldl_append ..
theorem vlD_cons (a : Nat) (c : UInt8) (l : List UInt8) : vlD a (c :: l) = vlD (a * 10 + (c.toNat - 48)) l := by unfold vlD; rw [List.foldl_cons]
theorem vlD_ge (l : List UInt8) : ∀ a, a ≤ vlD a l := by
  induction l with
  | nil => intro a; exact Nat.le_refl _
  | cons c l ih => intro a; rw [vlD_cons]; exact Nat.le_trans (by omega) (ih _)
theorem digit_nat {d : Nat} (h : d < 10) : (UInt8.ofNat (48 + d)).toNat = 48 + d := by
  rw [UInt8.toNat_ofNat']; omega
theorem decDigits_spec (u : Nat) : dgs (Lib.decDigits u) ∧ vlD 0 (Lib.decDigits u) = u ∧ Lib.decDigits u ≠ [] := by
  induction u using Nat.strongRecOn with
  | _ u ih =>
    rw [Lib.decDigits]
    by_cases h : u < 10
    · rw [dif_pos h]
      refine ⟨fun c hc => ?_, ?_, by simp⟩
      · simp only [List.mem_singleton] at hc; subst hc; rw [digit_nat h]; omega
      · simp only [vlD, List.foldl_cons, List.foldl_nil]; rw [digit_nat h]; omega
    · rw [dif_neg h]
      obtain ⟨h1, h2, h3⟩ := ih (u / 10) (by omega)
      refine ⟨fun c hc => ?_, ?_, by simp⟩
      · rcases List.mem_append.1 hc with hc | hc
        · exact h1 c hc
        · simp only [List.mem_singleton] at hc; subst hc; rw [digit_nat (by omega)]; omega
      · rw [vlD_app, h2, vlD_cons]
        show u / 10 * 10 + ((UInt8.ofNat (48 + u % 10)).toNat - 48) = u
        rw [digit_nat (by omega)]; omega
theorem parseUintM_digits (M : Nat) (hM : M = 18446744073709551615) : ∀ (l : List UInt8) (a : Nat), dgs l → vlD a l ≤ M → Lib.parseUintM M a l = .ok (vlD a l)
  | [], a, _, _ => rfl
  | c :: l, a, h, hv => by
    obtain ⟨h1, h2⟩ := h c (by simp)
    rw [vlD_cons] at hv ⊢
    have := vlD_ge l (a * 10 + (c.toNat - 48))
    rw [Lib.parseUintM, if_pos ⟨h1, h2⟩, if_neg (by omega), if_neg (by omega)]
    exact parseUintM_digits M hM l _ (fun c hc => h c (by simp [hc])) hv
theorem pow63 : (2 ^ (64 - 1) : Nat) = 9223372036854775808 := by decide
theorem pow64 : (2 ^ 64 - 1 : Nat) = 18446744073709551615 := by decide
theorem parse_neg (c : UInt8) (r : List UInt8) (u : Nat) (hc : c.toNat = 45) (hx : Lib.parseUintB 64 r = .ok u) (hu : u ≤ 9223372036854775808) : Lib.parseIntB 64 (c :: r) = .ok (-(u : Int)) := by
  unfold Lib.parseIntB
  simp only [hc, or_true, if_true, hx, true_and, not_true_eq_false, false_and, if_false, pow63]
  rw [if_neg (Nat.not_lt.2 hu)]
theorem parse_pos (c : UInt8) (r : List UInt8) (u : Nat) (hc : c.toNat ≠ 45) (hc' : c.toNat ≠ 43) (hx : Lib.parseUintB 64 (c :: r) = .ok u) (hu : u < 9223372036854775808) : Lib.parseIntB 64 (c :: r) = .ok (u : Int) := by
  unfold Lib.parseIntB
  simp only [hc, hc', or_false, if_false, hx, not_false_eq_true, true_and, false_and, pow63]
  rw [if_neg (Nat.not_le.2 hu)]
theorem parse_digits (l : List UInt8) (h : l ≠ []) (d : dgs l) (hv : vlD 0 l ≤ 18446744073709551615) : Lib.parseUintB 64 l = .ok (vlD 0 l) := by
  unfold Lib.parseUintB
  rw [if_neg h, pow64]
  exact parseUintM_digits _ rfl l 0 d hv
theorem parseInt_itoa (v : Int) (h0 : -9223372036854775808 ≤ v) (h1 : v ≤ 9223372036854775807) : Lib.parseIntB 64 (Lib.itoa v) = .ok v := by
  unfold Lib.itoa
  by_cases hn : v < 0
  · rw [if_pos hn]
    obtain ⟨d1, d2, d3⟩ := decDigits_spec v.natAbs
    have hx := parse_digits _ d3 d1 (by omega)
    rw [d2] at hx
    rw [parse_neg 45 _ _ rfl hx (by omega)]
    congr 1; omega
  · rw [if_neg hn]
    obtain ⟨d1, d2, d3⟩ := decDigits_spec v.toNat
    have hx := parse_digits _ d3 d1 (by omega)
    rw [d2] at hx
    cases hd : Lib.decDigits v.toNat with
    | nil => exact absurd hd d3
    | cons c r =>
      have hc := d1 c (by rw [hd]; simp)
      rw [hd] at hx
      rw [parse_pos c r _ (by omega) (by omega) hx (by omega)]
      congr 1; omega
end Go.Eng
