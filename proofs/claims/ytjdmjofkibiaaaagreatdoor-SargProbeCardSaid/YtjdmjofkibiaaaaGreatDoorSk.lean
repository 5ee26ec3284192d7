/- Keys of values: none begins another's, and what lies between a key and what is behind it begins so (the session's own words). -/
import Derived.Test.YtjdmjofkibiaaaaGreatDoorQtx
import GoSem.Op.String
namespace Go.Eng
set_option linter.unusedVariables false
set_option linter.unusedSimpArgs false
/-! ### what lies between a text and what is behind it begins so -/
theorem less_rep : ∀ (m : Nat) (x : List UInt8), Op.bytesLess x (List.replicate m 255) = false ↔ List.replicate m 255 <+: x
  | 0, x => by simp [Op.bytesLess]
  | m + 1, [] => by simp [Op.bytesLess, List.replicate_succ]
  | m + 1, b :: x => by
    rw [List.replicate_succ, Op.bytesLess, List.cons_prefix_cons]
    have h := less_rep m x
    by_cases hb : b = 255
    · subst hb
      simp [h]
    · have h1 : b < 255 := by
        rw [UInt8.lt_iff_toNat_lt]
        have h2 := b.toNat_lt
        have h3 : b.toNat ≠ 255 := fun e => hb (UInt8.toNat_inj.1 e)
        show b.toNat < 255
        omega
      simp [h1]
      exact fun e => absurd e.symm hb
theorem between (c : UInt8) (hc : c ≠ 255) (m : Nat) : ∀ (p x : List UInt8), (Op.bytesLess x (p ++ c :: List.replicate m 255) = false ∧ Op.bytesLess x (p ++ [c + 1]) = true) ↔ p ++ c :: List.replicate m 255 <+: x
  | [], [] => by simp [Op.bytesLess]
  | [], b :: x => by
    rw [List.nil_append, List.nil_append, Op.bytesLess, Op.bytesLess, List.cons_prefix_cons]
    have h := less_rep m x
    have hn : (c + 1).toNat = c.toNat + 1 := by
      have h2 := c.toNat_lt
      have h3 : c.toNat ≠ 255 := fun e => hc (UInt8.toNat_inj.1 e)
      rw [UInt8.toNat_add]
      show (c.toNat + 1) % 256 = _
      omega
    rw [show Op.bytesLess x [] = false by cases x <;> rfl]
    simp only [Bool.and_false, Bool.or_false, decide_eq_true_eq, Bool.or_eq_false_iff, decide_eq_false_iff_not, Bool.and_eq_false_iff, beq_eq_false_iff_ne]
    rw [UInt8.lt_iff_toNat_lt, UInt8.lt_iff_toNat_lt, hn, ← h]
    constructor
    · rintro ⟨⟨h1, h2⟩, h3⟩
      have e : b = c := UInt8.toNat_inj.1 (by omega)
      subst e
      exact ⟨rfl, by rcases h2 with h2 | h2; · exact absurd rfl h2
                     · exact h2⟩
    · rintro ⟨rfl, h1⟩
      exact ⟨⟨by omega, .inr h1⟩, by omega⟩
  | a :: p, [] => by simp [Op.bytesLess]
  | a :: p, b :: x => by
    rw [List.cons_append, List.cons_append, Op.bytesLess, Op.bytesLess, List.cons_prefix_cons, ← between c hc m p x]
    by_cases e : b = a
    · subst e
      simp
    · simp only [show (b == a) = false by simpa using e, Bool.false_and, Bool.or_false, decide_eq_true_eq, decide_eq_false_iff_not]
      constructor
      · rintro ⟨h1, h2⟩; exact absurd h2 h1
      · rintro ⟨h1, _⟩; exact absurd h1.symm e
/-! ### texts in keys -/
def esc : List UInt8 → List UInt8
  | [] => []
  | c :: l => if c = 0 then 0 :: 255 :: esc l else c :: esc l
theorem repK_esc : ∀ s : List UInt8, Lib.replaceK [0] [0, 255] (Lib.count s [0]) s = esc s
  | [] => by
    have : Lib.count [] [0] = 0 := Lib.count_miss (by decide)
    rw [this]; rfl
  | c :: l => by
    rw [esc]
    by_cases h : c = 0
    · subst h
      rw [if_pos rfl]
      have := rep_hit (old := [0]) (by simp) [0, 255] l
      simp only [List.cons_append, List.nil_append] at this
      rw [this, repK_esc l]
    · rw [if_neg h]
      have hp : List.isPrefixOf [0] (c :: l) = false := by
        simp only [List.isPrefixOf, Bool.and_true]
        rw [beq_eq_false_iff_ne]; exact fun e => h e.symm
      rw [rep_skip _ _ _ _ hp, count_skip (by simp) _ _ hp, repK_esc l]
theorem replaceAll_esc (s : List UInt8) : Lib.replaceAll s [0] [0, 255] = esc s := by rw [replaceAll_eq _ _ _ (by decide), repK_esc]
theorem esc_len (s : List UInt8) : (esc s).length ≤ 2 * s.length := by
  induction s with
  | nil => simp [esc]
  | cons c l ih => rw [esc]; split <;> simp <;> omega
theorem esc_app (a b : List UInt8) : esc (a ++ b) = esc a ++ esc b := by
  induction a with
  | nil => rfl
  | cons c l ih => rw [List.cons_append, esc, esc, ih]; split <;> rfl
theorem esc_pre : ∀ (a b r : List UInt8), esc a ++ [0, 1] <+: esc b ++ 0 :: 1 :: r → a = b
  | [], [], r, _ => rfl
  | [], d :: b, r, h => by
    exfalso
    rw [esc, esc] at h
    split at h
    · rw [List.nil_append, List.cons_append, List.cons_append, List.cons_prefix_cons, List.cons_prefix_cons] at h
      exact absurd h.2.1 (by decide)
    · rename_i hd
      rw [List.nil_append, List.cons_append, List.cons_prefix_cons] at h
      exact hd h.1.symm
  | c :: a, [], r, h => by
    exfalso
    rw [esc, esc] at h
    split at h
    · rw [List.nil_append, List.cons_append, List.cons_append, List.cons_prefix_cons, List.cons_prefix_cons] at h
      exact absurd h.2.1 (by decide)
    · rename_i hd
      rw [List.nil_append, List.cons_append, List.cons_prefix_cons] at h
      exact hd h.1
  | c :: a, d :: b, r, h => by
    rw [esc, esc] at h
    by_cases hc : c = 0
    · by_cases hd : d = 0
      · rw [if_pos hc, if_pos hd, List.cons_append, List.cons_append, List.cons_append, List.cons_append, List.cons_prefix_cons, List.cons_prefix_cons] at h
        rw [hc, hd, esc_pre a b r h.2.2]
      · rw [if_pos hc, if_neg hd, List.cons_append, List.cons_append, List.cons_append, List.cons_prefix_cons] at h
        exact absurd h.1.symm hd
    · by_cases hd : d = 0
      · rw [if_neg hc, if_pos hd, List.cons_append, List.cons_append, List.cons_append, List.cons_prefix_cons] at h
        exact absurd h.1 hc
      · rw [if_neg hc, if_neg hd, List.cons_append, List.cons_append, List.cons_prefix_cons] at h
        rw [h.1, esc_pre a b r h.2]
/-! ### numbers in keys -/
def digs : Nat → Nat → List UInt8
  | 0, n => []
  | k + 1, n => digs k (n / 256) ++ [UInt8.ofNat n]
theorem digs_len : ∀ k n, (digs k n).length = k
  | 0, n => rfl
  | k + 1, n => by rw [digs, List.length_append, digs_len k]; rfl
theorem digs_inj : ∀ (k n m : Nat), n < 256 ^ k → m < 256 ^ k → digs k n = digs k m → n = m
  | 0, n, m, hn, hm, _ => by simp at hn hm; omega
  | k + 1, n, m, hn, hm, h => by
    rw [digs, digs] at h
    have h1 := List.append_inj h (by rw [digs_len, digs_len])
    have h2 := digs_inj k (n / 256) (m / 256) (by rw [Nat.div_lt_iff_lt_mul (by decide)]; rw [Nat.pow_succ] at hn; exact hn) (by rw [Nat.div_lt_iff_lt_mul (by decide)]; rw [Nat.pow_succ] at hm; exact hm) h1.1
    have h3 : UInt8.ofNat n = UInt8.ofNat m := by simpa using h1.2
    have h4 : n % 256 = m % 256 := by
      have := congrArg UInt8.toNat h3
      simpa using this
    omega
theorem pre_len {a b r : List UInt8} (hl : a.length = b.length) (h : a <+: b ++ r) : a = b := by
  obtain ⟨t, ht⟩ := h
  exact (List.append_inj ht hl).1
end Go.Eng
