/- Texts as tokens: two texts with a blank between; with other blanks; many signs (the session's own words). -/
import Derived.Test.YtcdeidljcmlfdaaDoorPa
namespace Go.Eng
set_option linter.unusedVariables false
set_option linter.unusedSimpArgs false
theorem trim_le (l : List UInt8) : (trimB l).length ≤ l.length := (List.dropWhile_sublist isBl).length_le
theorem trim_head {l : List UInt8} {c : UInt8} {r : List UInt8} (h : trimB l = c :: r) : isBl c = false := by
  have := List.head?_dropWhile_not isBl l
  unfold trimB at h
  rw [h] at this
  simpa using this
theorem trim_self {l : List UInt8} (h : ∀ c ∈ l.head?, isBl c = false) : trimB l = l := by
  cases l with
  | nil => rfl
  | cons c l => simp [trimB, h c (by simp)]
theorem trim_app {a : List UInt8} (h : trimB a ≠ []) (b : List UInt8) : trimB (a ++ b) = trimB a ++ b := by
  induction a with
  | nil => exact absurd rfl h
  | cons c a ih =>
    by_cases hc : isBl c = true
    · have e : trimB (c :: a) = trimB a := by simp [trimB, hc]
      rw [e] at h ⊢
      rw [← ih h]
      simp [trimB, hc]
    · simp [trimB, hc]
theorem trim_none {a : List UInt8} (h : trimB a = []) (b : List UInt8) : trimB (a ++ b) = trimB b := by
  induction a with
  | nil => rfl
  | cons c a ih =>
    by_cases hc : isBl c = true
    · have e : trimB (c :: a) = trimB a := by simp [trimB, hc]
      rw [e] at h
      rw [← ih h]
      simp [trimB, hc]
    · simp [trimB, hc] at h
theorem trim_bl (c : UInt8) (h : isBl c = true) (b : List UInt8) : trimB (c :: b) = trimB b := by simp [trimB, h]
theorem trim_is (l : List UInt8) : l.drop (l.length - (trimB l).length) = trimB l := by
  induction l with
  | nil => rfl
  | cons c l ih =>
    by_cases hc : isBl c = true
    · rw [trim_bl c hc, List.length_cons]
      have := trim_le l
      rw [show l.length + 1 - (trimB l).length = (l.length - (trimB l).length) + 1 by omega, List.drop_succ_cons, ih]
    · simp [trimB, hc]
theorem trim_take (l : List UInt8) : (l.take (l.length - (trimB l).length)).all isBl = true := by
  induction l with
  | nil => rfl
  | cons c l ih =>
    by_cases hc : isBl c = true
    · rw [trim_bl c hc, List.length_cons]
      have := trim_le l
      rw [show l.length + 1 - (trimB l).length = (l.length - (trimB l).length) + 1 by omega, List.take_succ_cons, List.all_cons, hc, ih]
      rfl
    · simp [trimB, hc]
variable {pk pe : List UInt8 → Int}
theorem tkz_trim (f : Nat) {l l' : List UInt8} {a a' : Nat} (c : Nat) (h : trimB l = trimB l') (ha : a + l.length = a' + l'.length) : tkz pk pe f l a c = tkz pk pe f l' a' c := by
  cases f with
  | zero => rfl
  | succ f =>
    have h1 := trim_le l
    have h2 := trim_le l'
    have e : a + (l.length - (trimB l).length) = a' + (l'.length - (trimB l').length) := by rw [h] at h1 ⊢; omega
    rw [tkz, tkz, ← h, h] at *
    rw [e, ha]
/-- one step -/
theorem tkz_tok {f : Nat} {l : List UInt8} {a c : Nat} (h : (tkz pk pe (f + 1) l a c).2 = 0) (hr : trimB l ≠ []) : c ≠ 1000 ∧ (nxt pk pe (trimB l)).e = 0 ∧ (tkz pk pe f ((trimB l).drop (nxt pk pe (trimB l)).n) (a + (l.length - (trimB l).length) + (nxt pk pe (trimB l)).n) (c + 1)).2 = 0 ∧
    (tkz pk pe (f + 1) l a c).1 = ⟨(nxt pk pe (trimB l)).k, (nxt pk pe (trimB l)).t, a + (l.length - (trimB l).length)⟩ :: (tkz pk pe f ((trimB l).drop (nxt pk pe (trimB l)).n) (a + (l.length - (trimB l).length) + (nxt pk pe (trimB l)).n) (c + 1)).1 := by
  rw [tkz] at h ⊢
  rw [if_neg hr] at h ⊢
  by_cases h1 : c = 1000
  · rw [if_pos h1] at h; exact absurd h (by decide)
  rw [if_neg h1] at h ⊢
  by_cases h2 : (nxt pk pe (trimB l)).e ≠ 0
  · rw [if_pos h2] at h; exact absurd h h2
  rw [if_neg h2] at h ⊢
  by_cases h3 : (tkz pk pe f ((trimB l).drop (nxt pk pe (trimB l)).n) (a + (l.length - (trimB l).length) + (nxt pk pe (trimB l)).n) (c + 1)).2 ≠ 0
  · rw [if_pos h3] at h; exact absurd h h3
  rw [if_neg h3] at h ⊢
  exact ⟨h1, Decidable.not_not.1 h2, Decidable.not_not.1 h3, rfl⟩
theorem tkz_end (f : Nat) {l : List UInt8} (a c : Nat) (hr : trimB l = []) : tkz pk pe (f + 1) l a c = ([⟨0, [], a + l.length⟩], 0) := by
  rw [tkz, if_pos hr]
theorem tkz_mk (f : Nat) {l : List UInt8} (a c : Nat) (hr : trimB l ≠ []) (hc : c ≠ 1000) (he : (nxt pk pe (trimB l)).e = 0) (h : (tkz pk pe f ((trimB l).drop (nxt pk pe (trimB l)).n) (a + (l.length - (trimB l).length) + (nxt pk pe (trimB l)).n) (c + 1)).2 = 0) :
    tkz pk pe (f + 1) l a c = (⟨(nxt pk pe (trimB l)).k, (nxt pk pe (trimB l)).t, a + (l.length - (trimB l).length)⟩ :: (tkz pk pe f ((trimB l).drop (nxt pk pe (trimB l)).n) (a + (l.length - (trimB l).length) + (nxt pk pe (trimB l)).n) (c + 1)).1, 0) := by
  rw [tkz, if_neg hr, if_neg hc, if_neg (by simp [he]), if_neg (by simp [h])]
theorem tkz_ne (f : Nat) (l : List UInt8) (a c : Nat) (h : (tkz pk pe f l a c).2 = 0) : 1 ≤ (tkz pk pe f l a c).1.length := by
  cases f with
  | zero => exact absurd h (by simp [tkz])
  | succ f =>
    by_cases hr : trimB l = []
    · rw [tkz_end f a c hr]; simp
    · rw [(tkz_tok h hr).2.2.2]; simp
/-- elsewhere: the same tokens, so far on -/
theorem tkz_shift (d : Nat) : ∀ (f k : Nat) (l : List UInt8) (a c c' : Nat), (tkz pk pe f l a c).2 = 0 → c' + (tkz pk pe f l a c).1.length ≤ 1001 → tkz pk pe (f + k) l (a + d) c' = ((tkz pk pe f l a c).1.map fun t => ⟨t.k, t.t, t.a + d⟩, 0)
  | 0, k, l, a, c, c', h, _ => absurd h (by simp [tkz])
  | f + 1, k, l, a, c, c', h, hc => by
    rw [show f + 1 + k = f + k + 1 by omega]
    by_cases hr : trimB l = []
    · rw [tkz_end f a c hr, tkz_end (f + k) (a + d) c' hr]
      simp; omega
    · obtain ⟨h1, h2, h3, h4⟩ := tkz_tok h hr
      have hn := tkz_ne _ _ _ _ h3
      rw [h4, List.length_cons] at hc
      have ih := tkz_shift d f k _ _ _ (c' + 1) h3 (by omega)
      have ea : a + d + (l.length - (trimB l).length) + (nxt pk pe (trimB l)).n = a + (l.length - (trimB l).length) + (nxt pk pe (trimB l)).n + d := by omega
      rw [h4, tkz_mk (f + k) (a + d) c' hr (by omega) h2 (by rw [ea, ih]), ea, ih, List.map_cons]
      rw [show a + d + (l.length - (trimB l).length) = a + (l.length - (trimB l).length) + d by omega]
/-- two texts with a blank between -/
theorem tkz_join (b : List UInt8) (g : Nat) (hb : (tkz pk pe g b 0 0).2 = 0) : ∀ (f : Nat) (l : List UInt8) (a c : Nat), (tkz pk pe f l a c).2 = 0 → c + (tkz pk pe f l a c).1.length + (tkz pk pe g b 0 0).1.length ≤ 1001 →
    tkz pk pe (f + g) (l ++ 32 :: b) a c = ((tkz pk pe f l a c).1.dropLast ++ (tkz pk pe g b 0 0).1.map fun t => ⟨t.k, t.t, t.a + (a + l.length + 1)⟩, 0)
  | 0, l, a, c, h, _ => absurd h (by simp [tkz])
  | f + 1, l, a, c, h, hc => by
    by_cases hr : trimB l = []
    · rw [tkz_end f a c hr] at hc ⊢
      rw [show (f + 1 + g) = g + (f + 1) by omega, tkz_trim (g + (f + 1)) (l' := b) (a' := 0 + (a + l.length + 1)) c (by rw [trim_none hr, trim_bl 32 rfl]) (by rw [List.length_append, List.length_cons]; omega)]
      rw [tkz_shift (a + l.length + 1) g (f + 1) b 0 0 c hb (by simp at hc; omega)]
      rfl
    · obtain ⟨h1, h2, h3, h4⟩ := tkz_tok h hr
      have hn := tkz_ne _ _ _ _ h3
      have hnb := tkz_ne _ _ _ _ hb
      obtain ⟨n1, n2, n3, n4⟩ := nxt_n (trimB l) h2
      rw [h4, List.length_cons] at hc
      have hap : trimB (l ++ 32 :: b) = trimB l ++ 32 :: b := trim_app hr _
      have hnx : nxt pk pe (trimB l ++ 32 :: b) = nxt pk pe (trimB l) := by
        have := nxt_cut (pk := pk) (pe := pe) (trimB l) ((trimB l).drop (nxt pk pe (trimB l)).n ++ 32 :: b) h2 (fun d hd => by
          cases hx : (trimB l).drop (nxt pk pe (trimB l)).n with
          | nil => rw [hx] at hd; left; simpa using hd.symm
          | cons z zs =>
            rw [hx] at hd
            right
            have h0 := congrArg (fun q => q[0]?) hx
            simp only [List.getElem?_drop, Nat.add_zero, List.getElem?_cons_zero] at h0
            rw [h0]
            simpa using hd)
        rw [← List.append_assoc, List.take_append_drop] at this
        exact this
      have hdr : (trimB l ++ 32 :: b).drop (nxt pk pe (trimB l)).n = (trimB l).drop (nxt pk pe (trimB l)).n ++ 32 :: b := List.drop_append_of_le_length n2
      have ih := tkz_join b g hb f ((trimB l).drop (nxt pk pe (trimB l)).n) (a + (l.length - (trimB l).length) + (nxt pk pe (trimB l)).n) (c + 1) h3 (by omega)
      have hle := trim_le l
      have ea : a + ((l ++ 32 :: b).length - (trimB (l ++ 32 :: b)).length) = a + (l.length - (trimB l).length) := by
        rw [hap, List.length_append, List.length_append]; omega
      have hr' : trimB (l ++ 32 :: b) ≠ [] := by rw [hap]; simp
      have key := tkz_mk (pk := pk) (pe := pe) (f + g) (l := l ++ 32 :: b) a c hr' (by omega) (by rw [hap, hnx]; exact h2) (by rw [ea, hap, hnx, hdr, ih])
      rw [show f + 1 + g = f + g + 1 by omega, key, ea, hap, hnx, hdr, ih, h4]
      have el : a + (l.length - (trimB l).length) + (nxt pk pe (trimB l)).n + ((trimB l).drop (nxt pk pe (trimB l)).n).length + 1 = a + l.length + 1 := by
        rw [List.length_drop]; omega
      rw [el]
      obtain ⟨x, xs, hx⟩ : ∃ x xs, (tkz pk pe f ((trimB l).drop (nxt pk pe (trimB l)).n) (a + (l.length - (trimB l).length) + (nxt pk pe (trimB l)).n) (c + 1)).1 = x :: xs := by
        cases hq : (tkz pk pe f ((trimB l).drop (nxt pk pe (trimB l)).n) (a + (l.length - (trimB l).length) + (nxt pk pe (trimB l)).n) (c + 1)).1 with
        | nil => rw [hq] at hn; simp at hn
        | cons x xs => exact ⟨x, xs, rfl⟩
      rw [hx, List.dropLast_cons_cons]
      simp
end Go.Eng
