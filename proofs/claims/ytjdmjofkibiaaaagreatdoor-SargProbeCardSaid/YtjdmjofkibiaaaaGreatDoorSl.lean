/- Keys of values and rows: what they are, that none begins another's (the session's own words). -/
import Derived.Test.YtjdmjofkibiaaaaGreatDoorVb
import Derived.Test.YtjdmjofkibiaaaaGreatDoorSk
namespace Go.Proofs.YtjdmjofkibiaaaaGreatDoor
open Go Go.Eng Go.Proofs
set_option linter.unusedVariables false
set_option linter.unusedSimpArgs false
/-- a value's key -/
def keyV (v : Val) : List UInt8 := if v.kind = 1 then 2 :: digs 8 (v.int + 9223372036854775808).toNat else if v.kind = 2 then [3, UInt8.ofNat v.int.toNat] else if v.kind = 3 then 4 :: (esc (bl v.text) ++ [0, 1]) else [1]
def keyR (l : List Val) : List UInt8 := (l.map keyV).flatten
def i64 (n : Int) : Prop := -9223372036854775808 ≤ n ∧ n ≤ 9223372036854775807
theorem mayV_kinds {v : Val} (h : mayV v = true) : (v.kind = 0 ∧ v.int = 0 ∧ v.text = ⟨#[]⟩) ∨ (v.kind = 1 ∧ v.text = ⟨#[]⟩) ∨ (v.kind = 2 ∧ (v.int = 0 ∨ v.int = 1) ∧ v.text = ⟨#[]⟩) ∨ (v.kind = 3 ∧ v.int = 0 ∧ v.text.size ≤ 48) := by
  unfold mayV at h
  split at h
  · simp at h; exact .inl ⟨by assumption, h⟩
  split at h
  · simp at h; exact .inr (.inl ⟨by assumption, h⟩)
  split at h
  · simp at h; exact .inr (.inr (.inl ⟨by assumption, h.2, h.1⟩))
  split at h
  · simp at h; exact .inr (.inr (.inr ⟨by assumption, h⟩))
  · cases h
theorem keyV_pre {v w : Val} {r : List UInt8} (hv : mayV v = true) (hw : mayV w = true) (iv : i64 v.int) (iw : i64 w.int) (h : keyV v <+: keyV w ++ r) : v = w := by
  obtain ⟨kv, nv, tv⟩ := v
  obtain ⟨kw, nw, tw⟩ := w
  rcases mayV_kinds hv with ⟨e, e1, e2⟩ | ⟨e, e2⟩ | ⟨e, e1, e2⟩ | ⟨e, e1, e2⟩ <;> rcases mayV_kinds hw with ⟨f, f1, f2⟩ | ⟨f, f2⟩ | ⟨f, f1, f2⟩ | ⟨f, f1, f2⟩ <;>
    (dsimp only at e e2 f f2; subst e; subst f; simp only [keyV] at h; simp at h) <;> try (exfalso; revert h; decide)
  · dsimp only at e1 f1; subst e1 f1 e2 f2; rfl
  · subst e2 f2
    have h1 : digs 8 (nv + 9223372036854775808).toNat = digs 8 (nw + 9223372036854775808).toNat := pre_len (by rw [digs_len, digs_len]) h
    obtain ⟨i1, i2⟩ := iv
    obtain ⟨j1, j2⟩ := iw
    dsimp only at i1 i2 j1 j2
    have h2 := digs_inj 8 _ _ (by show _ < 18446744073709551616; omega) (by show _ < 18446744073709551616; omega) h1
    rw [show nv = nw by omega]
  · dsimp only at e1 f1
    subst e2 f2
    rcases e1 with rfl | rfl <;> rcases f1 with rfl | rfl <;> first | rfl | (exfalso; revert h; decide)
  · dsimp only at e1 f1
    subst e1 f1
    have h1 := esc_pre (bl tv) (bl tw) r (by simpa using h)
    rw [bl_inj h1]
theorem keyV_head (v : Val) (hv : mayV v = true) : ∃ c l, keyV v = c :: l ∧ c ≠ 255 := by
  rcases mayV_kinds hv with ⟨e, _⟩ | ⟨e, _⟩ | ⟨e, _⟩ | ⟨e, _⟩ <;> simp [keyV, e] <;> decide
theorem keyV_len (v : Val) (h : mayV v = true) : (keyV v).length ≤ 99 := by
  rcases mayV_kinds h with ⟨e, _⟩ | ⟨e, _⟩ | ⟨e, _⟩ | ⟨e, _, e2⟩ <;> simp [keyV, e, digs_len]
  have := esc_len (bl v.text)
  rw [bl_size] at this
  omega
theorem keyR_cons (v : Val) (l : List Val) : keyR (v :: l) = keyV v ++ keyR l := rfl
theorem keyR_app (l m : List Val) : keyR (l ++ m) = keyR l ++ keyR m := by unfold keyR; simp
theorem keyR_len : ∀ (l : List Val), (∀ v ∈ l, mayV v = true) → (keyR l).length ≤ 99 * l.length
  | [], _ => by simp [keyR]
  | v :: l, h => by
    have h1 := keyV_len v (h v (by simp))
    have h2 := keyR_len l fun w hw => h w (by simp [hw])
    rw [keyR_cons, List.length_append, List.length_cons]
    omega
/-- a text whose first byte is no 255: ahead of the last byte that is none, it, how many 255 are behind it -/
theorem last_no (c : UInt8) (hc : c ≠ 255) : ∀ (l : List UInt8), ∃ p d m, c :: l = p ++ d :: List.replicate m 255 ∧ d ≠ 255 := by
  intro l
  suffices h : ∀ (n : Nat) (l : List UInt8), l.length = n → ∃ p d m, c :: l = p ++ d :: List.replicate m 255 ∧ d ≠ 255 from h _ l rfl
  intro n
  induction n with
  | zero => intro l hl; obtain rfl := List.eq_nil_of_length_eq_zero hl; exact ⟨[], c, 0, rfl, hc⟩
  | succ n ih =>
    intro l hl
    obtain ⟨q, x, rfl⟩ : ∃ q x, l = q ++ [x] := by
      cases h : l.reverse with
      | nil => simp at h; subst h; simp at hl
      | cons x q => exact ⟨q.reverse, x, by rw [← List.reverse_reverse l, h]; simp⟩
    by_cases hx : x = 255
    · obtain ⟨p, d, m, h1, h2⟩ := ih q (by simpa using hl)
      refine ⟨p, d, m + 1, ?_, h2⟩
      rw [← List.cons_append, h1, hx, List.replicate_succ']
      simp
    · exact ⟨c :: q, x, 0, by simp, hx⟩
end Go.Proofs.YtjdmjofkibiaaaaGreatDoor
