/- Texts as tokens: with other blanks between; where the tokens stand; many signs (the session's own words). -/
import Derived.Test.YtcdeidljcmlfdaaDoorPb
namespace Go.Eng
set_option linter.unusedVariables false
set_option linter.unusedSimpArgs false
section
variable (pk pe : List UInt8 → Int)
/-- the tokens' bytes -/
def raws : Nat → List UInt8 → List (List UInt8)
  | 0, _ => []
  | f + 1, l => if trimB l = [] then [] else (trimB l).take (nxt pk pe (trimB l)).n :: raws f ((trimB l).drop (nxt pk pe (trimB l)).n)
end
/-- tokens' bytes, a blank behind each, and other blanks -/
def lay : List (List UInt8) → List (List UInt8) → List UInt8
  | r :: rs, b :: bs => r ++ 32 :: (b ++ lay rs bs)
  | _, _ => []
variable {pk pe : List UInt8 → Int}
theorem raws_tok (f : Nat) {l : List UInt8} (h : trimB l ≠ []) : raws pk pe (f + 1) l = (trimB l).take (nxt pk pe (trimB l)).n :: raws pk pe f ((trimB l).drop (nxt pk pe (trimB l)).n) := by rw [raws, if_neg h]
theorem raws_end (f : Nat) {l : List UInt8} (h : trimB l = []) : raws pk pe (f + 1) l = [] := by rw [raws, if_pos h]
theorem raws_len : ∀ (f : Nat) (l : List UInt8) (a c : Nat), (tkz pk pe f l a c).2 = 0 → (raws pk pe f l).length + 1 = (tkz pk pe f l a c).1.length
  | 0, l, a, c, h => absurd h (by simp [tkz])
  | f + 1, l, a, c, h => by
    by_cases hr : trimB l = []
    · rw [raws_end f hr, tkz_end f a c hr]; rfl
    · obtain ⟨h1, h2, h3, h4⟩ := tkz_tok h hr
      rw [raws_tok f hr, h4, List.length_cons, List.length_cons, raws_len f _ _ _ h3]
theorem trim_all (b x : List UInt8) (h : b.all isBl = true) : trimB (b ++ x) = trimB x := by
  induction b with
  | nil => rfl
  | cons c b ih =>
    rw [List.all_cons, Bool.and_eq_true] at h
    rw [List.cons_append, trim_bl c h.1, ih h.2]
theorem tkz_lay : ∀ (f : Nat) (l : List UInt8) (a c p c' : Nat) (bs : List (List UInt8)), (tkz pk pe f l a c).2 = 0 → bs.length = (raws pk pe f l).length → (∀ b ∈ bs, b.all isBl = true) → c' + (tkz pk pe f l a c).1.length ≤ 1001 →
    ∃ T, tkz pk pe f (lay (raws pk pe f l) bs) p c' = (T, 0) ∧ T.map (fun t => (t.k, t.t)) = (tkz pk pe f l a c).1.map fun t => (t.k, t.t)
  | 0, l, a, c, p, c', bs, h, _, _, _ => absurd h (by simp [tkz])
  | f + 1, l, a, c, p, c', bs, h, hb, hB, hc => by
    by_cases hr : trimB l = []
    · rw [raws_end f hr, tkz_end f a c hr]
      exact ⟨[⟨0, [], p + 0⟩], tkz_end f p c' rfl, rfl⟩
    · obtain ⟨h1, h2, h3, h4⟩ := tkz_tok h hr
      have hn := tkz_ne _ _ _ _ h3
      obtain ⟨n1, n2, n3, n4⟩ := nxt_n (trimB l) h2
      rw [raws_tok f hr] at hb ⊢
      rw [h4, List.length_cons] at hc
      cases bs with
      | nil => simp at hb
      | cons b bs =>
        obtain ⟨T, hT, hm⟩ := tkz_lay f ((trimB l).drop (nxt pk pe (trimB l)).n) _ _ (p + (nxt pk pe (trimB l)).n + 1 + b.length) (c' + 1) bs h3 (by simpa using hb) (fun x hx => hB x (by simp [hx])) (by omega)
        have hnx : nxt pk pe ((trimB l).take (nxt pk pe (trimB l)).n ++ 32 :: (b ++ lay (raws pk pe f ((trimB l).drop (nxt pk pe (trimB l)).n)) bs)) = nxt pk pe (trimB l) :=
          nxt_cut _ _ h2 fun d hd => .inl (by simpa using hd.symm)
        have hlen : ((trimB l).take (nxt pk pe (trimB l)).n).length = (nxt pk pe (trimB l)).n := by rw [List.length_take]; omega
        have htr : trimB ((trimB l).take (nxt pk pe (trimB l)).n ++ 32 :: (b ++ lay (raws pk pe f ((trimB l).drop (nxt pk pe (trimB l)).n)) bs)) = (trimB l).take (nxt pk pe (trimB l)).n ++ 32 :: (b ++ lay (raws pk pe f ((trimB l).drop (nxt pk pe (trimB l)).n)) bs) := by
          refine trim_self fun d hd => ?_
          cases hq : trimB l with
          | nil => exact absurd hq hr
          | cons x xs =>
            have hx := trim_head hq
            obtain ⟨m, hm⟩ : ∃ m, (nxt pk pe (trimB l)).n = m + 1 := ⟨(nxt pk pe (trimB l)).n - 1, by omega⟩
            rw [hm, hq, List.take_succ_cons] at hd
            simp at hd
            rw [← hd]; exact hx
        show ∃ T, tkz pk pe (f + 1) ((trimB l).take (nxt pk pe (trimB l)).n ++ 32 :: (b ++ lay (raws pk pe f ((trimB l).drop (nxt pk pe (trimB l)).n)) bs)) p c' = (T, 0) ∧ _
        generalize hL : lay (raws pk pe f ((trimB l).drop (nxt pk pe (trimB l)).n)) bs = L at *
        have hdr : ((trimB l).take (nxt pk pe (trimB l)).n ++ 32 :: (b ++ L)).drop (nxt pk pe (trimB l)).n = 32 :: (b ++ L) := by
          rw [List.drop_append_of_le_length (by omega), List.drop_of_length_le (by omega), List.nil_append]
        have hstep : tkz pk pe f (32 :: (b ++ L)) (p + (((trimB l).take (nxt pk pe (trimB l)).n ++ 32 :: (b ++ L)).length - ((trimB l).take (nxt pk pe (trimB l)).n ++ 32 :: (b ++ L)).length) + (nxt pk pe (trimB l)).n) (c' + 1) = (T, 0) := by
          rw [tkz_trim f (l' := L) (a' := p + (nxt pk pe (trimB l)).n + 1 + b.length) (c' + 1) (by rw [trim_bl 32 rfl, trim_all b L (hB b (by simp))]) (by rw [Nat.sub_self, List.length_cons, List.length_append]; omega)]
          exact hT
        have key := tkz_mk (pk := pk) (pe := pe) f (l := (trimB l).take (nxt pk pe (trimB l)).n ++ 32 :: (b ++ L)) p c' (by rw [htr]; simp) (by omega) (by rw [htr, hnx]; exact h2) (by rw [htr, hnx, hdr, hstep])
        rw [htr, hnx, hdr, hstep] at key
        refine ⟨_, key, ?_⟩
        rw [h4, List.map_cons, List.map_cons, hm]
theorem tkz_head (f : Nat) (l : List UInt8) (a c : Nat) (h : (tkz pk pe f l a c).2 = 0) : ∃ u T, (tkz pk pe f l a c).1 = u :: T ∧ u.a = a + (l.length - (trimB l).length) := by
  cases f with
  | zero => exact absurd h (by simp [tkz])
  | succ f =>
    by_cases hr : trimB l = []
    · rw [tkz_end f a c hr, hr]
      exact ⟨_, _, rfl, by simp⟩
    · exact ⟨_, _, (tkz_tok h hr).2.2.2, rfl⟩
/-- where tokens stand: a token's bytes, and blanks, up to the next one -/
theorem tkz_at : ∀ (f : Nat) (l : List UInt8) (a c i : Nat), (tkz pk pe f l a c).2 = 0 → i + 1 < (tkz pk pe f l a c).1.length →
    ∃ t u r w, (tkz pk pe f l a c).1[i]? = some t ∧ (tkz pk pe f l a c).1[i + 1]? = some u ∧ (raws pk pe f l)[i]? = some r ∧ a ≤ t.a ∧ t.a ≤ u.a ∧ u.a ≤ a + l.length ∧ w.all isBl = true ∧ (l.drop (t.a - a)).take (u.a - t.a) = r ++ w ∧ 1 ≤ r.length ∧ (∀ c, r[r.length - 1]? = some c → isBl c = false) ∧ (t.k ≠ 4 → t.t = r)
  | 0, l, a, c, i, h, _ => absurd h (by simp [tkz])
  | f + 1, l, a, c, i, h, hi => by
    by_cases hr : trimB l = []
    · rw [tkz_end f a c hr] at hi
      simp at hi
    · obtain ⟨h1, h2, h3, h4⟩ := tkz_tok h hr
      obtain ⟨n1, n2, n3, n4⟩ := nxt_n (trimB l) h2
      have hle := trim_le l
      have his := trim_is l
      rw [raws_tok f hr, h4]
      rw [h4, List.length_cons] at hi
      obtain ⟨v, T, hv, hva⟩ := tkz_head _ _ _ _ h3
      have hld : ((trimB l).drop (nxt pk pe (trimB l)).n).length = (trimB l).length - (nxt pk pe (trimB l)).n := List.length_drop
      have hle2 := trim_le ((trimB l).drop (nxt pk pe (trimB l)).n)
      cases i with
      | zero =>
        refine ⟨_, v, _, ((trimB l).drop (nxt pk pe (trimB l)).n).take (((trimB l).drop (nxt pk pe (trimB l)).n).length - (trimB ((trimB l).drop (nxt pk pe (trimB l)).n)).length), rfl, by rw [hv]; rfl, rfl, by simp, by simp only; omega, by omega, trim_take _, ?_, by rw [List.length_take]; omega, ?_, n4⟩
        · simp only
          rw [show a + (l.length - (trimB l).length) - a = l.length - (trimB l).length by omega, his]
          rw [show v.a - (a + (l.length - (trimB l).length)) = (nxt pk pe (trimB l)).n + (((trimB l).drop (nxt pk pe (trimB l)).n).length - (trimB ((trimB l).drop (nxt pk pe (trimB l)).n)).length) by omega]
          rw [List.take_add]
        · intro x hx
          refine n3 x ?_
          rw [List.length_take, show min (nxt pk pe (trimB l)).n (trimB l).length = (nxt pk pe (trimB l)).n by omega, List.getElem?_take, if_pos (by omega)] at hx
          exact hx
      | succ i =>
        obtain ⟨t, u, r, w, g1, g2, g3, g4, g5, g6, g7, g8, g9, g10, g11⟩ := tkz_at f ((trimB l).drop (nxt pk pe (trimB l)).n) (a + (l.length - (trimB l).length) + (nxt pk pe (trimB l)).n) (c + 1) i h3 (by omega)
        refine ⟨t, u, r, w, by simpa using g1, by simpa using g2, by simpa using g3, by omega, g5, by omega, g7, ?_, g9, g10, g11⟩
        rw [← g8]
        congr 1
        rw [show t.a - a = (l.length - (trimB l).length) + ((nxt pk pe (trimB l)).n + (t.a - (a + (l.length - (trimB l).length) + (nxt pk pe (trimB l)).n))) by omega, ← List.drop_drop, his, ← List.drop_drop]
/-! ### many signs -/
def par (sp : List UInt8) : Nat → List UInt8
  | 0 => sp
  | k + 1 => 40 :: 32 :: par sp k
theorem nxt_par (x : List UInt8) : nxt pk pe (40 :: 32 :: x) = ⟨5, [40], 1, 0⟩ := by
  simp [nxt, isRun, isTwo, isSg]
theorem tkz_par (sp : List UInt8) (hs : sp.all isBl = true) : ∀ (k j a c : Nat), c ≤ 1000 → (c + k ≤ 1000 → ∃ T, tkz pk pe (k + 1 + j) (par sp k) a c = (T, 0) ∧ T.length = k + 1) ∧ (1000 < c + k → tkz pk pe (k + 1 + j) (par sp k) a c = ([], 15))
  | 0, j, a, c, hc => by
    have hr : trimB (par sp 0) = [] := by
      have := trim_all sp [] hs
      rw [List.append_nil] at this
      exact this
    rw [show 0 + 1 + j = j + 1 by omega, tkz_end j a c hr]
    exact ⟨fun _ => ⟨_, rfl, rfl⟩, fun h => by omega⟩
  | k + 1, j, a, c, hc => by
    have htr : trimB (par sp (k + 1)) = par sp (k + 1) := trim_self fun d hd => by simp [par] at hd; subst hd; rfl
    have hr : trimB (par sp (k + 1)) ≠ [] := by rw [htr]; simp [par]
    have hnx : nxt pk pe (trimB (par sp (k + 1))) = ⟨5, [40], 1, 0⟩ := by rw [htr]; exact nxt_par _
    have hst : ∀ a', tkz pk pe (k + 1 + j) ((trimB (par sp (k + 1))).drop 1) a' (c + 1) = tkz pk pe (k + 1 + j) (par sp k) (a' + 1) (c + 1) := fun a' => by
      rw [htr]
      exact tkz_trim _ _ (by show trimB (32 :: par sp k) = _; rw [trim_bl 32 rfl]) (by show a' + (32 :: par sp k).length = _; rw [List.length_cons]; omega)
    rw [show k + 1 + 1 + j = k + 1 + j + 1 by omega]
    by_cases h1 : c = 1000
    · refine ⟨fun h => by omega, fun _ => ?_⟩
      rw [tkz, if_neg hr, if_pos h1]
    · have ih := tkz_par sp hs k j (a + ((par sp (k + 1)).length - (trimB (par sp (k + 1))).length) + 1 + 1) (c + 1) (by omega)
      constructor
      · intro h
        obtain ⟨T, hT, hl⟩ := ih.1 (by omega)
        refine ⟨_, tkz_mk (k + 1 + j) a c hr h1 (by rw [hnx]) (by rw [hnx, hst, hT]), ?_⟩
        rw [hnx, hst, hT, List.length_cons, hl]
      · intro h
        have h2 := ih.2 (by omega)
        rw [tkz, if_neg hr, if_neg h1, if_neg (by rw [hnx]; simp), if_pos (by rw [hnx, hst, h2]; decide), hnx, hst, h2]
end Go.Eng
