/- Lines of values: parted at bars, and word by word, alike (the session's own words). -/
import Derived.Test.YtjdkcedhmfgmoaaDoorYa
import Derived.Test.YtjdkcedhmfgmoaaDoorVi
namespace Go.Proofs.YtjdkcedhmfgmoaaDoor
open Go Go.Eng Go.Proofs
set_option linter.unusedVariables false
set_option linter.unusedSimpArgs false
set_option maxRecDepth 100000
set_option maxHeartbeats 4000000
def isBar (l : List UInt8) : Bool := barL.isPrefixOf l
theorem isBar_iff (l : List UInt8) : isBar l = true ↔ ∃ r, l = barL ++ r := by
  unfold isBar
  rw [List.isPrefixOf_iff_prefix]
  exact ⟨fun ⟨r, h⟩ => ⟨r, h.symm⟩, fun ⟨r, h⟩ => ⟨r, h.symm⟩⟩
theorem isBar_no {c : UInt8} (h : c ≠ 32) (r : List UInt8) : isBar (c :: r) = false := by
  cases hb : isBar (c :: r) with
  | false => rfl
  | true =>
    obtain ⟨x, hx⟩ := (isBar_iff _).1 hb
    exact absurd (List.cons.inj hx).1 h
theorem isBar_bar (r : List UInt8) : isBar (barL ++ r) = true := (isBar_iff _).2 ⟨r, rfl⟩
/-- a line, parted at bars that stand in no quoted text: so many bytes are passed over; within quotes; what stands ahead -/
def prt : Nat → Bool → List UInt8 → List UInt8 → List (List UInt8)
  | _, _, acc, [] => [acc]
  | k + 1, q, acc, _ :: r => prt k q acc r
  | 0, q, acc, c :: r => if (if c = 39 then !q else q) = false ∧ isBar (c :: r) = true then acc :: prt 2 false [] r else prt 0 (if c = 39 then !q else q) (acc ++ [c]) r
theorem prt_nil (k : Nat) (q : Bool) (acc : List UInt8) : prt k q acc [] = [acc] := by cases k <;> rfl
theorem prt_skip (k : Nat) (q : Bool) (acc : List UInt8) (c : UInt8) (r : List UInt8) : prt (k + 1) q acc (c :: r) = prt k q acc r := rfl
theorem prt_zero (q : Bool) (acc : List UInt8) (c : UInt8) (r : List UInt8) : prt 0 q acc (c :: r) = if (if c = 39 then !q else q) = false ∧ isBar (c :: r) = true then acc :: prt 2 false [] r else prt 0 (if c = 39 then !q else q) (acc ++ [c]) r := by rw [prt.eq_def]
theorem prt_q (q : Bool) (acc r : List UInt8) : prt 0 q acc (39 :: r) = prt 0 (!q) (acc ++ [39]) r := by
  rw [prt_zero, isBar_no (by decide)]
  simp
theorem prt_c (acc r : List UInt8) {c : UInt8} (h : c ≠ 39) (hb : isBar (c :: r) = false) : prt 0 false acc (c :: r) = prt 0 false (acc ++ [c]) r := by
  rw [prt_zero, hb]
  simp [h]
theorem prt_t (acc r : List UInt8) {c : UInt8} (h : c ≠ 39) : prt 0 true acc (c :: r) = prt 0 true (acc ++ [c]) r := by
  rw [prt_zero]
  simp [h]
theorem prt_bar (acc r : List UInt8) : prt 0 false acc (barL ++ r) = acc :: prt 0 false [] r := by
  show prt 0 false acc (32 :: 124 :: 32 :: r) = _
  rw [prt_zero, if_pos ⟨by decide, isBar_bar r⟩, prt_skip, prt_skip]
theorem prt_dbl : ∀ (t x acc : List UInt8), prt 0 true acc (dbl t ++ x) = prt 0 true (acc ++ dbl t) x
  | [], x, acc => by simp [dbl]
  | c :: t, x, acc => by
    by_cases h : c = 39
    · subst h
      rw [show dbl (39 :: t) = 39 :: 39 :: dbl t from rfl, List.cons_append, List.cons_append, prt_q, prt_q]
      rw [show (!(!true)) = true from rfl, prt_dbl t x]
      simp
    · rw [show dbl (c :: t) = c :: dbl t by simp [dbl, h], List.cons_append, prt_t _ _ h, prt_dbl t x]
      simp
theorem prt_quoted (t r acc : List UInt8) : prt 0 false acc (39 :: dbl t ++ [39] ++ r) = prt 0 false (acc ++ (39 :: dbl t ++ [39])) r := by
  rw [List.append_assoc, List.cons_append, prt_q, show (!false) = true from rfl, prt_dbl, List.singleton_append, prt_q]
  simp
theorem prt_plain : ∀ (w r acc : List UInt8), 39 ∉ w → 32 ∉ w → prt 0 false acc (w ++ r) = prt 0 false (acc ++ w) r
  | [], r, acc, _, _ => by simp
  | c :: w, r, acc, h1, h2 => by
    rw [List.cons_append, prt_c _ _ (fun h => h1 (by simp [h])) (isBar_no (fun h => h2 (by simp [h])) _), prt_plain w r _ (fun h => h1 (List.mem_cons_of_mem _ h)) (fun h => h2 (List.mem_cons_of_mem _ h))]
    simp
theorem prt_head : ∀ (s : List UInt8) (q : Bool) (acc : List UInt8), ∃ p r tl, s = p ++ r ∧ prt 0 q acc s = (acc ++ p) :: tl ∧ (r = [] ∨ isBar r = true)
  | [], q, acc => ⟨[], [], [], rfl, by rw [prt_nil]; simp, .inl rfl⟩
  | c :: s, q, acc => by
    rw [prt_zero]
    by_cases h : (if c = 39 then !q else q) = false ∧ isBar (c :: s) = true
    · rw [if_pos h]
      exact ⟨[], c :: s, _, rfl, by rw [List.append_nil], .inr h.2⟩
    · rw [if_neg h]
      obtain ⟨p, r, tl, e1, e2, e3⟩ := prt_head s (if c = 39 then !q else q) (acc ++ [c])
      exact ⟨c :: p, r, tl, by rw [e1]; rfl, by rw [e2]; simp, e3⟩
/-- where a quoted text ends -/
def qz : Nat → List UInt8 → Nat
  | _, [] => 0
  | n, [c] => if c = 39 then n + 1 else 0
  | n, c :: d :: r => if c = 39 then (if d = 39 then qz (n + 2) r else n + 1) else qz (n + 1) (d :: r)
theorem qz_end (n : Nat) : ∀ r : List UInt8, r.head? ≠ some 39 → qz n (39 :: r) = n + 1
  | [], _ => by simp [qz]
  | d :: r, h => by
    have : d ≠ 39 := fun e => h (by simp [e])
    rw [qz, if_pos rfl, if_neg this]
theorem qz_dbl : ∀ (t : List UInt8) (n : Nat) (r : List UInt8), r.head? ≠ some 39 → qz n (dbl t ++ 39 :: r) = n + (dbl t).length + 1
  | [], n, r, h => by simpa [dbl] using qz_end n r h
  | c :: t, n, r, h => by
    by_cases hc : c = 39
    · subst hc
      rw [show dbl (39 :: t) = 39 :: 39 :: dbl t from rfl, List.cons_append, List.cons_append, qz, if_pos rfl, if_pos rfl, qz_dbl t (n + 2) r h]
      simp only [List.length_cons]
      omega
    · have ih := qz_dbl t (n + 1) r h
      rw [show dbl (c :: t) = c :: dbl t by simp [dbl, hc], List.cons_append]
      have hne : dbl t ++ 39 :: r ≠ [] := by simp
      generalize dbl t ++ 39 :: r = x at *
      match x, hne with
      | d :: x, _ =>
        rw [qz, if_neg hc, ih]
        simp only [List.length_cons]
        omega
/-- the value's text at the front -/
def wordL (s : List UInt8) : List UInt8 := if s.head? = some 39 then s.take (qz 1 s.tail) else if 0 ≤ Lib.index s barL then s.take (Lib.index s barL).toNat else s
theorem word_pre (s : List UInt8) : ∃ r, s = wordL s ++ r := by
  unfold wordL
  split
  · exact ⟨_, (List.take_append_drop _ _).symm⟩
  · split
    · exact ⟨_, (List.take_append_drop _ _).symm⟩
    · exact ⟨[], by simp⟩
theorem bar_head {r : List UInt8} (h : r = [] ∨ isBar r = true) : r.head? ≠ some 39 := by
  rcases h with rfl | h
  · simp
  · obtain ⟨x, rfl⟩ := (isBar_iff _).1 h
    simp [barL]
theorem word_quoted (t r : List UInt8) (h : r = [] ∨ isBar r = true) : wordL (39 :: dbl t ++ [39] ++ r) = 39 :: dbl t ++ [39] := by
  unfold wordL
  rw [if_pos (by simp)]
  have e : (39 :: dbl t ++ [39] ++ r).tail = dbl t ++ 39 :: r := by simp
  rw [e, qz_dbl t 1 r (bar_head h)]
  have hl : 1 + (dbl t).length + 1 = (39 :: dbl t ++ [39]).length := by simp; omega
  rw [hl, List.take_left]
theorem occ_no {p r : List UInt8} (h32 : 32 ∉ p) {j : Nat} (h : j < p.length) : Lib.occAt (p ++ r) barL j = false := by
  unfold Lib.occAt
  rw [List.drop_append_of_le_length (Nat.le_of_lt h), List.drop_eq_getElem_cons h, List.cons_append]
  exact isBar_no (fun e => h32 (e ▸ List.getElem_mem h)) _
theorem word_plain (p r : List UInt8) (h39 : 39 ∉ p) (h32 : 32 ∉ p) (hp : p ≠ []) (h : r = [] ∨ isBar r = true) : wordL (p ++ r) = p := by
  unfold wordL
  have hh : (p ++ r).head? ≠ some 39 := by
    match p, hp with
    | c :: p, _ => simp; intro e; exact h39 (by simp [e])
  rw [if_neg hh]
  rcases h with rfl | h
  · rw [List.append_nil]
    have := Lib.index_none (s := p) (sub := barL) (fun j hj => by
      rcases Nat.lt_or_ge j p.length with h | h
      · have := occ_no (r := []) h32 h
        rwa [List.append_nil] at this
      · unfold Lib.occAt
        rw [List.drop_of_length_le h]
        rfl)
    rw [this]
    simp
  · have := Lib.index_first (s := p ++ r) (sub := barL) (i := p.length) (by simp) (by unfold Lib.occAt; rw [List.drop_left]; exact h) (fun j hj => occ_no h32 hj)
    rw [this, if_pos (by omega), Int.toNat_natCast, List.take_left]
noncomputable def okb (w : List UInt8) : Bool := (rd (bs w)).2
theorem dgs_not {l : List UInt8} (h : dgs l) : 39 ∉ l ∧ 32 ∉ l := ⟨fun m => by have := h _ m; simp at this, fun m => by have := h _ m; simp at this⟩
theorem itoa_shape (v : Int) : 39 ∉ Lib.itoa v ∧ 32 ∉ Lib.itoa v ∧ Lib.itoa v ≠ [] := by
  have h := decDigits_spec v.natAbs
  have hn := dgs_not h.1
  by_cases hv : v < 0
  · rw [itoa_neg v hv]
    simp [hn.1, hn.2]
  · rw [itoa_pos v hv]
    exact ⟨hn.1, hn.2, h.2.2⟩
theorem vshow_shape (v : Val) : (∃ t, vshow v = 39 :: dbl t ++ [39]) ∨ (39 ∉ vshow v ∧ 32 ∉ vshow v ∧ vshow v ≠ []) := by
  unfold vshow
  split
  · exact .inr (itoa_shape _)
  · split
    · split
      · exact .inr (by decide)
      · exact .inr (by decide)
    · split
      · exact .inl ⟨bl v.text, by simp⟩
      · exact .inr (by decide)
theorem ok_shape {w : List UInt8} (h : okb w = true) : (∃ t, w = 39 :: dbl t ++ [39]) ∨ (39 ∉ w ∧ 32 ∉ w ∧ w ≠ []) := by
  have := bs_inj (rd_show (bs w) h).1
  rw [← this]
  exact vshow_shape _
theorem prt_word {w : List UInt8} (h : okb w = true) (r acc : List UInt8) : prt 0 false acc (w ++ r) = prt 0 false (acc ++ w) r := by
  rcases ok_shape h with ⟨t, rfl⟩ | ⟨h1, h2, _⟩
  · exact prt_quoted t r acc
  · exact prt_plain w r acc h1 h2
theorem head_ok {s p : List UInt8} {tl : List (List UInt8)} (e : prt 0 false [] s = p :: tl) (h : okb p = true) : ∃ r, s = p ++ r ∧ (r = [] ∨ isBar r = true) ∧ wordL s = p := by
  obtain ⟨p', r, tl', e1, e2, e3⟩ := prt_head s false []
  rw [e, List.nil_append] at e2
  obtain ⟨rfl, _⟩ := List.cons.inj e2
  refine ⟨r, e1, e3, ?_⟩
  rw [e1]
  rcases ok_shape h with ⟨t, rfl⟩ | ⟨h1, h2, h3⟩
  · exact word_quoted t r e3
  · exact word_plain p r h1 h2 h3 e3
/-- a line's words, if all of them are values -/
noncomputable def vals (s : List UInt8) : Option (List (List UInt8)) := if (prt 0 false [] s).all okb = true then some (prt 0 false [] s) else none
theorem vals_head {s : List UInt8} (h : vals s ≠ none) : ∃ r, s = wordL s ++ r ∧ (r = [] ∨ isBar r = true) ∧ okb (wordL s) = true := by
  unfold vals at h
  split at h
  · rename_i ha
    obtain ⟨p, r, tl, e1, e2, e3⟩ := prt_head s false []
    rw [e2, List.nil_append, List.all_cons, Bool.and_eq_true] at ha
    obtain ⟨r', f1, f2, f3⟩ := head_ok e2 ha.1
    rw [List.nil_append] at f1 f3
    rw [f3]
    exact ⟨r', f1, f2, ha.1⟩
  · exact absurd rfl h
theorem vals_bad {s : List UInt8} (h : okb (wordL s) = false) : vals s = none := by
  cases hv : vals s with
  | none => rfl
  | some l =>
    obtain ⟨r, _, _, h2⟩ := vals_head (s := s) (by rw [hv]; simp)
    rw [h] at h2
    cases h2
theorem vals_end {s : List UInt8} (h : okb s = true) : vals s = some [s] := by
  have := prt_word h [] []
  rw [List.append_nil, List.nil_append, prt_nil] at this
  unfold vals
  rw [this]
  simp [h]
theorem vals_none {s r : List UInt8} (e : s = wordL s ++ r) (h1 : r ≠ []) (h2 : isBar r = false) : vals s = none := by
  cases hv : vals s with
  | none => rfl
  | some l =>
    obtain ⟨r', f1, f2, _⟩ := vals_head (s := s) (by rw [hv]; simp)
    have : r = r' := List.append_cancel_left (e.symm.trans f1)
    subst this
    rcases f2 with f2 | f2
    · exact absurd f2 h1
    · rw [h2] at f2; cases f2
theorem vals_more {w r : List UInt8} (h : okb w = true) : vals (w ++ barL ++ r) = (vals r).map (w :: ·) := by
  have := prt_word h (barL ++ r) []
  rw [← List.append_assoc, List.nil_append, prt_bar] at this
  unfold vals
  rw [this, List.all_cons, h, Bool.true_and]
  split <;> rfl
/-- a row's line is its values' texts -/
theorem show_ok (v : Val) (hi : inI64 v.int) (h : mayV v = true) : okb (vshow v) = true := by
  unfold okb
  rw [show_rd v hi h]
theorem vals_line : ∀ (row : List Val), row ≠ [] → (∀ v ∈ row, inI64 v.int ∧ mayV v = true) → vals (Lib.join (row.map vshow) barL) = some (row.map vshow)
  | [], h, _ => absurd rfl h
  | [v], _, h => by
    simp only [List.map_cons, List.map_nil, Lib.join_one]
    exact vals_end (show_ok v (h v (by simp)).1 (h v (by simp)).2)
  | v :: u :: l, _, h => by
    have ih := vals_line (u :: l) (by simp) fun x hx => h x (List.mem_cons_of_mem _ hx)
    have e : Lib.join ((v :: u :: l).map vshow) barL = vshow v ++ barL ++ Lib.join ((u :: l).map vshow) barL := by
      simp only [List.map_cons, Lib.join_cons, Lib.joinTail, List.map_cons, List.flatten_cons, List.append_assoc]
    rw [e, vals_more (show_ok v (h v (by simp)).1 (h v (by simp)).2), ih]
    rfl
end Go.Proofs.YtjdkcedhmfgmoaaDoor
