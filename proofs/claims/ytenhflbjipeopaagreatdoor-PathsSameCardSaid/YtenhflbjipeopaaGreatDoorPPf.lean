/- Conditions, rising, each once: two ways to the same (the session's own words). -/
import Derived.Test.YtenhflbjipeopaaGreatDoorPPe
namespace Go.Proofs.YtenhflbjipeopaaGreatDoor
open Go Go.Eng Go.Proofs
set_option linter.unusedVariables false
set_option linter.unusedSimpArgs false
set_option maxRecDepth 100000
set_option maxHeartbeats 4000000
theorem sorted_ext : ∀ l m : List Int, l.Pairwise (· < ·) → m.Pairwise (· < ·) → (∀ y, y ∈ l ↔ y ∈ m) → l = m
  | [], [], _, _, _ => rfl
  | [], b :: m, _, _, h => by have := (h b).2 (by simp); cases this
  | a :: l, [], _, _, h => by have := (h a).1 (by simp); cases this
  | a :: l, b :: m, hl, hm, h => by
    rw [List.pairwise_cons] at hl hm
    have e : a = b := by
      rcases List.mem_cons.1 ((h a).1 (by simp)) with e | e
      · exact e
      · rcases List.mem_cons.1 ((h b).2 (by simp)) with e' | e'
        · exact e'.symm
        · have h1 := hm.1 a e
          have h2 := hl.1 b e'
          omega
    subst e
    rw [sorted_ext l m hl.2 hm.2]
    intro y
    constructor
    · intro hy
      rcases List.mem_cons.1 ((h y).1 (List.mem_cons_of_mem _ hy)) with e | e
      · subst e
        have := hl.1 y hy
        omega
      · exact e
    · intro hy
      rcases List.mem_cons.1 ((h y).2 (List.mem_cons_of_mem _ hy)) with e | e
      · subst e
        have := hm.1 y hy
        omega
      · exact e
theorem ahead_take (x : Int) : ∀ l : List Int, ∀ y ∈ l.take (ahead x l), y ≤ x
  | [], y, hy => by simp at hy
  | a :: l, y, hy => by
    unfold ahead at hy
    split at hy
    · rename_i h
      rw [List.take_succ_cons] at hy
      rcases List.mem_cons.1 hy with e | e
      · omega
      · exact ahead_take x l y e
    · simp at hy
theorem ahead_gt (x : Int) : ∀ l : List Int, l.Pairwise (· < ·) → ∀ y ∈ l.drop (ahead x l), x < y
  | [], _, y, hy => by simp at hy
  | a :: l, h, y, hy => by
    rw [List.pairwise_cons] at h
    unfold ahead at hy
    split at hy
    · rw [List.drop_succ_cons] at hy
      exact ahead_gt x l h.2 y hy
    · rename_i hx
      rw [List.drop_zero] at hy
      rcases List.mem_cons.1 hy with e | e
      · omega
      · have := h.1 y e
        omega
theorem insW_mem (out : List Int) (x y : Int) : y ∈ insW out x ↔ y ∈ out ∨ y = x := by
  unfold insW
  have hsp : y ∈ out ↔ (y ∈ out.take (ahead x out) ∨ y ∈ out.drop (ahead x out)) := by
    rw [← List.mem_append, List.take_append_drop]
  split
  · rename_i h
    obtain ⟨z, hz, he⟩ := List.any_eq_true.1 h
    have he : z = x := of_decide_eq_true he
    subst he
    constructor
    · exact .inl
    · rintro (h | h)
      · exact h
      · subst h
        exact List.mem_of_mem_take hz
  · rw [hsp]
    simp only [List.mem_append, List.mem_singleton]
    constructor
    · rintro ((h | h) | h)
      · exact .inl (.inl h)
      · exact .inr h
      · exact .inl (.inr h)
    · rintro ((h | h) | h)
      · exact .inl (.inl h)
      · exact .inr h
      · exact .inl (.inr h)
theorem insW_sorted (out : List Int) (x : Int) (h : out.Pairwise (· < ·)) : (insW out x).Pairwise (· < ·) := by
  unfold insW
  split
  · exact h
  · rename_i hn
    have h0 := h
    rw [← List.take_append_drop (ahead x out) out, List.pairwise_append] at h0
    have hlt : ∀ y ∈ out.take (ahead x out), y < x := fun y hy => by
      have h1 := ahead_take x out y hy
      have h2 : ¬ y = x := fun e => hn (List.any_eq_true.2 ⟨y, hy, decide_eq_true e⟩)
      omega
    rw [List.pairwise_append, List.pairwise_append]
    refine ⟨⟨h0.1, by simp, fun a ha b hb => ?_⟩, h0.2.1, fun a ha b hb => ?_⟩
    · rw [List.mem_singleton] at hb
      subst hb
      exact hlt a ha
    · rcases List.mem_append.1 ha with ha | ha
      · exact h0.2.2 a ha b hb
      · rw [List.mem_singleton] at ha
        subst ha
        exact ahead_gt a out h b hb
theorem fold_ins : ∀ (l out : List Int), out.Pairwise (· < ·) → (l.foldl insW out).Pairwise (· < ·) ∧ ∀ y, y ∈ l.foldl insW out ↔ y ∈ out ∨ y ∈ l
  | [], out, h => ⟨h, fun y => by simp⟩
  | x :: l, out, h => by
    have ih := fold_ins l (insW out x) (insW_sorted out x h)
    refine ⟨ih.1, fun y => ?_⟩
    show y ∈ l.foldl insW (insW out x) ↔ _
    rw [ih.2 y, insW_mem, List.mem_cons]
    constructor
    · rintro ((h | h) | h)
      · exact .inl h
      · exact .inr (.inl h)
      · exact .inr (.inr h)
    · rintro (h | h | h)
      · exact .inl (.inl h)
      · exact .inl (.inr h)
      · exact .inr h
theorem compact_upto (d : Array Int) (hs : ∀ i j, i < j → j < d.size → d[i]! ≤ d[j]!) : ∀ m, m ≤ d.size → (Lib.compactUpTo d m).Pairwise (· < ·) ∧ (∀ y, y ∈ Lib.compactUpTo d m ↔ ∃ j, j < m ∧ d[j]! = y)
  | 0, _ => ⟨List.Pairwise.nil, fun y => by simp [Lib.compactUpTo]⟩
  | m + 1, hm => by
    obtain ⟨h1, h2⟩ := compact_upto d hs m (by omega)
    rw [Lib.compactUpTo_succ]
    cases hk : Lib.keeps d m with
    | false =>
      have hm0 : 0 < m := by
        rcases Nat.eq_zero_or_pos m with h | h
        · subst h
          rw [Lib.keeps_lt_one d 0 (by decide)] at hk
          cases hk
        · exact h
      have he : d[m]! = d[m - 1]! := by
        rcases Int.lt_trichotomy d[m]! d[m - 1]! with h | h | h
        · rw [Lib.keeps_pos (by omega)] at hk; cases hk
        · exact h
        · rw [Lib.keeps_pos (by omega)] at hk; cases hk
      rw [if_neg (by decide), List.append_nil]
      refine ⟨h1, fun y => ?_⟩
      rw [h2 y]
      constructor
      · rintro ⟨j, hj, e⟩
        exact ⟨j, by omega, e⟩
      · rintro ⟨j, hj, e⟩
        rcases Nat.lt_or_ge j m with h | h
        · exact ⟨j, h, e⟩
        · have : j = m := by omega
          subst this
          exact ⟨j - 1, by omega, by rw [← he]; exact e⟩
    | true =>
      rw [if_pos rfl]
      refine ⟨?_, fun y => ?_⟩
      · rw [List.pairwise_append]
        refine ⟨h1, by simp, fun a ha b hb => ?_⟩
        rw [List.mem_singleton] at hb
        subst hb
        obtain ⟨j, hj, e⟩ := (h2 a).1 ha
        have h3 := hs j m hj (by omega)
        have h4 : d[m]! ≠ d[m - 1]! := by
          intro h
          rw [Lib.keeps_neg (by omega) h] at hk
          cases hk
        have h5 : d[j]! ≤ d[m - 1]! := by
          rcases Nat.lt_or_ge j (m - 1) with h | h
          · exact hs j (m - 1) h (by omega)
          · have : j = m - 1 := by omega
            subst this
            exact Int.le_refl _
        have h6 := hs (m - 1) m (by omega) (by omega)
        omega
      · rw [List.mem_append, h2 y, List.mem_singleton]
        constructor
        · rintro (⟨j, hj, e⟩ | e)
          · exact ⟨j, by omega, e⟩
          · exact ⟨m, by omega, e.symm⟩
        · rintro ⟨j, hj, e⟩
          rcases Nat.lt_or_ge j m with h | h
          · exact .inl ⟨j, h, e⟩
          · have : j = m := by omega
            subst this
            exact .inr e.symm
theorem conds_ins (l : List Int) : condsL l = insAll l := by
  unfold condsL
  have hp : (l.mergeSort fun x y => decide (x ≤ y)).Perm l := List.mergeSort_perm l _
  have hsrt : (l.mergeSort fun x y => decide (x ≤ y)).Pairwise (fun a b => decide (a ≤ b) = true) := List.pairwise_mergeSort (fun a b c h1 h2 => by simp only [decide_eq_true_eq] at *; omega) (fun a b => by simp only [Bool.or_eq_true, decide_eq_true_eq]; omega) l
  generalize (l.mergeSort fun x y => decide (x ≤ y)) = s at *
  have hc := compact_upto s.toArray (fun i j hij hj => by
    have hj' : j < s.length := by simpa using hj
    have := List.pairwise_iff_getElem.1 hsrt i j (by omega) hj' hij
    simp only [decide_eq_true_eq] at this
    simpa [getElem!_pos, hj', show i < s.length by omega] using this) s.length (by simp)
  have hf := fold_ins l [] List.Pairwise.nil
  refine sorted_ext _ _ hc.1 hf.1 fun y => ?_
  show y ∈ Lib.compactUpTo s.toArray s.length ↔ y ∈ l.foldl insW []
  rw [hc.2 y, hf.2 y, ← hp.mem_iff]
  constructor
  · rintro ⟨j, hj, e⟩
    refine .inr ?_
    rw [← e]
    simp [getElem!_pos, hj]
  · rintro (h | h)
    · cases h
    · obtain ⟨j, hj, e⟩ := List.getElem_of_mem h
      exact ⟨j, hj, by simp [getElem!_pos, hj, e]⟩
end Go.Proofs.YtenhflbjipeopaaGreatDoor
