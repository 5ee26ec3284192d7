/- lex.Word tells whether a text is a word (the session's own words). -/
import Derived.Test.YtcdeidljcmlfdaaDoorWb
namespace Go.Proofs.YtcdeidljcmlfdaaDoor
open Go Go.Eng Go.Proofs Go.RowKit Go.Shelf
attribute [local go_sem] Oper.semAt_some
set_option linter.unusedVariables false
set_option linter.unusedSimpArgs false
theorem cell_of_box (W : World) (B : Nat) (v : Value) (t : TypeId) (h : W.heap[B]? = some (.cells #[v] t (0, 0))) : W.cell? ⟨B, 0, none⟩ = some v ∧ W.frozen? ⟨B, 0, none⟩ = false := by
  constructor <;> simp [World.cell?, World.frozen?, h]
theorem cell_new (W : World) (v : Value) (t : TypeId) : (W.alloc (.cells #[v] t)).cell? ⟨W.heap.size, 0, none⟩ = some v ∧ (W.alloc (.cells #[v] t)).frozen? ⟨W.heap.size, 0, none⟩ = false :=
  cell_of_box _ _ _ t (World.alloc_heap_new W _)
theorem cell_alloc {W : World} {a : Addr} {v : Value} (o : Obj) (h : W.cell? a = some v) : (W.alloc o).cell? a = some v := cell_kept h (World.grownBy_alloc W o none) (fun r e => by cases e)
theorem frozen_alloc {W : World} {a : Addr} {v : Value} (o : Obj) (h : W.cell? a = some v) (hf : W.frozen? a = false) : (W.alloc o).frozen? a = false := (frozen_kept h (World.grownBy_alloc W o none) (fun r e => by cases e)).trans hf
theorem splitSeqC (n : Nat) (a b : ByteArray) (k : Int) (w : World) : CallsIn Fence.wide n Tryd.prog 27 #[.string a, .string b, .int .i64 k] w fun e w' =>
    e = .returned (.func (.func 39) #[] #[.pointer (some ⟨w.heap.size + 1, 0, none⟩), .pointer (some ⟨w.heap.size, 0, none⟩), .pointer (some ⟨w.heap.size + 1 + 1, 0, none⟩)]) ∧
    w' = ((w.alloc (.cells #[.string a] 9)).alloc (.cells #[.string b] 9)).alloc (.cells #[.int .i64 k] 3) := by
  refine callsIn_of_wp Tryd.func27 rfl trivial ?_ rfl
  simp only [Tryd.ntmps27, List.size_toArray, List.length_cons, List.length_nil, Nat.reduceAdd, Nat.reduceSub, Array.replicate_succ, Array.replicate_zero, List.push_toArray, List.append_toArray, List.nil_append, List.cons_append]
  gi_wp2
  go_ret
  exact ⟨rfl, rfl⟩
theorem SplitSeqC (n : Nat) (hn : 1 ≤ n) (a b : ByteArray) (w : World) : CallsIn Fence.wide n Tryd.prog 16 #[.string a, .string b] w fun e w' =>
    e = .returned (.func (.func 39) #[] #[.pointer (some ⟨w.heap.size + 1, 0, none⟩), .pointer (some ⟨w.heap.size, 0, none⟩), .pointer (some ⟨w.heap.size + 1 + 1, 0, none⟩)]) ∧
    w' = ((w.alloc (.cells #[.string a] 9)).alloc (.cells #[.string b] 9)).alloc (.cells #[.int .i64 0] 3) := by
  refine callsIn_of_wp Tryd.func16 rfl trivial ?_ rfl
  simp only [Tryd.ntmps16, List.size_toArray, List.length_cons, List.length_nil, Nat.reduceAdd, Nat.reduceSub, Array.replicate_succ, Array.replicate_zero, List.push_toArray, List.append_toArray, List.nil_append, List.cons_append]
  gi_wp2_with (refine ⟨trivial, ?_⟩; gi_at_call 27; refine (splitSeqC (n - 1) a b 0 _).mono ?_; rintro e w' ⟨rfl, rfl⟩)
  go_ret
  exact ⟨rfl, rfl⟩
set_option maxRecDepth 100000 in
set_option maxHeartbeats 4000000 in
theorem wordC (s : ByteArray) (m : Int) (w : World) (hm : w.cell? ⟨2, 0, none⟩ = some (.int .i64 m)) :
    CallsIn Fence.wide 5 Tryd.prog 11 #[.string s] w fun e W' => e = .returned (.bool (isWord s)) ∧ Below w.heap.size w W' := by
  refine callsIn_of_wp_marks Tryd.func11 rfl trivial ?_ rfl
  simp only [Tryd.ntmps11, List.size_toArray, List.length_cons, List.length_nil, Nat.reduceAdd, Nat.reduceSub, Array.replicate_succ, Array.replicate_zero, List.push_toArray, List.append_toArray, List.nil_append, List.cons_append]
  gi_wp2_with (refine ⟨trivial, ?_⟩; gi_at_call 16; refine (SplitSeqC (5 - 1) (by decide) _ _ _).mono ?_; rintro e w' ⟨rfl, rfl⟩)
  obtain ⟨w1, hw1⟩ : ∃ w1, w.alloc (.cells #[.string s] 9) = w1 := ⟨_, rfl⟩
  have z1 : w1.heap.size = w.heap.size + 1 := by rw [← hw1]; simp
  have c0 : w1.cell? ⟨w.heap.size, 0, none⟩ = some (.string s) := by rw [← hw1]; exact (cell_new w _ _).1
  have m1 : w1.cell? ⟨2, 0, none⟩ = some (.int .i64 m) := by rw [← hw1]; exact cell_alloc _ hm
  have b1 : Below w.heap.size w w1 := by rw [← hw1]; exact (Below.refl _ w).alloc (Nat.le_refl _) _
  rw [hw1]
  obtain ⟨w2, hw2⟩ : ∃ w2, w1.alloc (.cells #[.bool false] 4) = w2 := ⟨_, rfl⟩
  have z2 : w2.heap.size = w.heap.size + 2 := by rw [← hw2]; simp [z1]
  have c1 : w2.cell? ⟨w.heap.size, 0, none⟩ = some (.string s) := by rw [← hw2]; exact cell_alloc _ c0
  have r1 : w2.cell? ⟨w.heap.size + 1, 0, none⟩ = some (.bool false) ∧ w2.frozen? ⟨w.heap.size + 1, 0, none⟩ = false := by rw [← hw2, ← z1]; exact cell_new w1 _ _
  have m2 : w2.cell? ⟨2, 0, none⟩ = some (.int .i64 m) := by rw [← hw2]; exact cell_alloc _ m1
  have b2 : Below w.heap.size w w2 := by rw [← hw2]; exact b1.alloc (by omega) _
  rw [hw2]
  have ea : (⟨#[83, 69, 76, 69, 67, 84, 32, 68, 73, 83, 84, 73, 78, 67, 84, 32, 70, 82, 79, 77, 32, 87, 72, 69, 82, 69, 32, 71, 82, 79, 85, 80, 32, 66, 89, 32, 79, 82, 68, 69, 82, 32, 76, 73, 77, 73, 84, 32, 65, 83, 32, 65, 78, 68, 32, 79, 82, 32, 78, 79, 84, 32, 73, 83, 32, 78, 85, 76, 76, 32, 73, 78, 32, 66, 69, 84, 87, 69, 69, 78, 32, 84, 82, 85, 69, 32, 70, 65, 76, 83, 69, 32, 65, 83, 67, 32, 68, 69, 83, 67, 32, 67, 79, 85, 78, 84, 32, 83, 85, 77, 32, 77, 73, 78, 32, 77, 65, 88]⟩ : ByteArray) = bs (sfx wrd) := by rw [sfx_all]; rfl
  rw [ea]
  obtain ⟨w3, hw3⟩ : ∃ w3, w2.alloc (.cells #[.string (bs (sfx wrd))] 9) = w3 := ⟨_, rfl⟩
  have z3 : w3.heap.size = w.heap.size + 3 := by rw [← hw3]; simp [z2]
  have c2 : w3.cell? ⟨w.heap.size, 0, none⟩ = some (.string s) := by rw [← hw3]; exact cell_alloc _ c1
  have r2 : w3.cell? ⟨w.heap.size + 1, 0, none⟩ = some (.bool false) ∧ w3.frozen? ⟨w.heap.size + 1, 0, none⟩ = false := by rw [← hw3]; exact ⟨cell_alloc _ r1.1, frozen_alloc _ r1.1 r1.2⟩
  have s3 : w3.cell? ⟨w.heap.size + 1 + 1, 0, none⟩ = some (.string (bs (sfx wrd))) ∧ w3.frozen? ⟨w.heap.size + 1 + 1, 0, none⟩ = false := by rw [← hw3, show w.heap.size + 1 + 1 = w2.heap.size by omega]; exact cell_new w2 _ _
  have m3 : w3.cell? ⟨2, 0, none⟩ = some (.int .i64 m) := by rw [← hw3]; exact cell_alloc _ m2
  have b3 : Below w.heap.size w w3 := by rw [← hw3]; exact b2.alloc (by omega) _
  rw [hw3]
  obtain ⟨w4, hw4⟩ : ∃ w4, w3.alloc (.cells #[.string ⟨#[32]⟩] 9) = w4 := ⟨_, rfl⟩
  have z4 : w4.heap.size = w.heap.size + 4 := by rw [← hw4]; simp [z3]
  have c3 : w4.cell? ⟨w.heap.size, 0, none⟩ = some (.string s) := by rw [← hw4]; exact cell_alloc _ c2
  have r3 : w4.cell? ⟨w.heap.size + 1, 0, none⟩ = some (.bool false) ∧ w4.frozen? ⟨w.heap.size + 1, 0, none⟩ = false := by rw [← hw4]; exact ⟨cell_alloc _ r2.1, frozen_alloc _ r2.1 r2.2⟩
  have s4 : w4.cell? ⟨w.heap.size + 1 + 1, 0, none⟩ = some (.string (bs (sfx wrd))) ∧ w4.frozen? ⟨w.heap.size + 1 + 1, 0, none⟩ = false := by rw [← hw4]; exact ⟨cell_alloc _ s3.1, frozen_alloc _ s3.1 s3.2⟩
  have q4 : w4.cell? ⟨w.heap.size + 1 + 1 + 1, 0, none⟩ = some (.string ⟨#[32]⟩) := by rw [← hw4, show w.heap.size + 1 + 1 + 1 = w3.heap.size by omega]; exact (cell_new w3 _ _).1
  have m4 : w4.cell? ⟨2, 0, none⟩ = some (.int .i64 m) := by rw [← hw4]; exact cell_alloc _ m3
  have b4 : Below w.heap.size w w4 := by rw [← hw4]; exact b3.alloc (by omega) _
  rw [hw4]
  obtain ⟨w5, hw5⟩ : ∃ w5, w4.alloc (.cells #[.int .i64 0] 3) = w5 := ⟨_, rfl⟩
  have z5 : w5.heap.size = w.heap.size + 5 := by rw [← hw5]; simp [z4]
  have c4 : w5.cell? ⟨w.heap.size, 0, none⟩ = some (.string s) := by rw [← hw5]; exact cell_alloc _ c3
  have r4 : w5.cell? ⟨w.heap.size + 1, 0, none⟩ = some (.bool false) ∧ w5.frozen? ⟨w.heap.size + 1, 0, none⟩ = false := by rw [← hw5]; exact ⟨cell_alloc _ r3.1, frozen_alloc _ r3.1 r3.2⟩
  have s5 : w5.cell? ⟨w.heap.size + 1 + 1, 0, none⟩ = some (.string (bs (sfx wrd))) ∧ w5.frozen? ⟨w.heap.size + 1 + 1, 0, none⟩ = false := by rw [← hw5]; exact ⟨cell_alloc _ s4.1, frozen_alloc _ s4.1 s4.2⟩
  have q5 : w5.cell? ⟨w.heap.size + 1 + 1 + 1, 0, none⟩ = some (.string ⟨#[32]⟩) := by rw [← hw5]; exact cell_alloc _ q4
  have k5 : w5.cell? ⟨w.heap.size + 1 + 1 + 1 + 1, 0, none⟩ = some (.int .i64 0) := by rw [← hw5, show w.heap.size + 1 + 1 + 1 + 1 = w4.heap.size by omega]; exact (cell_new w4 _ _).1
  have m5 : w5.cell? ⟨2, 0, none⟩ = some (.int .i64 m) := by rw [← hw5]; exact cell_alloc _ m4
  have b5 : Below w.heap.size w w5 := by rw [← hw5]; exact b4.alloc (by omega) _
  rw [hw5]
  have hmb : 2 < w.heap.size := World.block_lt_of_cell? w _ hm
  clear hw1 hw2 hw3 hw4 hw5 b1 b2 b3 b4
  refine wpIn_rangeFunc_box (F := Fence.wide) rfl (by decide : 1 ≤ 5) (gf := 39) (lb := #[.pointer (some ⟨w.heap.size + 1 + 1 + 1, 0, none⟩), .pointer (some ⟨w.heap.size + 1 + 1, 0, none⟩), .pointer (some ⟨w.heap.size + 1 + 1 + 1 + 1, 0, none⟩)]) rfl trivial (enters_of Tryd.func39 (by kernel_rfl) rfl)
    (encs := fun x : ByteArray => #[.string x]) (Kp := Below w5.heap.size) (S := fun ys => ys = wrd.map bs) (Sp := fun pre => pre <+: wrd.map bs) (N := wrd.length) (Bx := w.heap.size + 1 + 1) (w0 := w5)
    (fun l J Jx W hW _ _ hJb hY h0 => splitIter (5 - 1) (by decide) l (w.heap.size + 1 + 1 + 1) (w.heap.size + 1 + 1) (w.heap.size + 1 + 1 + 1 + 1) w5.heap.size m J Jx (by omega) (by omega) (by omega) (by omega) (by omega) (by omega) (by omega) hJb hY W
      ((hW.cell (p := ⟨w.heap.size + 1 + 1 + 1, 0, none⟩) (by dsimp only; omega)).trans q5) ((hW.cell (p := ⟨w.heap.size + 1 + 1, 0, none⟩) (by dsimp only; omega)).trans s5.1) ((hW.frozen (p := ⟨w.heap.size + 1 + 1, 0, none⟩) (by dsimp only; omega)).trans s5.2) ((hW.cell (p := ⟨w.heap.size + 1 + 1 + 1 + 1, 0, none⟩) (by dsimp only; omega)).trans k5) ((hW.cell (p := ⟨2, 0, none⟩) (by dsimp only; omega)).trans m5) h0)
    belowK_t (belowK_b (by simp)) (Below.refl _ _) (fun _ => rfl)
    (fun pre W => ((∀ y ∈ pre, y ≠ s) ∧ W.cell? ⟨w.heap.size, 0, none⟩ = some (.string s) ∧ W.cell? ⟨w.heap.size + 1, 0, none⟩ = some (.bool false) ∧ W.frozen? ⟨w.heap.size + 1, 0, none⟩ = false) ∧ Below w.heap.size w W)
    (fun c pre W => (c = .ret ∧ s ∈ pre ∧ W.cell? ⟨w.heap.size + 1, 0, none⟩ = some (.bool true)) ∧ Below w.heap.size w W)
    (OwnFrom.and (Own.from (fun q A B row hs hg hr => ⟨hs.1, cell_kept hs.2.1 hg hr, cell_kept hs.2.2.1 hg hr, (frozen_kept hs.2.2.1 hg hr).trans hs.2.2.2⟩) _) (ownFrom_below (Nat.le_refl _) (by omega)))
    (fun c => OwnFrom.and (Own.from (fun q A B row hs hg hr => ⟨hs.1, hs.2.1, cell_kept hs.2.2 hg hr⟩) _) (ownFrom_below (Nat.le_refl _) (by omega)))
    ?box ⟨⟨by simp, c4, r4.1, r4.2⟩, b5⟩
    (fun x => { tmps := #[.string s, .pointer (some ⟨w.heap.size, 0, none⟩), .pointer (some ⟨w.heap.size + 1, 0, none⟩), .string x, .func (.func 39) #[] #[.pointer (some ⟨w.heap.size + 1 + 1 + 1, 0, none⟩), .pointer (some ⟨w.heap.size + 1 + 1, 0, none⟩), .pointer (some ⟨w.heap.size + 1 + 1 + 1 + 1, 0, none⟩)], .string x, undef, undef, undef], defers := [] }) ?assign ?body ?done ?stop
  case box =>
    rintro q A v ⟨⟨h1, h2, h3, h4⟩, hB⟩
    exact ⟨⟨h1, (World.cell?_setCell_other _ _ _ _ (fun e => by have := congrArg Addr.block e; dsimp only at this; omega)).trans h2, (World.cell?_setCell_other _ _ _ _ (fun e => by have := congrArg Addr.block e; dsimp only at this; omega)).trans h3, by rw [World.frozen?_setCell]; exact h4⟩, hB.setCell (p := ⟨w.heap.size + 1 + 1, 0, none⟩) (by dsimp only; omega) _⟩
  case assign =>
    intro l x W K hK
    gi_wp2
    exact hK
  case body =>
    rintro l pre x W ⟨⟨hp, hcw, hcr, hfr⟩, hB⟩ _
    gi_wp2
    · rename_i hx
      rw [Eng.bytes_eq, decide_eq_true_iff] at hx
      subst hx
      exact ⟨KeepsOthers.setCell _ _ _, ⟨rfl, List.mem_append.2 (.inr (by simp)), World.cell?_setCell_same' _ _ _ (by rw [hcr]; rfl)⟩, hB.setCell (p := ⟨w.heap.size + 1, 0, none⟩) (by dsimp only; omega) _⟩
    · rename_i hx
      rw [Eng.bytes_eq, decide_eq_false_iff_not] at hx
      exact ⟨KeepsOthers.refl _, Below.refl _ _, ⟨fun y hy => (List.mem_append.1 hy).elim (hp y) (fun e e' => by simp at e; subst e; exact hx e'), hcw, hcr, hfr⟩, hB⟩
  case done =>
    rintro D ys W hD rfl ⟨⟨hne, _, hcr, hfr⟩, hB⟩ hK
    gi_wp2
    have hK' := (KeepsOthers.setCell W ⟨w.heap.size + 1, 0, none⟩ (.bool false)).same D _ hK rfl
    refine ⟨by simp, .inl ⟨_, _, rfl, run_takeDeferred hK', ?_⟩⟩
    have hc5 := cell_kept (World.cell?_setCell_same' W ⟨w.heap.size + 1, 0, none⟩ (.bool false) (by rw [hcr]; rfl)) (grownBy_putObj' _ D (.deferred none)) (fun r e => by cases e; exact ⟨_, hK', rfl⟩)
    have hfalse : isWord s = false := by
      unfold isWord
      rw [List.any_eq_false]
      intro x hx e
      exact hne (bs x) (List.mem_map_of_mem hx) (by rw [← bs_bl s, eq_of_beq e])
    refine ⟨.bool false, ?_, by rw [hfalse], (hB.setCell (p := ⟨w.heap.size + 1, 0, none⟩) (by dsimp only; omega) _).trans (belowK_b (w := w) (Nat.le_refl _) _ D _ _ (by omega) hK' rfl rfl)⟩
    simp [results, Tryd.f11, go_sem, hc5]
  case stop =>
    rintro D c pre W hD hpre ⟨⟨rfl, hin, hcr⟩, hB⟩ hK
    gi_wp2
    refine ⟨by simp, .inl ⟨_, _, rfl, run_takeDeferred hK, ?_⟩⟩
    have hc5 := cell_kept hcr (grownBy_putObj' _ D (.deferred none)) (fun r e => by cases e; exact ⟨_, hK, rfl⟩)
    have htrue : isWord s = true := by
      unfold isWord
      rw [List.any_eq_true]
      obtain ⟨x, hx, e⟩ := List.mem_map.1 (hpre.subset hin)
      exact ⟨x, hx, by rw [← e, bl_bs]; simp⟩
    refine ⟨.bool true, ?_, by rw [htrue], hB.trans (belowK_b (w := w) (Nat.le_refl _) W D _ _ (by omega) hK rfl rfl)⟩
    simp [results, Tryd.f11, go_sem, hc5]
theorem wordCalls (s : ByteArray) (m : Int) (w : World) (hm : w.cell? ⟨2, 0, none⟩ = some (.int .i64 m)) :
    Calls Tryd.prog 11 #[.string s] w fun e W' => e = .returned (.bool (isWord s)) ∧ Below w.heap.size w W' := callsIn_wide.1 (wordC s m w hm)
end Go.Proofs.YtcdeidljcmlfdaaDoor
