/- lex.Words: all words, rising, in a block of the call's own (the session's own words). -/
import Derived.Test.YtcdeidljcmlfdaaDoorWf
import Derived.Sort.OwnSorted
namespace Go.Proofs.YtcdeidljcmlfdaaDoor
open Go Go.Eng Go.Proofs Go.RowKit Go.Shelf Go.Sort
attribute [local go_sem] Oper.semAt_some
set_option linter.unusedVariables false
set_option linter.unusedSimpArgs false
theorem wrdS_perm : wrd.Perm wrdS := List.isPerm_iff.1 (by decide +kernel)
theorem wrd_sorted : (wrd.mergeSort fun x y => decide (x ≤ y)) = wrdS := by
  have hp : (wrd.mergeSort fun x y => decide (x ≤ y)).Perm wrd := List.mergeSort_perm _ _
  refine List.Perm.eq_of_pairwise (le := fun a b => decide (a ≤ b) = true) (fun a b ha hb h1 h2 => ?_) (List.pairwise_mergeSort (fun a b c h1 h2 => ?_) (fun a b => ?_) _) ?_ (hp.trans wrdS_perm)
  · exact List.le_antisymm (of_decide_eq_true h1) (of_decide_eq_true h2)
  · exact decide_eq_true (List.le_trans (of_decide_eq_true h1) (of_decide_eq_true h2))
  · rcases List.le_total a b with h | h
    · simp [h]
    · simp [h]
  · have : (wrdS.Pairwise fun a b => decide (a ≤ b) = true) := by decide +kernel
    exact this
theorem encW_map : (wrd.map bs).map encW = wrd.map encStr := by rw [List.map_map]; rfl
theorem collectW (Bq Bs Bz m₀ : Nat) (m : Int) (w : World) (hq1 : Bq < w.heap.size) (hs1 : Bs < w.heap.size) (hz1 : Bz < w.heap.size) (h21 : 2 < w.heap.size) (hd1 : Bq ≠ Bs) (hd2 : Bz ≠ Bs) (hd3 : 2 ≠ Bs) (hm0 : m₀ ≤ Bs)
    (hq : w.cell? ⟨Bq, 0, none⟩ = some (.string ⟨#[32]⟩)) (hs : w.cell? ⟨Bs, 0, none⟩ = some (.string (bs (sfx wrd)))) (hsf : w.frozen? ⟨Bs, 0, none⟩ = false) (hz : w.cell? ⟨Bz, 0, none⟩ = some (.int .i64 0)) (hm : w.cell? ⟨2, 0, none⟩ = some (.int .i64 m)) :
    CallsIn Fence.wide 7 Tryd.prog 25 #[.func (.func 39) #[] #[.pointer (some ⟨Bq, 0, none⟩), .pointer (some ⟨Bs, 0, none⟩), .pointer (some ⟨Bz, 0, none⟩)]] w fun e W' =>
      ∃ v, e = .returned v ∧ W'.ownsRow w.heap.size 9 1 v wrd.length ((wrd.map bs).map encW) ∧ Below m₀ w W' ∧ w.heap.size ≤ W'.heap.size := by
  refine callsIn_of_wp Tryd.func25 rfl trivial ?_ rfl
  simp only [Tryd.ntmps25, List.size_toArray, List.length_cons, List.length_nil, Nat.reduceAdd, Nat.reduceSub, Array.replicate_succ, Array.replicate_zero, List.push_toArray, List.append_toArray, List.nil_append, List.cons_append]
  gi_wp2_with (refine ⟨trivial, ?_⟩; gi_at_call 36; refine (appendSeqW Bq Bs Bz m₀ m w hq1 hs1 hz1 h21 hd1 hd2 hd3 hm0 hq hs hsf hz hm).mono ?_; rintro e w' ⟨v, rfl, hrow, hb, hsz⟩)
  go_ret
  exact ⟨v, rfl, hrow, hb, hsz⟩
/-- what Words leaves: all words, rising, in a new block -/
def WordsAt (w : World) (e : Ending) (W' : World) (m₀ : Nat) : Prop := ∃ g c cur, e = .returned (.slice (some ⟨g, 0, none⟩) 24 c) ∧ m₀ ≤ g ∧ W'.heap[g]? = some (.cells cur 9 (0, 0)) ∧ 24 ≤ c ∧ c ≤ maxLen ∧ cur.size = c ∧ cur.toList.take 24 = wrdS.map encStr ∧ Below m₀ w W'
theorem sortedW (Bq Bs Bz m₀ : Nat) (m : Int) (w : World) (hq1 : Bq < w.heap.size) (hs1 : Bs < w.heap.size) (hz1 : Bz < w.heap.size) (h21 : 2 < w.heap.size) (hd1 : Bq ≠ Bs) (hd2 : Bz ≠ Bs) (hd3 : 2 ≠ Bs) (hm0 : m₀ ≤ Bs)
    (hq : w.cell? ⟨Bq, 0, none⟩ = some (.string ⟨#[32]⟩)) (hs : w.cell? ⟨Bs, 0, none⟩ = some (.string (bs (sfx wrd)))) (hsf : w.frozen? ⟨Bs, 0, none⟩ = false) (hz : w.cell? ⟨Bz, 0, none⟩ = some (.int .i64 0)) (hm : w.cell? ⟨2, 0, none⟩ = some (.int .i64 m)) :
    CallsIn Fence.wide 8 Tryd.prog 15 #[.func (.func 39) #[] #[.pointer (some ⟨Bq, 0, none⟩), .pointer (some ⟨Bs, 0, none⟩), .pointer (some ⟨Bz, 0, none⟩)]] w fun e W' => WordsAt w e W' m₀ := by
  refine callsIn_of_wp Tryd.func15 rfl trivial ?_ rfl
  simp only [Tryd.ntmps15, List.size_toArray, List.length_cons, List.length_nil, Nat.reduceAdd, Nat.reduceSub, Array.replicate_succ, Array.replicate_zero, List.push_toArray, List.append_toArray, List.nil_append, List.cons_append]
  gi_wp2_with (refine ⟨trivial, ?_⟩; gi_at_call 25; refine (collectW Bq Bs Bz m₀ m w hq1 hs1 hz1 h21 hd1 hd2 hd3 hm0 hq hs hsf hz hm).mono ?_; rintro e w' ⟨v, rfl, hrow, hb, hsz⟩)
  obtain ⟨g, c, cur, rfl, hg, hgb, h24, hcm, hcs, htk⟩ : ∃ g c cur, v = .slice (some ⟨g, 0, none⟩) wrd.length c ∧ w.heap.size ≤ g ∧ w'.heap[g]? = some (.cells cur 9 (0, 0)) ∧ wrd.length ≤ c ∧ c ≤ maxLen ∧ cur.size = c * 1 ∧ cur.toList.take (wrd.length * 1) = (wrd.map bs).map encW := by
    rcases hrow.2 with ⟨_, h0⟩ | h
    · exact absurd h0 (by decide)
    · exact h
  rw [Nat.mul_one] at htk
  rw [encW_map] at htk
  have hglt : g < w'.heap.size := (Array.getElem?_eq_some_iff.1 hgb).1
  have hS := Tryd.slices_Sort_string g 0 c wrd w' (holds_of_block hgb htk) hglt (by decide)
  rw [wrd_sorted] at hS
  refine ⟨trivial, (callsIn_wide.2 hS).mono ?_⟩
  rintro e w2 ⟨rfl, n, os, rfl⟩
  have hgb2 := heap_sorted (n := n) (os := os) wrdS.toArray hgb
  have hB2 : Below m₀ w (grow (putRow encStr (Sort.ahead w' n) g 0 wrdS.toArray) os) := hb.grown (grownBy_sorted wrdS.toArray) (Nat.le_trans (by omega) hsz) (fun k hk => by cases hk; omega)
  have htk2 := take_putCells cur wrdS (by rw [hcs]; show 24 ≤ _; have : (24 : Nat) ≤ c := h24; omega)
  generalize grow (putRow encStr (Sort.ahead w' n) g 0 wrdS.toArray) os = w2 at *
  gi_wp2
  go_ret
  exact ⟨g, c, _, rfl, by omega, hgb2, h24, hcm, by simp [putCells, hcs], htk2, hB2⟩
set_option maxRecDepth 100000 in
set_option maxHeartbeats 4000000 in
theorem wordsC (m : Int) (w : World) (hm : w.cell? ⟨2, 0, none⟩ = some (.int .i64 m)) : CallsIn Fence.wide 9 Tryd.prog 9 #[] w fun e W' => WordsAt w e W' w.heap.size := by
  refine callsIn_of_wp Tryd.func9 rfl trivial ?_ rfl
  simp only [Tryd.ntmps9, List.size_toArray, List.length_cons, List.length_nil, Nat.reduceAdd, Nat.reduceSub, Array.replicate_succ, Array.replicate_zero, List.push_toArray, List.append_toArray, List.nil_append, List.cons_append]
  gi_wp2_with (refine ⟨trivial, ?_⟩; gi_at_call 16; refine (SplitSeqC (9 - 1) (by decide) _ _ _).mono ?_; rintro e w' ⟨rfl, rfl⟩)
  have ea : (⟨#[83, 69, 76, 69, 67, 84, 32, 68, 73, 83, 84, 73, 78, 67, 84, 32, 70, 82, 79, 77, 32, 87, 72, 69, 82, 69, 32, 71, 82, 79, 85, 80, 32, 66, 89, 32, 79, 82, 68, 69, 82, 32, 76, 73, 77, 73, 84, 32, 65, 83, 32, 65, 78, 68, 32, 79, 82, 32, 78, 79, 84, 32, 73, 83, 32, 78, 85, 76, 76, 32, 73, 78, 32, 66, 69, 84, 87, 69, 69, 78, 32, 84, 82, 85, 69, 32, 70, 65, 76, 83, 69, 32, 65, 83, 67, 32, 68, 69, 83, 67, 32, 67, 79, 85, 78, 84, 32, 83, 85, 77, 32, 77, 73, 78, 32, 77, 65, 88]⟩ : ByteArray) = bs (sfx wrd) := by rw [sfx_all]; rfl
  rw [ea]
  obtain ⟨w3, hw3⟩ : ∃ w3, w.alloc (.cells #[.string (bs (sfx wrd))] 9) = w3 := ⟨_, rfl⟩
  have z3 : w3.heap.size = w.heap.size + 1 := by rw [← hw3]; simp
  have s3 : w3.cell? ⟨w.heap.size, 0, none⟩ = some (.string (bs (sfx wrd))) ∧ w3.frozen? ⟨w.heap.size, 0, none⟩ = false := by rw [← hw3]; exact cell_new w _ _
  have m3 : w3.cell? ⟨2, 0, none⟩ = some (.int .i64 m) := by rw [← hw3]; exact cell_alloc _ hm
  have b3 : Below w.heap.size w w3 := by rw [← hw3]; exact (Below.refl _ w).alloc (Nat.le_refl _) _
  rw [hw3]
  obtain ⟨w4, hw4⟩ : ∃ w4, w3.alloc (.cells #[.string ⟨#[32]⟩] 9) = w4 := ⟨_, rfl⟩
  have z4 : w4.heap.size = w.heap.size + 2 := by rw [← hw4]; simp [z3]
  have s4 : w4.cell? ⟨w.heap.size, 0, none⟩ = some (.string (bs (sfx wrd))) ∧ w4.frozen? ⟨w.heap.size, 0, none⟩ = false := by rw [← hw4]; exact ⟨cell_alloc _ s3.1, frozen_alloc _ s3.1 s3.2⟩
  have q4 : w4.cell? ⟨w.heap.size + 1, 0, none⟩ = some (.string ⟨#[32]⟩) := by rw [← hw4, show w.heap.size + 1 = w3.heap.size by omega]; exact (cell_new w3 _ _).1
  have m4 : w4.cell? ⟨2, 0, none⟩ = some (.int .i64 m) := by rw [← hw4]; exact cell_alloc _ m3
  have b4 : Below w.heap.size w w4 := by rw [← hw4]; exact b3.alloc (by omega) _
  rw [hw4]
  obtain ⟨w5, hw5⟩ : ∃ w5, w4.alloc (.cells #[.int .i64 0] 3) = w5 := ⟨_, rfl⟩
  have z5 : w5.heap.size = w.heap.size + 3 := by rw [← hw5]; simp [z4]
  have s5 : w5.cell? ⟨w.heap.size, 0, none⟩ = some (.string (bs (sfx wrd))) ∧ w5.frozen? ⟨w.heap.size, 0, none⟩ = false := by rw [← hw5]; exact ⟨cell_alloc _ s4.1, frozen_alloc _ s4.1 s4.2⟩
  have q5 : w5.cell? ⟨w.heap.size + 1, 0, none⟩ = some (.string ⟨#[32]⟩) := by rw [← hw5]; exact cell_alloc _ q4
  have k5 : w5.cell? ⟨w.heap.size + 1 + 1, 0, none⟩ = some (.int .i64 0) := by rw [← hw5, show w.heap.size + 1 + 1 = w4.heap.size by omega]; exact (cell_new w4 _ _).1
  have m5 : w5.cell? ⟨2, 0, none⟩ = some (.int .i64 m) := by rw [← hw5]; exact cell_alloc _ m4
  have b5 : Below w.heap.size w w5 := by rw [← hw5]; exact b4.alloc (by omega) _
  rw [hw5]
  have hmb : 2 < w.heap.size := World.block_lt_of_cell? w _ hm
  clear hw3 hw4 hw5 b3 b4
  gi_wp2_with (refine ⟨trivial, ?_⟩; gi_at_call 15; refine (sortedW (w.heap.size + 1) w.heap.size (w.heap.size + 1 + 1) w.heap.size m w5 (by omega) (by omega) (by omega) (by omega) (by omega) (by omega) (by omega) (Nat.le_refl _) q5 s5.1 s5.2 k5 m5).mono ?_; rintro e w' ⟨g, c, cur, rfl, h1, h2, h3, h4, h5, h6, h7⟩)
  go_ret
  exact ⟨g, c, cur, rfl, h1, h2, h3, h4, h5, h6, b5.trans h7⟩
theorem wordsCalls (m : Int) (w : World) (hm : w.cell? ⟨2, 0, none⟩ = some (.int .i64 m)) : Calls Tryd.prog 9 #[] w fun e W' => WordsAt w e W' w.heap.size := callsIn_wide.1 (wordsC m w hm)
end Go.Proofs.YtcdeidljcmlfdaaDoor
