/- Contracts by hand (the session's own words). -/
import Derived.Test.YtenhflbjipeopaaGreatDoorPPrk
import Derived.Test.YtenhflbjipeopaaGreatDoorPPsm
import Derived.Test.YtenhflbjipeopaaGreatDoorPGrp
import Derived.Test.YtenhflbjipeopaaGreatDoorPShf
import Derived.Test.YtenhflbjipeopaaGreatDoorPCnd
import Derived.Lib.Builder
namespace Go.Proofs.YtenhflbjipeopaaGreatDoor
open Go Go.Eng Go.RowKit Go.Proofs
set_option linter.unusedVariables false
set_option linter.unusedSimpArgs false
theorem alloc_new (w : World) (o : Obj) : (w.alloc o).heap[w.heap.size]? = some o := by
  show (w.heap.push o)[w.heap.size]? = some o
  simp
theorem sGroups {ds : List D} {os : List (List D)} {r : D} {os' : List (List D)} (h : pGroups ds os = some (r, os')) : Contract Tryz.prog 63 ds os r os' := by
  unfold pGroups at h
  split at h
  · rename_i d0 d1 d2 d3 d4 d5 d6 d8 d9 d10 es
    cases h
    refine contract_more (fun _ _ _ h => by cases h) fun Z w vs O0 hA hG hl hR => ?_
    obtain ⟨u, v, rfl, h1, h2⟩ := arg2 hl hR
    obtain ⟨xs, rfl, hlx, hx⟩ := h1
    have h2' : Rp Z v (.sl es) := h2
    · match xs, hlx, hx with
      | [x0, x1, x2, x3, x4, x5, x6, x7, x8, x9, x10], _, hx =>
        have h7 : Rp Z x7 (.sl []) := hx 7 (by simp) (by simp)
        cases h7 with
        | sl a n c k _ hn hc ad ha hsp hk x hz hr =>
          have hn0 : n = 0 := hn
          subst hn0
          cases hv : v with
          | slice a' n' c' =>
            rw [hv] at h2'
            refine (groups_walk x0 x1 x2 x3 x4 x5 x6 x8 x9 x10 a c a' n' c' w).mono fun e w' he => ?_
            obtain ⟨rfl, rfl⟩ := he
            have b1 : Below w.heap.size w (w.alloc (.cells #[x0, x1, x2, x3, x4, x5, x6, .slice a 0 c, x8, x9, x10] 56)) := (Below.refl _ w).alloc (Nat.le_refl _) _
            have b2 := b1.alloc b1.size (.cells #[.slice a' n' c'] 123)
            have b3 := b2.alloc b2.size (.cells #[.pointer (some ⟨w.heap.size + 1, 0, none⟩)] 121)
            have hA1 := below_keeps hA b3
            generalize hw1 : w.alloc (.cells #[x0, x1, x2, x3, x4, x5, x6, .slice a 0 c, x8, x9, x10] 56) = w1 at *
            have z1 : w1.heap.size = w.heap.size + 1 := by rw [← hw1]; exact World.size_alloc _ _
            have c1 := alloc_new w1 (.cells #[.slice a' n' c'] 123)
            rw [z1] at c1
            generalize hw2 : w1.alloc (.cells #[.slice a' n' c'] 123) = w2 at *
            have z2 : w2.heap.size = w.heap.size + 1 + 1 := by rw [← hw2, World.size_alloc, z1]
            have c2 := alloc_new w2 (.cells #[.pointer (some ⟨w.heap.size + 1, 0, none⟩)] 121)
            rw [z2] at c2
            have c3 := (Below.heap_alloc w2 (.cells #[.pointer (some ⟨w.heap.size + 1, 0, none⟩)] 121) (w.heap.size + 1) (by omega)).trans c1
            generalize hw3 : w2.alloc (.cells #[.pointer (some ⟨w.heap.size + 1, 0, none⟩)] 121) = w3 at *
            have hA2 := Z1_agree (g := w.heap.size + 1) (x := .slice a' n' c') hA1 ((Lib.cell_of_heap c3 0).trans rfl) rfl
            have hA3 := Z1_agree (g := w.heap.size + 1 + 1) (x := .pointer (some ⟨w.heap.size + 1, 0, none⟩)) hA2 ((Lib.cell_of_heap c2 0).trans rfl) rfl
            have l1 : Z.le (Z1 Z (w.heap.size + 1) (.slice a' n' c')) := Z1_le hA (by omega)
            have l2 : (Z1 Z (w.heap.size + 1) (.slice a' n' c')).le (Z1 (Z1 Z (w.heap.size + 1) (.slice a' n' c')) (w.heap.size + 1 + 1) (.pointer (some ⟨w.heap.size + 1, 0, none⟩))) := fun b o y hy => by
              unfold Z1 at hy ⊢
              split at hy
              · rename_i hh
                rw [if_neg (by omega), if_pos hh]
                exact hy
              · rename_i hh
                have := World.block_lt_of_cell? w _ (hA b o y hy).1
                simp only at this
                rw [if_neg (by omega), if_neg hh]
                exact hy
            refine ⟨_, _, rfl, FZ.le_trans l1 l2, fun b o y hy => ?_, hA3, ?_, b3⟩
            · rcases Z1_new (w := w) (by omega) b o y hy with h | h
              · exact Z1_new (w := w) (by omega) b o y h
              · exact .inr h
            · have e1 := l2 _ _ _ (Z1_at Z (w.heap.size + 1) (.slice a' n' c'))
              have e2 := Z1_at (Z1 Z (w.heap.size + 1) (.slice a' n' c')) (w.heap.size + 1 + 1) (.pointer (some ⟨w.heap.size + 1, 0, none⟩))
              have r1 := (h2'.mono l1).mono l2
              generalize Z1 (Z1 Z (w.heap.size + 1) (.slice a' n' c')) (w.heap.size + 1 + 1) (.pointer (some ⟨w.heap.size + 1, 0, none⟩)) = Z' at *
              refine .tup [_, _] [_, _] rfl fun i hi hj => ?_
              rcases (by simp at hi; omega : i = 0 ∨ i = 1) with h | h <;> subst h
              · refine .sl _ 1 1 1 _ rfl (Nat.le_refl _) ⟨w.heap.size + 1 + 1, 0, none⟩ (fun _ => rfl) rfl (fun i hi => by (have : i = 0 := by simpa using hi); subst this; rfl) (fun _ _ => .pointer (some ⟨w.heap.size + 1, 0, none⟩)) (fun i hi j hj => ?_) (fun i hi j hj => ?_)
                · have hi0 : i = 0 := by simpa using hi
                  subst hi0
                  have hj0 : j = 0 := by simpa using hj
                  subst hj0
                  exact e2
                · have hi0 : i = 0 := by simpa using hi
                  subst hi0
                  have hj0 : j = 0 := by simpa using hj
                  subst hj0
                  have := Rp.ep (Z := Z') (w.heap.size + 1) 0 1 [[.sl es]] 0 0 (fun i hi => by (have : i = 0 := by simpa using hi); subst this; rfl) (fun _ _ => .slice a' n' c') (fun i hi j hj => by
                    have hi0 : i = 0 := by simpa using hi
                    subst hi0
                    have hj0 : j = 0 := by simpa using hj
                    subst hj0
                    exact e1) (fun i hi j hj => by
                    have hi0 : i = 0 := by simpa using hi
                    subst hi0
                    have hj0 : j = 0 := by simpa using hj
                    subst hj0
                    exact r1)
                  exact this
              · exact .v _
          | _ => rw [hv] at h2'; cases h2'
  · cases h
theorem sSort {ds : List D} {os : List (List D)} {r : D} {os' : List (List D)} (h : pSort ds os = some (r, os')) : Contract Tryz.prog 37 ds os r os' := by
  unfold pSort at h
  split at h
  · cases h
    refine contract_below (fun _ _ _ h => by cases h) fun Z w vs O0 hA hG hl hR => ?_
    obtain ⟨x, rfl, h1⟩ := arg1 hl hR
    have h1' : Rp Z x (.sl []) := h1
    cases h1' with
    | sl a n c k _ hn hc ad ha hsp hk xx hz hr =>
      have hn0 : n = 0 := hn
      subst hn0
      exact (Tryz.slices_Sort_int_none a c w).mono fun e w' he => ⟨_, he.1, .tup [] [] rfl (fun i hi => absurd hi (Nat.not_lt_zero _)), by rw [he.2]; exact Below.refl _ _⟩
  · cases h
theorem sCompact {ds : List D} {os : List (List D)} {r : D} {os' : List (List D)} (h : pCompact ds os = some (r, os')) : Contract Tryz.prog 38 ds os r os' := by
  unfold pCompact at h
  split at h
  · cases h
    refine contract_below (fun _ _ _ h => by cases h) fun Z w vs O0 hA hG hl hR => ?_
    obtain ⟨x, rfl, h1⟩ := arg1 hl hR
    have h1' : Rp Z x (.sl []) := h1
    cases h1' with
    | sl a n c k _ hn hc ad ha hsp hk xx hz hr =>
      have hn0 : n = 0 := hn
      subst hn0
      exact (Tryz.slices_Compact_int_empty a c w).mono fun e w' he => ⟨_, he.1, .sl a 0 c k [] rfl hc ad ha hsp hk xx hz hr, by rw [he.2]; exact Below.refl _ _⟩
  · cases h
theorem prims_sound : SoundF Tryz.prog prims := by
  refine ⟨fun f ds os r os' h => ?_, fun f ds os p h => ?_⟩
  · unfold prims at h
    split at h
    · rename_i e; subst e; exact sGroups h
    split at h
    · rename_i e
      subst e
      unfold pClone at h
      split at h
      · cases h
        exact empty_contract 9 (fun c => by kernel_rfl) (fun ad c => by kernel_rfl)
      · cases h
    split at h
    · rename_i e; subst e; exact sSort h
    split at h
    · rename_i e; subst e; exact sCompact h
    split at h
    · rename_i e; subst e; exact sConds h
    cases h
  · unfold prims at h
    split at h
    · rename_i e; subst e; exact ⟨_, Tryz.func63, by kernel_rfl, by kernel_rfl⟩
    split at h
    · rename_i e; subst e; exact ⟨_, Tryz.func46, by kernel_rfl, by kernel_rfl⟩
    split at h
    · rename_i e; subst e; exact ⟨_, Tryz.func37, by kernel_rfl, by kernel_rfl⟩
    split at h
    · rename_i e; subst e; exact ⟨_, Tryz.func38, by kernel_rfl, by kernel_rfl⟩
    split at h
    · rename_i e; subst e; exact ⟨_, Tryz.func16, by kernel_rfl, by kernel_rfl⟩
    cases h
end Go.Proofs.YtenhflbjipeopaaGreatDoor
