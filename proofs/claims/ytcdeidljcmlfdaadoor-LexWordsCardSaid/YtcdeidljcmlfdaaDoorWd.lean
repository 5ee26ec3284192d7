/- lex.digits tells whether a text of ASCII is a number (the session's own words). -/
import Derived.Test.YtcdeidljcmlfdaaDoorPlx
import Derived.Test.YtcdeidljcmlfdaaDoorStr
import Derived.Test.YtcdeidljcmlfdaaDoorProg
import Derived.Lib.OthersKept
import Derived.WalkKit
import Derived.BigCall
namespace Go.Proofs.YtcdeidljcmlfdaaDoor
open Go Go.Eng Go.Proofs Go.RowKit
set_option linter.unusedVariables false
set_option linter.unusedSimpArgs false
def digB (c : UInt8) : Bool := decide (48 ≤ c.toNat) && decide (c.toNat ≤ 57)
set_option maxHeartbeats 4000000 in
set_option maxRecDepth 1000000 in
theorem digitsC (s : ByteArray) (w : World) (ha : (bl s).all (fun c => decide (c.toNat < 128)) = true) (h1 : 1 ≤ s.size) (hs : s.size ≤ 5000) :
    Calls Tryd.prog 32 #[.string s] w fun e w' => e = .returned (.bool (isDigs s)) ∧ Below w.heap.size w w' := by
  have hasc : ∀ pos (h : pos < s.size), (s[pos]'h).toNat < 128 := fun pos h => by
    have hm : s[pos]'h ∈ bl s := List.mem_of_getElem? (i := pos) (by unfold bl; simp [h]; rfl)
    exact of_decide_eq_true (List.all_eq_true.1 ha _ hm)
  go_enter Tryd.func32, Tryd.ntmps32
  go_wp2
  go_loopw [] (fun wr => ∃ (pos : Nat), pos ≤ s.size ∧ ((bl s).take pos).all digB = true ∧ wr.heap[w.heap.size]? = some (.stringIter s pos) ∧ Below w.heap.size w wr) (fun wr => s.size - wr.iterPos w.heap.size)
  case atStart =>
    refine ⟨0, by omega, rfl, ?_, ?_⟩
    · exact World.iter_heap w s 0
    · exact (Below.refl _ w).alloc (Nat.le_refl _) _
  case round =>
    obtain ⟨pos, hpl, hall, hit, hbw⟩ := hrel
    have hsz : w.heap.size < wr.heap.size := (Array.getElem?_eq_some_iff.1 hit).1
    by_cases hp : pos < s.size
    · have hnx : ∀ ty, (Instr.next (.pointer (some ⟨w.heap.size, 0, none⟩)) true ty).run Tryd.prog wr = _ := fun ty => Lib.run_next_ascii_at wr w.heap.size s pos ty hit hp (hasc pos hp)
      have hit2 := Lib.iterAt_heap wr w.heap.size s pos (pos + 1) hit
      have hbw2 := Lib.below_iterAt hbw (k := w.heap.size) (by omega) s (pos + 1)
      have hgl : (bl s)[pos]? = some (s[pos]'hp) := by unfold bl; simp [hp]; rfl
      have hno : digB (s[pos]'hp) = false → isDigs s = false := fun h => by
        have : (bl s).all digB = false := by
          rw [Bool.eq_false_iff]
          intro h'
          rw [List.all_eq_true.1 h' _ (List.mem_of_getElem? hgl)] at h
          cases h
        unfold isDigs
        rw [show (bl s).all (fun c => decide (48 ≤ c.toNat) && decide (c.toNat ≤ 57)) = false from this]
        rfl
      generalize hc : s[pos]'hp = c at *
      go_wp2
      · rename_i h2 h3
        go_ret
        rw [hno (by unfold digB; simp at *; omega)]
        exact ⟨rfl, hbw2⟩
      · rename_i h2 h3
        go_roundw
        case rel =>
          refine ⟨pos + 1, by omega, ?_, hit2, hbw2⟩
          rw [List.take_add_one, hgl, List.all_append, hall]
          unfold digB
          simp at *
          omega
        case measure =>
          simp only [World.iterPos, hit2, hit]
          omega
      · rename_i h2
        go_ret
        rw [hno (by unfold digB; simp at *; omega)]
        exact ⟨rfl, hbw2⟩
    · have hnx : ∀ ty, (Instr.next (.pointer (some ⟨w.heap.size, 0, none⟩)) true ty).run Tryd.prog wr = _ := fun ty => Lib.run_next_end_at wr w.heap.size s pos ty hit hp
      obtain rfl : pos = s.size := by omega
      have hall : (bl s).all digB = true := by
        rw [← bl_size, List.take_length] at hall
        exact hall
      have h0 : s.size ≠ 0 := by omega
      have hhd : (bl s).head? = some (s[0]'(by omega)) := by unfold bl; rw [List.head?_eq_getElem?]; simp [show 0 < s.size by omega]; rfl
      have his : isDigs s = (decide (bl s = [48]) || !decide ((bl s).head? = some 48)) := by
        unfold isDigs
        rw [show (bl s).all (fun c => decide (48 ≤ c.toNat) && decide (c.toNat ≤ 57)) = true from hall]
        rfl
      rw [hhd] at his
      go_wp2
      · rename_i h2
        go_ret
        refine ⟨?_, hbw⟩
        rw [his, show bl s = [48] by rw [ByteArray.toList_eq] at h2; exact h2]
        rfl
      · rename_i h2
        go_ret
        refine ⟨?_, hbw⟩
        show Ending.returned (.bool (s.toList == [48] || ((s[0]'(by omega)).toNat : Int) != 48)) = _
        rw [his, ByteArray.toList_eq]
        congr 2
        rw [Bool.eq_iff_iff]
        simp only [Bool.or_eq_true, beq_iff_eq, decide_eq_true_eq, bne_iff_ne, Bool.not_eq_true', decide_eq_false_iff_not, Option.some.injEq]
        refine or_congr Iff.rfl (not_congr ⟨fun h => UInt8.toNat_inj.1 (by show _ = 48; omega), fun h => by rw [h]; rfl⟩)
end Go.Proofs.YtcdeidljcmlfdaaDoor
