/- What the program's functions make of data: how values stand to each other (the session's own words). -/
import Derived.Test.YtcdeidljcmlfdaaDoorTab
import Derived.Test.YtcdeidljcmlfdaaDoorPrm
namespace Go.Proofs.YtcdeidljcmlfdaaDoor
open Go Go.Eng Go.Proofs
set_option linter.unusedVariables false
set_option linter.unusedSimpArgs false
set_option maxRecDepth 100000
set_option maxHeartbeats 4000000

/-- a text's byte -/
def bt (s : ByteArray) (i : Nat) : Int := ((s[i]!).toNat : Int)
theorem inx_str {t : TypeId} (h : Tryd.prog.underlying t = some .string) (k : IntKind) (s : ByteArray) (i : Nat) (hi : i < s.size) : inx Tryd.prog t (.string s) (.int k (i : Int)) = some (.int .u8 (bt s i)) := by
  unfold inx Instr.index
  simp only [asIntOf, pureRun_bind, pureRun_underlying, h, Option.bind_some]
  show (pureRun Tryd.prog (match (if (0 : Int) ≤ (i : Int) then s[(i : Int).toNat]? else none) with | some b => pure (Value.int .u8 b.toNat) | none => boundsPanic k (i : Int) s.size .index)) = _
  rw [if_pos (Int.natCast_nonneg i), Int.toNat_natCast, getElem?_pos s i hi]
  show some (Value.int .u8 (s[i].toNat : Int)) = _
  unfold bt
  rw [getElem!_pos s i hi]
attribute [go_sem] inx_str Tryd.underlying9
def lessB (a b : ByteArray) : Bool := match (List.range (min a.size b.size)).find? fun i => a[i]! != b[i]! with
  | some i => decide (bt a i < bt b i)
  | none => decide (a.size < b.size)
theorem u8_lt (x y : UInt8) : x < y ↔ (x.toNat : Int) < (y.toNat : Int) := by rw [UInt8.lt_iff_toNat_lt]; omega
theorem lessB_sym (a b : ByteArray) : (List.range (min b.size a.size)).find? (fun i => b[i]! != a[i]!) = (List.range (min a.size b.size)).find? fun i => a[i]! != b[i]! := by
  rw [Nat.min_comm]
  congr 1
  funext i
  exact bne_comm
theorem bt_ne (a b : ByteArray) (i : Nat) : (a[i]! != b[i]!) = !decide (bt a i = bt b i) := by
  unfold bt
  rw [Bool.eq_iff_iff, bne_iff_ne, Bool.not_eq_true', decide_eq_false_iff_not]
  constructor
  · intro h e; exact h (UInt8.toNat_inj.1 (by omega))
  · intro h e; exact h (by rw [e])
theorem cmp_less (a b : ByteArray) : Extern.BytealgCompare.cmp a b = if lessB a b = true then -1 else if lessB b a = true then 1 else 0 := by
  unfold Extern.BytealgCompare.cmp lessB
  rw [lessB_sym a b]
  cases h : (List.range (min a.size b.size)).find? (fun i => a[i]! != b[i]!) with
  | some i =>
    have hp := List.find?_some h
    rw [bt_ne] at hp
    simp only [Bool.not_eq_true', decide_eq_false_iff_not] at hp
    simp only [decide_eq_true_eq, u8_lt]
    show (if bt a i < bt b i then (-1 : Int) else 1) = _
    by_cases h1 : bt a i < bt b i
    · rw [if_pos h1, if_pos h1]
    · rw [if_neg h1, if_neg h1, if_pos (by omega)]
  | none =>
    simp only [decide_eq_true_eq]
theorem lessB_asymm {a b : ByteArray} (h : lessB a b = true) : lessB b a = false := by
  unfold lessB at *
  rw [lessB_sym a b]
  cases hf : (List.range (min a.size b.size)).find? (fun i => a[i]! != b[i]!) with
  | some i => rw [hf] at h; simp at h ⊢; omega
  | none => rw [hf] at h; simp at h ⊢; omega
theorem lessB_at {a b : ByteArray} {i : Nat} (ha : i < a.size) (hb : i < b.size) (h : ∀ j < i, bt a j = bt b j) (hn : bt a i ≠ bt b i) : lessB a b = decide (bt a i < bt b i) := by
  have hf : (List.range (min a.size b.size)).find? (fun i => a[i]! != b[i]!) = some i := by
    rw [List.find?_range_eq_some]
    refine ⟨by rw [bt_ne]; simp [hn], List.mem_range.2 (by omega), fun j hj => ?_⟩
    rw [bt_ne]
    simp [h j hj]
  unfold lessB
  rw [hf]
theorem lessB_end {a b : ByteArray} (h : ∀ j < min a.size b.size, bt a j = bt b j) : lessB a b = decide (a.size < b.size) := by
  have hf : (List.range (min a.size b.size)).find? (fun i => a[i]! != b[i]!) = none := by
    rw [List.find?_eq_none]
    intro j hj
    rw [bt_ne]
    simp [h j (List.mem_range.1 hj)]
  unfold lessB
  rw [hf]
def cmpI (a b : Int) : Int := if a < b then -1 else if b < a then 1 else 0
def kk (k : Int) : Int := if 3 < k then 0 else k
def lessV (k n : Int) (s : ByteArray) (k' n' : Int) (s' : ByteArray) : Bool :=
  if kk k = kk k' then (if kk k = 1 then decide (n < n') else if kk k = 2 then decide (n < n') else if kk k = 3 then lessB s s' else false) else decide (kk k < kk k')
theorem lessV_asymm {k n k' n' : Int} {s s' : ByteArray} (h : lessV k n s k' n' s' = true) : lessV k' n' s' k n s = false := by
  unfold lessV at *
  by_cases e : kk k = kk k'
  · rw [if_pos e] at h
    rw [if_pos e.symm, ← e]
    by_cases e1 : kk k = 1
    · rw [if_pos e1] at h ⊢; simp at h ⊢; omega
    rw [if_neg e1] at h ⊢
    by_cases e2 : kk k = 2
    · rw [if_pos e2] at h ⊢; simp at h ⊢; omega
    rw [if_neg e2] at h ⊢
    by_cases e3 : kk k = 3
    · rw [if_pos e3] at h ⊢; exact lessB_asymm h
    rw [if_neg e3]
  · rw [if_neg e] at h
    rw [if_neg (fun h => e h.symm)]
    simp at h ⊢; omega
def cmpV (k n : Int) (s : ByteArray) (k' n' : Int) (s' : ByteArray) : Int := if lessV k n s k' n' s' = true then -1 else if lessV k' n' s' k n s = true then 1 else 0
end Go.Proofs.YtcdeidljcmlfdaaDoor
