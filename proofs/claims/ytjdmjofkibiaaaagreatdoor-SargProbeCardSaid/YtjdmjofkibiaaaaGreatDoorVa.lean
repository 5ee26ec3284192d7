/- What the program's functions make of data: how values stand to each other (the session's own words). -/
import Derived.Test.YtjdmjofkibiaaaaGreatDoorTyp
import Derived.Test.YtjdmjofkibiaaaaGreatDoorPrm
namespace Go.Proofs.YtjdmjofkibiaaaaGreatDoor
open Go Go.Eng Go.Proofs
set_option linter.unusedVariables false
set_option linter.unusedSimpArgs false
set_option maxRecDepth 100000
set_option maxHeartbeats 4000000

theorem ext112 (a b : ByteArray) : ext Tryz.prog 145 [.v (.string a), .v (.string b)] = some (.v (.int .i64 (Extern.BytealgCompare.cmp a b))) := by kernel_rfl
/-- a text's byte -/
def bt (s : ByteArray) (i : Nat) : Int := ((s[i]!).toNat : Int)
theorem inx_str {t : TypeId} (h : Tryz.prog.underlying t = some .string) (k : IntKind) (s : ByteArray) (i : Nat) (hi : i < s.size) : inx Tryz.prog t (.string s) (.int k (i : Int)) = some (.int .u8 (bt s i)) := by
  unfold inx Instr.index
  simp only [asIntOf, pureRun_bind, pureRun_underlying, h, Option.bind_some]
  show (pureRun Tryz.prog (match (if (0 : Int) ≤ (i : Int) then s[(i : Int).toNat]? else none) with | some b => pure (Value.int .u8 b.toNat) | none => boundsPanic k (i : Int) s.size .index)) = _
  rw [if_pos (Int.natCast_nonneg i), Int.toNat_natCast, getElem?_pos s i hi]
  show some (Value.int .u8 (s[i].toNat : Int)) = _
  unfold bt
  rw [getElem!_pos s i hi]
attribute [go_sem] inx_str Tryz.underlying9
def lessB (a b : ByteArray) : Bool := match (List.range (min a.size b.size)).find? fun i => a[i]! != b[i]! with
  | some i => decide (bt a i < bt b i)
  | none => decide (a.size < b.size)
theorem u8_lt (x y : UInt8) : x < y ↔ (x.toNat : Int) < (y.toNat : Int) := by rw [UInt8.lt_iff_toNat_lt]; omega
theorem lessB_sym (a b : ByteArray) : (List.range (min b.size a.size)).find? (fun i => b[i]! != a[i]!) = (List.range (min a.size b.size)).find? fun i => a[i]! != b[i]! := by
  rw [Nat.min_comm]
  congr 1
  funext i
  exact bne_comm
theorem bt_ne (a b : ByteArray) (i : Nat) : (a[i]! != b[i]!) = !decide (bt a i = bt b i) := by
  unfold bt
  rw [Bool.eq_iff_iff, bne_iff_ne, Bool.not_eq_true', decide_eq_false_iff_not]
  constructor
  · intro h e; exact h (UInt8.toNat_inj.1 (by omega))
  · intro h e; exact h (by rw [e])
theorem cmp_less (a b : ByteArray) : Extern.BytealgCompare.cmp a b = if lessB a b = true then -1 else if lessB b a = true then 1 else 0 := by
  unfold Extern.BytealgCompare.cmp lessB
  rw [lessB_sym a b]
  cases h : (List.range (min a.size b.size)).find? (fun i => a[i]! != b[i]!) with
  | some i =>
    have hp := List.find?_some h
    rw [bt_ne] at hp
    simp only [Bool.not_eq_true', decide_eq_false_iff_not] at hp
    simp only [decide_eq_true_eq, u8_lt]
    show (if bt a i < bt b i then (-1 : Int) else 1) = _
    by_cases h1 : bt a i < bt b i
    · rw [if_pos h1, if_pos h1]
    · rw [if_neg h1, if_neg h1, if_pos (by omega)]
  | none =>
    simp only [decide_eq_true_eq]
theorem lessB_asymm {a b : ByteArray} (h : lessB a b = true) : lessB b a = false := by
  unfold lessB at *
  rw [lessB_sym a b]
  cases hf : (List.range (min a.size b.size)).find? (fun i => a[i]! != b[i]!) with
  | some i => rw [hf] at h; simp at h ⊢; omega
  | none => rw [hf] at h; simp at h ⊢; omega
theorem lessB_at {a b : ByteArray} {i : Nat} (ha : i < a.size) (hb : i < b.size) (h : ∀ j < i, bt a j = bt b j) (hn : bt a i ≠ bt b i) : lessB a b = decide (bt a i < bt b i) := by
  have hf : (List.range (min a.size b.size)).find? (fun i => a[i]! != b[i]!) = some i := by
    rw [List.find?_range_eq_some]
    refine ⟨by rw [bt_ne]; simp [hn], List.mem_range.2 (by omega), fun j hj => ?_⟩
    rw [bt_ne]
    simp [h j hj]
  unfold lessB
  rw [hf]
theorem lessB_end {a b : ByteArray} (h : ∀ j < min a.size b.size, bt a j = bt b j) : lessB a b = decide (a.size < b.size) := by
  have hf : (List.range (min a.size b.size)).find? (fun i => a[i]! != b[i]!) = none := by
    rw [List.find?_eq_none]
    intro j hj
    rw [bt_ne]
    simp [h j (List.mem_range.1 hj)]
  unfold lessB
  rw [hf]
theorem compare105 (a b : ByteArray) : FF 58 [.v (.string a), .v (.string b)] = some (.v (.int .i64 (if lessB a b = true then -1 else if lessB b a = true then 1 else 0))) := by
  rw [← cmp_less]
  have h := ext112 a b
  have h111 : FF 108 [.v (.string a), .v (.string b)] = some (.v (.int .i64 (Extern.BytealgCompare.cmp a b))) := by
    refine FF_val Tryz.func108 rfl rfl ?_
    simp only [Tryz.ntmps108, Tryz.results108]
    repeat (first | refine dwp_seq ?_ | refine dwp_block ?_ | ((first | refine dwp_region ?_ | refine dwp_any ?_ | refine dwp_skip ?_ | refine dwp_exit ?_ | refine dwp_ret ?_ | refine dwp_if ?_); simp only [go_sem, beq_true, beq_false, Bool.true_beq, Bool.false_beq, Bool.bne_true, Bool.bne_false, Bool.true_bne, Bool.false_bne, Option.isSome_none, ne_eq, Int.cast_ofNat_Int, ↓reduceIte, reduceCtorEq, Nat.reduceBEq, Nat.reduceEqDiff, Nat.reduceLT, Nat.reduceLeDiff, Nat.reduceAdd, Nat.reduceMul, Nat.reducePow, Nat.reduceSub, Int.reduceEq, Int.reduceLT, Int.reduceLE, Int.reduceToNat, Int.reduceMul, Int.reduceNeg, Int.reduceAdd, Int.reduceSub, h]; try refine And.intro (show okTr _ _ = true by kernel_rfl) ?_))
  refine FF_val Tryz.func58 rfl rfl ?_
  simp only [Tryz.ntmps58, Tryz.results58]
  repeat (first | refine dwp_seq ?_ | refine dwp_block ?_ | ((first | refine dwp_region ?_ | refine dwp_any ?_ | refine dwp_skip ?_ | refine dwp_exit ?_ | refine dwp_ret ?_ | refine dwp_if ?_); simp only [go_sem, beq_true, beq_false, Bool.true_beq, Bool.false_beq, Bool.bne_true, Bool.bne_false, Bool.true_bne, Bool.false_bne, Option.isSome_none, ne_eq, Int.cast_ofNat_Int, ↓reduceIte, reduceCtorEq, Nat.reduceBEq, Nat.reduceEqDiff, Nat.reduceLT, Nat.reduceLeDiff, Nat.reduceAdd, Nat.reduceMul, Nat.reducePow, Nat.reduceSub, Int.reduceEq, Int.reduceLT, Int.reduceLE, Int.reduceToNat, Int.reduceMul, Int.reduceNeg, Int.reduceAdd, Int.reduceSub, h111]; try refine And.intro (show okTr _ _ = true by kernel_rfl) ?_))
theorem nan109 (a : Int) : FF 106 [.v (.int .u8 a)] = some (.v (.bool false)) := by
  refine FF_val Tryz.func106 rfl rfl ?_
  simp only [Tryz.ntmps106, Tryz.results106]
  repeat (first | refine dwp_seq ?_ | refine dwp_block ?_ | ((first | refine dwp_region ?_ | refine dwp_any ?_ | refine dwp_skip ?_ | refine dwp_exit ?_ | refine dwp_ret ?_ | refine dwp_if ?_); simp only [go_sem, beq_true, beq_false, Bool.true_beq, Bool.false_beq, Bool.bne_true, Bool.bne_false, Bool.true_bne, Bool.false_bne, Option.isSome_none, ne_eq, Int.cast_ofNat_Int, ↓reduceIte, reduceCtorEq, Nat.reduceBEq, Nat.reduceEqDiff, Nat.reduceLT, Nat.reduceLeDiff, Nat.reduceAdd, Nat.reduceMul, Nat.reducePow, Nat.reduceSub, Int.reduceEq, Int.reduceLT, Int.reduceLE, Int.reduceToNat, Int.reduceMul, Int.reduceNeg, Int.reduceAdd, Int.reduceSub]; try refine And.intro (show okTr _ _ = true by kernel_rfl) ?_))
theorem nan110 (a : Int) : FF 107 [.v (.int .i64 a)] = some (.v (.bool false)) := by
  refine FF_val Tryz.func107 rfl rfl ?_
  simp only [Tryz.ntmps107, Tryz.results107]
  repeat (first | refine dwp_seq ?_ | refine dwp_block ?_ | ((first | refine dwp_region ?_ | refine dwp_any ?_ | refine dwp_skip ?_ | refine dwp_exit ?_ | refine dwp_ret ?_ | refine dwp_if ?_); simp only [go_sem, beq_true, beq_false, Bool.true_beq, Bool.false_beq, Bool.bne_true, Bool.bne_false, Bool.true_bne, Bool.false_bne, Option.isSome_none, ne_eq, Int.cast_ofNat_Int, ↓reduceIte, reduceCtorEq, Nat.reduceBEq, Nat.reduceEqDiff, Nat.reduceLT, Nat.reduceLeDiff, Nat.reduceAdd, Nat.reduceMul, Nat.reducePow, Nat.reduceSub, Int.reduceEq, Int.reduceLT, Int.reduceLE, Int.reduceToNat, Int.reduceMul, Int.reduceNeg, Int.reduceAdd, Int.reduceSub]; try refine And.intro (show okTr _ _ = true by kernel_rfl) ?_))
def cmpI (a b : Int) : Int := if a < b then -1 else if b < a then 1 else 0
theorem cmp103 (a b : Int) : FF 56 [.v (.int .u8 a), .v (.int .u8 b)] = some (.v (.int .i64 (cmpI a b))) := by
  have ha := nan109 a
  have hb := nan109 b
  refine FF_val Tryz.func56 rfl rfl ?_
  simp only [Tryz.ntmps56, Tryz.results56]
  unfold cmpI
  by_cases h1 : a < b
  · repeat (first | refine dwp_seq ?_ | refine dwp_block ?_ | ((first | refine dwp_region ?_ | refine dwp_any ?_ | refine dwp_skip ?_ | refine dwp_exit ?_ | refine dwp_ret ?_ | refine dwp_if ?_); simp only [go_sem, beq_true, beq_false, Bool.true_beq, Bool.false_beq, Bool.bne_true, Bool.bne_false, Bool.true_bne, Bool.false_bne, Option.isSome_none, ne_eq, Int.cast_ofNat_Int, ↓reduceIte, reduceCtorEq, Nat.reduceBEq, Nat.reduceEqDiff, Nat.reduceLT, Nat.reduceLeDiff, Nat.reduceAdd, Nat.reduceMul, Nat.reducePow, Nat.reduceSub, Int.reduceEq, Int.reduceLT, Int.reduceLE, Int.reduceToNat, Int.reduceMul, Int.reduceNeg, Int.reduceAdd, Int.reduceSub, ha, hb, h1]; try refine And.intro (show okTr _ _ = true by kernel_rfl) ?_))
  by_cases h2 : b < a
  · repeat (first | refine dwp_seq ?_ | refine dwp_block ?_ | ((first | refine dwp_region ?_ | refine dwp_any ?_ | refine dwp_skip ?_ | refine dwp_exit ?_ | refine dwp_ret ?_ | refine dwp_if ?_); simp only [go_sem, beq_true, beq_false, Bool.true_beq, Bool.false_beq, Bool.bne_true, Bool.bne_false, Bool.true_bne, Bool.false_bne, Option.isSome_none, ne_eq, Int.cast_ofNat_Int, ↓reduceIte, reduceCtorEq, Nat.reduceBEq, Nat.reduceEqDiff, Nat.reduceLT, Nat.reduceLeDiff, Nat.reduceAdd, Nat.reduceMul, Nat.reducePow, Nat.reduceSub, Int.reduceEq, Int.reduceLT, Int.reduceLE, Int.reduceToNat, Int.reduceMul, Int.reduceNeg, Int.reduceAdd, Int.reduceSub, ha, hb, h1, h2]; try refine And.intro (show okTr _ _ = true by kernel_rfl) ?_))
  · repeat (first | refine dwp_seq ?_ | refine dwp_block ?_ | ((first | refine dwp_region ?_ | refine dwp_any ?_ | refine dwp_skip ?_ | refine dwp_exit ?_ | refine dwp_ret ?_ | refine dwp_if ?_); simp only [go_sem, beq_true, beq_false, Bool.true_beq, Bool.false_beq, Bool.bne_true, Bool.bne_false, Bool.true_bne, Bool.false_bne, Option.isSome_none, ne_eq, Int.cast_ofNat_Int, ↓reduceIte, reduceCtorEq, Nat.reduceBEq, Nat.reduceEqDiff, Nat.reduceLT, Nat.reduceLeDiff, Nat.reduceAdd, Nat.reduceMul, Nat.reducePow, Nat.reduceSub, Int.reduceEq, Int.reduceLT, Int.reduceLE, Int.reduceToNat, Int.reduceMul, Int.reduceNeg, Int.reduceAdd, Int.reduceSub, ha, hb, h1, h2]; try refine And.intro (show okTr _ _ = true by kernel_rfl) ?_))
theorem cmp104 (a b : Int) : FF 57 [.v (.int .i64 a), .v (.int .i64 b)] = some (.v (.int .i64 (cmpI a b))) := by
  have ha := nan110 a
  have hb := nan110 b
  refine FF_val Tryz.func57 rfl rfl ?_
  simp only [Tryz.ntmps57, Tryz.results57]
  unfold cmpI
  by_cases h1 : a < b
  · repeat (first | refine dwp_seq ?_ | refine dwp_block ?_ | ((first | refine dwp_region ?_ | refine dwp_any ?_ | refine dwp_skip ?_ | refine dwp_exit ?_ | refine dwp_ret ?_ | refine dwp_if ?_); simp only [go_sem, beq_true, beq_false, Bool.true_beq, Bool.false_beq, Bool.bne_true, Bool.bne_false, Bool.true_bne, Bool.false_bne, Option.isSome_none, ne_eq, Int.cast_ofNat_Int, ↓reduceIte, reduceCtorEq, Nat.reduceBEq, Nat.reduceEqDiff, Nat.reduceLT, Nat.reduceLeDiff, Nat.reduceAdd, Nat.reduceMul, Nat.reducePow, Nat.reduceSub, Int.reduceEq, Int.reduceLT, Int.reduceLE, Int.reduceToNat, Int.reduceMul, Int.reduceNeg, Int.reduceAdd, Int.reduceSub, ha, hb, h1]; try refine And.intro (show okTr _ _ = true by kernel_rfl) ?_))
  by_cases h2 : b < a
  · repeat (first | refine dwp_seq ?_ | refine dwp_block ?_ | ((first | refine dwp_region ?_ | refine dwp_any ?_ | refine dwp_skip ?_ | refine dwp_exit ?_ | refine dwp_ret ?_ | refine dwp_if ?_); simp only [go_sem, beq_true, beq_false, Bool.true_beq, Bool.false_beq, Bool.bne_true, Bool.bne_false, Bool.true_bne, Bool.false_bne, Option.isSome_none, ne_eq, Int.cast_ofNat_Int, ↓reduceIte, reduceCtorEq, Nat.reduceBEq, Nat.reduceEqDiff, Nat.reduceLT, Nat.reduceLeDiff, Nat.reduceAdd, Nat.reduceMul, Nat.reducePow, Nat.reduceSub, Int.reduceEq, Int.reduceLT, Int.reduceLE, Int.reduceToNat, Int.reduceMul, Int.reduceNeg, Int.reduceAdd, Int.reduceSub, ha, hb, h1, h2]; try refine And.intro (show okTr _ _ = true by kernel_rfl) ?_))
  · repeat (first | refine dwp_seq ?_ | refine dwp_block ?_ | ((first | refine dwp_region ?_ | refine dwp_any ?_ | refine dwp_skip ?_ | refine dwp_exit ?_ | refine dwp_ret ?_ | refine dwp_if ?_); simp only [go_sem, beq_true, beq_false, Bool.true_beq, Bool.false_beq, Bool.bne_true, Bool.bne_false, Bool.true_bne, Bool.false_bne, Option.isSome_none, ne_eq, Int.cast_ofNat_Int, ↓reduceIte, reduceCtorEq, Nat.reduceBEq, Nat.reduceEqDiff, Nat.reduceLT, Nat.reduceLeDiff, Nat.reduceAdd, Nat.reduceMul, Nat.reducePow, Nat.reduceSub, Int.reduceEq, Int.reduceLT, Int.reduceLE, Int.reduceToNat, Int.reduceMul, Int.reduceNeg, Int.reduceAdd, Int.reduceSub, ha, hb, h1, h2]; try refine And.intro (show okTr _ _ = true by kernel_rfl) ?_))
/-! how values stand -/
def kk (k : Int) : Int := if 3 < k then 0 else k
def lessV (k n : Int) (s : ByteArray) (k' n' : Int) (s' : ByteArray) : Bool :=
  if kk k = kk k' then (if kk k = 1 then decide (n < n') else if kk k = 2 then decide (n < n') else if kk k = 3 then lessB s s' else false) else decide (kk k < kk k')
theorem lessV_asymm {k n k' n' : Int} {s s' : ByteArray} (h : lessV k n s k' n' s' = true) : lessV k' n' s' k n s = false := by
  unfold lessV at *
  by_cases e : kk k = kk k'
  · rw [if_pos e] at h
    rw [if_pos e.symm, ← e]
    by_cases e1 : kk k = 1
    · rw [if_pos e1] at h ⊢; simp at h ⊢; omega
    rw [if_neg e1] at h ⊢
    by_cases e2 : kk k = 2
    · rw [if_pos e2] at h ⊢; simp at h ⊢; omega
    rw [if_neg e2] at h ⊢
    by_cases e3 : kk k = 3
    · rw [if_pos e3] at h ⊢; exact lessB_asymm h
    rw [if_neg e3]
  · rw [if_neg e] at h
    rw [if_neg (fun h => e h.symm)]
    simp at h ⊢; omega
theorem kind102 (k n : Int) (s : ByteArray) : FF 55 [.agg [.v (.int .u8 k), .v (.int .i64 n), .v (.string s)]] = some (.v (.int .u8 (kk k))) := by
  refine FF_val Tryz.func55 rfl rfl ?_
  simp only [Tryz.ntmps55, Tryz.results55]
  unfold kk
  by_cases h : 3 < k
  · repeat (first | refine dwp_seq ?_ | refine dwp_block ?_ | ((first | refine dwp_region ?_ | refine dwp_any ?_ | refine dwp_skip ?_ | refine dwp_exit ?_ | refine dwp_ret ?_ | refine dwp_if ?_); simp only [go_sem, beq_true, beq_false, Bool.true_beq, Bool.false_beq, Bool.bne_true, Bool.bne_false, Bool.true_bne, Bool.false_bne, Option.isSome_none, ne_eq, Int.cast_ofNat_Int, ↓reduceIte, reduceCtorEq, Nat.reduceBEq, Nat.reduceEqDiff, Nat.reduceLT, Nat.reduceLeDiff, Nat.reduceAdd, Nat.reduceMul, Nat.reducePow, Nat.reduceSub, Int.reduceEq, Int.reduceLT, Int.reduceLE, Int.reduceToNat, Int.reduceMul, Int.reduceNeg, Int.reduceAdd, Int.reduceSub, h]; try refine And.intro (show okTr _ _ = true by kernel_rfl) ?_))
  · repeat (first | refine dwp_seq ?_ | refine dwp_block ?_ | ((first | refine dwp_region ?_ | refine dwp_any ?_ | refine dwp_skip ?_ | refine dwp_exit ?_ | refine dwp_ret ?_ | refine dwp_if ?_); simp only [go_sem, beq_true, beq_false, Bool.true_beq, Bool.false_beq, Bool.bne_true, Bool.bne_false, Bool.true_bne, Bool.false_bne, Option.isSome_none, ne_eq, Int.cast_ofNat_Int, ↓reduceIte, reduceCtorEq, Nat.reduceBEq, Nat.reduceEqDiff, Nat.reduceLT, Nat.reduceLeDiff, Nat.reduceAdd, Nat.reduceMul, Nat.reducePow, Nat.reduceSub, Int.reduceEq, Int.reduceLT, Int.reduceLE, Int.reduceToNat, Int.reduceMul, Int.reduceNeg, Int.reduceAdd, Int.reduceSub, h]; try refine And.intro (show okTr _ _ = true by kernel_rfl) ?_))
def cmpV (k n : Int) (s : ByteArray) (k' n' : Int) (s' : ByteArray) : Int := if lessV k n s k' n' s' = true then -1 else if lessV k' n' s' k n s = true then 1 else 0
theorem compare90 (k n : Int) (s : ByteArray) (k' n' : Int) (s' : ByteArray) : FF 24 [.agg [.v (.int .u8 k), .v (.int .i64 n), .v (.string s)], .agg [.v (.int .u8 k'), .v (.int .i64 n'), .v (.string s')]] = some (.v (.int .i64 (cmpV k n s k' n' s'))) := by
  have c1 := kind102 k n s
  have c2 := kind102 k' n' s'
  have c3 := cmp103 (kk k) (kk k')
  have c4 := cmp104 n n'
  have c5 := compare105 s s'
  refine FF_val Tryz.func24 rfl rfl ?_
  simp only [Tryz.ntmps24, Tryz.results24]
  by_cases e : kk k = kk k'
  · have e0 : cmpI (kk k) (kk k') = 0 := by unfold cmpI; rw [if_neg (by omega), if_neg (by omega)]
    rw [e0] at c3
    by_cases e1 : kk k = 1
    · have hr : cmpV k n s k' n' s' = cmpI n n' := by simp [cmpV, lessV, cmpI, e1, ← e]
      rw [hr]
      rw [e1] at c1 c3
      repeat (first | refine dwp_seq ?_ | refine dwp_block ?_ | ((first | refine dwp_region ?_ | refine dwp_any ?_ | refine dwp_skip ?_ | refine dwp_exit ?_ | refine dwp_ret ?_ | refine dwp_if ?_); simp only [go_sem, beq_true, beq_false, Bool.true_beq, Bool.false_beq, Bool.bne_true, Bool.bne_false, Bool.true_bne, Bool.false_bne, Option.isSome_none, ne_eq, Int.cast_ofNat_Int, ↓reduceIte, reduceCtorEq, Nat.reduceBEq, Nat.reduceEqDiff, Nat.reduceLT, Nat.reduceLeDiff, Nat.reduceAdd, Nat.reduceMul, Nat.reducePow, Nat.reduceSub, Int.reduceEq, Int.reduceLT, Int.reduceLE, Int.reduceToNat, Int.reduceMul, Int.reduceNeg, Int.reduceAdd, Int.reduceSub, c1, c2, c3, c4, c5]; try refine And.intro (show okTr _ _ = true by kernel_rfl) ?_))
    by_cases e2 : kk k = 2
    · have hr : cmpV k n s k' n' s' = cmpI n n' := by simp [cmpV, lessV, cmpI, e2, ← e]
      rw [hr]
      rw [e2] at c1 c3
      repeat (first | refine dwp_seq ?_ | refine dwp_block ?_ | ((first | refine dwp_region ?_ | refine dwp_any ?_ | refine dwp_skip ?_ | refine dwp_exit ?_ | refine dwp_ret ?_ | refine dwp_if ?_); simp only [go_sem, beq_true, beq_false, Bool.true_beq, Bool.false_beq, Bool.bne_true, Bool.bne_false, Bool.true_bne, Bool.false_bne, Option.isSome_none, ne_eq, Int.cast_ofNat_Int, ↓reduceIte, reduceCtorEq, Nat.reduceBEq, Nat.reduceEqDiff, Nat.reduceLT, Nat.reduceLeDiff, Nat.reduceAdd, Nat.reduceMul, Nat.reducePow, Nat.reduceSub, Int.reduceEq, Int.reduceLT, Int.reduceLE, Int.reduceToNat, Int.reduceMul, Int.reduceNeg, Int.reduceAdd, Int.reduceSub, c1, c2, c3, c4, c5]; try refine And.intro (show okTr _ _ = true by kernel_rfl) ?_))
    by_cases e3 : kk k = 3
    · have hr : cmpV k n s k' n' s' = if lessB s s' = true then -1 else if lessB s' s = true then 1 else 0 := by simp [cmpV, lessV, e3, ← e]
      rw [hr]
      rw [e3] at c1 c3
      repeat (first | refine dwp_seq ?_ | refine dwp_block ?_ | ((first | refine dwp_region ?_ | refine dwp_any ?_ | refine dwp_skip ?_ | refine dwp_exit ?_ | refine dwp_ret ?_ | refine dwp_if ?_); simp only [go_sem, beq_true, beq_false, Bool.true_beq, Bool.false_beq, Bool.bne_true, Bool.bne_false, Bool.true_bne, Bool.false_bne, Option.isSome_none, ne_eq, Int.cast_ofNat_Int, ↓reduceIte, reduceCtorEq, Nat.reduceBEq, Nat.reduceEqDiff, Nat.reduceLT, Nat.reduceLeDiff, Nat.reduceAdd, Nat.reduceMul, Nat.reducePow, Nat.reduceSub, Int.reduceEq, Int.reduceLT, Int.reduceLE, Int.reduceToNat, Int.reduceMul, Int.reduceNeg, Int.reduceAdd, Int.reduceSub, c1, c2, c3, c4, c5]; try refine And.intro (show okTr _ _ = true by kernel_rfl) ?_))
    · have hr : cmpV k n s k' n' s' = 0 := by simp [cmpV, lessV, ← e, e1, e2, e3]
      rw [hr]
      generalize kk k = q at *
      repeat (first | refine dwp_seq ?_ | refine dwp_block ?_ | ((first | refine dwp_region ?_ | refine dwp_any ?_ | refine dwp_skip ?_ | refine dwp_exit ?_ | refine dwp_ret ?_ | refine dwp_if ?_); simp only [go_sem, beq_true, beq_false, Bool.true_beq, Bool.false_beq, Bool.bne_true, Bool.bne_false, Bool.true_bne, Bool.false_bne, Option.isSome_none, ne_eq, Int.cast_ofNat_Int, ↓reduceIte, reduceCtorEq, Nat.reduceBEq, Nat.reduceEqDiff, Nat.reduceLT, Nat.reduceLeDiff, Nat.reduceAdd, Nat.reduceMul, Nat.reducePow, Nat.reduceSub, Int.reduceEq, Int.reduceLT, Int.reduceLE, Int.reduceToNat, Int.reduceMul, Int.reduceNeg, Int.reduceAdd, Int.reduceSub, c1, c2, c3, c4, c5, e1, e2, e3]; try refine And.intro (show okTr _ _ = true by kernel_rfl) ?_))
  · have hr : cmpV k n s k' n' s' = cmpI (kk k) (kk k') := by
      have e' : ¬ kk k' = kk k := fun h => e h.symm
      simp [cmpV, lessV, cmpI, e, e']
    have e0 : ¬ cmpI (kk k) (kk k') = 0 := by unfold cmpI; split <;> (try split) <;> omega
    rw [hr]
    generalize cmpI (kk k) (kk k') = q at *
    repeat (first | refine dwp_seq ?_ | refine dwp_block ?_ | ((first | refine dwp_region ?_ | refine dwp_any ?_ | refine dwp_skip ?_ | refine dwp_exit ?_ | refine dwp_ret ?_ | refine dwp_if ?_); simp only [go_sem, beq_true, beq_false, Bool.true_beq, Bool.false_beq, Bool.bne_true, Bool.bne_false, Bool.true_bne, Bool.false_bne, Option.isSome_none, ne_eq, Int.cast_ofNat_Int, ↓reduceIte, reduceCtorEq, Nat.reduceBEq, Nat.reduceEqDiff, Nat.reduceLT, Nat.reduceLeDiff, Nat.reduceAdd, Nat.reduceMul, Nat.reducePow, Nat.reduceSub, Int.reduceEq, Int.reduceLT, Int.reduceLE, Int.reduceToNat, Int.reduceMul, Int.reduceNeg, Int.reduceAdd, Int.reduceSub, c1, c2, c3, e0]; try refine And.intro (show okTr _ _ = true by kernel_rfl) ?_))
theorem less91 (k n : Int) (s : ByteArray) (k' n' : Int) (s' : ByteArray) (hs : s.size < 2 ^ 62) (hs' : s'.size < 2 ^ 62) : FF 146 [.agg [.v (.int .u8 k), .v (.int .i64 n), .v (.string s)], .agg [.v (.int .u8 k'), .v (.int .i64 n'), .v (.string s')]] =
    some (.v (.bool (if k = 1 then decide (n < n') else if k = 2 then decide (n < n') else if k = 3 then lessB s s' else false))) := by
  refine FF_val Tryz.func146 rfl rfl ?_
  simp only [Tryz.ntmps146, Tryz.results146]
  by_cases e1 : k = 1
  · repeat (first | refine dwp_seq ?_ | refine dwp_block ?_ | ((first | refine dwp_region ?_ | refine dwp_any ?_ | refine dwp_skip ?_ | refine dwp_exit ?_ | refine dwp_ret ?_ | refine dwp_if ?_); simp only [go_sem, beq_true, beq_false, Bool.true_beq, Bool.false_beq, Bool.bne_true, Bool.bne_false, Bool.true_bne, Bool.false_bne, Option.isSome_none, ne_eq, Int.cast_ofNat_Int, ↓reduceIte, reduceCtorEq, Nat.reduceBEq, Nat.reduceEqDiff, Nat.reduceLT, Nat.reduceLeDiff, Nat.reduceAdd, Nat.reduceMul, Nat.reducePow, Nat.reduceSub, Int.reduceEq, Int.reduceLT, Int.reduceLE, Int.reduceToNat, Int.reduceMul, Int.reduceNeg, Int.reduceAdd, Int.reduceSub, e1]; try refine And.intro (show okTr _ _ = true by kernel_rfl) ?_))
  by_cases e2 : k = 2
  · repeat (first | refine dwp_seq ?_ | refine dwp_block ?_ | ((first | refine dwp_region ?_ | refine dwp_any ?_ | refine dwp_skip ?_ | refine dwp_exit ?_ | refine dwp_ret ?_ | refine dwp_if ?_); simp only [go_sem, beq_true, beq_false, Bool.true_beq, Bool.false_beq, Bool.bne_true, Bool.bne_false, Bool.true_bne, Bool.false_bne, Option.isSome_none, ne_eq, Int.cast_ofNat_Int, ↓reduceIte, reduceCtorEq, Nat.reduceBEq, Nat.reduceEqDiff, Nat.reduceLT, Nat.reduceLeDiff, Nat.reduceAdd, Nat.reduceMul, Nat.reducePow, Nat.reduceSub, Int.reduceEq, Int.reduceLT, Int.reduceLE, Int.reduceToNat, Int.reduceMul, Int.reduceNeg, Int.reduceAdd, Int.reduceSub, e1, e2]; try refine And.intro (show okTr _ _ = true by kernel_rfl) ?_))
  by_cases e3 : k = 3
  · subst e3
    repeat (first | refine dwp_seq ?_ | refine dwp_block ?_ | ((first | refine dwp_region ?_ | refine dwp_any ?_ | refine dwp_skip ?_ | refine dwp_exit ?_ | refine dwp_ret ?_ | refine dwp_if ?_); simp only [go_sem, beq_true, beq_false, Bool.true_beq, Bool.false_beq, Bool.bne_true, Bool.bne_false, Bool.true_bne, Bool.false_bne, Option.isSome_none, ne_eq, Int.cast_ofNat_Int, ↓reduceIte, reduceCtorEq, Nat.reduceBEq, Nat.reduceEqDiff, Nat.reduceLT, Nat.reduceLeDiff, Nat.reduceAdd, Nat.reduceMul, Nat.reducePow, Nat.reduceSub, Int.reduceEq, Int.reduceLT, Int.reduceLE, Int.reduceToNat, Int.reduceMul, Int.reduceNeg, Int.reduceAdd, Int.reduceSub]; try refine And.intro (show okTr _ _ = true by kernel_rfl) ?_))
    refine dwp_ind (fun m f g => ∃ i : Nat, i + m = min s.size s'.size ∧ f 2 = .bp 2 0 ∧ f 3 = .bp 3 0 ∧ g 2 = some [.v (.int .u8 3), .v (.int .i64 n), .v (.string s)] ∧ g 3 = some [.v (.int .u8 k'), .v (.int .i64 n'), .v (.string s')] ∧ f 5 = .v (.int .i64 (i : Nat)) ∧ ∀ j < i, bt s j = bt s' j) (min s.size s'.size) ⟨0, by omega, ?_⟩ ?_
    · simp only [go_sem, beq_true, beq_false, Bool.true_beq, Bool.false_beq, Bool.bne_true, Bool.bne_false, Bool.true_bne, Bool.false_bne, Option.isSome_none, ne_eq, Int.cast_ofNat_Int, ↓reduceIte, reduceCtorEq, Nat.reduceBEq, Nat.reduceEqDiff, Nat.reduceLT, Nat.reduceLeDiff, Nat.reduceAdd, Nat.reduceMul, Nat.reducePow, Nat.reduceSub, Int.reduceEq, Int.reduceLT, Int.reduceLE, Int.reduceToNat, Int.reduceMul, Int.reduceNeg, Int.reduceAdd, Int.reduceSub]
      exact fun j hj => absurd hj (Nat.not_lt_zero j)
    rintro m f g ⟨i, hi, f2, f3, g2, g3, f5, hp⟩ ih
    by_cases h : (i : Int) < (s.size : Int)
    · by_cases h' : (i : Int) < (s'.size : Int)
      · have hi1 : i < s.size := by omega
        have hi2 : i < s'.size := by omega
        have hw := wrap_succ (show i + 1 < 2 ^ 63 by omega)
        by_cases hb : bt s i = bt s' i
        · repeat (first | refine dwp_seq ?_ | refine dwp_block ?_ | ((first | refine dwp_region ?_ | refine dwp_any ?_ | refine dwp_skip ?_ | refine dwp_exit ?_ | refine dwp_ret ?_ | refine dwp_if ?_); simp only [go_sem, beq_true, beq_false, Bool.true_beq, Bool.false_beq, Bool.bne_true, Bool.bne_false, Bool.true_bne, Bool.false_bne, Option.isSome_none, ne_eq, Int.cast_ofNat_Int, ↓reduceIte, reduceCtorEq, Nat.reduceBEq, Nat.reduceEqDiff, Nat.reduceLT, Nat.reduceLeDiff, Nat.reduceAdd, Nat.reduceMul, Nat.reducePow, Nat.reduceSub, Int.reduceEq, Int.reduceLT, Int.reduceLE, Int.reduceToNat, Int.reduceMul, Int.reduceNeg, Int.reduceAdd, Int.reduceSub, f2, f3, g2, g3, f5, h, h', hi1, hi2, hb, hw]; try refine And.intro (show okTr _ _ = true by kernel_rfl) ?_))
          refine ih (m - 1) _ _ (by omega) ⟨i + 1, by omega, ?_⟩
          simp only [go_sem, beq_true, beq_false, Bool.true_beq, Bool.false_beq, Bool.bne_true, Bool.bne_false, Bool.true_bne, Bool.false_bne, Option.isSome_none, ne_eq, Int.cast_ofNat_Int, ↓reduceIte, reduceCtorEq, Nat.reduceBEq, Nat.reduceEqDiff, Nat.reduceLT, Nat.reduceLeDiff, Nat.reduceAdd, Nat.reduceMul, Nat.reducePow, Nat.reduceSub, Int.reduceEq, Int.reduceLT, Int.reduceLE, Int.reduceToNat, Int.reduceMul, Int.reduceNeg, Int.reduceAdd, Int.reduceSub, f2, f3, g2, g3, f5]
          intro j hj
          rcases Nat.lt_succ_iff_lt_or_eq.1 hj with hj | rfl
          · exact hp j hj
          · exact hb
        · have hr := lessB_at hi1 hi2 hp hb
          rw [hr]
          repeat (first | refine dwp_seq ?_ | refine dwp_block ?_ | ((first | refine dwp_region ?_ | refine dwp_any ?_ | refine dwp_skip ?_ | refine dwp_exit ?_ | refine dwp_ret ?_ | refine dwp_if ?_); simp only [go_sem, beq_true, beq_false, Bool.true_beq, Bool.false_beq, Bool.bne_true, Bool.bne_false, Bool.true_bne, Bool.false_bne, Option.isSome_none, ne_eq, Int.cast_ofNat_Int, ↓reduceIte, reduceCtorEq, Nat.reduceBEq, Nat.reduceEqDiff, Nat.reduceLT, Nat.reduceLeDiff, Nat.reduceAdd, Nat.reduceMul, Nat.reducePow, Nat.reduceSub, Int.reduceEq, Int.reduceLT, Int.reduceLE, Int.reduceToNat, Int.reduceMul, Int.reduceNeg, Int.reduceAdd, Int.reduceSub, f2, f3, g2, g3, f5, h, h', hi1, hi2, hb]; try refine And.intro (show okTr _ _ = true by kernel_rfl) ?_))
      · have hr : lessB s s' = decide ((s.size : Int) < (s'.size : Int)) := by rw [lessB_end fun j hj => hp j (by omega)]; simp
        rw [hr]
        repeat (first | refine dwp_seq ?_ | refine dwp_block ?_ | ((first | refine dwp_region ?_ | refine dwp_any ?_ | refine dwp_skip ?_ | refine dwp_exit ?_ | refine dwp_ret ?_ | refine dwp_if ?_); simp only [go_sem, beq_true, beq_false, Bool.true_beq, Bool.false_beq, Bool.bne_true, Bool.bne_false, Bool.true_bne, Bool.false_bne, Option.isSome_none, ne_eq, Int.cast_ofNat_Int, ↓reduceIte, reduceCtorEq, Nat.reduceBEq, Nat.reduceEqDiff, Nat.reduceLT, Nat.reduceLeDiff, Nat.reduceAdd, Nat.reduceMul, Nat.reducePow, Nat.reduceSub, Int.reduceEq, Int.reduceLT, Int.reduceLE, Int.reduceToNat, Int.reduceMul, Int.reduceNeg, Int.reduceAdd, Int.reduceSub, f2, f3, g2, g3, f5, h, h']; try refine And.intro (show okTr _ _ = true by kernel_rfl) ?_))
    · have hr : lessB s s' = decide ((s.size : Int) < (s'.size : Int)) := by rw [lessB_end fun j hj => hp j (by omega)]; simp
      rw [hr]
      repeat (first | refine dwp_seq ?_ | refine dwp_block ?_ | ((first | refine dwp_region ?_ | refine dwp_any ?_ | refine dwp_skip ?_ | refine dwp_exit ?_ | refine dwp_ret ?_ | refine dwp_if ?_); simp only [go_sem, beq_true, beq_false, Bool.true_beq, Bool.false_beq, Bool.bne_true, Bool.bne_false, Bool.true_bne, Bool.false_bne, Option.isSome_none, ne_eq, Int.cast_ofNat_Int, ↓reduceIte, reduceCtorEq, Nat.reduceBEq, Nat.reduceEqDiff, Nat.reduceLT, Nat.reduceLeDiff, Nat.reduceAdd, Nat.reduceMul, Nat.reducePow, Nat.reduceSub, Int.reduceEq, Int.reduceLT, Int.reduceLE, Int.reduceToNat, Int.reduceMul, Int.reduceNeg, Int.reduceAdd, Int.reduceSub, f2, f3, g2, g3, f5, h]; try refine And.intro (show okTr _ _ = true by kernel_rfl) ?_))
  · repeat (first | refine dwp_seq ?_ | refine dwp_block ?_ | ((first | refine dwp_region ?_ | refine dwp_any ?_ | refine dwp_skip ?_ | refine dwp_exit ?_ | refine dwp_ret ?_ | refine dwp_if ?_); simp only [go_sem, beq_true, beq_false, Bool.true_beq, Bool.false_beq, Bool.bne_true, Bool.bne_false, Bool.true_bne, Bool.false_bne, Option.isSome_none, ne_eq, Int.cast_ofNat_Int, ↓reduceIte, reduceCtorEq, Nat.reduceBEq, Nat.reduceEqDiff, Nat.reduceLT, Nat.reduceLeDiff, Nat.reduceAdd, Nat.reduceMul, Nat.reducePow, Nat.reduceSub, Int.reduceEq, Int.reduceLT, Int.reduceLE, Int.reduceToNat, Int.reduceMul, Int.reduceNeg, Int.reduceAdd, Int.reduceSub, e1, e2, e3]; try refine And.intro (show okTr _ _ = true by kernel_rfl) ?_))
theorem less78 (k n : Int) (s : ByteArray) (k' n' : Int) (s' : ByteArray) (hs : s.size < 2 ^ 62) (hs' : s'.size < 2 ^ 62) : FF 109 [.agg [.v (.int .u8 k), .v (.int .i64 n), .v (.string s)], .agg [.v (.int .u8 k'), .v (.int .i64 n'), .v (.string s')]] = some (.v (.bool (lessV k n s k' n' s'))) := by
  have hl := less91 (kk k) n s (kk k') n' s' hs hs'
  refine FF_val Tryz.func109 rfl rfl ?_
  simp only [Tryz.ntmps109, Tryz.results109]
  have key : ∀ (q : Int), (if 3 < q then 0 else q) = kk q := fun q => rfl
  unfold lessV
  by_cases e : kk k = kk k'
  · rw [if_pos e]
    by_cases h1 : 3 < k
    · have a1 : kk k = 0 := by unfold kk; rw [if_pos h1]
      rw [a1] at hl e ⊢
      by_cases h2 : 3 < k'
      · have a2 : kk k' = 0 := by unfold kk; rw [if_pos h2]
        rw [a2] at hl
        repeat (first | refine dwp_seq ?_ | refine dwp_block ?_ | ((first | refine dwp_region ?_ | refine dwp_any ?_ | refine dwp_skip ?_ | refine dwp_exit ?_ | refine dwp_ret ?_ | refine dwp_if ?_); simp only [go_sem, beq_true, beq_false, Bool.true_beq, Bool.false_beq, Bool.bne_true, Bool.bne_false, Bool.true_bne, Bool.false_bne, Option.isSome_none, ne_eq, Int.cast_ofNat_Int, ↓reduceIte, reduceCtorEq, Nat.reduceBEq, Nat.reduceEqDiff, Nat.reduceLT, Nat.reduceLeDiff, Nat.reduceAdd, Nat.reduceMul, Nat.reducePow, Nat.reduceSub, Int.reduceEq, Int.reduceLT, Int.reduceLE, Int.reduceToNat, Int.reduceMul, Int.reduceNeg, Int.reduceAdd, Int.reduceSub, hl, h1, h2]; try refine And.intro (show okTr _ _ = true by kernel_rfl) ?_))
      · have a2 : kk k' = k' := by unfold kk; rw [if_neg h2]
        rw [a2] at hl e
        subst e
        repeat (first | refine dwp_seq ?_ | refine dwp_block ?_ | ((first | refine dwp_region ?_ | refine dwp_any ?_ | refine dwp_skip ?_ | refine dwp_exit ?_ | refine dwp_ret ?_ | refine dwp_if ?_); simp only [go_sem, beq_true, beq_false, Bool.true_beq, Bool.false_beq, Bool.bne_true, Bool.bne_false, Bool.true_bne, Bool.false_bne, Option.isSome_none, ne_eq, Int.cast_ofNat_Int, ↓reduceIte, reduceCtorEq, Nat.reduceBEq, Nat.reduceEqDiff, Nat.reduceLT, Nat.reduceLeDiff, Nat.reduceAdd, Nat.reduceMul, Nat.reducePow, Nat.reduceSub, Int.reduceEq, Int.reduceLT, Int.reduceLE, Int.reduceToNat, Int.reduceMul, Int.reduceNeg, Int.reduceAdd, Int.reduceSub, hl, h1]; try refine And.intro (show okTr _ _ = true by kernel_rfl) ?_))
    · have a1 : kk k = k := by unfold kk; rw [if_neg h1]
      rw [a1] at hl e ⊢
      by_cases h2 : 3 < k'
      · have a2 : kk k' = 0 := by unfold kk; rw [if_pos h2]
        rw [a2] at hl e
        subst e
        repeat (first | refine dwp_seq ?_ | refine dwp_block ?_ | ((first | refine dwp_region ?_ | refine dwp_any ?_ | refine dwp_skip ?_ | refine dwp_exit ?_ | refine dwp_ret ?_ | refine dwp_if ?_); simp only [go_sem, beq_true, beq_false, Bool.true_beq, Bool.false_beq, Bool.bne_true, Bool.bne_false, Bool.true_bne, Bool.false_bne, Option.isSome_none, ne_eq, Int.cast_ofNat_Int, ↓reduceIte, reduceCtorEq, Nat.reduceBEq, Nat.reduceEqDiff, Nat.reduceLT, Nat.reduceLeDiff, Nat.reduceAdd, Nat.reduceMul, Nat.reducePow, Nat.reduceSub, Int.reduceEq, Int.reduceLT, Int.reduceLE, Int.reduceToNat, Int.reduceMul, Int.reduceNeg, Int.reduceAdd, Int.reduceSub, hl, h1, h2]; try refine And.intro (show okTr _ _ = true by kernel_rfl) ?_))
      · have a2 : kk k' = k' := by unfold kk; rw [if_neg h2]
        rw [a2] at hl e
        subst e
        repeat (first | refine dwp_seq ?_ | refine dwp_block ?_ | ((first | refine dwp_region ?_ | refine dwp_any ?_ | refine dwp_skip ?_ | refine dwp_exit ?_ | refine dwp_ret ?_ | refine dwp_if ?_); simp only [go_sem, beq_true, beq_false, Bool.true_beq, Bool.false_beq, Bool.bne_true, Bool.bne_false, Bool.true_bne, Bool.false_bne, Option.isSome_none, ne_eq, Int.cast_ofNat_Int, ↓reduceIte, reduceCtorEq, Nat.reduceBEq, Nat.reduceEqDiff, Nat.reduceLT, Nat.reduceLeDiff, Nat.reduceAdd, Nat.reduceMul, Nat.reducePow, Nat.reduceSub, Int.reduceEq, Int.reduceLT, Int.reduceLE, Int.reduceToNat, Int.reduceMul, Int.reduceNeg, Int.reduceAdd, Int.reduceSub, hl, h1, h2]; try refine And.intro (show okTr _ _ = true by kernel_rfl) ?_))
  · rw [if_neg e]
    by_cases h1 : 3 < k
    · have a1 : kk k = 0 := by unfold kk; rw [if_pos h1]
      rw [a1] at e ⊢
      by_cases h2 : 3 < k'
      · have a2 : kk k' = 0 := by unfold kk; rw [if_pos h2]
        exact absurd a2.symm e
      · have a2 : kk k' = k' := by unfold kk; rw [if_neg h2]
        rw [a2] at e ⊢
        repeat (first | refine dwp_seq ?_ | refine dwp_block ?_ | ((first | refine dwp_region ?_ | refine dwp_any ?_ | refine dwp_skip ?_ | refine dwp_exit ?_ | refine dwp_ret ?_ | refine dwp_if ?_); simp only [go_sem, beq_true, beq_false, Bool.true_beq, Bool.false_beq, Bool.bne_true, Bool.bne_false, Bool.true_bne, Bool.false_bne, Option.isSome_none, ne_eq, Int.cast_ofNat_Int, ↓reduceIte, reduceCtorEq, Nat.reduceBEq, Nat.reduceEqDiff, Nat.reduceLT, Nat.reduceLeDiff, Nat.reduceAdd, Nat.reduceMul, Nat.reducePow, Nat.reduceSub, Int.reduceEq, Int.reduceLT, Int.reduceLE, Int.reduceToNat, Int.reduceMul, Int.reduceNeg, Int.reduceAdd, Int.reduceSub, h1, h2, e]; try refine And.intro (show okTr _ _ = true by kernel_rfl) ?_))
    · have a1 : kk k = k := by unfold kk; rw [if_neg h1]
      rw [a1] at e ⊢
      by_cases h2 : 3 < k'
      · have a2 : kk k' = 0 := by unfold kk; rw [if_pos h2]
        rw [a2] at e ⊢
        repeat (first | refine dwp_seq ?_ | refine dwp_block ?_ | ((first | refine dwp_region ?_ | refine dwp_any ?_ | refine dwp_skip ?_ | refine dwp_exit ?_ | refine dwp_ret ?_ | refine dwp_if ?_); simp only [go_sem, beq_true, beq_false, Bool.true_beq, Bool.false_beq, Bool.bne_true, Bool.bne_false, Bool.true_bne, Bool.false_bne, Option.isSome_none, ne_eq, Int.cast_ofNat_Int, ↓reduceIte, reduceCtorEq, Nat.reduceBEq, Nat.reduceEqDiff, Nat.reduceLT, Nat.reduceLeDiff, Nat.reduceAdd, Nat.reduceMul, Nat.reducePow, Nat.reduceSub, Int.reduceEq, Int.reduceLT, Int.reduceLE, Int.reduceToNat, Int.reduceMul, Int.reduceNeg, Int.reduceAdd, Int.reduceSub, h1, h2, e]; try refine And.intro (show okTr _ _ = true by kernel_rfl) ?_))
      · have a2 : kk k' = k' := by unfold kk; rw [if_neg h2]
        rw [a2] at e ⊢
        repeat (first | refine dwp_seq ?_ | refine dwp_block ?_ | ((first | refine dwp_region ?_ | refine dwp_any ?_ | refine dwp_skip ?_ | refine dwp_exit ?_ | refine dwp_ret ?_ | refine dwp_if ?_); simp only [go_sem, beq_true, beq_false, Bool.true_beq, Bool.false_beq, Bool.bne_true, Bool.bne_false, Bool.true_bne, Bool.false_bne, Option.isSome_none, ne_eq, Int.cast_ofNat_Int, ↓reduceIte, reduceCtorEq, Nat.reduceBEq, Nat.reduceEqDiff, Nat.reduceLT, Nat.reduceLeDiff, Nat.reduceAdd, Nat.reduceMul, Nat.reducePow, Nat.reduceSub, Int.reduceEq, Int.reduceLT, Int.reduceLE, Int.reduceToNat, Int.reduceMul, Int.reduceNeg, Int.reduceAdd, Int.reduceSub, h1, h2, e]; try refine And.intro (show okTr _ _ = true by kernel_rfl) ?_))

end Go.Proofs.YtjdmjofkibiaaaaGreatDoor
