/- What the program's functions make of data: results of terms. -/
import Derived.Test.YtjdkcedhmfgmoaaTf
namespace Go.Proofs.Ytjdkcedhmfgmoaa
open Go Go.Eng Go.Proofs
set_option linter.unusedVariables false
set_option linter.unusedSimpArgs false
set_option maxRecDepth 100000
set_option maxHeartbeats 4000000
def oNOT : ByteArray := ⟨#[78, 79, 84]⟩
def oAND : ByteArray := ⟨#[65, 78, 68]⟩
def oOR : ByteArray := ⟨#[79, 82]⟩
/-- a result as the program has it; as the document has it -/
def rsP : Option Val → List D
  | none => [.v (.int .u8 0), .v (.int .i64 0), .v (.string ⟨#[]⟩), .v (.bool false)]
  | some v => [.v (.int .u8 v.kind), .v (.int .i64 v.int), .v (.string v.text), .v (.bool true)]
def rsR : Option Val → List D
  | none => [.v (.int .u8 0), .v (.int .i64 0), .v (.string ⟨#[]⟩), .v (.bool true)]
  | some v => [.v (.int .u8 v.kind), .v (.int .i64 v.int), .v (.string v.text), .v (.bool false)]
def okV (v : Val) : Prop := I64 v.int ∧ v.text.size < 2 ^ 62
def okR (a : Option Val) : Prop := ∀ v, a = some v → okV v
def trO : Option Val → Int
  | none => 2
  | some v => ofKN v.kind v.int
def vlT (t : Int) : Option Val := if tOk t = true then some ⟨tK t, tN t, ⟨#[]⟩⟩ else none
theorem trO_is (a : Option Val) : isT (trO a) := by
  cases a with
  | none => show isT 2; unfold isT; omega
  | some v => exact ofKN_is _ _
theorem trO_vlT {t : Int} (h : isT t) : trO (vlT t) = t := by
  unfold isT at h
  have : t = 0 ∨ t = 1 ∨ t = 2 ∨ t = 3 := by omega
  rcases this with rfl | rfl | rfl | rfl <;> decide
theorem okR_vlT (t : Int) : okR (vlT t) := by
  intro v h
  unfold vlT at h
  split at h
  · obtain rfl := Option.some.inj h
    refine ⟨?_, show (0 : Nat) < 2 ^ 62 by decide⟩
    show I64 (tN t)
    unfold tN I64
    split <;> omega
  · cases h
theorem told51' (t : Int) : FF 51 [.v (.int .u8 t)] = some (.agg (rsP (vlT t))) := by
  rw [told51]
  unfold vlT
  cases h : tOk t
  · have : tK t = 0 ∧ tN t = 0 := by
      unfold tOk at h
      unfold tK tN
      constructor <;> (repeat' split) <;> simp_all
    simp [rsP, this.1, this.2]
  · simp [rsP]
theorem value33' (t : Int) : FF 33 [.v (.int .i64 t)] = some (.agg (rsR (vlT t))) := by
  rw [value33]
  unfold vlT
  cases h : tOk t
  · have : tK t = 0 ∧ tN t = 0 := by
      unfold tOk at h
      unfold tK tN
      constructor <;> (repeat' split) <;> simp_all
    simp [rsR, this.1, this.2]
  · simp [rsR]
theorem truthP (a : Option Val) : FF 35 [.agg (rsP a)] = some (.v (.int .u8 (trO a))) := by
  cases a with
  | none => exact truth35 0 0 ⟨#[]⟩ false
  | some v => exact truth35 v.kind v.int v.text true
theorem truthR (a : Option Val) : FF 16 [.agg (rsR a)] = some (.v (.int .i64 (trO a))) := by
  cases a with
  | none => exact truth16 0 0 ⟨#[]⟩ true
  | some v => exact truth16 v.kind v.int v.text false
theorem rsP_none : rsP none = [.v (.int .u8 0), .v (.int .i64 0), .v (.string ⟨#[]⟩), .v (.bool false)] := (rfl)
theorem rsP_some (v : Val) : rsP (some v) = [.v (.int .u8 v.kind), .v (.int .i64 v.int), .v (.string v.text), .v (.bool true)] := (rfl)
theorem rsR_none : rsR none = [.v (.int .u8 0), .v (.int .i64 0), .v (.string ⟨#[]⟩), .v (.bool true)] := (rfl)
theorem rsR_some (v : Val) : rsR (some v) = [.v (.int .u8 v.kind), .v (.int .i64 v.int), .v (.string v.text), .v (.bool false)] := (rfl)
theorem rsP_l (a : Option Val) : (rsP a).length = 4 := by cases a <;> rfl
theorem rsR_l (a : Option Val) : (rsR a).length = 4 := by cases a <;> rfl
theorem rsP_fin (a : Option Val) : (rsP a).map fin1 = rsP a := by cases a <;> (rfl)
theorem rsR_fin (a : Option Val) : (rsR a).map fin1 = rsR a := by cases a <;> (rfl)
theorem rsP_one (a : Option Val) : (rsP a).all one = true := by cases a <;> (rfl)
theorem rsR_one (a : Option Val) : (rsR a).all one = true := by cases a <;> (rfl)
theorem rsP_nobs (a : Option Val) : (rsP a).all nobs = true := by cases a <;> (rfl)
theorem rsR_nobs (a : Option Val) : (rsR a).all nobs = true := by cases a <;> (rfl)
theorem rsP_strip (a : Option Val) : (rsP a).map strip = rsP a := by cases a <;> (rfl)
theorem rsR_strip (a : Option Val) : (rsR a).map strip = rsR a := by cases a <;> (rfl)
theorem rsP_take (a : Option Val) : (rsP a).take 4 = rsP a := by cases a <;> (rfl)
theorem rsR_take (a : Option Val) : (rsR a).take 4 = rsR a := by cases a <;> (rfl)
theorem rsP_fr (b : Nat) (c : List D) (a : Option Val) : (rsP a).map (frD b c) = rsP a := by cases a <;> (rfl)
theorem rsR_fr (b : Nat) (c : List D) (a : Option Val) : (rsR a).map (frD b c) = rsR a := by cases a <;> (rfl)
attribute [go_sem] rsP_none rsP_some rsR_none rsR_some rsP_l rsR_l rsP_fin rsR_fin rsP_one rsR_one rsP_nobs rsR_nobs rsP_strip rsR_strip rsP_take rsR_take rsP_fr rsR_fr
/-- a unary term -/
def unO (op : ByteArray) (a : Option Val) : Option Val :=
  if op = oNOT then vlT (notT (trO a)) else if op ≠ oSub then none else match a with
  | none => none
  | some v => if 1 < v.kind then none else if v.kind = 0 then some v else if inR (-v.int) = true then some ⟨1, -v.int, ⟨#[]⟩⟩ else none
theorem unary49 (op : ByteArray) (a : Option Val) (ha : okR a) : FF 49 [.v (.string op), .agg (rsP a)] = some (.agg (rsP (unO op a))) := by
  unfold unO
  have h1 := truthP a
  have h2 := not72 (trO a)
  have h3 := told51' (notT (trO a))
  by_cases o1 : op = oNOT
  · rw [if_pos o1]
    have o1' : (op = ⟨#[78, 79, 84]⟩) = True := eq_true o1
    clear o1
    refine FF_val Try.func49 rfl rfl ?_
    simp only [Try.ntmps49, Try.results49]
    repeat' (first | (intro hc; (try simp only [bne_eq_false_iff_eq, bne_iff_ne, beq_iff_eq, beq_eq_false_iff_ne, Bool.not_eq_true', Bool.not_eq_false', decide_eq_true_eq, decide_eq_false_iff_not] at hc); (try replace hc := eq_true (show (_ : ByteArray) = _ from hc)); (try (exfalso; first | omega | exact hc trivial | exact hc))) | refine And.intro (show okTr _ _ = true by kernel_rfl) ?_ | refine And.intro ?_ ?_ | refine stp_guard ?_ ?_ | refine stq_guard ?_ ?_ | refine dwp_seq ?_ | refine dwp_block ?_ | ((first | refine dwp_region ?_ | refine dwp_any ?_ | refine dwp_skip ?_ | refine dwp_exit ?_ | refine dwp_ret ?_ | refine dwp_if ?_ | skip); (simp only [go_sem, beq_true, beq_false, Bool.true_beq, Bool.false_beq, Bool.bne_true, Bool.bne_false, Bool.true_bne, Bool.false_bne, Option.isSome_none, ne_eq, Int.cast_ofNat_Int, ↓reduceIte, reduceCtorEq, Nat.reduceBEq, Nat.reduceEqDiff, Nat.reduceLT, Nat.reduceLeDiff, Nat.reduceAdd, Nat.reduceMul, Nat.reducePow, Nat.reduceSub, Int.reduceEq, Int.reduceLT, Int.reduceLE, Int.reduceToNat, Int.reduceMul, Int.reduceNeg, Int.reduceAdd, Int.reduceSub, *]; try simp (disch := omega) only [List.length_drop, List.length_take, List.length_append, ite_ok, w_i64, w_u64, w_u8, w_u32, w_u16, w_i32, room_le, tm_nn, td_nn, nsucc])) | simp (disch := omega) only [List.length_drop, List.length_take, List.length_append, ite_ok, w_i64, w_u64, w_u8, w_u32, w_u16, w_i32, room_le, tm_nn, td_nn, nsucc])
  rw [if_neg o1]
  have o1' : ¬ op = ⟨#[78, 79, 84]⟩ := o1
  by_cases o2 : op = oSub
  case neg =>
    rw [if_pos o2]
    have o2' : ¬ op = ⟨#[45]⟩ := o2
    clear o1 o2
    cases a <;> simp only [rsP_none, rsP_some] at *
    · refine FF_val Try.func49 rfl rfl ?_
      simp only [Try.ntmps49, Try.results49]
      repeat' (first | (intro hc; (try simp only [bne_eq_false_iff_eq, bne_iff_ne, beq_iff_eq, beq_eq_false_iff_ne, Bool.not_eq_true', Bool.not_eq_false', decide_eq_true_eq, decide_eq_false_iff_not] at hc); (try replace hc := eq_true (show (_ : ByteArray) = _ from hc)); (try (exfalso; first | omega | exact hc trivial | exact hc))) | refine And.intro (show okTr _ _ = true by kernel_rfl) ?_ | refine And.intro ?_ ?_ | refine stp_guard ?_ ?_ | refine stq_guard ?_ ?_ | refine dwp_seq ?_ | refine dwp_block ?_ | ((first | refine dwp_region ?_ | refine dwp_any ?_ | refine dwp_skip ?_ | refine dwp_exit ?_ | refine dwp_ret ?_ | refine dwp_if ?_ | skip); (simp only [go_sem, beq_true, beq_false, Bool.true_beq, Bool.false_beq, Bool.bne_true, Bool.bne_false, Bool.true_bne, Bool.false_bne, Option.isSome_none, ne_eq, Int.cast_ofNat_Int, ↓reduceIte, reduceCtorEq, Nat.reduceBEq, Nat.reduceEqDiff, Nat.reduceLT, Nat.reduceLeDiff, Nat.reduceAdd, Nat.reduceMul, Nat.reducePow, Nat.reduceSub, Int.reduceEq, Int.reduceLT, Int.reduceLE, Int.reduceToNat, Int.reduceMul, Int.reduceNeg, Int.reduceAdd, Int.reduceSub, *]; try simp (disch := omega) only [List.length_drop, List.length_take, List.length_append, ite_ok, w_i64, w_u64, w_u8, w_u32, w_u16, w_i32, room_le, tm_nn, td_nn, nsucc])) | simp (disch := omega) only [List.length_drop, List.length_take, List.length_append, ite_ok, w_i64, w_u64, w_u8, w_u32, w_u16, w_i32, room_le, tm_nn, td_nn, nsucc])
    · refine FF_val Try.func49 rfl rfl ?_
      simp only [Try.ntmps49, Try.results49]
      repeat' (first | (intro hc; (try simp only [bne_eq_false_iff_eq, bne_iff_ne, beq_iff_eq, beq_eq_false_iff_ne, Bool.not_eq_true', Bool.not_eq_false', decide_eq_true_eq, decide_eq_false_iff_not] at hc); (try replace hc := eq_true (show (_ : ByteArray) = _ from hc)); (try (exfalso; first | omega | exact hc trivial | exact hc))) | refine And.intro (show okTr _ _ = true by kernel_rfl) ?_ | refine And.intro ?_ ?_ | refine stp_guard ?_ ?_ | refine stq_guard ?_ ?_ | refine dwp_seq ?_ | refine dwp_block ?_ | ((first | refine dwp_region ?_ | refine dwp_any ?_ | refine dwp_skip ?_ | refine dwp_exit ?_ | refine dwp_ret ?_ | refine dwp_if ?_ | skip); (simp only [go_sem, beq_true, beq_false, Bool.true_beq, Bool.false_beq, Bool.bne_true, Bool.bne_false, Bool.true_bne, Bool.false_bne, Option.isSome_none, ne_eq, Int.cast_ofNat_Int, ↓reduceIte, reduceCtorEq, Nat.reduceBEq, Nat.reduceEqDiff, Nat.reduceLT, Nat.reduceLeDiff, Nat.reduceAdd, Nat.reduceMul, Nat.reducePow, Nat.reduceSub, Int.reduceEq, Int.reduceLT, Int.reduceLE, Int.reduceToNat, Int.reduceMul, Int.reduceNeg, Int.reduceAdd, Int.reduceSub, *]; try simp (disch := omega) only [List.length_drop, List.length_take, List.length_append, ite_ok, w_i64, w_u64, w_u8, w_u32, w_u16, w_i32, room_le, tm_nn, td_nn, nsucc])) | simp (disch := omega) only [List.length_drop, List.length_take, List.length_append, ite_ok, w_i64, w_u64, w_u8, w_u32, w_u16, w_i32, room_le, tm_nn, td_nn, nsucc])
  rw [if_neg (not_not_intro o2)]
  have o2' : (op = ⟨#[45]⟩) = True := eq_true o2
  clear o1 o2
  cases a with
  | none =>
    simp only [rsP_none] at *
    refine FF_val Try.func49 rfl rfl ?_
    simp only [Try.ntmps49, Try.results49]
    repeat' (first | (intro hc; (try simp only [bne_eq_false_iff_eq, bne_iff_ne, beq_iff_eq, beq_eq_false_iff_ne, Bool.not_eq_true', Bool.not_eq_false', decide_eq_true_eq, decide_eq_false_iff_not] at hc); (try replace hc := eq_true (show (_ : ByteArray) = _ from hc)); (try (exfalso; first | omega | exact hc trivial | exact hc))) | refine And.intro (show okTr _ _ = true by kernel_rfl) ?_ | refine And.intro ?_ ?_ | refine stp_guard ?_ ?_ | refine stq_guard ?_ ?_ | refine dwp_seq ?_ | refine dwp_block ?_ | ((first | refine dwp_region ?_ | refine dwp_any ?_ | refine dwp_skip ?_ | refine dwp_exit ?_ | refine dwp_ret ?_ | refine dwp_if ?_ | skip); (simp only [go_sem, beq_true, beq_false, Bool.true_beq, Bool.false_beq, Bool.bne_true, Bool.bne_false, Bool.true_bne, Bool.false_bne, Option.isSome_none, ne_eq, Int.cast_ofNat_Int, ↓reduceIte, reduceCtorEq, Nat.reduceBEq, Nat.reduceEqDiff, Nat.reduceLT, Nat.reduceLeDiff, Nat.reduceAdd, Nat.reduceMul, Nat.reducePow, Nat.reduceSub, Int.reduceEq, Int.reduceLT, Int.reduceLE, Int.reduceToNat, Int.reduceMul, Int.reduceNeg, Int.reduceAdd, Int.reduceSub, *]; try simp (disch := omega) only [List.length_drop, List.length_take, List.length_append, ite_ok, w_i64, w_u64, w_u8, w_u32, w_u16, w_i32, room_le, tm_nn, td_nn, nsucc])) | simp (disch := omega) only [List.length_drop, List.length_take, List.length_append, ite_ok, w_i64, w_u64, w_u8, w_u32, w_u16, w_i32, room_le, tm_nn, td_nn, nsucc])
  | some v =>
    have h4 := neg73 v.int (ha v rfl).1
    clear ha
    simp only [rsP_some] at *
    by_cases h : 1 < v.kind
    · rw [if_pos h, rsP_none]
      refine FF_val Try.func49 rfl rfl ?_
      simp only [Try.ntmps49, Try.results49]
      repeat' (first | (intro hc; (try simp only [bne_eq_false_iff_eq, bne_iff_ne, beq_iff_eq, beq_eq_false_iff_ne, Bool.not_eq_true', Bool.not_eq_false', decide_eq_true_eq, decide_eq_false_iff_not] at hc); (try replace hc := eq_true (show (_ : ByteArray) = _ from hc)); (try (exfalso; first | omega | exact hc trivial | exact hc))) | refine And.intro (show okTr _ _ = true by kernel_rfl) ?_ | refine And.intro ?_ ?_ | refine stp_guard ?_ ?_ | refine stq_guard ?_ ?_ | refine dwp_seq ?_ | refine dwp_block ?_ | ((first | refine dwp_region ?_ | refine dwp_any ?_ | refine dwp_skip ?_ | refine dwp_exit ?_ | refine dwp_ret ?_ | refine dwp_if ?_ | skip); (simp only [go_sem, beq_true, beq_false, Bool.true_beq, Bool.false_beq, Bool.bne_true, Bool.bne_false, Bool.true_bne, Bool.false_bne, Option.isSome_none, ne_eq, Int.cast_ofNat_Int, ↓reduceIte, reduceCtorEq, Nat.reduceBEq, Nat.reduceEqDiff, Nat.reduceLT, Nat.reduceLeDiff, Nat.reduceAdd, Nat.reduceMul, Nat.reducePow, Nat.reduceSub, Int.reduceEq, Int.reduceLT, Int.reduceLE, Int.reduceToNat, Int.reduceMul, Int.reduceNeg, Int.reduceAdd, Int.reduceSub, *]; try simp (disch := omega) only [List.length_drop, List.length_take, List.length_append, ite_ok, w_i64, w_u64, w_u8, w_u32, w_u16, w_i32, room_le, tm_nn, td_nn, nsucc])) | simp (disch := omega) only [List.length_drop, List.length_take, List.length_append, ite_ok, w_i64, w_u64, w_u8, w_u32, w_u16, w_i32, room_le, tm_nn, td_nn, nsucc])
    rw [if_neg h]
    by_cases h0 : v.kind = 0
    · rw [if_pos h0, rsP_some]
      refine FF_val Try.func49 rfl rfl ?_
      simp only [Try.ntmps49, Try.results49]
      repeat' (first | (intro hc; (try simp only [bne_eq_false_iff_eq, bne_iff_ne, beq_iff_eq, beq_eq_false_iff_ne, Bool.not_eq_true', Bool.not_eq_false', decide_eq_true_eq, decide_eq_false_iff_not] at hc); (try replace hc := eq_true (show (_ : ByteArray) = _ from hc)); (try (exfalso; first | omega | exact hc trivial | exact hc))) | refine And.intro (show okTr _ _ = true by kernel_rfl) ?_ | refine And.intro ?_ ?_ | refine stp_guard ?_ ?_ | refine stq_guard ?_ ?_ | refine dwp_seq ?_ | refine dwp_block ?_ | ((first | refine dwp_region ?_ | refine dwp_any ?_ | refine dwp_skip ?_ | refine dwp_exit ?_ | refine dwp_ret ?_ | refine dwp_if ?_ | skip); (simp only [go_sem, beq_true, beq_false, Bool.true_beq, Bool.false_beq, Bool.bne_true, Bool.bne_false, Bool.true_bne, Bool.false_bne, Option.isSome_none, ne_eq, Int.cast_ofNat_Int, ↓reduceIte, reduceCtorEq, Nat.reduceBEq, Nat.reduceEqDiff, Nat.reduceLT, Nat.reduceLeDiff, Nat.reduceAdd, Nat.reduceMul, Nat.reducePow, Nat.reduceSub, Int.reduceEq, Int.reduceLT, Int.reduceLE, Int.reduceToNat, Int.reduceMul, Int.reduceNeg, Int.reduceAdd, Int.reduceSub, *]; try simp (disch := omega) only [List.length_drop, List.length_take, List.length_append, ite_ok, w_i64, w_u64, w_u8, w_u32, w_u16, w_i32, room_le, tm_nn, td_nn, nsucc])) | simp (disch := omega) only [List.length_drop, List.length_take, List.length_append, ite_ok, w_i64, w_u64, w_u8, w_u32, w_u16, w_i32, room_le, tm_nn, td_nn, nsucc])
    rw [if_neg h0]
    cases hr : inR (-v.int)
    · rw [hr] at h4
      rw [if_neg (by decide), rsP_none]
      refine FF_val Try.func49 rfl rfl ?_
      simp only [Try.ntmps49, Try.results49]
      repeat' (first | (intro hc; (try simp only [bne_eq_false_iff_eq, bne_iff_ne, beq_iff_eq, beq_eq_false_iff_ne, Bool.not_eq_true', Bool.not_eq_false', decide_eq_true_eq, decide_eq_false_iff_not] at hc); (try replace hc := eq_true (show (_ : ByteArray) = _ from hc)); (try (exfalso; first | omega | exact hc trivial | exact hc))) | refine And.intro (show okTr _ _ = true by kernel_rfl) ?_ | refine And.intro ?_ ?_ | refine stp_guard ?_ ?_ | refine stq_guard ?_ ?_ | refine dwp_seq ?_ | refine dwp_block ?_ | ((first | refine dwp_region ?_ | refine dwp_any ?_ | refine dwp_skip ?_ | refine dwp_exit ?_ | refine dwp_ret ?_ | refine dwp_if ?_ | skip); (simp only [go_sem, beq_true, beq_false, Bool.true_beq, Bool.false_beq, Bool.bne_true, Bool.bne_false, Bool.true_bne, Bool.false_bne, Option.isSome_none, ne_eq, Int.cast_ofNat_Int, ↓reduceIte, reduceCtorEq, Nat.reduceBEq, Nat.reduceEqDiff, Nat.reduceLT, Nat.reduceLeDiff, Nat.reduceAdd, Nat.reduceMul, Nat.reducePow, Nat.reduceSub, Int.reduceEq, Int.reduceLT, Int.reduceLE, Int.reduceToNat, Int.reduceMul, Int.reduceNeg, Int.reduceAdd, Int.reduceSub, *]; try simp (disch := omega) only [List.length_drop, List.length_take, List.length_append, ite_ok, w_i64, w_u64, w_u8, w_u32, w_u16, w_i32, room_le, tm_nn, td_nn, nsucc])) | simp (disch := omega) only [List.length_drop, List.length_take, List.length_append, ite_ok, w_i64, w_u64, w_u8, w_u32, w_u16, w_i32, room_le, tm_nn, td_nn, nsucc])
    · rw [hr] at h4
      simp only [if_true] at h4
      rw [if_pos rfl, rsP_some]
      refine FF_val Try.func49 rfl rfl ?_
      simp only [Try.ntmps49, Try.results49]
      repeat' (first | (intro hc; (try simp only [bne_eq_false_iff_eq, bne_iff_ne, beq_iff_eq, beq_eq_false_iff_ne, Bool.not_eq_true', Bool.not_eq_false', decide_eq_true_eq, decide_eq_false_iff_not] at hc); (try replace hc := eq_true (show (_ : ByteArray) = _ from hc)); (try (exfalso; first | omega | exact hc trivial | exact hc))) | refine And.intro (show okTr _ _ = true by kernel_rfl) ?_ | refine And.intro ?_ ?_ | refine stp_guard ?_ ?_ | refine stq_guard ?_ ?_ | refine dwp_seq ?_ | refine dwp_block ?_ | ((first | refine dwp_region ?_ | refine dwp_any ?_ | refine dwp_skip ?_ | refine dwp_exit ?_ | refine dwp_ret ?_ | refine dwp_if ?_ | skip); (simp only [go_sem, beq_true, beq_false, Bool.true_beq, Bool.false_beq, Bool.bne_true, Bool.bne_false, Bool.true_bne, Bool.false_bne, Option.isSome_none, ne_eq, Int.cast_ofNat_Int, ↓reduceIte, reduceCtorEq, Nat.reduceBEq, Nat.reduceEqDiff, Nat.reduceLT, Nat.reduceLeDiff, Nat.reduceAdd, Nat.reduceMul, Nat.reducePow, Nat.reduceSub, Int.reduceEq, Int.reduceLT, Int.reduceLE, Int.reduceToNat, Int.reduceMul, Int.reduceNeg, Int.reduceAdd, Int.reduceSub, *]; try simp (disch := omega) only [List.length_drop, List.length_take, List.length_append, ite_ok, w_i64, w_u64, w_u8, w_u32, w_u16, w_i32, room_le, tm_nn, td_nn, nsucc])) | simp (disch := omega) only [List.length_drop, List.length_take, List.length_append, ite_ok, w_i64, w_u64, w_u8, w_u32, w_u16, w_i32, room_le, tm_nn, td_nn, nsucc])
/-- a binary term -/
def binO (op : ByteArray) (a b : Option Val) : Option Val :=
  if op = oAND then vlT (andT [trO a, trO b]) else if op = oOR then vlT (orT [trO a, trO b]) else match a, b with
  | some x, some y =>
    if op = oAdd ∨ op = oSub ∨ op = oMul then (doV op x.kind x.int y.kind y.int).map fun p => ⟨p.1, p.2, ⟨#[]⟩⟩
    else if op = oEq ∨ op = oNe ∨ op = oLt ∨ op = oLe ∨ op = oGt ∨ op = oGe then vlT (testT op x.kind x.int x.text y.kind y.int y.text) else none
  | _, _ => none
theorem binary50 (op : ByteArray) (a b : Option Val) (ha : okR a) (hb : okR b) : FF 50 [.v (.string op), .agg (rsP a), .agg (rsP b)] = some (.agg (rsP (binO op a b))) := by
  have t1 := truthP a
  have t2 := truthP b
  have t3 : FF 27 [.sl [[.v (.int .u8 (trO a))], [.v (.int .u8 (trO b))]]] = some (.v (.int .u8 (andT [trO a, trO b]))) := and27 [trO a, trO b] (by simp)
  have t4 : FF 74 [.sl [[.v (.int .u8 (trO a))], [.v (.int .u8 (trO b))]]] = some (.v (.int .u8 (orT [trO a, trO b]))) := or74 [trO a, trO b] (by simp)
  have t5 := told51' (andT [trO a, trO b])
  have t6 := told51' (orT [trO a, trO b])
  unfold binO oAND oOR
  rcases a with _ | x
  · simp only [rsP_none] at *
    refine FF_val Try.func50 rfl rfl ?_
    simp only [Try.ntmps50, Try.results50]
    repeat' (first | (intro hc; (try simp only [bne_eq_false_iff_eq, bne_iff_ne, beq_iff_eq, beq_eq_false_iff_ne, Bool.not_eq_true', Bool.not_eq_false', decide_eq_true_eq, decide_eq_false_iff_not] at hc); (try replace hc := eq_true (show (_ : ByteArray) = _ from hc)); (try (exfalso; first | omega | exact hc trivial | exact hc))) | refine And.intro (show okTr _ _ = true by kernel_rfl) ?_ | refine And.intro ?_ ?_ | refine stp_guard ?_ ?_ | refine stq_guard ?_ ?_ | refine dwp_seq ?_ | refine dwp_block ?_ | ((first | refine dwp_region ?_ | refine dwp_any ?_ | refine dwp_skip ?_ | refine dwp_exit ?_ | refine dwp_ret ?_ | refine dwp_if ?_ | skip); (simp only [go_sem, beq_true, beq_false, Bool.true_beq, Bool.false_beq, Bool.bne_true, Bool.bne_false, Bool.true_bne, Bool.false_bne, Option.isSome_none, ne_eq, Int.cast_ofNat_Int, ↓reduceIte, reduceCtorEq, Nat.reduceBEq, Nat.reduceEqDiff, Nat.reduceLT, Nat.reduceLeDiff, Nat.reduceAdd, Nat.reduceMul, Nat.reducePow, Nat.reduceSub, Int.reduceEq, Int.reduceLT, Int.reduceLE, Int.reduceToNat, Int.reduceMul, Int.reduceNeg, Int.reduceAdd, Int.reduceSub, *]; try simp (disch := omega) only [List.length_drop, List.length_take, List.length_append, ite_ok, w_i64, w_u64, w_u8, w_u32, w_u16, w_i32, room_le, tm_nn, td_nn, nsucc])) | simp (disch := omega) only [List.length_drop, List.length_take, List.length_append, ite_ok, w_i64, w_u64, w_u8, w_u32, w_u16, w_i32, room_le, tm_nn, td_nn, nsucc])
  rcases b with _ | y
  · simp only [rsP_none, rsP_some] at *
    refine FF_val Try.func50 rfl rfl ?_
    simp only [Try.ntmps50, Try.results50]
    repeat' (first | (intro hc; (try simp only [bne_eq_false_iff_eq, bne_iff_ne, beq_iff_eq, beq_eq_false_iff_ne, Bool.not_eq_true', Bool.not_eq_false', decide_eq_true_eq, decide_eq_false_iff_not] at hc); (try replace hc := eq_true (show (_ : ByteArray) = _ from hc)); (try (exfalso; first | omega | exact hc trivial | exact hc))) | refine And.intro (show okTr _ _ = true by kernel_rfl) ?_ | refine And.intro ?_ ?_ | refine stp_guard ?_ ?_ | refine stq_guard ?_ ?_ | refine dwp_seq ?_ | refine dwp_block ?_ | ((first | refine dwp_region ?_ | refine dwp_any ?_ | refine dwp_skip ?_ | refine dwp_exit ?_ | refine dwp_ret ?_ | refine dwp_if ?_ | skip); (simp only [go_sem, beq_true, beq_false, Bool.true_beq, Bool.false_beq, Bool.bne_true, Bool.bne_false, Bool.true_bne, Bool.false_bne, Option.isSome_none, ne_eq, Int.cast_ofNat_Int, ↓reduceIte, reduceCtorEq, Nat.reduceBEq, Nat.reduceEqDiff, Nat.reduceLT, Nat.reduceLeDiff, Nat.reduceAdd, Nat.reduceMul, Nat.reducePow, Nat.reduceSub, Int.reduceEq, Int.reduceLT, Int.reduceLE, Int.reduceToNat, Int.reduceMul, Int.reduceNeg, Int.reduceAdd, Int.reduceSub, *]; try simp (disch := omega) only [List.length_drop, List.length_take, List.length_append, ite_ok, w_i64, w_u64, w_u8, w_u32, w_u16, w_i32, room_le, tm_nn, td_nn, nsucc])) | simp (disch := omega) only [List.length_drop, List.length_take, List.length_append, ite_ok, w_i64, w_u64, w_u8, w_u32, w_u16, w_i32, room_le, tm_nn, td_nn, nsucc])
  have t7 := do75 op x.kind x.int x.text y.kind y.int y.text (ha x rfl).1 (hb y rfl).1
  have t8 := test76 op x.kind x.int x.text y.kind y.int y.text
  have t9 := told51' (testT op x.kind x.int x.text y.kind y.int y.text)
  clear ha hb
  unfold doC at t7
  unfold oAdd oSub oMul oEq oNe oLt oLe oGt oGe
  cases hd : doV op x.kind x.int y.kind y.int with
  | none =>
    rw [hd] at t7
    simp only [rsP_none, rsP_some, Option.map_none] at *
    refine FF_val Try.func50 rfl rfl ?_
    simp only [Try.ntmps50, Try.results50]
    repeat' (first | (intro hc; (try simp only [bne_eq_false_iff_eq, bne_iff_ne, beq_iff_eq, beq_eq_false_iff_ne, Bool.not_eq_true', Bool.not_eq_false', decide_eq_true_eq, decide_eq_false_iff_not] at hc); (try replace hc := eq_true (show (_ : ByteArray) = _ from hc)); (try (exfalso; first | omega | exact hc trivial | exact hc))) | refine And.intro (show okTr _ _ = true by kernel_rfl) ?_ | refine And.intro ?_ ?_ | refine stp_guard ?_ ?_ | refine stq_guard ?_ ?_ | refine dwp_seq ?_ | refine dwp_block ?_ | ((first | refine dwp_region ?_ | refine dwp_any ?_ | refine dwp_skip ?_ | refine dwp_exit ?_ | refine dwp_ret ?_ | refine dwp_if ?_ | skip); (simp only [go_sem, beq_true, beq_false, Bool.true_beq, Bool.false_beq, Bool.bne_true, Bool.bne_false, Bool.true_bne, Bool.false_bne, Option.isSome_none, ne_eq, Int.cast_ofNat_Int, ↓reduceIte, reduceCtorEq, Nat.reduceBEq, Nat.reduceEqDiff, Nat.reduceLT, Nat.reduceLeDiff, Nat.reduceAdd, Nat.reduceMul, Nat.reducePow, Nat.reduceSub, Int.reduceEq, Int.reduceLT, Int.reduceLE, Int.reduceToNat, Int.reduceMul, Int.reduceNeg, Int.reduceAdd, Int.reduceSub, *]; try simp (disch := omega) only [List.length_drop, List.length_take, List.length_append, ite_ok, w_i64, w_u64, w_u8, w_u32, w_u16, w_i32, room_le, tm_nn, td_nn, nsucc])) | simp (disch := omega) only [List.length_drop, List.length_take, List.length_append, ite_ok, w_i64, w_u64, w_u8, w_u32, w_u16, w_i32, room_le, tm_nn, td_nn, nsucc])
  | some p =>
    rw [hd] at t7
    simp only [rsP_none, rsP_some, Option.map_some] at *
    refine FF_val Try.func50 rfl rfl ?_
    simp only [Try.ntmps50, Try.results50]
    repeat' (first | (intro hc; (try simp only [bne_eq_false_iff_eq, bne_iff_ne, beq_iff_eq, beq_eq_false_iff_ne, Bool.not_eq_true', Bool.not_eq_false', decide_eq_true_eq, decide_eq_false_iff_not] at hc); (try replace hc := eq_true (show (_ : ByteArray) = _ from hc)); (try (exfalso; first | omega | exact hc trivial | exact hc))) | refine And.intro (show okTr _ _ = true by kernel_rfl) ?_ | refine And.intro ?_ ?_ | refine stp_guard ?_ ?_ | refine stq_guard ?_ ?_ | refine dwp_seq ?_ | refine dwp_block ?_ | ((first | refine dwp_region ?_ | refine dwp_any ?_ | refine dwp_skip ?_ | refine dwp_exit ?_ | refine dwp_ret ?_ | refine dwp_if ?_ | skip); (simp only [go_sem, beq_true, beq_false, Bool.true_beq, Bool.false_beq, Bool.bne_true, Bool.bne_false, Bool.true_bne, Bool.false_bne, Option.isSome_none, ne_eq, Int.cast_ofNat_Int, ↓reduceIte, reduceCtorEq, Nat.reduceBEq, Nat.reduceEqDiff, Nat.reduceLT, Nat.reduceLeDiff, Nat.reduceAdd, Nat.reduceMul, Nat.reducePow, Nat.reduceSub, Int.reduceEq, Int.reduceLT, Int.reduceLE, Int.reduceToNat, Int.reduceMul, Int.reduceNeg, Int.reduceAdd, Int.reduceSub, *]; try simp (disch := omega) only [List.length_drop, List.length_take, List.length_append, ite_ok, w_i64, w_u64, w_u8, w_u32, w_u16, w_i32, room_le, tm_nn, td_nn, nsucc])) | simp (disch := omega) only [List.length_drop, List.length_take, List.length_append, ite_ok, w_i64, w_u64, w_u8, w_u32, w_u16, w_i32, room_le, tm_nn, td_nn, nsucc])
end Go.Proofs.Ytjdkcedhmfgmoaa
