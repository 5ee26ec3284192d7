/- strings.Builder in use (the session's own words). -/
import Derived.Test.YtjdmjofkibiaaaaGreatDoorPrm
import Derived.Test.YtjdmjofkibiaaaaGreatDoorRun
import Derived.Test.YtjdmjofkibiaaaaGreatDoorVa
namespace Go.Proofs.YtjdmjofkibiaaaaGreatDoor
open Go Go.Eng Go.Proofs
set_option linter.unusedVariables false
set_option linter.unusedSimpArgs false
set_option maxRecDepth 100000
set_option maxHeartbeats 4000000
theorem oapS {F : FTy} {tk : Bool × Bool} {ρ : Operand → Option D} {β : Nat → Option (List D)} {ty : TypeId} {pos : String} {af : Array Edge} {gd : Option (Nat × Bool)} (x y : Operand) (n : Tmp) :
    dop Tryz.prog F tk ρ β ⟨some n, .call ⟨.builtin .append, #[x, y], #[70, 9]⟩, ty, pos, af, gd⟩ = (ρ x).bind fun a => (ρ y).bind fun b => apSK 5 (norm Tryz.prog 70 a) b (goneOf x a) := by
  obtain ⟨i, hi, hb⟩ : ∃ i, Tryz.prog.info? 5 = some i ∧ (decide (i.size = 1) && decide (i.bytes = 1) && z8 i.zero) = true := Option.map_eq_some_iff.1 (show (Tryz.prog.info? 5).map (fun i => decide (i.size = 1) && decide (i.bytes = 1) && z8 i.zero) = some true by kernel_rfl)
  exact o_appendS Tryz.underlying70 Tryz.underlying9 hi hb (by decide) x y n
attribute [go_sem] oapS
theorem copyC (c1 : D) (h : oneb c1 = true) : FG 155 [.bp 1000000 0] [[.bz 201, c1]] = some (.tup [], [[.bz 201, c1]]) := by
  refine Fs_prim _ _ _ ?_
  show pCopyCheck [.bp 1000000 0] [[.bz 201, c1]] = _
  exact if_pos ⟨rfl, rfl, h⟩
theorem writeS (es : List (List D)) (s : ByteArray) (h : (es.length : Int) + s.size ≤ 140737488355328) : FG 114 [.bp 1000000 0, .v (.string s)] [[.bz 201, .own 5 1 es]] = some (.tup [.v (.int .i64 s.size), .v .nilIface], [[.bz 201, .own 5 1 (es ++ strEs s)]]) := by
  have hc := copyC (.own 5 1 es) rfl
  refine FG_val Tryz.func114 rfl rfl ?_
  simp only [Tryz.ntmps114, Tryz.results114]
  repeat' (first | (intro hc; (try simp only [bne_eq_false_iff_eq, bne_iff_ne, beq_iff_eq, beq_eq_false_iff_ne, Bool.not_eq_true', Bool.not_eq_false', decide_eq_true_eq, decide_eq_false_iff_not] at hc); (try replace hc := eq_true (show (_ : ByteArray) = _ from hc)); (try (exfalso; first | omega | exact hc trivial | exact hc))) | refine And.intro (show okTr _ _ = true by kernel_rfl) ?_ | refine And.intro ?_ ?_ | refine stp_guard ?_ ?_ | refine stq_guard ?_ ?_ | refine dwp_seq ?_ | refine dwp_block ?_ | ((first | refine dwp_region ?_ | refine dwp_any ?_ | refine dwp_skip ?_ | refine dwp_exit ?_ | refine dwp_ret ?_ | refine dwp_if ?_ | skip); (simp only [go_sem, beq_true, beq_false, Bool.true_beq, Bool.false_beq, Bool.bne_true, Bool.bne_false, Bool.true_bne, Bool.false_bne, Option.isSome_none, ne_eq, Int.cast_ofNat_Int, ↓reduceIte, reduceCtorEq, Nat.reduceBEq, Nat.reduceEqDiff, Nat.reduceLT, Nat.reduceLeDiff, Nat.reduceAdd, Nat.reduceMul, Nat.reducePow, Nat.reduceSub, Int.reduceEq, Int.reduceLT, Int.reduceLE, Int.reduceToNat, Int.reduceMul, Int.reduceNeg, Int.reduceAdd, Int.reduceSub, *]; try simp (disch := (first | omega | (simp only [ByteArray.size_append, bs_size, lit_size, cut_size, List.length_append, List.length_cons, List.length_nil]; omega))) only [sls2S, sls_lS, sls_hS, bop_sadd, List.length_drop, List.length_take, List.length_append, ite_ok, w_i64, w_u64, w_u8, w_u32, w_u16, w_i32, room_le, tm_nn, td_nn, nsucc, apSK_ok])) | simp (disch := (first | omega | (simp only [ByteArray.size_append, bs_size, lit_size, cut_size, List.length_append, List.length_cons, List.length_nil]; omega))) only [sls2S, sls_lS, sls_hS, bop_sadd, List.length_drop, List.length_take, List.length_append, ite_ok, w_i64, w_u64, w_u8, w_u32, w_u16, w_i32, room_le, tm_nn, td_nn, nsucc, apSK_ok])
theorem writeS0 (s : ByteArray) (h : (s.size : Int) ≤ 140737488355328) : FG 114 [.bp 1000000 0, .v (.string s)] [[.bz 201, .v (.slice none 0 0)]] = some (.tup [.v (.int .i64 s.size), .v .nilIface], [[.bz 201, .own 5 1 (strEs s)]]) := by
  have hc := copyC (.v (.slice none 0 0)) rfl
  have h0 : (((([] : List (List D)).length : Nat) : Int)) + s.size ≤ 140737488355328 := by simpa using h
  refine FG_val Tryz.func114 rfl rfl ?_
  simp only [Tryz.ntmps114, Tryz.results114]
  repeat' (first | (intro hc; (try simp only [bne_eq_false_iff_eq, bne_iff_ne, beq_iff_eq, beq_eq_false_iff_ne, Bool.not_eq_true', Bool.not_eq_false', decide_eq_true_eq, decide_eq_false_iff_not] at hc); (try replace hc := eq_true (show (_ : ByteArray) = _ from hc)); (try (exfalso; first | omega | exact hc trivial | exact hc))) | refine And.intro (show okTr _ _ = true by kernel_rfl) ?_ | refine And.intro ?_ ?_ | refine stp_guard ?_ ?_ | refine stq_guard ?_ ?_ | refine dwp_seq ?_ | refine dwp_block ?_ | ((first | refine dwp_region ?_ | refine dwp_any ?_ | refine dwp_skip ?_ | refine dwp_exit ?_ | refine dwp_ret ?_ | refine dwp_if ?_ | skip); (simp only [go_sem, beq_true, beq_false, Bool.true_beq, Bool.false_beq, Bool.bne_true, Bool.bne_false, Bool.true_bne, Bool.false_bne, Option.isSome_none, ne_eq, Int.cast_ofNat_Int, ↓reduceIte, reduceCtorEq, Nat.reduceBEq, Nat.reduceEqDiff, Nat.reduceLT, Nat.reduceLeDiff, Nat.reduceAdd, Nat.reduceMul, Nat.reducePow, Nat.reduceSub, Int.reduceEq, Int.reduceLT, Int.reduceLE, Int.reduceToNat, Int.reduceMul, Int.reduceNeg, Int.reduceAdd, Int.reduceSub, *]; try simp (disch := (first | omega | (simp only [ByteArray.size_append, bs_size, lit_size, cut_size, List.length_append, List.length_cons, List.length_nil]; omega))) only [sls2S, sls_lS, sls_hS, bop_sadd, List.length_drop, List.length_take, List.length_append, ite_ok, w_i64, w_u64, w_u8, w_u32, w_u16, w_i32, room_le, tm_nn, td_nn, nsucc, apSK_ok])) | simp (disch := (first | omega | (simp only [ByteArray.size_append, bs_size, lit_size, cut_size, List.length_append, List.length_cons, List.length_nil]; omega))) only [sls2S, sls_lS, sls_hS, bop_sadd, List.length_drop, List.length_take, List.length_append, ite_ok, w_i64, w_u64, w_u8, w_u32, w_u16, w_i32, room_le, tm_nn, td_nn, nsucc, apSK_ok])
theorem stringS (s : ByteArray) (h : 0 < s.size) : FG 116 [.bp 1000000 0] [[.bz 201, .own 5 1 (strEs s)]] = some (.v (.string s), [[.bz 201, .sl (strEs s)]]) := by
  refine Fs_prim _ _ _ ?_
  show pString [.bp 1000000 0] [[.bz 201, .own 5 1 (strEs s)]] = _
  refine (if_pos ⟨rfl, rfl, rfl, rfl, strEs_ne h⟩).trans ?_
  rw [bytesOf_str]
  rfl
theorem stringS0 : FG 116 [.bp 1000000 0] [[.bz 201, .v (.slice none 0 0)]] = some (.v (.string ⟨#[]⟩), [[.bz 201, .v (.slice none 0 0)]]) := by
  refine Fs_prim _ _ _ ?_
  show pString [.bp 1000000 0] [[.bz 201, .v (.slice none 0 0)]] = _
  simp [pString, OB]
end Go.Proofs.YtjdmjofkibiaaaaGreatDoor
