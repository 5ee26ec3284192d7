/- Plans' texts: steps (the session's own words). -/
import Derived.Test.YtjdkcedhmfgmoaaDoorXc
namespace Go.Proofs.YtjdkcedhmfgmoaaDoor
open Go Go.Eng Go.Proofs
set_option linter.unusedVariables false
set_option linter.unusedSimpArgs false
set_option maxRecDepth 100000
set_option maxHeartbeats 4000000
theorem strC_eq (s : ByteArray) : strC s = [.v (.string s)] := (rfl)
theorem strs_map (l : List ByteArray) : strs (l.map strC) = some l := by
  induction l with
  | nil => rfl
  | cons a l ih => simp only [List.map_cons, strC, strs]; rw [show strs (List.map strC l) = some l from ih]; rfl
theorem joinX (l : List ByteArray) (p : ByteArray) (h1 : l.length ≤ 140737488355328) (h2 : (Lib.join (l.map bl) (bl p)).length ≤ 140737488355328) : FF 39 [.sl (l.map strC), .v (.string p)] = some (.v (.string (bs (Lib.join (l.map bl) (bl p))))) := by
  refine FF_prim ?_
  show pJoin [.sl (l.map strC), .v (.string p)] [] = _
  unfold pJoin
  simp only
  rw [strs_map, Option.bind_some, if_pos ⟨h1, h2⟩]
def okStp (s : Stp) : Prop := in64 s.table ∧ in64 s.index ∧ in64 s.join ∧ okPth s.path ∧ s.path.also.length ≤ 140737488355328
/-- a step's words -/
def swords (b : Bok) (k : Blk) (s : Stp) : List ByteArray :=
  [mname s.method, tname b k s.table ++ ⟨#[35]⟩ ++ dec s.table] ++ ((if s.method = 2 then [iname b s.index] else pwords b s.path) ++ (if s.method = 2 ∨ s.method = 3 then [⟨#[111, 110]⟩, dec s.join] else []))
theorem pwords_len (b : Bok) (p : Pth) : (pwords b p).length ≤ 5 := by
  unfold pwords
  repeat' split
  all_goals simp
theorem stepX (b : Bok) (k : Blk) (s : Stp) (hb : okBok b) (hk : k.tables.length ≤ 140737488355328) (hk2 : ∀ q ∈ k.tables, in64 q) (hs : okStp s) (hj : (Lib.join ((swords b k s).map bl) [32]).length ≤ 10000000) :
    FF 36 [.agg (bokC b), .agg (blkC k), .agg (stpC s)] = some (.v (.string (bs (Lib.join ((swords b k s).map bl) [32]) ++ ⟨#[10]⟩))) := by
  have e1 := methodX s
  have e2 := tableX b k s.table hb hk hk2 hs.1
  have e3 := indexX b s.index (by have := hb.1; omega) hs.2.1
  have e4 := pathX b s.path hb hs.2.2.2.1 hs.2.2.2.2
  have e5 := itoaX s.join hs.2.2.1
  have hl : (pwords b s.path).length ≤ 5 := pwords_len b s.path
  have hw : (swords b k s).length ≤ 100 := by
    unfold swords
    simp only [List.length_append, List.length_cons, List.length_nil]
    split <;> split <;> simp <;> omega
  have e6 := joinX (swords b k s) ⟨#[32]⟩ (by omega) (by show (Lib.join ((swords b k s).map bl) [32]).length ≤ _; omega)
  rw [show bl ⟨#[32]⟩ = [32] from rfl] at e6
  unfold swords at e6 hj ⊢
  rw [bokC_eq, blkC_eq, stpC_eq] at *
  rw [pthC_eq] at e4
  clear hk2 hb hs hk hw
  refine FF_val Tryd.func36 rfl rfl ?_
  simp only [Tryd.ntmps36, Tryd.results36]
  obtain ⟨st, sm, sp, si, sj⟩ := s
  simp only at *
  have hla : lenAll 1 ((pwords b sp).map strC) = true := lenAll_map strC (fun _ => rfl) _
  have hlm : ((pwords b sp).map strC).length = (pwords b sp).length := List.length_map ..
  by_cases m2 : sm = 2
  · subst m2
    have m2 : (2 : Int) = 2 := rfl
    rw [if_pos m2, if_pos (.inl m2)] at e6 hj ⊢
    simp only [List.map_cons, List.map_append, List.map_nil, strC, List.cons_append, List.nil_append] at e6 hj ⊢
    clear m2
    repeat' (first | (intro hc; (try simp only [bne_eq_false_iff_eq, bne_iff_ne, beq_iff_eq, beq_eq_false_iff_ne, Bool.not_eq_true', Bool.not_eq_false', decide_eq_true_eq, decide_eq_false_iff_not] at hc); (try replace hc := eq_true (show (_ : ByteArray) = _ from hc)); (try (exfalso; first | omega | exact hc trivial | exact hc))) | refine And.intro (show okTr _ _ = true by kernel_rfl) ?_ | refine And.intro ?_ ?_ | refine stp_guard ?_ ?_ | refine stq_guard ?_ ?_ | refine dwp_seq ?_ | refine dwp_block ?_ | ((first | refine dwp_region ?_ | refine dwp_any ?_ | refine dwp_skip ?_ | refine dwp_exit ?_ | refine dwp_ret ?_ | refine dwp_if ?_ | skip); (simp only [go_sem, beq_true, beq_false, Bool.true_beq, Bool.false_beq, Bool.bne_true, Bool.bne_false, Bool.true_bne, Bool.false_bne, Option.isSome_none, ne_eq, Int.cast_ofNat_Int, ↓reduceIte, reduceCtorEq, Nat.reduceBEq, Nat.reduceEqDiff, Nat.reduceLT, Nat.reduceLeDiff, Nat.reduceAdd, Nat.reduceMul, Nat.reducePow, Nat.reduceSub, Int.reduceEq, Int.reduceLT, Int.reduceLE, Int.reduceToNat, Int.reduceMul, Int.reduceNeg, Int.reduceAdd, Int.reduceSub, *]; try simp (disch := (first | omega | (simp only [ByteArray.size_append, bs_size, lit_size, cut_size, List.length_append, List.length_cons, List.length_nil]; omega))) only [sls2S, sls_lS, sls_hS, bop_sadd, List.length_drop, List.length_take, List.length_append, ite_ok, w_i64, w_u64, w_u8, w_u32, w_u16, w_i32, room_le, tm_nn, td_nn, nsucc, apSK_ok])) | simp (disch := (first | omega | (simp only [ByteArray.size_append, bs_size, lit_size, cut_size, List.length_append, List.length_cons, List.length_nil]; omega))) only [sls2S, sls_lS, sls_hS, bop_sadd, List.length_drop, List.length_take, List.length_append, ite_ok, w_i64, w_u64, w_u8, w_u32, w_u16, w_i32, room_le, tm_nn, td_nn, nsucc, apSK_ok])
  rw [if_neg m2] at e6 hj ⊢
  by_cases m3 : sm = 3
  · subst m3
    rw [if_pos (.inr rfl)] at e6 hj ⊢
    simp only [List.map_cons, List.map_append, List.map_nil, List.cons_append, List.nil_append, List.append_nil, strC_eq] at e6 hj ⊢
    repeat' (first | (intro hc; (try simp only [bne_eq_false_iff_eq, bne_iff_ne, beq_iff_eq, beq_eq_false_iff_ne, Bool.not_eq_true', Bool.not_eq_false', decide_eq_true_eq, decide_eq_false_iff_not] at hc); (try replace hc := eq_true (show (_ : ByteArray) = _ from hc)); (try (exfalso; first | omega | exact hc trivial | exact hc))) | refine And.intro (show okTr _ _ = true by kernel_rfl) ?_ | refine And.intro ?_ ?_ | refine stp_guard ?_ ?_ | refine stq_guard ?_ ?_ | refine dwp_seq ?_ | refine dwp_block ?_ | ((first | refine dwp_region ?_ | refine dwp_any ?_ | refine dwp_skip ?_ | refine dwp_exit ?_ | refine dwp_ret ?_ | refine dwp_if ?_ | skip); (simp only [go_sem, beq_true, beq_false, Bool.true_beq, Bool.false_beq, Bool.bne_true, Bool.bne_false, Bool.true_bne, Bool.false_bne, Option.isSome_none, ne_eq, Int.cast_ofNat_Int, ↓reduceIte, reduceCtorEq, Nat.reduceBEq, Nat.reduceEqDiff, Nat.reduceLT, Nat.reduceLeDiff, Nat.reduceAdd, Nat.reduceMul, Nat.reducePow, Nat.reduceSub, Int.reduceEq, Int.reduceLT, Int.reduceLE, Int.reduceToNat, Int.reduceMul, Int.reduceNeg, Int.reduceAdd, Int.reduceSub, *]; try simp (disch := (first | omega | (simp only [ByteArray.size_append, bs_size, lit_size, cut_size, List.length_append, List.length_cons, List.length_nil]; omega))) only [sls2S, sls_lS, sls_hS, bop_sadd, List.length_drop, List.length_take, List.length_append, ite_ok, w_i64, w_u64, w_u8, w_u32, w_u16, w_i32, room_le, tm_nn, td_nn, nsucc, apSK_ok])) | simp (disch := (first | omega | (simp only [ByteArray.size_append, bs_size, lit_size, cut_size, List.length_append, List.length_cons, List.length_nil]; omega))) only [sls2S, sls_lS, sls_hS, bop_sadd, List.length_drop, List.length_take, List.length_append, ite_ok, w_i64, w_u64, w_u8, w_u32, w_u16, w_i32, room_le, tm_nn, td_nn, nsucc, apSK_ok])
  · rw [if_neg (by simp [m2, m3])] at e6 hj ⊢
    simp only [List.map_cons, List.map_append, List.map_nil, List.cons_append, List.nil_append, List.append_nil, strC_eq] at e6 hj ⊢
    repeat' (first | (intro hc; (try simp only [bne_eq_false_iff_eq, bne_iff_ne, beq_iff_eq, beq_eq_false_iff_ne, Bool.not_eq_true', Bool.not_eq_false', decide_eq_true_eq, decide_eq_false_iff_not] at hc); (try replace hc := eq_true (show (_ : ByteArray) = _ from hc)); (try (exfalso; first | omega | exact hc trivial | exact hc))) | refine And.intro (show okTr _ _ = true by kernel_rfl) ?_ | refine And.intro ?_ ?_ | refine stp_guard ?_ ?_ | refine stq_guard ?_ ?_ | refine dwp_seq ?_ | refine dwp_block ?_ | ((first | refine dwp_region ?_ | refine dwp_any ?_ | refine dwp_skip ?_ | refine dwp_exit ?_ | refine dwp_ret ?_ | refine dwp_if ?_ | skip); (simp only [go_sem, beq_true, beq_false, Bool.true_beq, Bool.false_beq, Bool.bne_true, Bool.bne_false, Bool.true_bne, Bool.false_bne, Option.isSome_none, ne_eq, Int.cast_ofNat_Int, ↓reduceIte, reduceCtorEq, Nat.reduceBEq, Nat.reduceEqDiff, Nat.reduceLT, Nat.reduceLeDiff, Nat.reduceAdd, Nat.reduceMul, Nat.reducePow, Nat.reduceSub, Int.reduceEq, Int.reduceLT, Int.reduceLE, Int.reduceToNat, Int.reduceMul, Int.reduceNeg, Int.reduceAdd, Int.reduceSub, *]; try simp (disch := (first | omega | (simp only [ByteArray.size_append, bs_size, lit_size, cut_size, List.length_append, List.length_cons, List.length_nil]; omega))) only [sls2S, sls_lS, sls_hS, bop_sadd, List.length_drop, List.length_take, List.length_append, ite_ok, w_i64, w_u64, w_u8, w_u32, w_u16, w_i32, room_le, tm_nn, td_nn, nsucc, apSK_ok])) | simp (disch := (first | omega | (simp only [ByteArray.size_append, bs_size, lit_size, cut_size, List.length_append, List.length_cons, List.length_nil]; omega))) only [sls2S, sls_lS, sls_hS, bop_sadd, List.length_drop, List.length_take, List.length_append, ite_ok, w_i64, w_u64, w_u8, w_u32, w_u16, w_i32, room_le, tm_nn, td_nn, nsucc, apSK_ok])
end Go.Proofs.YtjdkcedhmfgmoaaDoor
