/- Paths: the statement (the session's own words). -/
import Derived.Test.YtenhflbjipeopaaGreatDoorPPf
namespace Go.Proofs.YtenhflbjipeopaaGreatDoor
open Go Go.Eng Go.Proofs
set_option linter.unusedVariables false
set_option linter.unusedSimpArgs false
set_option maxRecDepth 100000
set_option maxHeartbeats 8000000
theorem intsD_map : ∀ l : List Int, intsD (l.map intC) = some l
  | [] => rfl
  | a :: l => by
    show (intsD (l.map intC)).map (a :: ·) = _
    rw [intsD_map l]
    rfl
theorem condsX (p : Pth) (hp : p.conds.length + p.more.length ≤ 1000) : FF 16 [.agg (pthC p)] = some (.sl ((insAll (p.conds ++ p.more)).map intC)) := by
  refine FF_prim ?_
  show pConds [.agg (pthC p)] [] = _
  rw [pthC_eq]
  unfold pConds
  simp only
  rw [intsD_map, intsD_map, Option.bind_some, Option.bind_some, if_pos hp, conds_ins]
  rfl
theorem eqI_self (a : Int) : eqI a a = true := decide_eq_true rfl
theorem eqR_self (a : Rng) : eqR a a = true := by unfold eqR; simp
theorem sameP_self (p : Pth) : sameP p p = true := by
  unfold sameP
  rw [eqL_self _ eqI_self, eqL_self _ eqI_self, eqL_self _ eqR_self, eqL_self _ eqR_self]
  simp
theorem insAll_len (l : List Int) : (insAll l).length ≤ l.length := by
  have : ∀ (l out : List Int), (l.foldl insW out).length ≤ out.length + l.length := by
    intro l
    induction l with
    | nil => intro out; simp
    | cons x l ih =>
      intro out
      have h1 := ih (insW out x)
      have h2 := insW_len out x
      simp only [List.foldl_cons, List.length_cons]
      omega
  have := this l []
  simpa [insAll] using this
theorem pathsSame (b : Bok) (p q : Pth) (hb : okBok b) (hc : okCols b) (hp : smallP p) (hq : smallP q) (hi : in64 p.index) : FF 4 [.agg (bokC b), .agg (pthC p), .agg (pthC q)] = some (.v (.bool true)) := by
  have fx := fixed22
  obtain ⟨r0, g0, g, rfl⟩ := greatB b hb hc
  by_cases hg : g = true ∨ 300 < (p.conds.length : Int) + p.more.length + p.ranges.length + p.also.length ∨ 300 < (q.conds.length : Int) + q.more.length + q.ranges.length + q.also.length
  · obtain ⟨hp1, hp2, hp3, hp4⟩ := hp
    obtain ⟨hq1, hq2, hq3, hq4⟩ := hq
    rw [bokC_eq, pthC_eq, pthC_eq] at *
    refine FF_val Tryz.func4 rfl rfl ?_
    simp only [Tryz.ntmps4, Tryz.results4]
    clear hb hc
    cases g with
    | true =>
      clear hg
      repeat' (first | (intro hc; (try simp only [bne_eq_false_iff_eq, bne_iff_ne, beq_iff_eq, beq_eq_false_iff_ne, Bool.not_eq_true', Bool.not_eq_false', decide_eq_true_eq, decide_eq_false_iff_not] at hc); (try replace hc := eq_true (show (_ : ByteArray) = _ from hc)); (try (exfalso; first | omega | exact hc trivial | exact hc))) | refine And.intro (show okTr _ _ = true by kernel_rfl) ?_ | refine And.intro ?_ ?_ | refine stp_guard ?_ ?_ | refine stq_guard ?_ ?_ | refine dwp_seq ?_ | refine dwp_block ?_ | ((first | refine dwp_region ?_ | refine dwp_any ?_ | refine dwp_skip ?_ | refine dwp_exit ?_ | refine dwp_ret ?_ | refine dwp_if ?_ | skip); (simp only [go_sem, beq_true, beq_false, Bool.true_beq, Bool.false_beq, Bool.bne_true, Bool.bne_false, Bool.true_bne, Bool.false_bne, Option.isSome_none, ne_eq, Int.cast_ofNat_Int, ↓reduceIte, reduceCtorEq, Nat.reduceBEq, Nat.reduceEqDiff, Nat.reduceLT, Nat.reduceLeDiff, Nat.reduceAdd, Nat.reduceMul, Nat.reducePow, Nat.reduceSub, Int.reduceEq, Int.reduceLT, Int.reduceLE, Int.reduceToNat, Int.reduceMul, Int.reduceNeg, Int.reduceAdd, Int.reduceSub, *]; try simp (disch := (first | omega | (simp only [ByteArray.size_append, bs_size, lit_size, cut_size, List.length_append, List.length_cons, List.length_nil]; omega))) only [sls2S, sls_lS, sls_hS, bop_sadd, List.length_drop, List.length_take, List.length_append, ite_ok, w_i64, w_u64, w_u8, w_u32, w_u16, w_i32, room_le, tm_nn, td_nn, nsucc])) | simp (disch := (first | omega | (simp only [ByteArray.size_append, bs_size, lit_size, cut_size, List.length_append, List.length_cons, List.length_nil]; omega))) only [sls2S, sls_lS, sls_hS, bop_sadd, List.length_drop, List.length_take, List.length_append, ite_ok, w_i64, w_u64, w_u8, w_u32, w_u16, w_i32, room_le, tm_nn, td_nn, nsucc])
    | false =>
      by_cases h1 : 300 < (p.conds.length : Int) + p.more.length + p.ranges.length + p.also.length
      · clear hg
        repeat' (first | (intro hc; (try simp only [bne_eq_false_iff_eq, bne_iff_ne, beq_iff_eq, beq_eq_false_iff_ne, Bool.not_eq_true', Bool.not_eq_false', decide_eq_true_eq, decide_eq_false_iff_not] at hc); (try replace hc := eq_true (show (_ : ByteArray) = _ from hc)); (try (exfalso; first | omega | exact hc trivial | exact hc))) | refine And.intro (show okTr _ _ = true by kernel_rfl) ?_ | refine And.intro ?_ ?_ | refine stp_guard ?_ ?_ | refine stq_guard ?_ ?_ | refine dwp_seq ?_ | refine dwp_block ?_ | ((first | refine dwp_region ?_ | refine dwp_any ?_ | refine dwp_skip ?_ | refine dwp_exit ?_ | refine dwp_ret ?_ | refine dwp_if ?_ | skip); (simp only [go_sem, beq_true, beq_false, Bool.true_beq, Bool.false_beq, Bool.bne_true, Bool.bne_false, Bool.true_bne, Bool.false_bne, Option.isSome_none, ne_eq, Int.cast_ofNat_Int, ↓reduceIte, reduceCtorEq, Nat.reduceBEq, Nat.reduceEqDiff, Nat.reduceLT, Nat.reduceLeDiff, Nat.reduceAdd, Nat.reduceMul, Nat.reducePow, Nat.reduceSub, Int.reduceEq, Int.reduceLT, Int.reduceLE, Int.reduceToNat, Int.reduceMul, Int.reduceNeg, Int.reduceAdd, Int.reduceSub, *]; try simp (disch := (first | omega | (simp only [ByteArray.size_append, bs_size, lit_size, cut_size, List.length_append, List.length_cons, List.length_nil]; omega))) only [sls2S, sls_lS, sls_hS, bop_sadd, List.length_drop, List.length_take, List.length_append, ite_ok, w_i64, w_u64, w_u8, w_u32, w_u16, w_i32, room_le, tm_nn, td_nn, nsucc])) | simp (disch := (first | omega | (simp only [ByteArray.size_append, bs_size, lit_size, cut_size, List.length_append, List.length_cons, List.length_nil]; omega))) only [sls2S, sls_lS, sls_hS, bop_sadd, List.length_drop, List.length_take, List.length_append, ite_ok, w_i64, w_u64, w_u8, w_u32, w_u16, w_i32, room_le, tm_nn, td_nn, nsucc])
      · have h2 : 300 < (q.conds.length : Int) + q.more.length + q.ranges.length + q.also.length := by
          rcases hg with h | h | h
          · cases h
          · exact absurd h h1
          · exact h
        clear hg
        repeat' (first | (intro hc; (try simp only [bne_eq_false_iff_eq, bne_iff_ne, beq_iff_eq, beq_eq_false_iff_ne, Bool.not_eq_true', Bool.not_eq_false', decide_eq_true_eq, decide_eq_false_iff_not] at hc); (try replace hc := eq_true (show (_ : ByteArray) = _ from hc)); (try (exfalso; first | omega | exact hc trivial | exact hc))) | refine And.intro (show okTr _ _ = true by kernel_rfl) ?_ | refine And.intro ?_ ?_ | refine stp_guard ?_ ?_ | refine stq_guard ?_ ?_ | refine dwp_seq ?_ | refine dwp_block ?_ | ((first | refine dwp_region ?_ | refine dwp_any ?_ | refine dwp_skip ?_ | refine dwp_exit ?_ | refine dwp_ret ?_ | refine dwp_if ?_ | skip); (simp only [go_sem, beq_true, beq_false, Bool.true_beq, Bool.false_beq, Bool.bne_true, Bool.bne_false, Bool.true_bne, Bool.false_bne, Option.isSome_none, ne_eq, Int.cast_ofNat_Int, ↓reduceIte, reduceCtorEq, Nat.reduceBEq, Nat.reduceEqDiff, Nat.reduceLT, Nat.reduceLeDiff, Nat.reduceAdd, Nat.reduceMul, Nat.reducePow, Nat.reduceSub, Int.reduceEq, Int.reduceLT, Int.reduceLE, Int.reduceToNat, Int.reduceMul, Int.reduceNeg, Int.reduceAdd, Int.reduceSub, *]; try simp (disch := (first | omega | (simp only [ByteArray.size_append, bs_size, lit_size, cut_size, List.length_append, List.length_cons, List.length_nil]; omega))) only [sls2S, sls_lS, sls_hS, bop_sadd, List.length_drop, List.length_take, List.length_append, ite_ok, w_i64, w_u64, w_u8, w_u32, w_u16, w_i32, room_le, tm_nn, td_nn, nsucc])) | simp (disch := (first | omega | (simp only [ByteArray.size_append, bs_size, lit_size, cut_size, List.length_append, List.length_cons, List.length_nil]; omega))) only [sls2S, sls_lS, sls_hS, bop_sadd, List.length_drop, List.length_take, List.length_append, ite_ok, w_i64, w_u64, w_u8, w_u32, w_u16, w_i32, room_le, tm_nn, td_nn, nsucc])
  · have hgf : g = false := by cases g with
      | false => rfl
      | true => exact absurd (.inl rfl) hg
    have k1 : ¬ 300 < (p.conds.length : Int) + p.more.length + p.ranges.length + p.also.length := fun h => hg (.inr (.inl h))
    have k2 : ¬ 300 < (q.conds.length : Int) + q.more.length + q.ranges.length + q.also.length := fun h => hg (.inr (.inr h))
    clear hg
    subst hgf
    have eo := orderX b p hb.1 (fun x hx => (hc.2 x hx).1) hi
    have s1 := pathSame p q hp hq
    have s2 := refSame p q hp hq
    have s3 := pathSame p p hp hp
    have s4 := hasX [q, p] p (by simp) hp (fun x hx => by
      rcases List.mem_cons.1 hx with h | h
      · subst h; exact hq
      · rw [List.mem_singleton] at h; subst h; exact hp)
    have s5 := hasX [] p (by simp) hp (fun x hx => by cases hx)
    have c1 := condsX p (by omega)
    have c2 := refConds p (by omega)
    have hil := insAll_len (p.conds ++ p.more)
    rw [List.length_append] at hil
    have c3 := sameI (insAll (p.conds ++ p.more)) (insAll (p.conds ++ p.more)) (by omega) (by omega)
    rw [eqL_self _ eqI_self] at c3
    rw [sameP_self] at s3
    rw [show [q, p].any (sameP p) = true by simp [sameP_self]] at s4
    rw [show ([] : List Pth).any (sameP p) = false from rfl] at s5
    rw [List.map_nil] at s5
    simp only [List.map_cons, List.map_nil] at s4
    generalize sameP p q = bs at *
    generalize (insAll (p.conds ++ p.more)).map intC = L at *
    obtain ⟨hp1, hp2, hp3, hp4⟩ := hp
    obtain ⟨hq1, hq2, hq3, hq4⟩ := hq
    rw [bokC_eq, pthC_eq, pthC_eq] at *
    refine FF_val Tryz.func4 rfl rfl ?_
    simp only [Tryz.ntmps4, Tryz.results4]
    clear hil
    unfold ordP at eo
    obtain ⟨pk, pi, p3, p4, p5, p6, p7⟩ := p
    simp only at *
    have hcc := hc.2
    have hil := hb.1
    clear hb hc
    by_cases h1 : pk = 1 ∨ pk = 2
    · by_cases h2 : 0 ≤ pi
      · rw [if_pos ⟨h1, h2⟩] at eo
        obtain ⟨j, rfl⟩ : ∃ j : Nat, pi = j := ⟨pi.toNat, by omega⟩
        rw [Int.toNat_natCast] at eo
        rcases Nat.lt_or_ge j b.indexes.length with h | h
        · have ga : b.indexes[j]? = some b.indexes[j] := List.getElem?_eq_getElem h
          have hcl := (hcc _ (List.getElem_mem h)).1
          rw [ga] at eo
          simp only at eo
          generalize b.indexes[j] = x at *
          obtain ⟨nm, tb, cs, rt, lv, hgh, ds⟩ := x
          have gm : (b.indexes.map idxC)[j]? = some [.v (.string nm), .v (.int .i64 tb), .sl (cs.map intC), .v (.int .u32 rt), .v (.int .i64 lv), .v (.int .i64 hgh), .sl (ds.map intC)] := by rw [List.getElem?_map, ga]; rfl
          clear hcc ga
          simp only at hcl eo
          cases cs with
          | nil =>
            simp only at eo
            rcases h1 with h1 | h1 <;> subst h1 <;> cases bs <;> repeat' (first | (intro hc; (try simp only [bne_eq_false_iff_eq, bne_iff_ne, beq_iff_eq, beq_eq_false_iff_ne, Bool.not_eq_true', Bool.not_eq_false', decide_eq_true_eq, decide_eq_false_iff_not] at hc); (try replace hc := eq_true (show (_ : ByteArray) = _ from hc)); (try (exfalso; first | omega | exact hc trivial | exact hc))) | refine And.intro (show okTr _ _ = true by kernel_rfl) ?_ | refine And.intro ?_ ?_ | refine stp_guard ?_ ?_ | refine stq_guard ?_ ?_ | refine dwp_seq ?_ | refine dwp_block ?_ | ((first | refine dwp_region ?_ | refine dwp_any ?_ | refine dwp_skip ?_ | refine dwp_exit ?_ | refine dwp_ret ?_ | refine dwp_if ?_ | skip); (simp only [go_sem, beq_true, beq_false, Bool.true_beq, Bool.false_beq, Bool.bne_true, Bool.bne_false, Bool.true_bne, Bool.false_bne, Option.isSome_none, ne_eq, Int.cast_ofNat_Int, ↓reduceIte, reduceCtorEq, Nat.reduceBEq, Nat.reduceEqDiff, Nat.reduceLT, Nat.reduceLeDiff, Nat.reduceAdd, Nat.reduceMul, Nat.reducePow, Nat.reduceSub, Int.reduceEq, Int.reduceLT, Int.reduceLE, Int.reduceToNat, Int.reduceMul, Int.reduceNeg, Int.reduceAdd, Int.reduceSub, *]; try simp (disch := (first | omega | (simp only [ByteArray.size_append, bs_size, lit_size, cut_size, List.length_append, List.length_cons, List.length_nil]; omega))) only [sls2S, sls_lS, sls_hS, bop_sadd, List.length_drop, List.length_take, List.length_append, ite_ok, w_i64, w_u64, w_u8, w_u32, w_u16, w_i32, room_le, tm_nn, td_nn, nsucc])) | simp (disch := (first | omega | (simp only [ByteArray.size_append, bs_size, lit_size, cut_size, List.length_append, List.length_cons, List.length_nil]; omega))) only [sls2S, sls_lS, sls_hS, bop_sadd, List.length_drop, List.length_take, List.length_append, ite_ok, w_i64, w_u64, w_u8, w_u32, w_u16, w_i32, room_le, tm_nn, td_nn, nsucc])
          | cons c r =>
            simp only at eo
            rw [List.map_cons] at *
            rw [show intC c = [.v (.int .i64 c)] from rfl] at *
            have hp : ¬ ((r.length + 1 : Nat) : Int) = 0 := by omega
            rcases h1 with h1 | h1 <;> subst h1 <;> cases bs <;> repeat' (first | (intro hc; (try simp only [bne_eq_false_iff_eq, bne_iff_ne, beq_iff_eq, beq_eq_false_iff_ne, Bool.not_eq_true', Bool.not_eq_false', decide_eq_true_eq, decide_eq_false_iff_not] at hc); (try replace hc := eq_true (show (_ : ByteArray) = _ from hc)); (try (exfalso; first | omega | exact hc trivial | exact hc))) | refine And.intro (show okTr _ _ = true by kernel_rfl) ?_ | refine And.intro ?_ ?_ | refine stp_guard ?_ ?_ | refine stq_guard ?_ ?_ | refine dwp_seq ?_ | refine dwp_block ?_ | ((first | refine dwp_region ?_ | refine dwp_any ?_ | refine dwp_skip ?_ | refine dwp_exit ?_ | refine dwp_ret ?_ | refine dwp_if ?_ | skip); (simp only [go_sem, beq_true, beq_false, Bool.true_beq, Bool.false_beq, Bool.bne_true, Bool.bne_false, Bool.true_bne, Bool.false_bne, Option.isSome_none, ne_eq, Int.cast_ofNat_Int, ↓reduceIte, reduceCtorEq, Nat.reduceBEq, Nat.reduceEqDiff, Nat.reduceLT, Nat.reduceLeDiff, Nat.reduceAdd, Nat.reduceMul, Nat.reducePow, Nat.reduceSub, Int.reduceEq, Int.reduceLT, Int.reduceLE, Int.reduceToNat, Int.reduceMul, Int.reduceNeg, Int.reduceAdd, Int.reduceSub, *]; try simp (disch := (first | omega | (simp only [ByteArray.size_append, bs_size, lit_size, cut_size, List.length_append, List.length_cons, List.length_nil]; omega))) only [sls2S, sls_lS, sls_hS, bop_sadd, List.length_drop, List.length_take, List.length_append, ite_ok, w_i64, w_u64, w_u8, w_u32, w_u16, w_i32, room_le, tm_nn, td_nn, nsucc])) | simp (disch := (first | omega | (simp only [ByteArray.size_append, bs_size, lit_size, cut_size, List.length_append, List.length_cons, List.length_nil]; omega))) only [sls2S, sls_lS, sls_hS, bop_sadd, List.length_drop, List.length_take, List.length_append, ite_ok, w_i64, w_u64, w_u8, w_u32, w_u16, w_i32, room_le, tm_nn, td_nn, nsucc])
        · have ga : b.indexes[j]? = none := List.getElem?_eq_none h
          rw [ga] at eo
          simp only at eo
          clear hcc
          rcases h1 with h1 | h1 <;> subst h1 <;> cases bs <;> repeat' (first | (intro hc; (try simp only [bne_eq_false_iff_eq, bne_iff_ne, beq_iff_eq, beq_eq_false_iff_ne, Bool.not_eq_true', Bool.not_eq_false', decide_eq_true_eq, decide_eq_false_iff_not] at hc); (try replace hc := eq_true (show (_ : ByteArray) = _ from hc)); (try (exfalso; first | omega | exact hc trivial | exact hc))) | refine And.intro (show okTr _ _ = true by kernel_rfl) ?_ | refine And.intro ?_ ?_ | refine stp_guard ?_ ?_ | refine stq_guard ?_ ?_ | refine dwp_seq ?_ | refine dwp_block ?_ | ((first | refine dwp_region ?_ | refine dwp_any ?_ | refine dwp_skip ?_ | refine dwp_exit ?_ | refine dwp_ret ?_ | refine dwp_if ?_ | skip); (simp only [go_sem, beq_true, beq_false, Bool.true_beq, Bool.false_beq, Bool.bne_true, Bool.bne_false, Bool.true_bne, Bool.false_bne, Option.isSome_none, ne_eq, Int.cast_ofNat_Int, ↓reduceIte, reduceCtorEq, Nat.reduceBEq, Nat.reduceEqDiff, Nat.reduceLT, Nat.reduceLeDiff, Nat.reduceAdd, Nat.reduceMul, Nat.reducePow, Nat.reduceSub, Int.reduceEq, Int.reduceLT, Int.reduceLE, Int.reduceToNat, Int.reduceMul, Int.reduceNeg, Int.reduceAdd, Int.reduceSub, *]; try simp (disch := (first | omega | (simp only [ByteArray.size_append, bs_size, lit_size, cut_size, List.length_append, List.length_cons, List.length_nil]; omega))) only [sls2S, sls_lS, sls_hS, bop_sadd, List.length_drop, List.length_take, List.length_append, ite_ok, w_i64, w_u64, w_u8, w_u32, w_u16, w_i32, room_le, tm_nn, td_nn, nsucc])) | simp (disch := (first | omega | (simp only [ByteArray.size_append, bs_size, lit_size, cut_size, List.length_append, List.length_cons, List.length_nil]; omega))) only [sls2S, sls_lS, sls_hS, bop_sadd, List.length_drop, List.length_take, List.length_append, ite_ok, w_i64, w_u64, w_u8, w_u32, w_u16, w_i32, room_le, tm_nn, td_nn, nsucc])
      · rw [if_neg (fun h => h2 h.2)] at eo
        clear hcc
        rcases h1 with h1 | h1 <;> subst h1 <;> cases bs <;> repeat' (first | (intro hc; (try simp only [bne_eq_false_iff_eq, bne_iff_ne, beq_iff_eq, beq_eq_false_iff_ne, Bool.not_eq_true', Bool.not_eq_false', decide_eq_true_eq, decide_eq_false_iff_not] at hc); (try replace hc := eq_true (show (_ : ByteArray) = _ from hc)); (try (exfalso; first | omega | exact hc trivial | exact hc))) | refine And.intro (show okTr _ _ = true by kernel_rfl) ?_ | refine And.intro ?_ ?_ | refine stp_guard ?_ ?_ | refine stq_guard ?_ ?_ | refine dwp_seq ?_ | refine dwp_block ?_ | ((first | refine dwp_region ?_ | refine dwp_any ?_ | refine dwp_skip ?_ | refine dwp_exit ?_ | refine dwp_ret ?_ | refine dwp_if ?_ | skip); (simp only [go_sem, beq_true, beq_false, Bool.true_beq, Bool.false_beq, Bool.bne_true, Bool.bne_false, Bool.true_bne, Bool.false_bne, Option.isSome_none, ne_eq, Int.cast_ofNat_Int, ↓reduceIte, reduceCtorEq, Nat.reduceBEq, Nat.reduceEqDiff, Nat.reduceLT, Nat.reduceLeDiff, Nat.reduceAdd, Nat.reduceMul, Nat.reducePow, Nat.reduceSub, Int.reduceEq, Int.reduceLT, Int.reduceLE, Int.reduceToNat, Int.reduceMul, Int.reduceNeg, Int.reduceAdd, Int.reduceSub, *]; try simp (disch := (first | omega | (simp only [ByteArray.size_append, bs_size, lit_size, cut_size, List.length_append, List.length_cons, List.length_nil]; omega))) only [sls2S, sls_lS, sls_hS, bop_sadd, List.length_drop, List.length_take, List.length_append, ite_ok, w_i64, w_u64, w_u8, w_u32, w_u16, w_i32, room_le, tm_nn, td_nn, nsucc])) | simp (disch := (first | omega | (simp only [ByteArray.size_append, bs_size, lit_size, cut_size, List.length_append, List.length_cons, List.length_nil]; omega))) only [sls2S, sls_lS, sls_hS, bop_sadd, List.length_drop, List.length_take, List.length_append, ite_ok, w_i64, w_u64, w_u8, w_u32, w_u16, w_i32, room_le, tm_nn, td_nn, nsucc])
    · rw [if_neg (fun h => h1 h.1)] at eo
      have k3 : ¬ pk = 1 := fun h => h1 (.inl h)
      have k4 : ¬ pk = 2 := fun h => h1 (.inr h)
      clear hcc h1
      cases bs <;> repeat' (first | (intro hc; (try simp only [bne_eq_false_iff_eq, bne_iff_ne, beq_iff_eq, beq_eq_false_iff_ne, Bool.not_eq_true', Bool.not_eq_false', decide_eq_true_eq, decide_eq_false_iff_not] at hc); (try replace hc := eq_true (show (_ : ByteArray) = _ from hc)); (try (exfalso; first | omega | exact hc trivial | exact hc))) | refine And.intro (show okTr _ _ = true by kernel_rfl) ?_ | refine And.intro ?_ ?_ | refine stp_guard ?_ ?_ | refine stq_guard ?_ ?_ | refine dwp_seq ?_ | refine dwp_block ?_ | ((first | refine dwp_region ?_ | refine dwp_any ?_ | refine dwp_skip ?_ | refine dwp_exit ?_ | refine dwp_ret ?_ | refine dwp_if ?_ | skip); (simp only [go_sem, beq_true, beq_false, Bool.true_beq, Bool.false_beq, Bool.bne_true, Bool.bne_false, Bool.true_bne, Bool.false_bne, Option.isSome_none, ne_eq, Int.cast_ofNat_Int, ↓reduceIte, reduceCtorEq, Nat.reduceBEq, Nat.reduceEqDiff, Nat.reduceLT, Nat.reduceLeDiff, Nat.reduceAdd, Nat.reduceMul, Nat.reducePow, Nat.reduceSub, Int.reduceEq, Int.reduceLT, Int.reduceLE, Int.reduceToNat, Int.reduceMul, Int.reduceNeg, Int.reduceAdd, Int.reduceSub, *]; try simp (disch := (first | omega | (simp only [ByteArray.size_append, bs_size, lit_size, cut_size, List.length_append, List.length_cons, List.length_nil]; omega))) only [sls2S, sls_lS, sls_hS, bop_sadd, List.length_drop, List.length_take, List.length_append, ite_ok, w_i64, w_u64, w_u8, w_u32, w_u16, w_i32, room_le, tm_nn, td_nn, nsucc])) | simp (disch := (first | omega | (simp only [ByteArray.size_append, bs_size, lit_size, cut_size, List.length_append, List.length_cons, List.length_nil]; omega))) only [sls2S, sls_lS, sls_hS, bop_sadd, List.length_drop, List.length_take, List.length_append, ite_ok, w_i64, w_u64, w_u8, w_u32, w_u16, w_i32, room_le, tm_nn, td_nn, nsucc])
end Go.Proofs.YtenhflbjipeopaaGreatDoor
