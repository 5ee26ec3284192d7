/- Lines of values: the statement (the session's own words). -/
import Derived.Test.YtjdkcedhmfgmoaaDoorZb
import Derived.Test.YtjdkcedhmfgmoaaDoorOpr
namespace Go.Proofs.YtjdkcedhmfgmoaaDoor
open Go Go.Eng Go.Proofs Go.RowKit
set_option linter.unusedVariables false
set_option linter.unusedSimpArgs false
set_option maxRecDepth 100000
set_option maxHeartbeats 8000000
theorem word_of {w r : List UInt8} (h : okb w = true) (hr : r = [] ∨ isBar r = true) : wordL (w ++ r) = w := by
  rcases ok_shape h with ⟨t, rfl⟩ | ⟨h1, h2, h3⟩
  · exact word_quoted t r hr
  · exact word_plain w r h1 h2 h3 hr
theorem word_len (s : List UInt8) : (wordL s).length ≤ s.length := by
  obtain ⟨r, h⟩ := word_pre s
  have := congrArg List.length h
  rw [List.length_append] at this
  omega
theorem values3 (s : ByteArray) (hs : s.size ≤ 3000) : FF 19 [.v (.string s)] = some (resV (vals (bl s))) := by
  have := valuesX (fun r => r.length ≤ 3000) (fun r hr => ⟨by omega, by have := word_len r; omega, fun x hx => by
    have := congrArg List.length hx
    simp only [List.length_append] at this
    omega⟩) (bl s) (by rw [bl_size]; exact hs)
  rwa [bs_bl] at this
theorem ref3 (s : ByteArray) (hs : s.size ≤ 3000) : FF 20 [.v (.string s)] = some (resV (vals (bl s))) := by
  have := refValuesX (bl s) (by rw [bl_size]; exact hs)
  rwa [bs_bl] at this
theorem may_len (v : Val) (hi : in64 v.int) (h : mayV v = true) : (vshow v).length ≤ 100 := by
  have h1 := Lib.itoa_length_le v.int hi.1 hi.2
  have h2 := dbl_len (bl v.text)
  have h3 : (bl v.text).length = v.text.size := bl_size _
  unfold vshow
  by_cases k3 : v.kind = 3
  · unfold mayV at h
    rw [if_neg (by omega), if_neg (by omega), if_neg (by omega), if_pos k3, Bool.and_eq_true, decide_eq_true_eq, decide_eq_true_eq] at h
    rw [if_neg (by omega), if_neg (by omega), if_pos k3]
    simp only [List.length_append, List.length_cons, List.length_nil]
    omega
  · repeat' split
    all_goals (first | contradiction | ((try simp only [List.length_append, List.length_cons, List.length_nil]); omega))
theorem valuesLine (row : List Val) (h0 : row ≠ []) (hn : row.length ≤ 5000) (hv : ∀ v ∈ row, in64 v.int ∧ mayV v = true) :
    FF 19 [.v (.string (lineT row))] = some (.tup [.sl (row.map valCells), .v (.bool true)]) := by
  have h := valuesX (fun r => ∃ l : List Val, l ≠ [] ∧ l.length ≤ 5000 ∧ (∀ v ∈ l, in64 v.int ∧ mayV v = true) ∧ r = Lib.join (l.map vshow) barL) (fun r hr => by
    obtain ⟨l, l0, ln, lv, rfl⟩ := hr
    have hj := join_len barL 100 (l.map vshow) (fun x hx => by
      obtain ⟨v, hv, rfl⟩ := List.mem_map.1 hx
      exact may_len v (lv v hv).1 (lv v hv).2)
    rw [List.length_map, show barL.length = 3 from rfl] at hj
    match l, l0 with
    | v :: l, _ =>
      have hok := show_ok v (lv v (by simp)).1 (lv v (by simp)).2
      have hm := may_len v (lv v (by simp)).1 (lv v (by simp)).2
      have hwd : wordL (Lib.join ((v :: l).map vshow) barL) = vshow v := by
        match l with
        | [] =>
          have := word_of hok (.inl rfl)
          rw [List.append_nil] at this
          simpa only [List.map_cons, List.map_nil, Lib.join_one] using this
        | u :: l =>
          have e : Lib.join ((v :: u :: l).map vshow) barL = vshow v ++ (barL ++ Lib.join ((u :: l).map vshow) barL) := by
            simp only [List.map_cons, Lib.join_cons, Lib.joinTail, List.map_cons, List.flatten_cons, List.append_assoc]
          rw [e]
          exact word_of hok (.inr (isBar_bar _))
      refine ⟨by omega, by rw [hwd]; omega, fun x hx => ?_⟩
      rw [hwd] at hx
      match l with
      | [] =>
        simp only [List.map_cons, List.map_nil, Lib.join_one] at hx
        have := congrArg List.length hx
        simp only [List.length_append, show barL.length = 3 from rfl] at this
        omega
      | u :: l =>
        have e : Lib.join ((v :: u :: l).map vshow) barL = vshow v ++ barL ++ Lib.join ((u :: l).map vshow) barL := by
          simp only [List.map_cons, Lib.join_cons, Lib.joinTail, List.map_cons, List.flatten_cons, List.append_assoc]
        rw [e] at hx
        exact ⟨u :: l, by simp, by simp only [List.length_cons] at ln ⊢; omega, fun w hw => lv w (List.mem_cons_of_mem _ hw), (List.append_cancel_left hx).symm⟩) (Lib.join (row.map vshow) barL) ⟨row, h0, hn, hv, rfl⟩
  rw [vals_line row h0 hv] at h
  have e : (row.map vshow).map vOf = row.map valCells := by
    rw [List.map_map]
    apply List.map_congr_left
    intro v hm
    show valCells (rd (bs (vshow v))).1 = valCells v
    rw [show_rd v (hv v hm).1 (hv v hm).2]
  rw [show resV (some (row.map vshow)) = .tup [.sl ((row.map vshow).map vOf), .v (.bool true)] from rfl, e] at h
  exact h
theorem prt_max (s : List UInt8) (h : s.length ≤ 3000) : ∀ ps, vals s = some ps → ps.length ≤ 3001 := by
  intro ps hp
  unfold vals at hp
  split at hp
  · cases hp
    have := (prt_len s 0 false []).2
    omega
  · cases hp
theorem explainValues (s : ByteArray) (row : List Val) (hs : s.size ≤ 140737488355328) (hn : row.length ≤ maxLen) (hi : ∀ v ∈ row, in64 v.int) : FF 5 [.v (.string s), .sl (row.map valCells)] = some (.v (.bool true)) := by
  have fx := fixed30
  obtain ⟨r1, gr, q, rfl, hq⟩ := greatV row hn
  unfold maxLen at hn
  refine FF_val Tryd.func5 rfl rfl ?_
  simp only [Tryd.ntmps5, Tryd.results5]
  by_cases h3 : 3000 < s.size
  · clear hq hi
    cases q <;> repeat' (first | (intro hc; (try simp only [bne_eq_false_iff_eq, bne_iff_ne, beq_iff_eq, beq_eq_false_iff_ne, Bool.not_eq_true', Bool.not_eq_false', decide_eq_true_eq, decide_eq_false_iff_not] at hc); (try replace hc := eq_true (show (_ : ByteArray) = _ from hc)); (try (exfalso; first | omega | exact hc trivial | exact hc))) | refine And.intro (show okTr _ _ = true by kernel_rfl) ?_ | refine And.intro ?_ ?_ | refine stp_guard ?_ ?_ | refine stq_guard ?_ ?_ | refine dwp_seq ?_ | refine dwp_block ?_ | ((first | refine dwp_region ?_ | refine dwp_any ?_ | refine dwp_skip ?_ | refine dwp_exit ?_ | refine dwp_ret ?_ | refine dwp_if ?_ | skip); (simp only [go_sem, beq_true, beq_false, Bool.true_beq, Bool.false_beq, Bool.bne_true, Bool.bne_false, Bool.true_bne, Bool.false_bne, Option.isSome_none, ne_eq, Int.cast_ofNat_Int, ↓reduceIte, reduceCtorEq, Nat.reduceBEq, Nat.reduceEqDiff, Nat.reduceLT, Nat.reduceLeDiff, Nat.reduceAdd, Nat.reduceMul, Nat.reducePow, Nat.reduceSub, Int.reduceEq, Int.reduceLT, Int.reduceLE, Int.reduceToNat, Int.reduceMul, Int.reduceNeg, Int.reduceAdd, Int.reduceSub, *]; try simp (disch := (first | omega | (simp only [ByteArray.size_append, bs_size, lit_size, cut_size, List.length_append, List.length_cons, List.length_nil]; omega))) only [sls2S, sls_lS, sls_hS, bop_sadd, List.length_drop, List.length_take, List.length_append, ite_ok, w_i64, w_u64, w_u8, w_u32, w_u16, w_i32, room_le, tm_nn, td_nn, nsucc, inx_strS, ix1, cut_size])) | simp (disch := (first | omega | (simp only [ByteArray.size_append, bs_size, lit_size, cut_size, List.length_append, List.length_cons, List.length_nil]; omega))) only [sls2S, sls_lS, sls_hS, bop_sadd, List.length_drop, List.length_take, List.length_append, ite_ok, w_i64, w_u64, w_u8, w_u32, w_u16, w_i32, room_le, tm_nn, td_nn, nsucc, inx_strS, ix1, cut_size])
  have v1 := values3 s (by omega)
  have v2 := ref3 s (by omega)
  have v3 := prt_max (bl s) (by rw [bl_size]; omega)
  cases q with
  | true =>
    clear hq hi v1 v2 v3
    repeat' (first | (intro hc; (try simp only [bne_eq_false_iff_eq, bne_iff_ne, beq_iff_eq, beq_eq_false_iff_ne, Bool.not_eq_true', Bool.not_eq_false', decide_eq_true_eq, decide_eq_false_iff_not] at hc); (try replace hc := eq_true (show (_ : ByteArray) = _ from hc)); (try (exfalso; first | omega | exact hc trivial | exact hc))) | refine And.intro (show okTr _ _ = true by kernel_rfl) ?_ | refine And.intro ?_ ?_ | refine stp_guard ?_ ?_ | refine stq_guard ?_ ?_ | refine dwp_seq ?_ | refine dwp_block ?_ | ((first | refine dwp_region ?_ | refine dwp_any ?_ | refine dwp_skip ?_ | refine dwp_exit ?_ | refine dwp_ret ?_ | refine dwp_if ?_ | skip); (simp only [go_sem, beq_true, beq_false, Bool.true_beq, Bool.false_beq, Bool.bne_true, Bool.bne_false, Bool.true_bne, Bool.false_bne, Option.isSome_none, ne_eq, Int.cast_ofNat_Int, ↓reduceIte, reduceCtorEq, Nat.reduceBEq, Nat.reduceEqDiff, Nat.reduceLT, Nat.reduceLeDiff, Nat.reduceAdd, Nat.reduceMul, Nat.reducePow, Nat.reduceSub, Int.reduceEq, Int.reduceLT, Int.reduceLE, Int.reduceToNat, Int.reduceMul, Int.reduceNeg, Int.reduceAdd, Int.reduceSub, *]; try simp (disch := (first | omega | (simp only [ByteArray.size_append, bs_size, lit_size, cut_size, List.length_append, List.length_cons, List.length_nil]; omega))) only [sls2S, sls_lS, sls_hS, bop_sadd, List.length_drop, List.length_take, List.length_append, ite_ok, w_i64, w_u64, w_u8, w_u32, w_u16, w_i32, room_le, tm_nn, td_nn, nsucc, inx_strS, ix1, cut_size])) | simp (disch := (first | omega | (simp only [ByteArray.size_append, bs_size, lit_size, cut_size, List.length_append, List.length_cons, List.length_nil]; omega))) only [sls2S, sls_lS, sls_hS, bop_sadd, List.length_drop, List.length_take, List.length_append, ite_ok, w_i64, w_u64, w_u8, w_u32, w_u16, w_i32, room_le, tm_nn, td_nn, nsucc, inx_strS, ix1, cut_size])
  | false =>
    have hq := hq rfl
    have key : ∃ (l : List Val) (b : Bool), resV (vals (bl s)) = .tup [.sl (l.map valCells), .v (.bool b)] ∧ l.length ≤ 3001 := by
      cases hv : vals (bl s) with
      | none => exact ⟨[], false, rfl, by decide⟩
      | some ps => exact ⟨ps.map fun p => (rd (bs p)).1, true, by rw [List.map_map]; rfl, by rw [List.length_map]; exact v3 ps hv⟩
    obtain ⟨l, b, e1, e2⟩ := key
    rw [e1] at v1 v2
    clear e1 v3
    have v4 := sameR l (by omega)
    have v5 := sameR row (by omega)
    have hmay : ∀ v ∈ row, FF 22 [.agg (valCells v)] = some (.v (.bool (mayV v))) := fun v _ => mayR v
    have hline := lineR row ⟨hq.1, fun v hv => ⟨hi v hv, hq.2 v hv⟩⟩
    have hback := fun h0 h1 => valuesLine row h0 hq.1 h1
    obtain ⟨hq1, _⟩ := hq
    generalize lineT row = L at *
    clear hq
    cases b
    all_goals
      repeat' (first | (intro hc; (try simp only [bne_eq_false_iff_eq, bne_iff_ne, beq_iff_eq, beq_eq_false_iff_ne, Bool.not_eq_true', Bool.not_eq_false', decide_eq_true_eq, decide_eq_false_iff_not] at hc); (try replace hc := eq_true (show (_ : ByteArray) = _ from hc)); (try (exfalso; first | omega | exact hc trivial | exact hc))) | refine And.intro (show okTr _ _ = true by kernel_rfl) ?_ | refine And.intro ?_ ?_ | refine stp_guard ?_ ?_ | refine stq_guard ?_ ?_ | refine dwp_seq ?_ | refine dwp_block ?_ | ((first | refine dwp_region ?_ | refine dwp_any ?_ | refine dwp_skip ?_ | refine dwp_exit ?_ | refine dwp_ret ?_ | refine dwp_if ?_ | skip); (simp only [go_sem, beq_true, beq_false, Bool.true_beq, Bool.false_beq, Bool.bne_true, Bool.bne_false, Bool.true_bne, Bool.false_bne, Option.isSome_none, ne_eq, Int.cast_ofNat_Int, ↓reduceIte, reduceCtorEq, Nat.reduceBEq, Nat.reduceEqDiff, Nat.reduceLT, Nat.reduceLeDiff, Nat.reduceAdd, Nat.reduceMul, Nat.reducePow, Nat.reduceSub, Int.reduceEq, Int.reduceLT, Int.reduceLE, Int.reduceToNat, Int.reduceMul, Int.reduceNeg, Int.reduceAdd, Int.reduceSub, *]; try simp (disch := (first | omega | (simp only [ByteArray.size_append, bs_size, lit_size, cut_size, List.length_append, List.length_cons, List.length_nil]; omega))) only [sls2S, sls_lS, sls_hS, bop_sadd, List.length_drop, List.length_take, List.length_append, ite_ok, w_i64, w_u64, w_u8, w_u32, w_u16, w_i32, room_le, tm_nn, td_nn, nsucc, inx_strS, ix1, cut_size])) | simp (disch := (first | omega | (simp only [ByteArray.size_append, bs_size, lit_size, cut_size, List.length_append, List.length_cons, List.length_nil]; omega))) only [sls2S, sls_lS, sls_hS, bop_sadd, List.length_drop, List.length_take, List.length_append, ite_ok, w_i64, w_u64, w_u8, w_u32, w_u16, w_i32, room_le, tm_nn, td_nn, nsucc, inx_strS, ix1, cut_size])
      refine dwp_indL [1, 40, 41] [] (fun n f g => ∃ i : Nat, n = row.length - i ∧ i ≤ row.length ∧ (∀ v ∈ row.take i, mayV v = true) ∧ f 42 = .v (.int .i64 i)) _ ⟨0, rfl, Nat.zero_le _, fun v hv => by simp at hv, ?_⟩ ?_
      · simp only [go_sem, beq_true, beq_false, Bool.true_beq, Bool.false_beq, Bool.bne_true, Bool.bne_false, Bool.true_bne, Bool.false_bne, Option.isSome_none, ne_eq, Int.cast_ofNat_Int, ↓reduceIte, reduceCtorEq, Nat.reduceBEq, Nat.reduceEqDiff, Nat.reduceLT, Nat.reduceLeDiff, Nat.reduceAdd, Nat.reduceMul, Nat.reducePow, Nat.reduceSub, Int.reduceEq, Int.reduceLT, Int.reduceLE, Int.reduceToNat, Int.reduceMul, Int.reduceNeg, Int.reduceAdd, Int.reduceSub]
        try exact rfl
      rintro n f g hL hG ⟨i, hn1, hil, hall, hf14⟩ ih2
      (simp only [sameOn_cons, sameOn_one, sameOn_nil] at hL hG; (try simp only [go_sem, beq_true, beq_false, Bool.true_beq, Bool.false_beq, Bool.bne_true, Bool.bne_false, Bool.true_bne, Bool.false_bne, Option.isSome_none, ne_eq, Int.cast_ofNat_Int, ↓reduceIte, reduceCtorEq, Nat.reduceBEq, Nat.reduceEqDiff, Nat.reduceLT, Nat.reduceLeDiff, Nat.reduceAdd, Nat.reduceMul, Nat.reducePow, Nat.reduceSub, Int.reduceEq, Int.reduceLT, Int.reduceLE, Int.reduceToNat, Int.reduceMul, Int.reduceNeg, Int.reduceAdd, Int.reduceSub] at hL); (try simp only [go_sem, beq_true, beq_false, Bool.true_beq, Bool.false_beq, Bool.bne_true, Bool.bne_false, Bool.true_bne, Bool.false_bne, Option.isSome_none, ne_eq, Int.cast_ofNat_Int, ↓reduceIte, reduceCtorEq, Nat.reduceBEq, Nat.reduceEqDiff, Nat.reduceLT, Nat.reduceLeDiff, Nat.reduceAdd, Nat.reduceMul, Nat.reducePow, Nat.reduceSub, Int.reduceEq, Int.reduceLT, Int.reduceLE, Int.reduceToNat, Int.reduceMul, Int.reduceNeg, Int.reduceAdd, Int.reduceSub] at hG))
      rcases Nat.lt_or_ge i row.length with h | h
      · have ga : row[i]? = some row[i] := List.getElem?_eq_getElem h
        have e7 := hmay _ (List.getElem_mem h)
        have hall2 : mayV row[i] = true → ∀ v ∈ row.take (i + 1), mayV v = true := fun hm v hv => by
          rw [List.take_add_one, ga, List.mem_append] at hv
          rcases hv with hv | hv
          · exact hall v hv
          · have : v = row[i] := by simpa using hv
            rw [this]; exact hm
        clear hmay hback hall hi v1 v2 v4 v5
        generalize mayV row[i] = b at *
        generalize row[i] = v at *
        obtain ⟨a1, a2, a3⟩ := v
        have gm : (row.map valCells)[i]? = some [.v (.int .u8 a1), .v (.int .i64 a2), .v (.string a3)] := by rw [List.getElem?_map, ga]; rfl
        rw [show valCells ⟨a1, a2, a3⟩ = [.v (.int .u8 a1), .v (.int .i64 a2), .v (.string a3)] from rfl] at e7
        cases b with
        | false =>
          clear hall2
          repeat' (first | (intro hc; (try simp only [bne_eq_false_iff_eq, bne_iff_ne, beq_iff_eq, beq_eq_false_iff_ne, Bool.not_eq_true', Bool.not_eq_false', decide_eq_true_eq, decide_eq_false_iff_not] at hc); (try replace hc := eq_true (show (_ : ByteArray) = _ from hc)); (try (exfalso; first | omega | exact hc trivial | exact hc))) | refine And.intro (show okTr _ _ = true by kernel_rfl) ?_ | refine And.intro ?_ ?_ | refine stp_guard ?_ ?_ | refine stq_guard ?_ ?_ | refine dwp_seq ?_ | refine dwp_block ?_ | ((first | refine dwp_region ?_ | refine dwp_any ?_ | refine dwp_skip ?_ | refine dwp_exit ?_ | refine dwp_ret ?_ | refine dwp_if ?_ | skip); (simp only [go_sem, beq_true, beq_false, Bool.true_beq, Bool.false_beq, Bool.bne_true, Bool.bne_false, Bool.true_bne, Bool.false_bne, Option.isSome_none, ne_eq, Int.cast_ofNat_Int, ↓reduceIte, reduceCtorEq, Nat.reduceBEq, Nat.reduceEqDiff, Nat.reduceLT, Nat.reduceLeDiff, Nat.reduceAdd, Nat.reduceMul, Nat.reducePow, Nat.reduceSub, Int.reduceEq, Int.reduceLT, Int.reduceLE, Int.reduceToNat, Int.reduceMul, Int.reduceNeg, Int.reduceAdd, Int.reduceSub, *]; try simp (disch := (first | omega | (simp only [ByteArray.size_append, bs_size, lit_size, cut_size, List.length_append, List.length_cons, List.length_nil]; omega))) only [sls2S, sls_lS, sls_hS, bop_sadd, List.length_drop, List.length_take, List.length_append, ite_ok, w_i64, w_u64, w_u8, w_u32, w_u16, w_i32, room_le, tm_nn, td_nn, nsucc, inx_strS, ix1, cut_size])) | simp (disch := (first | omega | (simp only [ByteArray.size_append, bs_size, lit_size, cut_size, List.length_append, List.length_cons, List.length_nil]; omega))) only [sls2S, sls_lS, sls_hS, bop_sadd, List.length_drop, List.length_take, List.length_append, ite_ok, w_i64, w_u64, w_u8, w_u32, w_u16, w_i32, room_le, tm_nn, td_nn, nsucc, inx_strS, ix1, cut_size])
        | true =>
          have hall2 := hall2 rfl
          repeat' (first | (intro hc; (try simp only [bne_eq_false_iff_eq, bne_iff_ne, beq_iff_eq, beq_eq_false_iff_ne, Bool.not_eq_true', Bool.not_eq_false', decide_eq_true_eq, decide_eq_false_iff_not] at hc); (try replace hc := eq_true (show (_ : ByteArray) = _ from hc)); (try (exfalso; first | omega | exact hc trivial | exact hc))) | refine And.intro (show okTr _ _ = true by kernel_rfl) ?_ | refine And.intro ?_ ?_ | refine stp_guard ?_ ?_ | refine stq_guard ?_ ?_ | refine dwp_seq ?_ | refine dwp_block ?_ | ((first | refine dwp_region ?_ | refine dwp_any ?_ | refine dwp_skip ?_ | refine dwp_exit ?_ | refine dwp_ret ?_ | refine dwp_if ?_ | skip); (simp only [go_sem, beq_true, beq_false, Bool.true_beq, Bool.false_beq, Bool.bne_true, Bool.bne_false, Bool.true_bne, Bool.false_bne, Option.isSome_none, ne_eq, Int.cast_ofNat_Int, ↓reduceIte, reduceCtorEq, Nat.reduceBEq, Nat.reduceEqDiff, Nat.reduceLT, Nat.reduceLeDiff, Nat.reduceAdd, Nat.reduceMul, Nat.reducePow, Nat.reduceSub, Int.reduceEq, Int.reduceLT, Int.reduceLE, Int.reduceToNat, Int.reduceMul, Int.reduceNeg, Int.reduceAdd, Int.reduceSub, *]; try simp (disch := (first | omega | (simp only [ByteArray.size_append, bs_size, lit_size, cut_size, List.length_append, List.length_cons, List.length_nil]; omega))) only [sls2S, sls_lS, sls_hS, bop_sadd, List.length_drop, List.length_take, List.length_append, ite_ok, w_i64, w_u64, w_u8, w_u32, w_u16, w_i32, room_le, tm_nn, td_nn, nsucc, inx_strS, ix1, cut_size])) | simp (disch := (first | omega | (simp only [ByteArray.size_append, bs_size, lit_size, cut_size, List.length_append, List.length_cons, List.length_nil]; omega))) only [sls2S, sls_lS, sls_hS, bop_sadd, List.length_drop, List.length_take, List.length_append, ite_ok, w_i64, w_u64, w_u8, w_u32, w_u16, w_i32, room_le, tm_nn, td_nn, nsucc, inx_strS, ix1, cut_size])
          refine ih2 _ _ _ ?_ ?_ ?_ ⟨i + 1, rfl, by omega, hall2, ?_⟩
          · omega
          · (simp only [sameOn_cons, sameOn_one, sameOn_nil]; (try simp only [go_sem, beq_true, beq_false, Bool.true_beq, Bool.false_beq, Bool.bne_true, Bool.bne_false, Bool.true_bne, Bool.false_bne, Option.isSome_none, ne_eq, Int.cast_ofNat_Int, ↓reduceIte, reduceCtorEq, Nat.reduceBEq, Nat.reduceEqDiff, Nat.reduceLT, Nat.reduceLeDiff, Nat.reduceAdd, Nat.reduceMul, Nat.reducePow, Nat.reduceSub, Int.reduceEq, Int.reduceLT, Int.reduceLE, Int.reduceToNat, Int.reduceMul, Int.reduceNeg, Int.reduceAdd, Int.reduceSub, *]); (try trivial))
          · (simp only [sameOn_cons, sameOn_one, sameOn_nil]; (try simp only [go_sem, beq_true, beq_false, Bool.true_beq, Bool.false_beq, Bool.bne_true, Bool.bne_false, Bool.true_bne, Bool.false_bne, Option.isSome_none, ne_eq, Int.cast_ofNat_Int, ↓reduceIte, reduceCtorEq, Nat.reduceBEq, Nat.reduceEqDiff, Nat.reduceLT, Nat.reduceLeDiff, Nat.reduceAdd, Nat.reduceMul, Nat.reducePow, Nat.reduceSub, Int.reduceEq, Int.reduceLT, Int.reduceLE, Int.reduceToNat, Int.reduceMul, Int.reduceNeg, Int.reduceAdd, Int.reduceSub, *]); (try trivial))
          · simp only [go_sem, beq_true, beq_false, Bool.true_beq, Bool.false_beq, Bool.bne_true, Bool.bne_false, Bool.true_bne, Bool.false_bne, Option.isSome_none, ne_eq, Int.cast_ofNat_Int, ↓reduceIte, reduceCtorEq, Nat.reduceBEq, Nat.reduceEqDiff, Nat.reduceLT, Nat.reduceLeDiff, Nat.reduceAdd, Nat.reduceMul, Nat.reducePow, Nat.reduceSub, Int.reduceEq, Int.reduceLT, Int.reduceLE, Int.reduceToNat, Int.reduceMul, Int.reduceNeg, Int.reduceAdd, Int.reduceSub]
            try omega
      · obtain rfl : i = row.length := by omega
        rw [List.take_length] at hall
        rcases Nat.eq_zero_or_pos row.length with h0 | h0
        · clear hmay hback hall hi v1 v2 v4
          repeat' (first | (intro hc; (try simp only [bne_eq_false_iff_eq, bne_iff_ne, beq_iff_eq, beq_eq_false_iff_ne, Bool.not_eq_true', Bool.not_eq_false', decide_eq_true_eq, decide_eq_false_iff_not] at hc); (try replace hc := eq_true (show (_ : ByteArray) = _ from hc)); (try (exfalso; first | omega | exact hc trivial | exact hc))) | refine And.intro (show okTr _ _ = true by kernel_rfl) ?_ | refine And.intro ?_ ?_ | refine stp_guard ?_ ?_ | refine stq_guard ?_ ?_ | refine dwp_seq ?_ | refine dwp_block ?_ | ((first | refine dwp_region ?_ | refine dwp_any ?_ | refine dwp_skip ?_ | refine dwp_exit ?_ | refine dwp_ret ?_ | refine dwp_if ?_ | skip); (simp only [go_sem, beq_true, beq_false, Bool.true_beq, Bool.false_beq, Bool.bne_true, Bool.bne_false, Bool.true_bne, Bool.false_bne, Option.isSome_none, ne_eq, Int.cast_ofNat_Int, ↓reduceIte, reduceCtorEq, Nat.reduceBEq, Nat.reduceEqDiff, Nat.reduceLT, Nat.reduceLeDiff, Nat.reduceAdd, Nat.reduceMul, Nat.reducePow, Nat.reduceSub, Int.reduceEq, Int.reduceLT, Int.reduceLE, Int.reduceToNat, Int.reduceMul, Int.reduceNeg, Int.reduceAdd, Int.reduceSub, *]; try simp (disch := (first | omega | (simp only [ByteArray.size_append, bs_size, lit_size, cut_size, List.length_append, List.length_cons, List.length_nil]; omega))) only [sls2S, sls_lS, sls_hS, bop_sadd, List.length_drop, List.length_take, List.length_append, ite_ok, w_i64, w_u64, w_u8, w_u32, w_u16, w_i32, room_le, tm_nn, td_nn, nsucc, inx_strS, ix1, cut_size])) | simp (disch := (first | omega | (simp only [ByteArray.size_append, bs_size, lit_size, cut_size, List.length_append, List.length_cons, List.length_nil]; omega))) only [sls2S, sls_lS, sls_hS, bop_sadd, List.length_drop, List.length_take, List.length_append, ite_ok, w_i64, w_u64, w_u8, w_u32, w_u16, w_i32, room_le, tm_nn, td_nn, nsucc, inx_strS, ix1, cut_size])
        · have hback := hback (fun h => by rw [h] at h0; exact absurd h0 (Nat.lt_irrefl 0)) (fun v hv => ⟨hi v hv, hall v hv⟩)
          clear hmay hall hi v1 v2 v4
          repeat' (first | (intro hc; (try simp only [bne_eq_false_iff_eq, bne_iff_ne, beq_iff_eq, beq_eq_false_iff_ne, Bool.not_eq_true', Bool.not_eq_false', decide_eq_true_eq, decide_eq_false_iff_not] at hc); (try replace hc := eq_true (show (_ : ByteArray) = _ from hc)); (try (exfalso; first | omega | exact hc trivial | exact hc))) | refine And.intro (show okTr _ _ = true by kernel_rfl) ?_ | refine And.intro ?_ ?_ | refine stp_guard ?_ ?_ | refine stq_guard ?_ ?_ | refine dwp_seq ?_ | refine dwp_block ?_ | ((first | refine dwp_region ?_ | refine dwp_any ?_ | refine dwp_skip ?_ | refine dwp_exit ?_ | refine dwp_ret ?_ | refine dwp_if ?_ | skip); (simp only [go_sem, beq_true, beq_false, Bool.true_beq, Bool.false_beq, Bool.bne_true, Bool.bne_false, Bool.true_bne, Bool.false_bne, Option.isSome_none, ne_eq, Int.cast_ofNat_Int, ↓reduceIte, reduceCtorEq, Nat.reduceBEq, Nat.reduceEqDiff, Nat.reduceLT, Nat.reduceLeDiff, Nat.reduceAdd, Nat.reduceMul, Nat.reducePow, Nat.reduceSub, Int.reduceEq, Int.reduceLT, Int.reduceLE, Int.reduceToNat, Int.reduceMul, Int.reduceNeg, Int.reduceAdd, Int.reduceSub, *]; try simp (disch := (first | omega | (simp only [ByteArray.size_append, bs_size, lit_size, cut_size, List.length_append, List.length_cons, List.length_nil]; omega))) only [sls2S, sls_lS, sls_hS, bop_sadd, List.length_drop, List.length_take, List.length_append, ite_ok, w_i64, w_u64, w_u8, w_u32, w_u16, w_i32, room_le, tm_nn, td_nn, nsucc, inx_strS, ix1, cut_size])) | simp (disch := (first | omega | (simp only [ByteArray.size_append, bs_size, lit_size, cut_size, List.length_append, List.length_cons, List.length_nil]; omega))) only [sls2S, sls_lS, sls_hS, bop_sadd, List.length_drop, List.length_take, List.length_append, ite_ok, w_i64, w_u64, w_u8, w_u32, w_u16, w_i32, room_le, tm_nn, td_nn, nsucc, inx_strS, ix1, cut_size])
theorem i64_of {n : Int} (h : (Lit.int .i64 n).wf = true) : in64 n := by
  have := wf_i64 h
  exact ⟨this.1, by have := this.2; omega⟩
theorem opr_value : ∀ m, OpR Tryd.prog 55 valCells (fun v => in64 v.int) m
  | 0 => opr_zero
  | m + 1 => opr_map (opr_struct Tryd.underlying55 (by kernel_rfl) (fsr_cons (k := 1) (opr_int Tryd.underlying5 m) (by kernel_rfl) (fsr_cons (k := 1) (opr_int Tryd.underlying2 m) (by kernel_rfl) (fsr_one (n := 1) (opr_string Tryd.underlying9 m) (by kernel_rfl)) rfl) rfl)) (fun y => (⟨y.1, y.2.1, y.2.2⟩ : Val)) (fun y => rfl) (fun y h => i64_of h.2.1)
theorem opr_row (m : Nat) : OpR Tryd.prog 49 rowC (fun l => l.length ≤ 140737488351232 ∧ ∀ v ∈ l, in64 v.int) m :=
  opr_slice (k := 3) Tryd.underlying49 (by kernel_rfl) (by decide) (of_decide_eq_true (by kernel_rfl)) (fun _ => rfl) (fun _ => rfl) m (opr_value m)
theorem explainValues_ok (s : ByteArray) (row : List Val) (hs : s.size ≤ 140737488351232) (hr : row.length ≤ 140737488351232 ∧ ∀ v ∈ row, in64 v.int) : FF 5 [.v (.string s), .sl (row.map valCells)] = some (.v (.bool true)) :=
  explainValues s row (Nat.le_trans hs (by decide)) (Nat.le_trans hr.1 (by decide)) hr.2
end Go.Proofs.YtjdkcedhmfgmoaaDoor
