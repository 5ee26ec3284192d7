/- What is behind a key (the session's own words). -/
import Derived.Test.YtjdmjofkibiaaaaGreatDoorSi
namespace Go.Proofs.YtjdmjofkibiaaaaGreatDoor
open Go Go.Eng Go.Proofs
set_option linter.unusedVariables false
set_option linter.unusedSimpArgs false
set_option maxRecDepth 100000
set_option maxHeartbeats 8000000
theorem at_last (q : List UInt8) (x : UInt8) : inx Tryz.prog 9 (.string (bs (q ++ [x]))) (.int .i64 (((bs (q ++ [x])).size : Int) - 1)) = some (.int .u8 (x.toNat : Int)) := by
  have e : ((bs (q ++ [x])).size : Int) - 1 = ((q.length : Nat) : Int) := by rw [bs_size, List.length_append]; simp
  rw [e, inx_str Tryz.underlying9 _ _ _ (by rw [bs_size, List.length_append]; simp)]
  rw [bt_get _ _ (by rw [bs_size, List.length_append]; simp)]
  have : ∀ (l : List UInt8) (h : q.length < l.length), l = q ++ [x] → l[q.length] = x := fun l h e => by subst e; simp
  exact congrArg (fun c : UInt8 => some (Value.int .u8 (c.toNat : Int))) (this _ _ rfl)
theorem cut_last (q : List UInt8) (x : UInt8) : cut (bs (q ++ [x])) 0 (((bs (q ++ [x])).size : Int) - 1).toNat = bs q := by
  have e : ((bs (q ++ [x])).size : Int) - 1 = ((q.length : Nat) : Int) := by rw [bs_size, List.length_append]; simp
  rw [e, Int.toNat_natCast, cut_bs]
  simp
theorem cells_last (q : List UInt8) (x : UInt8) : (strEs (bs (q ++ [x]))).flatten = (q.map fun c => D.v (.int .u8 (c.toNat : Int))) ++ [.v (.int .u8 (x.toNat : Int))] := by
  rw [strEs_byD]
  show ((q ++ [x]).map byD).flatten = _
  rw [List.map_append, List.flatten_append]
  congr 1
  induction q with
  | nil => rfl
  | cons a q ih => rw [List.map_cons, List.flatten_cons, ih]; rfl
theorem byC_flat (l : List UInt8) : (byC l).flatten = l.map fun c => D.v (.int .u8 (c.toNat : Int)) := by
  induction l with
  | nil => rfl
  | cons a l ih => rw [byC_cons, List.flatten_cons, ih]; rfl
theorem set_last (q : List UInt8) (x y : UInt8) : setCells (strEs (bs (q ++ [x]))).flatten q.length [.v (.int .u8 (y.toNat : Int))] = (byC (q ++ [y])).flatten := by
  rw [cells_last, byC_flat, List.map_append]
  unfold setCells
  rw [List.take_left' (by simp), List.drop_of_length_le (by simp)]
  simp
theorem bs_ne (q : List UInt8) (x : UInt8) : (bs (q ++ [x]) = ⟨#[]⟩) = False := by
  refine eq_false fun h => ?_
  have h2 := congrArg ByteArray.size h
  rw [bs_size, List.length_append, List.length_cons] at h2
  exact absurd h2 (by show ¬ _ = 0; omega)
theorem behind92 (p : List UInt8) (d : UInt8) (hd : d ≠ 255) (m : Nat) (hp : p.length + m ≤ 1000) : FF 92 [.v (.string (bs (p ++ d :: List.replicate m 255)))] = some (.tup [.v (.string (bs (p ++ [d + 1]))), .v (.bool true)]) := by
  refine FF_val Tryz.func92 rfl rfl ?_
  simp only [Tryz.ntmps92, Tryz.results92]
  repeat' (first | (intro hc; (try simp only [bne_eq_false_iff_eq, bne_iff_ne, beq_iff_eq, beq_eq_false_iff_ne, Bool.not_eq_true', Bool.not_eq_false', decide_eq_true_eq, decide_eq_false_iff_not] at hc); (try replace hc := eq_true (show (_ : ByteArray) = _ from hc)); (try (exfalso; first | omega | exact hc trivial | exact hc))) | refine And.intro (show okTr _ _ = true by kernel_rfl) ?_ | refine And.intro ?_ ?_ | refine stp_guard ?_ ?_ | refine stq_guard ?_ ?_ | refine dwp_seq ?_ | refine dwp_block ?_ | ((first | refine dwp_region ?_ | refine dwp_any ?_ | refine dwp_skip ?_ | refine dwp_exit ?_ | refine dwp_ret ?_ | refine dwp_if ?_ | skip); (simp only [go_sem, beq_true, beq_false, Bool.true_beq, Bool.false_beq, Bool.bne_true, Bool.bne_false, Bool.true_bne, Bool.false_bne, Option.isSome_none, ne_eq, Int.cast_ofNat_Int, ↓reduceIte, reduceCtorEq, Nat.reduceBEq, Nat.reduceEqDiff, Nat.reduceLT, Nat.reduceLeDiff, Nat.reduceAdd, Nat.reduceMul, Nat.reducePow, Nat.reduceSub, Int.reduceEq, Int.reduceLT, Int.reduceLE, Int.reduceToNat, Int.reduceMul, Int.reduceNeg, Int.reduceAdd, Int.reduceSub, *]; try simp (disch := (first | omega | (simp only [ByteArray.size_append, bs_size, lit_size, cut_size, List.length_append, List.length_cons, List.length_nil]; omega))) only [sls2S, sls_lS, sls_hS, bop_sadd, List.length_drop, List.length_take, List.length_append, ite_ok, w_i64, w_u64, w_u8, w_u32, w_u16, w_i32, room_le, tm_nn, td_nn, nsucc, apSK_ok])) | simp (disch := (first | omega | (simp only [ByteArray.size_append, bs_size, lit_size, cut_size, List.length_append, List.length_cons, List.length_nil]; omega))) only [sls2S, sls_lS, sls_hS, bop_sadd, List.length_drop, List.length_take, List.length_append, ite_ok, w_i64, w_u64, w_u8, w_u32, w_u16, w_i32, room_le, tm_nn, td_nn, nsucc, apSK_ok])
  refine dwp_indL [2, 3] [] (fun n f g => n ≤ m ∧ f 0 = .v (.string (bs (p ++ d :: List.replicate n 255)))) _ ⟨Nat.le_refl m, ?_⟩ ?_
  · simp only [go_sem, beq_true, beq_false, Bool.true_beq, Bool.false_beq, Bool.bne_true, Bool.bne_false, Bool.true_bne, Bool.false_bne, Option.isSome_none, ne_eq, Int.cast_ofNat_Int, ↓reduceIte, reduceCtorEq, Nat.reduceBEq, Nat.reduceEqDiff, Nat.reduceLT, Nat.reduceLeDiff, Nat.reduceAdd, Nat.reduceMul, Nat.reducePow, Nat.reduceSub, Int.reduceEq, Int.reduceLT, Int.reduceLE, Int.reduceToNat, Int.reduceMul, Int.reduceNeg, Int.reduceAdd, Int.reduceSub]
    try exact rfl
  rintro n f g hL hG ⟨hn, hf0⟩ ih2
  (simp only [sameOn_cons, sameOn_one, sameOn_nil] at hL hG; (try simp only [go_sem, beq_true, beq_false, Bool.true_beq, Bool.false_beq, Bool.bne_true, Bool.bne_false, Bool.true_bne, Bool.false_bne, Option.isSome_none, ne_eq, Int.cast_ofNat_Int, ↓reduceIte, reduceCtorEq, Nat.reduceBEq, Nat.reduceEqDiff, Nat.reduceLT, Nat.reduceLeDiff, Nat.reduceAdd, Nat.reduceMul, Nat.reducePow, Nat.reduceSub, Int.reduceEq, Int.reduceLT, Int.reduceLE, Int.reduceToNat, Int.reduceMul, Int.reduceNeg, Int.reduceAdd, Int.reduceSub] at hL); (try simp only [go_sem, beq_true, beq_false, Bool.true_beq, Bool.false_beq, Bool.bne_true, Bool.bne_false, Bool.true_bne, Bool.false_bne, Option.isSome_none, ne_eq, Int.cast_ofNat_Int, ↓reduceIte, reduceCtorEq, Nat.reduceBEq, Nat.reduceEqDiff, Nat.reduceLT, Nat.reduceLeDiff, Nat.reduceAdd, Nat.reduceMul, Nat.reducePow, Nat.reduceSub, Int.reduceEq, Int.reduceLT, Int.reduceLE, Int.reduceToNat, Int.reduceMul, Int.reduceNeg, Int.reduceAdd, Int.reduceSub] at hG))
  cases n with
  | succ n =>
    have e : p ++ d :: List.replicate (n + 1) 255 = (p ++ d :: List.replicate n 255) ++ [255] := by rw [List.replicate_succ']; simp
    rw [e] at hf0
    have h1 : inx Tryz.prog 9 (.string (bs ((p ++ d :: List.replicate n 255) ++ [255]))) (.int .i64 (((bs ((p ++ d :: List.replicate n 255) ++ [255])).size : Int) - 1)) = some (.int .u8 255) := at_last (p ++ d :: List.replicate n 255) 255
    have h2 := cut_last (p ++ d :: List.replicate n 255) 255
    have h3 := bs_ne (p ++ d :: List.replicate n 255) 255
    have h0 : 1 ≤ (bs ((p ++ d :: List.replicate n 255) ++ [255])).size ∧ (bs ((p ++ d :: List.replicate n 255) ++ [255])).size ≤ 2000 := by
      rw [bs_size, List.length_append, List.length_append, List.length_cons, List.length_cons, List.length_replicate]
      simp; omega
    generalize hs : bs ((p ++ d :: List.replicate n 255) ++ [255]) = s at *
    clear hs e
    repeat' (first | (intro hc; (try simp only [bne_eq_false_iff_eq, bne_iff_ne, beq_iff_eq, beq_eq_false_iff_ne, Bool.not_eq_true', Bool.not_eq_false', decide_eq_true_eq, decide_eq_false_iff_not] at hc); (try replace hc := eq_true (show (_ : ByteArray) = _ from hc)); (try (exfalso; first | omega | exact hc trivial | exact hc))) | refine And.intro (show okTr _ _ = true by kernel_rfl) ?_ | refine And.intro ?_ ?_ | refine stp_guard ?_ ?_ | refine stq_guard ?_ ?_ | refine dwp_seq ?_ | refine dwp_block ?_ | ((first | refine dwp_region ?_ | refine dwp_any ?_ | refine dwp_skip ?_ | refine dwp_exit ?_ | refine dwp_ret ?_ | refine dwp_if ?_ | skip); (simp only [go_sem, beq_true, beq_false, Bool.true_beq, Bool.false_beq, Bool.bne_true, Bool.bne_false, Bool.true_bne, Bool.false_bne, Option.isSome_none, ne_eq, Int.cast_ofNat_Int, ↓reduceIte, reduceCtorEq, Nat.reduceBEq, Nat.reduceEqDiff, Nat.reduceLT, Nat.reduceLeDiff, Nat.reduceAdd, Nat.reduceMul, Nat.reducePow, Nat.reduceSub, Int.reduceEq, Int.reduceLT, Int.reduceLE, Int.reduceToNat, Int.reduceMul, Int.reduceNeg, Int.reduceAdd, Int.reduceSub, *]; try simp (disch := (first | omega | (simp only [ByteArray.size_append, bs_size, lit_size, cut_size, List.length_append, List.length_cons, List.length_nil]; omega))) only [sls2S, sls_lS, sls_hS, bop_sadd, List.length_drop, List.length_take, List.length_append, ite_ok, w_i64, w_u64, w_u8, w_u32, w_u16, w_i32, room_le, tm_nn, td_nn, nsucc, apSK_ok])) | simp (disch := (first | omega | (simp only [ByteArray.size_append, bs_size, lit_size, cut_size, List.length_append, List.length_cons, List.length_nil]; omega))) only [sls2S, sls_lS, sls_hS, bop_sadd, List.length_drop, List.length_take, List.length_append, ite_ok, w_i64, w_u64, w_u8, w_u32, w_u16, w_i32, room_le, tm_nn, td_nn, nsucc, apSK_ok])
    refine ih2 n _ _ ?_ ?_ ?_ ⟨?_, ?_⟩
    · omega
    · (simp only [sameOn_cons, sameOn_one, sameOn_nil]; (try simp only [go_sem, beq_true, beq_false, Bool.true_beq, Bool.false_beq, Bool.bne_true, Bool.bne_false, Bool.true_bne, Bool.false_bne, Option.isSome_none, ne_eq, Int.cast_ofNat_Int, ↓reduceIte, reduceCtorEq, Nat.reduceBEq, Nat.reduceEqDiff, Nat.reduceLT, Nat.reduceLeDiff, Nat.reduceAdd, Nat.reduceMul, Nat.reducePow, Nat.reduceSub, Int.reduceEq, Int.reduceLT, Int.reduceLE, Int.reduceToNat, Int.reduceMul, Int.reduceNeg, Int.reduceAdd, Int.reduceSub, *]); (try trivial))
    · (simp only [sameOn_cons, sameOn_one, sameOn_nil]; (try simp only [go_sem, beq_true, beq_false, Bool.true_beq, Bool.false_beq, Bool.bne_true, Bool.bne_false, Bool.true_bne, Bool.false_bne, Option.isSome_none, ne_eq, Int.cast_ofNat_Int, ↓reduceIte, reduceCtorEq, Nat.reduceBEq, Nat.reduceEqDiff, Nat.reduceLT, Nat.reduceLeDiff, Nat.reduceAdd, Nat.reduceMul, Nat.reducePow, Nat.reduceSub, Int.reduceEq, Int.reduceLT, Int.reduceLE, Int.reduceToNat, Int.reduceMul, Int.reduceNeg, Int.reduceAdd, Int.reduceSub, *]); (try trivial))
    · omega
    · simp only [go_sem, beq_true, beq_false, Bool.true_beq, Bool.false_beq, Bool.bne_true, Bool.bne_false, Bool.true_bne, Bool.false_bne, Option.isSome_none, ne_eq, Int.cast_ofNat_Int, ↓reduceIte, reduceCtorEq, Nat.reduceBEq, Nat.reduceEqDiff, Nat.reduceLT, Nat.reduceLeDiff, Nat.reduceAdd, Nat.reduceMul, Nat.reducePow, Nat.reduceSub, Int.reduceEq, Int.reduceLT, Int.reduceLE, Int.reduceToNat, Int.reduceMul, Int.reduceNeg, Int.reduceAdd, Int.reduceSub]
      try rw [h2]
  | zero =>
    rw [List.replicate_zero] at hf0
    have h1 := at_last p d
    have h3 := bs_ne p d
    have h4 : ¬ (d.toNat : Int) = 255 := fun h => hd (UInt8.toNat_inj.1 (by show d.toNat = 255; omega))
    have h0 : 1 ≤ (bs (p ++ [d])).size ∧ (bs (p ++ [d])).size ≤ 2000 := by
      rw [bs_size, List.length_append, List.length_cons]
      simp; omega
    have hk : (((bs (p ++ [d])).size : Int) - 1).toNat = p.length := by rw [bs_size, List.length_append]; simp
    have hc : Hid (_ = _) := cells_last p d
    have hz : Hid ((bs (p ++ [d])).size = p.length + 1) := by show _ = _; rw [bs_size, List.length_append]; rfl
    have hg1 : (strEs (bs (p ++ [d]))).flatten[p.length]? = some (.v (.int .u8 (d.toNat : Int))) := by rw [hc]; simp
    have hln : (strEs (bs (p ++ [d]))).flatten.length = p.length + 1 := by rw [cells_last]; simp
    have hd1 : (d + 1).toNat = d.toNat + 1 := by
      have h2 := d.toNat_lt
      have h3 : d.toNat ≠ 255 := fun e => hd (UInt8.toNat_inj.1 e)
      rw [UInt8.toNat_add]
      show (d.toNat + 1) % 256 = _
      omega
    have hwr : IntKind.u8.wrap ((d.toNat + 1 : Nat) : Int) = ((d + 1).toNat : Int) := by
      have h2 := d.toNat_lt
      have h3 : d.toNat ≠ 255 := fun e => hd (UInt8.toNat_inj.1 e)
      rw [hd1]
      simp only [IntKind.wrap, IntKind.bits, IntKind.signed]
      simp
      omega
    have hst := set_last p d (d + 1)
    rw [hd1] at hst
    have hY : (byC (p ++ [d + 1])).flatten.length = (bs (p ++ [d])).size := by rw [byC_flat]; simp [bs_size]
    have hC : bytN (chunks 1 (bs (p ++ [d])).size (byC (p ++ [d + 1])).flatten) = some ((p ++ [d + 1]).map fun c => (c.toNat : Int)) := by
      have := chunks_flat (k := 1) (byC (p ++ [d + 1])) (fun e he => by unfold byC at he; simp only [List.mem_map] at he; obtain ⟨a, _, rfl⟩ := he; rfl)
      rw [show (byC (p ++ [d + 1])).length = (bs (p ++ [d])).size by rw [byC_len]; simp [bs_size]] at this
      rw [this, byC_N]
    generalize (byC (p ++ [d + 1])).flatten = Y at *
    have hY : (bs (p ++ [d])).size ≤ Y.length := Nat.le_of_eq hY.symm
    have hd1 : Hid (_ = _) := hd1
    generalize hs : bs (p ++ [d]) = s at *
    repeat' (first | (intro hc; (try simp only [bne_eq_false_iff_eq, bne_iff_ne, beq_iff_eq, beq_eq_false_iff_ne, Bool.not_eq_true', Bool.not_eq_false', decide_eq_true_eq, decide_eq_false_iff_not] at hc); (try replace hc := eq_true (show (_ : ByteArray) = _ from hc)); (try (exfalso; first | omega | exact hc trivial | exact hc))) | refine And.intro (show okTr _ _ = true by kernel_rfl) ?_ | refine And.intro ?_ ?_ | refine stp_guard ?_ ?_ | refine stq_guard ?_ ?_ | refine dwp_seq ?_ | refine dwp_block ?_ | ((first | refine dwp_region ?_ | refine dwp_any ?_ | refine dwp_skip ?_ | refine dwp_exit ?_ | refine dwp_ret ?_ | refine dwp_if ?_ | skip); (simp only [go_sem, beq_true, beq_false, Bool.true_beq, Bool.false_beq, Bool.bne_true, Bool.bne_false, Bool.true_bne, Bool.false_bne, Option.isSome_none, ne_eq, Int.cast_ofNat_Int, ↓reduceIte, reduceCtorEq, Nat.reduceBEq, Nat.reduceEqDiff, Nat.reduceLT, Nat.reduceLeDiff, Nat.reduceAdd, Nat.reduceMul, Nat.reducePow, Nat.reduceSub, Int.reduceEq, Int.reduceLT, Int.reduceLE, Int.reduceToNat, Int.reduceMul, Int.reduceNeg, Int.reduceAdd, Int.reduceSub, *]; try simp (disch := (first | omega | (simp only [ByteArray.size_append, bs_size, lit_size, cut_size, List.length_append, List.length_cons, List.length_nil]; omega))) only [sls2S, sls_lS, sls_hS, bop_sadd, List.length_drop, List.length_take, List.length_append, ite_ok, w_i64, w_u64, w_u8, w_u32, w_u16, w_i32, room_le, tm_nn, td_nn, nsucc, apSK_ok])) | simp (disch := (first | omega | (simp only [ByteArray.size_append, bs_size, lit_size, cut_size, List.length_append, List.length_cons, List.length_nil]; omega))) only [sls2S, sls_lS, sls_hS, bop_sadd, List.length_drop, List.length_take, List.length_append, ite_ok, w_i64, w_u64, w_u8, w_u32, w_u16, w_i32, room_le, tm_nn, td_nn, nsucc, apSK_ok])
    rfl
end Go.Proofs.YtjdmjofkibiaaaaGreatDoor
