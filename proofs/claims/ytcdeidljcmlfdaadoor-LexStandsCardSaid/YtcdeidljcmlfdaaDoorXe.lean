/- Lexing: signs (the session's own words). -/
import Derived.Test.YtcdeidljcmlfdaaDoorXd
namespace Go.Proofs.YtcdeidljcmlfdaaDoor
open Go Go.Eng Go.Proofs
set_option linter.unusedVariables false
set_option linter.unusedSimpArgs false
set_option maxRecDepth 100000
set_option maxHeartbeats 8000000
theorem prefX (s p : ByteArray) (h2 : p.size = 2) (hs : s.size ≤ 5000) : FF 34 [.v (.string s), .v (.string p)] = some (.v (.bool (decide (2 ≤ s.size) && decide (cut s 0 2 = p)))) := by
  have hp2 : ((p.size : Nat) : Int) = 2 := by omega
  have hf : FF 45 [.v (.string s), .v (.string p)] = some (.v (.bool (decide (2 ≤ s.size) && decide (cut s 0 2 = p)))) := by
    clear h2
    refine FF_val Tryd.func45 rfl rfl ?_
    simp only [Tryd.ntmps45, Tryd.results45]
    by_cases h : 2 ≤ s.size
    · have h' : (2 : Int) ≤ (s.size : Int) := by omega
      have t2 : (2 : Int).toNat = 2 := rfl
      by_cases he : cut s 0 2 = p
      · rw [decide_eq_true h, decide_eq_true he]
        replace he := eq_true he
        repeat' (first | (intro hc; (try simp only [bne_eq_false_iff_eq, bne_iff_ne, beq_iff_eq, beq_eq_false_iff_ne, Bool.not_eq_true', Bool.not_eq_false', decide_eq_true_eq, decide_eq_false_iff_not] at hc); (try replace hc := eq_true (show (_ : ByteArray) = _ from hc)); (try (exfalso; first | omega | exact hc trivial | exact hc))) | refine And.intro (show okTr _ _ = true by kernel_rfl) ?_ | refine And.intro ?_ ?_ | refine stp_guard ?_ ?_ | refine stq_guard ?_ ?_ | refine dwp_seq ?_ | refine dwp_block ?_ | ((first | refine dwp_region ?_ | refine dwp_any ?_ | refine dwp_skip ?_ | refine dwp_exit ?_ | refine dwp_ret ?_ | refine dwp_if ?_ | skip); (simp only [go_sem, beq_true, beq_false, Bool.true_beq, Bool.false_beq, Bool.bne_true, Bool.bne_false, Bool.true_bne, Bool.false_bne, Option.isSome_none, ne_eq, Int.cast_ofNat_Int, ↓reduceIte, reduceCtorEq, Nat.reduceBEq, Nat.reduceEqDiff, Nat.reduceLT, Nat.reduceLeDiff, Nat.reduceAdd, Nat.reduceMul, Nat.reducePow, Nat.reduceSub, Int.reduceEq, Int.reduceLT, Int.reduceLE, Int.reduceToNat, Int.reduceMul, Int.reduceNeg, Int.reduceAdd, Int.reduceSub, *]; try simp (disch := (first | omega | (simp only [ByteArray.size_append, bs_size, lit_size, cut_size, List.length_append, List.length_cons, List.length_nil]; omega))) only [sls2S, sls_lS, sls_hS, bop_sadd, List.length_drop, List.length_take, List.length_append, ite_ok, w_i64, w_u64, w_u8, w_u32, w_u16, w_i32, room_le, tm_nn, td_nn, nsucc, apSK_ok])) | simp (disch := (first | omega | (simp only [ByteArray.size_append, bs_size, lit_size, cut_size, List.length_append, List.length_cons, List.length_nil]; omega))) only [sls2S, sls_lS, sls_hS, bop_sadd, List.length_drop, List.length_take, List.length_append, ite_ok, w_i64, w_u64, w_u8, w_u32, w_u16, w_i32, room_le, tm_nn, td_nn, nsucc, apSK_ok])
      · rw [decide_eq_true h, decide_eq_false he]
        replace he := eq_false he
        repeat' (first | (intro hc; (try simp only [bne_eq_false_iff_eq, bne_iff_ne, beq_iff_eq, beq_eq_false_iff_ne, Bool.not_eq_true', Bool.not_eq_false', decide_eq_true_eq, decide_eq_false_iff_not] at hc); (try replace hc := eq_true (show (_ : ByteArray) = _ from hc)); (try (exfalso; first | omega | exact hc trivial | exact hc))) | refine And.intro (show okTr _ _ = true by kernel_rfl) ?_ | refine And.intro ?_ ?_ | refine stp_guard ?_ ?_ | refine stq_guard ?_ ?_ | refine dwp_seq ?_ | refine dwp_block ?_ | ((first | refine dwp_region ?_ | refine dwp_any ?_ | refine dwp_skip ?_ | refine dwp_exit ?_ | refine dwp_ret ?_ | refine dwp_if ?_ | skip); (simp only [go_sem, beq_true, beq_false, Bool.true_beq, Bool.false_beq, Bool.bne_true, Bool.bne_false, Bool.true_bne, Bool.false_bne, Option.isSome_none, ne_eq, Int.cast_ofNat_Int, ↓reduceIte, reduceCtorEq, Nat.reduceBEq, Nat.reduceEqDiff, Nat.reduceLT, Nat.reduceLeDiff, Nat.reduceAdd, Nat.reduceMul, Nat.reducePow, Nat.reduceSub, Int.reduceEq, Int.reduceLT, Int.reduceLE, Int.reduceToNat, Int.reduceMul, Int.reduceNeg, Int.reduceAdd, Int.reduceSub, *]; try simp (disch := (first | omega | (simp only [ByteArray.size_append, bs_size, lit_size, cut_size, List.length_append, List.length_cons, List.length_nil]; omega))) only [sls2S, sls_lS, sls_hS, bop_sadd, List.length_drop, List.length_take, List.length_append, ite_ok, w_i64, w_u64, w_u8, w_u32, w_u16, w_i32, room_le, tm_nn, td_nn, nsucc, apSK_ok])) | simp (disch := (first | omega | (simp only [ByteArray.size_append, bs_size, lit_size, cut_size, List.length_append, List.length_cons, List.length_nil]; omega))) only [sls2S, sls_lS, sls_hS, bop_sadd, List.length_drop, List.length_take, List.length_append, ite_ok, w_i64, w_u64, w_u8, w_u32, w_u16, w_i32, room_le, tm_nn, td_nn, nsucc, apSK_ok])
    · have h' : ¬ (2 : Int) ≤ (s.size : Int) := by omega
      rw [decide_eq_false h]
      repeat' (first | (intro hc; (try simp only [bne_eq_false_iff_eq, bne_iff_ne, beq_iff_eq, beq_eq_false_iff_ne, Bool.not_eq_true', Bool.not_eq_false', decide_eq_true_eq, decide_eq_false_iff_not] at hc); (try replace hc := eq_true (show (_ : ByteArray) = _ from hc)); (try (exfalso; first | omega | exact hc trivial | exact hc))) | refine And.intro (show okTr _ _ = true by kernel_rfl) ?_ | refine And.intro ?_ ?_ | refine stp_guard ?_ ?_ | refine stq_guard ?_ ?_ | refine dwp_seq ?_ | refine dwp_block ?_ | ((first | refine dwp_region ?_ | refine dwp_any ?_ | refine dwp_skip ?_ | refine dwp_exit ?_ | refine dwp_ret ?_ | refine dwp_if ?_ | skip); (simp only [go_sem, beq_true, beq_false, Bool.true_beq, Bool.false_beq, Bool.bne_true, Bool.bne_false, Bool.true_bne, Bool.false_bne, Option.isSome_none, ne_eq, Int.cast_ofNat_Int, ↓reduceIte, reduceCtorEq, Nat.reduceBEq, Nat.reduceEqDiff, Nat.reduceLT, Nat.reduceLeDiff, Nat.reduceAdd, Nat.reduceMul, Nat.reducePow, Nat.reduceSub, Int.reduceEq, Int.reduceLT, Int.reduceLE, Int.reduceToNat, Int.reduceMul, Int.reduceNeg, Int.reduceAdd, Int.reduceSub, *]; try simp (disch := (first | omega | (simp only [ByteArray.size_append, bs_size, lit_size, cut_size, List.length_append, List.length_cons, List.length_nil]; omega))) only [sls2S, sls_lS, sls_hS, bop_sadd, List.length_drop, List.length_take, List.length_append, ite_ok, w_i64, w_u64, w_u8, w_u32, w_u16, w_i32, room_le, tm_nn, td_nn, nsucc, apSK_ok])) | simp (disch := (first | omega | (simp only [ByteArray.size_append, bs_size, lit_size, cut_size, List.length_append, List.length_cons, List.length_nil]; omega))) only [sls2S, sls_lS, sls_hS, bop_sadd, List.length_drop, List.length_take, List.length_append, ite_ok, w_i64, w_u64, w_u8, w_u32, w_u16, w_i32, room_le, tm_nn, td_nn, nsucc, apSK_ok])
  clear hp2 h2 hs
  generalize (decide (2 ≤ s.size) && decide (cut s 0 2 = p)) = b at *
  refine FF_val Tryd.func34 rfl rfl ?_
  simp only [Tryd.ntmps34, Tryd.results34]
  repeat' (first | (intro hc; (try simp only [bne_eq_false_iff_eq, bne_iff_ne, beq_iff_eq, beq_eq_false_iff_ne, Bool.not_eq_true', Bool.not_eq_false', decide_eq_true_eq, decide_eq_false_iff_not] at hc); (try replace hc := eq_true (show (_ : ByteArray) = _ from hc)); (try (exfalso; first | omega | exact hc trivial | exact hc))) | refine And.intro (show okTr _ _ = true by kernel_rfl) ?_ | refine And.intro ?_ ?_ | refine stp_guard ?_ ?_ | refine stq_guard ?_ ?_ | refine dwp_seq ?_ | refine dwp_block ?_ | ((first | refine dwp_region ?_ | refine dwp_any ?_ | refine dwp_skip ?_ | refine dwp_exit ?_ | refine dwp_ret ?_ | refine dwp_if ?_ | skip); (simp only [go_sem, beq_true, beq_false, Bool.true_beq, Bool.false_beq, Bool.bne_true, Bool.bne_false, Bool.true_bne, Bool.false_bne, Option.isSome_none, ne_eq, Int.cast_ofNat_Int, ↓reduceIte, reduceCtorEq, Nat.reduceBEq, Nat.reduceEqDiff, Nat.reduceLT, Nat.reduceLeDiff, Nat.reduceAdd, Nat.reduceMul, Nat.reducePow, Nat.reduceSub, Int.reduceEq, Int.reduceLT, Int.reduceLE, Int.reduceToNat, Int.reduceMul, Int.reduceNeg, Int.reduceAdd, Int.reduceSub, *]; try simp (disch := (first | omega | (simp only [ByteArray.size_append, bs_size, lit_size, cut_size, List.length_append, List.length_cons, List.length_nil]; omega))) only [sls2S, sls_lS, sls_hS, bop_sadd, List.length_drop, List.length_take, List.length_append, ite_ok, w_i64, w_u64, w_u8, w_u32, w_u16, w_i32, room_le, tm_nn, td_nn, nsucc, apSK_ok])) | simp (disch := (first | omega | (simp only [ByteArray.size_append, bs_size, lit_size, cut_size, List.length_append, List.length_cons, List.length_nil]; omega))) only [sls2S, sls_lS, sls_hS, bop_sadd, List.length_drop, List.length_take, List.length_append, ite_ok, w_i64, w_u64, w_u8, w_u32, w_u16, w_i32, room_le, tm_nn, td_nn, nsucc, apSK_ok])
theorem sg_all : ((List.range 256).all fun n => decide (Lib.indexByte [40, 41, 44, 46, 42, 43, 45, 61, 60, 62] (UInt8.ofNat n) < 0) == !isSg (UInt8.ofNat n)) = true := by kernel_rfl
theorem sgX (c : UInt8) : decide (Lib.indexByte [40, 41, 44, 46, 42, 43, 45, 61, 60, 62] c < 0) = !isSg c := by
  have h := List.all_eq_true.1 sg_all c.toNat (List.mem_range.2 c.toNat_lt)
  simpa using eq_of_beq h
theorem ixbX (c : UInt8) : ∃ n : Int, FF 35 [.v (.string ⟨#[40, 41, 44, 46, 42, 43, 45, 61, 60, 62]⟩), .v (.int .u8 (c.toNat : Int))] = some (.v (.int .i64 n)) ∧ decide (n < 0) = !isSg c := by
  refine ⟨Lib.indexByte [40, 41, 44, 46, 42, 43, 45, 61, 60, 62] c, FF_prim ?_, sgX c⟩
  show pIndexByte [.v (.string ⟨#[40, 41, 44, 46, 42, 43, 45, 61, 60, 62]⟩), .v (.int .u8 (c.toNat : Int))] [] = _
  unfold pIndexByte
  simp only
  rw [show ((c.toNat : Int)).toNat.toUInt8 = c by simp]
  rfl
def sgD (l : List UInt8) : D := match l with
  | [] => .tup [.v (.string ⟨#[]⟩), .v (.bool false)]
  | [c] => if isSg c = true then .tup [.v (.string (bs [c])), .v (.bool true)] else .tup [.v (.string ⟨#[]⟩), .v (.bool false)]
  | c :: d :: _ => if isTwo c d = true then .tup [.v (.string (bs [c, d])), .v (.bool true)] else if isSg c = true then .tup [.v (.string (bs [c])), .v (.bool true)] else .tup [.v (.string ⟨#[]⟩), .v (.bool false)]
theorem two_cut (s : ByteArray) (x y : UInt8) : (decide (2 ≤ s.size) && decide (cut s 0 2 = ⟨#[x, y]⟩)) = match bl s with
    | c :: d :: _ => decide (c = x) && decide (d = y)
    | _ => false := by
  have hs := bl_size s
  have hc : cut s 0 2 = bs ((bl s).take 2) := by rw [← bs_bl s, cut_bs, bl_bs]; rfl
  rw [hc]
  cases hq : bl s with
  | nil => rw [hq] at hs; simp at hs; simp [← hs]
  | cons c r =>
    cases r with
    | nil => rw [hq] at hs; simp at hs; simp [← hs]
    | cons d r =>
      rw [hq] at hs
      simp at hs
      rw [decide_eq_true (by omega), Bool.true_and]
      rw [Bool.eq_iff_iff]
      simp only [decide_eq_true_eq, Bool.and_eq_true]
      constructor
      · intro h
        have h2 : [c, d] = [x, y] := bs_inj (show bs [c, d] = bs [x, y] from (by simpa using h : bs [c, d] = ⟨#[x, y]⟩))
        injection h2 with h3 h4
        injection h4 with h5 _
        exact ⟨h3, h5⟩
      · rintro ⟨rfl, rfl⟩; rfl
theorem o_build3 {F : FTy} {tk : Bool × Bool} {ρ : Operand → Option D} {β : Nat → Option (List D)} {dst : Option Tmp} {ty : TypeId} {pos : String} {af : Array Edge} {gd : Option (Nat × Bool)} (ps : Array (Nat × Operand)) : dop Tryd.prog F tk ρ β ⟨dst, .build 67 ps, ty, pos, af, gd⟩ = (ofZero Tryd.prog 67).bind fun z => if z.all one = true then (parts ρ ps.toList).bind fun ps => (fillD (fun i => some (i * 1, 1)) z ps).map fun cs => { d := .agg cs } else none := by
  have h1 : Tryd.prog.underlying 67 = some (.array 3 9) := by kernel_rfl
  have h2 : sizeT Tryd.prog 9 = some 1 := by kernel_rfl
  simp only [dop, parts_eq, h1, h2, Option.bind_some]
theorem sgn0 : inx Tryd.prog 67 (.agg #[.string ⟨#[60, 61]⟩, .string ⟨#[62, 61]⟩, .string ⟨#[60, 62]⟩]) (.int .i64 0) = some (.string ⟨#[60, 61]⟩) := by kernel_rfl
theorem sgn1 : inx Tryd.prog 67 (.agg #[.string ⟨#[60, 61]⟩, .string ⟨#[62, 61]⟩, .string ⟨#[60, 62]⟩]) (.int .i64 1) = some (.string ⟨#[62, 61]⟩) := by kernel_rfl
theorem sgn2 : inx Tryd.prog 67 (.agg #[.string ⟨#[60, 61]⟩, .string ⟨#[62, 61]⟩, .string ⟨#[60, 62]⟩]) (.int .i64 2) = some (.string ⟨#[60, 62]⟩) := by kernel_rfl
attribute [go_sem] o_build3 sgn0 sgn1 sgn2
theorem signX (l : List UInt8) (h1 : 1 ≤ l.length) (hl : l.length ≤ 5000) : FF 24 [.v (.string (bs l))] = some (sgD l) := by
  have p1 := prefX (bs l) ⟨#[60, 61]⟩ rfl hl
  have p2 := prefX (bs l) ⟨#[62, 61]⟩ rfl hl
  have p3 := prefX (bs l) ⟨#[60, 62]⟩ rfl hl
  rw [two_cut, bl_bs] at p1 p2 p3
  obtain ⟨Z, hZ⟩ : ∃ Z, sgD l = Z := ⟨_, rfl⟩
  rw [hZ]
  cases l with
  | nil => simp at h1
  | cons c r =>
    have hls : (bs (c :: r)).size = r.length + 1 := rfl
    have hix : inx Tryd.prog 9 (.string (bs (c :: r))) (.int .i64 0) = some (.int .u8 (c.toNat : Int)) := by
      have := inx_str Tryd.underlying9 .i64 (bs (c :: r)) 0 (by rw [bs_size]; simp)
      rw [show ((0 : Nat) : Int) = 0 from rfl] at this
      rw [this]
      rfl
    have hcut : cut (bs (c :: r)) 0 1 = bs [c] := by rw [cut_bs]; rfl
    have t1 : (1 : Int).toNat = 1 := rfl
    obtain ⟨n, hn, hsg⟩ := ixbX c
    have e2 : isTwo c (r.headD 0) = true → r ≠ [] → Z = .tup [.v (.string (bs [c, r.headD 0])), .v (.bool true)] := fun h h' => by
      cases r with
      | nil => exact absurd rfl h'
      | cons d r => rw [← hZ]; simp only [sgD]; rw [if_pos (show isTwo c d = true from h)]; rfl
    have e3 : (isTwo c (r.headD 0) = false ∨ r = []) → Z = if isSg c = true then .tup [.v (.string (bs [c])), .v (.bool true)] else .tup [.v (.string ⟨#[]⟩), .v (.bool false)] := fun h => by
      cases r with
      | nil => rw [← hZ]; rfl
      | cons d r =>
        rcases h with h | h
        · rw [← hZ]; simp only [sgD]; rw [if_neg (by rw [show isTwo c d = false from h]; decide)]
        · cases h
    clear hZ
    obtain ⟨b1, hb1⟩ : ∃ b, (match c :: r with | c :: d :: _ => decide (c = 60) && decide (d = 61) | _ => false) = b := ⟨_, rfl⟩
    obtain ⟨b2, hb2⟩ : ∃ b, (match c :: r with | c :: d :: _ => decide (c = 62) && decide (d = 61) | _ => false) = b := ⟨_, rfl⟩
    obtain ⟨b3, hb3⟩ : ∃ b, (match c :: r with | c :: d :: _ => decide (c = 60) && decide (d = 62) | _ => false) = b := ⟨_, rfl⟩
    rw [hb1] at p1
    rw [hb2] at p2
    rw [hb3] at p3
    have two : ∀ (x y : UInt8), isTwo x y = true → (match c :: r with | c :: d :: _ => decide (c = x) && decide (d = y) | _ => false) = true → Z = .tup [.v (.string (bs [x, y])), .v (.bool true)] := fun x y hxy h => by
      cases r with
      | nil => cases h
      | cons d r =>
        simp only [Bool.and_eq_true, decide_eq_true_eq] at h
        obtain ⟨rfl, rfl⟩ := h
        exact e2 hxy (by simp)
    have one : b1 = false → b2 = false → b3 = false → Z = if isSg c = true then .tup [.v (.string (bs [c])), .v (.bool true)] else .tup [.v (.string ⟨#[]⟩), .v (.bool false)] := fun g1 g2 g3 => by
      cases r with
      | nil => exact e3 (.inr rfl)
      | cons d r =>
        rw [← hb1] at g1
        rw [← hb2] at g2
        rw [← hb3] at g3
        refine e3 (.inl ?_)
        show isTwo c d = false
        simp only [Bool.and_eq_false_iff, decide_eq_false_iff_not] at g1 g2 g3
        unfold isTwo
        simp only [Bool.or_eq_false_iff, Bool.and_eq_false_iff, beq_eq_false_iff_ne]
        exact ⟨⟨g1, g2⟩, g3⟩
    clear e2 e3
    cases b1 with
    | true =>
      obtain rfl := two 60 61 rfl hb1
      clear two one hb1 hb2 hb3 hsg
      refine FF_val Tryd.func24 rfl rfl ?_
      simp only [Tryd.ntmps24, Tryd.results24]
      repeat' (first | (intro hc; (try simp only [bne_eq_false_iff_eq, bne_iff_ne, beq_iff_eq, beq_eq_false_iff_ne, Bool.not_eq_true', Bool.not_eq_false', decide_eq_true_eq, decide_eq_false_iff_not] at hc); (try replace hc := eq_true (show (_ : ByteArray) = _ from hc)); (try (exfalso; first | omega | exact hc trivial | exact hc))) | refine And.intro (show okTr _ _ = true by kernel_rfl) ?_ | refine And.intro ?_ ?_ | refine stp_guard ?_ ?_ | refine stq_guard ?_ ?_ | refine dwp_seq ?_ | refine dwp_block ?_ | ((first | refine dwp_region ?_ | refine dwp_any ?_ | refine dwp_skip ?_ | refine dwp_exit ?_ | refine dwp_ret ?_ | refine dwp_if ?_ | skip); (simp only [go_sem, beq_true, beq_false, Bool.true_beq, Bool.false_beq, Bool.bne_true, Bool.bne_false, Bool.true_bne, Bool.false_bne, Option.isSome_none, ne_eq, Int.cast_ofNat_Int, ↓reduceIte, reduceCtorEq, Nat.reduceBEq, Nat.reduceEqDiff, Nat.reduceLT, Nat.reduceLeDiff, Nat.reduceAdd, Nat.reduceMul, Nat.reducePow, Nat.reduceSub, Int.reduceEq, Int.reduceLT, Int.reduceLE, Int.reduceToNat, Int.reduceMul, Int.reduceNeg, Int.reduceAdd, Int.reduceSub, *]; try simp (disch := (first | omega | (simp only [ByteArray.size_append, bs_size, lit_size, cut_size, List.length_append, List.length_cons, List.length_nil]; omega))) only [sls2S, sls_lS, sls_hS, bop_sadd, List.length_drop, List.length_take, List.length_append, ite_ok, w_i64, w_u64, w_u8, w_u32, w_u16, w_i32, room_le, tm_nn, td_nn, nsucc, apSK_ok])) | simp (disch := (first | omega | (simp only [ByteArray.size_append, bs_size, lit_size, cut_size, List.length_append, List.length_cons, List.length_nil]; omega))) only [sls2S, sls_lS, sls_hS, bop_sadd, List.length_drop, List.length_take, List.length_append, ite_ok, w_i64, w_u64, w_u8, w_u32, w_u16, w_i32, room_le, tm_nn, td_nn, nsucc, apSK_ok])
      iterate 1 (refine dwp_loop ?_; repeat' (first | (intro hc; (try simp only [bne_eq_false_iff_eq, bne_iff_ne, beq_iff_eq, beq_eq_false_iff_ne, Bool.not_eq_true', Bool.not_eq_false', decide_eq_true_eq, decide_eq_false_iff_not] at hc); (try replace hc := eq_true (show (_ : ByteArray) = _ from hc)); (try (exfalso; first | omega | exact hc trivial | exact hc))) | refine And.intro (show okTr _ _ = true by kernel_rfl) ?_ | refine And.intro ?_ ?_ | refine stp_guard ?_ ?_ | refine stq_guard ?_ ?_ | refine dwp_seq ?_ | refine dwp_block ?_ | ((first | refine dwp_region ?_ | refine dwp_any ?_ | refine dwp_skip ?_ | refine dwp_exit ?_ | refine dwp_ret ?_ | refine dwp_if ?_ | skip); (simp only [go_sem, beq_true, beq_false, Bool.true_beq, Bool.false_beq, Bool.bne_true, Bool.bne_false, Bool.true_bne, Bool.false_bne, Option.isSome_none, ne_eq, Int.cast_ofNat_Int, ↓reduceIte, reduceCtorEq, Nat.reduceBEq, Nat.reduceEqDiff, Nat.reduceLT, Nat.reduceLeDiff, Nat.reduceAdd, Nat.reduceMul, Nat.reducePow, Nat.reduceSub, Int.reduceEq, Int.reduceLT, Int.reduceLE, Int.reduceToNat, Int.reduceMul, Int.reduceNeg, Int.reduceAdd, Int.reduceSub, *]; try simp (disch := (first | omega | (simp only [ByteArray.size_append, bs_size, lit_size, cut_size, List.length_append, List.length_cons, List.length_nil]; omega))) only [sls2S, sls_lS, sls_hS, bop_sadd, List.length_drop, List.length_take, List.length_append, ite_ok, w_i64, w_u64, w_u8, w_u32, w_u16, w_i32, room_le, tm_nn, td_nn, nsucc, apSK_ok])) | simp (disch := (first | omega | (simp only [ByteArray.size_append, bs_size, lit_size, cut_size, List.length_append, List.length_cons, List.length_nil]; omega))) only [sls2S, sls_lS, sls_hS, bop_sadd, List.length_drop, List.length_take, List.length_append, ite_ok, w_i64, w_u64, w_u8, w_u32, w_u16, w_i32, room_le, tm_nn, td_nn, nsucc, apSK_ok]))
      all_goals rfl
    | false =>
      cases b2 with
      | true =>
        obtain rfl := two 62 61 rfl hb2
        clear two one hb1 hb2 hb3 hsg
        refine FF_val Tryd.func24 rfl rfl ?_
        simp only [Tryd.ntmps24, Tryd.results24]
        repeat' (first | (intro hc; (try simp only [bne_eq_false_iff_eq, bne_iff_ne, beq_iff_eq, beq_eq_false_iff_ne, Bool.not_eq_true', Bool.not_eq_false', decide_eq_true_eq, decide_eq_false_iff_not] at hc); (try replace hc := eq_true (show (_ : ByteArray) = _ from hc)); (try (exfalso; first | omega | exact hc trivial | exact hc))) | refine And.intro (show okTr _ _ = true by kernel_rfl) ?_ | refine And.intro ?_ ?_ | refine stp_guard ?_ ?_ | refine stq_guard ?_ ?_ | refine dwp_seq ?_ | refine dwp_block ?_ | ((first | refine dwp_region ?_ | refine dwp_any ?_ | refine dwp_skip ?_ | refine dwp_exit ?_ | refine dwp_ret ?_ | refine dwp_if ?_ | skip); (simp only [go_sem, beq_true, beq_false, Bool.true_beq, Bool.false_beq, Bool.bne_true, Bool.bne_false, Bool.true_bne, Bool.false_bne, Option.isSome_none, ne_eq, Int.cast_ofNat_Int, ↓reduceIte, reduceCtorEq, Nat.reduceBEq, Nat.reduceEqDiff, Nat.reduceLT, Nat.reduceLeDiff, Nat.reduceAdd, Nat.reduceMul, Nat.reducePow, Nat.reduceSub, Int.reduceEq, Int.reduceLT, Int.reduceLE, Int.reduceToNat, Int.reduceMul, Int.reduceNeg, Int.reduceAdd, Int.reduceSub, *]; try simp (disch := (first | omega | (simp only [ByteArray.size_append, bs_size, lit_size, cut_size, List.length_append, List.length_cons, List.length_nil]; omega))) only [sls2S, sls_lS, sls_hS, bop_sadd, List.length_drop, List.length_take, List.length_append, ite_ok, w_i64, w_u64, w_u8, w_u32, w_u16, w_i32, room_le, tm_nn, td_nn, nsucc, apSK_ok])) | simp (disch := (first | omega | (simp only [ByteArray.size_append, bs_size, lit_size, cut_size, List.length_append, List.length_cons, List.length_nil]; omega))) only [sls2S, sls_lS, sls_hS, bop_sadd, List.length_drop, List.length_take, List.length_append, ite_ok, w_i64, w_u64, w_u8, w_u32, w_u16, w_i32, room_le, tm_nn, td_nn, nsucc, apSK_ok])
        iterate 2 (refine dwp_loop ?_; repeat' (first | (intro hc; (try simp only [bne_eq_false_iff_eq, bne_iff_ne, beq_iff_eq, beq_eq_false_iff_ne, Bool.not_eq_true', Bool.not_eq_false', decide_eq_true_eq, decide_eq_false_iff_not] at hc); (try replace hc := eq_true (show (_ : ByteArray) = _ from hc)); (try (exfalso; first | omega | exact hc trivial | exact hc))) | refine And.intro (show okTr _ _ = true by kernel_rfl) ?_ | refine And.intro ?_ ?_ | refine stp_guard ?_ ?_ | refine stq_guard ?_ ?_ | refine dwp_seq ?_ | refine dwp_block ?_ | ((first | refine dwp_region ?_ | refine dwp_any ?_ | refine dwp_skip ?_ | refine dwp_exit ?_ | refine dwp_ret ?_ | refine dwp_if ?_ | skip); (simp only [go_sem, beq_true, beq_false, Bool.true_beq, Bool.false_beq, Bool.bne_true, Bool.bne_false, Bool.true_bne, Bool.false_bne, Option.isSome_none, ne_eq, Int.cast_ofNat_Int, ↓reduceIte, reduceCtorEq, Nat.reduceBEq, Nat.reduceEqDiff, Nat.reduceLT, Nat.reduceLeDiff, Nat.reduceAdd, Nat.reduceMul, Nat.reducePow, Nat.reduceSub, Int.reduceEq, Int.reduceLT, Int.reduceLE, Int.reduceToNat, Int.reduceMul, Int.reduceNeg, Int.reduceAdd, Int.reduceSub, *]; try simp (disch := (first | omega | (simp only [ByteArray.size_append, bs_size, lit_size, cut_size, List.length_append, List.length_cons, List.length_nil]; omega))) only [sls2S, sls_lS, sls_hS, bop_sadd, List.length_drop, List.length_take, List.length_append, ite_ok, w_i64, w_u64, w_u8, w_u32, w_u16, w_i32, room_le, tm_nn, td_nn, nsucc, apSK_ok])) | simp (disch := (first | omega | (simp only [ByteArray.size_append, bs_size, lit_size, cut_size, List.length_append, List.length_cons, List.length_nil]; omega))) only [sls2S, sls_lS, sls_hS, bop_sadd, List.length_drop, List.length_take, List.length_append, ite_ok, w_i64, w_u64, w_u8, w_u32, w_u16, w_i32, room_le, tm_nn, td_nn, nsucc, apSK_ok]))
        all_goals rfl
      | false =>
        cases b3 with
        | true =>
          obtain rfl := two 60 62 rfl hb3
          clear two one hb1 hb2 hb3 hsg
          refine FF_val Tryd.func24 rfl rfl ?_
          simp only [Tryd.ntmps24, Tryd.results24]
          repeat' (first | (intro hc; (try simp only [bne_eq_false_iff_eq, bne_iff_ne, beq_iff_eq, beq_eq_false_iff_ne, Bool.not_eq_true', Bool.not_eq_false', decide_eq_true_eq, decide_eq_false_iff_not] at hc); (try replace hc := eq_true (show (_ : ByteArray) = _ from hc)); (try (exfalso; first | omega | exact hc trivial | exact hc))) | refine And.intro (show okTr _ _ = true by kernel_rfl) ?_ | refine And.intro ?_ ?_ | refine stp_guard ?_ ?_ | refine stq_guard ?_ ?_ | refine dwp_seq ?_ | refine dwp_block ?_ | ((first | refine dwp_region ?_ | refine dwp_any ?_ | refine dwp_skip ?_ | refine dwp_exit ?_ | refine dwp_ret ?_ | refine dwp_if ?_ | skip); (simp only [go_sem, beq_true, beq_false, Bool.true_beq, Bool.false_beq, Bool.bne_true, Bool.bne_false, Bool.true_bne, Bool.false_bne, Option.isSome_none, ne_eq, Int.cast_ofNat_Int, ↓reduceIte, reduceCtorEq, Nat.reduceBEq, Nat.reduceEqDiff, Nat.reduceLT, Nat.reduceLeDiff, Nat.reduceAdd, Nat.reduceMul, Nat.reducePow, Nat.reduceSub, Int.reduceEq, Int.reduceLT, Int.reduceLE, Int.reduceToNat, Int.reduceMul, Int.reduceNeg, Int.reduceAdd, Int.reduceSub, *]; try simp (disch := (first | omega | (simp only [ByteArray.size_append, bs_size, lit_size, cut_size, List.length_append, List.length_cons, List.length_nil]; omega))) only [sls2S, sls_lS, sls_hS, bop_sadd, List.length_drop, List.length_take, List.length_append, ite_ok, w_i64, w_u64, w_u8, w_u32, w_u16, w_i32, room_le, tm_nn, td_nn, nsucc, apSK_ok])) | simp (disch := (first | omega | (simp only [ByteArray.size_append, bs_size, lit_size, cut_size, List.length_append, List.length_cons, List.length_nil]; omega))) only [sls2S, sls_lS, sls_hS, bop_sadd, List.length_drop, List.length_take, List.length_append, ite_ok, w_i64, w_u64, w_u8, w_u32, w_u16, w_i32, room_le, tm_nn, td_nn, nsucc, apSK_ok])
          iterate 3 (refine dwp_loop ?_; repeat' (first | (intro hc; (try simp only [bne_eq_false_iff_eq, bne_iff_ne, beq_iff_eq, beq_eq_false_iff_ne, Bool.not_eq_true', Bool.not_eq_false', decide_eq_true_eq, decide_eq_false_iff_not] at hc); (try replace hc := eq_true (show (_ : ByteArray) = _ from hc)); (try (exfalso; first | omega | exact hc trivial | exact hc))) | refine And.intro (show okTr _ _ = true by kernel_rfl) ?_ | refine And.intro ?_ ?_ | refine stp_guard ?_ ?_ | refine stq_guard ?_ ?_ | refine dwp_seq ?_ | refine dwp_block ?_ | ((first | refine dwp_region ?_ | refine dwp_any ?_ | refine dwp_skip ?_ | refine dwp_exit ?_ | refine dwp_ret ?_ | refine dwp_if ?_ | skip); (simp only [go_sem, beq_true, beq_false, Bool.true_beq, Bool.false_beq, Bool.bne_true, Bool.bne_false, Bool.true_bne, Bool.false_bne, Option.isSome_none, ne_eq, Int.cast_ofNat_Int, ↓reduceIte, reduceCtorEq, Nat.reduceBEq, Nat.reduceEqDiff, Nat.reduceLT, Nat.reduceLeDiff, Nat.reduceAdd, Nat.reduceMul, Nat.reducePow, Nat.reduceSub, Int.reduceEq, Int.reduceLT, Int.reduceLE, Int.reduceToNat, Int.reduceMul, Int.reduceNeg, Int.reduceAdd, Int.reduceSub, *]; try simp (disch := (first | omega | (simp only [ByteArray.size_append, bs_size, lit_size, cut_size, List.length_append, List.length_cons, List.length_nil]; omega))) only [sls2S, sls_lS, sls_hS, bop_sadd, List.length_drop, List.length_take, List.length_append, ite_ok, w_i64, w_u64, w_u8, w_u32, w_u16, w_i32, room_le, tm_nn, td_nn, nsucc, apSK_ok])) | simp (disch := (first | omega | (simp only [ByteArray.size_append, bs_size, lit_size, cut_size, List.length_append, List.length_cons, List.length_nil]; omega))) only [sls2S, sls_lS, sls_hS, bop_sadd, List.length_drop, List.length_take, List.length_append, ite_ok, w_i64, w_u64, w_u8, w_u32, w_u16, w_i32, room_le, tm_nn, td_nn, nsucc, apSK_ok]))
          all_goals rfl
        | false =>
          obtain rfl := one rfl rfl rfl
          clear two one hb1 hb2 hb3
          cases hs : isSg c with
          | true =>
            rw [hs] at hsg
            have hn0 : ¬ n < 0 := by simpa using hsg
            rw [if_pos rfl]
            clear hsg
            refine FF_val Tryd.func24 rfl rfl ?_
            simp only [Tryd.ntmps24, Tryd.results24]
            repeat' (first | (intro hc; (try simp only [bne_eq_false_iff_eq, bne_iff_ne, beq_iff_eq, beq_eq_false_iff_ne, Bool.not_eq_true', Bool.not_eq_false', decide_eq_true_eq, decide_eq_false_iff_not] at hc); (try replace hc := eq_true (show (_ : ByteArray) = _ from hc)); (try (exfalso; first | omega | exact hc trivial | exact hc))) | refine And.intro (show okTr _ _ = true by kernel_rfl) ?_ | refine And.intro ?_ ?_ | refine stp_guard ?_ ?_ | refine stq_guard ?_ ?_ | refine dwp_seq ?_ | refine dwp_block ?_ | ((first | refine dwp_region ?_ | refine dwp_any ?_ | refine dwp_skip ?_ | refine dwp_exit ?_ | refine dwp_ret ?_ | refine dwp_if ?_ | skip); (simp only [go_sem, beq_true, beq_false, Bool.true_beq, Bool.false_beq, Bool.bne_true, Bool.bne_false, Bool.true_bne, Bool.false_bne, Option.isSome_none, ne_eq, Int.cast_ofNat_Int, ↓reduceIte, reduceCtorEq, Nat.reduceBEq, Nat.reduceEqDiff, Nat.reduceLT, Nat.reduceLeDiff, Nat.reduceAdd, Nat.reduceMul, Nat.reducePow, Nat.reduceSub, Int.reduceEq, Int.reduceLT, Int.reduceLE, Int.reduceToNat, Int.reduceMul, Int.reduceNeg, Int.reduceAdd, Int.reduceSub, *]; try simp (disch := (first | omega | (simp only [ByteArray.size_append, bs_size, lit_size, cut_size, List.length_append, List.length_cons, List.length_nil]; omega))) only [sls2S, sls_lS, sls_hS, bop_sadd, List.length_drop, List.length_take, List.length_append, ite_ok, w_i64, w_u64, w_u8, w_u32, w_u16, w_i32, room_le, tm_nn, td_nn, nsucc, apSK_ok])) | simp (disch := (first | omega | (simp only [ByteArray.size_append, bs_size, lit_size, cut_size, List.length_append, List.length_cons, List.length_nil]; omega))) only [sls2S, sls_lS, sls_hS, bop_sadd, List.length_drop, List.length_take, List.length_append, ite_ok, w_i64, w_u64, w_u8, w_u32, w_u16, w_i32, room_le, tm_nn, td_nn, nsucc, apSK_ok])
            iterate 4 (refine dwp_loop ?_; repeat' (first | (intro hc; (try simp only [bne_eq_false_iff_eq, bne_iff_ne, beq_iff_eq, beq_eq_false_iff_ne, Bool.not_eq_true', Bool.not_eq_false', decide_eq_true_eq, decide_eq_false_iff_not] at hc); (try replace hc := eq_true (show (_ : ByteArray) = _ from hc)); (try (exfalso; first | omega | exact hc trivial | exact hc))) | refine And.intro (show okTr _ _ = true by kernel_rfl) ?_ | refine And.intro ?_ ?_ | refine stp_guard ?_ ?_ | refine stq_guard ?_ ?_ | refine dwp_seq ?_ | refine dwp_block ?_ | ((first | refine dwp_region ?_ | refine dwp_any ?_ | refine dwp_skip ?_ | refine dwp_exit ?_ | refine dwp_ret ?_ | refine dwp_if ?_ | skip); (simp only [go_sem, beq_true, beq_false, Bool.true_beq, Bool.false_beq, Bool.bne_true, Bool.bne_false, Bool.true_bne, Bool.false_bne, Option.isSome_none, ne_eq, Int.cast_ofNat_Int, ↓reduceIte, reduceCtorEq, Nat.reduceBEq, Nat.reduceEqDiff, Nat.reduceLT, Nat.reduceLeDiff, Nat.reduceAdd, Nat.reduceMul, Nat.reducePow, Nat.reduceSub, Int.reduceEq, Int.reduceLT, Int.reduceLE, Int.reduceToNat, Int.reduceMul, Int.reduceNeg, Int.reduceAdd, Int.reduceSub, *]; try simp (disch := (first | omega | (simp only [ByteArray.size_append, bs_size, lit_size, cut_size, List.length_append, List.length_cons, List.length_nil]; omega))) only [sls2S, sls_lS, sls_hS, bop_sadd, List.length_drop, List.length_take, List.length_append, ite_ok, w_i64, w_u64, w_u8, w_u32, w_u16, w_i32, room_le, tm_nn, td_nn, nsucc, apSK_ok])) | simp (disch := (first | omega | (simp only [ByteArray.size_append, bs_size, lit_size, cut_size, List.length_append, List.length_cons, List.length_nil]; omega))) only [sls2S, sls_lS, sls_hS, bop_sadd, List.length_drop, List.length_take, List.length_append, ite_ok, w_i64, w_u64, w_u8, w_u32, w_u16, w_i32, room_le, tm_nn, td_nn, nsucc, apSK_ok]))
          | false =>
            rw [hs] at hsg
            have hn0 : n < 0 := by simpa using hsg
            rw [if_neg (by decide)]
            clear hsg
            refine FF_val Tryd.func24 rfl rfl ?_
            simp only [Tryd.ntmps24, Tryd.results24]
            repeat' (first | (intro hc; (try simp only [bne_eq_false_iff_eq, bne_iff_ne, beq_iff_eq, beq_eq_false_iff_ne, Bool.not_eq_true', Bool.not_eq_false', decide_eq_true_eq, decide_eq_false_iff_not] at hc); (try replace hc := eq_true (show (_ : ByteArray) = _ from hc)); (try (exfalso; first | omega | exact hc trivial | exact hc))) | refine And.intro (show okTr _ _ = true by kernel_rfl) ?_ | refine And.intro ?_ ?_ | refine stp_guard ?_ ?_ | refine stq_guard ?_ ?_ | refine dwp_seq ?_ | refine dwp_block ?_ | ((first | refine dwp_region ?_ | refine dwp_any ?_ | refine dwp_skip ?_ | refine dwp_exit ?_ | refine dwp_ret ?_ | refine dwp_if ?_ | skip); (simp only [go_sem, beq_true, beq_false, Bool.true_beq, Bool.false_beq, Bool.bne_true, Bool.bne_false, Bool.true_bne, Bool.false_bne, Option.isSome_none, ne_eq, Int.cast_ofNat_Int, ↓reduceIte, reduceCtorEq, Nat.reduceBEq, Nat.reduceEqDiff, Nat.reduceLT, Nat.reduceLeDiff, Nat.reduceAdd, Nat.reduceMul, Nat.reducePow, Nat.reduceSub, Int.reduceEq, Int.reduceLT, Int.reduceLE, Int.reduceToNat, Int.reduceMul, Int.reduceNeg, Int.reduceAdd, Int.reduceSub, *]; try simp (disch := (first | omega | (simp only [ByteArray.size_append, bs_size, lit_size, cut_size, List.length_append, List.length_cons, List.length_nil]; omega))) only [sls2S, sls_lS, sls_hS, bop_sadd, List.length_drop, List.length_take, List.length_append, ite_ok, w_i64, w_u64, w_u8, w_u32, w_u16, w_i32, room_le, tm_nn, td_nn, nsucc, apSK_ok])) | simp (disch := (first | omega | (simp only [ByteArray.size_append, bs_size, lit_size, cut_size, List.length_append, List.length_cons, List.length_nil]; omega))) only [sls2S, sls_lS, sls_hS, bop_sadd, List.length_drop, List.length_take, List.length_append, ite_ok, w_i64, w_u64, w_u8, w_u32, w_u16, w_i32, room_le, tm_nn, td_nn, nsucc, apSK_ok])
            iterate 4 (refine dwp_loop ?_; repeat' (first | (intro hc; (try simp only [bne_eq_false_iff_eq, bne_iff_ne, beq_iff_eq, beq_eq_false_iff_ne, Bool.not_eq_true', Bool.not_eq_false', decide_eq_true_eq, decide_eq_false_iff_not] at hc); (try replace hc := eq_true (show (_ : ByteArray) = _ from hc)); (try (exfalso; first | omega | exact hc trivial | exact hc))) | refine And.intro (show okTr _ _ = true by kernel_rfl) ?_ | refine And.intro ?_ ?_ | refine stp_guard ?_ ?_ | refine stq_guard ?_ ?_ | refine dwp_seq ?_ | refine dwp_block ?_ | ((first | refine dwp_region ?_ | refine dwp_any ?_ | refine dwp_skip ?_ | refine dwp_exit ?_ | refine dwp_ret ?_ | refine dwp_if ?_ | skip); (simp only [go_sem, beq_true, beq_false, Bool.true_beq, Bool.false_beq, Bool.bne_true, Bool.bne_false, Bool.true_bne, Bool.false_bne, Option.isSome_none, ne_eq, Int.cast_ofNat_Int, ↓reduceIte, reduceCtorEq, Nat.reduceBEq, Nat.reduceEqDiff, Nat.reduceLT, Nat.reduceLeDiff, Nat.reduceAdd, Nat.reduceMul, Nat.reducePow, Nat.reduceSub, Int.reduceEq, Int.reduceLT, Int.reduceLE, Int.reduceToNat, Int.reduceMul, Int.reduceNeg, Int.reduceAdd, Int.reduceSub, *]; try simp (disch := (first | omega | (simp only [ByteArray.size_append, bs_size, lit_size, cut_size, List.length_append, List.length_cons, List.length_nil]; omega))) only [sls2S, sls_lS, sls_hS, bop_sadd, List.length_drop, List.length_take, List.length_append, ite_ok, w_i64, w_u64, w_u8, w_u32, w_u16, w_i32, room_le, tm_nn, td_nn, nsucc, apSK_ok])) | simp (disch := (first | omega | (simp only [ByteArray.size_append, bs_size, lit_size, cut_size, List.length_append, List.length_cons, List.length_nil]; omega))) only [sls2S, sls_lS, sls_hS, bop_sadd, List.length_drop, List.length_take, List.length_append, ite_ok, w_i64, w_u64, w_u8, w_u32, w_u16, w_i32, room_le, tm_nn, td_nn, nsucc, apSK_ok]))
end Go.Proofs.YtcdeidljcmlfdaaDoor
