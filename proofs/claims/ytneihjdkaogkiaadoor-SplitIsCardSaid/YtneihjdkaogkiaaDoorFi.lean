/- What the program's functions make of data: what SplitIs needs more, the first part. -/
import Derived.Test.YtneihjdkaogkiaaDoorFe
namespace Go.Proofs.YtneihjdkaogkiaaDoor
open Go Go.Eng Go.Proofs
set_option linter.unusedVariables false
set_option linter.unusedSimpArgs false
set_option maxRecDepth 100000
set_option maxHeartbeats 4000000

def popc (x : Nat) : Nat := (List.range 32).countP fun k => x.testBit k
def pop8 (x : Nat) : Nat := (List.range 8).countP fun k => x.testBit k
theorem pop_shift (x s : Nat) : pop8 (x / 2 ^ s) = (List.range' s 8).countP fun k => x.testBit k := by
  unfold pop8
  have h : List.range' s 8 = (List.range 8).map (s + ·) := by
    rw [List.range_eq_range', List.map_add_range', Nat.add_zero]
  rw [h, List.countP_map]
  congr 1
  funext k
  simp [Nat.testBit_div_two_pow, Nat.add_comm]
theorem pop_mod (x : Nat) : pop8 (x % 256) = pop8 x := by
  unfold pop8
  refine List.countP_congr fun k hk => ?_
  have := List.mem_range.1 hk
  rw [show (256 : Nat) = 2 ^ 8 from rfl, Nat.testBit_mod_two_pow]
  simp [this]
theorem popc_parts (x : Nat) : popc x = pop8 (x / 2 ^ 24) + pop8 (x / 2 ^ 16) + pop8 (x / 2 ^ 8) + pop8 x := by
  have h0 := pop_shift x 0
  rw [Nat.pow_zero, Nat.div_one] at h0
  rw [h0, pop_shift, pop_shift, pop_shift]
  unfold popc
  have : List.range 32 = List.range' 0 8 ++ List.range' 8 8 ++ List.range' 16 8 ++ List.range' 24 8 := by decide
  rw [this]
  simp only [List.countP_append]
  omega
theorem pop8_le (x : Nat) : pop8 x ≤ 8 := by
  have := List.countP_le_length (p := fun k => x.testBit k) (l := List.range 8)
  simpa [pop8] using this

theorem pop8_zero (x : Nat) (h : x < 256) : pop8 x = 0 ↔ x = 0 := by
  have : ∀ x < 256, (pop8 x = 0 ↔ x = 0) := by decide +kernel
  exact this x h
theorem tz19 : ∀ k : Nat, k < 32 → FF 19 [.v (.int .u32 ((2 ^ k : Nat) : Int))] = some (.v (.int .i64 (k : Int)))
  | 0, _ => (Fs_iff _ _ _).2 ⟨2, by kernel_rfl⟩
  | 1, _ => (Fs_iff _ _ _).2 ⟨2, by kernel_rfl⟩
  | 2, _ => (Fs_iff _ _ _).2 ⟨2, by kernel_rfl⟩
  | 3, _ => (Fs_iff _ _ _).2 ⟨2, by kernel_rfl⟩
  | 4, _ => (Fs_iff _ _ _).2 ⟨2, by kernel_rfl⟩
  | 5, _ => (Fs_iff _ _ _).2 ⟨2, by kernel_rfl⟩
  | 6, _ => (Fs_iff _ _ _).2 ⟨2, by kernel_rfl⟩
  | 7, _ => (Fs_iff _ _ _).2 ⟨2, by kernel_rfl⟩
  | 8, _ => (Fs_iff _ _ _).2 ⟨2, by kernel_rfl⟩
  | 9, _ => (Fs_iff _ _ _).2 ⟨2, by kernel_rfl⟩
  | 10, _ => (Fs_iff _ _ _).2 ⟨2, by kernel_rfl⟩
  | 11, _ => (Fs_iff _ _ _).2 ⟨2, by kernel_rfl⟩
  | 12, _ => (Fs_iff _ _ _).2 ⟨2, by kernel_rfl⟩
  | 13, _ => (Fs_iff _ _ _).2 ⟨2, by kernel_rfl⟩
  | 14, _ => (Fs_iff _ _ _).2 ⟨2, by kernel_rfl⟩
  | 15, _ => (Fs_iff _ _ _).2 ⟨2, by kernel_rfl⟩
  | 16, _ => (Fs_iff _ _ _).2 ⟨2, by kernel_rfl⟩
  | 17, _ => (Fs_iff _ _ _).2 ⟨2, by kernel_rfl⟩
  | 18, _ => (Fs_iff _ _ _).2 ⟨2, by kernel_rfl⟩
  | 19, _ => (Fs_iff _ _ _).2 ⟨2, by kernel_rfl⟩
  | 20, _ => (Fs_iff _ _ _).2 ⟨2, by kernel_rfl⟩
  | 21, _ => (Fs_iff _ _ _).2 ⟨2, by kernel_rfl⟩
  | 22, _ => (Fs_iff _ _ _).2 ⟨2, by kernel_rfl⟩
  | 23, _ => (Fs_iff _ _ _).2 ⟨2, by kernel_rfl⟩
  | 24, _ => (Fs_iff _ _ _).2 ⟨2, by kernel_rfl⟩
  | 25, _ => (Fs_iff _ _ _).2 ⟨2, by kernel_rfl⟩
  | 26, _ => (Fs_iff _ _ _).2 ⟨2, by kernel_rfl⟩
  | 27, _ => (Fs_iff _ _ _).2 ⟨2, by kernel_rfl⟩
  | 28, _ => (Fs_iff _ _ _).2 ⟨2, by kernel_rfl⟩
  | 29, _ => (Fs_iff _ _ _).2 ⟨2, by kernel_rfl⟩
  | 30, _ => (Fs_iff _ _ _).2 ⟨2, by kernel_rfl⟩
  | 31, _ => (Fs_iff _ _ _).2 ⟨2, by kernel_rfl⟩
  | n + 32, h => absurd h (by omega)
def clampN (t : Int) : Nat := (if (31 : Int) < (if (0 : Int) > t then 0 else t) then 31 else (if (0 : Int) > t then 0 else t)).toNat
theorem clampN_le (t : Int) : clampN t ≤ 31 := by
  unfold clampN
  split <;> split <;> omega
theorem all11 (t : Int) : FF 11 [.v (.int .i64 t)] = some (.v (.int .u32 ((2 ^ clampN t - 1 : Nat) : Int))) := by
  refine FF_val Tryd.func11 rfl rfl rfl ?_
  simp only [Tryd.ntmps11, Tryd.results11]
  have hle := clampN_le t
  have h0 : (if (31 : Int) < (if (0 : Int) > t then 0 else t) then 31 else (if (0 : Int) > t then 0 else t)) = (clampN t : Int) := by
    unfold clampN
    split <;> split <;> omega
  have hp : 2 ^ clampN t < 2 ^ 32 := Nat.pow_lt_pow_right (by decide) (by omega)
  have e1 : IntKind.u32.wrap (1 * 2 ^ (min (clampN t) 32)) = ((2 ^ clampN t : Nat) : Int) := by
    have hb : min (clampN t) 32 = clampN t := by omega
    rw [hb]
    have : (1 * 2 ^ clampN t : Int) = ((2 ^ clampN t : Nat) : Int) := by simp
    rw [this]
    exact wrap_u32 hp
  have e2 : IntKind.u32.wrap (((2 ^ clampN t : Nat) : Int) - 1) = ((2 ^ clampN t - 1 : Nat) : Int) := by
    have h1 : 1 ≤ 2 ^ clampN t := Nat.one_le_two_pow
    rw [show ((2 ^ clampN t : Nat) : Int) - 1 = ((2 ^ clampN t - 1 : Nat) : Int) by omega]
    exact wrap_u32 (by omega)
  have hn : ¬ (clampN t : Int) < 0 := by omega
  repeat (first | refine dwp_seq ?_ | (refine dwp_region ?_; simp only [go_sem, ↓reduceIte, reduceCtorEq, Nat.reduceBEq, Nat.reduceEqDiff, Nat.reduceLT, Nat.reduceLeDiff, Nat.reduceAdd, Nat.reduceMul, Nat.reducePow, Nat.reduceSub, Int.reduceEq, Int.reduceLT, Int.reduceLE, Int.reduceToNat, Int.reduceMul, h0, e1, e2, hn]) | (refine dwp_any ?_; simp only [go_sem, ↓reduceIte, reduceCtorEq, Nat.reduceBEq, Nat.reduceEqDiff, Nat.reduceLT, Nat.reduceLeDiff, Nat.reduceAdd, Nat.reduceMul, Nat.reducePow, Nat.reduceSub, Int.reduceEq, Int.reduceLT, Int.reduceLE, Int.reduceToNat, Int.reduceMul, h0, e1, e2, hn]; refine ⟨by kernel_rfl, ?_⟩) | (refine dwp_skip ?_; simp only [go_sem, ↓reduceIte, reduceCtorEq, Nat.reduceBEq, Nat.reduceEqDiff, Nat.reduceLT, Nat.reduceLeDiff, Nat.reduceAdd, Nat.reduceMul, Nat.reducePow, Nat.reduceSub, Int.reduceEq, Int.reduceLT, Int.reduceLE, Int.reduceToNat, Int.reduceMul, h0, e1, e2, hn]) | (refine dwp_exit ?_; simp only [go_sem, ↓reduceIte, reduceCtorEq, Nat.reduceBEq, Nat.reduceEqDiff, Nat.reduceLT, Nat.reduceLeDiff, Nat.reduceAdd, Nat.reduceMul, Nat.reducePow, Nat.reduceSub, Int.reduceEq, Int.reduceLT, Int.reduceLE, Int.reduceToNat, Int.reduceMul, h0, e1, e2, hn]) | (refine dwp_ret ?_; simp only [go_sem, ↓reduceIte, reduceCtorEq, Nat.reduceBEq, Nat.reduceEqDiff, Nat.reduceLT, Nat.reduceLeDiff, Nat.reduceAdd, Nat.reduceMul, Nat.reducePow, Nat.reduceSub, Int.reduceEq, Int.reduceLT, Int.reduceLE, Int.reduceToNat, Int.reduceMul, h0, e1, e2, hn]) | (refine dwp_if ?_; simp only [go_sem, ↓reduceIte, reduceCtorEq, Nat.reduceBEq, Nat.reduceEqDiff, Nat.reduceLT, Nat.reduceLeDiff, Nat.reduceAdd, Nat.reduceMul, Nat.reducePow, Nat.reduceSub, Int.reduceEq, Int.reduceLT, Int.reduceLE, Int.reduceToNat, Int.reduceMul, h0, e1, e2, hn]) | refine dwp_block ?_)
def tab8 : ByteArray := ⟨((List.range 256).map fun i => UInt8.ofNat (pop8 i)).toArray⟩
theorem inx_tab {k : IntKind} (s : ByteArray) (hs : s = tab8) (i : Nat) (h : i < 256) : inx Tryd.prog 9 (.string s) (.int k (i : Int)) = some (.int .u8 (pop8 i : Nat)) := by
  subst hs
  have hg : tab8[i]? = some (UInt8.ofNat (pop8 i)) := by
    have hsz : i < tab8.size := by
      show i < ((List.range 256).map fun i => UInt8.ofNat (pop8 i)).toArray.size
      simpa using h
    have h2 : tab8.data[i]? = some (UInt8.ofNat (pop8 i)) := by
      show ((List.range 256).map fun i => UInt8.ofNat (pop8 i)).toArray[i]? = _
      simp [h]
    rw [getElem?_pos tab8 i hsz]
    show some (tab8.data[i]'hsz) = _
    rw [← h2]
    exact (Array.getElem?_eq_getElem hsz).symm
  have hp := pop8_le i
  unfold inx Instr.index
  simp only [asIntOf, pureRun_bind, pureRun_underlying, Tryd.underlying9, Option.bind_some]
  show (pureRun Tryd.prog (match (if (0 : Int) ≤ (i : Int) then tab8[(i : Int).toNat]? else none) with | some b => pure (Value.int .u8 b.toNat) | none => boundsPanic k (i : Int) tab8.size .index)) = _
  rw [if_pos (Int.natCast_nonneg i), Int.toNat_natCast, hg]
  show some (Value.int .u8 ((UInt8.ofNat (pop8 i)).toNat : Int)) = _
  have : (UInt8.ofNat (pop8 i)).toNat = pop8 i := by
    simp
    omega
  rw [this]
theorem fdiv_pow (x n : Nat) : (x : Int).fdiv (2 ^ n) = ((x / 2 ^ n : Nat) : Int) := by
  rw [Int.fdiv_eq_ediv_of_nonneg _ (by exact Int.pow_nonneg (by decide))]
  simp
theorem and255 (a : Nat) (h : a < 2 ^ 32) : ibit .and .u32 (a : Int) 255 = ((a % 256 : Nat) : Int) := by
  unfold ibit
  have h255 : BitVec.ofInt IntKind.u32.bits 255 = BitVec.ofNat 32 255 := ofInt_nat 255
  simp only [ofInt_nat, h255]
  have e : (BitVec.ofNat 32 a &&& BitVec.ofNat 32 255).toNat = a % 256 := by
    rw [BitVec.toNat_and, BitVec.toNat_ofNat, BitVec.toNat_ofNat, Nat.mod_eq_of_lt h]
    exact Nat.and_two_pow_sub_one_eq_mod a 8
  exact (congrArg (fun x : Nat => IntKind.u32.wrap (x : Int)) e).trans (wrap_u32 (by omega))
theorem wrap_u8 {n : Nat} (h : n < 256) : IntKind.u8.wrap (n : Int) = (n : Int) := by
  simp [IntKind.wrap, IntKind.bits, IntKind.signed]; omega
theorem pop17 (x : Nat) (hx : x < 2 ^ 32) : FF 17 [.v (.int .u32 (x : Int))] = some (.v (.int .i64 (popc x : Nat))) := by
  rw [popc_parts]
  have a1 := and255 (x / 2 ^ 16) (by omega)
  have a2 := and255 (x / 2 ^ 8) (by omega)
  have a3 := and255 x hx
  have t0 := fun s hs => inx_tab (k := .u32) s hs (x / 2 ^ 24) (by omega)
  have t1 := fun s hs => inx_tab (k := .u32) s hs (x / 2 ^ 16 % 256) (by omega)
  have t2 := fun s hs => inx_tab (k := .u32) s hs (x / 2 ^ 8 % 256) (by omega)
  have t3 := fun s hs => inx_tab (k := .u32) s hs (x % 256) (by omega)
  simp only [pop_mod] at t1 t2 t3
  have l0 := pop8_le (x / 2 ^ 24)
  have l1 := pop8_le (x / 2 ^ 16)
  have l2 := pop8_le (x / 2 ^ 8)
  have l3 := pop8_le x
  have f0 := fdiv_pow x 24
  have f1 := fdiv_pow x 16
  have f2 := fdiv_pow x 8
  generalize pop8 (x / 2 ^ 24) = p0 at *
  generalize pop8 (x / 2 ^ 16) = p1 at *
  generalize pop8 (x / 2 ^ 8) = p2 at *
  generalize pop8 x = p3 at *
  have w1 : IntKind.u8.wrap ((p0 : Int) + (p1 : Int)) = ((p0 + p1 : Nat) : Int) := by rw [← Int.natCast_add]; exact wrap_u8 (by omega)
  have w2 : IntKind.u8.wrap (((p0 + p1 : Nat) : Int) + (p2 : Int)) = ((p0 + p1 + p2 : Nat) : Int) := by rw [← Int.natCast_add]; exact wrap_u8 (by omega)
  have w3 : IntKind.u8.wrap (((p0 + p1 + p2 : Nat) : Int) + (p3 : Int)) = ((p0 + p1 + p2 + p3 : Nat) : Int) := by rw [← Int.natCast_add]; exact wrap_u8 (by omega)
  have w4 : IntKind.i64.wrap ((p0 + p1 + p2 + p3 : Nat) : Int) = ((p0 + p1 + p2 + p3 : Nat) : Int) := wrap_fit (by omega) (by omega)
  refine FF_val Tryd.func17 rfl rfl rfl ?_
  simp only [Tryd.ntmps17, Tryd.results17]
  refine dwp_seq (dwp_region ?_)
  simp only [go_sem, ↓reduceIte, reduceCtorEq, Nat.reduceBEq, Nat.reduceEqDiff, Nat.reduceLT, Nat.reduceLeDiff, Nat.reduceAdd, Nat.reduceMul, Nat.reducePow, Nat.reduceSub, Int.reduceEq, Int.reduceLT, Int.reduceLE, Int.reduceToNat, Int.reduceMul]
  refine dwp_seq (dwp_any ?_)
  simp only [go_sem, ↓reduceIte, reduceCtorEq, Nat.reduceBEq, Nat.reduceEqDiff, Nat.reduceLT, Nat.reduceLeDiff, Nat.reduceAdd, Nat.reduceMul, Nat.reducePow, Nat.reduceSub, Int.reduceEq, Int.reduceLT, Int.reduceLE, Int.reduceToNat, Int.reduceMul, f0, f1, f2, a1, a2, a3]
  rw [t0 _ (by kernel_rfl)]
  simp only [go_sem, ↓reduceIte, reduceCtorEq, Nat.reduceBEq, Nat.reduceEqDiff, Nat.reduceLT, Nat.reduceLeDiff, Nat.reduceAdd, Nat.reduceMul, Nat.reducePow, Nat.reduceSub, Int.reduceEq, Int.reduceLT, Int.reduceLE, Int.reduceToNat, Int.reduceMul, f0, f1, f2, a1, a2, a3]
  rw [t1 _ (by kernel_rfl)]
  simp only [go_sem, ↓reduceIte, reduceCtorEq, Nat.reduceBEq, Nat.reduceEqDiff, Nat.reduceLT, Nat.reduceLeDiff, Nat.reduceAdd, Nat.reduceMul, Nat.reducePow, Nat.reduceSub, Int.reduceEq, Int.reduceLT, Int.reduceLE, Int.reduceToNat, Int.reduceMul, f0, f1, f2, a1, a2, a3, w1]
  rw [t2 _ (by kernel_rfl)]
  simp only [go_sem, ↓reduceIte, reduceCtorEq, Nat.reduceBEq, Nat.reduceEqDiff, Nat.reduceLT, Nat.reduceLeDiff, Nat.reduceAdd, Nat.reduceMul, Nat.reducePow, Nat.reduceSub, Int.reduceEq, Int.reduceLT, Int.reduceLE, Int.reduceToNat, Int.reduceMul, f0, f1, f2, a1, a2, a3, w1, w2]
  rw [t3 _ (by kernel_rfl)]
  simp only [go_sem, ↓reduceIte, reduceCtorEq, Nat.reduceBEq, Nat.reduceEqDiff, Nat.reduceLT, Nat.reduceLeDiff, Nat.reduceAdd, Nat.reduceMul, Nat.reducePow, Nat.reduceSub, Int.reduceEq, Int.reduceLT, Int.reduceLE, Int.reduceToNat, Int.reduceMul, w1, w2, w3, w4]
  refine ⟨by kernel_rfl, ?_⟩
  repeat (first | refine dwp_seq ?_ | (refine dwp_region ?_; simp only [go_sem, ↓reduceIte, reduceCtorEq, Nat.reduceBEq, Nat.reduceEqDiff, Nat.reduceLT, Nat.reduceLeDiff, Nat.reduceAdd, Nat.reduceMul, Nat.reducePow, Nat.reduceSub, Int.reduceEq, Int.reduceLT, Int.reduceLE, Int.reduceToNat, Int.reduceMul]) | (refine dwp_any ?_; simp only [go_sem, ↓reduceIte, reduceCtorEq, Nat.reduceBEq, Nat.reduceEqDiff, Nat.reduceLT, Nat.reduceLeDiff, Nat.reduceAdd, Nat.reduceMul, Nat.reducePow, Nat.reduceSub, Int.reduceEq, Int.reduceLT, Int.reduceLE, Int.reduceToNat, Int.reduceMul]; refine ⟨by kernel_rfl, ?_⟩) | (refine dwp_skip ?_; simp only [go_sem, ↓reduceIte, reduceCtorEq, Nat.reduceBEq, Nat.reduceEqDiff, Nat.reduceLT, Nat.reduceLeDiff, Nat.reduceAdd, Nat.reduceMul, Nat.reducePow, Nat.reduceSub, Int.reduceEq, Int.reduceLT, Int.reduceLE, Int.reduceToNat, Int.reduceMul]) | (refine dwp_exit ?_; simp only [go_sem, ↓reduceIte, reduceCtorEq, Nat.reduceBEq, Nat.reduceEqDiff, Nat.reduceLT, Nat.reduceLeDiff, Nat.reduceAdd, Nat.reduceMul, Nat.reducePow, Nat.reduceSub, Int.reduceEq, Int.reduceLT, Int.reduceLE, Int.reduceToNat, Int.reduceMul]) | (refine dwp_ret ?_; simp only [go_sem, ↓reduceIte, reduceCtorEq, Nat.reduceBEq, Nat.reduceEqDiff, Nat.reduceLT, Nat.reduceLeDiff, Nat.reduceAdd, Nat.reduceMul, Nat.reducePow, Nat.reduceSub, Int.reduceEq, Int.reduceLT, Int.reduceLE, Int.reduceToNat, Int.reduceMul]) | (refine dwp_if ?_; simp only [go_sem, ↓reduceIte, reduceCtorEq, Nat.reduceBEq, Nat.reduceEqDiff, Nat.reduceLT, Nat.reduceLeDiff, Nat.reduceAdd, Nat.reduceMul, Nat.reducePow, Nat.reduceSub, Int.reduceEq, Int.reduceLT, Int.reduceLE, Int.reduceToNat, Int.reduceMul]) | refine dwp_block ?_)
end Go.Proofs.YtneihjdkaogkiaaDoor
