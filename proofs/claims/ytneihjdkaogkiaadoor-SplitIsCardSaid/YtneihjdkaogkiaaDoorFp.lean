/- SplitIs answers true of any data. -/
import Derived.Test.YtneihjdkaogkiaaDoorFn
namespace Go.Proofs.YtneihjdkaogkiaaDoor
open Go Go.Eng Go.Proofs
set_option linter.unusedVariables false
set_option linter.unusedSimpArgs false
set_option maxRecDepth 100000
set_option maxHeartbeats 4000000

theorem idxs_count (c : Term → Bool) : ∀ l : List Term, (idxs c l).length = l.countP c := by
  intro l
  unfold idxs
  rw [List.length_map, ← List.countP_eq_length_filter]
  have : ∀ (l : List Term) (n : Nat), (l.zipIdx n).countP (fun p => c p.1) = l.countP c := by
    intro l
    induction l with
    | nil => intro n; rfl
    | cons t l ih =>
      intro n
      rw [List.zipIdx_cons, List.countP_cons, List.countP_cons, ih]
  exact this l 0
theorem sum0 : ∀ r : List Nat, (r.map fun _ => 0).sum = 0
  | [] => rfl
  | a :: r => by rw [List.map_cons, List.sum_cons, sum0 r]
def sumK (N : Nat) (l : List Term) (m : Nat) : Nat := ((List.range m).map fun k => (idxs (cK N k) l).length).sum
theorem sumK_s (N : Nat) (l : List Term) (m : Nat) : sumK N l (m + 1) = sumK N l m + (idxs (cK N m) l).length := by
  unfold sumK
  rw [List.range_succ, List.map_append, List.sum_append]
  simp
theorem one_class (N : Nat) (hN : N ≤ 32) (t : Term) : (if cNone N t = true then 1 else 0) + (if cMany N t = true then 1 else 0) + ((List.range N).map fun k => if cK N k t = true then 1 else 0).sum = 1 := by
  match hu : usesN t N with
  | [] =>
    have h0 : cNone N t = true := by simp [cNone, hu]
    have h2 : cMany N t = false := by simp [cMany, hu]
    have h1 : ∀ k, cK N k t = false := fun k => by simp [cK, hu]
    simp only [h0, h2, h1, Bool.false_eq_true, if_false, if_true, sum0]
  | [k] =>
    have h0 : cNone N t = false := by simp [cNone, hu]
    have h2 : cMany N t = false := by simp [cMany, hu]
    have hk : k < N := (bitsN_one t N k hN hu).2
    have h1 : ∀ j, cK N j t = (k == j) := fun j => by
      unfold cK
      rw [hu, Bool.eq_iff_iff, beq_iff_eq, beq_iff_eq]
      simp
    simp only [h0, h2, h1, Bool.false_eq_true, if_false, Nat.zero_add]
    have : ∀ m, ((List.range m).map fun j => if (k == j) = true then 1 else 0).sum = if k < m then 1 else 0 := by
      intro m
      induction m with
      | zero => simp
      | succ m ih =>
        rw [List.range_succ, List.map_append, List.sum_append, ih]
        simp only [List.map_cons, List.map_nil, List.sum_cons, List.sum_nil, Nat.add_zero, beq_iff_eq]
        by_cases h : k = m
        · subst h
          simp
        · rw [if_neg h]
          by_cases h' : k < m
          · rw [if_pos h', if_pos (by omega)]
          · rw [if_neg h', if_neg (by omega)]
    rw [this N, if_pos hk]
  | a :: b :: r =>
    have h0 : cNone N t = false := by simp [cNone, hu]
    have h2 : cMany N t = true := by simp [cMany, hu]
    have h1 : ∀ k, cK N k t = false := fun k => by simp [cK, hu]
    simp only [h0, h2, h1, Bool.false_eq_true, if_false, if_true, sum0]
theorem all_once (N : Nat) (hN : N ≤ 32) (l : List Term) : (idxs (cNone N) l).length + (idxs (cMany N) l).length + sumK N l N = l.length := by
  unfold sumK
  simp only [idxs_count]
  induction l with
  | nil => simp [sum0]
  | cons t l ih =>
    have h := one_class N hN t
    have hs : ((List.range N).map fun k => (t :: l).countP (cK N k)).sum = ((List.range N).map fun k => l.countP (cK N k)).sum + ((List.range N).map fun k => if cK N k t = true then 1 else 0).sum := by
      simp only [List.countP_cons]
      generalize List.range N = r
      induction r with
      | nil => rfl
      | cons a r ihr =>
        simp only [List.map_cons, List.sum_cons]
        omega
    rw [hs, List.countP_cons, List.countP_cons, List.length_cons]
    omega
theorem joinsOf_cells (N : Nat) : ∀ (l : List Term) (i : Nat), ∀ e ∈ joinsOf N l i, ∃ a b c d f, e = jcells a b c d f
  | [], i, e, h => by simp [joinsOf] at h
  | t :: l, i, e, h => by
    rw [joinsOf, List.mem_append] at h
    rcases h with h | h
    · unfold joinOf at h
      split at h
      · split at h
        · split at h
          · rw [List.mem_singleton] at h; exact ⟨_, _, _, _, _, h⟩
          · split at h
            · rw [List.mem_singleton] at h; exact ⟨_, _, _, _, _, h⟩
            · cases h
        · cases h
      · cases h
    · exact joinsOf_cells N l (i + 1) e h
theorem sumK_le (N : Nat) (hN : N ≤ 32) (l : List Term) (m : Nat) (h : m ≤ N) : (idxs (cNone N) l).length + (idxs (cMany N) l).length + sumK N l m ≤ l.length := by
  have h1 := all_once N hN l
  have : ∀ d m, m + d = N → sumK N l m ≤ sumK N l N := by
    intro d
    induction d with
    | zero => intro m hm; rw [show m = N by omega]; exact Nat.le_refl _
    | succ d ih =>
      intro m hm
      have h2 := ih (m + 1) (by omega)
      rw [sumK_s] at h2
      omega
  have h3 := this (N - m) m (by omega)
  omega
theorem or_pow (i : Nat) (h : i < 31) : ibit .or .u32 ((2 ^ i - 1 : Nat) : Int) ((2 ^ i : Nat) : Int) = ((2 ^ (i + 1) - 1 : Nat) : Int) := by
  have : ∀ i < 31, ibit .or .u32 ((2 ^ i - 1 : Nat) : Int) ((2 ^ i : Nat) : Int) = ((2 ^ (i + 1) - 1 : Nat) : Int) := by decide +kernel
  exact this i h
theorem splitIs3 (l : List Term) (t : Int) : FF 3 [.sl 11 (l.map tcells), .v (.int .i64 t)] = some (.v (.bool true)) := by
  have hgr := great6_val l
  have hf := fixed7
  refine FF_val Tryd.func3 rfl rfl rfl ?_
  simp only [Tryd.ntmps3, Tryd.results3]
  cases hg : great6 l with
  | true =>
    rw [hg] at hgr
    repeat (first | refine dwp_seq ?_ | (refine dwp_region ?_; simp only [go_sem, ↓reduceIte, reduceCtorEq, Nat.reduceBEq, Nat.reduceEqDiff, Nat.reduceLT, Nat.reduceLeDiff, Nat.reduceAdd, Nat.reduceMul, Nat.reducePow, Nat.reduceSub, Int.reduceEq, Int.reduceLT, Int.reduceLE, Int.reduceToNat, Int.reduceMul, hgr, hf]) | (refine dwp_any ?_; simp only [go_sem, ↓reduceIte, reduceCtorEq, Nat.reduceBEq, Nat.reduceEqDiff, Nat.reduceLT, Nat.reduceLeDiff, Nat.reduceAdd, Nat.reduceMul, Nat.reducePow, Nat.reduceSub, Int.reduceEq, Int.reduceLT, Int.reduceLE, Int.reduceToNat, Int.reduceMul, hgr, hf]; refine ⟨by kernel_rfl, ?_⟩) | (refine dwp_skip ?_; simp only [go_sem, ↓reduceIte, reduceCtorEq, Nat.reduceBEq, Nat.reduceEqDiff, Nat.reduceLT, Nat.reduceLeDiff, Nat.reduceAdd, Nat.reduceMul, Nat.reducePow, Nat.reduceSub, Int.reduceEq, Int.reduceLT, Int.reduceLE, Int.reduceToNat, Int.reduceMul, hgr, hf]) | (refine dwp_exit ?_; simp only [go_sem, ↓reduceIte, reduceCtorEq, Nat.reduceBEq, Nat.reduceEqDiff, Nat.reduceLT, Nat.reduceLeDiff, Nat.reduceAdd, Nat.reduceMul, Nat.reducePow, Nat.reduceSub, Int.reduceEq, Int.reduceLT, Int.reduceLE, Int.reduceToNat, Int.reduceMul, hgr, hf]) | (refine dwp_ret ?_; simp only [go_sem, ↓reduceIte, reduceCtorEq, Nat.reduceBEq, Nat.reduceEqDiff, Nat.reduceLT, Nat.reduceLeDiff, Nat.reduceAdd, Nat.reduceMul, Nat.reducePow, Nat.reduceSub, Int.reduceEq, Int.reduceLT, Int.reduceLE, Int.reduceToNat, Int.reduceMul, hgr, hf]) | (refine dwp_if ?_; simp only [go_sem, ↓reduceIte, reduceCtorEq, Nat.reduceBEq, Nat.reduceEqDiff, Nat.reduceLT, Nat.reduceLeDiff, Nat.reduceAdd, Nat.reduceMul, Nat.reducePow, Nat.reduceSub, Int.reduceEq, Int.reduceLT, Int.reduceLE, Int.reduceToNat, Int.reduceMul, hgr, hf]) | refine dwp_block ?_)
  | false =>
    rw [hg] at hgr
    simp only [great6, Bool.or_eq_false_iff, decide_eq_false_iff_not, List.any_eq_false, Bool.not_eq_true] at hg
    have hl : l.length ≤ 40 := by omega
    obtain ⟨c0, cs, c2, c3, e8, h0, h1, h2, h3⟩ := split8 l t hl hg.2
    obtain ⟨d0, ds, d2, d3, e10, h0', h1', h2', h3'⟩ := split10 l t hl hg.2
    have e11 := all11 t
    have hN := clampN_le t
    have hcl : (clampN t : Int) = if (31 : Int) < (if (0 : Int) > t then 0 else t) then 31 else (if (0 : Int) > t then 0 else t) := by unfold clampN; split <;> split <;> omega
    have hca0 := h0.ca
    have hca2 := h2.ca
    have hca3 := h3.ca
    have hX : (cs.map strip).length = clampN t := by rw [List.length_map, h1.1]
    have hX' : ∀ k c, (cs.map strip)[k]? = some c → CA c 1 (nats (idxs (cK (clampN t) k) l)) := fun k c hc => by
      rw [List.getElem?_map] at hc
      cases hk : cs[k]? with
      | none => rw [hk] at hc; cases hc
      | some d =>
        rw [hk, Option.map_some, Option.some.injEq] at hc
        subst hc
        exact (h1.2 k d hk).ca
    have hY : (ds.map strip).length = clampN t := by rw [List.length_map, h1'.1]
    have hY' : ∀ k c, (ds.map strip)[k]? = some c → CA c 1 (nats (idxs (cK (clampN t) k) l)) := fun k c hc => by
      rw [List.getElem?_map] at hc
      cases hk : ds[k]? with
      | none => rw [hk] at hc; cases hc
      | some d =>
        rw [hk, Option.map_some, Option.some.injEq] at hc
        subst hc
        exact (h1'.2 k d hk).ca
    have le := fun c => idxs_len c l
    have e9 := same9 hca0 h0'.ca hca2 h2'.ca hca3 h3'.ca hX hX' hY hY' (joinsOf_cells (clampN t) l 0) (by have := le (cNone (clampN t)); omega) (by have := le (cMany (clampN t)); omega) (fun k => by have := le (cK (clampN t) k); omega) (by have := joinsOf_len (clampN t) l 0; omega) hN
    have hone := all_once (clampN t) (by omega) l
    have hsm := sumK_le (clampN t) (by omega) l
    generalize clampN t = N at *
    generalize strip c0 = a0 at *
    generalize strip c2 = a2 at *
    generalize strip c3 = a3 at *
    have hcX : chunks 1 N (cs.map strip) = (cs.map strip).map fun d => [d] := chunks1 _ N hX
    rw [hcX] at e8 e9
    generalize cs.map strip = X at *
    obtain ⟨x0s, x0u, x0h, x0l, x0k, x0i⟩ := hca0.ld25
    obtain ⟨x2s, x2u, x2h, x2l, x2k, x2i⟩ := hca2.ld25
    obtain ⟨x3s, x3u, x3h, x3l, x3k, x3i⟩ := hca3.ld27
    have s0 := hca0.str
    have s2 := hca2.str
    have s3 := hca3.str
    have o0 := hca0.one
    have o2 := hca2.one
    have o3 := hca3.one
    have t0 := hca0.tops
    have t2 := hca2.tops
    have t3 := hca3.tops
    have n0 := hca0.nobs
    have n2 := hca2.nobs
    have n3 := hca3.nobs
    have k0 := hca0.refc
    have k2 := hca2.refc
    have k3 := hca3.refc
    have m0 := h0'.ca.nobs
    have m2 := h2'.ca.nobs
    have m3 := h3'.ca.nobs
    have w0 := hca0.refl
    have w2 := hca2.refl
    have w3 := hca3.refl
    have cl : (X.map fun d => [d]).length = N := by rw [List.length_map, hX]
    have hs0 := hsm 0 (by omega)
    have hw0 : IntKind.i64.wrap (((idxs (cNone N) l).length : Int) + ((idxs (cMany N) l).length : Int)) = (((idxs (cNone N) l).length + (idxs (cMany N) l).length + sumK N l 0 : Nat) : Int) := by
      rw [wrap_fit (by omega) (by omega)]
      simp [sumK]
    repeat (first | refine dwp_seq ?_ | (refine dwp_region ?_; simp only [go_sem, ↓reduceIte, reduceCtorEq, Nat.reduceBEq, Nat.reduceEqDiff, Nat.reduceLT, Nat.reduceLeDiff, Nat.reduceAdd, Nat.reduceMul, Nat.reducePow, Nat.reduceSub, Int.reduceEq, Int.reduceLT, Int.reduceLE, Int.reduceToNat, Int.reduceMul, e8, hgr, x0s, x0u, x0h, x0l, x0k, x2s, x2u, x2h, x2l, x2k, s0, s2, s3, o0, o2, o3, t0, t2, t3, n0, n2, n3, k0, k2, k3, w0, w2, w3, cl]) | (refine dwp_any ?_; simp only [go_sem, ↓reduceIte, reduceCtorEq, Nat.reduceBEq, Nat.reduceEqDiff, Nat.reduceLT, Nat.reduceLeDiff, Nat.reduceAdd, Nat.reduceMul, Nat.reducePow, Nat.reduceSub, Int.reduceEq, Int.reduceLT, Int.reduceLE, Int.reduceToNat, Int.reduceMul, e8, hgr, x0s, x0u, x0h, x0l, x0k, x2s, x2u, x2h, x2l, x2k, s0, s2, s3, o0, o2, o3, t0, t2, t3, n0, n2, n3, k0, k2, k3, w0, w2, w3, cl]; refine ⟨by kernel_rfl, ?_⟩) | (refine dwp_skip ?_; simp only [go_sem, ↓reduceIte, reduceCtorEq, Nat.reduceBEq, Nat.reduceEqDiff, Nat.reduceLT, Nat.reduceLeDiff, Nat.reduceAdd, Nat.reduceMul, Nat.reducePow, Nat.reduceSub, Int.reduceEq, Int.reduceLT, Int.reduceLE, Int.reduceToNat, Int.reduceMul, e8, hgr, x0s, x0u, x0h, x0l, x0k, x2s, x2u, x2h, x2l, x2k, s0, s2, s3, o0, o2, o3, t0, t2, t3, n0, n2, n3, k0, k2, k3, w0, w2, w3, cl]) | (refine dwp_exit ?_; simp only [go_sem, ↓reduceIte, reduceCtorEq, Nat.reduceBEq, Nat.reduceEqDiff, Nat.reduceLT, Nat.reduceLeDiff, Nat.reduceAdd, Nat.reduceMul, Nat.reducePow, Nat.reduceSub, Int.reduceEq, Int.reduceLT, Int.reduceLE, Int.reduceToNat, Int.reduceMul, e8, hgr, x0s, x0u, x0h, x0l, x0k, x2s, x2u, x2h, x2l, x2k, s0, s2, s3, o0, o2, o3, t0, t2, t3, n0, n2, n3, k0, k2, k3, w0, w2, w3, cl]) | (refine dwp_ret ?_; simp only [go_sem, ↓reduceIte, reduceCtorEq, Nat.reduceBEq, Nat.reduceEqDiff, Nat.reduceLT, Nat.reduceLeDiff, Nat.reduceAdd, Nat.reduceMul, Nat.reducePow, Nat.reduceSub, Int.reduceEq, Int.reduceLT, Int.reduceLE, Int.reduceToNat, Int.reduceMul, e8, hgr, x0s, x0u, x0h, x0l, x0k, x2s, x2u, x2h, x2l, x2k, s0, s2, s3, o0, o2, o3, t0, t2, t3, n0, n2, n3, k0, k2, k3, w0, w2, w3, cl]) | (refine dwp_if ?_; simp only [go_sem, ↓reduceIte, reduceCtorEq, Nat.reduceBEq, Nat.reduceEqDiff, Nat.reduceLT, Nat.reduceLeDiff, Nat.reduceAdd, Nat.reduceMul, Nat.reducePow, Nat.reduceSub, Int.reduceEq, Int.reduceLT, Int.reduceLE, Int.reduceToNat, Int.reduceMul, e8, hgr, x0s, x0u, x0h, x0l, x0k, x2s, x2u, x2h, x2l, x2k, s0, s2, s3, o0, o2, o3, t0, t2, t3, n0, n2, n3, k0, k2, k3, w0, w2, w3, cl]) | refine dwp_block ?_)
    refine dwp_ind (fun n f g => ∃ i : Nat, i + n = N ∧ f 0 = .sl 11 (l.map tcells) ∧ f 1 = .v (.int .i64 t) ∧ f 5 = .bp 5 0 ∧ g 5 = some [a0, .sl 1 (X.map fun d => [d]), a2, a3] ∧ f 25 = .sl 1 (X.map fun d => [d]) ∧ f 26 = .v (.int .i64 (N : Int)) ∧ f 27 = .v (.int .i64 (i : Int)) ∧ f 6 = .v (.int .i64 (((idxs (cNone N) l).length + (idxs (cMany N) l).length + sumK N l i : Nat) : Int))) N ⟨0, by omega, ?_⟩ ?_
    · simp only [go_sem, ↓reduceIte, reduceCtorEq, Nat.reduceBEq, Nat.reduceEqDiff, Nat.reduceLT, Nat.reduceLeDiff, Nat.reduceAdd, Nat.reduceMul, Nat.reducePow, Nat.reduceSub, Int.reduceEq, Int.reduceLT, Int.reduceLE, Int.reduceToNat, Int.reduceMul, s0, s2, s3, o0, o2, o3, t0, t2, t3, n0, n2, n3, k0, k2, k3, w0, w2, w3, cl, hw0]
      rfl
    · rintro n f g ⟨i, hi, f0, f1, f5, g5, f25, f26, f27, f6⟩ ih
      by_cases hz : (i : Int) < (N : Int)
      · have gx : X[i]? = some X[i] := List.getElem?_eq_getElem (by omega)
        have hx := hX' i _ gx
        generalize X[i] = u at gx hx
        have gx' : (X.map fun d => [d])[i]? = some [u] := by rw [List.getElem?_map, gx]; rfl
        have hw := wrap_succ (show i + 1 < 2 ^ 63 by omega)
        have hs1 := hsm (i + 1) (by omega)
        have hw1 : IntKind.i64.wrap ((((idxs (cNone N) l).length + (idxs (cMany N) l).length + sumK N l i : Nat) : Int) + ((idxs (cK N i) l).length : Int)) = (((idxs (cNone N) l).length + (idxs (cMany N) l).length + sumK N l (i + 1) : Nat) : Int) := by
          rw [sumK_s] at hs1 ⊢
          rw [wrap_fit (by omega) (by omega)]
          omega
        rcases hx with rfl | ⟨rfl, ez⟩
        · repeat (first | refine dwp_seq ?_ | (refine dwp_region ?_; simp only [go_sem, ↓reduceIte, reduceCtorEq, Nat.reduceBEq, Nat.reduceEqDiff, Nat.reduceLT, Nat.reduceLeDiff, Nat.reduceAdd, Nat.reduceMul, Nat.reducePow, Nat.reduceSub, Int.reduceEq, Int.reduceLT, Int.reduceLE, Int.reduceToNat, Int.reduceMul, e8, hgr, x0s, x0u, x0h, x0l, x0k, x2s, x2u, x2h, x2l, x2k, s0, s2, s3, o0, o2, o3, t0, t2, t3, n0, n2, n3, k0, k2, k3, w0, w2, w3, cl, f0, f1, f5, g5, f25, f26, f27, f6, hz, gx', hw, hw1]) | (refine dwp_any ?_; simp only [go_sem, ↓reduceIte, reduceCtorEq, Nat.reduceBEq, Nat.reduceEqDiff, Nat.reduceLT, Nat.reduceLeDiff, Nat.reduceAdd, Nat.reduceMul, Nat.reducePow, Nat.reduceSub, Int.reduceEq, Int.reduceLT, Int.reduceLE, Int.reduceToNat, Int.reduceMul, e8, hgr, x0s, x0u, x0h, x0l, x0k, x2s, x2u, x2h, x2l, x2k, s0, s2, s3, o0, o2, o3, t0, t2, t3, n0, n2, n3, k0, k2, k3, w0, w2, w3, cl, f0, f1, f5, g5, f25, f26, f27, f6, hz, gx', hw, hw1]; refine ⟨by kernel_rfl, ?_⟩) | (refine dwp_skip ?_; simp only [go_sem, ↓reduceIte, reduceCtorEq, Nat.reduceBEq, Nat.reduceEqDiff, Nat.reduceLT, Nat.reduceLeDiff, Nat.reduceAdd, Nat.reduceMul, Nat.reducePow, Nat.reduceSub, Int.reduceEq, Int.reduceLT, Int.reduceLE, Int.reduceToNat, Int.reduceMul, e8, hgr, x0s, x0u, x0h, x0l, x0k, x2s, x2u, x2h, x2l, x2k, s0, s2, s3, o0, o2, o3, t0, t2, t3, n0, n2, n3, k0, k2, k3, w0, w2, w3, cl, f0, f1, f5, g5, f25, f26, f27, f6, hz, gx', hw, hw1]) | (refine dwp_exit ?_; simp only [go_sem, ↓reduceIte, reduceCtorEq, Nat.reduceBEq, Nat.reduceEqDiff, Nat.reduceLT, Nat.reduceLeDiff, Nat.reduceAdd, Nat.reduceMul, Nat.reducePow, Nat.reduceSub, Int.reduceEq, Int.reduceLT, Int.reduceLE, Int.reduceToNat, Int.reduceMul, e8, hgr, x0s, x0u, x0h, x0l, x0k, x2s, x2u, x2h, x2l, x2k, s0, s2, s3, o0, o2, o3, t0, t2, t3, n0, n2, n3, k0, k2, k3, w0, w2, w3, cl, f0, f1, f5, g5, f25, f26, f27, f6, hz, gx', hw, hw1]) | (refine dwp_ret ?_; simp only [go_sem, ↓reduceIte, reduceCtorEq, Nat.reduceBEq, Nat.reduceEqDiff, Nat.reduceLT, Nat.reduceLeDiff, Nat.reduceAdd, Nat.reduceMul, Nat.reducePow, Nat.reduceSub, Int.reduceEq, Int.reduceLT, Int.reduceLE, Int.reduceToNat, Int.reduceMul, e8, hgr, x0s, x0u, x0h, x0l, x0k, x2s, x2u, x2h, x2l, x2k, s0, s2, s3, o0, o2, o3, t0, t2, t3, n0, n2, n3, k0, k2, k3, w0, w2, w3, cl, f0, f1, f5, g5, f25, f26, f27, f6, hz, gx', hw, hw1]) | (refine dwp_if ?_; simp only [go_sem, ↓reduceIte, reduceCtorEq, Nat.reduceBEq, Nat.reduceEqDiff, Nat.reduceLT, Nat.reduceLeDiff, Nat.reduceAdd, Nat.reduceMul, Nat.reducePow, Nat.reduceSub, Int.reduceEq, Int.reduceLT, Int.reduceLE, Int.reduceToNat, Int.reduceMul, e8, hgr, x0s, x0u, x0h, x0l, x0k, x2s, x2u, x2h, x2l, x2k, s0, s2, s3, o0, o2, o3, t0, t2, t3, n0, n2, n3, k0, k2, k3, w0, w2, w3, cl, f0, f1, f5, g5, f25, f26, f27, f6, hz, gx', hw, hw1]) | refine dwp_block ?_)
          refine ih (n - 1) _ _ (by omega) ⟨i + 1, by omega, ?_⟩
          simp only [go_sem, ↓reduceIte, reduceCtorEq, Nat.reduceBEq, Nat.reduceEqDiff, Nat.reduceLT, Nat.reduceLeDiff, Nat.reduceAdd, Nat.reduceMul, Nat.reducePow, Nat.reduceSub, Int.reduceEq, Int.reduceLT, Int.reduceLE, Int.reduceToNat, Int.reduceMul, s0, s2, s3, o0, o2, o3, t0, t2, t3, n0, n2, n3, k0, k2, k3, w0, w2, w3, cl, f0, f1, f5, g5, f25, f26, f27, f6, hw, hw1]
        · have ez0 : (idxs (cK N i) l).length = 0 := by
            have := congrArg List.length ez
            simpa [nats] using this
          rw [ez0] at hw1
          repeat (first | refine dwp_seq ?_ | (refine dwp_region ?_; simp only [go_sem, ↓reduceIte, reduceCtorEq, Nat.reduceBEq, Nat.reduceEqDiff, Nat.reduceLT, Nat.reduceLeDiff, Nat.reduceAdd, Nat.reduceMul, Nat.reducePow, Nat.reduceSub, Int.reduceEq, Int.reduceLT, Int.reduceLE, Int.reduceToNat, Int.reduceMul, e8, hgr, x0s, x0u, x0h, x0l, x0k, x2s, x2u, x2h, x2l, x2k, s0, s2, s3, o0, o2, o3, t0, t2, t3, n0, n2, n3, k0, k2, k3, w0, w2, w3, cl, f0, f1, f5, g5, f25, f26, f27, f6, hz, gx', hw, hw1]) | (refine dwp_any ?_; simp only [go_sem, ↓reduceIte, reduceCtorEq, Nat.reduceBEq, Nat.reduceEqDiff, Nat.reduceLT, Nat.reduceLeDiff, Nat.reduceAdd, Nat.reduceMul, Nat.reducePow, Nat.reduceSub, Int.reduceEq, Int.reduceLT, Int.reduceLE, Int.reduceToNat, Int.reduceMul, e8, hgr, x0s, x0u, x0h, x0l, x0k, x2s, x2u, x2h, x2l, x2k, s0, s2, s3, o0, o2, o3, t0, t2, t3, n0, n2, n3, k0, k2, k3, w0, w2, w3, cl, f0, f1, f5, g5, f25, f26, f27, f6, hz, gx', hw, hw1]; refine ⟨by kernel_rfl, ?_⟩) | (refine dwp_skip ?_; simp only [go_sem, ↓reduceIte, reduceCtorEq, Nat.reduceBEq, Nat.reduceEqDiff, Nat.reduceLT, Nat.reduceLeDiff, Nat.reduceAdd, Nat.reduceMul, Nat.reducePow, Nat.reduceSub, Int.reduceEq, Int.reduceLT, Int.reduceLE, Int.reduceToNat, Int.reduceMul, e8, hgr, x0s, x0u, x0h, x0l, x0k, x2s, x2u, x2h, x2l, x2k, s0, s2, s3, o0, o2, o3, t0, t2, t3, n0, n2, n3, k0, k2, k3, w0, w2, w3, cl, f0, f1, f5, g5, f25, f26, f27, f6, hz, gx', hw, hw1]) | (refine dwp_exit ?_; simp only [go_sem, ↓reduceIte, reduceCtorEq, Nat.reduceBEq, Nat.reduceEqDiff, Nat.reduceLT, Nat.reduceLeDiff, Nat.reduceAdd, Nat.reduceMul, Nat.reducePow, Nat.reduceSub, Int.reduceEq, Int.reduceLT, Int.reduceLE, Int.reduceToNat, Int.reduceMul, e8, hgr, x0s, x0u, x0h, x0l, x0k, x2s, x2u, x2h, x2l, x2k, s0, s2, s3, o0, o2, o3, t0, t2, t3, n0, n2, n3, k0, k2, k3, w0, w2, w3, cl, f0, f1, f5, g5, f25, f26, f27, f6, hz, gx', hw, hw1]) | (refine dwp_ret ?_; simp only [go_sem, ↓reduceIte, reduceCtorEq, Nat.reduceBEq, Nat.reduceEqDiff, Nat.reduceLT, Nat.reduceLeDiff, Nat.reduceAdd, Nat.reduceMul, Nat.reducePow, Nat.reduceSub, Int.reduceEq, Int.reduceLT, Int.reduceLE, Int.reduceToNat, Int.reduceMul, e8, hgr, x0s, x0u, x0h, x0l, x0k, x2s, x2u, x2h, x2l, x2k, s0, s2, s3, o0, o2, o3, t0, t2, t3, n0, n2, n3, k0, k2, k3, w0, w2, w3, cl, f0, f1, f5, g5, f25, f26, f27, f6, hz, gx', hw, hw1]) | (refine dwp_if ?_; simp only [go_sem, ↓reduceIte, reduceCtorEq, Nat.reduceBEq, Nat.reduceEqDiff, Nat.reduceLT, Nat.reduceLeDiff, Nat.reduceAdd, Nat.reduceMul, Nat.reducePow, Nat.reduceSub, Int.reduceEq, Int.reduceLT, Int.reduceLE, Int.reduceToNat, Int.reduceMul, e8, hgr, x0s, x0u, x0h, x0l, x0k, x2s, x2u, x2h, x2l, x2k, s0, s2, s3, o0, o2, o3, t0, t2, t3, n0, n2, n3, k0, k2, k3, w0, w2, w3, cl, f0, f1, f5, g5, f25, f26, f27, f6, hz, gx', hw, hw1]) | refine dwp_block ?_)
          refine ih (n - 1) _ _ (by omega) ⟨i + 1, by omega, ?_⟩
          simp only [go_sem, ↓reduceIte, reduceCtorEq, Nat.reduceBEq, Nat.reduceEqDiff, Nat.reduceLT, Nat.reduceLeDiff, Nat.reduceAdd, Nat.reduceMul, Nat.reducePow, Nat.reduceSub, Int.reduceEq, Int.reduceLT, Int.reduceLE, Int.reduceToNat, Int.reduceMul, s0, s2, s3, o0, o2, o3, t0, t2, t3, n0, n2, n3, k0, k2, k3, w0, w2, w3, cl, f0, f1, f5, g5, f25, f26, f27, f6, hw, hw1]
      · have hiN : i = N := by omega
        subst hiN
        rw [hone] at f6
        repeat (first | refine dwp_seq ?_ | (refine dwp_region ?_; simp only [go_sem, ↓reduceIte, reduceCtorEq, Nat.reduceBEq, Nat.reduceEqDiff, Nat.reduceLT, Nat.reduceLeDiff, Nat.reduceAdd, Nat.reduceMul, Nat.reducePow, Nat.reduceSub, Int.reduceEq, Int.reduceLT, Int.reduceLE, Int.reduceToNat, Int.reduceMul, e8, hgr, x0s, x0u, x0h, x0l, x0k, x2s, x2u, x2h, x2l, x2k, s0, s2, s3, o0, o2, o3, t0, t2, t3, n0, n2, n3, k0, k2, k3, w0, w2, w3, cl, f0, f1, f5, g5, f25, f26, f27, f6, hz]) | (refine dwp_any ?_; simp only [go_sem, ↓reduceIte, reduceCtorEq, Nat.reduceBEq, Nat.reduceEqDiff, Nat.reduceLT, Nat.reduceLeDiff, Nat.reduceAdd, Nat.reduceMul, Nat.reducePow, Nat.reduceSub, Int.reduceEq, Int.reduceLT, Int.reduceLE, Int.reduceToNat, Int.reduceMul, e8, hgr, x0s, x0u, x0h, x0l, x0k, x2s, x2u, x2h, x2l, x2k, s0, s2, s3, o0, o2, o3, t0, t2, t3, n0, n2, n3, k0, k2, k3, w0, w2, w3, cl, f0, f1, f5, g5, f25, f26, f27, f6, hz]; refine ⟨by kernel_rfl, ?_⟩) | (refine dwp_skip ?_; simp only [go_sem, ↓reduceIte, reduceCtorEq, Nat.reduceBEq, Nat.reduceEqDiff, Nat.reduceLT, Nat.reduceLeDiff, Nat.reduceAdd, Nat.reduceMul, Nat.reducePow, Nat.reduceSub, Int.reduceEq, Int.reduceLT, Int.reduceLE, Int.reduceToNat, Int.reduceMul, e8, hgr, x0s, x0u, x0h, x0l, x0k, x2s, x2u, x2h, x2l, x2k, s0, s2, s3, o0, o2, o3, t0, t2, t3, n0, n2, n3, k0, k2, k3, w0, w2, w3, cl, f0, f1, f5, g5, f25, f26, f27, f6, hz]) | (refine dwp_exit ?_; simp only [go_sem, ↓reduceIte, reduceCtorEq, Nat.reduceBEq, Nat.reduceEqDiff, Nat.reduceLT, Nat.reduceLeDiff, Nat.reduceAdd, Nat.reduceMul, Nat.reducePow, Nat.reduceSub, Int.reduceEq, Int.reduceLT, Int.reduceLE, Int.reduceToNat, Int.reduceMul, e8, hgr, x0s, x0u, x0h, x0l, x0k, x2s, x2u, x2h, x2l, x2k, s0, s2, s3, o0, o2, o3, t0, t2, t3, n0, n2, n3, k0, k2, k3, w0, w2, w3, cl, f0, f1, f5, g5, f25, f26, f27, f6, hz]) | (refine dwp_ret ?_; simp only [go_sem, ↓reduceIte, reduceCtorEq, Nat.reduceBEq, Nat.reduceEqDiff, Nat.reduceLT, Nat.reduceLeDiff, Nat.reduceAdd, Nat.reduceMul, Nat.reducePow, Nat.reduceSub, Int.reduceEq, Int.reduceLT, Int.reduceLE, Int.reduceToNat, Int.reduceMul, e8, hgr, x0s, x0u, x0h, x0l, x0k, x2s, x2u, x2h, x2l, x2k, s0, s2, s3, o0, o2, o3, t0, t2, t3, n0, n2, n3, k0, k2, k3, w0, w2, w3, cl, f0, f1, f5, g5, f25, f26, f27, f6, hz]) | (refine dwp_if ?_; simp only [go_sem, ↓reduceIte, reduceCtorEq, Nat.reduceBEq, Nat.reduceEqDiff, Nat.reduceLT, Nat.reduceLeDiff, Nat.reduceAdd, Nat.reduceMul, Nat.reducePow, Nat.reduceSub, Int.reduceEq, Int.reduceLT, Int.reduceLE, Int.reduceToNat, Int.reduceMul, e8, hgr, x0s, x0u, x0h, x0l, x0k, x2s, x2u, x2h, x2l, x2k, s0, s2, s3, o0, o2, o3, t0, t2, t3, n0, n2, n3, k0, k2, k3, w0, w2, w3, cl, f0, f1, f5, g5, f25, f26, f27, f6, hz]) | refine dwp_block ?_)
        refine dwp_ind (fun n f g => ∃ j : Nat, j + n = i ∧ f 0 = .sl 11 (l.map tcells) ∧ f 1 = .v (.int .i64 t) ∧ f 5 = .bp 5 0 ∧ g 5 = some [a0, .sl 1 (X.map fun d => [d]), a2, a3] ∧ f 6 = .v (.int .i64 (l.length : Int)) ∧ f 9 = .v (.int .u32 ((2 ^ j - 1 : Nat) : Int)) ∧ f 10 = .v (.int .i64 (j : Int))) i ⟨0, by omega, ?_⟩ ?_
        · simp only [go_sem, ↓reduceIte, reduceCtorEq, Nat.reduceBEq, Nat.reduceEqDiff, Nat.reduceLT, Nat.reduceLeDiff, Nat.reduceAdd, Nat.reduceMul, Nat.reducePow, Nat.reduceSub, Int.reduceEq, Int.reduceLT, Int.reduceLE, Int.reduceToNat, Int.reduceMul, s0, s2, s3, o0, o2, o3, t0, t2, t3, n0, n2, n3, k0, k2, k3, w0, w2, w3, cl, f0, f1, f5, g5, f6]
          exact ⟨rfl, rfl⟩
        · rintro n f g ⟨j, hj, f0, f1, f5, g5, f6, f9, f10⟩ ih
          by_cases h : (j : Int) < t
          · by_cases h' : (j : Int) < 31
            · have hw := wrap_succ (show j + 1 < 2 ^ 63 by omega)
              have ho := or_pow j (by omega)
              have hnn : ¬ ((j : Int) < 0) := by omega
              have hsh : IntKind.u32.wrap (1 * 2 ^ (min j 32)) = ((2 ^ j : Nat) : Int) := by
                have : ∀ j < 31, IntKind.u32.wrap (1 * 2 ^ (min j 32)) = ((2 ^ j : Nat) : Int) := by decide +kernel
                exact this j (by omega)
              repeat (first | refine dwp_seq ?_ | (refine dwp_region ?_; simp only [go_sem, ↓reduceIte, reduceCtorEq, Nat.reduceBEq, Nat.reduceEqDiff, Nat.reduceLT, Nat.reduceLeDiff, Nat.reduceAdd, Nat.reduceMul, Nat.reducePow, Nat.reduceSub, Int.reduceEq, Int.reduceLT, Int.reduceLE, Int.reduceToNat, Int.reduceMul, e8, hgr, x0s, x0u, x0h, x0l, x0k, x2s, x2u, x2h, x2l, x2k, s0, s2, s3, o0, o2, o3, t0, t2, t3, n0, n2, n3, k0, k2, k3, w0, w2, w3, cl, f0, f1, f5, g5, f6, f9, f10, h, h', hw, ho, hnn, hsh]) | (refine dwp_any ?_; simp only [go_sem, ↓reduceIte, reduceCtorEq, Nat.reduceBEq, Nat.reduceEqDiff, Nat.reduceLT, Nat.reduceLeDiff, Nat.reduceAdd, Nat.reduceMul, Nat.reducePow, Nat.reduceSub, Int.reduceEq, Int.reduceLT, Int.reduceLE, Int.reduceToNat, Int.reduceMul, e8, hgr, x0s, x0u, x0h, x0l, x0k, x2s, x2u, x2h, x2l, x2k, s0, s2, s3, o0, o2, o3, t0, t2, t3, n0, n2, n3, k0, k2, k3, w0, w2, w3, cl, f0, f1, f5, g5, f6, f9, f10, h, h', hw, ho, hnn, hsh]; refine ⟨by kernel_rfl, ?_⟩) | (refine dwp_skip ?_; simp only [go_sem, ↓reduceIte, reduceCtorEq, Nat.reduceBEq, Nat.reduceEqDiff, Nat.reduceLT, Nat.reduceLeDiff, Nat.reduceAdd, Nat.reduceMul, Nat.reducePow, Nat.reduceSub, Int.reduceEq, Int.reduceLT, Int.reduceLE, Int.reduceToNat, Int.reduceMul, e8, hgr, x0s, x0u, x0h, x0l, x0k, x2s, x2u, x2h, x2l, x2k, s0, s2, s3, o0, o2, o3, t0, t2, t3, n0, n2, n3, k0, k2, k3, w0, w2, w3, cl, f0, f1, f5, g5, f6, f9, f10, h, h', hw, ho, hnn, hsh]) | (refine dwp_exit ?_; simp only [go_sem, ↓reduceIte, reduceCtorEq, Nat.reduceBEq, Nat.reduceEqDiff, Nat.reduceLT, Nat.reduceLeDiff, Nat.reduceAdd, Nat.reduceMul, Nat.reducePow, Nat.reduceSub, Int.reduceEq, Int.reduceLT, Int.reduceLE, Int.reduceToNat, Int.reduceMul, e8, hgr, x0s, x0u, x0h, x0l, x0k, x2s, x2u, x2h, x2l, x2k, s0, s2, s3, o0, o2, o3, t0, t2, t3, n0, n2, n3, k0, k2, k3, w0, w2, w3, cl, f0, f1, f5, g5, f6, f9, f10, h, h', hw, ho, hnn, hsh]) | (refine dwp_ret ?_; simp only [go_sem, ↓reduceIte, reduceCtorEq, Nat.reduceBEq, Nat.reduceEqDiff, Nat.reduceLT, Nat.reduceLeDiff, Nat.reduceAdd, Nat.reduceMul, Nat.reducePow, Nat.reduceSub, Int.reduceEq, Int.reduceLT, Int.reduceLE, Int.reduceToNat, Int.reduceMul, e8, hgr, x0s, x0u, x0h, x0l, x0k, x2s, x2u, x2h, x2l, x2k, s0, s2, s3, o0, o2, o3, t0, t2, t3, n0, n2, n3, k0, k2, k3, w0, w2, w3, cl, f0, f1, f5, g5, f6, f9, f10, h, h', hw, ho, hnn, hsh]) | (refine dwp_if ?_; simp only [go_sem, ↓reduceIte, reduceCtorEq, Nat.reduceBEq, Nat.reduceEqDiff, Nat.reduceLT, Nat.reduceLeDiff, Nat.reduceAdd, Nat.reduceMul, Nat.reducePow, Nat.reduceSub, Int.reduceEq, Int.reduceLT, Int.reduceLE, Int.reduceToNat, Int.reduceMul, e8, hgr, x0s, x0u, x0h, x0l, x0k, x2s, x2u, x2h, x2l, x2k, s0, s2, s3, o0, o2, o3, t0, t2, t3, n0, n2, n3, k0, k2, k3, w0, w2, w3, cl, f0, f1, f5, g5, f6, f9, f10, h, h', hw, ho, hnn, hsh]) | refine dwp_block ?_)
              refine ih (n - 1) _ _ (by omega) ⟨j + 1, by omega, ?_⟩
              simp only [go_sem, ↓reduceIte, reduceCtorEq, Nat.reduceBEq, Nat.reduceEqDiff, Nat.reduceLT, Nat.reduceLeDiff, Nat.reduceAdd, Nat.reduceMul, Nat.reducePow, Nat.reduceSub, Int.reduceEq, Int.reduceLT, Int.reduceLE, Int.reduceToNat, Int.reduceMul, s0, s2, s3, o0, o2, o3, t0, t2, t3, n0, n2, n3, k0, k2, k3, w0, w2, w3, cl, f0, f1, f5, g5, f6, f9, f10, hw, ho, hsh]
            · have hji : j = i := by omega
              subst hji
              repeat (first | refine dwp_seq ?_ | (refine dwp_region ?_; simp only [go_sem, ↓reduceIte, reduceCtorEq, Nat.reduceBEq, Nat.reduceEqDiff, Nat.reduceLT, Nat.reduceLeDiff, Nat.reduceAdd, Nat.reduceMul, Nat.reducePow, Nat.reduceSub, Int.reduceEq, Int.reduceLT, Int.reduceLE, Int.reduceToNat, Int.reduceMul, e8, hgr, x0s, x0u, x0h, x0l, x0k, x2s, x2u, x2h, x2l, x2k, s0, s2, s3, o0, o2, o3, t0, t2, t3, n0, n2, n3, k0, k2, k3, w0, w2, w3, cl, f0, f1, f5, g5, f6, f9, f10, h, h', hf, e9, e10, e11, m0, m2, m3]) | (refine dwp_any ?_; simp only [go_sem, ↓reduceIte, reduceCtorEq, Nat.reduceBEq, Nat.reduceEqDiff, Nat.reduceLT, Nat.reduceLeDiff, Nat.reduceAdd, Nat.reduceMul, Nat.reducePow, Nat.reduceSub, Int.reduceEq, Int.reduceLT, Int.reduceLE, Int.reduceToNat, Int.reduceMul, e8, hgr, x0s, x0u, x0h, x0l, x0k, x2s, x2u, x2h, x2l, x2k, s0, s2, s3, o0, o2, o3, t0, t2, t3, n0, n2, n3, k0, k2, k3, w0, w2, w3, cl, f0, f1, f5, g5, f6, f9, f10, h, h', hf, e9, e10, e11, m0, m2, m3]; refine ⟨by kernel_rfl, ?_⟩) | (refine dwp_skip ?_; simp only [go_sem, ↓reduceIte, reduceCtorEq, Nat.reduceBEq, Nat.reduceEqDiff, Nat.reduceLT, Nat.reduceLeDiff, Nat.reduceAdd, Nat.reduceMul, Nat.reducePow, Nat.reduceSub, Int.reduceEq, Int.reduceLT, Int.reduceLE, Int.reduceToNat, Int.reduceMul, e8, hgr, x0s, x0u, x0h, x0l, x0k, x2s, x2u, x2h, x2l, x2k, s0, s2, s3, o0, o2, o3, t0, t2, t3, n0, n2, n3, k0, k2, k3, w0, w2, w3, cl, f0, f1, f5, g5, f6, f9, f10, h, h', hf, e9, e10, e11, m0, m2, m3]) | (refine dwp_exit ?_; simp only [go_sem, ↓reduceIte, reduceCtorEq, Nat.reduceBEq, Nat.reduceEqDiff, Nat.reduceLT, Nat.reduceLeDiff, Nat.reduceAdd, Nat.reduceMul, Nat.reducePow, Nat.reduceSub, Int.reduceEq, Int.reduceLT, Int.reduceLE, Int.reduceToNat, Int.reduceMul, e8, hgr, x0s, x0u, x0h, x0l, x0k, x2s, x2u, x2h, x2l, x2k, s0, s2, s3, o0, o2, o3, t0, t2, t3, n0, n2, n3, k0, k2, k3, w0, w2, w3, cl, f0, f1, f5, g5, f6, f9, f10, h, h', hf, e9, e10, e11, m0, m2, m3]) | (refine dwp_ret ?_; simp only [go_sem, ↓reduceIte, reduceCtorEq, Nat.reduceBEq, Nat.reduceEqDiff, Nat.reduceLT, Nat.reduceLeDiff, Nat.reduceAdd, Nat.reduceMul, Nat.reducePow, Nat.reduceSub, Int.reduceEq, Int.reduceLT, Int.reduceLE, Int.reduceToNat, Int.reduceMul, e8, hgr, x0s, x0u, x0h, x0l, x0k, x2s, x2u, x2h, x2l, x2k, s0, s2, s3, o0, o2, o3, t0, t2, t3, n0, n2, n3, k0, k2, k3, w0, w2, w3, cl, f0, f1, f5, g5, f6, f9, f10, h, h', hf, e9, e10, e11, m0, m2, m3]) | (refine dwp_if ?_; simp only [go_sem, ↓reduceIte, reduceCtorEq, Nat.reduceBEq, Nat.reduceEqDiff, Nat.reduceLT, Nat.reduceLeDiff, Nat.reduceAdd, Nat.reduceMul, Nat.reducePow, Nat.reduceSub, Int.reduceEq, Int.reduceLT, Int.reduceLE, Int.reduceToNat, Int.reduceMul, e8, hgr, x0s, x0u, x0h, x0l, x0k, x2s, x2u, x2h, x2l, x2k, s0, s2, s3, o0, o2, o3, t0, t2, t3, n0, n2, n3, k0, k2, k3, w0, w2, w3, cl, f0, f1, f5, g5, f6, f9, f10, h, h', hf, e9, e10, e11, m0, m2, m3]) | refine dwp_block ?_)
          · have hji : j = i := by omega
            subst hji
            repeat (first | refine dwp_seq ?_ | (refine dwp_region ?_; simp only [go_sem, ↓reduceIte, reduceCtorEq, Nat.reduceBEq, Nat.reduceEqDiff, Nat.reduceLT, Nat.reduceLeDiff, Nat.reduceAdd, Nat.reduceMul, Nat.reducePow, Nat.reduceSub, Int.reduceEq, Int.reduceLT, Int.reduceLE, Int.reduceToNat, Int.reduceMul, e8, hgr, x0s, x0u, x0h, x0l, x0k, x2s, x2u, x2h, x2l, x2k, s0, s2, s3, o0, o2, o3, t0, t2, t3, n0, n2, n3, k0, k2, k3, w0, w2, w3, cl, f0, f1, f5, g5, f6, f9, f10, h, hf, e9, e10, e11, m0, m2, m3]) | (refine dwp_any ?_; simp only [go_sem, ↓reduceIte, reduceCtorEq, Nat.reduceBEq, Nat.reduceEqDiff, Nat.reduceLT, Nat.reduceLeDiff, Nat.reduceAdd, Nat.reduceMul, Nat.reducePow, Nat.reduceSub, Int.reduceEq, Int.reduceLT, Int.reduceLE, Int.reduceToNat, Int.reduceMul, e8, hgr, x0s, x0u, x0h, x0l, x0k, x2s, x2u, x2h, x2l, x2k, s0, s2, s3, o0, o2, o3, t0, t2, t3, n0, n2, n3, k0, k2, k3, w0, w2, w3, cl, f0, f1, f5, g5, f6, f9, f10, h, hf, e9, e10, e11, m0, m2, m3]; refine ⟨by kernel_rfl, ?_⟩) | (refine dwp_skip ?_; simp only [go_sem, ↓reduceIte, reduceCtorEq, Nat.reduceBEq, Nat.reduceEqDiff, Nat.reduceLT, Nat.reduceLeDiff, Nat.reduceAdd, Nat.reduceMul, Nat.reducePow, Nat.reduceSub, Int.reduceEq, Int.reduceLT, Int.reduceLE, Int.reduceToNat, Int.reduceMul, e8, hgr, x0s, x0u, x0h, x0l, x0k, x2s, x2u, x2h, x2l, x2k, s0, s2, s3, o0, o2, o3, t0, t2, t3, n0, n2, n3, k0, k2, k3, w0, w2, w3, cl, f0, f1, f5, g5, f6, f9, f10, h, hf, e9, e10, e11, m0, m2, m3]) | (refine dwp_exit ?_; simp only [go_sem, ↓reduceIte, reduceCtorEq, Nat.reduceBEq, Nat.reduceEqDiff, Nat.reduceLT, Nat.reduceLeDiff, Nat.reduceAdd, Nat.reduceMul, Nat.reducePow, Nat.reduceSub, Int.reduceEq, Int.reduceLT, Int.reduceLE, Int.reduceToNat, Int.reduceMul, e8, hgr, x0s, x0u, x0h, x0l, x0k, x2s, x2u, x2h, x2l, x2k, s0, s2, s3, o0, o2, o3, t0, t2, t3, n0, n2, n3, k0, k2, k3, w0, w2, w3, cl, f0, f1, f5, g5, f6, f9, f10, h, hf, e9, e10, e11, m0, m2, m3]) | (refine dwp_ret ?_; simp only [go_sem, ↓reduceIte, reduceCtorEq, Nat.reduceBEq, Nat.reduceEqDiff, Nat.reduceLT, Nat.reduceLeDiff, Nat.reduceAdd, Nat.reduceMul, Nat.reducePow, Nat.reduceSub, Int.reduceEq, Int.reduceLT, Int.reduceLE, Int.reduceToNat, Int.reduceMul, e8, hgr, x0s, x0u, x0h, x0l, x0k, x2s, x2u, x2h, x2l, x2k, s0, s2, s3, o0, o2, o3, t0, t2, t3, n0, n2, n3, k0, k2, k3, w0, w2, w3, cl, f0, f1, f5, g5, f6, f9, f10, h, hf, e9, e10, e11, m0, m2, m3]) | (refine dwp_if ?_; simp only [go_sem, ↓reduceIte, reduceCtorEq, Nat.reduceBEq, Nat.reduceEqDiff, Nat.reduceLT, Nat.reduceLeDiff, Nat.reduceAdd, Nat.reduceMul, Nat.reducePow, Nat.reduceSub, Int.reduceEq, Int.reduceLT, Int.reduceLE, Int.reduceToNat, Int.reduceMul, e8, hgr, x0s, x0u, x0h, x0l, x0k, x2s, x2u, x2h, x2l, x2k, s0, s2, s3, o0, o2, o3, t0, t2, t3, n0, n2, n3, k0, k2, k3, w0, w2, w3, cl, f0, f1, f5, g5, f6, f9, f10, h, hf, e9, e10, e11, m0, m2, m3]) | refine dwp_block ?_)
end Go.Proofs.YtneihjdkaogkiaaDoor
