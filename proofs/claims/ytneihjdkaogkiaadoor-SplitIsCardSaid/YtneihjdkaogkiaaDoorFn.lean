/- What the program's functions make of data: SplitIs' comparison. -/
import Derived.Test.YtneihjdkaogkiaaDoorFm
import Derived.Test.YtneihjdkaogkiaaDoorFlat
namespace Go.Proofs.YtneihjdkaogkiaaDoor
open Go Go.Eng Go.Proofs
set_option linter.unusedVariables false
set_option linter.unusedSimpArgs false
set_option maxRecDepth 100000
set_option maxHeartbeats 4000000

theorem fl47 : flT Tryd.prog 47 = some [(1, 0), (1, 1), (1, 2), (1, 3), (1, 4)] := by kernel_rfl
attribute [go_sem] fl47
/-- a slice, or none yet -/
def CA (a : D) (k : Nat) (es : List (List D)) : Prop := a = .sl k es ∨ (a = .v (.slice none 0 0) ∧ es = [])
theorem CN.ca {c : D} {L : List Nat} (h : CN c L) : CA (strip c) 1 (nats L) := by
  rcases h with rfl | ⟨rfl, rfl⟩
  · exact .inl rfl
  · exact .inr ⟨rfl, rfl⟩
theorem CJ.ca {c : D} {L : List (List D)} (h : CJ c L) : CA (strip c) 5 L := by
  rcases h with rfl | ⟨rfl, rfl⟩
  · exact .inl rfl
  · exact .inr ⟨rfl, rfl⟩
theorem nm25 : norm Tryd.prog 25 (.v (.slice none 0 0)) = .own 3 1 [] := norm_nil ap25
theorem nm27 : norm Tryd.prog 27 (.v (.slice none 0 0)) = .own 47 5 [] := norm_nil ap27
section
variable {a : D} {es : List (List D)}
theorem CA.str {k : Nat} (h : CA a k es) : strip a = a := by rcases h with rfl | ⟨rfl, _⟩ <;> rfl
theorem CA.tops {k : Nat} (h : CA a k es) : D.tops a = true := by rcases h with rfl | ⟨rfl, _⟩ <;> rfl
theorem CA.one {k : Nat} (h : CA a k es) : Eng.one a = true := by rcases h with rfl | ⟨rfl, _⟩ <;> rfl
theorem CA.nobs {k : Nat} (h : CA a k es) : Eng.nobs a = true := by rcases h with rfl | ⟨rfl, _⟩ <;> rfl
theorem CA.refc {k : Nat} (h : CA a k es) (b : Nat) : Eng.refc b a = false := by rcases h with rfl | ⟨rfl, _⟩ <;> rfl
theorem CA.refl {k : Nat} (h : CA a k es) (l : List Tmp) : Eng.refl l a = false := by rcases h with rfl | ⟨rfl, _⟩ <;> rfl
structure Ld (t : TypeId) (x : D) (k : Nat) (es : List (List D)) : Prop where
  str : strip x = .sl k es
  isU : Eng.isU x = false
  sh : shD x = .undef
  len : lenK Tryd.prog t x = some { d := .v (.int .i64 es.length) }
  kl : ∀ l, kills l x = x
  ia : ∀ i, iaK i (none, k) x = if 0 ≤ i ∧ i < (es.length : Int) then some { d := .ep k es i.toNat 0 } else none
theorem CA.ld25 (h : CA a 1 es) : Ld 25 (norm Tryd.prog 25 a) 1 es := by
  rcases h with rfl | ⟨rfl, rfl⟩
  · exact ⟨rfl, rfl, rfl, lenK_sl isl25 _ _, fun _ => rfl, fun i => by show (if _ ∧ _ then _ else _) = _; simp⟩
  · rw [nm25]
    exact ⟨rfl, rfl, rfl, lenK_own isl25 _ _ _, fun _ => rfl, fun i => by show (if _ ∧ _ then _ else _) = _; simp⟩
theorem CA.ld27 (h : CA a 5 es) : Ld 27 (norm Tryd.prog 27 a) 5 es := by
  rcases h with rfl | ⟨rfl, rfl⟩
  · exact ⟨rfl, rfl, rfl, lenK_sl isl27 _ _, fun _ => rfl, fun i => by show (if _ ∧ _ then _ else _) = _; simp⟩
  · rw [nm27]
    exact ⟨rfl, rfl, rfl, lenK_own isl27 _ _ _, fun _ => rfl, fun i => by show (if _ ∧ _ then _ else _) = _; simp⟩
end
theorem chunks1 (X : List D) (N : Nat) (h : X.length = N) : chunks 1 N X = X.map fun d => [d] := by
  refine List.ext_getElem (by rw [chunks_len, List.length_map, h]) fun i h1 h2 => ?_
  rw [chunks_get, List.getElem_map]
  rw [chunks_len] at h1
  have : i < X.length := by omega
  rw [Nat.mul_one, List.drop_eq_getElem_cons this]
  rfl
theorem same9 {N : Nat} {a0 b0 a2 b2 a3 b3 : D} {L0 L2 : List Nat} {L : Nat → List Nat} {J : List (List D)} {X Y : List D}
    (h0 : CA a0 1 (nats L0)) (h0' : CA b0 1 (nats L0)) (h2 : CA a2 1 (nats L2)) (h2' : CA b2 1 (nats L2)) (h3 : CA a3 5 J) (h3' : CA b3 5 J)
    (hX : X.length = N) (hX' : ∀ k c, X[k]? = some c → CA c 1 (nats (L k))) (hY : Y.length = N) (hY' : ∀ k c, Y[k]? = some c → CA c 1 (nats (L k)))
    (hJ : ∀ e ∈ J, ∃ a b c d f, e = jcells a b c d f) (l0 : L0.length ≤ 40) (l2 : L2.length ≤ 40) (lK : ∀ k, (L k).length ≤ 40) (lJ : J.length ≤ 40) (hN : N ≤ 31) :
    FF 9 [.agg [a0, .sl 1 (chunks 1 N X), a2, a3], .agg [b0, .sl 1 (chunks 1 N Y), b2, b3]] = some (.v (.bool true)) := by
  refine FF_val Tryd.func9 rfl rfl rfl ?_
  simp only [Tryd.ntmps9, Tryd.results9]
  have r0 := same_val (L0.map fun (n : Nat) => (n : Int)) (L0.map fun (n : Nat) => (n : Int)) (by rw [List.length_map]; omega)
  have r2 := same_val (L2.map fun (n : Nat) => (n : Int)) (L2.map fun (n : Nat) => (n : Int)) (by rw [List.length_map]; omega)
  rw [← nats_ints, beq_self_eq_true] at r0 r2
  obtain ⟨x0s, x0u, x0h, x0l, x0k, x0i⟩ := h0.ld25
  obtain ⟨y0s, y0u, y0h, y0l, y0k, y0i⟩ := h0'.ld25
  obtain ⟨x2s, x2u, x2h, x2l, x2k, x2i⟩ := h2.ld25
  obtain ⟨y2s, y2u, y2h, y2l, y2k, y2i⟩ := h2'.ld25
  obtain ⟨x3s, x3u, x3h, x3l, x3k, x3i⟩ := h3.ld27
  obtain ⟨y3s, y3u, y3h, y3l, y3k, y3i⟩ := h3'.ld27
  have s0 := h0.str
  have s0' := h0'.str
  have s2 := h2.str
  have s2' := h2'.str
  have s3 := h3.str
  have s3' := h3'.str
  have t0 := h0.tops
  have t0' := h0'.tops
  have t2 := h2.tops
  have t2' := h2'.tops
  have t3 := h3.tops
  have t3' := h3'.tops
  have o0 := h0.one
  have o0' := h0'.one
  have o2 := h2.one
  have o2' := h2'.one
  have o3 := h3.one
  have o3' := h3'.one
  have n0 := h0.nobs
  have n0' := h0'.nobs
  have n2 := h2.nobs
  have n2' := h2'.nobs
  have n3 := h3.nobs
  have n3' := h3'.nobs
  have c0 := h0.refc
  have c0' := h0'.refc
  have c2 := h2.refc
  have c2' := h2'.refc
  have c3 := h3.refc
  have c3' := h3'.refc
  have w0 := h0.refl
  have w0' := h0'.refl
  have w2 := h2.refl
  have w2' := h2'.refl
  have w3 := h3.refl
  have w3' := h3'.refl
  have hcX : chunks 1 N X = X.map fun d => [d] := chunks1 X N hX
  have hcY : chunks 1 N Y = Y.map fun d => [d] := chunks1 Y N hY
  rw [hcX, hcY]
  have cl : (X.map fun d => [d]).length = N := by rw [List.length_map, hX]
  have cl' : (Y.map fun d => [d]).length = N := by rw [List.length_map, hY]
  repeat (first | refine dwp_seq ?_ | (refine dwp_region ?_; simp only [go_sem, ↓reduceIte, reduceCtorEq, Nat.reduceBEq, Nat.reduceEqDiff, Nat.reduceLT, Nat.reduceLeDiff, Nat.reduceAdd, Nat.reduceMul, Nat.reducePow, Nat.reduceSub, Int.reduceEq, Int.reduceLT, Int.reduceLE, Int.reduceToNat, Int.reduceMul, r0, r2, x0s, x0u, x0h, x0l, x0k, y0s, y0u, y0h, y0l, y0k, x2s, x2u, x2h, x2l, x2k, y2s, y2u, y2h, y2l, y2k, x3s, x3u, x3h, x3l, x3k, x3i, y3s, y3u, y3h, y3l, y3k, y3i, s0, s0', s2, s2', s3, s3', t0, t0', t2, t2', t3, t3', o0, o0', o2, o2', o3, o3', n0, n0', n2, n2', n3, n3', c0, c0', c2, c2', c3, c3', w0, w0', w2, w2', w3, w3', cl, cl']) | (refine dwp_any ?_; simp only [go_sem, ↓reduceIte, reduceCtorEq, Nat.reduceBEq, Nat.reduceEqDiff, Nat.reduceLT, Nat.reduceLeDiff, Nat.reduceAdd, Nat.reduceMul, Nat.reducePow, Nat.reduceSub, Int.reduceEq, Int.reduceLT, Int.reduceLE, Int.reduceToNat, Int.reduceMul, r0, r2, x0s, x0u, x0h, x0l, x0k, y0s, y0u, y0h, y0l, y0k, x2s, x2u, x2h, x2l, x2k, y2s, y2u, y2h, y2l, y2k, x3s, x3u, x3h, x3l, x3k, x3i, y3s, y3u, y3h, y3l, y3k, y3i, s0, s0', s2, s2', s3, s3', t0, t0', t2, t2', t3, t3', o0, o0', o2, o2', o3, o3', n0, n0', n2, n2', n3, n3', c0, c0', c2, c2', c3, c3', w0, w0', w2, w2', w3, w3', cl, cl']; refine ⟨by kernel_rfl, ?_⟩) | (refine dwp_skip ?_; simp only [go_sem, ↓reduceIte, reduceCtorEq, Nat.reduceBEq, Nat.reduceEqDiff, Nat.reduceLT, Nat.reduceLeDiff, Nat.reduceAdd, Nat.reduceMul, Nat.reducePow, Nat.reduceSub, Int.reduceEq, Int.reduceLT, Int.reduceLE, Int.reduceToNat, Int.reduceMul, r0, r2, x0s, x0u, x0h, x0l, x0k, y0s, y0u, y0h, y0l, y0k, x2s, x2u, x2h, x2l, x2k, y2s, y2u, y2h, y2l, y2k, x3s, x3u, x3h, x3l, x3k, x3i, y3s, y3u, y3h, y3l, y3k, y3i, s0, s0', s2, s2', s3, s3', t0, t0', t2, t2', t3, t3', o0, o0', o2, o2', o3, o3', n0, n0', n2, n2', n3, n3', c0, c0', c2, c2', c3, c3', w0, w0', w2, w2', w3, w3', cl, cl']) | (refine dwp_exit ?_; simp only [go_sem, ↓reduceIte, reduceCtorEq, Nat.reduceBEq, Nat.reduceEqDiff, Nat.reduceLT, Nat.reduceLeDiff, Nat.reduceAdd, Nat.reduceMul, Nat.reducePow, Nat.reduceSub, Int.reduceEq, Int.reduceLT, Int.reduceLE, Int.reduceToNat, Int.reduceMul, r0, r2, x0s, x0u, x0h, x0l, x0k, y0s, y0u, y0h, y0l, y0k, x2s, x2u, x2h, x2l, x2k, y2s, y2u, y2h, y2l, y2k, x3s, x3u, x3h, x3l, x3k, x3i, y3s, y3u, y3h, y3l, y3k, y3i, s0, s0', s2, s2', s3, s3', t0, t0', t2, t2', t3, t3', o0, o0', o2, o2', o3, o3', n0, n0', n2, n2', n3, n3', c0, c0', c2, c2', c3, c3', w0, w0', w2, w2', w3, w3', cl, cl']) | (refine dwp_ret ?_; simp only [go_sem, ↓reduceIte, reduceCtorEq, Nat.reduceBEq, Nat.reduceEqDiff, Nat.reduceLT, Nat.reduceLeDiff, Nat.reduceAdd, Nat.reduceMul, Nat.reducePow, Nat.reduceSub, Int.reduceEq, Int.reduceLT, Int.reduceLE, Int.reduceToNat, Int.reduceMul, r0, r2, x0s, x0u, x0h, x0l, x0k, y0s, y0u, y0h, y0l, y0k, x2s, x2u, x2h, x2l, x2k, y2s, y2u, y2h, y2l, y2k, x3s, x3u, x3h, x3l, x3k, x3i, y3s, y3u, y3h, y3l, y3k, y3i, s0, s0', s2, s2', s3, s3', t0, t0', t2, t2', t3, t3', o0, o0', o2, o2', o3, o3', n0, n0', n2, n2', n3, n3', c0, c0', c2, c2', c3, c3', w0, w0', w2, w2', w3, w3', cl, cl']) | (refine dwp_if ?_; simp only [go_sem, ↓reduceIte, reduceCtorEq, Nat.reduceBEq, Nat.reduceEqDiff, Nat.reduceLT, Nat.reduceLeDiff, Nat.reduceAdd, Nat.reduceMul, Nat.reducePow, Nat.reduceSub, Int.reduceEq, Int.reduceLT, Int.reduceLE, Int.reduceToNat, Int.reduceMul, r0, r2, x0s, x0u, x0h, x0l, x0k, y0s, y0u, y0h, y0l, y0k, x2s, x2u, x2h, x2l, x2k, y2s, y2u, y2h, y2l, y2k, x3s, x3u, x3h, x3l, x3k, x3i, y3s, y3u, y3h, y3l, y3k, y3i, s0, s0', s2, s2', s3, s3', t0, t0', t2, t2', t3, t3', o0, o0', o2, o2', o3, o3', n0, n0', n2, n2', n3, n3', c0, c0', c2, c2', c3, c3', w0, w0', w2, w2', w3, w3', cl, cl']) | refine dwp_block ?_)
  refine dwp_ind (fun n f g => ∃ i : Nat, i + n = N ∧ f 2 = .bp 2 0 ∧ f 3 = .bp 3 0 ∧ g 2 = some [a0, .sl 1 (X.map fun d => [d]), a2, a3] ∧ g 3 = some [b0, .sl 1 (Y.map fun d => [d]), b2, b3] ∧ f 41 = .v (.int .i64 (N : Int)) ∧ f 42 = .v (.int .i64 (i : Int))) N ⟨0, by omega, ?_⟩ ?_
  · simp only [go_sem, ↓reduceIte, reduceCtorEq, Nat.reduceBEq, Nat.reduceEqDiff, Nat.reduceLT, Nat.reduceLeDiff, Nat.reduceAdd, Nat.reduceMul, Nat.reducePow, Nat.reduceSub, Int.reduceEq, Int.reduceLT, Int.reduceLE, Int.reduceToNat, Int.reduceMul, s0, s0', s2, s2', s3, s3', t0, t0', t2, t2', t3, t3', o0, o0', o2, o2', o3, o3', n0, n0', n2, n2', n3, n3', c0, c0', c2, c2', c3, c3', w0, w0', w2, w2', w3, w3', cl, cl']
    rfl
  · rintro n f g ⟨i, hi, f2, f3, g2, g3, f41, f42⟩ ih
    by_cases h : (i : Int) < (N : Int)
    · have gx : X[i]? = some X[i] := List.getElem?_eq_getElem (by omega)
      have gy : Y[i]? = some Y[i] := List.getElem?_eq_getElem (by omega)
      have hx := hX' i _ gx
      have hy := hY' i _ gy
      generalize X[i] = u at gx hx
      generalize Y[i] = v at gy hy
      have gx' : (X.map fun d => [d])[i]? = some [u] := by rw [List.getElem?_map, gx]; rfl
      have gy' : (Y.map fun d => [d])[i]? = some [v] := by rw [List.getElem?_map, gy]; rfl
      obtain ⟨us, uu, uh, ul, uk, ui⟩ := hx.ld25
      obtain ⟨vs, vu, vh, vl, vk, vi⟩ := hy.ld25
      have us' := hx.str
      have vs' := hy.str
      have rK := same_val ((L i).map fun (n : Nat) => (n : Int)) ((L i).map fun (n : Nat) => (n : Int)) (by have := lK i; rw [List.length_map]; omega)
      rw [← nats_ints, beq_self_eq_true] at rK
      have hw := wrap_succ (show i + 1 < 2 ^ 63 by omega)
      repeat (first | refine dwp_seq ?_ | (refine dwp_region ?_; simp only [go_sem, ↓reduceIte, reduceCtorEq, Nat.reduceBEq, Nat.reduceEqDiff, Nat.reduceLT, Nat.reduceLeDiff, Nat.reduceAdd, Nat.reduceMul, Nat.reducePow, Nat.reduceSub, Int.reduceEq, Int.reduceLT, Int.reduceLE, Int.reduceToNat, Int.reduceMul, r0, r2, x0s, x0u, x0h, x0l, x0k, y0s, y0u, y0h, y0l, y0k, x2s, x2u, x2h, x2l, x2k, y2s, y2u, y2h, y2l, y2k, x3s, x3u, x3h, x3l, x3k, x3i, y3s, y3u, y3h, y3l, y3k, y3i, s0, s0', s2, s2', s3, s3', t0, t0', t2, t2', t3, t3', o0, o0', o2, o2', o3, o3', n0, n0', n2, n2', n3, n3', c0, c0', c2, c2', c3, c3', w0, w0', w2, w2', w3, w3', cl, cl', f2, f3, g2, g3, f41, f42, h, gx', gy', us, uu, uh, ul, uk, us', vs, vu, vh, vl, vk, vs', rK, hw]) | (refine dwp_any ?_; simp only [go_sem, ↓reduceIte, reduceCtorEq, Nat.reduceBEq, Nat.reduceEqDiff, Nat.reduceLT, Nat.reduceLeDiff, Nat.reduceAdd, Nat.reduceMul, Nat.reducePow, Nat.reduceSub, Int.reduceEq, Int.reduceLT, Int.reduceLE, Int.reduceToNat, Int.reduceMul, r0, r2, x0s, x0u, x0h, x0l, x0k, y0s, y0u, y0h, y0l, y0k, x2s, x2u, x2h, x2l, x2k, y2s, y2u, y2h, y2l, y2k, x3s, x3u, x3h, x3l, x3k, x3i, y3s, y3u, y3h, y3l, y3k, y3i, s0, s0', s2, s2', s3, s3', t0, t0', t2, t2', t3, t3', o0, o0', o2, o2', o3, o3', n0, n0', n2, n2', n3, n3', c0, c0', c2, c2', c3, c3', w0, w0', w2, w2', w3, w3', cl, cl', f2, f3, g2, g3, f41, f42, h, gx', gy', us, uu, uh, ul, uk, us', vs, vu, vh, vl, vk, vs', rK, hw]; refine ⟨by kernel_rfl, ?_⟩) | (refine dwp_skip ?_; simp only [go_sem, ↓reduceIte, reduceCtorEq, Nat.reduceBEq, Nat.reduceEqDiff, Nat.reduceLT, Nat.reduceLeDiff, Nat.reduceAdd, Nat.reduceMul, Nat.reducePow, Nat.reduceSub, Int.reduceEq, Int.reduceLT, Int.reduceLE, Int.reduceToNat, Int.reduceMul, r0, r2, x0s, x0u, x0h, x0l, x0k, y0s, y0u, y0h, y0l, y0k, x2s, x2u, x2h, x2l, x2k, y2s, y2u, y2h, y2l, y2k, x3s, x3u, x3h, x3l, x3k, x3i, y3s, y3u, y3h, y3l, y3k, y3i, s0, s0', s2, s2', s3, s3', t0, t0', t2, t2', t3, t3', o0, o0', o2, o2', o3, o3', n0, n0', n2, n2', n3, n3', c0, c0', c2, c2', c3, c3', w0, w0', w2, w2', w3, w3', cl, cl', f2, f3, g2, g3, f41, f42, h, gx', gy', us, uu, uh, ul, uk, us', vs, vu, vh, vl, vk, vs', rK, hw]) | (refine dwp_exit ?_; simp only [go_sem, ↓reduceIte, reduceCtorEq, Nat.reduceBEq, Nat.reduceEqDiff, Nat.reduceLT, Nat.reduceLeDiff, Nat.reduceAdd, Nat.reduceMul, Nat.reducePow, Nat.reduceSub, Int.reduceEq, Int.reduceLT, Int.reduceLE, Int.reduceToNat, Int.reduceMul, r0, r2, x0s, x0u, x0h, x0l, x0k, y0s, y0u, y0h, y0l, y0k, x2s, x2u, x2h, x2l, x2k, y2s, y2u, y2h, y2l, y2k, x3s, x3u, x3h, x3l, x3k, x3i, y3s, y3u, y3h, y3l, y3k, y3i, s0, s0', s2, s2', s3, s3', t0, t0', t2, t2', t3, t3', o0, o0', o2, o2', o3, o3', n0, n0', n2, n2', n3, n3', c0, c0', c2, c2', c3, c3', w0, w0', w2, w2', w3, w3', cl, cl', f2, f3, g2, g3, f41, f42, h, gx', gy', us, uu, uh, ul, uk, us', vs, vu, vh, vl, vk, vs', rK, hw]) | (refine dwp_ret ?_; simp only [go_sem, ↓reduceIte, reduceCtorEq, Nat.reduceBEq, Nat.reduceEqDiff, Nat.reduceLT, Nat.reduceLeDiff, Nat.reduceAdd, Nat.reduceMul, Nat.reducePow, Nat.reduceSub, Int.reduceEq, Int.reduceLT, Int.reduceLE, Int.reduceToNat, Int.reduceMul, r0, r2, x0s, x0u, x0h, x0l, x0k, y0s, y0u, y0h, y0l, y0k, x2s, x2u, x2h, x2l, x2k, y2s, y2u, y2h, y2l, y2k, x3s, x3u, x3h, x3l, x3k, x3i, y3s, y3u, y3h, y3l, y3k, y3i, s0, s0', s2, s2', s3, s3', t0, t0', t2, t2', t3, t3', o0, o0', o2, o2', o3, o3', n0, n0', n2, n2', n3, n3', c0, c0', c2, c2', c3, c3', w0, w0', w2, w2', w3, w3', cl, cl', f2, f3, g2, g3, f41, f42, h, gx', gy', us, uu, uh, ul, uk, us', vs, vu, vh, vl, vk, vs', rK, hw]) | (refine dwp_if ?_; simp only [go_sem, ↓reduceIte, reduceCtorEq, Nat.reduceBEq, Nat.reduceEqDiff, Nat.reduceLT, Nat.reduceLeDiff, Nat.reduceAdd, Nat.reduceMul, Nat.reducePow, Nat.reduceSub, Int.reduceEq, Int.reduceLT, Int.reduceLE, Int.reduceToNat, Int.reduceMul, r0, r2, x0s, x0u, x0h, x0l, x0k, y0s, y0u, y0h, y0l, y0k, x2s, x2u, x2h, x2l, x2k, y2s, y2u, y2h, y2l, y2k, x3s, x3u, x3h, x3l, x3k, x3i, y3s, y3u, y3h, y3l, y3k, y3i, s0, s0', s2, s2', s3, s3', t0, t0', t2, t2', t3, t3', o0, o0', o2, o2', o3, o3', n0, n0', n2, n2', n3, n3', c0, c0', c2, c2', c3, c3', w0, w0', w2, w2', w3, w3', cl, cl', f2, f3, g2, g3, f41, f42, h, gx', gy', us, uu, uh, ul, uk, us', vs, vu, vh, vl, vk, vs', rK, hw]) | refine dwp_block ?_)
      refine ih (n - 1) _ _ (by omega) ⟨i + 1, by omega, ?_⟩
      simp only [go_sem, ↓reduceIte, reduceCtorEq, Nat.reduceBEq, Nat.reduceEqDiff, Nat.reduceLT, Nat.reduceLeDiff, Nat.reduceAdd, Nat.reduceMul, Nat.reducePow, Nat.reduceSub, Int.reduceEq, Int.reduceLT, Int.reduceLE, Int.reduceToNat, Int.reduceMul, s0, s0', s2, s2', s3, s3', t0, t0', t2, t2', t3, t3', o0, o0', o2, o2', o3, o3', n0, n0', n2, n2', n3, n3', c0, c0', c2, c2', c3, c3', w0, w0', w2, w2', w3, w3', cl, cl', f2, f3, g2, g3, f41, f42, hw]
    · repeat (first | refine dwp_seq ?_ | (refine dwp_region ?_; simp only [go_sem, ↓reduceIte, reduceCtorEq, Nat.reduceBEq, Nat.reduceEqDiff, Nat.reduceLT, Nat.reduceLeDiff, Nat.reduceAdd, Nat.reduceMul, Nat.reducePow, Nat.reduceSub, Int.reduceEq, Int.reduceLT, Int.reduceLE, Int.reduceToNat, Int.reduceMul, r0, r2, x0s, x0u, x0h, x0l, x0k, y0s, y0u, y0h, y0l, y0k, x2s, x2u, x2h, x2l, x2k, y2s, y2u, y2h, y2l, y2k, x3s, x3u, x3h, x3l, x3k, x3i, y3s, y3u, y3h, y3l, y3k, y3i, s0, s0', s2, s2', s3, s3', t0, t0', t2, t2', t3, t3', o0, o0', o2, o2', o3, o3', n0, n0', n2, n2', n3, n3', c0, c0', c2, c2', c3, c3', w0, w0', w2, w2', w3, w3', cl, cl', f2, f3, g2, g3, f41, f42, h]) | (refine dwp_any ?_; simp only [go_sem, ↓reduceIte, reduceCtorEq, Nat.reduceBEq, Nat.reduceEqDiff, Nat.reduceLT, Nat.reduceLeDiff, Nat.reduceAdd, Nat.reduceMul, Nat.reducePow, Nat.reduceSub, Int.reduceEq, Int.reduceLT, Int.reduceLE, Int.reduceToNat, Int.reduceMul, r0, r2, x0s, x0u, x0h, x0l, x0k, y0s, y0u, y0h, y0l, y0k, x2s, x2u, x2h, x2l, x2k, y2s, y2u, y2h, y2l, y2k, x3s, x3u, x3h, x3l, x3k, x3i, y3s, y3u, y3h, y3l, y3k, y3i, s0, s0', s2, s2', s3, s3', t0, t0', t2, t2', t3, t3', o0, o0', o2, o2', o3, o3', n0, n0', n2, n2', n3, n3', c0, c0', c2, c2', c3, c3', w0, w0', w2, w2', w3, w3', cl, cl', f2, f3, g2, g3, f41, f42, h]; refine ⟨by kernel_rfl, ?_⟩) | (refine dwp_skip ?_; simp only [go_sem, ↓reduceIte, reduceCtorEq, Nat.reduceBEq, Nat.reduceEqDiff, Nat.reduceLT, Nat.reduceLeDiff, Nat.reduceAdd, Nat.reduceMul, Nat.reducePow, Nat.reduceSub, Int.reduceEq, Int.reduceLT, Int.reduceLE, Int.reduceToNat, Int.reduceMul, r0, r2, x0s, x0u, x0h, x0l, x0k, y0s, y0u, y0h, y0l, y0k, x2s, x2u, x2h, x2l, x2k, y2s, y2u, y2h, y2l, y2k, x3s, x3u, x3h, x3l, x3k, x3i, y3s, y3u, y3h, y3l, y3k, y3i, s0, s0', s2, s2', s3, s3', t0, t0', t2, t2', t3, t3', o0, o0', o2, o2', o3, o3', n0, n0', n2, n2', n3, n3', c0, c0', c2, c2', c3, c3', w0, w0', w2, w2', w3, w3', cl, cl', f2, f3, g2, g3, f41, f42, h]) | (refine dwp_exit ?_; simp only [go_sem, ↓reduceIte, reduceCtorEq, Nat.reduceBEq, Nat.reduceEqDiff, Nat.reduceLT, Nat.reduceLeDiff, Nat.reduceAdd, Nat.reduceMul, Nat.reducePow, Nat.reduceSub, Int.reduceEq, Int.reduceLT, Int.reduceLE, Int.reduceToNat, Int.reduceMul, r0, r2, x0s, x0u, x0h, x0l, x0k, y0s, y0u, y0h, y0l, y0k, x2s, x2u, x2h, x2l, x2k, y2s, y2u, y2h, y2l, y2k, x3s, x3u, x3h, x3l, x3k, x3i, y3s, y3u, y3h, y3l, y3k, y3i, s0, s0', s2, s2', s3, s3', t0, t0', t2, t2', t3, t3', o0, o0', o2, o2', o3, o3', n0, n0', n2, n2', n3, n3', c0, c0', c2, c2', c3, c3', w0, w0', w2, w2', w3, w3', cl, cl', f2, f3, g2, g3, f41, f42, h]) | (refine dwp_ret ?_; simp only [go_sem, ↓reduceIte, reduceCtorEq, Nat.reduceBEq, Nat.reduceEqDiff, Nat.reduceLT, Nat.reduceLeDiff, Nat.reduceAdd, Nat.reduceMul, Nat.reducePow, Nat.reduceSub, Int.reduceEq, Int.reduceLT, Int.reduceLE, Int.reduceToNat, Int.reduceMul, r0, r2, x0s, x0u, x0h, x0l, x0k, y0s, y0u, y0h, y0l, y0k, x2s, x2u, x2h, x2l, x2k, y2s, y2u, y2h, y2l, y2k, x3s, x3u, x3h, x3l, x3k, x3i, y3s, y3u, y3h, y3l, y3k, y3i, s0, s0', s2, s2', s3, s3', t0, t0', t2, t2', t3, t3', o0, o0', o2, o2', o3, o3', n0, n0', n2, n2', n3, n3', c0, c0', c2, c2', c3, c3', w0, w0', w2, w2', w3, w3', cl, cl', f2, f3, g2, g3, f41, f42, h]) | (refine dwp_if ?_; simp only [go_sem, ↓reduceIte, reduceCtorEq, Nat.reduceBEq, Nat.reduceEqDiff, Nat.reduceLT, Nat.reduceLeDiff, Nat.reduceAdd, Nat.reduceMul, Nat.reducePow, Nat.reduceSub, Int.reduceEq, Int.reduceLT, Int.reduceLE, Int.reduceToNat, Int.reduceMul, r0, r2, x0s, x0u, x0h, x0l, x0k, y0s, y0u, y0h, y0l, y0k, x2s, x2u, x2h, x2l, x2k, y2s, y2u, y2h, y2l, y2k, x3s, x3u, x3h, x3l, x3k, x3i, y3s, y3u, y3h, y3l, y3k, y3i, s0, s0', s2, s2', s3, s3', t0, t0', t2, t2', t3, t3', o0, o0', o2, o2', o3, o3', n0, n0', n2, n2', n3, n3', c0, c0', c2, c2', c3, c3', w0, w0', w2, w2', w3, w3', cl, cl', f2, f3, g2, g3, f41, f42, h]) | refine dwp_block ?_)
      refine dwp_ind (fun n f g => ∃ i : Nat, i + n = J.length ∧ f 2 = .bp 2 0 ∧ f 3 = .bp 3 0 ∧ g 2 = some [a0, .sl 1 (X.map fun d => [d]), a2, a3] ∧ g 3 = some [b0, .sl 1 (Y.map fun d => [d]), b2, b3] ∧ f 60 = .v (.int .i64 (J.length : Int)) ∧ f 61 = .v (.int .i64 (i : Int))) J.length ⟨0, by omega, ?_⟩ ?_
      · simp only [go_sem, ↓reduceIte, reduceCtorEq, Nat.reduceBEq, Nat.reduceEqDiff, Nat.reduceLT, Nat.reduceLeDiff, Nat.reduceAdd, Nat.reduceMul, Nat.reducePow, Nat.reduceSub, Int.reduceEq, Int.reduceLT, Int.reduceLE, Int.reduceToNat, Int.reduceMul, s0, s0', s2, s2', s3, s3', t0, t0', t2, t2', t3, t3', o0, o0', o2, o2', o3, o3', n0, n0', n2, n2', n3, n3', c0, c0', c2, c2', c3, c3', w0, w0', w2, w2', w3, w3', cl, cl', f2, f3, g2, g3]
        rfl
      · rintro n f g ⟨i, hi, f2, f3, g2, g3, f60, f61⟩ ih
        by_cases h : (i : Int) < (J.length : Int)
        · have gx : J[i]? = some J[i] := List.getElem?_eq_getElem (by omega)
          obtain ⟨e0, e1, e2, e3, e4, he⟩ := hJ _ (List.getElem_mem (show i < J.length by omega))
          rw [he] at gx
          have hw := wrap_succ (show i + 1 < 2 ^ 63 by omega)
          repeat (first | refine dwp_seq ?_ | (refine dwp_region ?_; simp only [go_sem, ↓reduceIte, reduceCtorEq, Nat.reduceBEq, Nat.reduceEqDiff, Nat.reduceLT, Nat.reduceLeDiff, Nat.reduceAdd, Nat.reduceMul, Nat.reducePow, Nat.reduceSub, Int.reduceEq, Int.reduceLT, Int.reduceLE, Int.reduceToNat, Int.reduceMul, r0, r2, x0s, x0u, x0h, x0l, x0k, y0s, y0u, y0h, y0l, y0k, x2s, x2u, x2h, x2l, x2k, y2s, y2u, y2h, y2l, y2k, x3s, x3u, x3h, x3l, x3k, x3i, y3s, y3u, y3h, y3l, y3k, y3i, s0, s0', s2, s2', s3, s3', t0, t0', t2, t2', t3, t3', o0, o0', o2, o2', o3, o3', n0, n0', n2, n2', n3, n3', c0, c0', c2, c2', c3, c3', w0, w0', w2, w2', w3, w3', cl, cl', f2, f3, g2, g3, f60, f61, h, gx, jcells, hw]) | (refine dwp_any ?_; simp only [go_sem, ↓reduceIte, reduceCtorEq, Nat.reduceBEq, Nat.reduceEqDiff, Nat.reduceLT, Nat.reduceLeDiff, Nat.reduceAdd, Nat.reduceMul, Nat.reducePow, Nat.reduceSub, Int.reduceEq, Int.reduceLT, Int.reduceLE, Int.reduceToNat, Int.reduceMul, r0, r2, x0s, x0u, x0h, x0l, x0k, y0s, y0u, y0h, y0l, y0k, x2s, x2u, x2h, x2l, x2k, y2s, y2u, y2h, y2l, y2k, x3s, x3u, x3h, x3l, x3k, x3i, y3s, y3u, y3h, y3l, y3k, y3i, s0, s0', s2, s2', s3, s3', t0, t0', t2, t2', t3, t3', o0, o0', o2, o2', o3, o3', n0, n0', n2, n2', n3, n3', c0, c0', c2, c2', c3, c3', w0, w0', w2, w2', w3, w3', cl, cl', f2, f3, g2, g3, f60, f61, h, gx, jcells, hw]; refine ⟨by kernel_rfl, ?_⟩) | (refine dwp_skip ?_; simp only [go_sem, ↓reduceIte, reduceCtorEq, Nat.reduceBEq, Nat.reduceEqDiff, Nat.reduceLT, Nat.reduceLeDiff, Nat.reduceAdd, Nat.reduceMul, Nat.reducePow, Nat.reduceSub, Int.reduceEq, Int.reduceLT, Int.reduceLE, Int.reduceToNat, Int.reduceMul, r0, r2, x0s, x0u, x0h, x0l, x0k, y0s, y0u, y0h, y0l, y0k, x2s, x2u, x2h, x2l, x2k, y2s, y2u, y2h, y2l, y2k, x3s, x3u, x3h, x3l, x3k, x3i, y3s, y3u, y3h, y3l, y3k, y3i, s0, s0', s2, s2', s3, s3', t0, t0', t2, t2', t3, t3', o0, o0', o2, o2', o3, o3', n0, n0', n2, n2', n3, n3', c0, c0', c2, c2', c3, c3', w0, w0', w2, w2', w3, w3', cl, cl', f2, f3, g2, g3, f60, f61, h, gx, jcells, hw]) | (refine dwp_exit ?_; simp only [go_sem, ↓reduceIte, reduceCtorEq, Nat.reduceBEq, Nat.reduceEqDiff, Nat.reduceLT, Nat.reduceLeDiff, Nat.reduceAdd, Nat.reduceMul, Nat.reducePow, Nat.reduceSub, Int.reduceEq, Int.reduceLT, Int.reduceLE, Int.reduceToNat, Int.reduceMul, r0, r2, x0s, x0u, x0h, x0l, x0k, y0s, y0u, y0h, y0l, y0k, x2s, x2u, x2h, x2l, x2k, y2s, y2u, y2h, y2l, y2k, x3s, x3u, x3h, x3l, x3k, x3i, y3s, y3u, y3h, y3l, y3k, y3i, s0, s0', s2, s2', s3, s3', t0, t0', t2, t2', t3, t3', o0, o0', o2, o2', o3, o3', n0, n0', n2, n2', n3, n3', c0, c0', c2, c2', c3, c3', w0, w0', w2, w2', w3, w3', cl, cl', f2, f3, g2, g3, f60, f61, h, gx, jcells, hw]) | (refine dwp_ret ?_; simp only [go_sem, ↓reduceIte, reduceCtorEq, Nat.reduceBEq, Nat.reduceEqDiff, Nat.reduceLT, Nat.reduceLeDiff, Nat.reduceAdd, Nat.reduceMul, Nat.reducePow, Nat.reduceSub, Int.reduceEq, Int.reduceLT, Int.reduceLE, Int.reduceToNat, Int.reduceMul, r0, r2, x0s, x0u, x0h, x0l, x0k, y0s, y0u, y0h, y0l, y0k, x2s, x2u, x2h, x2l, x2k, y2s, y2u, y2h, y2l, y2k, x3s, x3u, x3h, x3l, x3k, x3i, y3s, y3u, y3h, y3l, y3k, y3i, s0, s0', s2, s2', s3, s3', t0, t0', t2, t2', t3, t3', o0, o0', o2, o2', o3, o3', n0, n0', n2, n2', n3, n3', c0, c0', c2, c2', c3, c3', w0, w0', w2, w2', w3, w3', cl, cl', f2, f3, g2, g3, f60, f61, h, gx, jcells, hw]) | (refine dwp_if ?_; simp only [go_sem, ↓reduceIte, reduceCtorEq, Nat.reduceBEq, Nat.reduceEqDiff, Nat.reduceLT, Nat.reduceLeDiff, Nat.reduceAdd, Nat.reduceMul, Nat.reducePow, Nat.reduceSub, Int.reduceEq, Int.reduceLT, Int.reduceLE, Int.reduceToNat, Int.reduceMul, r0, r2, x0s, x0u, x0h, x0l, x0k, y0s, y0u, y0h, y0l, y0k, x2s, x2u, x2h, x2l, x2k, y2s, y2u, y2h, y2l, y2k, x3s, x3u, x3h, x3l, x3k, x3i, y3s, y3u, y3h, y3l, y3k, y3i, s0, s0', s2, s2', s3, s3', t0, t0', t2, t2', t3, t3', o0, o0', o2, o2', o3, o3', n0, n0', n2, n2', n3, n3', c0, c0', c2, c2', c3, c3', w0, w0', w2, w2', w3, w3', cl, cl', f2, f3, g2, g3, f60, f61, h, gx, jcells, hw]) | refine dwp_block ?_)
          refine ih (n - 1) _ _ (by omega) ⟨i + 1, by omega, ?_⟩
          simp only [go_sem, ↓reduceIte, reduceCtorEq, Nat.reduceBEq, Nat.reduceEqDiff, Nat.reduceLT, Nat.reduceLeDiff, Nat.reduceAdd, Nat.reduceMul, Nat.reducePow, Nat.reduceSub, Int.reduceEq, Int.reduceLT, Int.reduceLE, Int.reduceToNat, Int.reduceMul, s0, s0', s2, s2', s3, s3', t0, t0', t2, t2', t3, t3', o0, o0', o2, o2', o3, o3', n0, n0', n2, n2', n3, n3', c0, c0', c2, c2', c3, c3', w0, w0', w2, w2', w3, w3', cl, cl', f2, f3, g2, g3, f60, f61, hw]
        · repeat (first | refine dwp_seq ?_ | (refine dwp_region ?_; simp only [go_sem, ↓reduceIte, reduceCtorEq, Nat.reduceBEq, Nat.reduceEqDiff, Nat.reduceLT, Nat.reduceLeDiff, Nat.reduceAdd, Nat.reduceMul, Nat.reducePow, Nat.reduceSub, Int.reduceEq, Int.reduceLT, Int.reduceLE, Int.reduceToNat, Int.reduceMul, r0, r2, x0s, x0u, x0h, x0l, x0k, y0s, y0u, y0h, y0l, y0k, x2s, x2u, x2h, x2l, x2k, y2s, y2u, y2h, y2l, y2k, x3s, x3u, x3h, x3l, x3k, x3i, y3s, y3u, y3h, y3l, y3k, y3i, s0, s0', s2, s2', s3, s3', t0, t0', t2, t2', t3, t3', o0, o0', o2, o2', o3, o3', n0, n0', n2, n2', n3, n3', c0, c0', c2, c2', c3, c3', w0, w0', w2, w2', w3, w3', cl, cl', f2, f3, g2, g3, f60, f61, h]) | (refine dwp_any ?_; simp only [go_sem, ↓reduceIte, reduceCtorEq, Nat.reduceBEq, Nat.reduceEqDiff, Nat.reduceLT, Nat.reduceLeDiff, Nat.reduceAdd, Nat.reduceMul, Nat.reducePow, Nat.reduceSub, Int.reduceEq, Int.reduceLT, Int.reduceLE, Int.reduceToNat, Int.reduceMul, r0, r2, x0s, x0u, x0h, x0l, x0k, y0s, y0u, y0h, y0l, y0k, x2s, x2u, x2h, x2l, x2k, y2s, y2u, y2h, y2l, y2k, x3s, x3u, x3h, x3l, x3k, x3i, y3s, y3u, y3h, y3l, y3k, y3i, s0, s0', s2, s2', s3, s3', t0, t0', t2, t2', t3, t3', o0, o0', o2, o2', o3, o3', n0, n0', n2, n2', n3, n3', c0, c0', c2, c2', c3, c3', w0, w0', w2, w2', w3, w3', cl, cl', f2, f3, g2, g3, f60, f61, h]; refine ⟨by kernel_rfl, ?_⟩) | (refine dwp_skip ?_; simp only [go_sem, ↓reduceIte, reduceCtorEq, Nat.reduceBEq, Nat.reduceEqDiff, Nat.reduceLT, Nat.reduceLeDiff, Nat.reduceAdd, Nat.reduceMul, Nat.reducePow, Nat.reduceSub, Int.reduceEq, Int.reduceLT, Int.reduceLE, Int.reduceToNat, Int.reduceMul, r0, r2, x0s, x0u, x0h, x0l, x0k, y0s, y0u, y0h, y0l, y0k, x2s, x2u, x2h, x2l, x2k, y2s, y2u, y2h, y2l, y2k, x3s, x3u, x3h, x3l, x3k, x3i, y3s, y3u, y3h, y3l, y3k, y3i, s0, s0', s2, s2', s3, s3', t0, t0', t2, t2', t3, t3', o0, o0', o2, o2', o3, o3', n0, n0', n2, n2', n3, n3', c0, c0', c2, c2', c3, c3', w0, w0', w2, w2', w3, w3', cl, cl', f2, f3, g2, g3, f60, f61, h]) | (refine dwp_exit ?_; simp only [go_sem, ↓reduceIte, reduceCtorEq, Nat.reduceBEq, Nat.reduceEqDiff, Nat.reduceLT, Nat.reduceLeDiff, Nat.reduceAdd, Nat.reduceMul, Nat.reducePow, Nat.reduceSub, Int.reduceEq, Int.reduceLT, Int.reduceLE, Int.reduceToNat, Int.reduceMul, r0, r2, x0s, x0u, x0h, x0l, x0k, y0s, y0u, y0h, y0l, y0k, x2s, x2u, x2h, x2l, x2k, y2s, y2u, y2h, y2l, y2k, x3s, x3u, x3h, x3l, x3k, x3i, y3s, y3u, y3h, y3l, y3k, y3i, s0, s0', s2, s2', s3, s3', t0, t0', t2, t2', t3, t3', o0, o0', o2, o2', o3, o3', n0, n0', n2, n2', n3, n3', c0, c0', c2, c2', c3, c3', w0, w0', w2, w2', w3, w3', cl, cl', f2, f3, g2, g3, f60, f61, h]) | (refine dwp_ret ?_; simp only [go_sem, ↓reduceIte, reduceCtorEq, Nat.reduceBEq, Nat.reduceEqDiff, Nat.reduceLT, Nat.reduceLeDiff, Nat.reduceAdd, Nat.reduceMul, Nat.reducePow, Nat.reduceSub, Int.reduceEq, Int.reduceLT, Int.reduceLE, Int.reduceToNat, Int.reduceMul, r0, r2, x0s, x0u, x0h, x0l, x0k, y0s, y0u, y0h, y0l, y0k, x2s, x2u, x2h, x2l, x2k, y2s, y2u, y2h, y2l, y2k, x3s, x3u, x3h, x3l, x3k, x3i, y3s, y3u, y3h, y3l, y3k, y3i, s0, s0', s2, s2', s3, s3', t0, t0', t2, t2', t3, t3', o0, o0', o2, o2', o3, o3', n0, n0', n2, n2', n3, n3', c0, c0', c2, c2', c3, c3', w0, w0', w2, w2', w3, w3', cl, cl', f2, f3, g2, g3, f60, f61, h]) | (refine dwp_if ?_; simp only [go_sem, ↓reduceIte, reduceCtorEq, Nat.reduceBEq, Nat.reduceEqDiff, Nat.reduceLT, Nat.reduceLeDiff, Nat.reduceAdd, Nat.reduceMul, Nat.reducePow, Nat.reduceSub, Int.reduceEq, Int.reduceLT, Int.reduceLE, Int.reduceToNat, Int.reduceMul, r0, r2, x0s, x0u, x0h, x0l, x0k, y0s, y0u, y0h, y0l, y0k, x2s, x2u, x2h, x2l, x2k, y2s, y2u, y2h, y2l, y2k, x3s, x3u, x3h, x3l, x3k, x3i, y3s, y3u, y3h, y3l, y3k, y3i, s0, s0', s2, s2', s3, s3', t0, t0', t2, t2', t3, t3', o0, o0', o2, o2', o3, o3', n0, n0', n2, n2', n3, n3', c0, c0', c2, c2', c3, c3', w0, w0', w2, w2', w3, w3', cl, cl', f2, f3, g2, g3, f60, f61, h]) | refine dwp_block ?_)
end Go.Proofs.YtneihjdkaogkiaaDoor
