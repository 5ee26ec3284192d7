/- What the program's functions make of data: the document's Split. -/
import Derived.Test.YtneihjdkaogkiaaDoorFl
namespace Go.Proofs.YtneihjdkaogkiaaDoor
open Go Go.Eng Go.Proofs
set_option linter.unusedVariables false
set_option linter.unusedSimpArgs false
set_option maxRecDepth 100000
set_option maxHeartbeats 4000000

theorem clampN_ref (t : Int) : (if (if (31 : Int) < t then 31 else t) > 0 then (if (31 : Int) < t then 31 else t) else 0) = (clampN t : Int) := by
  unfold clampN
  by_cases h1 : (31 : Int) < t
  · have h2 : ¬ (0 : Int) > t := by omega
    simp [h1, h2]
  · by_cases h2 : (0 : Int) > t
    · simp [h1, h2]; omega
    · simp [h1, h2]; omega
theorem sides_ne {t a b : Term} {N : Nat} (h : cMany N t = true) (hs : sides t = some (a, b)) : a.tb ≠ b.tb := by
  unfold sides at hs
  split at hs
  · rename_i hc
    obtain ⟨hk, _, hl⟩ := hc
    split at hs
    · rename_i x y hx hy
      split at hs
      · rename_i hxy
        simp only [Option.some.injEq, Prod.mk.injEq] at hs
        obtain ⟨rfl, rfl⟩ := hs
        have hargs : t.args = [x, y] := by
          match hta : t.args, hl with
          | [u, v], _ =>
            rw [hta] at hx hy
            simp only [List.getElem?_cons_zero, List.getElem?_cons_succ, Option.some.injEq] at hx hy
            rw [hx, hy]
        have hkt : ¬ t.kind = 2 := by
          rw [beq_iff_eq] at hk
          omega
        have hkx : x.kind = 2 := by simpa using hxy.1
        have hky : y.kind = 2 := by simpa using hxy.2
        have hf : fields t = [x, y] := by
          rw [fields_eq, if_neg hkt, hargs]
          simp only [List.flatMap_cons, List.flatMap_nil, List.append_nil]
          rw [fields_eq x, fields_eq y, if_pos hkx, if_pos hky]
          rfl
        intro e
        have hu : (usesN t N).length ≤ 1 := by
          have hall : ∀ k ∈ usesN t N, (k : Int) = x.tb := fun k hk => by
            have hh := (List.mem_filter.1 hk).2
            unfold hasT at hh
            rw [hf] at hh
            simp only [List.any_cons, List.any_nil, Bool.or_false, Bool.or_eq_true, beq_iff_eq] at hh
            rcases hh with h | h
            · exact h.symm
            · rw [e]; exact h.symm
          have hnd : (usesN t N).Nodup := List.Nodup.sublist List.filter_sublist List.nodup_range
          match hu : usesN t N with
          | [] => exact Nat.zero_le _
          | [_] => exact Nat.le_refl _
          | k :: j :: r =>
            exfalso
            rw [hu] at hall hnd
            have h1 := hall k (by simp)
            have h2 := hall j (by simp)
            have : k = j := by omega
            subst this
            simp at hnd
        unfold cMany at h
        rw [decide_eq_true_eq] at h
        omega
      · cases hs
    · cases hs
  · cases hs
theorem split10 (l : List Term) (tables : Int) (hl : l.length ≤ 40) (hg : ∀ t ∈ l, great 20 t = false) :
    ∃ c0 cs c2 c3, FF 10 [.sl 11 (l.map tcells), .v (.int .i64 tables)] = some (.agg [strip c0, .sl 1 (chunks 1 (clampN tables) (cs.map strip)), strip c2, strip c3]) ∧
      CN c0 (idxs (cNone (clampN tables)) l) ∧ CS (clampN tables) cs (fun k => idxs (cK (clampN tables) k) l) ∧ CN c2 (idxs (cMany (clampN tables)) l) ∧ CJ c3 (joinsOf (clampN tables) l 0) := by
  have hcl := clampN_ref tables
  have hN := clampN_le tables
  generalize clampN tables = N at *
  have m1 : (N : Int) ≤ (maxLen : Int) := by unfold maxLen; omega
  have m2 : (N : Int) * ((24 : Nat) : Int) ≤ 140737488355328 := by omega
  have hz : CS N (List.replicate N (.v (.slice none 0 0))) (fun k => idxs (cK N k) (l.take 0)) := ⟨by simp, fun k c hc => .inr ⟨by
    rw [List.getElem?_replicate] at hc
    split at hc
    · simpa using hc.symm
    · (cases hc)
    , rfl⟩⟩
  have hza := hz.refl
  obtain ⟨r, hr, c0, cs, c2, c3, rfl, h0, h1, h2, h3⟩ : ∃ r, FF 10 [.sl 11 (l.map tcells), .v (.int .i64 tables)] = some r ∧ ∃ c0 cs c2 c3, r = .agg [strip c0, .sl 1 (chunks 1 N (cs.map strip)), strip c2, strip c3] ∧
      CN c0 (idxs (cNone N) l) ∧ CS N cs (fun k => idxs (cK N k) l) ∧ CN c2 (idxs (cMany N) l) ∧ CJ c3 (joinsOf N l 0) := by
    refine FF_ex Tryd.func10 rfl rfl rfl ?_
    simp only [Tryd.ntmps10, Tryd.results10]
    repeat (first | refine dwp_seq ?_ | (refine dwp_region ?_; simp only [go_sem, ↓reduceIte, reduceCtorEq, Nat.reduceBEq, Nat.reduceEqDiff, Nat.reduceLT, Nat.reduceLeDiff, Nat.reduceAdd, Nat.reduceMul, Nat.reducePow, Nat.reduceSub, Int.reduceEq, Int.reduceLT, Int.reduceLE, Int.reduceToNat, Int.reduceMul, hcl, m1, m2, rep_flat, hza]) | (refine dwp_any ?_; simp only [go_sem, ↓reduceIte, reduceCtorEq, Nat.reduceBEq, Nat.reduceEqDiff, Nat.reduceLT, Nat.reduceLeDiff, Nat.reduceAdd, Nat.reduceMul, Nat.reducePow, Nat.reduceSub, Int.reduceEq, Int.reduceLT, Int.reduceLE, Int.reduceToNat, Int.reduceMul, hcl, m1, m2, rep_flat, hza]; refine ⟨by kernel_rfl, ?_⟩) | (refine dwp_skip ?_; simp only [go_sem, ↓reduceIte, reduceCtorEq, Nat.reduceBEq, Nat.reduceEqDiff, Nat.reduceLT, Nat.reduceLeDiff, Nat.reduceAdd, Nat.reduceMul, Nat.reducePow, Nat.reduceSub, Int.reduceEq, Int.reduceLT, Int.reduceLE, Int.reduceToNat, Int.reduceMul, hcl, m1, m2, rep_flat, hza]) | (refine dwp_exit ?_; simp only [go_sem, ↓reduceIte, reduceCtorEq, Nat.reduceBEq, Nat.reduceEqDiff, Nat.reduceLT, Nat.reduceLeDiff, Nat.reduceAdd, Nat.reduceMul, Nat.reducePow, Nat.reduceSub, Int.reduceEq, Int.reduceLT, Int.reduceLE, Int.reduceToNat, Int.reduceMul, hcl, m1, m2, rep_flat, hza]) | (refine dwp_ret ?_; simp only [go_sem, ↓reduceIte, reduceCtorEq, Nat.reduceBEq, Nat.reduceEqDiff, Nat.reduceLT, Nat.reduceLeDiff, Nat.reduceAdd, Nat.reduceMul, Nat.reducePow, Nat.reduceSub, Int.reduceEq, Int.reduceLT, Int.reduceLE, Int.reduceToNat, Int.reduceMul, hcl, m1, m2, rep_flat, hza]) | (refine dwp_if ?_; simp only [go_sem, ↓reduceIte, reduceCtorEq, Nat.reduceBEq, Nat.reduceEqDiff, Nat.reduceLT, Nat.reduceLeDiff, Nat.reduceAdd, Nat.reduceMul, Nat.reducePow, Nat.reduceSub, Int.reduceEq, Int.reduceLT, Int.reduceLE, Int.reduceToNat, Int.reduceMul, hcl, m1, m2, rep_flat, hza]) | refine dwp_block ?_)
    refine dwp_ind (fun n f g => ∃ i c0 cs c2 c3, i + n = l.length ∧ f 0 = .sl 11 (l.map tcells) ∧ f 4 = .bp 4 0 ∧ g 4 = some [.v (.slice none 0 0), .v (.slice none 0 0), .v (.slice none 0 0), .v (.slice none 0 0)] ∧ f 5 = .v (.int .i64 (N : Int)) ∧ f 6 = .bp 6 0 ∧ g 6 = some [c0, .bs 18 0 1 N, c2, c3] ∧ g 18 = some cs ∧ f 21 = .v (.int .i64 l.length) ∧ f 22 = .v (.int .i64 (i : Nat)) ∧
      CN c0 (idxs (cNone N) (l.take i)) ∧ CS N cs (fun k => idxs (cK N k) (l.take i)) ∧ CN c2 (idxs (cMany N) (l.take i)) ∧ CJ c3 (joinsOf N (l.take i) 0)) l.length ⟨0, .v (.slice none 0 0), List.replicate N (.v (.slice none 0 0)), .v (.slice none 0 0), .v (.slice none 0 0), by omega, ?_⟩ ?_
    · simp only [go_sem, ↓reduceIte, reduceCtorEq, Nat.reduceBEq, Nat.reduceEqDiff, Nat.reduceLT, Nat.reduceLeDiff, Nat.reduceAdd, Nat.reduceMul, Nat.reducePow, Nat.reduceSub, Int.reduceEq, Int.reduceLT, Int.reduceLE, Int.reduceToNat, Int.reduceMul, hza]
      exact ⟨rfl, .inr ⟨rfl, rfl⟩, hz, .inr ⟨rfl, rfl⟩, .inr ⟨rfl, rfl⟩⟩
    rintro n f g ⟨i, c0, cs, c2, c3, hi, f0, f4, g4, f5, f6, g6, g18, f21, f22, h0, h1, h2, h3⟩ ih
    by_cases h : (i : Int) < (l.length : Int)
    · have hi1 : i < l.length := by omega
      have ga : l[i]? = some l[i] := List.getElem?_eq_getElem hi1
      have hmem : l[i] ∈ l := List.getElem_mem hi1
      generalize l[i] = a at ga hmem
      have hc := uses15 a N (by omega) 20 (by omega) (hg a hmem)
      have s0 := idxs_snoc (cNone N) l i a ga
      have s2 := idxs_snoc (cMany N) l i a ga
      have sK : ∀ k, idxs (cK N k) (l.take (i + 1)) = idxs (cK N k) (l.take i) ++ if cK N k a = true then [i] else [] := fun k => idxs_snoc (cK N k) l i a ga
      have s3 : joinsOf N (l.take (i + 1)) 0 = joinsOf N (l.take i) 0 ++ joinOf N a i := by
        rw [List.take_add_one, ga, Option.toList_some, joinsOf_snoc, Nat.zero_add, List.length_take, Nat.min_eq_left (Nat.le_of_lt hi1)]
      have r0 := h0.refl
      have r1 := h1.refl
      have r2 := h2.refl
      have r3 := h3.refl
      have hw := wrap_succ (show i + 1 < 2 ^ 63 by omega)
      by_cases q0 : (usesN a N).length = 0
      · have q0' : (((usesN a N).length : Int) == 0) = true := by rw [beq_iff_eq]; omega
        have n0 := h0.norm
        have t0 := h0.tops
        have hr := room_nats l (cNone N) i hl
        repeat (first | refine dwp_seq ?_ | (refine dwp_region ?_; simp only [go_sem, ↓reduceIte, reduceCtorEq, Nat.reduceBEq, Nat.reduceEqDiff, Nat.reduceLT, Nat.reduceLeDiff, Nat.reduceAdd, Nat.reduceMul, Nat.reducePow, Nat.reduceSub, Int.reduceEq, Int.reduceLT, Int.reduceLE, Int.reduceToNat, Int.reduceMul, f0, f4, g4, f5, f6, g6, g18, f21, f22, h, ga, hc, q0', n0, t0, r0, r1, r2, r3, hr, hw]) | (refine dwp_any ?_; simp only [go_sem, ↓reduceIte, reduceCtorEq, Nat.reduceBEq, Nat.reduceEqDiff, Nat.reduceLT, Nat.reduceLeDiff, Nat.reduceAdd, Nat.reduceMul, Nat.reducePow, Nat.reduceSub, Int.reduceEq, Int.reduceLT, Int.reduceLE, Int.reduceToNat, Int.reduceMul, f0, f4, g4, f5, f6, g6, g18, f21, f22, h, ga, hc, q0', n0, t0, r0, r1, r2, r3, hr, hw]; refine ⟨by kernel_rfl, ?_⟩) | (refine dwp_skip ?_; simp only [go_sem, ↓reduceIte, reduceCtorEq, Nat.reduceBEq, Nat.reduceEqDiff, Nat.reduceLT, Nat.reduceLeDiff, Nat.reduceAdd, Nat.reduceMul, Nat.reducePow, Nat.reduceSub, Int.reduceEq, Int.reduceLT, Int.reduceLE, Int.reduceToNat, Int.reduceMul, f0, f4, g4, f5, f6, g6, g18, f21, f22, h, ga, hc, q0', n0, t0, r0, r1, r2, r3, hr, hw]) | (refine dwp_exit ?_; simp only [go_sem, ↓reduceIte, reduceCtorEq, Nat.reduceBEq, Nat.reduceEqDiff, Nat.reduceLT, Nat.reduceLeDiff, Nat.reduceAdd, Nat.reduceMul, Nat.reducePow, Nat.reduceSub, Int.reduceEq, Int.reduceLT, Int.reduceLE, Int.reduceToNat, Int.reduceMul, f0, f4, g4, f5, f6, g6, g18, f21, f22, h, ga, hc, q0', n0, t0, r0, r1, r2, r3, hr, hw]) | (refine dwp_ret ?_; simp only [go_sem, ↓reduceIte, reduceCtorEq, Nat.reduceBEq, Nat.reduceEqDiff, Nat.reduceLT, Nat.reduceLeDiff, Nat.reduceAdd, Nat.reduceMul, Nat.reducePow, Nat.reduceSub, Int.reduceEq, Int.reduceLT, Int.reduceLE, Int.reduceToNat, Int.reduceMul, f0, f4, g4, f5, f6, g6, g18, f21, f22, h, ga, hc, q0', n0, t0, r0, r1, r2, r3, hr, hw]) | (refine dwp_if ?_; simp only [go_sem, ↓reduceIte, reduceCtorEq, Nat.reduceBEq, Nat.reduceEqDiff, Nat.reduceLT, Nat.reduceLeDiff, Nat.reduceAdd, Nat.reduceMul, Nat.reducePow, Nat.reduceSub, Int.reduceEq, Int.reduceLT, Int.reduceLE, Int.reduceToNat, Int.reduceMul, f0, f4, g4, f5, f6, g6, g18, f21, f22, h, ga, hc, q0', n0, t0, r0, r1, r2, r3, hr, hw]) | refine dwp_block ?_)
        refine ih (n - 1) _ _ (by omega) ⟨i + 1, .own 3 1 (nats (idxs (cNone N) (l.take i) ++ [i])), cs, c2, c3, by omega, ?_⟩
        simp only [go_sem, ↓reduceIte, reduceCtorEq, Nat.reduceBEq, Nat.reduceEqDiff, Nat.reduceLT, Nat.reduceLeDiff, Nat.reduceAdd, Nat.reduceMul, Nat.reducePow, Nat.reduceSub, Int.reduceEq, Int.reduceLT, Int.reduceLE, Int.reduceToNat, Int.reduceMul, f0, f4, g4, f5, f6, g6, g18, f21, f22, r0, r1, r2, r3, app_nats]
        have k0 : cNone N a = true := by simp [cNone, q0]
        have k1 : ∀ k, cK N k a = false := fun k => by
          unfold cK
          rw [beq_eq_false_iff_ne]
          intro e
          rw [e] at q0
          cases q0
        have k2 : cMany N a = false := by simp [cMany, q0]
        have k3 : joinOf N a i = [] := by unfold joinOf; rw [if_neg (by rw [k2]; simp)]
        rw [s0, s2, s3, k3, List.append_nil, if_pos k0, if_neg (by rw [k2]; simp), List.append_nil]
        simp only [sK, k1, Bool.false_eq_true, if_false, List.append_nil]
        exact ⟨.inl rfl, h1, h2, h3⟩
      have q0' : (((usesN a N).length : Int) == 0) = false := by rw [beq_eq_false_iff_ne]; omega
      have k0 : cNone N a = false := by simpa [cNone] using q0
      by_cases q1 : (usesN a N).length = 1
      · obtain ⟨k, hk⟩ := List.length_eq_one_iff.1 q1
        obtain ⟨hb, hkN⟩ := bitsN_one a N k (by omega) hk
        have q1' : (((usesN a N).length : Int) == 1) = true := by rw [beq_iff_eq]; omega
        have g0 : (usesN a N)[0]? = some k := by rw [hk]; rfl
        have gl : (0 : Int) < ((usesN a N).length : Int) := by omega
        have hkc : k < cs.length := by rw [h1.1]; exact hkN
        have gc : cs[k]? = some cs[k] := List.getElem?_eq_getElem hkc
        generalize cs[k] = ck at gc
        have hck := h1.2 k ck gc
        have hlen : (idxs (cK N k) (l.take i)).length ≤ 40 := by
          have := idxs_len (cK N k) (l.take i)
          rw [List.length_take] at this
          omega
        have hr0 : room (0 + (idxs (cK N k) (l.take i)).length) 8 = true := room_ok (by omega) (by decide)
        have hr00 : room (idxs (cK N k) (l.take i)).length 8 = true := room_ok (by omega) (by decide)
        have hr01 : room 0 8 = true := room_ok (by omega) (by decide)
        have hr := room_nats l (cK N k) i hl
        have hki : (k : Int) < (N : Int) := by omega
        have hks : k + 1 ≤ cs.length := hkc
        have hset : setCells cs k [.own 3 1 (nats (idxs (cK N k) (l.take i) ++ [i]))] = cs.set k (.own 3 1 (nats (idxs (cK N k) (l.take i) ++ [i]))) := by
          unfold setCells
          rw [List.set_eq_take_append_cons_drop, if_pos hkc]
          simp
        have k1 : ∀ j, cK N j a = (j == k) := fun j => by
          unfold cK
          rw [hk, Bool.eq_iff_iff, beq_iff_eq, beq_iff_eq]
          simp [eq_comm]
        have hnew : CS N (cs.set k (.own 3 1 (nats (idxs (cK N k) (l.take i) ++ [i])))) (fun k => idxs (cK N k) (l.take (i + 1))) := by
          refine h1.set k _ (.inl ?_) fun j hj => ?_
          · rw [sK k, k1 k]
            simp
          · rw [sK j, k1 j]
            simp [hj]
        have r4 := hnew.refl
        have k2 : cMany N a = false := by simp [cMany, q1]
        have k3 : joinOf N a i = [] := by unfold joinOf; rw [if_neg (by rw [k2]; simp)]
        rcases hck with rfl | ⟨rfl, e0⟩
        · repeat (first | refine dwp_seq ?_ | (refine dwp_region ?_; simp only [go_sem, ↓reduceIte, reduceCtorEq, Nat.reduceBEq, Nat.reduceEqDiff, Nat.reduceLT, Nat.reduceLeDiff, Nat.reduceAdd, Nat.reduceMul, Nat.reducePow, Nat.reduceSub, Int.reduceEq, Int.reduceLT, Int.reduceLE, Int.reduceToNat, Int.reduceMul, f0, f4, g4, f5, f6, g6, g18, f21, f22, h, ga, hc, q0', q1', g0, gl, gc, r0, r1, r2, r3, r4, hr0, hr00, hr, hw, hki, hks, hset, app_nats]) | (refine dwp_any ?_; simp only [go_sem, ↓reduceIte, reduceCtorEq, Nat.reduceBEq, Nat.reduceEqDiff, Nat.reduceLT, Nat.reduceLeDiff, Nat.reduceAdd, Nat.reduceMul, Nat.reducePow, Nat.reduceSub, Int.reduceEq, Int.reduceLT, Int.reduceLE, Int.reduceToNat, Int.reduceMul, f0, f4, g4, f5, f6, g6, g18, f21, f22, h, ga, hc, q0', q1', g0, gl, gc, r0, r1, r2, r3, r4, hr0, hr00, hr, hw, hki, hks, hset, app_nats]; refine ⟨by kernel_rfl, ?_⟩) | (refine dwp_skip ?_; simp only [go_sem, ↓reduceIte, reduceCtorEq, Nat.reduceBEq, Nat.reduceEqDiff, Nat.reduceLT, Nat.reduceLeDiff, Nat.reduceAdd, Nat.reduceMul, Nat.reducePow, Nat.reduceSub, Int.reduceEq, Int.reduceLT, Int.reduceLE, Int.reduceToNat, Int.reduceMul, f0, f4, g4, f5, f6, g6, g18, f21, f22, h, ga, hc, q0', q1', g0, gl, gc, r0, r1, r2, r3, r4, hr0, hr00, hr, hw, hki, hks, hset, app_nats]) | (refine dwp_exit ?_; simp only [go_sem, ↓reduceIte, reduceCtorEq, Nat.reduceBEq, Nat.reduceEqDiff, Nat.reduceLT, Nat.reduceLeDiff, Nat.reduceAdd, Nat.reduceMul, Nat.reducePow, Nat.reduceSub, Int.reduceEq, Int.reduceLT, Int.reduceLE, Int.reduceToNat, Int.reduceMul, f0, f4, g4, f5, f6, g6, g18, f21, f22, h, ga, hc, q0', q1', g0, gl, gc, r0, r1, r2, r3, r4, hr0, hr00, hr, hw, hki, hks, hset, app_nats]) | (refine dwp_ret ?_; simp only [go_sem, ↓reduceIte, reduceCtorEq, Nat.reduceBEq, Nat.reduceEqDiff, Nat.reduceLT, Nat.reduceLeDiff, Nat.reduceAdd, Nat.reduceMul, Nat.reducePow, Nat.reduceSub, Int.reduceEq, Int.reduceLT, Int.reduceLE, Int.reduceToNat, Int.reduceMul, f0, f4, g4, f5, f6, g6, g18, f21, f22, h, ga, hc, q0', q1', g0, gl, gc, r0, r1, r2, r3, r4, hr0, hr00, hr, hw, hki, hks, hset, app_nats]) | (refine dwp_if ?_; simp only [go_sem, ↓reduceIte, reduceCtorEq, Nat.reduceBEq, Nat.reduceEqDiff, Nat.reduceLT, Nat.reduceLeDiff, Nat.reduceAdd, Nat.reduceMul, Nat.reducePow, Nat.reduceSub, Int.reduceEq, Int.reduceLT, Int.reduceLE, Int.reduceToNat, Int.reduceMul, f0, f4, g4, f5, f6, g6, g18, f21, f22, h, ga, hc, q0', q1', g0, gl, gc, r0, r1, r2, r3, r4, hr0, hr00, hr, hw, hki, hks, hset, app_nats]) | refine dwp_block ?_)
          refine ih (n - 1) _ _ (by omega) ⟨i + 1, c0, cs.set k (.own 3 1 (nats (idxs (cK N k) (l.take i) ++ [i]))), c2, c3, by omega, ?_⟩
          simp only [go_sem, ↓reduceIte, reduceCtorEq, Nat.reduceBEq, Nat.reduceEqDiff, Nat.reduceLT, Nat.reduceLeDiff, Nat.reduceAdd, Nat.reduceMul, Nat.reducePow, Nat.reduceSub, Int.reduceEq, Int.reduceLT, Int.reduceLE, Int.reduceToNat, Int.reduceMul, f0, f4, g4, f5, f6, g6, g18, f21, f22, r0, r1, r2, r3, r4, app_nats, hset]
          rw [s0, s2, s3, k3, List.append_nil, if_neg (by rw [k0]; simp), if_neg (by rw [k2]; simp), List.append_nil, List.append_nil]
          exact ⟨h0, hnew, h2, h3⟩
        · have e0 : idxs (cK N k) (l.take i) = [] := e0
          rw [e0] at hr hset hnew r4
          simp only [List.nil_append] at hset hnew r4
          have hn1 : [[D.v (.int .i64 (i : Int))]] = nats [i] := rfl
          have hr1 : room 1 8 = true := room_ok (by omega) (by decide)
          repeat (first | refine dwp_seq ?_ | (refine dwp_region ?_; simp only [go_sem, ↓reduceIte, reduceCtorEq, Nat.reduceBEq, Nat.reduceEqDiff, Nat.reduceLT, Nat.reduceLeDiff, Nat.reduceAdd, Nat.reduceMul, Nat.reducePow, Nat.reduceSub, Int.reduceEq, Int.reduceLT, Int.reduceLE, Int.reduceToNat, Int.reduceMul, f0, f4, g4, f5, f6, g6, g18, f21, f22, h, ga, hc, q0', q1', g0, gl, gc, r0, r1, r2, r3, r4, hr01, hr1, hw, hki, hks, hset, hn1]) | (refine dwp_any ?_; simp only [go_sem, ↓reduceIte, reduceCtorEq, Nat.reduceBEq, Nat.reduceEqDiff, Nat.reduceLT, Nat.reduceLeDiff, Nat.reduceAdd, Nat.reduceMul, Nat.reducePow, Nat.reduceSub, Int.reduceEq, Int.reduceLT, Int.reduceLE, Int.reduceToNat, Int.reduceMul, f0, f4, g4, f5, f6, g6, g18, f21, f22, h, ga, hc, q0', q1', g0, gl, gc, r0, r1, r2, r3, r4, hr01, hr1, hw, hki, hks, hset, hn1]; refine ⟨by kernel_rfl, ?_⟩) | (refine dwp_skip ?_; simp only [go_sem, ↓reduceIte, reduceCtorEq, Nat.reduceBEq, Nat.reduceEqDiff, Nat.reduceLT, Nat.reduceLeDiff, Nat.reduceAdd, Nat.reduceMul, Nat.reducePow, Nat.reduceSub, Int.reduceEq, Int.reduceLT, Int.reduceLE, Int.reduceToNat, Int.reduceMul, f0, f4, g4, f5, f6, g6, g18, f21, f22, h, ga, hc, q0', q1', g0, gl, gc, r0, r1, r2, r3, r4, hr01, hr1, hw, hki, hks, hset, hn1]) | (refine dwp_exit ?_; simp only [go_sem, ↓reduceIte, reduceCtorEq, Nat.reduceBEq, Nat.reduceEqDiff, Nat.reduceLT, Nat.reduceLeDiff, Nat.reduceAdd, Nat.reduceMul, Nat.reducePow, Nat.reduceSub, Int.reduceEq, Int.reduceLT, Int.reduceLE, Int.reduceToNat, Int.reduceMul, f0, f4, g4, f5, f6, g6, g18, f21, f22, h, ga, hc, q0', q1', g0, gl, gc, r0, r1, r2, r3, r4, hr01, hr1, hw, hki, hks, hset, hn1]) | (refine dwp_ret ?_; simp only [go_sem, ↓reduceIte, reduceCtorEq, Nat.reduceBEq, Nat.reduceEqDiff, Nat.reduceLT, Nat.reduceLeDiff, Nat.reduceAdd, Nat.reduceMul, Nat.reducePow, Nat.reduceSub, Int.reduceEq, Int.reduceLT, Int.reduceLE, Int.reduceToNat, Int.reduceMul, f0, f4, g4, f5, f6, g6, g18, f21, f22, h, ga, hc, q0', q1', g0, gl, gc, r0, r1, r2, r3, r4, hr01, hr1, hw, hki, hks, hset, hn1]) | (refine dwp_if ?_; simp only [go_sem, ↓reduceIte, reduceCtorEq, Nat.reduceBEq, Nat.reduceEqDiff, Nat.reduceLT, Nat.reduceLeDiff, Nat.reduceAdd, Nat.reduceMul, Nat.reducePow, Nat.reduceSub, Int.reduceEq, Int.reduceLT, Int.reduceLE, Int.reduceToNat, Int.reduceMul, f0, f4, g4, f5, f6, g6, g18, f21, f22, h, ga, hc, q0', q1', g0, gl, gc, r0, r1, r2, r3, r4, hr01, hr1, hw, hki, hks, hset, hn1]) | refine dwp_block ?_)
          refine ih (n - 1) _ _ (by omega) ⟨i + 1, c0, cs.set k (.own 3 1 (nats [i])), c2, c3, by omega, ?_⟩
          simp only [go_sem, ↓reduceIte, reduceCtorEq, Nat.reduceBEq, Nat.reduceEqDiff, Nat.reduceLT, Nat.reduceLeDiff, Nat.reduceAdd, Nat.reduceMul, Nat.reducePow, Nat.reduceSub, Int.reduceEq, Int.reduceLT, Int.reduceLE, Int.reduceToNat, Int.reduceMul, f0, f4, g4, f5, f6, g6, g18, f21, f22, r0, r1, r2, r3, r4, hn1, hset]
          rw [s0, s2, s3, k3, List.append_nil, if_neg (by rw [k0]; simp), if_neg (by rw [k2]; simp), List.append_nil, List.append_nil]
          exact ⟨h0, hnew, h2, h3⟩
      have q1' : (((usesN a N).length : Int) == 1) = false := by rw [beq_eq_false_iff_ne]; omega
      have k1 : ∀ k, cK N k a = false := fun k => by
        unfold cK
        rw [beq_eq_false_iff_ne]
        intro e
        rw [e] at q1
        exact q1 rfl
      have k2 : cMany N a = true := by simp only [cMany, decide_eq_true_eq]; omega
      have n2 := h2.norm
      have t2 := h2.tops
      have n3 := h3.norm
      have t3 := h3.tops
      have o3 := h3.one
      have hr := room_nats l (cMany N) i hl
      have hr3 : room ((joinsOf N (l.take i) 0).length + 1) 40 = true := room_ok (by
        have := joinsOf_len N (l.take i) 0
        rw [List.length_take] at this
        omega) (by decide)
      cases v1 : (a.kind == 4)
      case false =>
        have hs : sides a = none := by simp [sides, v1]
        repeat (first | refine dwp_seq ?_ | (refine dwp_region ?_; simp only [go_sem, ↓reduceIte, reduceCtorEq, Nat.reduceBEq, Nat.reduceEqDiff, Nat.reduceLT, Nat.reduceLeDiff, Nat.reduceAdd, Nat.reduceMul, Nat.reducePow, Nat.reduceSub, Int.reduceEq, Int.reduceLT, Int.reduceLE, Int.reduceToNat, Int.reduceMul, f0, f4, g4, f5, f6, g6, g18, f21, f22, h, ga, hc, q0', q1', v1, n2, t2, r0, r1, r2, r3, hr, hw, app_nats]) | (refine dwp_any ?_; simp only [go_sem, ↓reduceIte, reduceCtorEq, Nat.reduceBEq, Nat.reduceEqDiff, Nat.reduceLT, Nat.reduceLeDiff, Nat.reduceAdd, Nat.reduceMul, Nat.reducePow, Nat.reduceSub, Int.reduceEq, Int.reduceLT, Int.reduceLE, Int.reduceToNat, Int.reduceMul, f0, f4, g4, f5, f6, g6, g18, f21, f22, h, ga, hc, q0', q1', v1, n2, t2, r0, r1, r2, r3, hr, hw, app_nats]; refine ⟨by kernel_rfl, ?_⟩) | (refine dwp_skip ?_; simp only [go_sem, ↓reduceIte, reduceCtorEq, Nat.reduceBEq, Nat.reduceEqDiff, Nat.reduceLT, Nat.reduceLeDiff, Nat.reduceAdd, Nat.reduceMul, Nat.reducePow, Nat.reduceSub, Int.reduceEq, Int.reduceLT, Int.reduceLE, Int.reduceToNat, Int.reduceMul, f0, f4, g4, f5, f6, g6, g18, f21, f22, h, ga, hc, q0', q1', v1, n2, t2, r0, r1, r2, r3, hr, hw, app_nats]) | (refine dwp_exit ?_; simp only [go_sem, ↓reduceIte, reduceCtorEq, Nat.reduceBEq, Nat.reduceEqDiff, Nat.reduceLT, Nat.reduceLeDiff, Nat.reduceAdd, Nat.reduceMul, Nat.reducePow, Nat.reduceSub, Int.reduceEq, Int.reduceLT, Int.reduceLE, Int.reduceToNat, Int.reduceMul, f0, f4, g4, f5, f6, g6, g18, f21, f22, h, ga, hc, q0', q1', v1, n2, t2, r0, r1, r2, r3, hr, hw, app_nats]) | (refine dwp_ret ?_; simp only [go_sem, ↓reduceIte, reduceCtorEq, Nat.reduceBEq, Nat.reduceEqDiff, Nat.reduceLT, Nat.reduceLeDiff, Nat.reduceAdd, Nat.reduceMul, Nat.reducePow, Nat.reduceSub, Int.reduceEq, Int.reduceLT, Int.reduceLE, Int.reduceToNat, Int.reduceMul, f0, f4, g4, f5, f6, g6, g18, f21, f22, h, ga, hc, q0', q1', v1, n2, t2, r0, r1, r2, r3, hr, hw, app_nats]) | (refine dwp_if ?_; simp only [go_sem, ↓reduceIte, reduceCtorEq, Nat.reduceBEq, Nat.reduceEqDiff, Nat.reduceLT, Nat.reduceLeDiff, Nat.reduceAdd, Nat.reduceMul, Nat.reducePow, Nat.reduceSub, Int.reduceEq, Int.reduceLT, Int.reduceLE, Int.reduceToNat, Int.reduceMul, f0, f4, g4, f5, f6, g6, g18, f21, f22, h, ga, hc, q0', q1', v1, n2, t2, r0, r1, r2, r3, hr, hw, app_nats]) | refine dwp_block ?_)
        refine ih (n - 1) _ _ (by omega) ⟨i + 1, c0, cs, .own 3 1 (nats (idxs (cMany N) (l.take i) ++ [i])), c3, by omega, ?_⟩
        simp only [go_sem, ↓reduceIte, reduceCtorEq, Nat.reduceBEq, Nat.reduceEqDiff, Nat.reduceLT, Nat.reduceLeDiff, Nat.reduceAdd, Nat.reduceMul, Nat.reducePow, Nat.reduceSub, Int.reduceEq, Int.reduceLT, Int.reduceLE, Int.reduceToNat, Int.reduceMul, f0, f4, g4, f5, f6, g6, g18, f21, f22, r0, r1, r2, r3, app_nats]
        have k3 : joinOf N a i = [] := by unfold joinOf; rw [if_pos k2, hs]
        rw [s0, s2, s3, k3, List.append_nil, if_neg (by rw [k0]; simp), if_pos k2, List.append_nil]
        simp only [sK, k1, Bool.false_eq_true, if_false, List.append_nil]
        exact ⟨h0, h1, .inl rfl, h3⟩
      cases v2 : (a.op.toList == ByteArray.toList ⟨#[61]⟩)
      case false =>
        have hs : sides a = none := by simp [sides, eqS, v2]
        repeat (first | refine dwp_seq ?_ | (refine dwp_region ?_; simp only [go_sem, ↓reduceIte, reduceCtorEq, Nat.reduceBEq, Nat.reduceEqDiff, Nat.reduceLT, Nat.reduceLeDiff, Nat.reduceAdd, Nat.reduceMul, Nat.reducePow, Nat.reduceSub, Int.reduceEq, Int.reduceLT, Int.reduceLE, Int.reduceToNat, Int.reduceMul, f0, f4, g4, f5, f6, g6, g18, f21, f22, h, ga, hc, q0', q1', v1, v2, n2, t2, r0, r1, r2, r3, hr, hw, app_nats]) | (refine dwp_any ?_; simp only [go_sem, ↓reduceIte, reduceCtorEq, Nat.reduceBEq, Nat.reduceEqDiff, Nat.reduceLT, Nat.reduceLeDiff, Nat.reduceAdd, Nat.reduceMul, Nat.reducePow, Nat.reduceSub, Int.reduceEq, Int.reduceLT, Int.reduceLE, Int.reduceToNat, Int.reduceMul, f0, f4, g4, f5, f6, g6, g18, f21, f22, h, ga, hc, q0', q1', v1, v2, n2, t2, r0, r1, r2, r3, hr, hw, app_nats]; refine ⟨by kernel_rfl, ?_⟩) | (refine dwp_skip ?_; simp only [go_sem, ↓reduceIte, reduceCtorEq, Nat.reduceBEq, Nat.reduceEqDiff, Nat.reduceLT, Nat.reduceLeDiff, Nat.reduceAdd, Nat.reduceMul, Nat.reducePow, Nat.reduceSub, Int.reduceEq, Int.reduceLT, Int.reduceLE, Int.reduceToNat, Int.reduceMul, f0, f4, g4, f5, f6, g6, g18, f21, f22, h, ga, hc, q0', q1', v1, v2, n2, t2, r0, r1, r2, r3, hr, hw, app_nats]) | (refine dwp_exit ?_; simp only [go_sem, ↓reduceIte, reduceCtorEq, Nat.reduceBEq, Nat.reduceEqDiff, Nat.reduceLT, Nat.reduceLeDiff, Nat.reduceAdd, Nat.reduceMul, Nat.reducePow, Nat.reduceSub, Int.reduceEq, Int.reduceLT, Int.reduceLE, Int.reduceToNat, Int.reduceMul, f0, f4, g4, f5, f6, g6, g18, f21, f22, h, ga, hc, q0', q1', v1, v2, n2, t2, r0, r1, r2, r3, hr, hw, app_nats]) | (refine dwp_ret ?_; simp only [go_sem, ↓reduceIte, reduceCtorEq, Nat.reduceBEq, Nat.reduceEqDiff, Nat.reduceLT, Nat.reduceLeDiff, Nat.reduceAdd, Nat.reduceMul, Nat.reducePow, Nat.reduceSub, Int.reduceEq, Int.reduceLT, Int.reduceLE, Int.reduceToNat, Int.reduceMul, f0, f4, g4, f5, f6, g6, g18, f21, f22, h, ga, hc, q0', q1', v1, v2, n2, t2, r0, r1, r2, r3, hr, hw, app_nats]) | (refine dwp_if ?_; simp only [go_sem, ↓reduceIte, reduceCtorEq, Nat.reduceBEq, Nat.reduceEqDiff, Nat.reduceLT, Nat.reduceLeDiff, Nat.reduceAdd, Nat.reduceMul, Nat.reducePow, Nat.reduceSub, Int.reduceEq, Int.reduceLT, Int.reduceLE, Int.reduceToNat, Int.reduceMul, f0, f4, g4, f5, f6, g6, g18, f21, f22, h, ga, hc, q0', q1', v1, v2, n2, t2, r0, r1, r2, r3, hr, hw, app_nats]) | refine dwp_block ?_)
        refine ih (n - 1) _ _ (by omega) ⟨i + 1, c0, cs, .own 3 1 (nats (idxs (cMany N) (l.take i) ++ [i])), c3, by omega, ?_⟩
        simp only [go_sem, ↓reduceIte, reduceCtorEq, Nat.reduceBEq, Nat.reduceEqDiff, Nat.reduceLT, Nat.reduceLeDiff, Nat.reduceAdd, Nat.reduceMul, Nat.reducePow, Nat.reduceSub, Int.reduceEq, Int.reduceLT, Int.reduceLE, Int.reduceToNat, Int.reduceMul, f0, f4, g4, f5, f6, g6, g18, f21, f22, r0, r1, r2, r3, app_nats]
        have k3 : joinOf N a i = [] := by unfold joinOf; rw [if_pos k2, hs]
        rw [s0, s2, s3, k3, List.append_nil, if_neg (by rw [k0]; simp), if_pos k2, List.append_nil]
        simp only [sK, k1, Bool.false_eq_true, if_false, List.append_nil]
        exact ⟨h0, h1, .inl rfl, h3⟩
      by_cases v3 : a.args.length = 2
      case neg =>
        have v3' : ((a.args.length : Int) == 2) = false := by rw [beq_eq_false_iff_ne]; omega
        have hs : sides a = none := by simp [sides, v3]
        repeat (first | refine dwp_seq ?_ | (refine dwp_region ?_; simp only [go_sem, ↓reduceIte, reduceCtorEq, Nat.reduceBEq, Nat.reduceEqDiff, Nat.reduceLT, Nat.reduceLeDiff, Nat.reduceAdd, Nat.reduceMul, Nat.reducePow, Nat.reduceSub, Int.reduceEq, Int.reduceLT, Int.reduceLE, Int.reduceToNat, Int.reduceMul, f0, f4, g4, f5, f6, g6, g18, f21, f22, h, ga, hc, q0', q1', v1, v2, v3', n2, t2, r0, r1, r2, r3, hr, hw, app_nats]) | (refine dwp_any ?_; simp only [go_sem, ↓reduceIte, reduceCtorEq, Nat.reduceBEq, Nat.reduceEqDiff, Nat.reduceLT, Nat.reduceLeDiff, Nat.reduceAdd, Nat.reduceMul, Nat.reducePow, Nat.reduceSub, Int.reduceEq, Int.reduceLT, Int.reduceLE, Int.reduceToNat, Int.reduceMul, f0, f4, g4, f5, f6, g6, g18, f21, f22, h, ga, hc, q0', q1', v1, v2, v3', n2, t2, r0, r1, r2, r3, hr, hw, app_nats]; refine ⟨by kernel_rfl, ?_⟩) | (refine dwp_skip ?_; simp only [go_sem, ↓reduceIte, reduceCtorEq, Nat.reduceBEq, Nat.reduceEqDiff, Nat.reduceLT, Nat.reduceLeDiff, Nat.reduceAdd, Nat.reduceMul, Nat.reducePow, Nat.reduceSub, Int.reduceEq, Int.reduceLT, Int.reduceLE, Int.reduceToNat, Int.reduceMul, f0, f4, g4, f5, f6, g6, g18, f21, f22, h, ga, hc, q0', q1', v1, v2, v3', n2, t2, r0, r1, r2, r3, hr, hw, app_nats]) | (refine dwp_exit ?_; simp only [go_sem, ↓reduceIte, reduceCtorEq, Nat.reduceBEq, Nat.reduceEqDiff, Nat.reduceLT, Nat.reduceLeDiff, Nat.reduceAdd, Nat.reduceMul, Nat.reducePow, Nat.reduceSub, Int.reduceEq, Int.reduceLT, Int.reduceLE, Int.reduceToNat, Int.reduceMul, f0, f4, g4, f5, f6, g6, g18, f21, f22, h, ga, hc, q0', q1', v1, v2, v3', n2, t2, r0, r1, r2, r3, hr, hw, app_nats]) | (refine dwp_ret ?_; simp only [go_sem, ↓reduceIte, reduceCtorEq, Nat.reduceBEq, Nat.reduceEqDiff, Nat.reduceLT, Nat.reduceLeDiff, Nat.reduceAdd, Nat.reduceMul, Nat.reducePow, Nat.reduceSub, Int.reduceEq, Int.reduceLT, Int.reduceLE, Int.reduceToNat, Int.reduceMul, f0, f4, g4, f5, f6, g6, g18, f21, f22, h, ga, hc, q0', q1', v1, v2, v3', n2, t2, r0, r1, r2, r3, hr, hw, app_nats]) | (refine dwp_if ?_; simp only [go_sem, ↓reduceIte, reduceCtorEq, Nat.reduceBEq, Nat.reduceEqDiff, Nat.reduceLT, Nat.reduceLeDiff, Nat.reduceAdd, Nat.reduceMul, Nat.reducePow, Nat.reduceSub, Int.reduceEq, Int.reduceLT, Int.reduceLE, Int.reduceToNat, Int.reduceMul, f0, f4, g4, f5, f6, g6, g18, f21, f22, h, ga, hc, q0', q1', v1, v2, v3', n2, t2, r0, r1, r2, r3, hr, hw, app_nats]) | refine dwp_block ?_)
        refine ih (n - 1) _ _ (by omega) ⟨i + 1, c0, cs, .own 3 1 (nats (idxs (cMany N) (l.take i) ++ [i])), c3, by omega, ?_⟩
        simp only [go_sem, ↓reduceIte, reduceCtorEq, Nat.reduceBEq, Nat.reduceEqDiff, Nat.reduceLT, Nat.reduceLeDiff, Nat.reduceAdd, Nat.reduceMul, Nat.reducePow, Nat.reduceSub, Int.reduceEq, Int.reduceLT, Int.reduceLE, Int.reduceToNat, Int.reduceMul, f0, f4, g4, f5, f6, g6, g18, f21, f22, r0, r1, r2, r3, app_nats]
        have k3 : joinOf N a i = [] := by unfold joinOf; rw [if_pos k2, hs]
        rw [s0, s2, s3, k3, List.append_nil, if_neg (by rw [k0]; simp), if_pos k2, List.append_nil]
        simp only [sK, k1, Bool.false_eq_true, if_false, List.append_nil]
        exact ⟨h0, h1, .inl rfl, h3⟩
      have v3' : ((a.args.length : Int) == 2) = true := by rw [beq_iff_eq]; omega
      have v3a : (0 : Int) < (a.args.length : Int) := by omega
      have v3b : (1 : Int) < (a.args.length : Int) := by omega
      have gx : a.args[0]? = some a.args[0] := List.getElem?_eq_getElem (by omega)
      have gy : a.args[1]? = some a.args[1] := List.getElem?_eq_getElem (by omega)
      generalize a.args[0] = x at gx
      generalize a.args[1] = y at gy
      cases v4 : (x.kind == 2)
      case false =>
        have hs : sides a = none := by
          unfold sides
          split
          · simp only [gx, gy, v4, Bool.false_eq_true, false_and, if_false]
          · rfl
        repeat (first | refine dwp_seq ?_ | (refine dwp_region ?_; simp only [go_sem, ↓reduceIte, reduceCtorEq, Nat.reduceBEq, Nat.reduceEqDiff, Nat.reduceLT, Nat.reduceLeDiff, Nat.reduceAdd, Nat.reduceMul, Nat.reducePow, Nat.reduceSub, Int.reduceEq, Int.reduceLT, Int.reduceLE, Int.reduceToNat, Int.reduceMul, f0, f4, g4, f5, f6, g6, g18, f21, f22, h, ga, hc, q0', q1', v1, v2, v3', v3a, v3b, gx, gy, v4, n2, t2, r0, r1, r2, r3, hr, hw, app_nats]) | (refine dwp_any ?_; simp only [go_sem, ↓reduceIte, reduceCtorEq, Nat.reduceBEq, Nat.reduceEqDiff, Nat.reduceLT, Nat.reduceLeDiff, Nat.reduceAdd, Nat.reduceMul, Nat.reducePow, Nat.reduceSub, Int.reduceEq, Int.reduceLT, Int.reduceLE, Int.reduceToNat, Int.reduceMul, f0, f4, g4, f5, f6, g6, g18, f21, f22, h, ga, hc, q0', q1', v1, v2, v3', v3a, v3b, gx, gy, v4, n2, t2, r0, r1, r2, r3, hr, hw, app_nats]; refine ⟨by kernel_rfl, ?_⟩) | (refine dwp_skip ?_; simp only [go_sem, ↓reduceIte, reduceCtorEq, Nat.reduceBEq, Nat.reduceEqDiff, Nat.reduceLT, Nat.reduceLeDiff, Nat.reduceAdd, Nat.reduceMul, Nat.reducePow, Nat.reduceSub, Int.reduceEq, Int.reduceLT, Int.reduceLE, Int.reduceToNat, Int.reduceMul, f0, f4, g4, f5, f6, g6, g18, f21, f22, h, ga, hc, q0', q1', v1, v2, v3', v3a, v3b, gx, gy, v4, n2, t2, r0, r1, r2, r3, hr, hw, app_nats]) | (refine dwp_exit ?_; simp only [go_sem, ↓reduceIte, reduceCtorEq, Nat.reduceBEq, Nat.reduceEqDiff, Nat.reduceLT, Nat.reduceLeDiff, Nat.reduceAdd, Nat.reduceMul, Nat.reducePow, Nat.reduceSub, Int.reduceEq, Int.reduceLT, Int.reduceLE, Int.reduceToNat, Int.reduceMul, f0, f4, g4, f5, f6, g6, g18, f21, f22, h, ga, hc, q0', q1', v1, v2, v3', v3a, v3b, gx, gy, v4, n2, t2, r0, r1, r2, r3, hr, hw, app_nats]) | (refine dwp_ret ?_; simp only [go_sem, ↓reduceIte, reduceCtorEq, Nat.reduceBEq, Nat.reduceEqDiff, Nat.reduceLT, Nat.reduceLeDiff, Nat.reduceAdd, Nat.reduceMul, Nat.reducePow, Nat.reduceSub, Int.reduceEq, Int.reduceLT, Int.reduceLE, Int.reduceToNat, Int.reduceMul, f0, f4, g4, f5, f6, g6, g18, f21, f22, h, ga, hc, q0', q1', v1, v2, v3', v3a, v3b, gx, gy, v4, n2, t2, r0, r1, r2, r3, hr, hw, app_nats]) | (refine dwp_if ?_; simp only [go_sem, ↓reduceIte, reduceCtorEq, Nat.reduceBEq, Nat.reduceEqDiff, Nat.reduceLT, Nat.reduceLeDiff, Nat.reduceAdd, Nat.reduceMul, Nat.reducePow, Nat.reduceSub, Int.reduceEq, Int.reduceLT, Int.reduceLE, Int.reduceToNat, Int.reduceMul, f0, f4, g4, f5, f6, g6, g18, f21, f22, h, ga, hc, q0', q1', v1, v2, v3', v3a, v3b, gx, gy, v4, n2, t2, r0, r1, r2, r3, hr, hw, app_nats]) | refine dwp_block ?_)
        refine ih (n - 1) _ _ (by omega) ⟨i + 1, c0, cs, .own 3 1 (nats (idxs (cMany N) (l.take i) ++ [i])), c3, by omega, ?_⟩
        simp only [go_sem, ↓reduceIte, reduceCtorEq, Nat.reduceBEq, Nat.reduceEqDiff, Nat.reduceLT, Nat.reduceLeDiff, Nat.reduceAdd, Nat.reduceMul, Nat.reducePow, Nat.reduceSub, Int.reduceEq, Int.reduceLT, Int.reduceLE, Int.reduceToNat, Int.reduceMul, f0, f4, g4, f5, f6, g6, g18, f21, f22, r0, r1, r2, r3, app_nats]
        have k3 : joinOf N a i = [] := by unfold joinOf; rw [if_pos k2, hs]
        rw [s0, s2, s3, k3, List.append_nil, if_neg (by rw [k0]; simp), if_pos k2, List.append_nil]
        simp only [sK, k1, Bool.false_eq_true, if_false, List.append_nil]
        exact ⟨h0, h1, .inl rfl, h3⟩
      cases v5 : (y.kind == 2)
      case false =>
        have hs : sides a = none := by
          unfold sides
          split
          · simp only [gx, gy, v5, Bool.false_eq_true, and_false, if_false]
          · rfl
        repeat (first | refine dwp_seq ?_ | (refine dwp_region ?_; simp only [go_sem, ↓reduceIte, reduceCtorEq, Nat.reduceBEq, Nat.reduceEqDiff, Nat.reduceLT, Nat.reduceLeDiff, Nat.reduceAdd, Nat.reduceMul, Nat.reducePow, Nat.reduceSub, Int.reduceEq, Int.reduceLT, Int.reduceLE, Int.reduceToNat, Int.reduceMul, f0, f4, g4, f5, f6, g6, g18, f21, f22, h, ga, hc, q0', q1', v1, v2, v3', v3a, v3b, gx, gy, v4, v5, n2, t2, r0, r1, r2, r3, hr, hw, app_nats]) | (refine dwp_any ?_; simp only [go_sem, ↓reduceIte, reduceCtorEq, Nat.reduceBEq, Nat.reduceEqDiff, Nat.reduceLT, Nat.reduceLeDiff, Nat.reduceAdd, Nat.reduceMul, Nat.reducePow, Nat.reduceSub, Int.reduceEq, Int.reduceLT, Int.reduceLE, Int.reduceToNat, Int.reduceMul, f0, f4, g4, f5, f6, g6, g18, f21, f22, h, ga, hc, q0', q1', v1, v2, v3', v3a, v3b, gx, gy, v4, v5, n2, t2, r0, r1, r2, r3, hr, hw, app_nats]; refine ⟨by kernel_rfl, ?_⟩) | (refine dwp_skip ?_; simp only [go_sem, ↓reduceIte, reduceCtorEq, Nat.reduceBEq, Nat.reduceEqDiff, Nat.reduceLT, Nat.reduceLeDiff, Nat.reduceAdd, Nat.reduceMul, Nat.reducePow, Nat.reduceSub, Int.reduceEq, Int.reduceLT, Int.reduceLE, Int.reduceToNat, Int.reduceMul, f0, f4, g4, f5, f6, g6, g18, f21, f22, h, ga, hc, q0', q1', v1, v2, v3', v3a, v3b, gx, gy, v4, v5, n2, t2, r0, r1, r2, r3, hr, hw, app_nats]) | (refine dwp_exit ?_; simp only [go_sem, ↓reduceIte, reduceCtorEq, Nat.reduceBEq, Nat.reduceEqDiff, Nat.reduceLT, Nat.reduceLeDiff, Nat.reduceAdd, Nat.reduceMul, Nat.reducePow, Nat.reduceSub, Int.reduceEq, Int.reduceLT, Int.reduceLE, Int.reduceToNat, Int.reduceMul, f0, f4, g4, f5, f6, g6, g18, f21, f22, h, ga, hc, q0', q1', v1, v2, v3', v3a, v3b, gx, gy, v4, v5, n2, t2, r0, r1, r2, r3, hr, hw, app_nats]) | (refine dwp_ret ?_; simp only [go_sem, ↓reduceIte, reduceCtorEq, Nat.reduceBEq, Nat.reduceEqDiff, Nat.reduceLT, Nat.reduceLeDiff, Nat.reduceAdd, Nat.reduceMul, Nat.reducePow, Nat.reduceSub, Int.reduceEq, Int.reduceLT, Int.reduceLE, Int.reduceToNat, Int.reduceMul, f0, f4, g4, f5, f6, g6, g18, f21, f22, h, ga, hc, q0', q1', v1, v2, v3', v3a, v3b, gx, gy, v4, v5, n2, t2, r0, r1, r2, r3, hr, hw, app_nats]) | (refine dwp_if ?_; simp only [go_sem, ↓reduceIte, reduceCtorEq, Nat.reduceBEq, Nat.reduceEqDiff, Nat.reduceLT, Nat.reduceLeDiff, Nat.reduceAdd, Nat.reduceMul, Nat.reducePow, Nat.reduceSub, Int.reduceEq, Int.reduceLT, Int.reduceLE, Int.reduceToNat, Int.reduceMul, f0, f4, g4, f5, f6, g6, g18, f21, f22, h, ga, hc, q0', q1', v1, v2, v3', v3a, v3b, gx, gy, v4, v5, n2, t2, r0, r1, r2, r3, hr, hw, app_nats]) | refine dwp_block ?_)
        refine ih (n - 1) _ _ (by omega) ⟨i + 1, c0, cs, .own 3 1 (nats (idxs (cMany N) (l.take i) ++ [i])), c3, by omega, ?_⟩
        simp only [go_sem, ↓reduceIte, reduceCtorEq, Nat.reduceBEq, Nat.reduceEqDiff, Nat.reduceLT, Nat.reduceLeDiff, Nat.reduceAdd, Nat.reduceMul, Nat.reducePow, Nat.reduceSub, Int.reduceEq, Int.reduceLT, Int.reduceLE, Int.reduceToNat, Int.reduceMul, f0, f4, g4, f5, f6, g6, g18, f21, f22, r0, r1, r2, r3, app_nats]
        have k3 : joinOf N a i = [] := by unfold joinOf; rw [if_pos k2, hs]
        rw [s0, s2, s3, k3, List.append_nil, if_neg (by rw [k0]; simp), if_pos k2, List.append_nil]
        simp only [sK, k1, Bool.false_eq_true, if_false, List.append_nil]
        exact ⟨h0, h1, .inl rfl, h3⟩
      have hs : sides a = some (x, y) := by
        simp only [sides, v1, v3, gx, gy, v4, v5, and_self, if_true, true_and, and_true]
        rw [if_pos (show (a.op.toList == eqS.toList) = true from v2)]
      have hxy := sides_ne k2 hs
      by_cases hlt : x.tb < y.tb
      · repeat (first | refine dwp_seq ?_ | (refine dwp_region ?_; simp only [go_sem, ↓reduceIte, reduceCtorEq, Nat.reduceBEq, Nat.reduceEqDiff, Nat.reduceLT, Nat.reduceLeDiff, Nat.reduceAdd, Nat.reduceMul, Nat.reducePow, Nat.reduceSub, Int.reduceEq, Int.reduceLT, Int.reduceLE, Int.reduceToNat, Int.reduceMul, f0, f4, g4, f5, f6, g6, g18, f21, f22, h, ga, hc, q0', q1', v1, v2, v3', v3a, v3b, gx, gy, v4, v5, hlt, n2, t2, n3, t3, o3, r0, r1, r2, r3, hr, hr3, hw, jcells, app_nats]) | (refine dwp_any ?_; simp only [go_sem, ↓reduceIte, reduceCtorEq, Nat.reduceBEq, Nat.reduceEqDiff, Nat.reduceLT, Nat.reduceLeDiff, Nat.reduceAdd, Nat.reduceMul, Nat.reducePow, Nat.reduceSub, Int.reduceEq, Int.reduceLT, Int.reduceLE, Int.reduceToNat, Int.reduceMul, f0, f4, g4, f5, f6, g6, g18, f21, f22, h, ga, hc, q0', q1', v1, v2, v3', v3a, v3b, gx, gy, v4, v5, hlt, n2, t2, n3, t3, o3, r0, r1, r2, r3, hr, hr3, hw, jcells, app_nats]; refine ⟨by kernel_rfl, ?_⟩) | (refine dwp_skip ?_; simp only [go_sem, ↓reduceIte, reduceCtorEq, Nat.reduceBEq, Nat.reduceEqDiff, Nat.reduceLT, Nat.reduceLeDiff, Nat.reduceAdd, Nat.reduceMul, Nat.reducePow, Nat.reduceSub, Int.reduceEq, Int.reduceLT, Int.reduceLE, Int.reduceToNat, Int.reduceMul, f0, f4, g4, f5, f6, g6, g18, f21, f22, h, ga, hc, q0', q1', v1, v2, v3', v3a, v3b, gx, gy, v4, v5, hlt, n2, t2, n3, t3, o3, r0, r1, r2, r3, hr, hr3, hw, jcells, app_nats]) | (refine dwp_exit ?_; simp only [go_sem, ↓reduceIte, reduceCtorEq, Nat.reduceBEq, Nat.reduceEqDiff, Nat.reduceLT, Nat.reduceLeDiff, Nat.reduceAdd, Nat.reduceMul, Nat.reducePow, Nat.reduceSub, Int.reduceEq, Int.reduceLT, Int.reduceLE, Int.reduceToNat, Int.reduceMul, f0, f4, g4, f5, f6, g6, g18, f21, f22, h, ga, hc, q0', q1', v1, v2, v3', v3a, v3b, gx, gy, v4, v5, hlt, n2, t2, n3, t3, o3, r0, r1, r2, r3, hr, hr3, hw, jcells, app_nats]) | (refine dwp_ret ?_; simp only [go_sem, ↓reduceIte, reduceCtorEq, Nat.reduceBEq, Nat.reduceEqDiff, Nat.reduceLT, Nat.reduceLeDiff, Nat.reduceAdd, Nat.reduceMul, Nat.reducePow, Nat.reduceSub, Int.reduceEq, Int.reduceLT, Int.reduceLE, Int.reduceToNat, Int.reduceMul, f0, f4, g4, f5, f6, g6, g18, f21, f22, h, ga, hc, q0', q1', v1, v2, v3', v3a, v3b, gx, gy, v4, v5, hlt, n2, t2, n3, t3, o3, r0, r1, r2, r3, hr, hr3, hw, jcells, app_nats]) | (refine dwp_if ?_; simp only [go_sem, ↓reduceIte, reduceCtorEq, Nat.reduceBEq, Nat.reduceEqDiff, Nat.reduceLT, Nat.reduceLeDiff, Nat.reduceAdd, Nat.reduceMul, Nat.reducePow, Nat.reduceSub, Int.reduceEq, Int.reduceLT, Int.reduceLE, Int.reduceToNat, Int.reduceMul, f0, f4, g4, f5, f6, g6, g18, f21, f22, h, ga, hc, q0', q1', v1, v2, v3', v3a, v3b, gx, gy, v4, v5, hlt, n2, t2, n3, t3, o3, r0, r1, r2, r3, hr, hr3, hw, jcells, app_nats]) | refine dwp_block ?_)
        refine ih (n - 1) _ _ (by omega) ⟨i + 1, c0, cs, .own 3 1 (nats (idxs (cMany N) (l.take i) ++ [i])), .own 47 5 (joinsOf N (l.take i) 0 ++ [jcells i x.tb y.tb x.co y.co]), by omega, ?_⟩
        simp only [go_sem, ↓reduceIte, reduceCtorEq, Nat.reduceBEq, Nat.reduceEqDiff, Nat.reduceLT, Nat.reduceLeDiff, Nat.reduceAdd, Nat.reduceMul, Nat.reducePow, Nat.reduceSub, Int.reduceEq, Int.reduceLT, Int.reduceLE, Int.reduceToNat, Int.reduceMul, f0, f4, g4, f5, f6, g6, g18, f21, f22, r0, r1, r2, r3, app_nats, jcells]
        have k3 : joinOf N a i = [jcells i x.tb y.tb x.co y.co] := by
          unfold joinOf
          rw [if_pos k2, hs]
          simp only [if_neg (show ¬ y.tb < x.tb by omega), if_pos (show (x.tb != y.tb) = true by rw [bne_iff_ne]; exact hxy)]
        rw [s0, s2, s3, k3, if_neg (by rw [k0]; simp), if_pos k2, List.append_nil]
        simp only [sK, k1, Bool.false_eq_true, if_false, List.append_nil]
        exact ⟨h0, h1, .inl rfl, .inl rfl⟩
      · repeat (first | refine dwp_seq ?_ | (refine dwp_region ?_; simp only [go_sem, ↓reduceIte, reduceCtorEq, Nat.reduceBEq, Nat.reduceEqDiff, Nat.reduceLT, Nat.reduceLeDiff, Nat.reduceAdd, Nat.reduceMul, Nat.reducePow, Nat.reduceSub, Int.reduceEq, Int.reduceLT, Int.reduceLE, Int.reduceToNat, Int.reduceMul, f0, f4, g4, f5, f6, g6, g18, f21, f22, h, ga, hc, q0', q1', v1, v2, v3', v3a, v3b, gx, gy, v4, v5, hlt, n2, t2, n3, t3, o3, r0, r1, r2, r3, hr, hr3, hw, jcells, app_nats]) | (refine dwp_any ?_; simp only [go_sem, ↓reduceIte, reduceCtorEq, Nat.reduceBEq, Nat.reduceEqDiff, Nat.reduceLT, Nat.reduceLeDiff, Nat.reduceAdd, Nat.reduceMul, Nat.reducePow, Nat.reduceSub, Int.reduceEq, Int.reduceLT, Int.reduceLE, Int.reduceToNat, Int.reduceMul, f0, f4, g4, f5, f6, g6, g18, f21, f22, h, ga, hc, q0', q1', v1, v2, v3', v3a, v3b, gx, gy, v4, v5, hlt, n2, t2, n3, t3, o3, r0, r1, r2, r3, hr, hr3, hw, jcells, app_nats]; refine ⟨by kernel_rfl, ?_⟩) | (refine dwp_skip ?_; simp only [go_sem, ↓reduceIte, reduceCtorEq, Nat.reduceBEq, Nat.reduceEqDiff, Nat.reduceLT, Nat.reduceLeDiff, Nat.reduceAdd, Nat.reduceMul, Nat.reducePow, Nat.reduceSub, Int.reduceEq, Int.reduceLT, Int.reduceLE, Int.reduceToNat, Int.reduceMul, f0, f4, g4, f5, f6, g6, g18, f21, f22, h, ga, hc, q0', q1', v1, v2, v3', v3a, v3b, gx, gy, v4, v5, hlt, n2, t2, n3, t3, o3, r0, r1, r2, r3, hr, hr3, hw, jcells, app_nats]) | (refine dwp_exit ?_; simp only [go_sem, ↓reduceIte, reduceCtorEq, Nat.reduceBEq, Nat.reduceEqDiff, Nat.reduceLT, Nat.reduceLeDiff, Nat.reduceAdd, Nat.reduceMul, Nat.reducePow, Nat.reduceSub, Int.reduceEq, Int.reduceLT, Int.reduceLE, Int.reduceToNat, Int.reduceMul, f0, f4, g4, f5, f6, g6, g18, f21, f22, h, ga, hc, q0', q1', v1, v2, v3', v3a, v3b, gx, gy, v4, v5, hlt, n2, t2, n3, t3, o3, r0, r1, r2, r3, hr, hr3, hw, jcells, app_nats]) | (refine dwp_ret ?_; simp only [go_sem, ↓reduceIte, reduceCtorEq, Nat.reduceBEq, Nat.reduceEqDiff, Nat.reduceLT, Nat.reduceLeDiff, Nat.reduceAdd, Nat.reduceMul, Nat.reducePow, Nat.reduceSub, Int.reduceEq, Int.reduceLT, Int.reduceLE, Int.reduceToNat, Int.reduceMul, f0, f4, g4, f5, f6, g6, g18, f21, f22, h, ga, hc, q0', q1', v1, v2, v3', v3a, v3b, gx, gy, v4, v5, hlt, n2, t2, n3, t3, o3, r0, r1, r2, r3, hr, hr3, hw, jcells, app_nats]) | (refine dwp_if ?_; simp only [go_sem, ↓reduceIte, reduceCtorEq, Nat.reduceBEq, Nat.reduceEqDiff, Nat.reduceLT, Nat.reduceLeDiff, Nat.reduceAdd, Nat.reduceMul, Nat.reducePow, Nat.reduceSub, Int.reduceEq, Int.reduceLT, Int.reduceLE, Int.reduceToNat, Int.reduceMul, f0, f4, g4, f5, f6, g6, g18, f21, f22, h, ga, hc, q0', q1', v1, v2, v3', v3a, v3b, gx, gy, v4, v5, hlt, n2, t2, n3, t3, o3, r0, r1, r2, r3, hr, hr3, hw, jcells, app_nats]) | refine dwp_block ?_)
        refine ih (n - 1) _ _ (by omega) ⟨i + 1, c0, cs, .own 3 1 (nats (idxs (cMany N) (l.take i) ++ [i])), .own 47 5 (joinsOf N (l.take i) 0 ++ [jcells i y.tb x.tb y.co x.co]), by omega, ?_⟩
        simp only [go_sem, ↓reduceIte, reduceCtorEq, Nat.reduceBEq, Nat.reduceEqDiff, Nat.reduceLT, Nat.reduceLeDiff, Nat.reduceAdd, Nat.reduceMul, Nat.reducePow, Nat.reduceSub, Int.reduceEq, Int.reduceLT, Int.reduceLE, Int.reduceToNat, Int.reduceMul, f0, f4, g4, f5, f6, g6, g18, f21, f22, r0, r1, r2, r3, app_nats, jcells]
        have k3 : joinOf N a i = [jcells i y.tb x.tb y.co x.co] := by
          unfold joinOf
          rw [if_pos k2, hs]
          simp only [if_pos (show y.tb < x.tb by omega)]
        rw [s0, s2, s3, k3, if_neg (by rw [k0]; simp), if_pos k2, List.append_nil]
        simp only [sK, k1, Bool.false_eq_true, if_false, List.append_nil]
        exact ⟨h0, h1, .inl rfl, .inl rfl⟩
    · have hil : i = l.length := by omega
      rw [hil, List.take_length] at h0 h1 h2 h3
      have r0 := h0.refl
      have r1 := h1.refl
      have r2 := h2.refl
      have r3 := h3.refl
      have hcd : (cs.map strip).all data = true := by
        rw [List.all_map, List.all_eq_true]
        intro d hd
        obtain ⟨k, hk⟩ := List.getElem?_of_mem hd
        rcases h1.2 k d hk with rfl | ⟨rfl, _⟩ <;> rfl
      have hcl' : N ≤ cs.length := Nat.le_of_eq h1.1.symm
      have h0' := h0
      have h2' := h2
      have h3' := h3
      rcases h0 with rfl | ⟨rfl, e0⟩ <;> rcases h2 with rfl | ⟨rfl, e2⟩ <;> rcases h3 with rfl | ⟨rfl, e3⟩
      all_goals
        repeat (first | refine dwp_seq ?_ | (refine dwp_region ?_; simp only [go_sem, ↓reduceIte, reduceCtorEq, Nat.reduceBEq, Nat.reduceEqDiff, Nat.reduceLT, Nat.reduceLeDiff, Nat.reduceAdd, Nat.reduceMul, Nat.reducePow, Nat.reduceSub, Int.reduceEq, Int.reduceLT, Int.reduceLE, Int.reduceToNat, Int.reduceMul, f0, f4, g4, f5, f6, g6, g18, f21, f22, h, r1, hcd, hcl']) | (refine dwp_any ?_; simp only [go_sem, ↓reduceIte, reduceCtorEq, Nat.reduceBEq, Nat.reduceEqDiff, Nat.reduceLT, Nat.reduceLeDiff, Nat.reduceAdd, Nat.reduceMul, Nat.reducePow, Nat.reduceSub, Int.reduceEq, Int.reduceLT, Int.reduceLE, Int.reduceToNat, Int.reduceMul, f0, f4, g4, f5, f6, g6, g18, f21, f22, h, r1, hcd, hcl']; refine ⟨by kernel_rfl, ?_⟩) | (refine dwp_skip ?_; simp only [go_sem, ↓reduceIte, reduceCtorEq, Nat.reduceBEq, Nat.reduceEqDiff, Nat.reduceLT, Nat.reduceLeDiff, Nat.reduceAdd, Nat.reduceMul, Nat.reducePow, Nat.reduceSub, Int.reduceEq, Int.reduceLT, Int.reduceLE, Int.reduceToNat, Int.reduceMul, f0, f4, g4, f5, f6, g6, g18, f21, f22, h, r1, hcd, hcl']) | (refine dwp_exit ?_; simp only [go_sem, ↓reduceIte, reduceCtorEq, Nat.reduceBEq, Nat.reduceEqDiff, Nat.reduceLT, Nat.reduceLeDiff, Nat.reduceAdd, Nat.reduceMul, Nat.reducePow, Nat.reduceSub, Int.reduceEq, Int.reduceLT, Int.reduceLE, Int.reduceToNat, Int.reduceMul, f0, f4, g4, f5, f6, g6, g18, f21, f22, h, r1, hcd, hcl']) | (refine dwp_ret ?_; simp only [go_sem, ↓reduceIte, reduceCtorEq, Nat.reduceBEq, Nat.reduceEqDiff, Nat.reduceLT, Nat.reduceLeDiff, Nat.reduceAdd, Nat.reduceMul, Nat.reducePow, Nat.reduceSub, Int.reduceEq, Int.reduceLT, Int.reduceLE, Int.reduceToNat, Int.reduceMul, f0, f4, g4, f5, f6, g6, g18, f21, f22, h, r1, hcd, hcl']) | (refine dwp_if ?_; simp only [go_sem, ↓reduceIte, reduceCtorEq, Nat.reduceBEq, Nat.reduceEqDiff, Nat.reduceLT, Nat.reduceLeDiff, Nat.reduceAdd, Nat.reduceMul, Nat.reducePow, Nat.reduceSub, Int.reduceEq, Int.reduceLT, Int.reduceLE, Int.reduceToNat, Int.reduceMul, f0, f4, g4, f5, f6, g6, g18, f21, f22, h, r1, hcd, hcl']) | refine dwp_block ?_)
        exact ⟨_, cs, _, _, rfl, h0', h1, h2', h3'⟩
  exact ⟨c0, cs, c2, c3, hr, h0, h1, h2, h3⟩
end Go.Proofs.YtneihjdkaogkiaaDoor
