/- What the program's functions make of data: split.Split. -/
import Derived.Test.YtneihjdkaogkiaaDoorFk
namespace Go.Proofs.YtneihjdkaogkiaaDoor
open Go Go.Eng Go.Proofs
set_option linter.unusedVariables false
set_option linter.unusedSimpArgs false
set_option maxRecDepth 100000
set_option maxHeartbeats 4000000

theorem CN.norm {c : D} {L : List Nat} (h : CN c L) : Eng.norm Tryd.prog 25 c = .own 3 1 (nats L) := by
  rcases h with rfl | ⟨rfl, rfl⟩
  · rfl
  · exact norm_nil ap25
theorem CN.tops {c : D} {L : List Nat} (h : CN c L) : D.tops c = true := by rcases h with rfl | ⟨rfl, rfl⟩ <;> rfl
theorem CN.one {c : D} {L : List Nat} (h : CN c L) : Eng.one c = true := by rcases h with rfl | ⟨rfl, rfl⟩ <;> rfl
theorem CN.one' {c : D} {L : List Nat} (h : CN c L) : Eng.one (strip c) = true := by rcases h with rfl | ⟨rfl, rfl⟩ <;> rfl
theorem CN.refl {c : D} {L : List Nat} (h : CN c L) (l : List Tmp) : Eng.refl l c = false := by rcases h with rfl | ⟨rfl, rfl⟩ <;> rfl
theorem CN.refl' {c : D} {L : List Nat} (h : CN c L) (l : List Tmp) : Eng.refl l (strip c) = false := by rcases h with rfl | ⟨rfl, rfl⟩ <;> rfl
theorem CJ.norm {c : D} {J : List (List D)} (h : CJ c J) : Eng.norm Tryd.prog 27 c = .own 47 5 J := by
  rcases h with rfl | ⟨rfl, rfl⟩
  · rfl
  · exact norm_nil ap27
theorem CJ.tops {c : D} {J : List (List D)} (h : CJ c J) : D.tops c = true := by rcases h with rfl | ⟨rfl, rfl⟩ <;> rfl
theorem CJ.one {c : D} {J : List (List D)} (h : CJ c J) : Eng.one c = true := by rcases h with rfl | ⟨rfl, rfl⟩ <;> rfl
theorem CJ.refl {c : D} {J : List (List D)} (h : CJ c J) (l : List Tmp) : Eng.refl l c = false := by rcases h with rfl | ⟨rfl, rfl⟩ <;> rfl
/-- the rows of each table -/
def CS (N : Nat) (cs : List D) (L : Nat → List Nat) : Prop := cs.length = N ∧ ∀ k c, cs[k]? = some c → CN c (L k)
theorem CS.refl {N : Nat} {cs : List D} {L : Nat → List Nat} (h : CS N cs L) (l : List Tmp) : anyc l cs = false := by
  unfold anyc
  rw [List.any_eq_false]
  intro d hd
  obtain ⟨k, hk⟩ := List.getElem?_of_mem hd
  simp [(h.2 k d hk).refl l]
theorem CS.set {N : Nat} {cs : List D} {L L' : Nat → List Nat} (h : CS N cs L) (k : Nat) (x : D) (hx : CN x (L' k)) (ho : ∀ j, j ≠ k → L' j = L j) : CS N (cs.set k x) L' := by
  refine ⟨by rw [List.length_set]; exact h.1, fun j c hj => ?_⟩
  rw [List.getElem?_set] at hj
  by_cases e : k = j
  · subst e
    rw [if_pos rfl] at hj
    split at hj
    · simp only [Option.some.injEq] at hj
      subst hj
      exact hx
    · cases hj
  · rw [if_neg e] at hj
    rw [ho j (fun h => e h.symm)]
    exact h.2 j c hj
theorem strip_get (cs : List D) (k j : Nat) (h : j ≠ k) : (stripAt cs k)[j]? = cs[j]? := by
  unfold stripAt
  rw [List.getElem?_modify]
  have : ¬ k = j := fun e => h e.symm
  cases cs[j]? <;> simp [this]
theorem setC_strip (cs : List D) (k : Nat) (x : D) (h : k < cs.length) : setCells (stripAt cs k) k [x] = cs.set k x := by
  refine List.ext_getElem? fun j => ?_
  unfold setCells
  rw [show k + [x].length = k + 1 from rfl, at3 (m := 1) (by rw [stripAt_len]; exact h) rfl, List.getElem?_set]
  by_cases h1 : j < k
  · rw [if_pos h1, if_neg (by omega), strip_get _ _ _ (by omega)]
  · rw [if_neg h1]
    by_cases h2 : j < k + 1
    · have : j = k := by omega
      subst this
      rw [if_pos h2, if_pos rfl, if_pos h]
      simp
    · rw [if_neg h2, if_neg (by omega), strip_get _ _ _ (by omega)]
theorem room_nats (l : List Term) (c : Term → Bool) (i : Nat) (hl : l.length ≤ 40) : room ((idxs c (l.take i)).length + 1) 8 = true := room_ok (by
  have := idxs_len c (l.take i)
  rw [List.length_take] at this
  omega) (by decide)
theorem split8 (l : List Term) (tables : Int) (hl : l.length ≤ 40) (hg : ∀ t ∈ l, great 20 t = false) :
    ∃ c0 cs c2 c3, FF 8 [.sl 11 (l.map tcells), .v (.int .i64 tables)] = some (.agg [strip c0, .sl 1 (chunks 1 (clampN tables) (cs.map strip)), strip c2, strip c3]) ∧
      CN c0 (idxs (cNone (clampN tables)) l) ∧ CS (clampN tables) cs (fun k => idxs (cK (clampN tables) k) l) ∧ CN c2 (idxs (cMany (clampN tables)) l) ∧ CJ c3 (joinsOf (clampN tables) l 0) := by
  have hall := all11 tables
  have halt := all_lt tables
  have hN := clampN_le tables
  generalize clampN tables = N at *
  have hpa := pop17 (2 ^ N - 1) halt
  rw [popc_all N (by omega)] at hpa
  have m1 : (N : Int) ≤ (maxLen : Int) := by unfold maxLen; omega
  have m2 : (N : Int) * ((24 : Nat) : Int) ≤ 140737488355328 := by omega
  have hz : CS N (List.replicate N (.v (.slice none 0 0))) (fun k => idxs (cK N k) (l.take 0)) := ⟨by simp, fun k c hc => .inr ⟨by
    rw [List.getElem?_replicate] at hc
    split at hc
    · simpa using hc.symm
    · (cases hc)
    , rfl⟩⟩
  have hza := hz.refl
  obtain ⟨r, hr, c0, cs, c2, c3, rfl, h0, h1, h2, h3⟩ : ∃ r, FF 8 [.sl 11 (l.map tcells), .v (.int .i64 tables)] = some r ∧ ∃ c0 cs c2 c3, r = .agg [strip c0, .sl 1 (chunks 1 N (cs.map strip)), strip c2, strip c3] ∧
      CN c0 (idxs (cNone N) l) ∧ CS N cs (fun k => idxs (cK N k) l) ∧ CN c2 (idxs (cMany N) l) ∧ CJ c3 (joinsOf N l 0) := by
    refine FF_ex Tryd.func8 rfl rfl rfl ?_
    simp only [Tryd.ntmps8, Tryd.results8]
    repeat (first | refine dwp_seq ?_ | (refine dwp_region ?_; simp only [go_sem, ↓reduceIte, reduceCtorEq, Nat.reduceBEq, Nat.reduceEqDiff, Nat.reduceLT, Nat.reduceLeDiff, Nat.reduceAdd, Nat.reduceMul, Nat.reducePow, Nat.reduceSub, Int.reduceEq, Int.reduceLT, Int.reduceLE, Int.reduceToNat, Int.reduceMul, hall, hpa, m1, m2, rep_flat, hza]) | (refine dwp_any ?_; simp only [go_sem, ↓reduceIte, reduceCtorEq, Nat.reduceBEq, Nat.reduceEqDiff, Nat.reduceLT, Nat.reduceLeDiff, Nat.reduceAdd, Nat.reduceMul, Nat.reducePow, Nat.reduceSub, Int.reduceEq, Int.reduceLT, Int.reduceLE, Int.reduceToNat, Int.reduceMul, hall, hpa, m1, m2, rep_flat, hza]; refine ⟨by kernel_rfl, ?_⟩) | (refine dwp_skip ?_; simp only [go_sem, ↓reduceIte, reduceCtorEq, Nat.reduceBEq, Nat.reduceEqDiff, Nat.reduceLT, Nat.reduceLeDiff, Nat.reduceAdd, Nat.reduceMul, Nat.reducePow, Nat.reduceSub, Int.reduceEq, Int.reduceLT, Int.reduceLE, Int.reduceToNat, Int.reduceMul, hall, hpa, m1, m2, rep_flat, hza]) | (refine dwp_exit ?_; simp only [go_sem, ↓reduceIte, reduceCtorEq, Nat.reduceBEq, Nat.reduceEqDiff, Nat.reduceLT, Nat.reduceLeDiff, Nat.reduceAdd, Nat.reduceMul, Nat.reducePow, Nat.reduceSub, Int.reduceEq, Int.reduceLT, Int.reduceLE, Int.reduceToNat, Int.reduceMul, hall, hpa, m1, m2, rep_flat, hza]) | (refine dwp_ret ?_; simp only [go_sem, ↓reduceIte, reduceCtorEq, Nat.reduceBEq, Nat.reduceEqDiff, Nat.reduceLT, Nat.reduceLeDiff, Nat.reduceAdd, Nat.reduceMul, Nat.reducePow, Nat.reduceSub, Int.reduceEq, Int.reduceLT, Int.reduceLE, Int.reduceToNat, Int.reduceMul, hall, hpa, m1, m2, rep_flat, hza]) | (refine dwp_if ?_; simp only [go_sem, ↓reduceIte, reduceCtorEq, Nat.reduceBEq, Nat.reduceEqDiff, Nat.reduceLT, Nat.reduceLeDiff, Nat.reduceAdd, Nat.reduceMul, Nat.reducePow, Nat.reduceSub, Int.reduceEq, Int.reduceLT, Int.reduceLE, Int.reduceToNat, Int.reduceMul, hall, hpa, m1, m2, rep_flat, hza]) | refine dwp_block ?_)
    refine dwp_ind (fun n f g => ∃ i c0 cs c2 c3, i + n = l.length ∧ f 4 = .bp 4 0 ∧ g 4 = some [.v (.slice none 0 0), .v (.slice none 0 0), .v (.slice none 0 0), .v (.slice none 0 0)] ∧ f 5 = .v (.int .u32 ((2 ^ N - 1 : Nat) : Int)) ∧ f 6 = .bp 6 0 ∧ g 6 = some [c0, .bs 17 0 1 N, c2, c3] ∧ g 17 = some cs ∧ f 19 = .sl 11 (l.map tcells) ∧ f 20 = .v (.int .i64 l.length) ∧ f 21 = .v (.int .i64 (i : Nat)) ∧
      CN c0 (idxs (cNone N) (l.take i)) ∧ CS N cs (fun k => idxs (cK N k) (l.take i)) ∧ CN c2 (idxs (cMany N) (l.take i)) ∧ CJ c3 (joinsOf N (l.take i) 0)) l.length ⟨0, .v (.slice none 0 0), List.replicate N (.v (.slice none 0 0)), .v (.slice none 0 0), .v (.slice none 0 0), by omega, ?_⟩ ?_
    · simp only [go_sem, ↓reduceIte, reduceCtorEq, Nat.reduceBEq, Nat.reduceEqDiff, Nat.reduceLT, Nat.reduceLeDiff, Nat.reduceAdd, Nat.reduceMul, Nat.reducePow, Nat.reduceSub, Int.reduceEq, Int.reduceLT, Int.reduceLE, Int.reduceToNat, Int.reduceMul, hza]
      exact ⟨rfl, .inr ⟨rfl, rfl⟩, hz, .inr ⟨rfl, rfl⟩, .inr ⟨rfl, rfl⟩⟩
    rintro n f g ⟨i, c0, cs, c2, c3, hi, f4, g4, f5, f6, g6, g17, f19, f20, f21, h0, h1, h2, h3⟩ ih
    by_cases h : (i : Int) < (l.length : Int)
    · have hi1 : i < l.length := by omega
      have ga : l[i]? = some l[i] := List.getElem?_eq_getElem hi1
      have hmem : l[i] ∈ l := List.getElem_mem hi1
      generalize l[i] = a at ga hmem
      have hc := uses18 a 20 (by omega) (hg a hmem)
      have e1 : ibit .and .u32 ((useBits (fields a) : Nat) : Int) ((2 ^ N - 1 : Nat) : Int) = ((bitsN a N : Nat) : Int) := ibit_and _ _ (useBits_lt _) halt
      have hp := pop17 (bitsN a N) (bitsN_lt a N)
      rw [popc_uses a N (by omega)] at hp
      have s0 := idxs_snoc (cNone N) l i a ga
      have s2 := idxs_snoc (cMany N) l i a ga
      have sK : ∀ k, idxs (cK N k) (l.take (i + 1)) = idxs (cK N k) (l.take i) ++ if cK N k a = true then [i] else [] := fun k => idxs_snoc (cK N k) l i a ga
      have s3 : joinsOf N (l.take (i + 1)) 0 = joinsOf N (l.take i) 0 ++ joinOf N a i := by
        rw [List.take_add_one, ga, Option.toList_some, joinsOf_snoc, Nat.zero_add, List.length_take, Nat.min_eq_left (Nat.le_of_lt hi1)]
      have r0 := h0.refl
      have r1 := h1.refl
      have r2 := h2.refl
      have r3 := h3.refl
      have hw := wrap_succ (show i + 1 < 2 ^ 63 by omega)
      by_cases q0 : (usesN a N).length = 0
      · have q0' : (((usesN a N).length : Int) == 0) = true := by rw [beq_iff_eq]; omega
        have n0 := h0.norm
        have t0 := h0.tops
        have o0 := h0.one
        have hr := room_nats l (cNone N) i hl
        repeat (first | refine dwp_seq ?_ | (refine dwp_region ?_; simp only [go_sem, ↓reduceIte, reduceCtorEq, Nat.reduceBEq, Nat.reduceEqDiff, Nat.reduceLT, Nat.reduceLeDiff, Nat.reduceAdd, Nat.reduceMul, Nat.reducePow, Nat.reduceSub, Int.reduceEq, Int.reduceLT, Int.reduceLE, Int.reduceToNat, Int.reduceMul, f4, g4, f5, f6, g6, g17, f19, f20, f21, h, ga, hc, e1, hp, q0', n0, t0, r0, r1, r2, r3, hr, hw]) | (refine dwp_any ?_; simp only [go_sem, ↓reduceIte, reduceCtorEq, Nat.reduceBEq, Nat.reduceEqDiff, Nat.reduceLT, Nat.reduceLeDiff, Nat.reduceAdd, Nat.reduceMul, Nat.reducePow, Nat.reduceSub, Int.reduceEq, Int.reduceLT, Int.reduceLE, Int.reduceToNat, Int.reduceMul, f4, g4, f5, f6, g6, g17, f19, f20, f21, h, ga, hc, e1, hp, q0', n0, t0, r0, r1, r2, r3, hr, hw]; refine ⟨by kernel_rfl, ?_⟩) | (refine dwp_skip ?_; simp only [go_sem, ↓reduceIte, reduceCtorEq, Nat.reduceBEq, Nat.reduceEqDiff, Nat.reduceLT, Nat.reduceLeDiff, Nat.reduceAdd, Nat.reduceMul, Nat.reducePow, Nat.reduceSub, Int.reduceEq, Int.reduceLT, Int.reduceLE, Int.reduceToNat, Int.reduceMul, f4, g4, f5, f6, g6, g17, f19, f20, f21, h, ga, hc, e1, hp, q0', n0, t0, r0, r1, r2, r3, hr, hw]) | (refine dwp_exit ?_; simp only [go_sem, ↓reduceIte, reduceCtorEq, Nat.reduceBEq, Nat.reduceEqDiff, Nat.reduceLT, Nat.reduceLeDiff, Nat.reduceAdd, Nat.reduceMul, Nat.reducePow, Nat.reduceSub, Int.reduceEq, Int.reduceLT, Int.reduceLE, Int.reduceToNat, Int.reduceMul, f4, g4, f5, f6, g6, g17, f19, f20, f21, h, ga, hc, e1, hp, q0', n0, t0, r0, r1, r2, r3, hr, hw]) | (refine dwp_ret ?_; simp only [go_sem, ↓reduceIte, reduceCtorEq, Nat.reduceBEq, Nat.reduceEqDiff, Nat.reduceLT, Nat.reduceLeDiff, Nat.reduceAdd, Nat.reduceMul, Nat.reducePow, Nat.reduceSub, Int.reduceEq, Int.reduceLT, Int.reduceLE, Int.reduceToNat, Int.reduceMul, f4, g4, f5, f6, g6, g17, f19, f20, f21, h, ga, hc, e1, hp, q0', n0, t0, r0, r1, r2, r3, hr, hw]) | (refine dwp_if ?_; simp only [go_sem, ↓reduceIte, reduceCtorEq, Nat.reduceBEq, Nat.reduceEqDiff, Nat.reduceLT, Nat.reduceLeDiff, Nat.reduceAdd, Nat.reduceMul, Nat.reducePow, Nat.reduceSub, Int.reduceEq, Int.reduceLT, Int.reduceLE, Int.reduceToNat, Int.reduceMul, f4, g4, f5, f6, g6, g17, f19, f20, f21, h, ga, hc, e1, hp, q0', n0, t0, r0, r1, r2, r3, hr, hw]) | refine dwp_block ?_)
        refine ih (n - 1) _ _ (by omega) ⟨i + 1, .own 3 1 (nats (idxs (cNone N) (l.take i) ++ [i])), cs, c2, c3, by omega, ?_⟩
        simp only [go_sem, ↓reduceIte, reduceCtorEq, Nat.reduceBEq, Nat.reduceEqDiff, Nat.reduceLT, Nat.reduceLeDiff, Nat.reduceAdd, Nat.reduceMul, Nat.reducePow, Nat.reduceSub, Int.reduceEq, Int.reduceLT, Int.reduceLE, Int.reduceToNat, Int.reduceMul, f4, g4, f5, f6, g6, g17, f19, f20, f21, r0, r1, r2, r3, app_nats]
        have k0 : cNone N a = true := by simp [cNone, q0]
        have k1 : ∀ k, cK N k a = false := fun k => by
          unfold cK
          rw [beq_eq_false_iff_ne]
          intro e
          rw [e] at q0
          cases q0
        have k2 : cMany N a = false := by simp [cMany, q0]
        have k3 : joinOf N a i = [] := by unfold joinOf; rw [if_neg (by rw [k2]; simp)]
        rw [s0, s2, s3, k3, List.append_nil, if_pos k0, if_neg (by rw [k2]; simp), List.append_nil]
        simp only [sK, k1, Bool.false_eq_true, if_false, List.append_nil]
        exact ⟨.inl rfl, h1, h2, h3⟩
      have q0' : (((usesN a N).length : Int) == 0) = false := by rw [beq_eq_false_iff_ne]; omega
      have k0 : cNone N a = false := by simpa [cNone] using q0
      by_cases q1 : (usesN a N).length = 1
      · obtain ⟨k, hk⟩ := List.length_eq_one_iff.1 q1
        obtain ⟨hb, hkN⟩ := bitsN_one a N k (by omega) hk
        have q1' : (((usesN a N).length : Int) == 1) = true := by rw [beq_iff_eq]; omega
        have htz := tz19 k (by omega)
        rw [← hb] at htz
        have hkc : k < cs.length := by rw [h1.1]; exact hkN
        have gc : cs[k]? = some cs[k] := List.getElem?_eq_getElem hkc
        generalize cs[k] = ck at gc
        have hck := h1.2 k ck gc
        have n0 := hck.norm
        have t0 := hck.tops
        have hr := room_nats l (cK N k) i hl
        have hki : (k : Int) < (N : Int) := by omega
        have hks : k + 1 ≤ (stripAt cs k).length := by rw [stripAt_len]; exact hkc
        have hset := setC_strip cs k (.own 3 1 (nats (idxs (cK N k) (l.take i) ++ [i]))) hkc
        have k1 : ∀ j, cK N j a = (j == k) := fun j => by
          unfold cK
          rw [hk, Bool.eq_iff_iff, beq_iff_eq, beq_iff_eq]
          simp [eq_comm]
        have hnew : CS N (cs.set k (.own 3 1 (nats (idxs (cK N k) (l.take i) ++ [i])))) (fun k => idxs (cK N k) (l.take (i + 1))) := by
          refine h1.set k _ (.inl ?_) fun j hj => ?_
          · rw [sK k, k1 k]
            simp
          · rw [sK j, k1 j]
            simp [hj]
        have r4 := hnew.refl
        repeat (first | refine dwp_seq ?_ | (refine dwp_region ?_; simp only [go_sem, ↓reduceIte, reduceCtorEq, Nat.reduceBEq, Nat.reduceEqDiff, Nat.reduceLT, Nat.reduceLeDiff, Nat.reduceAdd, Nat.reduceMul, Nat.reducePow, Nat.reduceSub, Int.reduceEq, Int.reduceLT, Int.reduceLE, Int.reduceToNat, Int.reduceMul, f4, g4, f5, f6, g6, g17, f19, f20, f21, h, ga, hc, e1, hp, q0', q1', htz, gc, n0, t0, r0, r1, r2, r3, r4, hr, hw, hki, hks, hset, app_nats]) | (refine dwp_any ?_; simp only [go_sem, ↓reduceIte, reduceCtorEq, Nat.reduceBEq, Nat.reduceEqDiff, Nat.reduceLT, Nat.reduceLeDiff, Nat.reduceAdd, Nat.reduceMul, Nat.reducePow, Nat.reduceSub, Int.reduceEq, Int.reduceLT, Int.reduceLE, Int.reduceToNat, Int.reduceMul, f4, g4, f5, f6, g6, g17, f19, f20, f21, h, ga, hc, e1, hp, q0', q1', htz, gc, n0, t0, r0, r1, r2, r3, r4, hr, hw, hki, hks, hset, app_nats]; refine ⟨by kernel_rfl, ?_⟩) | (refine dwp_skip ?_; simp only [go_sem, ↓reduceIte, reduceCtorEq, Nat.reduceBEq, Nat.reduceEqDiff, Nat.reduceLT, Nat.reduceLeDiff, Nat.reduceAdd, Nat.reduceMul, Nat.reducePow, Nat.reduceSub, Int.reduceEq, Int.reduceLT, Int.reduceLE, Int.reduceToNat, Int.reduceMul, f4, g4, f5, f6, g6, g17, f19, f20, f21, h, ga, hc, e1, hp, q0', q1', htz, gc, n0, t0, r0, r1, r2, r3, r4, hr, hw, hki, hks, hset, app_nats]) | (refine dwp_exit ?_; simp only [go_sem, ↓reduceIte, reduceCtorEq, Nat.reduceBEq, Nat.reduceEqDiff, Nat.reduceLT, Nat.reduceLeDiff, Nat.reduceAdd, Nat.reduceMul, Nat.reducePow, Nat.reduceSub, Int.reduceEq, Int.reduceLT, Int.reduceLE, Int.reduceToNat, Int.reduceMul, f4, g4, f5, f6, g6, g17, f19, f20, f21, h, ga, hc, e1, hp, q0', q1', htz, gc, n0, t0, r0, r1, r2, r3, r4, hr, hw, hki, hks, hset, app_nats]) | (refine dwp_ret ?_; simp only [go_sem, ↓reduceIte, reduceCtorEq, Nat.reduceBEq, Nat.reduceEqDiff, Nat.reduceLT, Nat.reduceLeDiff, Nat.reduceAdd, Nat.reduceMul, Nat.reducePow, Nat.reduceSub, Int.reduceEq, Int.reduceLT, Int.reduceLE, Int.reduceToNat, Int.reduceMul, f4, g4, f5, f6, g6, g17, f19, f20, f21, h, ga, hc, e1, hp, q0', q1', htz, gc, n0, t0, r0, r1, r2, r3, r4, hr, hw, hki, hks, hset, app_nats]) | (refine dwp_if ?_; simp only [go_sem, ↓reduceIte, reduceCtorEq, Nat.reduceBEq, Nat.reduceEqDiff, Nat.reduceLT, Nat.reduceLeDiff, Nat.reduceAdd, Nat.reduceMul, Nat.reducePow, Nat.reduceSub, Int.reduceEq, Int.reduceLT, Int.reduceLE, Int.reduceToNat, Int.reduceMul, f4, g4, f5, f6, g6, g17, f19, f20, f21, h, ga, hc, e1, hp, q0', q1', htz, gc, n0, t0, r0, r1, r2, r3, r4, hr, hw, hki, hks, hset, app_nats]) | refine dwp_block ?_)
        refine ih (n - 1) _ _ (by omega) ⟨i + 1, c0, cs.set k (.own 3 1 (nats (idxs (cK N k) (l.take i) ++ [i]))), c2, c3, by omega, ?_⟩
        simp only [go_sem, ↓reduceIte, reduceCtorEq, Nat.reduceBEq, Nat.reduceEqDiff, Nat.reduceLT, Nat.reduceLeDiff, Nat.reduceAdd, Nat.reduceMul, Nat.reducePow, Nat.reduceSub, Int.reduceEq, Int.reduceLT, Int.reduceLE, Int.reduceToNat, Int.reduceMul, f4, g4, f5, f6, g6, g17, f19, f20, f21, r0, r1, r2, r3, r4, app_nats, hset]
        have k2 : cMany N a = false := by simp [cMany, q1]
        have k3 : joinOf N a i = [] := by unfold joinOf; rw [if_neg (by rw [k2]; simp)]
        rw [s0, s2, s3, k3, List.append_nil, if_neg (by rw [k0]; simp), if_neg (by rw [k2]; simp), List.append_nil, List.append_nil]
        exact ⟨h0, hnew, h2, h3⟩
      have q1' : (((usesN a N).length : Int) == 1) = false := by rw [beq_eq_false_iff_ne]; omega
      have k1 : ∀ k, cK N k a = false := fun k => by
        unfold cK
        rw [beq_eq_false_iff_ne]
        intro e
        rw [e] at q1
        exact q1 rfl
      have k2 : cMany N a = true := by simp only [cMany, decide_eq_true_eq]; omega
      have hj := join20 i a
      have n2 := h2.norm
      have t2 := h2.tops
      have n3 := h3.norm
      have t3 := h3.tops
      have o3 := h3.one
      have hr := room_nats l (cMany N) i hl
      have hr3 : room ((joinsOf N (l.take i) 0).length + 1) 40 = true := room_ok (by
        have := joinsOf_len N (l.take i) 0
        rw [List.length_take] at this
        omega) (by decide)
      cases hs : sides a with
      | none =>
        rw [joinD, hs] at hj
        repeat (first | refine dwp_seq ?_ | (refine dwp_region ?_; simp only [go_sem, ↓reduceIte, reduceCtorEq, Nat.reduceBEq, Nat.reduceEqDiff, Nat.reduceLT, Nat.reduceLeDiff, Nat.reduceAdd, Nat.reduceMul, Nat.reducePow, Nat.reduceSub, Int.reduceEq, Int.reduceLT, Int.reduceLE, Int.reduceToNat, Int.reduceMul, f4, g4, f5, f6, g6, g17, f19, f20, f21, h, ga, hc, e1, hp, q0', q1', hj, n2, t2, r0, r1, r2, r3, hr, hw, jcells, app_nats]) | (refine dwp_any ?_; simp only [go_sem, ↓reduceIte, reduceCtorEq, Nat.reduceBEq, Nat.reduceEqDiff, Nat.reduceLT, Nat.reduceLeDiff, Nat.reduceAdd, Nat.reduceMul, Nat.reducePow, Nat.reduceSub, Int.reduceEq, Int.reduceLT, Int.reduceLE, Int.reduceToNat, Int.reduceMul, f4, g4, f5, f6, g6, g17, f19, f20, f21, h, ga, hc, e1, hp, q0', q1', hj, n2, t2, r0, r1, r2, r3, hr, hw, jcells, app_nats]; refine ⟨by kernel_rfl, ?_⟩) | (refine dwp_skip ?_; simp only [go_sem, ↓reduceIte, reduceCtorEq, Nat.reduceBEq, Nat.reduceEqDiff, Nat.reduceLT, Nat.reduceLeDiff, Nat.reduceAdd, Nat.reduceMul, Nat.reducePow, Nat.reduceSub, Int.reduceEq, Int.reduceLT, Int.reduceLE, Int.reduceToNat, Int.reduceMul, f4, g4, f5, f6, g6, g17, f19, f20, f21, h, ga, hc, e1, hp, q0', q1', hj, n2, t2, r0, r1, r2, r3, hr, hw, jcells, app_nats]) | (refine dwp_exit ?_; simp only [go_sem, ↓reduceIte, reduceCtorEq, Nat.reduceBEq, Nat.reduceEqDiff, Nat.reduceLT, Nat.reduceLeDiff, Nat.reduceAdd, Nat.reduceMul, Nat.reducePow, Nat.reduceSub, Int.reduceEq, Int.reduceLT, Int.reduceLE, Int.reduceToNat, Int.reduceMul, f4, g4, f5, f6, g6, g17, f19, f20, f21, h, ga, hc, e1, hp, q0', q1', hj, n2, t2, r0, r1, r2, r3, hr, hw, jcells, app_nats]) | (refine dwp_ret ?_; simp only [go_sem, ↓reduceIte, reduceCtorEq, Nat.reduceBEq, Nat.reduceEqDiff, Nat.reduceLT, Nat.reduceLeDiff, Nat.reduceAdd, Nat.reduceMul, Nat.reducePow, Nat.reduceSub, Int.reduceEq, Int.reduceLT, Int.reduceLE, Int.reduceToNat, Int.reduceMul, f4, g4, f5, f6, g6, g17, f19, f20, f21, h, ga, hc, e1, hp, q0', q1', hj, n2, t2, r0, r1, r2, r3, hr, hw, jcells, app_nats]) | (refine dwp_if ?_; simp only [go_sem, ↓reduceIte, reduceCtorEq, Nat.reduceBEq, Nat.reduceEqDiff, Nat.reduceLT, Nat.reduceLeDiff, Nat.reduceAdd, Nat.reduceMul, Nat.reducePow, Nat.reduceSub, Int.reduceEq, Int.reduceLT, Int.reduceLE, Int.reduceToNat, Int.reduceMul, f4, g4, f5, f6, g6, g17, f19, f20, f21, h, ga, hc, e1, hp, q0', q1', hj, n2, t2, r0, r1, r2, r3, hr, hw, jcells, app_nats]) | refine dwp_block ?_)
        refine ih (n - 1) _ _ (by omega) ⟨i + 1, c0, cs, .own 3 1 (nats (idxs (cMany N) (l.take i) ++ [i])), c3, by omega, ?_⟩
        simp only [go_sem, ↓reduceIte, reduceCtorEq, Nat.reduceBEq, Nat.reduceEqDiff, Nat.reduceLT, Nat.reduceLeDiff, Nat.reduceAdd, Nat.reduceMul, Nat.reducePow, Nat.reduceSub, Int.reduceEq, Int.reduceLT, Int.reduceLE, Int.reduceToNat, Int.reduceMul, f4, g4, f5, f6, g6, g17, f19, f20, f21, r0, r1, r2, r3, app_nats]
        have k3 : joinOf N a i = [] := by unfold joinOf; rw [if_pos k2, hs]
        rw [s0, s2, s3, k3, List.append_nil, if_neg (by rw [k0]; simp), if_pos k2, List.append_nil]
        simp only [sK, k1, Bool.false_eq_true, if_false, List.append_nil]
        exact ⟨h0, h1, .inl rfl, h3⟩
      | some p =>
        obtain ⟨x, y⟩ := p
        rw [joinD, hs] at hj
        by_cases hlt : y.tb < x.tb
        · simp only [if_pos hlt] at hj
          repeat (first | refine dwp_seq ?_ | (refine dwp_region ?_; simp only [go_sem, ↓reduceIte, reduceCtorEq, Nat.reduceBEq, Nat.reduceEqDiff, Nat.reduceLT, Nat.reduceLeDiff, Nat.reduceAdd, Nat.reduceMul, Nat.reducePow, Nat.reduceSub, Int.reduceEq, Int.reduceLT, Int.reduceLE, Int.reduceToNat, Int.reduceMul, f4, g4, f5, f6, g6, g17, f19, f20, f21, h, ga, hc, e1, hp, q0', q1', hj, n2, t2, n3, t3, o3, r0, r1, r2, r3, hr, hr3, hw, jcells, app_nats]) | (refine dwp_any ?_; simp only [go_sem, ↓reduceIte, reduceCtorEq, Nat.reduceBEq, Nat.reduceEqDiff, Nat.reduceLT, Nat.reduceLeDiff, Nat.reduceAdd, Nat.reduceMul, Nat.reducePow, Nat.reduceSub, Int.reduceEq, Int.reduceLT, Int.reduceLE, Int.reduceToNat, Int.reduceMul, f4, g4, f5, f6, g6, g17, f19, f20, f21, h, ga, hc, e1, hp, q0', q1', hj, n2, t2, n3, t3, o3, r0, r1, r2, r3, hr, hr3, hw, jcells, app_nats]; refine ⟨by kernel_rfl, ?_⟩) | (refine dwp_skip ?_; simp only [go_sem, ↓reduceIte, reduceCtorEq, Nat.reduceBEq, Nat.reduceEqDiff, Nat.reduceLT, Nat.reduceLeDiff, Nat.reduceAdd, Nat.reduceMul, Nat.reducePow, Nat.reduceSub, Int.reduceEq, Int.reduceLT, Int.reduceLE, Int.reduceToNat, Int.reduceMul, f4, g4, f5, f6, g6, g17, f19, f20, f21, h, ga, hc, e1, hp, q0', q1', hj, n2, t2, n3, t3, o3, r0, r1, r2, r3, hr, hr3, hw, jcells, app_nats]) | (refine dwp_exit ?_; simp only [go_sem, ↓reduceIte, reduceCtorEq, Nat.reduceBEq, Nat.reduceEqDiff, Nat.reduceLT, Nat.reduceLeDiff, Nat.reduceAdd, Nat.reduceMul, Nat.reducePow, Nat.reduceSub, Int.reduceEq, Int.reduceLT, Int.reduceLE, Int.reduceToNat, Int.reduceMul, f4, g4, f5, f6, g6, g17, f19, f20, f21, h, ga, hc, e1, hp, q0', q1', hj, n2, t2, n3, t3, o3, r0, r1, r2, r3, hr, hr3, hw, jcells, app_nats]) | (refine dwp_ret ?_; simp only [go_sem, ↓reduceIte, reduceCtorEq, Nat.reduceBEq, Nat.reduceEqDiff, Nat.reduceLT, Nat.reduceLeDiff, Nat.reduceAdd, Nat.reduceMul, Nat.reducePow, Nat.reduceSub, Int.reduceEq, Int.reduceLT, Int.reduceLE, Int.reduceToNat, Int.reduceMul, f4, g4, f5, f6, g6, g17, f19, f20, f21, h, ga, hc, e1, hp, q0', q1', hj, n2, t2, n3, t3, o3, r0, r1, r2, r3, hr, hr3, hw, jcells, app_nats]) | (refine dwp_if ?_; simp only [go_sem, ↓reduceIte, reduceCtorEq, Nat.reduceBEq, Nat.reduceEqDiff, Nat.reduceLT, Nat.reduceLeDiff, Nat.reduceAdd, Nat.reduceMul, Nat.reducePow, Nat.reduceSub, Int.reduceEq, Int.reduceLT, Int.reduceLE, Int.reduceToNat, Int.reduceMul, f4, g4, f5, f6, g6, g17, f19, f20, f21, h, ga, hc, e1, hp, q0', q1', hj, n2, t2, n3, t3, o3, r0, r1, r2, r3, hr, hr3, hw, jcells, app_nats]) | refine dwp_block ?_)
          refine ih (n - 1) _ _ (by omega) ⟨i + 1, c0, cs, .own 3 1 (nats (idxs (cMany N) (l.take i) ++ [i])), .own 47 5 (joinsOf N (l.take i) 0 ++ [jcells i y.tb x.tb y.co x.co]), by omega, ?_⟩
          simp only [go_sem, ↓reduceIte, reduceCtorEq, Nat.reduceBEq, Nat.reduceEqDiff, Nat.reduceLT, Nat.reduceLeDiff, Nat.reduceAdd, Nat.reduceMul, Nat.reducePow, Nat.reduceSub, Int.reduceEq, Int.reduceLT, Int.reduceLE, Int.reduceToNat, Int.reduceMul, f4, g4, f5, f6, g6, g17, f19, f20, f21, r0, r1, r2, r3, app_nats, jcells]
          have k3 : joinOf N a i = [jcells i y.tb x.tb y.co x.co] := by
            unfold joinOf
            rw [if_pos k2, hs]
            simp only [if_pos hlt]
          rw [s0, s2, s3, k3, if_neg (by rw [k0]; simp), if_pos k2, List.append_nil]
          simp only [sK, k1, Bool.false_eq_true, if_false, List.append_nil]
          exact ⟨h0, h1, .inl rfl, .inl rfl⟩
        · simp only [if_neg hlt] at hj
          by_cases hne : (x.tb != y.tb) = true
          · rw [hne] at hj
            repeat (first | refine dwp_seq ?_ | (refine dwp_region ?_; simp only [go_sem, ↓reduceIte, reduceCtorEq, Nat.reduceBEq, Nat.reduceEqDiff, Nat.reduceLT, Nat.reduceLeDiff, Nat.reduceAdd, Nat.reduceMul, Nat.reducePow, Nat.reduceSub, Int.reduceEq, Int.reduceLT, Int.reduceLE, Int.reduceToNat, Int.reduceMul, f4, g4, f5, f6, g6, g17, f19, f20, f21, h, ga, hc, e1, hp, q0', q1', hj, n2, t2, n3, t3, o3, r0, r1, r2, r3, hr, hr3, hw, jcells, app_nats]) | (refine dwp_any ?_; simp only [go_sem, ↓reduceIte, reduceCtorEq, Nat.reduceBEq, Nat.reduceEqDiff, Nat.reduceLT, Nat.reduceLeDiff, Nat.reduceAdd, Nat.reduceMul, Nat.reducePow, Nat.reduceSub, Int.reduceEq, Int.reduceLT, Int.reduceLE, Int.reduceToNat, Int.reduceMul, f4, g4, f5, f6, g6, g17, f19, f20, f21, h, ga, hc, e1, hp, q0', q1', hj, n2, t2, n3, t3, o3, r0, r1, r2, r3, hr, hr3, hw, jcells, app_nats]; refine ⟨by kernel_rfl, ?_⟩) | (refine dwp_skip ?_; simp only [go_sem, ↓reduceIte, reduceCtorEq, Nat.reduceBEq, Nat.reduceEqDiff, Nat.reduceLT, Nat.reduceLeDiff, Nat.reduceAdd, Nat.reduceMul, Nat.reducePow, Nat.reduceSub, Int.reduceEq, Int.reduceLT, Int.reduceLE, Int.reduceToNat, Int.reduceMul, f4, g4, f5, f6, g6, g17, f19, f20, f21, h, ga, hc, e1, hp, q0', q1', hj, n2, t2, n3, t3, o3, r0, r1, r2, r3, hr, hr3, hw, jcells, app_nats]) | (refine dwp_exit ?_; simp only [go_sem, ↓reduceIte, reduceCtorEq, Nat.reduceBEq, Nat.reduceEqDiff, Nat.reduceLT, Nat.reduceLeDiff, Nat.reduceAdd, Nat.reduceMul, Nat.reducePow, Nat.reduceSub, Int.reduceEq, Int.reduceLT, Int.reduceLE, Int.reduceToNat, Int.reduceMul, f4, g4, f5, f6, g6, g17, f19, f20, f21, h, ga, hc, e1, hp, q0', q1', hj, n2, t2, n3, t3, o3, r0, r1, r2, r3, hr, hr3, hw, jcells, app_nats]) | (refine dwp_ret ?_; simp only [go_sem, ↓reduceIte, reduceCtorEq, Nat.reduceBEq, Nat.reduceEqDiff, Nat.reduceLT, Nat.reduceLeDiff, Nat.reduceAdd, Nat.reduceMul, Nat.reducePow, Nat.reduceSub, Int.reduceEq, Int.reduceLT, Int.reduceLE, Int.reduceToNat, Int.reduceMul, f4, g4, f5, f6, g6, g17, f19, f20, f21, h, ga, hc, e1, hp, q0', q1', hj, n2, t2, n3, t3, o3, r0, r1, r2, r3, hr, hr3, hw, jcells, app_nats]) | (refine dwp_if ?_; simp only [go_sem, ↓reduceIte, reduceCtorEq, Nat.reduceBEq, Nat.reduceEqDiff, Nat.reduceLT, Nat.reduceLeDiff, Nat.reduceAdd, Nat.reduceMul, Nat.reducePow, Nat.reduceSub, Int.reduceEq, Int.reduceLT, Int.reduceLE, Int.reduceToNat, Int.reduceMul, f4, g4, f5, f6, g6, g17, f19, f20, f21, h, ga, hc, e1, hp, q0', q1', hj, n2, t2, n3, t3, o3, r0, r1, r2, r3, hr, hr3, hw, jcells, app_nats]) | refine dwp_block ?_)
            refine ih (n - 1) _ _ (by omega) ⟨i + 1, c0, cs, .own 3 1 (nats (idxs (cMany N) (l.take i) ++ [i])), .own 47 5 (joinsOf N (l.take i) 0 ++ [jcells i x.tb y.tb x.co y.co]), by omega, ?_⟩
            simp only [go_sem, ↓reduceIte, reduceCtorEq, Nat.reduceBEq, Nat.reduceEqDiff, Nat.reduceLT, Nat.reduceLeDiff, Nat.reduceAdd, Nat.reduceMul, Nat.reducePow, Nat.reduceSub, Int.reduceEq, Int.reduceLT, Int.reduceLE, Int.reduceToNat, Int.reduceMul, f4, g4, f5, f6, g6, g17, f19, f20, f21, r0, r1, r2, r3, app_nats, jcells]
            have k3 : joinOf N a i = [jcells i x.tb y.tb x.co y.co] := by
              unfold joinOf
              rw [if_pos k2, hs]
              simp only [if_neg hlt, if_pos hne]
            rw [s0, s2, s3, k3, if_neg (by rw [k0]; simp), if_pos k2, List.append_nil]
            simp only [sK, k1, Bool.false_eq_true, if_false, List.append_nil]
            exact ⟨h0, h1, .inl rfl, .inl rfl⟩
          · have hne' : (x.tb != y.tb) = false := by simpa using hne
            rw [hne'] at hj
            repeat (first | refine dwp_seq ?_ | (refine dwp_region ?_; simp only [go_sem, ↓reduceIte, reduceCtorEq, Nat.reduceBEq, Nat.reduceEqDiff, Nat.reduceLT, Nat.reduceLeDiff, Nat.reduceAdd, Nat.reduceMul, Nat.reducePow, Nat.reduceSub, Int.reduceEq, Int.reduceLT, Int.reduceLE, Int.reduceToNat, Int.reduceMul, f4, g4, f5, f6, g6, g17, f19, f20, f21, h, ga, hc, e1, hp, q0', q1', hj, n2, t2, r0, r1, r2, r3, hr, hw, jcells, app_nats]) | (refine dwp_any ?_; simp only [go_sem, ↓reduceIte, reduceCtorEq, Nat.reduceBEq, Nat.reduceEqDiff, Nat.reduceLT, Nat.reduceLeDiff, Nat.reduceAdd, Nat.reduceMul, Nat.reducePow, Nat.reduceSub, Int.reduceEq, Int.reduceLT, Int.reduceLE, Int.reduceToNat, Int.reduceMul, f4, g4, f5, f6, g6, g17, f19, f20, f21, h, ga, hc, e1, hp, q0', q1', hj, n2, t2, r0, r1, r2, r3, hr, hw, jcells, app_nats]; refine ⟨by kernel_rfl, ?_⟩) | (refine dwp_skip ?_; simp only [go_sem, ↓reduceIte, reduceCtorEq, Nat.reduceBEq, Nat.reduceEqDiff, Nat.reduceLT, Nat.reduceLeDiff, Nat.reduceAdd, Nat.reduceMul, Nat.reducePow, Nat.reduceSub, Int.reduceEq, Int.reduceLT, Int.reduceLE, Int.reduceToNat, Int.reduceMul, f4, g4, f5, f6, g6, g17, f19, f20, f21, h, ga, hc, e1, hp, q0', q1', hj, n2, t2, r0, r1, r2, r3, hr, hw, jcells, app_nats]) | (refine dwp_exit ?_; simp only [go_sem, ↓reduceIte, reduceCtorEq, Nat.reduceBEq, Nat.reduceEqDiff, Nat.reduceLT, Nat.reduceLeDiff, Nat.reduceAdd, Nat.reduceMul, Nat.reducePow, Nat.reduceSub, Int.reduceEq, Int.reduceLT, Int.reduceLE, Int.reduceToNat, Int.reduceMul, f4, g4, f5, f6, g6, g17, f19, f20, f21, h, ga, hc, e1, hp, q0', q1', hj, n2, t2, r0, r1, r2, r3, hr, hw, jcells, app_nats]) | (refine dwp_ret ?_; simp only [go_sem, ↓reduceIte, reduceCtorEq, Nat.reduceBEq, Nat.reduceEqDiff, Nat.reduceLT, Nat.reduceLeDiff, Nat.reduceAdd, Nat.reduceMul, Nat.reducePow, Nat.reduceSub, Int.reduceEq, Int.reduceLT, Int.reduceLE, Int.reduceToNat, Int.reduceMul, f4, g4, f5, f6, g6, g17, f19, f20, f21, h, ga, hc, e1, hp, q0', q1', hj, n2, t2, r0, r1, r2, r3, hr, hw, jcells, app_nats]) | (refine dwp_if ?_; simp only [go_sem, ↓reduceIte, reduceCtorEq, Nat.reduceBEq, Nat.reduceEqDiff, Nat.reduceLT, Nat.reduceLeDiff, Nat.reduceAdd, Nat.reduceMul, Nat.reducePow, Nat.reduceSub, Int.reduceEq, Int.reduceLT, Int.reduceLE, Int.reduceToNat, Int.reduceMul, f4, g4, f5, f6, g6, g17, f19, f20, f21, h, ga, hc, e1, hp, q0', q1', hj, n2, t2, r0, r1, r2, r3, hr, hw, jcells, app_nats]) | refine dwp_block ?_)
            refine ih (n - 1) _ _ (by omega) ⟨i + 1, c0, cs, .own 3 1 (nats (idxs (cMany N) (l.take i) ++ [i])), c3, by omega, ?_⟩
            simp only [go_sem, ↓reduceIte, reduceCtorEq, Nat.reduceBEq, Nat.reduceEqDiff, Nat.reduceLT, Nat.reduceLeDiff, Nat.reduceAdd, Nat.reduceMul, Nat.reducePow, Nat.reduceSub, Int.reduceEq, Int.reduceLT, Int.reduceLE, Int.reduceToNat, Int.reduceMul, f4, g4, f5, f6, g6, g17, f19, f20, f21, r0, r1, r2, r3, app_nats]
            have k3 : joinOf N a i = [] := by
              unfold joinOf
              rw [if_pos k2, hs]
              simp only [if_neg hlt, if_neg hne]
            rw [s0, s2, s3, k3, List.append_nil, if_neg (by rw [k0]; simp), if_pos k2, List.append_nil]
            simp only [sK, k1, Bool.false_eq_true, if_false, List.append_nil]
            exact ⟨h0, h1, .inl rfl, h3⟩
    · have hil : i = l.length := by omega
      rw [hil, List.take_length] at h0 h1 h2 h3
      have r0 := h0.refl
      have r1 := h1.refl
      have r2 := h2.refl
      have r3 := h3.refl
      have hcd : (cs.map strip).all data = true := by
        rw [List.all_map, List.all_eq_true]
        intro d hd
        obtain ⟨k, hk⟩ := List.getElem?_of_mem hd
        rcases h1.2 k d hk with rfl | ⟨rfl, _⟩ <;> rfl
      have hcl : cs.length = N := h1.1
      have hcl' : N ≤ cs.length := Nat.le_of_eq h1.1.symm
      have h0' := h0
      have h2' := h2
      have h3' := h3
      have hcl0 : N ≤ (cs.map strip).length := by rw [List.length_map]; exact hcl'
      rcases h0 with rfl | ⟨rfl, e0⟩ <;> rcases h2 with rfl | ⟨rfl, e2⟩ <;> rcases h3 with rfl | ⟨rfl, e3⟩
      all_goals
        repeat (first | refine dwp_seq ?_ | (refine dwp_region ?_; simp only [go_sem, ↓reduceIte, reduceCtorEq, Nat.reduceBEq, Nat.reduceEqDiff, Nat.reduceLT, Nat.reduceLeDiff, Nat.reduceAdd, Nat.reduceMul, Nat.reducePow, Nat.reduceSub, Int.reduceEq, Int.reduceLT, Int.reduceLE, Int.reduceToNat, Int.reduceMul, f4, g4, f5, f6, g6, g17, f19, f20, f21, h, r1, hcd, hcl']) | (refine dwp_any ?_; simp only [go_sem, ↓reduceIte, reduceCtorEq, Nat.reduceBEq, Nat.reduceEqDiff, Nat.reduceLT, Nat.reduceLeDiff, Nat.reduceAdd, Nat.reduceMul, Nat.reducePow, Nat.reduceSub, Int.reduceEq, Int.reduceLT, Int.reduceLE, Int.reduceToNat, Int.reduceMul, f4, g4, f5, f6, g6, g17, f19, f20, f21, h, r1, hcd, hcl']; refine ⟨by kernel_rfl, ?_⟩) | (refine dwp_skip ?_; simp only [go_sem, ↓reduceIte, reduceCtorEq, Nat.reduceBEq, Nat.reduceEqDiff, Nat.reduceLT, Nat.reduceLeDiff, Nat.reduceAdd, Nat.reduceMul, Nat.reducePow, Nat.reduceSub, Int.reduceEq, Int.reduceLT, Int.reduceLE, Int.reduceToNat, Int.reduceMul, f4, g4, f5, f6, g6, g17, f19, f20, f21, h, r1, hcd, hcl']) | (refine dwp_exit ?_; simp only [go_sem, ↓reduceIte, reduceCtorEq, Nat.reduceBEq, Nat.reduceEqDiff, Nat.reduceLT, Nat.reduceLeDiff, Nat.reduceAdd, Nat.reduceMul, Nat.reducePow, Nat.reduceSub, Int.reduceEq, Int.reduceLT, Int.reduceLE, Int.reduceToNat, Int.reduceMul, f4, g4, f5, f6, g6, g17, f19, f20, f21, h, r1, hcd, hcl']) | (refine dwp_ret ?_; simp only [go_sem, ↓reduceIte, reduceCtorEq, Nat.reduceBEq, Nat.reduceEqDiff, Nat.reduceLT, Nat.reduceLeDiff, Nat.reduceAdd, Nat.reduceMul, Nat.reducePow, Nat.reduceSub, Int.reduceEq, Int.reduceLT, Int.reduceLE, Int.reduceToNat, Int.reduceMul, f4, g4, f5, f6, g6, g17, f19, f20, f21, h, r1, hcd, hcl']) | (refine dwp_if ?_; simp only [go_sem, ↓reduceIte, reduceCtorEq, Nat.reduceBEq, Nat.reduceEqDiff, Nat.reduceLT, Nat.reduceLeDiff, Nat.reduceAdd, Nat.reduceMul, Nat.reducePow, Nat.reduceSub, Int.reduceEq, Int.reduceLT, Int.reduceLE, Int.reduceToNat, Int.reduceMul, f4, g4, f5, f6, g6, g17, f19, f20, f21, h, r1, hcd, hcl']) | refine dwp_block ?_)
        exact ⟨_, cs, _, _, rfl, h0', h1, h2', h3'⟩
  exact ⟨c0, cs, c2, c3, hr, h0, h1, h2, h3⟩
end Go.Proofs.YtneihjdkaogkiaaDoor
