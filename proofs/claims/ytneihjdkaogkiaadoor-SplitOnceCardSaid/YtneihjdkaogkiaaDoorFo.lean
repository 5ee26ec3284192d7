/- What SplitOnce answers, of any data. -/
import Derived.Test.YtneihjdkaogkiaaDoorFe
namespace Go.Proofs.YtneihjdkaogkiaaDoor
open Go Go.Eng Go.Proofs
set_option linter.unusedVariables false
set_option linter.unusedSimpArgs false
set_option maxRecDepth 4000
set_option maxHeartbeats 4000000

/-- numbers, as a variable's cells -/
def icells (v : List Int) : List D := v.map fun n => .v (.int .i64 n)
theorem ic_len (v : List Int) : (icells v).length = v.length := by simp [icells]
theorem ic_get (v : List Int) (i : Nat) : (icells v)[i]? = (v[i]?).map fun n => D.v (.int .i64 n) := by simp [icells]
theorem ic_one (v : List Int) : (icells v).all one = true := by
  unfold icells
  rw [List.all_map, List.all_eq_true]
  intro n _
  rfl
theorem ic_nobs (v : List Int) : (icells v).all nobs = true := by
  unfold icells
  rw [List.all_map, List.all_eq_true]
  intro n _
  rfl
theorem ic_strip (v : List Int) : (icells v).map strip = icells v := by
  unfold icells
  rw [List.map_map]
  exact List.map_congr_left fun n _ => (rfl)
theorem ic_set (v : List Int) (n : Nat) (x : Int) (h : n < v.length) : setCells (icells v) n [.v (.int .i64 x)] = icells (v.set n x) := by
  unfold setCells icells
  rw [List.set_eq_take_append_cons_drop, if_pos h]
  simp
theorem ic_flat (n : Nat) : (List.replicate n [D.v (.int .i64 0)]).flatten = icells (List.replicate n 0) := by
  induction n with
  | zero => rfl
  | succ n ih => rw [List.replicate_succ, List.flatten_cons, ih, List.replicate_succ]; rfl
def incr (v : List Int) (r : List Nat) : List Int := r.foldl (fun v i => v.modify i (· + 1)) v
theorem incr_len (r : List Nat) : ∀ v : List Int, (incr v r).length = v.length := by
  induction r with
  | nil => intro v; rfl
  | cons i r ih => intro v; exact (ih _).trans (by simp)
theorem incr_get (r : List Nat) : ∀ (v : List Int) (j : Nat), (incr v r)[j]? = (v[j]?).map fun (n : Int) => n + ((r.count j : Nat) : Int) := by
  induction r with
  | nil => intro v j; cases h : v[j]? <;> simp [incr, h]
  | cons i r ih =>
    intro v j
    show (incr (v.modify i (· + 1)) r)[j]? = _
    rw [ih, List.getElem?_modify, List.count_cons]
    cases v[j]? with
    | none => rfl
    | some n =>
      by_cases h : i = j
      · subst h; simp; omega
      · simp [h]
theorem idxs_nodup (c : Term → Bool) (l : List Term) : (idxs c l).Nodup := by
  unfold idxs
  have : (l.zipIdx.map (·.2)).Nodup := by
    have h : l.zipIdx.map (·.2) = List.range' 0 l.length := by simp
    rw [h]
    exact List.nodup_range'
  exact List.Nodup.sublist (List.Sublist.map _ List.filter_sublist) this
theorem idxs_mem (c : Term → Bool) (l : List Term) (j : Nat) : j ∈ idxs c l ↔ ∃ t, l[j]? = some t ∧ c t = true := by
  unfold idxs
  rw [List.mem_map]
  constructor
  · rintro ⟨p, hp, rfl⟩
    obtain ⟨h1, h2⟩ := List.mem_filter.1 hp
    exact ⟨p.1, List.mem_zipIdx_iff_getElem?.1 h1, h2⟩
  · rintro ⟨t, h1, h2⟩
    exact ⟨(t, j), List.mem_filter.2 ⟨List.mem_zipIdx_iff_getElem?.2 h1, h2⟩, rfl⟩
theorem incr_idxs (c : Term → Bool) (l : List Term) (v : Term → Int) : incr (l.map v) (idxs c l) = l.map fun t => v t + if c t = true then 1 else 0 := by
  refine List.ext_getElem? fun j => ?_
  rw [incr_get, List.getElem?_map, List.getElem?_map]
  cases h : l[j]? with
  | none => rfl
  | some t =>
    simp only [Option.map_some, Option.some.injEq]
    congr 1
    by_cases hc : c t = true
    · rw [if_pos hc, (idxs_nodup c l).count, if_pos ((idxs_mem c l j).2 ⟨t, h, hc⟩)]
      rfl
    · rw [if_neg hc, List.count_eq_zero_of_not_mem fun hm => by
        obtain ⟨t', h1, h2⟩ := (idxs_mem c l j).1 hm
        rw [h] at h1
        simp only [Option.some.injEq] at h1
        subst h1
        exact hc h2]
      rfl
/-- how often a condition was ready, up to there -/
def tb (had : Nat) (t : Term) : Int := if ((andN (useBits (fields t)) had == 0) && !((had : Int) == 0)) = true then 1 else 0
theorem tb_step (had now : Nat) (t : Term) (hs : ∀ k < 32, had.testBit k = true → now.testBit k = true) (hn : now ≠ 0) : tb had t + (if c1 had now t = true then 1 else 0) = tb now t := by
  have hm : (andN (useBits (fields t)) had == 0) = true → (andN (useBits (fields t)) now == 0) = true := by
    rw [andN_zero, andN_zero, List.all_eq_true, List.all_eq_true]
    intro h k hk
    have h1 := h k hk
    have h2 := hs k (List.mem_range.1 hk)
    cases ha : (useBits (fields t)).testBit k <;> cases hb : had.testBit k <;> simp_all
  have hn' : ((now : Int) == 0) = false := by rw [beq_eq_false_iff_ne]; omega
  have e1 : (andN (useBits (fields t)) had != 0) = !(andN (useBits (fields t)) had == 0) := rfl
  unfold tb c1
  rw [hn', e1]
  cases h1 : (andN (useBits (fields t)) had == 0) <;> cases h2 : (andN (useBits (fields t)) now == 0) <;> cases h3 : ((had : Int) == 0) <;> simp_all
theorem tb_all (t : Term) : tb 4294967295 t = 1 := by
  have h1 : (andN (useBits (fields t)) 4294967295 == 0) = true := by
    rw [andN_zero, List.all_eq_true]
    intro k hk
    have : Nat.testBit 4294967295 k = true := by
      rw [show (4294967295 : Nat) = 2 ^ 32 - 1 from rfl, Nat.testBit_two_pow_sub_one]
      simpa using hk
    rw [this, Bool.or_true]
  unfold tb
  rw [h1]
  rfl
theorem tb_zero (t : Term) : tb 0 t = 0 := by
  unfold tb
  rw [if_neg]
  simp
def bytes (l : List Int) : List (List D) := l.map fun n => [D.v (.int .u8 n)]
theorem bytes_len (l : List Int) : (bytes l).length = l.length := by simp [bytes]
theorem bytes_get (l : List Int) (i : Nat) : (bytes l)[i]? = (l[i]?).map fun n => [D.v (.int .u8 n)] := by simp [bytes]
attribute [go_sem] ic_len ic_get ic_one ic_nobs ic_strip ic_set ic_flat bytes_len bytes_get
theorem idxs_lt {c : Term → Bool} {l : List Term} {j : Nat} (h : j ∈ idxs c l) : j < l.length := by
  obtain ⟨t, h1, _⟩ := (idxs_mem c l j).1 h
  exact (List.getElem?_eq_some_iff.1 h1).1
theorem incr_snoc (v : List Int) (r : List Nat) (j n : Nat) (x : Int) (h : r[j]? = some n) (hx : (incr v (r.take j))[n]? = some x) : incr v (r.take (j + 1)) = (incr v (r.take j)).set n (x + 1) := by
  rw [List.take_add_one, h]
  unfold incr at hx ⊢
  rw [Option.toList_some, List.foldl_append, List.foldl_cons, List.foldl_nil]
  generalize List.foldl (fun v i => v.modify i (· + 1)) v (r.take j) = u at hx
  obtain ⟨hlt, rfl⟩ := List.getElem?_eq_some_iff.1 hx
  refine List.ext_getElem (by simp) fun j h1 h2 => ?_
  rw [List.getElem_modify, List.getElem_set]
  split
  · rename_i e; subst e; rfl
  · rfl
theorem tb_le (had : Nat) (t : Term) : 0 ≤ tb had t ∧ tb had t ≤ 1 := by
  unfold tb
  split <;> decide
theorem incr_fit (l : List Term) (had : Nat) (r : List Nat) (m : Nat) (hr : r.length ≤ 40) (hm : m < l.length) : ∃ x, (incr (l.map (tb had)) r)[m]? = some x ∧ 0 ≤ x ∧ x ≤ 41 := by
  rw [incr_get, List.getElem?_map, List.getElem?_eq_getElem hm]
  have h1 := tb_le had l[m]
  have h2 := List.count_le_length (a := m) (l := r)
  exact ⟨_, rfl, by dsimp only; omega, by dsimp only; omega⟩
theorem once5 (l : List Term) (b : List Int) (hb : ∀ x ∈ b, 0 ≤ x ∧ x < 256) : FF 5 [.sl 11 (l.map tcells), .sl 1 (bytes b)] = some (.v (.bool true)) := by
  have hgr := great6_val l
  have hf := fixed7
  refine FF_val Tryd.func5 rfl rfl rfl ?_
  simp only [Tryd.ntmps5, Tryd.results5]
  cases hg : great6 l with
  | true =>
    rw [hg] at hgr
    repeat (first | refine dwp_seq ?_ | (refine dwp_region ?_; simp only [go_sem, ↓reduceIte, reduceCtorEq, Nat.reduceBEq, Nat.reduceEqDiff, Nat.reduceLT, Nat.reduceLeDiff, Nat.reduceAdd, Nat.reduceMul, Nat.reducePow, Nat.reduceSub, Int.reduceEq, Int.reduceLT, Int.reduceLE, Int.reduceToNat, Int.reduceMul, hgr, hf]) | (refine dwp_any ?_; simp only [go_sem, ↓reduceIte, reduceCtorEq, Nat.reduceBEq, Nat.reduceEqDiff, Nat.reduceLT, Nat.reduceLeDiff, Nat.reduceAdd, Nat.reduceMul, Nat.reducePow, Nat.reduceSub, Int.reduceEq, Int.reduceLT, Int.reduceLE, Int.reduceToNat, Int.reduceMul, hgr, hf]; refine ⟨by kernel_rfl, ?_⟩) | (refine dwp_skip ?_; simp only [go_sem, ↓reduceIte, reduceCtorEq, Nat.reduceBEq, Nat.reduceEqDiff, Nat.reduceLT, Nat.reduceLeDiff, Nat.reduceAdd, Nat.reduceMul, Nat.reducePow, Nat.reduceSub, Int.reduceEq, Int.reduceLT, Int.reduceLE, Int.reduceToNat, Int.reduceMul, hgr, hf]) | (refine dwp_exit ?_; simp only [go_sem, ↓reduceIte, reduceCtorEq, Nat.reduceBEq, Nat.reduceEqDiff, Nat.reduceLT, Nat.reduceLeDiff, Nat.reduceAdd, Nat.reduceMul, Nat.reducePow, Nat.reduceSub, Int.reduceEq, Int.reduceLT, Int.reduceLE, Int.reduceToNat, Int.reduceMul, hgr, hf]) | (refine dwp_ret ?_; simp only [go_sem, ↓reduceIte, reduceCtorEq, Nat.reduceBEq, Nat.reduceEqDiff, Nat.reduceLT, Nat.reduceLeDiff, Nat.reduceAdd, Nat.reduceMul, Nat.reducePow, Nat.reduceSub, Int.reduceEq, Int.reduceLT, Int.reduceLE, Int.reduceToNat, Int.reduceMul, hgr, hf]) | (refine dwp_if ?_; simp only [go_sem, ↓reduceIte, reduceCtorEq, Nat.reduceBEq, Nat.reduceEqDiff, Nat.reduceLT, Nat.reduceLeDiff, Nat.reduceAdd, Nat.reduceMul, Nat.reducePow, Nat.reduceSub, Int.reduceEq, Int.reduceLT, Int.reduceLE, Int.reduceToNat, Int.reduceMul, hgr, hf]) | refine dwp_block ?_)
  | false =>
  rw [hg] at hgr
  simp only [great6, Bool.or_eq_false_iff, decide_eq_false_iff_not, List.any_eq_false, Bool.not_eq_true] at hg
  have hl : l.length ≤ 40 := by omega
  by_cases h100 : (100 : Int) < (b.length : Int)
  · repeat (first | refine dwp_seq ?_ | (refine dwp_region ?_; simp only [go_sem, ↓reduceIte, reduceCtorEq, Nat.reduceBEq, Nat.reduceEqDiff, Nat.reduceLT, Nat.reduceLeDiff, Nat.reduceAdd, Nat.reduceMul, Nat.reducePow, Nat.reduceSub, Int.reduceEq, Int.reduceLT, Int.reduceLE, Int.reduceToNat, Int.reduceMul, hgr, hf, h100]) | (refine dwp_any ?_; simp only [go_sem, ↓reduceIte, reduceCtorEq, Nat.reduceBEq, Nat.reduceEqDiff, Nat.reduceLT, Nat.reduceLeDiff, Nat.reduceAdd, Nat.reduceMul, Nat.reducePow, Nat.reduceSub, Int.reduceEq, Int.reduceLT, Int.reduceLE, Int.reduceToNat, Int.reduceMul, hgr, hf, h100]; refine ⟨by kernel_rfl, ?_⟩) | (refine dwp_skip ?_; simp only [go_sem, ↓reduceIte, reduceCtorEq, Nat.reduceBEq, Nat.reduceEqDiff, Nat.reduceLT, Nat.reduceLeDiff, Nat.reduceAdd, Nat.reduceMul, Nat.reducePow, Nat.reduceSub, Int.reduceEq, Int.reduceLT, Int.reduceLE, Int.reduceToNat, Int.reduceMul, hgr, hf, h100]) | (refine dwp_exit ?_; simp only [go_sem, ↓reduceIte, reduceCtorEq, Nat.reduceBEq, Nat.reduceEqDiff, Nat.reduceLT, Nat.reduceLeDiff, Nat.reduceAdd, Nat.reduceMul, Nat.reducePow, Nat.reduceSub, Int.reduceEq, Int.reduceLT, Int.reduceLE, Int.reduceToNat, Int.reduceMul, hgr, hf, h100]) | (refine dwp_ret ?_; simp only [go_sem, ↓reduceIte, reduceCtorEq, Nat.reduceBEq, Nat.reduceEqDiff, Nat.reduceLT, Nat.reduceLeDiff, Nat.reduceAdd, Nat.reduceMul, Nat.reducePow, Nat.reduceSub, Int.reduceEq, Int.reduceLT, Int.reduceLE, Int.reduceToNat, Int.reduceMul, hgr, hf, h100]) | (refine dwp_if ?_; simp only [go_sem, ↓reduceIte, reduceCtorEq, Nat.reduceBEq, Nat.reduceEqDiff, Nat.reduceLT, Nat.reduceLeDiff, Nat.reduceAdd, Nat.reduceMul, Nat.reducePow, Nat.reduceSub, Int.reduceEq, Int.reduceLT, Int.reduceLE, Int.reduceToNat, Int.reduceMul, hgr, hf, h100]) | refine dwp_block ?_)
  have m1 : (l.length : Int) ≤ (maxLen : Int) := by unfold maxLen; omega
  have m2 : (l.length : Int) * ((8 : Nat) : Int) ≤ 140737488355328 := by omega
  repeat (first | refine dwp_seq ?_ | (refine dwp_region ?_; simp only [go_sem, ↓reduceIte, reduceCtorEq, Nat.reduceBEq, Nat.reduceEqDiff, Nat.reduceLT, Nat.reduceLeDiff, Nat.reduceAdd, Nat.reduceMul, Nat.reducePow, Nat.reduceSub, Int.reduceEq, Int.reduceLT, Int.reduceLE, Int.reduceToNat, Int.reduceMul, hgr, hf, h100, m1, m2]) | (refine dwp_any ?_; simp only [go_sem, ↓reduceIte, reduceCtorEq, Nat.reduceBEq, Nat.reduceEqDiff, Nat.reduceLT, Nat.reduceLeDiff, Nat.reduceAdd, Nat.reduceMul, Nat.reducePow, Nat.reduceSub, Int.reduceEq, Int.reduceLT, Int.reduceLE, Int.reduceToNat, Int.reduceMul, hgr, hf, h100, m1, m2]; refine ⟨by kernel_rfl, ?_⟩) | (refine dwp_skip ?_; simp only [go_sem, ↓reduceIte, reduceCtorEq, Nat.reduceBEq, Nat.reduceEqDiff, Nat.reduceLT, Nat.reduceLeDiff, Nat.reduceAdd, Nat.reduceMul, Nat.reducePow, Nat.reduceSub, Int.reduceEq, Int.reduceLT, Int.reduceLE, Int.reduceToNat, Int.reduceMul, hgr, hf, h100, m1, m2]) | (refine dwp_exit ?_; simp only [go_sem, ↓reduceIte, reduceCtorEq, Nat.reduceBEq, Nat.reduceEqDiff, Nat.reduceLT, Nat.reduceLeDiff, Nat.reduceAdd, Nat.reduceMul, Nat.reducePow, Nat.reduceSub, Int.reduceEq, Int.reduceLT, Int.reduceLE, Int.reduceToNat, Int.reduceMul, hgr, hf, h100, m1, m2]) | (refine dwp_ret ?_; simp only [go_sem, ↓reduceIte, reduceCtorEq, Nat.reduceBEq, Nat.reduceEqDiff, Nat.reduceLT, Nat.reduceLeDiff, Nat.reduceAdd, Nat.reduceMul, Nat.reducePow, Nat.reduceSub, Int.reduceEq, Int.reduceLT, Int.reduceLE, Int.reduceToNat, Int.reduceMul, hgr, hf, h100, m1, m2]) | (refine dwp_if ?_; simp only [go_sem, ↓reduceIte, reduceCtorEq, Nat.reduceBEq, Nat.reduceEqDiff, Nat.reduceLT, Nat.reduceLeDiff, Nat.reduceAdd, Nat.reduceMul, Nat.reducePow, Nat.reduceSub, Int.reduceEq, Int.reduceLT, Int.reduceLE, Int.reduceToNat, Int.reduceMul, hgr, hf, h100, m1, m2]) | refine dwp_block ?_)
  refine dwp_ind (fun n f g => ∃ i had, i + n = 32 ∧ had < 2 ^ 32 ∧ f 0 = .sl 11 (l.map tcells) ∧ f 1 = .sl 1 (bytes b) ∧ f 5 = .bs 27 0 1 l.length ∧ g 27 = some (icells (l.map (tb had))) ∧ f 6 = .v (.int .u32 (had : Nat)) ∧ f 28 = .v (.int .i64 (i : Nat))) 32 ⟨0, 0, by omega, by omega, ?_⟩ ?_
  · have e : List.replicate l.length (0 : Int) = l.map (tb 0) := by
      refine List.ext_getElem (by simp) fun i h1 h2 => ?_
      simp [tb_zero]
    simp [go_sem, ↓reduceIte, reduceCtorEq, Nat.reduceBEq, Nat.reduceEqDiff, Nat.reduceLT, Nat.reduceLeDiff, Nat.reduceAdd, Nat.reduceMul, Nat.reducePow, Nat.reduceSub, Int.reduceEq, Int.reduceLT, Int.reduceLE, Int.reduceToNat, Int.reduceMul, e]
  rintro n f g ⟨i, had, hi, hhad, f0, f1, f5, g27, f6, f28⟩ ih
  by_cases h : (i : Int) < 32
  · have fin : ∃ k : Nat, k < 32 ∧ ((i : Int) < (b.length : Int) → ∃ x, b[i]? = some x ∧ IntKind.u32.wrap (x.tmod 32) = (k : Int)) ∧ (¬ (i : Int) < (b.length : Int) → IntKind.u32.wrap (i : Int) = (k : Int)) := by
      by_cases hi2 : (i : Int) < (b.length : Int)
      · have hi3 : i < b.length := by omega
        have gx : b[i]? = some b[i] := List.getElem?_eq_getElem hi3
        have hx := hb b[i] (List.getElem_mem hi3)
        refine ⟨(b[i] % 32).toNat, by omega, fun _ => ⟨b[i], gx, ?_⟩, fun h => absurd hi2 h⟩
        rw [Int.tmod_eq_emod_of_nonneg hx.1, show b[i] % 32 = (((b[i] % 32).toNat : Nat) : Int) by omega]
        exact wrap_u32 (by omega)
      · exact ⟨i, by omega, fun h => absurd h hi2, fun _ => wrap_u32 (by omega)⟩
    obtain ⟨k, hk, hA, hB⟩ := fin
    have hkn : ¬ (k : Int) < 0 := by omega
    have hp : 2 ^ k < 2 ^ 32 := Nat.pow_lt_pow_right (by decide) hk
    have e1 : IntKind.u32.wrap (1 * 2 ^ (min k 32)) = ((2 ^ k : Nat) : Int) := by
      have hb : min k 32 = k := by omega
      rw [hb]
      have : (1 * 2 ^ k : Int) = ((2 ^ k : Nat) : Int) := by simp
      rw [this]
      exact wrap_u32 hp
    have e2 := ibit_or had (2 ^ k) hhad hp
    have hnow : had ||| 2 ^ k < 2 ^ 32 := Nat.or_lt_two_pow hhad hp
    have hsub : ∀ j < 32, had.testBit j = true → (had ||| 2 ^ k).testBit j = true := fun j _ hj => by rw [Nat.testBit_or, hj, Bool.true_or]
    have hne : had ||| 2 ^ k ≠ 0 := fun e => by
      have := congrArg (fun n : Nat => n.testBit k) e
      simp [Nat.testBit_or, Nat.testBit_two_pow] at this
    generalize had ||| 2 ^ k = now at e2 hnow hsub hne
    have hr := ready13 l had now hl hg.2
    have hst : (l.map fun t => tb had t + if c1 had now t = true then 1 else 0) = l.map (tb now) := List.map_congr_left fun t _ => tb_step had now t hsub hne
    have hin := incr_idxs (c1 had now) l (tb had)
    rw [hst] at hin
    have hrl := idxs_len (c1 had now) l
    have hrm : ∀ j ∈ idxs (c1 had now) l, j < l.length := fun j hj => idxs_lt hj
    generalize idxs (c1 had now) l = r at hr hin hrl hrm
    by_cases hi2 : (i : Int) < (b.length : Int)
    case pos =>
      obtain ⟨x, gx, ex⟩ := hA hi2
      cases hq : ((now : Int) == (had : Int))
      case true =>
        repeat (first | refine dwp_seq ?_ | (refine dwp_region ?_; simp only [go_sem, ↓reduceIte, reduceCtorEq, Nat.reduceBEq, Nat.reduceEqDiff, Nat.reduceLT, Nat.reduceLeDiff, Nat.reduceAdd, Nat.reduceMul, Nat.reducePow, Nat.reduceSub, Int.reduceEq, Int.reduceLT, Int.reduceLE, Int.reduceToNat, Int.reduceMul, f0, f1, f5, g27, f6, f28, h, hi2, gx, ex, hkn, e1, e2, hq, wrap_succ (show i + 1 < 2 ^ 63 by omega)]) | (refine dwp_any ?_; simp only [go_sem, ↓reduceIte, reduceCtorEq, Nat.reduceBEq, Nat.reduceEqDiff, Nat.reduceLT, Nat.reduceLeDiff, Nat.reduceAdd, Nat.reduceMul, Nat.reducePow, Nat.reduceSub, Int.reduceEq, Int.reduceLT, Int.reduceLE, Int.reduceToNat, Int.reduceMul, f0, f1, f5, g27, f6, f28, h, hi2, gx, ex, hkn, e1, e2, hq, wrap_succ (show i + 1 < 2 ^ 63 by omega)]; refine ⟨by kernel_rfl, ?_⟩) | (refine dwp_skip ?_; simp only [go_sem, ↓reduceIte, reduceCtorEq, Nat.reduceBEq, Nat.reduceEqDiff, Nat.reduceLT, Nat.reduceLeDiff, Nat.reduceAdd, Nat.reduceMul, Nat.reducePow, Nat.reduceSub, Int.reduceEq, Int.reduceLT, Int.reduceLE, Int.reduceToNat, Int.reduceMul, f0, f1, f5, g27, f6, f28, h, hi2, gx, ex, hkn, e1, e2, hq, wrap_succ (show i + 1 < 2 ^ 63 by omega)]) | (refine dwp_exit ?_; simp only [go_sem, ↓reduceIte, reduceCtorEq, Nat.reduceBEq, Nat.reduceEqDiff, Nat.reduceLT, Nat.reduceLeDiff, Nat.reduceAdd, Nat.reduceMul, Nat.reducePow, Nat.reduceSub, Int.reduceEq, Int.reduceLT, Int.reduceLE, Int.reduceToNat, Int.reduceMul, f0, f1, f5, g27, f6, f28, h, hi2, gx, ex, hkn, e1, e2, hq, wrap_succ (show i + 1 < 2 ^ 63 by omega)]) | (refine dwp_ret ?_; simp only [go_sem, ↓reduceIte, reduceCtorEq, Nat.reduceBEq, Nat.reduceEqDiff, Nat.reduceLT, Nat.reduceLeDiff, Nat.reduceAdd, Nat.reduceMul, Nat.reducePow, Nat.reduceSub, Int.reduceEq, Int.reduceLT, Int.reduceLE, Int.reduceToNat, Int.reduceMul, f0, f1, f5, g27, f6, f28, h, hi2, gx, ex, hkn, e1, e2, hq, wrap_succ (show i + 1 < 2 ^ 63 by omega)]) | (refine dwp_if ?_; simp only [go_sem, ↓reduceIte, reduceCtorEq, Nat.reduceBEq, Nat.reduceEqDiff, Nat.reduceLT, Nat.reduceLeDiff, Nat.reduceAdd, Nat.reduceMul, Nat.reducePow, Nat.reduceSub, Int.reduceEq, Int.reduceLT, Int.reduceLE, Int.reduceToNat, Int.reduceMul, f0, f1, f5, g27, f6, f28, h, hi2, gx, ex, hkn, e1, e2, hq, wrap_succ (show i + 1 < 2 ^ 63 by omega)]) | refine dwp_block ?_)
        exact ih (n - 1) _ _ (by omega) ⟨i + 1, had, by omega, hhad, by simp only [go_sem, ↓reduceIte, reduceCtorEq, Nat.reduceBEq, Nat.reduceEqDiff, Nat.reduceLT, Nat.reduceLeDiff, Nat.reduceAdd, Nat.reduceMul, Nat.reducePow, Nat.reduceSub, Int.reduceEq, Int.reduceLT, Int.reduceLE, Int.reduceToNat, Int.reduceMul, f0, f1, f5, g27, f6, f28]⟩
      case false =>
        repeat (first | refine dwp_seq ?_ | (refine dwp_region ?_; simp only [go_sem, ↓reduceIte, reduceCtorEq, Nat.reduceBEq, Nat.reduceEqDiff, Nat.reduceLT, Nat.reduceLeDiff, Nat.reduceAdd, Nat.reduceMul, Nat.reducePow, Nat.reduceSub, Int.reduceEq, Int.reduceLT, Int.reduceLE, Int.reduceToNat, Int.reduceMul, f0, f1, f5, g27, f6, f28, h, hi2, gx, ex, hkn, e1, e2, hq, hr]) | (refine dwp_any ?_; simp only [go_sem, ↓reduceIte, reduceCtorEq, Nat.reduceBEq, Nat.reduceEqDiff, Nat.reduceLT, Nat.reduceLeDiff, Nat.reduceAdd, Nat.reduceMul, Nat.reducePow, Nat.reduceSub, Int.reduceEq, Int.reduceLT, Int.reduceLE, Int.reduceToNat, Int.reduceMul, f0, f1, f5, g27, f6, f28, h, hi2, gx, ex, hkn, e1, e2, hq, hr]; refine ⟨by kernel_rfl, ?_⟩) | (refine dwp_skip ?_; simp only [go_sem, ↓reduceIte, reduceCtorEq, Nat.reduceBEq, Nat.reduceEqDiff, Nat.reduceLT, Nat.reduceLeDiff, Nat.reduceAdd, Nat.reduceMul, Nat.reducePow, Nat.reduceSub, Int.reduceEq, Int.reduceLT, Int.reduceLE, Int.reduceToNat, Int.reduceMul, f0, f1, f5, g27, f6, f28, h, hi2, gx, ex, hkn, e1, e2, hq, hr]) | (refine dwp_exit ?_; simp only [go_sem, ↓reduceIte, reduceCtorEq, Nat.reduceBEq, Nat.reduceEqDiff, Nat.reduceLT, Nat.reduceLeDiff, Nat.reduceAdd, Nat.reduceMul, Nat.reducePow, Nat.reduceSub, Int.reduceEq, Int.reduceLT, Int.reduceLE, Int.reduceToNat, Int.reduceMul, f0, f1, f5, g27, f6, f28, h, hi2, gx, ex, hkn, e1, e2, hq, hr]) | (refine dwp_ret ?_; simp only [go_sem, ↓reduceIte, reduceCtorEq, Nat.reduceBEq, Nat.reduceEqDiff, Nat.reduceLT, Nat.reduceLeDiff, Nat.reduceAdd, Nat.reduceMul, Nat.reducePow, Nat.reduceSub, Int.reduceEq, Int.reduceLT, Int.reduceLE, Int.reduceToNat, Int.reduceMul, f0, f1, f5, g27, f6, f28, h, hi2, gx, ex, hkn, e1, e2, hq, hr]) | (refine dwp_if ?_; simp only [go_sem, ↓reduceIte, reduceCtorEq, Nat.reduceBEq, Nat.reduceEqDiff, Nat.reduceLT, Nat.reduceLeDiff, Nat.reduceAdd, Nat.reduceMul, Nat.reducePow, Nat.reduceSub, Int.reduceEq, Int.reduceLT, Int.reduceLE, Int.reduceToNat, Int.reduceMul, f0, f1, f5, g27, f6, f28, h, hi2, gx, ex, hkn, e1, e2, hq, hr]) | refine dwp_block ?_)
        refine dwp_ind (fun n' f g => ∃ j, j + n' = r.length ∧ f 0 = .sl 11 (l.map tcells) ∧ f 1 = .sl 1 (bytes b) ∧ f 5 = .bs 27 0 1 l.length ∧ f 9 = .v (.int .u32 (now : Nat)) ∧ f 28 = .v (.int .i64 (i : Nat)) ∧ f 53 = .sl 1 (nats r) ∧ f 54 = .v (.int .i64 r.length) ∧ f 55 = .v (.int .i64 (j : Nat)) ∧ g 27 = some (icells (incr (l.map (tb had)) (r.take j)))) r.length ⟨0, by omega, ?_⟩ ?_
        · simp only [go_sem, ↓reduceIte, reduceCtorEq, Nat.reduceBEq, Nat.reduceEqDiff, Nat.reduceLT, Nat.reduceLeDiff, Nat.reduceAdd, Nat.reduceMul, Nat.reducePow, Nat.reduceSub, Int.reduceEq, Int.reduceLT, Int.reduceLE, Int.reduceToNat, Int.reduceMul, f0, f1, f5, f28, g27, List.take_zero]
          exact ⟨rfl, rfl⟩
        rintro n' f' g' ⟨j, hj, f0, f1, f5, f9, f28, fp, fq, fc, g27⟩ ih'
        by_cases hj2 : (j : Int) < (r.length : Int)
        · have hj1 : j < r.length := by omega
          have gk : r[j]? = some r[j] := List.getElem?_eq_getElem hj1
          have hm := hrm r[j] (List.getElem_mem hj1)
          generalize r[j] = m at gk hm
          have hmi : (m : Int) < (l.length : Int) := by omega
          obtain ⟨x, gx2, hx0, hx1⟩ := incr_fit l had (r.take j) m (by rw [List.length_take]; omega) hm
          have hlen : m < (incr (l.map (tb had)) (r.take j)).length := by rw [incr_len, List.length_map]; exact hm
          have hle : m + 1 ≤ (incr (l.map (tb had)) (r.take j)).length := hlen
          have hw : IntKind.i64.wrap (x + 1) = x + 1 := wrap_fit (by omega) (by omega)
          repeat (first | refine dwp_seq ?_ | (refine dwp_region ?_; simp only [go_sem, ↓reduceIte, reduceCtorEq, Nat.reduceBEq, Nat.reduceEqDiff, Nat.reduceLT, Nat.reduceLeDiff, Nat.reduceAdd, Nat.reduceMul, Nat.reducePow, Nat.reduceSub, Int.reduceEq, Int.reduceLT, Int.reduceLE, Int.reduceToNat, Int.reduceMul, f0, f1, f5, f9, f28, fp, fq, fc, g27, hj2, gk, hmi, gx2, hlen, hle, hw, wrap_succ (show j + 1 < 2 ^ 63 by omega)]) | (refine dwp_any ?_; simp only [go_sem, ↓reduceIte, reduceCtorEq, Nat.reduceBEq, Nat.reduceEqDiff, Nat.reduceLT, Nat.reduceLeDiff, Nat.reduceAdd, Nat.reduceMul, Nat.reducePow, Nat.reduceSub, Int.reduceEq, Int.reduceLT, Int.reduceLE, Int.reduceToNat, Int.reduceMul, f0, f1, f5, f9, f28, fp, fq, fc, g27, hj2, gk, hmi, gx2, hlen, hle, hw, wrap_succ (show j + 1 < 2 ^ 63 by omega)]; refine ⟨by kernel_rfl, ?_⟩) | (refine dwp_skip ?_; simp only [go_sem, ↓reduceIte, reduceCtorEq, Nat.reduceBEq, Nat.reduceEqDiff, Nat.reduceLT, Nat.reduceLeDiff, Nat.reduceAdd, Nat.reduceMul, Nat.reducePow, Nat.reduceSub, Int.reduceEq, Int.reduceLT, Int.reduceLE, Int.reduceToNat, Int.reduceMul, f0, f1, f5, f9, f28, fp, fq, fc, g27, hj2, gk, hmi, gx2, hlen, hle, hw, wrap_succ (show j + 1 < 2 ^ 63 by omega)]) | (refine dwp_exit ?_; simp only [go_sem, ↓reduceIte, reduceCtorEq, Nat.reduceBEq, Nat.reduceEqDiff, Nat.reduceLT, Nat.reduceLeDiff, Nat.reduceAdd, Nat.reduceMul, Nat.reducePow, Nat.reduceSub, Int.reduceEq, Int.reduceLT, Int.reduceLE, Int.reduceToNat, Int.reduceMul, f0, f1, f5, f9, f28, fp, fq, fc, g27, hj2, gk, hmi, gx2, hlen, hle, hw, wrap_succ (show j + 1 < 2 ^ 63 by omega)]) | (refine dwp_ret ?_; simp only [go_sem, ↓reduceIte, reduceCtorEq, Nat.reduceBEq, Nat.reduceEqDiff, Nat.reduceLT, Nat.reduceLeDiff, Nat.reduceAdd, Nat.reduceMul, Nat.reducePow, Nat.reduceSub, Int.reduceEq, Int.reduceLT, Int.reduceLE, Int.reduceToNat, Int.reduceMul, f0, f1, f5, f9, f28, fp, fq, fc, g27, hj2, gk, hmi, gx2, hlen, hle, hw, wrap_succ (show j + 1 < 2 ^ 63 by omega)]) | (refine dwp_if ?_; simp only [go_sem, ↓reduceIte, reduceCtorEq, Nat.reduceBEq, Nat.reduceEqDiff, Nat.reduceLT, Nat.reduceLeDiff, Nat.reduceAdd, Nat.reduceMul, Nat.reducePow, Nat.reduceSub, Int.reduceEq, Int.reduceLT, Int.reduceLE, Int.reduceToNat, Int.reduceMul, f0, f1, f5, f9, f28, fp, fq, fc, g27, hj2, gk, hmi, gx2, hlen, hle, hw, wrap_succ (show j + 1 < 2 ^ 63 by omega)]) | refine dwp_block ?_)
          refine ih' (n' - 1) _ _ (by omega) ⟨j + 1, by omega, ?_⟩
          simp only [go_sem, ↓reduceIte, reduceCtorEq, Nat.reduceBEq, Nat.reduceEqDiff, Nat.reduceLT, Nat.reduceLeDiff, Nat.reduceAdd, Nat.reduceMul, Nat.reducePow, Nat.reduceSub, Int.reduceEq, Int.reduceLT, Int.reduceLE, Int.reduceToNat, Int.reduceMul, f0, f1, f5, f9, f28, fp, fq, fc, g27]
          rw [incr_snoc _ _ _ _ _ gk gx2]
        · have hjr : j = r.length := by omega
          rw [hjr, List.take_length, hin] at g27
          repeat (first | refine dwp_seq ?_ | (refine dwp_region ?_; simp only [go_sem, ↓reduceIte, reduceCtorEq, Nat.reduceBEq, Nat.reduceEqDiff, Nat.reduceLT, Nat.reduceLeDiff, Nat.reduceAdd, Nat.reduceMul, Nat.reducePow, Nat.reduceSub, Int.reduceEq, Int.reduceLT, Int.reduceLE, Int.reduceToNat, Int.reduceMul, f0, f1, f5, f9, f28, fp, fq, fc, g27, hj2, wrap_succ (show i + 1 < 2 ^ 63 by omega)]) | (refine dwp_any ?_; simp only [go_sem, ↓reduceIte, reduceCtorEq, Nat.reduceBEq, Nat.reduceEqDiff, Nat.reduceLT, Nat.reduceLeDiff, Nat.reduceAdd, Nat.reduceMul, Nat.reducePow, Nat.reduceSub, Int.reduceEq, Int.reduceLT, Int.reduceLE, Int.reduceToNat, Int.reduceMul, f0, f1, f5, f9, f28, fp, fq, fc, g27, hj2, wrap_succ (show i + 1 < 2 ^ 63 by omega)]; refine ⟨by kernel_rfl, ?_⟩) | (refine dwp_skip ?_; simp only [go_sem, ↓reduceIte, reduceCtorEq, Nat.reduceBEq, Nat.reduceEqDiff, Nat.reduceLT, Nat.reduceLeDiff, Nat.reduceAdd, Nat.reduceMul, Nat.reducePow, Nat.reduceSub, Int.reduceEq, Int.reduceLT, Int.reduceLE, Int.reduceToNat, Int.reduceMul, f0, f1, f5, f9, f28, fp, fq, fc, g27, hj2, wrap_succ (show i + 1 < 2 ^ 63 by omega)]) | (refine dwp_exit ?_; simp only [go_sem, ↓reduceIte, reduceCtorEq, Nat.reduceBEq, Nat.reduceEqDiff, Nat.reduceLT, Nat.reduceLeDiff, Nat.reduceAdd, Nat.reduceMul, Nat.reducePow, Nat.reduceSub, Int.reduceEq, Int.reduceLT, Int.reduceLE, Int.reduceToNat, Int.reduceMul, f0, f1, f5, f9, f28, fp, fq, fc, g27, hj2, wrap_succ (show i + 1 < 2 ^ 63 by omega)]) | (refine dwp_ret ?_; simp only [go_sem, ↓reduceIte, reduceCtorEq, Nat.reduceBEq, Nat.reduceEqDiff, Nat.reduceLT, Nat.reduceLeDiff, Nat.reduceAdd, Nat.reduceMul, Nat.reducePow, Nat.reduceSub, Int.reduceEq, Int.reduceLT, Int.reduceLE, Int.reduceToNat, Int.reduceMul, f0, f1, f5, f9, f28, fp, fq, fc, g27, hj2, wrap_succ (show i + 1 < 2 ^ 63 by omega)]) | (refine dwp_if ?_; simp only [go_sem, ↓reduceIte, reduceCtorEq, Nat.reduceBEq, Nat.reduceEqDiff, Nat.reduceLT, Nat.reduceLeDiff, Nat.reduceAdd, Nat.reduceMul, Nat.reducePow, Nat.reduceSub, Int.reduceEq, Int.reduceLT, Int.reduceLE, Int.reduceToNat, Int.reduceMul, f0, f1, f5, f9, f28, fp, fq, fc, g27, hj2, wrap_succ (show i + 1 < 2 ^ 63 by omega)]) | refine dwp_block ?_)
          exact ih (n - 1) _ _ (by omega) ⟨i + 1, now, by omega, hnow, by simp only [go_sem, ↓reduceIte, reduceCtorEq, Nat.reduceBEq, Nat.reduceEqDiff, Nat.reduceLT, Nat.reduceLeDiff, Nat.reduceAdd, Nat.reduceMul, Nat.reducePow, Nat.reduceSub, Int.reduceEq, Int.reduceLT, Int.reduceLE, Int.reduceToNat, Int.reduceMul, f0, f1, f5, f9, f28, g27]⟩
    case neg =>
      have ex := hB hi2
      cases hq : ((now : Int) == (had : Int))
      case true =>
        repeat (first | refine dwp_seq ?_ | (refine dwp_region ?_; simp only [go_sem, ↓reduceIte, reduceCtorEq, Nat.reduceBEq, Nat.reduceEqDiff, Nat.reduceLT, Nat.reduceLeDiff, Nat.reduceAdd, Nat.reduceMul, Nat.reducePow, Nat.reduceSub, Int.reduceEq, Int.reduceLT, Int.reduceLE, Int.reduceToNat, Int.reduceMul, f0, f1, f5, g27, f6, f28, h, hi2, ex, hkn, e1, e2, hq, wrap_succ (show i + 1 < 2 ^ 63 by omega)]) | (refine dwp_any ?_; simp only [go_sem, ↓reduceIte, reduceCtorEq, Nat.reduceBEq, Nat.reduceEqDiff, Nat.reduceLT, Nat.reduceLeDiff, Nat.reduceAdd, Nat.reduceMul, Nat.reducePow, Nat.reduceSub, Int.reduceEq, Int.reduceLT, Int.reduceLE, Int.reduceToNat, Int.reduceMul, f0, f1, f5, g27, f6, f28, h, hi2, ex, hkn, e1, e2, hq, wrap_succ (show i + 1 < 2 ^ 63 by omega)]; refine ⟨by kernel_rfl, ?_⟩) | (refine dwp_skip ?_; simp only [go_sem, ↓reduceIte, reduceCtorEq, Nat.reduceBEq, Nat.reduceEqDiff, Nat.reduceLT, Nat.reduceLeDiff, Nat.reduceAdd, Nat.reduceMul, Nat.reducePow, Nat.reduceSub, Int.reduceEq, Int.reduceLT, Int.reduceLE, Int.reduceToNat, Int.reduceMul, f0, f1, f5, g27, f6, f28, h, hi2, ex, hkn, e1, e2, hq, wrap_succ (show i + 1 < 2 ^ 63 by omega)]) | (refine dwp_exit ?_; simp only [go_sem, ↓reduceIte, reduceCtorEq, Nat.reduceBEq, Nat.reduceEqDiff, Nat.reduceLT, Nat.reduceLeDiff, Nat.reduceAdd, Nat.reduceMul, Nat.reducePow, Nat.reduceSub, Int.reduceEq, Int.reduceLT, Int.reduceLE, Int.reduceToNat, Int.reduceMul, f0, f1, f5, g27, f6, f28, h, hi2, ex, hkn, e1, e2, hq, wrap_succ (show i + 1 < 2 ^ 63 by omega)]) | (refine dwp_ret ?_; simp only [go_sem, ↓reduceIte, reduceCtorEq, Nat.reduceBEq, Nat.reduceEqDiff, Nat.reduceLT, Nat.reduceLeDiff, Nat.reduceAdd, Nat.reduceMul, Nat.reducePow, Nat.reduceSub, Int.reduceEq, Int.reduceLT, Int.reduceLE, Int.reduceToNat, Int.reduceMul, f0, f1, f5, g27, f6, f28, h, hi2, ex, hkn, e1, e2, hq, wrap_succ (show i + 1 < 2 ^ 63 by omega)]) | (refine dwp_if ?_; simp only [go_sem, ↓reduceIte, reduceCtorEq, Nat.reduceBEq, Nat.reduceEqDiff, Nat.reduceLT, Nat.reduceLeDiff, Nat.reduceAdd, Nat.reduceMul, Nat.reducePow, Nat.reduceSub, Int.reduceEq, Int.reduceLT, Int.reduceLE, Int.reduceToNat, Int.reduceMul, f0, f1, f5, g27, f6, f28, h, hi2, ex, hkn, e1, e2, hq, wrap_succ (show i + 1 < 2 ^ 63 by omega)]) | refine dwp_block ?_)
        exact ih (n - 1) _ _ (by omega) ⟨i + 1, had, by omega, hhad, by simp only [go_sem, ↓reduceIte, reduceCtorEq, Nat.reduceBEq, Nat.reduceEqDiff, Nat.reduceLT, Nat.reduceLeDiff, Nat.reduceAdd, Nat.reduceMul, Nat.reducePow, Nat.reduceSub, Int.reduceEq, Int.reduceLT, Int.reduceLE, Int.reduceToNat, Int.reduceMul, f0, f1, f5, g27, f6, f28]⟩
      case false =>
        repeat (first | refine dwp_seq ?_ | (refine dwp_region ?_; simp only [go_sem, ↓reduceIte, reduceCtorEq, Nat.reduceBEq, Nat.reduceEqDiff, Nat.reduceLT, Nat.reduceLeDiff, Nat.reduceAdd, Nat.reduceMul, Nat.reducePow, Nat.reduceSub, Int.reduceEq, Int.reduceLT, Int.reduceLE, Int.reduceToNat, Int.reduceMul, f0, f1, f5, g27, f6, f28, h, hi2, ex, hkn, e1, e2, hq, hr]) | (refine dwp_any ?_; simp only [go_sem, ↓reduceIte, reduceCtorEq, Nat.reduceBEq, Nat.reduceEqDiff, Nat.reduceLT, Nat.reduceLeDiff, Nat.reduceAdd, Nat.reduceMul, Nat.reducePow, Nat.reduceSub, Int.reduceEq, Int.reduceLT, Int.reduceLE, Int.reduceToNat, Int.reduceMul, f0, f1, f5, g27, f6, f28, h, hi2, ex, hkn, e1, e2, hq, hr]; refine ⟨by kernel_rfl, ?_⟩) | (refine dwp_skip ?_; simp only [go_sem, ↓reduceIte, reduceCtorEq, Nat.reduceBEq, Nat.reduceEqDiff, Nat.reduceLT, Nat.reduceLeDiff, Nat.reduceAdd, Nat.reduceMul, Nat.reducePow, Nat.reduceSub, Int.reduceEq, Int.reduceLT, Int.reduceLE, Int.reduceToNat, Int.reduceMul, f0, f1, f5, g27, f6, f28, h, hi2, ex, hkn, e1, e2, hq, hr]) | (refine dwp_exit ?_; simp only [go_sem, ↓reduceIte, reduceCtorEq, Nat.reduceBEq, Nat.reduceEqDiff, Nat.reduceLT, Nat.reduceLeDiff, Nat.reduceAdd, Nat.reduceMul, Nat.reducePow, Nat.reduceSub, Int.reduceEq, Int.reduceLT, Int.reduceLE, Int.reduceToNat, Int.reduceMul, f0, f1, f5, g27, f6, f28, h, hi2, ex, hkn, e1, e2, hq, hr]) | (refine dwp_ret ?_; simp only [go_sem, ↓reduceIte, reduceCtorEq, Nat.reduceBEq, Nat.reduceEqDiff, Nat.reduceLT, Nat.reduceLeDiff, Nat.reduceAdd, Nat.reduceMul, Nat.reducePow, Nat.reduceSub, Int.reduceEq, Int.reduceLT, Int.reduceLE, Int.reduceToNat, Int.reduceMul, f0, f1, f5, g27, f6, f28, h, hi2, ex, hkn, e1, e2, hq, hr]) | (refine dwp_if ?_; simp only [go_sem, ↓reduceIte, reduceCtorEq, Nat.reduceBEq, Nat.reduceEqDiff, Nat.reduceLT, Nat.reduceLeDiff, Nat.reduceAdd, Nat.reduceMul, Nat.reducePow, Nat.reduceSub, Int.reduceEq, Int.reduceLT, Int.reduceLE, Int.reduceToNat, Int.reduceMul, f0, f1, f5, g27, f6, f28, h, hi2, ex, hkn, e1, e2, hq, hr]) | refine dwp_block ?_)
        refine dwp_ind (fun n' f g => ∃ j, j + n' = r.length ∧ f 0 = .sl 11 (l.map tcells) ∧ f 1 = .sl 1 (bytes b) ∧ f 5 = .bs 27 0 1 l.length ∧ f 9 = .v (.int .u32 (now : Nat)) ∧ f 28 = .v (.int .i64 (i : Nat)) ∧ f 53 = .sl 1 (nats r) ∧ f 54 = .v (.int .i64 r.length) ∧ f 55 = .v (.int .i64 (j : Nat)) ∧ g 27 = some (icells (incr (l.map (tb had)) (r.take j)))) r.length ⟨0, by omega, ?_⟩ ?_
        · simp only [go_sem, ↓reduceIte, reduceCtorEq, Nat.reduceBEq, Nat.reduceEqDiff, Nat.reduceLT, Nat.reduceLeDiff, Nat.reduceAdd, Nat.reduceMul, Nat.reducePow, Nat.reduceSub, Int.reduceEq, Int.reduceLT, Int.reduceLE, Int.reduceToNat, Int.reduceMul, f0, f1, f5, f28, g27, List.take_zero]
          exact ⟨rfl, rfl⟩
        rintro n' f' g' ⟨j, hj, f0, f1, f5, f9, f28, fp, fq, fc, g27⟩ ih'
        by_cases hj2 : (j : Int) < (r.length : Int)
        · have hj1 : j < r.length := by omega
          have gk : r[j]? = some r[j] := List.getElem?_eq_getElem hj1
          have hm := hrm r[j] (List.getElem_mem hj1)
          generalize r[j] = m at gk hm
          have hmi : (m : Int) < (l.length : Int) := by omega
          obtain ⟨x, gx2, hx0, hx1⟩ := incr_fit l had (r.take j) m (by rw [List.length_take]; omega) hm
          have hlen : m < (incr (l.map (tb had)) (r.take j)).length := by rw [incr_len, List.length_map]; exact hm
          have hle : m + 1 ≤ (incr (l.map (tb had)) (r.take j)).length := hlen
          have hw : IntKind.i64.wrap (x + 1) = x + 1 := wrap_fit (by omega) (by omega)
          repeat (first | refine dwp_seq ?_ | (refine dwp_region ?_; simp only [go_sem, ↓reduceIte, reduceCtorEq, Nat.reduceBEq, Nat.reduceEqDiff, Nat.reduceLT, Nat.reduceLeDiff, Nat.reduceAdd, Nat.reduceMul, Nat.reducePow, Nat.reduceSub, Int.reduceEq, Int.reduceLT, Int.reduceLE, Int.reduceToNat, Int.reduceMul, f0, f1, f5, f9, f28, fp, fq, fc, g27, hj2, gk, hmi, gx2, hlen, hle, hw, wrap_succ (show j + 1 < 2 ^ 63 by omega)]) | (refine dwp_any ?_; simp only [go_sem, ↓reduceIte, reduceCtorEq, Nat.reduceBEq, Nat.reduceEqDiff, Nat.reduceLT, Nat.reduceLeDiff, Nat.reduceAdd, Nat.reduceMul, Nat.reducePow, Nat.reduceSub, Int.reduceEq, Int.reduceLT, Int.reduceLE, Int.reduceToNat, Int.reduceMul, f0, f1, f5, f9, f28, fp, fq, fc, g27, hj2, gk, hmi, gx2, hlen, hle, hw, wrap_succ (show j + 1 < 2 ^ 63 by omega)]; refine ⟨by kernel_rfl, ?_⟩) | (refine dwp_skip ?_; simp only [go_sem, ↓reduceIte, reduceCtorEq, Nat.reduceBEq, Nat.reduceEqDiff, Nat.reduceLT, Nat.reduceLeDiff, Nat.reduceAdd, Nat.reduceMul, Nat.reducePow, Nat.reduceSub, Int.reduceEq, Int.reduceLT, Int.reduceLE, Int.reduceToNat, Int.reduceMul, f0, f1, f5, f9, f28, fp, fq, fc, g27, hj2, gk, hmi, gx2, hlen, hle, hw, wrap_succ (show j + 1 < 2 ^ 63 by omega)]) | (refine dwp_exit ?_; simp only [go_sem, ↓reduceIte, reduceCtorEq, Nat.reduceBEq, Nat.reduceEqDiff, Nat.reduceLT, Nat.reduceLeDiff, Nat.reduceAdd, Nat.reduceMul, Nat.reducePow, Nat.reduceSub, Int.reduceEq, Int.reduceLT, Int.reduceLE, Int.reduceToNat, Int.reduceMul, f0, f1, f5, f9, f28, fp, fq, fc, g27, hj2, gk, hmi, gx2, hlen, hle, hw, wrap_succ (show j + 1 < 2 ^ 63 by omega)]) | (refine dwp_ret ?_; simp only [go_sem, ↓reduceIte, reduceCtorEq, Nat.reduceBEq, Nat.reduceEqDiff, Nat.reduceLT, Nat.reduceLeDiff, Nat.reduceAdd, Nat.reduceMul, Nat.reducePow, Nat.reduceSub, Int.reduceEq, Int.reduceLT, Int.reduceLE, Int.reduceToNat, Int.reduceMul, f0, f1, f5, f9, f28, fp, fq, fc, g27, hj2, gk, hmi, gx2, hlen, hle, hw, wrap_succ (show j + 1 < 2 ^ 63 by omega)]) | (refine dwp_if ?_; simp only [go_sem, ↓reduceIte, reduceCtorEq, Nat.reduceBEq, Nat.reduceEqDiff, Nat.reduceLT, Nat.reduceLeDiff, Nat.reduceAdd, Nat.reduceMul, Nat.reducePow, Nat.reduceSub, Int.reduceEq, Int.reduceLT, Int.reduceLE, Int.reduceToNat, Int.reduceMul, f0, f1, f5, f9, f28, fp, fq, fc, g27, hj2, gk, hmi, gx2, hlen, hle, hw, wrap_succ (show j + 1 < 2 ^ 63 by omega)]) | refine dwp_block ?_)
          refine ih' (n' - 1) _ _ (by omega) ⟨j + 1, by omega, ?_⟩
          simp only [go_sem, ↓reduceIte, reduceCtorEq, Nat.reduceBEq, Nat.reduceEqDiff, Nat.reduceLT, Nat.reduceLeDiff, Nat.reduceAdd, Nat.reduceMul, Nat.reducePow, Nat.reduceSub, Int.reduceEq, Int.reduceLT, Int.reduceLE, Int.reduceToNat, Int.reduceMul, f0, f1, f5, f9, f28, fp, fq, fc, g27]
          rw [incr_snoc _ _ _ _ _ gk gx2]
        · have hjr : j = r.length := by omega
          rw [hjr, List.take_length, hin] at g27
          repeat (first | refine dwp_seq ?_ | (refine dwp_region ?_; simp only [go_sem, ↓reduceIte, reduceCtorEq, Nat.reduceBEq, Nat.reduceEqDiff, Nat.reduceLT, Nat.reduceLeDiff, Nat.reduceAdd, Nat.reduceMul, Nat.reducePow, Nat.reduceSub, Int.reduceEq, Int.reduceLT, Int.reduceLE, Int.reduceToNat, Int.reduceMul, f0, f1, f5, f9, f28, fp, fq, fc, g27, hj2, wrap_succ (show i + 1 < 2 ^ 63 by omega)]) | (refine dwp_any ?_; simp only [go_sem, ↓reduceIte, reduceCtorEq, Nat.reduceBEq, Nat.reduceEqDiff, Nat.reduceLT, Nat.reduceLeDiff, Nat.reduceAdd, Nat.reduceMul, Nat.reducePow, Nat.reduceSub, Int.reduceEq, Int.reduceLT, Int.reduceLE, Int.reduceToNat, Int.reduceMul, f0, f1, f5, f9, f28, fp, fq, fc, g27, hj2, wrap_succ (show i + 1 < 2 ^ 63 by omega)]; refine ⟨by kernel_rfl, ?_⟩) | (refine dwp_skip ?_; simp only [go_sem, ↓reduceIte, reduceCtorEq, Nat.reduceBEq, Nat.reduceEqDiff, Nat.reduceLT, Nat.reduceLeDiff, Nat.reduceAdd, Nat.reduceMul, Nat.reducePow, Nat.reduceSub, Int.reduceEq, Int.reduceLT, Int.reduceLE, Int.reduceToNat, Int.reduceMul, f0, f1, f5, f9, f28, fp, fq, fc, g27, hj2, wrap_succ (show i + 1 < 2 ^ 63 by omega)]) | (refine dwp_exit ?_; simp only [go_sem, ↓reduceIte, reduceCtorEq, Nat.reduceBEq, Nat.reduceEqDiff, Nat.reduceLT, Nat.reduceLeDiff, Nat.reduceAdd, Nat.reduceMul, Nat.reducePow, Nat.reduceSub, Int.reduceEq, Int.reduceLT, Int.reduceLE, Int.reduceToNat, Int.reduceMul, f0, f1, f5, f9, f28, fp, fq, fc, g27, hj2, wrap_succ (show i + 1 < 2 ^ 63 by omega)]) | (refine dwp_ret ?_; simp only [go_sem, ↓reduceIte, reduceCtorEq, Nat.reduceBEq, Nat.reduceEqDiff, Nat.reduceLT, Nat.reduceLeDiff, Nat.reduceAdd, Nat.reduceMul, Nat.reducePow, Nat.reduceSub, Int.reduceEq, Int.reduceLT, Int.reduceLE, Int.reduceToNat, Int.reduceMul, f0, f1, f5, f9, f28, fp, fq, fc, g27, hj2, wrap_succ (show i + 1 < 2 ^ 63 by omega)]) | (refine dwp_if ?_; simp only [go_sem, ↓reduceIte, reduceCtorEq, Nat.reduceBEq, Nat.reduceEqDiff, Nat.reduceLT, Nat.reduceLeDiff, Nat.reduceAdd, Nat.reduceMul, Nat.reducePow, Nat.reduceSub, Int.reduceEq, Int.reduceLT, Int.reduceLE, Int.reduceToNat, Int.reduceMul, f0, f1, f5, f9, f28, fp, fq, fc, g27, hj2, wrap_succ (show i + 1 < 2 ^ 63 by omega)]) | refine dwp_block ?_)
          exact ih (n - 1) _ _ (by omega) ⟨i + 1, now, by omega, hnow, by simp only [go_sem, ↓reduceIte, reduceCtorEq, Nat.reduceBEq, Nat.reduceEqDiff, Nat.reduceLT, Nat.reduceLeDiff, Nat.reduceAdd, Nat.reduceMul, Nat.reducePow, Nat.reduceSub, Int.reduceEq, Int.reduceLT, Int.reduceLE, Int.reduceToNat, Int.reduceMul, f0, f1, f5, f9, f28, g27]⟩
  · have hr := ready13 l had 4294967295 hl hg.2
    have hst : (l.map fun t => tb had t + if c1 had 4294967295 t = true then 1 else 0) = l.map (tb 4294967295) := List.map_congr_left fun t _ => tb_step had 4294967295 t (fun k hk _ => by
      rw [show (4294967295 : Nat) = 2 ^ 32 - 1 from rfl, Nat.testBit_two_pow_sub_one]
      simpa using hk) (by decide)
    have hin := incr_idxs (c1 had 4294967295) l (tb had)
    rw [hst] at hin
    rw [show ((4294967295 : Nat) : Int) = 4294967295 from rfl] at hr
    have hrl := idxs_len (c1 had 4294967295) l
    have hrm : ∀ j ∈ idxs (c1 had 4294967295) l, j < l.length := fun j hj => idxs_lt hj
    generalize idxs (c1 had 4294967295) l = r at hr hin hrl hrm
    have hall : l.map (tb 4294967295) = List.replicate l.length 1 := by
      refine List.ext_getElem (by simp) fun i h1 h2 => ?_
      simp [tb_all]
    cases hq : ((had : Int) != 4294967295)
    case false =>
      have hh : had = 4294967295 := by
        simp only [bne_eq_false_iff_eq] at hq
        omega
      subst hh
      rw [hall] at g27
      repeat (first | refine dwp_seq ?_ | (refine dwp_region ?_; simp only [go_sem, ↓reduceIte, reduceCtorEq, Nat.reduceBEq, Nat.reduceEqDiff, Nat.reduceLT, Nat.reduceLeDiff, Nat.reduceAdd, Nat.reduceMul, Nat.reducePow, Nat.reduceSub, Int.reduceEq, Int.reduceLT, Int.reduceLE, Int.reduceToNat, Int.reduceMul, f0, f1, f5, g27, f6, f28, h, hq, hf]) | (refine dwp_any ?_; simp only [go_sem, ↓reduceIte, reduceCtorEq, Nat.reduceBEq, Nat.reduceEqDiff, Nat.reduceLT, Nat.reduceLeDiff, Nat.reduceAdd, Nat.reduceMul, Nat.reducePow, Nat.reduceSub, Int.reduceEq, Int.reduceLT, Int.reduceLE, Int.reduceToNat, Int.reduceMul, f0, f1, f5, g27, f6, f28, h, hq, hf]; refine ⟨by kernel_rfl, ?_⟩) | (refine dwp_skip ?_; simp only [go_sem, ↓reduceIte, reduceCtorEq, Nat.reduceBEq, Nat.reduceEqDiff, Nat.reduceLT, Nat.reduceLeDiff, Nat.reduceAdd, Nat.reduceMul, Nat.reducePow, Nat.reduceSub, Int.reduceEq, Int.reduceLT, Int.reduceLE, Int.reduceToNat, Int.reduceMul, f0, f1, f5, g27, f6, f28, h, hq, hf]) | (refine dwp_exit ?_; simp only [go_sem, ↓reduceIte, reduceCtorEq, Nat.reduceBEq, Nat.reduceEqDiff, Nat.reduceLT, Nat.reduceLeDiff, Nat.reduceAdd, Nat.reduceMul, Nat.reducePow, Nat.reduceSub, Int.reduceEq, Int.reduceLT, Int.reduceLE, Int.reduceToNat, Int.reduceMul, f0, f1, f5, g27, f6, f28, h, hq, hf]) | (refine dwp_ret ?_; simp only [go_sem, ↓reduceIte, reduceCtorEq, Nat.reduceBEq, Nat.reduceEqDiff, Nat.reduceLT, Nat.reduceLeDiff, Nat.reduceAdd, Nat.reduceMul, Nat.reducePow, Nat.reduceSub, Int.reduceEq, Int.reduceLT, Int.reduceLE, Int.reduceToNat, Int.reduceMul, f0, f1, f5, g27, f6, f28, h, hq, hf]) | (refine dwp_if ?_; simp only [go_sem, ↓reduceIte, reduceCtorEq, Nat.reduceBEq, Nat.reduceEqDiff, Nat.reduceLT, Nat.reduceLeDiff, Nat.reduceAdd, Nat.reduceMul, Nat.reducePow, Nat.reduceSub, Int.reduceEq, Int.reduceLT, Int.reduceLE, Int.reduceToNat, Int.reduceMul, f0, f1, f5, g27, f6, f28, h, hq, hf]) | refine dwp_block ?_)
      refine dwp_ind (fun n' f g => ∃ j, j + n' = l.length ∧ f 0 = .sl 11 (l.map tcells) ∧ f 87 = .bs 27 0 1 l.length ∧ f 88 = .v (.int .i64 l.length) ∧ f 89 = .v (.int .i64 (j : Nat)) ∧ g 27 = some (icells (List.replicate l.length 1))) l.length ⟨0, by omega, ?_⟩ ?_
      · simp only [go_sem, ↓reduceIte, reduceCtorEq, Nat.reduceBEq, Nat.reduceEqDiff, Nat.reduceLT, Nat.reduceLeDiff, Nat.reduceAdd, Nat.reduceMul, Nat.reducePow, Nat.reduceSub, Int.reduceEq, Int.reduceLT, Int.reduceLE, Int.reduceToNat, Int.reduceMul, f0, f5, g27]
        rfl
      rintro n2 f2 g2 ⟨j, hj, f0, f87, f88, f89, g27⟩ ih2
      by_cases hj2 : (j : Int) < (l.length : Int)
      · have hj1 : j < l.length := by omega
        have gr : (List.replicate l.length (1 : Int))[j]? = some 1 := by rw [List.getElem?_replicate, if_pos hj1]
        repeat (first | refine dwp_seq ?_ | (refine dwp_region ?_; simp only [go_sem, ↓reduceIte, reduceCtorEq, Nat.reduceBEq, Nat.reduceEqDiff, Nat.reduceLT, Nat.reduceLeDiff, Nat.reduceAdd, Nat.reduceMul, Nat.reducePow, Nat.reduceSub, Int.reduceEq, Int.reduceLT, Int.reduceLE, Int.reduceToNat, Int.reduceMul, f0, f87, f88, f89, g27, hj2, gr, wrap_succ (show j + 1 < 2 ^ 63 by omega)]) | (refine dwp_any ?_; simp only [go_sem, ↓reduceIte, reduceCtorEq, Nat.reduceBEq, Nat.reduceEqDiff, Nat.reduceLT, Nat.reduceLeDiff, Nat.reduceAdd, Nat.reduceMul, Nat.reducePow, Nat.reduceSub, Int.reduceEq, Int.reduceLT, Int.reduceLE, Int.reduceToNat, Int.reduceMul, f0, f87, f88, f89, g27, hj2, gr, wrap_succ (show j + 1 < 2 ^ 63 by omega)]; refine ⟨by kernel_rfl, ?_⟩) | (refine dwp_skip ?_; simp only [go_sem, ↓reduceIte, reduceCtorEq, Nat.reduceBEq, Nat.reduceEqDiff, Nat.reduceLT, Nat.reduceLeDiff, Nat.reduceAdd, Nat.reduceMul, Nat.reducePow, Nat.reduceSub, Int.reduceEq, Int.reduceLT, Int.reduceLE, Int.reduceToNat, Int.reduceMul, f0, f87, f88, f89, g27, hj2, gr, wrap_succ (show j + 1 < 2 ^ 63 by omega)]) | (refine dwp_exit ?_; simp only [go_sem, ↓reduceIte, reduceCtorEq, Nat.reduceBEq, Nat.reduceEqDiff, Nat.reduceLT, Nat.reduceLeDiff, Nat.reduceAdd, Nat.reduceMul, Nat.reducePow, Nat.reduceSub, Int.reduceEq, Int.reduceLT, Int.reduceLE, Int.reduceToNat, Int.reduceMul, f0, f87, f88, f89, g27, hj2, gr, wrap_succ (show j + 1 < 2 ^ 63 by omega)]) | (refine dwp_ret ?_; simp only [go_sem, ↓reduceIte, reduceCtorEq, Nat.reduceBEq, Nat.reduceEqDiff, Nat.reduceLT, Nat.reduceLeDiff, Nat.reduceAdd, Nat.reduceMul, Nat.reducePow, Nat.reduceSub, Int.reduceEq, Int.reduceLT, Int.reduceLE, Int.reduceToNat, Int.reduceMul, f0, f87, f88, f89, g27, hj2, gr, wrap_succ (show j + 1 < 2 ^ 63 by omega)]) | (refine dwp_if ?_; simp only [go_sem, ↓reduceIte, reduceCtorEq, Nat.reduceBEq, Nat.reduceEqDiff, Nat.reduceLT, Nat.reduceLeDiff, Nat.reduceAdd, Nat.reduceMul, Nat.reducePow, Nat.reduceSub, Int.reduceEq, Int.reduceLT, Int.reduceLE, Int.reduceToNat, Int.reduceMul, f0, f87, f88, f89, g27, hj2, gr, wrap_succ (show j + 1 < 2 ^ 63 by omega)]) | refine dwp_block ?_)
        exact ih2 (n2 - 1) _ _ (by omega) ⟨j + 1, by omega, by simp only [go_sem, ↓reduceIte, reduceCtorEq, Nat.reduceBEq, Nat.reduceEqDiff, Nat.reduceLT, Nat.reduceLeDiff, Nat.reduceAdd, Nat.reduceMul, Nat.reducePow, Nat.reduceSub, Int.reduceEq, Int.reduceLT, Int.reduceLE, Int.reduceToNat, Int.reduceMul, f0, f87, f88, f89, g27]⟩
      · repeat (first | refine dwp_seq ?_ | (refine dwp_region ?_; simp only [go_sem, ↓reduceIte, reduceCtorEq, Nat.reduceBEq, Nat.reduceEqDiff, Nat.reduceLT, Nat.reduceLeDiff, Nat.reduceAdd, Nat.reduceMul, Nat.reducePow, Nat.reduceSub, Int.reduceEq, Int.reduceLT, Int.reduceLE, Int.reduceToNat, Int.reduceMul, f0, f87, f88, f89, g27, hj2, hf]) | (refine dwp_any ?_; simp only [go_sem, ↓reduceIte, reduceCtorEq, Nat.reduceBEq, Nat.reduceEqDiff, Nat.reduceLT, Nat.reduceLeDiff, Nat.reduceAdd, Nat.reduceMul, Nat.reducePow, Nat.reduceSub, Int.reduceEq, Int.reduceLT, Int.reduceLE, Int.reduceToNat, Int.reduceMul, f0, f87, f88, f89, g27, hj2, hf]; refine ⟨by kernel_rfl, ?_⟩) | (refine dwp_skip ?_; simp only [go_sem, ↓reduceIte, reduceCtorEq, Nat.reduceBEq, Nat.reduceEqDiff, Nat.reduceLT, Nat.reduceLeDiff, Nat.reduceAdd, Nat.reduceMul, Nat.reducePow, Nat.reduceSub, Int.reduceEq, Int.reduceLT, Int.reduceLE, Int.reduceToNat, Int.reduceMul, f0, f87, f88, f89, g27, hj2, hf]) | (refine dwp_exit ?_; simp only [go_sem, ↓reduceIte, reduceCtorEq, Nat.reduceBEq, Nat.reduceEqDiff, Nat.reduceLT, Nat.reduceLeDiff, Nat.reduceAdd, Nat.reduceMul, Nat.reducePow, Nat.reduceSub, Int.reduceEq, Int.reduceLT, Int.reduceLE, Int.reduceToNat, Int.reduceMul, f0, f87, f88, f89, g27, hj2, hf]) | (refine dwp_ret ?_; simp only [go_sem, ↓reduceIte, reduceCtorEq, Nat.reduceBEq, Nat.reduceEqDiff, Nat.reduceLT, Nat.reduceLeDiff, Nat.reduceAdd, Nat.reduceMul, Nat.reducePow, Nat.reduceSub, Int.reduceEq, Int.reduceLT, Int.reduceLE, Int.reduceToNat, Int.reduceMul, f0, f87, f88, f89, g27, hj2, hf]) | (refine dwp_if ?_; simp only [go_sem, ↓reduceIte, reduceCtorEq, Nat.reduceBEq, Nat.reduceEqDiff, Nat.reduceLT, Nat.reduceLeDiff, Nat.reduceAdd, Nat.reduceMul, Nat.reducePow, Nat.reduceSub, Int.reduceEq, Int.reduceLT, Int.reduceLE, Int.reduceToNat, Int.reduceMul, f0, f87, f88, f89, g27, hj2, hf]) | refine dwp_block ?_)
    case true =>
      repeat (first | refine dwp_seq ?_ | (refine dwp_region ?_; simp only [go_sem, ↓reduceIte, reduceCtorEq, Nat.reduceBEq, Nat.reduceEqDiff, Nat.reduceLT, Nat.reduceLeDiff, Nat.reduceAdd, Nat.reduceMul, Nat.reducePow, Nat.reduceSub, Int.reduceEq, Int.reduceLT, Int.reduceLE, Int.reduceToNat, Int.reduceMul, f0, f1, f5, g27, f6, f28, h, hq, hr]) | (refine dwp_any ?_; simp only [go_sem, ↓reduceIte, reduceCtorEq, Nat.reduceBEq, Nat.reduceEqDiff, Nat.reduceLT, Nat.reduceLeDiff, Nat.reduceAdd, Nat.reduceMul, Nat.reducePow, Nat.reduceSub, Int.reduceEq, Int.reduceLT, Int.reduceLE, Int.reduceToNat, Int.reduceMul, f0, f1, f5, g27, f6, f28, h, hq, hr]; refine ⟨by kernel_rfl, ?_⟩) | (refine dwp_skip ?_; simp only [go_sem, ↓reduceIte, reduceCtorEq, Nat.reduceBEq, Nat.reduceEqDiff, Nat.reduceLT, Nat.reduceLeDiff, Nat.reduceAdd, Nat.reduceMul, Nat.reducePow, Nat.reduceSub, Int.reduceEq, Int.reduceLT, Int.reduceLE, Int.reduceToNat, Int.reduceMul, f0, f1, f5, g27, f6, f28, h, hq, hr]) | (refine dwp_exit ?_; simp only [go_sem, ↓reduceIte, reduceCtorEq, Nat.reduceBEq, Nat.reduceEqDiff, Nat.reduceLT, Nat.reduceLeDiff, Nat.reduceAdd, Nat.reduceMul, Nat.reducePow, Nat.reduceSub, Int.reduceEq, Int.reduceLT, Int.reduceLE, Int.reduceToNat, Int.reduceMul, f0, f1, f5, g27, f6, f28, h, hq, hr]) | (refine dwp_ret ?_; simp only [go_sem, ↓reduceIte, reduceCtorEq, Nat.reduceBEq, Nat.reduceEqDiff, Nat.reduceLT, Nat.reduceLeDiff, Nat.reduceAdd, Nat.reduceMul, Nat.reducePow, Nat.reduceSub, Int.reduceEq, Int.reduceLT, Int.reduceLE, Int.reduceToNat, Int.reduceMul, f0, f1, f5, g27, f6, f28, h, hq, hr]) | (refine dwp_if ?_; simp only [go_sem, ↓reduceIte, reduceCtorEq, Nat.reduceBEq, Nat.reduceEqDiff, Nat.reduceLT, Nat.reduceLeDiff, Nat.reduceAdd, Nat.reduceMul, Nat.reducePow, Nat.reduceSub, Int.reduceEq, Int.reduceLT, Int.reduceLE, Int.reduceToNat, Int.reduceMul, f0, f1, f5, g27, f6, f28, h, hq, hr]) | refine dwp_block ?_)
      refine dwp_ind (fun n' f g => ∃ j, j + n' = r.length ∧ f 0 = .sl 11 (l.map tcells) ∧ f 5 = .bs 27 0 1 l.length ∧ f 74 = .sl 1 (nats r) ∧ f 75 = .v (.int .i64 r.length) ∧ f 76 = .v (.int .i64 (j : Nat)) ∧ g 27 = some (icells (incr (l.map (tb had)) (r.take j)))) r.length ⟨0, by omega, ?_⟩ ?_
      · simp only [go_sem, ↓reduceIte, reduceCtorEq, Nat.reduceBEq, Nat.reduceEqDiff, Nat.reduceLT, Nat.reduceLeDiff, Nat.reduceAdd, Nat.reduceMul, Nat.reducePow, Nat.reduceSub, Int.reduceEq, Int.reduceLT, Int.reduceLE, Int.reduceToNat, Int.reduceMul, f0, f5, g27, List.take_zero]
        exact ⟨rfl, rfl⟩
      rintro n' f' g' ⟨j, hj, f0, f5, fp, fq, fc, g27⟩ ih'
      by_cases hj2 : (j : Int) < (r.length : Int)
      · have hj1 : j < r.length := by omega
        have gk : r[j]? = some r[j] := List.getElem?_eq_getElem hj1
        have hm := hrm r[j] (List.getElem_mem hj1)
        generalize r[j] = m at gk hm
        have hmi : (m : Int) < (l.length : Int) := by omega
        obtain ⟨x, gx2, hx0, hx1⟩ := incr_fit l had (r.take j) m (by rw [List.length_take]; omega) hm
        have hlen : m < (incr (l.map (tb had)) (r.take j)).length := by rw [incr_len, List.length_map]; exact hm
        have hle : m + 1 ≤ (incr (l.map (tb had)) (r.take j)).length := hlen
        have hw : IntKind.i64.wrap (x + 1) = x + 1 := wrap_fit (by omega) (by omega)
        repeat (first | refine dwp_seq ?_ | (refine dwp_region ?_; simp only [go_sem, ↓reduceIte, reduceCtorEq, Nat.reduceBEq, Nat.reduceEqDiff, Nat.reduceLT, Nat.reduceLeDiff, Nat.reduceAdd, Nat.reduceMul, Nat.reducePow, Nat.reduceSub, Int.reduceEq, Int.reduceLT, Int.reduceLE, Int.reduceToNat, Int.reduceMul, f0, f5, fp, fq, fc, g27, hj2, gk, hmi, gx2, hlen, hle, hw, wrap_succ (show j + 1 < 2 ^ 63 by omega)]) | (refine dwp_any ?_; simp only [go_sem, ↓reduceIte, reduceCtorEq, Nat.reduceBEq, Nat.reduceEqDiff, Nat.reduceLT, Nat.reduceLeDiff, Nat.reduceAdd, Nat.reduceMul, Nat.reducePow, Nat.reduceSub, Int.reduceEq, Int.reduceLT, Int.reduceLE, Int.reduceToNat, Int.reduceMul, f0, f5, fp, fq, fc, g27, hj2, gk, hmi, gx2, hlen, hle, hw, wrap_succ (show j + 1 < 2 ^ 63 by omega)]; refine ⟨by kernel_rfl, ?_⟩) | (refine dwp_skip ?_; simp only [go_sem, ↓reduceIte, reduceCtorEq, Nat.reduceBEq, Nat.reduceEqDiff, Nat.reduceLT, Nat.reduceLeDiff, Nat.reduceAdd, Nat.reduceMul, Nat.reducePow, Nat.reduceSub, Int.reduceEq, Int.reduceLT, Int.reduceLE, Int.reduceToNat, Int.reduceMul, f0, f5, fp, fq, fc, g27, hj2, gk, hmi, gx2, hlen, hle, hw, wrap_succ (show j + 1 < 2 ^ 63 by omega)]) | (refine dwp_exit ?_; simp only [go_sem, ↓reduceIte, reduceCtorEq, Nat.reduceBEq, Nat.reduceEqDiff, Nat.reduceLT, Nat.reduceLeDiff, Nat.reduceAdd, Nat.reduceMul, Nat.reducePow, Nat.reduceSub, Int.reduceEq, Int.reduceLT, Int.reduceLE, Int.reduceToNat, Int.reduceMul, f0, f5, fp, fq, fc, g27, hj2, gk, hmi, gx2, hlen, hle, hw, wrap_succ (show j + 1 < 2 ^ 63 by omega)]) | (refine dwp_ret ?_; simp only [go_sem, ↓reduceIte, reduceCtorEq, Nat.reduceBEq, Nat.reduceEqDiff, Nat.reduceLT, Nat.reduceLeDiff, Nat.reduceAdd, Nat.reduceMul, Nat.reducePow, Nat.reduceSub, Int.reduceEq, Int.reduceLT, Int.reduceLE, Int.reduceToNat, Int.reduceMul, f0, f5, fp, fq, fc, g27, hj2, gk, hmi, gx2, hlen, hle, hw, wrap_succ (show j + 1 < 2 ^ 63 by omega)]) | (refine dwp_if ?_; simp only [go_sem, ↓reduceIte, reduceCtorEq, Nat.reduceBEq, Nat.reduceEqDiff, Nat.reduceLT, Nat.reduceLeDiff, Nat.reduceAdd, Nat.reduceMul, Nat.reducePow, Nat.reduceSub, Int.reduceEq, Int.reduceLT, Int.reduceLE, Int.reduceToNat, Int.reduceMul, f0, f5, fp, fq, fc, g27, hj2, gk, hmi, gx2, hlen, hle, hw, wrap_succ (show j + 1 < 2 ^ 63 by omega)]) | refine dwp_block ?_)
        refine ih' (n' - 1) _ _ (by omega) ⟨j + 1, by omega, ?_⟩
        simp only [go_sem, ↓reduceIte, reduceCtorEq, Nat.reduceBEq, Nat.reduceEqDiff, Nat.reduceLT, Nat.reduceLeDiff, Nat.reduceAdd, Nat.reduceMul, Nat.reducePow, Nat.reduceSub, Int.reduceEq, Int.reduceLT, Int.reduceLE, Int.reduceToNat, Int.reduceMul, f0, f5, fp, fq, fc, g27]
        rw [incr_snoc _ _ _ _ _ gk gx2]
      · have hjr : j = r.length := by omega
        rw [hjr, List.take_length, hin, hall] at g27
        repeat (first | refine dwp_seq ?_ | (refine dwp_region ?_; simp only [go_sem, ↓reduceIte, reduceCtorEq, Nat.reduceBEq, Nat.reduceEqDiff, Nat.reduceLT, Nat.reduceLeDiff, Nat.reduceAdd, Nat.reduceMul, Nat.reducePow, Nat.reduceSub, Int.reduceEq, Int.reduceLT, Int.reduceLE, Int.reduceToNat, Int.reduceMul, f0, f5, fp, fq, fc, g27, hj2, hf]) | (refine dwp_any ?_; simp only [go_sem, ↓reduceIte, reduceCtorEq, Nat.reduceBEq, Nat.reduceEqDiff, Nat.reduceLT, Nat.reduceLeDiff, Nat.reduceAdd, Nat.reduceMul, Nat.reducePow, Nat.reduceSub, Int.reduceEq, Int.reduceLT, Int.reduceLE, Int.reduceToNat, Int.reduceMul, f0, f5, fp, fq, fc, g27, hj2, hf]; refine ⟨by kernel_rfl, ?_⟩) | (refine dwp_skip ?_; simp only [go_sem, ↓reduceIte, reduceCtorEq, Nat.reduceBEq, Nat.reduceEqDiff, Nat.reduceLT, Nat.reduceLeDiff, Nat.reduceAdd, Nat.reduceMul, Nat.reducePow, Nat.reduceSub, Int.reduceEq, Int.reduceLT, Int.reduceLE, Int.reduceToNat, Int.reduceMul, f0, f5, fp, fq, fc, g27, hj2, hf]) | (refine dwp_exit ?_; simp only [go_sem, ↓reduceIte, reduceCtorEq, Nat.reduceBEq, Nat.reduceEqDiff, Nat.reduceLT, Nat.reduceLeDiff, Nat.reduceAdd, Nat.reduceMul, Nat.reducePow, Nat.reduceSub, Int.reduceEq, Int.reduceLT, Int.reduceLE, Int.reduceToNat, Int.reduceMul, f0, f5, fp, fq, fc, g27, hj2, hf]) | (refine dwp_ret ?_; simp only [go_sem, ↓reduceIte, reduceCtorEq, Nat.reduceBEq, Nat.reduceEqDiff, Nat.reduceLT, Nat.reduceLeDiff, Nat.reduceAdd, Nat.reduceMul, Nat.reducePow, Nat.reduceSub, Int.reduceEq, Int.reduceLT, Int.reduceLE, Int.reduceToNat, Int.reduceMul, f0, f5, fp, fq, fc, g27, hj2, hf]) | (refine dwp_if ?_; simp only [go_sem, ↓reduceIte, reduceCtorEq, Nat.reduceBEq, Nat.reduceEqDiff, Nat.reduceLT, Nat.reduceLeDiff, Nat.reduceAdd, Nat.reduceMul, Nat.reducePow, Nat.reduceSub, Int.reduceEq, Int.reduceLT, Int.reduceLE, Int.reduceToNat, Int.reduceMul, f0, f5, fp, fq, fc, g27, hj2, hf]) | refine dwp_block ?_)
        refine dwp_ind (fun n' f g => ∃ j, j + n' = l.length ∧ f 0 = .sl 11 (l.map tcells) ∧ f 87 = .bs 27 0 1 l.length ∧ f 88 = .v (.int .i64 l.length) ∧ f 89 = .v (.int .i64 (j : Nat)) ∧ g 27 = some (icells (List.replicate l.length 1))) l.length ⟨0, by omega, ?_⟩ ?_
        · simp only [go_sem, ↓reduceIte, reduceCtorEq, Nat.reduceBEq, Nat.reduceEqDiff, Nat.reduceLT, Nat.reduceLeDiff, Nat.reduceAdd, Nat.reduceMul, Nat.reducePow, Nat.reduceSub, Int.reduceEq, Int.reduceLT, Int.reduceLE, Int.reduceToNat, Int.reduceMul, f0, f5, g27]
          rfl
        rintro n2 f2 g2 ⟨j, hj, f0, f87, f88, f89, g27⟩ ih2
        by_cases hj2 : (j : Int) < (l.length : Int)
        · have hj1 : j < l.length := by omega
          have gr : (List.replicate l.length (1 : Int))[j]? = some 1 := by rw [List.getElem?_replicate, if_pos hj1]
          repeat (first | refine dwp_seq ?_ | (refine dwp_region ?_; simp only [go_sem, ↓reduceIte, reduceCtorEq, Nat.reduceBEq, Nat.reduceEqDiff, Nat.reduceLT, Nat.reduceLeDiff, Nat.reduceAdd, Nat.reduceMul, Nat.reducePow, Nat.reduceSub, Int.reduceEq, Int.reduceLT, Int.reduceLE, Int.reduceToNat, Int.reduceMul, f0, f87, f88, f89, g27, hj2, gr, wrap_succ (show j + 1 < 2 ^ 63 by omega)]) | (refine dwp_any ?_; simp only [go_sem, ↓reduceIte, reduceCtorEq, Nat.reduceBEq, Nat.reduceEqDiff, Nat.reduceLT, Nat.reduceLeDiff, Nat.reduceAdd, Nat.reduceMul, Nat.reducePow, Nat.reduceSub, Int.reduceEq, Int.reduceLT, Int.reduceLE, Int.reduceToNat, Int.reduceMul, f0, f87, f88, f89, g27, hj2, gr, wrap_succ (show j + 1 < 2 ^ 63 by omega)]; refine ⟨by kernel_rfl, ?_⟩) | (refine dwp_skip ?_; simp only [go_sem, ↓reduceIte, reduceCtorEq, Nat.reduceBEq, Nat.reduceEqDiff, Nat.reduceLT, Nat.reduceLeDiff, Nat.reduceAdd, Nat.reduceMul, Nat.reducePow, Nat.reduceSub, Int.reduceEq, Int.reduceLT, Int.reduceLE, Int.reduceToNat, Int.reduceMul, f0, f87, f88, f89, g27, hj2, gr, wrap_succ (show j + 1 < 2 ^ 63 by omega)]) | (refine dwp_exit ?_; simp only [go_sem, ↓reduceIte, reduceCtorEq, Nat.reduceBEq, Nat.reduceEqDiff, Nat.reduceLT, Nat.reduceLeDiff, Nat.reduceAdd, Nat.reduceMul, Nat.reducePow, Nat.reduceSub, Int.reduceEq, Int.reduceLT, Int.reduceLE, Int.reduceToNat, Int.reduceMul, f0, f87, f88, f89, g27, hj2, gr, wrap_succ (show j + 1 < 2 ^ 63 by omega)]) | (refine dwp_ret ?_; simp only [go_sem, ↓reduceIte, reduceCtorEq, Nat.reduceBEq, Nat.reduceEqDiff, Nat.reduceLT, Nat.reduceLeDiff, Nat.reduceAdd, Nat.reduceMul, Nat.reducePow, Nat.reduceSub, Int.reduceEq, Int.reduceLT, Int.reduceLE, Int.reduceToNat, Int.reduceMul, f0, f87, f88, f89, g27, hj2, gr, wrap_succ (show j + 1 < 2 ^ 63 by omega)]) | (refine dwp_if ?_; simp only [go_sem, ↓reduceIte, reduceCtorEq, Nat.reduceBEq, Nat.reduceEqDiff, Nat.reduceLT, Nat.reduceLeDiff, Nat.reduceAdd, Nat.reduceMul, Nat.reducePow, Nat.reduceSub, Int.reduceEq, Int.reduceLT, Int.reduceLE, Int.reduceToNat, Int.reduceMul, f0, f87, f88, f89, g27, hj2, gr, wrap_succ (show j + 1 < 2 ^ 63 by omega)]) | refine dwp_block ?_)
          exact ih2 (n2 - 1) _ _ (by omega) ⟨j + 1, by omega, by simp only [go_sem, ↓reduceIte, reduceCtorEq, Nat.reduceBEq, Nat.reduceEqDiff, Nat.reduceLT, Nat.reduceLeDiff, Nat.reduceAdd, Nat.reduceMul, Nat.reducePow, Nat.reduceSub, Int.reduceEq, Int.reduceLT, Int.reduceLE, Int.reduceToNat, Int.reduceMul, f0, f87, f88, f89, g27]⟩
        · repeat (first | refine dwp_seq ?_ | (refine dwp_region ?_; simp only [go_sem, ↓reduceIte, reduceCtorEq, Nat.reduceBEq, Nat.reduceEqDiff, Nat.reduceLT, Nat.reduceLeDiff, Nat.reduceAdd, Nat.reduceMul, Nat.reducePow, Nat.reduceSub, Int.reduceEq, Int.reduceLT, Int.reduceLE, Int.reduceToNat, Int.reduceMul, f0, f87, f88, f89, g27, hj2, hf]) | (refine dwp_any ?_; simp only [go_sem, ↓reduceIte, reduceCtorEq, Nat.reduceBEq, Nat.reduceEqDiff, Nat.reduceLT, Nat.reduceLeDiff, Nat.reduceAdd, Nat.reduceMul, Nat.reducePow, Nat.reduceSub, Int.reduceEq, Int.reduceLT, Int.reduceLE, Int.reduceToNat, Int.reduceMul, f0, f87, f88, f89, g27, hj2, hf]; refine ⟨by kernel_rfl, ?_⟩) | (refine dwp_skip ?_; simp only [go_sem, ↓reduceIte, reduceCtorEq, Nat.reduceBEq, Nat.reduceEqDiff, Nat.reduceLT, Nat.reduceLeDiff, Nat.reduceAdd, Nat.reduceMul, Nat.reducePow, Nat.reduceSub, Int.reduceEq, Int.reduceLT, Int.reduceLE, Int.reduceToNat, Int.reduceMul, f0, f87, f88, f89, g27, hj2, hf]) | (refine dwp_exit ?_; simp only [go_sem, ↓reduceIte, reduceCtorEq, Nat.reduceBEq, Nat.reduceEqDiff, Nat.reduceLT, Nat.reduceLeDiff, Nat.reduceAdd, Nat.reduceMul, Nat.reducePow, Nat.reduceSub, Int.reduceEq, Int.reduceLT, Int.reduceLE, Int.reduceToNat, Int.reduceMul, f0, f87, f88, f89, g27, hj2, hf]) | (refine dwp_ret ?_; simp only [go_sem, ↓reduceIte, reduceCtorEq, Nat.reduceBEq, Nat.reduceEqDiff, Nat.reduceLT, Nat.reduceLeDiff, Nat.reduceAdd, Nat.reduceMul, Nat.reducePow, Nat.reduceSub, Int.reduceEq, Int.reduceLT, Int.reduceLE, Int.reduceToNat, Int.reduceMul, f0, f87, f88, f89, g27, hj2, hf]) | (refine dwp_if ?_; simp only [go_sem, ↓reduceIte, reduceCtorEq, Nat.reduceBEq, Nat.reduceEqDiff, Nat.reduceLT, Nat.reduceLeDiff, Nat.reduceAdd, Nat.reduceMul, Nat.reducePow, Nat.reduceSub, Int.reduceEq, Int.reduceLT, Int.reduceLE, Int.reduceToNat, Int.reduceMul, f0, f87, f88, f89, g27, hj2, hf]) | refine dwp_block ?_)
end Go.Proofs.YtneihjdkaogkiaaDoor
