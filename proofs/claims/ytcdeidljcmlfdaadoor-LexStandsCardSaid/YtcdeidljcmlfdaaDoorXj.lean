/- LexStands: what the law builds out of tokens (the session's own words). -/
import Derived.Test.YtcdeidljcmlfdaaDoorXi
namespace Go.Proofs.YtcdeidljcmlfdaaDoor
open Go Go.Eng Go.Proofs
set_option linter.unusedVariables false
set_option linter.unusedSimpArgs false
theorem tkz_fuel {pk pe : List UInt8 → Int} : ∀ (f f' : Nat) (l : List UInt8) (a c : Nat), l.length < f → l.length < f' → tkz pk pe f l a c = tkz pk pe f' l a c
  | 0, f', l, a, c, h, _ => absurd h (Nat.not_lt_zero _)
  | f + 1, 0, l, a, c, _, h => absurd h (Nat.not_lt_zero _)
  | f + 1, f' + 1, l, a, c, h, h' => by
    by_cases hr : trimB l = []
    · rw [tkz_end f a c hr, tkz_end f' a c hr]
    · rw [tkz, tkz, if_neg hr, if_neg hr]
      by_cases he : (nxt pk pe (trimB l)).e = 0
      · obtain ⟨n1, n2, n3, n4⟩ := nxt_n (trimB l) he
        have hle := trim_le l
        have hd : ((trimB l).drop (nxt pk pe (trimB l)).n).length < l.length := by rw [List.length_drop]; omega
        rw [tkz_fuel f f' _ _ _ (by omega) (by omega)]
      · have he' : (nxt pk pe (trimB l)).e ≠ 0 := he
        split
        · rfl
        · rfl
theorem lay_snoc (r b : List UInt8) : ∀ (rs bs : List (List UInt8)), rs.length = bs.length → lay (rs ++ [r]) (bs ++ [b]) = lay rs bs ++ (r ++ 32 :: b)
  | [], [], _ => by simp [lay]
  | x :: rs, y :: bs, h => by
    rw [List.cons_append, List.cons_append, lay, lay, lay_snoc r b rs bs (by simpa using h)]
    simp
  | [], y :: bs, h => by simp at h
  | x :: rs, [], h => by simp at h
/-- other blanks -/
def bstr (v : Nat) : List UInt8 := if v % 4 = 0 then [] else if v % 4 = 1 then [9] else if v % 4 = 2 then [10, 32, 32] else [13]
def bsOf (l : List Nat) (i : Nat) : List UInt8 := match l[i]? with
  | some v => bstr v
  | none => []
theorem bstr_bl (v : Nat) : (bstr v).all isBl = true := by
  unfold bstr
  split
  · rfl
  split
  · rfl
  split <;> rfl
theorem bstr_len (v : Nat) : (bstr v).length ≤ 3 := by
  unfold bstr
  split
  · simp
  split
  · simp
  split <;> simp
theorem bsOf_bl (l : List Nat) (i : Nat) : (bsOf l i).all isBl = true := by
  unfold bsOf
  split
  · exact bstr_bl _
  · rfl
theorem bsOf_len (l : List Nat) (i : Nat) : (bsOf l i).length ≤ 3 := by
  unfold bsOf
  split
  · exact bstr_len _
  · simp
/-- what is built out of the first tokens -/
def built (rs : List (List UInt8)) (bl : List Nat) (i : Nat) : List UInt8 := lay (rs.take i) ((List.range i).map (bsOf bl))
theorem built_succ (rs : List (List UInt8)) (bl : List Nat) (i : Nat) (r : List UInt8) (h : rs[i]? = some r) : built rs bl (i + 1) = built rs bl i ++ r ++ 32 :: bsOf bl i := by
  have hi := (List.getElem?_eq_some_iff.1 h).1
  unfold built
  rw [List.take_add_one, h, List.range_succ, List.map_append]
  simp only [Option.toList_some, List.map_cons, List.map_nil]
  rw [lay_snoc _ _ _ _ (by simp; omega), List.append_assoc]
theorem built_len (rs : List (List UInt8)) (bl : List Nat) (K : Nat) (hK : ∀ r ∈ rs, r.length ≤ K) : ∀ i, i ≤ rs.length → (built rs bl i).length ≤ i * (K + 4)
  | 0, _ => by simp [built, lay]
  | i + 1, hi => by
    have ih := built_len rs bl K hK i (by omega)
    have hg : rs[i]? = some rs[i] := List.getElem?_eq_getElem (by omega)
    have h1 := hK rs[i] (List.getElem_mem _)
    have h2 := bsOf_len bl i
    rw [built_succ rs bl i _ hg, List.length_append, List.length_append, List.length_cons, Nat.succ_mul]
    omega
theorem at_last (q : List UInt8) (x : UInt8) : inx Tryd.prog 9 (.string (bs (q ++ [x]))) (.int .i64 (((bs (q ++ [x])).size : Int) - 1)) = some (.int .u8 (x.toNat : Int)) := by
  have e : ((bs (q ++ [x])).size : Int) - 1 = ((q.length : Nat) : Int) := by rw [bs_size, List.length_append]; simp
  rw [e, inx_str Tryd.underlying9 _ _ _ (by rw [bs_size, List.length_append]; simp), bt_bs (q ++ [x]) q.length x (by simp)]
theorem cut_last (q : List UInt8) (x : UInt8) : cut (bs (q ++ [x])) 0 (((bs (q ++ [x])).size : Int) - 1).toNat = bs q := by
  have e : ((bs (q ++ [x])).size : Int) - 1 = ((q.length : Nat) : Int) := by rw [bs_size, List.length_append]; simp
  rw [e, Int.toNat_natCast, cut_bs]
  simp
/-- the same tokens, by their kinds and texts -/
theorem standsT (l : List UInt8) (T : List Tk) (h : tkz pkF peF (l.length + 1) l 0 0 = (T, 0)) (bl : List Nat) (hl : (built (raws pkF peF (l.length + 1) l) bl (T.length - 1)).length ≤ 4096) :
    ∃ T2 : List Tk, FF 8 [.v (.string (bs (built (raws pkF peF (l.length + 1) l) bl (T.length - 1))))] = some (.tup [.sl (T2.map tkC), .v (.int .i64 0)]) ∧ T2.map (fun t => (t.k, t.t)) = T.map fun t => (t.k, t.t) := by
  have h0 : (tkz pkF peF (l.length + 1) l 0 0).2 = 0 := by rw [h]
  have hrl := raws_len (l.length + 1) l 0 0 h0
  have hcn := tkz_cnt (l.length + 1) l 0 0 (by omega) h0
  rw [h] at hrl hcn
  simp only at hrl hcn
  obtain ⟨T2, hT2, hm⟩ := tkz_lay (pk := pkF) (pe := peF) (l.length + 1) l 0 0 0 0 ((List.range (T.length - 1)).map (bsOf bl)) h0 (by simp; omega) (fun b hb => by
    obtain ⟨i, _, rfl⟩ := List.mem_map.1 hb
    exact bsOf_bl bl i) (by rw [h]; simp only; omega)
  rw [h] at hm
  have hb : built (raws pkF peF (l.length + 1) l) bl (T.length - 1) = lay (raws pkF peF (l.length + 1) l) ((List.range (T.length - 1)).map (bsOf bl)) := by
    unfold built
    rw [List.take_of_length_le (by omega)]
  rw [hb] at hl ⊢
  generalize lay (raws pkF peF (l.length + 1) l) ((List.range (T.length - 1)).map (bsOf bl)) = S at *
  have ht := tokensX S hl
  have hs := tkz_shift (pk := pkF) (pe := peF) 0 (l.length + 1) (S.length + 1) S 0 0 0 (by rw [hT2]) (by
    have := tkz_cnt (pk := pkF) (pe := peF) (l.length + 1) S 0 0 (by omega) (by rw [hT2])
    exact this)
  rw [tkz_fuel (l.length + 1 + (S.length + 1)) (S.length + 1) S _ _ (by omega) (by omega), hT2] at hs
  rw [show (0 + 0 : Nat) = 0 from rfl] at hs
  rw [hs] at ht
  refine ⟨_, ht, ?_⟩
  rw [← hm, List.map_map]
  rfl
end Go.Proofs.YtcdeidljcmlfdaaDoor
