/- How values read: quoted texts, numbers (the session's own words). -/
import Derived.Test.YtjdkcedhmfgmoaaDoorVd
namespace Go.Proofs.YtjdkcedhmfgmoaaDoor
open Go Go.Eng Go.Proofs
set_option linter.unusedVariables false
set_option linter.unusedSimpArgs false
set_option maxRecDepth 100000
set_option maxHeartbeats 4000000
def inI64 (v : Int) : Prop := -9223372036854775808 ≤ v ∧ v ≤ 9223372036854775807
theorem parse_in (l : List UInt8) (v : Int) (h : Lib.parseIntB 64 l = .ok v) : inI64 v := by
  unfold Lib.parseIntB at h
  split at h
  · cases h
  · rename_i c r
    simp only at h
    rw [pow63] at h
    unfold inI64
    split at h
    · cases h
    · cases h
    · split at h
      · cases h
      · split at h
        · cases h
        · injection h with h
          split at h <;> omega
theorem itoa_inj {v w : Int} (hv : inI64 v) (hw : inI64 w) (h : Lib.itoa v = Lib.itoa w) : v = w := by
  have a := parseInt_itoa v hv.1 hv.2
  rw [h, parseInt_itoa w hw.1 hw.2] at a
  injection a with a
  exact a.symm
open Classical in
/-- the number that a text writes -/
noncomputable def num (s : ByteArray) : Option Int := if h : ∃ v, inI64 v ∧ s = bs (Lib.itoa v) then some (Classical.choose h) else none
theorem num_itoa (v : Int) (hv : inI64 v) : num (bs (Lib.itoa v)) = some v := by
  unfold num
  have h : ∃ w, inI64 w ∧ bs (Lib.itoa v) = bs (Lib.itoa w) := ⟨v, hv, rfl⟩
  rw [dif_pos h]
  have hc := Classical.choose_spec h
  exact congrArg some (itoa_inj hc.1 hv (bs_inj hc.2).symm)
theorem num_some {s : ByteArray} {v : Int} (h : num s = some v) : inI64 v ∧ s = bs (Lib.itoa v) := by
  unfold num at h
  split at h
  · rename_i hh
    have hc := Classical.choose_spec hh
    injection h with h
    rw [h] at hc
    exact hc
  · cases h
theorem num_none {s : ByteArray} (h : ∀ v, inI64 v → s ≠ bs (Lib.itoa v)) : num s = none := by
  unfold num
  rw [dif_neg]
  rintro ⟨v, hv, e⟩
  exact h v hv e
theorem itoa_neg (v : Int) (h : v < 0) : Lib.itoa v = 45 :: Lib.decDigits v.natAbs := by unfold Lib.itoa; rw [if_pos h]
theorem itoa_pos (v : Int) (h : ¬ v < 0) : Lib.itoa v = Lib.decDigits v.natAbs := by
  unfold Lib.itoa; rw [if_neg h, show v.toNat = v.natAbs by omega]
/-- a quoted text's inside -/
def inn (s : ByteArray) : List UInt8 := bl (cut s 1 (s.size - 1))
def unq (s : ByteArray) : Option ByteArray := if 2 ≤ s.size ∧ bt s 0 = 39 ∧ bt s (s.size - 1) = 39 then (undo (inn s)).map bs else none
theorem l_split (l : List UInt8) (h : 2 ≤ l.length) (g0 : l[0]'(by omega) = 39) (g1 : l[l.length - 1]'(by omega) = 39) : l = [39] ++ (l.take (l.length - 1)).drop 1 ++ [39] := by
  match l, h, g0, g1 with
  | a :: m, h, g0, g1 =>
    have g0' : a = 39 := g0
    subst g0'
    simp only [List.length_cons] at h
    have hm : m = m.take (m.length - 1) ++ [m[m.length - 1]'(by omega)] := by
      have e := List.take_append_drop (m.length - 1) m
      rw [List.drop_eq_getElem_cons (by omega), List.drop_of_length_le (by omega)] at e
      exact e.symm
    have g1' : m[m.length - 1]'(by omega) = 39 := by
      have : (39 :: m).length - 1 = (m.length - 1) + 1 := by simp; omega
      rw [← g1]
      simp only [this, List.getElem_cons_succ]
    rw [g1'] at hm
    have : (39 :: m).length - 1 = (m.length - 1) + 1 := by simp; omega
    rw [this, List.take_succ_cons, List.drop_succ_cons, List.drop_zero]
    show (39 :: m : List UInt8) = 39 :: (m.take (m.length - 1) ++ [39])
    rw [← hm]
theorem bl_split (s : ByteArray) (h : 2 ≤ s.size) (h0 : bt s 0 = 39) (h1 : bt s (s.size - 1) = 39) : bl s = [39] ++ inn s ++ [39] := by
  have hs := bl_size s
  rw [btG s 0 (by omega)] at h0
  rw [btG s (s.size - 1) (by omega)] at h1
  have g0 : (bl s)[0]'(by omega) = 39 := UInt8.toNat_inj.1 (by show _ = 39; omega)
  have g1 : (bl s)[(bl s).length - 1]'(by omega) = 39 := UInt8.toNat_inj.1 (by show _ = 39; simp only [hs]; omega)
  unfold inn
  rw [bl_cut, ← hs]
  exact l_split _ (by omega) g0 g1
theorem unq_some {s t : ByteArray} (h : unq s = some t) : s = bs ([39] ++ dbl (bl t) ++ [39]) := by
  unfold unq at h
  split at h
  · rename_i hh
    cases hu : undo (inn s) with
    | none => rw [hu] at h; cases h
    | some x =>
      rw [hu] at h
      injection h with h
      subst h
      rw [bl_bs, ← undo_some _ _ hu, ← bl_split s hh.1 hh.2.1 hh.2.2, bs_bl]
  · cases h
theorem unq_dbl (t : ByteArray) : unq (bs ([39] ++ dbl (bl t) ++ [39])) = some t := by
  unfold unq
  have hz : (bs ([39] ++ dbl (bl t) ++ [39])).size = (dbl (bl t)).length + 2 := by rw [bs_size]; simp
  rw [if_pos]
  · unfold inn
    rw [hz, cut_bs, bl_bs]
    have : (List.take ((dbl (bl t)).length + 2 - 1) ([39] ++ dbl (bl t) ++ [39])).drop 1 = dbl (bl t) := by simp
    rw [this, undo_dbl]
    rfl
  · refine ⟨by omega, ?_, ?_⟩
    · rw [btG _ 0 (by omega)]; rfl
    · rw [btG _ _ (by omega)]
      simp only [bl_bs, hz]
      simp
theorem itoa_first (v : Int) : ∃ c r, Lib.itoa v = c :: r ∧ (c = 45 ∨ (48 ≤ c.toNat ∧ c.toNat ≤ 57)) := by
  obtain ⟨d1, d2, d3⟩ := decDigits_spec v.natAbs
  by_cases h : v < 0
  · exact ⟨_, _, itoa_neg v h, .inl rfl⟩
  · rw [itoa_pos v h]
    cases hd : Lib.decDigits v.natAbs with
    | nil => exact absurd hd d3
    | cons c r => exact ⟨c, r, rfl, .inr (d1 c (by rw [hd]; simp))⟩
theorem itoa_bt (v : Int) : ¬ (78 = bt (bs (Lib.itoa v)) 0) ∧ ¬ (84 = bt (bs (Lib.itoa v)) 0) ∧ ¬ (70 = bt (bs (Lib.itoa v)) 0) ∧ ¬ (bt (bs (Lib.itoa v)) 0 = 39) ∧ 1 ≤ (bs (Lib.itoa v)).size := by
  obtain ⟨c, r, e, h⟩ := itoa_first v
  rw [e, btG _ 0 (by rw [bs_size]; simp)]
  simp only [bl_bs, bs_size, List.getElem_cons_zero]
  rcases h with rfl | h
  · exact ⟨by decide, by decide, by decide, by decide, by simp⟩
  · refine ⟨by omega, by omega, by omega, by omega, by simp⟩
theorem num_unq {s : ByteArray} {t : ByteArray} (h : unq s = some t) : num s = none := by
  refine num_none fun v hv e => ?_
  have := (itoa_bt v).2.2.2.1
  rw [← e] at this
  unfold unq at h
  split at h
  · rename_i hh; exact this hh.2.1
  · cases h
theorem unq_num {s : ByteArray} {v : Int} (h : num s = some v) : unq s = none := by
  cases hu : unq s with
  | none => rfl
  | some t => rw [num_unq hu] at h; cases h
end Go.Proofs.YtjdkcedhmfgmoaaDoor
