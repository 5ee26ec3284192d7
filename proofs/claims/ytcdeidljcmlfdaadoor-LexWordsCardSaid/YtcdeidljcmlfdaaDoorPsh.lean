/- Contracts by hand: words, numbers, and the library's (the session's own words). -/
import Derived.Test.YtcdeidljcmlfdaaDoorPsk
import Derived.Test.YtcdeidljcmlfdaaDoorShf
import Derived.Test.YtcdeidljcmlfdaaDoorWc
import Derived.Test.YtcdeidljcmlfdaaDoorWd
import Derived.Test.YtcdeidljcmlfdaaDoorWg
namespace Go.Proofs.YtcdeidljcmlfdaaDoor
open Go Go.Eng Go.Proofs Go.RowKit
set_option linter.unusedVariables false
set_option linter.unusedSimpArgs false
theorem maxLen_cell {w : World} (h : Gks w) : ∃ m, w.cell? ⟨2, 0, none⟩ = some (.int .i64 m) := by
  obtain ⟨cs, e, fr, h1, m, rfl⟩ := h 2 (by simp [gids])
  exact ⟨m, by simp [World.cell?, h1]⟩
theorem err_cell {w : World} (h : Gks w) (g : Nat) (hg : g = 3 ∨ g = 4) : ∃ ev, w.cell? ⟨g, 0, none⟩ = some ev ∧ (ev = .nilIface ∨ ∃ te pe, ev = .iface te pe) := by
  rcases hg with rfl | rfl
  · obtain ⟨cs, e, fr, h1, ev, rfl, h2⟩ := h 3 (by simp [gids])
    exact ⟨ev, by simp [World.cell?, h1], h2⟩
  · obtain ⟨cs, e, fr, h1, ev, rfl, h2⟩ := h 4 (by simp [gids])
    exact ⟨ev, by simp [World.cell?, h1], h2⟩
theorem rp_two {Z : FZ} {a b : Value} {d e : D} (h1 : Rp Z a d) (h2 : Rp Z b e) : Rp Z (.tuple #[a, b]) (.tup [d, e]) :=
  .tup [a, b] [d, e] rfl fun i hi hj => by
    rcases (by simp at hi; omega : i = 0 ∨ i = 1) with h | h <;> subst h
    · exact h1
    · exact h2
theorem sParseInt {ds : List D} {os : List (List D)} {r : D} {os' : List (List D)} (h : pParseInt ds os = some (r, os')) : Contract Tryd.prog 33 ds os r os' := by
  unfold pParseInt at h
  split at h
  · split at h
    · rename_i s hc
      split at h
      · rename_i v hv
        cases h
        refine contract_below (fun _ _ _ h => by cases h) fun Z w vs O0 hA hG hl hR => ?_
        obtain ⟨x, y, z, rfl, h1, h2, h3⟩ := arg3 hl hR
        obtain rfl := rva_v h1
        obtain rfl := rva_v h2
        obtain rfl := rva_v h3
        refine (Tryd.strconv_ParseInt_10_at64_ok s (by omega) v hv w).mono fun e w' he => ⟨_, he.1, rp_two (.v _) (.v _), ?_⟩
        rcases he.2 with rfl | ⟨t, rfl⟩
        · exact Below.refl _ _
        · exact Lib.bytesWorld_below w 5 t
      · rename_i hv
        cases h
        refine contract_below (fun _ _ _ h => by cases h) fun Z w vs O0 hA hG hl hR => ?_
        obtain ⟨x, y, z, rfl, h1, h2, h3⟩ := arg3 hl hR
        obtain rfl := rva_v h1
        obtain rfl := rva_v h2
        obtain rfl := rva_v h3
        obtain ⟨ev, e1, e2⟩ := err_cell hG 4 (.inr rfl)
        refine (Tryd.strconv_ParseInt_10_at64_range s hc hv ev w e1 e2).mono fun e w' he => ?_
        obtain ⟨N, he, _, _, hb⟩ := he
        exact ⟨_, he, rp_two (.v _) (.nn _ _), hb⟩
      · rename_i hv1 hv2
        have hv : numBad (Lib.parseIntB 64 s.data.toList) = true := by
          cases hh : Lib.parseIntB 64 s.data.toList with
          | ok v => exact absurd hh (hv1 v)
          | range => exact absurd hh hv2
          | _ => rfl
        cases h
        refine contract_below (fun _ _ _ h => by cases h) fun Z w vs O0 hA hG hl hR => ?_
        obtain ⟨x, y, z, rfl, h1, h2, h3⟩ := arg3 hl hR
        obtain rfl := rva_v h1
        obtain rfl := rva_v h2
        obtain rfl := rva_v h3
        obtain ⟨ev, e1, e2⟩ := err_cell hG 3 (.inl rfl)
        refine (Tryd.strconv_ParseInt_10_at64_bad s hc hv ev w e1 e2).mono fun e w' he => ?_
        obtain ⟨N, he, _, _, hb⟩ := he
        exact ⟨_, he, rp_two (.v _) (.nn _ _), hb⟩
    · cases h
  · cases h
theorem sWord {ds : List D} {os : List (List D)} {r : D} {os' : List (List D)} (h : pWord ds os = some (r, os')) : Contract Tryd.prog 11 ds os r os' := by
  unfold pWord at h
  split at h
  · rename_i s
    cases h
    refine contract_below (fun _ _ _ h => by cases h) fun Z w vs O0 hA hG hl hR => ?_
    obtain ⟨x, rfl, h1⟩ := arg1 hl hR
    obtain rfl := rva_v h1
    obtain ⟨m, hm⟩ := maxLen_cell hG
    exact (wordCalls s m w hm).mono fun e w' he => ⟨_, he.1, .v _, he.2⟩
  · cases h
theorem sDigits {ds : List D} {os : List (List D)} {r : D} {os' : List (List D)} (h : pDigits ds os = some (r, os')) : Contract Tryd.prog 32 ds os r os' := by
  unfold pDigits at h
  split at h
  · split at h
    · rename_i s hc
      cases h
      refine contract_below (fun _ _ _ h => by cases h) fun Z w vs O0 hA hG hl hR => ?_
      obtain ⟨x, rfl, h1⟩ := arg1 hl hR
      obtain rfl := rva_v h1
      exact (digitsC s w hc.1 hc.2.1 hc.2.2).mono fun e w' he => ⟨_, he.1, .v _, he.2⟩
    · cases h
  · cases h
theorem sIndexByte {ds : List D} {os : List (List D)} {r : D} {os' : List (List D)} (h : pIndexByte ds os = some (r, os')) : Contract Tryd.prog 35 ds os r os' := by
  unfold pIndexByte at h
  split at h
  · rename_i s c
    cases h
    refine contract_below (fun _ _ _ h => by cases h) fun Z w vs O0 hA hG hl hR => ?_
    obtain ⟨x, y, rfl, h1, h2⟩ := arg2 hl hR
    obtain rfl := rva_v h1
    obtain rfl := rva_v h2
    exact (Tryd.strings_IndexByte s c w).mono fun e w' he => ⟨_, he.1, .v _, by rw [he.2]; exact Below.refl _ _⟩
  · cases h
theorem wordC_len : wordCs.length = 24 := rfl
theorem sWords {ds : List D} {os : List (List D)} {r : D} {os' : List (List D)} (h : pWords ds os = some (r, os')) : Contract Tryd.prog 9 ds os r os' := by
  unfold pWords at h
  split at h
  case h_2 => cases h
  cases h
  intro Z w vs O0 hA hB hl hR hos huq hob hlt hG hN
  obtain rfl : vs = #[] := Array.eq_empty_of_size_eq_zero hl
  obtain ⟨m, hm⟩ := maxLen_cell hG
  refine (wordsCalls m w hm).mono fun e w' he => ?_
  obtain ⟨g, c, cur, rfl, hg, hgb, h24, hcm, hcs, htk, hb⟩ := he
  have hO0 : O0 g = .none := by
    cases ho : O0 g with
    | none => rfl
    | _ => have := hlt g (by rw [ho]; simp); omega
  have hgl : g < w'.heap.size := (Array.getElem?_eq_some_iff.1 hgb).1
  have hZ0 : ∀ o, Z g o = none := fun o => by
    cases hz : Z g o with
    | none => rfl
    | some y =>
      have := World.block_lt_of_cell? w _ (hA g o y hz).1
      dsimp only at this
      omega
  refine ⟨_, Z, fun k => if k = g then .at (.t 0) else O0 k, rfl, FZ.le_refl Z, fun b o y hy => .inl hy, below_keeps hA hb, hb.os, hb.tape, hb.output, hb.size, fun k hk _ => hb.block k hk, rfl, fun i cs h => by simp at h, fun g' b => ?_, fun g' hg' => ?_, g, c, cur, 9, rfl, h24, if_pos rfl, Hp.of0 hgb, by rw [wordC_len, hcs]; exact h24, fun j h h' => ?_, hZ0, by rfl⟩
  · by_cases e : g' = g
    · subst e
      simp only [if_true, hO0]
      exact ⟨fun h => (by cases h), fun h => (by cases h)⟩
    · simp only [if_neg e]
  · by_cases e : g' = g
    · subst e; exact ⟨.inl hg, hgl⟩
    · simp only [if_neg e] at hg'
      exact ⟨.inr hg', Nat.lt_of_lt_of_le (hlt g' hg') hb.size⟩
  · rw [wordC_len] at h
    have e1 : (cur.toList.take 24)[j]? = some (cur[j]'h') := by rw [List.getElem?_take, if_pos h, Array.getElem?_toList, Array.getElem?_eq_getElem h']
    have e2 : wordCs[j]? = (wrdS[j]?).map fun w => .v (.string (bs w)) := by unfold wordCs; rw [List.getElem?_map]
    rw [htk, List.getElem?_map] at e1
    obtain ⟨x, hx, hx2⟩ := Option.map_eq_some_iff.1 e1
    rw [List.getElem?_eq_getElem (by rw [wordC_len]; exact h), hx, Option.map_some, Option.some.injEq] at e2
    rw [e2, ← hx2]
    exact ⟨.v _, rfl⟩
end Go.Proofs.YtcdeidljcmlfdaaDoor
