/- Contracts by hand out of contracts of the library's: one by one (the session's own words). -/
import Derived.Test.YtjdkcedhmfgmoaaDoorPsk
import Derived.Test.YtjdkcedhmfgmoaaDoorShf
namespace Go.Proofs.YtjdkcedhmfgmoaaDoor
open Go Go.Eng Go.Proofs Go.RowKit Go.Sort
set_option linter.unusedVariables false
set_option linter.unusedSimpArgs false
theorem below_grow (w : World) (k : Nat) (os : Array Obj) : Below w.heap.size w (grow (w.drewN k) os) := by
  refine ⟨rfl, rfl, rfl, by simp [grow], fun i hi => ?_⟩
  show (w.heap ++ os)[i]? = _
  rw [Array.getElem?_append, if_pos hi]
theorem maxLen_cell {w : World} (h : Gks w) : ∃ m, w.cell? ⟨0, 0, none⟩ = some (.int .i64 m) := by
  obtain ⟨cs, e, fr, h1, m, rfl⟩ := h 0 (by simp [gids])
  exact ⟨m, by simp [World.cell?, h1]⟩
theorem err_cell {w : World} (h : Gks w) (g : Nat) (hg : g = 2 ∨ g = 3) : ∃ ev, w.cell? ⟨g, 0, none⟩ = some ev ∧ (ev = .nilIface ∨ ∃ te pe, ev = .iface te pe) := by
  rcases hg with rfl | rfl
  · obtain ⟨cs, e, fr, h1, ev, rfl, h2⟩ := h 2 (by simp [gids])
    exact ⟨ev, by simp [World.cell?, h1], h2⟩
  · obtain ⟨cs, e, fr, h1, ev, rfl, h2⟩ := h 3 (by simp [gids])
    exact ⟨ev, by simp [World.cell?, h1], h2⟩
theorem pow_tab {w : World} (h : Gks w) : Lib.TabIs Tryd.prog w "internal/strconv.uint64pow10" .u64 Lib.pow10Tab := by
  obtain ⟨cs, e, fr, h1, hc⟩ := h 1 (by simp [gids])
  have hn : Tryd.prog.globalNamed "internal/strconv.uint64pow10" = some 1 := by kernel_rfl
  unfold Lib.TabIs World.var?
  rw [hn, Option.bind_some, h1]
  have hc : cs = #[.int .u64 1, .int .u64 10, .int .u64 100, .int .u64 1000, .int .u64 10000, .int .u64 100000, .int .u64 1000000, .int .u64 10000000, .int .u64 100000000, .int .u64 1000000000, .int .u64 10000000000, .int .u64 100000000000, .int .u64 1000000000000, .int .u64 10000000000000, .int .u64 100000000000000, .int .u64 1000000000000000, .int .u64 10000000000000000, .int .u64 100000000000000000, .int .u64 1000000000000000000, .int .u64 10000000000000000000] := hc
  subst hc
  rfl
theorem sReplaceAll {ds : List D} {os : List (List D)} {r : D} {os' : List (List D)} (h : pReplaceAll ds os = some (r, os')) : Contract Tryd.prog 49 ds os r os' := by
  unfold pReplaceAll at h
  split at h
  · split at h
    · rename_i s a b hc
      cases h
      refine contract_below (fun _ _ _ h => by cases h) fun Z w vs O0 hA hG hl hR => ?_
      obtain ⟨x, y, z, rfl, h1, h2, h3⟩ := arg3 hl hR
      obtain rfl := rva_v h1
      obtain rfl := rva_v h2
      obtain rfl := rva_v h3
      obtain ⟨m, hm⟩ := maxLen_cell hG
      exact (Tryd.strings_ReplaceAll s a b m w hc.1 hm hc.2.1 hc.2.2).mono fun e w' he => ⟨_, he.1, .v _, he.2⟩
    · cases h
  · cases h
theorem sIndex {ds : List D} {os : List (List D)} {r : D} {os' : List (List D)} (h : pIndex ds os = some (r, os')) : Contract Tryd.prog 67 ds os r os' := by
  unfold pIndex at h
  split at h
  · split at h
    · rename_i s a hc
      cases h
      refine contract_below (fun _ _ _ h => by cases h) fun Z w vs O0 hA hG hl hR => ?_
      obtain ⟨x, y, rfl, h1, h2⟩ := arg2 hl hR
      obtain rfl := rva_v h1
      obtain rfl := rva_v h2
      obtain ⟨m, hm⟩ := maxLen_cell hG
      exact (Tryd.strings_Index s a m w hc hm).mono fun e w' he => ⟨_, he.1, .v _, by rw [he.2]; exact Below.refl _ _⟩
    · cases h
  · cases h
theorem sItoa {ds : List D} {os : List (List D)} {r : D} {os' : List (List D)} (h : pItoa ds os = some (r, os')) : Contract Tryd.prog 61 ds os r os' := by
  unfold pItoa at h
  split at h
  · split at h
    · rename_i n hc
      cases h
      refine contract_below (fun _ _ _ h => by cases h) fun Z w vs O0 hA hG hl hR => ?_
      obtain ⟨x, rfl, h1⟩ := arg1 hl hR
      obtain rfl := rva_v h1
      exact (Tryd.strconv_Itoa n hc.1 hc.2 w (pow_tab hG)).mono fun e w' he => ⟨_, he.1, .v _, by obtain ⟨k, o, hw⟩ := he.2; rw [hw]; exact below_grow w k o⟩
    · cases h
  · cases h
theorem sFormatInt {ds : List D} {os : List (List D)} {r : D} {os' : List (List D)} (h : pFormatInt ds os = some (r, os')) : Contract Tryd.prog 48 ds os r os' := by
  unfold pFormatInt at h
  split at h
  · split at h
    · rename_i n hc
      cases h
      refine contract_below (fun _ _ _ h => by cases h) fun Z w vs O0 hA hG hl hR => ?_
      obtain ⟨x, y, rfl, h1, h2⟩ := arg2 hl hR
      obtain rfl := rva_v h1
      obtain rfl := rva_v h2
      exact (Tryd.strconv_FormatInt_10 n hc.1 hc.2 w (pow_tab hG)).mono fun e w' he => ⟨_, he.1, .v _, by obtain ⟨k, o, hw⟩ := he.2; rw [hw]; exact below_grow w k o⟩
    · cases h
  · cases h
theorem rp_two {Z : FZ} {a b : Value} {d e : D} (h1 : Rp Z a d) (h2 : Rp Z b e) : Rp Z (.tuple #[a, b]) (.tup [d, e]) :=
  .tup [a, b] [d, e] rfl fun i hi hj => by
    rcases (by simp at hi; omega : i = 0 ∨ i = 1) with h | h <;> subst h
    · exact h1
    · exact h2
theorem sParseInt {ds : List D} {os : List (List D)} {r : D} {os' : List (List D)} (h : pParseInt ds os = some (r, os')) : Contract Tryd.prog 51 ds os r os' := by
  unfold pParseInt at h
  split at h
  · split at h
    · rename_i s hc
      split at h
      · rename_i v hv
        cases h
        refine contract_below (fun _ _ _ h => by cases h) fun Z w vs O0 hA hG hl hR => ?_
        obtain ⟨x, y, z, rfl, h1, h2, h3⟩ := arg3 hl hR
        obtain rfl := rva_v h1
        obtain rfl := rva_v h2
        obtain rfl := rva_v h3
        refine (Tryd.strconv_ParseInt_10_at64_ok s (by omega) v hv w).mono fun e w' he => ⟨_, he.1, rp_two (.v _) (.v _), ?_⟩
        rcases he.2 with rfl | ⟨t, rfl⟩
        · exact Below.refl _ _
        · exact Lib.bytesWorld_below w 5 t
      · rename_i hv
        cases h
        refine contract_below (fun _ _ _ h => by cases h) fun Z w vs O0 hA hG hl hR => ?_
        obtain ⟨x, y, z, rfl, h1, h2, h3⟩ := arg3 hl hR
        obtain rfl := rva_v h1
        obtain rfl := rva_v h2
        obtain rfl := rva_v h3
        obtain ⟨ev, e1, e2⟩ := err_cell hG 3 (.inr rfl)
        refine (Tryd.strconv_ParseInt_10_at64_range s hc hv ev w e1 e2).mono fun e w' he => ?_
        obtain ⟨N, he, _, _, hb⟩ := he
        exact ⟨_, he, rp_two (.v _) (.nn _ _), hb⟩
      · rename_i hv1 hv2
        have hv : numBad (Lib.parseIntB 64 s.data.toList) = true := by
          cases hh : Lib.parseIntB 64 s.data.toList with
          | ok v => exact absurd hh (hv1 v)
          | range => exact absurd hh hv2
          | _ => rfl
        cases h
        refine contract_below (fun _ _ _ h => by cases h) fun Z w vs O0 hA hG hl hR => ?_
        obtain ⟨x, y, z, rfl, h1, h2, h3⟩ := arg3 hl hR
        obtain rfl := rva_v h1
        obtain rfl := rva_v h2
        obtain rfl := rva_v h3
        obtain ⟨ev, e1, e2⟩ := err_cell hG 2 (.inl rfl)
        refine (Tryd.strconv_ParseInt_10_at64_bad s hc hv ev w e1 e2).mono fun e w' he => ?_
        obtain ⟨N, he, _, _, hb⟩ := he
        exact ⟨_, he, rp_two (.v _) (.nn _ _), hb⟩
    · cases h
  · cases h
theorem strs_spec : ∀ {es : List (List D)} {xs : List ByteArray}, strs es = some xs → xs.length = es.length ∧ ∀ i (h : i < es.length) (h' : i < xs.length), es[i] = [.v (.string xs[i])]
  | [], xs, h => by simp only [strs, Option.some.injEq] at h; subst h; exact ⟨rfl, fun i h => absurd h (Nat.not_lt_zero _)⟩
  | e :: es, xs, h => by
    unfold strs at h
    split at h
    · rename_i he; cases he
    · rename_i s l he
      cases he
      simp only [Option.map_eq_some_iff] at h
      obtain ⟨ys, hy, rfl⟩ := h
      obtain ⟨h1, h2⟩ := strs_spec hy
      refine ⟨by simp [h1], fun i hi hj => ?_⟩
      cases i with
      | zero => rfl
      | succ i => exact h2 i (by simpa using hi) (by simpa using hj)
    · cases h
theorem sJoin {ds : List D} {os : List (List D)} {r : D} {os' : List (List D)} (h : pJoin ds os = some (r, os')) : Contract Tryd.prog 39 ds os r os' := by
  unfold pJoin at h
  split at h
  · rename_i es p
    rw [Option.bind_eq_some_iff] at h
    obtain ⟨xs, hxs, h⟩ := h
    obtain ⟨hn, he⟩ := strs_spec hxs
    split at h
    · rename_i hc
      cases h
      refine contract_below (fun _ _ _ h => by cases h) fun Z w vs O0 hA hG hl hR => ?_
      obtain ⟨x, y, rfl, h1, h2⟩ := arg2 hl hR
      obtain rfl := rva_v h2
      have h1' : Rp Z x (.sl es) := h1
      cases h1' with
      | sl a n c k _ hn2 hc2 ad ha hsp hk xx hz hr =>
        rcases Nat.eq_zero_or_pos n with h0 | h0
        · subst h0
          have : xs = [] := List.eq_nil_of_length_eq_zero (by omega)
          subst this
          refine (Tryd.strings_Join_none a c p w).mono fun e w' he => ⟨_, he.1, ?_, by rw [he.2]; exact Below.refl _ _⟩
          exact .v _
        · have had := ha h0
          subst had
          obtain ⟨bk, off, sp⟩ := ad
          simp only at hsp
          subst hsp
          have hk1 : k = 1 := by
            have h4 := hk 0 (by omega)
            rw [he 0 (by omega) (by omega)] at h4
            exact h4.symm
          subst hk1
          have hcell : ∀ (j : Nat) x, xs[j]? = some x → w.cell? ⟨bk, off + j, none⟩ = some (.string x) := by
            intro j x hx
            obtain ⟨hj, rfl⟩ := List.getElem?_eq_some_iff.1 hx
            have e1 := he j (by omega) hj
            have z1 := hz j (by omega) 0 (by rw [e1]; simp)
            have r1 := hr j (by omega) 0 (by rw [e1]; simp)
            have : (es[j]'(by omega))[0]'(by rw [e1]; simp) = D.v (.string xs[j]) := by simp [e1]
            rw [this] at r1
            have hx1 : xx j 0 = .string xs[j] := by
              generalize xx j 0 = q at r1
              cases r1; rfl
            rw [hx1] at z1
            have := (hA _ _ _ z1).1
            simpa using this
          have hbk : bk < w.heap.size := World.block_lt_of_cell? w _ (hcell 0 (xs[0]'(by omega)) (List.getElem?_eq_getElem (by omega)))
          have := Tryd.strings_Join bk off c xs p w hcell hbk hc.1 (by omega) hc.2
          rw [show xs.length = n by omega] at this
          exact this.mono fun e w' he => ⟨_, he.1, .v _, he.2⟩
    · cases h
  · rename_i p
    cases h
    refine contract_below (fun _ _ _ h => by cases h) fun Z w vs O0 hA hG hl hR => ?_
    obtain ⟨x, y, rfl, h1, h2⟩ := arg2 hl hR
    obtain rfl := rva_v h1
    obtain rfl := rva_v h2
    exact (Tryd.strings_Join_none none 0 p w).mono fun e w' he => ⟨_, he.1, .v _, by rw [he.2]; exact Below.refl _ _⟩
  · cases h
end Go.Proofs.YtjdkcedhmfgmoaaDoor
