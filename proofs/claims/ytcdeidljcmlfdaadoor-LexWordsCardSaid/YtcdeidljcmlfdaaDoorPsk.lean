/- Contracts by hand out of contracts of the library's (the session's own words). -/
import Derived.Test.YtcdeidljcmlfdaaDoorEng
import Derived.Test.YtcdeidljcmlfdaaDoorPdf
namespace Go.Eng
open Go.RowKit
set_option linter.unusedVariables false
set_option linter.unusedSimpArgs false
theorem below_keeps {w w' : World} {Z : FZ} (hA : Agree Z w) (h : Below w.heap.size w w') : Agree Z w' := fun b o x hx => by
  obtain ⟨h1, h2⟩ := hA b o x hx
  refine ⟨?_, h2⟩
  rw [h.cell (p := ⟨b, o, none⟩) (World.block_lt_of_cell? w _ h1)]
  exact h1
/-- whoever lays new blocks alone, and gives data back -/
theorem contract_below {P : Program} {f : FuncId} {ds : List D} {r : D} (hr : ∀ k m cs, r ≠ .raw k m cs)
    (h : ∀ (Z : FZ) (w : World) (vs : Array Value) (O0 : OM), Agree Z w → Gks w → vs.size = ds.length → (∀ i (h : i < ds.length) (h' : i < vs.size), RV Z O0 w (.t i) vs[i] ds[i]) → Calls P f vs w fun e w' => ∃ x, e = .returned x ∧ Rp Z x r ∧ Below w.heap.size w w') : Contract P f ds [] r [] := by
  intro Z w vs O0 hA hB hl hR hos huq hob hlt hG hN
  refine (h Z w vs O0 hA hG hl hR).mono fun e w' he => ?_
  obtain ⟨x, rfl, hx, hb⟩ := he
  exact ⟨x, Z, O0, rfl, FZ.le_refl Z, fun b o y hy => .inl hy, below_keeps hA hb, hb.os, hb.tape, hb.output, hb.size, fun k hk _ => hb.block k hk, rfl, fun i cs h => by simp at h, fun g b => Iff.rfl, fun g hg => ⟨.inr hg, Nat.lt_of_lt_of_le (hlt g hg) hb.size⟩, RVr.of (RV.ofRp hx) hr⟩
/-- its arguments -/
theorem arg1 {Z : FZ} {O : OM} {w : World} {vs : Array Value} {d : D} (hl : vs.size = 1) (hR : ∀ i (h : i < [d].length) (h' : i < vs.size), RV Z O w (.t i) vs[i] [d][i]) : ∃ a, vs = #[a] ∧ RV Z O w (.t 0) a d := by
  refine ⟨vs[0], ?_, hR 0 (by simp) (by omega)⟩
  apply Array.ext
  · simp [hl]
  · intro i h1 h2
    have : i = 0 := by omega
    subst this; rfl
theorem arg2 {Z : FZ} {O : OM} {w : World} {vs : Array Value} {d e : D} (hl : vs.size = 2) (hR : ∀ i (h : i < [d, e].length) (h' : i < vs.size), RV Z O w (.t i) vs[i] [d, e][i]) : ∃ a b, vs = #[a, b] ∧ RV Z O w (.t 0) a d ∧ RV Z O w (.t 1) b e := by
  refine ⟨vs[0], vs[1], ?_, hR 0 (by simp) (by omega), hR 1 (by simp) (by omega)⟩
  apply Array.ext
  · simp [hl]
  · intro i h1 h2
    rcases (by omega : i = 0 ∨ i = 1) with h | h <;> subst h <;> rfl
theorem arg3 {Z : FZ} {O : OM} {w : World} {vs : Array Value} {d e f : D} (hl : vs.size = 3) (hR : ∀ i (h : i < [d, e, f].length) (h' : i < vs.size), RV Z O w (.t i) vs[i] [d, e, f][i]) : ∃ a b c, vs = #[a, b, c] ∧ RV Z O w (.t 0) a d ∧ RV Z O w (.t 1) b e ∧ RV Z O w (.t 2) c f := by
  refine ⟨vs[0], vs[1], vs[2], ?_, hR 0 (by simp) (by omega), hR 1 (by simp) (by omega), hR 2 (by simp) (by omega)⟩
  apply Array.ext
  · simp [hl]
  · intro i h1 h2
    rcases (by omega : i = 0 ∨ i = 1 ∨ i = 2) with h | h | h <;> subst h <;> rfl
theorem rva_v {Z : FZ} {O : OM} {w : World} {p : Pos} {x y : Value} (h : RV Z O w p x (.v y)) : x = y := by
  have h' : Rp Z x (.v y) := h
  cases h'; rfl
end Go.Eng
