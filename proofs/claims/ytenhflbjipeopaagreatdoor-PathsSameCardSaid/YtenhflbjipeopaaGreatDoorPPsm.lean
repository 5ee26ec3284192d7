/- Contracts by hand: what is laid anew may stay as it is, too (the session's own words). -/
import Derived.Test.YtenhflbjipeopaaGreatDoorPPsk
namespace Go.Eng
open Go.RowKit
set_option linter.unusedVariables false
set_option linter.unusedSimpArgs false
/-- whoever lays new blocks alone, and gives data back that stands in them -/
theorem contract_more {P : Program} {f : FuncId} {ds : List D} {r : D} (hr : ∀ k m cs, r ≠ .raw k m cs)
    (h : ∀ (Z : FZ) (w : World) (vs : Array Value) (O0 : OM), Agree Z w → Gks w → vs.size = ds.length → (∀ i (h : i < ds.length) (h' : i < vs.size), RVa Z O0 vs[i] ds[i]) →
      Calls P f vs w fun e w' => ∃ x Z', e = .returned x ∧ Z.le Z' ∧ (∀ b o y, Z' b o = some y → Z b o = some y ∨ w.heap.size ≤ b) ∧ Agree Z' w' ∧ Rp Z' x r ∧ Below w.heap.size w w') : Contract P f ds [] r [] := by
  intro Z w vs O0 hA hB hl hR hos huq hob hlt hG hN
  refine (h Z w vs O0 hA hG hl hR).mono fun e w' he => ?_
  obtain ⟨x, Z', rfl, hz, hn, hA', hx, hb⟩ := he
  exact ⟨x, Z', O0, rfl, hz, fun b o y hy => (hn b o y hy).imp id .inl, hA', hb.os, hb.tape, hb.output, hb.size, fun k hk _ => hb.block k hk, rfl, fun i cs h => by simp at h, fun g b => Iff.rfl, fun g hg => ⟨.inr hg, Nat.lt_of_lt_of_le (hlt g hg) hb.size⟩, RVr.of (RV.ofRp hx) hr⟩
/-- one cell more that stays as it is -/
def Z1 (Z : FZ) (g : Nat) (x : Value) : FZ := fun b o => if b = g ∧ o = 0 then some x else Z b o
theorem Z1_at (Z : FZ) (g : Nat) (x : Value) : Z1 Z g x g 0 = some x := by simp [Z1]
theorem Z1_le {Z : FZ} {w : World} {g : Nat} {x : Value} (hA : Agree Z w) (hg : w.heap.size ≤ g) : Z.le (Z1 Z g x) := fun b o y hy => by
  have := World.block_lt_of_cell? w _ (hA b o y hy).1
  unfold Z1
  rw [if_neg]
  · exact hy
  · intro h
    simp only at this
    omega
theorem Z1_new {Z : FZ} {w : World} {g : Nat} {x : Value} (hg : w.heap.size ≤ g) (b o : Nat) (y : Value) (h : Z1 Z g x b o = some y) : Z b o = some y ∨ w.heap.size ≤ b := by
  unfold Z1 at h
  split at h
  · rename_i hh
    exact .inr (by omega)
  · exact .inl h
theorem Z1_agree {Z : FZ} {w' : World} {g : Nat} {x : Value} (hA : Agree Z w') (hc : w'.cell? ⟨g, 0, none⟩ = some x) (h1 : x.oneCell' = true) : Agree (Z1 Z g x) w' := fun b o y hy => by
  unfold Z1 at hy
  split at hy
  · rename_i hh
    obtain ⟨rfl, rfl⟩ := hh
    cases hy
    exact ⟨hc, h1⟩
  · exact hA b o y hy
end Go.Eng
