/- A listed table of numbers, as the row's condition gives it (the session's own words). -/
import Derived.Test.YtneihjdkaogkiaaDoorOpn
import Derived.OpenShut
import Derived.FnData
namespace Go.Eng
open Go
set_option linter.unusedVariables false
set_option linter.unusedSimpArgs false

theorem laid_ints {P : Program} {W : World} {name : String} {g t e : Nat} {k : IntKind} {L : List Int} {r : List (String × DataW Unit)} {ps : List MemPlace}
    (h : DataW.LaidVars P W ((name, .agg (L.map fun n => .lit (.int k n))) :: r) ps) (hg : P.globalNamed name = some g) (ht : (P.globals[g]?).map (·.type) = some t)
    (hu : P.underlying t = some (.array L.length e)) (he : P.underlying e = some (.int k)) (hc : P.cellsOf e = 1) :
    ∀ i (h : i < (L.map fun n => Value.int k n).length), FZw W g i = some ((L.map fun n => Value.int k n)[i]) := by
  obtain ⟨g0, t0, cs0, f0, p0, q0, hg0, ht0, hv0, hd0, _⟩ := h
  obtain rfl := Option.some.inj (hg.symm.trans hg0)
  obtain rfl := Option.some.inj (ht.symm.trans ht0)
  obtain ⟨xs, m, rfl, hx, hl, hn, hel⟩ := DataW.trod_array hu hd0
  simp only [Prod.mk.injEq, DataW.agg.injEq] at hx
  intro i hi
  rw [List.length_map] at hi
  have h1 := hel i hi
  have hxi : xs[i]? = some xs[i] := List.getElem?_eq_getElem (by omega)
  rw [hxi] at h1
  obtain ⟨n, e1, e2, _⟩ := DataW.trod_int he h1
  have h2 : (L.map fun n => DataW.lit (Lit.int k n))[i]? = (xs.map (·.1))[i]? := by rw [hx.1]
  rw [List.getElem?_map, List.getElem?_map, hxi, e2, List.getElem?_eq_getElem hi] at h2
  simp only [Option.map_some, Option.some.injEq, DataW.lit.injEq, Lit.int.injEq, true_and] at h2
  rw [hc, Nat.mul_one] at e1
  have h3 : cs0[i]? = some (.int k n) := by
    have := congrArg (fun l : List Value => l[0]?) e1
    simpa using this
  have h4 := World.var?_cell hg hv0 i
  rw [h3] at h4
  unfold FZw
  rw [h4]
  simp only [Option.bind_some, List.getElem_map, h2]
  rfl
end Go.Eng
