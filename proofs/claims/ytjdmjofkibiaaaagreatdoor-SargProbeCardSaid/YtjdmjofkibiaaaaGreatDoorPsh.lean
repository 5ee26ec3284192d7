/- Contracts by hand out of contracts of the library's: one by one (the session's own words). -/
import Derived.Test.YtjdmjofkibiaaaaGreatDoorPsk
import Derived.Test.YtjdmjofkibiaaaaGreatDoorShf
import Derived.Below
namespace Go.Proofs.YtjdmjofkibiaaaaGreatDoor
open Go Go.Eng Go.Proofs Go.RowKit
set_option linter.unusedVariables false
set_option linter.unusedSimpArgs false
theorem maxLen_cell {w : World} (h : Gks w) : ∃ m, w.cell? ⟨1, 0, none⟩ = some (.int .i64 m) := by
  obtain ⟨cs, e, fr, h1, m, rfl⟩ := h 1 (by simp [gids])
  exact ⟨m, by simp [World.cell?, h1]⟩
theorem sReplaceAll {ds : List D} {os : List (List D)} {r : D} {os' : List (List D)} (h : pReplaceAll ds os = some (r, os')) : Contract Tryz.prog 156 ds os r os' := by
  unfold pReplaceAll at h
  split at h
  · split at h
    · rename_i s a b hc
      cases h
      refine contract_below (fun _ _ _ h => by cases h) fun Z w vs O0 hA hG hl hR => ?_
      obtain ⟨x, y, z, rfl, h1, h2, h3⟩ := arg3 hl hR
      obtain rfl := rva_v h1
      obtain rfl := rva_v h2
      obtain rfl := rva_v h3
      obtain ⟨m, hm⟩ := maxLen_cell hG
      exact (Tryz.strings_ReplaceAll s a b m w hc.1 hm hc.2.1 hc.2.2).mono fun e w' he => ⟨_, he.1, .v _, he.2⟩
    · cases h
  · cases h
end Go.Proofs.YtjdmjofkibiaaaaGreatDoor
