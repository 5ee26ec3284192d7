/- Contracts by hand (the session's own words). -/
import Derived.Test.YtjdkcedhmfgmoaaPrk
namespace Go.Proofs.Ytjdkcedhmfgmoaa
open Go Go.Eng Go.Proofs
theorem prims_sound : SoundF Try.prog prims := by
  refine ⟨fun f ds os r os' h => ?_, fun f ds os p h => ?_⟩
  · unfold prims at h
    split at h
    · cases h
      exact empty_contract 9 (fun c => by kernel_rfl) (fun ad c => by kernel_rfl)
    · cases h
  · unfold prims at h
    split at h
    · exact ⟨_, Try.func39, by kernel_rfl, by kernel_rfl⟩
    · cases h
end Go.Proofs.Ytjdkcedhmfgmoaa
