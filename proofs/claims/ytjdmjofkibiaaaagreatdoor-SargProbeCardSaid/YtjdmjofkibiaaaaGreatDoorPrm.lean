/- Contracts by hand (the session's own words). -/
import Derived.Test.YtjdmjofkibiaaaaGreatDoorPrk
import Derived.Test.YtjdmjofkibiaaaaGreatDoorPsh
import Derived.Test.YtjdmjofkibiaaaaGreatDoorBsh
namespace Go.Proofs.YtjdmjofkibiaaaaGreatDoor
open Go Go.Eng Go.Proofs
theorem prims_sound : SoundF Tryz.prog prims := by
  refine ⟨fun f ds os r os' h => ?_, fun f ds os p h => ?_⟩
  · unfold prims at h
    split at h
    · rename_i e; subst e; exact sReplaceAll h
    split at h
    · rename_i e; subst e; exact sCopyCheck h
    split at h
    · rename_i e; subst e; exact sString h
    cases h
  · unfold prims at h
    split at h
    · rename_i e; subst e; exact ⟨_, Tryz.func156, by kernel_rfl, by kernel_rfl⟩
    split at h
    · rename_i e; subst e; exact ⟨_, Tryz.func155, by kernel_rfl, by kernel_rfl⟩
    split at h
    · rename_i e; subst e; exact ⟨_, Tryz.func116, by kernel_rfl, by kernel_rfl⟩
    cases h
end Go.Proofs.YtjdmjofkibiaaaaGreatDoor
