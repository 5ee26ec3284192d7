/- Contracts by hand (the session's own words). -/
import Derived.Test.YtcdeidljcmlfdaaDoorPrk
import Derived.Test.YtcdeidljcmlfdaaDoorPsh
namespace Go.Proofs.YtcdeidljcmlfdaaDoor
open Go Go.Eng Go.Proofs
theorem prims_sound : SoundF Tryd.prog prims := by
  refine ⟨fun f ds os r os' h => ?_, fun f ds os p h => ?_⟩
  · unfold prims at h
    split at h
    · rename_i e; subst e; exact sWord h
    split at h
    · rename_i e; subst e; exact sDigits h
    split at h
    · rename_i e; subst e; exact sIndexByte h
    split at h
    · rename_i e; subst e; exact sParseInt h
    split at h
    · rename_i e; subst e; exact sWords h
    cases h
  · unfold prims at h
    split at h
    · rename_i e; subst e; exact ⟨_, Tryd.func11, by kernel_rfl, by kernel_rfl⟩
    split at h
    · rename_i e; subst e; exact ⟨_, Tryd.func32, by kernel_rfl, by kernel_rfl⟩
    split at h
    · rename_i e; subst e; exact ⟨_, Tryd.func35, by kernel_rfl, by kernel_rfl⟩
    split at h
    · rename_i e; subst e; exact ⟨_, Tryd.func33, by kernel_rfl, by kernel_rfl⟩
    split at h
    · rename_i e; subst e; exact ⟨_, Tryd.func9, by kernel_rfl, by kernel_rfl⟩
    cases h
end Go.Proofs.YtcdeidljcmlfdaaDoor
