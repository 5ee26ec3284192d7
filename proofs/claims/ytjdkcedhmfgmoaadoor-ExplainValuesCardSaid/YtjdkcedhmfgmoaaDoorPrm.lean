/- Contracts by hand (the session's own words). -/
import Derived.Test.YtjdkcedhmfgmoaaDoorPrk
import Derived.Test.YtjdkcedhmfgmoaaDoorPsh
import Derived.Test.YtjdkcedhmfgmoaaDoorBsh
namespace Go.Proofs.YtjdkcedhmfgmoaaDoor
open Go Go.Eng Go.Proofs
theorem prims_sound : SoundF Tryd.prog prims := by
  refine ⟨fun f ds os r os' h => ?_, fun f ds os p h => ?_⟩
  · unfold prims at h
    split at h
    · rename_i e; subst e; exact sReplaceAll h
    split at h
    · rename_i e; subst e; exact sIndex h
    split at h
    · rename_i e; subst e; exact sItoa h
    split at h
    · rename_i e; subst e; exact sFormatInt h
    split at h
    · rename_i e; subst e; exact sParseInt h
    split at h
    · rename_i e; subst e; exact sJoin h
    split at h
    · rename_i e; subst e; exact sCopyCheck h
    split at h
    · rename_i e; subst e; exact sString h
    cases h
  · unfold prims at h
    split at h
    · rename_i e; subst e; exact ⟨_, Tryd.func49, by kernel_rfl, by kernel_rfl⟩
    split at h
    · rename_i e; subst e; exact ⟨_, Tryd.func67, by kernel_rfl, by kernel_rfl⟩
    split at h
    · rename_i e; subst e; exact ⟨_, Tryd.func61, by kernel_rfl, by kernel_rfl⟩
    split at h
    · rename_i e; subst e; exact ⟨_, Tryd.func48, by kernel_rfl, by kernel_rfl⟩
    split at h
    · rename_i e; subst e; exact ⟨_, Tryd.func51, by kernel_rfl, by kernel_rfl⟩
    split at h
    · rename_i e; subst e; exact ⟨_, Tryd.func39, by kernel_rfl, by kernel_rfl⟩
    split at h
    · rename_i e; subst e; exact ⟨_, Tryd.func56, by kernel_rfl, by kernel_rfl⟩
    split at h
    · rename_i e; subst e; exact ⟨_, Tryd.func37, by kernel_rfl, by kernel_rfl⟩
    cases h
end Go.Proofs.YtjdkcedhmfgmoaaDoor
