/- Contracts by hand: how they are shown (the session's own words). -/
import Derived.Test.YtcdeidljcmlfdaaDoorTab
namespace Go.Proofs.YtcdeidljcmlfdaaDoor
open Go Go.Eng Go.Proofs
set_option linter.unusedVariables false
set_option linter.unusedSimpArgs false
def FN0 : FTy := fun _ _ _ => none
theorem FN0_sound : SoundF Tryd.prog FN0 := ⟨fun _ _ _ _ _ h => (by cases h), fun _ _ _ _ h => (by cases h)⟩
/-- an empty slice is nil, or it isn't: told of both -/
theorem empty_contract {f : FuncId} {r : D} (n : Nat) (h1 : ∀ c, denF Tryd.prog FN0 hints n f [.v (.slice none 0 c)] [] = some (r, [])) (h2 : ∀ ad c, denF Tryd.prog FN0 hints n f [.v (.slice (some ad) 0 c)] [] = some (r, [])) : Contract Tryd.prog f [.sl []] [] r [] := by
  have hS : SoundAny Tryd.prog := sound_any (by kernel_rfl)
  intro Z w vs O0 hA hB hl hR hos huq hob hlt hG hN
  have hl' : vs.size = 1 := hl
  have h0 : Rp Z vs[0] (.sl []) := hR 0 (by simp) (by omega)
  cases hv : vs[0] with
  | slice a m c =>
    rw [hv] at h0
    have hm : m = 0 := by
      cases h0 with
      | sl a n c k es hn hc ad ha hsp hk x hz hr => simpa using hn
    subst hm
    have hR' : ∀ i (h : i < [D.v (.slice a 0 c)].length) (h' : i < vs.size), RVa Z O0 vs[i] [D.v (.slice a 0 c)][i] := by
      intro i h h'
      obtain rfl : i = 0 := by simp at h; exact h
      show RVa Z O0 vs[0] (.v (.slice a 0 c))
      rw [hv]
      exact RVa.ofRp (.v _)
    cases a with
    | none => exact denF_sound hS FN0_sound hints n f _ _ _ _ (h1 c) Z w vs O0 hA hB hl (fun i h h' => (hR' i h h').rv) hos huq hob hlt hG hN
    | some ad => exact denF_sound hS FN0_sound hints n f _ _ _ _ (h2 ad c) Z w vs O0 hA hB hl (fun i h h' => (hR' i h h').rv) hos huq hob hlt hG hN
  | _ => rw [hv] at h0; cases h0
end Go.Proofs.YtcdeidljcmlfdaaDoor
