-- printed for this claim by a copy of the printer that this session turned (wip/pp)
import Derived.Test.YtneihjdkaogkiaaPCalcDox0
import Derived.Test.YtneihjdkaogkiaaPCalcDox11
import Derived.Test.YtneihjdkaogkiaaOpen
namespace Go.Proofs.Ytneihjdkaogkiaa.PCalcDo
open Go.RowKit Go.Proofs.Ytneihjdkaogkiaa.Opn Go.Proofs.YtneihjdkaogkiaaW.PrintWords Go.Proofs.YtneihjdkaogkiaaW.PrintLast
set_option linter.unusedVariables false
def G43 (x : S43) : Prop := ((Lit.int .u8 x.f0).wf = true) ∧ ((Lit.int .i64 x.f1).wf = true) ∧ (x.f2.size ≤ reachBytes)
theorem o43 (m : Nat) : OpensLe Try.prog 43 k43 G43 m := opens_le (m := m) (opens_imp (opens_struct (proj := fun x : S43 => (x.f0, x.f1, x.f2)) Try.underlying43 (by kernel_rfl) (fun y => (⟨y.1, y.2.1, y.2.2⟩ : S43)) (fun _ => rfl) (fields_cons (opens_int Try.underlying5 (by kernel_rfl) m) (fields_cons (opens_int Try.underlying2 (by kernel_rfl) m) (fields_one (opens_string Try.underlying9 (by kernel_rfl) m)) rfl) rfl)) (fun y h => by obtain ⟨h0, ⟨h1, h2⟩⟩ := h; exact ⟨h0, h1, h2⟩))
/-- THE ONE PURE STATEMENT of rowlocklaw03_CalcDo. -/
def rowlocklaw03_CalcDo.Pure : Prop := ∀ (a0 : ByteArray) (a1_0 : Int) (a1_1 : Int) (a1_2 : ByteArray) (a2_0 : Int) (a2_1 : Int) (a2_2 : ByteArray), (a0.size ≤ reachBytes) → (G43 (⟨a1_0, a1_1, a1_2⟩ : S43)) → (G43 (⟨a2_0, a2_1, a2_2⟩ : S43)) → ∃ k, rowlocklaw03_CalcDo.f k a0 a1_0 a1_1 a1_2 a2_0 a2_1 a2_2 = some true
end Go.Proofs.Ytneihjdkaogkiaa.PCalcDo
