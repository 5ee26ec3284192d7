/- Terms that read as data (the session's own words). -/
import Derived.Test.YtneihjdkaogkiaaDoorOpn
import Derived.Test.YtneihjdkaogkiaaDoorTyp
import Derived.ProofKit
import Derived.OpenShut
namespace Go.Proofs.YtneihjdkaogkiaaDoor
open Go Go.Eng Go.Proofs Go.RowKit
set_option linter.unusedVariables false
set_option linter.unusedSimpArgs false
def vcells (y : Int × Int × ByteArray) : List D := [.v (.int .u8 y.1), .v (.int .i64 y.2.1), .v (.string y.2.2)]
theorem opd_val (m : Nat) : OpD Tryd.prog 41 vcells (fun _ => True) (m + 1) :=
  opd_map (opd_struct Tryd.underlying41 (by kernel_rfl) (fsd_cons (k := 1) (opd_int Tryd.underlying5 m) (by kernel_rfl) (fsd_cons (k := 1) (opd_int Tryd.underlying2 m) (by kernel_rfl) (fsd_one (n := 1) (opd_string Tryd.underlying9 m) (by kernel_rfl)) rfl) rfl)) (fun y => y) (fun y => rfl) (fun _ _ => trivial)
theorem opd_term : ∀ m, OpD Tryd.prog 43 tcells (fun _ => True) m
  | 0 => opd_zero
  | m + 1 => by
    have ih := opd_term m
    refine opd_map (opd_struct Tryd.underlying43 (by kernel_rfl) (fsd_cons (k := 1) (opd_int Tryd.underlying5 m) (by kernel_rfl) (fsd_cons (k := 1) (opd_string Tryd.underlying9 m) (by kernel_rfl) (fsd_cons (k := 1) (opd_bool Tryd.underlying4 m) (by kernel_rfl)
      (fsd_cons (k := 3) (opd_le (opd_val m) (Nat.le_succ m)) (by kernel_rfl) (fsd_cons (k := 1) (opd_string Tryd.underlying9 m) (by kernel_rfl) (fsd_cons (k := 1) (opd_string Tryd.underlying9 m) (by kernel_rfl) (fsd_cons (k := 1) (opd_int Tryd.underlying3 m) (by kernel_rfl) (fsd_cons (k := 1) (opd_int Tryd.underlying3 m) (by kernel_rfl)
      (fsd_one (n := 1) (opd_slice (k := 11) Tryd.underlying22 (by kernel_rfl) (by decide) tc_len tc_one m ih) (by kernel_rfl)) rfl) rfl) rfl) rfl) rfl) rfl) rfl) rfl))
      (fun y => Term.mk y.1 y.2.1 y.2.2.1 ⟨y.2.2.2.1.1, y.2.2.2.1.2.1, y.2.2.2.1.2.2⟩ y.2.2.2.2.1 y.2.2.2.2.2.1 y.2.2.2.2.2.2.1 y.2.2.2.2.2.2.2.1 y.2.2.2.2.2.2.2.2) (fun y => ?_) (fun _ _ => trivial)
    rw [tcells_eq]
    rfl
theorem opd_terms (m : Nat) : OpD Tryd.prog 22 (fun l : List Term => [.sl 11 (l.map tcells)]) (fun l => l.length ≤ maxLen) m :=
  opd_map (opd_slice (k := 11) Tryd.underlying22 (by kernel_rfl) (by decide) tc_len tc_one m (opd_term m)) (fun y => y) (fun y => rfl) (fun _ h => h.1)
theorem FF_sound : SoundF Tryd.prog FF := by
  refine Fs_sound Tryd.prog hints (fun _ _ => none) (sound_any (by kernel_rfl)) ⟨fun _ _ _ h => (by cases h), fun _ _ _ h => (by cases h)⟩ fun f fn hf => ?_
  have h : (Tryd.prog.funcs.all fun fn => !(fn.name == "runtime.NumGoroutine")) = true := by kernel_rfl
  rw [Array.all_eq_true] at h
  obtain ⟨hi, rfl⟩ := Array.getElem?_eq_some_iff.1 hf
  simpa using h f hi
theorem wf_u32 {n : Int} (h : (Lit.int .u32 n).wf = true) : ∃ m : Nat, m < 2 ^ 32 ∧ n = (m : Int) := by
  have : 0 ≤ n ∧ n < 2 ^ 32 := by
    simp [Lit.wf, IntKind.min, IntKind.max, IntKind.signed, IntKind.bits] at h
    omega
  exact ⟨n.toNat, by omega, by omega⟩
end Go.Proofs.YtneihjdkaogkiaaDoor
