/- What is made is so; numbers that read as data (the session's own words). -/
import Derived.Test.YtjdkcedhmfgmoaaOpn
import Derived.Test.YtjdkcedhmfgmoaaTyp
import Derived.ProofKit
import Derived.OpenShut
namespace Go.Proofs.Ytjdkcedhmfgmoaa
open Go Go.Eng Go.Proofs Go.RowKit
set_option linter.unusedVariables false
set_option linter.unusedSimpArgs false
def I64 (n : Int) : Prop := -9223372036854775808 ≤ n ∧ n < 9223372036854775808
def U64 (n : Int) : Prop := 0 ≤ n ∧ n < 18446744073709551616
theorem wf_i64 {n : Int} (h : (Lit.int .i64 n).wf = true) : I64 n := by
  simp [Lit.wf, IntKind.min, IntKind.max, IntKind.signed, IntKind.bits] at h
  exact ⟨by omega, by omega⟩
theorem wf_u8 {n : Int} (h : (Lit.int .u8 n).wf = true) : 0 ≤ n ∧ n < 256 := by
  simp [Lit.wf, IntKind.min, IntKind.max, IntKind.signed, IntKind.bits] at h
  omega
theorem wf_u64 {n : Int} (h : (Lit.int .u64 n).wf = true) : 0 ≤ n ∧ n < 18446744073709551616 := by
  simp [Lit.wf, IntKind.min, IntKind.max, IntKind.signed, IntKind.bits] at h
  omega
theorem wf_u32 {n : Int} (h : (Lit.int .u32 n).wf = true) : 0 ≤ n ∧ n < 4294967296 := by
  simp [Lit.wf, IntKind.min, IntKind.max, IntKind.signed, IntKind.bits] at h
  omega
theorem FF_sound : SoundF Try.prog FF := by
  refine Fs_sound Try.prog hints (fun _ _ => none) (sound_any (by kernel_rfl)) ⟨fun _ _ _ h => (by cases h), fun _ _ _ h => (by cases h)⟩ fun f fn hf => ?_
  have h : (Try.prog.funcs.all fun fn => !(fn.name == "runtime.NumGoroutine")) = true := by kernel_rfl
  rw [Array.all_eq_true] at h
  obtain ⟨hi, rfl⟩ := Array.getElem?_eq_some_iff.1 hf
  simpa using h f hi
end Go.Proofs.Ytjdkcedhmfgmoaa
