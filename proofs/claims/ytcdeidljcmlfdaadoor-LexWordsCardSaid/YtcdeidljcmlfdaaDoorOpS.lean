/- What is made is so; numbers that read as data (the session's own words). -/
import Derived.Test.YtcdeidljcmlfdaaDoorOpn
import Derived.Test.YtcdeidljcmlfdaaDoorTyp
import Derived.Test.YtcdeidljcmlfdaaDoorPrm
import Derived.ProofKit
import Derived.OpenShut
namespace Go.Proofs.YtcdeidljcmlfdaaDoor
open Go Go.Eng Go.Proofs Go.RowKit
set_option linter.unusedVariables false
set_option linter.unusedSimpArgs false
def I64 (n : Int) : Prop := -9223372036854775808 ≤ n ∧ n < 9223372036854775808
def U64 (n : Int) : Prop := 0 ≤ n ∧ n < 18446744073709551616
theorem wf_i64 {n : Int} (h : (Lit.int .i64 n).wf = true) : I64 n := by
  simp [Lit.wf, IntKind.min, IntKind.max, IntKind.signed, IntKind.bits] at h
  exact ⟨by omega, by omega⟩
theorem wf_u8 {n : Int} (h : (Lit.int .u8 n).wf = true) : 0 ≤ n ∧ n < 256 := by
  simp [Lit.wf, IntKind.min, IntKind.max, IntKind.signed, IntKind.bits] at h
  omega
theorem wf_u64 {n : Int} (h : (Lit.int .u64 n).wf = true) : 0 ≤ n ∧ n < 18446744073709551616 := by
  simp [Lit.wf, IntKind.min, IntKind.max, IntKind.signed, IntKind.bits] at h
  omega
theorem wf_u32 {n : Int} (h : (Lit.int .u32 n).wf = true) : 0 ≤ n ∧ n < 4294967296 := by
  simp [Lit.wf, IntKind.min, IntKind.max, IntKind.signed, IntKind.bits] at h
  omega
theorem FG_sound : SoundF Tryd.prog FG := by
  refine Fs_sound Tryd.prog hints prims (sound_any (by kernel_rfl)) prims_sound fun f fn hf => ?_
  have h : (Tryd.prog.funcs.all fun fn => !(fn.name == "runtime.NumGoroutine")) = true := by kernel_rfl
  rw [Array.all_eq_true] at h
  obtain ⟨hi, rfl⟩ := Array.getElem?_eq_some_iff.1 hf
  simpa using h f hi
/-- a call that gives a value back -/
theorem FF_calls {f : FuncId} {ds : List D} {x : Value} (h : FF f ds = some (.v x)) (Z : FZ) (w : World) (vs : Array Value) (hA : Agree Z w) (hB : Bs Z) (hl : vs.size = ds.length) (hR : ∀ i (h : i < ds.length) (h' : i < vs.size), Rp Z vs[i] ds[i]) (hG : Gks w) :
    Calls Tryd.prog f vs w fun e w' => e = .returned x ∧ Below w.heap.size w w' := by
  have hF : FG f ds [] = some (.v x, []) := by
    simp only [FF, F0, Option.bind_eq_some_iff] at h
    obtain ⟨p, hp, h⟩ := h
    obtain ⟨r, os⟩ := p
    split at h
    · rename_i ho
      simp only at ho h
      obtain rfl := List.isEmpty_iff.1 ho
      cases h
      exact hp
    · cases h
  refine (FG_sound.1 _ _ _ _ _ hF Z w vs (fun _ => .none) hA hB hl (fun i h h' => RV.ofRp (hR i h h')) (fun i cs h => by simp at h) (fun g g' b h => by cases h) (fun g b h => by cases h) (fun g h => absurd rfl h) hG (fun _ _ => rfl)).mono fun e w' he => ?_
  obtain ⟨v, Z', O', rfl, hP⟩ := he
  have hv : v = x := by
    have h : Rp Z' v (.v x) := hP.rv
    cases h
    rfl
  subst hv
  exact ⟨rfl, hP.wos, hP.wtape, hP.wout, hP.wsz, fun k hk => hP.wblk k hk rfl⟩
end Go.Proofs.YtcdeidljcmlfdaaDoor
