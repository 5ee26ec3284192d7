-- printed for this claim by a copy of the printer that this session turned (wip/pp)
import Derived.Test.YtneihjdkaogkiaaRows
import Derived.Test.YtneihjdkaogkiaaGivenCalcDo
import Derived.Test.YtneihjdkaogkiaaPureCalcDo
import Derived.WalkKit
import Derived.ProofKit
import Derived.OpenShut
import Derived.ShutString
import Derived.ChangeOld
import Derived.Below
import Derived.Carry
import Derived.SizedLaws
namespace Go.Proofs.Ytneihjdkaogkiaa.calcDo
open Go.ChangeShapes Go.WideShapes Go.ChangeAt Go.RowKit Go.Proofs.Ytneihjdkaogkiaa.Opn Go.Proofs.YtneihjdkaogkiaaW.PrintWords Go.Proofs.Ytneihjdkaogkiaa.PCalcDo
open Go.ChangeMaps (open_string shut_string)
set_option linter.unusedVariables false
theorem own : ownKnob Try.prog.godebug = none := by kernel_rfl
theorem laidOut : laidOutB Try.prog = true := by kernel_rfl
set_option maxRecDepth 100000 in
set_option maxHeartbeats 4000000 in
theorem lifted (os : Os) (started : os.Started) (H : Type) (enc : TypeId × Value → H) :
    ReturnsInHanded {} Try.checked os 7 .any (Rows.calcDoSpec.pre6 enc Try.prog Try.f7 Rows.calcDoRow.domain false) (Rows.calcDoSpec.post enc Try.prog Try.f7 false true false false) := by
  refine returnsInHanded_of_change_sized (C := Try.checked) own started (by kernel_rfl) Try.func7
    (ChangeSpec.witness6 (enc := enc) (C := Try.checked) false ⟨#[], #[.string ByteArray.empty, .agg #[.int .u8 0, .int .i64 0, .string ByteArray.empty], .agg #[.int .u8 0, .int .i64 0, .string ByteArray.empty]], []⟩ 12 (by kernel_rfl) (by kernel_rfl) (by kernel_rfl) (by kernel_rfl)) ?_
  intro W base args ds gs before hval0 hW hcnd hsz0 _
  have hsz : (DataW.weightsEach Try.prog (Try.f7.params.toList ++ Rows.calcDoSpec.plain.varTypes Try.prog) (ds ++ gs)).all (· ≤ reachBytes) = true := hsz0
  have hval : ∀ (j : Nat) t v, Try.f7.params[j]? = some t → args[j]? = some v → Value.okWide Try.prog W .any base t v := hval0
  have hW' := hW
  obtain ⟨p, q, hA0, hV, rfl, hfz, hnd⟩ := hW
  have hA : DataW.TrodAll enc Try.prog W 0 (fun _ => true) true Try.f7.params.toList args.toList ds p := hA0
  rw [Try.params7] at hA hval hsz
  obtain ⟨v0, vs0, d0, ds0, p0, q0, hargs, rfl, rfl, h0, r0⟩ := trodAll_cons hA
  obtain ⟨v1, vs1, d1, ds1, p1, q1, rfl, rfl, rfl, h1, r1⟩ := trodAll_cons r0
  obtain ⟨v2, vs2, d2, ds2, p2, q2, rfl, rfl, rfl, h2, r2⟩ := trodAll_cons r1
  obtain ⟨rfl, rfl, rfl⟩ := trodAll_nil r2
  obtain rfl : args = #[v0, v1, v2] := by cases args; simp_all
  obtain ⟨rfl, rfl⟩ := trodVars_none hV
  have k0 := h0
  have lt0 : ∀ x ∈ p0, x.block < W.heap.size := by obtain ⟨m, hm⟩ := k0; exact DataW.trod_lt m _ _ _ hm
  have z0 := weights_of hsz (j := 0) (t := 9) (d := d0) rfl rfl
  obtain ⟨fu0, hf0⟩ := h0
  obtain ⟨y0, hK0, hG0⟩ := ((opens_string Try.underlying9 (by kernel_rfl) fu0)).2 H enc W _ (Nat.le_refl _) _ _ hf0 z0
  obtain rfl := one_string Try.underlying9 (hval 0 9 v0 rfl rfl) hK0
  have k1 := h1
  have lt1 : ∀ x ∈ p1, x.block < W.heap.size := by obtain ⟨m, hm⟩ := k1; exact DataW.trod_lt m _ _ _ hm
  have z1 := weights_of hsz (j := 1) (t := 43) (d := d1) rfl rfl
  obtain ⟨fu1, hf1⟩ := h1
  obtain ⟨y1, hK1, hG1⟩ := ((o43 fu1)).2 H enc W _ (Nat.le_refl _) _ _ hf1 z1
  obtain ⟨cs1, rfl, sz1⟩ := okWide_struct Try.underlying43 (hval 1 43 v1 rfl rfl)
  have e1 := k43_open hK1
  have ec1 := cells_agg e1
  subst ec1
  have k2 := h2
  have lt2 : ∀ x ∈ p2, x.block < W.heap.size := by obtain ⟨m, hm⟩ := k2; exact DataW.trod_lt m _ _ _ hm
  have z2 := weights_of hsz (j := 2) (t := 43) (d := d2) rfl rfl
  obtain ⟨fu2, hf2⟩ := h2
  obtain ⟨y2, hK2, hG2⟩ := ((o43 fu2)).2 H enc W _ (Nat.le_refl _) _ _ hf2 z2
  obtain ⟨cs2, rfl, sz2⟩ := okWide_struct Try.underlying43 (hval 2 43 v2 rfl rfl)
  have e2 := k43_open hK2
  have ec2 := cells_agg e2
  subst ec2
  clear hA0 hval0 hsz0 hsz
  obtain ⟨k, hp⟩ := Pure.CalcDo y0 (y1.f0) (y1.f1) (y1.f2) (y2.f0) (y2.f1) (y2.f2) hG0 hG1 hG2
  refine (rowlocklaw03_CalcDo.calls k _ _ _ _ _ _ _ true W ⟨rfl⟩ hp).mono fun e W' ⟨he, bel0⟩ => ?_
  have bel : Below W.heap.size W W' := bel0
  subst he
  exact ⟨_, rfl, _, _, _, [], _, [], hW', trodAll_mk1 (shut_bool Try.underlying4 _), (trodAll_cons_mk (Below.trod laidOut (by kernel_rfl) (of_decide_eq_true (by kernel_rfl)) k0 bel lt0) (trodAll_cons_mk (Below.trod laidOut (by kernel_rfl) (of_decide_eq_true (by kernel_rfl)) k1 bel lt1) (trodAll_cons_mk (Below.trod laidOut (by kernel_rfl) (of_decide_eq_true (by kernel_rfl)) k2 bel lt2) trodAll_mk0))), rfl, bel.frame _, fun h => by cases h⟩
theorem over : Rows.calcDoRow.holds Try.pinned (OpenSpec.ofChange Rows.calcDoSpec) :=
  OpenClaim.holds_of_wide 7 Try.f7 rfl rfl rfl rfl rfl rfl rfl ⟨rfl, rfl, rfl, rfl, rfl⟩ rfl rfl rfl rfl rfl (by kernel_rfl) Try.func7 (by kernel_rfl)
    (of_decide_eq_true (by kernel_rfl)) (by unfold Func.isWrapper; first | (rw [if_pos (by decide +kernel)]; kernel_rfl) | (rw [if_neg (by decide +kernel)]; exact ⟨rfl, rfl⟩))
    (fun os started H enc _ => lifted os started H enc)
theorem proved : Rows.CalcDoSaid := over
#print axioms proved
end Go.Proofs.Ytneihjdkaogkiaa.calcDo
namespace Go.Proofs.Ytneihjdkaogkiaa
/-- The row, under a short name, for the claim. -/
theorem calcDo_holds : Rows.CalcDoSaid := calcDo.proved
end Go.Proofs.Ytneihjdkaogkiaa
