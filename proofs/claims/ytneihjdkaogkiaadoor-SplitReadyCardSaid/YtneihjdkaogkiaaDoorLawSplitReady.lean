/- SplitReady answers true of any conditions and any two sets of tables; its arguments read behind the call as they did. The card that ties the one listed variable to the program's text. No condition beyond the given statement's own. -/
import Derived.Test.YtneihjdkaogkiaaDoorRows
import Derived.Test.YtneihjdkaogkiaaDoorCards
import Derived.Test.YtneihjdkaogkiaaDoorTie
import Derived.Test.YtneihjdkaogkiaaDoorFe
import Derived.Test.YtneihjdkaogkiaaDoorOpT
import Derived.WalkKit
import Derived.ProofKit
import Derived.LaidMore
import Derived.OpenShut
import Derived.ChangeOld
import Derived.Below
import Derived.Carry
import Derived.Stop.Joined
import Derived.SevenTiedAt
namespace Go.Proofs.YtneihjdkaogkiaaDoor.splitReady
open Go Go.Eng Go.ChangeShapes Go.WideShapes Go.ChangeAt Go.RowKit Go.Proofs Go.Proofs.YtneihjdkaogkiaaDoor
set_option linter.unusedVariables false
theorem own : ownKnob Tryd.prog.godebug = none := by kernel_rfl
theorem laidOut : laidOutB Tryd.prog = true := by kernel_rfl
theorem gTab : Tryd.prog.globalNamed "math/bits.deBruijn32tab" = some 0 := by kernel_rfl
set_option maxRecDepth 100000
theorem door_met (os : Os) (args : Array Value) : laidMetH Tryd.prog Rows.splitReadyRow.laid ((World.doorLaid Tryd.prog 400 os).forCall (fun _ _ => 0) ⟨#[], args, []⟩).memory :=
  laidMetH_of_parts3 (fuel := 8) (laidMet_of_run' 8 (by kernel_rfl) (by kernel_rfl)) (by kernel_rfl) (by kernel_rfl)
set_option maxHeartbeats 4000000 in
theorem lifted (os : Os) (started : os.Started) (H : Type) (enc : TypeId × Value → H) :
    ReturnsInHanded {} Tryd.checked os 4 .any (fun w args => (Rows.splitReadySpec.pre enc Tryd.prog Tryd.f4 [] false w args ∧ laidMetH Tryd.prog Rows.splitReadyRow.laid w) ∧ sizedMet enc Tryd.prog Tryd.f4 (OpenSpec.ofChange Rows.splitReadySpec) false w args)
      (Rows.splitReadySpec.post enc Tryd.prog Tryd.f4 false true false false) := by
  refine returnsInHanded_of_change_and (C := Tryd.checked) (X := fun w _ => laidMetH Tryd.prog Rows.splitReadyRow.laid w) (fun _ _ _ hh h => h.of_heap hh) own started (by kernel_rfl) Tryd.func4
    (ChangeSpec.witness_shaped (enc := enc) (C := Tryd.checked) (os := os) (X := fun w _ => laidMetH Tryd.prog Rows.splitReadyRow.laid w) false (World.doorLaid Tryd.prog 400 os) #[.slice none 0 0, .int .u32 0, .int .u32 0] 8 rfl (World.shaped_of_RefB (by kernel_rfl) (by kernel_rfl)) (by kernel_rfl) (by kernel_rfl) (by kernel_rfl) (door_met os _)) ?_
  intro W base args ds gs before hval0 hW _ _ hL _
  have hval : ∀ (j : Nat) t v, Tryd.f4.params[j]? = some t → args[j]? = some v → Value.okWide Tryd.prog W .any base t v := hval0
  have hW' := hW
  obtain ⟨p, q, hA0, hV, rfl, hfz, hnd⟩ := hW
  have hA : DataW.TrodAll enc Tryd.prog W 0 (fun _ => true) true Tryd.f4.params.toList args.toList ds p := hA0
  rw [Tryd.params4] at hA hval
  obtain ⟨v0, vs0, d0, ds0, p0, q0, hargs, rfl, rfl, h0, r0⟩ := trodAll_cons hA
  obtain ⟨v1, vs1, d1, ds1, p1, q1, rfl, rfl, rfl, h1, r1⟩ := trodAll_cons r0
  obtain ⟨v2, vs2, d2, ds2, p2, q2, rfl, rfl, rfl, h2, r2⟩ := trodAll_cons r1
  obtain ⟨rfl, rfl, rfl⟩ := trodAll_nil r2
  obtain rfl : args = #[v0, v1, v2] := by cases args; simp_all
  obtain ⟨rfl, rfl⟩ := trodVars_none hV
  have k0 := h0
  have k1 := h1
  have k2 := h2
  have lt0 : ∀ x ∈ p0, x.block < W.heap.size := by obtain ⟨m, hm⟩ := k0; exact DataW.trod_lt m _ _ _ hm
  have lt1 : ∀ x ∈ p1, x.block < W.heap.size := by obtain ⟨m, hm⟩ := k1; exact DataW.trod_lt m _ _ _ hm
  have lt2 : ∀ x ∈ p2, x.block < W.heap.size := by obtain ⟨m, hm⟩ := k2; exact DataW.trod_lt m _ _ _ hm
  obtain ⟨fu0, hf0⟩ := h0
  obtain ⟨l, hl, hC0⟩ := opd_terms fu0 H enc W _ (Nat.le_refl _) _ _ hf0
  obtain ⟨fu1, hf1⟩ := h1
  obtain ⟨n1, hn1, hC1⟩ := opd_int Tryd.underlying31 fu1 H enc W _ (Nat.le_refl _) _ _ hf1
  obtain ⟨fu2, hf2⟩ := h2
  obtain ⟨n2, hn2, hC2⟩ := opd_int Tryd.underlying31 fu2 H enc W _ (Nat.le_refl _) _ _ hf2
  obtain ⟨a0, len0, cap0, rfl⟩ := okWide_slice Tryd.underlying22 (hval 0 22 v0 rfl rfl)
  obtain rfl := val_int Tryd.underlying31 (hval 1 31 v1 rfl rfl) hC1
  obtain rfl := val_int Tryd.underlying31 (hval 2 31 v2 rfl rfl) hC2
  obtain ⟨m1, hm1, rfl⟩ := wf_u32 hn1
  obtain ⟨m2, hm2, rfl⟩ := wf_u32 hn2
  have hv := ready4 l m1 m2 hm1 hm2
  have hR0 := rp_slice hC0
  refine (FF_sound.1 _ _ _ hv (FZw W) W #[.slice a0 len0 cap0, .int .u32 (m1 : Int), .int .u32 (m2 : Int)] (FZw_agree W) rfl (fun i h h' => ?_)).mono fun e W' he => ?_
  · match i, h with
    | 0, _ => exact hR0
    | 1, _ => exact .v _
    | 2, _ => exact .v _
  obtain ⟨v, Z', rfl, _, _, _, bel, hrr⟩ := he
  have hvb : v = .bool true := by
    have h : Rp Z' v (.v (.bool true)) := hrr
    cases h
    rfl
  subst hvb
  exact ⟨_, rfl, _, _, _, [], _, [], hW', trodAll_mk1 (shut_bool Tryd.underlying4 _), (trodAll_cons_mk (Below.trod laidOut (by kernel_rfl) (of_decide_eq_true (by kernel_rfl)) k0 bel lt0) (trodAll_cons_mk (Below.trod laidOut (by kernel_rfl) (of_decide_eq_true (by kernel_rfl)) k1 bel lt1) (trodAll_cons_mk (Below.trod laidOut (by kernel_rfl) (of_decide_eq_true (by kernel_rfl)) k2 bel lt2) trodAll_mk0))), rfl, bel.frame _, fun h => by cases h⟩
theorem over : Rows.SplitReadySaid :=
  OpenClaim.holds_of_wide 4 Tryd.f4 rfl rfl rfl rfl rfl rfl rfl ⟨rfl, rfl, rfl, rfl, rfl⟩ rfl rfl rfl rfl rfl (by kernel_rfl) Tryd.func4 (by kernel_rfl)
    (of_decide_eq_true (by kernel_rfl)) (by unfold Func.isWrapper; first | (rw [if_pos (by decide +kernel)]; kernel_rfl) | (rw [if_neg (by decide +kernel)]; exact ⟨rfl, rfl⟩))
    (fun os started H enc _ => lifted os started H enc)
theorem card : Rows.SplitReadyCardSaid :=
  Claim7.holds_tied_plain_at .later [] [.data] true (true, "5e35d12cc5cea02714a52ec1b80db0a849ad4f479aeb32360f79cd89a64b33ce") false
    over (fun _ h => by cases h) (by kernel_rfl) (fun _ h => by cases h) splitReady_row_tie rfl ⟨rfl, rfl⟩ (by kernel_rfl) rfl
    (fun f fn hf hfn => by
      obtain rfl : f = 4 := Option.some.inj ((show Tryd.prog.funcNamed "rowlock/rowlocklaw19.SplitReady" = some 4 by kernel_rfl).symm.trans hf) |>.symm
      obtain rfl : fn = Tryd.f4 := (Option.some.inj (Tryd.func4.symm.trans hfn)).symm
      exact ⟨by kernel_rfl, fun j t ht => by
        rw [Tryd.params4] at ht
        have hm : t ∈ [22, 31, 31] := by simpa using Array.mem_of_getElem? ht
        have hall : ([22, 31, 31].all fun u => !Tryd.prog.wantsStandIn u) = true := by kernel_rfl
        exact (show Tryd.prog.wantsStandIn t = false by simpa using List.all_eq_true.1 hall t hm)⟩)
    (by kernel_rfl)
end Go.Proofs.YtneihjdkaogkiaaDoor.splitReady
namespace Go.Proofs.YtneihjdkaogkiaaDoor
/-- The card, under a short name, for the claim. -/
theorem splitReady_holds : Rows.SplitReadyCardSaid := splitReady.card
end Go.Proofs.YtneihjdkaogkiaaDoor
