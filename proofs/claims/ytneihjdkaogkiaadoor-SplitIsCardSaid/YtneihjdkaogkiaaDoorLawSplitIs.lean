/- SplitIs answers true of any conditions and any number of tables; its arguments read behind the call as they did. The card that ties the one listed variable to the program's text. No condition beyond the given statement's own. -/
import Derived.Test.YtneihjdkaogkiaaDoorRows
import Derived.Test.YtneihjdkaogkiaaDoorCards
import Derived.Test.YtneihjdkaogkiaaDoorTie
import Derived.Test.YtneihjdkaogkiaaDoorFp
import Derived.Test.YtneihjdkaogkiaaDoorLaid
import Derived.Test.YtneihjdkaogkiaaDoorOpT
import Derived.WalkKit
import Derived.ProofKit
import Derived.LaidMore
import Derived.OpenShut
import Derived.ChangeOld
import Derived.Below
import Derived.Carry
import Derived.Stop.Joined
import Derived.SevenTiedAt
namespace Go.Proofs.YtneihjdkaogkiaaDoor.splitIs
open Go Go.Eng Go.ChangeShapes Go.WideShapes Go.ChangeAt Go.RowKit Go.Proofs Go.Proofs.YtneihjdkaogkiaaDoor
set_option linter.unusedVariables false
set_option linter.unusedSimpArgs false
theorem own : ownKnob Tryd.prog.godebug = none := by kernel_rfl
theorem laidOut : laidOutB Tryd.prog = true := by kernel_rfl
theorem gTab : Tryd.prog.globalNamed "math/bits.deBruijn32tab" = some 0 := by kernel_rfl
set_option maxRecDepth 100000
theorem door_met (os : Os) (args : Array Value) : laidMetH Tryd.prog Rows.splitIsRow.laid ((World.doorLaid Tryd.prog 400 os).forCall (fun _ _ => 0) ⟨#[], args, []⟩).memory :=
  laidMetH_of_parts3 (fuel := 8) (laidMet_of_run' 8 (by kernel_rfl) (by kernel_rfl)) (by kernel_rfl) (by kernel_rfl)
theorem bs_of_laid {W : World} (h : laidMetH Tryd.prog Rows.splitIsRow.laid W) : Bs (FZw W) := by
  rw [MakeChecks.laidMetH_plain _ _ _ (by kernel_rfl)] at h
  obtain ⟨ps, hL, _⟩ := h
  have hi := laid_ints (L := [0, 1, 28, 2, 29, 14, 24, 3, 30, 22, 20, 15, 25, 17, 4, 8, 31, 27, 13, 23, 21, 19, 16, 7, 26, 12, 18, 6, 11, 5, 10, 9]) (k := .u8) (g := 0) (t := 55) (e := 5) hL gTab (by kernel_rfl) Tryd.underlying55 Tryd.underlying5 (by kernel_rfl)
  intro g cs hg
  unfold tabs at hg
  split at hg
  · rename_i h0
    subst h0
    obtain rfl := Option.some.inj hg
    exact hi
  · cases hg
set_option maxHeartbeats 4000000 in
theorem lifted (os : Os) (started : os.Started) (H : Type) (enc : TypeId × Value → H) :
    ReturnsInHanded {} Tryd.checked os 3 .any (fun w args => (Rows.splitIsSpec.pre enc Tryd.prog Tryd.f3 [] false w args ∧ laidMetH Tryd.prog Rows.splitIsRow.laid w) ∧ sizedMet enc Tryd.prog Tryd.f3 (OpenSpec.ofChange Rows.splitIsSpec) false w args)
      (Rows.splitIsSpec.post enc Tryd.prog Tryd.f3 false true false false) := by
  refine returnsInHanded_of_change_and (C := Tryd.checked) (X := fun w _ => laidMetH Tryd.prog Rows.splitIsRow.laid w) (fun _ _ _ hh h => h.of_heap hh) own started (by kernel_rfl) Tryd.func3
    (ChangeSpec.witness_shaped (enc := enc) (C := Tryd.checked) (os := os) (X := fun w _ => laidMetH Tryd.prog Rows.splitIsRow.laid w) false (World.doorLaid Tryd.prog 400 os) #[.slice none 0 0, .int .i64 0] 8 rfl (World.shaped_of_RefB (by kernel_rfl) (by kernel_rfl)) (by kernel_rfl) (by kernel_rfl) (by kernel_rfl) (door_met os _)) ?_
  intro W base args ds gs before hval0 hW _ _ hL _
  have hval : ∀ (j : Nat) t v, Tryd.f3.params[j]? = some t → args[j]? = some v → Value.okWide Tryd.prog W .any base t v := hval0
  have hW' := hW
  obtain ⟨p, q, hA0, hV, rfl, hfz, hnd⟩ := hW
  have hA : DataW.TrodAll enc Tryd.prog W 0 (fun _ => true) true Tryd.f3.params.toList args.toList ds p := hA0
  rw [Tryd.params3] at hA hval
  obtain ⟨v0, vs0, d0, ds0, p0, q0, hargs, rfl, rfl, h0, r0⟩ := trodAll_cons hA
  obtain ⟨v1, vs1, d1, ds1, p1, q1, rfl, rfl, rfl, h1, r1⟩ := trodAll_cons r0
  obtain ⟨rfl, rfl, rfl⟩ := trodAll_nil r1
  obtain rfl : args = #[v0, v1] := by cases args; simp_all
  obtain ⟨rfl, rfl⟩ := trodVars_none hV
  have k0 := h0
  have k1 := h1
  have lt0 : ∀ x ∈ p0, x.block < W.heap.size := by obtain ⟨m, hm⟩ := k0; exact DataW.trod_lt m _ _ _ hm
  have lt1 : ∀ x ∈ p1, x.block < W.heap.size := by obtain ⟨m, hm⟩ := k1; exact DataW.trod_lt m _ _ _ hm
  obtain ⟨fu0, hf0⟩ := h0
  obtain ⟨l, hl, hC0⟩ := opd_terms fu0 H enc W _ (Nat.le_refl _) _ _ hf0
  obtain ⟨fu1, hf1⟩ := h1
  obtain ⟨n1, hn1, hC1⟩ := opd_int Tryd.underlying3 fu1 H enc W _ (Nat.le_refl _) _ _ hf1
  obtain ⟨a0, len0, cap0, rfl⟩ := okWide_slice Tryd.underlying22 (hval 0 22 v0 rfl rfl)
  obtain rfl := val_int Tryd.underlying3 (hval 1 3 v1 rfl rfl) hC1
  have hv := splitIs3 l n1
  have hB : Bs (FZw W) := bs_of_laid hL
  have hR0 := rp_slice hC0
  refine (FF_sound.1 _ _ _ hv (FZw W) W #[.slice a0 len0 cap0, .int .i64 n1] (FZw_agree W) hB rfl (fun i h h' => ?_)).mono fun e W' he => ?_
  · match i, h with
    | 0, _ => exact hR0
    | 1, _ => exact .v _
  obtain ⟨v, Z', rfl, _, _, _, bel, hrr⟩ := he
  have hvb : v = .bool true := by
    have h : Rp Z' v (.v (.bool true)) := hrr
    cases h
    rfl
  subst hvb
  exact ⟨_, rfl, _, _, _, [], _, [], hW', trodAll_mk1 (shut_bool Tryd.underlying4 _), (trodAll_cons_mk (Below.trod laidOut (by kernel_rfl) (of_decide_eq_true (by kernel_rfl)) k0 bel lt0) (trodAll_cons_mk (Below.trod laidOut (by kernel_rfl) (of_decide_eq_true (by kernel_rfl)) k1 bel lt1) trodAll_mk0)), rfl, bel.frame _, fun h => by cases h⟩
theorem over : Rows.SplitIsSaid :=
  OpenClaim.holds_of_wide 3 Tryd.f3 rfl rfl rfl rfl rfl rfl rfl ⟨rfl, rfl, rfl, rfl, rfl⟩ rfl rfl rfl rfl rfl (by kernel_rfl) Tryd.func3 (by kernel_rfl)
    (of_decide_eq_true (by kernel_rfl)) (by unfold Func.isWrapper; first | (rw [if_pos (by decide +kernel)]; kernel_rfl) | (rw [if_neg (by decide +kernel)]; exact ⟨rfl, rfl⟩))
    (fun os started H enc _ => lifted os started H enc)
theorem card : Rows.SplitIsCardSaid :=
  Claim7.holds_tied_plain_at .later [] [.data] true (true, "5e35d12cc5cea02714a52ec1b80db0a849ad4f479aeb32360f79cd89a64b33ce") false
    over (fun _ h => by cases h) (by kernel_rfl) (fun _ h => by cases h) splitIs_row_tie rfl ⟨rfl, rfl⟩ (by kernel_rfl) rfl
    (fun f fn hf hfn => by
      obtain rfl : f = 3 := Option.some.inj ((show Tryd.prog.funcNamed "rowlock/rowlocklaw19.SplitIs" = some 3 by kernel_rfl).symm.trans hf) |>.symm
      obtain rfl : fn = Tryd.f3 := (Option.some.inj (Tryd.func3.symm.trans hfn)).symm
      exact ⟨by kernel_rfl, fun j t ht => by
        rw [Tryd.params3] at ht
        have hm : t ∈ [22, 3] := by simpa using Array.mem_of_getElem? ht
        have hall : ([22, 3].all fun u => !Tryd.prog.wantsStandIn u) = true := by kernel_rfl
        exact (show Tryd.prog.wantsStandIn t = false by simpa using List.all_eq_true.1 hall t hm)⟩)
    (by kernel_rfl)
end Go.Proofs.YtneihjdkaogkiaaDoor.splitIs
namespace Go.Proofs.YtneihjdkaogkiaaDoor
/-- The card, under a short name, for the claim. -/
theorem splitIs_holds : Rows.SplitIsCardSaid := splitIs.card
end Go.Proofs.YtneihjdkaogkiaaDoor
