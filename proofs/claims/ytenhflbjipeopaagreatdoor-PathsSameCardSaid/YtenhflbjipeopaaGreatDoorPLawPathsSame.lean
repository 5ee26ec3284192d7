/- PathsSame answers true of any input; its arguments read behind the call as they did. The card that ties the listed variables to the program's text. No condition beyond the given statement's own. -/
import Derived.Test.YtenhflbjipeopaaGreatDoorRows
import Derived.Test.YtenhflbjipeopaaGreatDoorCards
import Derived.Test.YtenhflbjipeopaaGreatDoorTie
import Derived.Test.YtenhflbjipeopaaGreatDoorPLawk
import Derived.Test.YtenhflbjipeopaaGreatDoorPPh
import Derived.WalkKit
import Derived.ProofKit
import Derived.LaidMore
import Derived.Lay
import Derived.LaidOnce
import Derived.OpenShut
import Derived.ShutString
import Derived.ChangeOld
import Derived.Below
import Derived.Carry
import Derived.Stop.Joined
import Derived.SevenTiedAt
namespace Go.Proofs.YtenhflbjipeopaaGreatDoor.pathsSame
open Go Go.Eng Go.ChangeShapes Go.WideShapes Go.ChangeAt Go.RowKit Go.Proofs Go.Proofs.YtenhflbjipeopaaGreatDoor
set_option linter.unusedVariables false
set_option linter.unusedSimpArgs false
theorem own : ownKnob Tryz.prog.godebug = none := by kernel_rfl
theorem laidOut : laidOutB Tryz.prog = true := by kernel_rfl
set_option maxRecDepth 100000
theorem gks_of {W : World} (hL : laidMetH Tryz.prog Rows.pathsSameRow.laid W) (hsh : W.ShapedOpen Tryz.prog) : Gks W := by
  intro g hg
  simp [gids] at hg
set_option maxHeartbeats 4000000 in
theorem lifted (os : Os) (started : os.Started) (H : Type) (enc : TypeId × Value → H) :
    ReturnsInHanded {} Tryz.checked os 4 .any (fun w args => (Rows.pathsSameSpec.pre enc Tryz.prog Tryz.f4 [] false w args ∧ laidMetH Tryz.prog Rows.pathsSameRow.laid w) ∧ sizedMet enc Tryz.prog Tryz.f4 (OpenSpec.ofChange Rows.pathsSameSpec) false w args)
      (Rows.pathsSameSpec.post enc Tryz.prog Tryz.f4 false true false false) := by
  refine handed_and_shaped (C := Tryz.checked) (X := fun w _ => laidMetH Tryz.prog Rows.pathsSameRow.laid w) (fun _ _ _ hh h => h.of_heap hh) own started (by kernel_rfl) Tryz.func4
    (ChangeSpec.witness_shaped (enc := enc) (C := Tryz.checked) (os := os) (X := fun w _ => laidMetH Tryz.prog Rows.pathsSameRow.laid w) false (World.laidAll Tryz.prog os Rows.pathsSameRow.laid) #[.agg #[Value.slice none 0 0, Value.slice none 0 0], .agg #[Value.int IntKind.u8 0, Value.int IntKind.i64 0, Value.slice none 0 0, Value.slice none 0 0, Value.int IntKind.i64 0, Value.slice none 0 0, Value.slice none 0 0], .agg #[Value.int IntKind.u8 0, Value.int IntKind.i64 0, Value.slice none 0 0, Value.slice none 0 0, Value.int IntKind.i64 0, Value.slice none 0 0, Value.slice none 0 0]] 8 (World.laidAll_os _ _ _)
      (World.shaped_of_ZipB (by kernel_rfl) (by kernel_rfl)) (by kernel_rfl) (by kernel_rfl) (by kernel_rfl)
      (by rw [MakeChecks.laidMetH_plain _ _ _ (by kernel_rfl)]; exact laidMet_laidAll _ (by kernel_rfl) (by kernel_rfl))) ?_
  intro W base args ds gs before hval0 hW _ hwt hL hsh _
  have hval : ∀ (j : Nat) t v, Tryz.f4.params[j]? = some t → args[j]? = some v → Value.okWide Tryz.prog W .any base t v := hval0
  have hW' := hW
  obtain ⟨p, q, hA0, hV, rfl, hfz, hnd⟩ := hW
  have hA : DataW.TrodAll enc Tryz.prog W 0 (fun _ => true) true Tryz.f4.params.toList args.toList ds p := hA0
  rw [Tryz.params4] at hA hval
  obtain ⟨v0, vs0, d0, ds0, p0, q0, hargs, rfl, rfl, h0, r0⟩ := trodAll_cons hA
  obtain ⟨v1, vs1, d1, ds1, p1, q1, rfl, rfl, rfl, h1, r1⟩ := trodAll_cons r0
  obtain ⟨v2, vs2, d2, ds2, p2, q2, rfl, rfl, rfl, h2, r2⟩ := trodAll_cons r1
  obtain ⟨rfl, rfl, rfl⟩ := trodAll_nil r2
  obtain rfl : args = #[v0, v1, v2] := by cases args; simp_all
  obtain ⟨rfl, rfl⟩ := trodVars_none hV
  rw [Tryz.params4] at hwt
  simp only [List.append_nil, List.cons_append, List.nil_append, DataW.weightsEach, List.all_append, Bool.and_eq_true] at hwt
  have k0 := h0
  have k1 := h1
  have k2 := h2
  have lt0 : ∀ x ∈ p0, x.block < W.heap.size := by obtain ⟨m, hm⟩ := k0; exact DataW.trod_lt m _ _ _ hm
  have lt1 : ∀ x ∈ p1, x.block < W.heap.size := by obtain ⟨m, hm⟩ := k1; exact DataW.trod_lt m _ _ _ hm
  have lt2 : ∀ x ∈ p2, x.block < W.heap.size := by obtain ⟨m, hm⟩ := k2; exact DataW.trod_lt m _ _ _ hm
  obtain ⟨fu0, hf0⟩ := h0
  obtain ⟨y0, hG0, hC0⟩ := opr_bok fu0 H enc W _ (Nat.le_refl _) _ _ hf0 hwt.1
  obtain ⟨cs0, rfl, sz0⟩ := okWide_struct Tryz.underlying33 (hval 0 33 v0 rfl rfl)
  have hR0 := rp_cells hC0
  obtain ⟨fu1, hf1⟩ := h1
  obtain ⟨y1, hG1, hC1⟩ := opr_pth fu1 H enc W _ (Nat.le_refl _) _ _ hf1 hwt.2.1
  obtain ⟨cs1, rfl, sz1⟩ := okWide_struct Tryz.underlying37 (hval 1 37 v1 rfl rfl)
  have hR1 := rp_cells hC1
  obtain ⟨fu2, hf2⟩ := h2
  obtain ⟨y2, hG2, hC2⟩ := opr_pth fu2 H enc W _ (Nat.le_refl _) _ _ hf2 hwt.2.2.1
  obtain ⟨cs2, rfl, sz2⟩ := okWide_struct Tryz.underlying37 (hval 2 37 v2 rfl rfl)
  have hR2 := rp_cells hC2
  have hv := pathsSame_ok y0 y1 y2 hG0 hG1 hG2
  refine (FF_calls hv (FZw W) W #[.agg cs0, .agg cs1, .agg cs2] (FZw_agree W) (fun g cs h => by cases h) rfl (fun i h h' => ?_) (gks_of hL hsh)).mono fun e W' he => ?_
  · match i, h with
    | 0, _ => exact hR0
    | 1, _ => exact hR1
    | 2, _ => exact hR2
  obtain ⟨rfl, bel⟩ := he
  exact ⟨_, rfl, _, _, _, [], _, [], hW', trodAll_mk1 (shut_bool Tryz.underlying4 _), (trodAll_cons_mk (Below.trod laidOut (by kernel_rfl) (of_decide_eq_true (by kernel_rfl)) k0 bel lt0) (trodAll_cons_mk (Below.trod laidOut (by kernel_rfl) (of_decide_eq_true (by kernel_rfl)) k1 bel lt1) (trodAll_cons_mk (Below.trod laidOut (by kernel_rfl) (of_decide_eq_true (by kernel_rfl)) k2 bel lt2) trodAll_mk0))), rfl, bel.frame _, fun h => by cases h⟩
theorem over : Rows.PathsSameSaid :=
  OpenClaim.holds_of_wide 4 Tryz.f4 rfl rfl rfl rfl rfl rfl rfl ⟨rfl, rfl, rfl, rfl, rfl⟩ rfl rfl rfl rfl rfl (by kernel_rfl) Tryz.func4 (by kernel_rfl)
    (of_decide_eq_true (by kernel_rfl)) (by unfold Func.isWrapper; first | (rw [if_pos (by decide +kernel)]; kernel_rfl) | (rw [if_neg (by decide +kernel)]; exact ⟨rfl, rfl⟩))
    (fun os started H enc _ => lifted os started H enc)
theorem card : Rows.PathsSameCardSaid :=
  Claim7.holds_tied_plain_at .later [] [.data, .data, .pinned] true (true, "05a8ce1d691d6982f6fea49d8351b323715e4043c62120faf183f00ee0ed8c83") false
    over (fun _ h => by cases h) (by kernel_rfl) (fun _ h => by cases h) pathsSame_row_tie rfl ⟨rfl, rfl⟩ (by kernel_rfl) rfl
    (fun f fn hf hfn => by
      obtain rfl : f = 4 := Option.some.inj ((show Tryz.prog.funcNamed "rowlock/rowlocklaw22.PathsSame" = some 4 by kernel_rfl).symm.trans hf) |>.symm
      obtain rfl : fn = Tryz.f4 := (Option.some.inj (Tryz.func4.symm.trans hfn)).symm
      exact ⟨by kernel_rfl, fun j t ht => by
        rw [Tryz.params4] at ht
        have hm : t ∈ [33, 37, 37] := by simpa using Array.mem_of_getElem? ht
        have hall : ([33, 37, 37].all fun u => !Tryz.prog.wantsStandIn u) = true := by kernel_rfl
        exact (show Tryz.prog.wantsStandIn t = false by simpa using List.all_eq_true.1 hall t hm)⟩)
    (by kernel_rfl)
end Go.Proofs.YtenhflbjipeopaaGreatDoor.pathsSame
namespace Go.Proofs.YtenhflbjipeopaaGreatDoor
/-- The card, under a short name, for the claim. -/
theorem pathsSame_holds : Rows.PathsSameCardSaid := pathsSame.card
end Go.Proofs.YtenhflbjipeopaaGreatDoor
