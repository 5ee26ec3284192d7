/- ExplainAnswer answers true of any input; its arguments read behind the call as they did. The card that ties the listed variables to the program's text. No condition beyond the given statement's own. -/
import Derived.Test.YtjdkcedhmfgmoaaDoorRows
import Derived.Test.YtjdkcedhmfgmoaaDoorCards
import Derived.Test.YtjdkcedhmfgmoaaDoorTie
import Derived.Test.YtjdkcedhmfgmoaaDoorNLawk
import Derived.Test.YtjdkcedhmfgmoaaDoorNYe
import Derived.WalkKit
import Derived.ProofKit
import Derived.LaidMore
import Derived.Lay
import Derived.LaidOnce
import Derived.OpenShut
import Derived.ShutString
import Derived.ChangeOld
import Derived.Below
import Derived.Carry
import Derived.Stop.Joined
import Derived.SevenTiedAt
namespace Go.Proofs.YtjdkcedhmfgmoaaDoor.explainAnswer
open Go Go.Eng Go.ChangeShapes Go.WideShapes Go.ChangeAt Go.RowKit Go.Proofs Go.Proofs.YtjdkcedhmfgmoaaDoor
set_option linter.unusedVariables false
set_option linter.unusedSimpArgs false
theorem own : ownKnob Tryd.prog.godebug = none := by kernel_rfl
theorem laidOut : laidOutB Tryd.prog = true := by kernel_rfl
set_option maxRecDepth 100000
theorem gks_of {W : World} (hL : laidMetH Tryd.prog Rows.explainAnswerRow.laid W) (hsh : W.ShapedOpen Tryd.prog) : Gks W := by
  rw [MakeChecks.laidMetH_plain _ _ _ (by kernel_rfl)] at hL
  intro g hg
  simp only [gids, List.mem_cons, List.mem_nil_iff, or_false] at hg
  rcases hg with rfl | rfl
  · obtain ⟨cs, hh, h1⟩ := shaped_int (g := 0) (t := 3) (zero := #[.int .i64 0]) hsh (of_decide_eq_true (by kernel_rfl)) (by kernel_rfl) rfl (by kernel_rfl) (by kernel_rfl) Tryd.underlying3
    exact ⟨cs, _, _, hh, h1⟩
  · obtain ⟨e, fr, hh⟩ := tab_reads (zs := Lib.pow10Tab) (g := 1) (t := 145) (e := 127) (k := .u64) (by kernel_rfl) (by kernel_rfl) Tryd.underlying145 Tryd.underlying127 (by kernel_rfl) (by kernel_rfl) (Lib.laidMet.reads hL (.tail _ (.tail _ (.head _))))
    exact ⟨_, e, fr, hh, rfl⟩
set_option maxHeartbeats 4000000 in
theorem lifted (os : Os) (started : os.Started) (H : Type) (enc : TypeId × Value → H) :
    ReturnsInHanded {} Tryd.checked os 4 .any (fun w args => (Rows.explainAnswerSpec.pre enc Tryd.prog Tryd.f4 [] false w args ∧ laidMetH Tryd.prog Rows.explainAnswerRow.laid w) ∧ sizedMet enc Tryd.prog Tryd.f4 (OpenSpec.ofChange Rows.explainAnswerSpec) false w args)
      (Rows.explainAnswerSpec.post enc Tryd.prog Tryd.f4 false true false false) := by
  refine handed_and_shaped (C := Tryd.checked) (X := fun w _ => laidMetH Tryd.prog Rows.explainAnswerRow.laid w) (fun _ _ _ hh h => h.of_heap hh) own started (by kernel_rfl) Tryd.func4
    (ChangeSpec.witness_shaped (enc := enc) (C := Tryd.checked) (os := os) (X := fun w _ => laidMetH Tryd.prog Rows.explainAnswerRow.laid w) false (World.laidAll Tryd.prog os Rows.explainAnswerRow.laid) #[.agg #[Value.slice none 0 0, Value.slice none 0 0]] 8 (World.laidAll_os _ _ _)
      (World.shaped_of_ZipB (by kernel_rfl) (by kernel_rfl)) (by kernel_rfl) (by kernel_rfl) (by kernel_rfl)
      (by rw [MakeChecks.laidMetH_plain _ _ _ (by kernel_rfl)]; exact laidMet_laidAll _ (by kernel_rfl) (by kernel_rfl))) ?_
  intro W base args ds gs before hval0 hW _ hwt hL hsh _
  have hval : ∀ (j : Nat) t v, Tryd.f4.params[j]? = some t → args[j]? = some v → Value.okWide Tryd.prog W .any base t v := hval0
  have hW' := hW
  obtain ⟨p, q, hA0, hV, rfl, hfz, hnd⟩ := hW
  have hA : DataW.TrodAll enc Tryd.prog W 0 (fun _ => true) true Tryd.f4.params.toList args.toList ds p := hA0
  rw [Tryd.params4] at hA hval
  obtain ⟨v0, vs0, d0, ds0, p0, q0, hargs, rfl, rfl, h0, r0⟩ := trodAll_cons hA
  obtain ⟨rfl, rfl, rfl⟩ := trodAll_nil r0
  obtain rfl : args = #[v0] := by cases args; simp_all
  obtain ⟨rfl, rfl⟩ := trodVars_none hV
  rw [Tryd.params4] at hwt
  simp only [List.append_nil, List.cons_append, List.nil_append, DataW.weightsEach, List.all_append, Bool.and_eq_true] at hwt
  have k0 := h0
  have lt0 : ∀ x ∈ p0, x.block < W.heap.size := by obtain ⟨m, hm⟩ := k0; exact DataW.trod_lt m _ _ _ hm
  obtain ⟨fu0, hf0⟩ := h0
  obtain ⟨y0, hG0, hC0⟩ := opr_ans fu0 H enc W _ (Nat.le_refl _) _ _ hf0 hwt.1
  obtain ⟨cs0, rfl, sz0⟩ := okWide_struct Tryd.underlying42 (hval 0 42 v0 rfl rfl)
  have hR0 := rp_cells hC0
  have hv := explainAnswer_ok y0 hG0
  refine (FF_calls hv (FZw W) W #[.agg cs0] (FZw_agree W) (fun g cs h => by cases h) rfl (fun i h h' => ?_) (gks_of hL hsh)).mono fun e W' he => ?_
  · match i, h with
    | 0, _ => exact hR0
  obtain ⟨rfl, bel⟩ := he
  exact ⟨_, rfl, _, _, _, [], _, [], hW', trodAll_mk1 (shut_bool Tryd.underlying4 _), (trodAll_cons_mk (Below.trod laidOut (by kernel_rfl) (of_decide_eq_true (by kernel_rfl)) k0 bel lt0) trodAll_mk0), rfl, bel.frame _, fun h => by cases h⟩
theorem over : Rows.ExplainAnswerSaid :=
  OpenClaim.holds_of_wide 4 Tryd.f4 rfl rfl rfl rfl rfl rfl rfl ⟨rfl, rfl, rfl, rfl, rfl⟩ rfl rfl rfl rfl rfl (by kernel_rfl) Tryd.func4 (by kernel_rfl)
    (of_decide_eq_true (by kernel_rfl)) (by unfold Func.isWrapper; first | (rw [if_pos (by decide +kernel)]; kernel_rfl) | (rw [if_neg (by decide +kernel)]; exact ⟨rfl, rfl⟩))
    (fun os started H enc _ => lifted os started H enc)
theorem card : Rows.ExplainAnswerCardSaid :=
  Claim7.holds_tied_plain_at .later [] [.data, .data, .data, .data, .pinned] true (true, "7c622da8f166ae5d72e23969edcdbb2c86235b76950cce79c970b2975451865b") true
    over (fun _ h => by cases h) (by kernel_rfl) (fun _ h => by cases h) explainAnswer_row_tie rfl ⟨rfl, rfl⟩ (by kernel_rfl) rfl
    (fun f fn hf hfn => by
      obtain rfl : f = 4 := Option.some.inj ((show Tryd.prog.funcNamed "rowlock/rowlocklaw30.ExplainAnswer" = some 4 by kernel_rfl).symm.trans hf) |>.symm
      obtain rfl : fn = Tryd.f4 := (Option.some.inj (Tryd.func4.symm.trans hfn)).symm
      exact ⟨by kernel_rfl, fun j t ht => by
        rw [Tryd.params4] at ht
        have hm : t ∈ [42] := by simpa using Array.mem_of_getElem? ht
        have hall : ([42].all fun u => !Tryd.prog.wantsStandIn u) = true := by kernel_rfl
        exact (show Tryd.prog.wantsStandIn t = false by simpa using List.all_eq_true.1 hall t hm)⟩)
    (by kernel_rfl)
end Go.Proofs.YtjdkcedhmfgmoaaDoor.explainAnswer
namespace Go.Proofs.YtjdkcedhmfgmoaaDoor
/-- The card, under a short name, for the claim. -/
theorem explainAnswer_holds : Rows.ExplainAnswerCardSaid := explainAnswer.card
end Go.Proofs.YtjdkcedhmfgmoaaDoor
