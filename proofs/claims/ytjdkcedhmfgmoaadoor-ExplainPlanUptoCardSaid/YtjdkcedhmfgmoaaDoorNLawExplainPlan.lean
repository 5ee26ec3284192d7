/- ExplainPlan answers true of any input of bulk at most 1048576; its arguments read behind the call as they did. The card that ties the listed variables to the program's text. No condition beyond the given statement's own. -/
import Derived.Test.YtjdkcedhmfgmoaaDoorRows
import Derived.Test.YtjdkcedhmfgmoaaDoorCards
import Derived.Test.YtjdkcedhmfgmoaaDoorTie
import Derived.Test.YtjdkcedhmfgmoaaDoorNLawk
import Derived.Test.YtjdkcedhmfgmoaaDoorNXo
import Derived.WalkKit
import Derived.ProofKit
import Derived.LaidMore
import Derived.Lay
import Derived.Deep.DeepHandedRow
import Derived.LaidOnce
import Derived.OpenShut
import Derived.ShutString
import Derived.ChangeOld
import Derived.Below
import Derived.Carry
import Derived.Stop.Joined
import Derived.SevenTiedAt
namespace Go.Proofs.YtjdkcedhmfgmoaaDoor.explainPlan
open Go Go.Eng Go.ChangeShapes Go.WideShapes Go.ChangeAt Go.RowKit Go.Proofs Go.Proofs.YtjdkcedhmfgmoaaDoor
set_option linter.unusedVariables false
set_option linter.unusedSimpArgs false
theorem own : ownKnob Tryd.prog.godebug = none := by kernel_rfl
theorem laidOut : laidOutB Tryd.prog = true := by kernel_rfl
set_option maxRecDepth 100000
theorem gks_of {W : World} (hL : laidMetH Tryd.prog Rows.explainPlanUptoRow.laid W) (hsh : W.ShapedOpen Tryd.prog) : Gks W := by
  rw [MakeChecks.laidMetH_plain _ _ _ (by kernel_rfl)] at hL
  intro g hg
  simp only [gids, List.mem_cons, List.mem_nil_iff, or_false] at hg
  rcases hg with rfl | rfl
  · obtain ⟨cs, hh, h1⟩ := shaped_int (g := 0) (t := 3) (zero := #[.int .i64 0]) hsh (of_decide_eq_true (by kernel_rfl)) (by kernel_rfl) rfl (by kernel_rfl) (by kernel_rfl) Tryd.underlying3
    exact ⟨cs, _, _, hh, h1⟩
  · obtain ⟨e, fr, hh⟩ := tab_reads (zs := Lib.pow10Tab) (g := 1) (t := 145) (e := 127) (k := .u64) (by kernel_rfl) (by kernel_rfl) Tryd.underlying145 Tryd.underlying127 (by kernel_rfl) (by kernel_rfl) (Lib.laidMet.reads hL (.tail _ (.tail _ (.head _))))
    exact ⟨_, e, fr, hh, rfl⟩
set_option maxHeartbeats 4000000 in
/-- what the call does, wherever what it reads is of so much bulk -/
theorem contract (H : Type) (enc : TypeId × Value → H) (W : World) (base : Nat) (args : Array Value) (ds gs : List (DataW H)) (before : List MemPlace)
    (hval0 : ∀ (j : Nat) t v, Tryd.f3.params[j]? = some t → args[j]? = some v → Value.okWide Tryd.prog W .any base t v)
    (hW : DataW.Whole enc Tryd.prog Tryd.f3.params.toList Rows.explainPlanSpec.vars false W args.toList ds gs before) (hk : Rows.uptoBulkAll (ds ++ gs) ≤ 1048576) (hL : laidMetH Tryd.prog Rows.explainPlanUptoRow.laid W) (hsh : W.ShapedOpen Tryd.prog) :
    Calls Tryd.prog 3 args W fun e W' => ∃ v, e = .returned v ∧ Rows.explainPlanSpec.post enc Tryd.prog Tryd.f3 false true false false W args v W' := by
  have hval : ∀ (j : Nat) t v, Tryd.f3.params[j]? = some t → args[j]? = some v → Value.okWide Tryd.prog W .any base t v := hval0
  have hW' := hW
  obtain ⟨p, q, hA0, hV, rfl, hfz, hnd⟩ := hW
  have hA : DataW.TrodAll enc Tryd.prog W 0 (fun _ => true) true Tryd.f3.params.toList args.toList ds p := hA0
  rw [Tryd.params3] at hA hval
  obtain ⟨v0, vs0, d0, ds0, p0, q0, hargs, rfl, rfl, h0, r0⟩ := trodAll_cons hA
  obtain ⟨v1, vs1, d1, ds1, p1, q1, rfl, rfl, rfl, h1, r1⟩ := trodAll_cons r0
  obtain ⟨v2, vs2, d2, ds2, p2, q2, rfl, rfl, rfl, h2, r2⟩ := trodAll_cons r1
  obtain ⟨rfl, rfl, rfl⟩ := trodAll_nil r2
  obtain rfl : args = #[v0, v1, v2] := by cases args; simp_all
  obtain ⟨rfl, rfl⟩ := trodVars_none hV
  simp only [List.cons_append, List.nil_append, Rows.uptoBulkAll] at hk
  have k0 := h0
  have k1 := h1
  have k2 := h2
  have lt0 : ∀ x ∈ p0, x.block < W.heap.size := by obtain ⟨m, hm⟩ := k0; exact DataW.trod_lt m _ _ _ hm
  have lt1 : ∀ x ∈ p1, x.block < W.heap.size := by obtain ⟨m, hm⟩ := k1; exact DataW.trod_lt m _ _ _ hm
  have lt2 : ∀ x ∈ p2, x.block < W.heap.size := by obtain ⟨m, hm⟩ := k2; exact DataW.trod_lt m _ _ _ hm
  obtain ⟨fu0, hf0⟩ := h0
  obtain ⟨y0, hG0, hC0⟩ := opu_bok fu0 H enc W _ (Nat.le_refl _) _ _ hf0 (by show Rows.uptoBulk d0 ≤ 1048576; omega)
  obtain ⟨cs0, rfl, sz0⟩ := okWide_struct Tryd.underlying25 (hval 0 25 v0 rfl rfl)
  have hR0 := rp_cells hC0
  obtain ⟨fu1, hf1⟩ := h1
  obtain ⟨y1, hG1, hC1⟩ := opu_blk fu1 H enc W _ (Nat.le_refl _) _ _ hf1 (by show Rows.uptoBulk d1 ≤ 1048576; omega)
  obtain ⟨cs1, rfl, sz1⟩ := okWide_struct Tryd.underlying32 (hval 1 32 v1 rfl rfl)
  have hR1 := rp_cells hC1
  obtain ⟨fu2, hf2⟩ := h2
  obtain ⟨y2, hG2, hC2⟩ := opu_pln fu2 H enc W _ (Nat.le_refl _) _ _ hf2 (by show Rows.uptoBulk d2 ≤ 1048576; omega)
  obtain ⟨cs2, rfl, sz2⟩ := okWide_struct Tryd.underlying35 (hval 2 35 v2 rfl rfl)
  have hR2 := rp_cells hC2
  have hv := explainPlan_ok y0 y1 y2 hG0 hG1 hG2
  refine (FF_calls hv (FZw W) W #[.agg cs0, .agg cs1, .agg cs2] (FZw_agree W) (fun g cs h => by cases h) rfl (fun i h h' => ?_) (gks_of hL hsh)).mono fun e W' he => ?_
  · match i, h with
    | 0, _ => exact hR0
    | 1, _ => exact hR1
    | 2, _ => exact hR2
  obtain ⟨rfl, bel⟩ := he
  exact ⟨_, rfl, _, _, _, [], _, [], hW', trodAll_mk1 (shut_bool Tryd.underlying4 _), (trodAll_cons_mk (Below.trod laidOut (by kernel_rfl) (of_decide_eq_true (by kernel_rfl)) k0 bel lt0) (trodAll_cons_mk (Below.trod laidOut (by kernel_rfl) (of_decide_eq_true (by kernel_rfl)) k1 bel lt1) (trodAll_cons_mk (Below.trod laidOut (by kernel_rfl) (of_decide_eq_true (by kernel_rfl)) k2 bel lt2) trodAll_mk0))), rfl, bel.frame _, fun h => by cases h⟩
theorem witness_row_shaped {H : Type} {enc : TypeId × Value → H} {C : Checked} {os : Os} {f : FuncId} {fn : Func} {s : OpenSpec} {conds : List PathCond} {apart : Bool} {laid : List (String × DataW Unit)} (modest : Bool) (w0 : World) (args : Array Value) (hos : w0.os = os)
    (hsh : (w0.forCall (fun _ _ => 0) ⟨#[], args, []⟩).Shaped C.prog)
    (hok : Input.okWideB C.prog (w0.forCall (fun _ _ => 0) ⟨#[], args, []⟩) f ⟨#[], args, []⟩ = true)
    (hrow : s.preRow enc C.prog fn conds apart laid (w0.forCall (fun _ _ => 0) ⟨#[], args, []⟩).memory args) :
    ∃ (w : World) (tape : Tape) (i : Input), w.os = os ∧ (w.forCall tape i).Shaped C.prog ∧ i.vars = [] ∧ Input.okWide C.prog (w.forCall tape i) .any w.heap.size f i ∧
      s.preRow enc C.prog fn conds apart laid (w.forCall tape i).memory i.args ∧ ({ modest := modest } : Assume).holds C.prog (lone (Frame.enter C.prog f i.args .normal) [] (w.forCall tape i)) :=
  ⟨w0, fun _ _ => 0, ⟨#[], args, []⟩, hos, hsh, (Input.okWide_of_okWideB (base := 0) hok).1, (Input.okWide_of_okWideB hok).2, hrow, by
    simp only [Assume.holds]
    exact ⟨by simp, by simp, fun _ => Modest.zero, by simp, by simp⟩⟩
theorem reads (os : Os) {H : Type} (enc : TypeId × Value → H) : ∃ x, DataW.whole enc Tryd.prog ((World.laidAll Tryd.prog os Rows.explainPlanUptoRow.laid).forCall (fun _ _ => 0) ⟨#[], #[.agg #[Value.slice none 0 0, Value.slice none 0 0], .agg #[Value.bool false, Value.slice none 0 0, Value.slice none 0 0, Value.slice none 0 0, Value.slice none 0 0, Value.slice none 0 0, Value.bool false, Value.slice none 0 0, Value.slice none 0 0, Value.slice none 0 0, Value.int IntKind.i64 0], .agg #[Value.slice none 0 0, Value.bool false]], []⟩).memory Tryd.f3.params.toList Rows.explainPlanSpec.vars false #[.agg #[Value.slice none 0 0, Value.slice none 0 0], .agg #[Value.bool false, Value.slice none 0 0, Value.slice none 0 0, Value.slice none 0 0, Value.slice none 0 0, Value.slice none 0 0, Value.bool false, Value.slice none 0 0, Value.slice none 0 0, Value.slice none 0 0, Value.int IntKind.i64 0], .agg #[Value.slice none 0 0, Value.bool false]].toList 8 = some x ∧ Rows.uptoSmall H (x.1 ++ x.2.1) = true := by
  have h : (match DataW.whole enc Tryd.prog ((World.laidAll Tryd.prog os Rows.explainPlanUptoRow.laid).forCall (fun _ _ => 0) ⟨#[], #[.agg #[Value.slice none 0 0, Value.slice none 0 0], .agg #[Value.bool false, Value.slice none 0 0, Value.slice none 0 0, Value.slice none 0 0, Value.slice none 0 0, Value.slice none 0 0, Value.bool false, Value.slice none 0 0, Value.slice none 0 0, Value.slice none 0 0, Value.int IntKind.i64 0], .agg #[Value.slice none 0 0, Value.bool false]], []⟩).memory Tryd.f3.params.toList Rows.explainPlanSpec.vars false #[.agg #[Value.slice none 0 0, Value.slice none 0 0], .agg #[Value.bool false, Value.slice none 0 0, Value.slice none 0 0, Value.slice none 0 0, Value.slice none 0 0, Value.slice none 0 0, Value.bool false, Value.slice none 0 0, Value.slice none 0 0, Value.slice none 0 0, Value.int IntKind.i64 0], .agg #[Value.slice none 0 0, Value.bool false]].toList 8 with | some x => Rows.uptoSmall H (x.1 ++ x.2.1) | none => false) = true := by kernel_rfl
  split at h
  · rename_i x hx
    exact ⟨x, hx, h⟩
  · cases h
set_option maxHeartbeats 4000000 in
theorem lifted (os : Os) (started : os.Started) (H : Type) (enc : TypeId × Value → H) (F : Stop.Interp) :
    ReturnsInHanded {} Tryd.checked os 3 .any ((Rows.OpenSpec.upto Rows.explainPlanSpec).preRow enc Tryd.prog Tryd.f3 Rows.explainPlanUptoRow.domain false Rows.explainPlanUptoRow.laid) (((Rows.OpenSpec.upto Rows.explainPlanSpec).at F).post enc Tryd.prog Tryd.f3 false true false false) := by
  obtain ⟨x, hx, hb⟩ := reads os enc
  refine returnsInHanded_of_row (C := Tryd.checked) (s := Rows.OpenSpec.upto Rows.explainPlanSpec) own started (by kernel_rfl) Tryd.func3
    (witness_row_shaped (enc := enc) (C := Tryd.checked) false (World.laidAll Tryd.prog os Rows.explainPlanUptoRow.laid) #[.agg #[Value.slice none 0 0, Value.slice none 0 0], .agg #[Value.bool false, Value.slice none 0 0, Value.slice none 0 0, Value.slice none 0 0, Value.slice none 0 0, Value.slice none 0 0, Value.bool false, Value.slice none 0 0, Value.slice none 0 0, Value.slice none 0 0, Value.int IntKind.i64 0], .agg #[Value.slice none 0 0, Value.bool false]] (World.laidAll_os _ _ _)
      (World.shaped_of_ZipB (by kernel_rfl) (by kernel_rfl)) (by kernel_rfl)
      (OpenSpec.preRow_of_cond 8 hx rfl (fun k hk => by cases hk; exact hb) (by kernel_rfl) (by rw [MakeChecks.laidMetH_plain _ _ _ (by kernel_rfl)]; exact laidMet_laidAll _ (by kernel_rfl) (by kernel_rfl)))) ?_
  intro W base args ds gs before hval hW _ hcond _ hL hsh _
  exact contract H enc W base args ds gs before hval hW (of_decide_eq_true (hcond _ rfl)) hL hsh
theorem over : Rows.ExplainPlanUptoSaid :=
  OpenClaim.holds_of_cond 3 Tryd.f3 rfl rfl rfl rfl rfl rfl rfl ⟨rfl, rfl, rfl, rfl, rfl⟩ rfl rfl rfl rfl rfl (by kernel_rfl) Tryd.func3 (by kernel_rfl)
    (of_decide_eq_true (by kernel_rfl)) (by unfold Func.isWrapper; first | (rw [if_pos (by decide +kernel)]; kernel_rfl) | (rw [if_neg (by decide +kernel)]; exact ⟨rfl, rfl⟩))
    (fun os started H enc _ F => by rw [OpenClaim.pre_eq_preRow]; exact lifted os started H enc F)
theorem card : Rows.ExplainPlanUptoCardSaid :=
  Claim7.holds_tied_plain_at .later [] [.data, .data, .data] true (true, "7c622da8f166ae5d72e23969edcdbb2c86235b76950cce79c970b2975451865b") true
    over (fun _ h => by cases h) (by kernel_rfl) (fun _ h => by cases h) explainPlanUpto_row_tie rfl ⟨rfl, rfl⟩ (by kernel_rfl) rfl
    (fun f fn hf hfn => by
      obtain rfl : f = 3 := Option.some.inj ((show Tryd.prog.funcNamed "rowlock/rowlocklaw30.ExplainPlan" = some 3 by kernel_rfl).symm.trans hf) |>.symm
      obtain rfl : fn = Tryd.f3 := (Option.some.inj (Tryd.func3.symm.trans hfn)).symm
      exact ⟨by kernel_rfl, fun j t ht => by
        rw [Tryd.params3] at ht
        have hm : t ∈ [25, 32, 35] := by simpa using Array.mem_of_getElem? ht
        have hall : ([25, 32, 35].all fun u => !Tryd.prog.wantsStandIn u) = true := by kernel_rfl
        exact (show Tryd.prog.wantsStandIn t = false by simpa using List.all_eq_true.1 hall t hm)⟩)
    (by kernel_rfl)
end Go.Proofs.YtjdkcedhmfgmoaaDoor.explainPlan
namespace Go.Proofs.YtjdkcedhmfgmoaaDoor
/-- The card, under a short name, for the claim. -/
theorem explainPlanUpto_holds : Rows.ExplainPlanUptoCardSaid := explainPlan.card
end Go.Proofs.YtjdkcedhmfgmoaaDoor
