-- printed for this claim by a copy of the printer that this session turned (wip/pp)
import Derived.Test.YtneihjdkaogkiaaPCalcDox0
import Derived.Test.YtneihjdkaogkiaaPCalcDox7
import Derived.Test.YtneihjdkaogkiaaPCalcDox8
import Derived.Test.YtneihjdkaogkiaaPCalcDox9
namespace Go.Proofs.Ytneihjdkaogkiaa.PCalcDo
open Go.RowKit Go.Proofs.YtneihjdkaogkiaaW.PrintWords Go.Proofs.YtneihjdkaogkiaaW.PrintLast Go.Proofs.YtneihjdkaogkiaaW.PrintMore
attribute [local go_sem] max2_int min2_int max_two min_two max_three min_three max_four min_four   -- for this text's walks alone
set_option linter.unusedVariables false
set_option linter.unusedSimpArgs false

/-! ### rowlockref03_Do: function 24 -/
mutual
def rowlockref03_Do.j0 : Nat → ByteArray → Bool → Int → Int → ByteArray → Int → Int → ByteArray → Int → Int → ByteArray → Option (Int × Int × ByteArray × Bool)
  | 0, _, _, _, _, _, _, _, _, _, _, _ => none
  | k + 1, x0, x22, x278000, x278001, x278002, x279000, x279001, x279002, x281000, x281001, x281002 => if x22 = true then (some (x281000, x281001, x281002, false)) else ((rowlockref03_Of.f k x278001).bind fun bt281 => ((rowlockref03_Of.f k x279001).bind fun bt286 => (if x0.toList = ([43] : List UInt8) then ((rowlockref03_Plus.f k bt281.1 bt281.2 bt286.1 bt286.2).bind fun bt292 => (rowlockref03_Do.j1 k x278000 x278001 x278002 x279000 x279001 x279002 x281000 x281001 x281002 bt292.1 bt292.2)) else (if x0.toList = ([45] : List UInt8) then ((rowlockref03_Turn.f bt286.1 bt286.2).bind fun bt296 => ((rowlockref03_Plus.f k bt281.1 bt281.2 bt296.1 bt296.2).bind fun bt300 => (rowlockref03_Do.j1 k x278000 x278001 x278002 x279000 x279001 x279002 x281000 x281001 x281002 bt300.1 bt300.2))) else (if x0.toList = ([42] : List UInt8) then ((rowlockref03_Times.f k bt281.1 bt281.2 bt286.1 bt286.2).bind fun bt304 => (rowlockref03_Do.j1 k x278000 x278001 x278002 x279000 x279001 x279002 x281000 x281001 x281002 bt304.1 bt304.2)) else (some (x281000, x281001, x281002, false)))))))
def rowlockref03_Do.j1 : Nat → Int → Int → ByteArray → Int → Int → ByteArray → Int → Int → ByteArray → Int → List Int → Option (Int × Int × ByteArray × Bool)
  | 0, _, _, _, _, _, _, _, _, _, _, _ => none
  | k + 1, x278000, x278001, x278002, x279000, x279001, x279002, x281000, x281001, x281002, x292000, x292001 => if x278000 = 0 then (rowlockref03_Do.j2 k true x281000 x281001 x281002 x292000 x292001) else (rowlockref03_Do.j2 k (x279000 == 0) x281000 x281001 x281002 x292000 x292001)
def rowlockref03_Do.j2 : Nat → Bool → Int → Int → ByteArray → Int → List Int → Option (Int × Int × ByteArray × Bool)
  | 0, _, _, _, _, _, _ => none
  | k + 1, x56, x281000, x281001, x281002, x292000, x292001 => if x56 = true then (some (x281000, x281001, x281002, true)) else ((rowlockref03_Right.f k x292000 x292001).bind fun bt308 => (if bt308.2 = true then (some (1, bt308.1, (⟨#[]⟩ : ByteArray), true)) else (some (x281000, x281001, x281002, false))))
end
def rowlockref03_Do.f (k : Nat) (a0 : ByteArray) (a1_0 : Int) (a1_1 : Int) (a1_2 : ByteArray) (a2_0 : Int) (a2_1 : Int) (a2_2 : ByteArray) : Option (Int × Int × ByteArray × Bool) := if a1_0 > 1 then (rowlockref03_Do.j0 k a0 true a1_0 a1_1 a1_2 a2_0 a2_1 a2_2 0 0 (⟨#[]⟩ : ByteArray)) else (rowlockref03_Do.j0 k a0 (decide (a2_0 > 1)) a1_0 a1_1 a1_2 a2_0 a2_1 a2_2 0 0 (⟨#[]⟩ : ByteArray))
theorem rowlockref03_Do.mono_l : ∀ k, (∀ y0 y1 y2 y3 y4 y5 y6 y7 y8 y9 y10, LeO (rowlockref03_Do.j0 k y0 y1 y2 y3 y4 y5 y6 y7 y8 y9 y10) (rowlockref03_Do.j0 (k + 1) y0 y1 y2 y3 y4 y5 y6 y7 y8 y9 y10)) ∧ (∀ y0 y1 y2 y3 y4 y5 y6 y7 y8 y9 y10, LeO (rowlockref03_Do.j1 k y0 y1 y2 y3 y4 y5 y6 y7 y8 y9 y10) (rowlockref03_Do.j1 (k + 1) y0 y1 y2 y3 y4 y5 y6 y7 y8 y9 y10)) ∧ (∀ y0 y1 y2 y3 y4 y5, LeO (rowlockref03_Do.j2 k y0 y1 y2 y3 y4 y5) (rowlockref03_Do.j2 (k + 1) y0 y1 y2 y3 y4 y5))
  | 0 => ⟨fun _ _ _ _ _ _ _ _ _ _ _ r h => by simp [rowlockref03_Do.j0] at h, fun _ _ _ _ _ _ _ _ _ _ _ r h => by simp [rowlockref03_Do.j1] at h, fun _ _ _ _ _ _ r h => by simp [rowlockref03_Do.j2] at h⟩
  | k + 1 => by
    obtain ⟨ih0, ih1, ih2⟩ := rowlockref03_Do.mono_l k
    refine ⟨?_, ?_, ?_⟩
    · intro y0 y1 y2 y3 y4 y5 y6 y7 y8 y9 y10
      unfold rowlockref03_Do.j0
      repeat' first
      | (with_reducible exact ih0 _ _ _ _ _ _ _ _ _ _ _)
      | (with_reducible exact ih1 _ _ _ _ _ _ _ _ _ _ _)
      | (with_reducible exact ih2 _ _ _ _ _ _)
      | (with_reducible exact rowlockref03_Of.mono _ _)
      | (with_reducible exact rowlockref03_Plus.mono _ _ _ _ _)
      | (with_reducible exact rowlockref03_Right.mono _ _ _)
      | (with_reducible exact rowlockref03_Times.mono _ _ _ _ _)
      | (with_reducible exact LeO.refl _)
      | (with_reducible exact LeO.none _)
      | (with_reducible refine LeO.ite ?_ ?_)
      | (with_reducible refine LeO.bind ?_ (fun _ => ?_))
      | exact ih0 _ _ _ _ _ _ _ _ _ _ _
      | exact ih1 _ _ _ _ _ _ _ _ _ _ _
      | exact ih2 _ _ _ _ _ _
      | exact rowlockref03_Of.mono _ _
      | exact rowlockref03_Plus.mono _ _ _ _ _
      | exact rowlockref03_Right.mono _ _ _
      | exact rowlockref03_Times.mono _ _ _ _ _
      | exact LeO.none _
      | refine LeO.ite ?_ ?_
      | refine LeO.bind ?_ (fun _ => ?_)
    · intro y0 y1 y2 y3 y4 y5 y6 y7 y8 y9 y10
      unfold rowlockref03_Do.j1
      repeat' first
      | (with_reducible exact ih0 _ _ _ _ _ _ _ _ _ _ _)
      | (with_reducible exact ih1 _ _ _ _ _ _ _ _ _ _ _)
      | (with_reducible exact ih2 _ _ _ _ _ _)
      | (with_reducible exact rowlockref03_Of.mono _ _)
      | (with_reducible exact rowlockref03_Plus.mono _ _ _ _ _)
      | (with_reducible exact rowlockref03_Right.mono _ _ _)
      | (with_reducible exact rowlockref03_Times.mono _ _ _ _ _)
      | (with_reducible exact LeO.refl _)
      | (with_reducible exact LeO.none _)
      | (with_reducible refine LeO.ite ?_ ?_)
      | (with_reducible refine LeO.bind ?_ (fun _ => ?_))
      | exact ih0 _ _ _ _ _ _ _ _ _ _ _
      | exact ih1 _ _ _ _ _ _ _ _ _ _ _
      | exact ih2 _ _ _ _ _ _
      | exact rowlockref03_Of.mono _ _
      | exact rowlockref03_Plus.mono _ _ _ _ _
      | exact rowlockref03_Right.mono _ _ _
      | exact rowlockref03_Times.mono _ _ _ _ _
      | exact LeO.none _
      | refine LeO.ite ?_ ?_
      | refine LeO.bind ?_ (fun _ => ?_)
    · intro y0 y1 y2 y3 y4 y5
      unfold rowlockref03_Do.j2
      repeat' first
      | (with_reducible exact ih0 _ _ _ _ _ _ _ _ _ _ _)
      | (with_reducible exact ih1 _ _ _ _ _ _ _ _ _ _ _)
      | (with_reducible exact ih2 _ _ _ _ _ _)
      | (with_reducible exact rowlockref03_Of.mono _ _)
      | (with_reducible exact rowlockref03_Plus.mono _ _ _ _ _)
      | (with_reducible exact rowlockref03_Right.mono _ _ _)
      | (with_reducible exact rowlockref03_Times.mono _ _ _ _ _)
      | (with_reducible exact LeO.refl _)
      | (with_reducible exact LeO.none _)
      | (with_reducible refine LeO.ite ?_ ?_)
      | (with_reducible refine LeO.bind ?_ (fun _ => ?_))
      | exact ih0 _ _ _ _ _ _ _ _ _ _ _
      | exact ih1 _ _ _ _ _ _ _ _ _ _ _
      | exact ih2 _ _ _ _ _ _
      | exact rowlockref03_Of.mono _ _
      | exact rowlockref03_Plus.mono _ _ _ _ _
      | exact rowlockref03_Right.mono _ _ _
      | exact rowlockref03_Times.mono _ _ _ _ _
      | exact LeO.none _
      | refine LeO.ite ?_ ?_
      | refine LeO.bind ?_ (fun _ => ?_)
theorem rowlockref03_Do.mono : ∀ a0 a1 a2 a3 a4 a5 a6 k, LeO (rowlockref03_Do.f k a0 a1 a2 a3 a4 a5 a6) (rowlockref03_Do.f (k + 1) a0 a1 a2 a3 a4 a5 a6) := by
  intro a0 a1 a2 a3 a4 a5 a6 k
  obtain ⟨ih0, ih1, ih2⟩ := rowlockref03_Do.mono_l k
  unfold rowlockref03_Do.f
  repeat' first
      | (with_reducible exact ih0 _ _ _ _ _ _ _ _ _ _ _)
      | (with_reducible exact ih1 _ _ _ _ _ _ _ _ _ _ _)
      | (with_reducible exact ih2 _ _ _ _ _ _)
      | (with_reducible exact rowlockref03_Of.mono _ _)
      | (with_reducible exact rowlockref03_Plus.mono _ _ _ _ _)
      | (with_reducible exact rowlockref03_Right.mono _ _ _)
      | (with_reducible exact rowlockref03_Times.mono _ _ _ _ _)
      | (with_reducible exact LeO.refl _)
      | (with_reducible exact LeO.none _)
      | (with_reducible refine LeO.ite ?_ ?_)
      | (with_reducible refine LeO.bind ?_ (fun _ => ?_))
      | exact ih0 _ _ _ _ _ _ _ _ _ _ _
      | exact ih1 _ _ _ _ _ _ _ _ _ _ _
      | exact ih2 _ _ _ _ _ _
      | exact rowlockref03_Of.mono _ _
      | exact rowlockref03_Plus.mono _ _ _ _ _
      | exact rowlockref03_Right.mono _ _ _
      | exact rowlockref03_Times.mono _ _ _ _ _
      | exact LeO.none _
      | refine LeO.ite ?_ ?_
      | refine LeO.bind ?_ (fun _ => ?_)
set_option maxHeartbeats 8000000 in
set_option maxRecDepth 100000 in
theorem rowlockref03_Do.calls (k : Nat) (a0 : ByteArray) (a1_0 : Int) (a1_1 : Int) (a1_2 : ByteArray) (a2_0 : Int) (a2_1 : Int) (a2_2 : ByteArray) (r1 : Int) (r2 : Int) (r3 : ByteArray) (r4 : Bool) (w : World) (h : rowlockref03_Do.f k a0 a1_0 a1_1 a1_2 a2_0 a2_1 a2_2 = some (r1, r2, r3, r4)) :
    Calls Try.prog 24 #[.string a0, .agg #[.int .u8 a1_0, .int .i64 a1_1, .string a1_2], .agg #[.int .u8 a2_0, .int .i64 a2_1, .string a2_2]] w fun e w' => e = .returned (.tuple #[.agg #[.int .u8 r1, .int .i64 r2, .string r3], .bool r4]) ∧ Below w.heap.size w w' := by
  have hu43 := Try.underlying43
  have hu31 := Try.underlying31
  have HB := Aside0.mk (Below.refl w.heap.size w)
  have H : (if a1_0 > 1 then (rowlockref03_Do.j0 k a0 true a1_0 a1_1 a1_2 a2_0 a2_1 a2_2 0 0 (⟨#[]⟩ : ByteArray)) else (rowlockref03_Do.j0 k a0 (decide (a2_0 > 1)) a1_0 a1_1 a1_2 a2_0 a2_1 a2_2 0 0 (⟨#[]⟩ : ByteArray))) = some (r1, r2, r3, r4) := h
  clear h
  have HC4 := Aside0.mk H
  clear H
  go_enter Try.func24, Try.ntmps24
  go_upto_region 2 with (first | ((with_reducible refine gate_dst (N := 4) rfl ?_); refine box_event ?hg (N := 4) ?hd (cs := #[.int .u8 a1_0, .int .i64 a1_1, .string a1_2]) (t := 43) ?hr ?_; (case hd => rfl); (case hg => rfl); (case hr => first | (go_simp; done) | (go_simp; rfl)); intro gb277 hg w5 hbox hb; have n0_ := Aside0.mk (below_step bl hb); have n1_ := Aside0.mk (hbox); have n2_ := Aside0.mk ((sz hg : w.heap.size ≤ gb277)); have n3_ := Aside0.mk ((sz hg : w.heap.size ≤ gb277)); clear HB; have HB := n0_; have BK277 := n1_; have GW277 := n2_; have GE277 := n3_; clear n0_ n1_ n2_ n3_; clear hb hbox hg) | ((with_reducible refine gate_dst (N := 5) rfl ?_); refine box_event ?hg (N := 5) ?hd (cs := #[.int .u8 a2_0, .int .i64 a2_1, .string a2_2]) (t := 43) ?hr ?_; (case hd => rfl); (case hg => rfl); (case hr => first | (go_simp; done) | (go_simp; rfl)); intro gb278 hg w6 hbox hb; have n0_ := Aside0.mk (bb (g := gb277) hb); have n1_ := Aside0.mk (below_step bl hb); have n2_ := Aside0.mk (hbox); have n3_ := Aside0.mk ((sz hg : w.heap.size ≤ gb278)); have n4_ := Aside0.mk ((sz hg : w.heap.size ≤ gb278)); have n5_ := Aside0.mk ((nl hg : gb277 ≠ gb278)); have n6_ := Aside0.mk ((ng hg : gb278 ≠ gb277)); clear BK277; clear HB; have BK277 := n0_; have HB := n1_; have BK278 := n2_; have GW278 := n3_; have GE278 := n4_; have NB277_278 := n5_; have NB278_277 := n6_; clear n0_ n1_ n2_ n3_ n4_ n5_ n6_; clear hb hbox hg) | ((with_reducible refine gate_dst (N := 6) rfl ?_); refine box_event ?hg (N := 6) ?hd (cs := #[.int .u8 0, .int .i64 0, .string (⟨#[]⟩ : ByteArray)]) (t := 43) ?hr ?_; (case hd => rfl); (case hg => rfl); (case hr => first | (go_simp; done) | (go_simp; rfl)); intro gb279 hg w7 hbox hb; have n0_ := Aside0.mk (bb (g := gb277) hb); have n1_ := Aside0.mk (bb (g := gb278) hb); have n2_ := Aside0.mk (below_step bl hb); have n3_ := Aside0.mk (hbox); have n4_ := Aside0.mk ((sz hg : w.heap.size ≤ gb279)); have n5_ := Aside0.mk ((sz hg : w.heap.size ≤ gb279)); have n6_ := Aside0.mk ((nl hg : gb277 ≠ gb279)); have n7_ := Aside0.mk ((ng hg : gb279 ≠ gb277)); have n8_ := Aside0.mk ((nl hg : gb278 ≠ gb279)); have n9_ := Aside0.mk ((ng hg : gb279 ≠ gb278)); clear BK277; clear BK278; clear HB; have BK277 := n0_; have BK278 := n1_; have HB := n2_; have BK279 := n3_; have GW279 := n4_; have GE279 := n5_; have NB277_279 := n6_; have NB279_277 := n7_; have NB278_279 := n8_; have NB279_278 := n9_; clear n0_ n1_ n2_ n3_ n4_ n5_ n6_ n7_ n8_ n9_; clear hb hbox hg) | ((with_reducible refine gate_dst (N := 8) rfl ?_); refine box_event ?hg (N := 8) ?hd (cs := #[.int .u8 0, .int .i64 0, .string (⟨#[]⟩ : ByteArray)]) (t := 43) ?hr ?_; (case hd => rfl); (case hg => rfl); (case hr => first | (go_simp; done) | (go_simp; rfl)); intro gb280 hg w8 hbox hb; have n0_ := Aside0.mk (bb (g := gb277) hb); have n1_ := Aside0.mk (bb (g := gb278) hb); have n2_ := Aside0.mk (bb (g := gb279) hb); have n3_ := Aside0.mk (below_step bl hb); have n4_ := Aside0.mk (hbox); have n5_ := Aside0.mk ((sz hg : w.heap.size ≤ gb280)); have n6_ := Aside0.mk ((sz hg : w.heap.size ≤ gb280)); have n7_ := Aside0.mk ((nl hg : gb277 ≠ gb280)); have n8_ := Aside0.mk ((ng hg : gb280 ≠ gb277)); have n9_ := Aside0.mk ((nl hg : gb278 ≠ gb280)); have n10_ := Aside0.mk ((ng hg : gb280 ≠ gb278)); have n11_ := Aside0.mk ((nl hg : gb279 ≠ gb280)); have n12_ := Aside0.mk ((ng hg : gb280 ≠ gb279)); clear BK277; clear BK278; clear BK279; clear HB; have BK277 := n0_; have BK278 := n1_; have BK279 := n2_; have HB := n3_; have BK280 := n4_; have GW280 := n5_; have GE280 := n6_; have NB277_280 := n7_; have NB280_277 := n8_; have NB278_280 := n9_; have NB280_278 := n10_; have NB279_280 := n11_; have NB280_279 := n12_; clear n0_ n1_ n2_ n3_ n4_ n5_ n6_ n7_ n8_ n9_ n10_ n11_ n12_; clear hb hbox hg; have hnb9 := NB280_277.out; have hnc9 := NB277_280.out; have hnb10 := NB280_278.out; have hnc10 := NB278_280.out; have hnb11 := NB280_279.out; have hnc11 := NB279_280.out; have hcz12_0 : w8.cell? ⟨gb280, 0, none⟩ = some (.int .u8 0) := (blk_cell BK280.out 0).trans rfl; have hcz12_1 : w8.cell? ⟨gb280, 1, none⟩ = some (.int .i64 0) := (blk_cell BK280.out 1).trans rfl; have hcz12_2 : w8.cell? ⟨gb280, 2, none⟩ = some (.string (⟨#[]⟩ : ByteArray)) := (blk_cell BK280.out 2).trans rfl; have hfz12_0 := blk_frozen BK280.out 0; have hfz12_1 := blk_frozen BK280.out 1; have hfz12_2 := blk_frozen BK280.out 2))
  (try simp only [Act.put, List.setIfInBounds_toArray, List.set_cons_zero, List.set_cons_succ])
  go_cut [22] (fun v22 wc => ∃ (kq : Nat) (x22_3 : Bool), v22 = .bool x22_3 ∧ Aside0 (rowlockref03_Do.j0 kq a0 x22_3 a1_0 a1_1 a1_2 a2_0 a2_1 a2_2 0 0 (⟨#[]⟩ : ByteArray) = some (r1, r2, r3, r4)) ∧ Aside0 (kq ≤ k) ∧ Aside0 (wc.heap[gb277]? = some (.cells #[.int .u8 a1_0, .int .i64 a1_1, .string a1_2] 43 (0, 0))) ∧ Aside0 (wc.heap[gb278]? = some (.cells #[.int .u8 a2_0, .int .i64 a2_1, .string a2_2] 43 (0, 0))) ∧ Aside0 (wc.heap[gb279]? = some (.cells #[.int .u8 0, .int .i64 0, .string (⟨#[]⟩ : ByteArray)] 43 (0, 0))) ∧ Aside0 (wc.heap[gb280]? = some (.cells #[.int .u8 0, .int .i64 0, .string (⟨#[]⟩ : ByteArray)] 43 (0, 0))) ∧ Aside0 (Below w.heap.size w wc))
  case first =>
    have H := HC4.out
    clear HC4
    by_cases c13 : a1_0 > 1
    · rw [if_pos c13] at H
      have c13b0 : decide (1 < a1_0) = true := decide_eq_true c13
      clear c13
      (first | rw [c13b0] | (simp only [i64_w, i32_w]; rw [c13b0]) | skip)
      have H' := Aside0.mk H
      clear H
      have hnb14 := NB277_278.out
      have hnc14 := NB278_277.out
      have hnb15 := NB277_279.out
      have hnc15 := NB279_277.out
      have hnb16 := NB277_280.out
      have hnc16 := NB280_277.out
      have hcz17_0 : w8.cell? ⟨gb277, 0, none⟩ = some (.int .u8 a1_0) := (blk_cell BK277.out 0).trans rfl
      have hcz17_1 : w8.cell? ⟨gb277, 1, none⟩ = some (.int .i64 a1_1) := (blk_cell BK277.out 1).trans rfl
      have hcz17_2 : w8.cell? ⟨gb277, 2, none⟩ = some (.string a1_2) := (blk_cell BK277.out 2).trans rfl
      have hfz17_0 := blk_frozen BK277.out 0
      have hfz17_1 := blk_frozen BK277.out 1
      have hfz17_2 := blk_frozen BK277.out 2
      go_wp2
      go_meet
      case rel => exact ⟨_, (true), (by first | rfl | (simp; done) | (simp [*]; done)), H', ⟨by first | omega | exact Nat.le_refl _⟩, ⟨by (with_reducible repeat (first | refine blk_drewN ?_ _ | refine blk_drew ?_ | refine blk_alloc ?_ _)); refine blk_far ?_ NB277_280.out _; (with_reducible repeat (first | refine blk_drewN ?_ _ | refine blk_drew ?_ | refine blk_alloc ?_ _)); refine blk_far ?_ NB277_280.out _; (with_reducible repeat (first | refine blk_drewN ?_ _ | refine blk_drew ?_ | refine blk_alloc ?_ _)); refine blk_far ?_ NB277_280.out _; (with_reducible repeat (first | refine blk_drewN ?_ _ | refine blk_drew ?_ | refine blk_alloc ?_ _)); exact BK277.out⟩, ⟨by (with_reducible repeat (first | refine blk_drewN ?_ _ | refine blk_drew ?_ | refine blk_alloc ?_ _)); refine blk_far ?_ NB278_280.out _; (with_reducible repeat (first | refine blk_drewN ?_ _ | refine blk_drew ?_ | refine blk_alloc ?_ _)); refine blk_far ?_ NB278_280.out _; (with_reducible repeat (first | refine blk_drewN ?_ _ | refine blk_drew ?_ | refine blk_alloc ?_ _)); refine blk_far ?_ NB278_280.out _; (with_reducible repeat (first | refine blk_drewN ?_ _ | refine blk_drew ?_ | refine blk_alloc ?_ _)); exact BK278.out⟩, ⟨by (with_reducible repeat (first | refine blk_drewN ?_ _ | refine blk_drew ?_ | refine blk_alloc ?_ _)); refine blk_far ?_ NB279_280.out _; (with_reducible repeat (first | refine blk_drewN ?_ _ | refine blk_drew ?_ | refine blk_alloc ?_ _)); refine blk_far ?_ NB279_280.out _; (with_reducible repeat (first | refine blk_drewN ?_ _ | refine blk_drew ?_ | refine blk_alloc ?_ _)); refine blk_far ?_ NB279_280.out _; (with_reducible repeat (first | refine blk_drewN ?_ _ | refine blk_drew ?_ | refine blk_alloc ?_ _)); exact BK279.out⟩, ⟨by (with_reducible repeat (first | refine blk_drewN ?_ _ | refine blk_drew ?_ | refine blk_alloc ?_ _)); refine blk_put (cs := #[.int .u8 0, .int .i64 0, .string (⟨#[]⟩ : ByteArray)]) ?_ 2 _ rfl; (with_reducible repeat (first | refine blk_drewN ?_ _ | refine blk_drew ?_ | refine blk_alloc ?_ _)); refine blk_put (cs := #[.int .u8 0, .int .i64 0, .string (⟨#[]⟩ : ByteArray)]) ?_ 1 _ rfl; (with_reducible repeat (first | refine blk_drewN ?_ _ | refine blk_drew ?_ | refine blk_alloc ?_ _)); refine blk_put (cs := #[.int .u8 0, .int .i64 0, .string (⟨#[]⟩ : ByteArray)]) ?_ 0 _ rfl; (with_reducible repeat (first | refine blk_drewN ?_ _ | refine blk_drew ?_ | refine blk_alloc ?_ _)); exact BK280.out⟩, ⟨bl⟩⟩
    · rw [if_neg c13] at H
      have c13b0 : decide (1 < a1_0) = false := decide_eq_false c13
      clear c13
      (first | rw [c13b0] | (simp only [i64_w, i32_w]; rw [c13b0]) | skip)
      have H' := Aside0.mk H
      clear H
      have hnb18 := NB277_278.out
      have hnc18 := NB278_277.out
      have hnb19 := NB277_279.out
      have hnc19 := NB279_277.out
      have hnb20 := NB277_280.out
      have hnc20 := NB280_277.out
      have hcz21_0 : w8.cell? ⟨gb277, 0, none⟩ = some (.int .u8 a1_0) := (blk_cell BK277.out 0).trans rfl
      have hcz21_1 : w8.cell? ⟨gb277, 1, none⟩ = some (.int .i64 a1_1) := (blk_cell BK277.out 1).trans rfl
      have hcz21_2 : w8.cell? ⟨gb277, 2, none⟩ = some (.string a1_2) := (blk_cell BK277.out 2).trans rfl
      have hfz21_0 := blk_frozen BK277.out 0
      have hfz21_1 := blk_frozen BK277.out 1
      have hfz21_2 := blk_frozen BK277.out 2
      have hnb22 := NB278_279.out
      have hnc22 := NB279_278.out
      have hnb23 := NB278_280.out
      have hnc23 := NB280_278.out
      have hcz24_0 : w8.cell? ⟨gb278, 0, none⟩ = some (.int .u8 a2_0) := (blk_cell BK278.out 0).trans rfl
      have hcz24_1 : w8.cell? ⟨gb278, 1, none⟩ = some (.int .i64 a2_1) := (blk_cell BK278.out 1).trans rfl
      have hcz24_2 : w8.cell? ⟨gb278, 2, none⟩ = some (.string a2_2) := (blk_cell BK278.out 2).trans rfl
      have hfz24_0 := blk_frozen BK278.out 0
      have hfz24_1 := blk_frozen BK278.out 1
      have hfz24_2 := blk_frozen BK278.out 2
      go_wp2
      go_meet
      case rel => exact ⟨_, (decide (a2_0 > 1)), (by first | rfl | (simp; done) | (simp [*]; done)), H', ⟨by first | omega | exact Nat.le_refl _⟩, ⟨by (with_reducible repeat (first | refine blk_drewN ?_ _ | refine blk_drew ?_ | refine blk_alloc ?_ _)); refine blk_far ?_ NB277_280.out _; (with_reducible repeat (first | refine blk_drewN ?_ _ | refine blk_drew ?_ | refine blk_alloc ?_ _)); refine blk_far ?_ NB277_280.out _; (with_reducible repeat (first | refine blk_drewN ?_ _ | refine blk_drew ?_ | refine blk_alloc ?_ _)); refine blk_far ?_ NB277_280.out _; (with_reducible repeat (first | refine blk_drewN ?_ _ | refine blk_drew ?_ | refine blk_alloc ?_ _)); exact BK277.out⟩, ⟨by (with_reducible repeat (first | refine blk_drewN ?_ _ | refine blk_drew ?_ | refine blk_alloc ?_ _)); refine blk_far ?_ NB278_280.out _; (with_reducible repeat (first | refine blk_drewN ?_ _ | refine blk_drew ?_ | refine blk_alloc ?_ _)); refine blk_far ?_ NB278_280.out _; (with_reducible repeat (first | refine blk_drewN ?_ _ | refine blk_drew ?_ | refine blk_alloc ?_ _)); refine blk_far ?_ NB278_280.out _; (with_reducible repeat (first | refine blk_drewN ?_ _ | refine blk_drew ?_ | refine blk_alloc ?_ _)); exact BK278.out⟩, ⟨by (with_reducible repeat (first | refine blk_drewN ?_ _ | refine blk_drew ?_ | refine blk_alloc ?_ _)); refine blk_far ?_ NB279_280.out _; (with_reducible repeat (first | refine blk_drewN ?_ _ | refine blk_drew ?_ | refine blk_alloc ?_ _)); refine blk_far ?_ NB279_280.out _; (with_reducible repeat (first | refine blk_drewN ?_ _ | refine blk_drew ?_ | refine blk_alloc ?_ _)); refine blk_far ?_ NB279_280.out _; (with_reducible repeat (first | refine blk_drewN ?_ _ | refine blk_drew ?_ | refine blk_alloc ?_ _)); exact BK279.out⟩, ⟨by (with_reducible repeat (first | refine blk_drewN ?_ _ | refine blk_drew ?_ | refine blk_alloc ?_ _)); refine blk_put (cs := #[.int .u8 0, .int .i64 0, .string (⟨#[]⟩ : ByteArray)]) ?_ 2 _ rfl; (with_reducible repeat (first | refine blk_drewN ?_ _ | refine blk_drew ?_ | refine blk_alloc ?_ _)); refine blk_put (cs := #[.int .u8 0, .int .i64 0, .string (⟨#[]⟩ : ByteArray)]) ?_ 1 _ rfl; (with_reducible repeat (first | refine blk_drewN ?_ _ | refine blk_drew ?_ | refine blk_alloc ?_ _)); refine blk_put (cs := #[.int .u8 0, .int .i64 0, .string (⟨#[]⟩ : ByteArray)]) ?_ 0 _ rfl; (with_reducible repeat (first | refine blk_drewN ?_ _ | refine blk_drew ?_ | refine blk_alloc ?_ _)); exact BK280.out⟩, ⟨bl⟩⟩
  case rest =>
    clear HC4
    try clear c1
    try clear c2
    try clear p2
    try clear c9
    try clear c10
    try clear c11
    try clear c13
    try clear c13b0
    try clear c14
    try clear c15
    try clear c16
    try clear c18
    try clear c19
    try clear c20
    try clear c22
    try clear c23
    try clear c24
    try clear hcz12_0
    try clear hcz12_1
    try clear hcz12_2
    try clear hcz17_0
    try clear hcz17_1
    try clear hcz17_2
    try clear hcz21_0
    try clear hcz21_1
    try clear hcz21_2
    try clear hcz24_0
    try clear hcz24_1
    try clear hcz24_2
    try clear hfz12_0
    try clear hfz12_1
    try clear hfz12_2
    try clear hfz17_0
    try clear hfz17_1
    try clear hfz17_2
    try clear hfz21_0
    try clear hfz21_1
    try clear hfz21_2
    try clear hfz24_0
    try clear hfz24_1
    try clear hfz24_2
    obtain ⟨kq, x22_3, rfl, HA, HJ3, BK277, BK278, BK279, BK280, HB⟩ := hcut
    cases kq with
    | zero => exact absurd HA.out (by simp [rowlockref03_Do.j0])
    | succ kj3 =>
      have H := HA.out
      clear HA
      simp only [rowlockref03_Do.j0] at H
      by_cases c25 : x22_3 = true
      · subst c25
        have H1 : (some (0, 0, (⟨#[]⟩ : ByteArray), false)) = some (r1, r2, r3, r4) := by rw [if_pos rfl] at H; exact H
        clear H
        have H := H1
        clear H1
        simp only [Option.some.injEq, Prod.mk.injEq] at H
        obtain ⟨rfl, rfl, rfl, rfl⟩ := H
        have hnb26 := NB280_277.out
        have hnc26 := NB277_280.out
        have hnb27 := NB280_278.out
        have hnc27 := NB278_280.out
        have hnb28 := NB280_279.out
        have hnc28 := NB279_280.out
        have hcz29_0 : wc.cell? ⟨gb280, 0, none⟩ = some (.int .u8 0) := (blk_cell BK280.out 0).trans rfl
        have hcz29_1 : wc.cell? ⟨gb280, 1, none⟩ = some (.int .i64 0) := (blk_cell BK280.out 1).trans rfl
        have hcz29_2 : wc.cell? ⟨gb280, 2, none⟩ = some (.string (⟨#[]⟩ : ByteArray)) := (blk_cell BK280.out 2).trans rfl
        have hfz29_0 := blk_frozen BK280.out 0
        have hfz29_1 := blk_frozen BK280.out 1
        have hfz29_2 := blk_frozen BK280.out 2
        have hnb30 := NB279_277.out
        have hnc30 := NB277_279.out
        have hnb31 := NB279_278.out
        have hnc31 := NB278_279.out
        have hcz32_0 : wc.cell? ⟨gb279, 0, none⟩ = some (.int .u8 0) := (blk_cell BK279.out 0).trans rfl
        have hcz32_1 : wc.cell? ⟨gb279, 1, none⟩ = some (.int .i64 0) := (blk_cell BK279.out 1).trans rfl
        have hcz32_2 : wc.cell? ⟨gb279, 2, none⟩ = some (.string (⟨#[]⟩ : ByteArray)) := (blk_cell BK279.out 2).trans rfl
        have hfz32_0 := blk_frozen BK279.out 0
        have hfz32_1 := blk_frozen BK279.out 1
        have hfz32_2 := blk_frozen BK279.out 2
        go_wp2
        refine bodyPost_ret (results_ct rfl _ _ gb279 43 #[.int .u8 0, .int .i64 0, .string (⟨#[]⟩ : ByteArray)] (0, 0) _ rfl (by (with_reducible repeat (first | refine blk_drewN ?_ _ | refine blk_drew ?_ | refine blk_alloc ?_ _)); refine blk_put (cs := #[.int .u8 0, .int .i64 0, .string (⟨#[]⟩ : ByteArray)]) ?_ 2 _ rfl; (with_reducible repeat (first | refine blk_drewN ?_ _ | refine blk_drew ?_ | refine blk_alloc ?_ _)); refine blk_put (cs := #[.int .u8 0, .int .i64 0, .string (⟨#[]⟩ : ByteArray)]) ?_ 1 _ rfl; (with_reducible repeat (first | refine blk_drewN ?_ _ | refine blk_drew ?_ | refine blk_alloc ?_ _)); refine blk_put (cs := #[.int .u8 0, .int .i64 0, .string (⟨#[]⟩ : ByteArray)]) ?_ 0 _ rfl; (with_reducible repeat (first | refine blk_drewN ?_ _ | refine blk_drew ?_ | refine blk_alloc ?_ _)); exact BK279.out) Try.underlying43 rfl (by kernel_rfl)) rfl ?_
        exact ⟨by first | rfl | (simp [errW_none, errW_some] <;> rfl) | (simp [*, errW_none, errW_some] <;> rfl), bl⟩
      · replace c25 := Bool.eq_false_iff.mpr c25
        subst c25
        have H1 : ((rowlockref03_Of.f kj3 a1_1).bind fun bt281 => ((rowlockref03_Of.f kj3 a2_1).bind fun bt286 => (if a0.toList = ([43] : List UInt8) then ((rowlockref03_Plus.f kj3 bt281.1 bt281.2 bt286.1 bt286.2).bind fun bt292 => (rowlockref03_Do.j1 kj3 a1_0 a1_1 a1_2 a2_0 a2_1 a2_2 0 0 (⟨#[]⟩ : ByteArray) bt292.1 bt292.2)) else (if a0.toList = ([45] : List UInt8) then ((rowlockref03_Turn.f bt286.1 bt286.2).bind fun bt296 => ((rowlockref03_Plus.f kj3 bt281.1 bt281.2 bt296.1 bt296.2).bind fun bt300 => (rowlockref03_Do.j1 kj3 a1_0 a1_1 a1_2 a2_0 a2_1 a2_2 0 0 (⟨#[]⟩ : ByteArray) bt300.1 bt300.2))) else (if a0.toList = ([42] : List UInt8) then ((rowlockref03_Times.f kj3 bt281.1 bt281.2 bt286.1 bt286.2).bind fun bt304 => (rowlockref03_Do.j1 kj3 a1_0 a1_1 a1_2 a2_0 a2_1 a2_2 0 0 (⟨#[]⟩ : ByteArray) bt304.1 bt304.2)) else (some (0, 0, (⟨#[]⟩ : ByteArray), false))))))) = some (r1, r2, r3, r4) := by rw [if_neg (show ¬ (false = true) by decide)] at H; exact H
        clear H
        have H := H1
        clear H1
        replace H := Option.bind_eq_some_iff.mp H
        obtain ⟨⟨t281, t282⟩, A330, H⟩ := H
        replace H : ((rowlockref03_Of.f kj3 a2_1).bind fun bt286 => (if a0.toList = ([43] : List UInt8) then ((rowlockref03_Plus.f kj3 t281 t282 bt286.1 bt286.2).bind fun bt292 => (rowlockref03_Do.j1 kj3 a1_0 a1_1 a1_2 a2_0 a2_1 a2_2 0 0 (⟨#[]⟩ : ByteArray) bt292.1 bt292.2)) else (if a0.toList = ([45] : List UInt8) then ((rowlockref03_Turn.f bt286.1 bt286.2).bind fun bt296 => ((rowlockref03_Plus.f kj3 t281 t282 bt296.1 bt296.2).bind fun bt300 => (rowlockref03_Do.j1 kj3 a1_0 a1_1 a1_2 a2_0 a2_1 a2_2 0 0 (⟨#[]⟩ : ByteArray) bt300.1 bt300.2))) else (if a0.toList = ([42] : List UInt8) then ((rowlockref03_Times.f kj3 t281 t282 bt286.1 bt286.2).bind fun bt304 => (rowlockref03_Do.j1 kj3 a1_0 a1_1 a1_2 a2_0 a2_1 a2_2 0 0 (⟨#[]⟩ : ByteArray) bt304.1 bt304.2)) else (some (0, 0, (⟨#[]⟩ : ByteArray), false)))))) = some (r1, r2, r3, r4) := H
        have A33 := Aside0.mk A330
        clear A330
        replace H := Option.bind_eq_some_iff.mp H
        obtain ⟨⟨t286, t287⟩, A340, H⟩ := H
        replace H : (if a0.toList = ([43] : List UInt8) then ((rowlockref03_Plus.f kj3 t281 t282 t286 t287).bind fun bt292 => (rowlockref03_Do.j1 kj3 a1_0 a1_1 a1_2 a2_0 a2_1 a2_2 0 0 (⟨#[]⟩ : ByteArray) bt292.1 bt292.2)) else (if a0.toList = ([45] : List UInt8) then ((rowlockref03_Turn.f t286 t287).bind fun bt296 => ((rowlockref03_Plus.f kj3 t281 t282 bt296.1 bt296.2).bind fun bt300 => (rowlockref03_Do.j1 kj3 a1_0 a1_1 a1_2 a2_0 a2_1 a2_2 0 0 (⟨#[]⟩ : ByteArray) bt300.1 bt300.2))) else (if a0.toList = ([42] : List UInt8) then ((rowlockref03_Times.f kj3 t281 t282 t286 t287).bind fun bt304 => (rowlockref03_Do.j1 kj3 a1_0 a1_1 a1_2 a2_0 a2_1 a2_2 0 0 (⟨#[]⟩ : ByteArray) bt304.1 bt304.2)) else (some (0, 0, (⟨#[]⟩ : ByteArray), false))))) = some (r1, r2, r3, r4) := H
        have A34 := Aside0.mk A340
        clear A340
        have HC35 := Aside0.mk H
        clear H
        have hnb36 := NB277_278.out
        have hnc36 := NB278_277.out
        have hnb37 := NB277_279.out
        have hnc37 := NB279_277.out
        have hnb38 := NB277_280.out
        have hnc38 := NB280_277.out
        have hcz39_0 : wc.cell? ⟨gb277, 0, none⟩ = some (.int .u8 a1_0) := (blk_cell BK277.out 0).trans rfl
        have hcz39_1 : wc.cell? ⟨gb277, 1, none⟩ = some (.int .i64 a1_1) := (blk_cell BK277.out 1).trans rfl
        have hcz39_2 : wc.cell? ⟨gb277, 2, none⟩ = some (.string a1_2) := (blk_cell BK277.out 2).trans rfl
        have hfz39_0 := blk_frozen BK277.out 0
        have hfz39_1 := blk_frozen BK277.out 1
        have hfz39_2 := blk_frozen BK277.out 2
        go_upto_block 0 with (first | ((with_reducible refine gate_callee (f := 16) rfl ?_); refine goesL_ (some 26) rfl rfl Try.func16 (by kernel_rfl) rfl #[.int .i64 a1_1] rfl am ?_; (with_reducible refine (rowlockref03_Of.calls kj3 a1_1 t281 t282 _ A33.out).mono ?_); rintro e w40 ⟨v283, rfl, ho0, hb⟩; refine ⟨_, rfl, ?_⟩; have n0_ := Aside0.mk (Kd.R_lower ho0 (below_size bl)); have n1_ := Aside0.mk (bb (g := gb277) hb); have n2_ := Aside0.mk (bb (g := gb278) hb); have n3_ := Aside0.mk (bb (g := gb279) hb); have n4_ := Aside0.mk (bb (g := gb280) hb); have n5_ := Aside0.mk (below_step bl hb); clear BK277; clear BK278; clear BK279; clear BK280; clear HB; have HO284 := n0_; have BK277 := n1_; have BK278 := n2_; have BK279 := n3_; have BK280 := n4_; have HB := n5_; clear n0_ n1_ n2_ n3_ n4_ n5_; (try clear hb); (try clear hb2); (try clear hk); (try clear hi); (try clear ho0)) | ((with_reducible refine gate_dst (N := 9) rfl ?_); refine box_event ?hg (N := 9) ?hd (cs := #[.int .i64 0, .slice none 0 0]) (t := 31) ?hr ?_; (case hd => rfl); (case hg => rfl); (case hr => first | (go_simp; done) | (go_simp; rfl)); intro gb285 hg w41 hbox hb; have n0_ := Aside0.mk (Kd.R_below (rk HO284) hb); have n1_ := Aside0.mk (bb (g := gb277) hb); have n2_ := Aside0.mk (bb (g := gb278) hb); have n3_ := Aside0.mk (bb (g := gb279) hb); have n4_ := Aside0.mk (bb (g := gb280) hb); have n5_ := Aside0.mk (below_step bl hb); have n6_ := Aside0.mk (hbox); have n7_ := Aside0.mk ((sz hg : w.heap.size ≤ gb285)); have n8_ := Aside0.mk ((sz hg : w.heap.size ≤ gb285)); have n9_ := Aside0.mk ((nl hg : gb277 ≠ gb285)); have n10_ := Aside0.mk ((ng hg : gb285 ≠ gb277)); have n11_ := Aside0.mk ((nl hg : gb278 ≠ gb285)); have n12_ := Aside0.mk ((ng hg : gb285 ≠ gb278)); have n13_ := Aside0.mk ((nl hg : gb279 ≠ gb285)); have n14_ := Aside0.mk ((ng hg : gb285 ≠ gb279)); have n15_ := Aside0.mk ((nl hg : gb280 ≠ gb285)); have n16_ := Aside0.mk ((ng hg : gb285 ≠ gb280)); clear HO284; clear BK277; clear BK278; clear BK279; clear BK280; clear HB; have HO284 := n0_; have BK277 := n1_; have BK278 := n2_; have BK279 := n3_; have BK280 := n4_; have HB := n5_; have BK285 := n6_; have GW285 := n7_; have GE285 := n8_; have NB277_285 := n9_; have NB285_277 := n10_; have NB278_285 := n11_; have NB285_278 := n12_; have NB279_285 := n13_; have NB285_279 := n14_; have NB280_285 := n15_; have NB285_280 := n16_; clear n0_ n1_ n2_ n3_ n4_ n5_ n6_ n7_ n8_ n9_ n10_ n11_ n12_ n13_ n14_ n15_ n16_; clear hb hbox hg; have hnb42 := NB285_277.out; have hnc42 := NB277_285.out; have hnb43 := NB285_278.out; have hnc43 := NB278_285.out; have hnb44 := NB285_279.out; have hnc44 := NB279_285.out; have hnb45 := NB285_280.out; have hnc45 := NB280_285.out; have hcz46_0 : w41.cell? ⟨gb285, 0, none⟩ = some (.int .i64 0) := (blk_cell BK285.out 0).trans rfl; have hcz46_1 : w41.cell? ⟨gb285, 1, none⟩ = some (.slice none 0 0) := (blk_cell BK285.out 1).trans rfl; have hfz46_0 := blk_frozen BK285.out 0; have hfz46_1 := blk_frozen BK285.out 1; obtain ⟨Ao47, co47, eo47⟩ := Kd.R_slice HO284.out; subst eo47; have hnb48 := NB278_279.out; have hnc48 := NB279_278.out; have hnb49 := NB278_280.out; have hnc49 := NB280_278.out; have hcz50_0 : w41.cell? ⟨gb278, 0, none⟩ = some (.int .u8 a2_0) := (blk_cell BK278.out 0).trans rfl; have hcz50_1 : w41.cell? ⟨gb278, 1, none⟩ = some (.int .i64 a2_1) := (blk_cell BK278.out 1).trans rfl; have hcz50_2 : w41.cell? ⟨gb278, 2, none⟩ = some (.string a2_2) := (blk_cell BK278.out 2).trans rfl; have hfz50_0 := blk_frozen BK278.out 0; have hfz50_1 := blk_frozen BK278.out 1; have hfz50_2 := blk_frozen BK278.out 2) | ((with_reducible refine gate_callee (f := 16) rfl ?_); refine goesL_ (some 29) rfl rfl Try.func16 (by kernel_rfl) rfl #[.int .i64 a2_1] rfl am ?_; (with_reducible refine (rowlockref03_Of.calls kj3 a2_1 t286 t287 _ A34.out).mono ?_); rintro e w51 ⟨v288, rfl, ho0, hb⟩; refine ⟨_, rfl, ?_⟩; have n0_ := Aside0.mk (Kd.R_elder' (by (with_reducible repeat (first | apply Kd.R_alloc | apply Kd.R_drewN | apply Kd.R_drew)); exact (Kd.R_mono (Kd.R_far (p := ⟨gb285, 1, none⟩) (Kd.R_far (p := ⟨gb285, 0, none⟩) (Kd.R_types HO284.out BK285.out (by decide)) (fun _ hk => hk.2) (.int .i64 t281)) (fun _ hk => hk.2) (.slice Ao47 t282.length co47)) (fun _ h_ => h_.1))) (Kd.R_base ho0) hb); have n1_ := Aside0.mk (Kd.R_lower (Kd.R_new' ho0 (Kd.R_lt (by (with_reducible repeat (first | apply Kd.R_alloc | apply Kd.R_drewN | apply Kd.R_drew)); exact (Kd.R_mono (Kd.R_far (p := ⟨gb285, 1, none⟩) (Kd.R_far (p := ⟨gb285, 0, none⟩) (Kd.R_types HO284.out BK285.out (by decide)) (fun _ hk => hk.2) (.int .i64 t281)) (fun _ hk => hk.2) (.slice Ao47 t282.length co47)) (fun _ h_ => h_.1))))) (below_size bl)); have n2_ := Aside0.mk (blk_below (g := gb277) (o := .cells #[.int .u8 a1_0, .int .i64 a1_1, .string a1_2] 43 (0, 0)) (by (with_reducible repeat (first | refine blk_drewN ?_ _ | refine blk_drew ?_ | refine blk_alloc ?_ _)); refine blk_far ?_ NB277_285.out _; (with_reducible repeat (first | refine blk_drewN ?_ _ | refine blk_drew ?_ | refine blk_alloc ?_ _)); refine blk_far ?_ NB277_285.out _; (with_reducible repeat (first | refine blk_drewN ?_ _ | refine blk_drew ?_ | refine blk_alloc ?_ _)); exact BK277.out) hb); have n3_ := Aside0.mk (blk_below (g := gb278) (o := .cells #[.int .u8 a2_0, .int .i64 a2_1, .string a2_2] 43 (0, 0)) (by (with_reducible repeat (first | refine blk_drewN ?_ _ | refine blk_drew ?_ | refine blk_alloc ?_ _)); refine blk_far ?_ NB278_285.out _; (with_reducible repeat (first | refine blk_drewN ?_ _ | refine blk_drew ?_ | refine blk_alloc ?_ _)); refine blk_far ?_ NB278_285.out _; (with_reducible repeat (first | refine blk_drewN ?_ _ | refine blk_drew ?_ | refine blk_alloc ?_ _)); exact BK278.out) hb); have n4_ := Aside0.mk (blk_below (g := gb279) (o := .cells #[.int .u8 0, .int .i64 0, .string (⟨#[]⟩ : ByteArray)] 43 (0, 0)) (by (with_reducible repeat (first | refine blk_drewN ?_ _ | refine blk_drew ?_ | refine blk_alloc ?_ _)); refine blk_far ?_ NB279_285.out _; (with_reducible repeat (first | refine blk_drewN ?_ _ | refine blk_drew ?_ | refine blk_alloc ?_ _)); refine blk_far ?_ NB279_285.out _; (with_reducible repeat (first | refine blk_drewN ?_ _ | refine blk_drew ?_ | refine blk_alloc ?_ _)); exact BK279.out) hb); have n5_ := Aside0.mk (blk_below (g := gb280) (o := .cells #[.int .u8 0, .int .i64 0, .string (⟨#[]⟩ : ByteArray)] 43 (0, 0)) (by (with_reducible repeat (first | refine blk_drewN ?_ _ | refine blk_drew ?_ | refine blk_alloc ?_ _)); refine blk_far ?_ NB280_285.out _; (with_reducible repeat (first | refine blk_drewN ?_ _ | refine blk_drew ?_ | refine blk_alloc ?_ _)); refine blk_far ?_ NB280_285.out _; (with_reducible repeat (first | refine blk_drewN ?_ _ | refine blk_drew ?_ | refine blk_alloc ?_ _)); exact BK280.out) hb); have n6_ := Aside0.mk (blk_below (g := gb285) (o := .cells #[.int .i64 t281, .slice Ao47 t282.length co47] 31 (0, 0)) (by (with_reducible repeat (first | refine blk_drewN ?_ _ | refine blk_drew ?_ | refine blk_alloc ?_ _)); refine blk_put (cs := #[.int .i64 t281, .slice none 0 0]) ?_ 1 _ rfl; (with_reducible repeat (first | refine blk_drewN ?_ _ | refine blk_drew ?_ | refine blk_alloc ?_ _)); refine blk_put (cs := #[.int .i64 0, .slice none 0 0]) ?_ 0 _ rfl; (with_reducible repeat (first | refine blk_drewN ?_ _ | refine blk_drew ?_ | refine blk_alloc ?_ _)); exact BK285.out) hb); have n7_ := Aside0.mk (below_step bl hb); clear HO284; clear BK277; clear BK278; clear BK279; clear BK280; clear BK285; clear HB; have HO284 := n0_; have HO289 := n1_; have BK277 := n2_; have BK278 := n3_; have BK279 := n4_; have BK280 := n5_; have BK285 := n6_; have HB := n7_; clear n0_ n1_ n2_ n3_ n4_ n5_ n6_ n7_; (try clear hb); (try clear hb2); (try clear hk); (try clear hi); (try clear ho0)) | ((with_reducible refine gate_dst (N := 10) rfl ?_); refine box_event ?hg (N := 10) ?hd (cs := #[.int .i64 0, .slice none 0 0]) (t := 31) ?hr ?_; (case hd => rfl); (case hg => rfl); (case hr => first | (go_simp; done) | (go_simp; rfl)); intro gb290 hg w52 hbox hb; have n0_ := Aside0.mk (Kd.R_below (rk HO284) hb); have n1_ := Aside0.mk (Kd.R_below (rk HO289) hb); have n2_ := Aside0.mk (bb (g := gb277) hb); have n3_ := Aside0.mk (bb (g := gb278) hb); have n4_ := Aside0.mk (bb (g := gb279) hb); have n5_ := Aside0.mk (bb (g := gb280) hb); have n6_ := Aside0.mk (bb (g := gb285) hb); have n7_ := Aside0.mk (below_step bl hb); have n8_ := Aside0.mk (hbox); have n9_ := Aside0.mk ((sz hg : w.heap.size ≤ gb290)); have n10_ := Aside0.mk ((sz hg : w.heap.size ≤ gb290)); have n11_ := Aside0.mk ((nl hg : gb277 ≠ gb290)); have n12_ := Aside0.mk ((ng hg : gb290 ≠ gb277)); have n13_ := Aside0.mk ((nl hg : gb278 ≠ gb290)); have n14_ := Aside0.mk ((ng hg : gb290 ≠ gb278)); have n15_ := Aside0.mk ((nl hg : gb279 ≠ gb290)); have n16_ := Aside0.mk ((ng hg : gb290 ≠ gb279)); have n17_ := Aside0.mk ((nl hg : gb280 ≠ gb290)); have n18_ := Aside0.mk ((ng hg : gb290 ≠ gb280)); have n19_ := Aside0.mk ((nl hg : gb285 ≠ gb290)); have n20_ := Aside0.mk ((ng hg : gb290 ≠ gb285)); clear HO284; clear HO289; clear BK277; clear BK278; clear BK279; clear BK280; clear BK285; clear HB; have HO284 := n0_; have HO289 := n1_; have BK277 := n2_; have BK278 := n3_; have BK279 := n4_; have BK280 := n5_; have BK285 := n6_; have HB := n7_; have BK290 := n8_; have GW290 := n9_; have GE290 := n10_; have NB277_290 := n11_; have NB290_277 := n12_; have NB278_290 := n13_; have NB290_278 := n14_; have NB279_290 := n15_; have NB290_279 := n16_; have NB280_290 := n17_; have NB290_280 := n18_; have NB285_290 := n19_; have NB290_285 := n20_; clear n0_ n1_ n2_ n3_ n4_ n5_ n6_ n7_ n8_ n9_ n10_ n11_ n12_ n13_ n14_ n15_ n16_ n17_ n18_ n19_ n20_; clear hb hbox hg; have hnb53 := NB290_277.out; have hnc53 := NB277_290.out; have hnb54 := NB290_278.out; have hnc54 := NB278_290.out; have hnb55 := NB290_279.out; have hnc55 := NB279_290.out; have hnb56 := NB290_280.out; have hnc56 := NB280_290.out; have hnb57 := NB290_285.out; have hnc57 := NB285_290.out; have hcz58_0 : w52.cell? ⟨gb290, 0, none⟩ = some (.int .i64 0) := (blk_cell BK290.out 0).trans rfl; have hcz58_1 : w52.cell? ⟨gb290, 1, none⟩ = some (.slice none 0 0) := (blk_cell BK290.out 1).trans rfl; have hfz58_0 := blk_frozen BK290.out 0; have hfz58_1 := blk_frozen BK290.out 1; obtain ⟨Ao59, co59, eo59⟩ := Kd.R_slice HO289.out; subst eo59) | ((with_reducible refine gate_dst (N := 11) rfl ?_); refine box_event ?hg (N := 11) ?hd (cs := #[.int .i64 0, .slice none 0 0]) (t := 31) ?hr ?_; (case hd => rfl); (case hg => rfl); (case hr => first | (go_simp; done) | (go_simp; rfl)); intro gb291 hg w60 hbox hb; have n0_ := Aside0.mk (Kd.R_below (by (with_reducible repeat (first | apply Kd.R_alloc | apply Kd.R_drewN | apply Kd.R_drew)); exact (Kd.R_mono (Kd.R_far (p := ⟨gb290, 1, none⟩) (Kd.R_far (p := ⟨gb290, 0, none⟩) (Kd.R_types HO284.out BK290.out (by decide)) (fun _ hk => hk.2) (.int .i64 t286)) (fun _ hk => hk.2) (.slice Ao59 t287.length co59)) (fun _ h_ => h_.1))) hb); have n1_ := Aside0.mk (Kd.R_below (by (with_reducible repeat (first | apply Kd.R_alloc | apply Kd.R_drewN | apply Kd.R_drew)); exact (Kd.R_mono (Kd.R_far (p := ⟨gb290, 1, none⟩) (Kd.R_far (p := ⟨gb290, 0, none⟩) (Kd.R_types HO289.out BK290.out (by decide)) (fun _ hk => hk.2) (.int .i64 t286)) (fun _ hk => hk.2) (.slice Ao59 t287.length co59)) (fun _ h_ => h_.1))) hb); have n2_ := Aside0.mk (blk_below (g := gb277) (o := .cells #[.int .u8 a1_0, .int .i64 a1_1, .string a1_2] 43 (0, 0)) (by (with_reducible repeat (first | refine blk_drewN ?_ _ | refine blk_drew ?_ | refine blk_alloc ?_ _)); refine blk_far ?_ NB277_290.out _; (with_reducible repeat (first | refine blk_drewN ?_ _ | refine blk_drew ?_ | refine blk_alloc ?_ _)); refine blk_far ?_ NB277_290.out _; (with_reducible repeat (first | refine blk_drewN ?_ _ | refine blk_drew ?_ | refine blk_alloc ?_ _)); exact BK277.out) hb); have n3_ := Aside0.mk (blk_below (g := gb278) (o := .cells #[.int .u8 a2_0, .int .i64 a2_1, .string a2_2] 43 (0, 0)) (by (with_reducible repeat (first | refine blk_drewN ?_ _ | refine blk_drew ?_ | refine blk_alloc ?_ _)); refine blk_far ?_ NB278_290.out _; (with_reducible repeat (first | refine blk_drewN ?_ _ | refine blk_drew ?_ | refine blk_alloc ?_ _)); refine blk_far ?_ NB278_290.out _; (with_reducible repeat (first | refine blk_drewN ?_ _ | refine blk_drew ?_ | refine blk_alloc ?_ _)); exact BK278.out) hb); have n4_ := Aside0.mk (blk_below (g := gb279) (o := .cells #[.int .u8 0, .int .i64 0, .string (⟨#[]⟩ : ByteArray)] 43 (0, 0)) (by (with_reducible repeat (first | refine blk_drewN ?_ _ | refine blk_drew ?_ | refine blk_alloc ?_ _)); refine blk_far ?_ NB279_290.out _; (with_reducible repeat (first | refine blk_drewN ?_ _ | refine blk_drew ?_ | refine blk_alloc ?_ _)); refine blk_far ?_ NB279_290.out _; (with_reducible repeat (first | refine blk_drewN ?_ _ | refine blk_drew ?_ | refine blk_alloc ?_ _)); exact BK279.out) hb); have n5_ := Aside0.mk (blk_below (g := gb280) (o := .cells #[.int .u8 0, .int .i64 0, .string (⟨#[]⟩ : ByteArray)] 43 (0, 0)) (by (with_reducible repeat (first | refine blk_drewN ?_ _ | refine blk_drew ?_ | refine blk_alloc ?_ _)); refine blk_far ?_ NB280_290.out _; (with_reducible repeat (first | refine blk_drewN ?_ _ | refine blk_drew ?_ | refine blk_alloc ?_ _)); refine blk_far ?_ NB280_290.out _; (with_reducible repeat (first | refine blk_drewN ?_ _ | refine blk_drew ?_ | refine blk_alloc ?_ _)); exact BK280.out) hb); have n6_ := Aside0.mk (blk_below (g := gb285) (o := .cells #[.int .i64 t281, .slice Ao47 t282.length co47] 31 (0, 0)) (by (with_reducible repeat (first | refine blk_drewN ?_ _ | refine blk_drew ?_ | refine blk_alloc ?_ _)); refine blk_far ?_ NB285_290.out _; (with_reducible repeat (first | refine blk_drewN ?_ _ | refine blk_drew ?_ | refine blk_alloc ?_ _)); refine blk_far ?_ NB285_290.out _; (with_reducible repeat (first | refine blk_drewN ?_ _ | refine blk_drew ?_ | refine blk_alloc ?_ _)); exact BK285.out) hb); have n7_ := Aside0.mk (blk_below (g := gb290) (o := .cells #[.int .i64 t286, .slice Ao59 t287.length co59] 31 (0, 0)) (by (with_reducible repeat (first | refine blk_drewN ?_ _ | refine blk_drew ?_ | refine blk_alloc ?_ _)); refine blk_put (cs := #[.int .i64 t286, .slice none 0 0]) ?_ 1 _ rfl; (with_reducible repeat (first | refine blk_drewN ?_ _ | refine blk_drew ?_ | refine blk_alloc ?_ _)); refine blk_put (cs := #[.int .i64 0, .slice none 0 0]) ?_ 0 _ rfl; (with_reducible repeat (first | refine blk_drewN ?_ _ | refine blk_drew ?_ | refine blk_alloc ?_ _)); exact BK290.out) hb); have n8_ := Aside0.mk (below_step bl hb); have n9_ := Aside0.mk (hbox); have n10_ := Aside0.mk ((sz hg : w.heap.size ≤ gb291)); have n11_ := Aside0.mk ((sz hg : w.heap.size ≤ gb291)); have n12_ := Aside0.mk ((by rw [hg]; exact Nat.ne_of_lt (blk_lt (g := gb277) (o := .cells #[.int .u8 a1_0, .int .i64 a1_1, .string a1_2] 43 (0, 0)) (by (with_reducible repeat (first | refine blk_drewN ?_ _ | refine blk_drew ?_ | refine blk_alloc ?_ _)); refine blk_far ?_ NB277_290.out _; (with_reducible repeat (first | refine blk_drewN ?_ _ | refine blk_drew ?_ | refine blk_alloc ?_ _)); refine blk_far ?_ NB277_290.out _; (with_reducible repeat (first | refine blk_drewN ?_ _ | refine blk_drew ?_ | refine blk_alloc ?_ _)); exact BK277.out)) : gb277 ≠ gb291)); have n13_ := Aside0.mk ((by rw [hg]; exact Nat.ne_of_gt (blk_lt (g := gb277) (o := .cells #[.int .u8 a1_0, .int .i64 a1_1, .string a1_2] 43 (0, 0)) (by (with_reducible repeat (first | refine blk_drewN ?_ _ | refine blk_drew ?_ | refine blk_alloc ?_ _)); refine blk_far ?_ NB277_290.out _; (with_reducible repeat (first | refine blk_drewN ?_ _ | refine blk_drew ?_ | refine blk_alloc ?_ _)); refine blk_far ?_ NB277_290.out _; (with_reducible repeat (first | refine blk_drewN ?_ _ | refine blk_drew ?_ | refine blk_alloc ?_ _)); exact BK277.out)) : gb291 ≠ gb277)); have n14_ := Aside0.mk ((by rw [hg]; exact Nat.ne_of_lt (blk_lt (g := gb278) (o := .cells #[.int .u8 a2_0, .int .i64 a2_1, .string a2_2] 43 (0, 0)) (by (with_reducible repeat (first | refine blk_drewN ?_ _ | refine blk_drew ?_ | refine blk_alloc ?_ _)); refine blk_far ?_ NB278_290.out _; (with_reducible repeat (first | refine blk_drewN ?_ _ | refine blk_drew ?_ | refine blk_alloc ?_ _)); refine blk_far ?_ NB278_290.out _; (with_reducible repeat (first | refine blk_drewN ?_ _ | refine blk_drew ?_ | refine blk_alloc ?_ _)); exact BK278.out)) : gb278 ≠ gb291)); have n15_ := Aside0.mk ((by rw [hg]; exact Nat.ne_of_gt (blk_lt (g := gb278) (o := .cells #[.int .u8 a2_0, .int .i64 a2_1, .string a2_2] 43 (0, 0)) (by (with_reducible repeat (first | refine blk_drewN ?_ _ | refine blk_drew ?_ | refine blk_alloc ?_ _)); refine blk_far ?_ NB278_290.out _; (with_reducible repeat (first | refine blk_drewN ?_ _ | refine blk_drew ?_ | refine blk_alloc ?_ _)); refine blk_far ?_ NB278_290.out _; (with_reducible repeat (first | refine blk_drewN ?_ _ | refine blk_drew ?_ | refine blk_alloc ?_ _)); exact BK278.out)) : gb291 ≠ gb278)); have n16_ := Aside0.mk ((by rw [hg]; exact Nat.ne_of_lt (blk_lt (g := gb279) (o := .cells #[.int .u8 0, .int .i64 0, .string (⟨#[]⟩ : ByteArray)] 43 (0, 0)) (by (with_reducible repeat (first | refine blk_drewN ?_ _ | refine blk_drew ?_ | refine blk_alloc ?_ _)); refine blk_far ?_ NB279_290.out _; (with_reducible repeat (first | refine blk_drewN ?_ _ | refine blk_drew ?_ | refine blk_alloc ?_ _)); refine blk_far ?_ NB279_290.out _; (with_reducible repeat (first | refine blk_drewN ?_ _ | refine blk_drew ?_ | refine blk_alloc ?_ _)); exact BK279.out)) : gb279 ≠ gb291)); have n17_ := Aside0.mk ((by rw [hg]; exact Nat.ne_of_gt (blk_lt (g := gb279) (o := .cells #[.int .u8 0, .int .i64 0, .string (⟨#[]⟩ : ByteArray)] 43 (0, 0)) (by (with_reducible repeat (first | refine blk_drewN ?_ _ | refine blk_drew ?_ | refine blk_alloc ?_ _)); refine blk_far ?_ NB279_290.out _; (with_reducible repeat (first | refine blk_drewN ?_ _ | refine blk_drew ?_ | refine blk_alloc ?_ _)); refine blk_far ?_ NB279_290.out _; (with_reducible repeat (first | refine blk_drewN ?_ _ | refine blk_drew ?_ | refine blk_alloc ?_ _)); exact BK279.out)) : gb291 ≠ gb279)); have n18_ := Aside0.mk ((by rw [hg]; exact Nat.ne_of_lt (blk_lt (g := gb280) (o := .cells #[.int .u8 0, .int .i64 0, .string (⟨#[]⟩ : ByteArray)] 43 (0, 0)) (by (with_reducible repeat (first | refine blk_drewN ?_ _ | refine blk_drew ?_ | refine blk_alloc ?_ _)); refine blk_far ?_ NB280_290.out _; (with_reducible repeat (first | refine blk_drewN ?_ _ | refine blk_drew ?_ | refine blk_alloc ?_ _)); refine blk_far ?_ NB280_290.out _; (with_reducible repeat (first | refine blk_drewN ?_ _ | refine blk_drew ?_ | refine blk_alloc ?_ _)); exact BK280.out)) : gb280 ≠ gb291)); have n19_ := Aside0.mk ((by rw [hg]; exact Nat.ne_of_gt (blk_lt (g := gb280) (o := .cells #[.int .u8 0, .int .i64 0, .string (⟨#[]⟩ : ByteArray)] 43 (0, 0)) (by (with_reducible repeat (first | refine blk_drewN ?_ _ | refine blk_drew ?_ | refine blk_alloc ?_ _)); refine blk_far ?_ NB280_290.out _; (with_reducible repeat (first | refine blk_drewN ?_ _ | refine blk_drew ?_ | refine blk_alloc ?_ _)); refine blk_far ?_ NB280_290.out _; (with_reducible repeat (first | refine blk_drewN ?_ _ | refine blk_drew ?_ | refine blk_alloc ?_ _)); exact BK280.out)) : gb291 ≠ gb280)); have n20_ := Aside0.mk ((by rw [hg]; exact Nat.ne_of_lt (blk_lt (g := gb285) (o := .cells #[.int .i64 t281, .slice Ao47 t282.length co47] 31 (0, 0)) (by (with_reducible repeat (first | refine blk_drewN ?_ _ | refine blk_drew ?_ | refine blk_alloc ?_ _)); refine blk_far ?_ NB285_290.out _; (with_reducible repeat (first | refine blk_drewN ?_ _ | refine blk_drew ?_ | refine blk_alloc ?_ _)); refine blk_far ?_ NB285_290.out _; (with_reducible repeat (first | refine blk_drewN ?_ _ | refine blk_drew ?_ | refine blk_alloc ?_ _)); exact BK285.out)) : gb285 ≠ gb291)); have n21_ := Aside0.mk ((by rw [hg]; exact Nat.ne_of_gt (blk_lt (g := gb285) (o := .cells #[.int .i64 t281, .slice Ao47 t282.length co47] 31 (0, 0)) (by (with_reducible repeat (first | refine blk_drewN ?_ _ | refine blk_drew ?_ | refine blk_alloc ?_ _)); refine blk_far ?_ NB285_290.out _; (with_reducible repeat (first | refine blk_drewN ?_ _ | refine blk_drew ?_ | refine blk_alloc ?_ _)); refine blk_far ?_ NB285_290.out _; (with_reducible repeat (first | refine blk_drewN ?_ _ | refine blk_drew ?_ | refine blk_alloc ?_ _)); exact BK285.out)) : gb291 ≠ gb285)); have n22_ := Aside0.mk ((by rw [hg]; exact Nat.ne_of_lt (blk_lt (g := gb290) (o := .cells #[.int .i64 t286, .slice Ao59 t287.length co59] 31 (0, 0)) (by (with_reducible repeat (first | refine blk_drewN ?_ _ | refine blk_drew ?_ | refine blk_alloc ?_ _)); refine blk_put (cs := #[.int .i64 t286, .slice none 0 0]) ?_ 1 _ rfl; (with_reducible repeat (first | refine blk_drewN ?_ _ | refine blk_drew ?_ | refine blk_alloc ?_ _)); refine blk_put (cs := #[.int .i64 0, .slice none 0 0]) ?_ 0 _ rfl; (with_reducible repeat (first | refine blk_drewN ?_ _ | refine blk_drew ?_ | refine blk_alloc ?_ _)); exact BK290.out)) : gb290 ≠ gb291)); have n23_ := Aside0.mk ((by rw [hg]; exact Nat.ne_of_gt (blk_lt (g := gb290) (o := .cells #[.int .i64 t286, .slice Ao59 t287.length co59] 31 (0, 0)) (by (with_reducible repeat (first | refine blk_drewN ?_ _ | refine blk_drew ?_ | refine blk_alloc ?_ _)); refine blk_put (cs := #[.int .i64 t286, .slice none 0 0]) ?_ 1 _ rfl; (with_reducible repeat (first | refine blk_drewN ?_ _ | refine blk_drew ?_ | refine blk_alloc ?_ _)); refine blk_put (cs := #[.int .i64 0, .slice none 0 0]) ?_ 0 _ rfl; (with_reducible repeat (first | refine blk_drewN ?_ _ | refine blk_drew ?_ | refine blk_alloc ?_ _)); exact BK290.out)) : gb291 ≠ gb290)); clear HO284; clear HO289; clear BK277; clear BK278; clear BK279; clear BK280; clear BK285; clear BK290; clear HB; have HO284 := n0_; have HO289 := n1_; have BK277 := n2_; have BK278 := n3_; have BK279 := n4_; have BK280 := n5_; have BK285 := n6_; have BK290 := n7_; have HB := n8_; have BK291 := n9_; have GW291 := n10_; have GE291 := n11_; have NB277_291 := n12_; have NB291_277 := n13_; have NB278_291 := n14_; have NB291_278 := n15_; have NB279_291 := n16_; have NB291_279 := n17_; have NB280_291 := n18_; have NB291_280 := n19_; have NB285_291 := n20_; have NB291_285 := n21_; have NB290_291 := n22_; have NB291_290 := n23_; clear n0_ n1_ n2_ n3_ n4_ n5_ n6_ n7_ n8_ n9_ n10_ n11_ n12_ n13_ n14_ n15_ n16_ n17_ n18_ n19_ n20_ n21_ n22_ n23_; clear hb hbox hg; have hnb61 := NB291_277.out; have hnc61 := NB277_291.out; have hnb62 := NB291_278.out; have hnc62 := NB278_291.out; have hnb63 := NB291_279.out; have hnc63 := NB279_291.out; have hnb64 := NB291_280.out; have hnc64 := NB280_291.out; have hnb65 := NB291_285.out; have hnc65 := NB285_291.out; have hnb66 := NB291_290.out; have hnc66 := NB290_291.out; have hcz67_0 : w60.cell? ⟨gb291, 0, none⟩ = some (.int .i64 0) := (blk_cell BK291.out 0).trans rfl; have hcz67_1 : w60.cell? ⟨gb291, 1, none⟩ = some (.slice none 0 0) := (blk_cell BK291.out 1).trans rfl; have hfz67_0 := blk_frozen BK291.out 0; have hfz67_1 := blk_frozen BK291.out 1))
        (try simp only [Act.put, List.setIfInBounds_toArray, List.set_cons_zero, List.set_cons_succ])
        go_cut [] (fun wc => ∃ (kq : Nat) (x280000_34 : Int) (x280001_34 : Int) (x280002_34 : ByteArray) (x292000_34 : Int) (x292001_34 : List Int) (u292001 : Value), Aside0 (rowlockref03_Do.j1 kq a1_0 a1_1 a1_2 a2_0 a2_1 a2_2 0 0 (⟨#[]⟩ : ByteArray) x292000_34 x292001_34 = some (r1, r2, r3, r4)) ∧ Aside0 (kq ≤ kj3) ∧ Aside0 (Kd.R (Kd.int .u64) 27 wc w.heap.size (fun k_ => some k_ ≠ ((.slice Ao59 t287.length co59) : Value).ownBlock ∧ some k_ ≠ (u292001 : Value).ownBlock) (.slice Ao47 t282.length co47) t282) ∧ Aside0 (Kd.R (Kd.int .u64) 27 wc w.heap.size (fun k_ => some k_ ≠ ((.slice Ao47 t282.length co47) : Value).ownBlock ∧ some k_ ≠ (u292001 : Value).ownBlock) (.slice Ao59 t287.length co59) t287) ∧ Aside0 (Kd.R (Kd.int .u64) 27 wc w.heap.size (fun k_ => some k_ ≠ ((.slice Ao47 t282.length co47) : Value).ownBlock ∧ some k_ ≠ ((.slice Ao59 t287.length co59) : Value).ownBlock) u292001 x292001_34) ∧ Aside0 (wc.heap[gb277]? = some (.cells #[.int .u8 a1_0, .int .i64 a1_1, .string a1_2] 43 (0, 0))) ∧ Aside0 (wc.heap[gb278]? = some (.cells #[.int .u8 a2_0, .int .i64 a2_1, .string a2_2] 43 (0, 0))) ∧ Aside0 (wc.heap[gb279]? = some (.cells #[.int .u8 x280000_34, .int .i64 x280001_34, .string x280002_34] 43 (0, 0))) ∧ Aside0 (wc.heap[gb280]? = some (.cells #[.int .u8 0, .int .i64 0, .string (⟨#[]⟩ : ByteArray)] 43 (0, 0))) ∧ Aside0 (wc.heap[gb285]? = some (.cells #[.int .i64 t281, (.slice Ao47 t282.length co47)] 31 (0, 0))) ∧ Aside0 (wc.heap[gb290]? = some (.cells #[.int .i64 t286, (.slice Ao59 t287.length co59)] 31 (0, 0))) ∧ Aside0 (wc.heap[gb291]? = some (.cells #[.int .i64 x292000_34, u292001] 31 (0, 0))) ∧ Aside0 (Below w.heap.size w wc))
        case first =>
          have H := HC35.out
          clear HC35
          by_cases c68 : a0.toList = ([43] : List UInt8)
          · rw [if_pos c68] at H
            have c68b0 : (a0.toList == ([43] : List UInt8)) = true := beq_iff_eq.mpr c68
            have c68b1 : (a0.toList != ([43] : List UInt8)) = false := bne_eq_false_iff_eq.mpr c68
            clear c68
            (first | rw [c68b0] | (simp only [i64_w, i32_w]; rw [c68b0]) | skip)
            replace H := Option.bind_eq_some_iff.mp H
            obtain ⟨⟨t292, t293⟩, A690, H⟩ := H
            replace H : (rowlockref03_Do.j1 kj3 a1_0 a1_1 a1_2 a2_0 a2_1 a2_2 0 0 (⟨#[]⟩ : ByteArray) t292 t293) = some (r1, r2, r3, r4) := H
            have A69 := Aside0.mk A690
            clear A690
            have H' := Aside0.mk H
            clear H
            have hnb70 := NB285_277.out
            have hnc70 := NB277_285.out
            have hnb71 := NB285_278.out
            have hnc71 := NB278_285.out
            have hnb72 := NB285_279.out
            have hnc72 := NB279_285.out
            have hnb73 := NB285_280.out
            have hnc73 := NB280_285.out
            have hnb74 := NB285_290.out
            have hnc74 := NB290_285.out
            have hnb75 := NB285_291.out
            have hnc75 := NB291_285.out
            have hcz76_0 : w60.cell? ⟨gb285, 0, none⟩ = some (.int .i64 t281) := (blk_cell BK285.out 0).trans rfl
            have hcz76_1 : w60.cell? ⟨gb285, 1, none⟩ = some (.slice Ao47 t282.length co47) := (blk_cell BK285.out 1).trans rfl
            have hfz76_0 := blk_frozen BK285.out 0
            have hfz76_1 := blk_frozen BK285.out 1
            have hnb77 := NB290_277.out
            have hnc77 := NB277_290.out
            have hnb78 := NB290_278.out
            have hnc78 := NB278_290.out
            have hnb79 := NB290_279.out
            have hnc79 := NB279_290.out
            have hnb80 := NB290_280.out
            have hnc80 := NB280_290.out
            have hnb81 := NB290_291.out
            have hnc81 := NB291_290.out
            have hcz82_0 : w60.cell? ⟨gb290, 0, none⟩ = some (.int .i64 t286) := (blk_cell BK290.out 0).trans rfl
            have hcz82_1 : w60.cell? ⟨gb290, 1, none⟩ = some (.slice Ao59 t287.length co59) := (blk_cell BK290.out 1).trans rfl
            have hfz82_0 := blk_frozen BK290.out 0
            have hfz82_1 := blk_frozen BK290.out 1
            go_wp2_with (first | ((with_reducible refine gate_callee (f := 15) rfl ?_); refine goesL_ (some 37) rfl rfl Try.func15 (by kernel_rfl) rfl #[.agg #[.int .i64 t281, .slice Ao47 t282.length co47], .agg #[.int .i64 t286, .slice Ao59 t287.length co59]] rfl am ?_; (with_reducible refine (rowlockref03_Plus.calls kj3 t281 _ _ t282 t286 _ _ t287 t292 t293 _ ?side1 ?side2 ?side3 ?side4 A69.out).mono ?_); (case side1 => refine (Kd.R_reads' (e := 27) (base := w.heap.size) (ok := fun k_ => (True ∧ some k_ ≠ (.slice Ao59 t287.length co59 : Value).ownBlock)) (n := t282.length) (c := co47) ?_).2.2; exact (by (with_reducible repeat (first | apply Kd.R_alloc | apply Kd.R_drewN | apply Kd.R_drew)); exact (Kd.R_mono (Kd.R_far (p := ⟨gb291, 1, none⟩) (Kd.R_far (p := ⟨gb291, 0, none⟩) (Kd.R_types HO284.out BK291.out (by decide)) (fun _ hk => hk.2) (.int .i64 0)) (fun _ hk => hk.2) (.slice none 0 0)) (fun _ h_ => h_.1)))); (case side2 => exact (Kd.R_reads' HO284.out).2.1); (case side3 => refine (Kd.R_reads' (e := 27) (base := w.heap.size) (ok := fun k_ => (True ∧ some k_ ≠ (.slice Ao47 t282.length co47 : Value).ownBlock)) (n := t287.length) (c := co59) ?_).2.2; exact (by (with_reducible repeat (first | apply Kd.R_alloc | apply Kd.R_drewN | apply Kd.R_drew)); exact (Kd.R_mono (Kd.R_far (p := ⟨gb291, 1, none⟩) (Kd.R_far (p := ⟨gb291, 0, none⟩) (Kd.R_types HO289.out BK291.out (by decide)) (fun _ hk => hk.2) (.int .i64 0)) (fun _ hk => hk.2) (.slice none 0 0)) (fun _ h_ => h_.1)))); (case side4 => exact (Kd.R_reads' HO289.out).2.1); rintro e w83 ⟨v294, rfl, ho0, hb⟩; refine ⟨_, rfl, ?_⟩; have n0_ := Aside0.mk (Kd.R_elder' (by (with_reducible repeat (first | apply Kd.R_alloc | apply Kd.R_drewN | apply Kd.R_drew)); exact (Kd.R_mono (Kd.R_far (p := ⟨gb291, 1, none⟩) (Kd.R_far (p := ⟨gb291, 0, none⟩) (Kd.R_types HO284.out BK291.out (by decide)) (fun _ hk => hk.2) (.int .i64 0)) (fun _ hk => hk.2) (.slice none 0 0)) (fun _ h_ => h_.1))) (Kd.R_base ho0) hb); have n1_ := Aside0.mk (Kd.R_elder' (by (with_reducible repeat (first | apply Kd.R_alloc | apply Kd.R_drewN | apply Kd.R_drew)); exact (Kd.R_mono (Kd.R_far (p := ⟨gb291, 1, none⟩) (Kd.R_far (p := ⟨gb291, 0, none⟩) (Kd.R_types HO289.out BK291.out (by decide)) (fun _ hk => hk.2) (.int .i64 0)) (fun _ hk => hk.2) (.slice none 0 0)) (fun _ h_ => h_.1))) (Kd.R_base ho0) hb); have n2_ := Aside0.mk (Kd.R_lower (Kd.R_new' (Kd.R_new' ho0 (Kd.R_lt (by (with_reducible repeat (first | apply Kd.R_alloc | apply Kd.R_drewN | apply Kd.R_drew)); exact (Kd.R_mono (Kd.R_far (p := ⟨gb291, 1, none⟩) (Kd.R_far (p := ⟨gb291, 0, none⟩) (Kd.R_types HO284.out BK291.out (by decide)) (fun _ hk => hk.2) (.int .i64 0)) (fun _ hk => hk.2) (.slice none 0 0)) (fun _ h_ => h_.1))))) (Kd.R_lt (by (with_reducible repeat (first | apply Kd.R_alloc | apply Kd.R_drewN | apply Kd.R_drew)); exact (Kd.R_mono (Kd.R_far (p := ⟨gb291, 1, none⟩) (Kd.R_far (p := ⟨gb291, 0, none⟩) (Kd.R_types HO289.out BK291.out (by decide)) (fun _ hk => hk.2) (.int .i64 0)) (fun _ hk => hk.2) (.slice none 0 0)) (fun _ h_ => h_.1))))) (below_size bl)); have n3_ := Aside0.mk (blk_below (g := gb277) (o := .cells #[.int .u8 a1_0, .int .i64 a1_1, .string a1_2] 43 (0, 0)) (by (with_reducible repeat (first | refine blk_drewN ?_ _ | refine blk_drew ?_ | refine blk_alloc ?_ _)); refine blk_far ?_ NB277_291.out _; (with_reducible repeat (first | refine blk_drewN ?_ _ | refine blk_drew ?_ | refine blk_alloc ?_ _)); refine blk_far ?_ NB277_291.out _; (with_reducible repeat (first | refine blk_drewN ?_ _ | refine blk_drew ?_ | refine blk_alloc ?_ _)); exact BK277.out) hb); have n4_ := Aside0.mk (blk_below (g := gb278) (o := .cells #[.int .u8 a2_0, .int .i64 a2_1, .string a2_2] 43 (0, 0)) (by (with_reducible repeat (first | refine blk_drewN ?_ _ | refine blk_drew ?_ | refine blk_alloc ?_ _)); refine blk_far ?_ NB278_291.out _; (with_reducible repeat (first | refine blk_drewN ?_ _ | refine blk_drew ?_ | refine blk_alloc ?_ _)); refine blk_far ?_ NB278_291.out _; (with_reducible repeat (first | refine blk_drewN ?_ _ | refine blk_drew ?_ | refine blk_alloc ?_ _)); exact BK278.out) hb); have n5_ := Aside0.mk (blk_below (g := gb279) (o := .cells #[.int .u8 0, .int .i64 0, .string (⟨#[]⟩ : ByteArray)] 43 (0, 0)) (by (with_reducible repeat (first | refine blk_drewN ?_ _ | refine blk_drew ?_ | refine blk_alloc ?_ _)); refine blk_far ?_ NB279_291.out _; (with_reducible repeat (first | refine blk_drewN ?_ _ | refine blk_drew ?_ | refine blk_alloc ?_ _)); refine blk_far ?_ NB279_291.out _; (with_reducible repeat (first | refine blk_drewN ?_ _ | refine blk_drew ?_ | refine blk_alloc ?_ _)); exact BK279.out) hb); have n6_ := Aside0.mk (blk_below (g := gb280) (o := .cells #[.int .u8 0, .int .i64 0, .string (⟨#[]⟩ : ByteArray)] 43 (0, 0)) (by (with_reducible repeat (first | refine blk_drewN ?_ _ | refine blk_drew ?_ | refine blk_alloc ?_ _)); refine blk_far ?_ NB280_291.out _; (with_reducible repeat (first | refine blk_drewN ?_ _ | refine blk_drew ?_ | refine blk_alloc ?_ _)); refine blk_far ?_ NB280_291.out _; (with_reducible repeat (first | refine blk_drewN ?_ _ | refine blk_drew ?_ | refine blk_alloc ?_ _)); exact BK280.out) hb); have n7_ := Aside0.mk (blk_below (g := gb285) (o := .cells #[.int .i64 t281, .slice Ao47 t282.length co47] 31 (0, 0)) (by (with_reducible repeat (first | refine blk_drewN ?_ _ | refine blk_drew ?_ | refine blk_alloc ?_ _)); refine blk_far ?_ NB285_291.out _; (with_reducible repeat (first | refine blk_drewN ?_ _ | refine blk_drew ?_ | refine blk_alloc ?_ _)); refine blk_far ?_ NB285_291.out _; (with_reducible repeat (first | refine blk_drewN ?_ _ | refine blk_drew ?_ | refine blk_alloc ?_ _)); exact BK285.out) hb); have n8_ := Aside0.mk (blk_below (g := gb290) (o := .cells #[.int .i64 t286, .slice Ao59 t287.length co59] 31 (0, 0)) (by (with_reducible repeat (first | refine blk_drewN ?_ _ | refine blk_drew ?_ | refine blk_alloc ?_ _)); refine blk_far ?_ NB290_291.out _; (with_reducible repeat (first | refine blk_drewN ?_ _ | refine blk_drew ?_ | refine blk_alloc ?_ _)); refine blk_far ?_ NB290_291.out _; (with_reducible repeat (first | refine blk_drewN ?_ _ | refine blk_drew ?_ | refine blk_alloc ?_ _)); exact BK290.out) hb); have n9_ := Aside0.mk (blk_below (g := gb291) (o := .cells #[.int .i64 0, .slice none 0 0] 31 (0, 0)) (by (with_reducible repeat (first | refine blk_drewN ?_ _ | refine blk_drew ?_ | refine blk_alloc ?_ _)); refine blk_put (cs := #[.int .i64 0, .slice none 0 0]) ?_ 1 _ rfl; (with_reducible repeat (first | refine blk_drewN ?_ _ | refine blk_drew ?_ | refine blk_alloc ?_ _)); refine blk_put (cs := #[.int .i64 0, .slice none 0 0]) ?_ 0 _ rfl; (with_reducible repeat (first | refine blk_drewN ?_ _ | refine blk_drew ?_ | refine blk_alloc ?_ _)); exact BK291.out) hb); have n10_ := Aside0.mk (below_step bl hb); clear HO284; clear HO289; clear BK277; clear BK278; clear BK279; clear BK280; clear BK285; clear BK290; clear BK291; clear HB; have HO284 := n0_; have HO289 := n1_; have HO295 := n2_; have BK277 := n3_; have BK278 := n4_; have BK279 := n5_; have BK280 := n6_; have BK285 := n7_; have BK290 := n8_; have BK291 := n9_; have HB := n10_; clear n0_ n1_ n2_ n3_ n4_ n5_ n6_ n7_ n8_ n9_ n10_; (try clear hb); (try clear hb2); (try clear hk); (try clear hi); (try clear ho0); have hnb84 := NB291_277.out; have hnc84 := NB277_291.out; have hnb85 := NB291_278.out; have hnc85 := NB278_291.out; have hnb86 := NB291_279.out; have hnc86 := NB279_291.out; have hnb87 := NB291_280.out; have hnc87 := NB280_291.out; have hcz88_0 : w83.cell? ⟨gb291, 0, none⟩ = some (.int .i64 0) := (blk_cell BK291.out 0).trans rfl; have hcz88_1 : w83.cell? ⟨gb291, 1, none⟩ = some (.slice none 0 0) := (blk_cell BK291.out 1).trans rfl; have hfz88_0 := blk_frozen BK291.out 0; have hfz88_1 := blk_frozen BK291.out 1; obtain ⟨Ao89, co89, eo89⟩ := Kd.R_slice HO295.out; subst eo89))
            go_meet
            case rel => exact ⟨_, (0), (0), ((⟨#[]⟩ : ByteArray)), (t292), (t293), (.slice Ao89 t293.length co89), H', ⟨by have := HJ3.out; first | omega | exact Nat.le_refl _⟩, ⟨by (with_reducible repeat (first | apply Kd.R_alloc | apply Kd.R_drewN | apply Kd.R_drew)); exact Kd.R_mono (Kd.R_far (p := ⟨gb291, 1, none⟩) (Kd.R_far (p := ⟨gb291, 0, none⟩) (Kd.R_types HO284.out BK291.out (by decide)) (fun _ hk => hk.2) (.int .i64 t292)) (fun _ hk => hk.2) (.slice Ao89 t293.length co89)) (fun _ hk => ⟨hk.1.1.2, hk.1.2⟩)⟩, ⟨by (with_reducible repeat (first | apply Kd.R_alloc | apply Kd.R_drewN | apply Kd.R_drew)); exact Kd.R_mono (Kd.R_far (p := ⟨gb291, 1, none⟩) (Kd.R_far (p := ⟨gb291, 0, none⟩) (Kd.R_types HO289.out BK291.out (by decide)) (fun _ hk => hk.2) (.int .i64 t292)) (fun _ hk => hk.2) (.slice Ao89 t293.length co89)) (fun _ hk => ⟨hk.1.1.2, hk.1.2⟩)⟩, ⟨by (with_reducible repeat (first | apply Kd.R_alloc | apply Kd.R_drewN | apply Kd.R_drew)); exact Kd.R_mono (Kd.R_far (p := ⟨gb291, 1, none⟩) (Kd.R_far (p := ⟨gb291, 0, none⟩) (Kd.R_types HO295.out BK291.out (by decide)) (fun _ hk => hk.2) (.int .i64 t292)) (fun _ hk => hk.2) (.slice Ao89 t293.length co89)) (fun _ hk => ⟨hk.1.1.2, hk.1.2⟩)⟩, ⟨by (with_reducible repeat (first | refine blk_drewN ?_ _ | refine blk_drew ?_ | refine blk_alloc ?_ _)); refine blk_far ?_ NB277_291.out _; (with_reducible repeat (first | refine blk_drewN ?_ _ | refine blk_drew ?_ | refine blk_alloc ?_ _)); refine blk_far ?_ NB277_291.out _; (with_reducible repeat (first | refine blk_drewN ?_ _ | refine blk_drew ?_ | refine blk_alloc ?_ _)); exact BK277.out⟩, ⟨by (with_reducible repeat (first | refine blk_drewN ?_ _ | refine blk_drew ?_ | refine blk_alloc ?_ _)); refine blk_far ?_ NB278_291.out _; (with_reducible repeat (first | refine blk_drewN ?_ _ | refine blk_drew ?_ | refine blk_alloc ?_ _)); refine blk_far ?_ NB278_291.out _; (with_reducible repeat (first | refine blk_drewN ?_ _ | refine blk_drew ?_ | refine blk_alloc ?_ _)); exact BK278.out⟩, ⟨by (with_reducible repeat (first | refine blk_drewN ?_ _ | refine blk_drew ?_ | refine blk_alloc ?_ _)); refine blk_far ?_ NB279_291.out _; (with_reducible repeat (first | refine blk_drewN ?_ _ | refine blk_drew ?_ | refine blk_alloc ?_ _)); refine blk_far ?_ NB279_291.out _; (with_reducible repeat (first | refine blk_drewN ?_ _ | refine blk_drew ?_ | refine blk_alloc ?_ _)); exact BK279.out⟩, ⟨by (with_reducible repeat (first | refine blk_drewN ?_ _ | refine blk_drew ?_ | refine blk_alloc ?_ _)); refine blk_far ?_ NB280_291.out _; (with_reducible repeat (first | refine blk_drewN ?_ _ | refine blk_drew ?_ | refine blk_alloc ?_ _)); refine blk_far ?_ NB280_291.out _; (with_reducible repeat (first | refine blk_drewN ?_ _ | refine blk_drew ?_ | refine blk_alloc ?_ _)); exact BK280.out⟩, ⟨by (with_reducible repeat (first | refine blk_drewN ?_ _ | refine blk_drew ?_ | refine blk_alloc ?_ _)); refine blk_far ?_ NB285_291.out _; (with_reducible repeat (first | refine blk_drewN ?_ _ | refine blk_drew ?_ | refine blk_alloc ?_ _)); refine blk_far ?_ NB285_291.out _; (with_reducible repeat (first | refine blk_drewN ?_ _ | refine blk_drew ?_ | refine blk_alloc ?_ _)); exact BK285.out⟩, ⟨by (with_reducible repeat (first | refine blk_drewN ?_ _ | refine blk_drew ?_ | refine blk_alloc ?_ _)); refine blk_far ?_ NB290_291.out _; (with_reducible repeat (first | refine blk_drewN ?_ _ | refine blk_drew ?_ | refine blk_alloc ?_ _)); refine blk_far ?_ NB290_291.out _; (with_reducible repeat (first | refine blk_drewN ?_ _ | refine blk_drew ?_ | refine blk_alloc ?_ _)); exact BK290.out⟩, ⟨by (with_reducible repeat (first | refine blk_drewN ?_ _ | refine blk_drew ?_ | refine blk_alloc ?_ _)); refine blk_put (cs := #[.int .i64 t292, .slice none 0 0]) ?_ 1 _ rfl; (with_reducible repeat (first | refine blk_drewN ?_ _ | refine blk_drew ?_ | refine blk_alloc ?_ _)); refine blk_put (cs := #[.int .i64 0, .slice none 0 0]) ?_ 0 _ rfl; (with_reducible repeat (first | refine blk_drewN ?_ _ | refine blk_drew ?_ | refine blk_alloc ?_ _)); exact BK291.out⟩, ⟨bl⟩⟩
          · rw [if_neg c68] at H
            have c68b0 : (a0.toList == ([43] : List UInt8)) = false := beq_eq_false_iff_ne.mpr c68
            have c68b1 : (a0.toList != ([43] : List UInt8)) = true := bne_iff_ne.mpr c68
            (first | rw [c68b0] | (simp only [i64_w, i32_w]; rw [c68b0]) | skip)
            by_cases c90 : a0.toList = ([45] : List UInt8)
            · rw [if_pos c90] at H
              have c90b0 : (a0.toList == ([45] : List UInt8)) = true := beq_iff_eq.mpr c90
              have c90b1 : (a0.toList != ([45] : List UInt8)) = false := bne_eq_false_iff_eq.mpr c90
              clear c90
              replace H := Option.bind_eq_some_iff.mp H
              obtain ⟨⟨t296, t297⟩, A910, H⟩ := H
              replace H : ((rowlockref03_Plus.f kj3 t281 t282 t296 t297).bind fun bt300 => (rowlockref03_Do.j1 kj3 a1_0 a1_1 a1_2 a2_0 a2_1 a2_2 0 0 (⟨#[]⟩ : ByteArray) bt300.1 bt300.2)) = some (r1, r2, r3, r4) := H
              have A91 := Aside0.mk A910
              clear A910
              replace H := Option.bind_eq_some_iff.mp H
              obtain ⟨⟨t300, t301⟩, A920, H⟩ := H
              replace H : (rowlockref03_Do.j1 kj3 a1_0 a1_1 a1_2 a2_0 a2_1 a2_2 0 0 (⟨#[]⟩ : ByteArray) t300 t301) = some (r1, r2, r3, r4) := H
              have A92 := Aside0.mk A920
              clear A920
              have H' := Aside0.mk H
              clear H
              try go_wp2
              have n0_ : Aside0 (Kd.R (Kd.int .u64) 27 ((w60.setCell ⟨gb291, 0, none⟩ (.int .i64 0)).setCell ⟨gb291, 1, none⟩ (.slice none 0 0)) w.heap.size (fun k_ => some k_ ≠ (.slice Ao59 t287.length co59 : Value).ownBlock) (.slice Ao47 t282.length co47) t282) := ⟨by (with_reducible repeat (first | apply Kd.R_alloc | apply Kd.R_drewN | apply Kd.R_drew)); exact Kd.R_mono (Kd.R_far (p := ⟨gb291, 1, none⟩) (Kd.R_far (p := ⟨gb291, 0, none⟩) (Kd.R_types HO284.out BK291.out (by decide)) (fun _ hk => hk.2) (.int .i64 0)) (fun _ hk => hk.2) (.slice none 0 0)) (fun _ hk => hk.1.2)⟩
              have n1_ : Aside0 (Kd.R (Kd.int .u64) 27 ((w60.setCell ⟨gb291, 0, none⟩ (.int .i64 0)).setCell ⟨gb291, 1, none⟩ (.slice none 0 0)) w.heap.size (fun k_ => some k_ ≠ (.slice Ao47 t282.length co47 : Value).ownBlock) (.slice Ao59 t287.length co59) t287) := ⟨by (with_reducible repeat (first | apply Kd.R_alloc | apply Kd.R_drewN | apply Kd.R_drew)); exact Kd.R_mono (Kd.R_far (p := ⟨gb291, 1, none⟩) (Kd.R_far (p := ⟨gb291, 0, none⟩) (Kd.R_types HO289.out BK291.out (by decide)) (fun _ hk => hk.2) (.int .i64 0)) (fun _ hk => hk.2) (.slice none 0 0)) (fun _ hk => hk.1.2)⟩
              have n2_ : Aside0 (((w60.setCell ⟨gb291, 0, none⟩ (.int .i64 0)).setCell ⟨gb291, 1, none⟩ (.slice none 0 0)).heap[gb277]? = some (.cells #[.int .u8 a1_0, .int .i64 a1_1, .string a1_2] 43 (0, 0))) := ⟨by (with_reducible repeat (first | refine blk_drewN ?_ _ | refine blk_drew ?_ | refine blk_alloc ?_ _)); refine blk_far ?_ NB277_291.out _; (with_reducible repeat (first | refine blk_drewN ?_ _ | refine blk_drew ?_ | refine blk_alloc ?_ _)); refine blk_far ?_ NB277_291.out _; (with_reducible repeat (first | refine blk_drewN ?_ _ | refine blk_drew ?_ | refine blk_alloc ?_ _)); exact BK277.out⟩
              have n3_ : Aside0 (((w60.setCell ⟨gb291, 0, none⟩ (.int .i64 0)).setCell ⟨gb291, 1, none⟩ (.slice none 0 0)).heap[gb278]? = some (.cells #[.int .u8 a2_0, .int .i64 a2_1, .string a2_2] 43 (0, 0))) := ⟨by (with_reducible repeat (first | refine blk_drewN ?_ _ | refine blk_drew ?_ | refine blk_alloc ?_ _)); refine blk_far ?_ NB278_291.out _; (with_reducible repeat (first | refine blk_drewN ?_ _ | refine blk_drew ?_ | refine blk_alloc ?_ _)); refine blk_far ?_ NB278_291.out _; (with_reducible repeat (first | refine blk_drewN ?_ _ | refine blk_drew ?_ | refine blk_alloc ?_ _)); exact BK278.out⟩
              have n4_ : Aside0 (((w60.setCell ⟨gb291, 0, none⟩ (.int .i64 0)).setCell ⟨gb291, 1, none⟩ (.slice none 0 0)).heap[gb279]? = some (.cells #[.int .u8 0, .int .i64 0, .string (⟨#[]⟩ : ByteArray)] 43 (0, 0))) := ⟨by (with_reducible repeat (first | refine blk_drewN ?_ _ | refine blk_drew ?_ | refine blk_alloc ?_ _)); refine blk_far ?_ NB279_291.out _; (with_reducible repeat (first | refine blk_drewN ?_ _ | refine blk_drew ?_ | refine blk_alloc ?_ _)); refine blk_far ?_ NB279_291.out _; (with_reducible repeat (first | refine blk_drewN ?_ _ | refine blk_drew ?_ | refine blk_alloc ?_ _)); exact BK279.out⟩
              have n5_ : Aside0 (((w60.setCell ⟨gb291, 0, none⟩ (.int .i64 0)).setCell ⟨gb291, 1, none⟩ (.slice none 0 0)).heap[gb280]? = some (.cells #[.int .u8 0, .int .i64 0, .string (⟨#[]⟩ : ByteArray)] 43 (0, 0))) := ⟨by (with_reducible repeat (first | refine blk_drewN ?_ _ | refine blk_drew ?_ | refine blk_alloc ?_ _)); refine blk_far ?_ NB280_291.out _; (with_reducible repeat (first | refine blk_drewN ?_ _ | refine blk_drew ?_ | refine blk_alloc ?_ _)); refine blk_far ?_ NB280_291.out _; (with_reducible repeat (first | refine blk_drewN ?_ _ | refine blk_drew ?_ | refine blk_alloc ?_ _)); exact BK280.out⟩
              have n6_ : Aside0 (((w60.setCell ⟨gb291, 0, none⟩ (.int .i64 0)).setCell ⟨gb291, 1, none⟩ (.slice none 0 0)).heap[gb285]? = some (.cells #[.int .i64 t281, .slice Ao47 t282.length co47] 31 (0, 0))) := ⟨by (with_reducible repeat (first | refine blk_drewN ?_ _ | refine blk_drew ?_ | refine blk_alloc ?_ _)); refine blk_far ?_ NB285_291.out _; (with_reducible repeat (first | refine blk_drewN ?_ _ | refine blk_drew ?_ | refine blk_alloc ?_ _)); refine blk_far ?_ NB285_291.out _; (with_reducible repeat (first | refine blk_drewN ?_ _ | refine blk_drew ?_ | refine blk_alloc ?_ _)); exact BK285.out⟩
              have n7_ : Aside0 (((w60.setCell ⟨gb291, 0, none⟩ (.int .i64 0)).setCell ⟨gb291, 1, none⟩ (.slice none 0 0)).heap[gb290]? = some (.cells #[.int .i64 t286, .slice Ao59 t287.length co59] 31 (0, 0))) := ⟨by (with_reducible repeat (first | refine blk_drewN ?_ _ | refine blk_drew ?_ | refine blk_alloc ?_ _)); refine blk_far ?_ NB290_291.out _; (with_reducible repeat (first | refine blk_drewN ?_ _ | refine blk_drew ?_ | refine blk_alloc ?_ _)); refine blk_far ?_ NB290_291.out _; (with_reducible repeat (first | refine blk_drewN ?_ _ | refine blk_drew ?_ | refine blk_alloc ?_ _)); exact BK290.out⟩
              have n8_ : Aside0 (((w60.setCell ⟨gb291, 0, none⟩ (.int .i64 0)).setCell ⟨gb291, 1, none⟩ (.slice none 0 0)).heap[gb291]? = some (.cells #[.int .i64 0, .slice none 0 0] 31 (0, 0))) := ⟨by (with_reducible repeat (first | refine blk_drewN ?_ _ | refine blk_drew ?_ | refine blk_alloc ?_ _)); refine blk_put (cs := #[.int .i64 0, .slice none 0 0]) ?_ 1 _ rfl; (with_reducible repeat (first | refine blk_drewN ?_ _ | refine blk_drew ?_ | refine blk_alloc ?_ _)); refine blk_put (cs := #[.int .i64 0, .slice none 0 0]) ?_ 0 _ rfl; (with_reducible repeat (first | refine blk_drewN ?_ _ | refine blk_drew ?_ | refine blk_alloc ?_ _)); exact BK291.out⟩
              have n9_ : Aside0 (Below w.heap.size w ((w60.setCell ⟨gb291, 0, none⟩ (.int .i64 0)).setCell ⟨gb291, 1, none⟩ (.slice none 0 0))) := ⟨bl⟩
              (try clear HO284)
              (try clear HO289)
              (try clear BK277)
              (try clear BK278)
              (try clear BK279)
              (try clear BK280)
              (try clear BK285)
              (try clear BK290)
              (try clear BK291)
              (try clear HB)
              generalize ((w60.setCell ⟨gb291, 0, none⟩ (.int .i64 0)).setCell ⟨gb291, 1, none⟩ (.slice none 0 0)) = w93 at n0_ n1_ n2_ n3_ n4_ n5_ n6_ n7_ n8_ n9_ ⊢
              have HO284 := n0_
              have HO289 := n1_
              have BK277 := n2_
              have BK278 := n3_
              have BK279 := n4_
              have BK280 := n5_
              have BK285 := n6_
              have BK290 := n7_
              have BK291 := n8_
              have HB := n9_
              clear n0_ n1_ n2_ n3_ n4_ n5_ n6_ n7_ n8_ n9_
              have n0_ := Aside0.mk (Kd.R_drew HO284.out)
              have n1_ := Aside0.mk (Kd.R_drew HO289.out)
              have n2_ := Aside0.mk (blk_drew BK277.out)
              have n3_ := Aside0.mk (blk_drew BK278.out)
              have n4_ := Aside0.mk (blk_drew BK279.out)
              have n5_ := Aside0.mk (blk_drew BK280.out)
              have n6_ := Aside0.mk (blk_drew BK285.out)
              have n7_ := Aside0.mk (blk_drew BK290.out)
              have n8_ := Aside0.mk (blk_drew BK291.out)
              have n9_ := Aside0.mk (below_drew1 HB.out)
              clear HO284
              clear HO289
              clear BK277
              clear BK278
              clear BK279
              clear BK280
              clear BK285
              clear BK290
              clear BK291
              clear HB
              have HO284 := n0_
              have HO289 := n1_
              have BK277 := n2_
              have BK278 := n3_
              have BK279 := n4_
              have BK280 := n5_
              have BK285 := n6_
              have BK290 := n7_
              have BK291 := n8_
              have HB := n9_
              clear n0_ n1_ n2_ n3_ n4_ n5_ n6_ n7_ n8_ n9_
              refine start_ (n := 5) (S := fun w' => w'.cell? ⟨gb285, 0, none⟩ = some (.int .i64 t281) ∧ w'.cell? ⟨gb285, 1, none⟩ = some (.slice Ao47 t282.length co47) ∧ w'.cell? ⟨gb290, 0, none⟩ = some (.int .i64 t286) ∧ w'.cell? ⟨gb290, 1, none⟩ = some (.slice Ao59 t287.length co59)) (ds := []) #[false, false, false, false, false] (by kernel_rfl) rfl rfl ⟨(blk_cell BK285.out 0).trans rfl, (blk_cell BK285.out 1).trans rfl, (blk_cell BK290.out 0).trans rfl, (blk_cell BK290.out 1).trans rfl⟩ (fun hHeld => ?_)
              generalize w93.drew = w94 at HO284 HO289 BK277 BK278 BK279 BK280 BK285 BK290 BK291 HB hHeld ⊢
              refine take_ (i := 0) (N := some 40) (v := ?_) (a' := ?_) #[true, false, false, false, false] rfl rfl (by kernel_rfl) (fun _ _ _ h => h) (Or.inl ⟨by rfl, ?_⟩) hHeld ?_ ?_
              rotate_left
              · rintro w' ⟨s0, s1, s2, s3⟩
                go_simp
                with_reducible rfl
              rotate_left
              · simp only [Act.put, List.setIfInBounds_toArray, List.set_cons_zero, List.set_cons_succ, i64_w, i32_w]
                rfl
              refine take_ (i := 1) (N := some 41) (v := ?_) (a' := ?_) #[true, true, false, false, false] rfl rfl (by kernel_rfl) (fun _ _ _ h => h) (Or.inl ⟨by rfl, ?_⟩) hHeld ?_ ?_
              rotate_left
              · rintro w' ⟨s0, s1, s2, s3⟩
                go_simp
                with_reducible rfl
              rotate_left
              · simp only [Act.put, List.setIfInBounds_toArray, List.set_cons_zero, List.set_cons_succ, i64_w, i32_w]
                rfl
              refine one_ (i := 2) (N := some 42) #[true, true, true, false, false] rfl rfl (by kernel_rfl) (by decide) (fun K hK => ?_)
              refine goes_ Try.func22 (by kernel_rfl) rfl #[.agg #[.int .i64 t286, .slice Ao59 t287.length co59]] (by rfl) rfl rfl am ?_
              with_reducible refine (rowlockref03_Turn.calls t286 (fun k_ => some k_ = (.slice Ao59 t287.length co59 : Value).ownBlock) _ _ t287 t296 t297 _ ?side1 A91.out).mono ?_
              (case side1 => exact Kd.R_V (Kd.R_tight rfl (Kd.R_types (Kd.R_types (Kd.R_types (Kd.R_types (Kd.R_types (Kd.R_types (Kd.R_types (HO289.out) BK277.out (by decide)) BK278.out (by decide)) BK279.out (by decide)) BK280.out (by decide)) BK285.out (by decide)) BK290.out (by decide)) BK291.out (by decide))))
              rintro e w95 ⟨v298, rfl, ho0, hb⟩
              refine ⟨_, rfl, ?_⟩
              have n0_ := Aside0.mk (Kd.R_below (rk HO284) hb)
              have n1_ := Aside0.mk (Kd.R_below (rk HO289) hb)
              have n2_ := Aside0.mk (Kd.V_lower (Kd.V_mono (ok' := fun k_ => some k_ ≠ (.slice Ao47 t282.length co47 : Value).ownBlock ∧ k_ ≠ gb277 ∧ k_ ≠ gb278 ∧ k_ ≠ gb279 ∧ k_ ≠ gb280 ∧ k_ ≠ gb285 ∧ k_ ≠ gb290 ∧ k_ ≠ gb291) ho0 (fun k_ hk_ => ⟨Or.elim hk_ (fun hs_ => ((Kd.R_types (Kd.R_types (Kd.R_types (Kd.R_types (Kd.R_types (Kd.R_types (Kd.R_types (HO289.out) BK277.out (by decide)) BK278.out (by decide)) BK279.out (by decide)) BK280.out (by decide)) BK285.out (by decide)) BK290.out (by decide)) BK291.out (by decide)).1 k_ hs_.symm).1.1.1.1.1.1.1) (fun hn_ => (Kd.fresh' (Kd.R_lt (rk HO284)) k_ hn_)), Or.elim hk_ (fun hs_ => ((Kd.R_types (Kd.R_types (Kd.R_types (Kd.R_types (Kd.R_types (Kd.R_types (Kd.R_types (HO289.out) BK277.out (by decide)) BK278.out (by decide)) BK279.out (by decide)) BK280.out (by decide)) BK285.out (by decide)) BK290.out (by decide)) BK291.out (by decide)).1 k_ hs_.symm).1.1.1.1.1.1.2) (fun hn_ => (Kd.freshB (g := gb277) (o := .cells #[.int .u8 a1_0, .int .i64 a1_1, .string a1_2] 43 (0, 0)) pk k_ hn_)), Or.elim hk_ (fun hs_ => ((Kd.R_types (Kd.R_types (Kd.R_types (Kd.R_types (Kd.R_types (Kd.R_types (Kd.R_types (HO289.out) BK277.out (by decide)) BK278.out (by decide)) BK279.out (by decide)) BK280.out (by decide)) BK285.out (by decide)) BK290.out (by decide)) BK291.out (by decide)).1 k_ hs_.symm).1.1.1.1.1.2) (fun hn_ => (Kd.freshB (g := gb278) (o := .cells #[.int .u8 a2_0, .int .i64 a2_1, .string a2_2] 43 (0, 0)) pk k_ hn_)), Or.elim hk_ (fun hs_ => ((Kd.R_types (Kd.R_types (Kd.R_types (Kd.R_types (Kd.R_types (Kd.R_types (Kd.R_types (HO289.out) BK277.out (by decide)) BK278.out (by decide)) BK279.out (by decide)) BK280.out (by decide)) BK285.out (by decide)) BK290.out (by decide)) BK291.out (by decide)).1 k_ hs_.symm).1.1.1.1.2) (fun hn_ => (Kd.freshB (g := gb279) (o := .cells #[.int .u8 0, .int .i64 0, .string (⟨#[]⟩ : ByteArray)] 43 (0, 0)) pk k_ hn_)), Or.elim hk_ (fun hs_ => ((Kd.R_types (Kd.R_types (Kd.R_types (Kd.R_types (Kd.R_types (Kd.R_types (Kd.R_types (HO289.out) BK277.out (by decide)) BK278.out (by decide)) BK279.out (by decide)) BK280.out (by decide)) BK285.out (by decide)) BK290.out (by decide)) BK291.out (by decide)).1 k_ hs_.symm).1.1.1.2) (fun hn_ => (Kd.freshB (g := gb280) (o := .cells #[.int .u8 0, .int .i64 0, .string (⟨#[]⟩ : ByteArray)] 43 (0, 0)) pk k_ hn_)), Or.elim hk_ (fun hs_ => ((Kd.R_types (Kd.R_types (Kd.R_types (Kd.R_types (Kd.R_types (Kd.R_types (Kd.R_types (HO289.out) BK277.out (by decide)) BK278.out (by decide)) BK279.out (by decide)) BK280.out (by decide)) BK285.out (by decide)) BK290.out (by decide)) BK291.out (by decide)).1 k_ hs_.symm).1.1.2) (fun hn_ => (Kd.freshB (g := gb285) (o := .cells #[.int .i64 t281, .slice Ao47 t282.length co47] 31 (0, 0)) pk k_ hn_)), Or.elim hk_ (fun hs_ => ((Kd.R_types (Kd.R_types (Kd.R_types (Kd.R_types (Kd.R_types (Kd.R_types (Kd.R_types (HO289.out) BK277.out (by decide)) BK278.out (by decide)) BK279.out (by decide)) BK280.out (by decide)) BK285.out (by decide)) BK290.out (by decide)) BK291.out (by decide)).1 k_ hs_.symm).1.2) (fun hn_ => (Kd.freshB (g := gb290) (o := .cells #[.int .i64 t286, .slice Ao59 t287.length co59] 31 (0, 0)) pk k_ hn_)), Or.elim hk_ (fun hs_ => ((Kd.R_types (Kd.R_types (Kd.R_types (Kd.R_types (Kd.R_types (Kd.R_types (Kd.R_types (HO289.out) BK277.out (by decide)) BK278.out (by decide)) BK279.out (by decide)) BK280.out (by decide)) BK285.out (by decide)) BK290.out (by decide)) BK291.out (by decide)).1 k_ hs_.symm).2) (fun hn_ => (Kd.freshB (g := gb291) (o := .cells #[.int .i64 0, .slice none 0 0] 31 (0, 0)) pk k_ hn_))⟩)) (below_size bl))
              have n3_ := Aside0.mk (bb (g := gb277) hb)
              have n4_ := Aside0.mk (bb (g := gb278) hb)
              have n5_ := Aside0.mk (bb (g := gb279) hb)
              have n6_ := Aside0.mk (bb (g := gb280) hb)
              have n7_ := Aside0.mk (bb (g := gb285) hb)
              have n8_ := Aside0.mk (bb (g := gb290) hb)
              have n9_ := Aside0.mk (bb (g := gb291) hb)
              have n10_ := Aside0.mk (below_step bl hb)
              clear HO284
              clear HO289
              clear BK277
              clear BK278
              clear BK279
              clear BK280
              clear BK285
              clear BK290
              clear BK291
              clear HB
              have HO284 := n0_
              have HO289 := n1_
              have HO299 := n2_
              have BK277 := n3_
              have BK278 := n4_
              have BK279 := n5_
              have BK280 := n6_
              have BK285 := n7_
              have BK290 := n8_
              have BK291 := n9_
              have HB := n10_
              clear n0_ n1_ n2_ n3_ n4_ n5_ n6_ n7_ n8_ n9_ n10_
              (try clear hb)
              (try clear hb2)
              (try clear hk)
              (try clear hi)
              (try clear ho0)
              obtain ⟨Ao96, co96, eo96⟩ := Kd.V_slice HO299.out
              (first | subst eo96 | (injection eo96 with f1_ f2_ f3_; have f4_ := f1_.symm; have f5_ := f3_.symm; clear f1_ f2_ f3_; subst f4_; subst f5_))
              refine hK.out _ _ ⟨(blk_cell BK285.out 0).trans rfl, (blk_cell BK285.out 1).trans rfl, (blk_cell BK290.out 0).trans rfl, (blk_cell BK290.out 1).trans rfl⟩ (fun hHeld => ?_)
              clear hK K
              refine norm_ (a' := ?_) ?_ ?_
              rotate_left
              · show Act.put _ (some 42) _ = _
                simp only [Act.put, List.setIfInBounds_toArray, List.set_cons_zero, List.set_cons_succ, i64_w, i32_w]
                rfl
              refine one_ (i := 3) (N := some 43) #[true, true, true, true, false] rfl rfl (by kernel_rfl) (by decide) (fun K hK => ?_)
              refine goes_ Try.func15 (by kernel_rfl) rfl #[.agg #[.int .i64 t281, .slice Ao47 t282.length co47], .agg #[.int .i64 t296, .slice Ao96 t297.length co96]] (by rfl) rfl rfl am ?_
              with_reducible refine (rowlockref03_Plus.calls kj3 t281 _ _ t282 t296 _ _ t297 t300 t301 _ ?side1 ?side2 ?side3 ?side4 A92.out).mono ?_
              (case side1 => repeat (first | exact (Kd.R_reads' HO284.out).2.2 | (with_reducible refine Kd.C_alloc ?_ _) | (with_reducible refine Kd.C_drewN ?_ _) | (with_reducible refine Kd.C_drew ?_)))
              (case side2 => exact (Kd.R_reads' HO284.out).2.1)
              (case side3 => repeat (first | exact (Kd.V_reads' HO299.out).2.2 | (with_reducible refine Kd.C_alloc ?_ _) | (with_reducible refine Kd.C_drewN ?_ _) | (with_reducible refine Kd.C_drew ?_)))
              (case side4 => exact (Kd.V_reads' HO299.out).2.1)
              rintro e w97 ⟨v302, rfl, ho0, hb⟩
              refine ⟨_, rfl, ?_⟩
              have n0_ := Aside0.mk (Kd.R_elder' (rk HO284) (Kd.R_base ho0) hb)
              have n1_ := Aside0.mk (Kd.R_elder' (rk HO289) (Kd.R_base ho0) hb)
              have n2_ := Aside0.mk (Kd.V_elder' (by (with_reducible repeat (first | apply Kd.V_alloc | apply Kd.V_drewN | apply Kd.V_drew)); exact HO299.out) (Kd.R_base ho0) hb)
              have n3_ := Aside0.mk (Kd.R_lower (Kd.R_new' (Kd.R_new' ho0 (Kd.R_lt (rk HO284))) (Kd.R_lt (rk HO289))) (below_size bl))
              have n4_ := Aside0.mk (bb (g := gb277) hb)
              have n5_ := Aside0.mk (bb (g := gb278) hb)
              have n6_ := Aside0.mk (bb (g := gb279) hb)
              have n7_ := Aside0.mk (bb (g := gb280) hb)
              have n8_ := Aside0.mk (bb (g := gb285) hb)
              have n9_ := Aside0.mk (bb (g := gb290) hb)
              have n10_ := Aside0.mk (bb (g := gb291) hb)
              have n11_ := Aside0.mk (below_step bl hb)
              clear HO284
              clear HO289
              clear HO299
              clear BK277
              clear BK278
              clear BK279
              clear BK280
              clear BK285
              clear BK290
              clear BK291
              clear HB
              have HO284 := n0_
              have HO289 := n1_
              have HO299 := n2_
              have HO303 := n3_
              have BK277 := n4_
              have BK278 := n5_
              have BK279 := n6_
              have BK280 := n7_
              have BK285 := n8_
              have BK290 := n9_
              have BK291 := n10_
              have HB := n11_
              clear n0_ n1_ n2_ n3_ n4_ n5_ n6_ n7_ n8_ n9_ n10_ n11_
              (try clear hb)
              (try clear hb2)
              (try clear hk)
              (try clear hi)
              (try clear ho0)
              obtain ⟨Ao99, co99, eo99⟩ := Kd.R_slice HO303.out
              (first | subst eo99 | (injection eo99 with f1_ f2_ f3_; have f4_ := f1_.symm; have f5_ := f3_.symm; clear f1_ f2_ f3_; subst f4_; subst f5_))
              refine hK.out _ _ ⟨(blk_cell BK285.out 0).trans rfl, (blk_cell BK285.out 1).trans rfl, (blk_cell BK290.out 0).trans rfl, (blk_cell BK290.out 1).trans rfl⟩ (fun hHeld => ?_)
              clear hK K
              refine norm_ (a' := ?_) ?_ ?_
              rotate_left
              · show Act.put _ (some 43) _ = _
                simp only [Act.put, List.setIfInBounds_toArray, List.set_cons_zero, List.set_cons_succ, i64_w, i32_w]
                rfl
              refine one_ (i := 4) (N := none) #[true, true, true, true, true] rfl rfl (by kernel_rfl) (by decide) (fun K hK => ?_)
              have hs98 : w97.cell? ⟨gb291, 0, none⟩ = some (.int .i64 0) := (blk_cell BK291.out 0).trans rfl
              have hfs98 := blk_frozen BK291.out 0
              have hns98_0 := NB277_291.out
              have hns98_1 := NB278_291.out
              have hns98_2 := NB279_291.out
              have hns98_3 := NB280_291.out
              have hns98_4 := NB285_291.out
              have hns98_5 := NB290_291.out
              have hms98_0 := NB291_277.out
              have hms98_1 := NB291_278.out
              have hms98_2 := NB291_279.out
              have hms98_3 := NB291_280.out
              have hms98_4 := NB291_285.out
              have hms98_5 := NB291_290.out
              have hs100 : w97.cell? ⟨gb291, 1, none⟩ = some (.slice none 0 0) := (blk_cell BK291.out 1).trans rfl
              have hfs100 := blk_frozen BK291.out 1
              have hns100_0 := NB277_291.out
              have hns100_1 := NB278_291.out
              have hns100_2 := NB279_291.out
              have hns100_3 := NB280_291.out
              have hns100_4 := NB285_291.out
              have hns100_5 := NB290_291.out
              have hms100_0 := NB291_277.out
              have hms100_1 := NB291_278.out
              have hms100_2 := NB291_279.out
              have hms100_3 := NB291_280.out
              have hms100_4 := NB291_285.out
              have hms100_5 := NB291_290.out
              refine skip_ (w1 := ?_) (by rfl) rfl ?_ ?_
              rotate_left
              · go_simp
                rfl
              refine hK.out _ _ ⟨((cell_far (p := ⟨gb291, _, none⟩) NB285_291.out _).trans (((cell_far (p := ⟨gb291, _, none⟩) NB285_291.out _).trans (hHeld.1)))), ((cell_far (p := ⟨gb291, _, none⟩) NB285_291.out _).trans (((cell_far (p := ⟨gb291, _, none⟩) NB285_291.out _).trans (hHeld.2.1)))), ((cell_far (p := ⟨gb291, _, none⟩) NB290_291.out _).trans (((cell_far (p := ⟨gb291, _, none⟩) NB290_291.out _).trans (hHeld.2.2.1)))), ((cell_far (p := ⟨gb291, _, none⟩) NB290_291.out _).trans (((cell_far (p := ⟨gb291, _, none⟩) NB290_291.out _).trans (hHeld.2.2.2))))⟩ (fun hHeld => ?_)
              clear hK K
              refine done_ (by kernel_rfl) ?_
              try go_wp2
              go_meet
              case rel => exact ⟨_, (0), (0), ((⟨#[]⟩ : ByteArray)), (t300), (t301), (.slice Ao99 t301.length co99), H', ⟨by have := HJ3.out; first | omega | exact Nat.le_refl _⟩, ⟨by (with_reducible repeat (first | apply Kd.R_alloc | apply Kd.R_drewN | apply Kd.R_drew)); exact Kd.R_mono (Kd.R_far (p := ⟨gb291, 1, none⟩) (Kd.R_far (p := ⟨gb291, 0, none⟩) (Kd.R_types HO284.out BK291.out (by decide)) (fun _ hk => hk.2) (.int .i64 t300)) (fun _ hk => hk.2) (.slice Ao99 t301.length co99)) (fun _ hk => ⟨hk.1.1, hk.1.2⟩)⟩, ⟨by (with_reducible repeat (first | apply Kd.R_alloc | apply Kd.R_drewN | apply Kd.R_drew)); exact Kd.R_mono (Kd.R_far (p := ⟨gb291, 1, none⟩) (Kd.R_far (p := ⟨gb291, 0, none⟩) (Kd.R_types HO289.out BK291.out (by decide)) (fun _ hk => hk.2) (.int .i64 t300)) (fun _ hk => hk.2) (.slice Ao99 t301.length co99)) (fun _ hk => ⟨hk.1.1, hk.1.2⟩)⟩, ⟨by (with_reducible repeat (first | apply Kd.R_alloc | apply Kd.R_drewN | apply Kd.R_drew)); exact Kd.R_mono (Kd.R_far (p := ⟨gb291, 1, none⟩) (Kd.R_far (p := ⟨gb291, 0, none⟩) (Kd.R_types HO303.out BK291.out (by decide)) (fun _ hk => hk.2) (.int .i64 t300)) (fun _ hk => hk.2) (.slice Ao99 t301.length co99)) (fun _ hk => ⟨hk.1.1.2, hk.1.2⟩)⟩, ⟨by (with_reducible repeat (first | refine blk_drewN ?_ _ | refine blk_drew ?_ | refine blk_alloc ?_ _)); refine blk_far ?_ NB277_291.out _; (with_reducible repeat (first | refine blk_drewN ?_ _ | refine blk_drew ?_ | refine blk_alloc ?_ _)); refine blk_far ?_ NB277_291.out _; (with_reducible repeat (first | refine blk_drewN ?_ _ | refine blk_drew ?_ | refine blk_alloc ?_ _)); exact BK277.out⟩, ⟨by (with_reducible repeat (first | refine blk_drewN ?_ _ | refine blk_drew ?_ | refine blk_alloc ?_ _)); refine blk_far ?_ NB278_291.out _; (with_reducible repeat (first | refine blk_drewN ?_ _ | refine blk_drew ?_ | refine blk_alloc ?_ _)); refine blk_far ?_ NB278_291.out _; (with_reducible repeat (first | refine blk_drewN ?_ _ | refine blk_drew ?_ | refine blk_alloc ?_ _)); exact BK278.out⟩, ⟨by (with_reducible repeat (first | refine blk_drewN ?_ _ | refine blk_drew ?_ | refine blk_alloc ?_ _)); refine blk_far ?_ NB279_291.out _; (with_reducible repeat (first | refine blk_drewN ?_ _ | refine blk_drew ?_ | refine blk_alloc ?_ _)); refine blk_far ?_ NB279_291.out _; (with_reducible repeat (first | refine blk_drewN ?_ _ | refine blk_drew ?_ | refine blk_alloc ?_ _)); exact BK279.out⟩, ⟨by (with_reducible repeat (first | refine blk_drewN ?_ _ | refine blk_drew ?_ | refine blk_alloc ?_ _)); refine blk_far ?_ NB280_291.out _; (with_reducible repeat (first | refine blk_drewN ?_ _ | refine blk_drew ?_ | refine blk_alloc ?_ _)); refine blk_far ?_ NB280_291.out _; (with_reducible repeat (first | refine blk_drewN ?_ _ | refine blk_drew ?_ | refine blk_alloc ?_ _)); exact BK280.out⟩, ⟨by (with_reducible repeat (first | refine blk_drewN ?_ _ | refine blk_drew ?_ | refine blk_alloc ?_ _)); refine blk_far ?_ NB285_291.out _; (with_reducible repeat (first | refine blk_drewN ?_ _ | refine blk_drew ?_ | refine blk_alloc ?_ _)); refine blk_far ?_ NB285_291.out _; (with_reducible repeat (first | refine blk_drewN ?_ _ | refine blk_drew ?_ | refine blk_alloc ?_ _)); exact BK285.out⟩, ⟨by (with_reducible repeat (first | refine blk_drewN ?_ _ | refine blk_drew ?_ | refine blk_alloc ?_ _)); refine blk_far ?_ NB290_291.out _; (with_reducible repeat (first | refine blk_drewN ?_ _ | refine blk_drew ?_ | refine blk_alloc ?_ _)); refine blk_far ?_ NB290_291.out _; (with_reducible repeat (first | refine blk_drewN ?_ _ | refine blk_drew ?_ | refine blk_alloc ?_ _)); exact BK290.out⟩, ⟨by (with_reducible repeat (first | refine blk_drewN ?_ _ | refine blk_drew ?_ | refine blk_alloc ?_ _)); refine blk_put (cs := #[.int .i64 t300, .slice none 0 0]) ?_ 1 _ rfl; (with_reducible repeat (first | refine blk_drewN ?_ _ | refine blk_drew ?_ | refine blk_alloc ?_ _)); refine blk_put (cs := #[.int .i64 0, .slice none 0 0]) ?_ 0 _ rfl; (with_reducible repeat (first | refine blk_drewN ?_ _ | refine blk_drew ?_ | refine blk_alloc ?_ _)); exact BK291.out⟩, ⟨bl⟩⟩
            · rw [if_neg c90] at H
              have c90b0 : (a0.toList == ([45] : List UInt8)) = false := beq_eq_false_iff_ne.mpr c90
              have c90b1 : (a0.toList != ([45] : List UInt8)) = true := bne_iff_ne.mpr c90
              by_cases c101 : a0.toList = ([42] : List UInt8)
              · rw [if_pos c101] at H
                have c101b0 : (a0.toList == ([42] : List UInt8)) = true := beq_iff_eq.mpr c101
                have c101b1 : (a0.toList != ([42] : List UInt8)) = false := bne_eq_false_iff_eq.mpr c101
                clear c101
                replace H := Option.bind_eq_some_iff.mp H
                obtain ⟨⟨t304, t305⟩, A1020, H⟩ := H
                replace H : (rowlockref03_Do.j1 kj3 a1_0 a1_1 a1_2 a2_0 a2_1 a2_2 0 0 (⟨#[]⟩ : ByteArray) t304 t305) = some (r1, r2, r3, r4) := H
                have A102 := Aside0.mk A1020
                clear A1020
                have H' := Aside0.mk H
                clear H
                have hnb103 := NB285_277.out
                have hnc103 := NB277_285.out
                have hnb104 := NB285_278.out
                have hnc104 := NB278_285.out
                have hnb105 := NB285_279.out
                have hnc105 := NB279_285.out
                have hnb106 := NB285_280.out
                have hnc106 := NB280_285.out
                have hnb107 := NB285_290.out
                have hnc107 := NB290_285.out
                have hnb108 := NB285_291.out
                have hnc108 := NB291_285.out
                have hcz109_0 : w60.cell? ⟨gb285, 0, none⟩ = some (.int .i64 t281) := (blk_cell BK285.out 0).trans rfl
                have hcz109_1 : w60.cell? ⟨gb285, 1, none⟩ = some (.slice Ao47 t282.length co47) := (blk_cell BK285.out 1).trans rfl
                have hfz109_0 := blk_frozen BK285.out 0
                have hfz109_1 := blk_frozen BK285.out 1
                have hnb110 := NB290_277.out
                have hnc110 := NB277_290.out
                have hnb111 := NB290_278.out
                have hnc111 := NB278_290.out
                have hnb112 := NB290_279.out
                have hnc112 := NB279_290.out
                have hnb113 := NB290_280.out
                have hnc113 := NB280_290.out
                have hnb114 := NB290_291.out
                have hnc114 := NB291_290.out
                have hcz115_0 : w60.cell? ⟨gb290, 0, none⟩ = some (.int .i64 t286) := (blk_cell BK290.out 0).trans rfl
                have hcz115_1 : w60.cell? ⟨gb290, 1, none⟩ = some (.slice Ao59 t287.length co59) := (blk_cell BK290.out 1).trans rfl
                have hfz115_0 := blk_frozen BK290.out 0
                have hfz115_1 := blk_frozen BK290.out 1
                go_wp2_with (first | ((with_reducible refine gate_callee (f := 12) rfl ?_); refine goesL_ (some 48) rfl rfl Try.func12 (by kernel_rfl) rfl #[.agg #[.int .i64 t281, .slice Ao47 t282.length co47], .agg #[.int .i64 t286, .slice Ao59 t287.length co59]] rfl am ?_; (with_reducible refine (rowlockref03_Times.calls kj3 t281 _ _ t282 t286 _ _ t287 t304 t305 _ ?side1 ?side2 ?side3 ?side4 A102.out).mono ?_); (case side1 => refine (Kd.R_reads' (e := 27) (base := w.heap.size) (ok := fun k_ => (True ∧ some k_ ≠ (.slice Ao59 t287.length co59 : Value).ownBlock)) (n := t282.length) (c := co47) ?_).2.2; exact (by (with_reducible repeat (first | apply Kd.R_alloc | apply Kd.R_drewN | apply Kd.R_drew)); exact (Kd.R_mono (Kd.R_far (p := ⟨gb291, 1, none⟩) (Kd.R_far (p := ⟨gb291, 0, none⟩) (Kd.R_types HO284.out BK291.out (by decide)) (fun _ hk => hk.2) (.int .i64 0)) (fun _ hk => hk.2) (.slice none 0 0)) (fun _ h_ => h_.1)))); (case side2 => exact (Kd.R_reads' HO284.out).2.1); (case side3 => refine (Kd.R_reads' (e := 27) (base := w.heap.size) (ok := fun k_ => (True ∧ some k_ ≠ (.slice Ao47 t282.length co47 : Value).ownBlock)) (n := t287.length) (c := co59) ?_).2.2; exact (by (with_reducible repeat (first | apply Kd.R_alloc | apply Kd.R_drewN | apply Kd.R_drew)); exact (Kd.R_mono (Kd.R_far (p := ⟨gb291, 1, none⟩) (Kd.R_far (p := ⟨gb291, 0, none⟩) (Kd.R_types HO289.out BK291.out (by decide)) (fun _ hk => hk.2) (.int .i64 0)) (fun _ hk => hk.2) (.slice none 0 0)) (fun _ h_ => h_.1)))); (case side4 => exact (Kd.R_reads' HO289.out).2.1); rintro e w116 ⟨v306, rfl, ho0, hb⟩; refine ⟨_, rfl, ?_⟩; have n0_ := Aside0.mk (Kd.R_elder' (by (with_reducible repeat (first | apply Kd.R_alloc | apply Kd.R_drewN | apply Kd.R_drew)); exact (Kd.R_mono (Kd.R_far (p := ⟨gb291, 1, none⟩) (Kd.R_far (p := ⟨gb291, 0, none⟩) (Kd.R_types HO284.out BK291.out (by decide)) (fun _ hk => hk.2) (.int .i64 0)) (fun _ hk => hk.2) (.slice none 0 0)) (fun _ h_ => h_.1))) (Kd.R_base ho0) hb); have n1_ := Aside0.mk (Kd.R_elder' (by (with_reducible repeat (first | apply Kd.R_alloc | apply Kd.R_drewN | apply Kd.R_drew)); exact (Kd.R_mono (Kd.R_far (p := ⟨gb291, 1, none⟩) (Kd.R_far (p := ⟨gb291, 0, none⟩) (Kd.R_types HO289.out BK291.out (by decide)) (fun _ hk => hk.2) (.int .i64 0)) (fun _ hk => hk.2) (.slice none 0 0)) (fun _ h_ => h_.1))) (Kd.R_base ho0) hb); have n2_ := Aside0.mk (Kd.R_lower (Kd.R_new' (Kd.R_new' ho0 (Kd.R_lt (by (with_reducible repeat (first | apply Kd.R_alloc | apply Kd.R_drewN | apply Kd.R_drew)); exact (Kd.R_mono (Kd.R_far (p := ⟨gb291, 1, none⟩) (Kd.R_far (p := ⟨gb291, 0, none⟩) (Kd.R_types HO284.out BK291.out (by decide)) (fun _ hk => hk.2) (.int .i64 0)) (fun _ hk => hk.2) (.slice none 0 0)) (fun _ h_ => h_.1))))) (Kd.R_lt (by (with_reducible repeat (first | apply Kd.R_alloc | apply Kd.R_drewN | apply Kd.R_drew)); exact (Kd.R_mono (Kd.R_far (p := ⟨gb291, 1, none⟩) (Kd.R_far (p := ⟨gb291, 0, none⟩) (Kd.R_types HO289.out BK291.out (by decide)) (fun _ hk => hk.2) (.int .i64 0)) (fun _ hk => hk.2) (.slice none 0 0)) (fun _ h_ => h_.1))))) (below_size bl)); have n3_ := Aside0.mk (blk_below (g := gb277) (o := .cells #[.int .u8 a1_0, .int .i64 a1_1, .string a1_2] 43 (0, 0)) (by (with_reducible repeat (first | refine blk_drewN ?_ _ | refine blk_drew ?_ | refine blk_alloc ?_ _)); refine blk_far ?_ NB277_291.out _; (with_reducible repeat (first | refine blk_drewN ?_ _ | refine blk_drew ?_ | refine blk_alloc ?_ _)); refine blk_far ?_ NB277_291.out _; (with_reducible repeat (first | refine blk_drewN ?_ _ | refine blk_drew ?_ | refine blk_alloc ?_ _)); exact BK277.out) hb); have n4_ := Aside0.mk (blk_below (g := gb278) (o := .cells #[.int .u8 a2_0, .int .i64 a2_1, .string a2_2] 43 (0, 0)) (by (with_reducible repeat (first | refine blk_drewN ?_ _ | refine blk_drew ?_ | refine blk_alloc ?_ _)); refine blk_far ?_ NB278_291.out _; (with_reducible repeat (first | refine blk_drewN ?_ _ | refine blk_drew ?_ | refine blk_alloc ?_ _)); refine blk_far ?_ NB278_291.out _; (with_reducible repeat (first | refine blk_drewN ?_ _ | refine blk_drew ?_ | refine blk_alloc ?_ _)); exact BK278.out) hb); have n5_ := Aside0.mk (blk_below (g := gb279) (o := .cells #[.int .u8 0, .int .i64 0, .string (⟨#[]⟩ : ByteArray)] 43 (0, 0)) (by (with_reducible repeat (first | refine blk_drewN ?_ _ | refine blk_drew ?_ | refine blk_alloc ?_ _)); refine blk_far ?_ NB279_291.out _; (with_reducible repeat (first | refine blk_drewN ?_ _ | refine blk_drew ?_ | refine blk_alloc ?_ _)); refine blk_far ?_ NB279_291.out _; (with_reducible repeat (first | refine blk_drewN ?_ _ | refine blk_drew ?_ | refine blk_alloc ?_ _)); exact BK279.out) hb); have n6_ := Aside0.mk (blk_below (g := gb280) (o := .cells #[.int .u8 0, .int .i64 0, .string (⟨#[]⟩ : ByteArray)] 43 (0, 0)) (by (with_reducible repeat (first | refine blk_drewN ?_ _ | refine blk_drew ?_ | refine blk_alloc ?_ _)); refine blk_far ?_ NB280_291.out _; (with_reducible repeat (first | refine blk_drewN ?_ _ | refine blk_drew ?_ | refine blk_alloc ?_ _)); refine blk_far ?_ NB280_291.out _; (with_reducible repeat (first | refine blk_drewN ?_ _ | refine blk_drew ?_ | refine blk_alloc ?_ _)); exact BK280.out) hb); have n7_ := Aside0.mk (blk_below (g := gb285) (o := .cells #[.int .i64 t281, .slice Ao47 t282.length co47] 31 (0, 0)) (by (with_reducible repeat (first | refine blk_drewN ?_ _ | refine blk_drew ?_ | refine blk_alloc ?_ _)); refine blk_far ?_ NB285_291.out _; (with_reducible repeat (first | refine blk_drewN ?_ _ | refine blk_drew ?_ | refine blk_alloc ?_ _)); refine blk_far ?_ NB285_291.out _; (with_reducible repeat (first | refine blk_drewN ?_ _ | refine blk_drew ?_ | refine blk_alloc ?_ _)); exact BK285.out) hb); have n8_ := Aside0.mk (blk_below (g := gb290) (o := .cells #[.int .i64 t286, .slice Ao59 t287.length co59] 31 (0, 0)) (by (with_reducible repeat (first | refine blk_drewN ?_ _ | refine blk_drew ?_ | refine blk_alloc ?_ _)); refine blk_far ?_ NB290_291.out _; (with_reducible repeat (first | refine blk_drewN ?_ _ | refine blk_drew ?_ | refine blk_alloc ?_ _)); refine blk_far ?_ NB290_291.out _; (with_reducible repeat (first | refine blk_drewN ?_ _ | refine blk_drew ?_ | refine blk_alloc ?_ _)); exact BK290.out) hb); have n9_ := Aside0.mk (blk_below (g := gb291) (o := .cells #[.int .i64 0, .slice none 0 0] 31 (0, 0)) (by (with_reducible repeat (first | refine blk_drewN ?_ _ | refine blk_drew ?_ | refine blk_alloc ?_ _)); refine blk_put (cs := #[.int .i64 0, .slice none 0 0]) ?_ 1 _ rfl; (with_reducible repeat (first | refine blk_drewN ?_ _ | refine blk_drew ?_ | refine blk_alloc ?_ _)); refine blk_put (cs := #[.int .i64 0, .slice none 0 0]) ?_ 0 _ rfl; (with_reducible repeat (first | refine blk_drewN ?_ _ | refine blk_drew ?_ | refine blk_alloc ?_ _)); exact BK291.out) hb); have n10_ := Aside0.mk (below_step bl hb); clear HO284; clear HO289; clear BK277; clear BK278; clear BK279; clear BK280; clear BK285; clear BK290; clear BK291; clear HB; have HO284 := n0_; have HO289 := n1_; have HO307 := n2_; have BK277 := n3_; have BK278 := n4_; have BK279 := n5_; have BK280 := n6_; have BK285 := n7_; have BK290 := n8_; have BK291 := n9_; have HB := n10_; clear n0_ n1_ n2_ n3_ n4_ n5_ n6_ n7_ n8_ n9_ n10_; (try clear hb); (try clear hb2); (try clear hk); (try clear hi); (try clear ho0); have hnb117 := NB291_277.out; have hnc117 := NB277_291.out; have hnb118 := NB291_278.out; have hnc118 := NB278_291.out; have hnb119 := NB291_279.out; have hnc119 := NB279_291.out; have hnb120 := NB291_280.out; have hnc120 := NB280_291.out; have hcz121_0 : w116.cell? ⟨gb291, 0, none⟩ = some (.int .i64 0) := (blk_cell BK291.out 0).trans rfl; have hcz121_1 : w116.cell? ⟨gb291, 1, none⟩ = some (.slice none 0 0) := (blk_cell BK291.out 1).trans rfl; have hfz121_0 := blk_frozen BK291.out 0; have hfz121_1 := blk_frozen BK291.out 1; obtain ⟨Ao122, co122, eo122⟩ := Kd.R_slice HO307.out; subst eo122))
                go_meet
                case rel => exact ⟨_, (0), (0), ((⟨#[]⟩ : ByteArray)), (t304), (t305), (.slice Ao122 t305.length co122), H', ⟨by have := HJ3.out; first | omega | exact Nat.le_refl _⟩, ⟨by (with_reducible repeat (first | apply Kd.R_alloc | apply Kd.R_drewN | apply Kd.R_drew)); exact Kd.R_mono (Kd.R_far (p := ⟨gb291, 1, none⟩) (Kd.R_far (p := ⟨gb291, 0, none⟩) (Kd.R_types HO284.out BK291.out (by decide)) (fun _ hk => hk.2) (.int .i64 t304)) (fun _ hk => hk.2) (.slice Ao122 t305.length co122)) (fun _ hk => ⟨hk.1.1.2, hk.1.2⟩)⟩, ⟨by (with_reducible repeat (first | apply Kd.R_alloc | apply Kd.R_drewN | apply Kd.R_drew)); exact Kd.R_mono (Kd.R_far (p := ⟨gb291, 1, none⟩) (Kd.R_far (p := ⟨gb291, 0, none⟩) (Kd.R_types HO289.out BK291.out (by decide)) (fun _ hk => hk.2) (.int .i64 t304)) (fun _ hk => hk.2) (.slice Ao122 t305.length co122)) (fun _ hk => ⟨hk.1.1.2, hk.1.2⟩)⟩, ⟨by (with_reducible repeat (first | apply Kd.R_alloc | apply Kd.R_drewN | apply Kd.R_drew)); exact Kd.R_mono (Kd.R_far (p := ⟨gb291, 1, none⟩) (Kd.R_far (p := ⟨gb291, 0, none⟩) (Kd.R_types HO307.out BK291.out (by decide)) (fun _ hk => hk.2) (.int .i64 t304)) (fun _ hk => hk.2) (.slice Ao122 t305.length co122)) (fun _ hk => ⟨hk.1.1.2, hk.1.2⟩)⟩, ⟨by (with_reducible repeat (first | refine blk_drewN ?_ _ | refine blk_drew ?_ | refine blk_alloc ?_ _)); refine blk_far ?_ NB277_291.out _; (with_reducible repeat (first | refine blk_drewN ?_ _ | refine blk_drew ?_ | refine blk_alloc ?_ _)); refine blk_far ?_ NB277_291.out _; (with_reducible repeat (first | refine blk_drewN ?_ _ | refine blk_drew ?_ | refine blk_alloc ?_ _)); exact BK277.out⟩, ⟨by (with_reducible repeat (first | refine blk_drewN ?_ _ | refine blk_drew ?_ | refine blk_alloc ?_ _)); refine blk_far ?_ NB278_291.out _; (with_reducible repeat (first | refine blk_drewN ?_ _ | refine blk_drew ?_ | refine blk_alloc ?_ _)); refine blk_far ?_ NB278_291.out _; (with_reducible repeat (first | refine blk_drewN ?_ _ | refine blk_drew ?_ | refine blk_alloc ?_ _)); exact BK278.out⟩, ⟨by (with_reducible repeat (first | refine blk_drewN ?_ _ | refine blk_drew ?_ | refine blk_alloc ?_ _)); refine blk_far ?_ NB279_291.out _; (with_reducible repeat (first | refine blk_drewN ?_ _ | refine blk_drew ?_ | refine blk_alloc ?_ _)); refine blk_far ?_ NB279_291.out _; (with_reducible repeat (first | refine blk_drewN ?_ _ | refine blk_drew ?_ | refine blk_alloc ?_ _)); exact BK279.out⟩, ⟨by (with_reducible repeat (first | refine blk_drewN ?_ _ | refine blk_drew ?_ | refine blk_alloc ?_ _)); refine blk_far ?_ NB280_291.out _; (with_reducible repeat (first | refine blk_drewN ?_ _ | refine blk_drew ?_ | refine blk_alloc ?_ _)); refine blk_far ?_ NB280_291.out _; (with_reducible repeat (first | refine blk_drewN ?_ _ | refine blk_drew ?_ | refine blk_alloc ?_ _)); exact BK280.out⟩, ⟨by (with_reducible repeat (first | refine blk_drewN ?_ _ | refine blk_drew ?_ | refine blk_alloc ?_ _)); refine blk_far ?_ NB285_291.out _; (with_reducible repeat (first | refine blk_drewN ?_ _ | refine blk_drew ?_ | refine blk_alloc ?_ _)); refine blk_far ?_ NB285_291.out _; (with_reducible repeat (first | refine blk_drewN ?_ _ | refine blk_drew ?_ | refine blk_alloc ?_ _)); exact BK285.out⟩, ⟨by (with_reducible repeat (first | refine blk_drewN ?_ _ | refine blk_drew ?_ | refine blk_alloc ?_ _)); refine blk_far ?_ NB290_291.out _; (with_reducible repeat (first | refine blk_drewN ?_ _ | refine blk_drew ?_ | refine blk_alloc ?_ _)); refine blk_far ?_ NB290_291.out _; (with_reducible repeat (first | refine blk_drewN ?_ _ | refine blk_drew ?_ | refine blk_alloc ?_ _)); exact BK290.out⟩, ⟨by (with_reducible repeat (first | refine blk_drewN ?_ _ | refine blk_drew ?_ | refine blk_alloc ?_ _)); refine blk_put (cs := #[.int .i64 t304, .slice none 0 0]) ?_ 1 _ rfl; (with_reducible repeat (first | refine blk_drewN ?_ _ | refine blk_drew ?_ | refine blk_alloc ?_ _)); refine blk_put (cs := #[.int .i64 0, .slice none 0 0]) ?_ 0 _ rfl; (with_reducible repeat (first | refine blk_drewN ?_ _ | refine blk_drew ?_ | refine blk_alloc ?_ _)); exact BK291.out⟩, ⟨bl⟩⟩
              · rw [if_neg c101] at H
                have c101b0 : (a0.toList == ([42] : List UInt8)) = false := beq_eq_false_iff_ne.mpr c101
                have c101b1 : (a0.toList != ([42] : List UInt8)) = true := bne_iff_ne.mpr c101
                simp only [Option.some.injEq, Prod.mk.injEq] at H
                obtain ⟨rfl, rfl, rfl, rfl⟩ := H
                have hnb123 := NB280_277.out
                have hnc123 := NB277_280.out
                have hnb124 := NB280_278.out
                have hnc124 := NB278_280.out
                have hnb125 := NB280_279.out
                have hnc125 := NB279_280.out
                have hnb126 := NB280_285.out
                have hnc126 := NB285_280.out
                have hnb127 := NB280_290.out
                have hnc127 := NB290_280.out
                have hnb128 := NB280_291.out
                have hnc128 := NB291_280.out
                have hcz129_0 : w60.cell? ⟨gb280, 0, none⟩ = some (.int .u8 0) := (blk_cell BK280.out 0).trans rfl
                have hcz129_1 : w60.cell? ⟨gb280, 1, none⟩ = some (.int .i64 0) := (blk_cell BK280.out 1).trans rfl
                have hcz129_2 : w60.cell? ⟨gb280, 2, none⟩ = some (.string (⟨#[]⟩ : ByteArray)) := (blk_cell BK280.out 2).trans rfl
                have hfz129_0 := blk_frozen BK280.out 0
                have hfz129_1 := blk_frozen BK280.out 1
                have hfz129_2 := blk_frozen BK280.out 2
                have hnb130 := NB279_277.out
                have hnc130 := NB277_279.out
                have hnb131 := NB279_278.out
                have hnc131 := NB278_279.out
                have hnb132 := NB279_285.out
                have hnc132 := NB285_279.out
                have hnb133 := NB279_290.out
                have hnc133 := NB290_279.out
                have hnb134 := NB279_291.out
                have hnc134 := NB291_279.out
                have hcz135_0 : w60.cell? ⟨gb279, 0, none⟩ = some (.int .u8 0) := (blk_cell BK279.out 0).trans rfl
                have hcz135_1 : w60.cell? ⟨gb279, 1, none⟩ = some (.int .i64 0) := (blk_cell BK279.out 1).trans rfl
                have hcz135_2 : w60.cell? ⟨gb279, 2, none⟩ = some (.string (⟨#[]⟩ : ByteArray)) := (blk_cell BK279.out 2).trans rfl
                have hfz135_0 := blk_frozen BK279.out 0
                have hfz135_1 := blk_frozen BK279.out 1
                have hfz135_2 := blk_frozen BK279.out 2
                go_wp2
                refine bodyPost_ret (results_ct rfl _ _ gb279 43 #[.int .u8 0, .int .i64 0, .string (⟨#[]⟩ : ByteArray)] (0, 0) _ rfl (by (with_reducible repeat (first | refine blk_drewN ?_ _ | refine blk_drew ?_ | refine blk_alloc ?_ _)); refine blk_put (cs := #[.int .u8 0, .int .i64 0, .string (⟨#[]⟩ : ByteArray)]) ?_ 2 _ rfl; (with_reducible repeat (first | refine blk_drewN ?_ _ | refine blk_drew ?_ | refine blk_alloc ?_ _)); refine blk_put (cs := #[.int .u8 0, .int .i64 0, .string (⟨#[]⟩ : ByteArray)]) ?_ 1 _ rfl; (with_reducible repeat (first | refine blk_drewN ?_ _ | refine blk_drew ?_ | refine blk_alloc ?_ _)); refine blk_put (cs := #[.int .u8 0, .int .i64 0, .string (⟨#[]⟩ : ByteArray)]) ?_ 0 _ rfl; (with_reducible repeat (first | refine blk_drewN ?_ _ | refine blk_drew ?_ | refine blk_alloc ?_ _)); refine blk_far ?_ NB279_291.out _; (with_reducible repeat (first | refine blk_drewN ?_ _ | refine blk_drew ?_ | refine blk_alloc ?_ _)); refine blk_far ?_ NB279_291.out _; (with_reducible repeat (first | refine blk_drewN ?_ _ | refine blk_drew ?_ | refine blk_alloc ?_ _)); exact BK279.out) Try.underlying43 rfl (by kernel_rfl)) rfl ?_
                exact ⟨by first | rfl | (simp [errW_none, errW_some] <;> rfl) | (simp [*, errW_none, errW_some] <;> rfl), bl⟩
        case rest =>
          clear HC35
          try clear c1
          try clear c2
          try clear p2
          try clear c3
          try clear c4
          try clear c5
          try clear c6
          try clear c7
          try clear c8
          try clear c9
          try clear c10
          try clear c11
          try clear c12
          try clear c13
          try clear c13b0
          try clear c14
          try clear c15
          try clear c16
          try clear c18
          try clear c19
          try clear c20
          try clear c22
          try clear c23
          try clear c24
          try clear c25
          try clear c26
          try clear c27
          try clear c28
          try clear c30
          try clear c31
          try clear c36
          try clear c37
          try clear c38
          try clear c42
          try clear c43
          try clear c44
          try clear c45
          try clear c48
          try clear c49
          try clear c53
          try clear c54
          try clear c55
          try clear c56
          try clear c57
          try clear c61
          try clear c62
          try clear c63
          try clear c64
          try clear c65
          try clear c66
          try clear c68
          try clear c68b0
          try clear c68b1
          try clear c70
          try clear c71
          try clear c72
          try clear c73
          try clear c74
          try clear c75
          try clear c77
          try clear c78
          try clear c79
          try clear c80
          try clear c81
          try clear c84
          try clear c85
          try clear c86
          try clear c87
          try clear c90
          try clear c90b0
          try clear c90b1
          try clear c101
          try clear c101b0
          try clear c101b1
          try clear c103
          try clear c104
          try clear c105
          try clear c106
          try clear c107
          try clear c108
          try clear c110
          try clear c111
          try clear c112
          try clear c113
          try clear c114
          try clear c117
          try clear c118
          try clear c119
          try clear c120
          try clear c123
          try clear c124
          try clear c125
          try clear c126
          try clear c127
          try clear c128
          try clear c130
          try clear c131
          try clear c132
          try clear c133
          try clear c134
          try clear hcz109_0
          try clear hcz109_1
          try clear hcz115_0
          try clear hcz115_1
          try clear hcz121_0
          try clear hcz121_1
          try clear hcz129_0
          try clear hcz129_1
          try clear hcz129_2
          try clear hcz12_0
          try clear hcz12_1
          try clear hcz12_2
          try clear hcz135_0
          try clear hcz135_1
          try clear hcz135_2
          try clear hcz17_0
          try clear hcz17_1
          try clear hcz17_2
          try clear hcz21_0
          try clear hcz21_1
          try clear hcz21_2
          try clear hcz24_0
          try clear hcz24_1
          try clear hcz24_2
          try clear hcz29_0
          try clear hcz29_1
          try clear hcz29_2
          try clear hcz32_0
          try clear hcz32_1
          try clear hcz32_2
          try clear hcz39_0
          try clear hcz39_1
          try clear hcz39_2
          try clear hcz46_0
          try clear hcz46_1
          try clear hcz50_0
          try clear hcz50_1
          try clear hcz50_2
          try clear hcz58_0
          try clear hcz58_1
          try clear hcz67_0
          try clear hcz67_1
          try clear hcz76_0
          try clear hcz76_1
          try clear hcz82_0
          try clear hcz82_1
          try clear hcz88_0
          try clear hcz88_1
          try clear hfz109_0
          try clear hfz109_1
          try clear hfz115_0
          try clear hfz115_1
          try clear hfz121_0
          try clear hfz121_1
          try clear hfz129_0
          try clear hfz129_1
          try clear hfz129_2
          try clear hfz12_0
          try clear hfz12_1
          try clear hfz12_2
          try clear hfz135_0
          try clear hfz135_1
          try clear hfz135_2
          try clear hfz17_0
          try clear hfz17_1
          try clear hfz17_2
          try clear hfz21_0
          try clear hfz21_1
          try clear hfz21_2
          try clear hfz24_0
          try clear hfz24_1
          try clear hfz24_2
          try clear hfz29_0
          try clear hfz29_1
          try clear hfz29_2
          try clear hfz32_0
          try clear hfz32_1
          try clear hfz32_2
          try clear hfz39_0
          try clear hfz39_1
          try clear hfz39_2
          try clear hfz46_0
          try clear hfz46_1
          try clear hfz50_0
          try clear hfz50_1
          try clear hfz50_2
          try clear hfz58_0
          try clear hfz58_1
          try clear hfz67_0
          try clear hfz67_1
          try clear hfz76_0
          try clear hfz76_1
          try clear hfz82_0
          try clear hfz82_1
          try clear hfz88_0
          try clear hfz88_1
          try clear p2
          obtain ⟨kq, x280000_34, x280001_34, x280002_34, x292000_34, x292001_34, u292001, HA, HJ34, HO_286001, HO_291001, HO_292001, BK277, BK278, BK279, BK280, BK285, BK290, BK291, HB⟩ := hcut
          cases kq with
          | zero => exact absurd HA.out (by simp [rowlockref03_Do.j1])
          | succ kj34 =>
            have H := HA.out
            clear HA
            simp only [rowlockref03_Do.j1] at H
            have HC136 := Aside0.mk H
            clear H
            go_upto_region 15 with (fail)
            go_cut [56] (fun v56 wc => ∃ (kq : Nat) (x56_135 : Bool), v56 = .bool x56_135 ∧ Aside0 (rowlockref03_Do.j2 kq x56_135 0 0 (⟨#[]⟩ : ByteArray) x292000_34 x292001_34 = some (r1, r2, r3, r4)) ∧ Aside0 (kq ≤ kj34) ∧ Aside0 (Kd.R (Kd.int .u64) 27 wc w.heap.size (fun k_ => some k_ ≠ ((.slice Ao59 t287.length co59) : Value).ownBlock ∧ some k_ ≠ (u292001 : Value).ownBlock) (.slice Ao47 t282.length co47) t282) ∧ Aside0 (Kd.R (Kd.int .u64) 27 wc w.heap.size (fun k_ => some k_ ≠ ((.slice Ao47 t282.length co47) : Value).ownBlock ∧ some k_ ≠ (u292001 : Value).ownBlock) (.slice Ao59 t287.length co59) t287) ∧ Aside0 (Kd.R (Kd.int .u64) 27 wc w.heap.size (fun k_ => some k_ ≠ ((.slice Ao47 t282.length co47) : Value).ownBlock ∧ some k_ ≠ ((.slice Ao59 t287.length co59) : Value).ownBlock) u292001 x292001_34) ∧ Aside0 (wc.heap[gb277]? = some (.cells #[.int .u8 a1_0, .int .i64 a1_1, .string a1_2] 43 (0, 0))) ∧ Aside0 (wc.heap[gb278]? = some (.cells #[.int .u8 a2_0, .int .i64 a2_1, .string a2_2] 43 (0, 0))) ∧ Aside0 (wc.heap[gb279]? = some (.cells #[.int .u8 x280000_34, .int .i64 x280001_34, .string x280002_34] 43 (0, 0))) ∧ Aside0 (wc.heap[gb280]? = some (.cells #[.int .u8 0, .int .i64 0, .string (⟨#[]⟩ : ByteArray)] 43 (0, 0))) ∧ Aside0 (wc.heap[gb285]? = some (.cells #[.int .i64 t281, (.slice Ao47 t282.length co47)] 31 (0, 0))) ∧ Aside0 (wc.heap[gb290]? = some (.cells #[.int .i64 t286, (.slice Ao59 t287.length co59)] 31 (0, 0))) ∧ Aside0 (wc.heap[gb291]? = some (.cells #[.int .i64 x292000_34, u292001] 31 (0, 0))) ∧ Aside0 (Below w.heap.size w wc))
            case first =>
              have H := HC136.out
              clear HC136
              by_cases c137 : a1_0 = 0
              · rw [if_pos c137] at H
                have c137b0 : (a1_0 == 0) = true := beq_iff_eq.mpr c137
                have c137b1 : (a1_0 != 0) = false := bne_eq_false_iff_eq.mpr c137
                clear c137
                (first | rw [c137b0] | (simp only [i64_w, i32_w]; rw [c137b0]) | skip)
                have H' := Aside0.mk H
                clear H
                have hnb138 := NB277_278.out
                have hnc138 := NB278_277.out
                have hnb139 := NB277_279.out
                have hnc139 := NB279_277.out
                have hnb140 := NB277_280.out
                have hnc140 := NB280_277.out
                have hnb141 := NB277_285.out
                have hnc141 := NB285_277.out
                have hnb142 := NB277_290.out
                have hnc142 := NB290_277.out
                have hnb143 := NB277_291.out
                have hnc143 := NB291_277.out
                have hcz144_0 : wc.cell? ⟨gb277, 0, none⟩ = some (.int .u8 a1_0) := (blk_cell BK277.out 0).trans rfl
                have hcz144_1 : wc.cell? ⟨gb277, 1, none⟩ = some (.int .i64 a1_1) := (blk_cell BK277.out 1).trans rfl
                have hcz144_2 : wc.cell? ⟨gb277, 2, none⟩ = some (.string a1_2) := (blk_cell BK277.out 2).trans rfl
                have hfz144_0 := blk_frozen BK277.out 0
                have hfz144_1 := blk_frozen BK277.out 1
                have hfz144_2 := blk_frozen BK277.out 2
                go_wp2
                go_meet
                case rel => exact ⟨_, (true), (by first | rfl | (simp; done) | (simp [*]; done)), H', ⟨by have := HJ3.out; have := HJ34.out; first | omega | exact Nat.le_refl _⟩, ⟨by (with_reducible repeat (first | apply Kd.R_alloc | apply Kd.R_drewN | apply Kd.R_drew)); exact HO_286001.out⟩, ⟨by (with_reducible repeat (first | apply Kd.R_alloc | apply Kd.R_drewN | apply Kd.R_drew)); exact HO_291001.out⟩, ⟨by (with_reducible repeat (first | apply Kd.R_alloc | apply Kd.R_drewN | apply Kd.R_drew)); exact HO_292001.out⟩, ⟨pk⟩, ⟨pk⟩, ⟨pk⟩, ⟨pk⟩, ⟨pk⟩, ⟨pk⟩, ⟨pk⟩, ⟨bl⟩⟩
              · rw [if_neg c137] at H
                have c137b0 : (a1_0 == 0) = false := beq_eq_false_iff_ne.mpr c137
                have c137b1 : (a1_0 != 0) = true := bne_iff_ne.mpr c137
                (first | rw [c137b0] | (simp only [i64_w, i32_w]; rw [c137b0]) | skip)
                have H' := Aside0.mk H
                clear H
                have hnb145 := NB277_278.out
                have hnc145 := NB278_277.out
                have hnb146 := NB277_279.out
                have hnc146 := NB279_277.out
                have hnb147 := NB277_280.out
                have hnc147 := NB280_277.out
                have hnb148 := NB277_285.out
                have hnc148 := NB285_277.out
                have hnb149 := NB277_290.out
                have hnc149 := NB290_277.out
                have hnb150 := NB277_291.out
                have hnc150 := NB291_277.out
                have hcz151_0 : wc.cell? ⟨gb277, 0, none⟩ = some (.int .u8 a1_0) := (blk_cell BK277.out 0).trans rfl
                have hcz151_1 : wc.cell? ⟨gb277, 1, none⟩ = some (.int .i64 a1_1) := (blk_cell BK277.out 1).trans rfl
                have hcz151_2 : wc.cell? ⟨gb277, 2, none⟩ = some (.string a1_2) := (blk_cell BK277.out 2).trans rfl
                have hfz151_0 := blk_frozen BK277.out 0
                have hfz151_1 := blk_frozen BK277.out 1
                have hfz151_2 := blk_frozen BK277.out 2
                have hnb152 := NB278_279.out
                have hnc152 := NB279_278.out
                have hnb153 := NB278_280.out
                have hnc153 := NB280_278.out
                have hnb154 := NB278_285.out
                have hnc154 := NB285_278.out
                have hnb155 := NB278_290.out
                have hnc155 := NB290_278.out
                have hnb156 := NB278_291.out
                have hnc156 := NB291_278.out
                have hcz157_0 : wc.cell? ⟨gb278, 0, none⟩ = some (.int .u8 a2_0) := (blk_cell BK278.out 0).trans rfl
                have hcz157_1 : wc.cell? ⟨gb278, 1, none⟩ = some (.int .i64 a2_1) := (blk_cell BK278.out 1).trans rfl
                have hcz157_2 : wc.cell? ⟨gb278, 2, none⟩ = some (.string a2_2) := (blk_cell BK278.out 2).trans rfl
                have hfz157_0 := blk_frozen BK278.out 0
                have hfz157_1 := blk_frozen BK278.out 1
                have hfz157_2 := blk_frozen BK278.out 2
                go_wp2
                go_meet
                case rel => exact ⟨_, ((a2_0 == 0)), (by first | rfl | (simp; done) | (simp [*]; done)), H', ⟨by have := HJ3.out; have := HJ34.out; first | omega | exact Nat.le_refl _⟩, ⟨by (with_reducible repeat (first | apply Kd.R_alloc | apply Kd.R_drewN | apply Kd.R_drew)); exact HO_286001.out⟩, ⟨by (with_reducible repeat (first | apply Kd.R_alloc | apply Kd.R_drewN | apply Kd.R_drew)); exact HO_291001.out⟩, ⟨by (with_reducible repeat (first | apply Kd.R_alloc | apply Kd.R_drewN | apply Kd.R_drew)); exact HO_292001.out⟩, ⟨pk⟩, ⟨pk⟩, ⟨pk⟩, ⟨pk⟩, ⟨pk⟩, ⟨pk⟩, ⟨pk⟩, ⟨bl⟩⟩
            case rest =>
              clear HC136
              try clear c1
              try clear c2
              try clear p2
              try clear c3
              try clear c4
              try clear c5
              try clear c6
              try clear c7
              try clear c8
              try clear c9
              try clear c10
              try clear c11
              try clear c12
              try clear c13
              try clear c13b0
              try clear c14
              try clear c15
              try clear c16
              try clear c18
              try clear c19
              try clear c20
              try clear c22
              try clear c23
              try clear c24
              try clear c25
              try clear c26
              try clear c27
              try clear c28
              try clear c30
              try clear c31
              try clear c36
              try clear c37
              try clear c38
              try clear c42
              try clear c43
              try clear c44
              try clear c45
              try clear c48
              try clear c49
              try clear c53
              try clear c54
              try clear c55
              try clear c56
              try clear c57
              try clear c61
              try clear c62
              try clear c63
              try clear c64
              try clear c65
              try clear c66
              try clear c68
              try clear c68b0
              try clear c68b1
              try clear c70
              try clear c71
              try clear c72
              try clear c73
              try clear c74
              try clear c75
              try clear c77
              try clear c78
              try clear c79
              try clear c80
              try clear c81
              try clear c84
              try clear c85
              try clear c86
              try clear c87
              try clear c90
              try clear c90b0
              try clear c90b1
              try clear c101
              try clear c101b0
              try clear c101b1
              try clear c103
              try clear c104
              try clear c105
              try clear c106
              try clear c107
              try clear c108
              try clear c110
              try clear c111
              try clear c112
              try clear c113
              try clear c114
              try clear c117
              try clear c118
              try clear c119
              try clear c120
              try clear c123
              try clear c124
              try clear c125
              try clear c126
              try clear c127
              try clear c128
              try clear c130
              try clear c131
              try clear c132
              try clear c133
              try clear c134
              try clear c137
              try clear c137b0
              try clear c137b1
              try clear c138
              try clear c139
              try clear c140
              try clear c141
              try clear c142
              try clear c143
              try clear c145
              try clear c146
              try clear c147
              try clear c148
              try clear c149
              try clear c150
              try clear c152
              try clear c153
              try clear c154
              try clear c155
              try clear c156
              try clear hcz109_0
              try clear hcz109_1
              try clear hcz115_0
              try clear hcz115_1
              try clear hcz121_0
              try clear hcz121_1
              try clear hcz129_0
              try clear hcz129_1
              try clear hcz129_2
              try clear hcz12_0
              try clear hcz12_1
              try clear hcz12_2
              try clear hcz135_0
              try clear hcz135_1
              try clear hcz135_2
              try clear hcz144_0
              try clear hcz144_1
              try clear hcz144_2
              try clear hcz151_0
              try clear hcz151_1
              try clear hcz151_2
              try clear hcz157_0
              try clear hcz157_1
              try clear hcz157_2
              try clear hcz17_0
              try clear hcz17_1
              try clear hcz17_2
              try clear hcz21_0
              try clear hcz21_1
              try clear hcz21_2
              try clear hcz24_0
              try clear hcz24_1
              try clear hcz24_2
              try clear hcz29_0
              try clear hcz29_1
              try clear hcz29_2
              try clear hcz32_0
              try clear hcz32_1
              try clear hcz32_2
              try clear hcz39_0
              try clear hcz39_1
              try clear hcz39_2
              try clear hcz46_0
              try clear hcz46_1
              try clear hcz50_0
              try clear hcz50_1
              try clear hcz50_2
              try clear hcz58_0
              try clear hcz58_1
              try clear hcz67_0
              try clear hcz67_1
              try clear hcz76_0
              try clear hcz76_1
              try clear hcz82_0
              try clear hcz82_1
              try clear hcz88_0
              try clear hcz88_1
              try clear hfz109_0
              try clear hfz109_1
              try clear hfz115_0
              try clear hfz115_1
              try clear hfz121_0
              try clear hfz121_1
              try clear hfz129_0
              try clear hfz129_1
              try clear hfz129_2
              try clear hfz12_0
              try clear hfz12_1
              try clear hfz12_2
              try clear hfz135_0
              try clear hfz135_1
              try clear hfz135_2
              try clear hfz144_0
              try clear hfz144_1
              try clear hfz144_2
              try clear hfz151_0
              try clear hfz151_1
              try clear hfz151_2
              try clear hfz157_0
              try clear hfz157_1
              try clear hfz157_2
              try clear hfz17_0
              try clear hfz17_1
              try clear hfz17_2
              try clear hfz21_0
              try clear hfz21_1
              try clear hfz21_2
              try clear hfz24_0
              try clear hfz24_1
              try clear hfz24_2
              try clear hfz29_0
              try clear hfz29_1
              try clear hfz29_2
              try clear hfz32_0
              try clear hfz32_1
              try clear hfz32_2
              try clear hfz39_0
              try clear hfz39_1
              try clear hfz39_2
              try clear hfz46_0
              try clear hfz46_1
              try clear hfz50_0
              try clear hfz50_1
              try clear hfz50_2
              try clear hfz58_0
              try clear hfz58_1
              try clear hfz67_0
              try clear hfz67_1
              try clear hfz76_0
              try clear hfz76_1
              try clear hfz82_0
              try clear hfz82_1
              try clear hfz88_0
              try clear hfz88_1
              try clear p2
              obtain ⟨kq, x56_135, rfl, HA, HJ135, HO_286001, HO_291001, HO_292001, BK277, BK278, BK279, BK280, BK285, BK290, BK291, HB⟩ := hcut
              cases kq with
              | zero => exact absurd HA.out (by simp [rowlockref03_Do.j2])
              | succ kj135 =>
                have H := HA.out
                clear HA
                simp only [rowlockref03_Do.j2] at H
                by_cases c158 : x56_135 = true
                · subst c158
                  have H1 : (some (0, 0, (⟨#[]⟩ : ByteArray), true)) = some (r1, r2, r3, r4) := by rw [if_pos rfl] at H; exact H
                  clear H
                  have H := H1
                  clear H1
                  simp only [Option.some.injEq, Prod.mk.injEq] at H
                  obtain ⟨rfl, rfl, rfl, rfl⟩ := H
                  have hnb159 := NB280_277.out
                  have hnc159 := NB277_280.out
                  have hnb160 := NB280_278.out
                  have hnc160 := NB278_280.out
                  have hnb161 := NB280_279.out
                  have hnc161 := NB279_280.out
                  have hnb162 := NB280_285.out
                  have hnc162 := NB285_280.out
                  have hnb163 := NB280_290.out
                  have hnc163 := NB290_280.out
                  have hnb164 := NB280_291.out
                  have hnc164 := NB291_280.out
                  have hcz165_0 : wc.cell? ⟨gb280, 0, none⟩ = some (.int .u8 0) := (blk_cell BK280.out 0).trans rfl
                  have hcz165_1 : wc.cell? ⟨gb280, 1, none⟩ = some (.int .i64 0) := (blk_cell BK280.out 1).trans rfl
                  have hcz165_2 : wc.cell? ⟨gb280, 2, none⟩ = some (.string (⟨#[]⟩ : ByteArray)) := (blk_cell BK280.out 2).trans rfl
                  have hfz165_0 := blk_frozen BK280.out 0
                  have hfz165_1 := blk_frozen BK280.out 1
                  have hfz165_2 := blk_frozen BK280.out 2
                  have hnb166 := NB279_277.out
                  have hnc166 := NB277_279.out
                  have hnb167 := NB279_278.out
                  have hnc167 := NB278_279.out
                  have hnb168 := NB279_285.out
                  have hnc168 := NB285_279.out
                  have hnb169 := NB279_290.out
                  have hnc169 := NB290_279.out
                  have hnb170 := NB279_291.out
                  have hnc170 := NB291_279.out
                  have hcz171_0 : wc.cell? ⟨gb279, 0, none⟩ = some (.int .u8 x280000_34) := (blk_cell BK279.out 0).trans rfl
                  have hcz171_1 : wc.cell? ⟨gb279, 1, none⟩ = some (.int .i64 x280001_34) := (blk_cell BK279.out 1).trans rfl
                  have hcz171_2 : wc.cell? ⟨gb279, 2, none⟩ = some (.string x280002_34) := (blk_cell BK279.out 2).trans rfl
                  have hfz171_0 := blk_frozen BK279.out 0
                  have hfz171_1 := blk_frozen BK279.out 1
                  have hfz171_2 := blk_frozen BK279.out 2
                  go_wp2
                  refine bodyPost_ret (results_ct rfl _ _ gb279 43 #[.int .u8 0, .int .i64 0, .string (⟨#[]⟩ : ByteArray)] (0, 0) _ rfl (by (with_reducible repeat (first | refine blk_drewN ?_ _ | refine blk_drew ?_ | refine blk_alloc ?_ _)); refine blk_put (cs := #[.int .u8 0, .int .i64 0, .string x280002_34]) ?_ 2 _ rfl; (with_reducible repeat (first | refine blk_drewN ?_ _ | refine blk_drew ?_ | refine blk_alloc ?_ _)); refine blk_put (cs := #[.int .u8 0, .int .i64 x280001_34, .string x280002_34]) ?_ 1 _ rfl; (with_reducible repeat (first | refine blk_drewN ?_ _ | refine blk_drew ?_ | refine blk_alloc ?_ _)); refine blk_put (cs := #[.int .u8 x280000_34, .int .i64 x280001_34, .string x280002_34]) ?_ 0 _ rfl; (with_reducible repeat (first | refine blk_drewN ?_ _ | refine blk_drew ?_ | refine blk_alloc ?_ _)); exact BK279.out) Try.underlying43 rfl (by kernel_rfl)) rfl ?_
                  exact ⟨by first | rfl | (simp [errW_none, errW_some] <;> rfl) | (simp [*, errW_none, errW_some] <;> rfl), bl⟩
                · replace c158 := Bool.eq_false_iff.mpr c158
                  subst c158
                  have H1 : ((rowlockref03_Right.f kj135 x292000_34 x292001_34).bind fun bt308 => (if bt308.2 = true then (some (1, bt308.1, (⟨#[]⟩ : ByteArray), true)) else (some (0, 0, (⟨#[]⟩ : ByteArray), false)))) = some (r1, r2, r3, r4) := by rw [if_neg (show ¬ (false = true) by decide)] at H; exact H
                  clear H
                  have H := H1
                  clear H1
                  replace H := Option.bind_eq_some_iff.mp H
                  obtain ⟨⟨t308, t309⟩, A1720, H⟩ := H
                  replace H : (if t309 = true then (some (1, t308, (⟨#[]⟩ : ByteArray), true)) else (some (0, 0, (⟨#[]⟩ : ByteArray), false))) = some (r1, r2, r3, r4) := H
                  have A172 := Aside0.mk A1720
                  clear A1720
                  by_cases c173 : t309 = true
                  · subst c173
                    have H1 : (some (1, t308, (⟨#[]⟩ : ByteArray), true)) = some (r1, r2, r3, r4) := by rw [if_pos rfl] at H; exact H
                    clear H
                    have H := H1
                    clear H1
                    simp only [Option.some.injEq, Prod.mk.injEq] at H
                    obtain ⟨rfl, rfl, rfl, rfl⟩ := H
                    have hnb174 := NB291_277.out
                    have hnc174 := NB277_291.out
                    have hnb175 := NB291_278.out
                    have hnc175 := NB278_291.out
                    have hnb176 := NB291_279.out
                    have hnc176 := NB279_291.out
                    have hnb177 := NB291_280.out
                    have hnc177 := NB280_291.out
                    have hnb178 := NB291_285.out
                    have hnc178 := NB285_291.out
                    have hnb179 := NB291_290.out
                    have hnc179 := NB290_291.out
                    have hcz180_0 : wc.cell? ⟨gb291, 0, none⟩ = some (.int .i64 x292000_34) := (blk_cell BK291.out 0).trans rfl
                    have hcz180_1 : wc.cell? ⟨gb291, 1, none⟩ = some (u292001) := (blk_cell BK291.out 1).trans rfl
                    have hfz180_0 := blk_frozen BK291.out 0
                    have hfz180_1 := blk_frozen BK291.out 1
                    obtain ⟨Ao181, co181, eo181⟩ := Kd.R_slice HO_292001.out
                    subst eo181
                    go_wp2_with (first | ((with_reducible refine gate_callee (f := 28) rfl ?_); refine goesL_ (some 60) rfl rfl Try.func28 (by kernel_rfl) rfl #[.agg #[.int .i64 x292000_34, .slice Ao181 x292001_34.length co181]] rfl am ?_; (with_reducible refine (rowlockref03_Right.calls kj135 x292000_34 _ _ x292001_34 t308 true _ ?side1 ?side2 A172.out).mono ?_); (case side1 => repeat (first | exact (Kd.R_reads' HO_292001.out).2.2 | (with_reducible refine Kd.C_alloc ?_ _) | (with_reducible refine Kd.C_drewN ?_ _) | (with_reducible refine Kd.C_drew ?_))); (case side2 => exact (Kd.R_reads' HO_292001.out).2.1); rintro e w182 ⟨rfl, hb⟩; refine ⟨_, rfl, ?_⟩; have n0_ := Aside0.mk (Kd.R_below (rk HO_286001) hb); have n1_ := Aside0.mk (Kd.R_below (rk HO_291001) hb); have n2_ := Aside0.mk (Kd.R_below (rk HO_292001) hb); have n3_ := Aside0.mk (bb (g := gb277) hb); have n4_ := Aside0.mk (bb (g := gb278) hb); have n5_ := Aside0.mk (bb (g := gb279) hb); have n6_ := Aside0.mk (bb (g := gb280) hb); have n7_ := Aside0.mk (bb (g := gb285) hb); have n8_ := Aside0.mk (bb (g := gb290) hb); have n9_ := Aside0.mk (bb (g := gb291) hb); have n10_ := Aside0.mk (below_step bl hb); clear HO_286001; clear HO_291001; clear HO_292001; clear BK277; clear BK278; clear BK279; clear BK280; clear BK285; clear BK290; clear BK291; clear HB; have HO_286001 := n0_; have HO_291001 := n1_; have HO_292001 := n2_; have BK277 := n3_; have BK278 := n4_; have BK279 := n5_; have BK280 := n6_; have BK285 := n7_; have BK290 := n8_; have BK291 := n9_; have HB := n10_; clear n0_ n1_ n2_ n3_ n4_ n5_ n6_ n7_ n8_ n9_ n10_; (try clear hb); (try clear hb2); (try clear hk); (try clear hi); have hnb183 := NB279_277.out; have hnc183 := NB277_279.out; have hnb184 := NB279_278.out; have hnc184 := NB278_279.out; have hnb185 := NB279_280.out; have hnc185 := NB280_279.out; have hnb186 := NB279_285.out; have hnc186 := NB285_279.out; have hnb187 := NB279_290.out; have hnc187 := NB290_279.out; have hcz188_0 : w182.cell? ⟨gb279, 0, none⟩ = some (.int .u8 x280000_34) := (blk_cell BK279.out 0).trans rfl; have hcz188_1 : w182.cell? ⟨gb279, 1, none⟩ = some (.int .i64 x280001_34) := (blk_cell BK279.out 1).trans rfl; have hcz188_2 : w182.cell? ⟨gb279, 2, none⟩ = some (.string x280002_34) := (blk_cell BK279.out 2).trans rfl; have hfz188_0 := blk_frozen BK279.out 0; have hfz188_1 := blk_frozen BK279.out 1; have hfz188_2 := blk_frozen BK279.out 2))
                    refine bodyPost_ret (results_ct rfl _ _ gb279 43 #[.int .u8 1, .int .i64 t308, .string (⟨#[]⟩ : ByteArray)] (0, 0) _ rfl (by (with_reducible repeat (first | refine blk_drewN ?_ _ | refine blk_drew ?_ | refine blk_alloc ?_ _)); refine blk_put (cs := #[.int .u8 1, .int .i64 t308, .string x280002_34]) ?_ 2 _ rfl; (with_reducible repeat (first | refine blk_drewN ?_ _ | refine blk_drew ?_ | refine blk_alloc ?_ _)); refine blk_put (cs := #[.int .u8 1, .int .i64 x280001_34, .string x280002_34]) ?_ 1 _ rfl; (with_reducible repeat (first | refine blk_drewN ?_ _ | refine blk_drew ?_ | refine blk_alloc ?_ _)); refine blk_put (cs := #[.int .u8 x280000_34, .int .i64 x280001_34, .string x280002_34]) ?_ 0 _ rfl; (with_reducible repeat (first | refine blk_drewN ?_ _ | refine blk_drew ?_ | refine blk_alloc ?_ _)); exact BK279.out) Try.underlying43 rfl (by kernel_rfl)) rfl ?_
                    exact ⟨by first | rfl | (simp [errW_none, errW_some] <;> rfl) | (simp [*, errW_none, errW_some] <;> rfl), bl⟩
                  · replace c173 := Bool.eq_false_iff.mpr c173
                    subst c173
                    have H1 : (some (0, 0, (⟨#[]⟩ : ByteArray), false)) = some (r1, r2, r3, r4) := by rw [if_neg (show ¬ (false = true) by decide)] at H; exact H
                    clear H
                    have H := H1
                    clear H1
                    simp only [Option.some.injEq, Prod.mk.injEq] at H
                    obtain ⟨rfl, rfl, rfl, rfl⟩ := H
                    have hnb189 := NB291_277.out
                    have hnc189 := NB277_291.out
                    have hnb190 := NB291_278.out
                    have hnc190 := NB278_291.out
                    have hnb191 := NB291_279.out
                    have hnc191 := NB279_291.out
                    have hnb192 := NB291_280.out
                    have hnc192 := NB280_291.out
                    have hnb193 := NB291_285.out
                    have hnc193 := NB285_291.out
                    have hnb194 := NB291_290.out
                    have hnc194 := NB290_291.out
                    have hcz195_0 : wc.cell? ⟨gb291, 0, none⟩ = some (.int .i64 x292000_34) := (blk_cell BK291.out 0).trans rfl
                    have hcz195_1 : wc.cell? ⟨gb291, 1, none⟩ = some (u292001) := (blk_cell BK291.out 1).trans rfl
                    have hfz195_0 := blk_frozen BK291.out 0
                    have hfz195_1 := blk_frozen BK291.out 1
                    obtain ⟨Ao196, co196, eo196⟩ := Kd.R_slice HO_292001.out
                    subst eo196
                    go_wp2_with (first | ((with_reducible refine gate_callee (f := 28) rfl ?_); refine goesL_ (some 60) rfl rfl Try.func28 (by kernel_rfl) rfl #[.agg #[.int .i64 x292000_34, .slice Ao196 x292001_34.length co196]] rfl am ?_; (with_reducible refine (rowlockref03_Right.calls kj135 x292000_34 _ _ x292001_34 t308 false _ ?side1 ?side2 A172.out).mono ?_); (case side1 => repeat (first | exact (Kd.R_reads' HO_292001.out).2.2 | (with_reducible refine Kd.C_alloc ?_ _) | (with_reducible refine Kd.C_drewN ?_ _) | (with_reducible refine Kd.C_drew ?_))); (case side2 => exact (Kd.R_reads' HO_292001.out).2.1); rintro e w197 ⟨rfl, hb⟩; refine ⟨_, rfl, ?_⟩; have n0_ := Aside0.mk (Kd.R_below (rk HO_286001) hb); have n1_ := Aside0.mk (Kd.R_below (rk HO_291001) hb); have n2_ := Aside0.mk (Kd.R_below (rk HO_292001) hb); have n3_ := Aside0.mk (bb (g := gb277) hb); have n4_ := Aside0.mk (bb (g := gb278) hb); have n5_ := Aside0.mk (bb (g := gb279) hb); have n6_ := Aside0.mk (bb (g := gb280) hb); have n7_ := Aside0.mk (bb (g := gb285) hb); have n8_ := Aside0.mk (bb (g := gb290) hb); have n9_ := Aside0.mk (bb (g := gb291) hb); have n10_ := Aside0.mk (below_step bl hb); clear HO_286001; clear HO_291001; clear HO_292001; clear BK277; clear BK278; clear BK279; clear BK280; clear BK285; clear BK290; clear BK291; clear HB; have HO_286001 := n0_; have HO_291001 := n1_; have HO_292001 := n2_; have BK277 := n3_; have BK278 := n4_; have BK279 := n5_; have BK280 := n6_; have BK285 := n7_; have BK290 := n8_; have BK291 := n9_; have HB := n10_; clear n0_ n1_ n2_ n3_ n4_ n5_ n6_ n7_ n8_ n9_ n10_; (try clear hb); (try clear hb2); (try clear hk); (try clear hi); have hnb198 := NB280_277.out; have hnc198 := NB277_280.out; have hnb199 := NB280_278.out; have hnc199 := NB278_280.out; have hnb200 := NB280_279.out; have hnc200 := NB279_280.out; have hnb201 := NB280_285.out; have hnc201 := NB285_280.out; have hnb202 := NB280_290.out; have hnc202 := NB290_280.out; have hcz203_0 : w197.cell? ⟨gb280, 0, none⟩ = some (.int .u8 0) := (blk_cell BK280.out 0).trans rfl; have hcz203_1 : w197.cell? ⟨gb280, 1, none⟩ = some (.int .i64 0) := (blk_cell BK280.out 1).trans rfl; have hcz203_2 : w197.cell? ⟨gb280, 2, none⟩ = some (.string (⟨#[]⟩ : ByteArray)) := (blk_cell BK280.out 2).trans rfl; have hfz203_0 := blk_frozen BK280.out 0; have hfz203_1 := blk_frozen BK280.out 1; have hfz203_2 := blk_frozen BK280.out 2; have hnb204 := NB279_277.out; have hnc204 := NB277_279.out; have hnb205 := NB279_278.out; have hnc205 := NB278_279.out; have hnb206 := NB279_285.out; have hnc206 := NB285_279.out; have hnb207 := NB279_290.out; have hnc207 := NB290_279.out; have hcz208_0 : w197.cell? ⟨gb279, 0, none⟩ = some (.int .u8 x280000_34) := (blk_cell BK279.out 0).trans rfl; have hcz208_1 : w197.cell? ⟨gb279, 1, none⟩ = some (.int .i64 x280001_34) := (blk_cell BK279.out 1).trans rfl; have hcz208_2 : w197.cell? ⟨gb279, 2, none⟩ = some (.string x280002_34) := (blk_cell BK279.out 2).trans rfl; have hfz208_0 := blk_frozen BK279.out 0; have hfz208_1 := blk_frozen BK279.out 1; have hfz208_2 := blk_frozen BK279.out 2))
                    refine bodyPost_ret (results_ct rfl _ _ gb279 43 #[.int .u8 0, .int .i64 0, .string (⟨#[]⟩ : ByteArray)] (0, 0) _ rfl (by (with_reducible repeat (first | refine blk_drewN ?_ _ | refine blk_drew ?_ | refine blk_alloc ?_ _)); refine blk_put (cs := #[.int .u8 0, .int .i64 0, .string x280002_34]) ?_ 2 _ rfl; (with_reducible repeat (first | refine blk_drewN ?_ _ | refine blk_drew ?_ | refine blk_alloc ?_ _)); refine blk_put (cs := #[.int .u8 0, .int .i64 x280001_34, .string x280002_34]) ?_ 1 _ rfl; (with_reducible repeat (first | refine blk_drewN ?_ _ | refine blk_drew ?_ | refine blk_alloc ?_ _)); refine blk_put (cs := #[.int .u8 x280000_34, .int .i64 x280001_34, .string x280002_34]) ?_ 0 _ rfl; (with_reducible repeat (first | refine blk_drewN ?_ _ | refine blk_drew ?_ | refine blk_alloc ?_ _)); exact BK279.out) Try.underlying43 rfl (by kernel_rfl)) rfl ?_
                    exact ⟨by first | rfl | (simp [errW_none, errW_some] <;> rfl) | (simp [*, errW_none, errW_some] <;> rfl), bl⟩

end Go.Proofs.Ytneihjdkaogkiaa.PCalcDo
