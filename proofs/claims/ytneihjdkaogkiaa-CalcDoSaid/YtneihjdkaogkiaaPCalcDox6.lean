-- printed for this claim by a copy of the printer that this session turned (wip/pp)
import Derived.Test.YtneihjdkaogkiaaPCalcDox0
import Derived.Test.YtneihjdkaogkiaaPCalcDox4
import Derived.Test.YtneihjdkaogkiaaPCalcDox5
namespace Go.Proofs.Ytneihjdkaogkiaa.PCalcDo
open Go.RowKit Go.Proofs.YtneihjdkaogkiaaW.PrintWords Go.Proofs.YtneihjdkaogkiaaW.PrintLast Go.Proofs.YtneihjdkaogkiaaW.PrintMore
attribute [local go_sem] max2_int min2_int max_two min_two max_three min_three max_four min_four   -- for this text's walks alone
set_option linter.unusedVariables false
set_option linter.unusedSimpArgs false

/-! ### calc_Do: function 23 -/
mutual
def calc_Do.j0 : Nat → ByteArray → Bool → Int → Int → ByteArray → Int → Int → ByteArray → Option (Int × Int × ByteArray × Bool)
  | 0, _, _, _, _, _, _, _, _ => none
  | k + 1, x0, x29, x161000, x161001, x161002, x162000, x162001, x162002 => if x29 = true then (some (0, 0, (⟨#[]⟩ : ByteArray), false)) else (if x161000 = 0 then (calc_Do.j1 k x0 true x161000 x161001 x161002 x162000 x162001 x162002) else (calc_Do.j1 k x0 (x162000 == 0) x161000 x161001 x161002 x162000 x162001 x162002))
def calc_Do.j1 : Nat → ByteArray → Bool → Int → Int → ByteArray → Int → Int → ByteArray → Option (Int × Int × ByteArray × Bool)
  | 0, _, _, _, _, _, _, _, _ => none
  | k + 1, x0, x38, x161000, x161001, x161002, x162000, x162001, x162002 => if x38 = true then (some (0, 0, (⟨#[]⟩ : ByteArray), true)) else (if x0.toList = ([43] : List UInt8) then ((calc_Add.f x161001 x162001).bind fun bt163 => (if bt163.2 = true then (some (1, bt163.1, (⟨#[]⟩ : ByteArray), true)) else (some (0, 0, (⟨#[]⟩ : ByteArray), false)))) else (if x0.toList = ([45] : List UInt8) then ((calc_Sub.f x161001 x162001).bind fun bt165 => (if bt165.2 = true then (some (1, bt165.1, (⟨#[]⟩ : ByteArray), true)) else (some (0, 0, (⟨#[]⟩ : ByteArray), false)))) else (if x0.toList = ([42] : List UInt8) then ((calc_Mul.f x161001 x162001).bind fun bt167 => (if bt167.2 = true then (some (1, bt167.1, (⟨#[]⟩ : ByteArray), true)) else (some (0, 0, (⟨#[]⟩ : ByteArray), false)))) else (some (0, 0, (⟨#[]⟩ : ByteArray), false)))))
end
def calc_Do.f (k : Nat) (a0 : ByteArray) (a1_0 : Int) (a1_1 : Int) (a1_2 : ByteArray) (a2_0 : Int) (a2_1 : Int) (a2_2 : ByteArray) : Option (Int × Int × ByteArray × Bool) := if a1_0 > 1 then (calc_Do.j0 k a0 true a1_0 a1_1 a1_2 a2_0 a2_1 a2_2) else (if a2_0 > 1 then (calc_Do.j0 k a0 true a1_0 a1_1 a1_2 a2_0 a2_1 a2_2) else (if a0.toList = ([43] : List UInt8) then (calc_Do.j0 k a0 false a1_0 a1_1 a1_2 a2_0 a2_1 a2_2) else (if a0.toList = ([45] : List UInt8) then (calc_Do.j0 k a0 false a1_0 a1_1 a1_2 a2_0 a2_1 a2_2) else (calc_Do.j0 k a0 (a0.toList != ([42] : List UInt8)) a1_0 a1_1 a1_2 a2_0 a2_1 a2_2))))
theorem calc_Do.mono_l : ∀ k, (∀ y0 y1 y2 y3 y4 y5 y6 y7, LeO (calc_Do.j0 k y0 y1 y2 y3 y4 y5 y6 y7) (calc_Do.j0 (k + 1) y0 y1 y2 y3 y4 y5 y6 y7)) ∧ (∀ y0 y1 y2 y3 y4 y5 y6 y7, LeO (calc_Do.j1 k y0 y1 y2 y3 y4 y5 y6 y7) (calc_Do.j1 (k + 1) y0 y1 y2 y3 y4 y5 y6 y7))
  | 0 => ⟨fun _ _ _ _ _ _ _ _ r h => by simp [calc_Do.j0] at h, fun _ _ _ _ _ _ _ _ r h => by simp [calc_Do.j1] at h⟩
  | k + 1 => by
    obtain ⟨ih0, ih1⟩ := calc_Do.mono_l k
    refine ⟨?_, ?_⟩
    · intro y0 y1 y2 y3 y4 y5 y6 y7
      unfold calc_Do.j0
      repeat' first
      | (with_reducible exact ih0 _ _ _ _ _ _ _ _)
      | (with_reducible exact ih1 _ _ _ _ _ _ _ _)
      | (with_reducible exact LeO.refl _)
      | (with_reducible exact LeO.none _)
      | (with_reducible refine LeO.ite ?_ ?_)
      | (with_reducible refine LeO.bind ?_ (fun _ => ?_))
      | exact ih0 _ _ _ _ _ _ _ _
      | exact ih1 _ _ _ _ _ _ _ _
      | exact LeO.none _
      | refine LeO.ite ?_ ?_
      | refine LeO.bind ?_ (fun _ => ?_)
    · intro y0 y1 y2 y3 y4 y5 y6 y7
      unfold calc_Do.j1
      repeat' first
      | (with_reducible exact ih0 _ _ _ _ _ _ _ _)
      | (with_reducible exact ih1 _ _ _ _ _ _ _ _)
      | (with_reducible exact LeO.refl _)
      | (with_reducible exact LeO.none _)
      | (with_reducible refine LeO.ite ?_ ?_)
      | (with_reducible refine LeO.bind ?_ (fun _ => ?_))
      | exact ih0 _ _ _ _ _ _ _ _
      | exact ih1 _ _ _ _ _ _ _ _
      | exact LeO.none _
      | refine LeO.ite ?_ ?_
      | refine LeO.bind ?_ (fun _ => ?_)
theorem calc_Do.mono : ∀ a0 a1 a2 a3 a4 a5 a6 k, LeO (calc_Do.f k a0 a1 a2 a3 a4 a5 a6) (calc_Do.f (k + 1) a0 a1 a2 a3 a4 a5 a6) := by
  intro a0 a1 a2 a3 a4 a5 a6 k
  obtain ⟨ih0, ih1⟩ := calc_Do.mono_l k
  unfold calc_Do.f
  repeat' first
      | (with_reducible exact ih0 _ _ _ _ _ _ _ _)
      | (with_reducible exact ih1 _ _ _ _ _ _ _ _)
      | (with_reducible exact LeO.refl _)
      | (with_reducible exact LeO.none _)
      | (with_reducible refine LeO.ite ?_ ?_)
      | (with_reducible refine LeO.bind ?_ (fun _ => ?_))
      | exact ih0 _ _ _ _ _ _ _ _
      | exact ih1 _ _ _ _ _ _ _ _
      | exact LeO.none _
      | refine LeO.ite ?_ ?_
      | refine LeO.bind ?_ (fun _ => ?_)
set_option maxHeartbeats 8000000 in
set_option maxRecDepth 100000 in
theorem calc_Do.calls (k : Nat) (a0 : ByteArray) (a1_0 : Int) (a1_1 : Int) (a1_2 : ByteArray) (a2_0 : Int) (a2_1 : Int) (a2_2 : ByteArray) (r1 : Int) (r2 : Int) (r3 : ByteArray) (r4 : Bool) (w : World) (h : calc_Do.f k a0 a1_0 a1_1 a1_2 a2_0 a2_1 a2_2 = some (r1, r2, r3, r4)) :
    Calls Try.prog 23 #[.string a0, .agg #[.int .u8 a1_0, .int .i64 a1_1, .string a1_2], .agg #[.int .u8 a2_0, .int .i64 a2_1, .string a2_2]] w fun e w' => e = .returned (.tuple #[.agg #[.int .u8 r1, .int .i64 r2, .string r3], .bool r4]) ∧ Below w.heap.size w w' := by
  have hu43 := Try.underlying43
  have HB := Aside0.mk (Below.refl w.heap.size w)
  have H : (if a1_0 > 1 then (calc_Do.j0 k a0 true a1_0 a1_1 a1_2 a2_0 a2_1 a2_2) else (if a2_0 > 1 then (calc_Do.j0 k a0 true a1_0 a1_1 a1_2 a2_0 a2_1 a2_2) else (if a0.toList = ([43] : List UInt8) then (calc_Do.j0 k a0 false a1_0 a1_1 a1_2 a2_0 a2_1 a2_2) else (if a0.toList = ([45] : List UInt8) then (calc_Do.j0 k a0 false a1_0 a1_1 a1_2 a2_0 a2_1 a2_2) else (calc_Do.j0 k a0 (a0.toList != ([42] : List UInt8)) a1_0 a1_1 a1_2 a2_0 a2_1 a2_2))))) = some (r1, r2, r3, r4) := h
  clear h
  have HC4 := Aside0.mk H
  clear H
  go_enter Try.func23, Try.ntmps23
  go_upto_region 1 with (first | ((with_reducible refine gate_dst (N := 4) rfl ?_); refine box_event ?hg (N := 4) ?hd (cs := #[.int .u8 a1_0, .int .i64 a1_1, .string a1_2]) (t := 43) ?hr ?_; (case hd => rfl); (case hg => rfl); (case hr => first | (go_simp; done) | (go_simp; rfl)); intro gb160 hg w5 hbox hb; have n0_ := Aside0.mk (below_step bl hb); have n1_ := Aside0.mk (hbox); have n2_ := Aside0.mk ((sz hg : w.heap.size ≤ gb160)); have n3_ := Aside0.mk ((sz hg : w.heap.size ≤ gb160)); clear HB; have HB := n0_; have BK160 := n1_; have GW160 := n2_; have GE160 := n3_; clear n0_ n1_ n2_ n3_; clear hb hbox hg) | ((with_reducible refine gate_dst (N := 5) rfl ?_); refine box_event ?hg (N := 5) ?hd (cs := #[.int .u8 a2_0, .int .i64 a2_1, .string a2_2]) (t := 43) ?hr ?_; (case hd => rfl); (case hg => rfl); (case hr => first | (go_simp; done) | (go_simp; rfl)); intro gb161 hg w6 hbox hb; have n0_ := Aside0.mk (bb (g := gb160) hb); have n1_ := Aside0.mk (below_step bl hb); have n2_ := Aside0.mk (hbox); have n3_ := Aside0.mk ((sz hg : w.heap.size ≤ gb161)); have n4_ := Aside0.mk ((sz hg : w.heap.size ≤ gb161)); have n5_ := Aside0.mk ((nl hg : gb160 ≠ gb161)); have n6_ := Aside0.mk ((ng hg : gb161 ≠ gb160)); clear BK160; clear HB; have BK160 := n0_; have HB := n1_; have BK161 := n2_; have GW161 := n3_; have GE161 := n4_; have NB160_161 := n5_; have NB161_160 := n6_; clear n0_ n1_ n2_ n3_ n4_ n5_ n6_; clear hb hbox hg) | ((with_reducible refine gate_dst (N := 6) rfl ?_); refine box_event ?hg (N := 6) ?hd (cs := #[.int .u8 0, .int .i64 0, .string (⟨#[]⟩ : ByteArray)]) (t := 43) ?hr ?_; (case hd => rfl); (case hg => rfl); (case hr => first | (go_simp; done) | (go_simp; rfl)); intro gb162 hg w7 hbox hb; have n0_ := Aside0.mk (bb (g := gb160) hb); have n1_ := Aside0.mk (bb (g := gb161) hb); have n2_ := Aside0.mk (below_step bl hb); have n3_ := Aside0.mk (hbox); have n4_ := Aside0.mk ((sz hg : w.heap.size ≤ gb162)); have n5_ := Aside0.mk ((sz hg : w.heap.size ≤ gb162)); have n6_ := Aside0.mk ((nl hg : gb160 ≠ gb162)); have n7_ := Aside0.mk ((ng hg : gb162 ≠ gb160)); have n8_ := Aside0.mk ((nl hg : gb161 ≠ gb162)); have n9_ := Aside0.mk ((ng hg : gb162 ≠ gb161)); clear BK160; clear BK161; clear HB; have BK160 := n0_; have BK161 := n1_; have HB := n2_; have BK162 := n3_; have GW162 := n4_; have GE162 := n5_; have NB160_162 := n6_; have NB162_160 := n7_; have NB161_162 := n8_; have NB162_161 := n9_; clear n0_ n1_ n2_ n3_ n4_ n5_ n6_ n7_ n8_ n9_; clear hb hbox hg))
  (try simp only [Act.put, List.setIfInBounds_toArray, List.set_cons_zero, List.set_cons_succ])
  go_cut [29] (fun v29 wc => ∃ (kq : Nat) (x29_3 : Bool), v29 = .bool x29_3 ∧ Aside0 (calc_Do.j0 kq a0 x29_3 a1_0 a1_1 a1_2 a2_0 a2_1 a2_2 = some (r1, r2, r3, r4)) ∧ Aside0 (kq ≤ k) ∧ Aside0 (wc.heap[gb160]? = some (.cells #[.int .u8 a1_0, .int .i64 a1_1, .string a1_2] 43 (0, 0))) ∧ Aside0 (wc.heap[gb161]? = some (.cells #[.int .u8 a2_0, .int .i64 a2_1, .string a2_2] 43 (0, 0))) ∧ Aside0 (wc.heap[gb162]? = some (.cells #[.int .u8 0, .int .i64 0, .string (⟨#[]⟩ : ByteArray)] 43 (0, 0))) ∧ Aside0 (Below w.heap.size w wc))
  case first =>
    have H := HC4.out
    clear HC4
    by_cases c8 : a1_0 > 1
    · rw [if_pos c8] at H
      have c8b0 : decide (1 < a1_0) = true := decide_eq_true c8
      clear c8
      (first | rw [c8b0] | (simp only [i64_w, i32_w]; rw [c8b0]) | skip)
      have H' := Aside0.mk H
      clear H
      have hnb9 := NB160_161.out
      have hnc9 := NB161_160.out
      have hnb10 := NB160_162.out
      have hnc10 := NB162_160.out
      have hcz11_0 : w7.cell? ⟨gb160, 0, none⟩ = some (.int .u8 a1_0) := (blk_cell BK160.out 0).trans rfl
      have hcz11_1 : w7.cell? ⟨gb160, 1, none⟩ = some (.int .i64 a1_1) := (blk_cell BK160.out 1).trans rfl
      have hcz11_2 : w7.cell? ⟨gb160, 2, none⟩ = some (.string a1_2) := (blk_cell BK160.out 2).trans rfl
      have hfz11_0 := blk_frozen BK160.out 0
      have hfz11_1 := blk_frozen BK160.out 1
      have hfz11_2 := blk_frozen BK160.out 2
      go_wp2
      go_meet
      case rel => exact ⟨_, (true), (by first | rfl | (simp; done) | (simp [*]; done)), H', ⟨by first | omega | exact Nat.le_refl _⟩, ⟨pk⟩, ⟨pk⟩, ⟨pk⟩, ⟨bl⟩⟩
    · rw [if_neg c8] at H
      have c8b0 : decide (1 < a1_0) = false := decide_eq_false c8
      clear c8
      (first | rw [c8b0] | (simp only [i64_w, i32_w]; rw [c8b0]) | skip)
      by_cases c12 : a2_0 > 1
      · rw [if_pos c12] at H
        have c12b0 : decide (1 < a2_0) = true := decide_eq_true c12
        clear c12
        have H' := Aside0.mk H
        clear H
        have hnb13 := NB160_161.out
        have hnc13 := NB161_160.out
        have hnb14 := NB160_162.out
        have hnc14 := NB162_160.out
        have hcz15_0 : w7.cell? ⟨gb160, 0, none⟩ = some (.int .u8 a1_0) := (blk_cell BK160.out 0).trans rfl
        have hcz15_1 : w7.cell? ⟨gb160, 1, none⟩ = some (.int .i64 a1_1) := (blk_cell BK160.out 1).trans rfl
        have hcz15_2 : w7.cell? ⟨gb160, 2, none⟩ = some (.string a1_2) := (blk_cell BK160.out 2).trans rfl
        have hfz15_0 := blk_frozen BK160.out 0
        have hfz15_1 := blk_frozen BK160.out 1
        have hfz15_2 := blk_frozen BK160.out 2
        have hnb16 := NB161_162.out
        have hnc16 := NB162_161.out
        have hcz17_0 : w7.cell? ⟨gb161, 0, none⟩ = some (.int .u8 a2_0) := (blk_cell BK161.out 0).trans rfl
        have hcz17_1 : w7.cell? ⟨gb161, 1, none⟩ = some (.int .i64 a2_1) := (blk_cell BK161.out 1).trans rfl
        have hcz17_2 : w7.cell? ⟨gb161, 2, none⟩ = some (.string a2_2) := (blk_cell BK161.out 2).trans rfl
        have hfz17_0 := blk_frozen BK161.out 0
        have hfz17_1 := blk_frozen BK161.out 1
        have hfz17_2 := blk_frozen BK161.out 2
        go_wp2
        go_meet
        case rel => exact ⟨_, (true), (by first | rfl | (simp; done) | (simp [*]; done)), H', ⟨by first | omega | exact Nat.le_refl _⟩, ⟨pk⟩, ⟨pk⟩, ⟨pk⟩, ⟨bl⟩⟩
      · rw [if_neg c12] at H
        have c12b0 : decide (1 < a2_0) = false := decide_eq_false c12
        clear c12
        by_cases c18 : a0.toList = ([43] : List UInt8)
        · rw [if_pos c18] at H
          have c18b0 : (a0.toList == ([43] : List UInt8)) = true := beq_iff_eq.mpr c18
          have c18b1 : (a0.toList != ([43] : List UInt8)) = false := bne_eq_false_iff_eq.mpr c18
          clear c18
          have H' := Aside0.mk H
          clear H
          have hnb19 := NB160_161.out
          have hnc19 := NB161_160.out
          have hnb20 := NB160_162.out
          have hnc20 := NB162_160.out
          have hcz21_0 : w7.cell? ⟨gb160, 0, none⟩ = some (.int .u8 a1_0) := (blk_cell BK160.out 0).trans rfl
          have hcz21_1 : w7.cell? ⟨gb160, 1, none⟩ = some (.int .i64 a1_1) := (blk_cell BK160.out 1).trans rfl
          have hcz21_2 : w7.cell? ⟨gb160, 2, none⟩ = some (.string a1_2) := (blk_cell BK160.out 2).trans rfl
          have hfz21_0 := blk_frozen BK160.out 0
          have hfz21_1 := blk_frozen BK160.out 1
          have hfz21_2 := blk_frozen BK160.out 2
          have hnb22 := NB161_162.out
          have hnc22 := NB162_161.out
          have hcz23_0 : w7.cell? ⟨gb161, 0, none⟩ = some (.int .u8 a2_0) := (blk_cell BK161.out 0).trans rfl
          have hcz23_1 : w7.cell? ⟨gb161, 1, none⟩ = some (.int .i64 a2_1) := (blk_cell BK161.out 1).trans rfl
          have hcz23_2 : w7.cell? ⟨gb161, 2, none⟩ = some (.string a2_2) := (blk_cell BK161.out 2).trans rfl
          have hfz23_0 := blk_frozen BK161.out 0
          have hfz23_1 := blk_frozen BK161.out 1
          have hfz23_2 := blk_frozen BK161.out 2
          go_wp2
          go_meet
          case rel => exact ⟨_, (false), (by first | rfl | (simp; done) | (simp [*]; done)), H', ⟨by first | omega | exact Nat.le_refl _⟩, ⟨pk⟩, ⟨pk⟩, ⟨pk⟩, ⟨bl⟩⟩
        · rw [if_neg c18] at H
          have c18b0 : (a0.toList == ([43] : List UInt8)) = false := beq_eq_false_iff_ne.mpr c18
          have c18b1 : (a0.toList != ([43] : List UInt8)) = true := bne_iff_ne.mpr c18
          by_cases c24 : a0.toList = ([45] : List UInt8)
          · rw [if_pos c24] at H
            have c24b0 : (a0.toList == ([45] : List UInt8)) = true := beq_iff_eq.mpr c24
            have c24b1 : (a0.toList != ([45] : List UInt8)) = false := bne_eq_false_iff_eq.mpr c24
            clear c24
            have H' := Aside0.mk H
            clear H
            have hnb25 := NB160_161.out
            have hnc25 := NB161_160.out
            have hnb26 := NB160_162.out
            have hnc26 := NB162_160.out
            have hcz27_0 : w7.cell? ⟨gb160, 0, none⟩ = some (.int .u8 a1_0) := (blk_cell BK160.out 0).trans rfl
            have hcz27_1 : w7.cell? ⟨gb160, 1, none⟩ = some (.int .i64 a1_1) := (blk_cell BK160.out 1).trans rfl
            have hcz27_2 : w7.cell? ⟨gb160, 2, none⟩ = some (.string a1_2) := (blk_cell BK160.out 2).trans rfl
            have hfz27_0 := blk_frozen BK160.out 0
            have hfz27_1 := blk_frozen BK160.out 1
            have hfz27_2 := blk_frozen BK160.out 2
            have hnb28 := NB161_162.out
            have hnc28 := NB162_161.out
            have hcz29_0 : w7.cell? ⟨gb161, 0, none⟩ = some (.int .u8 a2_0) := (blk_cell BK161.out 0).trans rfl
            have hcz29_1 : w7.cell? ⟨gb161, 1, none⟩ = some (.int .i64 a2_1) := (blk_cell BK161.out 1).trans rfl
            have hcz29_2 : w7.cell? ⟨gb161, 2, none⟩ = some (.string a2_2) := (blk_cell BK161.out 2).trans rfl
            have hfz29_0 := blk_frozen BK161.out 0
            have hfz29_1 := blk_frozen BK161.out 1
            have hfz29_2 := blk_frozen BK161.out 2
            go_wp2
            go_meet
            case rel => exact ⟨_, (false), (by first | rfl | (simp; done) | (simp [*]; done)), H', ⟨by first | omega | exact Nat.le_refl _⟩, ⟨pk⟩, ⟨pk⟩, ⟨pk⟩, ⟨bl⟩⟩
          · rw [if_neg c24] at H
            have c24b0 : (a0.toList == ([45] : List UInt8)) = false := beq_eq_false_iff_ne.mpr c24
            have c24b1 : (a0.toList != ([45] : List UInt8)) = true := bne_iff_ne.mpr c24
            have H' := Aside0.mk H
            clear H
            have hnb30 := NB160_161.out
            have hnc30 := NB161_160.out
            have hnb31 := NB160_162.out
            have hnc31 := NB162_160.out
            have hcz32_0 : w7.cell? ⟨gb160, 0, none⟩ = some (.int .u8 a1_0) := (blk_cell BK160.out 0).trans rfl
            have hcz32_1 : w7.cell? ⟨gb160, 1, none⟩ = some (.int .i64 a1_1) := (blk_cell BK160.out 1).trans rfl
            have hcz32_2 : w7.cell? ⟨gb160, 2, none⟩ = some (.string a1_2) := (blk_cell BK160.out 2).trans rfl
            have hfz32_0 := blk_frozen BK160.out 0
            have hfz32_1 := blk_frozen BK160.out 1
            have hfz32_2 := blk_frozen BK160.out 2
            have hnb33 := NB161_162.out
            have hnc33 := NB162_161.out
            have hcz34_0 : w7.cell? ⟨gb161, 0, none⟩ = some (.int .u8 a2_0) := (blk_cell BK161.out 0).trans rfl
            have hcz34_1 : w7.cell? ⟨gb161, 1, none⟩ = some (.int .i64 a2_1) := (blk_cell BK161.out 1).trans rfl
            have hcz34_2 : w7.cell? ⟨gb161, 2, none⟩ = some (.string a2_2) := (blk_cell BK161.out 2).trans rfl
            have hfz34_0 := blk_frozen BK161.out 0
            have hfz34_1 := blk_frozen BK161.out 1
            have hfz34_2 := blk_frozen BK161.out 2
            go_wp2
            go_meet
            case rel => exact ⟨_, ((a0.toList != ([42] : List UInt8))), (by first | rfl | (simp; done) | (simp [*]; done)), H', ⟨by first | omega | exact Nat.le_refl _⟩, ⟨pk⟩, ⟨pk⟩, ⟨pk⟩, ⟨bl⟩⟩
  case rest =>
    clear HC4
    try clear c1
    try clear c2
    try clear p2
    try clear c3
    try clear c8
    try clear c8b0
    try clear c9
    try clear c10
    try clear c12
    try clear c12b0
    try clear c13
    try clear c14
    try clear c16
    try clear c18
    try clear c18b0
    try clear c18b1
    try clear c19
    try clear c20
    try clear c22
    try clear c23
    try clear c24
    try clear c24b0
    try clear c24b1
    try clear c25
    try clear c26
    try clear c28
    try clear c30
    try clear c31
    try clear c33
    try clear hcz11_0
    try clear hcz11_1
    try clear hcz11_2
    try clear hcz15_0
    try clear hcz15_1
    try clear hcz15_2
    try clear hcz17_0
    try clear hcz17_1
    try clear hcz17_2
    try clear hcz21_0
    try clear hcz21_1
    try clear hcz21_2
    try clear hcz23_0
    try clear hcz23_1
    try clear hcz23_2
    try clear hcz27_0
    try clear hcz27_1
    try clear hcz27_2
    try clear hcz29_0
    try clear hcz29_1
    try clear hcz29_2
    try clear hcz32_0
    try clear hcz32_1
    try clear hcz32_2
    try clear hcz34_0
    try clear hcz34_1
    try clear hcz34_2
    try clear hfz11_0
    try clear hfz11_1
    try clear hfz11_2
    try clear hfz15_0
    try clear hfz15_1
    try clear hfz15_2
    try clear hfz17_0
    try clear hfz17_1
    try clear hfz17_2
    try clear hfz21_0
    try clear hfz21_1
    try clear hfz21_2
    try clear hfz23_0
    try clear hfz23_1
    try clear hfz23_2
    try clear hfz27_0
    try clear hfz27_1
    try clear hfz27_2
    try clear hfz29_0
    try clear hfz29_1
    try clear hfz29_2
    try clear hfz32_0
    try clear hfz32_1
    try clear hfz32_2
    try clear hfz34_0
    try clear hfz34_1
    try clear hfz34_2
    obtain ⟨kq, x29_3, rfl, HA, HJ3, BK160, BK161, BK162, HB⟩ := hcut
    cases kq with
    | zero => exact absurd HA.out (by simp [calc_Do.j0])
    | succ kj3 =>
      have H := HA.out
      clear HA
      simp only [calc_Do.j0] at H
      by_cases c35 : x29_3 = true
      · subst c35
        have H1 : (some (0, 0, (⟨#[]⟩ : ByteArray), false)) = some (r1, r2, r3, r4) := by rw [if_pos rfl] at H; exact H
        clear H
        have H := H1
        clear H1
        simp only [Option.some.injEq, Prod.mk.injEq] at H
        obtain ⟨rfl, rfl, rfl, rfl⟩ := H
        have hnb36 := NB162_160.out
        have hnc36 := NB160_162.out
        have hnb37 := NB162_161.out
        have hnc37 := NB161_162.out
        have hcz38_0 : wc.cell? ⟨gb162, 0, none⟩ = some (.int .u8 0) := (blk_cell BK162.out 0).trans rfl
        have hcz38_1 : wc.cell? ⟨gb162, 1, none⟩ = some (.int .i64 0) := (blk_cell BK162.out 1).trans rfl
        have hcz38_2 : wc.cell? ⟨gb162, 2, none⟩ = some (.string (⟨#[]⟩ : ByteArray)) := (blk_cell BK162.out 2).trans rfl
        have hfz38_0 := blk_frozen BK162.out 0
        have hfz38_1 := blk_frozen BK162.out 1
        have hfz38_2 := blk_frozen BK162.out 2
        go_wp2
        refine bodyPost_ret (results_ct rfl _ _ gb162 43 #[.int .u8 0, .int .i64 0, .string (⟨#[]⟩ : ByteArray)] (0, 0) _ rfl (by (with_reducible repeat (first | refine blk_drewN ?_ _ | refine blk_drew ?_ | refine blk_alloc ?_ _)); refine blk_put (cs := #[.int .u8 0, .int .i64 0, .string (⟨#[]⟩ : ByteArray)]) ?_ 2 _ rfl; (with_reducible repeat (first | refine blk_drewN ?_ _ | refine blk_drew ?_ | refine blk_alloc ?_ _)); refine blk_put (cs := #[.int .u8 0, .int .i64 0, .string (⟨#[]⟩ : ByteArray)]) ?_ 1 _ rfl; (with_reducible repeat (first | refine blk_drewN ?_ _ | refine blk_drew ?_ | refine blk_alloc ?_ _)); refine blk_put (cs := #[.int .u8 0, .int .i64 0, .string (⟨#[]⟩ : ByteArray)]) ?_ 0 _ rfl; (with_reducible repeat (first | refine blk_drewN ?_ _ | refine blk_drew ?_ | refine blk_alloc ?_ _)); exact BK162.out) Try.underlying43 rfl (by kernel_rfl)) rfl ?_
        exact ⟨by first | rfl | (simp [errW_none, errW_some] <;> rfl) | (simp [*, errW_none, errW_some] <;> rfl), bl⟩
      · replace c35 := Bool.eq_false_iff.mpr c35
        subst c35
        have H1 : (if a1_0 = 0 then (calc_Do.j1 kj3 a0 true a1_0 a1_1 a1_2 a2_0 a2_1 a2_2) else (calc_Do.j1 kj3 a0 (a2_0 == 0) a1_0 a1_1 a1_2 a2_0 a2_1 a2_2)) = some (r1, r2, r3, r4) := by rw [if_neg (show ¬ (false = true) by decide)] at H; exact H
        clear H
        have H := H1
        clear H1
        have HC39 := Aside0.mk H
        clear H
        go_upto_region 3 with (fail)
        go_cut [38] (fun v38 wc => ∃ (kq : Nat) (x38_38 : Bool), v38 = .bool x38_38 ∧ Aside0 (calc_Do.j1 kq a0 x38_38 a1_0 a1_1 a1_2 a2_0 a2_1 a2_2 = some (r1, r2, r3, r4)) ∧ Aside0 (kq ≤ kj3) ∧ Aside0 (wc.heap[gb160]? = some (.cells #[.int .u8 a1_0, .int .i64 a1_1, .string a1_2] 43 (0, 0))) ∧ Aside0 (wc.heap[gb161]? = some (.cells #[.int .u8 a2_0, .int .i64 a2_1, .string a2_2] 43 (0, 0))) ∧ Aside0 (wc.heap[gb162]? = some (.cells #[.int .u8 0, .int .i64 0, .string (⟨#[]⟩ : ByteArray)] 43 (0, 0))) ∧ Aside0 (Below w.heap.size w wc))
        case first =>
          have H := HC39.out
          clear HC39
          by_cases c40 : a1_0 = 0
          · rw [if_pos c40] at H
            have c40b0 : (a1_0 == 0) = true := beq_iff_eq.mpr c40
            have c40b1 : (a1_0 != 0) = false := bne_eq_false_iff_eq.mpr c40
            clear c40
            (first | rw [c40b0] | (simp only [i64_w, i32_w]; rw [c40b0]) | skip)
            have H' := Aside0.mk H
            clear H
            have hnb41 := NB160_161.out
            have hnc41 := NB161_160.out
            have hnb42 := NB160_162.out
            have hnc42 := NB162_160.out
            have hcz43_0 : wc.cell? ⟨gb160, 0, none⟩ = some (.int .u8 a1_0) := (blk_cell BK160.out 0).trans rfl
            have hcz43_1 : wc.cell? ⟨gb160, 1, none⟩ = some (.int .i64 a1_1) := (blk_cell BK160.out 1).trans rfl
            have hcz43_2 : wc.cell? ⟨gb160, 2, none⟩ = some (.string a1_2) := (blk_cell BK160.out 2).trans rfl
            have hfz43_0 := blk_frozen BK160.out 0
            have hfz43_1 := blk_frozen BK160.out 1
            have hfz43_2 := blk_frozen BK160.out 2
            go_wp2
            go_meet
            case rel => exact ⟨_, (true), (by first | rfl | (simp; done) | (simp [*]; done)), H', ⟨by have := HJ3.out; first | omega | exact Nat.le_refl _⟩, ⟨pk⟩, ⟨pk⟩, ⟨pk⟩, ⟨bl⟩⟩
          · rw [if_neg c40] at H
            have c40b0 : (a1_0 == 0) = false := beq_eq_false_iff_ne.mpr c40
            have c40b1 : (a1_0 != 0) = true := bne_iff_ne.mpr c40
            (first | rw [c40b0] | (simp only [i64_w, i32_w]; rw [c40b0]) | skip)
            have H' := Aside0.mk H
            clear H
            have hnb44 := NB160_161.out
            have hnc44 := NB161_160.out
            have hnb45 := NB160_162.out
            have hnc45 := NB162_160.out
            have hcz46_0 : wc.cell? ⟨gb160, 0, none⟩ = some (.int .u8 a1_0) := (blk_cell BK160.out 0).trans rfl
            have hcz46_1 : wc.cell? ⟨gb160, 1, none⟩ = some (.int .i64 a1_1) := (blk_cell BK160.out 1).trans rfl
            have hcz46_2 : wc.cell? ⟨gb160, 2, none⟩ = some (.string a1_2) := (blk_cell BK160.out 2).trans rfl
            have hfz46_0 := blk_frozen BK160.out 0
            have hfz46_1 := blk_frozen BK160.out 1
            have hfz46_2 := blk_frozen BK160.out 2
            have hnb47 := NB161_162.out
            have hnc47 := NB162_161.out
            have hcz48_0 : wc.cell? ⟨gb161, 0, none⟩ = some (.int .u8 a2_0) := (blk_cell BK161.out 0).trans rfl
            have hcz48_1 : wc.cell? ⟨gb161, 1, none⟩ = some (.int .i64 a2_1) := (blk_cell BK161.out 1).trans rfl
            have hcz48_2 : wc.cell? ⟨gb161, 2, none⟩ = some (.string a2_2) := (blk_cell BK161.out 2).trans rfl
            have hfz48_0 := blk_frozen BK161.out 0
            have hfz48_1 := blk_frozen BK161.out 1
            have hfz48_2 := blk_frozen BK161.out 2
            go_wp2
            go_meet
            case rel => exact ⟨_, ((a2_0 == 0)), (by first | rfl | (simp; done) | (simp [*]; done)), H', ⟨by have := HJ3.out; first | omega | exact Nat.le_refl _⟩, ⟨pk⟩, ⟨pk⟩, ⟨pk⟩, ⟨bl⟩⟩
        case rest =>
          clear HC39
          try clear c1
          try clear c2
          try clear p2
          try clear c3
          try clear c4
          try clear c8
          try clear c8b0
          try clear c9
          try clear c10
          try clear c12
          try clear c12b0
          try clear c13
          try clear c14
          try clear c16
          try clear c18
          try clear c18b0
          try clear c18b1
          try clear c19
          try clear c20
          try clear c22
          try clear c23
          try clear c24
          try clear c24b0
          try clear c24b1
          try clear c25
          try clear c26
          try clear c28
          try clear c30
          try clear c31
          try clear c33
          try clear c35
          try clear c36
          try clear c37
          try clear c40
          try clear c40b0
          try clear c40b1
          try clear c41
          try clear c42
          try clear c44
          try clear c45
          try clear c47
          try clear hcz11_0
          try clear hcz11_1
          try clear hcz11_2
          try clear hcz15_0
          try clear hcz15_1
          try clear hcz15_2
          try clear hcz17_0
          try clear hcz17_1
          try clear hcz17_2
          try clear hcz21_0
          try clear hcz21_1
          try clear hcz21_2
          try clear hcz23_0
          try clear hcz23_1
          try clear hcz23_2
          try clear hcz27_0
          try clear hcz27_1
          try clear hcz27_2
          try clear hcz29_0
          try clear hcz29_1
          try clear hcz29_2
          try clear hcz32_0
          try clear hcz32_1
          try clear hcz32_2
          try clear hcz34_0
          try clear hcz34_1
          try clear hcz34_2
          try clear hcz38_0
          try clear hcz38_1
          try clear hcz38_2
          try clear hcz43_0
          try clear hcz43_1
          try clear hcz43_2
          try clear hcz46_0
          try clear hcz46_1
          try clear hcz46_2
          try clear hcz48_0
          try clear hcz48_1
          try clear hcz48_2
          try clear hfz11_0
          try clear hfz11_1
          try clear hfz11_2
          try clear hfz15_0
          try clear hfz15_1
          try clear hfz15_2
          try clear hfz17_0
          try clear hfz17_1
          try clear hfz17_2
          try clear hfz21_0
          try clear hfz21_1
          try clear hfz21_2
          try clear hfz23_0
          try clear hfz23_1
          try clear hfz23_2
          try clear hfz27_0
          try clear hfz27_1
          try clear hfz27_2
          try clear hfz29_0
          try clear hfz29_1
          try clear hfz29_2
          try clear hfz32_0
          try clear hfz32_1
          try clear hfz32_2
          try clear hfz34_0
          try clear hfz34_1
          try clear hfz34_2
          try clear hfz38_0
          try clear hfz38_1
          try clear hfz38_2
          try clear hfz43_0
          try clear hfz43_1
          try clear hfz43_2
          try clear hfz46_0
          try clear hfz46_1
          try clear hfz46_2
          try clear hfz48_0
          try clear hfz48_1
          try clear hfz48_2
          try clear p2
          obtain ⟨kq, x38_38, rfl, HA, HJ38, BK160, BK161, BK162, HB⟩ := hcut
          cases kq with
          | zero => exact absurd HA.out (by simp [calc_Do.j1])
          | succ kj38 =>
            have H := HA.out
            clear HA
            simp only [calc_Do.j1] at H
            by_cases c49 : x38_38 = true
            · subst c49
              have H1 : (some (0, 0, (⟨#[]⟩ : ByteArray), true)) = some (r1, r2, r3, r4) := by rw [if_pos rfl] at H; exact H
              clear H
              have H := H1
              clear H1
              simp only [Option.some.injEq, Prod.mk.injEq] at H
              obtain ⟨rfl, rfl, rfl, rfl⟩ := H
              have hnb50 := NB162_160.out
              have hnc50 := NB160_162.out
              have hnb51 := NB162_161.out
              have hnc51 := NB161_162.out
              have hcz52_0 : wc.cell? ⟨gb162, 0, none⟩ = some (.int .u8 0) := (blk_cell BK162.out 0).trans rfl
              have hcz52_1 : wc.cell? ⟨gb162, 1, none⟩ = some (.int .i64 0) := (blk_cell BK162.out 1).trans rfl
              have hcz52_2 : wc.cell? ⟨gb162, 2, none⟩ = some (.string (⟨#[]⟩ : ByteArray)) := (blk_cell BK162.out 2).trans rfl
              have hfz52_0 := blk_frozen BK162.out 0
              have hfz52_1 := blk_frozen BK162.out 1
              have hfz52_2 := blk_frozen BK162.out 2
              go_wp2
              refine bodyPost_ret (results_ct rfl _ _ gb162 43 #[.int .u8 0, .int .i64 0, .string (⟨#[]⟩ : ByteArray)] (0, 0) _ rfl (by (with_reducible repeat (first | refine blk_drewN ?_ _ | refine blk_drew ?_ | refine blk_alloc ?_ _)); refine blk_put (cs := #[.int .u8 0, .int .i64 0, .string (⟨#[]⟩ : ByteArray)]) ?_ 2 _ rfl; (with_reducible repeat (first | refine blk_drewN ?_ _ | refine blk_drew ?_ | refine blk_alloc ?_ _)); refine blk_put (cs := #[.int .u8 0, .int .i64 0, .string (⟨#[]⟩ : ByteArray)]) ?_ 1 _ rfl; (with_reducible repeat (first | refine blk_drewN ?_ _ | refine blk_drew ?_ | refine blk_alloc ?_ _)); refine blk_put (cs := #[.int .u8 0, .int .i64 0, .string (⟨#[]⟩ : ByteArray)]) ?_ 0 _ rfl; (with_reducible repeat (first | refine blk_drewN ?_ _ | refine blk_drew ?_ | refine blk_alloc ?_ _)); exact BK162.out) Try.underlying43 rfl (by kernel_rfl)) rfl ?_
              exact ⟨by first | rfl | (simp [errW_none, errW_some] <;> rfl) | (simp [*, errW_none, errW_some] <;> rfl), bl⟩
            · replace c49 := Bool.eq_false_iff.mpr c49
              subst c49
              have H1 : (if a0.toList = ([43] : List UInt8) then ((calc_Add.f a1_1 a2_1).bind fun bt163 => (if bt163.2 = true then (some (1, bt163.1, (⟨#[]⟩ : ByteArray), true)) else (some (0, 0, (⟨#[]⟩ : ByteArray), false)))) else (if a0.toList = ([45] : List UInt8) then ((calc_Sub.f a1_1 a2_1).bind fun bt165 => (if bt165.2 = true then (some (1, bt165.1, (⟨#[]⟩ : ByteArray), true)) else (some (0, 0, (⟨#[]⟩ : ByteArray), false)))) else (if a0.toList = ([42] : List UInt8) then ((calc_Mul.f a1_1 a2_1).bind fun bt167 => (if bt167.2 = true then (some (1, bt167.1, (⟨#[]⟩ : ByteArray), true)) else (some (0, 0, (⟨#[]⟩ : ByteArray), false)))) else (some (0, 0, (⟨#[]⟩ : ByteArray), false))))) = some (r1, r2, r3, r4) := by rw [if_neg (show ¬ (false = true) by decide)] at H; exact H
              clear H
              have H := H1
              clear H1
              by_cases c53 : a0.toList = ([43] : List UInt8)
              · rw [if_pos c53] at H
                have c53b0 : (a0.toList == ([43] : List UInt8)) = true := beq_iff_eq.mpr c53
                have c53b1 : (a0.toList != ([43] : List UInt8)) = false := bne_eq_false_iff_eq.mpr c53
                clear c53
                replace H := Option.bind_eq_some_iff.mp H
                obtain ⟨⟨t163, t164⟩, A540, H⟩ := H
                replace H : (if t164 = true then (some (1, t163, (⟨#[]⟩ : ByteArray), true)) else (some (0, 0, (⟨#[]⟩ : ByteArray), false))) = some (r1, r2, r3, r4) := H
                have A54 := Aside0.mk A540
                clear A540
                by_cases c55 : t164 = true
                · subst c55
                  have H1 : (some (1, t163, (⟨#[]⟩ : ByteArray), true)) = some (r1, r2, r3, r4) := by rw [if_pos rfl] at H; exact H
                  clear H
                  have H := H1
                  clear H1
                  simp only [Option.some.injEq, Prod.mk.injEq] at H
                  obtain ⟨rfl, rfl, rfl, rfl⟩ := H
                  have hnb56 := NB160_161.out
                  have hnc56 := NB161_160.out
                  have hnb57 := NB160_162.out
                  have hnc57 := NB162_160.out
                  have hcz58_0 : wc.cell? ⟨gb160, 0, none⟩ = some (.int .u8 a1_0) := (blk_cell BK160.out 0).trans rfl
                  have hcz58_1 : wc.cell? ⟨gb160, 1, none⟩ = some (.int .i64 a1_1) := (blk_cell BK160.out 1).trans rfl
                  have hcz58_2 : wc.cell? ⟨gb160, 2, none⟩ = some (.string a1_2) := (blk_cell BK160.out 2).trans rfl
                  have hfz58_0 := blk_frozen BK160.out 0
                  have hfz58_1 := blk_frozen BK160.out 1
                  have hfz58_2 := blk_frozen BK160.out 2
                  have hnb59 := NB161_162.out
                  have hnc59 := NB162_161.out
                  have hcz60_0 : wc.cell? ⟨gb161, 0, none⟩ = some (.int .u8 a2_0) := (blk_cell BK161.out 0).trans rfl
                  have hcz60_1 : wc.cell? ⟨gb161, 1, none⟩ = some (.int .i64 a2_1) := (blk_cell BK161.out 1).trans rfl
                  have hcz60_2 : wc.cell? ⟨gb161, 2, none⟩ = some (.string a2_2) := (blk_cell BK161.out 2).trans rfl
                  have hfz60_0 := blk_frozen BK161.out 0
                  have hfz60_1 := blk_frozen BK161.out 1
                  have hfz60_2 := blk_frozen BK161.out 2
                  go_wp2_with (first | ((with_reducible refine gate_callee (f := 17) rfl ?_); refine goesL_ (some 48) rfl rfl Try.func17 (by kernel_rfl) rfl #[.int .i64 a1_1, .int .i64 a2_1] rfl am ?_; (with_reducible refine (calc_Add.calls a1_1 a2_1 t163 true _ A54.out).mono ?_); rintro e w61 ⟨rfl, hb⟩; refine ⟨_, rfl, ?_⟩; have n0_ := Aside0.mk (bb (g := gb160) hb); have n1_ := Aside0.mk (bb (g := gb161) hb); have n2_ := Aside0.mk (bb (g := gb162) hb); have n3_ := Aside0.mk (below_step bl hb); clear BK160; clear BK161; clear BK162; clear HB; have BK160 := n0_; have BK161 := n1_; have BK162 := n2_; have HB := n3_; clear n0_ n1_ n2_ n3_; (try clear hb); (try clear hb2); (try clear hk); (try clear hi); have hcz62_0 : w61.cell? ⟨gb162, 0, none⟩ = some (.int .u8 0) := (blk_cell BK162.out 0).trans rfl; have hcz62_1 : w61.cell? ⟨gb162, 1, none⟩ = some (.int .i64 0) := (blk_cell BK162.out 1).trans rfl; have hcz62_2 : w61.cell? ⟨gb162, 2, none⟩ = some (.string (⟨#[]⟩ : ByteArray)) := (blk_cell BK162.out 2).trans rfl; have hfz62_0 := blk_frozen BK162.out 0; have hfz62_1 := blk_frozen BK162.out 1; have hfz62_2 := blk_frozen BK162.out 2))
                  refine bodyPost_ret (results_ct rfl _ _ gb162 43 #[.int .u8 1, .int .i64 t163, .string (⟨#[]⟩ : ByteArray)] (0, 0) _ rfl (by (with_reducible repeat (first | refine blk_drewN ?_ _ | refine blk_drew ?_ | refine blk_alloc ?_ _)); refine blk_put (cs := #[.int .u8 1, .int .i64 t163, .string (⟨#[]⟩ : ByteArray)]) ?_ 2 _ rfl; (with_reducible repeat (first | refine blk_drewN ?_ _ | refine blk_drew ?_ | refine blk_alloc ?_ _)); refine blk_put (cs := #[.int .u8 1, .int .i64 0, .string (⟨#[]⟩ : ByteArray)]) ?_ 1 _ rfl; (with_reducible repeat (first | refine blk_drewN ?_ _ | refine blk_drew ?_ | refine blk_alloc ?_ _)); refine blk_put (cs := #[.int .u8 0, .int .i64 0, .string (⟨#[]⟩ : ByteArray)]) ?_ 0 _ rfl; (with_reducible repeat (first | refine blk_drewN ?_ _ | refine blk_drew ?_ | refine blk_alloc ?_ _)); exact BK162.out) Try.underlying43 rfl (by kernel_rfl)) rfl ?_
                  exact ⟨by first | rfl | (simp [errW_none, errW_some] <;> rfl) | (simp [*, errW_none, errW_some] <;> rfl), bl⟩
                · replace c55 := Bool.eq_false_iff.mpr c55
                  subst c55
                  have H1 : (some (0, 0, (⟨#[]⟩ : ByteArray), false)) = some (r1, r2, r3, r4) := by rw [if_neg (show ¬ (false = true) by decide)] at H; exact H
                  clear H
                  have H := H1
                  clear H1
                  simp only [Option.some.injEq, Prod.mk.injEq] at H
                  obtain ⟨rfl, rfl, rfl, rfl⟩ := H
                  have hnb63 := NB160_161.out
                  have hnc63 := NB161_160.out
                  have hnb64 := NB160_162.out
                  have hnc64 := NB162_160.out
                  have hcz65_0 : wc.cell? ⟨gb160, 0, none⟩ = some (.int .u8 a1_0) := (blk_cell BK160.out 0).trans rfl
                  have hcz65_1 : wc.cell? ⟨gb160, 1, none⟩ = some (.int .i64 a1_1) := (blk_cell BK160.out 1).trans rfl
                  have hcz65_2 : wc.cell? ⟨gb160, 2, none⟩ = some (.string a1_2) := (blk_cell BK160.out 2).trans rfl
                  have hfz65_0 := blk_frozen BK160.out 0
                  have hfz65_1 := blk_frozen BK160.out 1
                  have hfz65_2 := blk_frozen BK160.out 2
                  have hnb66 := NB161_162.out
                  have hnc66 := NB162_161.out
                  have hcz67_0 : wc.cell? ⟨gb161, 0, none⟩ = some (.int .u8 a2_0) := (blk_cell BK161.out 0).trans rfl
                  have hcz67_1 : wc.cell? ⟨gb161, 1, none⟩ = some (.int .i64 a2_1) := (blk_cell BK161.out 1).trans rfl
                  have hcz67_2 : wc.cell? ⟨gb161, 2, none⟩ = some (.string a2_2) := (blk_cell BK161.out 2).trans rfl
                  have hfz67_0 := blk_frozen BK161.out 0
                  have hfz67_1 := blk_frozen BK161.out 1
                  have hfz67_2 := blk_frozen BK161.out 2
                  go_wp2_with (first | ((with_reducible refine gate_callee (f := 17) rfl ?_); refine goesL_ (some 48) rfl rfl Try.func17 (by kernel_rfl) rfl #[.int .i64 a1_1, .int .i64 a2_1] rfl am ?_; (with_reducible refine (calc_Add.calls a1_1 a2_1 t163 false _ A54.out).mono ?_); rintro e w68 ⟨rfl, hb⟩; refine ⟨_, rfl, ?_⟩; have n0_ := Aside0.mk (bb (g := gb160) hb); have n1_ := Aside0.mk (bb (g := gb161) hb); have n2_ := Aside0.mk (bb (g := gb162) hb); have n3_ := Aside0.mk (below_step bl hb); clear BK160; clear BK161; clear BK162; clear HB; have BK160 := n0_; have BK161 := n1_; have BK162 := n2_; have HB := n3_; clear n0_ n1_ n2_ n3_; (try clear hb); (try clear hb2); (try clear hk); (try clear hi); have hcz69_0 : w68.cell? ⟨gb162, 0, none⟩ = some (.int .u8 0) := (blk_cell BK162.out 0).trans rfl; have hcz69_1 : w68.cell? ⟨gb162, 1, none⟩ = some (.int .i64 0) := (blk_cell BK162.out 1).trans rfl; have hcz69_2 : w68.cell? ⟨gb162, 2, none⟩ = some (.string (⟨#[]⟩ : ByteArray)) := (blk_cell BK162.out 2).trans rfl; have hfz69_0 := blk_frozen BK162.out 0; have hfz69_1 := blk_frozen BK162.out 1; have hfz69_2 := blk_frozen BK162.out 2))
                  refine bodyPost_ret (results_ct rfl _ _ gb162 43 #[.int .u8 0, .int .i64 0, .string (⟨#[]⟩ : ByteArray)] (0, 0) _ rfl (by (with_reducible repeat (first | refine blk_drewN ?_ _ | refine blk_drew ?_ | refine blk_alloc ?_ _)); refine blk_put (cs := #[.int .u8 0, .int .i64 0, .string (⟨#[]⟩ : ByteArray)]) ?_ 2 _ rfl; (with_reducible repeat (first | refine blk_drewN ?_ _ | refine blk_drew ?_ | refine blk_alloc ?_ _)); refine blk_put (cs := #[.int .u8 0, .int .i64 0, .string (⟨#[]⟩ : ByteArray)]) ?_ 1 _ rfl; (with_reducible repeat (first | refine blk_drewN ?_ _ | refine blk_drew ?_ | refine blk_alloc ?_ _)); refine blk_put (cs := #[.int .u8 0, .int .i64 0, .string (⟨#[]⟩ : ByteArray)]) ?_ 0 _ rfl; (with_reducible repeat (first | refine blk_drewN ?_ _ | refine blk_drew ?_ | refine blk_alloc ?_ _)); exact BK162.out) Try.underlying43 rfl (by kernel_rfl)) rfl ?_
                  exact ⟨by first | rfl | (simp [errW_none, errW_some] <;> rfl) | (simp [*, errW_none, errW_some] <;> rfl), bl⟩
              · rw [if_neg c53] at H
                have c53b0 : (a0.toList == ([43] : List UInt8)) = false := beq_eq_false_iff_ne.mpr c53
                have c53b1 : (a0.toList != ([43] : List UInt8)) = true := bne_iff_ne.mpr c53
                by_cases c70 : a0.toList = ([45] : List UInt8)
                · rw [if_pos c70] at H
                  have c70b0 : (a0.toList == ([45] : List UInt8)) = true := beq_iff_eq.mpr c70
                  have c70b1 : (a0.toList != ([45] : List UInt8)) = false := bne_eq_false_iff_eq.mpr c70
                  clear c70
                  replace H := Option.bind_eq_some_iff.mp H
                  obtain ⟨⟨t165, t166⟩, A710, H⟩ := H
                  replace H : (if t166 = true then (some (1, t165, (⟨#[]⟩ : ByteArray), true)) else (some (0, 0, (⟨#[]⟩ : ByteArray), false))) = some (r1, r2, r3, r4) := H
                  have A71 := Aside0.mk A710
                  clear A710
                  by_cases c72 : t166 = true
                  · subst c72
                    have H1 : (some (1, t165, (⟨#[]⟩ : ByteArray), true)) = some (r1, r2, r3, r4) := by rw [if_pos rfl] at H; exact H
                    clear H
                    have H := H1
                    clear H1
                    simp only [Option.some.injEq, Prod.mk.injEq] at H
                    obtain ⟨rfl, rfl, rfl, rfl⟩ := H
                    have hnb73 := NB160_161.out
                    have hnc73 := NB161_160.out
                    have hnb74 := NB160_162.out
                    have hnc74 := NB162_160.out
                    have hcz75_0 : wc.cell? ⟨gb160, 0, none⟩ = some (.int .u8 a1_0) := (blk_cell BK160.out 0).trans rfl
                    have hcz75_1 : wc.cell? ⟨gb160, 1, none⟩ = some (.int .i64 a1_1) := (blk_cell BK160.out 1).trans rfl
                    have hcz75_2 : wc.cell? ⟨gb160, 2, none⟩ = some (.string a1_2) := (blk_cell BK160.out 2).trans rfl
                    have hfz75_0 := blk_frozen BK160.out 0
                    have hfz75_1 := blk_frozen BK160.out 1
                    have hfz75_2 := blk_frozen BK160.out 2
                    have hnb76 := NB161_162.out
                    have hnc76 := NB162_161.out
                    have hcz77_0 : wc.cell? ⟨gb161, 0, none⟩ = some (.int .u8 a2_0) := (blk_cell BK161.out 0).trans rfl
                    have hcz77_1 : wc.cell? ⟨gb161, 1, none⟩ = some (.int .i64 a2_1) := (blk_cell BK161.out 1).trans rfl
                    have hcz77_2 : wc.cell? ⟨gb161, 2, none⟩ = some (.string a2_2) := (blk_cell BK161.out 2).trans rfl
                    have hfz77_0 := blk_frozen BK161.out 0
                    have hfz77_1 := blk_frozen BK161.out 1
                    have hfz77_2 := blk_frozen BK161.out 2
                    go_wp2_with (first | ((with_reducible refine gate_callee (f := 18) rfl ?_); refine goesL_ (some 58) rfl rfl Try.func18 (by kernel_rfl) rfl #[.int .i64 a1_1, .int .i64 a2_1] rfl am ?_; (with_reducible refine (calc_Sub.calls a1_1 a2_1 t165 true _ A71.out).mono ?_); rintro e w78 ⟨rfl, hb⟩; refine ⟨_, rfl, ?_⟩; have n0_ := Aside0.mk (bb (g := gb160) hb); have n1_ := Aside0.mk (bb (g := gb161) hb); have n2_ := Aside0.mk (bb (g := gb162) hb); have n3_ := Aside0.mk (below_step bl hb); clear BK160; clear BK161; clear BK162; clear HB; have BK160 := n0_; have BK161 := n1_; have BK162 := n2_; have HB := n3_; clear n0_ n1_ n2_ n3_; (try clear hb); (try clear hb2); (try clear hk); (try clear hi); have hcz79_0 : w78.cell? ⟨gb162, 0, none⟩ = some (.int .u8 0) := (blk_cell BK162.out 0).trans rfl; have hcz79_1 : w78.cell? ⟨gb162, 1, none⟩ = some (.int .i64 0) := (blk_cell BK162.out 1).trans rfl; have hcz79_2 : w78.cell? ⟨gb162, 2, none⟩ = some (.string (⟨#[]⟩ : ByteArray)) := (blk_cell BK162.out 2).trans rfl; have hfz79_0 := blk_frozen BK162.out 0; have hfz79_1 := blk_frozen BK162.out 1; have hfz79_2 := blk_frozen BK162.out 2))
                    refine bodyPost_ret (results_ct rfl _ _ gb162 43 #[.int .u8 1, .int .i64 t165, .string (⟨#[]⟩ : ByteArray)] (0, 0) _ rfl (by (with_reducible repeat (first | refine blk_drewN ?_ _ | refine blk_drew ?_ | refine blk_alloc ?_ _)); refine blk_put (cs := #[.int .u8 1, .int .i64 t165, .string (⟨#[]⟩ : ByteArray)]) ?_ 2 _ rfl; (with_reducible repeat (first | refine blk_drewN ?_ _ | refine blk_drew ?_ | refine blk_alloc ?_ _)); refine blk_put (cs := #[.int .u8 1, .int .i64 0, .string (⟨#[]⟩ : ByteArray)]) ?_ 1 _ rfl; (with_reducible repeat (first | refine blk_drewN ?_ _ | refine blk_drew ?_ | refine blk_alloc ?_ _)); refine blk_put (cs := #[.int .u8 0, .int .i64 0, .string (⟨#[]⟩ : ByteArray)]) ?_ 0 _ rfl; (with_reducible repeat (first | refine blk_drewN ?_ _ | refine blk_drew ?_ | refine blk_alloc ?_ _)); exact BK162.out) Try.underlying43 rfl (by kernel_rfl)) rfl ?_
                    exact ⟨by first | rfl | (simp [errW_none, errW_some] <;> rfl) | (simp [*, errW_none, errW_some] <;> rfl), bl⟩
                  · replace c72 := Bool.eq_false_iff.mpr c72
                    subst c72
                    have H1 : (some (0, 0, (⟨#[]⟩ : ByteArray), false)) = some (r1, r2, r3, r4) := by rw [if_neg (show ¬ (false = true) by decide)] at H; exact H
                    clear H
                    have H := H1
                    clear H1
                    simp only [Option.some.injEq, Prod.mk.injEq] at H
                    obtain ⟨rfl, rfl, rfl, rfl⟩ := H
                    have hnb80 := NB160_161.out
                    have hnc80 := NB161_160.out
                    have hnb81 := NB160_162.out
                    have hnc81 := NB162_160.out
                    have hcz82_0 : wc.cell? ⟨gb160, 0, none⟩ = some (.int .u8 a1_0) := (blk_cell BK160.out 0).trans rfl
                    have hcz82_1 : wc.cell? ⟨gb160, 1, none⟩ = some (.int .i64 a1_1) := (blk_cell BK160.out 1).trans rfl
                    have hcz82_2 : wc.cell? ⟨gb160, 2, none⟩ = some (.string a1_2) := (blk_cell BK160.out 2).trans rfl
                    have hfz82_0 := blk_frozen BK160.out 0
                    have hfz82_1 := blk_frozen BK160.out 1
                    have hfz82_2 := blk_frozen BK160.out 2
                    have hnb83 := NB161_162.out
                    have hnc83 := NB162_161.out
                    have hcz84_0 : wc.cell? ⟨gb161, 0, none⟩ = some (.int .u8 a2_0) := (blk_cell BK161.out 0).trans rfl
                    have hcz84_1 : wc.cell? ⟨gb161, 1, none⟩ = some (.int .i64 a2_1) := (blk_cell BK161.out 1).trans rfl
                    have hcz84_2 : wc.cell? ⟨gb161, 2, none⟩ = some (.string a2_2) := (blk_cell BK161.out 2).trans rfl
                    have hfz84_0 := blk_frozen BK161.out 0
                    have hfz84_1 := blk_frozen BK161.out 1
                    have hfz84_2 := blk_frozen BK161.out 2
                    go_wp2_with (first | ((with_reducible refine gate_callee (f := 18) rfl ?_); refine goesL_ (some 58) rfl rfl Try.func18 (by kernel_rfl) rfl #[.int .i64 a1_1, .int .i64 a2_1] rfl am ?_; (with_reducible refine (calc_Sub.calls a1_1 a2_1 t165 false _ A71.out).mono ?_); rintro e w85 ⟨rfl, hb⟩; refine ⟨_, rfl, ?_⟩; have n0_ := Aside0.mk (bb (g := gb160) hb); have n1_ := Aside0.mk (bb (g := gb161) hb); have n2_ := Aside0.mk (bb (g := gb162) hb); have n3_ := Aside0.mk (below_step bl hb); clear BK160; clear BK161; clear BK162; clear HB; have BK160 := n0_; have BK161 := n1_; have BK162 := n2_; have HB := n3_; clear n0_ n1_ n2_ n3_; (try clear hb); (try clear hb2); (try clear hk); (try clear hi); have hcz86_0 : w85.cell? ⟨gb162, 0, none⟩ = some (.int .u8 0) := (blk_cell BK162.out 0).trans rfl; have hcz86_1 : w85.cell? ⟨gb162, 1, none⟩ = some (.int .i64 0) := (blk_cell BK162.out 1).trans rfl; have hcz86_2 : w85.cell? ⟨gb162, 2, none⟩ = some (.string (⟨#[]⟩ : ByteArray)) := (blk_cell BK162.out 2).trans rfl; have hfz86_0 := blk_frozen BK162.out 0; have hfz86_1 := blk_frozen BK162.out 1; have hfz86_2 := blk_frozen BK162.out 2))
                    refine bodyPost_ret (results_ct rfl _ _ gb162 43 #[.int .u8 0, .int .i64 0, .string (⟨#[]⟩ : ByteArray)] (0, 0) _ rfl (by (with_reducible repeat (first | refine blk_drewN ?_ _ | refine blk_drew ?_ | refine blk_alloc ?_ _)); refine blk_put (cs := #[.int .u8 0, .int .i64 0, .string (⟨#[]⟩ : ByteArray)]) ?_ 2 _ rfl; (with_reducible repeat (first | refine blk_drewN ?_ _ | refine blk_drew ?_ | refine blk_alloc ?_ _)); refine blk_put (cs := #[.int .u8 0, .int .i64 0, .string (⟨#[]⟩ : ByteArray)]) ?_ 1 _ rfl; (with_reducible repeat (first | refine blk_drewN ?_ _ | refine blk_drew ?_ | refine blk_alloc ?_ _)); refine blk_put (cs := #[.int .u8 0, .int .i64 0, .string (⟨#[]⟩ : ByteArray)]) ?_ 0 _ rfl; (with_reducible repeat (first | refine blk_drewN ?_ _ | refine blk_drew ?_ | refine blk_alloc ?_ _)); exact BK162.out) Try.underlying43 rfl (by kernel_rfl)) rfl ?_
                    exact ⟨by first | rfl | (simp [errW_none, errW_some] <;> rfl) | (simp [*, errW_none, errW_some] <;> rfl), bl⟩
                · rw [if_neg c70] at H
                  have c70b0 : (a0.toList == ([45] : List UInt8)) = false := beq_eq_false_iff_ne.mpr c70
                  have c70b1 : (a0.toList != ([45] : List UInt8)) = true := bne_iff_ne.mpr c70
                  by_cases c87 : a0.toList = ([42] : List UInt8)
                  · rw [if_pos c87] at H
                    have c87b0 : (a0.toList == ([42] : List UInt8)) = true := beq_iff_eq.mpr c87
                    have c87b1 : (a0.toList != ([42] : List UInt8)) = false := bne_eq_false_iff_eq.mpr c87
                    clear c87
                    replace H := Option.bind_eq_some_iff.mp H
                    obtain ⟨⟨t167, t168⟩, A880, H⟩ := H
                    replace H : (if t168 = true then (some (1, t167, (⟨#[]⟩ : ByteArray), true)) else (some (0, 0, (⟨#[]⟩ : ByteArray), false))) = some (r1, r2, r3, r4) := H
                    have A88 := Aside0.mk A880
                    clear A880
                    by_cases c89 : t168 = true
                    · subst c89
                      have H1 : (some (1, t167, (⟨#[]⟩ : ByteArray), true)) = some (r1, r2, r3, r4) := by rw [if_pos rfl] at H; exact H
                      clear H
                      have H := H1
                      clear H1
                      simp only [Option.some.injEq, Prod.mk.injEq] at H
                      obtain ⟨rfl, rfl, rfl, rfl⟩ := H
                      have hnb90 := NB160_161.out
                      have hnc90 := NB161_160.out
                      have hnb91 := NB160_162.out
                      have hnc91 := NB162_160.out
                      have hcz92_0 : wc.cell? ⟨gb160, 0, none⟩ = some (.int .u8 a1_0) := (blk_cell BK160.out 0).trans rfl
                      have hcz92_1 : wc.cell? ⟨gb160, 1, none⟩ = some (.int .i64 a1_1) := (blk_cell BK160.out 1).trans rfl
                      have hcz92_2 : wc.cell? ⟨gb160, 2, none⟩ = some (.string a1_2) := (blk_cell BK160.out 2).trans rfl
                      have hfz92_0 := blk_frozen BK160.out 0
                      have hfz92_1 := blk_frozen BK160.out 1
                      have hfz92_2 := blk_frozen BK160.out 2
                      have hnb93 := NB161_162.out
                      have hnc93 := NB162_161.out
                      have hcz94_0 : wc.cell? ⟨gb161, 0, none⟩ = some (.int .u8 a2_0) := (blk_cell BK161.out 0).trans rfl
                      have hcz94_1 : wc.cell? ⟨gb161, 1, none⟩ = some (.int .i64 a2_1) := (blk_cell BK161.out 1).trans rfl
                      have hcz94_2 : wc.cell? ⟨gb161, 2, none⟩ = some (.string a2_2) := (blk_cell BK161.out 2).trans rfl
                      have hfz94_0 := blk_frozen BK161.out 0
                      have hfz94_1 := blk_frozen BK161.out 1
                      have hfz94_2 := blk_frozen BK161.out 2
                      go_wp2_with (first | ((with_reducible refine gate_callee (f := 19) rfl ?_); refine goesL_ (some 68) rfl rfl Try.func19 (by kernel_rfl) rfl #[.int .i64 a1_1, .int .i64 a2_1] rfl am ?_; (with_reducible refine (calc_Mul.calls a1_1 a2_1 t167 true _ A88.out).mono ?_); rintro e w95 ⟨rfl, hb⟩; refine ⟨_, rfl, ?_⟩; have n0_ := Aside0.mk (bb (g := gb160) hb); have n1_ := Aside0.mk (bb (g := gb161) hb); have n2_ := Aside0.mk (bb (g := gb162) hb); have n3_ := Aside0.mk (below_step bl hb); clear BK160; clear BK161; clear BK162; clear HB; have BK160 := n0_; have BK161 := n1_; have BK162 := n2_; have HB := n3_; clear n0_ n1_ n2_ n3_; (try clear hb); (try clear hb2); (try clear hk); (try clear hi); have hcz96_0 : w95.cell? ⟨gb162, 0, none⟩ = some (.int .u8 0) := (blk_cell BK162.out 0).trans rfl; have hcz96_1 : w95.cell? ⟨gb162, 1, none⟩ = some (.int .i64 0) := (blk_cell BK162.out 1).trans rfl; have hcz96_2 : w95.cell? ⟨gb162, 2, none⟩ = some (.string (⟨#[]⟩ : ByteArray)) := (blk_cell BK162.out 2).trans rfl; have hfz96_0 := blk_frozen BK162.out 0; have hfz96_1 := blk_frozen BK162.out 1; have hfz96_2 := blk_frozen BK162.out 2))
                      refine bodyPost_ret (results_ct rfl _ _ gb162 43 #[.int .u8 1, .int .i64 t167, .string (⟨#[]⟩ : ByteArray)] (0, 0) _ rfl (by (with_reducible repeat (first | refine blk_drewN ?_ _ | refine blk_drew ?_ | refine blk_alloc ?_ _)); refine blk_put (cs := #[.int .u8 1, .int .i64 t167, .string (⟨#[]⟩ : ByteArray)]) ?_ 2 _ rfl; (with_reducible repeat (first | refine blk_drewN ?_ _ | refine blk_drew ?_ | refine blk_alloc ?_ _)); refine blk_put (cs := #[.int .u8 1, .int .i64 0, .string (⟨#[]⟩ : ByteArray)]) ?_ 1 _ rfl; (with_reducible repeat (first | refine blk_drewN ?_ _ | refine blk_drew ?_ | refine blk_alloc ?_ _)); refine blk_put (cs := #[.int .u8 0, .int .i64 0, .string (⟨#[]⟩ : ByteArray)]) ?_ 0 _ rfl; (with_reducible repeat (first | refine blk_drewN ?_ _ | refine blk_drew ?_ | refine blk_alloc ?_ _)); exact BK162.out) Try.underlying43 rfl (by kernel_rfl)) rfl ?_
                      exact ⟨by first | rfl | (simp [errW_none, errW_some] <;> rfl) | (simp [*, errW_none, errW_some] <;> rfl), bl⟩
                    · replace c89 := Bool.eq_false_iff.mpr c89
                      subst c89
                      have H1 : (some (0, 0, (⟨#[]⟩ : ByteArray), false)) = some (r1, r2, r3, r4) := by rw [if_neg (show ¬ (false = true) by decide)] at H; exact H
                      clear H
                      have H := H1
                      clear H1
                      simp only [Option.some.injEq, Prod.mk.injEq] at H
                      obtain ⟨rfl, rfl, rfl, rfl⟩ := H
                      have hnb97 := NB160_161.out
                      have hnc97 := NB161_160.out
                      have hnb98 := NB160_162.out
                      have hnc98 := NB162_160.out
                      have hcz99_0 : wc.cell? ⟨gb160, 0, none⟩ = some (.int .u8 a1_0) := (blk_cell BK160.out 0).trans rfl
                      have hcz99_1 : wc.cell? ⟨gb160, 1, none⟩ = some (.int .i64 a1_1) := (blk_cell BK160.out 1).trans rfl
                      have hcz99_2 : wc.cell? ⟨gb160, 2, none⟩ = some (.string a1_2) := (blk_cell BK160.out 2).trans rfl
                      have hfz99_0 := blk_frozen BK160.out 0
                      have hfz99_1 := blk_frozen BK160.out 1
                      have hfz99_2 := blk_frozen BK160.out 2
                      have hnb100 := NB161_162.out
                      have hnc100 := NB162_161.out
                      have hcz101_0 : wc.cell? ⟨gb161, 0, none⟩ = some (.int .u8 a2_0) := (blk_cell BK161.out 0).trans rfl
                      have hcz101_1 : wc.cell? ⟨gb161, 1, none⟩ = some (.int .i64 a2_1) := (blk_cell BK161.out 1).trans rfl
                      have hcz101_2 : wc.cell? ⟨gb161, 2, none⟩ = some (.string a2_2) := (blk_cell BK161.out 2).trans rfl
                      have hfz101_0 := blk_frozen BK161.out 0
                      have hfz101_1 := blk_frozen BK161.out 1
                      have hfz101_2 := blk_frozen BK161.out 2
                      go_wp2_with (first | ((with_reducible refine gate_callee (f := 19) rfl ?_); refine goesL_ (some 68) rfl rfl Try.func19 (by kernel_rfl) rfl #[.int .i64 a1_1, .int .i64 a2_1] rfl am ?_; (with_reducible refine (calc_Mul.calls a1_1 a2_1 t167 false _ A88.out).mono ?_); rintro e w102 ⟨rfl, hb⟩; refine ⟨_, rfl, ?_⟩; have n0_ := Aside0.mk (bb (g := gb160) hb); have n1_ := Aside0.mk (bb (g := gb161) hb); have n2_ := Aside0.mk (bb (g := gb162) hb); have n3_ := Aside0.mk (below_step bl hb); clear BK160; clear BK161; clear BK162; clear HB; have BK160 := n0_; have BK161 := n1_; have BK162 := n2_; have HB := n3_; clear n0_ n1_ n2_ n3_; (try clear hb); (try clear hb2); (try clear hk); (try clear hi); have hcz103_0 : w102.cell? ⟨gb162, 0, none⟩ = some (.int .u8 0) := (blk_cell BK162.out 0).trans rfl; have hcz103_1 : w102.cell? ⟨gb162, 1, none⟩ = some (.int .i64 0) := (blk_cell BK162.out 1).trans rfl; have hcz103_2 : w102.cell? ⟨gb162, 2, none⟩ = some (.string (⟨#[]⟩ : ByteArray)) := (blk_cell BK162.out 2).trans rfl; have hfz103_0 := blk_frozen BK162.out 0; have hfz103_1 := blk_frozen BK162.out 1; have hfz103_2 := blk_frozen BK162.out 2))
                      refine bodyPost_ret (results_ct rfl _ _ gb162 43 #[.int .u8 0, .int .i64 0, .string (⟨#[]⟩ : ByteArray)] (0, 0) _ rfl (by (with_reducible repeat (first | refine blk_drewN ?_ _ | refine blk_drew ?_ | refine blk_alloc ?_ _)); refine blk_put (cs := #[.int .u8 0, .int .i64 0, .string (⟨#[]⟩ : ByteArray)]) ?_ 2 _ rfl; (with_reducible repeat (first | refine blk_drewN ?_ _ | refine blk_drew ?_ | refine blk_alloc ?_ _)); refine blk_put (cs := #[.int .u8 0, .int .i64 0, .string (⟨#[]⟩ : ByteArray)]) ?_ 1 _ rfl; (with_reducible repeat (first | refine blk_drewN ?_ _ | refine blk_drew ?_ | refine blk_alloc ?_ _)); refine blk_put (cs := #[.int .u8 0, .int .i64 0, .string (⟨#[]⟩ : ByteArray)]) ?_ 0 _ rfl; (with_reducible repeat (first | refine blk_drewN ?_ _ | refine blk_drew ?_ | refine blk_alloc ?_ _)); exact BK162.out) Try.underlying43 rfl (by kernel_rfl)) rfl ?_
                      exact ⟨by first | rfl | (simp [errW_none, errW_some] <;> rfl) | (simp [*, errW_none, errW_some] <;> rfl), bl⟩
                  · rw [if_neg c87] at H
                    have c87b0 : (a0.toList == ([42] : List UInt8)) = false := beq_eq_false_iff_ne.mpr c87
                    have c87b1 : (a0.toList != ([42] : List UInt8)) = true := bne_iff_ne.mpr c87
                    simp only [Option.some.injEq, Prod.mk.injEq] at H
                    obtain ⟨rfl, rfl, rfl, rfl⟩ := H
                    have hnb104 := NB162_160.out
                    have hnc104 := NB160_162.out
                    have hnb105 := NB162_161.out
                    have hnc105 := NB161_162.out
                    have hcz106_0 : wc.cell? ⟨gb162, 0, none⟩ = some (.int .u8 0) := (blk_cell BK162.out 0).trans rfl
                    have hcz106_1 : wc.cell? ⟨gb162, 1, none⟩ = some (.int .i64 0) := (blk_cell BK162.out 1).trans rfl
                    have hcz106_2 : wc.cell? ⟨gb162, 2, none⟩ = some (.string (⟨#[]⟩ : ByteArray)) := (blk_cell BK162.out 2).trans rfl
                    have hfz106_0 := blk_frozen BK162.out 0
                    have hfz106_1 := blk_frozen BK162.out 1
                    have hfz106_2 := blk_frozen BK162.out 2
                    go_wp2
                    refine bodyPost_ret (results_ct rfl _ _ gb162 43 #[.int .u8 0, .int .i64 0, .string (⟨#[]⟩ : ByteArray)] (0, 0) _ rfl (by (with_reducible repeat (first | refine blk_drewN ?_ _ | refine blk_drew ?_ | refine blk_alloc ?_ _)); refine blk_put (cs := #[.int .u8 0, .int .i64 0, .string (⟨#[]⟩ : ByteArray)]) ?_ 2 _ rfl; (with_reducible repeat (first | refine blk_drewN ?_ _ | refine blk_drew ?_ | refine blk_alloc ?_ _)); refine blk_put (cs := #[.int .u8 0, .int .i64 0, .string (⟨#[]⟩ : ByteArray)]) ?_ 1 _ rfl; (with_reducible repeat (first | refine blk_drewN ?_ _ | refine blk_drew ?_ | refine blk_alloc ?_ _)); refine blk_put (cs := #[.int .u8 0, .int .i64 0, .string (⟨#[]⟩ : ByteArray)]) ?_ 0 _ rfl; (with_reducible repeat (first | refine blk_drewN ?_ _ | refine blk_drew ?_ | refine blk_alloc ?_ _)); exact BK162.out) Try.underlying43 rfl (by kernel_rfl)) rfl ?_
                    exact ⟨by first | rfl | (simp [errW_none, errW_some] <;> rfl) | (simp [*, errW_none, errW_some] <;> rfl), bl⟩

/-! ### rowlockref03_Whole: function 13 -/
def rowlockref03_Whole.l0 : Nat → Int → List Int → Int → Option (Int × List Int)
  | 0, _, _, _ => none
  | k + 1, x0, x3, x4 => if x4 < 4 then (if x3.length < 17592186044416 then (rowlockref03_Whole.l0 k (IntKind.u64.wrap (Int.tdiv x0 65536)) (x3 ++ [Int.tmod x0 65536]) (wrap64 (x4 + 1))) else (none)) else (some (1, x3))
def rowlockref03_Whole.f (k : Nat) (a0 : Int) : Option (Int × List Int) := rowlockref03_Whole.l0 k a0 (([] : List Int)) 0
theorem rowlockref03_Whole.mono_l : ∀ k, (∀ y0 y1 y2, LeO (rowlockref03_Whole.l0 k y0 y1 y2) (rowlockref03_Whole.l0 (k + 1) y0 y1 y2))
  | 0 => fun _ _ _ r h => by simp [rowlockref03_Whole.l0] at h
  | k + 1 => by
    have ih0 := rowlockref03_Whole.mono_l k
    · intro y0 y1 y2
      unfold rowlockref03_Whole.l0
      repeat' first
      | (with_reducible exact ih0 _ _ _)
      | (with_reducible exact LeO.refl _)
      | (with_reducible exact LeO.none _)
      | (with_reducible refine LeO.ite ?_ ?_)
      | (with_reducible refine LeO.bind ?_ (fun _ => ?_))
      | exact ih0 _ _ _
      | exact LeO.none _
      | refine LeO.ite ?_ ?_
      | refine LeO.bind ?_ (fun _ => ?_)
theorem rowlockref03_Whole.mono : ∀ a0 k, LeO (rowlockref03_Whole.f k a0) (rowlockref03_Whole.f (k + 1) a0) := by
  intro a0 k
  have ih0 := rowlockref03_Whole.mono_l k
  unfold rowlockref03_Whole.f
  repeat' first
      | (with_reducible exact ih0 _ _ _)
      | (with_reducible exact LeO.refl _)
      | (with_reducible exact LeO.none _)
      | (with_reducible refine LeO.ite ?_ ?_)
      | (with_reducible refine LeO.bind ?_ (fun _ => ?_))
      | exact ih0 _ _ _
      | exact LeO.none _
      | refine LeO.ite ?_ ?_
      | refine LeO.bind ?_ (fun _ => ?_)
set_option maxHeartbeats 8000000 in
set_option maxRecDepth 100000 in
theorem rowlockref03_Whole.calls (k : Nat) (a0 : Int) (r1 : Int) (r2 : List Int) (w : World) (h : rowlockref03_Whole.f k a0 = some (r1, r2)) :
    Calls Try.prog 13 #[.int .u64 a0] w fun e w' => ∃ v1_ : Value, e = .returned (.agg #[.int .i64 r1, v1_]) ∧ Kd.R (Kd.int .u64) 27 w' w.heap.size (fun _ => True) v1_ r2 ∧ Below w.heap.size w w' := by
  have hu31 := Try.underlying31
  have HB := Aside0.mk (Below.refl w.heap.size w)
  have H : (rowlockref03_Whole.l0 k a0 (([] : List Int)) 0) = some (r1, r2) := h
  clear h
  obtain ⟨y170, hy170⟩ : ∃ y_ : List Int, y_ = (([] : List Int)) := ⟨_, rfl⟩
  replace H : (rowlockref03_Whole.l0 k a0 y170 0) = some (r1, r2) := by first | (rw [hy170]; with_reducible exact H) | (have H2_ := (Option.bind_some _ _).symm.trans H; rw [hy170]; with_reducible exact H2_) | (have H2_ := (Option.bind_some _ _).symm.trans H; with_reducible exact H2_) | with_reducible exact H | (rw [hy170]; exact H) | exact H
  have Ny170 := Aside0.mk hy170
  clear hy170
  have H' := Aside0.mk H
  clear H
  go_enter Try.func13, Try.ntmps13
  go_wp2_with (first | ((with_reducible refine gate_dst (N := 2) rfl ?_); refine box_event ?hg (N := 2) ?hd (cs := #[.int .i64 0, .slice none 0 0]) (t := 31) ?hr ?_; (case hd => rfl); (case hg => rfl); (case hr => first | (go_simp; done) | (go_simp; rfl)); intro gb169 hg w2 hbox hb; have n0_ := Aside0.mk (below_step bl hb); have n1_ := Aside0.mk (hbox); have n2_ := Aside0.mk ((sz hg : w.heap.size ≤ gb169)); have n3_ := Aside0.mk ((sz hg : w.heap.size ≤ gb169)); clear HB; have HB := n0_; have BK169 := n1_; have GW169 := n2_; have GE169 := n3_; clear n0_ n1_ n2_ n3_; clear hb hbox hg) | ((with_reducible refine gate_dst (N := 5) rfl ?_); refine Kd.R_lit (Kd.int .u64) _ 27 ?hg (N := 5) ?hd (xs := ([] : List Int)) (inner := []) (ok := fun _ => True) (okp := fun _ => True) ?hr ?hp (fun _ hk => hk) trivial (Below.refl _ _) (Nat.le_refl _) (by simp) ?_; (case hd => rfl); (case hg => rfl); (case hr => first | (go_simp; done) | (go_simp; rfl)); (case hp => exact (Reps.none _ _)); intro v171 w3 ho4 hb hg_ hnew_; clear hg_ hnew_; (first | rw [← Ny170.out] at ho4 | (simp only [Int.reduceToNat] at ho4; rw [← Ny170.out] at ho4)); have n0_ := Aside0.mk (Kd.R_lower ho4 (below_size bl)); have n1_ := Aside0.mk (bb (g := gb169) hb); have n2_ := Aside0.mk (below_step bl hb); clear BK169; clear HB; have HO172 := n0_; have BK169 := n1_; have HB := n2_; clear n0_ n1_ n2_; clear hb ho4))
  go_loopg [0, 3, 4] k (fun kq v0 v3 v4 w' => ∃ (x0_1 : Int) (x3_1 : List Int) (x4_1 : Int), v0 = .int .u64 x0_1 ∧ v4 = .int .i64 x4_1 ∧ Aside0 (rowlockref03_Whole.l0 kq x0_1 x3_1 x4_1 = some (r1, r2)) ∧ Aside0 (kq ≤ k) ∧ Aside0 (Kd.R (Kd.int .u64) 27 w' w.heap.size (fun _ => True) v3 x3_1) ∧ Aside0 (w'.heap[gb169]? = some (.cells #[.int .i64 0, (.slice none 0 0)] 31 (0, 0))) ∧ Aside0 (Below w.heap.size w w'))
  case atStart => exact ⟨(a0), (y170), (0), (by first | rfl | (simp; done) | (simp [*]; done)), (by first | rfl | (simp; done) | (simp [*]; done)), H', ⟨Nat.le_refl _⟩, ⟨by (with_reducible repeat (first | apply Kd.R_alloc | apply Kd.R_drewN | apply Kd.R_drew)); exact HO172.out⟩, ⟨pk⟩, ⟨bl⟩⟩
  case round =>
    clear H'
    try clear c1
    try clear p2
    obtain ⟨x0_1, x3_1, x4_1, rfl, rfl, HA, HK1, HO_3, BK169, HB⟩ := hrel
    cases gk with
    | zero => exact absurd HA.out (by simp [rowlockref03_Whole.l0])
    | succ k1 =>
      have H := HA.out
      clear HA
      simp only [rowlockref03_Whole.l0] at H
      by_cases c5 : x4_1 < 4
      · rw [if_pos c5] at H
        have c5b0 : decide (x4_1 < 4) = true := decide_eq_true c5
        clear c5
        by_cases c6 : x3_1.length < 17592186044416
        · rw [if_pos c6] at H
          have LMc6 := Aside0.mk c6
          clear c6
          obtain ⟨y173, hy173⟩ : ∃ y_ : List Int, y_ = (x3_1 ++ [Int.tmod x0_1 65536]) := ⟨_, rfl⟩
          replace H : (rowlockref03_Whole.l0 k1 (IntKind.u64.wrap (Int.tdiv x0_1 65536)) y173 (wrap64 (x4_1 + 1))) = some (r1, r2) := by first | (rw [hy173]; with_reducible exact H) | (have H2_ := (Option.bind_some _ _).symm.trans H; rw [hy173]; with_reducible exact H2_) | (have H2_ := (Option.bind_some _ _).symm.trans H; with_reducible exact H2_) | with_reducible exact H | (rw [hy173]; exact H) | exact H
          have Ny173 := Aside0.mk hy173
          clear hy173
          have H' := Aside0.mk H
          clear H
          go_wp2_with (first | ((with_reducible refine gate_builtin (b := .append) (xs := #[.tmp 10, .tmp 13]) rfl ?_); at_builtin; refine Kd.R_append (Kd.int .u64) (w0 := w) w.heap.size rfl (.tmp 10) (.tmp 13) 29 27 (.int .u64 0) 8 rfl Try.underlying29 info27 rfl (by decide) (by omega) u3 x3_1 (Int.tmod x0_1 65536) [.int .u64 (Int.tmod x0_1 65536)] (fun _ => True) (fun _ => False) rfl rfl ?aP (fun _ hk => hk.elim) ?aF ?aO ?aB ?aS ?aL ?_; (case aP => exact rfl); (case aB => exact bl); (case aF => exact (fun _ _ => trivial)); (case aO => exact (rk HO_3)); (case aS => exact (below_size bl)); (case aL => have := LMc6.out; omega); intro v174 w7 ho hb hg hat; rw [← Ny173.out] at ho; have n0_ := Aside0.mk (blk_grown (g := gb169) (o := .cells #[.int .i64 0, .slice none 0 0] 31 (0, 0)) pk hg (Kd.R_ne HO_3.out BK169.out (by decide))); have n1_ := Aside0.mk (hb); have n2_ := Aside0.mk (ho); clear BK169; clear HB; clear HO_3; have BK169 := n0_; have HB := n1_; have HO175 := n2_; clear n0_ n1_ n2_; clear ho hb hg hat))
          go_roundg k1
          case measure => have := HK1.out; omega
          case rel => exact ⟨(IntKind.u64.wrap (Int.tdiv x0_1 65536)), (y173), (wrap64 (x4_1 + 1)), (by first | rfl | (simp; done) | (simp [*]; done)), (by first | rfl | (simp; done) | (simp [*]; done)), H', ⟨by have := HK1.out; omega⟩, ⟨by (with_reducible repeat (first | apply Kd.R_alloc | apply Kd.R_drewN | apply Kd.R_drew)); exact HO175.out⟩, ⟨pk⟩, ⟨bl⟩⟩
        · rw [if_neg c6] at H
          exact absurd H (by simp)
      · rw [if_neg c5] at H
        have c5b0 : decide (x4_1 < 4) = false := decide_eq_false c5
        clear c5
        simp only [Option.some.injEq, Prod.mk.injEq] at H
        obtain ⟨rfl, rfl⟩ := H
        obtain ⟨Ao8, co8, eo8⟩ := Kd.R_slice HO_3.out
        subst eo8
        have hcz9_0 : wr.cell? ⟨gb169, 0, none⟩ = some (.int .i64 0) := (blk_cell BK169.out 0).trans rfl
        have hcz9_1 : wr.cell? ⟨gb169, 1, none⟩ = some (.slice none 0 0) := (blk_cell BK169.out 1).trans rfl
        have hfz9_0 := blk_frozen BK169.out 0
        have hfz9_1 := blk_frozen BK169.out 1
        go_wp2
        refine bodyPost_ret (results_cell_row rfl _ _ gb169 31 #[.int .i64 1, .slice Ao8 x3_1.length co8] (0, 0) _ rfl (by (with_reducible repeat (first | refine blk_drewN ?_ _ | refine blk_drew ?_ | refine blk_alloc ?_ _)); refine blk_put (cs := #[.int .i64 1, .slice none 0 0]) ?_ 1 _ rfl; (with_reducible repeat (first | refine blk_drewN ?_ _ | refine blk_drew ?_ | refine blk_alloc ?_ _)); refine blk_put (cs := #[.int .i64 0, .slice none 0 0]) ?_ 0 _ rfl; (with_reducible repeat (first | refine blk_drewN ?_ _ | refine blk_drew ?_ | refine blk_alloc ?_ _)); exact BK169.out) Try.underlying31 rfl (by kernel_rfl)) rfl ?_
        exact ⟨_, by first | rfl | (simp [errW_none, errW_some] <;> rfl) | (simp [*, errW_none, errW_some] <;> rfl), by (with_reducible repeat (first | apply Kd.R_alloc | apply Kd.R_drewN | apply Kd.R_drew)); exact Kd.R_mono (Kd.R_far (p := ⟨gb169, 1, none⟩) (Kd.R_far (p := ⟨gb169, 0, none⟩) (Kd.R_types HO_3.out BK169.out (by decide)) (fun _ hk => hk.2) (.int .i64 1)) (fun _ hk => hk.2) (.slice Ao8 x3_1.length co8)) (fun _ hk => trivial), bl⟩

end Go.Proofs.Ytneihjdkaogkiaa.PCalcDo
