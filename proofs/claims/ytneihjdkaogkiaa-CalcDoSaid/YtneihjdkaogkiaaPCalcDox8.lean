-- printed for this claim by a copy of the printer that this session turned (wip/pp)
import Derived.Test.YtneihjdkaogkiaaPCalcDox0
import Derived.Test.YtneihjdkaogkiaaPCalcDox6
import Derived.Test.YtneihjdkaogkiaaPCalcDox7
namespace Go.Proofs.Ytneihjdkaogkiaa.PCalcDo
open Go.RowKit Go.Proofs.YtneihjdkaogkiaaW.PrintWords Go.Proofs.YtneihjdkaogkiaaW.PrintLast Go.Proofs.YtneihjdkaogkiaaW.PrintMore
attribute [local go_sem] max2_int min2_int max_two min_two max_three min_three max_four min_four   -- for this text's walks alone
set_option linter.unusedVariables false
set_option linter.unusedSimpArgs false

/-! ### rowlockref03_Less: function 14 -/
def rowlockref03_Less.l0 : Nat → Int → Int → List Int → Int → List Int → Option (Bool)
  | 0, _, _, _, _, _ => none
  | k + 1, x5, x215000, x215001, x216000, x216001 => if x5 ≥ 0 then ((rowlockref03_digit.f x215001 x5).bind fun t216 => ((rowlockref03_digit.f x216001 x5).bind fun t217 => (if t216 = t217 then (rowlockref03_Less.l0 k (wrap64 (x5 - 1)) x215000 x215001 x216000 x216001) else (some (decide (t216 < t217)))))) else (some false)
def rowlockref03_Less.f (k : Nat) (a0_0 : Int) (l0_1 : List Int) (a1_0 : Int) (l1_1 : List Int) : Option (Bool) := if (l0_1.length : Int) < (l1_1.length : Int) then (rowlockref03_Less.l0 k (wrap64 ((l1_1.length : Int) - 1)) a0_0 l0_1 a1_0 l1_1) else (rowlockref03_Less.l0 k (wrap64 ((l0_1.length : Int) - 1)) a0_0 l0_1 a1_0 l1_1)
theorem rowlockref03_Less.mono_l : ∀ k, (∀ y0 y1 y2 y3 y4, LeO (rowlockref03_Less.l0 k y0 y1 y2 y3 y4) (rowlockref03_Less.l0 (k + 1) y0 y1 y2 y3 y4))
  | 0 => fun _ _ _ _ _ r h => by simp [rowlockref03_Less.l0] at h
  | k + 1 => by
    have ih0 := rowlockref03_Less.mono_l k
    · intro y0 y1 y2 y3 y4
      unfold rowlockref03_Less.l0
      repeat' first
      | (with_reducible exact ih0 _ _ _ _ _)
      | (with_reducible exact LeO.refl _)
      | (with_reducible exact LeO.none _)
      | (with_reducible refine LeO.ite ?_ ?_)
      | (with_reducible refine LeO.bind ?_ (fun _ => ?_))
      | exact ih0 _ _ _ _ _
      | exact LeO.none _
      | refine LeO.ite ?_ ?_
      | refine LeO.bind ?_ (fun _ => ?_)
theorem rowlockref03_Less.mono : ∀ a0 a1 a2 a3 k, LeO (rowlockref03_Less.f k a0 a1 a2 a3) (rowlockref03_Less.f (k + 1) a0 a1 a2 a3) := by
  intro a0 a1 a2 a3 k
  have ih0 := rowlockref03_Less.mono_l k
  unfold rowlockref03_Less.f
  repeat' first
      | (with_reducible exact ih0 _ _ _ _ _)
      | (with_reducible exact LeO.refl _)
      | (with_reducible exact LeO.none _)
      | (with_reducible refine LeO.ite ?_ ?_)
      | (with_reducible refine LeO.bind ?_ (fun _ => ?_))
      | exact ih0 _ _ _ _ _
      | exact LeO.none _
      | refine LeO.ite ?_ ?_
      | refine LeO.bind ?_ (fun _ => ?_)
set_option maxHeartbeats 8000000 in
set_option maxRecDepth 100000 in
theorem rowlockref03_Less.calls (k : Nat) (a0_0 : Int) (A0_1 : Option Addr) (c0_1 : Nat) (l0_1 : List Int) (a1_0 : Int) (A1_1 : Option Addr) (c1_1 : Nat) (l1_1 : List Int) (r : Bool) (w : World) (hr0_1 : Kd.C (Kd.int .u64) w A0_1 l0_1.length l0_1) (hc0_1 : l0_1.length ≤ c0_1) (hr1_1 : Kd.C (Kd.int .u64) w A1_1 l1_1.length l1_1) (hc1_1 : l1_1.length ≤ c1_1) (h : rowlockref03_Less.f k a0_0 l0_1 a1_0 l1_1 = some r) :
    Calls Try.prog 14 #[.agg #[.int .i64 a0_0, .slice A0_1 l0_1.length c0_1], .agg #[.int .i64 a1_0, .slice A1_1 l1_1.length c1_1]] w fun e w' => e = .returned (.bool r) ∧ Below w.heap.size w w' := by
  have hu31 := Try.underlying31
  have HR0_1 := Aside0.mk hr0_1
  have HC0_1 := Aside0.mk hc0_1
  clear hr0_1 hc0_1
  have HR1_1 := Aside0.mk hr1_1
  have HC1_1 := Aside0.mk hc1_1
  clear hr1_1 hc1_1
  have HB := Aside0.mk (Below.refl w.heap.size w)
  have H : (if (l0_1.length : Int) < (l1_1.length : Int) then (rowlockref03_Less.l0 k (wrap64 ((l1_1.length : Int) - 1)) a0_0 l0_1 a1_0 l1_1) else (rowlockref03_Less.l0 k (wrap64 ((l0_1.length : Int) - 1)) a0_0 l0_1 a1_0 l1_1)) = some r := h
  clear h
  by_cases c3 : (l0_1.length : Int) < (l1_1.length : Int)
  · rw [if_pos c3] at H
    have c3i := eq_true c3
    have c3b0 : decide ((l0_1.length : Int) < (l1_1.length : Int)) = true := decide_eq_true c3
    have c3b1 : decide (l0_1.length < l1_1.length) = true := decide_eq_true (Int.ofNat_lt.mp c3)
    clear c3
    have H' := Aside0.mk H
    clear H
    go_enter Try.func14, Try.ntmps14
    go_wp2_with (first | ((with_reducible refine gate_dst (N := 2) rfl ?_); refine box_event ?hg (N := 2) ?hd (cs := #[.int .i64 a0_0, .slice A0_1 l0_1.length c0_1]) (t := 31) ?hr ?_; (case hd => rfl); (case hg => rfl); (case hr => first | (go_simp; done) | (go_simp; rfl)); intro gb214 hg w4 hbox hb; have n0_ := Aside0.mk (below_step bl hb); have n1_ := Aside0.mk (hbox); have n2_ := Aside0.mk ((sz hg : w.heap.size ≤ gb214)); have n3_ := Aside0.mk ((sz hg : w.heap.size ≤ gb214)); clear HB; have HB := n0_; have BK214 := n1_; have GW214 := n2_; have GE214 := n3_; clear n0_ n1_ n2_ n3_; clear hb hbox hg) | ((with_reducible refine gate_dst (N := 3) rfl ?_); refine box_event ?hg (N := 3) ?hd (cs := #[.int .i64 a1_0, .slice A1_1 l1_1.length c1_1]) (t := 31) ?hr ?_; (case hd => rfl); (case hg => rfl); (case hr => first | (go_simp; done) | (go_simp; rfl)); intro gb215 hg w5 hbox hb; have n0_ := Aside0.mk (bb (g := gb214) hb); have n1_ := Aside0.mk (below_step bl hb); have n2_ := Aside0.mk (hbox); have n3_ := Aside0.mk ((sz hg : w.heap.size ≤ gb215)); have n4_ := Aside0.mk ((sz hg : w.heap.size ≤ gb215)); have n5_ := Aside0.mk ((nl hg : gb214 ≠ gb215)); have n6_ := Aside0.mk ((ng hg : gb215 ≠ gb214)); clear BK214; clear HB; have BK214 := n0_; have HB := n1_; have BK215 := n2_; have GW215 := n3_; have GE215 := n4_; have NB214_215 := n5_; have NB215_214 := n6_; clear n0_ n1_ n2_ n3_ n4_ n5_ n6_; clear hb hbox hg; have hnb6 := NB214_215.out; have hnc6 := NB215_214.out; have hcz7_0 : w5.cell? ⟨gb214, 0, none⟩ = some (.int .i64 a0_0) := (blk_cell BK214.out 0).trans rfl; have hcz7_1 : w5.cell? ⟨gb214, 1, none⟩ = some (.slice A0_1 l0_1.length c0_1) := (blk_cell BK214.out 1).trans rfl; have hfz7_0 := blk_frozen BK214.out 0; have hfz7_1 := blk_frozen BK214.out 1; have hcz8_0 : w5.cell? ⟨gb215, 0, none⟩ = some (.int .i64 a1_0) := (blk_cell BK215.out 0).trans rfl; have hcz8_1 : w5.cell? ⟨gb215, 1, none⟩ = some (.slice A1_1 l1_1.length c1_1) := (blk_cell BK215.out 1).trans rfl; have hfz8_0 := blk_frozen BK215.out 0; have hfz8_1 := blk_frozen BK215.out 1) | ((with_reducible refine gate_draws ?_); go_quiet (first | ((with_reducible refine gate_dst (N := 2) rfl ?_); refine box_event ?hg (N := 2) ?hd (cs := #[.int .i64 a0_0, .slice A0_1 l0_1.length c0_1]) (t := 31) ?hr ?_; (case hd => rfl); (case hg => rfl); (case hr => first | (go_simp; done) | (go_simp; rfl)); intro gb214 hg w4 hbox hb; have n0_ := Aside0.mk (below_step bl hb); have n1_ := Aside0.mk (hbox); have n2_ := Aside0.mk ((sz hg : w.heap.size ≤ gb214)); have n3_ := Aside0.mk ((sz hg : w.heap.size ≤ gb214)); clear HB; have HB := n0_; have BK214 := n1_; have GW214 := n2_; have GE214 := n3_; clear n0_ n1_ n2_ n3_; clear hb hbox hg) | ((with_reducible refine gate_dst (N := 3) rfl ?_); refine box_event ?hg (N := 3) ?hd (cs := #[.int .i64 a1_0, .slice A1_1 l1_1.length c1_1]) (t := 31) ?hr ?_; (case hd => rfl); (case hg => rfl); (case hr => first | (go_simp; done) | (go_simp; rfl)); intro gb215 hg w5 hbox hb; have n0_ := Aside0.mk (bb (g := gb214) hb); have n1_ := Aside0.mk (below_step bl hb); have n2_ := Aside0.mk (hbox); have n3_ := Aside0.mk ((sz hg : w.heap.size ≤ gb215)); have n4_ := Aside0.mk ((sz hg : w.heap.size ≤ gb215)); have n5_ := Aside0.mk ((nl hg : gb214 ≠ gb215)); have n6_ := Aside0.mk ((ng hg : gb215 ≠ gb214)); clear BK214; clear HB; have BK214 := n0_; have HB := n1_; have BK215 := n2_; have GW215 := n3_; have GE215 := n4_; have NB214_215 := n5_; have NB215_214 := n6_; clear n0_ n1_ n2_ n3_ n4_ n5_ n6_; clear hb hbox hg; have hnb6 := NB214_215.out; have hnc6 := NB215_214.out; have hcz7_0 : w5.cell? ⟨gb214, 0, none⟩ = some (.int .i64 a0_0) := (blk_cell BK214.out 0).trans rfl; have hcz7_1 : w5.cell? ⟨gb214, 1, none⟩ = some (.slice A0_1 l0_1.length c0_1) := (blk_cell BK214.out 1).trans rfl; have hfz7_0 := blk_frozen BK214.out 0; have hfz7_1 := blk_frozen BK214.out 1; have hcz8_0 : w5.cell? ⟨gb215, 0, none⟩ = some (.int .i64 a1_0) := (blk_cell BK215.out 0).trans rfl; have hcz8_1 : w5.cell? ⟨gb215, 1, none⟩ = some (.slice A1_1 l1_1.length c1_1) := (blk_cell BK215.out 1).trans rfl; have hfz8_0 := blk_frozen BK215.out 0; have hfz8_1 := blk_frozen BK215.out 1))))
    go_loopg [5] k (fun kq v5 w' => ∃ (x5_1 : Int), v5 = .int .i64 x5_1 ∧ Aside0 (rowlockref03_Less.l0 kq x5_1 a0_0 l0_1 a1_0 l1_1 = some r) ∧ Aside0 (kq ≤ k) ∧ Aside0 (w'.heap[gb214]? = some (.cells #[.int .i64 a0_0, (.slice A0_1 l0_1.length c0_1)] 31 (0, 0))) ∧ Aside0 (w'.heap[gb215]? = some (.cells #[.int .i64 a1_0, (.slice A1_1 l1_1.length c1_1)] 31 (0, 0))) ∧ Aside0 (Below w.heap.size w w'))
    case atStart => exact ⟨(wrap64 ((l1_1.length : Int) - 1)), (by first | rfl | (simp; done) | (simp [*]; done)), H', ⟨Nat.le_refl _⟩, ⟨pk⟩, ⟨pk⟩, ⟨bl⟩⟩
    case round =>
      clear H'
      try clear c1
      try clear p2
      try clear c3
      try clear c3b0
      try clear c3b1
      try clear c6
      try clear p6
      try clear hcz7_0
      try clear hcz7_1
      try clear hcz8_0
      try clear hcz8_1
      try clear hfz7_0
      try clear hfz7_1
      try clear hfz8_0
      try clear hfz8_1
      obtain ⟨x5_1, rfl, HA, HK1, BK214, BK215, HB⟩ := hrel
      cases gk with
      | zero => exact absurd HA.out (by simp [rowlockref03_Less.l0])
      | succ k1 =>
        have H := HA.out
        clear HA
        simp only [rowlockref03_Less.l0] at H
        by_cases c9 : x5_1 ≥ 0
        · rw [if_pos c9] at H
          have c9b0 : decide (0 ≤ x5_1) = true := decide_eq_true c9
          clear c9
          replace H := Option.bind_eq_some_iff.mp H
          obtain ⟨t216, A100, H⟩ := H
          replace H : ((rowlockref03_digit.f l1_1 x5_1).bind fun t217 => (if t216 = t217 then (rowlockref03_Less.l0 k1 (wrap64 (x5_1 - 1)) a0_0 l0_1 a1_0 l1_1) else (some (decide (t216 < t217))))) = some r := H
          have A10 := Aside0.mk A100
          clear A100
          replace H := Option.bind_eq_some_iff.mp H
          obtain ⟨t217, A110, H⟩ := H
          replace H : (if t216 = t217 then (rowlockref03_Less.l0 k1 (wrap64 (x5_1 - 1)) a0_0 l0_1 a1_0 l1_1) else (some (decide (t216 < t217)))) = some r := H
          have A11 := Aside0.mk A110
          clear A110
          by_cases c12 : t216 = t217
          · rw [if_pos c12] at H
            have c12b0 : (t216 == t217) = true := beq_iff_eq.mpr c12
            have c12b1 : (t216 != t217) = false := bne_eq_false_iff_eq.mpr c12
            clear c12
            have H' := Aside0.mk H
            clear H
            have hnb13 := NB214_215.out
            have hnc13 := NB215_214.out
            have hcz14_0 : wr.cell? ⟨gb214, 0, none⟩ = some (.int .i64 a0_0) := (blk_cell BK214.out 0).trans rfl
            have hcz14_1 : wr.cell? ⟨gb214, 1, none⟩ = some (.slice A0_1 l0_1.length c0_1) := (blk_cell BK214.out 1).trans rfl
            have hfz14_0 := blk_frozen BK214.out 0
            have hfz14_1 := blk_frozen BK214.out 1
            go_wp2_with (first | (go_at_call 32; (with_reducible refine (rowlockref03_digit.calls _ _ l0_1 x5_1 t216 _ ?side1 ?side2 A10.out).mono ?_); (case side1 => exact cb); (case side2 => exact HC0_1.out); rintro e w' ⟨rfl, ⟨nd, rfl⟩⟩; (try first | exact ⟨rfl, _, World.drewN_drewN _ _ _⟩ | exact ⟨rfl, _, Eq.trans (World.drewN_drewN _ _ _) (congrArg (World.drewN _) (Nat.add_assoc _ _ _))⟩); have hcz15_0 : wr.cell? ⟨gb215, 0, none⟩ = some (.int .i64 a1_0) := (blk_cell BK215.out 0).trans rfl; have hcz15_1 : wr.cell? ⟨gb215, 1, none⟩ = some (.slice A1_1 l1_1.length c1_1) := (blk_cell BK215.out 1).trans rfl; have hfz15_0 := blk_frozen BK215.out 0; have hfz15_1 := blk_frozen BK215.out 1) | (go_at_call 32; (with_reducible refine (rowlockref03_digit.calls _ _ l1_1 x5_1 t217 _ ?side1 ?side2 A11.out).mono ?_); (case side1 => repeat (first | exact (Kd.C_below HR1_1.out bl) | (with_reducible refine Kd.C_alloc ?_ _) | (with_reducible refine Kd.C_drewN ?_ _) | (with_reducible refine Kd.C_drew ?_))); (case side2 => exact HC1_1.out); rintro e w' ⟨rfl, ⟨nd, rfl⟩⟩; (try first | exact ⟨rfl, _, World.drewN_drewN _ _ _⟩ | exact ⟨rfl, _, Eq.trans (World.drewN_drewN _ _ _) (congrArg (World.drewN _) (Nat.add_assoc _ _ _))⟩)) | ((with_reducible refine gate_draws ?_); go_quiet (first | (go_at_call 32; (with_reducible refine (rowlockref03_digit.calls _ _ l0_1 x5_1 t216 _ ?side1 ?side2 A10.out).mono ?_); (case side1 => exact cb); (case side2 => exact HC0_1.out); rintro e w' ⟨rfl, ⟨nd, rfl⟩⟩; (try first | exact ⟨rfl, _, World.drewN_drewN _ _ _⟩ | exact ⟨rfl, _, Eq.trans (World.drewN_drewN _ _ _) (congrArg (World.drewN _) (Nat.add_assoc _ _ _))⟩); have hcz15_0 : wr.cell? ⟨gb215, 0, none⟩ = some (.int .i64 a1_0) := (blk_cell BK215.out 0).trans rfl; have hcz15_1 : wr.cell? ⟨gb215, 1, none⟩ = some (.slice A1_1 l1_1.length c1_1) := (blk_cell BK215.out 1).trans rfl; have hfz15_0 := blk_frozen BK215.out 0; have hfz15_1 := blk_frozen BK215.out 1) | (go_at_call 32; (with_reducible refine (rowlockref03_digit.calls _ _ l1_1 x5_1 t217 _ ?side1 ?side2 A11.out).mono ?_); (case side1 => repeat (first | exact (Kd.C_below HR1_1.out bl) | (with_reducible refine Kd.C_alloc ?_ _) | (with_reducible refine Kd.C_drewN ?_ _) | (with_reducible refine Kd.C_drew ?_))); (case side2 => exact HC1_1.out); rintro e w' ⟨rfl, ⟨nd, rfl⟩⟩; (try first | exact ⟨rfl, _, World.drewN_drewN _ _ _⟩ | exact ⟨rfl, _, Eq.trans (World.drewN_drewN _ _ _) (congrArg (World.drewN _) (Nat.add_assoc _ _ _))⟩)))))
            go_roundg k1
            case measure => have := HK1.out; omega
            case rel => exact ⟨(wrap64 (x5_1 - 1)), (by first | rfl | (simp; done) | (simp [*]; done)), H', ⟨by have := HK1.out; omega⟩, ⟨pk⟩, ⟨pk⟩, ⟨bl⟩⟩
          · rw [if_neg c12] at H
            have c12b0 : (t216 == t217) = false := beq_eq_false_iff_ne.mpr c12
            have c12b1 : (t216 != t217) = true := bne_iff_ne.mpr c12
            obtain rfl := Option.some.inj H
            have hnb16 := NB214_215.out
            have hnc16 := NB215_214.out
            have hcz17_0 : wr.cell? ⟨gb214, 0, none⟩ = some (.int .i64 a0_0) := (blk_cell BK214.out 0).trans rfl
            have hcz17_1 : wr.cell? ⟨gb214, 1, none⟩ = some (.slice A0_1 l0_1.length c0_1) := (blk_cell BK214.out 1).trans rfl
            have hfz17_0 := blk_frozen BK214.out 0
            have hfz17_1 := blk_frozen BK214.out 1
            go_wp2_with (first | (go_at_call 32; (with_reducible refine (rowlockref03_digit.calls _ _ l0_1 x5_1 t216 _ ?side1 ?side2 A10.out).mono ?_); (case side1 => exact cb); (case side2 => exact HC0_1.out); rintro e w' ⟨rfl, ⟨nd, rfl⟩⟩; (try first | exact ⟨rfl, _, World.drewN_drewN _ _ _⟩ | exact ⟨rfl, _, Eq.trans (World.drewN_drewN _ _ _) (congrArg (World.drewN _) (Nat.add_assoc _ _ _))⟩); have hcz18_0 : wr.cell? ⟨gb215, 0, none⟩ = some (.int .i64 a1_0) := (blk_cell BK215.out 0).trans rfl; have hcz18_1 : wr.cell? ⟨gb215, 1, none⟩ = some (.slice A1_1 l1_1.length c1_1) := (blk_cell BK215.out 1).trans rfl; have hfz18_0 := blk_frozen BK215.out 0; have hfz18_1 := blk_frozen BK215.out 1) | (go_at_call 32; (with_reducible refine (rowlockref03_digit.calls _ _ l1_1 x5_1 t217 _ ?side1 ?side2 A11.out).mono ?_); (case side1 => repeat (first | exact (Kd.C_below HR1_1.out bl) | (with_reducible refine Kd.C_alloc ?_ _) | (with_reducible refine Kd.C_drewN ?_ _) | (with_reducible refine Kd.C_drew ?_))); (case side2 => exact HC1_1.out); rintro e w' ⟨rfl, ⟨nd, rfl⟩⟩; (try first | exact ⟨rfl, _, World.drewN_drewN _ _ _⟩ | exact ⟨rfl, _, Eq.trans (World.drewN_drewN _ _ _) (congrArg (World.drewN _) (Nat.add_assoc _ _ _))⟩)) | ((with_reducible refine gate_draws ?_); go_quiet (first | (go_at_call 32; (with_reducible refine (rowlockref03_digit.calls _ _ l0_1 x5_1 t216 _ ?side1 ?side2 A10.out).mono ?_); (case side1 => exact cb); (case side2 => exact HC0_1.out); rintro e w' ⟨rfl, ⟨nd, rfl⟩⟩; (try first | exact ⟨rfl, _, World.drewN_drewN _ _ _⟩ | exact ⟨rfl, _, Eq.trans (World.drewN_drewN _ _ _) (congrArg (World.drewN _) (Nat.add_assoc _ _ _))⟩); have hcz18_0 : wr.cell? ⟨gb215, 0, none⟩ = some (.int .i64 a1_0) := (blk_cell BK215.out 0).trans rfl; have hcz18_1 : wr.cell? ⟨gb215, 1, none⟩ = some (.slice A1_1 l1_1.length c1_1) := (blk_cell BK215.out 1).trans rfl; have hfz18_0 := blk_frozen BK215.out 0; have hfz18_1 := blk_frozen BK215.out 1) | (go_at_call 32; (with_reducible refine (rowlockref03_digit.calls _ _ l1_1 x5_1 t217 _ ?side1 ?side2 A11.out).mono ?_); (case side1 => repeat (first | exact (Kd.C_below HR1_1.out bl) | (with_reducible refine Kd.C_alloc ?_ _) | (with_reducible refine Kd.C_drewN ?_ _) | (with_reducible refine Kd.C_drew ?_))); (case side2 => exact HC1_1.out); rintro e w' ⟨rfl, ⟨nd, rfl⟩⟩; (try first | exact ⟨rfl, _, World.drewN_drewN _ _ _⟩ | exact ⟨rfl, _, Eq.trans (World.drewN_drewN _ _ _) (congrArg (World.drewN _) (Nat.add_assoc _ _ _))⟩)))))
            go_ret
            exact ⟨by first | rfl | (simp [errW_none, errW_some] <;> rfl) | (simp [*, errW_none, errW_some] <;> rfl), bl⟩
        · rw [if_neg c9] at H
          have c9b0 : decide (0 ≤ x5_1) = false := decide_eq_false c9
          clear c9
          obtain rfl := Option.some.inj H
          go_wp2_with (((with_reducible refine gate_draws ?_); go_quiet (fail)))
          go_ret
          exact ⟨by first | rfl | (simp [errW_none, errW_some] <;> rfl) | (simp [*, errW_none, errW_some] <;> rfl), bl⟩
  · rw [if_neg c3] at H
    have c3i := eq_false c3
    have c3b0 : decide ((l0_1.length : Int) < (l1_1.length : Int)) = false := decide_eq_false c3
    have c3b1 : decide (l0_1.length < l1_1.length) = false := decide_eq_false (fun h => c3 (Int.ofNat_lt.mpr h))
    clear c3
    have H' := Aside0.mk H
    clear H
    go_enter Try.func14, Try.ntmps14
    go_wp2_with (first | ((with_reducible refine gate_dst (N := 2) rfl ?_); refine box_event ?hg (N := 2) ?hd (cs := #[.int .i64 a0_0, .slice A0_1 l0_1.length c0_1]) (t := 31) ?hr ?_; (case hd => rfl); (case hg => rfl); (case hr => first | (go_simp; done) | (go_simp; rfl)); intro gb214 hg w19 hbox hb; have n0_ := Aside0.mk (below_step bl hb); have n1_ := Aside0.mk (hbox); have n2_ := Aside0.mk ((sz hg : w.heap.size ≤ gb214)); have n3_ := Aside0.mk ((sz hg : w.heap.size ≤ gb214)); clear HB; have HB := n0_; have BK214 := n1_; have GW214 := n2_; have GE214 := n3_; clear n0_ n1_ n2_ n3_; clear hb hbox hg) | ((with_reducible refine gate_dst (N := 3) rfl ?_); refine box_event ?hg (N := 3) ?hd (cs := #[.int .i64 a1_0, .slice A1_1 l1_1.length c1_1]) (t := 31) ?hr ?_; (case hd => rfl); (case hg => rfl); (case hr => first | (go_simp; done) | (go_simp; rfl)); intro gb215 hg w20 hbox hb; have n0_ := Aside0.mk (bb (g := gb214) hb); have n1_ := Aside0.mk (below_step bl hb); have n2_ := Aside0.mk (hbox); have n3_ := Aside0.mk ((sz hg : w.heap.size ≤ gb215)); have n4_ := Aside0.mk ((sz hg : w.heap.size ≤ gb215)); have n5_ := Aside0.mk ((nl hg : gb214 ≠ gb215)); have n6_ := Aside0.mk ((ng hg : gb215 ≠ gb214)); clear BK214; clear HB; have BK214 := n0_; have HB := n1_; have BK215 := n2_; have GW215 := n3_; have GE215 := n4_; have NB214_215 := n5_; have NB215_214 := n6_; clear n0_ n1_ n2_ n3_ n4_ n5_ n6_; clear hb hbox hg; have hnb21 := NB214_215.out; have hnc21 := NB215_214.out; have hcz22_0 : w20.cell? ⟨gb214, 0, none⟩ = some (.int .i64 a0_0) := (blk_cell BK214.out 0).trans rfl; have hcz22_1 : w20.cell? ⟨gb214, 1, none⟩ = some (.slice A0_1 l0_1.length c0_1) := (blk_cell BK214.out 1).trans rfl; have hfz22_0 := blk_frozen BK214.out 0; have hfz22_1 := blk_frozen BK214.out 1; have hcz23_0 : w20.cell? ⟨gb215, 0, none⟩ = some (.int .i64 a1_0) := (blk_cell BK215.out 0).trans rfl; have hcz23_1 : w20.cell? ⟨gb215, 1, none⟩ = some (.slice A1_1 l1_1.length c1_1) := (blk_cell BK215.out 1).trans rfl; have hfz23_0 := blk_frozen BK215.out 0; have hfz23_1 := blk_frozen BK215.out 1) | ((with_reducible refine gate_draws ?_); go_quiet (first | ((with_reducible refine gate_dst (N := 2) rfl ?_); refine box_event ?hg (N := 2) ?hd (cs := #[.int .i64 a0_0, .slice A0_1 l0_1.length c0_1]) (t := 31) ?hr ?_; (case hd => rfl); (case hg => rfl); (case hr => first | (go_simp; done) | (go_simp; rfl)); intro gb214 hg w19 hbox hb; have n0_ := Aside0.mk (below_step bl hb); have n1_ := Aside0.mk (hbox); have n2_ := Aside0.mk ((sz hg : w.heap.size ≤ gb214)); have n3_ := Aside0.mk ((sz hg : w.heap.size ≤ gb214)); clear HB; have HB := n0_; have BK214 := n1_; have GW214 := n2_; have GE214 := n3_; clear n0_ n1_ n2_ n3_; clear hb hbox hg) | ((with_reducible refine gate_dst (N := 3) rfl ?_); refine box_event ?hg (N := 3) ?hd (cs := #[.int .i64 a1_0, .slice A1_1 l1_1.length c1_1]) (t := 31) ?hr ?_; (case hd => rfl); (case hg => rfl); (case hr => first | (go_simp; done) | (go_simp; rfl)); intro gb215 hg w20 hbox hb; have n0_ := Aside0.mk (bb (g := gb214) hb); have n1_ := Aside0.mk (below_step bl hb); have n2_ := Aside0.mk (hbox); have n3_ := Aside0.mk ((sz hg : w.heap.size ≤ gb215)); have n4_ := Aside0.mk ((sz hg : w.heap.size ≤ gb215)); have n5_ := Aside0.mk ((nl hg : gb214 ≠ gb215)); have n6_ := Aside0.mk ((ng hg : gb215 ≠ gb214)); clear BK214; clear HB; have BK214 := n0_; have HB := n1_; have BK215 := n2_; have GW215 := n3_; have GE215 := n4_; have NB214_215 := n5_; have NB215_214 := n6_; clear n0_ n1_ n2_ n3_ n4_ n5_ n6_; clear hb hbox hg; have hnb21 := NB214_215.out; have hnc21 := NB215_214.out; have hcz22_0 : w20.cell? ⟨gb214, 0, none⟩ = some (.int .i64 a0_0) := (blk_cell BK214.out 0).trans rfl; have hcz22_1 : w20.cell? ⟨gb214, 1, none⟩ = some (.slice A0_1 l0_1.length c0_1) := (blk_cell BK214.out 1).trans rfl; have hfz22_0 := blk_frozen BK214.out 0; have hfz22_1 := blk_frozen BK214.out 1; have hcz23_0 : w20.cell? ⟨gb215, 0, none⟩ = some (.int .i64 a1_0) := (blk_cell BK215.out 0).trans rfl; have hcz23_1 : w20.cell? ⟨gb215, 1, none⟩ = some (.slice A1_1 l1_1.length c1_1) := (blk_cell BK215.out 1).trans rfl; have hfz23_0 := blk_frozen BK215.out 0; have hfz23_1 := blk_frozen BK215.out 1))))
    go_loopg [5] k (fun kq v5 w' => ∃ (x5_1 : Int), v5 = .int .i64 x5_1 ∧ Aside0 (rowlockref03_Less.l0 kq x5_1 a0_0 l0_1 a1_0 l1_1 = some r) ∧ Aside0 (kq ≤ k) ∧ Aside0 (w'.heap[gb214]? = some (.cells #[.int .i64 a0_0, (.slice A0_1 l0_1.length c0_1)] 31 (0, 0))) ∧ Aside0 (w'.heap[gb215]? = some (.cells #[.int .i64 a1_0, (.slice A1_1 l1_1.length c1_1)] 31 (0, 0))) ∧ Aside0 (Below w.heap.size w w'))
    case atStart => exact ⟨(wrap64 ((l0_1.length : Int) - 1)), (by first | rfl | (simp; done) | (simp [*]; done)), H', ⟨Nat.le_refl _⟩, ⟨pk⟩, ⟨pk⟩, ⟨bl⟩⟩
    case round =>
      clear H'
      try clear c1
      try clear c2
      try clear p2
      try clear c3
      try clear c3b0
      try clear c3b1
      try clear c6
      try clear p6
      try clear c9
      try clear c9b0
      try clear c12
      try clear c12b0
      try clear c12b1
      try clear c13
      try clear c14
      try clear c16
      try clear c21
      try clear hcz14_0
      try clear hcz14_1
      try clear hcz15_0
      try clear hcz15_1
      try clear hcz17_0
      try clear hcz17_1
      try clear hcz18_0
      try clear hcz18_1
      try clear hcz22_0
      try clear hcz22_1
      try clear hcz23_0
      try clear hcz23_1
      try clear hcz7_0
      try clear hcz7_1
      try clear hcz8_0
      try clear hcz8_1
      try clear hfz14_0
      try clear hfz14_1
      try clear hfz15_0
      try clear hfz15_1
      try clear hfz17_0
      try clear hfz17_1
      try clear hfz18_0
      try clear hfz18_1
      try clear hfz22_0
      try clear hfz22_1
      try clear hfz23_0
      try clear hfz23_1
      try clear hfz7_0
      try clear hfz7_1
      try clear hfz8_0
      try clear hfz8_1
      try clear p2
      try clear p6
      obtain ⟨x5_1, rfl, HA, HK1, BK214, BK215, HB⟩ := hrel
      cases gk with
      | zero => exact absurd HA.out (by simp [rowlockref03_Less.l0])
      | succ k1 =>
        have H := HA.out
        clear HA
        simp only [rowlockref03_Less.l0] at H
        by_cases c24 : x5_1 ≥ 0
        · rw [if_pos c24] at H
          have c24b0 : decide (0 ≤ x5_1) = true := decide_eq_true c24
          clear c24
          replace H := Option.bind_eq_some_iff.mp H
          obtain ⟨t216, A250, H⟩ := H
          replace H : ((rowlockref03_digit.f l1_1 x5_1).bind fun t217 => (if t216 = t217 then (rowlockref03_Less.l0 k1 (wrap64 (x5_1 - 1)) a0_0 l0_1 a1_0 l1_1) else (some (decide (t216 < t217))))) = some r := H
          have A25 := Aside0.mk A250
          clear A250
          replace H := Option.bind_eq_some_iff.mp H
          obtain ⟨t217, A260, H⟩ := H
          replace H : (if t216 = t217 then (rowlockref03_Less.l0 k1 (wrap64 (x5_1 - 1)) a0_0 l0_1 a1_0 l1_1) else (some (decide (t216 < t217)))) = some r := H
          have A26 := Aside0.mk A260
          clear A260
          by_cases c27 : t216 = t217
          · rw [if_pos c27] at H
            have c27b0 : (t216 == t217) = true := beq_iff_eq.mpr c27
            have c27b1 : (t216 != t217) = false := bne_eq_false_iff_eq.mpr c27
            clear c27
            have H' := Aside0.mk H
            clear H
            have hnb28 := NB214_215.out
            have hnc28 := NB215_214.out
            have hcz29_0 : wr.cell? ⟨gb214, 0, none⟩ = some (.int .i64 a0_0) := (blk_cell BK214.out 0).trans rfl
            have hcz29_1 : wr.cell? ⟨gb214, 1, none⟩ = some (.slice A0_1 l0_1.length c0_1) := (blk_cell BK214.out 1).trans rfl
            have hfz29_0 := blk_frozen BK214.out 0
            have hfz29_1 := blk_frozen BK214.out 1
            go_wp2_with (first | (go_at_call 32; (with_reducible refine (rowlockref03_digit.calls _ _ l0_1 x5_1 t216 _ ?side1 ?side2 A25.out).mono ?_); (case side1 => exact cb); (case side2 => exact HC0_1.out); rintro e w' ⟨rfl, ⟨nd, rfl⟩⟩; (try first | exact ⟨rfl, _, World.drewN_drewN _ _ _⟩ | exact ⟨rfl, _, Eq.trans (World.drewN_drewN _ _ _) (congrArg (World.drewN _) (Nat.add_assoc _ _ _))⟩); have hcz30_0 : wr.cell? ⟨gb215, 0, none⟩ = some (.int .i64 a1_0) := (blk_cell BK215.out 0).trans rfl; have hcz30_1 : wr.cell? ⟨gb215, 1, none⟩ = some (.slice A1_1 l1_1.length c1_1) := (blk_cell BK215.out 1).trans rfl; have hfz30_0 := blk_frozen BK215.out 0; have hfz30_1 := blk_frozen BK215.out 1) | (go_at_call 32; (with_reducible refine (rowlockref03_digit.calls _ _ l1_1 x5_1 t217 _ ?side1 ?side2 A26.out).mono ?_); (case side1 => repeat (first | exact (Kd.C_below HR1_1.out bl) | (with_reducible refine Kd.C_alloc ?_ _) | (with_reducible refine Kd.C_drewN ?_ _) | (with_reducible refine Kd.C_drew ?_))); (case side2 => exact HC1_1.out); rintro e w' ⟨rfl, ⟨nd, rfl⟩⟩; (try first | exact ⟨rfl, _, World.drewN_drewN _ _ _⟩ | exact ⟨rfl, _, Eq.trans (World.drewN_drewN _ _ _) (congrArg (World.drewN _) (Nat.add_assoc _ _ _))⟩)) | ((with_reducible refine gate_draws ?_); go_quiet (first | (go_at_call 32; (with_reducible refine (rowlockref03_digit.calls _ _ l0_1 x5_1 t216 _ ?side1 ?side2 A25.out).mono ?_); (case side1 => exact cb); (case side2 => exact HC0_1.out); rintro e w' ⟨rfl, ⟨nd, rfl⟩⟩; (try first | exact ⟨rfl, _, World.drewN_drewN _ _ _⟩ | exact ⟨rfl, _, Eq.trans (World.drewN_drewN _ _ _) (congrArg (World.drewN _) (Nat.add_assoc _ _ _))⟩); have hcz30_0 : wr.cell? ⟨gb215, 0, none⟩ = some (.int .i64 a1_0) := (blk_cell BK215.out 0).trans rfl; have hcz30_1 : wr.cell? ⟨gb215, 1, none⟩ = some (.slice A1_1 l1_1.length c1_1) := (blk_cell BK215.out 1).trans rfl; have hfz30_0 := blk_frozen BK215.out 0; have hfz30_1 := blk_frozen BK215.out 1) | (go_at_call 32; (with_reducible refine (rowlockref03_digit.calls _ _ l1_1 x5_1 t217 _ ?side1 ?side2 A26.out).mono ?_); (case side1 => repeat (first | exact (Kd.C_below HR1_1.out bl) | (with_reducible refine Kd.C_alloc ?_ _) | (with_reducible refine Kd.C_drewN ?_ _) | (with_reducible refine Kd.C_drew ?_))); (case side2 => exact HC1_1.out); rintro e w' ⟨rfl, ⟨nd, rfl⟩⟩; (try first | exact ⟨rfl, _, World.drewN_drewN _ _ _⟩ | exact ⟨rfl, _, Eq.trans (World.drewN_drewN _ _ _) (congrArg (World.drewN _) (Nat.add_assoc _ _ _))⟩)))))
            go_roundg k1
            case measure => have := HK1.out; omega
            case rel => exact ⟨(wrap64 (x5_1 - 1)), (by first | rfl | (simp; done) | (simp [*]; done)), H', ⟨by have := HK1.out; omega⟩, ⟨pk⟩, ⟨pk⟩, ⟨bl⟩⟩
          · rw [if_neg c27] at H
            have c27b0 : (t216 == t217) = false := beq_eq_false_iff_ne.mpr c27
            have c27b1 : (t216 != t217) = true := bne_iff_ne.mpr c27
            obtain rfl := Option.some.inj H
            have hnb31 := NB214_215.out
            have hnc31 := NB215_214.out
            have hcz32_0 : wr.cell? ⟨gb214, 0, none⟩ = some (.int .i64 a0_0) := (blk_cell BK214.out 0).trans rfl
            have hcz32_1 : wr.cell? ⟨gb214, 1, none⟩ = some (.slice A0_1 l0_1.length c0_1) := (blk_cell BK214.out 1).trans rfl
            have hfz32_0 := blk_frozen BK214.out 0
            have hfz32_1 := blk_frozen BK214.out 1
            go_wp2_with (first | (go_at_call 32; (with_reducible refine (rowlockref03_digit.calls _ _ l0_1 x5_1 t216 _ ?side1 ?side2 A25.out).mono ?_); (case side1 => exact cb); (case side2 => exact HC0_1.out); rintro e w' ⟨rfl, ⟨nd, rfl⟩⟩; (try first | exact ⟨rfl, _, World.drewN_drewN _ _ _⟩ | exact ⟨rfl, _, Eq.trans (World.drewN_drewN _ _ _) (congrArg (World.drewN _) (Nat.add_assoc _ _ _))⟩); have hcz33_0 : wr.cell? ⟨gb215, 0, none⟩ = some (.int .i64 a1_0) := (blk_cell BK215.out 0).trans rfl; have hcz33_1 : wr.cell? ⟨gb215, 1, none⟩ = some (.slice A1_1 l1_1.length c1_1) := (blk_cell BK215.out 1).trans rfl; have hfz33_0 := blk_frozen BK215.out 0; have hfz33_1 := blk_frozen BK215.out 1) | (go_at_call 32; (with_reducible refine (rowlockref03_digit.calls _ _ l1_1 x5_1 t217 _ ?side1 ?side2 A26.out).mono ?_); (case side1 => repeat (first | exact (Kd.C_below HR1_1.out bl) | (with_reducible refine Kd.C_alloc ?_ _) | (with_reducible refine Kd.C_drewN ?_ _) | (with_reducible refine Kd.C_drew ?_))); (case side2 => exact HC1_1.out); rintro e w' ⟨rfl, ⟨nd, rfl⟩⟩; (try first | exact ⟨rfl, _, World.drewN_drewN _ _ _⟩ | exact ⟨rfl, _, Eq.trans (World.drewN_drewN _ _ _) (congrArg (World.drewN _) (Nat.add_assoc _ _ _))⟩)) | ((with_reducible refine gate_draws ?_); go_quiet (first | (go_at_call 32; (with_reducible refine (rowlockref03_digit.calls _ _ l0_1 x5_1 t216 _ ?side1 ?side2 A25.out).mono ?_); (case side1 => exact cb); (case side2 => exact HC0_1.out); rintro e w' ⟨rfl, ⟨nd, rfl⟩⟩; (try first | exact ⟨rfl, _, World.drewN_drewN _ _ _⟩ | exact ⟨rfl, _, Eq.trans (World.drewN_drewN _ _ _) (congrArg (World.drewN _) (Nat.add_assoc _ _ _))⟩); have hcz33_0 : wr.cell? ⟨gb215, 0, none⟩ = some (.int .i64 a1_0) := (blk_cell BK215.out 0).trans rfl; have hcz33_1 : wr.cell? ⟨gb215, 1, none⟩ = some (.slice A1_1 l1_1.length c1_1) := (blk_cell BK215.out 1).trans rfl; have hfz33_0 := blk_frozen BK215.out 0; have hfz33_1 := blk_frozen BK215.out 1) | (go_at_call 32; (with_reducible refine (rowlockref03_digit.calls _ _ l1_1 x5_1 t217 _ ?side1 ?side2 A26.out).mono ?_); (case side1 => repeat (first | exact (Kd.C_below HR1_1.out bl) | (with_reducible refine Kd.C_alloc ?_ _) | (with_reducible refine Kd.C_drewN ?_ _) | (with_reducible refine Kd.C_drew ?_))); (case side2 => exact HC1_1.out); rintro e w' ⟨rfl, ⟨nd, rfl⟩⟩; (try first | exact ⟨rfl, _, World.drewN_drewN _ _ _⟩ | exact ⟨rfl, _, Eq.trans (World.drewN_drewN _ _ _) (congrArg (World.drewN _) (Nat.add_assoc _ _ _))⟩)))))
            go_ret
            exact ⟨by first | rfl | (simp [errW_none, errW_some] <;> rfl) | (simp [*, errW_none, errW_some] <;> rfl), bl⟩
        · rw [if_neg c24] at H
          have c24b0 : decide (0 ≤ x5_1) = false := decide_eq_false c24
          clear c24
          obtain rfl := Option.some.inj H
          go_wp2_with (((with_reducible refine gate_draws ?_); go_quiet (fail)))
          go_ret
          exact ⟨by first | rfl | (simp [errW_none, errW_some] <;> rfl) | (simp [*, errW_none, errW_some] <;> rfl), bl⟩

/-! ### rowlockref03_apart: function 33 -/
def rowlockref03_apart.l0 : Nat → List Int → Int → Int → Int → Int → List Int → Int → List Int → Option (Int × List Int)
  | 0, _, _, _, _, _, _, _, _ => none
  | k + 1, x5, x6, x12, x13, x219000, x219001, x220000, x220001 => if x13 < x12 then (if 0 ≤ x13 then (if x13 < (x219001.length : Int) then ((rowlockref03_digit.f x220001 x13).bind fun t225 => (if x5.length < 17592186044416 then (rowlockref03_apart.l0 k (x5 ++ [Int.tmod (IntKind.u64.wrap ((IntKind.u64.wrap ((IntKind.u64.wrap ((rd x219001 x13) + 65536)) - t225)) - x6)) 65536]) (IntKind.u64.wrap (1 - (IntKind.u64.wrap (Int.tdiv (IntKind.u64.wrap ((IntKind.u64.wrap ((IntKind.u64.wrap ((rd x219001 x13) + 65536)) - t225)) - x6)) 65536)))) x12 (wrap64 (x13 + 1)) x219000 x219001 x220000 x220001) else (none))) else (none)) else (none)) else (some (1, x5))
def rowlockref03_apart.f (k : Nat) (a0_0 : Int) (l0_1 : List Int) (a1_0 : Int) (l1_1 : List Int) : Option (Int × List Int) := rowlockref03_apart.l0 k (([] : List Int)) 0 (l0_1.length : Int) 0 a0_0 l0_1 a1_0 l1_1
theorem rowlockref03_apart.mono_l : ∀ k, (∀ y0 y1 y2 y3 y4 y5 y6 y7, LeO (rowlockref03_apart.l0 k y0 y1 y2 y3 y4 y5 y6 y7) (rowlockref03_apart.l0 (k + 1) y0 y1 y2 y3 y4 y5 y6 y7))
  | 0 => fun _ _ _ _ _ _ _ _ r h => by simp [rowlockref03_apart.l0] at h
  | k + 1 => by
    have ih0 := rowlockref03_apart.mono_l k
    · intro y0 y1 y2 y3 y4 y5 y6 y7
      unfold rowlockref03_apart.l0
      repeat' first
      | (with_reducible exact ih0 _ _ _ _ _ _ _ _)
      | (with_reducible exact LeO.refl _)
      | (with_reducible exact LeO.none _)
      | (with_reducible refine LeO.ite ?_ ?_)
      | (with_reducible refine LeO.bind ?_ (fun _ => ?_))
      | exact ih0 _ _ _ _ _ _ _ _
      | exact LeO.none _
      | refine LeO.ite ?_ ?_
      | refine LeO.bind ?_ (fun _ => ?_)
theorem rowlockref03_apart.mono : ∀ a0 a1 a2 a3 k, LeO (rowlockref03_apart.f k a0 a1 a2 a3) (rowlockref03_apart.f (k + 1) a0 a1 a2 a3) := by
  intro a0 a1 a2 a3 k
  have ih0 := rowlockref03_apart.mono_l k
  unfold rowlockref03_apart.f
  repeat' first
      | (with_reducible exact ih0 _ _ _ _ _ _ _ _)
      | (with_reducible exact LeO.refl _)
      | (with_reducible exact LeO.none _)
      | (with_reducible refine LeO.ite ?_ ?_)
      | (with_reducible refine LeO.bind ?_ (fun _ => ?_))
      | exact ih0 _ _ _ _ _ _ _ _
      | exact LeO.none _
      | refine LeO.ite ?_ ?_
      | refine LeO.bind ?_ (fun _ => ?_)
set_option maxHeartbeats 8000000 in
set_option maxRecDepth 100000 in
theorem rowlockref03_apart.calls (k : Nat) (a0_0 : Int) (A0_1 : Option Addr) (c0_1 : Nat) (l0_1 : List Int) (a1_0 : Int) (A1_1 : Option Addr) (c1_1 : Nat) (l1_1 : List Int) (r1 : Int) (r2 : List Int) (w : World) (hr0_1 : Kd.C (Kd.int .u64) w A0_1 l0_1.length l0_1) (hc0_1 : l0_1.length ≤ c0_1) (hr1_1 : Kd.C (Kd.int .u64) w A1_1 l1_1.length l1_1) (hc1_1 : l1_1.length ≤ c1_1) (h : rowlockref03_apart.f k a0_0 l0_1 a1_0 l1_1 = some (r1, r2)) :
    Calls Try.prog 33 #[.agg #[.int .i64 a0_0, .slice A0_1 l0_1.length c0_1], .agg #[.int .i64 a1_0, .slice A1_1 l1_1.length c1_1]] w fun e w' => ∃ v1_ : Value, e = .returned (.agg #[.int .i64 r1, v1_]) ∧ Kd.R (Kd.int .u64) 27 w' w.heap.size (fun _ => True) v1_ r2 ∧ Below w.heap.size w w' := by
  have hu31 := Try.underlying31
  have HR0_1 := Aside0.mk hr0_1
  have HC0_1 := Aside0.mk hc0_1
  clear hr0_1 hc0_1
  have HR1_1 := Aside0.mk hr1_1
  have HC1_1 := Aside0.mk hc1_1
  clear hr1_1 hc1_1
  have HB := Aside0.mk (Below.refl w.heap.size w)
  have H : (rowlockref03_apart.l0 k (([] : List Int)) 0 (l0_1.length : Int) 0 a0_0 l0_1 a1_0 l1_1) = some (r1, r2) := h
  clear h
  obtain ⟨y221, hy221⟩ : ∃ y_ : List Int, y_ = (([] : List Int)) := ⟨_, rfl⟩
  replace H : (rowlockref03_apart.l0 k y221 0 (l0_1.length : Int) 0 a0_0 l0_1 a1_0 l1_1) = some (r1, r2) := by first | (rw [hy221]; with_reducible exact H) | (have H2_ := (Option.bind_some _ _).symm.trans H; rw [hy221]; with_reducible exact H2_) | (have H2_ := (Option.bind_some _ _).symm.trans H; with_reducible exact H2_) | with_reducible exact H | (rw [hy221]; exact H) | exact H
  have Ny221 := Aside0.mk hy221
  clear hy221
  have H' := Aside0.mk H
  clear H
  go_enter Try.func33, Try.ntmps33
  go_wp2_with (first | ((with_reducible refine gate_dst (N := 2) rfl ?_); refine box_event ?hg (N := 2) ?hd (cs := #[.int .i64 a0_0, .slice A0_1 l0_1.length c0_1]) (t := 31) ?hr ?_; (case hd => rfl); (case hg => rfl); (case hr => first | (go_simp; done) | (go_simp; rfl)); intro gb218 hg w3 hbox hb; have n0_ := Aside0.mk (below_step bl hb); have n1_ := Aside0.mk (hbox); have n2_ := Aside0.mk ((sz hg : w.heap.size ≤ gb218)); have n3_ := Aside0.mk ((sz hg : w.heap.size ≤ gb218)); clear HB; have HB := n0_; have BK218 := n1_; have GW218 := n2_; have GE218 := n3_; clear n0_ n1_ n2_ n3_; clear hb hbox hg) | ((with_reducible refine gate_dst (N := 3) rfl ?_); refine box_event ?hg (N := 3) ?hd (cs := #[.int .i64 a1_0, .slice A1_1 l1_1.length c1_1]) (t := 31) ?hr ?_; (case hd => rfl); (case hg => rfl); (case hr => first | (go_simp; done) | (go_simp; rfl)); intro gb219 hg w4 hbox hb; have n0_ := Aside0.mk (bb (g := gb218) hb); have n1_ := Aside0.mk (below_step bl hb); have n2_ := Aside0.mk (hbox); have n3_ := Aside0.mk ((sz hg : w.heap.size ≤ gb219)); have n4_ := Aside0.mk ((sz hg : w.heap.size ≤ gb219)); have n5_ := Aside0.mk ((nl hg : gb218 ≠ gb219)); have n6_ := Aside0.mk ((ng hg : gb219 ≠ gb218)); clear BK218; clear HB; have BK218 := n0_; have HB := n1_; have BK219 := n2_; have GW219 := n3_; have GE219 := n4_; have NB218_219 := n5_; have NB219_218 := n6_; clear n0_ n1_ n2_ n3_ n4_ n5_ n6_; clear hb hbox hg) | ((with_reducible refine gate_dst (N := 4) rfl ?_); refine box_event ?hg (N := 4) ?hd (cs := #[.int .i64 0, .slice none 0 0]) (t := 31) ?hr ?_; (case hd => rfl); (case hg => rfl); (case hr => first | (go_simp; done) | (go_simp; rfl)); intro gb220 hg w5 hbox hb; have n0_ := Aside0.mk (bb (g := gb218) hb); have n1_ := Aside0.mk (bb (g := gb219) hb); have n2_ := Aside0.mk (below_step bl hb); have n3_ := Aside0.mk (hbox); have n4_ := Aside0.mk ((sz hg : w.heap.size ≤ gb220)); have n5_ := Aside0.mk ((sz hg : w.heap.size ≤ gb220)); have n6_ := Aside0.mk ((nl hg : gb218 ≠ gb220)); have n7_ := Aside0.mk ((ng hg : gb220 ≠ gb218)); have n8_ := Aside0.mk ((nl hg : gb219 ≠ gb220)); have n9_ := Aside0.mk ((ng hg : gb220 ≠ gb219)); clear BK218; clear BK219; clear HB; have BK218 := n0_; have BK219 := n1_; have HB := n2_; have BK220 := n3_; have GW220 := n4_; have GE220 := n5_; have NB218_220 := n6_; have NB220_218 := n7_; have NB219_220 := n8_; have NB220_219 := n9_; clear n0_ n1_ n2_ n3_ n4_ n5_ n6_ n7_ n8_ n9_; clear hb hbox hg) | ((with_reducible refine gate_dst (N := 9) rfl ?_); refine Kd.R_lit (Kd.int .u64) _ 27 ?hg (N := 9) ?hd (xs := ([] : List Int)) (inner := []) (ok := fun _ => True) (okp := fun _ => True) ?hr ?hp (fun _ hk => hk) trivial (Below.refl _ _) (Nat.le_refl _) (by simp) ?_; (case hd => rfl); (case hg => rfl); (case hr => first | (go_simp; done) | (go_simp; rfl)); (case hp => exact (Reps.none _ _)); intro v222 w6 ho7 hb hg_ hnew_; clear hg_ hnew_; (first | rw [← Ny221.out] at ho7 | (simp only [Int.reduceToNat] at ho7; rw [← Ny221.out] at ho7)); have n0_ := Aside0.mk (Kd.R_lower ho7 (below_size bl)); have n1_ := Aside0.mk (bb (g := gb218) hb); have n2_ := Aside0.mk (bb (g := gb219) hb); have n3_ := Aside0.mk (bb (g := gb220) hb); have n4_ := Aside0.mk (below_step bl hb); clear BK218; clear BK219; clear BK220; clear HB; have HO223 := n0_; have BK218 := n1_; have BK219 := n2_; have BK220 := n3_; have HB := n4_; clear n0_ n1_ n2_ n3_ n4_; clear hb ho7; have hnb8 := NB218_219.out; have hnc8 := NB219_218.out; have hnb9 := NB218_220.out; have hnc9 := NB220_218.out; have hcz10_0 : w6.cell? ⟨gb218, 0, none⟩ = some (.int .i64 a0_0) := (blk_cell BK218.out 0).trans rfl; have hcz10_1 : w6.cell? ⟨gb218, 1, none⟩ = some (.slice A0_1 l0_1.length c0_1) := (blk_cell BK218.out 1).trans rfl; have hfz10_0 := blk_frozen BK218.out 0; have hfz10_1 := blk_frozen BK218.out 1) | ((with_reducible refine gate_draws ?_); go_quiet (first | ((with_reducible refine gate_dst (N := 2) rfl ?_); refine box_event ?hg (N := 2) ?hd (cs := #[.int .i64 a0_0, .slice A0_1 l0_1.length c0_1]) (t := 31) ?hr ?_; (case hd => rfl); (case hg => rfl); (case hr => first | (go_simp; done) | (go_simp; rfl)); intro gb218 hg w3 hbox hb; have n0_ := Aside0.mk (below_step bl hb); have n1_ := Aside0.mk (hbox); have n2_ := Aside0.mk ((sz hg : w.heap.size ≤ gb218)); have n3_ := Aside0.mk ((sz hg : w.heap.size ≤ gb218)); clear HB; have HB := n0_; have BK218 := n1_; have GW218 := n2_; have GE218 := n3_; clear n0_ n1_ n2_ n3_; clear hb hbox hg) | ((with_reducible refine gate_dst (N := 3) rfl ?_); refine box_event ?hg (N := 3) ?hd (cs := #[.int .i64 a1_0, .slice A1_1 l1_1.length c1_1]) (t := 31) ?hr ?_; (case hd => rfl); (case hg => rfl); (case hr => first | (go_simp; done) | (go_simp; rfl)); intro gb219 hg w4 hbox hb; have n0_ := Aside0.mk (bb (g := gb218) hb); have n1_ := Aside0.mk (below_step bl hb); have n2_ := Aside0.mk (hbox); have n3_ := Aside0.mk ((sz hg : w.heap.size ≤ gb219)); have n4_ := Aside0.mk ((sz hg : w.heap.size ≤ gb219)); have n5_ := Aside0.mk ((nl hg : gb218 ≠ gb219)); have n6_ := Aside0.mk ((ng hg : gb219 ≠ gb218)); clear BK218; clear HB; have BK218 := n0_; have HB := n1_; have BK219 := n2_; have GW219 := n3_; have GE219 := n4_; have NB218_219 := n5_; have NB219_218 := n6_; clear n0_ n1_ n2_ n3_ n4_ n5_ n6_; clear hb hbox hg) | ((with_reducible refine gate_dst (N := 4) rfl ?_); refine box_event ?hg (N := 4) ?hd (cs := #[.int .i64 0, .slice none 0 0]) (t := 31) ?hr ?_; (case hd => rfl); (case hg => rfl); (case hr => first | (go_simp; done) | (go_simp; rfl)); intro gb220 hg w5 hbox hb; have n0_ := Aside0.mk (bb (g := gb218) hb); have n1_ := Aside0.mk (bb (g := gb219) hb); have n2_ := Aside0.mk (below_step bl hb); have n3_ := Aside0.mk (hbox); have n4_ := Aside0.mk ((sz hg : w.heap.size ≤ gb220)); have n5_ := Aside0.mk ((sz hg : w.heap.size ≤ gb220)); have n6_ := Aside0.mk ((nl hg : gb218 ≠ gb220)); have n7_ := Aside0.mk ((ng hg : gb220 ≠ gb218)); have n8_ := Aside0.mk ((nl hg : gb219 ≠ gb220)); have n9_ := Aside0.mk ((ng hg : gb220 ≠ gb219)); clear BK218; clear BK219; clear HB; have BK218 := n0_; have BK219 := n1_; have HB := n2_; have BK220 := n3_; have GW220 := n4_; have GE220 := n5_; have NB218_220 := n6_; have NB220_218 := n7_; have NB219_220 := n8_; have NB220_219 := n9_; clear n0_ n1_ n2_ n3_ n4_ n5_ n6_ n7_ n8_ n9_; clear hb hbox hg) | ((with_reducible refine gate_dst (N := 9) rfl ?_); refine Kd.R_lit (Kd.int .u64) _ 27 ?hg (N := 9) ?hd (xs := ([] : List Int)) (inner := []) (ok := fun _ => True) (okp := fun _ => True) ?hr ?hp (fun _ hk => hk) trivial (Below.refl _ _) (Nat.le_refl _) (by simp) ?_; (case hd => rfl); (case hg => rfl); (case hr => first | (go_simp; done) | (go_simp; rfl)); (case hp => exact (Reps.none _ _)); intro v222 w6 ho7 hb hg_ hnew_; clear hg_ hnew_; (first | rw [← Ny221.out] at ho7 | (simp only [Int.reduceToNat] at ho7; rw [← Ny221.out] at ho7)); have n0_ := Aside0.mk (Kd.R_lower ho7 (below_size bl)); have n1_ := Aside0.mk (bb (g := gb218) hb); have n2_ := Aside0.mk (bb (g := gb219) hb); have n3_ := Aside0.mk (bb (g := gb220) hb); have n4_ := Aside0.mk (below_step bl hb); clear BK218; clear BK219; clear BK220; clear HB; have HO223 := n0_; have BK218 := n1_; have BK219 := n2_; have BK220 := n3_; have HB := n4_; clear n0_ n1_ n2_ n3_ n4_; clear hb ho7; have hnb8 := NB218_219.out; have hnc8 := NB219_218.out; have hnb9 := NB218_220.out; have hnc9 := NB220_218.out; have hcz10_0 : w6.cell? ⟨gb218, 0, none⟩ = some (.int .i64 a0_0) := (blk_cell BK218.out 0).trans rfl; have hcz10_1 : w6.cell? ⟨gb218, 1, none⟩ = some (.slice A0_1 l0_1.length c0_1) := (blk_cell BK218.out 1).trans rfl; have hfz10_0 := blk_frozen BK218.out 0; have hfz10_1 := blk_frozen BK218.out 1))))
  go_loopg [5, 6, 13] k (fun kq v5 v6 v13 w' => ∃ (x5_1 : List Int) (x6_1 : Int) (x13_1 : Int), v6 = .int .u64 x6_1 ∧ v13 = .int .i64 x13_1 ∧ Aside0 (rowlockref03_apart.l0 kq x5_1 x6_1 (l0_1.length : Int) x13_1 a0_0 l0_1 a1_0 l1_1 = some (r1, r2)) ∧ Aside0 (kq ≤ k) ∧ Aside0 (Kd.R (Kd.int .u64) 27 w' w.heap.size (fun _ => True) v5 x5_1) ∧ Aside0 (w'.heap[gb218]? = some (.cells #[.int .i64 a0_0, (.slice A0_1 l0_1.length c0_1)] 31 (0, 0))) ∧ Aside0 (w'.heap[gb219]? = some (.cells #[.int .i64 a1_0, (.slice A1_1 l1_1.length c1_1)] 31 (0, 0))) ∧ Aside0 (w'.heap[gb220]? = some (.cells #[.int .i64 0, (.slice none 0 0)] 31 (0, 0))) ∧ Aside0 (Below w.heap.size w w'))
  case atStart => exact ⟨(y221), (0), (0), (by first | rfl | (simp; done) | (simp [*]; done)), (by first | rfl | (simp; done) | (simp [*]; done)), H', ⟨Nat.le_refl _⟩, ⟨by (with_reducible repeat (first | apply Kd.R_alloc | apply Kd.R_drewN | apply Kd.R_drew)); exact HO223.out⟩, ⟨pk⟩, ⟨pk⟩, ⟨pk⟩, ⟨bl⟩⟩
  case round =>
    clear H'
    try clear c1
    try clear p2
    try clear c3
    try clear c8
    try clear c9
    try clear hcz10_0
    try clear hcz10_1
    try clear hfz10_0
    try clear hfz10_1
    obtain ⟨x5_1, x6_1, x13_1, rfl, rfl, HA, HK1, HO_5, BK218, BK219, BK220, HB⟩ := hrel
    cases gk with
    | zero => exact absurd HA.out (by simp [rowlockref03_apart.l0])
    | succ k1 =>
      have H := HA.out
      clear HA
      simp only [rowlockref03_apart.l0] at H
      by_cases c11 : x13_1 < (l0_1.length : Int)
      · rw [if_pos c11] at H
        have c11b0 : decide (x13_1 < (l0_1.length : Int)) = true := decide_eq_true c11
        clear c11
        by_cases c12 : 0 ≤ x13_1
        · rw [if_pos c12] at H
          have c12b0 : decide (0 ≤ x13_1) = true := decide_eq_true c12
          clear c12
          by_cases c13 : x13_1 < (l0_1.length : Int)
          · rw [if_pos c13] at H
            have c13b0 : decide (x13_1 < (l0_1.length : Int)) = true := decide_eq_true c13
            clear c13
            replace H := Option.bind_eq_some_iff.mp H
            obtain ⟨t225, A140, H⟩ := H
            replace H : (if x5_1.length < 17592186044416 then (rowlockref03_apart.l0 k1 (x5_1 ++ [Int.tmod (IntKind.u64.wrap ((IntKind.u64.wrap ((IntKind.u64.wrap ((rd l0_1 x13_1) + 65536)) - t225)) - x6_1)) 65536]) (IntKind.u64.wrap (1 - (IntKind.u64.wrap (Int.tdiv (IntKind.u64.wrap ((IntKind.u64.wrap ((IntKind.u64.wrap ((rd l0_1 x13_1) + 65536)) - t225)) - x6_1)) 65536)))) (l0_1.length : Int) (wrap64 (x13_1 + 1)) a0_0 l0_1 a1_0 l1_1) else (none)) = some (r1, r2) := H
            have A14 := Aside0.mk A140
            clear A140
            by_cases c15 : x5_1.length < 17592186044416
            · rw [if_pos c15] at H
              have LMc15 := Aside0.mk c15
              clear c15
              obtain ⟨y226, hy226⟩ : ∃ y_ : List Int, y_ = (x5_1 ++ [Int.tmod (IntKind.u64.wrap ((IntKind.u64.wrap ((IntKind.u64.wrap ((rd l0_1 x13_1) + 65536)) - t225)) - x6_1)) 65536]) := ⟨_, rfl⟩
              replace H : (rowlockref03_apart.l0 k1 y226 (IntKind.u64.wrap (1 - (IntKind.u64.wrap (Int.tdiv (IntKind.u64.wrap ((IntKind.u64.wrap ((IntKind.u64.wrap ((rd l0_1 x13_1) + 65536)) - t225)) - x6_1)) 65536)))) (l0_1.length : Int) (wrap64 (x13_1 + 1)) a0_0 l0_1 a1_0 l1_1) = some (r1, r2) := by first | (rw [hy226]; with_reducible exact H) | (have H2_ := (Option.bind_some _ _).symm.trans H; rw [hy226]; with_reducible exact H2_) | (have H2_ := (Option.bind_some _ _).symm.trans H; with_reducible exact H2_) | with_reducible exact H | (rw [hy226]; exact H) | exact H
              have Ny226 := Aside0.mk hy226
              clear hy226
              have H' := Aside0.mk H
              clear H
              have hnb16 := NB218_219.out
              have hnc16 := NB219_218.out
              have hnb17 := NB218_220.out
              have hnc17 := NB220_218.out
              have hcz18_0 : wr.cell? ⟨gb218, 0, none⟩ = some (.int .i64 a0_0) := (blk_cell BK218.out 0).trans rfl
              have hcz18_1 : wr.cell? ⟨gb218, 1, none⟩ = some (.slice A0_1 l0_1.length c0_1) := (blk_cell BK218.out 1).trans rfl
              have hfz18_0 := blk_frozen BK218.out 0
              have hfz18_1 := blk_frozen BK218.out 1
              have p224 : 0 ≤ (x13_1 : Int) := of_decide_eq_true (by first | (with_reducible assumption) | assumption)
              have q224 : x13_1 < (l0_1.length : Int) := of_decide_eq_true (by first | (with_reducible assumption) | assumption)
              obtain ⟨ad224, e224, hx224_0⟩ := Kd.at_int HR0_1.out x13_1 p224 q224
              cases e224
              replace hx224_0 := (HB.out.cell (World.block_lt_of_cell? w _ hx224_0)).trans hx224_0
              replace p224 := eq_true p224
              replace q224 := eq_true q224
              have hnb19 := NB219_220.out
              have hnc19 := NB220_219.out
              have hcz20_0 : wr.cell? ⟨gb219, 0, none⟩ = some (.int .i64 a1_0) := (blk_cell BK219.out 0).trans rfl
              have hcz20_1 : wr.cell? ⟨gb219, 1, none⟩ = some (.slice A1_1 l1_1.length c1_1) := (blk_cell BK219.out 1).trans rfl
              have hfz20_0 := blk_frozen BK219.out 0
              have hfz20_1 := blk_frozen BK219.out 1
              go_wp2_with (first | (go_at_call 32; (with_reducible refine (rowlockref03_digit.calls _ _ l1_1 x13_1 t225 _ ?side1 ?side2 A14.out).mono ?_); (case side1 => exact cb); (case side2 => exact HC1_1.out); rintro e w' ⟨rfl, ⟨nd, rfl⟩⟩; (try first | exact ⟨rfl, _, World.drewN_drewN _ _ _⟩ | exact ⟨rfl, _, Eq.trans (World.drewN_drewN _ _ _) (congrArg (World.drewN _) (Nat.add_assoc _ _ _))⟩)) | ((with_reducible refine gate_builtin (b := .append) (xs := #[.tmp 29, .tmp 32]) rfl ?_); at_builtin; refine Kd.R_append (Kd.int .u64) (w0 := w) w.heap.size rfl (.tmp 29) (.tmp 32) 29 27 (.int .u64 0) 8 rfl Try.underlying29 info27 rfl (by decide) (by omega) u5 x5_1 (Int.tmod (IntKind.u64.wrap ((IntKind.u64.wrap ((IntKind.u64.wrap ((rd l0_1 x13_1) + 65536)) - t225)) - x6_1)) 65536) [.int .u64 (Int.tmod (IntKind.u64.wrap ((IntKind.u64.wrap ((IntKind.u64.wrap ((rd l0_1 x13_1) + 65536)) - t225)) - x6_1)) 65536)] (fun _ => True) (fun _ => False) rfl rfl ?aP (fun _ hk => hk.elim) ?aF ?aO ?aB ?aS ?aL ?_; (case aP => exact rfl); (case aB => exact bl); (case aF => exact (fun _ _ => trivial)); (case aO => exact (rk HO_5)); (case aS => exact (below_size bl)); (case aL => have := LMc15.out; omega); intro v227 w21 ho hb hg hat; rw [← Ny226.out] at ho; have n0_ := Aside0.mk (blk_grown (g := gb218) (o := .cells #[.int .i64 a0_0, .slice (some ad224) l0_1.length c0_1] 31 (0, 0)) pk hg (Kd.R_ne HO_5.out BK218.out (by decide))); have n1_ := Aside0.mk (blk_grown (g := gb219) (o := .cells #[.int .i64 a1_0, .slice A1_1 l1_1.length c1_1] 31 (0, 0)) pk hg (Kd.R_ne HO_5.out BK219.out (by decide))); have n2_ := Aside0.mk (blk_grown (g := gb220) (o := .cells #[.int .i64 0, .slice none 0 0] 31 (0, 0)) pk hg (Kd.R_ne HO_5.out BK220.out (by decide))); have n3_ := Aside0.mk (hb); have n4_ := Aside0.mk (ho); clear BK218; clear BK219; clear BK220; clear HB; clear HO_5; have BK218 := n0_; have BK219 := n1_; have BK220 := n2_; have HB := n3_; have HO228 := n4_; clear n0_ n1_ n2_ n3_ n4_; clear ho hb hg hat) | ((with_reducible refine gate_draws ?_); go_quiet (first | (go_at_call 32; (with_reducible refine (rowlockref03_digit.calls _ _ l1_1 x13_1 t225 _ ?side1 ?side2 A14.out).mono ?_); (case side1 => exact cb); (case side2 => exact HC1_1.out); rintro e w' ⟨rfl, ⟨nd, rfl⟩⟩; (try first | exact ⟨rfl, _, World.drewN_drewN _ _ _⟩ | exact ⟨rfl, _, Eq.trans (World.drewN_drewN _ _ _) (congrArg (World.drewN _) (Nat.add_assoc _ _ _))⟩)) | ((with_reducible refine gate_builtin (b := .append) (xs := #[.tmp 29, .tmp 32]) rfl ?_); at_builtin; refine Kd.R_append (Kd.int .u64) (w0 := w) w.heap.size rfl (.tmp 29) (.tmp 32) 29 27 (.int .u64 0) 8 rfl Try.underlying29 info27 rfl (by decide) (by omega) u5 x5_1 (Int.tmod (IntKind.u64.wrap ((IntKind.u64.wrap ((IntKind.u64.wrap ((rd l0_1 x13_1) + 65536)) - t225)) - x6_1)) 65536) [.int .u64 (Int.tmod (IntKind.u64.wrap ((IntKind.u64.wrap ((IntKind.u64.wrap ((rd l0_1 x13_1) + 65536)) - t225)) - x6_1)) 65536)] (fun _ => True) (fun _ => False) rfl rfl ?aP (fun _ hk => hk.elim) ?aF ?aO ?aB ?aS ?aL ?_; (case aP => exact rfl); (case aB => exact bl); (case aF => exact (fun _ _ => trivial)); (case aO => exact (rk HO_5)); (case aS => exact (below_size bl)); (case aL => have := LMc15.out; omega); intro v227 w21 ho hb hg hat; rw [← Ny226.out] at ho; have n0_ := Aside0.mk (blk_grown (g := gb218) (o := .cells #[.int .i64 a0_0, .slice (some ad224) l0_1.length c0_1] 31 (0, 0)) pk hg (Kd.R_ne HO_5.out BK218.out (by decide))); have n1_ := Aside0.mk (blk_grown (g := gb219) (o := .cells #[.int .i64 a1_0, .slice A1_1 l1_1.length c1_1] 31 (0, 0)) pk hg (Kd.R_ne HO_5.out BK219.out (by decide))); have n2_ := Aside0.mk (blk_grown (g := gb220) (o := .cells #[.int .i64 0, .slice none 0 0] 31 (0, 0)) pk hg (Kd.R_ne HO_5.out BK220.out (by decide))); have n3_ := Aside0.mk (hb); have n4_ := Aside0.mk (ho); clear BK218; clear BK219; clear BK220; clear HB; clear HO_5; have BK218 := n0_; have BK219 := n1_; have BK220 := n2_; have HB := n3_; have HO228 := n4_; clear n0_ n1_ n2_ n3_ n4_; clear ho hb hg hat))))
              go_roundg k1
              case measure => have := HK1.out; omega
              case rel => exact ⟨(y226), (IntKind.u64.wrap (1 - (IntKind.u64.wrap (Int.tdiv (IntKind.u64.wrap ((IntKind.u64.wrap ((IntKind.u64.wrap ((rd l0_1 x13_1) + 65536)) - t225)) - x6_1)) 65536)))), (wrap64 (x13_1 + 1)), (by first | rfl | (simp; done) | (simp [*]; done)), (by first | rfl | (simp; done) | (simp [*]; done)), H', ⟨by have := HK1.out; omega⟩, ⟨by (with_reducible repeat (first | apply Kd.R_alloc | apply Kd.R_drewN | apply Kd.R_drew)); exact HO228.out⟩, ⟨pk⟩, ⟨pk⟩, ⟨pk⟩, ⟨bl⟩⟩
            · rw [if_neg c15] at H
              exact absurd H (by simp)
          · rw [if_neg c13] at H
            exact absurd H (by simp)
        · rw [if_neg c12] at H
          exact absurd H (by simp)
      · rw [if_neg c11] at H
        have c11b0 : decide (x13_1 < (l0_1.length : Int)) = false := decide_eq_false c11
        clear c11
        simp only [Option.some.injEq, Prod.mk.injEq] at H
        obtain ⟨rfl, rfl⟩ := H
        obtain ⟨Ao22, co22, eo22⟩ := Kd.R_slice HO_5.out
        subst eo22
        have hnb23 := NB220_218.out
        have hnc23 := NB218_220.out
        have hnb24 := NB220_219.out
        have hnc24 := NB219_220.out
        have hcz25_0 : wr.cell? ⟨gb220, 0, none⟩ = some (.int .i64 0) := (blk_cell BK220.out 0).trans rfl
        have hcz25_1 : wr.cell? ⟨gb220, 1, none⟩ = some (.slice none 0 0) := (blk_cell BK220.out 1).trans rfl
        have hfz25_0 := blk_frozen BK220.out 0
        have hfz25_1 := blk_frozen BK220.out 1
        go_wp2_with (((with_reducible refine gate_draws ?_); go_quiet (fail)))
        refine bodyPost_ret (results_cell_row rfl _ _ gb220 31 #[.int .i64 1, .slice Ao22 x5_1.length co22] (0, 0) _ rfl (by (with_reducible repeat (first | refine blk_drewN ?_ _ | refine blk_drew ?_ | refine blk_alloc ?_ _)); refine blk_put (cs := #[.int .i64 1, .slice none 0 0]) ?_ 1 _ rfl; (with_reducible repeat (first | refine blk_drewN ?_ _ | refine blk_drew ?_ | refine blk_alloc ?_ _)); refine blk_put (cs := #[.int .i64 0, .slice none 0 0]) ?_ 0 _ rfl; (with_reducible repeat (first | refine blk_drewN ?_ _ | refine blk_drew ?_ | refine blk_alloc ?_ _)); exact BK220.out) Try.underlying31 rfl (by kernel_rfl)) rfl ?_
        exact ⟨_, by first | rfl | (simp [errW_none, errW_some] <;> rfl) | (simp [*, errW_none, errW_some] <;> rfl), by (with_reducible repeat (first | apply Kd.R_alloc | apply Kd.R_drewN | apply Kd.R_drew)); exact Kd.R_mono (Kd.R_far (p := ⟨gb220, 1, none⟩) (Kd.R_far (p := ⟨gb220, 0, none⟩) (Kd.R_types HO_5.out BK220.out (by decide)) (fun _ hk => hk.2) (.int .i64 1)) (fun _ hk => hk.2) (.slice Ao22 x5_1.length co22)) (fun _ hk => trivial), bl⟩

/-! ### rowlockref03_Plus: function 15 -/
def rowlockref03_Plus.f (k : Nat) (a0_0 : Int) (l0_1 : List Int) (a1_0 : Int) (l1_1 : List Int) : Option (Int × List Int) := if a0_0 = a1_0 then ((rowlockref03_size.f k a0_0 l0_1 a1_0 l1_1).bind fun bt232 => (some (a0_0, bt232.2))) else ((rowlockref03_Less.f k a0_0 l0_1 a1_0 l1_1).bind fun t237 => (if t237 = true then ((rowlockref03_apart.f k a1_0 l1_1 a0_0 l0_1).bind fun bt238 => (some (a1_0, bt238.2))) else ((rowlockref03_apart.f k a0_0 l0_1 a1_0 l1_1).bind fun bt243 => (some (a0_0, bt243.2)))))
theorem rowlockref03_Plus.mono : ∀ a0 a1 a2 a3 k, LeO (rowlockref03_Plus.f k a0 a1 a2 a3) (rowlockref03_Plus.f (k + 1) a0 a1 a2 a3) := by
  intro a0 a1 a2 a3 k
  unfold rowlockref03_Plus.f
  repeat' first
      | (with_reducible exact rowlockref03_Less.mono _ _ _ _ _)
      | (with_reducible exact rowlockref03_apart.mono _ _ _ _ _)
      | (with_reducible exact rowlockref03_size.mono _ _ _ _ _)
      | (with_reducible exact LeO.refl _)
      | (with_reducible exact LeO.none _)
      | (with_reducible refine LeO.ite ?_ ?_)
      | (with_reducible refine LeO.bind ?_ (fun _ => ?_))
      | exact rowlockref03_Less.mono _ _ _ _ _
      | exact rowlockref03_apart.mono _ _ _ _ _
      | exact rowlockref03_size.mono _ _ _ _ _
      | exact LeO.none _
      | refine LeO.ite ?_ ?_
      | refine LeO.bind ?_ (fun _ => ?_)
set_option maxHeartbeats 8000000 in
set_option maxRecDepth 100000 in
theorem rowlockref03_Plus.calls (k : Nat) (a0_0 : Int) (A0_1 : Option Addr) (c0_1 : Nat) (l0_1 : List Int) (a1_0 : Int) (A1_1 : Option Addr) (c1_1 : Nat) (l1_1 : List Int) (r1 : Int) (r2 : List Int) (w : World) (hr0_1 : Kd.C (Kd.int .u64) w A0_1 l0_1.length l0_1) (hc0_1 : l0_1.length ≤ c0_1) (hr1_1 : Kd.C (Kd.int .u64) w A1_1 l1_1.length l1_1) (hc1_1 : l1_1.length ≤ c1_1) (h : rowlockref03_Plus.f k a0_0 l0_1 a1_0 l1_1 = some (r1, r2)) :
    Calls Try.prog 15 #[.agg #[.int .i64 a0_0, .slice A0_1 l0_1.length c0_1], .agg #[.int .i64 a1_0, .slice A1_1 l1_1.length c1_1]] w fun e w' => ∃ v1_ : Value, e = .returned (.agg #[.int .i64 r1, v1_]) ∧ Kd.R (Kd.int .u64) 27 w' w.heap.size (fun _ => True) v1_ r2 ∧ Below w.heap.size w w' := by
  have hu31 := Try.underlying31
  have HR0_1 := Aside0.mk hr0_1
  have HC0_1 := Aside0.mk hc0_1
  clear hr0_1 hc0_1
  have HR1_1 := Aside0.mk hr1_1
  have HC1_1 := Aside0.mk hc1_1
  clear hr1_1 hc1_1
  have HB := Aside0.mk (Below.refl w.heap.size w)
  have H : (if a0_0 = a1_0 then ((rowlockref03_size.f k a0_0 l0_1 a1_0 l1_1).bind fun bt232 => (some (a0_0, bt232.2))) else ((rowlockref03_Less.f k a0_0 l0_1 a1_0 l1_1).bind fun t237 => (if t237 = true then ((rowlockref03_apart.f k a1_0 l1_1 a0_0 l0_1).bind fun bt238 => (some (a1_0, bt238.2))) else ((rowlockref03_apart.f k a0_0 l0_1 a1_0 l1_1).bind fun bt243 => (some (a0_0, bt243.2)))))) = some (r1, r2) := h
  clear h
  by_cases c3 : a0_0 = a1_0
  · rw [if_pos c3] at H
    have c3b0 : (a0_0 == a1_0) = true := beq_iff_eq.mpr c3
    have c3b1 : (a0_0 != a1_0) = false := bne_eq_false_iff_eq.mpr c3
    clear c3
    replace H := Option.bind_eq_some_iff.mp H
    obtain ⟨⟨t232, t233⟩, A40, H⟩ := H
    replace H : (some (a0_0, t233)) = some (r1, r2) := H
    have A4 := Aside0.mk A40
    clear A40
    simp only [Option.some.injEq, Prod.mk.injEq] at H
    obtain ⟨rfl, rfl⟩ := H
    go_enter Try.func15, Try.ntmps15
    go_wp2_with (first | ((with_reducible refine gate_dst (N := 2) rfl ?_); refine box_event ?hg (N := 2) ?hd (cs := #[.int .i64 a0_0, .slice A0_1 l0_1.length c0_1]) (t := 31) ?hr ?_; (case hd => rfl); (case hg => rfl); (case hr => first | (go_simp; done) | (go_simp; rfl)); intro gb229 hg w5 hbox hb; have n0_ := Aside0.mk (below_step bl hb); have n1_ := Aside0.mk (hbox); have n2_ := Aside0.mk ((sz hg : w.heap.size ≤ gb229)); have n3_ := Aside0.mk ((sz hg : w.heap.size ≤ gb229)); clear HB; have HB := n0_; have BK229 := n1_; have GW229 := n2_; have GE229 := n3_; clear n0_ n1_ n2_ n3_; clear hb hbox hg) | ((with_reducible refine gate_dst (N := 3) rfl ?_); refine box_event ?hg (N := 3) ?hd (cs := #[.int .i64 a1_0, .slice A1_1 l1_1.length c1_1]) (t := 31) ?hr ?_; (case hd => rfl); (case hg => rfl); (case hr => first | (go_simp; done) | (go_simp; rfl)); intro gb230 hg w6 hbox hb; have n0_ := Aside0.mk (bb (g := gb229) hb); have n1_ := Aside0.mk (below_step bl hb); have n2_ := Aside0.mk (hbox); have n3_ := Aside0.mk ((sz hg : w.heap.size ≤ gb230)); have n4_ := Aside0.mk ((sz hg : w.heap.size ≤ gb230)); have n5_ := Aside0.mk ((nl hg : gb229 ≠ gb230)); have n6_ := Aside0.mk ((ng hg : gb230 ≠ gb229)); clear BK229; clear HB; have BK229 := n0_; have HB := n1_; have BK230 := n2_; have GW230 := n3_; have GE230 := n4_; have NB229_230 := n5_; have NB230_229 := n6_; clear n0_ n1_ n2_ n3_ n4_ n5_ n6_; clear hb hbox hg) | ((with_reducible refine gate_dst (N := 4) rfl ?_); refine box_event ?hg (N := 4) ?hd (cs := #[.int .i64 0, .slice none 0 0]) (t := 31) ?hr ?_; (case hd => rfl); (case hg => rfl); (case hr => first | (go_simp; done) | (go_simp; rfl)); intro gb231 hg w7 hbox hb; have n0_ := Aside0.mk (bb (g := gb229) hb); have n1_ := Aside0.mk (bb (g := gb230) hb); have n2_ := Aside0.mk (below_step bl hb); have n3_ := Aside0.mk (hbox); have n4_ := Aside0.mk ((sz hg : w.heap.size ≤ gb231)); have n5_ := Aside0.mk ((sz hg : w.heap.size ≤ gb231)); have n6_ := Aside0.mk ((nl hg : gb229 ≠ gb231)); have n7_ := Aside0.mk ((ng hg : gb231 ≠ gb229)); have n8_ := Aside0.mk ((nl hg : gb230 ≠ gb231)); have n9_ := Aside0.mk ((ng hg : gb231 ≠ gb230)); clear BK229; clear BK230; clear HB; have BK229 := n0_; have BK230 := n1_; have HB := n2_; have BK231 := n3_; have GW231 := n4_; have GE231 := n5_; have NB229_231 := n6_; have NB231_229 := n7_; have NB230_231 := n8_; have NB231_230 := n9_; clear n0_ n1_ n2_ n3_ n4_ n5_ n6_ n7_ n8_ n9_; clear hb hbox hg; have hnb8 := NB229_230.out; have hnc8 := NB230_229.out; have hnb9 := NB229_231.out; have hnc9 := NB231_229.out; have hcz10_0 : w7.cell? ⟨gb229, 0, none⟩ = some (.int .i64 a0_0) := (blk_cell BK229.out 0).trans rfl; have hcz10_1 : w7.cell? ⟨gb229, 1, none⟩ = some (.slice A0_1 l0_1.length c0_1) := (blk_cell BK229.out 1).trans rfl; have hfz10_0 := blk_frozen BK229.out 0; have hfz10_1 := blk_frozen BK229.out 1; have hnb11 := NB230_231.out; have hnc11 := NB231_230.out; have hcz12_0 : w7.cell? ⟨gb230, 0, none⟩ = some (.int .i64 a1_0) := (blk_cell BK230.out 0).trans rfl; have hcz12_1 : w7.cell? ⟨gb230, 1, none⟩ = some (.slice A1_1 l1_1.length c1_1) := (blk_cell BK230.out 1).trans rfl; have hfz12_0 := blk_frozen BK230.out 0; have hfz12_1 := blk_frozen BK230.out 1) | ((with_reducible refine gate_callee (f := 31) rfl ?_); refine goesL_ (some 15) rfl rfl Try.func31 (by kernel_rfl) rfl #[.agg #[.int .i64 a0_0, .slice A0_1 l0_1.length c0_1], .agg #[.int .i64 a1_0, .slice A1_1 l1_1.length c1_1]] rfl am ?_; (with_reducible refine (rowlockref03_size.calls k a0_0 _ _ l0_1 a1_0 _ _ l1_1 t232 t233 _ ?side1 ?side2 ?side3 ?side4 A4.out).mono ?_); (case side1 => exact cb); (case side2 => exact HC0_1.out); (case side3 => exact cb); (case side4 => exact HC1_1.out); rintro e w13 ⟨v234, rfl, ho0, hb⟩; refine ⟨_, rfl, ?_⟩; have n0_ := Aside0.mk (Kd.R_lower ho0 (below_size bl)); have n1_ := Aside0.mk (bb (g := gb229) hb); have n2_ := Aside0.mk (bb (g := gb230) hb); have n3_ := Aside0.mk (bb (g := gb231) hb); have n4_ := Aside0.mk (below_step bl hb); clear BK229; clear BK230; clear BK231; clear HB; have HO235 := n0_; have BK229 := n1_; have BK230 := n2_; have BK231 := n3_; have HB := n4_; clear n0_ n1_ n2_ n3_ n4_; (try clear hb); (try clear hb2); (try clear hk); (try clear hi); (try clear ho0)) | ((with_reducible refine gate_dst (N := 5) rfl ?_); refine box_event ?hg (N := 5) ?hd (cs := #[.int .i64 0, .slice none 0 0]) (t := 31) ?hr ?_; (case hd => rfl); (case hg => rfl); (case hr => first | (go_simp; done) | (go_simp; rfl)); intro gb236 hg w14 hbox hb; have n0_ := Aside0.mk (Kd.R_below (rk HO235) hb); have n1_ := Aside0.mk (bb (g := gb229) hb); have n2_ := Aside0.mk (bb (g := gb230) hb); have n3_ := Aside0.mk (bb (g := gb231) hb); have n4_ := Aside0.mk (below_step bl hb); have n5_ := Aside0.mk (hbox); have n6_ := Aside0.mk ((sz hg : w.heap.size ≤ gb236)); have n7_ := Aside0.mk ((sz hg : w.heap.size ≤ gb236)); have n8_ := Aside0.mk ((nl hg : gb229 ≠ gb236)); have n9_ := Aside0.mk ((ng hg : gb236 ≠ gb229)); have n10_ := Aside0.mk ((nl hg : gb230 ≠ gb236)); have n11_ := Aside0.mk ((ng hg : gb236 ≠ gb230)); have n12_ := Aside0.mk ((nl hg : gb231 ≠ gb236)); have n13_ := Aside0.mk ((ng hg : gb236 ≠ gb231)); clear HO235; clear BK229; clear BK230; clear BK231; clear HB; have HO235 := n0_; have BK229 := n1_; have BK230 := n2_; have BK231 := n3_; have HB := n4_; have BK236 := n5_; have GW236 := n6_; have GE236 := n7_; have NB229_236 := n8_; have NB236_229 := n9_; have NB230_236 := n10_; have NB236_230 := n11_; have NB231_236 := n12_; have NB236_231 := n13_; clear n0_ n1_ n2_ n3_ n4_ n5_ n6_ n7_ n8_ n9_ n10_ n11_ n12_ n13_; clear hb hbox hg; have hnb15 := NB236_229.out; have hnc15 := NB229_236.out; have hnb16 := NB236_230.out; have hnc16 := NB230_236.out; have hnb17 := NB236_231.out; have hnc17 := NB231_236.out; have hcz18_0 : w14.cell? ⟨gb236, 0, none⟩ = some (.int .i64 0) := (blk_cell BK236.out 0).trans rfl; have hcz18_1 : w14.cell? ⟨gb236, 1, none⟩ = some (.slice none 0 0) := (blk_cell BK236.out 1).trans rfl; have hfz18_0 := blk_frozen BK236.out 0; have hfz18_1 := blk_frozen BK236.out 1; obtain ⟨Ao19, co19, eo19⟩ := Kd.R_slice HO235.out; subst eo19; have hcz20_0 : w14.cell? ⟨gb229, 0, none⟩ = some (.int .i64 a0_0) := (blk_cell BK229.out 0).trans rfl; have hcz20_1 : w14.cell? ⟨gb229, 1, none⟩ = some (.slice A0_1 l0_1.length c0_1) := (blk_cell BK229.out 1).trans rfl; have hfz20_0 := blk_frozen BK229.out 0; have hfz20_1 := blk_frozen BK229.out 1; have hcz21_0 : w14.cell? ⟨gb231, 0, none⟩ = some (.int .i64 0) := (blk_cell BK231.out 0).trans rfl; have hcz21_1 : w14.cell? ⟨gb231, 1, none⟩ = some (.slice none 0 0) := (blk_cell BK231.out 1).trans rfl; have hfz21_0 := blk_frozen BK231.out 0; have hfz21_1 := blk_frozen BK231.out 1))
    refine bodyPost_ret (results_cell_row rfl _ _ gb231 31 #[.int .i64 a0_0, .slice Ao19 t233.length co19] (0, 0) _ rfl (by (with_reducible repeat (first | refine blk_drewN ?_ _ | refine blk_drew ?_ | refine blk_alloc ?_ _)); refine blk_put (cs := #[.int .i64 a0_0, .slice none 0 0]) ?_ 1 _ rfl; (with_reducible repeat (first | refine blk_drewN ?_ _ | refine blk_drew ?_ | refine blk_alloc ?_ _)); refine blk_put (cs := #[.int .i64 0, .slice none 0 0]) ?_ 0 _ rfl; (with_reducible repeat (first | refine blk_drewN ?_ _ | refine blk_drew ?_ | refine blk_alloc ?_ _)); refine blk_far ?_ NB231_236.out _; (with_reducible repeat (first | refine blk_drewN ?_ _ | refine blk_drew ?_ | refine blk_alloc ?_ _)); refine blk_far ?_ NB231_236.out _; (with_reducible repeat (first | refine blk_drewN ?_ _ | refine blk_drew ?_ | refine blk_alloc ?_ _)); refine blk_far ?_ NB231_236.out _; (with_reducible repeat (first | refine blk_drewN ?_ _ | refine blk_drew ?_ | refine blk_alloc ?_ _)); exact BK231.out) Try.underlying31 rfl (by kernel_rfl)) rfl ?_
    exact ⟨_, by first | rfl | (simp [errW_none, errW_some] <;> rfl) | (simp [*, errW_none, errW_some] <;> rfl), by (with_reducible repeat (first | apply Kd.R_alloc | apply Kd.R_drewN | apply Kd.R_drew)); exact Kd.R_mono (Kd.R_far (p := ⟨gb231, 1, none⟩) (Kd.R_far (p := ⟨gb231, 0, none⟩) (Kd.R_far (p := ⟨gb236, 0, none⟩) (Kd.R_far (p := ⟨gb236, 1, none⟩) (Kd.R_far (p := ⟨gb236, 0, none⟩) (Kd.R_types (Kd.R_types HO235.out BK236.out (by decide)) BK231.out (by decide)) (fun _ hk => hk.1.2) (.int .i64 t232)) (fun _ hk => hk.1.2) (.slice Ao19 t233.length co19)) (fun _ hk => hk.1.2) (.int .i64 a0_0)) (fun _ hk => hk.2) (.int .i64 a0_0)) (fun _ hk => hk.2) (.slice Ao19 t233.length co19)) (fun _ hk => trivial), bl⟩
  · rw [if_neg c3] at H
    have c3b0 : (a0_0 == a1_0) = false := beq_eq_false_iff_ne.mpr c3
    have c3b1 : (a0_0 != a1_0) = true := bne_iff_ne.mpr c3
    replace H := Option.bind_eq_some_iff.mp H
    obtain ⟨t237, A220, H⟩ := H
    replace H : (if t237 = true then ((rowlockref03_apart.f k a1_0 l1_1 a0_0 l0_1).bind fun bt238 => (some (a1_0, bt238.2))) else ((rowlockref03_apart.f k a0_0 l0_1 a1_0 l1_1).bind fun bt243 => (some (a0_0, bt243.2)))) = some (r1, r2) := H
    have A22 := Aside0.mk A220
    clear A220
    by_cases c23 : t237 = true
    · subst c23
      have H1 : ((rowlockref03_apart.f k a1_0 l1_1 a0_0 l0_1).bind fun bt238 => (some (a1_0, bt238.2))) = some (r1, r2) := by rw [if_pos rfl] at H; exact H
      clear H
      have H := H1
      clear H1
      replace H := Option.bind_eq_some_iff.mp H
      obtain ⟨⟨t238, t239⟩, A240, H⟩ := H
      replace H : (some (a1_0, t239)) = some (r1, r2) := H
      have A24 := Aside0.mk A240
      clear A240
      simp only [Option.some.injEq, Prod.mk.injEq] at H
      obtain ⟨rfl, rfl⟩ := H
      go_enter Try.func15, Try.ntmps15
      go_wp2_with (first | ((with_reducible refine gate_dst (N := 2) rfl ?_); refine box_event ?hg (N := 2) ?hd (cs := #[.int .i64 a0_0, .slice A0_1 l0_1.length c0_1]) (t := 31) ?hr ?_; (case hd => rfl); (case hg => rfl); (case hr => first | (go_simp; done) | (go_simp; rfl)); intro gb229 hg w25 hbox hb; have n0_ := Aside0.mk (below_step bl hb); have n1_ := Aside0.mk (hbox); have n2_ := Aside0.mk ((sz hg : w.heap.size ≤ gb229)); have n3_ := Aside0.mk ((sz hg : w.heap.size ≤ gb229)); clear HB; have HB := n0_; have BK229 := n1_; have GW229 := n2_; have GE229 := n3_; clear n0_ n1_ n2_ n3_; clear hb hbox hg) | ((with_reducible refine gate_dst (N := 3) rfl ?_); refine box_event ?hg (N := 3) ?hd (cs := #[.int .i64 a1_0, .slice A1_1 l1_1.length c1_1]) (t := 31) ?hr ?_; (case hd => rfl); (case hg => rfl); (case hr => first | (go_simp; done) | (go_simp; rfl)); intro gb230 hg w26 hbox hb; have n0_ := Aside0.mk (bb (g := gb229) hb); have n1_ := Aside0.mk (below_step bl hb); have n2_ := Aside0.mk (hbox); have n3_ := Aside0.mk ((sz hg : w.heap.size ≤ gb230)); have n4_ := Aside0.mk ((sz hg : w.heap.size ≤ gb230)); have n5_ := Aside0.mk ((nl hg : gb229 ≠ gb230)); have n6_ := Aside0.mk ((ng hg : gb230 ≠ gb229)); clear BK229; clear HB; have BK229 := n0_; have HB := n1_; have BK230 := n2_; have GW230 := n3_; have GE230 := n4_; have NB229_230 := n5_; have NB230_229 := n6_; clear n0_ n1_ n2_ n3_ n4_ n5_ n6_; clear hb hbox hg) | ((with_reducible refine gate_dst (N := 4) rfl ?_); refine box_event ?hg (N := 4) ?hd (cs := #[.int .i64 0, .slice none 0 0]) (t := 31) ?hr ?_; (case hd => rfl); (case hg => rfl); (case hr => first | (go_simp; done) | (go_simp; rfl)); intro gb231 hg w27 hbox hb; have n0_ := Aside0.mk (bb (g := gb229) hb); have n1_ := Aside0.mk (bb (g := gb230) hb); have n2_ := Aside0.mk (below_step bl hb); have n3_ := Aside0.mk (hbox); have n4_ := Aside0.mk ((sz hg : w.heap.size ≤ gb231)); have n5_ := Aside0.mk ((sz hg : w.heap.size ≤ gb231)); have n6_ := Aside0.mk ((nl hg : gb229 ≠ gb231)); have n7_ := Aside0.mk ((ng hg : gb231 ≠ gb229)); have n8_ := Aside0.mk ((nl hg : gb230 ≠ gb231)); have n9_ := Aside0.mk ((ng hg : gb231 ≠ gb230)); clear BK229; clear BK230; clear HB; have BK229 := n0_; have BK230 := n1_; have HB := n2_; have BK231 := n3_; have GW231 := n4_; have GE231 := n5_; have NB229_231 := n6_; have NB231_229 := n7_; have NB230_231 := n8_; have NB231_230 := n9_; clear n0_ n1_ n2_ n3_ n4_ n5_ n6_ n7_ n8_ n9_; clear hb hbox hg; have hnb28 := NB229_230.out; have hnc28 := NB230_229.out; have hnb29 := NB229_231.out; have hnc29 := NB231_229.out; have hcz30_0 : w27.cell? ⟨gb229, 0, none⟩ = some (.int .i64 a0_0) := (blk_cell BK229.out 0).trans rfl; have hcz30_1 : w27.cell? ⟨gb229, 1, none⟩ = some (.slice A0_1 l0_1.length c0_1) := (blk_cell BK229.out 1).trans rfl; have hfz30_0 := blk_frozen BK229.out 0; have hfz30_1 := blk_frozen BK229.out 1; have hnb31 := NB230_231.out; have hnc31 := NB231_230.out; have hcz32_0 : w27.cell? ⟨gb230, 0, none⟩ = some (.int .i64 a1_0) := (blk_cell BK230.out 0).trans rfl; have hcz32_1 : w27.cell? ⟨gb230, 1, none⟩ = some (.slice A1_1 l1_1.length c1_1) := (blk_cell BK230.out 1).trans rfl; have hfz32_0 := blk_frozen BK230.out 0; have hfz32_1 := blk_frozen BK230.out 1) | ((with_reducible refine gate_callee (f := 14) rfl ?_); refine goesL_ (some 22) rfl rfl Try.func14 (by kernel_rfl) rfl #[.agg #[.int .i64 a0_0, .slice A0_1 l0_1.length c0_1], .agg #[.int .i64 a1_0, .slice A1_1 l1_1.length c1_1]] rfl am ?_; (with_reducible refine (rowlockref03_Less.calls k a0_0 _ _ l0_1 a1_0 _ _ l1_1 true _ ?side1 ?side2 ?side3 ?side4 A22.out).mono ?_); (case side1 => exact cb); (case side2 => exact HC0_1.out); (case side3 => exact cb); (case side4 => exact HC1_1.out); rintro e w33 ⟨rfl, hb⟩; refine ⟨_, rfl, ?_⟩; have n0_ := Aside0.mk (bb (g := gb229) hb); have n1_ := Aside0.mk (bb (g := gb230) hb); have n2_ := Aside0.mk (bb (g := gb231) hb); have n3_ := Aside0.mk (below_step bl hb); clear BK229; clear BK230; clear BK231; clear HB; have BK229 := n0_; have BK230 := n1_; have BK231 := n2_; have HB := n3_; clear n0_ n1_ n2_ n3_; (try clear hb); (try clear hb2); (try clear hk); (try clear hi); have hcz34_0 : w33.cell? ⟨gb230, 0, none⟩ = some (.int .i64 a1_0) := (blk_cell BK230.out 0).trans rfl; have hcz34_1 : w33.cell? ⟨gb230, 1, none⟩ = some (.slice A1_1 l1_1.length c1_1) := (blk_cell BK230.out 1).trans rfl; have hfz34_0 := blk_frozen BK230.out 0; have hfz34_1 := blk_frozen BK230.out 1; have hcz35_0 : w33.cell? ⟨gb229, 0, none⟩ = some (.int .i64 a0_0) := (blk_cell BK229.out 0).trans rfl; have hcz35_1 : w33.cell? ⟨gb229, 1, none⟩ = some (.slice A0_1 l0_1.length c0_1) := (blk_cell BK229.out 1).trans rfl; have hfz35_0 := blk_frozen BK229.out 0; have hfz35_1 := blk_frozen BK229.out 1) | ((with_reducible refine gate_callee (f := 33) rfl ?_); refine goesL_ (some 25) rfl rfl Try.func33 (by kernel_rfl) rfl #[.agg #[.int .i64 a1_0, .slice A1_1 l1_1.length c1_1], .agg #[.int .i64 a0_0, .slice A0_1 l0_1.length c0_1]] rfl am ?_; (with_reducible refine (rowlockref03_apart.calls k a1_0 _ _ l1_1 a0_0 _ _ l0_1 t238 t239 _ ?side1 ?side2 ?side3 ?side4 A24.out).mono ?_); (case side1 => exact cb); (case side2 => exact HC1_1.out); (case side3 => exact cb); (case side4 => exact HC0_1.out); rintro e w36 ⟨v240, rfl, ho0, hb⟩; refine ⟨_, rfl, ?_⟩; have n0_ := Aside0.mk (Kd.R_lower ho0 (below_size bl)); have n1_ := Aside0.mk (bb (g := gb229) hb); have n2_ := Aside0.mk (bb (g := gb230) hb); have n3_ := Aside0.mk (bb (g := gb231) hb); have n4_ := Aside0.mk (below_step bl hb); clear BK229; clear BK230; clear BK231; clear HB; have HO241 := n0_; have BK229 := n1_; have BK230 := n2_; have BK231 := n3_; have HB := n4_; clear n0_ n1_ n2_ n3_ n4_; (try clear hb); (try clear hb2); (try clear hk); (try clear hi); (try clear ho0)) | ((with_reducible refine gate_dst (N := 6) rfl ?_); refine box_event ?hg (N := 6) ?hd (cs := #[.int .i64 0, .slice none 0 0]) (t := 31) ?hr ?_; (case hd => rfl); (case hg => rfl); (case hr => first | (go_simp; done) | (go_simp; rfl)); intro gb242 hg w37 hbox hb; have n0_ := Aside0.mk (Kd.R_below (rk HO241) hb); have n1_ := Aside0.mk (bb (g := gb229) hb); have n2_ := Aside0.mk (bb (g := gb230) hb); have n3_ := Aside0.mk (bb (g := gb231) hb); have n4_ := Aside0.mk (below_step bl hb); have n5_ := Aside0.mk (hbox); have n6_ := Aside0.mk ((sz hg : w.heap.size ≤ gb242)); have n7_ := Aside0.mk ((sz hg : w.heap.size ≤ gb242)); have n8_ := Aside0.mk ((nl hg : gb229 ≠ gb242)); have n9_ := Aside0.mk ((ng hg : gb242 ≠ gb229)); have n10_ := Aside0.mk ((nl hg : gb230 ≠ gb242)); have n11_ := Aside0.mk ((ng hg : gb242 ≠ gb230)); have n12_ := Aside0.mk ((nl hg : gb231 ≠ gb242)); have n13_ := Aside0.mk ((ng hg : gb242 ≠ gb231)); clear HO241; clear BK229; clear BK230; clear BK231; clear HB; have HO241 := n0_; have BK229 := n1_; have BK230 := n2_; have BK231 := n3_; have HB := n4_; have BK242 := n5_; have GW242 := n6_; have GE242 := n7_; have NB229_242 := n8_; have NB242_229 := n9_; have NB230_242 := n10_; have NB242_230 := n11_; have NB231_242 := n12_; have NB242_231 := n13_; clear n0_ n1_ n2_ n3_ n4_ n5_ n6_ n7_ n8_ n9_ n10_ n11_ n12_ n13_; clear hb hbox hg; have hnb38 := NB242_229.out; have hnc38 := NB229_242.out; have hnb39 := NB242_230.out; have hnc39 := NB230_242.out; have hnb40 := NB242_231.out; have hnc40 := NB231_242.out; have hcz41_0 : w37.cell? ⟨gb242, 0, none⟩ = some (.int .i64 0) := (blk_cell BK242.out 0).trans rfl; have hcz41_1 : w37.cell? ⟨gb242, 1, none⟩ = some (.slice none 0 0) := (blk_cell BK242.out 1).trans rfl; have hfz41_0 := blk_frozen BK242.out 0; have hfz41_1 := blk_frozen BK242.out 1; obtain ⟨Ao42, co42, eo42⟩ := Kd.R_slice HO241.out; subst eo42; have hcz43_0 : w37.cell? ⟨gb230, 0, none⟩ = some (.int .i64 a1_0) := (blk_cell BK230.out 0).trans rfl; have hcz43_1 : w37.cell? ⟨gb230, 1, none⟩ = some (.slice A1_1 l1_1.length c1_1) := (blk_cell BK230.out 1).trans rfl; have hfz43_0 := blk_frozen BK230.out 0; have hfz43_1 := blk_frozen BK230.out 1; have hcz44_0 : w37.cell? ⟨gb231, 0, none⟩ = some (.int .i64 0) := (blk_cell BK231.out 0).trans rfl; have hcz44_1 : w37.cell? ⟨gb231, 1, none⟩ = some (.slice none 0 0) := (blk_cell BK231.out 1).trans rfl; have hfz44_0 := blk_frozen BK231.out 0; have hfz44_1 := blk_frozen BK231.out 1))
      refine bodyPost_ret (results_cell_row rfl _ _ gb231 31 #[.int .i64 a1_0, .slice Ao42 t239.length co42] (0, 0) _ rfl (by (with_reducible repeat (first | refine blk_drewN ?_ _ | refine blk_drew ?_ | refine blk_alloc ?_ _)); refine blk_put (cs := #[.int .i64 a1_0, .slice none 0 0]) ?_ 1 _ rfl; (with_reducible repeat (first | refine blk_drewN ?_ _ | refine blk_drew ?_ | refine blk_alloc ?_ _)); refine blk_put (cs := #[.int .i64 0, .slice none 0 0]) ?_ 0 _ rfl; (with_reducible repeat (first | refine blk_drewN ?_ _ | refine blk_drew ?_ | refine blk_alloc ?_ _)); refine blk_far ?_ NB231_242.out _; (with_reducible repeat (first | refine blk_drewN ?_ _ | refine blk_drew ?_ | refine blk_alloc ?_ _)); refine blk_far ?_ NB231_242.out _; (with_reducible repeat (first | refine blk_drewN ?_ _ | refine blk_drew ?_ | refine blk_alloc ?_ _)); refine blk_far ?_ NB231_242.out _; (with_reducible repeat (first | refine blk_drewN ?_ _ | refine blk_drew ?_ | refine blk_alloc ?_ _)); exact BK231.out) Try.underlying31 rfl (by kernel_rfl)) rfl ?_
      exact ⟨_, by first | rfl | (simp [errW_none, errW_some] <;> rfl) | (simp [*, errW_none, errW_some] <;> rfl), by (with_reducible repeat (first | apply Kd.R_alloc | apply Kd.R_drewN | apply Kd.R_drew)); exact Kd.R_mono (Kd.R_far (p := ⟨gb231, 1, none⟩) (Kd.R_far (p := ⟨gb231, 0, none⟩) (Kd.R_far (p := ⟨gb242, 0, none⟩) (Kd.R_far (p := ⟨gb242, 1, none⟩) (Kd.R_far (p := ⟨gb242, 0, none⟩) (Kd.R_types (Kd.R_types HO241.out BK242.out (by decide)) BK231.out (by decide)) (fun _ hk => hk.1.2) (.int .i64 t238)) (fun _ hk => hk.1.2) (.slice Ao42 t239.length co42)) (fun _ hk => hk.1.2) (.int .i64 a1_0)) (fun _ hk => hk.2) (.int .i64 a1_0)) (fun _ hk => hk.2) (.slice Ao42 t239.length co42)) (fun _ hk => trivial), bl⟩
    · replace c23 := Bool.eq_false_iff.mpr c23
      subst c23
      have H1 : ((rowlockref03_apart.f k a0_0 l0_1 a1_0 l1_1).bind fun bt243 => (some (a0_0, bt243.2))) = some (r1, r2) := by rw [if_neg (show ¬ (false = true) by decide)] at H; exact H
      clear H
      have H := H1
      clear H1
      replace H := Option.bind_eq_some_iff.mp H
      obtain ⟨⟨t243, t244⟩, A450, H⟩ := H
      replace H : (some (a0_0, t244)) = some (r1, r2) := H
      have A45 := Aside0.mk A450
      clear A450
      simp only [Option.some.injEq, Prod.mk.injEq] at H
      obtain ⟨rfl, rfl⟩ := H
      go_enter Try.func15, Try.ntmps15
      go_wp2_with (first | ((with_reducible refine gate_dst (N := 2) rfl ?_); refine box_event ?hg (N := 2) ?hd (cs := #[.int .i64 a0_0, .slice A0_1 l0_1.length c0_1]) (t := 31) ?hr ?_; (case hd => rfl); (case hg => rfl); (case hr => first | (go_simp; done) | (go_simp; rfl)); intro gb229 hg w46 hbox hb; have n0_ := Aside0.mk (below_step bl hb); have n1_ := Aside0.mk (hbox); have n2_ := Aside0.mk ((sz hg : w.heap.size ≤ gb229)); have n3_ := Aside0.mk ((sz hg : w.heap.size ≤ gb229)); clear HB; have HB := n0_; have BK229 := n1_; have GW229 := n2_; have GE229 := n3_; clear n0_ n1_ n2_ n3_; clear hb hbox hg) | ((with_reducible refine gate_dst (N := 3) rfl ?_); refine box_event ?hg (N := 3) ?hd (cs := #[.int .i64 a1_0, .slice A1_1 l1_1.length c1_1]) (t := 31) ?hr ?_; (case hd => rfl); (case hg => rfl); (case hr => first | (go_simp; done) | (go_simp; rfl)); intro gb230 hg w47 hbox hb; have n0_ := Aside0.mk (bb (g := gb229) hb); have n1_ := Aside0.mk (below_step bl hb); have n2_ := Aside0.mk (hbox); have n3_ := Aside0.mk ((sz hg : w.heap.size ≤ gb230)); have n4_ := Aside0.mk ((sz hg : w.heap.size ≤ gb230)); have n5_ := Aside0.mk ((nl hg : gb229 ≠ gb230)); have n6_ := Aside0.mk ((ng hg : gb230 ≠ gb229)); clear BK229; clear HB; have BK229 := n0_; have HB := n1_; have BK230 := n2_; have GW230 := n3_; have GE230 := n4_; have NB229_230 := n5_; have NB230_229 := n6_; clear n0_ n1_ n2_ n3_ n4_ n5_ n6_; clear hb hbox hg) | ((with_reducible refine gate_dst (N := 4) rfl ?_); refine box_event ?hg (N := 4) ?hd (cs := #[.int .i64 0, .slice none 0 0]) (t := 31) ?hr ?_; (case hd => rfl); (case hg => rfl); (case hr => first | (go_simp; done) | (go_simp; rfl)); intro gb231 hg w48 hbox hb; have n0_ := Aside0.mk (bb (g := gb229) hb); have n1_ := Aside0.mk (bb (g := gb230) hb); have n2_ := Aside0.mk (below_step bl hb); have n3_ := Aside0.mk (hbox); have n4_ := Aside0.mk ((sz hg : w.heap.size ≤ gb231)); have n5_ := Aside0.mk ((sz hg : w.heap.size ≤ gb231)); have n6_ := Aside0.mk ((nl hg : gb229 ≠ gb231)); have n7_ := Aside0.mk ((ng hg : gb231 ≠ gb229)); have n8_ := Aside0.mk ((nl hg : gb230 ≠ gb231)); have n9_ := Aside0.mk ((ng hg : gb231 ≠ gb230)); clear BK229; clear BK230; clear HB; have BK229 := n0_; have BK230 := n1_; have HB := n2_; have BK231 := n3_; have GW231 := n4_; have GE231 := n5_; have NB229_231 := n6_; have NB231_229 := n7_; have NB230_231 := n8_; have NB231_230 := n9_; clear n0_ n1_ n2_ n3_ n4_ n5_ n6_ n7_ n8_ n9_; clear hb hbox hg; have hnb49 := NB229_230.out; have hnc49 := NB230_229.out; have hnb50 := NB229_231.out; have hnc50 := NB231_229.out; have hcz51_0 : w48.cell? ⟨gb229, 0, none⟩ = some (.int .i64 a0_0) := (blk_cell BK229.out 0).trans rfl; have hcz51_1 : w48.cell? ⟨gb229, 1, none⟩ = some (.slice A0_1 l0_1.length c0_1) := (blk_cell BK229.out 1).trans rfl; have hfz51_0 := blk_frozen BK229.out 0; have hfz51_1 := blk_frozen BK229.out 1; have hnb52 := NB230_231.out; have hnc52 := NB231_230.out; have hcz53_0 : w48.cell? ⟨gb230, 0, none⟩ = some (.int .i64 a1_0) := (blk_cell BK230.out 0).trans rfl; have hcz53_1 : w48.cell? ⟨gb230, 1, none⟩ = some (.slice A1_1 l1_1.length c1_1) := (blk_cell BK230.out 1).trans rfl; have hfz53_0 := blk_frozen BK230.out 0; have hfz53_1 := blk_frozen BK230.out 1) | ((with_reducible refine gate_callee (f := 14) rfl ?_); refine goesL_ (some 22) rfl rfl Try.func14 (by kernel_rfl) rfl #[.agg #[.int .i64 a0_0, .slice A0_1 l0_1.length c0_1], .agg #[.int .i64 a1_0, .slice A1_1 l1_1.length c1_1]] rfl am ?_; (with_reducible refine (rowlockref03_Less.calls k a0_0 _ _ l0_1 a1_0 _ _ l1_1 false _ ?side1 ?side2 ?side3 ?side4 A22.out).mono ?_); (case side1 => exact cb); (case side2 => exact HC0_1.out); (case side3 => exact cb); (case side4 => exact HC1_1.out); rintro e w54 ⟨rfl, hb⟩; refine ⟨_, rfl, ?_⟩; have n0_ := Aside0.mk (bb (g := gb229) hb); have n1_ := Aside0.mk (bb (g := gb230) hb); have n2_ := Aside0.mk (bb (g := gb231) hb); have n3_ := Aside0.mk (below_step bl hb); clear BK229; clear BK230; clear BK231; clear HB; have BK229 := n0_; have BK230 := n1_; have BK231 := n2_; have HB := n3_; clear n0_ n1_ n2_ n3_; (try clear hb); (try clear hb2); (try clear hk); (try clear hi); have hcz55_0 : w54.cell? ⟨gb229, 0, none⟩ = some (.int .i64 a0_0) := (blk_cell BK229.out 0).trans rfl; have hcz55_1 : w54.cell? ⟨gb229, 1, none⟩ = some (.slice A0_1 l0_1.length c0_1) := (blk_cell BK229.out 1).trans rfl; have hfz55_0 := blk_frozen BK229.out 0; have hfz55_1 := blk_frozen BK229.out 1; have hcz56_0 : w54.cell? ⟨gb230, 0, none⟩ = some (.int .i64 a1_0) := (blk_cell BK230.out 0).trans rfl; have hcz56_1 : w54.cell? ⟨gb230, 1, none⟩ = some (.slice A1_1 l1_1.length c1_1) := (blk_cell BK230.out 1).trans rfl; have hfz56_0 := blk_frozen BK230.out 0; have hfz56_1 := blk_frozen BK230.out 1) | ((with_reducible refine gate_callee (f := 33) rfl ?_); refine goesL_ (some 32) rfl rfl Try.func33 (by kernel_rfl) rfl #[.agg #[.int .i64 a0_0, .slice A0_1 l0_1.length c0_1], .agg #[.int .i64 a1_0, .slice A1_1 l1_1.length c1_1]] rfl am ?_; (with_reducible refine (rowlockref03_apart.calls k a0_0 _ _ l0_1 a1_0 _ _ l1_1 t243 t244 _ ?side1 ?side2 ?side3 ?side4 A45.out).mono ?_); (case side1 => exact cb); (case side2 => exact HC0_1.out); (case side3 => exact cb); (case side4 => exact HC1_1.out); rintro e w57 ⟨v245, rfl, ho0, hb⟩; refine ⟨_, rfl, ?_⟩; have n0_ := Aside0.mk (Kd.R_lower ho0 (below_size bl)); have n1_ := Aside0.mk (bb (g := gb229) hb); have n2_ := Aside0.mk (bb (g := gb230) hb); have n3_ := Aside0.mk (bb (g := gb231) hb); have n4_ := Aside0.mk (below_step bl hb); clear BK229; clear BK230; clear BK231; clear HB; have HO246 := n0_; have BK229 := n1_; have BK230 := n2_; have BK231 := n3_; have HB := n4_; clear n0_ n1_ n2_ n3_ n4_; (try clear hb); (try clear hb2); (try clear hk); (try clear hi); (try clear ho0)) | ((with_reducible refine gate_dst (N := 7) rfl ?_); refine box_event ?hg (N := 7) ?hd (cs := #[.int .i64 0, .slice none 0 0]) (t := 31) ?hr ?_; (case hd => rfl); (case hg => rfl); (case hr => first | (go_simp; done) | (go_simp; rfl)); intro gb247 hg w58 hbox hb; have n0_ := Aside0.mk (Kd.R_below (rk HO246) hb); have n1_ := Aside0.mk (bb (g := gb229) hb); have n2_ := Aside0.mk (bb (g := gb230) hb); have n3_ := Aside0.mk (bb (g := gb231) hb); have n4_ := Aside0.mk (below_step bl hb); have n5_ := Aside0.mk (hbox); have n6_ := Aside0.mk ((sz hg : w.heap.size ≤ gb247)); have n7_ := Aside0.mk ((sz hg : w.heap.size ≤ gb247)); have n8_ := Aside0.mk ((nl hg : gb229 ≠ gb247)); have n9_ := Aside0.mk ((ng hg : gb247 ≠ gb229)); have n10_ := Aside0.mk ((nl hg : gb230 ≠ gb247)); have n11_ := Aside0.mk ((ng hg : gb247 ≠ gb230)); have n12_ := Aside0.mk ((nl hg : gb231 ≠ gb247)); have n13_ := Aside0.mk ((ng hg : gb247 ≠ gb231)); clear HO246; clear BK229; clear BK230; clear BK231; clear HB; have HO246 := n0_; have BK229 := n1_; have BK230 := n2_; have BK231 := n3_; have HB := n4_; have BK247 := n5_; have GW247 := n6_; have GE247 := n7_; have NB229_247 := n8_; have NB247_229 := n9_; have NB230_247 := n10_; have NB247_230 := n11_; have NB231_247 := n12_; have NB247_231 := n13_; clear n0_ n1_ n2_ n3_ n4_ n5_ n6_ n7_ n8_ n9_ n10_ n11_ n12_ n13_; clear hb hbox hg; have hnb59 := NB247_229.out; have hnc59 := NB229_247.out; have hnb60 := NB247_230.out; have hnc60 := NB230_247.out; have hnb61 := NB247_231.out; have hnc61 := NB231_247.out; have hcz62_0 : w58.cell? ⟨gb247, 0, none⟩ = some (.int .i64 0) := (blk_cell BK247.out 0).trans rfl; have hcz62_1 : w58.cell? ⟨gb247, 1, none⟩ = some (.slice none 0 0) := (blk_cell BK247.out 1).trans rfl; have hfz62_0 := blk_frozen BK247.out 0; have hfz62_1 := blk_frozen BK247.out 1; obtain ⟨Ao63, co63, eo63⟩ := Kd.R_slice HO246.out; subst eo63; have hcz64_0 : w58.cell? ⟨gb229, 0, none⟩ = some (.int .i64 a0_0) := (blk_cell BK229.out 0).trans rfl; have hcz64_1 : w58.cell? ⟨gb229, 1, none⟩ = some (.slice A0_1 l0_1.length c0_1) := (blk_cell BK229.out 1).trans rfl; have hfz64_0 := blk_frozen BK229.out 0; have hfz64_1 := blk_frozen BK229.out 1; have hcz65_0 : w58.cell? ⟨gb231, 0, none⟩ = some (.int .i64 0) := (blk_cell BK231.out 0).trans rfl; have hcz65_1 : w58.cell? ⟨gb231, 1, none⟩ = some (.slice none 0 0) := (blk_cell BK231.out 1).trans rfl; have hfz65_0 := blk_frozen BK231.out 0; have hfz65_1 := blk_frozen BK231.out 1))
      refine bodyPost_ret (results_cell_row rfl _ _ gb231 31 #[.int .i64 a0_0, .slice Ao63 t244.length co63] (0, 0) _ rfl (by (with_reducible repeat (first | refine blk_drewN ?_ _ | refine blk_drew ?_ | refine blk_alloc ?_ _)); refine blk_put (cs := #[.int .i64 a0_0, .slice none 0 0]) ?_ 1 _ rfl; (with_reducible repeat (first | refine blk_drewN ?_ _ | refine blk_drew ?_ | refine blk_alloc ?_ _)); refine blk_put (cs := #[.int .i64 0, .slice none 0 0]) ?_ 0 _ rfl; (with_reducible repeat (first | refine blk_drewN ?_ _ | refine blk_drew ?_ | refine blk_alloc ?_ _)); refine blk_far ?_ NB231_247.out _; (with_reducible repeat (first | refine blk_drewN ?_ _ | refine blk_drew ?_ | refine blk_alloc ?_ _)); refine blk_far ?_ NB231_247.out _; (with_reducible repeat (first | refine blk_drewN ?_ _ | refine blk_drew ?_ | refine blk_alloc ?_ _)); refine blk_far ?_ NB231_247.out _; (with_reducible repeat (first | refine blk_drewN ?_ _ | refine blk_drew ?_ | refine blk_alloc ?_ _)); exact BK231.out) Try.underlying31 rfl (by kernel_rfl)) rfl ?_
      exact ⟨_, by first | rfl | (simp [errW_none, errW_some] <;> rfl) | (simp [*, errW_none, errW_some] <;> rfl), by (with_reducible repeat (first | apply Kd.R_alloc | apply Kd.R_drewN | apply Kd.R_drew)); exact Kd.R_mono (Kd.R_far (p := ⟨gb231, 1, none⟩) (Kd.R_far (p := ⟨gb231, 0, none⟩) (Kd.R_far (p := ⟨gb247, 0, none⟩) (Kd.R_far (p := ⟨gb247, 1, none⟩) (Kd.R_far (p := ⟨gb247, 0, none⟩) (Kd.R_types (Kd.R_types HO246.out BK247.out (by decide)) BK231.out (by decide)) (fun _ hk => hk.1.2) (.int .i64 t243)) (fun _ hk => hk.1.2) (.slice Ao63 t244.length co63)) (fun _ hk => hk.1.2) (.int .i64 a0_0)) (fun _ hk => hk.2) (.int .i64 a0_0)) (fun _ hk => hk.2) (.slice Ao63 t244.length co63)) (fun _ hk => trivial), bl⟩

/-! ### rowlockref03_Of: function 16 -/
def rowlockref03_Of.f (k : Nat) (a0 : Int) : Option (Int × List Int) := if a0 ≥ 0 then ((rowlockref03_Whole.f k (IntKind.u64.wrap (a0))).bind fun bt249 => (some (bt249.1, bt249.2))) else ((rowlockref03_Whole.f k (IntKind.u64.wrap (wrap64 (-(wrap64 (a0 + 1)))))).bind fun bt253 => ((rowlockref03_Whole.f k 1).bind fun bt258 => ((rowlockref03_size.f k bt253.1 bt253.2 bt258.1 bt258.2).bind fun bt262 => (some ((-1), bt262.2)))))
theorem rowlockref03_Of.mono : ∀ a0 k, LeO (rowlockref03_Of.f k a0) (rowlockref03_Of.f (k + 1) a0) := by
  intro a0 k
  unfold rowlockref03_Of.f
  repeat' first
      | (with_reducible exact rowlockref03_Whole.mono _ _)
      | (with_reducible exact rowlockref03_size.mono _ _ _ _ _)
      | (with_reducible exact LeO.refl _)
      | (with_reducible exact LeO.none _)
      | (with_reducible refine LeO.ite ?_ ?_)
      | (with_reducible refine LeO.bind ?_ (fun _ => ?_))
      | exact rowlockref03_Whole.mono _ _
      | exact rowlockref03_size.mono _ _ _ _ _
      | exact LeO.none _
      | refine LeO.ite ?_ ?_
      | refine LeO.bind ?_ (fun _ => ?_)
set_option maxHeartbeats 8000000 in
set_option maxRecDepth 100000 in
theorem rowlockref03_Of.calls (k : Nat) (a0 : Int) (r1 : Int) (r2 : List Int) (w : World) (h : rowlockref03_Of.f k a0 = some (r1, r2)) :
    Calls Try.prog 16 #[.int .i64 a0] w fun e w' => ∃ v1_ : Value, e = .returned (.agg #[.int .i64 r1, v1_]) ∧ Kd.R (Kd.int .u64) 27 w' w.heap.size (fun _ => True) v1_ r2 ∧ Below w.heap.size w w' := by
  have hu31 := Try.underlying31
  have HB := Aside0.mk (Below.refl w.heap.size w)
  have H : (if a0 ≥ 0 then ((rowlockref03_Whole.f k (IntKind.u64.wrap (a0))).bind fun bt249 => (some (bt249.1, bt249.2))) else ((rowlockref03_Whole.f k (IntKind.u64.wrap (wrap64 (-(wrap64 (a0 + 1)))))).bind fun bt253 => ((rowlockref03_Whole.f k 1).bind fun bt258 => ((rowlockref03_size.f k bt253.1 bt253.2 bt258.1 bt258.2).bind fun bt262 => (some ((-1), bt262.2)))))) = some (r1, r2) := h
  clear h
  by_cases c2 : a0 ≥ 0
  · rw [if_pos c2] at H
    have c2b0 : decide (0 ≤ a0) = true := decide_eq_true c2
    clear c2
    replace H := Option.bind_eq_some_iff.mp H
    obtain ⟨⟨t249, t250⟩, A30, H⟩ := H
    replace H : (some (t249, t250)) = some (r1, r2) := H
    have A3 := Aside0.mk A30
    clear A30
    simp only [Option.some.injEq, Prod.mk.injEq] at H
    obtain ⟨rfl, rfl⟩ := H
    go_enter Try.func16, Try.ntmps16
    go_wp2_with (first | ((with_reducible refine gate_dst (N := 2) rfl ?_); refine box_event ?hg (N := 2) ?hd (cs := #[.int .i64 0, .slice none 0 0]) (t := 31) ?hr ?_; (case hd => rfl); (case hg => rfl); (case hr => first | (go_simp; done) | (go_simp; rfl)); intro gb248 hg w4 hbox hb; have n0_ := Aside0.mk (below_step bl hb); have n1_ := Aside0.mk (hbox); have n2_ := Aside0.mk ((sz hg : w.heap.size ≤ gb248)); have n3_ := Aside0.mk ((sz hg : w.heap.size ≤ gb248)); clear HB; have HB := n0_; have BK248 := n1_; have GW248 := n2_; have GE248 := n3_; clear n0_ n1_ n2_ n3_; clear hb hbox hg) | ((with_reducible refine gate_callee (f := 13) rfl ?_); refine goesL_ (some 8) rfl rfl Try.func13 (by kernel_rfl) rfl #[.int .u64 (IntKind.u64.wrap (a0))] rfl am ?_; (with_reducible refine (rowlockref03_Whole.calls k (IntKind.u64.wrap (a0)) t249 t250 _ A3.out).mono ?_); rintro e w5 ⟨v251, rfl, ho0, hb⟩; refine ⟨_, rfl, ?_⟩; have n0_ := Aside0.mk (Kd.R_lower ho0 (below_size bl)); have n1_ := Aside0.mk (bb (g := gb248) hb); have n2_ := Aside0.mk (below_step bl hb); clear BK248; clear HB; have HO252 := n0_; have BK248 := n1_; have HB := n2_; clear n0_ n1_ n2_; (try clear hb); (try clear hb2); (try clear hk); (try clear hi); (try clear ho0); have hcz6_0 : w5.cell? ⟨gb248, 0, none⟩ = some (.int .i64 0) := (blk_cell BK248.out 0).trans rfl; have hcz6_1 : w5.cell? ⟨gb248, 1, none⟩ = some (.slice none 0 0) := (blk_cell BK248.out 1).trans rfl; have hfz6_0 := blk_frozen BK248.out 0; have hfz6_1 := blk_frozen BK248.out 1; obtain ⟨Ao7, co7, eo7⟩ := Kd.R_slice HO252.out; subst eo7))
    refine bodyPost_ret (results_cell_row rfl _ _ gb248 31 #[.int .i64 t249, .slice Ao7 t250.length co7] (0, 0) _ rfl (by (with_reducible repeat (first | refine blk_drewN ?_ _ | refine blk_drew ?_ | refine blk_alloc ?_ _)); refine blk_put (cs := #[.int .i64 t249, .slice none 0 0]) ?_ 1 _ rfl; (with_reducible repeat (first | refine blk_drewN ?_ _ | refine blk_drew ?_ | refine blk_alloc ?_ _)); refine blk_put (cs := #[.int .i64 0, .slice none 0 0]) ?_ 0 _ rfl; (with_reducible repeat (first | refine blk_drewN ?_ _ | refine blk_drew ?_ | refine blk_alloc ?_ _)); exact BK248.out) Try.underlying31 rfl (by kernel_rfl)) rfl ?_
    exact ⟨_, by first | rfl | (simp [errW_none, errW_some] <;> rfl) | (simp [*, errW_none, errW_some] <;> rfl), by (with_reducible repeat (first | apply Kd.R_alloc | apply Kd.R_drewN | apply Kd.R_drew)); exact Kd.R_mono (Kd.R_far (p := ⟨gb248, 1, none⟩) (Kd.R_far (p := ⟨gb248, 0, none⟩) (Kd.R_types HO252.out BK248.out (by decide)) (fun _ hk => hk.2) (.int .i64 t249)) (fun _ hk => hk.2) (.slice Ao7 t250.length co7)) (fun _ hk => trivial), bl⟩
  · rw [if_neg c2] at H
    have c2b0 : decide (0 ≤ a0) = false := decide_eq_false c2
    clear c2
    replace H := Option.bind_eq_some_iff.mp H
    obtain ⟨⟨t253, t254⟩, A80, H⟩ := H
    replace H : ((rowlockref03_Whole.f k 1).bind fun bt258 => ((rowlockref03_size.f k t253 t254 bt258.1 bt258.2).bind fun bt262 => (some ((-1), bt262.2)))) = some (r1, r2) := H
    have A8 := Aside0.mk A80
    clear A80
    replace H := Option.bind_eq_some_iff.mp H
    obtain ⟨⟨t258, t259⟩, A90, H⟩ := H
    replace H : ((rowlockref03_size.f k t253 t254 t258 t259).bind fun bt262 => (some ((-1), bt262.2))) = some (r1, r2) := H
    have A9 := Aside0.mk A90
    clear A90
    replace H := Option.bind_eq_some_iff.mp H
    obtain ⟨⟨t262, t263⟩, A100, H⟩ := H
    replace H : (some ((-1), t263)) = some (r1, r2) := H
    have A10 := Aside0.mk A100
    clear A100
    simp only [Option.some.injEq, Prod.mk.injEq] at H
    obtain ⟨rfl, rfl⟩ := H
    go_enter Try.func16, Try.ntmps16
    try go_wp2_with (first | ((with_reducible refine gate_dst (N := 2) rfl ?_); refine box_event ?hg (N := 2) ?hd (cs := #[.int .i64 0, .slice none 0 0]) (t := 31) ?hr ?_; (case hd => rfl); (case hg => rfl); (case hr => first | (go_simp; done) | (go_simp; rfl)); intro gb248 hg w11 hbox hb; have n0_ := Aside0.mk (below_step bl hb); have n1_ := Aside0.mk (hbox); have n2_ := Aside0.mk ((sz hg : w.heap.size ≤ gb248)); have n3_ := Aside0.mk ((sz hg : w.heap.size ≤ gb248)); clear HB; have HB := n0_; have BK248 := n1_; have GW248 := n2_; have GE248 := n3_; clear n0_ n1_ n2_ n3_; clear hb hbox hg) | ((with_reducible refine gate_callee (f := 13) rfl ?_); refine goesL_ (some 13) rfl rfl Try.func13 (by kernel_rfl) rfl #[.int .u64 (IntKind.u64.wrap (wrap64 (-(wrap64 (a0 + 1)))))] rfl am ?_; (with_reducible refine (rowlockref03_Whole.calls k (IntKind.u64.wrap (wrap64 (-(wrap64 (a0 + 1))))) t253 t254 _ A8.out).mono ?_); rintro e w12 ⟨v255, rfl, ho0, hb⟩; refine ⟨_, rfl, ?_⟩; have n0_ := Aside0.mk (Kd.R_lower ho0 (below_size bl)); have n1_ := Aside0.mk (bb (g := gb248) hb); have n2_ := Aside0.mk (below_step bl hb); clear BK248; clear HB; have HO256 := n0_; have BK248 := n1_; have HB := n2_; clear n0_ n1_ n2_; (try clear hb); (try clear hb2); (try clear hk); (try clear hi); (try clear ho0)) | ((with_reducible refine gate_dst (N := 3) rfl ?_); refine box_event ?hg (N := 3) ?hd (cs := #[.int .i64 0, .slice none 0 0]) (t := 31) ?hr ?_; (case hd => rfl); (case hg => rfl); (case hr => first | (go_simp; done) | (go_simp; rfl)); intro gb257 hg w13 hbox hb; have n0_ := Aside0.mk (Kd.R_below (rk HO256) hb); have n1_ := Aside0.mk (bb (g := gb248) hb); have n2_ := Aside0.mk (below_step bl hb); have n3_ := Aside0.mk (hbox); have n4_ := Aside0.mk ((sz hg : w.heap.size ≤ gb257)); have n5_ := Aside0.mk ((sz hg : w.heap.size ≤ gb257)); have n6_ := Aside0.mk ((nl hg : gb248 ≠ gb257)); have n7_ := Aside0.mk ((ng hg : gb257 ≠ gb248)); clear HO256; clear BK248; clear HB; have HO256 := n0_; have BK248 := n1_; have HB := n2_; have BK257 := n3_; have GW257 := n4_; have GE257 := n5_; have NB248_257 := n6_; have NB257_248 := n7_; clear n0_ n1_ n2_ n3_ n4_ n5_ n6_ n7_; clear hb hbox hg; have hnb14 := NB257_248.out; have hnc14 := NB248_257.out; have hcz15_0 : w13.cell? ⟨gb257, 0, none⟩ = some (.int .i64 0) := (blk_cell BK257.out 0).trans rfl; have hcz15_1 : w13.cell? ⟨gb257, 1, none⟩ = some (.slice none 0 0) := (blk_cell BK257.out 1).trans rfl; have hfz15_0 := blk_frozen BK257.out 0; have hfz15_1 := blk_frozen BK257.out 1; obtain ⟨Ao16, co16, eo16⟩ := Kd.R_slice HO256.out; subst eo16))
    have n0_ : Aside0 (Kd.R (Kd.int .u64) 27 ((w13.setCell ⟨gb257, 0, none⟩ (.int .i64 t253)).setCell ⟨gb257, 1, none⟩ (.slice Ao16 t254.length co16)) w.heap.size (fun _ => True) (.slice Ao16 t254.length co16) t254) := ⟨by (with_reducible repeat (first | apply Kd.R_alloc | apply Kd.R_drewN | apply Kd.R_drew)); exact Kd.R_mono (Kd.R_far (p := ⟨gb257, 1, none⟩) (Kd.R_far (p := ⟨gb257, 0, none⟩) (Kd.R_types HO256.out BK257.out (by decide)) (fun _ hk => hk.2) (.int .i64 t253)) (fun _ hk => hk.2) (.slice Ao16 t254.length co16)) (fun _ hk => trivial)⟩
    have n1_ : Aside0 (((w13.setCell ⟨gb257, 0, none⟩ (.int .i64 t253)).setCell ⟨gb257, 1, none⟩ (.slice Ao16 t254.length co16)).heap[gb248]? = some (.cells #[.int .i64 0, .slice none 0 0] 31 (0, 0))) := ⟨by (with_reducible repeat (first | refine blk_drewN ?_ _ | refine blk_drew ?_ | refine blk_alloc ?_ _)); refine blk_far ?_ NB248_257.out _; (with_reducible repeat (first | refine blk_drewN ?_ _ | refine blk_drew ?_ | refine blk_alloc ?_ _)); refine blk_far ?_ NB248_257.out _; (with_reducible repeat (first | refine blk_drewN ?_ _ | refine blk_drew ?_ | refine blk_alloc ?_ _)); exact BK248.out⟩
    have n2_ : Aside0 (((w13.setCell ⟨gb257, 0, none⟩ (.int .i64 t253)).setCell ⟨gb257, 1, none⟩ (.slice Ao16 t254.length co16)).heap[gb257]? = some (.cells #[.int .i64 t253, .slice Ao16 t254.length co16] 31 (0, 0))) := ⟨by (with_reducible repeat (first | refine blk_drewN ?_ _ | refine blk_drew ?_ | refine blk_alloc ?_ _)); refine blk_put (cs := #[.int .i64 t253, .slice none 0 0]) ?_ 1 _ rfl; (with_reducible repeat (first | refine blk_drewN ?_ _ | refine blk_drew ?_ | refine blk_alloc ?_ _)); refine blk_put (cs := #[.int .i64 0, .slice none 0 0]) ?_ 0 _ rfl; (with_reducible repeat (first | refine blk_drewN ?_ _ | refine blk_drew ?_ | refine blk_alloc ?_ _)); exact BK257.out⟩
    have n3_ : Aside0 (Below w.heap.size w ((w13.setCell ⟨gb257, 0, none⟩ (.int .i64 t253)).setCell ⟨gb257, 1, none⟩ (.slice Ao16 t254.length co16))) := ⟨bl⟩
    (try clear HO256)
    (try clear BK248)
    (try clear BK257)
    (try clear HB)
    generalize ((w13.setCell ⟨gb257, 0, none⟩ (.int .i64 t253)).setCell ⟨gb257, 1, none⟩ (.slice Ao16 t254.length co16)) = w17 at n0_ n1_ n2_ n3_ ⊢
    have HO256 := n0_
    have BK248 := n1_
    have BK257 := n2_
    have HB := n3_
    clear n0_ n1_ n2_ n3_
    have n0_ := Aside0.mk (Kd.R_drew HO256.out)
    have n1_ := Aside0.mk (blk_drew BK248.out)
    have n2_ := Aside0.mk (blk_drew BK257.out)
    have n3_ := Aside0.mk (below_drew1 HB.out)
    clear HO256
    clear BK248
    clear BK257
    clear HB
    have HO256 := n0_
    have BK248 := n1_
    have BK257 := n2_
    have HB := n3_
    clear n0_ n1_ n2_ n3_
    refine start_ (n := 4) (S := fun w' => w'.cell? ⟨gb257, 0, none⟩ = some (.int .i64 t253) ∧ w'.cell? ⟨gb257, 1, none⟩ = some (.slice Ao16 t254.length co16)) (ds := [3]) #[false, false, false, false] (by kernel_rfl) rfl rfl ⟨(blk_cell BK257.out 0).trans rfl, (blk_cell BK257.out 1).trans rfl⟩ (fun hHeld => ?_)
    generalize w17.drew = w18 at HO256 BK248 BK257 HB hHeld ⊢
    refine take_ (i := 0) (N := some 14) (v := ?_) (a' := ?_) #[true, false, false, false] rfl rfl (by kernel_rfl) (fun _ _ _ h => h) (Or.inl ⟨by rfl, ?_⟩) hHeld ?_ ?_
    rotate_left
    · rintro w' ⟨s0, s1⟩
      go_simp
      with_reducible rfl
    rotate_left
    · simp only [Act.put, List.setIfInBounds_toArray, List.set_cons_zero, List.set_cons_succ, i64_w, i32_w]
      rfl
    refine one_ (i := 1) (N := some 15) #[true, true, false, false] rfl rfl (by kernel_rfl) (by decide) (fun K hK => ?_)
    refine goes_ Try.func13 (by kernel_rfl) rfl #[.int .u64 1] (by rfl) rfl rfl am ?_
    with_reducible refine (rowlockref03_Whole.calls k 1 t258 t259 _ A9.out).mono ?_
    rintro e w19 ⟨v260, rfl, ho0, hb⟩
    refine ⟨_, rfl, ?_⟩
    have n0_ := Aside0.mk (Kd.R_elder' (rk HO256) (Kd.R_base ho0) hb)
    have n1_ := Aside0.mk (Kd.R_lower (Kd.R_new' ho0 (Kd.R_lt (rk HO256))) (below_size bl))
    have n2_ := Aside0.mk (bb (g := gb248) hb)
    have n3_ := Aside0.mk (bb (g := gb257) hb)
    have n4_ := Aside0.mk (below_step bl hb)
    clear HO256
    clear BK248
    clear BK257
    clear HB
    have HO256 := n0_
    have HO261 := n1_
    have BK248 := n2_
    have BK257 := n3_
    have HB := n4_
    clear n0_ n1_ n2_ n3_ n4_
    (try clear hb)
    (try clear hb2)
    (try clear hk)
    (try clear hi)
    (try clear ho0)
    obtain ⟨Ao20, co20, eo20⟩ := Kd.R_slice HO261.out
    (first | subst eo20 | (injection eo20 with f1_ f2_ f3_; have f4_ := f1_.symm; have f5_ := f3_.symm; clear f1_ f2_ f3_; subst f4_; subst f5_))
    refine hK.out _ _ ⟨(blk_cell BK257.out 0).trans rfl, (blk_cell BK257.out 1).trans rfl⟩ (fun hHeld => ?_)
    clear hK K
    refine norm_ (a' := ?_) ?_ ?_
    rotate_left
    · show Act.put _ (some 15) _ = _
      simp only [Act.put, List.setIfInBounds_toArray, List.set_cons_zero, List.set_cons_succ, i64_w, i32_w]
      rfl
    refine one_ (i := 2) (N := some 16) #[true, true, true, false] rfl rfl (by kernel_rfl) (by decide) (fun K hK => ?_)
    refine goes_ Try.func31 (by kernel_rfl) rfl #[.agg #[.int .i64 t253, .slice Ao16 t254.length co16], .agg #[.int .i64 t258, .slice Ao20 t259.length co20]] (by rfl) rfl rfl am ?_
    with_reducible refine (rowlockref03_size.calls k t253 _ _ t254 t258 _ _ t259 t262 t263 _ ?side1 ?side2 ?side3 ?side4 A10.out).mono ?_
    (case side1 => repeat (first | exact (Kd.R_reads' HO256.out).2.2 | (with_reducible refine Kd.C_alloc ?_ _) | (with_reducible refine Kd.C_drewN ?_ _) | (with_reducible refine Kd.C_drew ?_)))
    (case side2 => exact (Kd.R_reads' HO256.out).2.1)
    (case side3 => repeat (first | exact (Kd.R_reads' HO261.out).2.2 | (with_reducible refine Kd.C_alloc ?_ _) | (with_reducible refine Kd.C_drewN ?_ _) | (with_reducible refine Kd.C_drew ?_)))
    (case side4 => exact (Kd.R_reads' HO261.out).2.1)
    rintro e w21 ⟨v264, rfl, ho0, hb⟩
    refine ⟨_, rfl, ?_⟩
    have n0_ := Aside0.mk (Kd.R_elder' (rk HO256) (Kd.R_base ho0) hb)
    have n1_ := Aside0.mk (Kd.R_elder' (rk HO261) (Kd.R_base ho0) hb)
    have n2_ := Aside0.mk (Kd.R_lower (Kd.R_new' (Kd.R_new' ho0 (Kd.R_lt (rk HO256))) (Kd.R_lt (rk HO261))) (below_size bl))
    have n3_ := Aside0.mk (bb (g := gb248) hb)
    have n4_ := Aside0.mk (bb (g := gb257) hb)
    have n5_ := Aside0.mk (below_step bl hb)
    clear HO256
    clear HO261
    clear BK248
    clear BK257
    clear HB
    have HO256 := n0_
    have HO261 := n1_
    have HO265 := n2_
    have BK248 := n3_
    have BK257 := n4_
    have HB := n5_
    clear n0_ n1_ n2_ n3_ n4_ n5_
    (try clear hb)
    (try clear hb2)
    (try clear hk)
    (try clear hi)
    (try clear ho0)
    obtain ⟨Ao23, co23, eo23⟩ := Kd.R_slice HO265.out
    (first | subst eo23 | (injection eo23 with f1_ f2_ f3_; have f4_ := f1_.symm; have f5_ := f3_.symm; clear f1_ f2_ f3_; subst f4_; subst f5_))
    refine hK.out _ _ ⟨(blk_cell BK257.out 0).trans rfl, (blk_cell BK257.out 1).trans rfl⟩ (fun hHeld => ?_)
    clear hK K
    refine norm_ (a' := ?_) ?_ ?_
    rotate_left
    · show Act.put _ (some 16) _ = _
      simp only [Act.put, List.setIfInBounds_toArray, List.set_cons_zero, List.set_cons_succ, i64_w, i32_w]
      rfl
    refine last_ (i := 3) (N := none) #[true, true, true, true] rfl rfl (by kernel_rfl) (by decide) (fun K hK => ?_)
    have hs22 : w21.cell? ⟨gb257, 0, none⟩ = some (.int .i64 t253) := (blk_cell BK257.out 0).trans rfl
    have hfs22 := blk_frozen BK257.out 0
    have hns22_0 := NB248_257.out
    have hms22_0 := NB257_248.out
    have hs24 : w21.cell? ⟨gb257, 1, none⟩ = some (.slice Ao16 t254.length co16) := (blk_cell BK257.out 1).trans rfl
    have hfs24 := blk_frozen BK257.out 1
    have hns24_0 := NB248_257.out
    have hms24_0 := NB257_248.out
    refine skip_ (w1 := ?_) (by rfl) rfl ?_ ?_
    rotate_left
    · go_simp
      rfl
    refine hK.out _ _ ?_
    clear hK K
    refine done_ (by kernel_rfl) ?_
    have hcz25_0 : w21.cell? ⟨gb257, 0, none⟩ = some (.int .i64 t253) := (blk_cell BK257.out 0).trans rfl
    have hcz25_1 : w21.cell? ⟨gb257, 1, none⟩ = some (.slice Ao16 t254.length co16) := (blk_cell BK257.out 1).trans rfl
    have hfz25_0 := blk_frozen BK257.out 0
    have hfz25_1 := blk_frozen BK257.out 1
    have hcz26_0 : w21.cell? ⟨gb248, 0, none⟩ = some (.int .i64 0) := (blk_cell BK248.out 0).trans rfl
    have hcz26_1 : w21.cell? ⟨gb248, 1, none⟩ = some (.slice none 0 0) := (blk_cell BK248.out 1).trans rfl
    have hfz26_0 := blk_frozen BK248.out 0
    have hfz26_1 := blk_frozen BK248.out 1
    try go_wp2
    refine bodyPost_ret (results_cell_row rfl _ _ gb248 31 #[.int .i64 (-1), .slice Ao23 t263.length co23] (0, 0) _ rfl (by (with_reducible repeat (first | refine blk_drewN ?_ _ | refine blk_drew ?_ | refine blk_alloc ?_ _)); refine blk_put (cs := #[.int .i64 (-1), .slice none 0 0]) ?_ 1 _ rfl; (with_reducible repeat (first | refine blk_drewN ?_ _ | refine blk_drew ?_ | refine blk_alloc ?_ _)); refine blk_put (cs := #[.int .i64 0, .slice none 0 0]) ?_ 0 _ rfl; (with_reducible repeat (first | refine blk_drewN ?_ _ | refine blk_drew ?_ | refine blk_alloc ?_ _)); refine blk_far ?_ NB248_257.out _; (with_reducible repeat (first | refine blk_drewN ?_ _ | refine blk_drew ?_ | refine blk_alloc ?_ _)); refine blk_far ?_ NB248_257.out _; (with_reducible repeat (first | refine blk_drewN ?_ _ | refine blk_drew ?_ | refine blk_alloc ?_ _)); refine blk_far ?_ NB248_257.out _; (with_reducible repeat (first | refine blk_drewN ?_ _ | refine blk_drew ?_ | refine blk_alloc ?_ _)); exact BK248.out) Try.underlying31 rfl (by kernel_rfl)) rfl ?_
    exact ⟨_, by first | rfl | (simp [errW_none, errW_some] <;> rfl) | (simp [*, errW_none, errW_some] <;> rfl), by (with_reducible repeat (first | apply Kd.R_alloc | apply Kd.R_drewN | apply Kd.R_drew)); exact Kd.R_mono (Kd.R_far (p := ⟨gb248, 1, none⟩) (Kd.R_far (p := ⟨gb248, 0, none⟩) (Kd.R_far (p := ⟨gb257, 0, none⟩) (Kd.R_far (p := ⟨gb257, 1, none⟩) (Kd.R_far (p := ⟨gb257, 0, none⟩) (Kd.R_types (Kd.R_types HO265.out BK257.out (by decide)) BK248.out (by decide)) (fun _ hk => hk.1.2) (.int .i64 t262)) (fun _ hk => hk.1.2) (.slice Ao23 t263.length co23)) (fun _ hk => hk.1.2) (.int .i64 (-1))) (fun _ hk => hk.2) (.int .i64 (-1))) (fun _ hk => hk.2) (.slice Ao23 t263.length co23)) (fun _ hk => trivial), bl⟩

/-! ### rowlockref03_Turn: function 22 -/
def rowlockref03_Turn.f (a0_0 : Int) (l0_1 : List Int) : Option (Int × List Int) := some (wrap64 (-a0_0), l0_1)
set_option maxHeartbeats 8000000 in
set_option maxRecDepth 100000 in
theorem rowlockref03_Turn.calls (a0_0 : Int) (P0_1_ : Nat → Prop) (A0_1 : Option Addr) (c0_1 : Nat) (l0_1 : List Int) (r1 : Int) (r2 : List Int) (w : World) (hs0_1 : Kd.V (Kd.int .u64) 27 w w.heap.size (fun k_ => P0_1_ k_) (.slice A0_1 l0_1.length c0_1) l0_1) (h : rowlockref03_Turn.f a0_0 l0_1 = some (r1, r2)) :
    Calls Try.prog 22 #[.agg #[.int .i64 a0_0, .slice A0_1 l0_1.length c0_1]] w fun e w' => ∃ v1_ : Value, e = .returned (.agg #[.int .i64 r1, v1_]) ∧ Kd.V (Kd.int .u64) 27 w' w.heap.size (fun k_ => (P0_1_ k_ ∨ w.heap.size ≤ k_)) v1_ r2 ∧ Below w.heap.size w w' := by
  have hu31 := Try.underlying31
  have HO0_1 := Aside0.mk (show Kd.V (Kd.int .u64) 27 w w.heap.size (fun k_ => (P0_1_ k_ ∨ w.heap.size ≤ k_)) (.slice A0_1 l0_1.length c0_1) l0_1 from Kd.V_mono hs0_1 (fun k_ hk => .inl hk))
  have HB := Aside0.mk (Below.refl w.heap.size w)
  have H : (some (wrap64 (-a0_0), l0_1)) = some (r1, r2) := h
  clear h
  simp only [Option.some.injEq, Prod.mk.injEq] at H
  obtain ⟨rfl, rfl⟩ := H
  go_enter Try.func22, Try.ntmps22
  go_wp2_with (first | ((with_reducible refine gate_dst (N := 1) rfl ?_); refine box_event ?hg (N := 1) ?hd (cs := #[.int .i64 a0_0, .slice A0_1 l0_1.length c0_1]) (t := 31) ?hr ?_; (case hd => rfl); (case hg => rfl); (case hr => first | (go_simp; done) | (go_simp; rfl)); intro gb266 hg w2 hbox hb; have n0_ := Aside0.mk (Kd.V_below (Kd.V_elderB (by (with_reducible repeat (first | apply Kd.V_alloc | apply Kd.V_drewN | apply Kd.V_drew)); exact HO0_1.out) gb266 (Nat.le_of_eq hg.symm)) hb); have n1_ := Aside0.mk (below_step bl hb); have n2_ := Aside0.mk (hbox); have n3_ := Aside0.mk ((sz hg : w.heap.size ≤ gb266)); have n4_ := Aside0.mk ((sz hg : w.heap.size ≤ gb266)); clear HO0_1; clear HB; have HO0_1 := n0_; have HB := n1_; have BK266 := n2_; have GW266 := n3_; have GE266 := n4_; clear n0_ n1_ n2_ n3_ n4_; clear hb hbox hg) | ((with_reducible refine gate_dst (N := 2) rfl ?_); refine box_event ?hg (N := 2) ?hd (cs := #[.int .i64 0, .slice none 0 0]) (t := 31) ?hr ?_; (case hd => rfl); (case hg => rfl); (case hr => first | (go_simp; done) | (go_simp; rfl)); intro gb267 hg w3 hbox hb; have n0_ := Aside0.mk (Kd.V_below (Kd.V_elderB (by (with_reducible repeat (first | apply Kd.V_alloc | apply Kd.V_drewN | apply Kd.V_drew)); exact HO0_1.out) gb267 (Nat.le_of_eq hg.symm)) hb); have n1_ := Aside0.mk (bb (g := gb266) hb); have n2_ := Aside0.mk (below_step bl hb); have n3_ := Aside0.mk (hbox); have n4_ := Aside0.mk ((sz hg : w.heap.size ≤ gb267)); have n5_ := Aside0.mk ((sz hg : w.heap.size ≤ gb267)); have n6_ := Aside0.mk ((nl hg : gb266 ≠ gb267)); have n7_ := Aside0.mk ((ng hg : gb267 ≠ gb266)); clear HO0_1; clear BK266; clear HB; have HO0_1 := n0_; have BK266 := n1_; have HB := n2_; have BK267 := n3_; have GW267 := n4_; have GE267 := n5_; have NB266_267 := n6_; have NB267_266 := n7_; clear n0_ n1_ n2_ n3_ n4_ n5_ n6_ n7_; clear hb hbox hg; have hnb4 := NB266_267.out; have hnc4 := NB267_266.out; have hcz5_0 : w3.cell? ⟨gb266, 0, none⟩ = some (.int .i64 a0_0) := (blk_cell BK266.out 0).trans rfl; have hcz5_1 : w3.cell? ⟨gb266, 1, none⟩ = some (.slice A0_1 l0_1.length c0_1) := (blk_cell BK266.out 1).trans rfl; have hfz5_0 := blk_frozen BK266.out 0; have hfz5_1 := blk_frozen BK266.out 1; have hcz6_0 : w3.cell? ⟨gb267, 0, none⟩ = some (.int .i64 0) := (blk_cell BK267.out 0).trans rfl; have hcz6_1 : w3.cell? ⟨gb267, 1, none⟩ = some (.slice none 0 0) := (blk_cell BK267.out 1).trans rfl; have hfz6_0 := blk_frozen BK267.out 0; have hfz6_1 := blk_frozen BK267.out 1))
  refine bodyPost_ret (results_cell_row rfl _ _ gb267 31 #[.int .i64 (wrap64 (-a0_0)), .slice A0_1 l0_1.length c0_1] (0, 0) _ rfl (by (with_reducible repeat (first | refine blk_drewN ?_ _ | refine blk_drew ?_ | refine blk_alloc ?_ _)); refine blk_put (cs := #[.int .i64 (wrap64 (-a0_0)), .slice none 0 0]) ?_ 1 _ rfl; (with_reducible repeat (first | refine blk_drewN ?_ _ | refine blk_drew ?_ | refine blk_alloc ?_ _)); refine blk_put (cs := #[.int .i64 0, .slice none 0 0]) ?_ 0 _ rfl; (with_reducible repeat (first | refine blk_drewN ?_ _ | refine blk_drew ?_ | refine blk_alloc ?_ _)); exact BK267.out) Try.underlying31 rfl (by kernel_rfl)) rfl ?_
  exact ⟨_, by first | rfl | (simp [errW_none, errW_some] <;> rfl) | (simp [*, errW_none, errW_some] <;> rfl), by (with_reducible repeat (first | apply Kd.V_alloc | apply Kd.V_drewN | apply Kd.V_drew)); exact Kd.V_mono (Kd.V_far (p := ⟨gb267, 1, none⟩) (Kd.V_far (p := ⟨gb267, 0, none⟩) (Kd.V_mono HO0_1.out (fun k_ hk => (⟨hk, hk.2⟩ : _ ∧ k_ ≠ gb267))) (fun _ hk => hk.2) (.int .i64 (wrap64 (-a0_0)))) (fun _ hk => hk.2) (.slice A0_1 l0_1.length c0_1)) (fun _ hk => hk.1.1.1), bl⟩

end Go.Proofs.Ytneihjdkaogkiaa.PCalcDo
