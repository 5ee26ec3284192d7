-- printed for this claim by a copy of the printer that this session turned (wip/pp)
import Derived.Test.YtneihjdkaogkiaaPCalcTimesx0
import Derived.Test.YtneihjdkaogkiaaPCalcTimesx4
namespace Go.Proofs.Ytneihjdkaogkiaa.PCalcTimes
open Go.RowKit Go.Proofs.YtneihjdkaogkiaaW.PrintWords Go.Proofs.YtneihjdkaogkiaaW.PrintLast Go.Proofs.YtneihjdkaogkiaaW.PrintMore
attribute [local go_sem] max2_int min2_int max_two min_two max_three min_three max_four min_four   -- for this text's walks alone
set_option linter.unusedVariables false
set_option linter.unusedSimpArgs false

/-! ### rowlockref03_Less: function 14 -/
def rowlockref03_Less.l0 : Nat → Int → Int → List Int → Int → List Int → Option (Bool)
  | 0, _, _, _, _, _ => none
  | k + 1, x5, x181000, x181001, x182000, x182001 => if x5 ≥ 0 then ((rowlockref03_digit.f x181001 x5).bind fun t182 => ((rowlockref03_digit.f x182001 x5).bind fun t183 => (if t182 = t183 then (rowlockref03_Less.l0 k (wrap64 (x5 - 1)) x181000 x181001 x182000 x182001) else (some (decide (t182 < t183)))))) else (some false)
def rowlockref03_Less.f (k : Nat) (a0_0 : Int) (l0_1 : List Int) (a1_0 : Int) (l1_1 : List Int) : Option (Bool) := if (l0_1.length : Int) < (l1_1.length : Int) then (rowlockref03_Less.l0 k (wrap64 ((l1_1.length : Int) - 1)) a0_0 l0_1 a1_0 l1_1) else (rowlockref03_Less.l0 k (wrap64 ((l0_1.length : Int) - 1)) a0_0 l0_1 a1_0 l1_1)
theorem rowlockref03_Less.mono_l : ∀ k, (∀ y0 y1 y2 y3 y4, LeO (rowlockref03_Less.l0 k y0 y1 y2 y3 y4) (rowlockref03_Less.l0 (k + 1) y0 y1 y2 y3 y4))
  | 0 => fun _ _ _ _ _ r h => by simp [rowlockref03_Less.l0] at h
  | k + 1 => by
    have ih0 := rowlockref03_Less.mono_l k
    · intro y0 y1 y2 y3 y4
      unfold rowlockref03_Less.l0
      repeat' first
      | (with_reducible exact ih0 _ _ _ _ _)
      | (with_reducible exact LeO.refl _)
      | (with_reducible exact LeO.none _)
      | (with_reducible refine LeO.ite ?_ ?_)
      | (with_reducible refine LeO.bind ?_ (fun _ => ?_))
      | exact ih0 _ _ _ _ _
      | exact LeO.none _
      | refine LeO.ite ?_ ?_
      | refine LeO.bind ?_ (fun _ => ?_)
theorem rowlockref03_Less.mono : ∀ a0 a1 a2 a3 k, LeO (rowlockref03_Less.f k a0 a1 a2 a3) (rowlockref03_Less.f (k + 1) a0 a1 a2 a3) := by
  intro a0 a1 a2 a3 k
  have ih0 := rowlockref03_Less.mono_l k
  unfold rowlockref03_Less.f
  repeat' first
      | (with_reducible exact ih0 _ _ _ _ _)
      | (with_reducible exact LeO.refl _)
      | (with_reducible exact LeO.none _)
      | (with_reducible refine LeO.ite ?_ ?_)
      | (with_reducible refine LeO.bind ?_ (fun _ => ?_))
      | exact ih0 _ _ _ _ _
      | exact LeO.none _
      | refine LeO.ite ?_ ?_
      | refine LeO.bind ?_ (fun _ => ?_)
set_option maxHeartbeats 8000000 in
set_option maxRecDepth 100000 in
theorem rowlockref03_Less.calls (k : Nat) (a0_0 : Int) (A0_1 : Option Addr) (c0_1 : Nat) (l0_1 : List Int) (a1_0 : Int) (A1_1 : Option Addr) (c1_1 : Nat) (l1_1 : List Int) (r : Bool) (w : World) (hr0_1 : Kd.C (Kd.int .u64) w A0_1 l0_1.length l0_1) (hc0_1 : l0_1.length ≤ c0_1) (hr1_1 : Kd.C (Kd.int .u64) w A1_1 l1_1.length l1_1) (hc1_1 : l1_1.length ≤ c1_1) (h : rowlockref03_Less.f k a0_0 l0_1 a1_0 l1_1 = some r) :
    Calls Try.prog 14 #[.agg #[.int .i64 a0_0, .slice A0_1 l0_1.length c0_1], .agg #[.int .i64 a1_0, .slice A1_1 l1_1.length c1_1]] w fun e w' => e = .returned (.bool r) ∧ Below w.heap.size w w' := by
  have hu31 := Try.underlying31
  have HR0_1 := Aside0.mk hr0_1
  have HC0_1 := Aside0.mk hc0_1
  clear hr0_1 hc0_1
  have HR1_1 := Aside0.mk hr1_1
  have HC1_1 := Aside0.mk hc1_1
  clear hr1_1 hc1_1
  have HB := Aside0.mk (Below.refl w.heap.size w)
  have H : (if (l0_1.length : Int) < (l1_1.length : Int) then (rowlockref03_Less.l0 k (wrap64 ((l1_1.length : Int) - 1)) a0_0 l0_1 a1_0 l1_1) else (rowlockref03_Less.l0 k (wrap64 ((l0_1.length : Int) - 1)) a0_0 l0_1 a1_0 l1_1)) = some r := h
  clear h
  by_cases c3 : (l0_1.length : Int) < (l1_1.length : Int)
  · rw [if_pos c3] at H
    have c3i := eq_true c3
    have c3b0 : decide ((l0_1.length : Int) < (l1_1.length : Int)) = true := decide_eq_true c3
    have c3b1 : decide (l0_1.length < l1_1.length) = true := decide_eq_true (Int.ofNat_lt.mp c3)
    clear c3
    have H' := Aside0.mk H
    clear H
    go_enter Try.func14, Try.ntmps14
    go_wp2_with (first | ((with_reducible refine gate_dst (N := 2) rfl ?_); refine box_event ?hg (N := 2) ?hd (cs := #[.int .i64 a0_0, .slice A0_1 l0_1.length c0_1]) (t := 31) ?hr ?_; (case hd => rfl); (case hg => rfl); (case hr => first | (go_simp; done) | (go_simp; rfl)); intro gb180 hg w4 hbox hb; have n0_ := Aside0.mk (below_step bl hb); have n1_ := Aside0.mk (hbox); have n2_ := Aside0.mk ((sz hg : w.heap.size ≤ gb180)); have n3_ := Aside0.mk ((sz hg : w.heap.size ≤ gb180)); clear HB; have HB := n0_; have BK180 := n1_; have GW180 := n2_; have GE180 := n3_; clear n0_ n1_ n2_ n3_; clear hb hbox hg) | ((with_reducible refine gate_dst (N := 3) rfl ?_); refine box_event ?hg (N := 3) ?hd (cs := #[.int .i64 a1_0, .slice A1_1 l1_1.length c1_1]) (t := 31) ?hr ?_; (case hd => rfl); (case hg => rfl); (case hr => first | (go_simp; done) | (go_simp; rfl)); intro gb181 hg w5 hbox hb; have n0_ := Aside0.mk (bb (g := gb180) hb); have n1_ := Aside0.mk (below_step bl hb); have n2_ := Aside0.mk (hbox); have n3_ := Aside0.mk ((sz hg : w.heap.size ≤ gb181)); have n4_ := Aside0.mk ((sz hg : w.heap.size ≤ gb181)); have n5_ := Aside0.mk ((nl hg : gb180 ≠ gb181)); have n6_ := Aside0.mk ((ng hg : gb181 ≠ gb180)); clear BK180; clear HB; have BK180 := n0_; have HB := n1_; have BK181 := n2_; have GW181 := n3_; have GE181 := n4_; have NB180_181 := n5_; have NB181_180 := n6_; clear n0_ n1_ n2_ n3_ n4_ n5_ n6_; clear hb hbox hg; have hnb6 := NB180_181.out; have hnc6 := NB181_180.out; have hcz7_0 : w5.cell? ⟨gb180, 0, none⟩ = some (.int .i64 a0_0) := (blk_cell BK180.out 0).trans rfl; have hcz7_1 : w5.cell? ⟨gb180, 1, none⟩ = some (.slice A0_1 l0_1.length c0_1) := (blk_cell BK180.out 1).trans rfl; have hfz7_0 := blk_frozen BK180.out 0; have hfz7_1 := blk_frozen BK180.out 1; have hcz8_0 : w5.cell? ⟨gb181, 0, none⟩ = some (.int .i64 a1_0) := (blk_cell BK181.out 0).trans rfl; have hcz8_1 : w5.cell? ⟨gb181, 1, none⟩ = some (.slice A1_1 l1_1.length c1_1) := (blk_cell BK181.out 1).trans rfl; have hfz8_0 := blk_frozen BK181.out 0; have hfz8_1 := blk_frozen BK181.out 1) | ((with_reducible refine gate_draws ?_); go_quiet (first | ((with_reducible refine gate_dst (N := 2) rfl ?_); refine box_event ?hg (N := 2) ?hd (cs := #[.int .i64 a0_0, .slice A0_1 l0_1.length c0_1]) (t := 31) ?hr ?_; (case hd => rfl); (case hg => rfl); (case hr => first | (go_simp; done) | (go_simp; rfl)); intro gb180 hg w4 hbox hb; have n0_ := Aside0.mk (below_step bl hb); have n1_ := Aside0.mk (hbox); have n2_ := Aside0.mk ((sz hg : w.heap.size ≤ gb180)); have n3_ := Aside0.mk ((sz hg : w.heap.size ≤ gb180)); clear HB; have HB := n0_; have BK180 := n1_; have GW180 := n2_; have GE180 := n3_; clear n0_ n1_ n2_ n3_; clear hb hbox hg) | ((with_reducible refine gate_dst (N := 3) rfl ?_); refine box_event ?hg (N := 3) ?hd (cs := #[.int .i64 a1_0, .slice A1_1 l1_1.length c1_1]) (t := 31) ?hr ?_; (case hd => rfl); (case hg => rfl); (case hr => first | (go_simp; done) | (go_simp; rfl)); intro gb181 hg w5 hbox hb; have n0_ := Aside0.mk (bb (g := gb180) hb); have n1_ := Aside0.mk (below_step bl hb); have n2_ := Aside0.mk (hbox); have n3_ := Aside0.mk ((sz hg : w.heap.size ≤ gb181)); have n4_ := Aside0.mk ((sz hg : w.heap.size ≤ gb181)); have n5_ := Aside0.mk ((nl hg : gb180 ≠ gb181)); have n6_ := Aside0.mk ((ng hg : gb181 ≠ gb180)); clear BK180; clear HB; have BK180 := n0_; have HB := n1_; have BK181 := n2_; have GW181 := n3_; have GE181 := n4_; have NB180_181 := n5_; have NB181_180 := n6_; clear n0_ n1_ n2_ n3_ n4_ n5_ n6_; clear hb hbox hg; have hnb6 := NB180_181.out; have hnc6 := NB181_180.out; have hcz7_0 : w5.cell? ⟨gb180, 0, none⟩ = some (.int .i64 a0_0) := (blk_cell BK180.out 0).trans rfl; have hcz7_1 : w5.cell? ⟨gb180, 1, none⟩ = some (.slice A0_1 l0_1.length c0_1) := (blk_cell BK180.out 1).trans rfl; have hfz7_0 := blk_frozen BK180.out 0; have hfz7_1 := blk_frozen BK180.out 1; have hcz8_0 : w5.cell? ⟨gb181, 0, none⟩ = some (.int .i64 a1_0) := (blk_cell BK181.out 0).trans rfl; have hcz8_1 : w5.cell? ⟨gb181, 1, none⟩ = some (.slice A1_1 l1_1.length c1_1) := (blk_cell BK181.out 1).trans rfl; have hfz8_0 := blk_frozen BK181.out 0; have hfz8_1 := blk_frozen BK181.out 1))))
    go_loopg [5] k (fun kq v5 w' => ∃ (x5_1 : Int), v5 = .int .i64 x5_1 ∧ Aside0 (rowlockref03_Less.l0 kq x5_1 a0_0 l0_1 a1_0 l1_1 = some r) ∧ Aside0 (kq ≤ k) ∧ Aside0 (w'.heap[gb180]? = some (.cells #[.int .i64 a0_0, (.slice A0_1 l0_1.length c0_1)] 31 (0, 0))) ∧ Aside0 (w'.heap[gb181]? = some (.cells #[.int .i64 a1_0, (.slice A1_1 l1_1.length c1_1)] 31 (0, 0))) ∧ Aside0 (Below w.heap.size w w'))
    case atStart => exact ⟨(wrap64 ((l1_1.length : Int) - 1)), (by first | rfl | (simp; done) | (simp [*]; done)), H', ⟨Nat.le_refl _⟩, ⟨pk⟩, ⟨pk⟩, ⟨bl⟩⟩
    case round =>
      clear H'
      try clear c1
      try clear p2
      try clear c3
      try clear c3b0
      try clear c3b1
      try clear c6
      try clear p6
      try clear hcz7_0
      try clear hcz7_1
      try clear hcz8_0
      try clear hcz8_1
      try clear hfz7_0
      try clear hfz7_1
      try clear hfz8_0
      try clear hfz8_1
      obtain ⟨x5_1, rfl, HA, HK1, BK180, BK181, HB⟩ := hrel
      cases gk with
      | zero => exact absurd HA.out (by simp [rowlockref03_Less.l0])
      | succ k1 =>
        have H := HA.out
        clear HA
        simp only [rowlockref03_Less.l0] at H
        by_cases c9 : x5_1 ≥ 0
        · rw [if_pos c9] at H
          have c9b0 : decide (0 ≤ x5_1) = true := decide_eq_true c9
          clear c9
          replace H := Option.bind_eq_some_iff.mp H
          obtain ⟨t182, A100, H⟩ := H
          replace H : ((rowlockref03_digit.f l1_1 x5_1).bind fun t183 => (if t182 = t183 then (rowlockref03_Less.l0 k1 (wrap64 (x5_1 - 1)) a0_0 l0_1 a1_0 l1_1) else (some (decide (t182 < t183))))) = some r := H
          have A10 := Aside0.mk A100
          clear A100
          replace H := Option.bind_eq_some_iff.mp H
          obtain ⟨t183, A110, H⟩ := H
          replace H : (if t182 = t183 then (rowlockref03_Less.l0 k1 (wrap64 (x5_1 - 1)) a0_0 l0_1 a1_0 l1_1) else (some (decide (t182 < t183)))) = some r := H
          have A11 := Aside0.mk A110
          clear A110
          by_cases c12 : t182 = t183
          · rw [if_pos c12] at H
            have c12b0 : (t182 == t183) = true := beq_iff_eq.mpr c12
            have c12b1 : (t182 != t183) = false := bne_eq_false_iff_eq.mpr c12
            clear c12
            have H' := Aside0.mk H
            clear H
            have hnb13 := NB180_181.out
            have hnc13 := NB181_180.out
            have hcz14_0 : wr.cell? ⟨gb180, 0, none⟩ = some (.int .i64 a0_0) := (blk_cell BK180.out 0).trans rfl
            have hcz14_1 : wr.cell? ⟨gb180, 1, none⟩ = some (.slice A0_1 l0_1.length c0_1) := (blk_cell BK180.out 1).trans rfl
            have hfz14_0 := blk_frozen BK180.out 0
            have hfz14_1 := blk_frozen BK180.out 1
            go_wp2_with (first | (go_at_call 32; (with_reducible refine (rowlockref03_digit.calls _ _ l0_1 x5_1 t182 _ ?side1 ?side2 A10.out).mono ?_); (case side1 => exact cb); (case side2 => exact HC0_1.out); rintro e w' ⟨rfl, ⟨nd, rfl⟩⟩; (try first | exact ⟨rfl, _, World.drewN_drewN _ _ _⟩ | exact ⟨rfl, _, Eq.trans (World.drewN_drewN _ _ _) (congrArg (World.drewN _) (Nat.add_assoc _ _ _))⟩); have hcz15_0 : wr.cell? ⟨gb181, 0, none⟩ = some (.int .i64 a1_0) := (blk_cell BK181.out 0).trans rfl; have hcz15_1 : wr.cell? ⟨gb181, 1, none⟩ = some (.slice A1_1 l1_1.length c1_1) := (blk_cell BK181.out 1).trans rfl; have hfz15_0 := blk_frozen BK181.out 0; have hfz15_1 := blk_frozen BK181.out 1) | (go_at_call 32; (with_reducible refine (rowlockref03_digit.calls _ _ l1_1 x5_1 t183 _ ?side1 ?side2 A11.out).mono ?_); (case side1 => repeat (first | exact (Kd.C_below HR1_1.out bl) | (with_reducible refine Kd.C_alloc ?_ _) | (with_reducible refine Kd.C_drewN ?_ _) | (with_reducible refine Kd.C_drew ?_))); (case side2 => exact HC1_1.out); rintro e w' ⟨rfl, ⟨nd, rfl⟩⟩; (try first | exact ⟨rfl, _, World.drewN_drewN _ _ _⟩ | exact ⟨rfl, _, Eq.trans (World.drewN_drewN _ _ _) (congrArg (World.drewN _) (Nat.add_assoc _ _ _))⟩)) | ((with_reducible refine gate_draws ?_); go_quiet (first | (go_at_call 32; (with_reducible refine (rowlockref03_digit.calls _ _ l0_1 x5_1 t182 _ ?side1 ?side2 A10.out).mono ?_); (case side1 => exact cb); (case side2 => exact HC0_1.out); rintro e w' ⟨rfl, ⟨nd, rfl⟩⟩; (try first | exact ⟨rfl, _, World.drewN_drewN _ _ _⟩ | exact ⟨rfl, _, Eq.trans (World.drewN_drewN _ _ _) (congrArg (World.drewN _) (Nat.add_assoc _ _ _))⟩); have hcz15_0 : wr.cell? ⟨gb181, 0, none⟩ = some (.int .i64 a1_0) := (blk_cell BK181.out 0).trans rfl; have hcz15_1 : wr.cell? ⟨gb181, 1, none⟩ = some (.slice A1_1 l1_1.length c1_1) := (blk_cell BK181.out 1).trans rfl; have hfz15_0 := blk_frozen BK181.out 0; have hfz15_1 := blk_frozen BK181.out 1) | (go_at_call 32; (with_reducible refine (rowlockref03_digit.calls _ _ l1_1 x5_1 t183 _ ?side1 ?side2 A11.out).mono ?_); (case side1 => repeat (first | exact (Kd.C_below HR1_1.out bl) | (with_reducible refine Kd.C_alloc ?_ _) | (with_reducible refine Kd.C_drewN ?_ _) | (with_reducible refine Kd.C_drew ?_))); (case side2 => exact HC1_1.out); rintro e w' ⟨rfl, ⟨nd, rfl⟩⟩; (try first | exact ⟨rfl, _, World.drewN_drewN _ _ _⟩ | exact ⟨rfl, _, Eq.trans (World.drewN_drewN _ _ _) (congrArg (World.drewN _) (Nat.add_assoc _ _ _))⟩)))))
            go_roundg k1
            case measure => have := HK1.out; omega
            case rel => exact ⟨(wrap64 (x5_1 - 1)), (by first | rfl | (simp; done) | (simp [*]; done)), H', ⟨by have := HK1.out; omega⟩, ⟨pk⟩, ⟨pk⟩, ⟨bl⟩⟩
          · rw [if_neg c12] at H
            have c12b0 : (t182 == t183) = false := beq_eq_false_iff_ne.mpr c12
            have c12b1 : (t182 != t183) = true := bne_iff_ne.mpr c12
            obtain rfl := Option.some.inj H
            have hnb16 := NB180_181.out
            have hnc16 := NB181_180.out
            have hcz17_0 : wr.cell? ⟨gb180, 0, none⟩ = some (.int .i64 a0_0) := (blk_cell BK180.out 0).trans rfl
            have hcz17_1 : wr.cell? ⟨gb180, 1, none⟩ = some (.slice A0_1 l0_1.length c0_1) := (blk_cell BK180.out 1).trans rfl
            have hfz17_0 := blk_frozen BK180.out 0
            have hfz17_1 := blk_frozen BK180.out 1
            go_wp2_with (first | (go_at_call 32; (with_reducible refine (rowlockref03_digit.calls _ _ l0_1 x5_1 t182 _ ?side1 ?side2 A10.out).mono ?_); (case side1 => exact cb); (case side2 => exact HC0_1.out); rintro e w' ⟨rfl, ⟨nd, rfl⟩⟩; (try first | exact ⟨rfl, _, World.drewN_drewN _ _ _⟩ | exact ⟨rfl, _, Eq.trans (World.drewN_drewN _ _ _) (congrArg (World.drewN _) (Nat.add_assoc _ _ _))⟩); have hcz18_0 : wr.cell? ⟨gb181, 0, none⟩ = some (.int .i64 a1_0) := (blk_cell BK181.out 0).trans rfl; have hcz18_1 : wr.cell? ⟨gb181, 1, none⟩ = some (.slice A1_1 l1_1.length c1_1) := (blk_cell BK181.out 1).trans rfl; have hfz18_0 := blk_frozen BK181.out 0; have hfz18_1 := blk_frozen BK181.out 1) | (go_at_call 32; (with_reducible refine (rowlockref03_digit.calls _ _ l1_1 x5_1 t183 _ ?side1 ?side2 A11.out).mono ?_); (case side1 => repeat (first | exact (Kd.C_below HR1_1.out bl) | (with_reducible refine Kd.C_alloc ?_ _) | (with_reducible refine Kd.C_drewN ?_ _) | (with_reducible refine Kd.C_drew ?_))); (case side2 => exact HC1_1.out); rintro e w' ⟨rfl, ⟨nd, rfl⟩⟩; (try first | exact ⟨rfl, _, World.drewN_drewN _ _ _⟩ | exact ⟨rfl, _, Eq.trans (World.drewN_drewN _ _ _) (congrArg (World.drewN _) (Nat.add_assoc _ _ _))⟩)) | ((with_reducible refine gate_draws ?_); go_quiet (first | (go_at_call 32; (with_reducible refine (rowlockref03_digit.calls _ _ l0_1 x5_1 t182 _ ?side1 ?side2 A10.out).mono ?_); (case side1 => exact cb); (case side2 => exact HC0_1.out); rintro e w' ⟨rfl, ⟨nd, rfl⟩⟩; (try first | exact ⟨rfl, _, World.drewN_drewN _ _ _⟩ | exact ⟨rfl, _, Eq.trans (World.drewN_drewN _ _ _) (congrArg (World.drewN _) (Nat.add_assoc _ _ _))⟩); have hcz18_0 : wr.cell? ⟨gb181, 0, none⟩ = some (.int .i64 a1_0) := (blk_cell BK181.out 0).trans rfl; have hcz18_1 : wr.cell? ⟨gb181, 1, none⟩ = some (.slice A1_1 l1_1.length c1_1) := (blk_cell BK181.out 1).trans rfl; have hfz18_0 := blk_frozen BK181.out 0; have hfz18_1 := blk_frozen BK181.out 1) | (go_at_call 32; (with_reducible refine (rowlockref03_digit.calls _ _ l1_1 x5_1 t183 _ ?side1 ?side2 A11.out).mono ?_); (case side1 => repeat (first | exact (Kd.C_below HR1_1.out bl) | (with_reducible refine Kd.C_alloc ?_ _) | (with_reducible refine Kd.C_drewN ?_ _) | (with_reducible refine Kd.C_drew ?_))); (case side2 => exact HC1_1.out); rintro e w' ⟨rfl, ⟨nd, rfl⟩⟩; (try first | exact ⟨rfl, _, World.drewN_drewN _ _ _⟩ | exact ⟨rfl, _, Eq.trans (World.drewN_drewN _ _ _) (congrArg (World.drewN _) (Nat.add_assoc _ _ _))⟩)))))
            go_ret
            exact ⟨by first | rfl | (simp [errW_none, errW_some] <;> rfl) | (simp [*, errW_none, errW_some] <;> rfl), bl⟩
        · rw [if_neg c9] at H
          have c9b0 : decide (0 ≤ x5_1) = false := decide_eq_false c9
          clear c9
          obtain rfl := Option.some.inj H
          go_wp2_with (((with_reducible refine gate_draws ?_); go_quiet (fail)))
          go_ret
          exact ⟨by first | rfl | (simp [errW_none, errW_some] <;> rfl) | (simp [*, errW_none, errW_some] <;> rfl), bl⟩
  · rw [if_neg c3] at H
    have c3i := eq_false c3
    have c3b0 : decide ((l0_1.length : Int) < (l1_1.length : Int)) = false := decide_eq_false c3
    have c3b1 : decide (l0_1.length < l1_1.length) = false := decide_eq_false (fun h => c3 (Int.ofNat_lt.mpr h))
    clear c3
    have H' := Aside0.mk H
    clear H
    go_enter Try.func14, Try.ntmps14
    go_wp2_with (first | ((with_reducible refine gate_dst (N := 2) rfl ?_); refine box_event ?hg (N := 2) ?hd (cs := #[.int .i64 a0_0, .slice A0_1 l0_1.length c0_1]) (t := 31) ?hr ?_; (case hd => rfl); (case hg => rfl); (case hr => first | (go_simp; done) | (go_simp; rfl)); intro gb180 hg w19 hbox hb; have n0_ := Aside0.mk (below_step bl hb); have n1_ := Aside0.mk (hbox); have n2_ := Aside0.mk ((sz hg : w.heap.size ≤ gb180)); have n3_ := Aside0.mk ((sz hg : w.heap.size ≤ gb180)); clear HB; have HB := n0_; have BK180 := n1_; have GW180 := n2_; have GE180 := n3_; clear n0_ n1_ n2_ n3_; clear hb hbox hg) | ((with_reducible refine gate_dst (N := 3) rfl ?_); refine box_event ?hg (N := 3) ?hd (cs := #[.int .i64 a1_0, .slice A1_1 l1_1.length c1_1]) (t := 31) ?hr ?_; (case hd => rfl); (case hg => rfl); (case hr => first | (go_simp; done) | (go_simp; rfl)); intro gb181 hg w20 hbox hb; have n0_ := Aside0.mk (bb (g := gb180) hb); have n1_ := Aside0.mk (below_step bl hb); have n2_ := Aside0.mk (hbox); have n3_ := Aside0.mk ((sz hg : w.heap.size ≤ gb181)); have n4_ := Aside0.mk ((sz hg : w.heap.size ≤ gb181)); have n5_ := Aside0.mk ((nl hg : gb180 ≠ gb181)); have n6_ := Aside0.mk ((ng hg : gb181 ≠ gb180)); clear BK180; clear HB; have BK180 := n0_; have HB := n1_; have BK181 := n2_; have GW181 := n3_; have GE181 := n4_; have NB180_181 := n5_; have NB181_180 := n6_; clear n0_ n1_ n2_ n3_ n4_ n5_ n6_; clear hb hbox hg; have hnb21 := NB180_181.out; have hnc21 := NB181_180.out; have hcz22_0 : w20.cell? ⟨gb180, 0, none⟩ = some (.int .i64 a0_0) := (blk_cell BK180.out 0).trans rfl; have hcz22_1 : w20.cell? ⟨gb180, 1, none⟩ = some (.slice A0_1 l0_1.length c0_1) := (blk_cell BK180.out 1).trans rfl; have hfz22_0 := blk_frozen BK180.out 0; have hfz22_1 := blk_frozen BK180.out 1; have hcz23_0 : w20.cell? ⟨gb181, 0, none⟩ = some (.int .i64 a1_0) := (blk_cell BK181.out 0).trans rfl; have hcz23_1 : w20.cell? ⟨gb181, 1, none⟩ = some (.slice A1_1 l1_1.length c1_1) := (blk_cell BK181.out 1).trans rfl; have hfz23_0 := blk_frozen BK181.out 0; have hfz23_1 := blk_frozen BK181.out 1) | ((with_reducible refine gate_draws ?_); go_quiet (first | ((with_reducible refine gate_dst (N := 2) rfl ?_); refine box_event ?hg (N := 2) ?hd (cs := #[.int .i64 a0_0, .slice A0_1 l0_1.length c0_1]) (t := 31) ?hr ?_; (case hd => rfl); (case hg => rfl); (case hr => first | (go_simp; done) | (go_simp; rfl)); intro gb180 hg w19 hbox hb; have n0_ := Aside0.mk (below_step bl hb); have n1_ := Aside0.mk (hbox); have n2_ := Aside0.mk ((sz hg : w.heap.size ≤ gb180)); have n3_ := Aside0.mk ((sz hg : w.heap.size ≤ gb180)); clear HB; have HB := n0_; have BK180 := n1_; have GW180 := n2_; have GE180 := n3_; clear n0_ n1_ n2_ n3_; clear hb hbox hg) | ((with_reducible refine gate_dst (N := 3) rfl ?_); refine box_event ?hg (N := 3) ?hd (cs := #[.int .i64 a1_0, .slice A1_1 l1_1.length c1_1]) (t := 31) ?hr ?_; (case hd => rfl); (case hg => rfl); (case hr => first | (go_simp; done) | (go_simp; rfl)); intro gb181 hg w20 hbox hb; have n0_ := Aside0.mk (bb (g := gb180) hb); have n1_ := Aside0.mk (below_step bl hb); have n2_ := Aside0.mk (hbox); have n3_ := Aside0.mk ((sz hg : w.heap.size ≤ gb181)); have n4_ := Aside0.mk ((sz hg : w.heap.size ≤ gb181)); have n5_ := Aside0.mk ((nl hg : gb180 ≠ gb181)); have n6_ := Aside0.mk ((ng hg : gb181 ≠ gb180)); clear BK180; clear HB; have BK180 := n0_; have HB := n1_; have BK181 := n2_; have GW181 := n3_; have GE181 := n4_; have NB180_181 := n5_; have NB181_180 := n6_; clear n0_ n1_ n2_ n3_ n4_ n5_ n6_; clear hb hbox hg; have hnb21 := NB180_181.out; have hnc21 := NB181_180.out; have hcz22_0 : w20.cell? ⟨gb180, 0, none⟩ = some (.int .i64 a0_0) := (blk_cell BK180.out 0).trans rfl; have hcz22_1 : w20.cell? ⟨gb180, 1, none⟩ = some (.slice A0_1 l0_1.length c0_1) := (blk_cell BK180.out 1).trans rfl; have hfz22_0 := blk_frozen BK180.out 0; have hfz22_1 := blk_frozen BK180.out 1; have hcz23_0 : w20.cell? ⟨gb181, 0, none⟩ = some (.int .i64 a1_0) := (blk_cell BK181.out 0).trans rfl; have hcz23_1 : w20.cell? ⟨gb181, 1, none⟩ = some (.slice A1_1 l1_1.length c1_1) := (blk_cell BK181.out 1).trans rfl; have hfz23_0 := blk_frozen BK181.out 0; have hfz23_1 := blk_frozen BK181.out 1))))
    go_loopg [5] k (fun kq v5 w' => ∃ (x5_1 : Int), v5 = .int .i64 x5_1 ∧ Aside0 (rowlockref03_Less.l0 kq x5_1 a0_0 l0_1 a1_0 l1_1 = some r) ∧ Aside0 (kq ≤ k) ∧ Aside0 (w'.heap[gb180]? = some (.cells #[.int .i64 a0_0, (.slice A0_1 l0_1.length c0_1)] 31 (0, 0))) ∧ Aside0 (w'.heap[gb181]? = some (.cells #[.int .i64 a1_0, (.slice A1_1 l1_1.length c1_1)] 31 (0, 0))) ∧ Aside0 (Below w.heap.size w w'))
    case atStart => exact ⟨(wrap64 ((l0_1.length : Int) - 1)), (by first | rfl | (simp; done) | (simp [*]; done)), H', ⟨Nat.le_refl _⟩, ⟨pk⟩, ⟨pk⟩, ⟨bl⟩⟩
    case round =>
      clear H'
      try clear c1
      try clear c2
      try clear p2
      try clear c3
      try clear c3b0
      try clear c3b1
      try clear c6
      try clear p6
      try clear c9
      try clear c9b0
      try clear c12
      try clear c12b0
      try clear c12b1
      try clear c13
      try clear c14
      try clear c16
      try clear c21
      try clear hcz14_0
      try clear hcz14_1
      try clear hcz15_0
      try clear hcz15_1
      try clear hcz17_0
      try clear hcz17_1
      try clear hcz18_0
      try clear hcz18_1
      try clear hcz22_0
      try clear hcz22_1
      try clear hcz23_0
      try clear hcz23_1
      try clear hcz7_0
      try clear hcz7_1
      try clear hcz8_0
      try clear hcz8_1
      try clear hfz14_0
      try clear hfz14_1
      try clear hfz15_0
      try clear hfz15_1
      try clear hfz17_0
      try clear hfz17_1
      try clear hfz18_0
      try clear hfz18_1
      try clear hfz22_0
      try clear hfz22_1
      try clear hfz23_0
      try clear hfz23_1
      try clear hfz7_0
      try clear hfz7_1
      try clear hfz8_0
      try clear hfz8_1
      try clear p2
      try clear p6
      obtain ⟨x5_1, rfl, HA, HK1, BK180, BK181, HB⟩ := hrel
      cases gk with
      | zero => exact absurd HA.out (by simp [rowlockref03_Less.l0])
      | succ k1 =>
        have H := HA.out
        clear HA
        simp only [rowlockref03_Less.l0] at H
        by_cases c24 : x5_1 ≥ 0
        · rw [if_pos c24] at H
          have c24b0 : decide (0 ≤ x5_1) = true := decide_eq_true c24
          clear c24
          replace H := Option.bind_eq_some_iff.mp H
          obtain ⟨t182, A250, H⟩ := H
          replace H : ((rowlockref03_digit.f l1_1 x5_1).bind fun t183 => (if t182 = t183 then (rowlockref03_Less.l0 k1 (wrap64 (x5_1 - 1)) a0_0 l0_1 a1_0 l1_1) else (some (decide (t182 < t183))))) = some r := H
          have A25 := Aside0.mk A250
          clear A250
          replace H := Option.bind_eq_some_iff.mp H
          obtain ⟨t183, A260, H⟩ := H
          replace H : (if t182 = t183 then (rowlockref03_Less.l0 k1 (wrap64 (x5_1 - 1)) a0_0 l0_1 a1_0 l1_1) else (some (decide (t182 < t183)))) = some r := H
          have A26 := Aside0.mk A260
          clear A260
          by_cases c27 : t182 = t183
          · rw [if_pos c27] at H
            have c27b0 : (t182 == t183) = true := beq_iff_eq.mpr c27
            have c27b1 : (t182 != t183) = false := bne_eq_false_iff_eq.mpr c27
            clear c27
            have H' := Aside0.mk H
            clear H
            have hnb28 := NB180_181.out
            have hnc28 := NB181_180.out
            have hcz29_0 : wr.cell? ⟨gb180, 0, none⟩ = some (.int .i64 a0_0) := (blk_cell BK180.out 0).trans rfl
            have hcz29_1 : wr.cell? ⟨gb180, 1, none⟩ = some (.slice A0_1 l0_1.length c0_1) := (blk_cell BK180.out 1).trans rfl
            have hfz29_0 := blk_frozen BK180.out 0
            have hfz29_1 := blk_frozen BK180.out 1
            go_wp2_with (first | (go_at_call 32; (with_reducible refine (rowlockref03_digit.calls _ _ l0_1 x5_1 t182 _ ?side1 ?side2 A25.out).mono ?_); (case side1 => exact cb); (case side2 => exact HC0_1.out); rintro e w' ⟨rfl, ⟨nd, rfl⟩⟩; (try first | exact ⟨rfl, _, World.drewN_drewN _ _ _⟩ | exact ⟨rfl, _, Eq.trans (World.drewN_drewN _ _ _) (congrArg (World.drewN _) (Nat.add_assoc _ _ _))⟩); have hcz30_0 : wr.cell? ⟨gb181, 0, none⟩ = some (.int .i64 a1_0) := (blk_cell BK181.out 0).trans rfl; have hcz30_1 : wr.cell? ⟨gb181, 1, none⟩ = some (.slice A1_1 l1_1.length c1_1) := (blk_cell BK181.out 1).trans rfl; have hfz30_0 := blk_frozen BK181.out 0; have hfz30_1 := blk_frozen BK181.out 1) | (go_at_call 32; (with_reducible refine (rowlockref03_digit.calls _ _ l1_1 x5_1 t183 _ ?side1 ?side2 A26.out).mono ?_); (case side1 => repeat (first | exact (Kd.C_below HR1_1.out bl) | (with_reducible refine Kd.C_alloc ?_ _) | (with_reducible refine Kd.C_drewN ?_ _) | (with_reducible refine Kd.C_drew ?_))); (case side2 => exact HC1_1.out); rintro e w' ⟨rfl, ⟨nd, rfl⟩⟩; (try first | exact ⟨rfl, _, World.drewN_drewN _ _ _⟩ | exact ⟨rfl, _, Eq.trans (World.drewN_drewN _ _ _) (congrArg (World.drewN _) (Nat.add_assoc _ _ _))⟩)) | ((with_reducible refine gate_draws ?_); go_quiet (first | (go_at_call 32; (with_reducible refine (rowlockref03_digit.calls _ _ l0_1 x5_1 t182 _ ?side1 ?side2 A25.out).mono ?_); (case side1 => exact cb); (case side2 => exact HC0_1.out); rintro e w' ⟨rfl, ⟨nd, rfl⟩⟩; (try first | exact ⟨rfl, _, World.drewN_drewN _ _ _⟩ | exact ⟨rfl, _, Eq.trans (World.drewN_drewN _ _ _) (congrArg (World.drewN _) (Nat.add_assoc _ _ _))⟩); have hcz30_0 : wr.cell? ⟨gb181, 0, none⟩ = some (.int .i64 a1_0) := (blk_cell BK181.out 0).trans rfl; have hcz30_1 : wr.cell? ⟨gb181, 1, none⟩ = some (.slice A1_1 l1_1.length c1_1) := (blk_cell BK181.out 1).trans rfl; have hfz30_0 := blk_frozen BK181.out 0; have hfz30_1 := blk_frozen BK181.out 1) | (go_at_call 32; (with_reducible refine (rowlockref03_digit.calls _ _ l1_1 x5_1 t183 _ ?side1 ?side2 A26.out).mono ?_); (case side1 => repeat (first | exact (Kd.C_below HR1_1.out bl) | (with_reducible refine Kd.C_alloc ?_ _) | (with_reducible refine Kd.C_drewN ?_ _) | (with_reducible refine Kd.C_drew ?_))); (case side2 => exact HC1_1.out); rintro e w' ⟨rfl, ⟨nd, rfl⟩⟩; (try first | exact ⟨rfl, _, World.drewN_drewN _ _ _⟩ | exact ⟨rfl, _, Eq.trans (World.drewN_drewN _ _ _) (congrArg (World.drewN _) (Nat.add_assoc _ _ _))⟩)))))
            go_roundg k1
            case measure => have := HK1.out; omega
            case rel => exact ⟨(wrap64 (x5_1 - 1)), (by first | rfl | (simp; done) | (simp [*]; done)), H', ⟨by have := HK1.out; omega⟩, ⟨pk⟩, ⟨pk⟩, ⟨bl⟩⟩
          · rw [if_neg c27] at H
            have c27b0 : (t182 == t183) = false := beq_eq_false_iff_ne.mpr c27
            have c27b1 : (t182 != t183) = true := bne_iff_ne.mpr c27
            obtain rfl := Option.some.inj H
            have hnb31 := NB180_181.out
            have hnc31 := NB181_180.out
            have hcz32_0 : wr.cell? ⟨gb180, 0, none⟩ = some (.int .i64 a0_0) := (blk_cell BK180.out 0).trans rfl
            have hcz32_1 : wr.cell? ⟨gb180, 1, none⟩ = some (.slice A0_1 l0_1.length c0_1) := (blk_cell BK180.out 1).trans rfl
            have hfz32_0 := blk_frozen BK180.out 0
            have hfz32_1 := blk_frozen BK180.out 1
            go_wp2_with (first | (go_at_call 32; (with_reducible refine (rowlockref03_digit.calls _ _ l0_1 x5_1 t182 _ ?side1 ?side2 A25.out).mono ?_); (case side1 => exact cb); (case side2 => exact HC0_1.out); rintro e w' ⟨rfl, ⟨nd, rfl⟩⟩; (try first | exact ⟨rfl, _, World.drewN_drewN _ _ _⟩ | exact ⟨rfl, _, Eq.trans (World.drewN_drewN _ _ _) (congrArg (World.drewN _) (Nat.add_assoc _ _ _))⟩); have hcz33_0 : wr.cell? ⟨gb181, 0, none⟩ = some (.int .i64 a1_0) := (blk_cell BK181.out 0).trans rfl; have hcz33_1 : wr.cell? ⟨gb181, 1, none⟩ = some (.slice A1_1 l1_1.length c1_1) := (blk_cell BK181.out 1).trans rfl; have hfz33_0 := blk_frozen BK181.out 0; have hfz33_1 := blk_frozen BK181.out 1) | (go_at_call 32; (with_reducible refine (rowlockref03_digit.calls _ _ l1_1 x5_1 t183 _ ?side1 ?side2 A26.out).mono ?_); (case side1 => repeat (first | exact (Kd.C_below HR1_1.out bl) | (with_reducible refine Kd.C_alloc ?_ _) | (with_reducible refine Kd.C_drewN ?_ _) | (with_reducible refine Kd.C_drew ?_))); (case side2 => exact HC1_1.out); rintro e w' ⟨rfl, ⟨nd, rfl⟩⟩; (try first | exact ⟨rfl, _, World.drewN_drewN _ _ _⟩ | exact ⟨rfl, _, Eq.trans (World.drewN_drewN _ _ _) (congrArg (World.drewN _) (Nat.add_assoc _ _ _))⟩)) | ((with_reducible refine gate_draws ?_); go_quiet (first | (go_at_call 32; (with_reducible refine (rowlockref03_digit.calls _ _ l0_1 x5_1 t182 _ ?side1 ?side2 A25.out).mono ?_); (case side1 => exact cb); (case side2 => exact HC0_1.out); rintro e w' ⟨rfl, ⟨nd, rfl⟩⟩; (try first | exact ⟨rfl, _, World.drewN_drewN _ _ _⟩ | exact ⟨rfl, _, Eq.trans (World.drewN_drewN _ _ _) (congrArg (World.drewN _) (Nat.add_assoc _ _ _))⟩); have hcz33_0 : wr.cell? ⟨gb181, 0, none⟩ = some (.int .i64 a1_0) := (blk_cell BK181.out 0).trans rfl; have hcz33_1 : wr.cell? ⟨gb181, 1, none⟩ = some (.slice A1_1 l1_1.length c1_1) := (blk_cell BK181.out 1).trans rfl; have hfz33_0 := blk_frozen BK181.out 0; have hfz33_1 := blk_frozen BK181.out 1) | (go_at_call 32; (with_reducible refine (rowlockref03_digit.calls _ _ l1_1 x5_1 t183 _ ?side1 ?side2 A26.out).mono ?_); (case side1 => repeat (first | exact (Kd.C_below HR1_1.out bl) | (with_reducible refine Kd.C_alloc ?_ _) | (with_reducible refine Kd.C_drewN ?_ _) | (with_reducible refine Kd.C_drew ?_))); (case side2 => exact HC1_1.out); rintro e w' ⟨rfl, ⟨nd, rfl⟩⟩; (try first | exact ⟨rfl, _, World.drewN_drewN _ _ _⟩ | exact ⟨rfl, _, Eq.trans (World.drewN_drewN _ _ _) (congrArg (World.drewN _) (Nat.add_assoc _ _ _))⟩)))))
            go_ret
            exact ⟨by first | rfl | (simp [errW_none, errW_some] <;> rfl) | (simp [*, errW_none, errW_some] <;> rfl), bl⟩
        · rw [if_neg c24] at H
          have c24b0 : decide (0 ≤ x5_1) = false := decide_eq_false c24
          clear c24
          obtain rfl := Option.some.inj H
          go_wp2_with (((with_reducible refine gate_draws ?_); go_quiet (fail)))
          go_ret
          exact ⟨by first | rfl | (simp [errW_none, errW_some] <;> rfl) | (simp [*, errW_none, errW_some] <;> rfl), bl⟩

/-! ### rowlockref03_apart: function 33 -/
def rowlockref03_apart.l0 : Nat → List Int → Int → Int → Int → Int → List Int → Int → List Int → Option (Int × List Int)
  | 0, _, _, _, _, _, _, _, _ => none
  | k + 1, x5, x6, x12, x13, x185000, x185001, x186000, x186001 => if x13 < x12 then (if 0 ≤ x13 then (if x13 < (x185001.length : Int) then ((rowlockref03_digit.f x186001 x13).bind fun t191 => (if x5.length < 17592186044416 then (rowlockref03_apart.l0 k (x5 ++ [Int.tmod (IntKind.u64.wrap ((IntKind.u64.wrap ((IntKind.u64.wrap ((rd x185001 x13) + 65536)) - t191)) - x6)) 65536]) (IntKind.u64.wrap (1 - (IntKind.u64.wrap (Int.tdiv (IntKind.u64.wrap ((IntKind.u64.wrap ((IntKind.u64.wrap ((rd x185001 x13) + 65536)) - t191)) - x6)) 65536)))) x12 (wrap64 (x13 + 1)) x185000 x185001 x186000 x186001) else (none))) else (none)) else (none)) else (some (1, x5))
def rowlockref03_apart.f (k : Nat) (a0_0 : Int) (l0_1 : List Int) (a1_0 : Int) (l1_1 : List Int) : Option (Int × List Int) := rowlockref03_apart.l0 k (([] : List Int)) 0 (l0_1.length : Int) 0 a0_0 l0_1 a1_0 l1_1
theorem rowlockref03_apart.mono_l : ∀ k, (∀ y0 y1 y2 y3 y4 y5 y6 y7, LeO (rowlockref03_apart.l0 k y0 y1 y2 y3 y4 y5 y6 y7) (rowlockref03_apart.l0 (k + 1) y0 y1 y2 y3 y4 y5 y6 y7))
  | 0 => fun _ _ _ _ _ _ _ _ r h => by simp [rowlockref03_apart.l0] at h
  | k + 1 => by
    have ih0 := rowlockref03_apart.mono_l k
    · intro y0 y1 y2 y3 y4 y5 y6 y7
      unfold rowlockref03_apart.l0
      repeat' first
      | (with_reducible exact ih0 _ _ _ _ _ _ _ _)
      | (with_reducible exact LeO.refl _)
      | (with_reducible exact LeO.none _)
      | (with_reducible refine LeO.ite ?_ ?_)
      | (with_reducible refine LeO.bind ?_ (fun _ => ?_))
      | exact ih0 _ _ _ _ _ _ _ _
      | exact LeO.none _
      | refine LeO.ite ?_ ?_
      | refine LeO.bind ?_ (fun _ => ?_)
theorem rowlockref03_apart.mono : ∀ a0 a1 a2 a3 k, LeO (rowlockref03_apart.f k a0 a1 a2 a3) (rowlockref03_apart.f (k + 1) a0 a1 a2 a3) := by
  intro a0 a1 a2 a3 k
  have ih0 := rowlockref03_apart.mono_l k
  unfold rowlockref03_apart.f
  repeat' first
      | (with_reducible exact ih0 _ _ _ _ _ _ _ _)
      | (with_reducible exact LeO.refl _)
      | (with_reducible exact LeO.none _)
      | (with_reducible refine LeO.ite ?_ ?_)
      | (with_reducible refine LeO.bind ?_ (fun _ => ?_))
      | exact ih0 _ _ _ _ _ _ _ _
      | exact LeO.none _
      | refine LeO.ite ?_ ?_
      | refine LeO.bind ?_ (fun _ => ?_)
set_option maxHeartbeats 8000000 in
set_option maxRecDepth 100000 in
theorem rowlockref03_apart.calls (k : Nat) (a0_0 : Int) (A0_1 : Option Addr) (c0_1 : Nat) (l0_1 : List Int) (a1_0 : Int) (A1_1 : Option Addr) (c1_1 : Nat) (l1_1 : List Int) (r1 : Int) (r2 : List Int) (w : World) (hr0_1 : Kd.C (Kd.int .u64) w A0_1 l0_1.length l0_1) (hc0_1 : l0_1.length ≤ c0_1) (hr1_1 : Kd.C (Kd.int .u64) w A1_1 l1_1.length l1_1) (hc1_1 : l1_1.length ≤ c1_1) (h : rowlockref03_apart.f k a0_0 l0_1 a1_0 l1_1 = some (r1, r2)) :
    Calls Try.prog 33 #[.agg #[.int .i64 a0_0, .slice A0_1 l0_1.length c0_1], .agg #[.int .i64 a1_0, .slice A1_1 l1_1.length c1_1]] w fun e w' => ∃ v1_ : Value, e = .returned (.agg #[.int .i64 r1, v1_]) ∧ Kd.R (Kd.int .u64) 27 w' w.heap.size (fun _ => True) v1_ r2 ∧ Below w.heap.size w w' := by
  have hu31 := Try.underlying31
  have HR0_1 := Aside0.mk hr0_1
  have HC0_1 := Aside0.mk hc0_1
  clear hr0_1 hc0_1
  have HR1_1 := Aside0.mk hr1_1
  have HC1_1 := Aside0.mk hc1_1
  clear hr1_1 hc1_1
  have HB := Aside0.mk (Below.refl w.heap.size w)
  have H : (rowlockref03_apart.l0 k (([] : List Int)) 0 (l0_1.length : Int) 0 a0_0 l0_1 a1_0 l1_1) = some (r1, r2) := h
  clear h
  obtain ⟨y187, hy187⟩ : ∃ y_ : List Int, y_ = (([] : List Int)) := ⟨_, rfl⟩
  replace H : (rowlockref03_apart.l0 k y187 0 (l0_1.length : Int) 0 a0_0 l0_1 a1_0 l1_1) = some (r1, r2) := by first | (rw [hy187]; with_reducible exact H) | (have H2_ := (Option.bind_some _ _).symm.trans H; rw [hy187]; with_reducible exact H2_) | (have H2_ := (Option.bind_some _ _).symm.trans H; with_reducible exact H2_) | with_reducible exact H | (rw [hy187]; exact H) | exact H
  have Ny187 := Aside0.mk hy187
  clear hy187
  have H' := Aside0.mk H
  clear H
  go_enter Try.func33, Try.ntmps33
  go_wp2_with (first | ((with_reducible refine gate_dst (N := 2) rfl ?_); refine box_event ?hg (N := 2) ?hd (cs := #[.int .i64 a0_0, .slice A0_1 l0_1.length c0_1]) (t := 31) ?hr ?_; (case hd => rfl); (case hg => rfl); (case hr => first | (go_simp; done) | (go_simp; rfl)); intro gb184 hg w3 hbox hb; have n0_ := Aside0.mk (below_step bl hb); have n1_ := Aside0.mk (hbox); have n2_ := Aside0.mk ((sz hg : w.heap.size ≤ gb184)); have n3_ := Aside0.mk ((sz hg : w.heap.size ≤ gb184)); clear HB; have HB := n0_; have BK184 := n1_; have GW184 := n2_; have GE184 := n3_; clear n0_ n1_ n2_ n3_; clear hb hbox hg) | ((with_reducible refine gate_dst (N := 3) rfl ?_); refine box_event ?hg (N := 3) ?hd (cs := #[.int .i64 a1_0, .slice A1_1 l1_1.length c1_1]) (t := 31) ?hr ?_; (case hd => rfl); (case hg => rfl); (case hr => first | (go_simp; done) | (go_simp; rfl)); intro gb185 hg w4 hbox hb; have n0_ := Aside0.mk (bb (g := gb184) hb); have n1_ := Aside0.mk (below_step bl hb); have n2_ := Aside0.mk (hbox); have n3_ := Aside0.mk ((sz hg : w.heap.size ≤ gb185)); have n4_ := Aside0.mk ((sz hg : w.heap.size ≤ gb185)); have n5_ := Aside0.mk ((nl hg : gb184 ≠ gb185)); have n6_ := Aside0.mk ((ng hg : gb185 ≠ gb184)); clear BK184; clear HB; have BK184 := n0_; have HB := n1_; have BK185 := n2_; have GW185 := n3_; have GE185 := n4_; have NB184_185 := n5_; have NB185_184 := n6_; clear n0_ n1_ n2_ n3_ n4_ n5_ n6_; clear hb hbox hg) | ((with_reducible refine gate_dst (N := 4) rfl ?_); refine box_event ?hg (N := 4) ?hd (cs := #[.int .i64 0, .slice none 0 0]) (t := 31) ?hr ?_; (case hd => rfl); (case hg => rfl); (case hr => first | (go_simp; done) | (go_simp; rfl)); intro gb186 hg w5 hbox hb; have n0_ := Aside0.mk (bb (g := gb184) hb); have n1_ := Aside0.mk (bb (g := gb185) hb); have n2_ := Aside0.mk (below_step bl hb); have n3_ := Aside0.mk (hbox); have n4_ := Aside0.mk ((sz hg : w.heap.size ≤ gb186)); have n5_ := Aside0.mk ((sz hg : w.heap.size ≤ gb186)); have n6_ := Aside0.mk ((nl hg : gb184 ≠ gb186)); have n7_ := Aside0.mk ((ng hg : gb186 ≠ gb184)); have n8_ := Aside0.mk ((nl hg : gb185 ≠ gb186)); have n9_ := Aside0.mk ((ng hg : gb186 ≠ gb185)); clear BK184; clear BK185; clear HB; have BK184 := n0_; have BK185 := n1_; have HB := n2_; have BK186 := n3_; have GW186 := n4_; have GE186 := n5_; have NB184_186 := n6_; have NB186_184 := n7_; have NB185_186 := n8_; have NB186_185 := n9_; clear n0_ n1_ n2_ n3_ n4_ n5_ n6_ n7_ n8_ n9_; clear hb hbox hg) | ((with_reducible refine gate_dst (N := 9) rfl ?_); refine Kd.R_lit (Kd.int .u64) _ 27 ?hg (N := 9) ?hd (xs := ([] : List Int)) (inner := []) (ok := fun _ => True) (okp := fun _ => True) ?hr ?hp (fun _ hk => hk) trivial (Below.refl _ _) (Nat.le_refl _) (by simp) ?_; (case hd => rfl); (case hg => rfl); (case hr => first | (go_simp; done) | (go_simp; rfl)); (case hp => exact (Reps.none _ _)); intro v188 w6 ho7 hb hg_ hnew_; clear hg_ hnew_; (first | rw [← Ny187.out] at ho7 | (simp only [Int.reduceToNat] at ho7; rw [← Ny187.out] at ho7)); have n0_ := Aside0.mk (Kd.R_lower ho7 (below_size bl)); have n1_ := Aside0.mk (bb (g := gb184) hb); have n2_ := Aside0.mk (bb (g := gb185) hb); have n3_ := Aside0.mk (bb (g := gb186) hb); have n4_ := Aside0.mk (below_step bl hb); clear BK184; clear BK185; clear BK186; clear HB; have HO189 := n0_; have BK184 := n1_; have BK185 := n2_; have BK186 := n3_; have HB := n4_; clear n0_ n1_ n2_ n3_ n4_; clear hb ho7; have hnb8 := NB184_185.out; have hnc8 := NB185_184.out; have hnb9 := NB184_186.out; have hnc9 := NB186_184.out; have hcz10_0 : w6.cell? ⟨gb184, 0, none⟩ = some (.int .i64 a0_0) := (blk_cell BK184.out 0).trans rfl; have hcz10_1 : w6.cell? ⟨gb184, 1, none⟩ = some (.slice A0_1 l0_1.length c0_1) := (blk_cell BK184.out 1).trans rfl; have hfz10_0 := blk_frozen BK184.out 0; have hfz10_1 := blk_frozen BK184.out 1) | ((with_reducible refine gate_draws ?_); go_quiet (first | ((with_reducible refine gate_dst (N := 2) rfl ?_); refine box_event ?hg (N := 2) ?hd (cs := #[.int .i64 a0_0, .slice A0_1 l0_1.length c0_1]) (t := 31) ?hr ?_; (case hd => rfl); (case hg => rfl); (case hr => first | (go_simp; done) | (go_simp; rfl)); intro gb184 hg w3 hbox hb; have n0_ := Aside0.mk (below_step bl hb); have n1_ := Aside0.mk (hbox); have n2_ := Aside0.mk ((sz hg : w.heap.size ≤ gb184)); have n3_ := Aside0.mk ((sz hg : w.heap.size ≤ gb184)); clear HB; have HB := n0_; have BK184 := n1_; have GW184 := n2_; have GE184 := n3_; clear n0_ n1_ n2_ n3_; clear hb hbox hg) | ((with_reducible refine gate_dst (N := 3) rfl ?_); refine box_event ?hg (N := 3) ?hd (cs := #[.int .i64 a1_0, .slice A1_1 l1_1.length c1_1]) (t := 31) ?hr ?_; (case hd => rfl); (case hg => rfl); (case hr => first | (go_simp; done) | (go_simp; rfl)); intro gb185 hg w4 hbox hb; have n0_ := Aside0.mk (bb (g := gb184) hb); have n1_ := Aside0.mk (below_step bl hb); have n2_ := Aside0.mk (hbox); have n3_ := Aside0.mk ((sz hg : w.heap.size ≤ gb185)); have n4_ := Aside0.mk ((sz hg : w.heap.size ≤ gb185)); have n5_ := Aside0.mk ((nl hg : gb184 ≠ gb185)); have n6_ := Aside0.mk ((ng hg : gb185 ≠ gb184)); clear BK184; clear HB; have BK184 := n0_; have HB := n1_; have BK185 := n2_; have GW185 := n3_; have GE185 := n4_; have NB184_185 := n5_; have NB185_184 := n6_; clear n0_ n1_ n2_ n3_ n4_ n5_ n6_; clear hb hbox hg) | ((with_reducible refine gate_dst (N := 4) rfl ?_); refine box_event ?hg (N := 4) ?hd (cs := #[.int .i64 0, .slice none 0 0]) (t := 31) ?hr ?_; (case hd => rfl); (case hg => rfl); (case hr => first | (go_simp; done) | (go_simp; rfl)); intro gb186 hg w5 hbox hb; have n0_ := Aside0.mk (bb (g := gb184) hb); have n1_ := Aside0.mk (bb (g := gb185) hb); have n2_ := Aside0.mk (below_step bl hb); have n3_ := Aside0.mk (hbox); have n4_ := Aside0.mk ((sz hg : w.heap.size ≤ gb186)); have n5_ := Aside0.mk ((sz hg : w.heap.size ≤ gb186)); have n6_ := Aside0.mk ((nl hg : gb184 ≠ gb186)); have n7_ := Aside0.mk ((ng hg : gb186 ≠ gb184)); have n8_ := Aside0.mk ((nl hg : gb185 ≠ gb186)); have n9_ := Aside0.mk ((ng hg : gb186 ≠ gb185)); clear BK184; clear BK185; clear HB; have BK184 := n0_; have BK185 := n1_; have HB := n2_; have BK186 := n3_; have GW186 := n4_; have GE186 := n5_; have NB184_186 := n6_; have NB186_184 := n7_; have NB185_186 := n8_; have NB186_185 := n9_; clear n0_ n1_ n2_ n3_ n4_ n5_ n6_ n7_ n8_ n9_; clear hb hbox hg) | ((with_reducible refine gate_dst (N := 9) rfl ?_); refine Kd.R_lit (Kd.int .u64) _ 27 ?hg (N := 9) ?hd (xs := ([] : List Int)) (inner := []) (ok := fun _ => True) (okp := fun _ => True) ?hr ?hp (fun _ hk => hk) trivial (Below.refl _ _) (Nat.le_refl _) (by simp) ?_; (case hd => rfl); (case hg => rfl); (case hr => first | (go_simp; done) | (go_simp; rfl)); (case hp => exact (Reps.none _ _)); intro v188 w6 ho7 hb hg_ hnew_; clear hg_ hnew_; (first | rw [← Ny187.out] at ho7 | (simp only [Int.reduceToNat] at ho7; rw [← Ny187.out] at ho7)); have n0_ := Aside0.mk (Kd.R_lower ho7 (below_size bl)); have n1_ := Aside0.mk (bb (g := gb184) hb); have n2_ := Aside0.mk (bb (g := gb185) hb); have n3_ := Aside0.mk (bb (g := gb186) hb); have n4_ := Aside0.mk (below_step bl hb); clear BK184; clear BK185; clear BK186; clear HB; have HO189 := n0_; have BK184 := n1_; have BK185 := n2_; have BK186 := n3_; have HB := n4_; clear n0_ n1_ n2_ n3_ n4_; clear hb ho7; have hnb8 := NB184_185.out; have hnc8 := NB185_184.out; have hnb9 := NB184_186.out; have hnc9 := NB186_184.out; have hcz10_0 : w6.cell? ⟨gb184, 0, none⟩ = some (.int .i64 a0_0) := (blk_cell BK184.out 0).trans rfl; have hcz10_1 : w6.cell? ⟨gb184, 1, none⟩ = some (.slice A0_1 l0_1.length c0_1) := (blk_cell BK184.out 1).trans rfl; have hfz10_0 := blk_frozen BK184.out 0; have hfz10_1 := blk_frozen BK184.out 1))))
  go_loopg [5, 6, 13] k (fun kq v5 v6 v13 w' => ∃ (x5_1 : List Int) (x6_1 : Int) (x13_1 : Int), v6 = .int .u64 x6_1 ∧ v13 = .int .i64 x13_1 ∧ Aside0 (rowlockref03_apart.l0 kq x5_1 x6_1 (l0_1.length : Int) x13_1 a0_0 l0_1 a1_0 l1_1 = some (r1, r2)) ∧ Aside0 (kq ≤ k) ∧ Aside0 (Kd.R (Kd.int .u64) 27 w' w.heap.size (fun _ => True) v5 x5_1) ∧ Aside0 (w'.heap[gb184]? = some (.cells #[.int .i64 a0_0, (.slice A0_1 l0_1.length c0_1)] 31 (0, 0))) ∧ Aside0 (w'.heap[gb185]? = some (.cells #[.int .i64 a1_0, (.slice A1_1 l1_1.length c1_1)] 31 (0, 0))) ∧ Aside0 (w'.heap[gb186]? = some (.cells #[.int .i64 0, (.slice none 0 0)] 31 (0, 0))) ∧ Aside0 (Below w.heap.size w w'))
  case atStart => exact ⟨(y187), (0), (0), (by first | rfl | (simp; done) | (simp [*]; done)), (by first | rfl | (simp; done) | (simp [*]; done)), H', ⟨Nat.le_refl _⟩, ⟨by (with_reducible repeat (first | apply Kd.R_alloc | apply Kd.R_drewN | apply Kd.R_drew)); exact HO189.out⟩, ⟨pk⟩, ⟨pk⟩, ⟨pk⟩, ⟨bl⟩⟩
  case round =>
    clear H'
    try clear c1
    try clear p2
    try clear c3
    try clear c8
    try clear c9
    try clear hcz10_0
    try clear hcz10_1
    try clear hfz10_0
    try clear hfz10_1
    obtain ⟨x5_1, x6_1, x13_1, rfl, rfl, HA, HK1, HO_5, BK184, BK185, BK186, HB⟩ := hrel
    cases gk with
    | zero => exact absurd HA.out (by simp [rowlockref03_apart.l0])
    | succ k1 =>
      have H := HA.out
      clear HA
      simp only [rowlockref03_apart.l0] at H
      by_cases c11 : x13_1 < (l0_1.length : Int)
      · rw [if_pos c11] at H
        have c11b0 : decide (x13_1 < (l0_1.length : Int)) = true := decide_eq_true c11
        clear c11
        by_cases c12 : 0 ≤ x13_1
        · rw [if_pos c12] at H
          have c12b0 : decide (0 ≤ x13_1) = true := decide_eq_true c12
          clear c12
          by_cases c13 : x13_1 < (l0_1.length : Int)
          · rw [if_pos c13] at H
            have c13b0 : decide (x13_1 < (l0_1.length : Int)) = true := decide_eq_true c13
            clear c13
            replace H := Option.bind_eq_some_iff.mp H
            obtain ⟨t191, A140, H⟩ := H
            replace H : (if x5_1.length < 17592186044416 then (rowlockref03_apart.l0 k1 (x5_1 ++ [Int.tmod (IntKind.u64.wrap ((IntKind.u64.wrap ((IntKind.u64.wrap ((rd l0_1 x13_1) + 65536)) - t191)) - x6_1)) 65536]) (IntKind.u64.wrap (1 - (IntKind.u64.wrap (Int.tdiv (IntKind.u64.wrap ((IntKind.u64.wrap ((IntKind.u64.wrap ((rd l0_1 x13_1) + 65536)) - t191)) - x6_1)) 65536)))) (l0_1.length : Int) (wrap64 (x13_1 + 1)) a0_0 l0_1 a1_0 l1_1) else (none)) = some (r1, r2) := H
            have A14 := Aside0.mk A140
            clear A140
            by_cases c15 : x5_1.length < 17592186044416
            · rw [if_pos c15] at H
              have LMc15 := Aside0.mk c15
              clear c15
              obtain ⟨y192, hy192⟩ : ∃ y_ : List Int, y_ = (x5_1 ++ [Int.tmod (IntKind.u64.wrap ((IntKind.u64.wrap ((IntKind.u64.wrap ((rd l0_1 x13_1) + 65536)) - t191)) - x6_1)) 65536]) := ⟨_, rfl⟩
              replace H : (rowlockref03_apart.l0 k1 y192 (IntKind.u64.wrap (1 - (IntKind.u64.wrap (Int.tdiv (IntKind.u64.wrap ((IntKind.u64.wrap ((IntKind.u64.wrap ((rd l0_1 x13_1) + 65536)) - t191)) - x6_1)) 65536)))) (l0_1.length : Int) (wrap64 (x13_1 + 1)) a0_0 l0_1 a1_0 l1_1) = some (r1, r2) := by first | (rw [hy192]; with_reducible exact H) | (have H2_ := (Option.bind_some _ _).symm.trans H; rw [hy192]; with_reducible exact H2_) | (have H2_ := (Option.bind_some _ _).symm.trans H; with_reducible exact H2_) | with_reducible exact H | (rw [hy192]; exact H) | exact H
              have Ny192 := Aside0.mk hy192
              clear hy192
              have H' := Aside0.mk H
              clear H
              have hnb16 := NB184_185.out
              have hnc16 := NB185_184.out
              have hnb17 := NB184_186.out
              have hnc17 := NB186_184.out
              have hcz18_0 : wr.cell? ⟨gb184, 0, none⟩ = some (.int .i64 a0_0) := (blk_cell BK184.out 0).trans rfl
              have hcz18_1 : wr.cell? ⟨gb184, 1, none⟩ = some (.slice A0_1 l0_1.length c0_1) := (blk_cell BK184.out 1).trans rfl
              have hfz18_0 := blk_frozen BK184.out 0
              have hfz18_1 := blk_frozen BK184.out 1
              have p190 : 0 ≤ (x13_1 : Int) := of_decide_eq_true (by first | (with_reducible assumption) | assumption)
              have q190 : x13_1 < (l0_1.length : Int) := of_decide_eq_true (by first | (with_reducible assumption) | assumption)
              obtain ⟨ad190, e190, hx190_0⟩ := Kd.at_int HR0_1.out x13_1 p190 q190
              cases e190
              replace hx190_0 := (HB.out.cell (World.block_lt_of_cell? w _ hx190_0)).trans hx190_0
              replace p190 := eq_true p190
              replace q190 := eq_true q190
              have hnb19 := NB185_186.out
              have hnc19 := NB186_185.out
              have hcz20_0 : wr.cell? ⟨gb185, 0, none⟩ = some (.int .i64 a1_0) := (blk_cell BK185.out 0).trans rfl
              have hcz20_1 : wr.cell? ⟨gb185, 1, none⟩ = some (.slice A1_1 l1_1.length c1_1) := (blk_cell BK185.out 1).trans rfl
              have hfz20_0 := blk_frozen BK185.out 0
              have hfz20_1 := blk_frozen BK185.out 1
              go_wp2_with (first | (go_at_call 32; (with_reducible refine (rowlockref03_digit.calls _ _ l1_1 x13_1 t191 _ ?side1 ?side2 A14.out).mono ?_); (case side1 => exact cb); (case side2 => exact HC1_1.out); rintro e w' ⟨rfl, ⟨nd, rfl⟩⟩; (try first | exact ⟨rfl, _, World.drewN_drewN _ _ _⟩ | exact ⟨rfl, _, Eq.trans (World.drewN_drewN _ _ _) (congrArg (World.drewN _) (Nat.add_assoc _ _ _))⟩)) | ((with_reducible refine gate_builtin (b := .append) (xs := #[.tmp 29, .tmp 32]) rfl ?_); at_builtin; refine Kd.R_append (Kd.int .u64) (w0 := w) w.heap.size rfl (.tmp 29) (.tmp 32) 29 27 (.int .u64 0) 8 rfl Try.underlying29 info27 rfl (by decide) (by omega) u5 x5_1 (Int.tmod (IntKind.u64.wrap ((IntKind.u64.wrap ((IntKind.u64.wrap ((rd l0_1 x13_1) + 65536)) - t191)) - x6_1)) 65536) [.int .u64 (Int.tmod (IntKind.u64.wrap ((IntKind.u64.wrap ((IntKind.u64.wrap ((rd l0_1 x13_1) + 65536)) - t191)) - x6_1)) 65536)] (fun _ => True) (fun _ => False) rfl rfl ?aP (fun _ hk => hk.elim) ?aF ?aO ?aB ?aS ?aL ?_; (case aP => exact rfl); (case aB => exact bl); (case aF => exact (fun _ _ => trivial)); (case aO => exact (rk HO_5)); (case aS => exact (below_size bl)); (case aL => have := LMc15.out; omega); intro v193 w21 ho hb hg hat; rw [← Ny192.out] at ho; have n0_ := Aside0.mk (blk_grown (g := gb184) (o := .cells #[.int .i64 a0_0, .slice (some ad190) l0_1.length c0_1] 31 (0, 0)) pk hg (Kd.R_ne HO_5.out BK184.out (by decide))); have n1_ := Aside0.mk (blk_grown (g := gb185) (o := .cells #[.int .i64 a1_0, .slice A1_1 l1_1.length c1_1] 31 (0, 0)) pk hg (Kd.R_ne HO_5.out BK185.out (by decide))); have n2_ := Aside0.mk (blk_grown (g := gb186) (o := .cells #[.int .i64 0, .slice none 0 0] 31 (0, 0)) pk hg (Kd.R_ne HO_5.out BK186.out (by decide))); have n3_ := Aside0.mk (hb); have n4_ := Aside0.mk (ho); clear BK184; clear BK185; clear BK186; clear HB; clear HO_5; have BK184 := n0_; have BK185 := n1_; have BK186 := n2_; have HB := n3_; have HO194 := n4_; clear n0_ n1_ n2_ n3_ n4_; clear ho hb hg hat) | ((with_reducible refine gate_draws ?_); go_quiet (first | (go_at_call 32; (with_reducible refine (rowlockref03_digit.calls _ _ l1_1 x13_1 t191 _ ?side1 ?side2 A14.out).mono ?_); (case side1 => exact cb); (case side2 => exact HC1_1.out); rintro e w' ⟨rfl, ⟨nd, rfl⟩⟩; (try first | exact ⟨rfl, _, World.drewN_drewN _ _ _⟩ | exact ⟨rfl, _, Eq.trans (World.drewN_drewN _ _ _) (congrArg (World.drewN _) (Nat.add_assoc _ _ _))⟩)) | ((with_reducible refine gate_builtin (b := .append) (xs := #[.tmp 29, .tmp 32]) rfl ?_); at_builtin; refine Kd.R_append (Kd.int .u64) (w0 := w) w.heap.size rfl (.tmp 29) (.tmp 32) 29 27 (.int .u64 0) 8 rfl Try.underlying29 info27 rfl (by decide) (by omega) u5 x5_1 (Int.tmod (IntKind.u64.wrap ((IntKind.u64.wrap ((IntKind.u64.wrap ((rd l0_1 x13_1) + 65536)) - t191)) - x6_1)) 65536) [.int .u64 (Int.tmod (IntKind.u64.wrap ((IntKind.u64.wrap ((IntKind.u64.wrap ((rd l0_1 x13_1) + 65536)) - t191)) - x6_1)) 65536)] (fun _ => True) (fun _ => False) rfl rfl ?aP (fun _ hk => hk.elim) ?aF ?aO ?aB ?aS ?aL ?_; (case aP => exact rfl); (case aB => exact bl); (case aF => exact (fun _ _ => trivial)); (case aO => exact (rk HO_5)); (case aS => exact (below_size bl)); (case aL => have := LMc15.out; omega); intro v193 w21 ho hb hg hat; rw [← Ny192.out] at ho; have n0_ := Aside0.mk (blk_grown (g := gb184) (o := .cells #[.int .i64 a0_0, .slice (some ad190) l0_1.length c0_1] 31 (0, 0)) pk hg (Kd.R_ne HO_5.out BK184.out (by decide))); have n1_ := Aside0.mk (blk_grown (g := gb185) (o := .cells #[.int .i64 a1_0, .slice A1_1 l1_1.length c1_1] 31 (0, 0)) pk hg (Kd.R_ne HO_5.out BK185.out (by decide))); have n2_ := Aside0.mk (blk_grown (g := gb186) (o := .cells #[.int .i64 0, .slice none 0 0] 31 (0, 0)) pk hg (Kd.R_ne HO_5.out BK186.out (by decide))); have n3_ := Aside0.mk (hb); have n4_ := Aside0.mk (ho); clear BK184; clear BK185; clear BK186; clear HB; clear HO_5; have BK184 := n0_; have BK185 := n1_; have BK186 := n2_; have HB := n3_; have HO194 := n4_; clear n0_ n1_ n2_ n3_ n4_; clear ho hb hg hat))))
              go_roundg k1
              case measure => have := HK1.out; omega
              case rel => exact ⟨(y192), (IntKind.u64.wrap (1 - (IntKind.u64.wrap (Int.tdiv (IntKind.u64.wrap ((IntKind.u64.wrap ((IntKind.u64.wrap ((rd l0_1 x13_1) + 65536)) - t191)) - x6_1)) 65536)))), (wrap64 (x13_1 + 1)), (by first | rfl | (simp; done) | (simp [*]; done)), (by first | rfl | (simp; done) | (simp [*]; done)), H', ⟨by have := HK1.out; omega⟩, ⟨by (with_reducible repeat (first | apply Kd.R_alloc | apply Kd.R_drewN | apply Kd.R_drew)); exact HO194.out⟩, ⟨pk⟩, ⟨pk⟩, ⟨pk⟩, ⟨bl⟩⟩
            · rw [if_neg c15] at H
              exact absurd H (by simp)
          · rw [if_neg c13] at H
            exact absurd H (by simp)
        · rw [if_neg c12] at H
          exact absurd H (by simp)
      · rw [if_neg c11] at H
        have c11b0 : decide (x13_1 < (l0_1.length : Int)) = false := decide_eq_false c11
        clear c11
        simp only [Option.some.injEq, Prod.mk.injEq] at H
        obtain ⟨rfl, rfl⟩ := H
        obtain ⟨Ao22, co22, eo22⟩ := Kd.R_slice HO_5.out
        subst eo22
        have hnb23 := NB186_184.out
        have hnc23 := NB184_186.out
        have hnb24 := NB186_185.out
        have hnc24 := NB185_186.out
        have hcz25_0 : wr.cell? ⟨gb186, 0, none⟩ = some (.int .i64 0) := (blk_cell BK186.out 0).trans rfl
        have hcz25_1 : wr.cell? ⟨gb186, 1, none⟩ = some (.slice none 0 0) := (blk_cell BK186.out 1).trans rfl
        have hfz25_0 := blk_frozen BK186.out 0
        have hfz25_1 := blk_frozen BK186.out 1
        go_wp2_with (((with_reducible refine gate_draws ?_); go_quiet (fail)))
        refine bodyPost_ret (results_cell_row rfl _ _ gb186 31 #[.int .i64 1, .slice Ao22 x5_1.length co22] (0, 0) _ rfl (by (with_reducible repeat (first | refine blk_drewN ?_ _ | refine blk_drew ?_ | refine blk_alloc ?_ _)); refine blk_put (cs := #[.int .i64 1, .slice none 0 0]) ?_ 1 _ rfl; (with_reducible repeat (first | refine blk_drewN ?_ _ | refine blk_drew ?_ | refine blk_alloc ?_ _)); refine blk_put (cs := #[.int .i64 0, .slice none 0 0]) ?_ 0 _ rfl; (with_reducible repeat (first | refine blk_drewN ?_ _ | refine blk_drew ?_ | refine blk_alloc ?_ _)); exact BK186.out) Try.underlying31 rfl (by kernel_rfl)) rfl ?_
        exact ⟨_, by first | rfl | (simp [errW_none, errW_some] <;> rfl) | (simp [*, errW_none, errW_some] <;> rfl), by (with_reducible repeat (first | apply Kd.R_alloc | apply Kd.R_drewN | apply Kd.R_drew)); exact Kd.R_mono (Kd.R_far (p := ⟨gb186, 1, none⟩) (Kd.R_far (p := ⟨gb186, 0, none⟩) (Kd.R_types HO_5.out BK186.out (by decide)) (fun _ hk => hk.2) (.int .i64 1)) (fun _ hk => hk.2) (.slice Ao22 x5_1.length co22)) (fun _ hk => trivial), bl⟩

/-! ### rowlockref03_Plus: function 15 -/
def rowlockref03_Plus.f (k : Nat) (a0_0 : Int) (l0_1 : List Int) (a1_0 : Int) (l1_1 : List Int) : Option (Int × List Int) := if a0_0 = a1_0 then ((rowlockref03_size.f k a0_0 l0_1 a1_0 l1_1).bind fun bt198 => (some (a0_0, bt198.2))) else ((rowlockref03_Less.f k a0_0 l0_1 a1_0 l1_1).bind fun t203 => (if t203 = true then ((rowlockref03_apart.f k a1_0 l1_1 a0_0 l0_1).bind fun bt204 => (some (a1_0, bt204.2))) else ((rowlockref03_apart.f k a0_0 l0_1 a1_0 l1_1).bind fun bt209 => (some (a0_0, bt209.2)))))
theorem rowlockref03_Plus.mono : ∀ a0 a1 a2 a3 k, LeO (rowlockref03_Plus.f k a0 a1 a2 a3) (rowlockref03_Plus.f (k + 1) a0 a1 a2 a3) := by
  intro a0 a1 a2 a3 k
  unfold rowlockref03_Plus.f
  repeat' first
      | (with_reducible exact rowlockref03_Less.mono _ _ _ _ _)
      | (with_reducible exact rowlockref03_apart.mono _ _ _ _ _)
      | (with_reducible exact rowlockref03_size.mono _ _ _ _ _)
      | (with_reducible exact LeO.refl _)
      | (with_reducible exact LeO.none _)
      | (with_reducible refine LeO.ite ?_ ?_)
      | (with_reducible refine LeO.bind ?_ (fun _ => ?_))
      | exact rowlockref03_Less.mono _ _ _ _ _
      | exact rowlockref03_apart.mono _ _ _ _ _
      | exact rowlockref03_size.mono _ _ _ _ _
      | exact LeO.none _
      | refine LeO.ite ?_ ?_
      | refine LeO.bind ?_ (fun _ => ?_)
set_option maxHeartbeats 8000000 in
set_option maxRecDepth 100000 in
theorem rowlockref03_Plus.calls (k : Nat) (a0_0 : Int) (A0_1 : Option Addr) (c0_1 : Nat) (l0_1 : List Int) (a1_0 : Int) (A1_1 : Option Addr) (c1_1 : Nat) (l1_1 : List Int) (r1 : Int) (r2 : List Int) (w : World) (hr0_1 : Kd.C (Kd.int .u64) w A0_1 l0_1.length l0_1) (hc0_1 : l0_1.length ≤ c0_1) (hr1_1 : Kd.C (Kd.int .u64) w A1_1 l1_1.length l1_1) (hc1_1 : l1_1.length ≤ c1_1) (h : rowlockref03_Plus.f k a0_0 l0_1 a1_0 l1_1 = some (r1, r2)) :
    Calls Try.prog 15 #[.agg #[.int .i64 a0_0, .slice A0_1 l0_1.length c0_1], .agg #[.int .i64 a1_0, .slice A1_1 l1_1.length c1_1]] w fun e w' => ∃ v1_ : Value, e = .returned (.agg #[.int .i64 r1, v1_]) ∧ Kd.R (Kd.int .u64) 27 w' w.heap.size (fun _ => True) v1_ r2 ∧ Below w.heap.size w w' := by
  have hu31 := Try.underlying31
  have HR0_1 := Aside0.mk hr0_1
  have HC0_1 := Aside0.mk hc0_1
  clear hr0_1 hc0_1
  have HR1_1 := Aside0.mk hr1_1
  have HC1_1 := Aside0.mk hc1_1
  clear hr1_1 hc1_1
  have HB := Aside0.mk (Below.refl w.heap.size w)
  have H : (if a0_0 = a1_0 then ((rowlockref03_size.f k a0_0 l0_1 a1_0 l1_1).bind fun bt198 => (some (a0_0, bt198.2))) else ((rowlockref03_Less.f k a0_0 l0_1 a1_0 l1_1).bind fun t203 => (if t203 = true then ((rowlockref03_apart.f k a1_0 l1_1 a0_0 l0_1).bind fun bt204 => (some (a1_0, bt204.2))) else ((rowlockref03_apart.f k a0_0 l0_1 a1_0 l1_1).bind fun bt209 => (some (a0_0, bt209.2)))))) = some (r1, r2) := h
  clear h
  by_cases c3 : a0_0 = a1_0
  · rw [if_pos c3] at H
    have c3b0 : (a0_0 == a1_0) = true := beq_iff_eq.mpr c3
    have c3b1 : (a0_0 != a1_0) = false := bne_eq_false_iff_eq.mpr c3
    clear c3
    replace H := Option.bind_eq_some_iff.mp H
    obtain ⟨⟨t198, t199⟩, A40, H⟩ := H
    replace H : (some (a0_0, t199)) = some (r1, r2) := H
    have A4 := Aside0.mk A40
    clear A40
    simp only [Option.some.injEq, Prod.mk.injEq] at H
    obtain ⟨rfl, rfl⟩ := H
    go_enter Try.func15, Try.ntmps15
    go_wp2_with (first | ((with_reducible refine gate_dst (N := 2) rfl ?_); refine box_event ?hg (N := 2) ?hd (cs := #[.int .i64 a0_0, .slice A0_1 l0_1.length c0_1]) (t := 31) ?hr ?_; (case hd => rfl); (case hg => rfl); (case hr => first | (go_simp; done) | (go_simp; rfl)); intro gb195 hg w5 hbox hb; have n0_ := Aside0.mk (below_step bl hb); have n1_ := Aside0.mk (hbox); have n2_ := Aside0.mk ((sz hg : w.heap.size ≤ gb195)); have n3_ := Aside0.mk ((sz hg : w.heap.size ≤ gb195)); clear HB; have HB := n0_; have BK195 := n1_; have GW195 := n2_; have GE195 := n3_; clear n0_ n1_ n2_ n3_; clear hb hbox hg) | ((with_reducible refine gate_dst (N := 3) rfl ?_); refine box_event ?hg (N := 3) ?hd (cs := #[.int .i64 a1_0, .slice A1_1 l1_1.length c1_1]) (t := 31) ?hr ?_; (case hd => rfl); (case hg => rfl); (case hr => first | (go_simp; done) | (go_simp; rfl)); intro gb196 hg w6 hbox hb; have n0_ := Aside0.mk (bb (g := gb195) hb); have n1_ := Aside0.mk (below_step bl hb); have n2_ := Aside0.mk (hbox); have n3_ := Aside0.mk ((sz hg : w.heap.size ≤ gb196)); have n4_ := Aside0.mk ((sz hg : w.heap.size ≤ gb196)); have n5_ := Aside0.mk ((nl hg : gb195 ≠ gb196)); have n6_ := Aside0.mk ((ng hg : gb196 ≠ gb195)); clear BK195; clear HB; have BK195 := n0_; have HB := n1_; have BK196 := n2_; have GW196 := n3_; have GE196 := n4_; have NB195_196 := n5_; have NB196_195 := n6_; clear n0_ n1_ n2_ n3_ n4_ n5_ n6_; clear hb hbox hg) | ((with_reducible refine gate_dst (N := 4) rfl ?_); refine box_event ?hg (N := 4) ?hd (cs := #[.int .i64 0, .slice none 0 0]) (t := 31) ?hr ?_; (case hd => rfl); (case hg => rfl); (case hr => first | (go_simp; done) | (go_simp; rfl)); intro gb197 hg w7 hbox hb; have n0_ := Aside0.mk (bb (g := gb195) hb); have n1_ := Aside0.mk (bb (g := gb196) hb); have n2_ := Aside0.mk (below_step bl hb); have n3_ := Aside0.mk (hbox); have n4_ := Aside0.mk ((sz hg : w.heap.size ≤ gb197)); have n5_ := Aside0.mk ((sz hg : w.heap.size ≤ gb197)); have n6_ := Aside0.mk ((nl hg : gb195 ≠ gb197)); have n7_ := Aside0.mk ((ng hg : gb197 ≠ gb195)); have n8_ := Aside0.mk ((nl hg : gb196 ≠ gb197)); have n9_ := Aside0.mk ((ng hg : gb197 ≠ gb196)); clear BK195; clear BK196; clear HB; have BK195 := n0_; have BK196 := n1_; have HB := n2_; have BK197 := n3_; have GW197 := n4_; have GE197 := n5_; have NB195_197 := n6_; have NB197_195 := n7_; have NB196_197 := n8_; have NB197_196 := n9_; clear n0_ n1_ n2_ n3_ n4_ n5_ n6_ n7_ n8_ n9_; clear hb hbox hg; have hnb8 := NB195_196.out; have hnc8 := NB196_195.out; have hnb9 := NB195_197.out; have hnc9 := NB197_195.out; have hcz10_0 : w7.cell? ⟨gb195, 0, none⟩ = some (.int .i64 a0_0) := (blk_cell BK195.out 0).trans rfl; have hcz10_1 : w7.cell? ⟨gb195, 1, none⟩ = some (.slice A0_1 l0_1.length c0_1) := (blk_cell BK195.out 1).trans rfl; have hfz10_0 := blk_frozen BK195.out 0; have hfz10_1 := blk_frozen BK195.out 1; have hnb11 := NB196_197.out; have hnc11 := NB197_196.out; have hcz12_0 : w7.cell? ⟨gb196, 0, none⟩ = some (.int .i64 a1_0) := (blk_cell BK196.out 0).trans rfl; have hcz12_1 : w7.cell? ⟨gb196, 1, none⟩ = some (.slice A1_1 l1_1.length c1_1) := (blk_cell BK196.out 1).trans rfl; have hfz12_0 := blk_frozen BK196.out 0; have hfz12_1 := blk_frozen BK196.out 1) | ((with_reducible refine gate_callee (f := 31) rfl ?_); refine goesL_ (some 15) rfl rfl Try.func31 (by kernel_rfl) rfl #[.agg #[.int .i64 a0_0, .slice A0_1 l0_1.length c0_1], .agg #[.int .i64 a1_0, .slice A1_1 l1_1.length c1_1]] rfl am ?_; (with_reducible refine (rowlockref03_size.calls k a0_0 _ _ l0_1 a1_0 _ _ l1_1 t198 t199 _ ?side1 ?side2 ?side3 ?side4 A4.out).mono ?_); (case side1 => exact cb); (case side2 => exact HC0_1.out); (case side3 => exact cb); (case side4 => exact HC1_1.out); rintro e w13 ⟨v200, rfl, ho0, hb⟩; refine ⟨_, rfl, ?_⟩; have n0_ := Aside0.mk (Kd.R_lower ho0 (below_size bl)); have n1_ := Aside0.mk (bb (g := gb195) hb); have n2_ := Aside0.mk (bb (g := gb196) hb); have n3_ := Aside0.mk (bb (g := gb197) hb); have n4_ := Aside0.mk (below_step bl hb); clear BK195; clear BK196; clear BK197; clear HB; have HO201 := n0_; have BK195 := n1_; have BK196 := n2_; have BK197 := n3_; have HB := n4_; clear n0_ n1_ n2_ n3_ n4_; (try clear hb); (try clear hb2); (try clear hk); (try clear hi); (try clear ho0)) | ((with_reducible refine gate_dst (N := 5) rfl ?_); refine box_event ?hg (N := 5) ?hd (cs := #[.int .i64 0, .slice none 0 0]) (t := 31) ?hr ?_; (case hd => rfl); (case hg => rfl); (case hr => first | (go_simp; done) | (go_simp; rfl)); intro gb202 hg w14 hbox hb; have n0_ := Aside0.mk (Kd.R_below (rk HO201) hb); have n1_ := Aside0.mk (bb (g := gb195) hb); have n2_ := Aside0.mk (bb (g := gb196) hb); have n3_ := Aside0.mk (bb (g := gb197) hb); have n4_ := Aside0.mk (below_step bl hb); have n5_ := Aside0.mk (hbox); have n6_ := Aside0.mk ((sz hg : w.heap.size ≤ gb202)); have n7_ := Aside0.mk ((sz hg : w.heap.size ≤ gb202)); have n8_ := Aside0.mk ((nl hg : gb195 ≠ gb202)); have n9_ := Aside0.mk ((ng hg : gb202 ≠ gb195)); have n10_ := Aside0.mk ((nl hg : gb196 ≠ gb202)); have n11_ := Aside0.mk ((ng hg : gb202 ≠ gb196)); have n12_ := Aside0.mk ((nl hg : gb197 ≠ gb202)); have n13_ := Aside0.mk ((ng hg : gb202 ≠ gb197)); clear HO201; clear BK195; clear BK196; clear BK197; clear HB; have HO201 := n0_; have BK195 := n1_; have BK196 := n2_; have BK197 := n3_; have HB := n4_; have BK202 := n5_; have GW202 := n6_; have GE202 := n7_; have NB195_202 := n8_; have NB202_195 := n9_; have NB196_202 := n10_; have NB202_196 := n11_; have NB197_202 := n12_; have NB202_197 := n13_; clear n0_ n1_ n2_ n3_ n4_ n5_ n6_ n7_ n8_ n9_ n10_ n11_ n12_ n13_; clear hb hbox hg; have hnb15 := NB202_195.out; have hnc15 := NB195_202.out; have hnb16 := NB202_196.out; have hnc16 := NB196_202.out; have hnb17 := NB202_197.out; have hnc17 := NB197_202.out; have hcz18_0 : w14.cell? ⟨gb202, 0, none⟩ = some (.int .i64 0) := (blk_cell BK202.out 0).trans rfl; have hcz18_1 : w14.cell? ⟨gb202, 1, none⟩ = some (.slice none 0 0) := (blk_cell BK202.out 1).trans rfl; have hfz18_0 := blk_frozen BK202.out 0; have hfz18_1 := blk_frozen BK202.out 1; obtain ⟨Ao19, co19, eo19⟩ := Kd.R_slice HO201.out; subst eo19; have hcz20_0 : w14.cell? ⟨gb195, 0, none⟩ = some (.int .i64 a0_0) := (blk_cell BK195.out 0).trans rfl; have hcz20_1 : w14.cell? ⟨gb195, 1, none⟩ = some (.slice A0_1 l0_1.length c0_1) := (blk_cell BK195.out 1).trans rfl; have hfz20_0 := blk_frozen BK195.out 0; have hfz20_1 := blk_frozen BK195.out 1; have hcz21_0 : w14.cell? ⟨gb197, 0, none⟩ = some (.int .i64 0) := (blk_cell BK197.out 0).trans rfl; have hcz21_1 : w14.cell? ⟨gb197, 1, none⟩ = some (.slice none 0 0) := (blk_cell BK197.out 1).trans rfl; have hfz21_0 := blk_frozen BK197.out 0; have hfz21_1 := blk_frozen BK197.out 1))
    refine bodyPost_ret (results_cell_row rfl _ _ gb197 31 #[.int .i64 a0_0, .slice Ao19 t199.length co19] (0, 0) _ rfl (by (with_reducible repeat (first | refine blk_drewN ?_ _ | refine blk_drew ?_ | refine blk_alloc ?_ _)); refine blk_put (cs := #[.int .i64 a0_0, .slice none 0 0]) ?_ 1 _ rfl; (with_reducible repeat (first | refine blk_drewN ?_ _ | refine blk_drew ?_ | refine blk_alloc ?_ _)); refine blk_put (cs := #[.int .i64 0, .slice none 0 0]) ?_ 0 _ rfl; (with_reducible repeat (first | refine blk_drewN ?_ _ | refine blk_drew ?_ | refine blk_alloc ?_ _)); refine blk_far ?_ NB197_202.out _; (with_reducible repeat (first | refine blk_drewN ?_ _ | refine blk_drew ?_ | refine blk_alloc ?_ _)); refine blk_far ?_ NB197_202.out _; (with_reducible repeat (first | refine blk_drewN ?_ _ | refine blk_drew ?_ | refine blk_alloc ?_ _)); refine blk_far ?_ NB197_202.out _; (with_reducible repeat (first | refine blk_drewN ?_ _ | refine blk_drew ?_ | refine blk_alloc ?_ _)); exact BK197.out) Try.underlying31 rfl (by kernel_rfl)) rfl ?_
    exact ⟨_, by first | rfl | (simp [errW_none, errW_some] <;> rfl) | (simp [*, errW_none, errW_some] <;> rfl), by (with_reducible repeat (first | apply Kd.R_alloc | apply Kd.R_drewN | apply Kd.R_drew)); exact Kd.R_mono (Kd.R_far (p := ⟨gb197, 1, none⟩) (Kd.R_far (p := ⟨gb197, 0, none⟩) (Kd.R_far (p := ⟨gb202, 0, none⟩) (Kd.R_far (p := ⟨gb202, 1, none⟩) (Kd.R_far (p := ⟨gb202, 0, none⟩) (Kd.R_types (Kd.R_types HO201.out BK202.out (by decide)) BK197.out (by decide)) (fun _ hk => hk.1.2) (.int .i64 t198)) (fun _ hk => hk.1.2) (.slice Ao19 t199.length co19)) (fun _ hk => hk.1.2) (.int .i64 a0_0)) (fun _ hk => hk.2) (.int .i64 a0_0)) (fun _ hk => hk.2) (.slice Ao19 t199.length co19)) (fun _ hk => trivial), bl⟩
  · rw [if_neg c3] at H
    have c3b0 : (a0_0 == a1_0) = false := beq_eq_false_iff_ne.mpr c3
    have c3b1 : (a0_0 != a1_0) = true := bne_iff_ne.mpr c3
    replace H := Option.bind_eq_some_iff.mp H
    obtain ⟨t203, A220, H⟩ := H
    replace H : (if t203 = true then ((rowlockref03_apart.f k a1_0 l1_1 a0_0 l0_1).bind fun bt204 => (some (a1_0, bt204.2))) else ((rowlockref03_apart.f k a0_0 l0_1 a1_0 l1_1).bind fun bt209 => (some (a0_0, bt209.2)))) = some (r1, r2) := H
    have A22 := Aside0.mk A220
    clear A220
    by_cases c23 : t203 = true
    · subst c23
      have H1 : ((rowlockref03_apart.f k a1_0 l1_1 a0_0 l0_1).bind fun bt204 => (some (a1_0, bt204.2))) = some (r1, r2) := by rw [if_pos rfl] at H; exact H
      clear H
      have H := H1
      clear H1
      replace H := Option.bind_eq_some_iff.mp H
      obtain ⟨⟨t204, t205⟩, A240, H⟩ := H
      replace H : (some (a1_0, t205)) = some (r1, r2) := H
      have A24 := Aside0.mk A240
      clear A240
      simp only [Option.some.injEq, Prod.mk.injEq] at H
      obtain ⟨rfl, rfl⟩ := H
      go_enter Try.func15, Try.ntmps15
      go_wp2_with (first | ((with_reducible refine gate_dst (N := 2) rfl ?_); refine box_event ?hg (N := 2) ?hd (cs := #[.int .i64 a0_0, .slice A0_1 l0_1.length c0_1]) (t := 31) ?hr ?_; (case hd => rfl); (case hg => rfl); (case hr => first | (go_simp; done) | (go_simp; rfl)); intro gb195 hg w25 hbox hb; have n0_ := Aside0.mk (below_step bl hb); have n1_ := Aside0.mk (hbox); have n2_ := Aside0.mk ((sz hg : w.heap.size ≤ gb195)); have n3_ := Aside0.mk ((sz hg : w.heap.size ≤ gb195)); clear HB; have HB := n0_; have BK195 := n1_; have GW195 := n2_; have GE195 := n3_; clear n0_ n1_ n2_ n3_; clear hb hbox hg) | ((with_reducible refine gate_dst (N := 3) rfl ?_); refine box_event ?hg (N := 3) ?hd (cs := #[.int .i64 a1_0, .slice A1_1 l1_1.length c1_1]) (t := 31) ?hr ?_; (case hd => rfl); (case hg => rfl); (case hr => first | (go_simp; done) | (go_simp; rfl)); intro gb196 hg w26 hbox hb; have n0_ := Aside0.mk (bb (g := gb195) hb); have n1_ := Aside0.mk (below_step bl hb); have n2_ := Aside0.mk (hbox); have n3_ := Aside0.mk ((sz hg : w.heap.size ≤ gb196)); have n4_ := Aside0.mk ((sz hg : w.heap.size ≤ gb196)); have n5_ := Aside0.mk ((nl hg : gb195 ≠ gb196)); have n6_ := Aside0.mk ((ng hg : gb196 ≠ gb195)); clear BK195; clear HB; have BK195 := n0_; have HB := n1_; have BK196 := n2_; have GW196 := n3_; have GE196 := n4_; have NB195_196 := n5_; have NB196_195 := n6_; clear n0_ n1_ n2_ n3_ n4_ n5_ n6_; clear hb hbox hg) | ((with_reducible refine gate_dst (N := 4) rfl ?_); refine box_event ?hg (N := 4) ?hd (cs := #[.int .i64 0, .slice none 0 0]) (t := 31) ?hr ?_; (case hd => rfl); (case hg => rfl); (case hr => first | (go_simp; done) | (go_simp; rfl)); intro gb197 hg w27 hbox hb; have n0_ := Aside0.mk (bb (g := gb195) hb); have n1_ := Aside0.mk (bb (g := gb196) hb); have n2_ := Aside0.mk (below_step bl hb); have n3_ := Aside0.mk (hbox); have n4_ := Aside0.mk ((sz hg : w.heap.size ≤ gb197)); have n5_ := Aside0.mk ((sz hg : w.heap.size ≤ gb197)); have n6_ := Aside0.mk ((nl hg : gb195 ≠ gb197)); have n7_ := Aside0.mk ((ng hg : gb197 ≠ gb195)); have n8_ := Aside0.mk ((nl hg : gb196 ≠ gb197)); have n9_ := Aside0.mk ((ng hg : gb197 ≠ gb196)); clear BK195; clear BK196; clear HB; have BK195 := n0_; have BK196 := n1_; have HB := n2_; have BK197 := n3_; have GW197 := n4_; have GE197 := n5_; have NB195_197 := n6_; have NB197_195 := n7_; have NB196_197 := n8_; have NB197_196 := n9_; clear n0_ n1_ n2_ n3_ n4_ n5_ n6_ n7_ n8_ n9_; clear hb hbox hg; have hnb28 := NB195_196.out; have hnc28 := NB196_195.out; have hnb29 := NB195_197.out; have hnc29 := NB197_195.out; have hcz30_0 : w27.cell? ⟨gb195, 0, none⟩ = some (.int .i64 a0_0) := (blk_cell BK195.out 0).trans rfl; have hcz30_1 : w27.cell? ⟨gb195, 1, none⟩ = some (.slice A0_1 l0_1.length c0_1) := (blk_cell BK195.out 1).trans rfl; have hfz30_0 := blk_frozen BK195.out 0; have hfz30_1 := blk_frozen BK195.out 1; have hnb31 := NB196_197.out; have hnc31 := NB197_196.out; have hcz32_0 : w27.cell? ⟨gb196, 0, none⟩ = some (.int .i64 a1_0) := (blk_cell BK196.out 0).trans rfl; have hcz32_1 : w27.cell? ⟨gb196, 1, none⟩ = some (.slice A1_1 l1_1.length c1_1) := (blk_cell BK196.out 1).trans rfl; have hfz32_0 := blk_frozen BK196.out 0; have hfz32_1 := blk_frozen BK196.out 1) | ((with_reducible refine gate_callee (f := 14) rfl ?_); refine goesL_ (some 22) rfl rfl Try.func14 (by kernel_rfl) rfl #[.agg #[.int .i64 a0_0, .slice A0_1 l0_1.length c0_1], .agg #[.int .i64 a1_0, .slice A1_1 l1_1.length c1_1]] rfl am ?_; (with_reducible refine (rowlockref03_Less.calls k a0_0 _ _ l0_1 a1_0 _ _ l1_1 true _ ?side1 ?side2 ?side3 ?side4 A22.out).mono ?_); (case side1 => exact cb); (case side2 => exact HC0_1.out); (case side3 => exact cb); (case side4 => exact HC1_1.out); rintro e w33 ⟨rfl, hb⟩; refine ⟨_, rfl, ?_⟩; have n0_ := Aside0.mk (bb (g := gb195) hb); have n1_ := Aside0.mk (bb (g := gb196) hb); have n2_ := Aside0.mk (bb (g := gb197) hb); have n3_ := Aside0.mk (below_step bl hb); clear BK195; clear BK196; clear BK197; clear HB; have BK195 := n0_; have BK196 := n1_; have BK197 := n2_; have HB := n3_; clear n0_ n1_ n2_ n3_; (try clear hb); (try clear hb2); (try clear hk); (try clear hi); have hcz34_0 : w33.cell? ⟨gb196, 0, none⟩ = some (.int .i64 a1_0) := (blk_cell BK196.out 0).trans rfl; have hcz34_1 : w33.cell? ⟨gb196, 1, none⟩ = some (.slice A1_1 l1_1.length c1_1) := (blk_cell BK196.out 1).trans rfl; have hfz34_0 := blk_frozen BK196.out 0; have hfz34_1 := blk_frozen BK196.out 1; have hcz35_0 : w33.cell? ⟨gb195, 0, none⟩ = some (.int .i64 a0_0) := (blk_cell BK195.out 0).trans rfl; have hcz35_1 : w33.cell? ⟨gb195, 1, none⟩ = some (.slice A0_1 l0_1.length c0_1) := (blk_cell BK195.out 1).trans rfl; have hfz35_0 := blk_frozen BK195.out 0; have hfz35_1 := blk_frozen BK195.out 1) | ((with_reducible refine gate_callee (f := 33) rfl ?_); refine goesL_ (some 25) rfl rfl Try.func33 (by kernel_rfl) rfl #[.agg #[.int .i64 a1_0, .slice A1_1 l1_1.length c1_1], .agg #[.int .i64 a0_0, .slice A0_1 l0_1.length c0_1]] rfl am ?_; (with_reducible refine (rowlockref03_apart.calls k a1_0 _ _ l1_1 a0_0 _ _ l0_1 t204 t205 _ ?side1 ?side2 ?side3 ?side4 A24.out).mono ?_); (case side1 => exact cb); (case side2 => exact HC1_1.out); (case side3 => exact cb); (case side4 => exact HC0_1.out); rintro e w36 ⟨v206, rfl, ho0, hb⟩; refine ⟨_, rfl, ?_⟩; have n0_ := Aside0.mk (Kd.R_lower ho0 (below_size bl)); have n1_ := Aside0.mk (bb (g := gb195) hb); have n2_ := Aside0.mk (bb (g := gb196) hb); have n3_ := Aside0.mk (bb (g := gb197) hb); have n4_ := Aside0.mk (below_step bl hb); clear BK195; clear BK196; clear BK197; clear HB; have HO207 := n0_; have BK195 := n1_; have BK196 := n2_; have BK197 := n3_; have HB := n4_; clear n0_ n1_ n2_ n3_ n4_; (try clear hb); (try clear hb2); (try clear hk); (try clear hi); (try clear ho0)) | ((with_reducible refine gate_dst (N := 6) rfl ?_); refine box_event ?hg (N := 6) ?hd (cs := #[.int .i64 0, .slice none 0 0]) (t := 31) ?hr ?_; (case hd => rfl); (case hg => rfl); (case hr => first | (go_simp; done) | (go_simp; rfl)); intro gb208 hg w37 hbox hb; have n0_ := Aside0.mk (Kd.R_below (rk HO207) hb); have n1_ := Aside0.mk (bb (g := gb195) hb); have n2_ := Aside0.mk (bb (g := gb196) hb); have n3_ := Aside0.mk (bb (g := gb197) hb); have n4_ := Aside0.mk (below_step bl hb); have n5_ := Aside0.mk (hbox); have n6_ := Aside0.mk ((sz hg : w.heap.size ≤ gb208)); have n7_ := Aside0.mk ((sz hg : w.heap.size ≤ gb208)); have n8_ := Aside0.mk ((nl hg : gb195 ≠ gb208)); have n9_ := Aside0.mk ((ng hg : gb208 ≠ gb195)); have n10_ := Aside0.mk ((nl hg : gb196 ≠ gb208)); have n11_ := Aside0.mk ((ng hg : gb208 ≠ gb196)); have n12_ := Aside0.mk ((nl hg : gb197 ≠ gb208)); have n13_ := Aside0.mk ((ng hg : gb208 ≠ gb197)); clear HO207; clear BK195; clear BK196; clear BK197; clear HB; have HO207 := n0_; have BK195 := n1_; have BK196 := n2_; have BK197 := n3_; have HB := n4_; have BK208 := n5_; have GW208 := n6_; have GE208 := n7_; have NB195_208 := n8_; have NB208_195 := n9_; have NB196_208 := n10_; have NB208_196 := n11_; have NB197_208 := n12_; have NB208_197 := n13_; clear n0_ n1_ n2_ n3_ n4_ n5_ n6_ n7_ n8_ n9_ n10_ n11_ n12_ n13_; clear hb hbox hg; have hnb38 := NB208_195.out; have hnc38 := NB195_208.out; have hnb39 := NB208_196.out; have hnc39 := NB196_208.out; have hnb40 := NB208_197.out; have hnc40 := NB197_208.out; have hcz41_0 : w37.cell? ⟨gb208, 0, none⟩ = some (.int .i64 0) := (blk_cell BK208.out 0).trans rfl; have hcz41_1 : w37.cell? ⟨gb208, 1, none⟩ = some (.slice none 0 0) := (blk_cell BK208.out 1).trans rfl; have hfz41_0 := blk_frozen BK208.out 0; have hfz41_1 := blk_frozen BK208.out 1; obtain ⟨Ao42, co42, eo42⟩ := Kd.R_slice HO207.out; subst eo42; have hcz43_0 : w37.cell? ⟨gb196, 0, none⟩ = some (.int .i64 a1_0) := (blk_cell BK196.out 0).trans rfl; have hcz43_1 : w37.cell? ⟨gb196, 1, none⟩ = some (.slice A1_1 l1_1.length c1_1) := (blk_cell BK196.out 1).trans rfl; have hfz43_0 := blk_frozen BK196.out 0; have hfz43_1 := blk_frozen BK196.out 1; have hcz44_0 : w37.cell? ⟨gb197, 0, none⟩ = some (.int .i64 0) := (blk_cell BK197.out 0).trans rfl; have hcz44_1 : w37.cell? ⟨gb197, 1, none⟩ = some (.slice none 0 0) := (blk_cell BK197.out 1).trans rfl; have hfz44_0 := blk_frozen BK197.out 0; have hfz44_1 := blk_frozen BK197.out 1))
      refine bodyPost_ret (results_cell_row rfl _ _ gb197 31 #[.int .i64 a1_0, .slice Ao42 t205.length co42] (0, 0) _ rfl (by (with_reducible repeat (first | refine blk_drewN ?_ _ | refine blk_drew ?_ | refine blk_alloc ?_ _)); refine blk_put (cs := #[.int .i64 a1_0, .slice none 0 0]) ?_ 1 _ rfl; (with_reducible repeat (first | refine blk_drewN ?_ _ | refine blk_drew ?_ | refine blk_alloc ?_ _)); refine blk_put (cs := #[.int .i64 0, .slice none 0 0]) ?_ 0 _ rfl; (with_reducible repeat (first | refine blk_drewN ?_ _ | refine blk_drew ?_ | refine blk_alloc ?_ _)); refine blk_far ?_ NB197_208.out _; (with_reducible repeat (first | refine blk_drewN ?_ _ | refine blk_drew ?_ | refine blk_alloc ?_ _)); refine blk_far ?_ NB197_208.out _; (with_reducible repeat (first | refine blk_drewN ?_ _ | refine blk_drew ?_ | refine blk_alloc ?_ _)); refine blk_far ?_ NB197_208.out _; (with_reducible repeat (first | refine blk_drewN ?_ _ | refine blk_drew ?_ | refine blk_alloc ?_ _)); exact BK197.out) Try.underlying31 rfl (by kernel_rfl)) rfl ?_
      exact ⟨_, by first | rfl | (simp [errW_none, errW_some] <;> rfl) | (simp [*, errW_none, errW_some] <;> rfl), by (with_reducible repeat (first | apply Kd.R_alloc | apply Kd.R_drewN | apply Kd.R_drew)); exact Kd.R_mono (Kd.R_far (p := ⟨gb197, 1, none⟩) (Kd.R_far (p := ⟨gb197, 0, none⟩) (Kd.R_far (p := ⟨gb208, 0, none⟩) (Kd.R_far (p := ⟨gb208, 1, none⟩) (Kd.R_far (p := ⟨gb208, 0, none⟩) (Kd.R_types (Kd.R_types HO207.out BK208.out (by decide)) BK197.out (by decide)) (fun _ hk => hk.1.2) (.int .i64 t204)) (fun _ hk => hk.1.2) (.slice Ao42 t205.length co42)) (fun _ hk => hk.1.2) (.int .i64 a1_0)) (fun _ hk => hk.2) (.int .i64 a1_0)) (fun _ hk => hk.2) (.slice Ao42 t205.length co42)) (fun _ hk => trivial), bl⟩
    · replace c23 := Bool.eq_false_iff.mpr c23
      subst c23
      have H1 : ((rowlockref03_apart.f k a0_0 l0_1 a1_0 l1_1).bind fun bt209 => (some (a0_0, bt209.2))) = some (r1, r2) := by rw [if_neg (show ¬ (false = true) by decide)] at H; exact H
      clear H
      have H := H1
      clear H1
      replace H := Option.bind_eq_some_iff.mp H
      obtain ⟨⟨t209, t210⟩, A450, H⟩ := H
      replace H : (some (a0_0, t210)) = some (r1, r2) := H
      have A45 := Aside0.mk A450
      clear A450
      simp only [Option.some.injEq, Prod.mk.injEq] at H
      obtain ⟨rfl, rfl⟩ := H
      go_enter Try.func15, Try.ntmps15
      go_wp2_with (first | ((with_reducible refine gate_dst (N := 2) rfl ?_); refine box_event ?hg (N := 2) ?hd (cs := #[.int .i64 a0_0, .slice A0_1 l0_1.length c0_1]) (t := 31) ?hr ?_; (case hd => rfl); (case hg => rfl); (case hr => first | (go_simp; done) | (go_simp; rfl)); intro gb195 hg w46 hbox hb; have n0_ := Aside0.mk (below_step bl hb); have n1_ := Aside0.mk (hbox); have n2_ := Aside0.mk ((sz hg : w.heap.size ≤ gb195)); have n3_ := Aside0.mk ((sz hg : w.heap.size ≤ gb195)); clear HB; have HB := n0_; have BK195 := n1_; have GW195 := n2_; have GE195 := n3_; clear n0_ n1_ n2_ n3_; clear hb hbox hg) | ((with_reducible refine gate_dst (N := 3) rfl ?_); refine box_event ?hg (N := 3) ?hd (cs := #[.int .i64 a1_0, .slice A1_1 l1_1.length c1_1]) (t := 31) ?hr ?_; (case hd => rfl); (case hg => rfl); (case hr => first | (go_simp; done) | (go_simp; rfl)); intro gb196 hg w47 hbox hb; have n0_ := Aside0.mk (bb (g := gb195) hb); have n1_ := Aside0.mk (below_step bl hb); have n2_ := Aside0.mk (hbox); have n3_ := Aside0.mk ((sz hg : w.heap.size ≤ gb196)); have n4_ := Aside0.mk ((sz hg : w.heap.size ≤ gb196)); have n5_ := Aside0.mk ((nl hg : gb195 ≠ gb196)); have n6_ := Aside0.mk ((ng hg : gb196 ≠ gb195)); clear BK195; clear HB; have BK195 := n0_; have HB := n1_; have BK196 := n2_; have GW196 := n3_; have GE196 := n4_; have NB195_196 := n5_; have NB196_195 := n6_; clear n0_ n1_ n2_ n3_ n4_ n5_ n6_; clear hb hbox hg) | ((with_reducible refine gate_dst (N := 4) rfl ?_); refine box_event ?hg (N := 4) ?hd (cs := #[.int .i64 0, .slice none 0 0]) (t := 31) ?hr ?_; (case hd => rfl); (case hg => rfl); (case hr => first | (go_simp; done) | (go_simp; rfl)); intro gb197 hg w48 hbox hb; have n0_ := Aside0.mk (bb (g := gb195) hb); have n1_ := Aside0.mk (bb (g := gb196) hb); have n2_ := Aside0.mk (below_step bl hb); have n3_ := Aside0.mk (hbox); have n4_ := Aside0.mk ((sz hg : w.heap.size ≤ gb197)); have n5_ := Aside0.mk ((sz hg : w.heap.size ≤ gb197)); have n6_ := Aside0.mk ((nl hg : gb195 ≠ gb197)); have n7_ := Aside0.mk ((ng hg : gb197 ≠ gb195)); have n8_ := Aside0.mk ((nl hg : gb196 ≠ gb197)); have n9_ := Aside0.mk ((ng hg : gb197 ≠ gb196)); clear BK195; clear BK196; clear HB; have BK195 := n0_; have BK196 := n1_; have HB := n2_; have BK197 := n3_; have GW197 := n4_; have GE197 := n5_; have NB195_197 := n6_; have NB197_195 := n7_; have NB196_197 := n8_; have NB197_196 := n9_; clear n0_ n1_ n2_ n3_ n4_ n5_ n6_ n7_ n8_ n9_; clear hb hbox hg; have hnb49 := NB195_196.out; have hnc49 := NB196_195.out; have hnb50 := NB195_197.out; have hnc50 := NB197_195.out; have hcz51_0 : w48.cell? ⟨gb195, 0, none⟩ = some (.int .i64 a0_0) := (blk_cell BK195.out 0).trans rfl; have hcz51_1 : w48.cell? ⟨gb195, 1, none⟩ = some (.slice A0_1 l0_1.length c0_1) := (blk_cell BK195.out 1).trans rfl; have hfz51_0 := blk_frozen BK195.out 0; have hfz51_1 := blk_frozen BK195.out 1; have hnb52 := NB196_197.out; have hnc52 := NB197_196.out; have hcz53_0 : w48.cell? ⟨gb196, 0, none⟩ = some (.int .i64 a1_0) := (blk_cell BK196.out 0).trans rfl; have hcz53_1 : w48.cell? ⟨gb196, 1, none⟩ = some (.slice A1_1 l1_1.length c1_1) := (blk_cell BK196.out 1).trans rfl; have hfz53_0 := blk_frozen BK196.out 0; have hfz53_1 := blk_frozen BK196.out 1) | ((with_reducible refine gate_callee (f := 14) rfl ?_); refine goesL_ (some 22) rfl rfl Try.func14 (by kernel_rfl) rfl #[.agg #[.int .i64 a0_0, .slice A0_1 l0_1.length c0_1], .agg #[.int .i64 a1_0, .slice A1_1 l1_1.length c1_1]] rfl am ?_; (with_reducible refine (rowlockref03_Less.calls k a0_0 _ _ l0_1 a1_0 _ _ l1_1 false _ ?side1 ?side2 ?side3 ?side4 A22.out).mono ?_); (case side1 => exact cb); (case side2 => exact HC0_1.out); (case side3 => exact cb); (case side4 => exact HC1_1.out); rintro e w54 ⟨rfl, hb⟩; refine ⟨_, rfl, ?_⟩; have n0_ := Aside0.mk (bb (g := gb195) hb); have n1_ := Aside0.mk (bb (g := gb196) hb); have n2_ := Aside0.mk (bb (g := gb197) hb); have n3_ := Aside0.mk (below_step bl hb); clear BK195; clear BK196; clear BK197; clear HB; have BK195 := n0_; have BK196 := n1_; have BK197 := n2_; have HB := n3_; clear n0_ n1_ n2_ n3_; (try clear hb); (try clear hb2); (try clear hk); (try clear hi); have hcz55_0 : w54.cell? ⟨gb195, 0, none⟩ = some (.int .i64 a0_0) := (blk_cell BK195.out 0).trans rfl; have hcz55_1 : w54.cell? ⟨gb195, 1, none⟩ = some (.slice A0_1 l0_1.length c0_1) := (blk_cell BK195.out 1).trans rfl; have hfz55_0 := blk_frozen BK195.out 0; have hfz55_1 := blk_frozen BK195.out 1; have hcz56_0 : w54.cell? ⟨gb196, 0, none⟩ = some (.int .i64 a1_0) := (blk_cell BK196.out 0).trans rfl; have hcz56_1 : w54.cell? ⟨gb196, 1, none⟩ = some (.slice A1_1 l1_1.length c1_1) := (blk_cell BK196.out 1).trans rfl; have hfz56_0 := blk_frozen BK196.out 0; have hfz56_1 := blk_frozen BK196.out 1) | ((with_reducible refine gate_callee (f := 33) rfl ?_); refine goesL_ (some 32) rfl rfl Try.func33 (by kernel_rfl) rfl #[.agg #[.int .i64 a0_0, .slice A0_1 l0_1.length c0_1], .agg #[.int .i64 a1_0, .slice A1_1 l1_1.length c1_1]] rfl am ?_; (with_reducible refine (rowlockref03_apart.calls k a0_0 _ _ l0_1 a1_0 _ _ l1_1 t209 t210 _ ?side1 ?side2 ?side3 ?side4 A45.out).mono ?_); (case side1 => exact cb); (case side2 => exact HC0_1.out); (case side3 => exact cb); (case side4 => exact HC1_1.out); rintro e w57 ⟨v211, rfl, ho0, hb⟩; refine ⟨_, rfl, ?_⟩; have n0_ := Aside0.mk (Kd.R_lower ho0 (below_size bl)); have n1_ := Aside0.mk (bb (g := gb195) hb); have n2_ := Aside0.mk (bb (g := gb196) hb); have n3_ := Aside0.mk (bb (g := gb197) hb); have n4_ := Aside0.mk (below_step bl hb); clear BK195; clear BK196; clear BK197; clear HB; have HO212 := n0_; have BK195 := n1_; have BK196 := n2_; have BK197 := n3_; have HB := n4_; clear n0_ n1_ n2_ n3_ n4_; (try clear hb); (try clear hb2); (try clear hk); (try clear hi); (try clear ho0)) | ((with_reducible refine gate_dst (N := 7) rfl ?_); refine box_event ?hg (N := 7) ?hd (cs := #[.int .i64 0, .slice none 0 0]) (t := 31) ?hr ?_; (case hd => rfl); (case hg => rfl); (case hr => first | (go_simp; done) | (go_simp; rfl)); intro gb213 hg w58 hbox hb; have n0_ := Aside0.mk (Kd.R_below (rk HO212) hb); have n1_ := Aside0.mk (bb (g := gb195) hb); have n2_ := Aside0.mk (bb (g := gb196) hb); have n3_ := Aside0.mk (bb (g := gb197) hb); have n4_ := Aside0.mk (below_step bl hb); have n5_ := Aside0.mk (hbox); have n6_ := Aside0.mk ((sz hg : w.heap.size ≤ gb213)); have n7_ := Aside0.mk ((sz hg : w.heap.size ≤ gb213)); have n8_ := Aside0.mk ((nl hg : gb195 ≠ gb213)); have n9_ := Aside0.mk ((ng hg : gb213 ≠ gb195)); have n10_ := Aside0.mk ((nl hg : gb196 ≠ gb213)); have n11_ := Aside0.mk ((ng hg : gb213 ≠ gb196)); have n12_ := Aside0.mk ((nl hg : gb197 ≠ gb213)); have n13_ := Aside0.mk ((ng hg : gb213 ≠ gb197)); clear HO212; clear BK195; clear BK196; clear BK197; clear HB; have HO212 := n0_; have BK195 := n1_; have BK196 := n2_; have BK197 := n3_; have HB := n4_; have BK213 := n5_; have GW213 := n6_; have GE213 := n7_; have NB195_213 := n8_; have NB213_195 := n9_; have NB196_213 := n10_; have NB213_196 := n11_; have NB197_213 := n12_; have NB213_197 := n13_; clear n0_ n1_ n2_ n3_ n4_ n5_ n6_ n7_ n8_ n9_ n10_ n11_ n12_ n13_; clear hb hbox hg; have hnb59 := NB213_195.out; have hnc59 := NB195_213.out; have hnb60 := NB213_196.out; have hnc60 := NB196_213.out; have hnb61 := NB213_197.out; have hnc61 := NB197_213.out; have hcz62_0 : w58.cell? ⟨gb213, 0, none⟩ = some (.int .i64 0) := (blk_cell BK213.out 0).trans rfl; have hcz62_1 : w58.cell? ⟨gb213, 1, none⟩ = some (.slice none 0 0) := (blk_cell BK213.out 1).trans rfl; have hfz62_0 := blk_frozen BK213.out 0; have hfz62_1 := blk_frozen BK213.out 1; obtain ⟨Ao63, co63, eo63⟩ := Kd.R_slice HO212.out; subst eo63; have hcz64_0 : w58.cell? ⟨gb195, 0, none⟩ = some (.int .i64 a0_0) := (blk_cell BK195.out 0).trans rfl; have hcz64_1 : w58.cell? ⟨gb195, 1, none⟩ = some (.slice A0_1 l0_1.length c0_1) := (blk_cell BK195.out 1).trans rfl; have hfz64_0 := blk_frozen BK195.out 0; have hfz64_1 := blk_frozen BK195.out 1; have hcz65_0 : w58.cell? ⟨gb197, 0, none⟩ = some (.int .i64 0) := (blk_cell BK197.out 0).trans rfl; have hcz65_1 : w58.cell? ⟨gb197, 1, none⟩ = some (.slice none 0 0) := (blk_cell BK197.out 1).trans rfl; have hfz65_0 := blk_frozen BK197.out 0; have hfz65_1 := blk_frozen BK197.out 1))
      refine bodyPost_ret (results_cell_row rfl _ _ gb197 31 #[.int .i64 a0_0, .slice Ao63 t210.length co63] (0, 0) _ rfl (by (with_reducible repeat (first | refine blk_drewN ?_ _ | refine blk_drew ?_ | refine blk_alloc ?_ _)); refine blk_put (cs := #[.int .i64 a0_0, .slice none 0 0]) ?_ 1 _ rfl; (with_reducible repeat (first | refine blk_drewN ?_ _ | refine blk_drew ?_ | refine blk_alloc ?_ _)); refine blk_put (cs := #[.int .i64 0, .slice none 0 0]) ?_ 0 _ rfl; (with_reducible repeat (first | refine blk_drewN ?_ _ | refine blk_drew ?_ | refine blk_alloc ?_ _)); refine blk_far ?_ NB197_213.out _; (with_reducible repeat (first | refine blk_drewN ?_ _ | refine blk_drew ?_ | refine blk_alloc ?_ _)); refine blk_far ?_ NB197_213.out _; (with_reducible repeat (first | refine blk_drewN ?_ _ | refine blk_drew ?_ | refine blk_alloc ?_ _)); refine blk_far ?_ NB197_213.out _; (with_reducible repeat (first | refine blk_drewN ?_ _ | refine blk_drew ?_ | refine blk_alloc ?_ _)); exact BK197.out) Try.underlying31 rfl (by kernel_rfl)) rfl ?_
      exact ⟨_, by first | rfl | (simp [errW_none, errW_some] <;> rfl) | (simp [*, errW_none, errW_some] <;> rfl), by (with_reducible repeat (first | apply Kd.R_alloc | apply Kd.R_drewN | apply Kd.R_drew)); exact Kd.R_mono (Kd.R_far (p := ⟨gb197, 1, none⟩) (Kd.R_far (p := ⟨gb197, 0, none⟩) (Kd.R_far (p := ⟨gb213, 0, none⟩) (Kd.R_far (p := ⟨gb213, 1, none⟩) (Kd.R_far (p := ⟨gb213, 0, none⟩) (Kd.R_types (Kd.R_types HO212.out BK213.out (by decide)) BK197.out (by decide)) (fun _ hk => hk.1.2) (.int .i64 t209)) (fun _ hk => hk.1.2) (.slice Ao63 t210.length co63)) (fun _ hk => hk.1.2) (.int .i64 a0_0)) (fun _ hk => hk.2) (.int .i64 a0_0)) (fun _ hk => hk.2) (.slice Ao63 t210.length co63)) (fun _ hk => trivial), bl⟩

end Go.Proofs.Ytneihjdkaogkiaa.PCalcTimes
