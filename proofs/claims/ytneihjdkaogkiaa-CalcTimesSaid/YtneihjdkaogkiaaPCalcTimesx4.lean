-- printed for this claim by a copy of the printer that this session turned (wip/pp)
import Derived.Test.YtneihjdkaogkiaaPCalcTimesx0
namespace Go.Proofs.Ytneihjdkaogkiaa.PCalcTimes
open Go.RowKit Go.Proofs.YtneihjdkaogkiaaW.PrintWords Go.Proofs.YtneihjdkaogkiaaW.PrintLast Go.Proofs.YtneihjdkaogkiaaW.PrintMore
attribute [local go_sem] max2_int min2_int max_two min_two max_three min_three max_four min_four   -- for this text's walks alone
set_option linter.unusedVariables false
set_option linter.unusedSimpArgs false

/-! ### rowlockref03_Whole: function 13 -/
def rowlockref03_Whole.l0 : Nat → Int → List Int → Int → Option (Int × List Int)
  | 0, _, _, _ => none
  | k + 1, x0, x3, x4 => if x4 < 4 then (if x3.length < 17592186044416 then (rowlockref03_Whole.l0 k (IntKind.u64.wrap (Int.tdiv x0 65536)) (x3 ++ [Int.tmod x0 65536]) (wrap64 (x4 + 1))) else (none)) else (some (1, x3))
def rowlockref03_Whole.f (k : Nat) (a0 : Int) : Option (Int × List Int) := rowlockref03_Whole.l0 k a0 (([] : List Int)) 0
theorem rowlockref03_Whole.mono_l : ∀ k, (∀ y0 y1 y2, LeO (rowlockref03_Whole.l0 k y0 y1 y2) (rowlockref03_Whole.l0 (k + 1) y0 y1 y2))
  | 0 => fun _ _ _ r h => by simp [rowlockref03_Whole.l0] at h
  | k + 1 => by
    have ih0 := rowlockref03_Whole.mono_l k
    · intro y0 y1 y2
      unfold rowlockref03_Whole.l0
      repeat' first
      | (with_reducible exact ih0 _ _ _)
      | (with_reducible exact LeO.refl _)
      | (with_reducible exact LeO.none _)
      | (with_reducible refine LeO.ite ?_ ?_)
      | (with_reducible refine LeO.bind ?_ (fun _ => ?_))
      | exact ih0 _ _ _
      | exact LeO.none _
      | refine LeO.ite ?_ ?_
      | refine LeO.bind ?_ (fun _ => ?_)
theorem rowlockref03_Whole.mono : ∀ a0 k, LeO (rowlockref03_Whole.f k a0) (rowlockref03_Whole.f (k + 1) a0) := by
  intro a0 k
  have ih0 := rowlockref03_Whole.mono_l k
  unfold rowlockref03_Whole.f
  repeat' first
      | (with_reducible exact ih0 _ _ _)
      | (with_reducible exact LeO.refl _)
      | (with_reducible exact LeO.none _)
      | (with_reducible refine LeO.ite ?_ ?_)
      | (with_reducible refine LeO.bind ?_ (fun _ => ?_))
      | exact ih0 _ _ _
      | exact LeO.none _
      | refine LeO.ite ?_ ?_
      | refine LeO.bind ?_ (fun _ => ?_)
set_option maxHeartbeats 8000000 in
set_option maxRecDepth 100000 in
theorem rowlockref03_Whole.calls (k : Nat) (a0 : Int) (r1 : Int) (r2 : List Int) (w : World) (h : rowlockref03_Whole.f k a0 = some (r1, r2)) :
    Calls Try.prog 13 #[.int .u64 a0] w fun e w' => ∃ v1_ : Value, e = .returned (.agg #[.int .i64 r1, v1_]) ∧ Kd.R (Kd.int .u64) 27 w' w.heap.size (fun _ => True) v1_ r2 ∧ Below w.heap.size w w' := by
  have hu31 := Try.underlying31
  have HB := Aside0.mk (Below.refl w.heap.size w)
  have H : (rowlockref03_Whole.l0 k a0 (([] : List Int)) 0) = some (r1, r2) := h
  clear h
  obtain ⟨y136, hy136⟩ : ∃ y_ : List Int, y_ = (([] : List Int)) := ⟨_, rfl⟩
  replace H : (rowlockref03_Whole.l0 k a0 y136 0) = some (r1, r2) := by first | (rw [hy136]; with_reducible exact H) | (have H2_ := (Option.bind_some _ _).symm.trans H; rw [hy136]; with_reducible exact H2_) | (have H2_ := (Option.bind_some _ _).symm.trans H; with_reducible exact H2_) | with_reducible exact H | (rw [hy136]; exact H) | exact H
  have Ny136 := Aside0.mk hy136
  clear hy136
  have H' := Aside0.mk H
  clear H
  go_enter Try.func13, Try.ntmps13
  go_wp2_with (first | ((with_reducible refine gate_dst (N := 2) rfl ?_); refine box_event ?hg (N := 2) ?hd (cs := #[.int .i64 0, .slice none 0 0]) (t := 31) ?hr ?_; (case hd => rfl); (case hg => rfl); (case hr => first | (go_simp; done) | (go_simp; rfl)); intro gb135 hg w2 hbox hb; have n0_ := Aside0.mk (below_step bl hb); have n1_ := Aside0.mk (hbox); have n2_ := Aside0.mk ((sz hg : w.heap.size ≤ gb135)); have n3_ := Aside0.mk ((sz hg : w.heap.size ≤ gb135)); clear HB; have HB := n0_; have BK135 := n1_; have GW135 := n2_; have GE135 := n3_; clear n0_ n1_ n2_ n3_; clear hb hbox hg) | ((with_reducible refine gate_dst (N := 5) rfl ?_); refine Kd.R_lit (Kd.int .u64) _ 27 ?hg (N := 5) ?hd (xs := ([] : List Int)) (inner := []) (ok := fun _ => True) (okp := fun _ => True) ?hr ?hp (fun _ hk => hk) trivial (Below.refl _ _) (Nat.le_refl _) (by simp) ?_; (case hd => rfl); (case hg => rfl); (case hr => first | (go_simp; done) | (go_simp; rfl)); (case hp => exact (Reps.none _ _)); intro v137 w3 ho4 hb hg_ hnew_; clear hg_ hnew_; (first | rw [← Ny136.out] at ho4 | (simp only [Int.reduceToNat] at ho4; rw [← Ny136.out] at ho4)); have n0_ := Aside0.mk (Kd.R_lower ho4 (below_size bl)); have n1_ := Aside0.mk (bb (g := gb135) hb); have n2_ := Aside0.mk (below_step bl hb); clear BK135; clear HB; have HO138 := n0_; have BK135 := n1_; have HB := n2_; clear n0_ n1_ n2_; clear hb ho4))
  go_loopg [0, 3, 4] k (fun kq v0 v3 v4 w' => ∃ (x0_1 : Int) (x3_1 : List Int) (x4_1 : Int), v0 = .int .u64 x0_1 ∧ v4 = .int .i64 x4_1 ∧ Aside0 (rowlockref03_Whole.l0 kq x0_1 x3_1 x4_1 = some (r1, r2)) ∧ Aside0 (kq ≤ k) ∧ Aside0 (Kd.R (Kd.int .u64) 27 w' w.heap.size (fun _ => True) v3 x3_1) ∧ Aside0 (w'.heap[gb135]? = some (.cells #[.int .i64 0, (.slice none 0 0)] 31 (0, 0))) ∧ Aside0 (Below w.heap.size w w'))
  case atStart => exact ⟨(a0), (y136), (0), (by first | rfl | (simp; done) | (simp [*]; done)), (by first | rfl | (simp; done) | (simp [*]; done)), H', ⟨Nat.le_refl _⟩, ⟨by (with_reducible repeat (first | apply Kd.R_alloc | apply Kd.R_drewN | apply Kd.R_drew)); exact HO138.out⟩, ⟨pk⟩, ⟨bl⟩⟩
  case round =>
    clear H'
    try clear c1
    try clear p2
    obtain ⟨x0_1, x3_1, x4_1, rfl, rfl, HA, HK1, HO_3, BK135, HB⟩ := hrel
    cases gk with
    | zero => exact absurd HA.out (by simp [rowlockref03_Whole.l0])
    | succ k1 =>
      have H := HA.out
      clear HA
      simp only [rowlockref03_Whole.l0] at H
      by_cases c5 : x4_1 < 4
      · rw [if_pos c5] at H
        have c5b0 : decide (x4_1 < 4) = true := decide_eq_true c5
        clear c5
        by_cases c6 : x3_1.length < 17592186044416
        · rw [if_pos c6] at H
          have LMc6 := Aside0.mk c6
          clear c6
          obtain ⟨y139, hy139⟩ : ∃ y_ : List Int, y_ = (x3_1 ++ [Int.tmod x0_1 65536]) := ⟨_, rfl⟩
          replace H : (rowlockref03_Whole.l0 k1 (IntKind.u64.wrap (Int.tdiv x0_1 65536)) y139 (wrap64 (x4_1 + 1))) = some (r1, r2) := by first | (rw [hy139]; with_reducible exact H) | (have H2_ := (Option.bind_some _ _).symm.trans H; rw [hy139]; with_reducible exact H2_) | (have H2_ := (Option.bind_some _ _).symm.trans H; with_reducible exact H2_) | with_reducible exact H | (rw [hy139]; exact H) | exact H
          have Ny139 := Aside0.mk hy139
          clear hy139
          have H' := Aside0.mk H
          clear H
          go_wp2_with (first | ((with_reducible refine gate_builtin (b := .append) (xs := #[.tmp 10, .tmp 13]) rfl ?_); at_builtin; refine Kd.R_append (Kd.int .u64) (w0 := w) w.heap.size rfl (.tmp 10) (.tmp 13) 29 27 (.int .u64 0) 8 rfl Try.underlying29 info27 rfl (by decide) (by omega) u3 x3_1 (Int.tmod x0_1 65536) [.int .u64 (Int.tmod x0_1 65536)] (fun _ => True) (fun _ => False) rfl rfl ?aP (fun _ hk => hk.elim) ?aF ?aO ?aB ?aS ?aL ?_; (case aP => exact rfl); (case aB => exact bl); (case aF => exact (fun _ _ => trivial)); (case aO => exact (rk HO_3)); (case aS => exact (below_size bl)); (case aL => have := LMc6.out; omega); intro v140 w7 ho hb hg hat; rw [← Ny139.out] at ho; have n0_ := Aside0.mk (blk_grown (g := gb135) (o := .cells #[.int .i64 0, .slice none 0 0] 31 (0, 0)) pk hg (Kd.R_ne HO_3.out BK135.out (by decide))); have n1_ := Aside0.mk (hb); have n2_ := Aside0.mk (ho); clear BK135; clear HB; clear HO_3; have BK135 := n0_; have HB := n1_; have HO141 := n2_; clear n0_ n1_ n2_; clear ho hb hg hat))
          go_roundg k1
          case measure => have := HK1.out; omega
          case rel => exact ⟨(IntKind.u64.wrap (Int.tdiv x0_1 65536)), (y139), (wrap64 (x4_1 + 1)), (by first | rfl | (simp; done) | (simp [*]; done)), (by first | rfl | (simp; done) | (simp [*]; done)), H', ⟨by have := HK1.out; omega⟩, ⟨by (with_reducible repeat (first | apply Kd.R_alloc | apply Kd.R_drewN | apply Kd.R_drew)); exact HO141.out⟩, ⟨pk⟩, ⟨bl⟩⟩
        · rw [if_neg c6] at H
          exact absurd H (by simp)
      · rw [if_neg c5] at H
        have c5b0 : decide (x4_1 < 4) = false := decide_eq_false c5
        clear c5
        simp only [Option.some.injEq, Prod.mk.injEq] at H
        obtain ⟨rfl, rfl⟩ := H
        obtain ⟨Ao8, co8, eo8⟩ := Kd.R_slice HO_3.out
        subst eo8
        have hcz9_0 : wr.cell? ⟨gb135, 0, none⟩ = some (.int .i64 0) := (blk_cell BK135.out 0).trans rfl
        have hcz9_1 : wr.cell? ⟨gb135, 1, none⟩ = some (.slice none 0 0) := (blk_cell BK135.out 1).trans rfl
        have hfz9_0 := blk_frozen BK135.out 0
        have hfz9_1 := blk_frozen BK135.out 1
        go_wp2
        refine bodyPost_ret (results_cell_row rfl _ _ gb135 31 #[.int .i64 1, .slice Ao8 x3_1.length co8] (0, 0) _ rfl (by (with_reducible repeat (first | refine blk_drewN ?_ _ | refine blk_drew ?_ | refine blk_alloc ?_ _)); refine blk_put (cs := #[.int .i64 1, .slice none 0 0]) ?_ 1 _ rfl; (with_reducible repeat (first | refine blk_drewN ?_ _ | refine blk_drew ?_ | refine blk_alloc ?_ _)); refine blk_put (cs := #[.int .i64 0, .slice none 0 0]) ?_ 0 _ rfl; (with_reducible repeat (first | refine blk_drewN ?_ _ | refine blk_drew ?_ | refine blk_alloc ?_ _)); exact BK135.out) Try.underlying31 rfl (by kernel_rfl)) rfl ?_
        exact ⟨_, by first | rfl | (simp [errW_none, errW_some] <;> rfl) | (simp [*, errW_none, errW_some] <;> rfl), by (with_reducible repeat (first | apply Kd.R_alloc | apply Kd.R_drewN | apply Kd.R_drew)); exact Kd.R_mono (Kd.R_far (p := ⟨gb135, 1, none⟩) (Kd.R_far (p := ⟨gb135, 0, none⟩) (Kd.R_types HO_3.out BK135.out (by decide)) (fun _ hk => hk.2) (.int .i64 1)) (fun _ hk => hk.2) (.slice Ao8 x3_1.length co8)) (fun _ hk => trivial), bl⟩

/-! ### rowlockref03_digit: function 32 -/
def rowlockref03_digit.f (l0 : List Int) (a1 : Int) : Option (Int) := if a1 < (l0.length : Int) then (if 0 ≤ a1 then (some (rd l0 a1)) else (none)) else (some 0)
set_option maxHeartbeats 8000000 in
set_option maxRecDepth 100000 in
theorem rowlockref03_digit.calls (A0 : Option Addr) (c0 : Nat) (l0 : List Int) (a1 : Int) (r : Int) (w : World) (hr0 : Kd.C (Kd.int .u64) w A0 l0.length l0) (hc0 : l0.length ≤ c0) (h : rowlockref03_digit.f l0 a1 = some r) :
    Calls Try.prog 32 #[.slice A0 l0.length c0, .int .i64 a1] w fun e w' => e = .returned (.int .u64 r) ∧ Drawn0 w w' := by
  have HR0 := Aside0.mk hr0
  have HC0 := Aside0.mk hc0
  clear hr0 hc0
  have H : (if a1 < (l0.length : Int) then (if 0 ≤ a1 then (some (rd l0 a1)) else (none)) else (some 0)) = some r := h
  clear h
  by_cases c3 : a1 < (l0.length : Int)
  · rw [if_pos c3] at H
    have c3b0 : decide (a1 < (l0.length : Int)) = true := decide_eq_true c3
    clear c3
    by_cases c4 : 0 ≤ a1
    · rw [if_pos c4] at H
      have c4b0 : decide (0 ≤ a1) = true := decide_eq_true c4
      clear c4
      obtain rfl := Option.some.inj H
      have p142 : 0 ≤ (a1 : Int) := of_decide_eq_true (by first | (with_reducible assumption) | assumption)
      have q142 : a1 < (l0.length : Int) := of_decide_eq_true (by first | (with_reducible assumption) | assumption)
      obtain ⟨ad142, e142, hx142_0⟩ := Kd.at_int HR0.out a1 p142 q142
      cases e142
      replace p142 := eq_true p142
      replace q142 := eq_true q142
      go_enter Try.func32, Try.ntmps32
      go_wp2
      go_ret
      exact ⟨by first | rfl | (simp; done) | (simp [*]; done), by repeat (first | exact Drawn0.refl _ | apply Drawn0.step)⟩
    · rw [if_neg c4] at H
      exact absurd H (by simp)
  · rw [if_neg c3] at H
    have c3b0 : decide (a1 < (l0.length : Int)) = false := decide_eq_false c3
    clear c3
    obtain rfl := Option.some.inj H
    go_enter Try.func32, Try.ntmps32
    go_wp2
    go_ret
    exact ⟨by first | rfl | (simp; done) | (simp [*]; done), by repeat (first | exact Drawn0.refl _ | apply Drawn0.step)⟩

/-! ### rowlockref03_size: function 31 -/
mutual
def rowlockref03_size.l0 : Nat → List Int → Int → Int → Int → List Int → Int → List Int → Option (Int × List Int)
  | 0, _, _, _, _, _, _, _ => none
  | k + 1, x5, x6, x7, x144000, x144001, x145000, x145001 => if x7 < (x144001.length : Int) then (rowlockref03_size.j1 k x5 x6 x7 true x144000 x144001 x145000 x145001) else (if x7 < (x145001.length : Int) then (rowlockref03_size.j1 k x5 x6 x7 true x144000 x144001 x145000 x145001) else (rowlockref03_size.j1 k x5 x6 x7 (decide (x6 > 0)) x144000 x144001 x145000 x145001))
def rowlockref03_size.j1 : Nat → List Int → Int → Int → Bool → Int → List Int → Int → List Int → Option (Int × List Int)
  | 0, _, _, _, _, _, _, _, _ => none
  | k + 1, x5, x6, x7, x25, x144000, x144001, x145000, x145001 => if x25 = true then ((rowlockref03_digit.f x144001 x7).bind fun t149 => ((rowlockref03_digit.f x145001 x7).bind fun t150 => (if x5.length < 17592186044416 then (rowlockref03_size.l0 k (x5 ++ [Int.tmod (IntKind.u64.wrap ((IntKind.u64.wrap (t149 + t150)) + x6)) 65536]) (IntKind.u64.wrap (Int.tdiv (IntKind.u64.wrap ((IntKind.u64.wrap (t149 + t150)) + x6)) 65536)) (wrap64 (x7 + 1)) x144000 x144001 x145000 x145001) else (none)))) else (some (1, x5))
end
def rowlockref03_size.f (k : Nat) (a0_0 : Int) (l0_1 : List Int) (a1_0 : Int) (l1_1 : List Int) : Option (Int × List Int) := rowlockref03_size.l0 k (([] : List Int)) 0 0 a0_0 l0_1 a1_0 l1_1
theorem rowlockref03_size.mono_l : ∀ k, (∀ y0 y1 y2 y3 y4 y5 y6, LeO (rowlockref03_size.l0 k y0 y1 y2 y3 y4 y5 y6) (rowlockref03_size.l0 (k + 1) y0 y1 y2 y3 y4 y5 y6)) ∧ (∀ y0 y1 y2 y3 y4 y5 y6 y7, LeO (rowlockref03_size.j1 k y0 y1 y2 y3 y4 y5 y6 y7) (rowlockref03_size.j1 (k + 1) y0 y1 y2 y3 y4 y5 y6 y7))
  | 0 => ⟨fun _ _ _ _ _ _ _ r h => by simp [rowlockref03_size.l0] at h, fun _ _ _ _ _ _ _ _ r h => by simp [rowlockref03_size.j1] at h⟩
  | k + 1 => by
    obtain ⟨ih0, ih1⟩ := rowlockref03_size.mono_l k
    refine ⟨?_, ?_⟩
    · intro y0 y1 y2 y3 y4 y5 y6
      unfold rowlockref03_size.l0
      repeat' first
      | (with_reducible exact ih0 _ _ _ _ _ _ _)
      | (with_reducible exact ih1 _ _ _ _ _ _ _ _)
      | (with_reducible exact LeO.refl _)
      | (with_reducible exact LeO.none _)
      | (with_reducible refine LeO.ite ?_ ?_)
      | (with_reducible refine LeO.bind ?_ (fun _ => ?_))
      | exact ih0 _ _ _ _ _ _ _
      | exact ih1 _ _ _ _ _ _ _ _
      | exact LeO.none _
      | refine LeO.ite ?_ ?_
      | refine LeO.bind ?_ (fun _ => ?_)
    · intro y0 y1 y2 y3 y4 y5 y6 y7
      unfold rowlockref03_size.j1
      repeat' first
      | (with_reducible exact ih0 _ _ _ _ _ _ _)
      | (with_reducible exact ih1 _ _ _ _ _ _ _ _)
      | (with_reducible exact LeO.refl _)
      | (with_reducible exact LeO.none _)
      | (with_reducible refine LeO.ite ?_ ?_)
      | (with_reducible refine LeO.bind ?_ (fun _ => ?_))
      | exact ih0 _ _ _ _ _ _ _
      | exact ih1 _ _ _ _ _ _ _ _
      | exact LeO.none _
      | refine LeO.ite ?_ ?_
      | refine LeO.bind ?_ (fun _ => ?_)
theorem rowlockref03_size.mono : ∀ a0 a1 a2 a3 k, LeO (rowlockref03_size.f k a0 a1 a2 a3) (rowlockref03_size.f (k + 1) a0 a1 a2 a3) := by
  intro a0 a1 a2 a3 k
  obtain ⟨ih0, ih1⟩ := rowlockref03_size.mono_l k
  unfold rowlockref03_size.f
  repeat' first
      | (with_reducible exact ih0 _ _ _ _ _ _ _)
      | (with_reducible exact ih1 _ _ _ _ _ _ _ _)
      | (with_reducible exact LeO.refl _)
      | (with_reducible exact LeO.none _)
      | (with_reducible refine LeO.ite ?_ ?_)
      | (with_reducible refine LeO.bind ?_ (fun _ => ?_))
      | exact ih0 _ _ _ _ _ _ _
      | exact ih1 _ _ _ _ _ _ _ _
      | exact LeO.none _
      | refine LeO.ite ?_ ?_
      | refine LeO.bind ?_ (fun _ => ?_)
set_option maxHeartbeats 8000000 in
set_option maxRecDepth 100000 in
theorem rowlockref03_size.calls (k : Nat) (a0_0 : Int) (A0_1 : Option Addr) (c0_1 : Nat) (l0_1 : List Int) (a1_0 : Int) (A1_1 : Option Addr) (c1_1 : Nat) (l1_1 : List Int) (r1 : Int) (r2 : List Int) (w : World) (hr0_1 : Kd.C (Kd.int .u64) w A0_1 l0_1.length l0_1) (hc0_1 : l0_1.length ≤ c0_1) (hr1_1 : Kd.C (Kd.int .u64) w A1_1 l1_1.length l1_1) (hc1_1 : l1_1.length ≤ c1_1) (h : rowlockref03_size.f k a0_0 l0_1 a1_0 l1_1 = some (r1, r2)) :
    Calls Try.prog 31 #[.agg #[.int .i64 a0_0, .slice A0_1 l0_1.length c0_1], .agg #[.int .i64 a1_0, .slice A1_1 l1_1.length c1_1]] w fun e w' => ∃ v1_ : Value, e = .returned (.agg #[.int .i64 r1, v1_]) ∧ Kd.R (Kd.int .u64) 27 w' w.heap.size (fun _ => True) v1_ r2 ∧ Below w.heap.size w w' := by
  have hu31 := Try.underlying31
  have HR0_1 := Aside0.mk hr0_1
  have HC0_1 := Aside0.mk hc0_1
  clear hr0_1 hc0_1
  have HR1_1 := Aside0.mk hr1_1
  have HC1_1 := Aside0.mk hc1_1
  clear hr1_1 hc1_1
  have HB := Aside0.mk (Below.refl w.heap.size w)
  have H : (rowlockref03_size.l0 k (([] : List Int)) 0 0 a0_0 l0_1 a1_0 l1_1) = some (r1, r2) := h
  clear h
  obtain ⟨y146, hy146⟩ : ∃ y_ : List Int, y_ = (([] : List Int)) := ⟨_, rfl⟩
  replace H : (rowlockref03_size.l0 k y146 0 0 a0_0 l0_1 a1_0 l1_1) = some (r1, r2) := by first | (rw [hy146]; with_reducible exact H) | (have H2_ := (Option.bind_some _ _).symm.trans H; rw [hy146]; with_reducible exact H2_) | (have H2_ := (Option.bind_some _ _).symm.trans H; with_reducible exact H2_) | with_reducible exact H | (rw [hy146]; exact H) | exact H
  have Ny146 := Aside0.mk hy146
  clear hy146
  have H' := Aside0.mk H
  clear H
  go_enter Try.func31, Try.ntmps31
  go_wp2_with (first | ((with_reducible refine gate_dst (N := 2) rfl ?_); (try (refine gate_guard (by rfl) ?_; dsimp only)); refine box_event ?hg (N := 2) ?hd (cs := #[.int .i64 a0_0, .slice A0_1 l0_1.length c0_1]) (t := 31) ?hr ?_; (case hd => rfl); (case hg => rfl); (case hr => first | (go_simp; done) | (go_simp; rfl)); intro gb143 hg w3 hbox hb; have n0_ := Aside0.mk (below_step bl hb); have n1_ := Aside0.mk (hbox); have n2_ := Aside0.mk ((sz hg : w.heap.size ≤ gb143)); have n3_ := Aside0.mk ((sz hg : w.heap.size ≤ gb143)); clear HB; have HB := n0_; have BK143 := n1_; have GW143 := n2_; have GE143 := n3_; clear n0_ n1_ n2_ n3_; clear hb hbox hg) | ((with_reducible refine gate_dst (N := 3) rfl ?_); (try (refine gate_guard (by rfl) ?_; dsimp only)); refine box_event ?hg (N := 3) ?hd (cs := #[.int .i64 a1_0, .slice A1_1 l1_1.length c1_1]) (t := 31) ?hr ?_; (case hd => rfl); (case hg => rfl); (case hr => first | (go_simp; done) | (go_simp; rfl)); intro gb144 hg w4 hbox hb; have n0_ := Aside0.mk (bb (g := gb143) hb); have n1_ := Aside0.mk (below_step bl hb); have n2_ := Aside0.mk (hbox); have n3_ := Aside0.mk ((sz hg : w.heap.size ≤ gb144)); have n4_ := Aside0.mk ((sz hg : w.heap.size ≤ gb144)); have n5_ := Aside0.mk ((nl hg : gb143 ≠ gb144)); have n6_ := Aside0.mk ((ng hg : gb144 ≠ gb143)); clear BK143; clear HB; have BK143 := n0_; have HB := n1_; have BK144 := n2_; have GW144 := n3_; have GE144 := n4_; have NB143_144 := n5_; have NB144_143 := n6_; clear n0_ n1_ n2_ n3_ n4_ n5_ n6_; clear hb hbox hg) | ((with_reducible refine gate_dst (N := 4) rfl ?_); (try (refine gate_guard (by rfl) ?_; dsimp only)); refine box_event ?hg (N := 4) ?hd (cs := #[.int .i64 0, .slice none 0 0]) (t := 31) ?hr ?_; (case hd => rfl); (case hg => rfl); (case hr => first | (go_simp; done) | (go_simp; rfl)); intro gb145 hg w5 hbox hb; have n0_ := Aside0.mk (bb (g := gb143) hb); have n1_ := Aside0.mk (bb (g := gb144) hb); have n2_ := Aside0.mk (below_step bl hb); have n3_ := Aside0.mk (hbox); have n4_ := Aside0.mk ((sz hg : w.heap.size ≤ gb145)); have n5_ := Aside0.mk ((sz hg : w.heap.size ≤ gb145)); have n6_ := Aside0.mk ((nl hg : gb143 ≠ gb145)); have n7_ := Aside0.mk ((ng hg : gb145 ≠ gb143)); have n8_ := Aside0.mk ((nl hg : gb144 ≠ gb145)); have n9_ := Aside0.mk ((ng hg : gb145 ≠ gb144)); clear BK143; clear BK144; clear HB; have BK143 := n0_; have BK144 := n1_; have HB := n2_; have BK145 := n3_; have GW145 := n4_; have GE145 := n5_; have NB143_145 := n6_; have NB145_143 := n7_; have NB144_145 := n8_; have NB145_144 := n9_; clear n0_ n1_ n2_ n3_ n4_ n5_ n6_ n7_ n8_ n9_; clear hb hbox hg) | ((with_reducible refine gate_dst (N := 9) rfl ?_); (try (refine gate_guard (by rfl) ?_; dsimp only)); refine Kd.R_lit (Kd.int .u64) _ 27 ?hg (N := 9) ?hd (xs := ([] : List Int)) (inner := []) (ok := fun _ => True) (okp := fun _ => True) ?hr ?hp (fun _ hk => hk) trivial (Below.refl _ _) (Nat.le_refl _) (by simp) ?_; (case hd => rfl); (case hg => rfl); (case hr => first | (go_simp; done) | (go_simp; rfl)); (case hp => exact (Reps.none _ _)); intro v147 w6 ho7 hb hg_ hnew_; clear hg_ hnew_; (first | rw [← Ny146.out] at ho7 | (simp only [Int.reduceToNat] at ho7; rw [← Ny146.out] at ho7)); have n0_ := Aside0.mk (Kd.R_lower ho7 (below_size bl)); have n1_ := Aside0.mk (bb (g := gb143) hb); have n2_ := Aside0.mk (bb (g := gb144) hb); have n3_ := Aside0.mk (bb (g := gb145) hb); have n4_ := Aside0.mk (below_step bl hb); clear BK143; clear BK144; clear BK145; clear HB; have HO148 := n0_; have BK143 := n1_; have BK144 := n2_; have BK145 := n3_; have HB := n4_; clear n0_ n1_ n2_ n3_ n4_; clear hb ho7) | ((with_reducible refine gate_draws ?_); go_quiet (first | ((with_reducible refine gate_dst (N := 2) rfl ?_); (try (refine gate_guard (by rfl) ?_; dsimp only)); refine box_event ?hg (N := 2) ?hd (cs := #[.int .i64 a0_0, .slice A0_1 l0_1.length c0_1]) (t := 31) ?hr ?_; (case hd => rfl); (case hg => rfl); (case hr => first | (go_simp; done) | (go_simp; rfl)); intro gb143 hg w3 hbox hb; have n0_ := Aside0.mk (below_step bl hb); have n1_ := Aside0.mk (hbox); have n2_ := Aside0.mk ((sz hg : w.heap.size ≤ gb143)); have n3_ := Aside0.mk ((sz hg : w.heap.size ≤ gb143)); clear HB; have HB := n0_; have BK143 := n1_; have GW143 := n2_; have GE143 := n3_; clear n0_ n1_ n2_ n3_; clear hb hbox hg) | ((with_reducible refine gate_dst (N := 3) rfl ?_); (try (refine gate_guard (by rfl) ?_; dsimp only)); refine box_event ?hg (N := 3) ?hd (cs := #[.int .i64 a1_0, .slice A1_1 l1_1.length c1_1]) (t := 31) ?hr ?_; (case hd => rfl); (case hg => rfl); (case hr => first | (go_simp; done) | (go_simp; rfl)); intro gb144 hg w4 hbox hb; have n0_ := Aside0.mk (bb (g := gb143) hb); have n1_ := Aside0.mk (below_step bl hb); have n2_ := Aside0.mk (hbox); have n3_ := Aside0.mk ((sz hg : w.heap.size ≤ gb144)); have n4_ := Aside0.mk ((sz hg : w.heap.size ≤ gb144)); have n5_ := Aside0.mk ((nl hg : gb143 ≠ gb144)); have n6_ := Aside0.mk ((ng hg : gb144 ≠ gb143)); clear BK143; clear HB; have BK143 := n0_; have HB := n1_; have BK144 := n2_; have GW144 := n3_; have GE144 := n4_; have NB143_144 := n5_; have NB144_143 := n6_; clear n0_ n1_ n2_ n3_ n4_ n5_ n6_; clear hb hbox hg) | ((with_reducible refine gate_dst (N := 4) rfl ?_); (try (refine gate_guard (by rfl) ?_; dsimp only)); refine box_event ?hg (N := 4) ?hd (cs := #[.int .i64 0, .slice none 0 0]) (t := 31) ?hr ?_; (case hd => rfl); (case hg => rfl); (case hr => first | (go_simp; done) | (go_simp; rfl)); intro gb145 hg w5 hbox hb; have n0_ := Aside0.mk (bb (g := gb143) hb); have n1_ := Aside0.mk (bb (g := gb144) hb); have n2_ := Aside0.mk (below_step bl hb); have n3_ := Aside0.mk (hbox); have n4_ := Aside0.mk ((sz hg : w.heap.size ≤ gb145)); have n5_ := Aside0.mk ((sz hg : w.heap.size ≤ gb145)); have n6_ := Aside0.mk ((nl hg : gb143 ≠ gb145)); have n7_ := Aside0.mk ((ng hg : gb145 ≠ gb143)); have n8_ := Aside0.mk ((nl hg : gb144 ≠ gb145)); have n9_ := Aside0.mk ((ng hg : gb145 ≠ gb144)); clear BK143; clear BK144; clear HB; have BK143 := n0_; have BK144 := n1_; have HB := n2_; have BK145 := n3_; have GW145 := n4_; have GE145 := n5_; have NB143_145 := n6_; have NB145_143 := n7_; have NB144_145 := n8_; have NB145_144 := n9_; clear n0_ n1_ n2_ n3_ n4_ n5_ n6_ n7_ n8_ n9_; clear hb hbox hg) | ((with_reducible refine gate_dst (N := 9) rfl ?_); (try (refine gate_guard (by rfl) ?_; dsimp only)); refine Kd.R_lit (Kd.int .u64) _ 27 ?hg (N := 9) ?hd (xs := ([] : List Int)) (inner := []) (ok := fun _ => True) (okp := fun _ => True) ?hr ?hp (fun _ hk => hk) trivial (Below.refl _ _) (Nat.le_refl _) (by simp) ?_; (case hd => rfl); (case hg => rfl); (case hr => first | (go_simp; done) | (go_simp; rfl)); (case hp => exact (Reps.none _ _)); intro v147 w6 ho7 hb hg_ hnew_; clear hg_ hnew_; (first | rw [← Ny146.out] at ho7 | (simp only [Int.reduceToNat] at ho7; rw [← Ny146.out] at ho7)); have n0_ := Aside0.mk (Kd.R_lower ho7 (below_size bl)); have n1_ := Aside0.mk (bb (g := gb143) hb); have n2_ := Aside0.mk (bb (g := gb144) hb); have n3_ := Aside0.mk (bb (g := gb145) hb); have n4_ := Aside0.mk (below_step bl hb); clear BK143; clear BK144; clear BK145; clear HB; have HO148 := n0_; have BK143 := n1_; have BK144 := n2_; have BK145 := n3_; have HB := n4_; clear n0_ n1_ n2_ n3_ n4_; clear hb ho7))))
  go_loopg [5, 6, 7] k (fun kq v5 v6 v7 w' => ∃ (x5_1 : List Int) (x6_1 : Int) (x7_1 : Int), v6 = .int .u64 x6_1 ∧ v7 = .int .i64 x7_1 ∧ Aside0 (rowlockref03_size.l0 kq x5_1 x6_1 x7_1 a0_0 l0_1 a1_0 l1_1 = some (r1, r2)) ∧ Aside0 (kq ≤ k) ∧ Aside0 (Kd.R (Kd.int .u64) 27 w' w.heap.size (fun _ => True) v5 x5_1) ∧ Aside0 (w'.heap[gb143]? = some (.cells #[.int .i64 a0_0, (.slice A0_1 l0_1.length c0_1)] 31 (0, 0))) ∧ Aside0 (w'.heap[gb144]? = some (.cells #[.int .i64 a1_0, (.slice A1_1 l1_1.length c1_1)] 31 (0, 0))) ∧ Aside0 (w'.heap[gb145]? = some (.cells #[.int .i64 0, (.slice none 0 0)] 31 (0, 0))) ∧ Aside0 (Below w.heap.size w w'))
  case atStart => exact ⟨(y146), (0), (0), (by first | rfl | (simp; done) | (simp [*]; done)), (by first | rfl | (simp; done) | (simp [*]; done)), H', ⟨Nat.le_refl _⟩, ⟨by (with_reducible repeat (first | apply Kd.R_alloc | apply Kd.R_drewN | apply Kd.R_drew)); exact HO148.out⟩, ⟨pk⟩, ⟨pk⟩, ⟨pk⟩, ⟨bl⟩⟩
  case round =>
    clear H'
    try clear c1
    try clear p2
    try clear c3
    obtain ⟨x5_1, x6_1, x7_1, rfl, rfl, HA, HK1, HO_5, BK143, BK144, BK145, HB⟩ := hrel
    cases gk with
    | zero => exact absurd HA.out (by simp [rowlockref03_size.l0])
    | succ k1 =>
      have H := HA.out
      clear HA
      simp only [rowlockref03_size.l0] at H
      have HC8 := Aside0.mk H
      clear H
      go_upto_region 4 with (((with_reducible refine gate_draws ?_); go_quiet (fail)))
      go_cut [25] (fun v25 wc => ∃ (kq : Nat) (x25_7 : Bool), v25 = .bool x25_7 ∧ Aside0 (rowlockref03_size.j1 kq x5_1 x6_1 x7_1 x25_7 a0_0 l0_1 a1_0 l1_1 = some (r1, r2)) ∧ Aside0 (kq ≤ k1) ∧ Aside0 (Kd.R (Kd.int .u64) 27 wc w.heap.size (fun _ => True) u5 x5_1) ∧ Aside0 (wc.heap[gb143]? = some (.cells #[.int .i64 a0_0, (.slice A0_1 l0_1.length c0_1)] 31 (0, 0))) ∧ Aside0 (wc.heap[gb144]? = some (.cells #[.int .i64 a1_0, (.slice A1_1 l1_1.length c1_1)] 31 (0, 0))) ∧ Aside0 (wc.heap[gb145]? = some (.cells #[.int .i64 0, (.slice none 0 0)] 31 (0, 0))) ∧ Aside0 (Below w.heap.size w wc))
      case first =>
        have H := HC8.out
        clear HC8
        by_cases c9 : x7_1 < (l0_1.length : Int)
        · rw [if_pos c9] at H
          have c9b0 : decide (x7_1 < (l0_1.length : Int)) = true := decide_eq_true c9
          clear c9
          (first | rw [c9b0] | (simp only [i64_w, i32_w]; rw [c9b0]) | skip)
          have H' := Aside0.mk H
          clear H
          have hnb10 := NB143_144.out
          have hnc10 := NB144_143.out
          have hnb11 := NB143_145.out
          have hnc11 := NB145_143.out
          have hcz12_0 : wr.cell? ⟨gb143, 0, none⟩ = some (.int .i64 a0_0) := (blk_cell BK143.out 0).trans rfl
          have hcz12_1 : wr.cell? ⟨gb143, 1, none⟩ = some (.slice A0_1 l0_1.length c0_1) := (blk_cell BK143.out 1).trans rfl
          have hfz12_0 := blk_frozen BK143.out 0
          have hfz12_1 := blk_frozen BK143.out 1
          go_wp2_with (((with_reducible refine gate_draws ?_); go_quiet (fail)))
          go_meet
          case rel => exact ⟨_, (true), (by first | rfl | (simp; done) | (simp [*]; done)), H', ⟨by have := HK1.out; first | omega | exact Nat.le_refl _⟩, ⟨by (with_reducible repeat (first | apply Kd.R_alloc | apply Kd.R_drewN | apply Kd.R_drew)); exact HO_5.out⟩, ⟨pk⟩, ⟨pk⟩, ⟨pk⟩, ⟨bl⟩⟩
        · rw [if_neg c9] at H
          have c9b0 : decide (x7_1 < (l0_1.length : Int)) = false := decide_eq_false c9
          clear c9
          (first | rw [c9b0] | (simp only [i64_w, i32_w]; rw [c9b0]) | skip)
          by_cases c13 : x7_1 < (l1_1.length : Int)
          · rw [if_pos c13] at H
            have c13b0 : decide (x7_1 < (l1_1.length : Int)) = true := decide_eq_true c13
            clear c13
            have H' := Aside0.mk H
            clear H
            have hnb14 := NB143_144.out
            have hnc14 := NB144_143.out
            have hnb15 := NB143_145.out
            have hnc15 := NB145_143.out
            have hcz16_0 : wr.cell? ⟨gb143, 0, none⟩ = some (.int .i64 a0_0) := (blk_cell BK143.out 0).trans rfl
            have hcz16_1 : wr.cell? ⟨gb143, 1, none⟩ = some (.slice A0_1 l0_1.length c0_1) := (blk_cell BK143.out 1).trans rfl
            have hfz16_0 := blk_frozen BK143.out 0
            have hfz16_1 := blk_frozen BK143.out 1
            have hnb17 := NB144_145.out
            have hnc17 := NB145_144.out
            have hcz18_0 : wr.cell? ⟨gb144, 0, none⟩ = some (.int .i64 a1_0) := (blk_cell BK144.out 0).trans rfl
            have hcz18_1 : wr.cell? ⟨gb144, 1, none⟩ = some (.slice A1_1 l1_1.length c1_1) := (blk_cell BK144.out 1).trans rfl
            have hfz18_0 := blk_frozen BK144.out 0
            have hfz18_1 := blk_frozen BK144.out 1
            go_wp2_with (((with_reducible refine gate_draws ?_); go_quiet (fail)))
            go_meet
            case rel => exact ⟨_, (true), (by first | rfl | (simp; done) | (simp [*]; done)), H', ⟨by have := HK1.out; first | omega | exact Nat.le_refl _⟩, ⟨by (with_reducible repeat (first | apply Kd.R_alloc | apply Kd.R_drewN | apply Kd.R_drew)); exact HO_5.out⟩, ⟨pk⟩, ⟨pk⟩, ⟨pk⟩, ⟨bl⟩⟩
          · rw [if_neg c13] at H
            have c13b0 : decide (x7_1 < (l1_1.length : Int)) = false := decide_eq_false c13
            clear c13
            have H' := Aside0.mk H
            clear H
            have hnb19 := NB143_144.out
            have hnc19 := NB144_143.out
            have hnb20 := NB143_145.out
            have hnc20 := NB145_143.out
            have hcz21_0 : wr.cell? ⟨gb143, 0, none⟩ = some (.int .i64 a0_0) := (blk_cell BK143.out 0).trans rfl
            have hcz21_1 : wr.cell? ⟨gb143, 1, none⟩ = some (.slice A0_1 l0_1.length c0_1) := (blk_cell BK143.out 1).trans rfl
            have hfz21_0 := blk_frozen BK143.out 0
            have hfz21_1 := blk_frozen BK143.out 1
            have hnb22 := NB144_145.out
            have hnc22 := NB145_144.out
            have hcz23_0 : wr.cell? ⟨gb144, 0, none⟩ = some (.int .i64 a1_0) := (blk_cell BK144.out 0).trans rfl
            have hcz23_1 : wr.cell? ⟨gb144, 1, none⟩ = some (.slice A1_1 l1_1.length c1_1) := (blk_cell BK144.out 1).trans rfl
            have hfz23_0 := blk_frozen BK144.out 0
            have hfz23_1 := blk_frozen BK144.out 1
            go_wp2_with (((with_reducible refine gate_draws ?_); go_quiet (fail)))
            go_meet
            case rel => exact ⟨_, (decide (x6_1 > 0)), (by first | rfl | (simp; done) | (simp [*]; done)), H', ⟨by have := HK1.out; first | omega | exact Nat.le_refl _⟩, ⟨by (with_reducible repeat (first | apply Kd.R_alloc | apply Kd.R_drewN | apply Kd.R_drew)); exact HO_5.out⟩, ⟨pk⟩, ⟨pk⟩, ⟨pk⟩, ⟨bl⟩⟩
      case rest =>
        clear HC8
        try clear c1
        try clear c2
        try clear p2
        try clear c3
        try clear c9
        try clear c9b0
        try clear c10
        try clear c11
        try clear c13
        try clear c13b0
        try clear c14
        try clear c15
        try clear c17
        try clear c19
        try clear c20
        try clear c22
        try clear hcz12_0
        try clear hcz12_1
        try clear hcz16_0
        try clear hcz16_1
        try clear hcz18_0
        try clear hcz18_1
        try clear hcz21_0
        try clear hcz21_1
        try clear hcz23_0
        try clear hcz23_1
        try clear hfz12_0
        try clear hfz12_1
        try clear hfz16_0
        try clear hfz16_1
        try clear hfz18_0
        try clear hfz18_1
        try clear hfz21_0
        try clear hfz21_1
        try clear hfz23_0
        try clear hfz23_1
        try clear p2
        obtain ⟨kq, x25_7, rfl, HA, HJ7, HO_5, BK143, BK144, BK145, HB⟩ := hcut
        cases kq with
        | zero => exact absurd HA.out (by simp [rowlockref03_size.j1])
        | succ kj7 =>
          have H := HA.out
          clear HA
          simp only [rowlockref03_size.j1] at H
          by_cases c24 : x25_7 = true
          · subst c24
            have H1 : ((rowlockref03_digit.f l0_1 x7_1).bind fun t149 => ((rowlockref03_digit.f l1_1 x7_1).bind fun t150 => (if x5_1.length < 17592186044416 then (rowlockref03_size.l0 kj7 (x5_1 ++ [Int.tmod (IntKind.u64.wrap ((IntKind.u64.wrap (t149 + t150)) + x6_1)) 65536]) (IntKind.u64.wrap (Int.tdiv (IntKind.u64.wrap ((IntKind.u64.wrap (t149 + t150)) + x6_1)) 65536)) (wrap64 (x7_1 + 1)) a0_0 l0_1 a1_0 l1_1) else (none)))) = some (r1, r2) := by rw [if_pos rfl] at H; exact H
            clear H
            have H := H1
            clear H1
            replace H := Option.bind_eq_some_iff.mp H
            obtain ⟨t149, A250, H⟩ := H
            replace H : ((rowlockref03_digit.f l1_1 x7_1).bind fun t150 => (if x5_1.length < 17592186044416 then (rowlockref03_size.l0 kj7 (x5_1 ++ [Int.tmod (IntKind.u64.wrap ((IntKind.u64.wrap (t149 + t150)) + x6_1)) 65536]) (IntKind.u64.wrap (Int.tdiv (IntKind.u64.wrap ((IntKind.u64.wrap (t149 + t150)) + x6_1)) 65536)) (wrap64 (x7_1 + 1)) a0_0 l0_1 a1_0 l1_1) else (none))) = some (r1, r2) := H
            have A25 := Aside0.mk A250
            clear A250
            replace H := Option.bind_eq_some_iff.mp H
            obtain ⟨t150, A260, H⟩ := H
            replace H : (if x5_1.length < 17592186044416 then (rowlockref03_size.l0 kj7 (x5_1 ++ [Int.tmod (IntKind.u64.wrap ((IntKind.u64.wrap (t149 + t150)) + x6_1)) 65536]) (IntKind.u64.wrap (Int.tdiv (IntKind.u64.wrap ((IntKind.u64.wrap (t149 + t150)) + x6_1)) 65536)) (wrap64 (x7_1 + 1)) a0_0 l0_1 a1_0 l1_1) else (none)) = some (r1, r2) := H
            have A26 := Aside0.mk A260
            clear A260
            by_cases c27 : x5_1.length < 17592186044416
            · rw [if_pos c27] at H
              have LMc27 := Aside0.mk c27
              clear c27
              obtain ⟨y151, hy151⟩ : ∃ y_ : List Int, y_ = (x5_1 ++ [Int.tmod (IntKind.u64.wrap ((IntKind.u64.wrap (t149 + t150)) + x6_1)) 65536]) := ⟨_, rfl⟩
              replace H : (rowlockref03_size.l0 kj7 y151 (IntKind.u64.wrap (Int.tdiv (IntKind.u64.wrap ((IntKind.u64.wrap (t149 + t150)) + x6_1)) 65536)) (wrap64 (x7_1 + 1)) a0_0 l0_1 a1_0 l1_1) = some (r1, r2) := by first | (rw [hy151]; with_reducible exact H) | (have H2_ := (Option.bind_some _ _).symm.trans H; rw [hy151]; with_reducible exact H2_) | (have H2_ := (Option.bind_some _ _).symm.trans H; with_reducible exact H2_) | with_reducible exact H | (rw [hy151]; exact H) | exact H
              have Ny151 := Aside0.mk hy151
              clear hy151
              have H' := Aside0.mk H
              clear H
              have hnb28 := NB143_144.out
              have hnc28 := NB144_143.out
              have hnb29 := NB143_145.out
              have hnc29 := NB145_143.out
              have hcz30_0 : wc.cell? ⟨gb143, 0, none⟩ = some (.int .i64 a0_0) := (blk_cell BK143.out 0).trans rfl
              have hcz30_1 : wc.cell? ⟨gb143, 1, none⟩ = some (.slice A0_1 l0_1.length c0_1) := (blk_cell BK143.out 1).trans rfl
              have hfz30_0 := blk_frozen BK143.out 0
              have hfz30_1 := blk_frozen BK143.out 1
              go_wp2_with (first | (go_at_call 32; (with_reducible refine (rowlockref03_digit.calls _ _ l0_1 x7_1 t149 _ ?side1 ?side2 A25.out).mono ?_); (case side1 => exact cb); (case side2 => exact HC0_1.out); rintro e w' ⟨rfl, ⟨nd, rfl⟩⟩; (try first | exact ⟨rfl, _, World.drewN_drewN _ _ _⟩ | exact ⟨rfl, _, Eq.trans (World.drewN_drewN _ _ _) (congrArg (World.drewN _) (Nat.add_assoc _ _ _))⟩); have hnb31 := NB144_145.out; have hnc31 := NB145_144.out; have hcz32_0 : wc.cell? ⟨gb144, 0, none⟩ = some (.int .i64 a1_0) := (blk_cell BK144.out 0).trans rfl; have hcz32_1 : wc.cell? ⟨gb144, 1, none⟩ = some (.slice A1_1 l1_1.length c1_1) := (blk_cell BK144.out 1).trans rfl; have hfz32_0 := blk_frozen BK144.out 0; have hfz32_1 := blk_frozen BK144.out 1) | (go_at_call 32; (with_reducible refine (rowlockref03_digit.calls _ _ l1_1 x7_1 t150 _ ?side1 ?side2 A26.out).mono ?_); (case side1 => repeat (first | exact (Kd.C_below HR1_1.out bl) | (with_reducible refine Kd.C_alloc ?_ _) | (with_reducible refine Kd.C_drewN ?_ _) | (with_reducible refine Kd.C_drew ?_))); (case side2 => exact HC1_1.out); rintro e w' ⟨rfl, ⟨nd, rfl⟩⟩; (try first | exact ⟨rfl, _, World.drewN_drewN _ _ _⟩ | exact ⟨rfl, _, Eq.trans (World.drewN_drewN _ _ _) (congrArg (World.drewN _) (Nat.add_assoc _ _ _))⟩)) | ((with_reducible refine gate_builtin (b := .append) (xs := #[.tmp 39, .tmp 42]) rfl ?_); (try (refine gate_guard (by rfl) ?_; dsimp only)); at_builtin; refine Kd.R_append (Kd.int .u64) (w0 := w) w.heap.size rfl (.tmp 39) (.tmp 42) 29 27 (.int .u64 0) 8 rfl Try.underlying29 info27 rfl (by decide) (by omega) u5 x5_1 (Int.tmod (IntKind.u64.wrap ((IntKind.u64.wrap (t149 + t150)) + x6_1)) 65536) [.int .u64 (Int.tmod (IntKind.u64.wrap ((IntKind.u64.wrap (t149 + t150)) + x6_1)) 65536)] (fun _ => True) (fun _ => False) rfl rfl ?aP (fun _ hk => hk.elim) ?aF ?aO ?aB ?aS ?aL ?_; (case aP => exact rfl); (case aB => exact bl); (case aF => exact (fun _ _ => trivial)); (case aO => exact (rk HO_5)); (case aS => exact (below_size bl)); (case aL => have := LMc27.out; omega); intro v152 w33 ho hb hg hat; rw [← Ny151.out] at ho; have n0_ := Aside0.mk (blk_grown (g := gb143) (o := .cells #[.int .i64 a0_0, .slice A0_1 l0_1.length c0_1] 31 (0, 0)) pk hg (Kd.R_ne HO_5.out BK143.out (by decide))); have n1_ := Aside0.mk (blk_grown (g := gb144) (o := .cells #[.int .i64 a1_0, .slice A1_1 l1_1.length c1_1] 31 (0, 0)) pk hg (Kd.R_ne HO_5.out BK144.out (by decide))); have n2_ := Aside0.mk (blk_grown (g := gb145) (o := .cells #[.int .i64 0, .slice none 0 0] 31 (0, 0)) pk hg (Kd.R_ne HO_5.out BK145.out (by decide))); have n3_ := Aside0.mk (hb); have n4_ := Aside0.mk (ho); clear BK143; clear BK144; clear BK145; clear HB; clear HO_5; have BK143 := n0_; have BK144 := n1_; have BK145 := n2_; have HB := n3_; have HO153 := n4_; clear n0_ n1_ n2_ n3_ n4_; clear ho hb hg hat) | ((with_reducible refine gate_draws ?_); go_quiet (first | (go_at_call 32; (with_reducible refine (rowlockref03_digit.calls _ _ l0_1 x7_1 t149 _ ?side1 ?side2 A25.out).mono ?_); (case side1 => exact cb); (case side2 => exact HC0_1.out); rintro e w' ⟨rfl, ⟨nd, rfl⟩⟩; (try first | exact ⟨rfl, _, World.drewN_drewN _ _ _⟩ | exact ⟨rfl, _, Eq.trans (World.drewN_drewN _ _ _) (congrArg (World.drewN _) (Nat.add_assoc _ _ _))⟩); have hnb31 := NB144_145.out; have hnc31 := NB145_144.out; have hcz32_0 : wc.cell? ⟨gb144, 0, none⟩ = some (.int .i64 a1_0) := (blk_cell BK144.out 0).trans rfl; have hcz32_1 : wc.cell? ⟨gb144, 1, none⟩ = some (.slice A1_1 l1_1.length c1_1) := (blk_cell BK144.out 1).trans rfl; have hfz32_0 := blk_frozen BK144.out 0; have hfz32_1 := blk_frozen BK144.out 1) | (go_at_call 32; (with_reducible refine (rowlockref03_digit.calls _ _ l1_1 x7_1 t150 _ ?side1 ?side2 A26.out).mono ?_); (case side1 => repeat (first | exact (Kd.C_below HR1_1.out bl) | (with_reducible refine Kd.C_alloc ?_ _) | (with_reducible refine Kd.C_drewN ?_ _) | (with_reducible refine Kd.C_drew ?_))); (case side2 => exact HC1_1.out); rintro e w' ⟨rfl, ⟨nd, rfl⟩⟩; (try first | exact ⟨rfl, _, World.drewN_drewN _ _ _⟩ | exact ⟨rfl, _, Eq.trans (World.drewN_drewN _ _ _) (congrArg (World.drewN _) (Nat.add_assoc _ _ _))⟩)) | ((with_reducible refine gate_builtin (b := .append) (xs := #[.tmp 39, .tmp 42]) rfl ?_); (try (refine gate_guard (by rfl) ?_; dsimp only)); at_builtin; refine Kd.R_append (Kd.int .u64) (w0 := w) w.heap.size rfl (.tmp 39) (.tmp 42) 29 27 (.int .u64 0) 8 rfl Try.underlying29 info27 rfl (by decide) (by omega) u5 x5_1 (Int.tmod (IntKind.u64.wrap ((IntKind.u64.wrap (t149 + t150)) + x6_1)) 65536) [.int .u64 (Int.tmod (IntKind.u64.wrap ((IntKind.u64.wrap (t149 + t150)) + x6_1)) 65536)] (fun _ => True) (fun _ => False) rfl rfl ?aP (fun _ hk => hk.elim) ?aF ?aO ?aB ?aS ?aL ?_; (case aP => exact rfl); (case aB => exact bl); (case aF => exact (fun _ _ => trivial)); (case aO => exact (rk HO_5)); (case aS => exact (below_size bl)); (case aL => have := LMc27.out; omega); intro v152 w33 ho hb hg hat; rw [← Ny151.out] at ho; have n0_ := Aside0.mk (blk_grown (g := gb143) (o := .cells #[.int .i64 a0_0, .slice A0_1 l0_1.length c0_1] 31 (0, 0)) pk hg (Kd.R_ne HO_5.out BK143.out (by decide))); have n1_ := Aside0.mk (blk_grown (g := gb144) (o := .cells #[.int .i64 a1_0, .slice A1_1 l1_1.length c1_1] 31 (0, 0)) pk hg (Kd.R_ne HO_5.out BK144.out (by decide))); have n2_ := Aside0.mk (blk_grown (g := gb145) (o := .cells #[.int .i64 0, .slice none 0 0] 31 (0, 0)) pk hg (Kd.R_ne HO_5.out BK145.out (by decide))); have n3_ := Aside0.mk (hb); have n4_ := Aside0.mk (ho); clear BK143; clear BK144; clear BK145; clear HB; clear HO_5; have BK143 := n0_; have BK144 := n1_; have BK145 := n2_; have HB := n3_; have HO153 := n4_; clear n0_ n1_ n2_ n3_ n4_; clear ho hb hg hat))))
              go_roundg kj7
              case measure => have := HK1.out; have := HJ7.out; omega
              case rel => exact ⟨(y151), (IntKind.u64.wrap (Int.tdiv (IntKind.u64.wrap ((IntKind.u64.wrap (t149 + t150)) + x6_1)) 65536)), (wrap64 (x7_1 + 1)), (by first | rfl | (simp; done) | (simp [*]; done)), (by first | rfl | (simp; done) | (simp [*]; done)), H', ⟨by have := HK1.out; have := HJ7.out; omega⟩, ⟨by (with_reducible repeat (first | apply Kd.R_alloc | apply Kd.R_drewN | apply Kd.R_drew)); exact HO153.out⟩, ⟨pk⟩, ⟨pk⟩, ⟨pk⟩, ⟨bl⟩⟩
            · rw [if_neg c27] at H
              exact absurd H (by simp)
          · replace c24 := Bool.eq_false_iff.mpr c24
            subst c24
            have H1 : (some (1, x5_1)) = some (r1, r2) := by rw [if_neg (show ¬ (false = true) by decide)] at H; exact H
            clear H
            have H := H1
            clear H1
            simp only [Option.some.injEq, Prod.mk.injEq] at H
            obtain ⟨rfl, rfl⟩ := H
            obtain ⟨Ao34, co34, eo34⟩ := Kd.R_slice HO_5.out
            subst eo34
            have hnb35 := NB145_143.out
            have hnc35 := NB143_145.out
            have hnb36 := NB145_144.out
            have hnc36 := NB144_145.out
            have hcz37_0 : wc.cell? ⟨gb145, 0, none⟩ = some (.int .i64 0) := (blk_cell BK145.out 0).trans rfl
            have hcz37_1 : wc.cell? ⟨gb145, 1, none⟩ = some (.slice none 0 0) := (blk_cell BK145.out 1).trans rfl
            have hfz37_0 := blk_frozen BK145.out 0
            have hfz37_1 := blk_frozen BK145.out 1
            go_wp2_with (((with_reducible refine gate_draws ?_); go_quiet (fail)))
            refine bodyPost_ret (results_cell_row rfl _ _ gb145 31 #[.int .i64 1, .slice Ao34 x5_1.length co34] (0, 0) _ rfl (by (with_reducible repeat (first | refine blk_drewN ?_ _ | refine blk_drew ?_ | refine blk_alloc ?_ _)); refine blk_put (cs := #[.int .i64 1, .slice none 0 0]) ?_ 1 _ rfl; (with_reducible repeat (first | refine blk_drewN ?_ _ | refine blk_drew ?_ | refine blk_alloc ?_ _)); refine blk_put (cs := #[.int .i64 0, .slice none 0 0]) ?_ 0 _ rfl; (with_reducible repeat (first | refine blk_drewN ?_ _ | refine blk_drew ?_ | refine blk_alloc ?_ _)); exact BK145.out) Try.underlying31 rfl (by kernel_rfl)) rfl ?_
            exact ⟨_, by first | rfl | (simp [errW_none, errW_some] <;> rfl) | (simp [*, errW_none, errW_some] <;> rfl), by (with_reducible repeat (first | apply Kd.R_alloc | apply Kd.R_drewN | apply Kd.R_drew)); exact Kd.R_mono (Kd.R_far (p := ⟨gb145, 1, none⟩) (Kd.R_far (p := ⟨gb145, 0, none⟩) (Kd.R_types HO_5.out BK145.out (by decide)) (fun _ hk => hk.2) (.int .i64 1)) (fun _ hk => hk.2) (.slice Ao34 x5_1.length co34)) (fun _ hk => trivial), bl⟩

/-! ### rowlockref03_Times: function 12 -/
mutual
def rowlockref03_Times.l0 : Nat → Int → Int → Int → List Int → Int → List Int → Int → List Int → Option (Int × List Int)
  | 0, _, _, _, _, _, _, _, _ => none
  | k + 1, x15, x16, x155000, x155001, x156000, x156001, x162000, x162001 => if x16 < x15 then (rowlockref03_Times.l1 k x16 (([] : List Int)) 0 x15 x16 x155000 x155001 x156000 x156001 x162000 x162001) else (some (wrap64 (x155000 * x156000), x162001))
def rowlockref03_Times.l1 : Nat → Int → List Int → Int → Int → Int → Int → List Int → Int → List Int → Int → List Int → Option (Int × List Int)
  | 0, _, _, _, _, _, _, _, _, _, _, _ => none
  | k + 1, x6, x7, x8, x15, x16, x155000, x155001, x156000, x156001, x162000, x162001 => if x8 < x6 then (if x7.length < 17592186044416 then (rowlockref03_Times.l1 k x6 (x7 ++ [0]) (wrap64 (x8 + 1)) x15 x16 x155000 x155001 x156000 x156001 x162000 x162001) else (none)) else (rowlockref03_Times.l2 k x6 x7 0 x15 x16 (x155001.length : Int) 0 x155000 x155001 x156000 x156001 x162000 x162001)
def rowlockref03_Times.l2 : Nat → Int → List Int → Int → Int → Int → Int → Int → Int → List Int → Int → List Int → Int → List Int → Option (Int × List Int)
  | 0, _, _, _, _, _, _, _, _, _, _, _, _, _ => none
  | k + 1, x6, x7, x9, x15, x16, x30, x31, x155000, x155001, x156000, x156001, x162000, x162001 => if x31 < x30 then (if 0 ≤ x31 then (if x31 < (x155001.length : Int) then (if 0 ≤ x6 then (if x6 < (x156001.length : Int) then (if x7.length < 17592186044416 then (rowlockref03_Times.l2 k x6 (x7 ++ [Int.tmod (IntKind.u64.wrap ((IntKind.u64.wrap ((rd x155001 x31) * (rd x156001 x6))) + x9)) 65536]) (IntKind.u64.wrap (Int.tdiv (IntKind.u64.wrap ((IntKind.u64.wrap ((rd x155001 x31) * (rd x156001 x6))) + x9)) 65536)) x15 x16 x30 (wrap64 (x31 + 1)) x155000 x155001 x156000 x156001 x162000 x162001) else (none)) else (none)) else (none)) else (none)) else (none)) else (if x7.length < 17592186044416 then ((rowlockref03_size.f k x162000 x162001 1 (x7 ++ [x9])).bind fun bt176 => (rowlockref03_Times.l0 k x15 (wrap64 (x16 + 1)) x155000 x155001 x156000 x156001 bt176.1 bt176.2)) else (none))
end
def rowlockref03_Times.f (k : Nat) (a0_0 : Int) (l0_1 : List Int) (a1_0 : Int) (l1_1 : List Int) : Option (Int × List Int) := (rowlockref03_Whole.f k 0).bind fun bt157 => (rowlockref03_Times.l0 k (l1_1.length : Int) 0 a0_0 l0_1 a1_0 l1_1 bt157.1 bt157.2)
theorem rowlockref03_Times.mono_l : ∀ k, (∀ y0 y1 y2 y3 y4 y5 y6 y7, LeO (rowlockref03_Times.l0 k y0 y1 y2 y3 y4 y5 y6 y7) (rowlockref03_Times.l0 (k + 1) y0 y1 y2 y3 y4 y5 y6 y7)) ∧ (∀ y0 y1 y2 y3 y4 y5 y6 y7 y8 y9 y10, LeO (rowlockref03_Times.l1 k y0 y1 y2 y3 y4 y5 y6 y7 y8 y9 y10) (rowlockref03_Times.l1 (k + 1) y0 y1 y2 y3 y4 y5 y6 y7 y8 y9 y10)) ∧ (∀ y0 y1 y2 y3 y4 y5 y6 y7 y8 y9 y10 y11 y12, LeO (rowlockref03_Times.l2 k y0 y1 y2 y3 y4 y5 y6 y7 y8 y9 y10 y11 y12) (rowlockref03_Times.l2 (k + 1) y0 y1 y2 y3 y4 y5 y6 y7 y8 y9 y10 y11 y12))
  | 0 => ⟨fun _ _ _ _ _ _ _ _ r h => by simp [rowlockref03_Times.l0] at h, fun _ _ _ _ _ _ _ _ _ _ _ r h => by simp [rowlockref03_Times.l1] at h, fun _ _ _ _ _ _ _ _ _ _ _ _ _ r h => by simp [rowlockref03_Times.l2] at h⟩
  | k + 1 => by
    obtain ⟨ih0, ih1, ih2⟩ := rowlockref03_Times.mono_l k
    refine ⟨?_, ?_, ?_⟩
    · intro y0 y1 y2 y3 y4 y5 y6 y7
      unfold rowlockref03_Times.l0
      repeat' first
      | (with_reducible exact ih0 _ _ _ _ _ _ _ _)
      | (with_reducible exact ih1 _ _ _ _ _ _ _ _ _ _ _)
      | (with_reducible exact ih2 _ _ _ _ _ _ _ _ _ _ _ _ _)
      | (with_reducible exact rowlockref03_Whole.mono _ _)
      | (with_reducible exact rowlockref03_size.mono _ _ _ _ _)
      | (with_reducible exact LeO.refl _)
      | (with_reducible exact LeO.none _)
      | (with_reducible refine LeO.ite ?_ ?_)
      | (with_reducible refine LeO.bind ?_ (fun _ => ?_))
      | exact ih0 _ _ _ _ _ _ _ _
      | exact ih1 _ _ _ _ _ _ _ _ _ _ _
      | exact ih2 _ _ _ _ _ _ _ _ _ _ _ _ _
      | exact rowlockref03_Whole.mono _ _
      | exact rowlockref03_size.mono _ _ _ _ _
      | exact LeO.none _
      | refine LeO.ite ?_ ?_
      | refine LeO.bind ?_ (fun _ => ?_)
    · intro y0 y1 y2 y3 y4 y5 y6 y7 y8 y9 y10
      unfold rowlockref03_Times.l1
      repeat' first
      | (with_reducible exact ih0 _ _ _ _ _ _ _ _)
      | (with_reducible exact ih1 _ _ _ _ _ _ _ _ _ _ _)
      | (with_reducible exact ih2 _ _ _ _ _ _ _ _ _ _ _ _ _)
      | (with_reducible exact rowlockref03_Whole.mono _ _)
      | (with_reducible exact rowlockref03_size.mono _ _ _ _ _)
      | (with_reducible exact LeO.refl _)
      | (with_reducible exact LeO.none _)
      | (with_reducible refine LeO.ite ?_ ?_)
      | (with_reducible refine LeO.bind ?_ (fun _ => ?_))
      | exact ih0 _ _ _ _ _ _ _ _
      | exact ih1 _ _ _ _ _ _ _ _ _ _ _
      | exact ih2 _ _ _ _ _ _ _ _ _ _ _ _ _
      | exact rowlockref03_Whole.mono _ _
      | exact rowlockref03_size.mono _ _ _ _ _
      | exact LeO.none _
      | refine LeO.ite ?_ ?_
      | refine LeO.bind ?_ (fun _ => ?_)
    · intro y0 y1 y2 y3 y4 y5 y6 y7 y8 y9 y10 y11 y12
      unfold rowlockref03_Times.l2
      repeat' first
      | (with_reducible exact ih0 _ _ _ _ _ _ _ _)
      | (with_reducible exact ih1 _ _ _ _ _ _ _ _ _ _ _)
      | (with_reducible exact ih2 _ _ _ _ _ _ _ _ _ _ _ _ _)
      | (with_reducible exact rowlockref03_Whole.mono _ _)
      | (with_reducible exact rowlockref03_size.mono _ _ _ _ _)
      | (with_reducible exact LeO.refl _)
      | (with_reducible exact LeO.none _)
      | (with_reducible refine LeO.ite ?_ ?_)
      | (with_reducible refine LeO.bind ?_ (fun _ => ?_))
      | exact ih0 _ _ _ _ _ _ _ _
      | exact ih1 _ _ _ _ _ _ _ _ _ _ _
      | exact ih2 _ _ _ _ _ _ _ _ _ _ _ _ _
      | exact rowlockref03_Whole.mono _ _
      | exact rowlockref03_size.mono _ _ _ _ _
      | exact LeO.none _
      | refine LeO.ite ?_ ?_
      | refine LeO.bind ?_ (fun _ => ?_)
theorem rowlockref03_Times.mono : ∀ a0 a1 a2 a3 k, LeO (rowlockref03_Times.f k a0 a1 a2 a3) (rowlockref03_Times.f (k + 1) a0 a1 a2 a3) := by
  intro a0 a1 a2 a3 k
  obtain ⟨ih0, ih1, ih2⟩ := rowlockref03_Times.mono_l k
  unfold rowlockref03_Times.f
  repeat' first
      | (with_reducible exact ih0 _ _ _ _ _ _ _ _)
      | (with_reducible exact ih1 _ _ _ _ _ _ _ _ _ _ _)
      | (with_reducible exact ih2 _ _ _ _ _ _ _ _ _ _ _ _ _)
      | (with_reducible exact rowlockref03_Whole.mono _ _)
      | (with_reducible exact rowlockref03_size.mono _ _ _ _ _)
      | (with_reducible exact LeO.refl _)
      | (with_reducible exact LeO.none _)
      | (with_reducible refine LeO.ite ?_ ?_)
      | (with_reducible refine LeO.bind ?_ (fun _ => ?_))
      | exact ih0 _ _ _ _ _ _ _ _
      | exact ih1 _ _ _ _ _ _ _ _ _ _ _
      | exact ih2 _ _ _ _ _ _ _ _ _ _ _ _ _
      | exact rowlockref03_Whole.mono _ _
      | exact rowlockref03_size.mono _ _ _ _ _
      | exact LeO.none _
      | refine LeO.ite ?_ ?_
      | refine LeO.bind ?_ (fun _ => ?_)
set_option maxHeartbeats 8000000 in
set_option maxRecDepth 100000 in
theorem rowlockref03_Times.calls (k : Nat) (a0_0 : Int) (A0_1 : Option Addr) (c0_1 : Nat) (l0_1 : List Int) (a1_0 : Int) (A1_1 : Option Addr) (c1_1 : Nat) (l1_1 : List Int) (r1 : Int) (r2 : List Int) (w : World) (hr0_1 : Kd.C (Kd.int .u64) w A0_1 l0_1.length l0_1) (hc0_1 : l0_1.length ≤ c0_1) (hr1_1 : Kd.C (Kd.int .u64) w A1_1 l1_1.length l1_1) (hc1_1 : l1_1.length ≤ c1_1) (h : rowlockref03_Times.f k a0_0 l0_1 a1_0 l1_1 = some (r1, r2)) :
    Calls Try.prog 12 #[.agg #[.int .i64 a0_0, .slice A0_1 l0_1.length c0_1], .agg #[.int .i64 a1_0, .slice A1_1 l1_1.length c1_1]] w fun e w' => ∃ v1_ : Value, e = .returned (.agg #[.int .i64 r1, v1_]) ∧ Kd.R (Kd.int .u64) 27 w' w.heap.size (fun _ => True) v1_ r2 ∧ Below w.heap.size w w' := by
  have hu31 := Try.underlying31
  have HR0_1 := Aside0.mk hr0_1
  have HC0_1 := Aside0.mk hc0_1
  clear hr0_1 hc0_1
  have HR1_1 := Aside0.mk hr1_1
  have HC1_1 := Aside0.mk hc1_1
  clear hr1_1 hc1_1
  have HB := Aside0.mk (Below.refl w.heap.size w)
  have H : ((rowlockref03_Whole.f k 0).bind fun bt157 => (rowlockref03_Times.l0 k (l1_1.length : Int) 0 a0_0 l0_1 a1_0 l1_1 bt157.1 bt157.2)) = some (r1, r2) := h
  clear h
  replace H := Option.bind_eq_some_iff.mp H
  obtain ⟨⟨t157, t158⟩, A30, H⟩ := H
  replace H : (rowlockref03_Times.l0 k (l1_1.length : Int) 0 a0_0 l0_1 a1_0 l1_1 t157 t158) = some (r1, r2) := H
  have A3 := Aside0.mk A30
  clear A30
  have H' := Aside0.mk H
  clear H
  go_enter Try.func12, Try.ntmps12
  go_wp2_with (first | ((with_reducible refine gate_dst (N := 2) rfl ?_); refine box_event ?hg (N := 2) ?hd (cs := #[.int .i64 a0_0, .slice A0_1 l0_1.length c0_1]) (t := 31) ?hr ?_; (case hd => rfl); (case hg => rfl); (case hr => first | (go_simp; done) | (go_simp; rfl)); intro gb154 hg w4 hbox hb; have n0_ := Aside0.mk (below_step bl hb); have n1_ := Aside0.mk (hbox); have n2_ := Aside0.mk ((sz hg : w.heap.size ≤ gb154)); have n3_ := Aside0.mk ((sz hg : w.heap.size ≤ gb154)); clear HB; have HB := n0_; have BK154 := n1_; have GW154 := n2_; have GE154 := n3_; clear n0_ n1_ n2_ n3_; clear hb hbox hg) | ((with_reducible refine gate_dst (N := 3) rfl ?_); refine box_event ?hg (N := 3) ?hd (cs := #[.int .i64 a1_0, .slice A1_1 l1_1.length c1_1]) (t := 31) ?hr ?_; (case hd => rfl); (case hg => rfl); (case hr => first | (go_simp; done) | (go_simp; rfl)); intro gb155 hg w5 hbox hb; have n0_ := Aside0.mk (bb (g := gb154) hb); have n1_ := Aside0.mk (below_step bl hb); have n2_ := Aside0.mk (hbox); have n3_ := Aside0.mk ((sz hg : w.heap.size ≤ gb155)); have n4_ := Aside0.mk ((sz hg : w.heap.size ≤ gb155)); have n5_ := Aside0.mk ((nl hg : gb154 ≠ gb155)); have n6_ := Aside0.mk ((ng hg : gb155 ≠ gb154)); clear BK154; clear HB; have BK154 := n0_; have HB := n1_; have BK155 := n2_; have GW155 := n3_; have GE155 := n4_; have NB154_155 := n5_; have NB155_154 := n6_; clear n0_ n1_ n2_ n3_ n4_ n5_ n6_; clear hb hbox hg) | ((with_reducible refine gate_dst (N := 4) rfl ?_); refine box_event ?hg (N := 4) ?hd (cs := #[.int .i64 0, .slice none 0 0]) (t := 31) ?hr ?_; (case hd => rfl); (case hg => rfl); (case hr => first | (go_simp; done) | (go_simp; rfl)); intro gb156 hg w6 hbox hb; have n0_ := Aside0.mk (bb (g := gb154) hb); have n1_ := Aside0.mk (bb (g := gb155) hb); have n2_ := Aside0.mk (below_step bl hb); have n3_ := Aside0.mk (hbox); have n4_ := Aside0.mk ((sz hg : w.heap.size ≤ gb156)); have n5_ := Aside0.mk ((sz hg : w.heap.size ≤ gb156)); have n6_ := Aside0.mk ((nl hg : gb154 ≠ gb156)); have n7_ := Aside0.mk ((ng hg : gb156 ≠ gb154)); have n8_ := Aside0.mk ((nl hg : gb155 ≠ gb156)); have n9_ := Aside0.mk ((ng hg : gb156 ≠ gb155)); clear BK154; clear BK155; clear HB; have BK154 := n0_; have BK155 := n1_; have HB := n2_; have BK156 := n3_; have GW156 := n4_; have GE156 := n5_; have NB154_156 := n6_; have NB156_154 := n7_; have NB155_156 := n8_; have NB156_155 := n9_; clear n0_ n1_ n2_ n3_ n4_ n5_ n6_ n7_ n8_ n9_; clear hb hbox hg) | (go_at_call 13; (with_reducible refine (rowlockref03_Whole.calls k 0 t157 t158 _ A3.out).mono ?_); rintro e w7 ⟨v159, rfl, ho0, hb⟩; have n0_ := Aside0.mk (Kd.R_lower ho0 (below_size bl)); have n1_ := Aside0.mk (bb (g := gb154) hb); have n2_ := Aside0.mk (bb (g := gb155) hb); have n3_ := Aside0.mk (bb (g := gb156) hb); have n4_ := Aside0.mk (below_step bl hb); clear BK154; clear BK155; clear BK156; clear HB; have HO160 := n0_; have BK154 := n1_; have BK155 := n2_; have BK156 := n3_; have HB := n4_; clear n0_ n1_ n2_ n3_ n4_; (try clear hb); (try clear hb2); (try clear hk); (try clear hi); (try clear ho0)) | ((with_reducible refine gate_dst (N := 5) rfl ?_); refine box_event ?hg (N := 5) ?hd (cs := #[.int .i64 0, .slice none 0 0]) (t := 31) ?hr ?_; (case hd => rfl); (case hg => rfl); (case hr => first | (go_simp; done) | (go_simp; rfl)); intro gb161 hg w8 hbox hb; have n0_ := Aside0.mk (Kd.R_below (rk HO160) hb); have n1_ := Aside0.mk (bb (g := gb154) hb); have n2_ := Aside0.mk (bb (g := gb155) hb); have n3_ := Aside0.mk (bb (g := gb156) hb); have n4_ := Aside0.mk (below_step bl hb); have n5_ := Aside0.mk (hbox); have n6_ := Aside0.mk ((sz hg : w.heap.size ≤ gb161)); have n7_ := Aside0.mk ((sz hg : w.heap.size ≤ gb161)); have n8_ := Aside0.mk ((nl hg : gb154 ≠ gb161)); have n9_ := Aside0.mk ((ng hg : gb161 ≠ gb154)); have n10_ := Aside0.mk ((nl hg : gb155 ≠ gb161)); have n11_ := Aside0.mk ((ng hg : gb161 ≠ gb155)); have n12_ := Aside0.mk ((nl hg : gb156 ≠ gb161)); have n13_ := Aside0.mk ((ng hg : gb161 ≠ gb156)); clear HO160; clear BK154; clear BK155; clear BK156; clear HB; have HO160 := n0_; have BK154 := n1_; have BK155 := n2_; have BK156 := n3_; have HB := n4_; have BK161 := n5_; have GW161 := n6_; have GE161 := n7_; have NB154_161 := n8_; have NB161_154 := n9_; have NB155_161 := n10_; have NB161_155 := n11_; have NB156_161 := n12_; have NB161_156 := n13_; clear n0_ n1_ n2_ n3_ n4_ n5_ n6_ n7_ n8_ n9_ n10_ n11_ n12_ n13_; clear hb hbox hg; have hnb9 := NB161_154.out; have hnc9 := NB154_161.out; have hnb10 := NB161_155.out; have hnc10 := NB155_161.out; have hnb11 := NB161_156.out; have hnc11 := NB156_161.out; have hcz12_0 : w8.cell? ⟨gb161, 0, none⟩ = some (.int .i64 0) := (blk_cell BK161.out 0).trans rfl; have hcz12_1 : w8.cell? ⟨gb161, 1, none⟩ = some (.slice none 0 0) := (blk_cell BK161.out 1).trans rfl; have hfz12_0 := blk_frozen BK161.out 0; have hfz12_1 := blk_frozen BK161.out 1; obtain ⟨Ao13, co13, eo13⟩ := Kd.R_slice HO160.out; subst eo13; have hnb14 := NB155_154.out; have hnc14 := NB154_155.out; have hnb15 := NB155_156.out; have hnc15 := NB156_155.out; have hcz16_0 : w8.cell? ⟨gb155, 0, none⟩ = some (.int .i64 a1_0) := (blk_cell BK155.out 0).trans rfl; have hcz16_1 : w8.cell? ⟨gb155, 1, none⟩ = some (.slice A1_1 l1_1.length c1_1) := (blk_cell BK155.out 1).trans rfl; have hfz16_0 := blk_frozen BK155.out 0; have hfz16_1 := blk_frozen BK155.out 1) | ((with_reducible refine gate_draws ?_); go_quiet (fail)))
  go_loopg [16] k (fun kq v16 w' => ∃ (x16_1 : Int) (x162000_1 : Int) (x162001_1 : List Int) (u162001 : Value), v16 = .int .i64 x16_1 ∧ Aside0 (rowlockref03_Times.l0 kq (l1_1.length : Int) x16_1 a0_0 l0_1 a1_0 l1_1 x162000_1 x162001_1 = some (r1, r2)) ∧ Aside0 (kq ≤ k) ∧ Aside0 (Kd.R (Kd.int .u64) 27 w' w.heap.size (fun _ => True) u162001 x162001_1) ∧ Aside0 (w'.heap[gb154]? = some (.cells #[.int .i64 a0_0, (.slice A0_1 l0_1.length c0_1)] 31 (0, 0))) ∧ Aside0 (w'.heap[gb155]? = some (.cells #[.int .i64 a1_0, (.slice A1_1 l1_1.length c1_1)] 31 (0, 0))) ∧ Aside0 (w'.heap[gb156]? = some (.cells #[.int .i64 0, (.slice none 0 0)] 31 (0, 0))) ∧ Aside0 (w'.heap[gb161]? = some (.cells #[.int .i64 x162000_1, u162001] 31 (0, 0))) ∧ Aside0 (Below w.heap.size w w'))
  case atStart => exact ⟨(0), (t157), (t158), (.slice Ao13 t158.length co13), (by first | rfl | (simp; done) | (simp [*]; done)), H', ⟨Nat.le_refl _⟩, ⟨by (with_reducible repeat (first | apply Kd.R_alloc | apply Kd.R_drewN | apply Kd.R_drew)); exact Kd.R_mono (Kd.R_far (p := ⟨gb161, 1, none⟩) (Kd.R_far (p := ⟨gb161, 0, none⟩) (Kd.R_types HO160.out BK161.out (by decide)) (fun _ hk => hk.2) (.int .i64 t157)) (fun _ hk => hk.2) (.slice Ao13 t158.length co13)) (fun _ hk => trivial)⟩, ⟨by (with_reducible repeat (first | refine blk_drewN ?_ _ | refine blk_drew ?_ | refine blk_alloc ?_ _)); refine blk_far ?_ NB154_161.out _; (with_reducible repeat (first | refine blk_drewN ?_ _ | refine blk_drew ?_ | refine blk_alloc ?_ _)); refine blk_far ?_ NB154_161.out _; (with_reducible repeat (first | refine blk_drewN ?_ _ | refine blk_drew ?_ | refine blk_alloc ?_ _)); exact BK154.out⟩, ⟨by (with_reducible repeat (first | refine blk_drewN ?_ _ | refine blk_drew ?_ | refine blk_alloc ?_ _)); refine blk_far ?_ NB155_161.out _; (with_reducible repeat (first | refine blk_drewN ?_ _ | refine blk_drew ?_ | refine blk_alloc ?_ _)); refine blk_far ?_ NB155_161.out _; (with_reducible repeat (first | refine blk_drewN ?_ _ | refine blk_drew ?_ | refine blk_alloc ?_ _)); exact BK155.out⟩, ⟨by (with_reducible repeat (first | refine blk_drewN ?_ _ | refine blk_drew ?_ | refine blk_alloc ?_ _)); refine blk_far ?_ NB156_161.out _; (with_reducible repeat (first | refine blk_drewN ?_ _ | refine blk_drew ?_ | refine blk_alloc ?_ _)); refine blk_far ?_ NB156_161.out _; (with_reducible repeat (first | refine blk_drewN ?_ _ | refine blk_drew ?_ | refine blk_alloc ?_ _)); exact BK156.out⟩, ⟨by (with_reducible repeat (first | refine blk_drewN ?_ _ | refine blk_drew ?_ | refine blk_alloc ?_ _)); refine blk_put (cs := #[.int .i64 t157, .slice none 0 0]) ?_ 1 _ rfl; (with_reducible repeat (first | refine blk_drewN ?_ _ | refine blk_drew ?_ | refine blk_alloc ?_ _)); refine blk_put (cs := #[.int .i64 0, .slice none 0 0]) ?_ 0 _ rfl; (with_reducible repeat (first | refine blk_drewN ?_ _ | refine blk_drew ?_ | refine blk_alloc ?_ _)); exact BK161.out⟩, ⟨bl⟩⟩
  case round =>
    clear H'
    try clear c1
    try clear p2
    try clear c9
    try clear c10
    try clear c11
    try clear c12
    try clear c14
    try clear c15
    try clear hcz12_0
    try clear hcz12_1
    try clear hcz16_0
    try clear hcz16_1
    try clear hfz12_0
    try clear hfz12_1
    try clear hfz16_0
    try clear hfz16_1
    obtain ⟨x16_1, x162000_1, x162001_1, u162001, rfl, HA, HK1, HO_162001, BK154, BK155, BK156, BK161, HB⟩ := hrel
    cases gk with
    | zero => exact absurd HA.out (by simp [rowlockref03_Times.l0])
    | succ k1 =>
      have H := HA.out
      clear HA
      simp only [rowlockref03_Times.l0] at H
      by_cases c17 : x16_1 < (l1_1.length : Int)
      · rw [if_pos c17] at H
        have c17b0 : decide (x16_1 < (l1_1.length : Int)) = true := decide_eq_true c17
        clear c17
        obtain ⟨y162, hy162⟩ : ∃ y_ : List Int, y_ = (([] : List Int)) := ⟨_, rfl⟩
        replace H : (rowlockref03_Times.l1 k1 x16_1 y162 0 (l1_1.length : Int) x16_1 a0_0 l0_1 a1_0 l1_1 x162000_1 x162001_1) = some (r1, r2) := by first | (rw [hy162]; with_reducible exact H) | (have H2_ := (Option.bind_some _ _).symm.trans H; rw [hy162]; with_reducible exact H2_) | (have H2_ := (Option.bind_some _ _).symm.trans H; with_reducible exact H2_) | with_reducible exact H | (rw [hy162]; exact H) | exact H
        have Ny162 := Aside0.mk hy162
        clear hy162
        have H' := Aside0.mk H
        clear H
        go_wp2_with (first | ((with_reducible refine gate_dst (N := 19) rfl ?_); refine Kd.R_lit (Kd.int .u64) _ 27 ?hg (N := 19) ?hd (xs := ([] : List Int)) (inner := []) (ok := fun _ => True) (okp := fun _ => True) ?hr ?hp (fun _ hk => hk) trivial (Below.refl _ _) (Nat.le_refl _) (by simp) ?_; (case hd => rfl); (case hg => rfl); (case hr => first | (go_simp; done) | (go_simp; rfl)); (case hp => exact (Reps.none _ _)); intro v163 w18 ho19 hb hg_ hnew_; clear hg_ hnew_; (first | rw [← Ny162.out] at ho19 | (simp only [Int.reduceToNat] at ho19; rw [← Ny162.out] at ho19)); have n0_ := Aside0.mk (Kd.R_elder' (rk HO_162001) (Kd.R_base ho19) hb); have n1_ := Aside0.mk (Kd.R_lower (Kd.R_new' ho19 (Kd.R_lt (rk HO_162001))) (below_size bl)); have n2_ := Aside0.mk (bb (g := gb154) hb); have n3_ := Aside0.mk (bb (g := gb155) hb); have n4_ := Aside0.mk (bb (g := gb156) hb); have n5_ := Aside0.mk (bb (g := gb161) hb); have n6_ := Aside0.mk (below_step bl hb); clear HO_162001; clear BK154; clear BK155; clear BK156; clear BK161; clear HB; have HO_162001 := n0_; have HO164 := n1_; have BK154 := n2_; have BK155 := n3_; have BK156 := n4_; have BK161 := n5_; have HB := n6_; clear n0_ n1_ n2_ n3_ n4_ n5_ n6_; clear hb ho19) | ((with_reducible refine gate_draws ?_); go_quiet (fail)))
        go_loopg [7, 8] k1 (fun kq v7 v8 w' => ∃ (x7_2 : List Int) (x8_2 : Int), v8 = .int .i64 x8_2 ∧ Aside0 (rowlockref03_Times.l1 kq x16_1 x7_2 x8_2 (l1_1.length : Int) x16_1 a0_0 l0_1 a1_0 l1_1 x162000_1 x162001_1 = some (r1, r2)) ∧ Aside0 (kq ≤ k1) ∧ Aside0 (Kd.R (Kd.int .u64) 27 w' w.heap.size (fun k_ => some k_ ≠ (u162001 : Value).ownBlock) v7 x7_2) ∧ Aside0 (Kd.R (Kd.int .u64) 27 w' w.heap.size (fun k_ => some k_ ≠ (v7 : Value).ownBlock) u162001 x162001_1) ∧ Aside0 (w'.heap[gb154]? = some (.cells #[.int .i64 a0_0, (.slice A0_1 l0_1.length c0_1)] 31 (0, 0))) ∧ Aside0 (w'.heap[gb155]? = some (.cells #[.int .i64 a1_0, (.slice A1_1 l1_1.length c1_1)] 31 (0, 0))) ∧ Aside0 (w'.heap[gb156]? = some (.cells #[.int .i64 0, (.slice none 0 0)] 31 (0, 0))) ∧ Aside0 (w'.heap[gb161]? = some (.cells #[.int .i64 x162000_1, u162001] 31 (0, 0))) ∧ Aside0 (Below w.heap.size w w'))
        case atStart => exact ⟨(y162), (0), (by first | rfl | (simp; done) | (simp [*]; done)), H', ⟨Nat.le_refl _⟩, ⟨by (with_reducible repeat (first | apply Kd.R_alloc | apply Kd.R_drewN | apply Kd.R_drew)); exact Kd.R_mono HO164.out (fun _ hk => hk.2)⟩, ⟨by (with_reducible repeat (first | apply Kd.R_alloc | apply Kd.R_drewN | apply Kd.R_drew)); exact Kd.R_mono HO_162001.out (fun _ hk => hk.2)⟩, ⟨pk⟩, ⟨pk⟩, ⟨pk⟩, ⟨pk⟩, ⟨bl⟩⟩
        case round =>
          clear H'
          try clear c1
          try clear p2
          try clear c9
          try clear c10
          try clear c11
          try clear c12
          try clear c14
          try clear c15
          try clear c17
          try clear c17b0
          try clear hcz12_0
          try clear hcz12_1
          try clear hcz16_0
          try clear hcz16_1
          try clear hfz12_0
          try clear hfz12_1
          try clear hfz16_0
          try clear hfz16_1
          try clear p2
          obtain ⟨x7_2, x8_2, rfl, HA, HK2, HO_7, HO_162001, BK154, BK155, BK156, BK161, HB⟩ := hrel
          cases gk with
          | zero => exact absurd HA.out (by simp [rowlockref03_Times.l1])
          | succ k2 =>
            have H := HA.out
            clear HA
            simp only [rowlockref03_Times.l1] at H
            by_cases c20 : x8_2 < x16_1
            · rw [if_pos c20] at H
              have c20b0 : decide (x8_2 < x16_1) = true := decide_eq_true c20
              clear c20
              by_cases c21 : x7_2.length < 17592186044416
              · rw [if_pos c21] at H
                have LMc21 := Aside0.mk c21
                clear c21
                obtain ⟨y165, hy165⟩ : ∃ y_ : List Int, y_ = (x7_2 ++ [0]) := ⟨_, rfl⟩
                replace H : (rowlockref03_Times.l1 k2 x16_1 y165 (wrap64 (x8_2 + 1)) (l1_1.length : Int) x16_1 a0_0 l0_1 a1_0 l1_1 x162000_1 x162001_1) = some (r1, r2) := by first | (rw [hy165]; with_reducible exact H) | (have H2_ := (Option.bind_some _ _).symm.trans H; rw [hy165]; with_reducible exact H2_) | (have H2_ := (Option.bind_some _ _).symm.trans H; with_reducible exact H2_) | with_reducible exact H | (rw [hy165]; exact H) | exact H
                have Ny165 := Aside0.mk hy165
                clear hy165
                have H' := Aside0.mk H
                clear H
                go_wp2_with (first | ((with_reducible refine gate_builtin (b := .append) (xs := #[.tmp 25, .tmp 26]) rfl ?_); at_builtin; refine Kd.R_append (Kd.int .u64) (w0 := w) w.heap.size rfl (.tmp 25) (.tmp 26) 29 27 (.int .u64 0) 8 rfl Try.underlying29 info27 rfl (by decide) (by omega) u7 x7_2 0 [.int .u64 0] (fun k_ => some k_ ≠ (u162001 : Value).ownBlock) (fun _ => False) rfl rfl ?aP (fun _ hk => hk.elim) ?aF ?aO ?aB ?aS ?aL ?_; (case aP => exact rfl); (case aB => exact bl); (case aF => exact (fun k_ hk => Kd.fresh' (Kd.R_lt (rk HO_162001)) k_ hk)); (case aO => exact (rk HO_7)); (case aS => exact (below_size bl)); (case aL => have := LMc21.out; omega); intro v166 w22 ho hb hg hat; rw [← Ny165.out] at ho; have n0_ := Aside0.mk (Kd.R_after (ok := (fun _ => True)) (by (with_reducible repeat (first | apply Kd.R_alloc | apply Kd.R_drewN | apply Kd.R_drew)); exact Kd.R_mono HO_162001.out (fun _ hk => ⟨trivial, hk⟩)) hg hat); have n1_ := Aside0.mk (blk_grown (g := gb154) (o := .cells #[.int .i64 a0_0, .slice A0_1 l0_1.length c0_1] 31 (0, 0)) pk hg (Kd.R_ne HO_7.out BK154.out (by decide))); have n2_ := Aside0.mk (blk_grown (g := gb155) (o := .cells #[.int .i64 a1_0, .slice A1_1 l1_1.length c1_1] 31 (0, 0)) pk hg (Kd.R_ne HO_7.out BK155.out (by decide))); have n3_ := Aside0.mk (blk_grown (g := gb156) (o := .cells #[.int .i64 0, .slice none 0 0] 31 (0, 0)) pk hg (Kd.R_ne HO_7.out BK156.out (by decide))); have n4_ := Aside0.mk (blk_grown (g := gb161) (o := .cells #[.int .i64 x162000_1, u162001] 31 (0, 0)) pk hg (Kd.R_ne HO_7.out BK161.out (by decide))); have n5_ := Aside0.mk (hb); have n6_ := Aside0.mk (ho); clear HO_162001; clear BK154; clear BK155; clear BK156; clear BK161; clear HB; clear HO_7; have HO_162001 := n0_; have BK154 := n1_; have BK155 := n2_; have BK156 := n3_; have BK161 := n4_; have HB := n5_; have HO167 := n6_; clear n0_ n1_ n2_ n3_ n4_ n5_ n6_; clear ho hb hg hat) | ((with_reducible refine gate_draws ?_); go_quiet (fail)))
                go_roundg k2
                case measure => have := HK1.out; have := HK2.out; omega
                case rel => exact ⟨(y165), (wrap64 (x8_2 + 1)), (by first | rfl | (simp; done) | (simp [*]; done)), H', ⟨by have := HK1.out; have := HK2.out; omega⟩, ⟨by (with_reducible repeat (first | apply Kd.R_alloc | apply Kd.R_drewN | apply Kd.R_drew)); exact HO167.out⟩, ⟨by (with_reducible repeat (first | apply Kd.R_alloc | apply Kd.R_drewN | apply Kd.R_drew)); exact Kd.R_mono HO_162001.out (fun _ hk => hk.2)⟩, ⟨pk⟩, ⟨pk⟩, ⟨pk⟩, ⟨pk⟩, ⟨bl⟩⟩
              · rw [if_neg c21] at H
                exact absurd H (by simp)
            · rw [if_neg c20] at H
              have c20b0 : decide (x8_2 < x16_1) = false := decide_eq_false c20
              clear c20
              have H' := Aside0.mk H
              clear H
              have hnb23 := NB154_155.out
              have hnc23 := NB155_154.out
              have hnb24 := NB154_156.out
              have hnc24 := NB156_154.out
              have hnb25 := NB154_161.out
              have hnc25 := NB161_154.out
              have hcz26_0 : wr.cell? ⟨gb154, 0, none⟩ = some (.int .i64 a0_0) := (blk_cell BK154.out 0).trans rfl
              have hcz26_1 : wr.cell? ⟨gb154, 1, none⟩ = some (.slice A0_1 l0_1.length c0_1) := (blk_cell BK154.out 1).trans rfl
              have hfz26_0 := blk_frozen BK154.out 0
              have hfz26_1 := blk_frozen BK154.out 1
              go_wp2_with (((with_reducible refine gate_draws ?_); go_quiet (fail)))
              go_loopg [7, 9, 31] k2 (fun kq v7 v9 v31 w' => ∃ (x7_3 : List Int) (x9_3 : Int) (x31_3 : Int), v9 = .int .u64 x9_3 ∧ v31 = .int .i64 x31_3 ∧ Aside0 (rowlockref03_Times.l2 kq x16_1 x7_3 x9_3 (l1_1.length : Int) x16_1 (l0_1.length : Int) x31_3 a0_0 l0_1 a1_0 l1_1 x162000_1 x162001_1 = some (r1, r2)) ∧ Aside0 (kq ≤ k2) ∧ Aside0 (Kd.R (Kd.int .u64) 27 w' w.heap.size (fun k_ => some k_ ≠ (u162001 : Value).ownBlock) v7 x7_3) ∧ Aside0 (Kd.R (Kd.int .u64) 27 w' w.heap.size (fun k_ => some k_ ≠ (v7 : Value).ownBlock) u162001 x162001_1) ∧ Aside0 (w'.heap[gb154]? = some (.cells #[.int .i64 a0_0, (.slice A0_1 l0_1.length c0_1)] 31 (0, 0))) ∧ Aside0 (w'.heap[gb155]? = some (.cells #[.int .i64 a1_0, (.slice A1_1 l1_1.length c1_1)] 31 (0, 0))) ∧ Aside0 (w'.heap[gb156]? = some (.cells #[.int .i64 0, (.slice none 0 0)] 31 (0, 0))) ∧ Aside0 (w'.heap[gb161]? = some (.cells #[.int .i64 x162000_1, u162001] 31 (0, 0))) ∧ Aside0 (Below w.heap.size w w'))
              case atStart => exact ⟨(x7_2), (0), (0), (by first | rfl | (simp; done) | (simp [*]; done)), (by first | rfl | (simp; done) | (simp [*]; done)), H', ⟨Nat.le_refl _⟩, ⟨by (with_reducible repeat (first | apply Kd.R_alloc | apply Kd.R_drewN | apply Kd.R_drew)); exact HO_7.out⟩, ⟨by (with_reducible repeat (first | apply Kd.R_alloc | apply Kd.R_drewN | apply Kd.R_drew)); exact HO_162001.out⟩, ⟨pk⟩, ⟨pk⟩, ⟨pk⟩, ⟨pk⟩, ⟨bl⟩⟩
              case round =>
                clear H'
                try clear c1
                try clear c2
                try clear p2
                try clear p6
                try clear c9
                try clear c10
                try clear c11
                try clear c12
                try clear c14
                try clear c15
                try clear c17
                try clear c17b0
                try clear c20
                try clear c20b0
                try clear c21
                try clear c23
                try clear c24
                try clear c25
                try clear hcz12_0
                try clear hcz12_1
                try clear hcz16_0
                try clear hcz16_1
                try clear hcz26_0
                try clear hcz26_1
                try clear hfz12_0
                try clear hfz12_1
                try clear hfz16_0
                try clear hfz16_1
                try clear hfz26_0
                try clear hfz26_1
                try clear p2
                obtain ⟨x7_3, x9_3, x31_3, rfl, rfl, HA, HK3, HO_7, HO_162001, BK154, BK155, BK156, BK161, HB⟩ := hrel
                cases gk with
                | zero => exact absurd HA.out (by simp [rowlockref03_Times.l2])
                | succ k3 =>
                  have H := HA.out
                  clear HA
                  simp only [rowlockref03_Times.l2] at H
                  by_cases c27 : x31_3 < (l0_1.length : Int)
                  · rw [if_pos c27] at H
                    have c27b0 : decide (x31_3 < (l0_1.length : Int)) = true := decide_eq_true c27
                    clear c27
                    by_cases c28 : 0 ≤ x31_3
                    · rw [if_pos c28] at H
                      have c28b0 : decide (0 ≤ x31_3) = true := decide_eq_true c28
                      clear c28
                      by_cases c29 : x31_3 < (l0_1.length : Int)
                      · rw [if_pos c29] at H
                        have c29b0 : decide (x31_3 < (l0_1.length : Int)) = true := decide_eq_true c29
                        clear c29
                        by_cases c30 : 0 ≤ x16_1
                        · rw [if_pos c30] at H
                          have c30b0 : decide (0 ≤ x16_1) = true := decide_eq_true c30
                          clear c30
                          by_cases c31 : x16_1 < (l1_1.length : Int)
                          · rw [if_pos c31] at H
                            have c31b0 : decide (x16_1 < (l1_1.length : Int)) = true := decide_eq_true c31
                            clear c31
                            by_cases c32 : x7_3.length < 17592186044416
                            · rw [if_pos c32] at H
                              have LMc32 := Aside0.mk c32
                              clear c32
                              obtain ⟨y170, hy170⟩ : ∃ y_ : List Int, y_ = (x7_3 ++ [Int.tmod (IntKind.u64.wrap ((IntKind.u64.wrap ((rd l0_1 x31_3) * (rd l1_1 x16_1))) + x9_3)) 65536]) := ⟨_, rfl⟩
                              replace H : (rowlockref03_Times.l2 k3 x16_1 y170 (IntKind.u64.wrap (Int.tdiv (IntKind.u64.wrap ((IntKind.u64.wrap ((rd l0_1 x31_3) * (rd l1_1 x16_1))) + x9_3)) 65536)) (l1_1.length : Int) x16_1 (l0_1.length : Int) (wrap64 (x31_3 + 1)) a0_0 l0_1 a1_0 l1_1 x162000_1 x162001_1) = some (r1, r2) := by first | (rw [hy170]; with_reducible exact H) | (have H2_ := (Option.bind_some _ _).symm.trans H; rw [hy170]; with_reducible exact H2_) | (have H2_ := (Option.bind_some _ _).symm.trans H; with_reducible exact H2_) | with_reducible exact H | (rw [hy170]; exact H) | exact H
                              have Ny170 := Aside0.mk hy170
                              clear hy170
                              have H' := Aside0.mk H
                              clear H
                              have hnb33 := NB154_155.out
                              have hnc33 := NB155_154.out
                              have hnb34 := NB154_156.out
                              have hnc34 := NB156_154.out
                              have hnb35 := NB154_161.out
                              have hnc35 := NB161_154.out
                              have hcz36_0 : wr.cell? ⟨gb154, 0, none⟩ = some (.int .i64 a0_0) := (blk_cell BK154.out 0).trans rfl
                              have hcz36_1 : wr.cell? ⟨gb154, 1, none⟩ = some (.slice A0_1 l0_1.length c0_1) := (blk_cell BK154.out 1).trans rfl
                              have hfz36_0 := blk_frozen BK154.out 0
                              have hfz36_1 := blk_frozen BK154.out 1
                              have p168 : 0 ≤ (x31_3 : Int) := of_decide_eq_true (by first | (with_reducible assumption) | assumption)
                              have q168 : x31_3 < (l0_1.length : Int) := of_decide_eq_true (by first | (with_reducible assumption) | assumption)
                              obtain ⟨ad168, e168, hx168_0⟩ := Kd.at_int HR0_1.out x31_3 p168 q168
                              cases e168
                              replace hx168_0 := (HB.out.cell (World.block_lt_of_cell? w _ hx168_0)).trans hx168_0
                              replace p168 := eq_true p168
                              replace q168 := eq_true q168
                              have hnb37 := NB155_156.out
                              have hnc37 := NB156_155.out
                              have hnb38 := NB155_161.out
                              have hnc38 := NB161_155.out
                              have hcz39_0 : wr.cell? ⟨gb155, 0, none⟩ = some (.int .i64 a1_0) := (blk_cell BK155.out 0).trans rfl
                              have hcz39_1 : wr.cell? ⟨gb155, 1, none⟩ = some (.slice A1_1 l1_1.length c1_1) := (blk_cell BK155.out 1).trans rfl
                              have hfz39_0 := blk_frozen BK155.out 0
                              have hfz39_1 := blk_frozen BK155.out 1
                              have p169 : 0 ≤ (x16_1 : Int) := of_decide_eq_true (by first | (with_reducible assumption) | assumption)
                              have q169 : x16_1 < (l1_1.length : Int) := of_decide_eq_true (by first | (with_reducible assumption) | assumption)
                              obtain ⟨ad169, e169, hx169_0⟩ := Kd.at_int HR1_1.out x16_1 p169 q169
                              cases e169
                              replace hx169_0 := (HB.out.cell (World.block_lt_of_cell? w _ hx169_0)).trans hx169_0
                              replace p169 := eq_true p169
                              replace q169 := eq_true q169
                              go_wp2_with (first | ((with_reducible refine gate_builtin (b := .append) (xs := #[.tmp 47, .tmp 50]) rfl ?_); at_builtin; refine Kd.R_append (Kd.int .u64) (w0 := w) w.heap.size rfl (.tmp 47) (.tmp 50) 29 27 (.int .u64 0) 8 rfl Try.underlying29 info27 rfl (by decide) (by omega) u7 x7_3 (Int.tmod (IntKind.u64.wrap ((IntKind.u64.wrap ((rd l0_1 x31_3) * (rd l1_1 x16_1))) + x9_3)) 65536) [.int .u64 (Int.tmod (IntKind.u64.wrap ((IntKind.u64.wrap ((rd l0_1 x31_3) * (rd l1_1 x16_1))) + x9_3)) 65536)] (fun k_ => some k_ ≠ (u162001 : Value).ownBlock) (fun _ => False) rfl rfl ?aP (fun _ hk => hk.elim) ?aF ?aO ?aB ?aS ?aL ?_; (case aP => exact rfl); (case aB => exact bl); (case aF => exact (fun k_ hk => Kd.fresh' (Kd.R_lt (rk HO_162001)) k_ hk)); (case aO => exact (rk HO_7)); (case aS => exact (below_size bl)); (case aL => have := LMc32.out; omega); intro v171 w40 ho hb hg hat; rw [← Ny170.out] at ho; have n0_ := Aside0.mk (Kd.R_after (ok := (fun _ => True)) (by (with_reducible repeat (first | apply Kd.R_alloc | apply Kd.R_drewN | apply Kd.R_drew)); exact Kd.R_mono HO_162001.out (fun _ hk => ⟨trivial, hk⟩)) hg hat); have n1_ := Aside0.mk (blk_grown (g := gb154) (o := .cells #[.int .i64 a0_0, .slice (some ad168) l0_1.length c0_1] 31 (0, 0)) pk hg (Kd.R_ne HO_7.out BK154.out (by decide))); have n2_ := Aside0.mk (blk_grown (g := gb155) (o := .cells #[.int .i64 a1_0, .slice (some ad169) l1_1.length c1_1] 31 (0, 0)) pk hg (Kd.R_ne HO_7.out BK155.out (by decide))); have n3_ := Aside0.mk (blk_grown (g := gb156) (o := .cells #[.int .i64 0, .slice none 0 0] 31 (0, 0)) pk hg (Kd.R_ne HO_7.out BK156.out (by decide))); have n4_ := Aside0.mk (blk_grown (g := gb161) (o := .cells #[.int .i64 x162000_1, u162001] 31 (0, 0)) pk hg (Kd.R_ne HO_7.out BK161.out (by decide))); have n5_ := Aside0.mk (hb); have n6_ := Aside0.mk (ho); clear HO_162001; clear BK154; clear BK155; clear BK156; clear BK161; clear HB; clear HO_7; have HO_162001 := n0_; have BK154 := n1_; have BK155 := n2_; have BK156 := n3_; have BK161 := n4_; have HB := n5_; have HO172 := n6_; clear n0_ n1_ n2_ n3_ n4_ n5_ n6_; clear ho hb hg hat) | ((with_reducible refine gate_draws ?_); go_quiet (fail)))
                              go_roundg k3
                              case measure => have := HK1.out; have := HK2.out; have := HK3.out; omega
                              case rel => exact ⟨(y170), (IntKind.u64.wrap (Int.tdiv (IntKind.u64.wrap ((IntKind.u64.wrap ((rd l0_1 x31_3) * (rd l1_1 x16_1))) + x9_3)) 65536)), (wrap64 (x31_3 + 1)), (by first | rfl | (simp; done) | (simp [*]; done)), (by first | rfl | (simp; done) | (simp [*]; done)), H', ⟨by have := HK1.out; have := HK2.out; have := HK3.out; omega⟩, ⟨by (with_reducible repeat (first | apply Kd.R_alloc | apply Kd.R_drewN | apply Kd.R_drew)); exact HO172.out⟩, ⟨by (with_reducible repeat (first | apply Kd.R_alloc | apply Kd.R_drewN | apply Kd.R_drew)); exact Kd.R_mono HO_162001.out (fun _ hk => hk.2)⟩, ⟨pk⟩, ⟨pk⟩, ⟨pk⟩, ⟨pk⟩, ⟨bl⟩⟩
                            · rw [if_neg c32] at H
                              exact absurd H (by simp)
                          · rw [if_neg c31] at H
                            exact absurd H (by simp)
                        · rw [if_neg c30] at H
                          exact absurd H (by simp)
                      · rw [if_neg c29] at H
                        exact absurd H (by simp)
                    · rw [if_neg c28] at H
                      exact absurd H (by simp)
                  · rw [if_neg c27] at H
                    have c27b0 : decide (x31_3 < (l0_1.length : Int)) = false := decide_eq_false c27
                    clear c27
                    by_cases c41 : x7_3.length < 17592186044416
                    · rw [if_pos c41] at H
                      have LMc41 := Aside0.mk c41
                      clear c41
                      obtain ⟨y173, hy173⟩ : ∃ y_ : List Int, y_ = (x7_3 ++ [x9_3]) := ⟨_, rfl⟩
                      replace H : ((rowlockref03_size.f k3 x162000_1 x162001_1 1 y173).bind fun bt176 => (rowlockref03_Times.l0 k3 (l1_1.length : Int) (wrap64 (x16_1 + 1)) a0_0 l0_1 a1_0 l1_1 bt176.1 bt176.2)) = some (r1, r2) := by first | (rw [hy173]; with_reducible exact H) | (have H2_ := (Option.bind_some _ _).symm.trans H; rw [hy173]; with_reducible exact H2_) | (have H2_ := (Option.bind_some _ _).symm.trans H; with_reducible exact H2_) | with_reducible exact H | (rw [hy173]; exact H) | exact H
                      have Ny173 := Aside0.mk hy173
                      clear hy173
                      replace H := Option.bind_eq_some_iff.mp H
                      obtain ⟨⟨t176, t177⟩, A420, H⟩ := H
                      replace H : (rowlockref03_Times.l0 k3 (l1_1.length : Int) (wrap64 (x16_1 + 1)) a0_0 l0_1 a1_0 l1_1 t176 t177) = some (r1, r2) := H
                      have A42 := Aside0.mk A420
                      clear A420
                      have H' := Aside0.mk H
                      clear H
                      go_wp2_with (first | ((with_reducible refine gate_builtin (b := .append) (xs := #[.tmp 55, .tmp 57]) rfl ?_); at_builtin; refine Kd.R_append (Kd.int .u64) (w0 := w) w.heap.size rfl (.tmp 55) (.tmp 57) 29 27 (.int .u64 0) 8 rfl Try.underlying29 info27 rfl (by decide) (by omega) u7 x7_3 x9_3 [.int .u64 x9_3] (fun k_ => some k_ ≠ (u162001 : Value).ownBlock) (fun _ => False) rfl rfl ?aP (fun _ hk => hk.elim) ?aF ?aO ?aB ?aS ?aL ?_; (case aP => exact rfl); (case aB => exact bl); (case aF => exact (fun k_ hk => Kd.fresh' (Kd.R_lt (rk HO_162001)) k_ hk)); (case aO => exact (rk HO_7)); (case aS => exact (below_size bl)); (case aL => have := LMc41.out; omega); intro v174 w43 ho hb hg hat; rw [← Ny173.out] at ho; have n0_ := Aside0.mk (Kd.R_after (ok := (fun _ => True)) (by (with_reducible repeat (first | apply Kd.R_alloc | apply Kd.R_drewN | apply Kd.R_drew)); exact Kd.R_mono HO_162001.out (fun _ hk => ⟨trivial, hk⟩)) hg hat); have n1_ := Aside0.mk (blk_grown (g := gb154) (o := .cells #[.int .i64 a0_0, .slice A0_1 l0_1.length c0_1] 31 (0, 0)) pk hg (Kd.R_ne HO_7.out BK154.out (by decide))); have n2_ := Aside0.mk (blk_grown (g := gb155) (o := .cells #[.int .i64 a1_0, .slice A1_1 l1_1.length c1_1] 31 (0, 0)) pk hg (Kd.R_ne HO_7.out BK155.out (by decide))); have n3_ := Aside0.mk (blk_grown (g := gb156) (o := .cells #[.int .i64 0, .slice none 0 0] 31 (0, 0)) pk hg (Kd.R_ne HO_7.out BK156.out (by decide))); have n4_ := Aside0.mk (blk_grown (g := gb161) (o := .cells #[.int .i64 x162000_1, u162001] 31 (0, 0)) pk hg (Kd.R_ne HO_7.out BK161.out (by decide))); have n5_ := Aside0.mk (hb); have n6_ := Aside0.mk (ho); clear HO_162001; clear BK154; clear BK155; clear BK156; clear BK161; clear HB; clear HO_7; have HO_162001 := n0_; have BK154 := n1_; have BK155 := n2_; have BK156 := n3_; have BK161 := n4_; have HB := n5_; have HO175 := n6_; clear n0_ n1_ n2_ n3_ n4_ n5_ n6_; clear ho hb hg hat; have hnb44 := NB161_154.out; have hnc44 := NB154_161.out; have hnb45 := NB161_155.out; have hnc45 := NB155_161.out; have hnb46 := NB161_156.out; have hnc46 := NB156_161.out; have hcz47_0 : w43.cell? ⟨gb161, 0, none⟩ = some (.int .i64 x162000_1) := (blk_cell BK161.out 0).trans rfl; have hcz47_1 : w43.cell? ⟨gb161, 1, none⟩ = some (u162001) := (blk_cell BK161.out 1).trans rfl; have hfz47_0 := blk_frozen BK161.out 0; have hfz47_1 := blk_frozen BK161.out 1; obtain ⟨Ao48, co48, eo48⟩ := Kd.R_slice HO175.out; subst eo48; obtain ⟨Ao49, co49, eo49⟩ := Kd.R_slice HO_162001.out; subst eo49) | (go_at_call 31; (with_reducible refine (rowlockref03_size.calls k3 x162000_1 _ _ x162001_1 1 _ _ y173 t176 t177 _ ?side1 ?side2 ?side3 ?side4 A42.out).mono ?_); (case side1 => repeat (first | exact (Kd.R_reads' HO_162001.out).2.2 | (with_reducible refine Kd.C_alloc ?_ _) | (with_reducible refine Kd.C_drewN ?_ _) | (with_reducible refine Kd.C_drew ?_))); (case side2 => exact (Kd.R_reads' HO_162001.out).2.1); (case side3 => repeat (first | exact (Kd.R_reads' HO175.out).2.2 | (with_reducible refine Kd.C_alloc ?_ _) | (with_reducible refine Kd.C_drewN ?_ _) | (with_reducible refine Kd.C_drew ?_))); (case side4 => exact (Kd.R_reads' HO175.out).2.1); rintro e w50 ⟨v178, rfl, ho0, hb⟩; have n0_ := Aside0.mk (Kd.R_elder' (rk HO_162001) (Kd.R_base ho0) hb); have n1_ := Aside0.mk (Kd.R_elder' (rk HO175) (Kd.R_base ho0) hb); have n2_ := Aside0.mk (Kd.R_lower (Kd.R_new' (Kd.R_new' ho0 (Kd.R_lt (rk HO_162001))) (Kd.R_lt (rk HO175))) (below_size bl)); have n3_ := Aside0.mk (bb (g := gb154) hb); have n4_ := Aside0.mk (bb (g := gb155) hb); have n5_ := Aside0.mk (bb (g := gb156) hb); have n6_ := Aside0.mk (bb (g := gb161) hb); have n7_ := Aside0.mk (below_step bl hb); clear HO_162001; clear HO175; clear BK154; clear BK155; clear BK156; clear BK161; clear HB; have HO_162001 := n0_; have HO175 := n1_; have HO179 := n2_; have BK154 := n3_; have BK155 := n4_; have BK156 := n5_; have BK161 := n6_; have HB := n7_; clear n0_ n1_ n2_ n3_ n4_ n5_ n6_ n7_; (try clear hb); (try clear hb2); (try clear hk); (try clear hi); (try clear ho0); have hcz51_0 : w50.cell? ⟨gb161, 0, none⟩ = some (.int .i64 x162000_1) := (blk_cell BK161.out 0).trans rfl; have hcz51_1 : w50.cell? ⟨gb161, 1, none⟩ = some (.slice Ao49 x162001_1.length co49) := (blk_cell BK161.out 1).trans rfl; have hfz51_0 := blk_frozen BK161.out 0; have hfz51_1 := blk_frozen BK161.out 1; obtain ⟨Ao52, co52, eo52⟩ := Kd.R_slice HO179.out; subst eo52) | ((with_reducible refine gate_draws ?_); go_quiet (fail)))
                      go_roundg k3
                      case measure => have := HK1.out; have := HK2.out; have := HK3.out; omega
                      case rel => exact ⟨(wrap64 (x16_1 + 1)), (t176), (t177), (.slice Ao52 t177.length co52), (by first | rfl | (simp; done) | (simp [*]; done)), H', ⟨by have := HK1.out; have := HK2.out; have := HK3.out; omega⟩, ⟨by (with_reducible repeat (first | apply Kd.R_alloc | apply Kd.R_drewN | apply Kd.R_drew)); exact Kd.R_mono (Kd.R_far (p := ⟨gb161, 1, none⟩) (Kd.R_far (p := ⟨gb161, 0, none⟩) (Kd.R_types HO179.out BK161.out (by decide)) (fun _ hk => hk.2) (.int .i64 t176)) (fun _ hk => hk.2) (.slice Ao52 t177.length co52)) (fun _ hk => trivial)⟩, ⟨by (with_reducible repeat (first | refine blk_drewN ?_ _ | refine blk_drew ?_ | refine blk_alloc ?_ _)); refine blk_far ?_ NB154_161.out _; (with_reducible repeat (first | refine blk_drewN ?_ _ | refine blk_drew ?_ | refine blk_alloc ?_ _)); refine blk_far ?_ NB154_161.out _; (with_reducible repeat (first | refine blk_drewN ?_ _ | refine blk_drew ?_ | refine blk_alloc ?_ _)); exact BK154.out⟩, ⟨by (with_reducible repeat (first | refine blk_drewN ?_ _ | refine blk_drew ?_ | refine blk_alloc ?_ _)); refine blk_far ?_ NB155_161.out _; (with_reducible repeat (first | refine blk_drewN ?_ _ | refine blk_drew ?_ | refine blk_alloc ?_ _)); refine blk_far ?_ NB155_161.out _; (with_reducible repeat (first | refine blk_drewN ?_ _ | refine blk_drew ?_ | refine blk_alloc ?_ _)); exact BK155.out⟩, ⟨by (with_reducible repeat (first | refine blk_drewN ?_ _ | refine blk_drew ?_ | refine blk_alloc ?_ _)); refine blk_far ?_ NB156_161.out _; (with_reducible repeat (first | refine blk_drewN ?_ _ | refine blk_drew ?_ | refine blk_alloc ?_ _)); refine blk_far ?_ NB156_161.out _; (with_reducible repeat (first | refine blk_drewN ?_ _ | refine blk_drew ?_ | refine blk_alloc ?_ _)); exact BK156.out⟩, ⟨by (with_reducible repeat (first | refine blk_drewN ?_ _ | refine blk_drew ?_ | refine blk_alloc ?_ _)); refine blk_put (cs := #[.int .i64 t176, .slice Ao49 x162001_1.length co49]) ?_ 1 _ rfl; (with_reducible repeat (first | refine blk_drewN ?_ _ | refine blk_drew ?_ | refine blk_alloc ?_ _)); refine blk_put (cs := #[.int .i64 x162000_1, .slice Ao49 x162001_1.length co49]) ?_ 0 _ rfl; (with_reducible repeat (first | refine blk_drewN ?_ _ | refine blk_drew ?_ | refine blk_alloc ?_ _)); exact BK161.out⟩, ⟨bl⟩⟩
                    · rw [if_neg c41] at H
                      exact absurd H (by simp)
      · rw [if_neg c17] at H
        have c17b0 : decide (x16_1 < (l1_1.length : Int)) = false := decide_eq_false c17
        clear c17
        simp only [Option.some.injEq, Prod.mk.injEq] at H
        obtain ⟨rfl, rfl⟩ := H
        have hnb53 := NB154_155.out
        have hnc53 := NB155_154.out
        have hnb54 := NB154_156.out
        have hnc54 := NB156_154.out
        have hnb55 := NB154_161.out
        have hnc55 := NB161_154.out
        have hcz56_0 : wr.cell? ⟨gb154, 0, none⟩ = some (.int .i64 a0_0) := (blk_cell BK154.out 0).trans rfl
        have hcz56_1 : wr.cell? ⟨gb154, 1, none⟩ = some (.slice A0_1 l0_1.length c0_1) := (blk_cell BK154.out 1).trans rfl
        have hfz56_0 := blk_frozen BK154.out 0
        have hfz56_1 := blk_frozen BK154.out 1
        have hnb57 := NB155_156.out
        have hnc57 := NB156_155.out
        have hnb58 := NB155_161.out
        have hnc58 := NB161_155.out
        have hcz59_0 : wr.cell? ⟨gb155, 0, none⟩ = some (.int .i64 a1_0) := (blk_cell BK155.out 0).trans rfl
        have hcz59_1 : wr.cell? ⟨gb155, 1, none⟩ = some (.slice A1_1 l1_1.length c1_1) := (blk_cell BK155.out 1).trans rfl
        have hfz59_0 := blk_frozen BK155.out 0
        have hfz59_1 := blk_frozen BK155.out 1
        have hnb60 := NB161_156.out
        have hnc60 := NB156_161.out
        have hcz61_0 : wr.cell? ⟨gb161, 0, none⟩ = some (.int .i64 x162000_1) := (blk_cell BK161.out 0).trans rfl
        have hcz61_1 : wr.cell? ⟨gb161, 1, none⟩ = some (u162001) := (blk_cell BK161.out 1).trans rfl
        have hfz61_0 := blk_frozen BK161.out 0
        have hfz61_1 := blk_frozen BK161.out 1
        have hcz62_0 : wr.cell? ⟨gb156, 0, none⟩ = some (.int .i64 0) := (blk_cell BK156.out 0).trans rfl
        have hcz62_1 : wr.cell? ⟨gb156, 1, none⟩ = some (.slice none 0 0) := (blk_cell BK156.out 1).trans rfl
        have hfz62_0 := blk_frozen BK156.out 0
        have hfz62_1 := blk_frozen BK156.out 1
        obtain ⟨Ao63, co63, eo63⟩ := Kd.R_slice HO_162001.out
        subst eo63
        go_wp2_with (((with_reducible refine gate_draws ?_); go_quiet (fail)))
        refine bodyPost_ret (results_cell_row rfl _ _ gb156 31 #[.int .i64 (wrap64 (a0_0 * a1_0)), .slice Ao63 x162001_1.length co63] (0, 0) _ rfl (by (with_reducible repeat (first | refine blk_drewN ?_ _ | refine blk_drew ?_ | refine blk_alloc ?_ _)); refine blk_put (cs := #[.int .i64 (wrap64 (a0_0 * a1_0)), .slice none 0 0]) ?_ 1 _ rfl; (with_reducible repeat (first | refine blk_drewN ?_ _ | refine blk_drew ?_ | refine blk_alloc ?_ _)); refine blk_put (cs := #[.int .i64 0, .slice none 0 0]) ?_ 0 _ rfl; (with_reducible repeat (first | refine blk_drewN ?_ _ | refine blk_drew ?_ | refine blk_alloc ?_ _)); refine blk_far ?_ NB156_161.out _; (with_reducible repeat (first | refine blk_drewN ?_ _ | refine blk_drew ?_ | refine blk_alloc ?_ _)); exact BK156.out) Try.underlying31 rfl (by kernel_rfl)) rfl ?_
        exact ⟨_, by first | rfl | (simp [errW_none, errW_some] <;> rfl) | (simp [*, errW_none, errW_some] <;> rfl), by (with_reducible repeat (first | apply Kd.R_alloc | apply Kd.R_drewN | apply Kd.R_drew)); exact Kd.R_mono (Kd.R_far (p := ⟨gb156, 1, none⟩) (Kd.R_far (p := ⟨gb156, 0, none⟩) (Kd.R_far (p := ⟨gb161, 0, none⟩) (Kd.R_types (Kd.R_types HO_162001.out BK161.out (by decide)) BK156.out (by decide)) (fun _ hk => hk.1.2) (.int .i64 (wrap64 (a0_0 * a1_0)))) (fun _ hk => hk.2) (.int .i64 (wrap64 (a0_0 * a1_0)))) (fun _ hk => hk.2) (.slice Ao63 x162001_1.length co63)) (fun _ hk => trivial), bl⟩

end Go.Proofs.Ytneihjdkaogkiaa.PCalcTimes
