-- printed for this claim by a copy of the printer that this session turned (wip/pp)
import Derived.Test.YtneihjdkaogkiaaPCalcTimesx0
import Derived.Test.YtneihjdkaogkiaaPCalcTimesx3
import Derived.Test.YtneihjdkaogkiaaPCalcTimesx4
import Derived.Test.YtneihjdkaogkiaaPCalcTimesx5
namespace Go.Proofs.Ytneihjdkaogkiaa.PCalcTimes
open Go.RowKit Go.Proofs.YtneihjdkaogkiaaW.PrintWords Go.Proofs.YtneihjdkaogkiaaW.PrintLast Go.Proofs.YtneihjdkaogkiaaW.PrintMore
attribute [local go_sem] max2_int min2_int max_two min_two max_three min_three max_four min_four   -- for this text's walks alone
set_option linter.unusedVariables false
set_option linter.unusedSimpArgs false

/-! ### rowlocklaw03_CalcTimes: function 4 -/
def rowlocklaw03_CalcTimes.f (k : Nat) (a0 : Int) (a1 : Int) (a2 : Int) : Option (Bool) := (calc_Times.f k a0 a1 a2).bind fun t214 => ((rowlockref03_Whole.f k a0).bind fun bt215 => ((rowlockref03_Whole.f k a1).bind fun bt219 => ((rowlockref03_Times.f k bt215.1 bt215.2 bt219.1 bt219.2).bind fun bt223 => ((rowlockref03_Whole.f k 0).bind fun bt228 => ((rowlockref03_Less.f k bt228.1 bt228.2 bt223.1 bt223.2).bind fun t233 => (if t233 = true then (if a2 = 0 then ((rowlocklaw03_fixed.f k).bind fun t235 => (if t235 = true then (some (t214 == 18446744073709551615)) else (some false))) else ((rowlockref03_Whole.f k t214).bind fun bt236 => ((rowlockref03_Whole.f k a2).bind fun bt240 => ((rowlockref03_Times.f k bt236.1 bt236.2 bt240.1 bt240.2).bind fun bt244 => ((rowlockref03_Whole.f k a2).bind fun bt249 => ((rowlockref03_Plus.f k bt244.1 bt244.2 bt249.1 bt249.2).bind fun bt253 => ((rowlocklaw03_fixed.f k).bind fun t258 => (if t258 = true then ((rowlockref03_Less.f k bt223.1 bt223.2 bt244.1 bt244.2).bind fun t259 => (if t259 = true then (some false) else (if t214 = 18446744073709551615 then (some true) else ((rowlockref03_Less.f k bt223.1 bt223.2 bt253.1 bt253.2).bind fun t260 => (some t260))))) else (some false))))))))) else ((rowlocklaw03_fixed.f k).bind fun t234 => (if t234 = true then (some (t214 == 0)) else (some false)))))))))
theorem rowlocklaw03_CalcTimes.mono : ∀ a0 a1 a2 k, LeO (rowlocklaw03_CalcTimes.f k a0 a1 a2) (rowlocklaw03_CalcTimes.f (k + 1) a0 a1 a2) := by
  intro a0 a1 a2 k
  unfold rowlocklaw03_CalcTimes.f
  repeat' first
      | (with_reducible exact calc_Times.mono _ _ _ _)
      | (with_reducible exact rowlocklaw03_fixed.mono _)
      | (with_reducible exact rowlockref03_Less.mono _ _ _ _ _)
      | (with_reducible exact rowlockref03_Plus.mono _ _ _ _ _)
      | (with_reducible exact rowlockref03_Times.mono _ _ _ _ _)
      | (with_reducible exact rowlockref03_Whole.mono _ _)
      | (with_reducible exact LeO.refl _)
      | (with_reducible exact LeO.none _)
      | (with_reducible refine LeO.ite ?_ ?_)
      | (with_reducible refine LeO.bind ?_ (fun _ => ?_))
      | exact calc_Times.mono _ _ _ _
      | exact rowlocklaw03_fixed.mono _
      | exact rowlockref03_Less.mono _ _ _ _ _
      | exact rowlockref03_Plus.mono _ _ _ _ _
      | exact rowlockref03_Times.mono _ _ _ _ _
      | exact rowlockref03_Whole.mono _ _
      | exact LeO.none _
      | refine LeO.ite ?_ ?_
      | refine LeO.bind ?_ (fun _ => ?_)
set_option maxHeartbeats 8000000 in
set_option maxRecDepth 100000 in
theorem rowlocklaw03_CalcTimes.calls (k : Nat) (a0 : Int) (a1 : Int) (a2 : Int) (r : Bool) (w : World) (hrt : Aside0 (r = true)) (h : rowlocklaw03_CalcTimes.f k a0 a1 a2 = some r) :
    Calls Try.prog 4 #[.int .u64 a0, .int .u64 a1, .int .u64 a2] w fun e w' => e = .returned (.bool r) ∧ Below w.heap.size w w' := by
  have hu31 := Try.underlying31
  have HB := Aside0.mk (Below.refl w.heap.size w)
  have H : ((calc_Times.f k a0 a1 a2).bind fun t214 => ((rowlockref03_Whole.f k a0).bind fun bt215 => ((rowlockref03_Whole.f k a1).bind fun bt219 => ((rowlockref03_Times.f k bt215.1 bt215.2 bt219.1 bt219.2).bind fun bt223 => ((rowlockref03_Whole.f k 0).bind fun bt228 => ((rowlockref03_Less.f k bt228.1 bt228.2 bt223.1 bt223.2).bind fun t233 => (if t233 = true then (if a2 = 0 then ((rowlocklaw03_fixed.f k).bind fun t235 => (if t235 = true then (some (t214 == 18446744073709551615)) else (some false))) else ((rowlockref03_Whole.f k t214).bind fun bt236 => ((rowlockref03_Whole.f k a2).bind fun bt240 => ((rowlockref03_Times.f k bt236.1 bt236.2 bt240.1 bt240.2).bind fun bt244 => ((rowlockref03_Whole.f k a2).bind fun bt249 => ((rowlockref03_Plus.f k bt244.1 bt244.2 bt249.1 bt249.2).bind fun bt253 => ((rowlocklaw03_fixed.f k).bind fun t258 => (if t258 = true then ((rowlockref03_Less.f k bt223.1 bt223.2 bt244.1 bt244.2).bind fun t259 => (if t259 = true then (some false) else (if t214 = 18446744073709551615 then (some true) else ((rowlockref03_Less.f k bt223.1 bt223.2 bt253.1 bt253.2).bind fun t260 => (some t260))))) else (some false))))))))) else ((rowlocklaw03_fixed.f k).bind fun t234 => (if t234 = true then (some (t214 == 0)) else (some false)))))))))) = some r := h
  clear h
  replace H := Option.bind_eq_some_iff.mp H
  obtain ⟨t214, A40, H⟩ := H
  replace H : ((rowlockref03_Whole.f k a0).bind fun bt215 => ((rowlockref03_Whole.f k a1).bind fun bt219 => ((rowlockref03_Times.f k bt215.1 bt215.2 bt219.1 bt219.2).bind fun bt223 => ((rowlockref03_Whole.f k 0).bind fun bt228 => ((rowlockref03_Less.f k bt228.1 bt228.2 bt223.1 bt223.2).bind fun t233 => (if t233 = true then (if a2 = 0 then ((rowlocklaw03_fixed.f k).bind fun t235 => (if t235 = true then (some (t214 == 18446744073709551615)) else (some false))) else ((rowlockref03_Whole.f k t214).bind fun bt236 => ((rowlockref03_Whole.f k a2).bind fun bt240 => ((rowlockref03_Times.f k bt236.1 bt236.2 bt240.1 bt240.2).bind fun bt244 => ((rowlockref03_Whole.f k a2).bind fun bt249 => ((rowlockref03_Plus.f k bt244.1 bt244.2 bt249.1 bt249.2).bind fun bt253 => ((rowlocklaw03_fixed.f k).bind fun t258 => (if t258 = true then ((rowlockref03_Less.f k bt223.1 bt223.2 bt244.1 bt244.2).bind fun t259 => (if t259 = true then (some false) else (if t214 = 18446744073709551615 then (some true) else ((rowlockref03_Less.f k bt223.1 bt223.2 bt253.1 bt253.2).bind fun t260 => (some t260))))) else (some false))))))))) else ((rowlocklaw03_fixed.f k).bind fun t234 => (if t234 = true then (some (t214 == 0)) else (some false))))))))) = some r := H
  have A4 := Aside0.mk A40
  clear A40
  replace H := Option.bind_eq_some_iff.mp H
  obtain ⟨⟨t215, t216⟩, A50, H⟩ := H
  replace H : ((rowlockref03_Whole.f k a1).bind fun bt219 => ((rowlockref03_Times.f k t215 t216 bt219.1 bt219.2).bind fun bt223 => ((rowlockref03_Whole.f k 0).bind fun bt228 => ((rowlockref03_Less.f k bt228.1 bt228.2 bt223.1 bt223.2).bind fun t233 => (if t233 = true then (if a2 = 0 then ((rowlocklaw03_fixed.f k).bind fun t235 => (if t235 = true then (some (t214 == 18446744073709551615)) else (some false))) else ((rowlockref03_Whole.f k t214).bind fun bt236 => ((rowlockref03_Whole.f k a2).bind fun bt240 => ((rowlockref03_Times.f k bt236.1 bt236.2 bt240.1 bt240.2).bind fun bt244 => ((rowlockref03_Whole.f k a2).bind fun bt249 => ((rowlockref03_Plus.f k bt244.1 bt244.2 bt249.1 bt249.2).bind fun bt253 => ((rowlocklaw03_fixed.f k).bind fun t258 => (if t258 = true then ((rowlockref03_Less.f k bt223.1 bt223.2 bt244.1 bt244.2).bind fun t259 => (if t259 = true then (some false) else (if t214 = 18446744073709551615 then (some true) else ((rowlockref03_Less.f k bt223.1 bt223.2 bt253.1 bt253.2).bind fun t260 => (some t260))))) else (some false))))))))) else ((rowlocklaw03_fixed.f k).bind fun t234 => (if t234 = true then (some (t214 == 0)) else (some false)))))))) = some r := H
  have A5 := Aside0.mk A50
  clear A50
  replace H := Option.bind_eq_some_iff.mp H
  obtain ⟨⟨t219, t220⟩, A60, H⟩ := H
  replace H : ((rowlockref03_Times.f k t215 t216 t219 t220).bind fun bt223 => ((rowlockref03_Whole.f k 0).bind fun bt228 => ((rowlockref03_Less.f k bt228.1 bt228.2 bt223.1 bt223.2).bind fun t233 => (if t233 = true then (if a2 = 0 then ((rowlocklaw03_fixed.f k).bind fun t235 => (if t235 = true then (some (t214 == 18446744073709551615)) else (some false))) else ((rowlockref03_Whole.f k t214).bind fun bt236 => ((rowlockref03_Whole.f k a2).bind fun bt240 => ((rowlockref03_Times.f k bt236.1 bt236.2 bt240.1 bt240.2).bind fun bt244 => ((rowlockref03_Whole.f k a2).bind fun bt249 => ((rowlockref03_Plus.f k bt244.1 bt244.2 bt249.1 bt249.2).bind fun bt253 => ((rowlocklaw03_fixed.f k).bind fun t258 => (if t258 = true then ((rowlockref03_Less.f k bt223.1 bt223.2 bt244.1 bt244.2).bind fun t259 => (if t259 = true then (some false) else (if t214 = 18446744073709551615 then (some true) else ((rowlockref03_Less.f k bt223.1 bt223.2 bt253.1 bt253.2).bind fun t260 => (some t260))))) else (some false))))))))) else ((rowlocklaw03_fixed.f k).bind fun t234 => (if t234 = true then (some (t214 == 0)) else (some false))))))) = some r := H
  have A6 := Aside0.mk A60
  clear A60
  replace H := Option.bind_eq_some_iff.mp H
  obtain ⟨⟨t223, t224⟩, A70, H⟩ := H
  replace H : ((rowlockref03_Whole.f k 0).bind fun bt228 => ((rowlockref03_Less.f k bt228.1 bt228.2 t223 t224).bind fun t233 => (if t233 = true then (if a2 = 0 then ((rowlocklaw03_fixed.f k).bind fun t235 => (if t235 = true then (some (t214 == 18446744073709551615)) else (some false))) else ((rowlockref03_Whole.f k t214).bind fun bt236 => ((rowlockref03_Whole.f k a2).bind fun bt240 => ((rowlockref03_Times.f k bt236.1 bt236.2 bt240.1 bt240.2).bind fun bt244 => ((rowlockref03_Whole.f k a2).bind fun bt249 => ((rowlockref03_Plus.f k bt244.1 bt244.2 bt249.1 bt249.2).bind fun bt253 => ((rowlocklaw03_fixed.f k).bind fun t258 => (if t258 = true then ((rowlockref03_Less.f k t223 t224 bt244.1 bt244.2).bind fun t259 => (if t259 = true then (some false) else (if t214 = 18446744073709551615 then (some true) else ((rowlockref03_Less.f k t223 t224 bt253.1 bt253.2).bind fun t260 => (some t260))))) else (some false))))))))) else ((rowlocklaw03_fixed.f k).bind fun t234 => (if t234 = true then (some (t214 == 0)) else (some false)))))) = some r := H
  have A7 := Aside0.mk A70
  clear A70
  replace H := Option.bind_eq_some_iff.mp H
  obtain ⟨⟨t228, t229⟩, A80, H⟩ := H
  replace H : ((rowlockref03_Less.f k t228 t229 t223 t224).bind fun t233 => (if t233 = true then (if a2 = 0 then ((rowlocklaw03_fixed.f k).bind fun t235 => (if t235 = true then (some (t214 == 18446744073709551615)) else (some false))) else ((rowlockref03_Whole.f k t214).bind fun bt236 => ((rowlockref03_Whole.f k a2).bind fun bt240 => ((rowlockref03_Times.f k bt236.1 bt236.2 bt240.1 bt240.2).bind fun bt244 => ((rowlockref03_Whole.f k a2).bind fun bt249 => ((rowlockref03_Plus.f k bt244.1 bt244.2 bt249.1 bt249.2).bind fun bt253 => ((rowlocklaw03_fixed.f k).bind fun t258 => (if t258 = true then ((rowlockref03_Less.f k t223 t224 bt244.1 bt244.2).bind fun t259 => (if t259 = true then (some false) else (if t214 = 18446744073709551615 then (some true) else ((rowlockref03_Less.f k t223 t224 bt253.1 bt253.2).bind fun t260 => (some t260))))) else (some false))))))))) else ((rowlocklaw03_fixed.f k).bind fun t234 => (if t234 = true then (some (t214 == 0)) else (some false))))) = some r := H
  have A8 := Aside0.mk A80
  clear A80
  replace H := Option.bind_eq_some_iff.mp H
  obtain ⟨t233, A90, H⟩ := H
  replace H : (if t233 = true then (if a2 = 0 then ((rowlocklaw03_fixed.f k).bind fun t235 => (if t235 = true then (some (t214 == 18446744073709551615)) else (some false))) else ((rowlockref03_Whole.f k t214).bind fun bt236 => ((rowlockref03_Whole.f k a2).bind fun bt240 => ((rowlockref03_Times.f k bt236.1 bt236.2 bt240.1 bt240.2).bind fun bt244 => ((rowlockref03_Whole.f k a2).bind fun bt249 => ((rowlockref03_Plus.f k bt244.1 bt244.2 bt249.1 bt249.2).bind fun bt253 => ((rowlocklaw03_fixed.f k).bind fun t258 => (if t258 = true then ((rowlockref03_Less.f k t223 t224 bt244.1 bt244.2).bind fun t259 => (if t259 = true then (some false) else (if t214 = 18446744073709551615 then (some true) else ((rowlockref03_Less.f k t223 t224 bt253.1 bt253.2).bind fun t260 => (some t260))))) else (some false))))))))) else ((rowlocklaw03_fixed.f k).bind fun t234 => (if t234 = true then (some (t214 == 0)) else (some false)))) = some r := H
  have A9 := Aside0.mk A90
  clear A90
  by_cases c10 : t233 = true
  · subst c10
    have H1 : (if a2 = 0 then ((rowlocklaw03_fixed.f k).bind fun t235 => (if t235 = true then (some (t214 == 18446744073709551615)) else (some false))) else ((rowlockref03_Whole.f k t214).bind fun bt236 => ((rowlockref03_Whole.f k a2).bind fun bt240 => ((rowlockref03_Times.f k bt236.1 bt236.2 bt240.1 bt240.2).bind fun bt244 => ((rowlockref03_Whole.f k a2).bind fun bt249 => ((rowlockref03_Plus.f k bt244.1 bt244.2 bt249.1 bt249.2).bind fun bt253 => ((rowlocklaw03_fixed.f k).bind fun t258 => (if t258 = true then ((rowlockref03_Less.f k t223 t224 bt244.1 bt244.2).bind fun t259 => (if t259 = true then (some false) else (if t214 = 18446744073709551615 then (some true) else ((rowlockref03_Less.f k t223 t224 bt253.1 bt253.2).bind fun t260 => (some t260))))) else (some false))))))))) = some r := by rw [if_pos rfl] at H; exact H
    clear H
    have H := H1
    clear H1
    by_cases c11 : a2 = 0
    · rw [if_pos c11] at H
      have c11b0 : (a2 == 0) = true := beq_iff_eq.mpr c11
      have c11b1 : (a2 != 0) = false := bne_eq_false_iff_eq.mpr c11
      clear c11
      replace H := Option.bind_eq_some_iff.mp H
      obtain ⟨t235, A120, H⟩ := H
      replace H : (if t235 = true then (some (t214 == 18446744073709551615)) else (some false)) = some r := H
      have A12 := Aside0.mk A120
      clear A120
      by_cases c13 : t235 = true
      · subst c13
        have H1 : (some (t214 == 18446744073709551615)) = some r := by rw [if_pos rfl] at H; exact H
        clear H
        have H := H1
        clear H1
        obtain rfl := Option.some.inj H
        go_enter Try.func4, Try.ntmps4
        go_wp2_with (first | ((with_reducible refine gate_callee (f := 11) rfl ?_); refine goesL_ (some 15) rfl rfl Try.func11 (by kernel_rfl) rfl #[.int .u64 a0, .int .u64 a1, .int .u64 a2] rfl am ?_; (with_reducible refine (calc_Times.calls k a0 a1 a2 t214 _ A4.out).mono ?_); rintro e w' ⟨rfl, ⟨nd, rfl⟩⟩; refine ⟨_, rfl, ?_⟩) | ((with_reducible refine gate_callee (f := 13) rfl ?_); refine goesL_ (some 17) rfl rfl Try.func13 (by kernel_rfl) rfl #[.int .u64 a0] rfl am ?_; (with_reducible refine (rowlockref03_Whole.calls k a0 t215 t216 _ A5.out).mono ?_); rintro e w14 ⟨v217, rfl, ho0, hb⟩; refine ⟨_, rfl, ?_⟩; have n0_ := Aside0.mk (Kd.R_lower ho0 (below_size bl)); have n1_ := Aside0.mk (below_step bl hb); clear HB; have HO218 := n0_; have HB := n1_; clear n0_ n1_; (try clear hb); (try clear hb2); (try clear hk); (try clear hi); (try clear ho0)) | ((with_reducible refine gate_callee (f := 13) rfl ?_); refine goesL_ (some 19) rfl rfl Try.func13 (by kernel_rfl) rfl #[.int .u64 a1] rfl am ?_; (with_reducible refine (rowlockref03_Whole.calls k a1 t219 t220 _ A6.out).mono ?_); rintro e w15 ⟨v221, rfl, ho0, hb⟩; refine ⟨_, rfl, ?_⟩; have n0_ := Aside0.mk (Kd.R_elder' (rk HO218) (Kd.R_base ho0) hb); have n1_ := Aside0.mk (Kd.R_lower (Kd.R_new' ho0 (Kd.R_lt (rk HO218))) (below_size bl)); have n2_ := Aside0.mk (below_step bl hb); clear HO218; clear HB; have HO218 := n0_; have HO222 := n1_; have HB := n2_; clear n0_ n1_ n2_; (try clear hb); (try clear hb2); (try clear hk); (try clear hi); (try clear ho0); obtain ⟨Ao16, co16, eo16⟩ := Kd.R_slice HO218.out; subst eo16; obtain ⟨Ao17, co17, eo17⟩ := Kd.R_slice HO222.out; subst eo17) | ((with_reducible refine gate_callee (f := 12) rfl ?_); refine goesL_ (some 20) rfl rfl Try.func12 (by kernel_rfl) rfl #[.agg #[.int .i64 t215, .slice Ao16 t216.length co16], .agg #[.int .i64 t219, .slice Ao17 t220.length co17]] rfl am ?_; (with_reducible refine (rowlockref03_Times.calls k t215 _ _ t216 t219 _ _ t220 t223 t224 _ ?side1 ?side2 ?side3 ?side4 A7.out).mono ?_); (case side1 => repeat (first | exact (Kd.R_reads' HO218.out).2.2 | (with_reducible refine Kd.C_alloc ?_ _) | (with_reducible refine Kd.C_drewN ?_ _) | (with_reducible refine Kd.C_drew ?_))); (case side2 => exact (Kd.R_reads' HO218.out).2.1); (case side3 => repeat (first | exact (Kd.R_reads' HO222.out).2.2 | (with_reducible refine Kd.C_alloc ?_ _) | (with_reducible refine Kd.C_drewN ?_ _) | (with_reducible refine Kd.C_drew ?_))); (case side4 => exact (Kd.R_reads' HO222.out).2.1); rintro e w18 ⟨v225, rfl, ho0, hb⟩; refine ⟨_, rfl, ?_⟩; have n0_ := Aside0.mk (Kd.R_elder' (rk HO218) (Kd.R_base ho0) hb); have n1_ := Aside0.mk (Kd.R_elder' (rk HO222) (Kd.R_base ho0) hb); have n2_ := Aside0.mk (Kd.R_lower (Kd.R_new' (Kd.R_new' ho0 (Kd.R_lt (rk HO218))) (Kd.R_lt (rk HO222))) (below_size bl)); have n3_ := Aside0.mk (below_step bl hb); clear HO218; clear HO222; clear HB; have HO218 := n0_; have HO222 := n1_; have HO226 := n2_; have HB := n3_; clear n0_ n1_ n2_ n3_; (try clear hb); (try clear hb2); (try clear hk); (try clear hi); (try clear ho0)) | ((with_reducible refine gate_dst (N := 8) rfl ?_); refine box_event ?hg (N := 8) ?hd (cs := #[.int .i64 0, .slice none 0 0]) (t := 31) ?hr ?_; (case hd => rfl); (case hg => rfl); (case hr => first | (go_simp; done) | (go_simp; rfl)); intro gb227 hg w19 hbox hb; have n0_ := Aside0.mk (Kd.R_below (rk HO218) hb); have n1_ := Aside0.mk (Kd.R_below (rk HO222) hb); have n2_ := Aside0.mk (Kd.R_below (rk HO226) hb); have n3_ := Aside0.mk (below_step bl hb); have n4_ := Aside0.mk (hbox); have n5_ := Aside0.mk ((sz hg : w.heap.size ≤ gb227)); have n6_ := Aside0.mk ((sz hg : w.heap.size ≤ gb227)); clear HO218; clear HO222; clear HO226; clear HB; have HO218 := n0_; have HO222 := n1_; have HO226 := n2_; have HB := n3_; have BK227 := n4_; have GW227 := n5_; have GE227 := n6_; clear n0_ n1_ n2_ n3_ n4_ n5_ n6_; clear hb hbox hg; have hcz20_0 : w19.cell? ⟨gb227, 0, none⟩ = some (.int .i64 0) := (blk_cell BK227.out 0).trans rfl; have hcz20_1 : w19.cell? ⟨gb227, 1, none⟩ = some (.slice none 0 0) := (blk_cell BK227.out 1).trans rfl; have hfz20_0 := blk_frozen BK227.out 0; have hfz20_1 := blk_frozen BK227.out 1; obtain ⟨Ao21, co21, eo21⟩ := Kd.R_slice HO226.out; subst eo21) | ((with_reducible refine gate_callee (f := 13) rfl ?_); refine goesL_ (some 21) rfl rfl Try.func13 (by kernel_rfl) rfl #[.int .u64 0] rfl am ?_; (with_reducible refine (rowlockref03_Whole.calls k 0 t228 t229 _ A8.out).mono ?_); rintro e w22 ⟨v230, rfl, ho0, hb⟩; refine ⟨_, rfl, ?_⟩; have n0_ := Aside0.mk (Kd.R_elder' (by (with_reducible repeat (first | apply Kd.R_alloc | apply Kd.R_drewN | apply Kd.R_drew)); exact (Kd.R_mono (Kd.R_far (p := ⟨gb227, 1, none⟩) (Kd.R_far (p := ⟨gb227, 0, none⟩) (Kd.R_types HO218.out BK227.out (by decide)) (fun _ hk => hk.2) (.int .i64 t223)) (fun _ hk => hk.2) (.slice Ao21 t224.length co21)) (fun _ h_ => h_.1))) (Kd.R_base ho0) hb); have n1_ := Aside0.mk (Kd.R_elder' (by (with_reducible repeat (first | apply Kd.R_alloc | apply Kd.R_drewN | apply Kd.R_drew)); exact (Kd.R_mono (Kd.R_far (p := ⟨gb227, 1, none⟩) (Kd.R_far (p := ⟨gb227, 0, none⟩) (Kd.R_types HO222.out BK227.out (by decide)) (fun _ hk => hk.2) (.int .i64 t223)) (fun _ hk => hk.2) (.slice Ao21 t224.length co21)) (fun _ h_ => h_.1))) (Kd.R_base ho0) hb); have n2_ := Aside0.mk (Kd.R_elder' (by (with_reducible repeat (first | apply Kd.R_alloc | apply Kd.R_drewN | apply Kd.R_drew)); exact (Kd.R_mono (Kd.R_far (p := ⟨gb227, 1, none⟩) (Kd.R_far (p := ⟨gb227, 0, none⟩) (Kd.R_types HO226.out BK227.out (by decide)) (fun _ hk => hk.2) (.int .i64 t223)) (fun _ hk => hk.2) (.slice Ao21 t224.length co21)) (fun _ h_ => h_.1))) (Kd.R_base ho0) hb); have n3_ := Aside0.mk (Kd.R_lower (Kd.R_new' (Kd.R_new' (Kd.R_new' ho0 (Kd.R_lt (by (with_reducible repeat (first | apply Kd.R_alloc | apply Kd.R_drewN | apply Kd.R_drew)); exact (Kd.R_mono (Kd.R_far (p := ⟨gb227, 1, none⟩) (Kd.R_far (p := ⟨gb227, 0, none⟩) (Kd.R_types HO218.out BK227.out (by decide)) (fun _ hk => hk.2) (.int .i64 t223)) (fun _ hk => hk.2) (.slice Ao21 t224.length co21)) (fun _ h_ => h_.1))))) (Kd.R_lt (by (with_reducible repeat (first | apply Kd.R_alloc | apply Kd.R_drewN | apply Kd.R_drew)); exact (Kd.R_mono (Kd.R_far (p := ⟨gb227, 1, none⟩) (Kd.R_far (p := ⟨gb227, 0, none⟩) (Kd.R_types HO222.out BK227.out (by decide)) (fun _ hk => hk.2) (.int .i64 t223)) (fun _ hk => hk.2) (.slice Ao21 t224.length co21)) (fun _ h_ => h_.1))))) (Kd.R_lt (by (with_reducible repeat (first | apply Kd.R_alloc | apply Kd.R_drewN | apply Kd.R_drew)); exact (Kd.R_mono (Kd.R_far (p := ⟨gb227, 1, none⟩) (Kd.R_far (p := ⟨gb227, 0, none⟩) (Kd.R_types HO226.out BK227.out (by decide)) (fun _ hk => hk.2) (.int .i64 t223)) (fun _ hk => hk.2) (.slice Ao21 t224.length co21)) (fun _ h_ => h_.1))))) (below_size bl)); have n4_ := Aside0.mk (blk_below (g := gb227) (o := .cells #[.int .i64 t223, .slice Ao21 t224.length co21] 31 (0, 0)) (by (with_reducible repeat (first | refine blk_drewN ?_ _ | refine blk_drew ?_ | refine blk_alloc ?_ _)); refine blk_put (cs := #[.int .i64 t223, .slice none 0 0]) ?_ 1 _ rfl; (with_reducible repeat (first | refine blk_drewN ?_ _ | refine blk_drew ?_ | refine blk_alloc ?_ _)); refine blk_put (cs := #[.int .i64 0, .slice none 0 0]) ?_ 0 _ rfl; (with_reducible repeat (first | refine blk_drewN ?_ _ | refine blk_drew ?_ | refine blk_alloc ?_ _)); exact BK227.out) hb); have n5_ := Aside0.mk (below_step bl hb); clear HO218; clear HO222; clear HO226; clear BK227; clear HB; have HO218 := n0_; have HO222 := n1_; have HO226 := n2_; have HO231 := n3_; have BK227 := n4_; have HB := n5_; clear n0_ n1_ n2_ n3_ n4_ n5_; (try clear hb); (try clear hb2); (try clear hk); (try clear hi); (try clear ho0)) | ((with_reducible refine gate_dst (N := 9) rfl ?_); refine box_event ?hg (N := 9) ?hd (cs := #[.int .i64 0, .slice none 0 0]) (t := 31) ?hr ?_; (case hd => rfl); (case hg => rfl); (case hr => first | (go_simp; done) | (go_simp; rfl)); intro gb232 hg w23 hbox hb; have n0_ := Aside0.mk (Kd.R_below (rk HO218) hb); have n1_ := Aside0.mk (Kd.R_below (rk HO222) hb); have n2_ := Aside0.mk (Kd.R_below (rk HO226) hb); have n3_ := Aside0.mk (Kd.R_below (rk HO231) hb); have n4_ := Aside0.mk (bb (g := gb227) hb); have n5_ := Aside0.mk (below_step bl hb); have n6_ := Aside0.mk (hbox); have n7_ := Aside0.mk ((sz hg : w.heap.size ≤ gb232)); have n8_ := Aside0.mk ((sz hg : w.heap.size ≤ gb232)); have n9_ := Aside0.mk ((nl hg : gb227 ≠ gb232)); have n10_ := Aside0.mk ((ng hg : gb232 ≠ gb227)); clear HO218; clear HO222; clear HO226; clear HO231; clear BK227; clear HB; have HO218 := n0_; have HO222 := n1_; have HO226 := n2_; have HO231 := n3_; have BK227 := n4_; have HB := n5_; have BK232 := n6_; have GW232 := n7_; have GE232 := n8_; have NB227_232 := n9_; have NB232_227 := n10_; clear n0_ n1_ n2_ n3_ n4_ n5_ n6_ n7_ n8_ n9_ n10_; clear hb hbox hg; have hnb24 := NB232_227.out; have hnc24 := NB227_232.out; have hcz25_0 : w23.cell? ⟨gb232, 0, none⟩ = some (.int .i64 0) := (blk_cell BK232.out 0).trans rfl; have hcz25_1 : w23.cell? ⟨gb232, 1, none⟩ = some (.slice none 0 0) := (blk_cell BK232.out 1).trans rfl; have hfz25_0 := blk_frozen BK232.out 0; have hfz25_1 := blk_frozen BK232.out 1; obtain ⟨Ao26, co26, eo26⟩ := Kd.R_slice HO231.out; subst eo26; have hcz27_0 : w23.cell? ⟨gb227, 0, none⟩ = some (.int .i64 t223) := (blk_cell BK227.out 0).trans rfl; have hcz27_1 : w23.cell? ⟨gb227, 1, none⟩ = some (.slice Ao21 t224.length co21) := (blk_cell BK227.out 1).trans rfl; have hfz27_0 := blk_frozen BK227.out 0; have hfz27_1 := blk_frozen BK227.out 1) | ((with_reducible refine gate_callee (f := 14) rfl ?_); refine goesL_ (some 24) rfl rfl Try.func14 (by kernel_rfl) rfl #[.agg #[.int .i64 t228, .slice Ao26 t229.length co26], .agg #[.int .i64 t223, .slice Ao21 t224.length co21]] rfl am ?_; (with_reducible refine (rowlockref03_Less.calls k t228 _ _ t229 t223 _ _ t224 true _ ?side1 ?side2 ?side3 ?side4 A9.out).mono ?_); (case side1 => refine (Kd.R_reads' (e := 27) (base := w.heap.size) (ok := fun k_ => (((True ∧ some k_ ≠ (.slice Ao16 t216.length co16 : Value).ownBlock) ∧ some k_ ≠ (.slice Ao17 t220.length co17 : Value).ownBlock) ∧ some k_ ≠ (.slice Ao21 t224.length co21 : Value).ownBlock)) (n := t229.length) (c := co26) ?_).2.2; exact (by (with_reducible repeat (first | apply Kd.R_alloc | apply Kd.R_drewN | apply Kd.R_drew)); exact (Kd.R_mono (Kd.R_far (p := ⟨gb232, 1, none⟩) (Kd.R_far (p := ⟨gb232, 0, none⟩) (Kd.R_types HO231.out BK232.out (by decide)) (fun _ hk => hk.2) (.int .i64 t228)) (fun _ hk => hk.2) (.slice Ao26 t229.length co26)) (fun _ h_ => h_.1)))); (case side2 => exact (Kd.R_reads' HO231.out).2.1); (case side3 => refine (Kd.R_reads' (e := 27) (base := w.heap.size) (ok := fun k_ => (((True ∧ some k_ ≠ (.slice Ao16 t216.length co16 : Value).ownBlock) ∧ some k_ ≠ (.slice Ao17 t220.length co17 : Value).ownBlock) ∧ some k_ ≠ (.slice Ao26 t229.length co26 : Value).ownBlock)) (n := t224.length) (c := co21) ?_).2.2; exact (by (with_reducible repeat (first | apply Kd.R_alloc | apply Kd.R_drewN | apply Kd.R_drew)); exact (Kd.R_mono (Kd.R_far (p := ⟨gb232, 1, none⟩) (Kd.R_far (p := ⟨gb232, 0, none⟩) (Kd.R_types HO226.out BK232.out (by decide)) (fun _ hk => hk.2) (.int .i64 t228)) (fun _ hk => hk.2) (.slice Ao26 t229.length co26)) (fun _ h_ => h_.1)))); (case side4 => exact (Kd.R_reads' HO226.out).2.1); rintro e w28 ⟨rfl, hb⟩; refine ⟨_, rfl, ?_⟩; have n0_ := Aside0.mk (Kd.R_below (by (with_reducible repeat (first | apply Kd.R_alloc | apply Kd.R_drewN | apply Kd.R_drew)); exact (Kd.R_mono (Kd.R_far (p := ⟨gb232, 1, none⟩) (Kd.R_far (p := ⟨gb232, 0, none⟩) (Kd.R_types HO218.out BK232.out (by decide)) (fun _ hk => hk.2) (.int .i64 t228)) (fun _ hk => hk.2) (.slice Ao26 t229.length co26)) (fun _ h_ => h_.1))) hb); have n1_ := Aside0.mk (Kd.R_below (by (with_reducible repeat (first | apply Kd.R_alloc | apply Kd.R_drewN | apply Kd.R_drew)); exact (Kd.R_mono (Kd.R_far (p := ⟨gb232, 1, none⟩) (Kd.R_far (p := ⟨gb232, 0, none⟩) (Kd.R_types HO222.out BK232.out (by decide)) (fun _ hk => hk.2) (.int .i64 t228)) (fun _ hk => hk.2) (.slice Ao26 t229.length co26)) (fun _ h_ => h_.1))) hb); have n2_ := Aside0.mk (Kd.R_below (by (with_reducible repeat (first | apply Kd.R_alloc | apply Kd.R_drewN | apply Kd.R_drew)); exact (Kd.R_mono (Kd.R_far (p := ⟨gb232, 1, none⟩) (Kd.R_far (p := ⟨gb232, 0, none⟩) (Kd.R_types HO226.out BK232.out (by decide)) (fun _ hk => hk.2) (.int .i64 t228)) (fun _ hk => hk.2) (.slice Ao26 t229.length co26)) (fun _ h_ => h_.1))) hb); have n3_ := Aside0.mk (Kd.R_below (by (with_reducible repeat (first | apply Kd.R_alloc | apply Kd.R_drewN | apply Kd.R_drew)); exact (Kd.R_mono (Kd.R_far (p := ⟨gb232, 1, none⟩) (Kd.R_far (p := ⟨gb232, 0, none⟩) (Kd.R_types HO231.out BK232.out (by decide)) (fun _ hk => hk.2) (.int .i64 t228)) (fun _ hk => hk.2) (.slice Ao26 t229.length co26)) (fun _ h_ => h_.1))) hb); have n4_ := Aside0.mk (blk_below (g := gb227) (o := .cells #[.int .i64 t223, .slice Ao21 t224.length co21] 31 (0, 0)) (by (with_reducible repeat (first | refine blk_drewN ?_ _ | refine blk_drew ?_ | refine blk_alloc ?_ _)); refine blk_far ?_ NB227_232.out _; (with_reducible repeat (first | refine blk_drewN ?_ _ | refine blk_drew ?_ | refine blk_alloc ?_ _)); refine blk_far ?_ NB227_232.out _; (with_reducible repeat (first | refine blk_drewN ?_ _ | refine blk_drew ?_ | refine blk_alloc ?_ _)); exact BK227.out) hb); have n5_ := Aside0.mk (blk_below (g := gb232) (o := .cells #[.int .i64 t228, .slice Ao26 t229.length co26] 31 (0, 0)) (by (with_reducible repeat (first | refine blk_drewN ?_ _ | refine blk_drew ?_ | refine blk_alloc ?_ _)); refine blk_put (cs := #[.int .i64 t228, .slice none 0 0]) ?_ 1 _ rfl; (with_reducible repeat (first | refine blk_drewN ?_ _ | refine blk_drew ?_ | refine blk_alloc ?_ _)); refine blk_put (cs := #[.int .i64 0, .slice none 0 0]) ?_ 0 _ rfl; (with_reducible repeat (first | refine blk_drewN ?_ _ | refine blk_drew ?_ | refine blk_alloc ?_ _)); exact BK232.out) hb); have n6_ := Aside0.mk (below_step bl hb); clear HO218; clear HO222; clear HO226; clear HO231; clear BK227; clear BK232; clear HB; have HO218 := n0_; have HO222 := n1_; have HO226 := n2_; have HO231 := n3_; have BK227 := n4_; have BK232 := n5_; have HB := n6_; clear n0_ n1_ n2_ n3_ n4_ n5_ n6_; (try clear hb); (try clear hb2); (try clear hk); (try clear hi)) | ((with_reducible refine gate_callee (f := 8) rfl ?_); refine goesL_ (some 33) rfl rfl Try.func8 (by kernel_rfl) rfl #[] rfl am ?_; (with_reducible refine (rowlocklaw03_fixed.calls k  true _ A12.out).mono ?_); rintro e w29 ⟨rfl, hb⟩; refine ⟨_, rfl, ?_⟩; have n0_ := Aside0.mk (Kd.R_below (rk HO218) hb); have n1_ := Aside0.mk (Kd.R_below (rk HO222) hb); have n2_ := Aside0.mk (Kd.R_below (rk HO226) hb); have n3_ := Aside0.mk (Kd.R_below (rk HO231) hb); have n4_ := Aside0.mk (bb (g := gb227) hb); have n5_ := Aside0.mk (bb (g := gb232) hb); have n6_ := Aside0.mk (below_step bl hb); clear HO218; clear HO222; clear HO226; clear HO231; clear BK227; clear BK232; clear HB; have HO218 := n0_; have HO222 := n1_; have HO226 := n2_; have HO231 := n3_; have BK227 := n4_; have BK232 := n5_; have HB := n6_; clear n0_ n1_ n2_ n3_ n4_ n5_ n6_; (try clear hb); (try clear hb2); (try clear hk); (try clear hi)))
        go_ret
        exact ⟨by first | rfl | (simp [errW_none, errW_some] <;> rfl) | (simp [*, errW_none, errW_some] <;> rfl), bl⟩
      · replace c13 := Bool.eq_false_iff.mpr c13
        subst c13
        have H1 : (some false) = some r := by rw [if_neg (show ¬ (false = true) by decide)] at H; exact H
        clear H
        have H := H1
        clear H1
        obtain rfl := Option.some.inj H
        exact absurd hrt.out (by decide)
    · rw [if_neg c11] at H
      have c11b0 : (a2 == 0) = false := beq_eq_false_iff_ne.mpr c11
      have c11b1 : (a2 != 0) = true := bne_iff_ne.mpr c11
      replace H := Option.bind_eq_some_iff.mp H
      obtain ⟨⟨t236, t237⟩, A300, H⟩ := H
      replace H : ((rowlockref03_Whole.f k a2).bind fun bt240 => ((rowlockref03_Times.f k t236 t237 bt240.1 bt240.2).bind fun bt244 => ((rowlockref03_Whole.f k a2).bind fun bt249 => ((rowlockref03_Plus.f k bt244.1 bt244.2 bt249.1 bt249.2).bind fun bt253 => ((rowlocklaw03_fixed.f k).bind fun t258 => (if t258 = true then ((rowlockref03_Less.f k t223 t224 bt244.1 bt244.2).bind fun t259 => (if t259 = true then (some false) else (if t214 = 18446744073709551615 then (some true) else ((rowlockref03_Less.f k t223 t224 bt253.1 bt253.2).bind fun t260 => (some t260))))) else (some false))))))) = some r := H
      have A30 := Aside0.mk A300
      clear A300
      replace H := Option.bind_eq_some_iff.mp H
      obtain ⟨⟨t240, t241⟩, A310, H⟩ := H
      replace H : ((rowlockref03_Times.f k t236 t237 t240 t241).bind fun bt244 => ((rowlockref03_Whole.f k a2).bind fun bt249 => ((rowlockref03_Plus.f k bt244.1 bt244.2 bt249.1 bt249.2).bind fun bt253 => ((rowlocklaw03_fixed.f k).bind fun t258 => (if t258 = true then ((rowlockref03_Less.f k t223 t224 bt244.1 bt244.2).bind fun t259 => (if t259 = true then (some false) else (if t214 = 18446744073709551615 then (some true) else ((rowlockref03_Less.f k t223 t224 bt253.1 bt253.2).bind fun t260 => (some t260))))) else (some false)))))) = some r := H
      have A31 := Aside0.mk A310
      clear A310
      replace H := Option.bind_eq_some_iff.mp H
      obtain ⟨⟨t244, t245⟩, A320, H⟩ := H
      replace H : ((rowlockref03_Whole.f k a2).bind fun bt249 => ((rowlockref03_Plus.f k t244 t245 bt249.1 bt249.2).bind fun bt253 => ((rowlocklaw03_fixed.f k).bind fun t258 => (if t258 = true then ((rowlockref03_Less.f k t223 t224 t244 t245).bind fun t259 => (if t259 = true then (some false) else (if t214 = 18446744073709551615 then (some true) else ((rowlockref03_Less.f k t223 t224 bt253.1 bt253.2).bind fun t260 => (some t260))))) else (some false))))) = some r := H
      have A32 := Aside0.mk A320
      clear A320
      replace H := Option.bind_eq_some_iff.mp H
      obtain ⟨⟨t249, t250⟩, A330, H⟩ := H
      replace H : ((rowlockref03_Plus.f k t244 t245 t249 t250).bind fun bt253 => ((rowlocklaw03_fixed.f k).bind fun t258 => (if t258 = true then ((rowlockref03_Less.f k t223 t224 t244 t245).bind fun t259 => (if t259 = true then (some false) else (if t214 = 18446744073709551615 then (some true) else ((rowlockref03_Less.f k t223 t224 bt253.1 bt253.2).bind fun t260 => (some t260))))) else (some false)))) = some r := H
      have A33 := Aside0.mk A330
      clear A330
      replace H := Option.bind_eq_some_iff.mp H
      obtain ⟨⟨t253, t254⟩, A340, H⟩ := H
      replace H : ((rowlocklaw03_fixed.f k).bind fun t258 => (if t258 = true then ((rowlockref03_Less.f k t223 t224 t244 t245).bind fun t259 => (if t259 = true then (some false) else (if t214 = 18446744073709551615 then (some true) else ((rowlockref03_Less.f k t223 t224 t253 t254).bind fun t260 => (some t260))))) else (some false))) = some r := H
      have A34 := Aside0.mk A340
      clear A340
      replace H := Option.bind_eq_some_iff.mp H
      obtain ⟨t258, A350, H⟩ := H
      replace H : (if t258 = true then ((rowlockref03_Less.f k t223 t224 t244 t245).bind fun t259 => (if t259 = true then (some false) else (if t214 = 18446744073709551615 then (some true) else ((rowlockref03_Less.f k t223 t224 t253 t254).bind fun t260 => (some t260))))) else (some false)) = some r := H
      have A35 := Aside0.mk A350
      clear A350
      by_cases c36 : t258 = true
      · subst c36
        have H1 : ((rowlockref03_Less.f k t223 t224 t244 t245).bind fun t259 => (if t259 = true then (some false) else (if t214 = 18446744073709551615 then (some true) else ((rowlockref03_Less.f k t223 t224 t253 t254).bind fun t260 => (some t260))))) = some r := by rw [if_pos rfl] at H; exact H
        clear H
        have H := H1
        clear H1
        replace H := Option.bind_eq_some_iff.mp H
        obtain ⟨t259, A370, H⟩ := H
        replace H : (if t259 = true then (some false) else (if t214 = 18446744073709551615 then (some true) else ((rowlockref03_Less.f k t223 t224 t253 t254).bind fun t260 => (some t260)))) = some r := H
        have A37 := Aside0.mk A370
        clear A370
        by_cases c38 : t259 = true
        · subst c38
          have H1 : (some false) = some r := by rw [if_pos rfl] at H; exact H
          clear H
          have H := H1
          clear H1
          obtain rfl := Option.some.inj H
          exact absurd hrt.out (by decide)
        · replace c38 := Bool.eq_false_iff.mpr c38
          subst c38
          have H1 : (if t214 = 18446744073709551615 then (some true) else ((rowlockref03_Less.f k t223 t224 t253 t254).bind fun t260 => (some t260))) = some r := by rw [if_neg (show ¬ (false = true) by decide)] at H; exact H
          clear H
          have H := H1
          clear H1
          by_cases c39 : t214 = 18446744073709551615
          · rw [if_pos c39] at H
            have c39b0 : (t214 == 18446744073709551615) = true := beq_iff_eq.mpr c39
            have c39b1 : (t214 != 18446744073709551615) = false := bne_eq_false_iff_eq.mpr c39
            clear c39
            obtain rfl := Option.some.inj H
            go_enter Try.func4, Try.ntmps4
            try go_wp2_with (first | ((with_reducible refine gate_callee (f := 11) rfl ?_); refine goesL_ (some 15) rfl rfl Try.func11 (by kernel_rfl) rfl #[.int .u64 a0, .int .u64 a1, .int .u64 a2] rfl am ?_; (with_reducible refine (calc_Times.calls k a0 a1 a2 t214 _ A4.out).mono ?_); rintro e w' ⟨rfl, ⟨nd, rfl⟩⟩; refine ⟨_, rfl, ?_⟩) | ((with_reducible refine gate_callee (f := 13) rfl ?_); refine goesL_ (some 17) rfl rfl Try.func13 (by kernel_rfl) rfl #[.int .u64 a0] rfl am ?_; (with_reducible refine (rowlockref03_Whole.calls k a0 t215 t216 _ A5.out).mono ?_); rintro e w40 ⟨v217, rfl, ho0, hb⟩; refine ⟨_, rfl, ?_⟩; have n0_ := Aside0.mk (Kd.R_lower ho0 (below_size bl)); have n1_ := Aside0.mk (below_step bl hb); clear HB; have HO218 := n0_; have HB := n1_; clear n0_ n1_; (try clear hb); (try clear hb2); (try clear hk); (try clear hi); (try clear ho0)) | ((with_reducible refine gate_callee (f := 13) rfl ?_); refine goesL_ (some 19) rfl rfl Try.func13 (by kernel_rfl) rfl #[.int .u64 a1] rfl am ?_; (with_reducible refine (rowlockref03_Whole.calls k a1 t219 t220 _ A6.out).mono ?_); rintro e w41 ⟨v221, rfl, ho0, hb⟩; refine ⟨_, rfl, ?_⟩; have n0_ := Aside0.mk (Kd.R_elder' (rk HO218) (Kd.R_base ho0) hb); have n1_ := Aside0.mk (Kd.R_lower (Kd.R_new' ho0 (Kd.R_lt (rk HO218))) (below_size bl)); have n2_ := Aside0.mk (below_step bl hb); clear HO218; clear HB; have HO218 := n0_; have HO222 := n1_; have HB := n2_; clear n0_ n1_ n2_; (try clear hb); (try clear hb2); (try clear hk); (try clear hi); (try clear ho0); obtain ⟨Ao42, co42, eo42⟩ := Kd.R_slice HO218.out; subst eo42; obtain ⟨Ao43, co43, eo43⟩ := Kd.R_slice HO222.out; subst eo43) | ((with_reducible refine gate_callee (f := 12) rfl ?_); refine goesL_ (some 20) rfl rfl Try.func12 (by kernel_rfl) rfl #[.agg #[.int .i64 t215, .slice Ao42 t216.length co42], .agg #[.int .i64 t219, .slice Ao43 t220.length co43]] rfl am ?_; (with_reducible refine (rowlockref03_Times.calls k t215 _ _ t216 t219 _ _ t220 t223 t224 _ ?side1 ?side2 ?side3 ?side4 A7.out).mono ?_); (case side1 => repeat (first | exact (Kd.R_reads' HO218.out).2.2 | (with_reducible refine Kd.C_alloc ?_ _) | (with_reducible refine Kd.C_drewN ?_ _) | (with_reducible refine Kd.C_drew ?_))); (case side2 => exact (Kd.R_reads' HO218.out).2.1); (case side3 => repeat (first | exact (Kd.R_reads' HO222.out).2.2 | (with_reducible refine Kd.C_alloc ?_ _) | (with_reducible refine Kd.C_drewN ?_ _) | (with_reducible refine Kd.C_drew ?_))); (case side4 => exact (Kd.R_reads' HO222.out).2.1); rintro e w44 ⟨v225, rfl, ho0, hb⟩; refine ⟨_, rfl, ?_⟩; have n0_ := Aside0.mk (Kd.R_elder' (rk HO218) (Kd.R_base ho0) hb); have n1_ := Aside0.mk (Kd.R_elder' (rk HO222) (Kd.R_base ho0) hb); have n2_ := Aside0.mk (Kd.R_lower (Kd.R_new' (Kd.R_new' ho0 (Kd.R_lt (rk HO218))) (Kd.R_lt (rk HO222))) (below_size bl)); have n3_ := Aside0.mk (below_step bl hb); clear HO218; clear HO222; clear HB; have HO218 := n0_; have HO222 := n1_; have HO226 := n2_; have HB := n3_; clear n0_ n1_ n2_ n3_; (try clear hb); (try clear hb2); (try clear hk); (try clear hi); (try clear ho0)) | ((with_reducible refine gate_dst (N := 8) rfl ?_); refine box_event ?hg (N := 8) ?hd (cs := #[.int .i64 0, .slice none 0 0]) (t := 31) ?hr ?_; (case hd => rfl); (case hg => rfl); (case hr => first | (go_simp; done) | (go_simp; rfl)); intro gb227 hg w45 hbox hb; have n0_ := Aside0.mk (Kd.R_below (rk HO218) hb); have n1_ := Aside0.mk (Kd.R_below (rk HO222) hb); have n2_ := Aside0.mk (Kd.R_below (rk HO226) hb); have n3_ := Aside0.mk (below_step bl hb); have n4_ := Aside0.mk (hbox); have n5_ := Aside0.mk ((sz hg : w.heap.size ≤ gb227)); have n6_ := Aside0.mk ((sz hg : w.heap.size ≤ gb227)); clear HO218; clear HO222; clear HO226; clear HB; have HO218 := n0_; have HO222 := n1_; have HO226 := n2_; have HB := n3_; have BK227 := n4_; have GW227 := n5_; have GE227 := n6_; clear n0_ n1_ n2_ n3_ n4_ n5_ n6_; clear hb hbox hg; have hcz46_0 : w45.cell? ⟨gb227, 0, none⟩ = some (.int .i64 0) := (blk_cell BK227.out 0).trans rfl; have hcz46_1 : w45.cell? ⟨gb227, 1, none⟩ = some (.slice none 0 0) := (blk_cell BK227.out 1).trans rfl; have hfz46_0 := blk_frozen BK227.out 0; have hfz46_1 := blk_frozen BK227.out 1; obtain ⟨Ao47, co47, eo47⟩ := Kd.R_slice HO226.out; subst eo47) | ((with_reducible refine gate_callee (f := 13) rfl ?_); refine goesL_ (some 21) rfl rfl Try.func13 (by kernel_rfl) rfl #[.int .u64 0] rfl am ?_; (with_reducible refine (rowlockref03_Whole.calls k 0 t228 t229 _ A8.out).mono ?_); rintro e w48 ⟨v230, rfl, ho0, hb⟩; refine ⟨_, rfl, ?_⟩; have n0_ := Aside0.mk (Kd.R_elder' (by (with_reducible repeat (first | apply Kd.R_alloc | apply Kd.R_drewN | apply Kd.R_drew)); exact (Kd.R_mono (Kd.R_far (p := ⟨gb227, 1, none⟩) (Kd.R_far (p := ⟨gb227, 0, none⟩) (Kd.R_types HO218.out BK227.out (by decide)) (fun _ hk => hk.2) (.int .i64 t223)) (fun _ hk => hk.2) (.slice Ao47 t224.length co47)) (fun _ h_ => h_.1))) (Kd.R_base ho0) hb); have n1_ := Aside0.mk (Kd.R_elder' (by (with_reducible repeat (first | apply Kd.R_alloc | apply Kd.R_drewN | apply Kd.R_drew)); exact (Kd.R_mono (Kd.R_far (p := ⟨gb227, 1, none⟩) (Kd.R_far (p := ⟨gb227, 0, none⟩) (Kd.R_types HO222.out BK227.out (by decide)) (fun _ hk => hk.2) (.int .i64 t223)) (fun _ hk => hk.2) (.slice Ao47 t224.length co47)) (fun _ h_ => h_.1))) (Kd.R_base ho0) hb); have n2_ := Aside0.mk (Kd.R_elder' (by (with_reducible repeat (first | apply Kd.R_alloc | apply Kd.R_drewN | apply Kd.R_drew)); exact (Kd.R_mono (Kd.R_far (p := ⟨gb227, 1, none⟩) (Kd.R_far (p := ⟨gb227, 0, none⟩) (Kd.R_types HO226.out BK227.out (by decide)) (fun _ hk => hk.2) (.int .i64 t223)) (fun _ hk => hk.2) (.slice Ao47 t224.length co47)) (fun _ h_ => h_.1))) (Kd.R_base ho0) hb); have n3_ := Aside0.mk (Kd.R_lower (Kd.R_new' (Kd.R_new' (Kd.R_new' ho0 (Kd.R_lt (by (with_reducible repeat (first | apply Kd.R_alloc | apply Kd.R_drewN | apply Kd.R_drew)); exact (Kd.R_mono (Kd.R_far (p := ⟨gb227, 1, none⟩) (Kd.R_far (p := ⟨gb227, 0, none⟩) (Kd.R_types HO218.out BK227.out (by decide)) (fun _ hk => hk.2) (.int .i64 t223)) (fun _ hk => hk.2) (.slice Ao47 t224.length co47)) (fun _ h_ => h_.1))))) (Kd.R_lt (by (with_reducible repeat (first | apply Kd.R_alloc | apply Kd.R_drewN | apply Kd.R_drew)); exact (Kd.R_mono (Kd.R_far (p := ⟨gb227, 1, none⟩) (Kd.R_far (p := ⟨gb227, 0, none⟩) (Kd.R_types HO222.out BK227.out (by decide)) (fun _ hk => hk.2) (.int .i64 t223)) (fun _ hk => hk.2) (.slice Ao47 t224.length co47)) (fun _ h_ => h_.1))))) (Kd.R_lt (by (with_reducible repeat (first | apply Kd.R_alloc | apply Kd.R_drewN | apply Kd.R_drew)); exact (Kd.R_mono (Kd.R_far (p := ⟨gb227, 1, none⟩) (Kd.R_far (p := ⟨gb227, 0, none⟩) (Kd.R_types HO226.out BK227.out (by decide)) (fun _ hk => hk.2) (.int .i64 t223)) (fun _ hk => hk.2) (.slice Ao47 t224.length co47)) (fun _ h_ => h_.1))))) (below_size bl)); have n4_ := Aside0.mk (blk_below (g := gb227) (o := .cells #[.int .i64 t223, .slice Ao47 t224.length co47] 31 (0, 0)) (by (with_reducible repeat (first | refine blk_drewN ?_ _ | refine blk_drew ?_ | refine blk_alloc ?_ _)); refine blk_put (cs := #[.int .i64 t223, .slice none 0 0]) ?_ 1 _ rfl; (with_reducible repeat (first | refine blk_drewN ?_ _ | refine blk_drew ?_ | refine blk_alloc ?_ _)); refine blk_put (cs := #[.int .i64 0, .slice none 0 0]) ?_ 0 _ rfl; (with_reducible repeat (first | refine blk_drewN ?_ _ | refine blk_drew ?_ | refine blk_alloc ?_ _)); exact BK227.out) hb); have n5_ := Aside0.mk (below_step bl hb); clear HO218; clear HO222; clear HO226; clear BK227; clear HB; have HO218 := n0_; have HO222 := n1_; have HO226 := n2_; have HO231 := n3_; have BK227 := n4_; have HB := n5_; clear n0_ n1_ n2_ n3_ n4_ n5_; (try clear hb); (try clear hb2); (try clear hk); (try clear hi); (try clear ho0)) | ((with_reducible refine gate_dst (N := 9) rfl ?_); refine box_event ?hg (N := 9) ?hd (cs := #[.int .i64 0, .slice none 0 0]) (t := 31) ?hr ?_; (case hd => rfl); (case hg => rfl); (case hr => first | (go_simp; done) | (go_simp; rfl)); intro gb232 hg w49 hbox hb; have n0_ := Aside0.mk (Kd.R_below (rk HO218) hb); have n1_ := Aside0.mk (Kd.R_below (rk HO222) hb); have n2_ := Aside0.mk (Kd.R_below (rk HO226) hb); have n3_ := Aside0.mk (Kd.R_below (rk HO231) hb); have n4_ := Aside0.mk (bb (g := gb227) hb); have n5_ := Aside0.mk (below_step bl hb); have n6_ := Aside0.mk (hbox); have n7_ := Aside0.mk ((sz hg : w.heap.size ≤ gb232)); have n8_ := Aside0.mk ((sz hg : w.heap.size ≤ gb232)); have n9_ := Aside0.mk ((nl hg : gb227 ≠ gb232)); have n10_ := Aside0.mk ((ng hg : gb232 ≠ gb227)); clear HO218; clear HO222; clear HO226; clear HO231; clear BK227; clear HB; have HO218 := n0_; have HO222 := n1_; have HO226 := n2_; have HO231 := n3_; have BK227 := n4_; have HB := n5_; have BK232 := n6_; have GW232 := n7_; have GE232 := n8_; have NB227_232 := n9_; have NB232_227 := n10_; clear n0_ n1_ n2_ n3_ n4_ n5_ n6_ n7_ n8_ n9_ n10_; clear hb hbox hg; have hnb50 := NB232_227.out; have hnc50 := NB227_232.out; have hcz51_0 : w49.cell? ⟨gb232, 0, none⟩ = some (.int .i64 0) := (blk_cell BK232.out 0).trans rfl; have hcz51_1 : w49.cell? ⟨gb232, 1, none⟩ = some (.slice none 0 0) := (blk_cell BK232.out 1).trans rfl; have hfz51_0 := blk_frozen BK232.out 0; have hfz51_1 := blk_frozen BK232.out 1; obtain ⟨Ao52, co52, eo52⟩ := Kd.R_slice HO231.out; subst eo52; have hcz53_0 : w49.cell? ⟨gb227, 0, none⟩ = some (.int .i64 t223) := (blk_cell BK227.out 0).trans rfl; have hcz53_1 : w49.cell? ⟨gb227, 1, none⟩ = some (.slice Ao47 t224.length co47) := (blk_cell BK227.out 1).trans rfl; have hfz53_0 := blk_frozen BK227.out 0; have hfz53_1 := blk_frozen BK227.out 1) | ((with_reducible refine gate_callee (f := 14) rfl ?_); refine goesL_ (some 24) rfl rfl Try.func14 (by kernel_rfl) rfl #[.agg #[.int .i64 t228, .slice Ao52 t229.length co52], .agg #[.int .i64 t223, .slice Ao47 t224.length co47]] rfl am ?_; (with_reducible refine (rowlockref03_Less.calls k t228 _ _ t229 t223 _ _ t224 true _ ?side1 ?side2 ?side3 ?side4 A9.out).mono ?_); (case side1 => refine (Kd.R_reads' (e := 27) (base := w.heap.size) (ok := fun k_ => (((True ∧ some k_ ≠ (.slice Ao42 t216.length co42 : Value).ownBlock) ∧ some k_ ≠ (.slice Ao43 t220.length co43 : Value).ownBlock) ∧ some k_ ≠ (.slice Ao47 t224.length co47 : Value).ownBlock)) (n := t229.length) (c := co52) ?_).2.2; exact (by (with_reducible repeat (first | apply Kd.R_alloc | apply Kd.R_drewN | apply Kd.R_drew)); exact (Kd.R_mono (Kd.R_far (p := ⟨gb232, 1, none⟩) (Kd.R_far (p := ⟨gb232, 0, none⟩) (Kd.R_types HO231.out BK232.out (by decide)) (fun _ hk => hk.2) (.int .i64 t228)) (fun _ hk => hk.2) (.slice Ao52 t229.length co52)) (fun _ h_ => h_.1)))); (case side2 => exact (Kd.R_reads' HO231.out).2.1); (case side3 => refine (Kd.R_reads' (e := 27) (base := w.heap.size) (ok := fun k_ => (((True ∧ some k_ ≠ (.slice Ao42 t216.length co42 : Value).ownBlock) ∧ some k_ ≠ (.slice Ao43 t220.length co43 : Value).ownBlock) ∧ some k_ ≠ (.slice Ao52 t229.length co52 : Value).ownBlock)) (n := t224.length) (c := co47) ?_).2.2; exact (by (with_reducible repeat (first | apply Kd.R_alloc | apply Kd.R_drewN | apply Kd.R_drew)); exact (Kd.R_mono (Kd.R_far (p := ⟨gb232, 1, none⟩) (Kd.R_far (p := ⟨gb232, 0, none⟩) (Kd.R_types HO226.out BK232.out (by decide)) (fun _ hk => hk.2) (.int .i64 t228)) (fun _ hk => hk.2) (.slice Ao52 t229.length co52)) (fun _ h_ => h_.1)))); (case side4 => exact (Kd.R_reads' HO226.out).2.1); rintro e w54 ⟨rfl, hb⟩; refine ⟨_, rfl, ?_⟩; have n0_ := Aside0.mk (Kd.R_below (by (with_reducible repeat (first | apply Kd.R_alloc | apply Kd.R_drewN | apply Kd.R_drew)); exact (Kd.R_mono (Kd.R_far (p := ⟨gb232, 1, none⟩) (Kd.R_far (p := ⟨gb232, 0, none⟩) (Kd.R_types HO218.out BK232.out (by decide)) (fun _ hk => hk.2) (.int .i64 t228)) (fun _ hk => hk.2) (.slice Ao52 t229.length co52)) (fun _ h_ => h_.1))) hb); have n1_ := Aside0.mk (Kd.R_below (by (with_reducible repeat (first | apply Kd.R_alloc | apply Kd.R_drewN | apply Kd.R_drew)); exact (Kd.R_mono (Kd.R_far (p := ⟨gb232, 1, none⟩) (Kd.R_far (p := ⟨gb232, 0, none⟩) (Kd.R_types HO222.out BK232.out (by decide)) (fun _ hk => hk.2) (.int .i64 t228)) (fun _ hk => hk.2) (.slice Ao52 t229.length co52)) (fun _ h_ => h_.1))) hb); have n2_ := Aside0.mk (Kd.R_below (by (with_reducible repeat (first | apply Kd.R_alloc | apply Kd.R_drewN | apply Kd.R_drew)); exact (Kd.R_mono (Kd.R_far (p := ⟨gb232, 1, none⟩) (Kd.R_far (p := ⟨gb232, 0, none⟩) (Kd.R_types HO226.out BK232.out (by decide)) (fun _ hk => hk.2) (.int .i64 t228)) (fun _ hk => hk.2) (.slice Ao52 t229.length co52)) (fun _ h_ => h_.1))) hb); have n3_ := Aside0.mk (Kd.R_below (by (with_reducible repeat (first | apply Kd.R_alloc | apply Kd.R_drewN | apply Kd.R_drew)); exact (Kd.R_mono (Kd.R_far (p := ⟨gb232, 1, none⟩) (Kd.R_far (p := ⟨gb232, 0, none⟩) (Kd.R_types HO231.out BK232.out (by decide)) (fun _ hk => hk.2) (.int .i64 t228)) (fun _ hk => hk.2) (.slice Ao52 t229.length co52)) (fun _ h_ => h_.1))) hb); have n4_ := Aside0.mk (blk_below (g := gb227) (o := .cells #[.int .i64 t223, .slice Ao47 t224.length co47] 31 (0, 0)) (by (with_reducible repeat (first | refine blk_drewN ?_ _ | refine blk_drew ?_ | refine blk_alloc ?_ _)); refine blk_far ?_ NB227_232.out _; (with_reducible repeat (first | refine blk_drewN ?_ _ | refine blk_drew ?_ | refine blk_alloc ?_ _)); refine blk_far ?_ NB227_232.out _; (with_reducible repeat (first | refine blk_drewN ?_ _ | refine blk_drew ?_ | refine blk_alloc ?_ _)); exact BK227.out) hb); have n5_ := Aside0.mk (blk_below (g := gb232) (o := .cells #[.int .i64 t228, .slice Ao52 t229.length co52] 31 (0, 0)) (by (with_reducible repeat (first | refine blk_drewN ?_ _ | refine blk_drew ?_ | refine blk_alloc ?_ _)); refine blk_put (cs := #[.int .i64 t228, .slice none 0 0]) ?_ 1 _ rfl; (with_reducible repeat (first | refine blk_drewN ?_ _ | refine blk_drew ?_ | refine blk_alloc ?_ _)); refine blk_put (cs := #[.int .i64 0, .slice none 0 0]) ?_ 0 _ rfl; (with_reducible repeat (first | refine blk_drewN ?_ _ | refine blk_drew ?_ | refine blk_alloc ?_ _)); exact BK232.out) hb); have n6_ := Aside0.mk (below_step bl hb); clear HO218; clear HO222; clear HO226; clear HO231; clear BK227; clear BK232; clear HB; have HO218 := n0_; have HO222 := n1_; have HO226 := n2_; have HO231 := n3_; have BK227 := n4_; have BK232 := n5_; have HB := n6_; clear n0_ n1_ n2_ n3_ n4_ n5_ n6_; (try clear hb); (try clear hb2); (try clear hk); (try clear hi)) | ((with_reducible refine gate_callee (f := 13) rfl ?_); refine goesL_ (some 39) rfl rfl Try.func13 (by kernel_rfl) rfl #[.int .u64 t214] rfl am ?_; (with_reducible refine (rowlockref03_Whole.calls k t214 t236 t237 _ A30.out).mono ?_); rintro e w55 ⟨v238, rfl, ho0, hb⟩; refine ⟨_, rfl, ?_⟩; have n0_ := Aside0.mk (Kd.R_elder' (rk HO218) (Kd.R_base ho0) hb); have n1_ := Aside0.mk (Kd.R_elder' (rk HO222) (Kd.R_base ho0) hb); have n2_ := Aside0.mk (Kd.R_elder' (rk HO226) (Kd.R_base ho0) hb); have n3_ := Aside0.mk (Kd.R_elder' (rk HO231) (Kd.R_base ho0) hb); have n4_ := Aside0.mk (Kd.R_lower (Kd.R_new' (Kd.R_new' (Kd.R_new' (Kd.R_new' ho0 (Kd.R_lt (rk HO218))) (Kd.R_lt (rk HO222))) (Kd.R_lt (rk HO226))) (Kd.R_lt (rk HO231))) (below_size bl)); have n5_ := Aside0.mk (bb (g := gb227) hb); have n6_ := Aside0.mk (bb (g := gb232) hb); have n7_ := Aside0.mk (below_step bl hb); clear HO218; clear HO222; clear HO226; clear HO231; clear BK227; clear BK232; clear HB; have HO218 := n0_; have HO222 := n1_; have HO226 := n2_; have HO231 := n3_; have HO239 := n4_; have BK227 := n5_; have BK232 := n6_; have HB := n7_; clear n0_ n1_ n2_ n3_ n4_ n5_ n6_ n7_; (try clear hb); (try clear hb2); (try clear hk); (try clear hi); (try clear ho0)) | ((with_reducible refine gate_callee (f := 13) rfl ?_); refine goesL_ (some 41) rfl rfl Try.func13 (by kernel_rfl) rfl #[.int .u64 a2] rfl am ?_; (with_reducible refine (rowlockref03_Whole.calls k a2 t240 t241 _ A31.out).mono ?_); rintro e w56 ⟨v242, rfl, ho0, hb⟩; refine ⟨_, rfl, ?_⟩; have n0_ := Aside0.mk (Kd.R_elder' (rk HO218) (Kd.R_base ho0) hb); have n1_ := Aside0.mk (Kd.R_elder' (rk HO222) (Kd.R_base ho0) hb); have n2_ := Aside0.mk (Kd.R_elder' (rk HO226) (Kd.R_base ho0) hb); have n3_ := Aside0.mk (Kd.R_elder' (rk HO231) (Kd.R_base ho0) hb); have n4_ := Aside0.mk (Kd.R_elder' (rk HO239) (Kd.R_base ho0) hb); have n5_ := Aside0.mk (Kd.R_lower (Kd.R_new' (Kd.R_new' (Kd.R_new' (Kd.R_new' (Kd.R_new' ho0 (Kd.R_lt (rk HO218))) (Kd.R_lt (rk HO222))) (Kd.R_lt (rk HO226))) (Kd.R_lt (rk HO231))) (Kd.R_lt (rk HO239))) (below_size bl)); have n6_ := Aside0.mk (bb (g := gb227) hb); have n7_ := Aside0.mk (bb (g := gb232) hb); have n8_ := Aside0.mk (below_step bl hb); clear HO218; clear HO222; clear HO226; clear HO231; clear HO239; clear BK227; clear BK232; clear HB; have HO218 := n0_; have HO222 := n1_; have HO226 := n2_; have HO231 := n3_; have HO239 := n4_; have HO243 := n5_; have BK227 := n6_; have BK232 := n7_; have HB := n8_; clear n0_ n1_ n2_ n3_ n4_ n5_ n6_ n7_ n8_; (try clear hb); (try clear hb2); (try clear hk); (try clear hi); (try clear ho0); obtain ⟨Ao57, co57, eo57⟩ := Kd.R_slice HO239.out; subst eo57; obtain ⟨Ao58, co58, eo58⟩ := Kd.R_slice HO243.out; subst eo58) | ((with_reducible refine gate_callee (f := 12) rfl ?_); refine goesL_ (some 42) rfl rfl Try.func12 (by kernel_rfl) rfl #[.agg #[.int .i64 t236, .slice Ao57 t237.length co57], .agg #[.int .i64 t240, .slice Ao58 t241.length co58]] rfl am ?_; (with_reducible refine (rowlockref03_Times.calls k t236 _ _ t237 t240 _ _ t241 t244 t245 _ ?side1 ?side2 ?side3 ?side4 A32.out).mono ?_); (case side1 => repeat (first | exact (Kd.R_reads' HO239.out).2.2 | (with_reducible refine Kd.C_alloc ?_ _) | (with_reducible refine Kd.C_drewN ?_ _) | (with_reducible refine Kd.C_drew ?_))); (case side2 => exact (Kd.R_reads' HO239.out).2.1); (case side3 => repeat (first | exact (Kd.R_reads' HO243.out).2.2 | (with_reducible refine Kd.C_alloc ?_ _) | (with_reducible refine Kd.C_drewN ?_ _) | (with_reducible refine Kd.C_drew ?_))); (case side4 => exact (Kd.R_reads' HO243.out).2.1); rintro e w59 ⟨v246, rfl, ho0, hb⟩; refine ⟨_, rfl, ?_⟩; have n0_ := Aside0.mk (Kd.R_elder' (rk HO218) (Kd.R_base ho0) hb); have n1_ := Aside0.mk (Kd.R_elder' (rk HO222) (Kd.R_base ho0) hb); have n2_ := Aside0.mk (Kd.R_elder' (rk HO226) (Kd.R_base ho0) hb); have n3_ := Aside0.mk (Kd.R_elder' (rk HO231) (Kd.R_base ho0) hb); have n4_ := Aside0.mk (Kd.R_elder' (rk HO239) (Kd.R_base ho0) hb); have n5_ := Aside0.mk (Kd.R_elder' (rk HO243) (Kd.R_base ho0) hb); have n6_ := Aside0.mk (Kd.R_lower (Kd.R_new' (Kd.R_new' (Kd.R_new' (Kd.R_new' (Kd.R_new' (Kd.R_new' ho0 (Kd.R_lt (rk HO218))) (Kd.R_lt (rk HO222))) (Kd.R_lt (rk HO226))) (Kd.R_lt (rk HO231))) (Kd.R_lt (rk HO239))) (Kd.R_lt (rk HO243))) (below_size bl)); have n7_ := Aside0.mk (bb (g := gb227) hb); have n8_ := Aside0.mk (bb (g := gb232) hb); have n9_ := Aside0.mk (below_step bl hb); clear HO218; clear HO222; clear HO226; clear HO231; clear HO239; clear HO243; clear BK227; clear BK232; clear HB; have HO218 := n0_; have HO222 := n1_; have HO226 := n2_; have HO231 := n3_; have HO239 := n4_; have HO243 := n5_; have HO247 := n6_; have BK227 := n7_; have BK232 := n8_; have HB := n9_; clear n0_ n1_ n2_ n3_ n4_ n5_ n6_ n7_ n8_ n9_; (try clear hb); (try clear hb2); (try clear hk); (try clear hi); (try clear ho0)) | ((with_reducible refine gate_dst (N := 10) rfl ?_); refine box_event ?hg (N := 10) ?hd (cs := #[.int .i64 0, .slice none 0 0]) (t := 31) ?hr ?_; (case hd => rfl); (case hg => rfl); (case hr => first | (go_simp; done) | (go_simp; rfl)); intro gb248 hg w60 hbox hb; have n0_ := Aside0.mk (Kd.R_below (rk HO218) hb); have n1_ := Aside0.mk (Kd.R_below (rk HO222) hb); have n2_ := Aside0.mk (Kd.R_below (rk HO226) hb); have n3_ := Aside0.mk (Kd.R_below (rk HO231) hb); have n4_ := Aside0.mk (Kd.R_below (rk HO239) hb); have n5_ := Aside0.mk (Kd.R_below (rk HO243) hb); have n6_ := Aside0.mk (Kd.R_below (rk HO247) hb); have n7_ := Aside0.mk (bb (g := gb227) hb); have n8_ := Aside0.mk (bb (g := gb232) hb); have n9_ := Aside0.mk (below_step bl hb); have n10_ := Aside0.mk (hbox); have n11_ := Aside0.mk ((sz hg : w.heap.size ≤ gb248)); have n12_ := Aside0.mk ((sz hg : w.heap.size ≤ gb248)); have n13_ := Aside0.mk ((nl hg : gb227 ≠ gb248)); have n14_ := Aside0.mk ((ng hg : gb248 ≠ gb227)); have n15_ := Aside0.mk ((nl hg : gb232 ≠ gb248)); have n16_ := Aside0.mk ((ng hg : gb248 ≠ gb232)); clear HO218; clear HO222; clear HO226; clear HO231; clear HO239; clear HO243; clear HO247; clear BK227; clear BK232; clear HB; have HO218 := n0_; have HO222 := n1_; have HO226 := n2_; have HO231 := n3_; have HO239 := n4_; have HO243 := n5_; have HO247 := n6_; have BK227 := n7_; have BK232 := n8_; have HB := n9_; have BK248 := n10_; have GW248 := n11_; have GE248 := n12_; have NB227_248 := n13_; have NB248_227 := n14_; have NB232_248 := n15_; have NB248_232 := n16_; clear n0_ n1_ n2_ n3_ n4_ n5_ n6_ n7_ n8_ n9_ n10_ n11_ n12_ n13_ n14_ n15_ n16_; clear hb hbox hg; have hnb61 := NB248_227.out; have hnc61 := NB227_248.out; have hnb62 := NB248_232.out; have hnc62 := NB232_248.out; have hcz63_0 : w60.cell? ⟨gb248, 0, none⟩ = some (.int .i64 0) := (blk_cell BK248.out 0).trans rfl; have hcz63_1 : w60.cell? ⟨gb248, 1, none⟩ = some (.slice none 0 0) := (blk_cell BK248.out 1).trans rfl; have hfz63_0 := blk_frozen BK248.out 0; have hfz63_1 := blk_frozen BK248.out 1; obtain ⟨Ao64, co64, eo64⟩ := Kd.R_slice HO247.out; subst eo64))
            have n0_ : Aside0 (Kd.R (Kd.int .u64) 27 ((w60.setCell ⟨gb248, 0, none⟩ (.int .i64 t244)).setCell ⟨gb248, 1, none⟩ (.slice Ao64 t245.length co64)) w.heap.size (fun k_ => some k_ ≠ (.slice Ao43 t220.length co43 : Value).ownBlock ∧ some k_ ≠ (.slice Ao47 t224.length co47 : Value).ownBlock ∧ some k_ ≠ (.slice Ao52 t229.length co52 : Value).ownBlock ∧ some k_ ≠ (.slice Ao57 t237.length co57 : Value).ownBlock ∧ some k_ ≠ (.slice Ao58 t241.length co58 : Value).ownBlock ∧ some k_ ≠ (.slice Ao64 t245.length co64 : Value).ownBlock) (.slice Ao42 t216.length co42) t216) := ⟨by (with_reducible repeat (first | apply Kd.R_alloc | apply Kd.R_drewN | apply Kd.R_drew)); exact Kd.R_mono (Kd.R_far (p := ⟨gb248, 1, none⟩) (Kd.R_far (p := ⟨gb248, 0, none⟩) (Kd.R_types HO218.out BK248.out (by decide)) (fun _ hk => hk.2) (.int .i64 t244)) (fun _ hk => hk.2) (.slice Ao64 t245.length co64)) (fun _ hk => ⟨hk.1.1.1.1.1.1.2, ⟨hk.1.1.1.1.1.2, ⟨hk.1.1.1.1.2, ⟨hk.1.1.1.2, ⟨hk.1.1.2, hk.1.2⟩⟩⟩⟩⟩)⟩
            have n1_ : Aside0 (Kd.R (Kd.int .u64) 27 ((w60.setCell ⟨gb248, 0, none⟩ (.int .i64 t244)).setCell ⟨gb248, 1, none⟩ (.slice Ao64 t245.length co64)) w.heap.size (fun k_ => some k_ ≠ (.slice Ao42 t216.length co42 : Value).ownBlock ∧ some k_ ≠ (.slice Ao47 t224.length co47 : Value).ownBlock ∧ some k_ ≠ (.slice Ao52 t229.length co52 : Value).ownBlock ∧ some k_ ≠ (.slice Ao57 t237.length co57 : Value).ownBlock ∧ some k_ ≠ (.slice Ao58 t241.length co58 : Value).ownBlock ∧ some k_ ≠ (.slice Ao64 t245.length co64 : Value).ownBlock) (.slice Ao43 t220.length co43) t220) := ⟨by (with_reducible repeat (first | apply Kd.R_alloc | apply Kd.R_drewN | apply Kd.R_drew)); exact Kd.R_mono (Kd.R_far (p := ⟨gb248, 1, none⟩) (Kd.R_far (p := ⟨gb248, 0, none⟩) (Kd.R_types HO222.out BK248.out (by decide)) (fun _ hk => hk.2) (.int .i64 t244)) (fun _ hk => hk.2) (.slice Ao64 t245.length co64)) (fun _ hk => ⟨hk.1.1.1.1.1.1.2, ⟨hk.1.1.1.1.1.2, ⟨hk.1.1.1.1.2, ⟨hk.1.1.1.2, ⟨hk.1.1.2, hk.1.2⟩⟩⟩⟩⟩)⟩
            have n2_ : Aside0 (Kd.R (Kd.int .u64) 27 ((w60.setCell ⟨gb248, 0, none⟩ (.int .i64 t244)).setCell ⟨gb248, 1, none⟩ (.slice Ao64 t245.length co64)) w.heap.size (fun k_ => some k_ ≠ (.slice Ao42 t216.length co42 : Value).ownBlock ∧ some k_ ≠ (.slice Ao43 t220.length co43 : Value).ownBlock ∧ some k_ ≠ (.slice Ao52 t229.length co52 : Value).ownBlock ∧ some k_ ≠ (.slice Ao57 t237.length co57 : Value).ownBlock ∧ some k_ ≠ (.slice Ao58 t241.length co58 : Value).ownBlock ∧ some k_ ≠ (.slice Ao64 t245.length co64 : Value).ownBlock) (.slice Ao47 t224.length co47) t224) := ⟨by (with_reducible repeat (first | apply Kd.R_alloc | apply Kd.R_drewN | apply Kd.R_drew)); exact Kd.R_mono (Kd.R_far (p := ⟨gb248, 1, none⟩) (Kd.R_far (p := ⟨gb248, 0, none⟩) (Kd.R_types HO226.out BK248.out (by decide)) (fun _ hk => hk.2) (.int .i64 t244)) (fun _ hk => hk.2) (.slice Ao64 t245.length co64)) (fun _ hk => ⟨hk.1.1.1.1.1.1.2, ⟨hk.1.1.1.1.1.2, ⟨hk.1.1.1.1.2, ⟨hk.1.1.1.2, ⟨hk.1.1.2, hk.1.2⟩⟩⟩⟩⟩)⟩
            have n3_ : Aside0 (Kd.R (Kd.int .u64) 27 ((w60.setCell ⟨gb248, 0, none⟩ (.int .i64 t244)).setCell ⟨gb248, 1, none⟩ (.slice Ao64 t245.length co64)) w.heap.size (fun k_ => some k_ ≠ (.slice Ao42 t216.length co42 : Value).ownBlock ∧ some k_ ≠ (.slice Ao43 t220.length co43 : Value).ownBlock ∧ some k_ ≠ (.slice Ao47 t224.length co47 : Value).ownBlock ∧ some k_ ≠ (.slice Ao57 t237.length co57 : Value).ownBlock ∧ some k_ ≠ (.slice Ao58 t241.length co58 : Value).ownBlock ∧ some k_ ≠ (.slice Ao64 t245.length co64 : Value).ownBlock) (.slice Ao52 t229.length co52) t229) := ⟨by (with_reducible repeat (first | apply Kd.R_alloc | apply Kd.R_drewN | apply Kd.R_drew)); exact Kd.R_mono (Kd.R_far (p := ⟨gb248, 1, none⟩) (Kd.R_far (p := ⟨gb248, 0, none⟩) (Kd.R_types HO231.out BK248.out (by decide)) (fun _ hk => hk.2) (.int .i64 t244)) (fun _ hk => hk.2) (.slice Ao64 t245.length co64)) (fun _ hk => ⟨hk.1.1.1.1.1.1.2, ⟨hk.1.1.1.1.1.2, ⟨hk.1.1.1.1.2, ⟨hk.1.1.1.2, ⟨hk.1.1.2, hk.1.2⟩⟩⟩⟩⟩)⟩
            have n4_ : Aside0 (Kd.R (Kd.int .u64) 27 ((w60.setCell ⟨gb248, 0, none⟩ (.int .i64 t244)).setCell ⟨gb248, 1, none⟩ (.slice Ao64 t245.length co64)) w.heap.size (fun k_ => some k_ ≠ (.slice Ao42 t216.length co42 : Value).ownBlock ∧ some k_ ≠ (.slice Ao43 t220.length co43 : Value).ownBlock ∧ some k_ ≠ (.slice Ao47 t224.length co47 : Value).ownBlock ∧ some k_ ≠ (.slice Ao52 t229.length co52 : Value).ownBlock ∧ some k_ ≠ (.slice Ao58 t241.length co58 : Value).ownBlock ∧ some k_ ≠ (.slice Ao64 t245.length co64 : Value).ownBlock) (.slice Ao57 t237.length co57) t237) := ⟨by (with_reducible repeat (first | apply Kd.R_alloc | apply Kd.R_drewN | apply Kd.R_drew)); exact Kd.R_mono (Kd.R_far (p := ⟨gb248, 1, none⟩) (Kd.R_far (p := ⟨gb248, 0, none⟩) (Kd.R_types HO239.out BK248.out (by decide)) (fun _ hk => hk.2) (.int .i64 t244)) (fun _ hk => hk.2) (.slice Ao64 t245.length co64)) (fun _ hk => ⟨hk.1.1.1.1.1.1.2, ⟨hk.1.1.1.1.1.2, ⟨hk.1.1.1.1.2, ⟨hk.1.1.1.2, ⟨hk.1.1.2, hk.1.2⟩⟩⟩⟩⟩)⟩
            have n5_ : Aside0 (Kd.R (Kd.int .u64) 27 ((w60.setCell ⟨gb248, 0, none⟩ (.int .i64 t244)).setCell ⟨gb248, 1, none⟩ (.slice Ao64 t245.length co64)) w.heap.size (fun k_ => some k_ ≠ (.slice Ao42 t216.length co42 : Value).ownBlock ∧ some k_ ≠ (.slice Ao43 t220.length co43 : Value).ownBlock ∧ some k_ ≠ (.slice Ao47 t224.length co47 : Value).ownBlock ∧ some k_ ≠ (.slice Ao52 t229.length co52 : Value).ownBlock ∧ some k_ ≠ (.slice Ao57 t237.length co57 : Value).ownBlock ∧ some k_ ≠ (.slice Ao64 t245.length co64 : Value).ownBlock) (.slice Ao58 t241.length co58) t241) := ⟨by (with_reducible repeat (first | apply Kd.R_alloc | apply Kd.R_drewN | apply Kd.R_drew)); exact Kd.R_mono (Kd.R_far (p := ⟨gb248, 1, none⟩) (Kd.R_far (p := ⟨gb248, 0, none⟩) (Kd.R_types HO243.out BK248.out (by decide)) (fun _ hk => hk.2) (.int .i64 t244)) (fun _ hk => hk.2) (.slice Ao64 t245.length co64)) (fun _ hk => ⟨hk.1.1.1.1.1.1.2, ⟨hk.1.1.1.1.1.2, ⟨hk.1.1.1.1.2, ⟨hk.1.1.1.2, ⟨hk.1.1.2, hk.1.2⟩⟩⟩⟩⟩)⟩
            have n6_ : Aside0 (Kd.R (Kd.int .u64) 27 ((w60.setCell ⟨gb248, 0, none⟩ (.int .i64 t244)).setCell ⟨gb248, 1, none⟩ (.slice Ao64 t245.length co64)) w.heap.size (fun k_ => some k_ ≠ (.slice Ao42 t216.length co42 : Value).ownBlock ∧ some k_ ≠ (.slice Ao43 t220.length co43 : Value).ownBlock ∧ some k_ ≠ (.slice Ao47 t224.length co47 : Value).ownBlock ∧ some k_ ≠ (.slice Ao52 t229.length co52 : Value).ownBlock ∧ some k_ ≠ (.slice Ao57 t237.length co57 : Value).ownBlock ∧ some k_ ≠ (.slice Ao58 t241.length co58 : Value).ownBlock) (.slice Ao64 t245.length co64) t245) := ⟨by (with_reducible repeat (first | apply Kd.R_alloc | apply Kd.R_drewN | apply Kd.R_drew)); exact Kd.R_mono (Kd.R_far (p := ⟨gb248, 1, none⟩) (Kd.R_far (p := ⟨gb248, 0, none⟩) (Kd.R_types HO247.out BK248.out (by decide)) (fun _ hk => hk.2) (.int .i64 t244)) (fun _ hk => hk.2) (.slice Ao64 t245.length co64)) (fun _ hk => ⟨hk.1.1.1.1.1.1.2, ⟨hk.1.1.1.1.1.2, ⟨hk.1.1.1.1.2, ⟨hk.1.1.1.2, ⟨hk.1.1.2, hk.1.2⟩⟩⟩⟩⟩)⟩
            have n7_ : Aside0 (((w60.setCell ⟨gb248, 0, none⟩ (.int .i64 t244)).setCell ⟨gb248, 1, none⟩ (.slice Ao64 t245.length co64)).heap[gb227]? = some (.cells #[.int .i64 t223, .slice Ao47 t224.length co47] 31 (0, 0))) := ⟨by (with_reducible repeat (first | refine blk_drewN ?_ _ | refine blk_drew ?_ | refine blk_alloc ?_ _)); refine blk_far ?_ NB227_248.out _; (with_reducible repeat (first | refine blk_drewN ?_ _ | refine blk_drew ?_ | refine blk_alloc ?_ _)); refine blk_far ?_ NB227_248.out _; (with_reducible repeat (first | refine blk_drewN ?_ _ | refine blk_drew ?_ | refine blk_alloc ?_ _)); exact BK227.out⟩
            have n8_ : Aside0 (((w60.setCell ⟨gb248, 0, none⟩ (.int .i64 t244)).setCell ⟨gb248, 1, none⟩ (.slice Ao64 t245.length co64)).heap[gb232]? = some (.cells #[.int .i64 t228, .slice Ao52 t229.length co52] 31 (0, 0))) := ⟨by (with_reducible repeat (first | refine blk_drewN ?_ _ | refine blk_drew ?_ | refine blk_alloc ?_ _)); refine blk_far ?_ NB232_248.out _; (with_reducible repeat (first | refine blk_drewN ?_ _ | refine blk_drew ?_ | refine blk_alloc ?_ _)); refine blk_far ?_ NB232_248.out _; (with_reducible repeat (first | refine blk_drewN ?_ _ | refine blk_drew ?_ | refine blk_alloc ?_ _)); exact BK232.out⟩
            have n9_ : Aside0 (((w60.setCell ⟨gb248, 0, none⟩ (.int .i64 t244)).setCell ⟨gb248, 1, none⟩ (.slice Ao64 t245.length co64)).heap[gb248]? = some (.cells #[.int .i64 t244, .slice Ao64 t245.length co64] 31 (0, 0))) := ⟨by (with_reducible repeat (first | refine blk_drewN ?_ _ | refine blk_drew ?_ | refine blk_alloc ?_ _)); refine blk_put (cs := #[.int .i64 t244, .slice none 0 0]) ?_ 1 _ rfl; (with_reducible repeat (first | refine blk_drewN ?_ _ | refine blk_drew ?_ | refine blk_alloc ?_ _)); refine blk_put (cs := #[.int .i64 0, .slice none 0 0]) ?_ 0 _ rfl; (with_reducible repeat (first | refine blk_drewN ?_ _ | refine blk_drew ?_ | refine blk_alloc ?_ _)); exact BK248.out⟩
            have n10_ : Aside0 (Below w.heap.size w ((w60.setCell ⟨gb248, 0, none⟩ (.int .i64 t244)).setCell ⟨gb248, 1, none⟩ (.slice Ao64 t245.length co64))) := ⟨bl⟩
            (try clear HO218)
            (try clear HO222)
            (try clear HO226)
            (try clear HO231)
            (try clear HO239)
            (try clear HO243)
            (try clear HO247)
            (try clear BK227)
            (try clear BK232)
            (try clear BK248)
            (try clear HB)
            generalize ((w60.setCell ⟨gb248, 0, none⟩ (.int .i64 t244)).setCell ⟨gb248, 1, none⟩ (.slice Ao64 t245.length co64)) = w65 at n0_ n1_ n2_ n3_ n4_ n5_ n6_ n7_ n8_ n9_ n10_ ⊢
            have HO218 := n0_
            have HO222 := n1_
            have HO226 := n2_
            have HO231 := n3_
            have HO239 := n4_
            have HO243 := n5_
            have HO247 := n6_
            have BK227 := n7_
            have BK232 := n8_
            have BK248 := n9_
            have HB := n10_
            clear n0_ n1_ n2_ n3_ n4_ n5_ n6_ n7_ n8_ n9_ n10_
            have n0_ := Aside0.mk (Kd.R_drew HO218.out)
            have n1_ := Aside0.mk (Kd.R_drew HO222.out)
            have n2_ := Aside0.mk (Kd.R_drew HO226.out)
            have n3_ := Aside0.mk (Kd.R_drew HO231.out)
            have n4_ := Aside0.mk (Kd.R_drew HO239.out)
            have n5_ := Aside0.mk (Kd.R_drew HO243.out)
            have n6_ := Aside0.mk (Kd.R_drew HO247.out)
            have n7_ := Aside0.mk (blk_drew BK227.out)
            have n8_ := Aside0.mk (blk_drew BK232.out)
            have n9_ := Aside0.mk (blk_drew BK248.out)
            have n10_ := Aside0.mk (below_drew1 HB.out)
            clear HO218
            clear HO222
            clear HO226
            clear HO231
            clear HO239
            clear HO243
            clear HO247
            clear BK227
            clear BK232
            clear BK248
            clear HB
            have HO218 := n0_
            have HO222 := n1_
            have HO226 := n2_
            have HO231 := n3_
            have HO239 := n4_
            have HO243 := n5_
            have HO247 := n6_
            have BK227 := n7_
            have BK232 := n8_
            have BK248 := n9_
            have HB := n10_
            clear n0_ n1_ n2_ n3_ n4_ n5_ n6_ n7_ n8_ n9_ n10_
            refine start_ (n := 6) (S := fun w' => w'.cell? ⟨gb248, 0, none⟩ = some (.int .i64 t244) ∧ w'.cell? ⟨gb248, 1, none⟩ = some (.slice Ao64 t245.length co64)) (ds := []) #[false, false, false, false, false, false] (by kernel_rfl) rfl rfl ⟨(blk_cell BK248.out 0).trans rfl, (blk_cell BK248.out 1).trans rfl⟩ (fun hHeld => ?_)
            generalize w65.drew = w66 at HO218 HO222 HO226 HO231 HO239 HO243 HO247 BK227 BK232 BK248 HB hHeld ⊢
            refine pure_ (i := 1) (N := some 44) (v := ?_) (a' := ?_) #[false, true, false, false, false, false] rfl rfl (by kernel_rfl) (fun _ _ _ h => h) (Or.inl ⟨by rfl, ?_⟩) ?_ ?_
            rotate_left
            · intro w'
              go_simp
              with_reducible rfl
            rotate_left
            · simp only [Act.put, List.setIfInBounds_toArray, List.set_cons_zero, List.set_cons_succ, i64_w, i32_w]
              rfl
            refine take_ (i := 0) (N := some 43) (v := ?_) (a' := ?_) #[true, true, false, false, false, false] rfl rfl (by kernel_rfl) (fun _ _ _ h => h) (Or.inl ⟨by rfl, ?_⟩) hHeld ?_ ?_
            rotate_left
            · rintro w' ⟨s0, s1⟩
              go_simp
              with_reducible rfl
            rotate_left
            · simp only [Act.put, List.setIfInBounds_toArray, List.set_cons_zero, List.set_cons_succ, i64_w, i32_w]
              rfl
            refine join_ (σ := Value × Value × Nat) 1 #[true, true, true, true, true, false] (fun s_ => [(45, .agg #[.int .i64 t249, s_.1]), (46, .agg #[.int .i64 t253, s_.2.1]), (11, .pointer (some ⟨s_.2.2, 0, none⟩))]) (fun s_ w' => (w'.cell? ⟨gb248, 0, none⟩ = some (.int .i64 t244) ∧ w'.cell? ⟨gb248, 1, none⟩ = some (.slice Ao64 t245.length co64)) ∧ (Kd.R (Kd.int .u64) 27 w' w.heap.size (fun k_ => some k_ ≠ (.slice Ao43 t220.length co43 : Value).ownBlock ∧ some k_ ≠ (.slice Ao47 t224.length co47 : Value).ownBlock ∧ some k_ ≠ (.slice Ao52 t229.length co52 : Value).ownBlock ∧ some k_ ≠ (.slice Ao57 t237.length co57 : Value).ownBlock ∧ some k_ ≠ (.slice Ao58 t241.length co58 : Value).ownBlock ∧ some k_ ≠ (.slice Ao64 t245.length co64 : Value).ownBlock ∧ some k_ ≠ (s_.1 : Value).ownBlock ∧ some k_ ≠ (s_.2.1 : Value).ownBlock) (.slice Ao42 t216.length co42) t216) ∧ (Kd.R (Kd.int .u64) 27 w' w.heap.size (fun k_ => some k_ ≠ (.slice Ao42 t216.length co42 : Value).ownBlock ∧ some k_ ≠ (.slice Ao47 t224.length co47 : Value).ownBlock ∧ some k_ ≠ (.slice Ao52 t229.length co52 : Value).ownBlock ∧ some k_ ≠ (.slice Ao57 t237.length co57 : Value).ownBlock ∧ some k_ ≠ (.slice Ao58 t241.length co58 : Value).ownBlock ∧ some k_ ≠ (.slice Ao64 t245.length co64 : Value).ownBlock ∧ some k_ ≠ (s_.1 : Value).ownBlock ∧ some k_ ≠ (s_.2.1 : Value).ownBlock) (.slice Ao43 t220.length co43) t220) ∧ (Kd.R (Kd.int .u64) 27 w' w.heap.size (fun k_ => some k_ ≠ (.slice Ao42 t216.length co42 : Value).ownBlock ∧ some k_ ≠ (.slice Ao43 t220.length co43 : Value).ownBlock ∧ some k_ ≠ (.slice Ao52 t229.length co52 : Value).ownBlock ∧ some k_ ≠ (.slice Ao57 t237.length co57 : Value).ownBlock ∧ some k_ ≠ (.slice Ao58 t241.length co58 : Value).ownBlock ∧ some k_ ≠ (.slice Ao64 t245.length co64 : Value).ownBlock ∧ some k_ ≠ (s_.1 : Value).ownBlock ∧ some k_ ≠ (s_.2.1 : Value).ownBlock) (.slice Ao47 t224.length co47) t224) ∧ (Kd.R (Kd.int .u64) 27 w' w.heap.size (fun k_ => some k_ ≠ (.slice Ao42 t216.length co42 : Value).ownBlock ∧ some k_ ≠ (.slice Ao43 t220.length co43 : Value).ownBlock ∧ some k_ ≠ (.slice Ao47 t224.length co47 : Value).ownBlock ∧ some k_ ≠ (.slice Ao57 t237.length co57 : Value).ownBlock ∧ some k_ ≠ (.slice Ao58 t241.length co58 : Value).ownBlock ∧ some k_ ≠ (.slice Ao64 t245.length co64 : Value).ownBlock ∧ some k_ ≠ (s_.1 : Value).ownBlock ∧ some k_ ≠ (s_.2.1 : Value).ownBlock) (.slice Ao52 t229.length co52) t229) ∧ (Kd.R (Kd.int .u64) 27 w' w.heap.size (fun k_ => some k_ ≠ (.slice Ao42 t216.length co42 : Value).ownBlock ∧ some k_ ≠ (.slice Ao43 t220.length co43 : Value).ownBlock ∧ some k_ ≠ (.slice Ao47 t224.length co47 : Value).ownBlock ∧ some k_ ≠ (.slice Ao52 t229.length co52 : Value).ownBlock ∧ some k_ ≠ (.slice Ao58 t241.length co58 : Value).ownBlock ∧ some k_ ≠ (.slice Ao64 t245.length co64 : Value).ownBlock ∧ some k_ ≠ (s_.1 : Value).ownBlock ∧ some k_ ≠ (s_.2.1 : Value).ownBlock) (.slice Ao57 t237.length co57) t237) ∧ (Kd.R (Kd.int .u64) 27 w' w.heap.size (fun k_ => some k_ ≠ (.slice Ao42 t216.length co42 : Value).ownBlock ∧ some k_ ≠ (.slice Ao43 t220.length co43 : Value).ownBlock ∧ some k_ ≠ (.slice Ao47 t224.length co47 : Value).ownBlock ∧ some k_ ≠ (.slice Ao52 t229.length co52 : Value).ownBlock ∧ some k_ ≠ (.slice Ao57 t237.length co57 : Value).ownBlock ∧ some k_ ≠ (.slice Ao64 t245.length co64 : Value).ownBlock ∧ some k_ ≠ (s_.1 : Value).ownBlock ∧ some k_ ≠ (s_.2.1 : Value).ownBlock) (.slice Ao58 t241.length co58) t241) ∧ (Kd.R (Kd.int .u64) 27 w' w.heap.size (fun k_ => some k_ ≠ (.slice Ao42 t216.length co42 : Value).ownBlock ∧ some k_ ≠ (.slice Ao43 t220.length co43 : Value).ownBlock ∧ some k_ ≠ (.slice Ao47 t224.length co47 : Value).ownBlock ∧ some k_ ≠ (.slice Ao52 t229.length co52 : Value).ownBlock ∧ some k_ ≠ (.slice Ao57 t237.length co57 : Value).ownBlock ∧ some k_ ≠ (.slice Ao58 t241.length co58 : Value).ownBlock ∧ some k_ ≠ (s_.1 : Value).ownBlock ∧ some k_ ≠ (s_.2.1 : Value).ownBlock) (.slice Ao64 t245.length co64) t245) ∧ (Kd.R (Kd.int .u64) 27 w' w.heap.size (fun k_ => some k_ ≠ (.slice Ao42 t216.length co42 : Value).ownBlock ∧ some k_ ≠ (.slice Ao43 t220.length co43 : Value).ownBlock ∧ some k_ ≠ (.slice Ao47 t224.length co47 : Value).ownBlock ∧ some k_ ≠ (.slice Ao52 t229.length co52 : Value).ownBlock ∧ some k_ ≠ (.slice Ao57 t237.length co57 : Value).ownBlock ∧ some k_ ≠ (.slice Ao58 t241.length co58 : Value).ownBlock ∧ some k_ ≠ (.slice Ao64 t245.length co64 : Value).ownBlock ∧ some k_ ≠ (s_.2.1 : Value).ownBlock) s_.1 t250) ∧ (Kd.R (Kd.int .u64) 27 w' w.heap.size (fun k_ => some k_ ≠ (.slice Ao42 t216.length co42 : Value).ownBlock ∧ some k_ ≠ (.slice Ao43 t220.length co43 : Value).ownBlock ∧ some k_ ≠ (.slice Ao47 t224.length co47 : Value).ownBlock ∧ some k_ ≠ (.slice Ao52 t229.length co52 : Value).ownBlock ∧ some k_ ≠ (.slice Ao57 t237.length co57 : Value).ownBlock ∧ some k_ ≠ (.slice Ao58 t241.length co58 : Value).ownBlock ∧ some k_ ≠ (.slice Ao64 t245.length co64 : Value).ownBlock ∧ some k_ ≠ (s_.1 : Value).ownBlock) s_.2.1 t254) ∧ (w'.heap[gb227]? = some (.cells #[.int .i64 t223, .slice Ao47 t224.length co47] 31 (0, 0))) ∧ (w'.heap[gb232]? = some (.cells #[.int .i64 t228, .slice Ao52 t229.length co52] 31 (0, 0))) ∧ (w'.heap[gb248]? = some (.cells #[.int .i64 t244, .slice Ao64 t245.length co64] 31 (0, 0))) ∧ (w'.heap[s_.2.2]? = some (.cells #[.int .i64 0, .slice none 0 0] 31 (0, 0))) ∧ (w.heap.size ≤ s_.2.2) ∧ (w.heap.size ≤ s_.2.2) ∧ (gb227 ≠ s_.2.2) ∧ (s_.2.2 ≠ gb227) ∧ (gb232 ≠ s_.2.2) ∧ (s_.2.2 ≠ gb232) ∧ (gb248 ≠ s_.2.2) ∧ (s_.2.2 ≠ gb248) ∧ (Below w.heap.size w w')) ?_ ?_
            rotate_left
            · intro hCont
              refine two_ (i := 2) (j := 4) (Ni := some 45) (Nj := some 11) #[true, true, true, false, false, false] #[true, true, false, false, true, false] rfl rfl rfl rfl (by kernel_rfl) (by decide) (by decide) (fun K hK => ?_) (fun K hK => ?_)
              · skip
                refine goes_ Try.func13 (by kernel_rfl) rfl #[.int .u64 a2] (by rfl) rfl rfl am ?_
                with_reducible refine (rowlockref03_Whole.calls k a2 t249 t250 _ A33.out).mono ?_
                rintro e w67 ⟨v251, rfl, ho0, hb⟩
                refine ⟨_, rfl, ?_⟩
                have n0_ := Aside0.mk (Kd.R_elder' (rk HO218) (Kd.R_base ho0) hb)
                have n1_ := Aside0.mk (Kd.R_elder' (rk HO222) (Kd.R_base ho0) hb)
                have n2_ := Aside0.mk (Kd.R_elder' (rk HO226) (Kd.R_base ho0) hb)
                have n3_ := Aside0.mk (Kd.R_elder' (rk HO231) (Kd.R_base ho0) hb)
                have n4_ := Aside0.mk (Kd.R_elder' (rk HO239) (Kd.R_base ho0) hb)
                have n5_ := Aside0.mk (Kd.R_elder' (rk HO243) (Kd.R_base ho0) hb)
                have n6_ := Aside0.mk (Kd.R_elder' (rk HO247) (Kd.R_base ho0) hb)
                have n7_ := Aside0.mk (Kd.R_lower (Kd.R_new' (Kd.R_new' (Kd.R_new' (Kd.R_new' (Kd.R_new' (Kd.R_new' (Kd.R_new' ho0 (Kd.R_lt (rk HO218))) (Kd.R_lt (rk HO222))) (Kd.R_lt (rk HO226))) (Kd.R_lt (rk HO231))) (Kd.R_lt (rk HO239))) (Kd.R_lt (rk HO243))) (Kd.R_lt (rk HO247))) (below_size bl))
                have n8_ := Aside0.mk (bb (g := gb227) hb)
                have n9_ := Aside0.mk (bb (g := gb232) hb)
                have n10_ := Aside0.mk (bb (g := gb248) hb)
                have n11_ := Aside0.mk (below_step bl hb)
                clear HO218
                clear HO222
                clear HO226
                clear HO231
                clear HO239
                clear HO243
                clear HO247
                clear BK227
                clear BK232
                clear BK248
                clear HB
                have HO218 := n0_
                have HO222 := n1_
                have HO226 := n2_
                have HO231 := n3_
                have HO239 := n4_
                have HO243 := n5_
                have HO247 := n6_
                have HO252 := n7_
                have BK227 := n8_
                have BK232 := n9_
                have BK248 := n10_
                have HB := n11_
                clear n0_ n1_ n2_ n3_ n4_ n5_ n6_ n7_ n8_ n9_ n10_ n11_
                (try clear hb)
                (try clear hb2)
                (try clear hk)
                (try clear hi)
                (try clear ho0)
                obtain ⟨Ao68, co68, eo68⟩ := Kd.R_slice HO252.out
                (first | subst eo68 | (injection eo68 with f1_ f2_ f3_; have f4_ := f1_.symm; have f5_ := f3_.symm; clear f1_ f2_ f3_; subst f4_; subst f5_))
                refine hK.out _ _ ⟨(blk_cell BK248.out 0).trans rfl, (blk_cell BK248.out 1).trans rfl⟩ (fun hHeld => ?_)
                clear hK K
                refine norm_ (a' := ?_) ?_ ?_
                rotate_left
                · show Act.put _ (some 45) _ = _
                  simp only [Act.put, List.setIfInBounds_toArray, List.set_cons_zero, List.set_cons_succ, i64_w, i32_w]
                  rfl
                refine two_ (i := 3) (j := 4) (Ni := some 46) (Nj := some 11) #[true, true, true, true, false, false] #[true, true, true, false, true, false] rfl rfl rfl rfl (by kernel_rfl) (by decide) (by decide) (fun K hK => ?_) (fun K hK => ?_)
                · skip
                  refine goes_ Try.func15 (by kernel_rfl) rfl #[.agg #[.int .i64 t244, .slice Ao64 t245.length co64], .agg #[.int .i64 t249, .slice Ao68 t250.length co68]] (by rfl) rfl rfl am ?_
                  with_reducible refine (rowlockref03_Plus.calls k t244 _ _ t245 t249 _ _ t250 t253 t254 _ ?side1 ?side2 ?side3 ?side4 A34.out).mono ?_
                  (case side1 => repeat (first | exact (Kd.R_reads' HO247.out).2.2 | (with_reducible refine Kd.C_alloc ?_ _) | (with_reducible refine Kd.C_drewN ?_ _) | (with_reducible refine Kd.C_drew ?_)))
                  (case side2 => exact (Kd.R_reads' HO247.out).2.1)
                  (case side3 => repeat (first | exact (Kd.R_reads' HO252.out).2.2 | (with_reducible refine Kd.C_alloc ?_ _) | (with_reducible refine Kd.C_drewN ?_ _) | (with_reducible refine Kd.C_drew ?_)))
                  (case side4 => exact (Kd.R_reads' HO252.out).2.1)
                  rintro e w69 ⟨v255, rfl, ho0, hb⟩
                  refine ⟨_, rfl, ?_⟩
                  have n0_ := Aside0.mk (Kd.R_elder' (rk HO218) (Kd.R_base ho0) hb)
                  have n1_ := Aside0.mk (Kd.R_elder' (rk HO222) (Kd.R_base ho0) hb)
                  have n2_ := Aside0.mk (Kd.R_elder' (rk HO226) (Kd.R_base ho0) hb)
                  have n3_ := Aside0.mk (Kd.R_elder' (rk HO231) (Kd.R_base ho0) hb)
                  have n4_ := Aside0.mk (Kd.R_elder' (rk HO239) (Kd.R_base ho0) hb)
                  have n5_ := Aside0.mk (Kd.R_elder' (rk HO243) (Kd.R_base ho0) hb)
                  have n6_ := Aside0.mk (Kd.R_elder' (rk HO247) (Kd.R_base ho0) hb)
                  have n7_ := Aside0.mk (Kd.R_elder' (rk HO252) (Kd.R_base ho0) hb)
                  have n8_ := Aside0.mk (Kd.R_lower (Kd.R_new' (Kd.R_new' (Kd.R_new' (Kd.R_new' (Kd.R_new' (Kd.R_new' (Kd.R_new' (Kd.R_new' ho0 (Kd.R_lt (rk HO218))) (Kd.R_lt (rk HO222))) (Kd.R_lt (rk HO226))) (Kd.R_lt (rk HO231))) (Kd.R_lt (rk HO239))) (Kd.R_lt (rk HO243))) (Kd.R_lt (rk HO247))) (Kd.R_lt (rk HO252))) (below_size bl))
                  have n9_ := Aside0.mk (bb (g := gb227) hb)
                  have n10_ := Aside0.mk (bb (g := gb232) hb)
                  have n11_ := Aside0.mk (bb (g := gb248) hb)
                  have n12_ := Aside0.mk (below_step bl hb)
                  clear HO218
                  clear HO222
                  clear HO226
                  clear HO231
                  clear HO239
                  clear HO243
                  clear HO247
                  clear HO252
                  clear BK227
                  clear BK232
                  clear BK248
                  clear HB
                  have HO218 := n0_
                  have HO222 := n1_
                  have HO226 := n2_
                  have HO231 := n3_
                  have HO239 := n4_
                  have HO243 := n5_
                  have HO247 := n6_
                  have HO252 := n7_
                  have HO256 := n8_
                  have BK227 := n9_
                  have BK232 := n10_
                  have BK248 := n11_
                  have HB := n12_
                  clear n0_ n1_ n2_ n3_ n4_ n5_ n6_ n7_ n8_ n9_ n10_ n11_ n12_
                  (try clear hb)
                  (try clear hb2)
                  (try clear hk)
                  (try clear hi)
                  (try clear ho0)
                  refine hK.out _ _ ⟨(blk_cell BK248.out 0).trans rfl, (blk_cell BK248.out 1).trans rfl⟩ (fun hHeld => ?_)
                  clear hK K
                  refine norm_ (a' := ?_) ?_ ?_
                  rotate_left
                  · show Act.put _ (some 46) _ = _
                    simp only [Act.put, List.setIfInBounds_toArray, List.set_cons_zero, List.set_cons_succ, i64_w, i32_w]
                    rfl
                  refine one_ (i := 4) (N := some 11) #[true, true, true, true, true, false] rfl rfl (by kernel_rfl) (by decide) (fun K hK => ?_)
                  refine box_step ?hg (N := 11) ?hd (cs := #[.int .i64 0, .slice none 0 0]) (t := 31) ?hr ?_; (case hd => rfl); (case hg => rfl); (case hr => first | (go_simp; done) | (go_simp; rfl))
                  intro gb257 hg w70 hbox hb
                  have n0_ := Aside0.mk (Kd.R_below (rk HO218) hb)
                  have n1_ := Aside0.mk (Kd.R_below (rk HO222) hb)
                  have n2_ := Aside0.mk (Kd.R_below (rk HO226) hb)
                  have n3_ := Aside0.mk (Kd.R_below (rk HO231) hb)
                  have n4_ := Aside0.mk (Kd.R_below (rk HO239) hb)
                  have n5_ := Aside0.mk (Kd.R_below (rk HO243) hb)
                  have n6_ := Aside0.mk (Kd.R_below (rk HO247) hb)
                  have n7_ := Aside0.mk (Kd.R_below (rk HO252) hb)
                  have n8_ := Aside0.mk (Kd.R_below (rk HO256) hb)
                  have n9_ := Aside0.mk (bb (g := gb227) hb)
                  have n10_ := Aside0.mk (bb (g := gb232) hb)
                  have n11_ := Aside0.mk (bb (g := gb248) hb)
                  have n12_ := Aside0.mk (below_step bl hb)
                  have n13_ := Aside0.mk (hbox)
                  have n14_ := Aside0.mk ((sz hg : w.heap.size ≤ gb257))
                  have n15_ := Aside0.mk ((sz hg : w.heap.size ≤ gb257))
                  have n16_ := Aside0.mk ((nl hg : gb227 ≠ gb257))
                  have n17_ := Aside0.mk ((ng hg : gb257 ≠ gb227))
                  have n18_ := Aside0.mk ((nl hg : gb232 ≠ gb257))
                  have n19_ := Aside0.mk ((ng hg : gb257 ≠ gb232))
                  have n20_ := Aside0.mk ((nl hg : gb248 ≠ gb257))
                  have n21_ := Aside0.mk ((ng hg : gb257 ≠ gb248))
                  clear HO218
                  clear HO222
                  clear HO226
                  clear HO231
                  clear HO239
                  clear HO243
                  clear HO247
                  clear HO252
                  clear HO256
                  clear BK227
                  clear BK232
                  clear BK248
                  clear HB
                  have HO218 := n0_
                  have HO222 := n1_
                  have HO226 := n2_
                  have HO231 := n3_
                  have HO239 := n4_
                  have HO243 := n5_
                  have HO247 := n6_
                  have HO252 := n7_
                  have HO256 := n8_
                  have BK227 := n9_
                  have BK232 := n10_
                  have BK248 := n11_
                  have HB := n12_
                  have BK257 := n13_
                  have GW257 := n14_
                  have GE257 := n15_
                  have NB227_257 := n16_
                  have NB257_227 := n17_
                  have NB232_257 := n18_
                  have NB257_232 := n19_
                  have NB248_257 := n20_
                  have NB257_248 := n21_
                  clear n0_ n1_ n2_ n3_ n4_ n5_ n6_ n7_ n8_ n9_ n10_ n11_ n12_ n13_ n14_ n15_ n16_ n17_ n18_ n19_ n20_ n21_
                  clear hb hbox hg
                  refine hK.out _ _ ⟨(blk_cell BK248.out 0).trans rfl, (blk_cell BK248.out 1).trans rfl⟩ (fun hHeld => ?_)
                  clear hK K
                  refine norm_ (a' := ?_) ?_ ?_
                  rotate_left
                  · show Act.put _ (some 11) _ = _
                    simp only [Act.put, List.setIfInBounds_toArray, List.set_cons_zero, List.set_cons_succ, i64_w, i32_w]
                    rfl
                  exact norm_ (by simp only [putAll, Act.put, List.setIfInBounds_toArray, List.set_cons_zero, List.set_cons_succ]) (hCont (.slice Ao68 t250.length co68, v255, gb257) _ ⟨hHeld, (by (with_reducible repeat (first | apply Kd.R_alloc | apply Kd.R_drewN | apply Kd.R_drew)); exact Kd.R_mono HO218.out (fun _ hk => ⟨hk.1.1.1, ⟨hk.1.1.2.1, ⟨hk.1.1.2.2.1, ⟨hk.1.1.2.2.2.1, ⟨hk.1.1.2.2.2.2.1, ⟨hk.1.1.2.2.2.2.2, ⟨hk.1.2, hk.2⟩⟩⟩⟩⟩⟩⟩)), (by (with_reducible repeat (first | apply Kd.R_alloc | apply Kd.R_drewN | apply Kd.R_drew)); exact Kd.R_mono HO222.out (fun _ hk => ⟨hk.1.1.1, ⟨hk.1.1.2.1, ⟨hk.1.1.2.2.1, ⟨hk.1.1.2.2.2.1, ⟨hk.1.1.2.2.2.2.1, ⟨hk.1.1.2.2.2.2.2, ⟨hk.1.2, hk.2⟩⟩⟩⟩⟩⟩⟩)), (by (with_reducible repeat (first | apply Kd.R_alloc | apply Kd.R_drewN | apply Kd.R_drew)); exact Kd.R_mono HO226.out (fun _ hk => ⟨hk.1.1.1, ⟨hk.1.1.2.1, ⟨hk.1.1.2.2.1, ⟨hk.1.1.2.2.2.1, ⟨hk.1.1.2.2.2.2.1, ⟨hk.1.1.2.2.2.2.2, ⟨hk.1.2, hk.2⟩⟩⟩⟩⟩⟩⟩)), (by (with_reducible repeat (first | apply Kd.R_alloc | apply Kd.R_drewN | apply Kd.R_drew)); exact Kd.R_mono HO231.out (fun _ hk => ⟨hk.1.1.1, ⟨hk.1.1.2.1, ⟨hk.1.1.2.2.1, ⟨hk.1.1.2.2.2.1, ⟨hk.1.1.2.2.2.2.1, ⟨hk.1.1.2.2.2.2.2, ⟨hk.1.2, hk.2⟩⟩⟩⟩⟩⟩⟩)), (by (with_reducible repeat (first | apply Kd.R_alloc | apply Kd.R_drewN | apply Kd.R_drew)); exact Kd.R_mono HO239.out (fun _ hk => ⟨hk.1.1.1, ⟨hk.1.1.2.1, ⟨hk.1.1.2.2.1, ⟨hk.1.1.2.2.2.1, ⟨hk.1.1.2.2.2.2.1, ⟨hk.1.1.2.2.2.2.2, ⟨hk.1.2, hk.2⟩⟩⟩⟩⟩⟩⟩)), (by (with_reducible repeat (first | apply Kd.R_alloc | apply Kd.R_drewN | apply Kd.R_drew)); exact Kd.R_mono HO243.out (fun _ hk => ⟨hk.1.1.1, ⟨hk.1.1.2.1, ⟨hk.1.1.2.2.1, ⟨hk.1.1.2.2.2.1, ⟨hk.1.1.2.2.2.2.1, ⟨hk.1.1.2.2.2.2.2, ⟨hk.1.2, hk.2⟩⟩⟩⟩⟩⟩⟩)), (by (with_reducible repeat (first | apply Kd.R_alloc | apply Kd.R_drewN | apply Kd.R_drew)); exact Kd.R_mono HO247.out (fun _ hk => ⟨hk.1.1.1, ⟨hk.1.1.2.1, ⟨hk.1.1.2.2.1, ⟨hk.1.1.2.2.2.1, ⟨hk.1.1.2.2.2.2.1, ⟨hk.1.1.2.2.2.2.2, ⟨hk.1.2, hk.2⟩⟩⟩⟩⟩⟩⟩)), (by (with_reducible repeat (first | apply Kd.R_alloc | apply Kd.R_drewN | apply Kd.R_drew)); exact Kd.R_mono HO252.out (fun _ hk => ⟨hk.1.1.1.1.1.1.1.2, ⟨hk.1.1.1.1.1.1.2, ⟨hk.1.1.1.1.1.2, ⟨hk.1.1.1.1.2, ⟨hk.1.1.1.2, ⟨hk.1.1.2, ⟨hk.1.2, hk.2⟩⟩⟩⟩⟩⟩⟩)), (by (with_reducible repeat (first | apply Kd.R_alloc | apply Kd.R_drewN | apply Kd.R_drew)); exact Kd.R_mono HO256.out (fun _ hk => ⟨hk.1.1.1.1.1.1.1.2, ⟨hk.1.1.1.1.1.1.2, ⟨hk.1.1.1.1.1.2, ⟨hk.1.1.1.1.2, ⟨hk.1.1.1.2, ⟨hk.1.1.2, ⟨hk.1.2, hk.2⟩⟩⟩⟩⟩⟩⟩)), pk, pk, pk, pk, GW257.out, GE257.out, NB227_257.out, NB257_227.out, NB232_257.out, NB257_232.out, NB248_257.out, NB257_248.out, bl⟩)
                · skip
                  refine box_step ?hg (N := 11) ?hd (cs := #[.int .i64 0, .slice none 0 0]) (t := 31) ?hr ?_; (case hd => rfl); (case hg => rfl); (case hr => first | (go_simp; done) | (go_simp; rfl))
                  intro gb257 hg w68 hbox hb
                  have n0_ := Aside0.mk (Kd.R_below (rk HO218) hb)
                  have n1_ := Aside0.mk (Kd.R_below (rk HO222) hb)
                  have n2_ := Aside0.mk (Kd.R_below (rk HO226) hb)
                  have n3_ := Aside0.mk (Kd.R_below (rk HO231) hb)
                  have n4_ := Aside0.mk (Kd.R_below (rk HO239) hb)
                  have n5_ := Aside0.mk (Kd.R_below (rk HO243) hb)
                  have n6_ := Aside0.mk (Kd.R_below (rk HO247) hb)
                  have n7_ := Aside0.mk (Kd.R_below (rk HO252) hb)
                  have n8_ := Aside0.mk (bb (g := gb227) hb)
                  have n9_ := Aside0.mk (bb (g := gb232) hb)
                  have n10_ := Aside0.mk (bb (g := gb248) hb)
                  have n11_ := Aside0.mk (below_step bl hb)
                  have n12_ := Aside0.mk (hbox)
                  have n13_ := Aside0.mk ((sz hg : w.heap.size ≤ gb257))
                  have n14_ := Aside0.mk ((sz hg : w.heap.size ≤ gb257))
                  have n15_ := Aside0.mk ((nl hg : gb227 ≠ gb257))
                  have n16_ := Aside0.mk ((ng hg : gb257 ≠ gb227))
                  have n17_ := Aside0.mk ((nl hg : gb232 ≠ gb257))
                  have n18_ := Aside0.mk ((ng hg : gb257 ≠ gb232))
                  have n19_ := Aside0.mk ((nl hg : gb248 ≠ gb257))
                  have n20_ := Aside0.mk ((ng hg : gb257 ≠ gb248))
                  clear HO218
                  clear HO222
                  clear HO226
                  clear HO231
                  clear HO239
                  clear HO243
                  clear HO247
                  clear HO252
                  clear BK227
                  clear BK232
                  clear BK248
                  clear HB
                  have HO218 := n0_
                  have HO222 := n1_
                  have HO226 := n2_
                  have HO231 := n3_
                  have HO239 := n4_
                  have HO243 := n5_
                  have HO247 := n6_
                  have HO252 := n7_
                  have BK227 := n8_
                  have BK232 := n9_
                  have BK248 := n10_
                  have HB := n11_
                  have BK257 := n12_
                  have GW257 := n13_
                  have GE257 := n14_
                  have NB227_257 := n15_
                  have NB257_227 := n16_
                  have NB232_257 := n17_
                  have NB257_232 := n18_
                  have NB248_257 := n19_
                  have NB257_248 := n20_
                  clear n0_ n1_ n2_ n3_ n4_ n5_ n6_ n7_ n8_ n9_ n10_ n11_ n12_ n13_ n14_ n15_ n16_ n17_ n18_ n19_ n20_
                  clear hb hbox hg
                  obtain ⟨Ao69, co69, eo69⟩ := Kd.R_slice HO252.out
                  (first | subst eo69 | (injection eo69 with f1_ f2_ f3_; have f4_ := f1_.symm; have f5_ := f3_.symm; clear f1_ f2_ f3_; subst f4_; subst f5_))
                  refine hK.out _ _ ⟨(blk_cell BK248.out 0).trans rfl, (blk_cell BK248.out 1).trans rfl⟩ (fun hHeld => ?_)
                  clear hK K
                  refine norm_ (a' := ?_) ?_ ?_
                  rotate_left
                  · show Act.put _ (some 11) _ = _
                    simp only [Act.put, List.setIfInBounds_toArray, List.set_cons_zero, List.set_cons_succ, i64_w, i32_w]
                    rfl
                  refine one_ (i := 3) (N := some 46) #[true, true, true, true, true, false] rfl rfl (by kernel_rfl) (by decide) (fun K hK => ?_)
                  refine goes_ Try.func15 (by kernel_rfl) rfl #[.agg #[.int .i64 t244, .slice Ao64 t245.length co64], .agg #[.int .i64 t249, .slice Ao69 t250.length co69]] (by rfl) rfl rfl am ?_
                  with_reducible refine (rowlockref03_Plus.calls k t244 _ _ t245 t249 _ _ t250 t253 t254 _ ?side1 ?side2 ?side3 ?side4 A34.out).mono ?_
                  (case side1 => repeat (first | exact (Kd.R_reads' HO247.out).2.2 | (with_reducible refine Kd.C_alloc ?_ _) | (with_reducible refine Kd.C_drewN ?_ _) | (with_reducible refine Kd.C_drew ?_)))
                  (case side2 => exact (Kd.R_reads' HO247.out).2.1)
                  (case side3 => repeat (first | exact (Kd.R_reads' HO252.out).2.2 | (with_reducible refine Kd.C_alloc ?_ _) | (with_reducible refine Kd.C_drewN ?_ _) | (with_reducible refine Kd.C_drew ?_)))
                  (case side4 => exact (Kd.R_reads' HO252.out).2.1)
                  rintro e w70 ⟨v255, rfl, ho0, hb⟩
                  refine ⟨_, rfl, ?_⟩
                  have n0_ := Aside0.mk (Kd.R_elder' (rk HO218) (Kd.R_base ho0) hb)
                  have n1_ := Aside0.mk (Kd.R_elder' (rk HO222) (Kd.R_base ho0) hb)
                  have n2_ := Aside0.mk (Kd.R_elder' (rk HO226) (Kd.R_base ho0) hb)
                  have n3_ := Aside0.mk (Kd.R_elder' (rk HO231) (Kd.R_base ho0) hb)
                  have n4_ := Aside0.mk (Kd.R_elder' (rk HO239) (Kd.R_base ho0) hb)
                  have n5_ := Aside0.mk (Kd.R_elder' (rk HO243) (Kd.R_base ho0) hb)
                  have n6_ := Aside0.mk (Kd.R_elder' (rk HO247) (Kd.R_base ho0) hb)
                  have n7_ := Aside0.mk (Kd.R_elder' (rk HO252) (Kd.R_base ho0) hb)
                  have n8_ := Aside0.mk (Kd.R_lower (Kd.R_new' (Kd.R_new' (Kd.R_new' (Kd.R_new' (Kd.R_new' (Kd.R_new' (Kd.R_new' (Kd.R_new' ho0 (Kd.R_lt (rk HO218))) (Kd.R_lt (rk HO222))) (Kd.R_lt (rk HO226))) (Kd.R_lt (rk HO231))) (Kd.R_lt (rk HO239))) (Kd.R_lt (rk HO243))) (Kd.R_lt (rk HO247))) (Kd.R_lt (rk HO252))) (below_size bl))
                  have n9_ := Aside0.mk (bb (g := gb227) hb)
                  have n10_ := Aside0.mk (bb (g := gb232) hb)
                  have n11_ := Aside0.mk (bb (g := gb248) hb)
                  have n12_ := Aside0.mk (bb (g := gb257) hb)
                  have n13_ := Aside0.mk (below_step bl hb)
                  clear HO218
                  clear HO222
                  clear HO226
                  clear HO231
                  clear HO239
                  clear HO243
                  clear HO247
                  clear HO252
                  clear BK227
                  clear BK232
                  clear BK248
                  clear BK257
                  clear HB
                  have HO218 := n0_
                  have HO222 := n1_
                  have HO226 := n2_
                  have HO231 := n3_
                  have HO239 := n4_
                  have HO243 := n5_
                  have HO247 := n6_
                  have HO252 := n7_
                  have HO256 := n8_
                  have BK227 := n9_
                  have BK232 := n10_
                  have BK248 := n11_
                  have BK257 := n12_
                  have HB := n13_
                  clear n0_ n1_ n2_ n3_ n4_ n5_ n6_ n7_ n8_ n9_ n10_ n11_ n12_ n13_
                  (try clear hb)
                  (try clear hb2)
                  (try clear hk)
                  (try clear hi)
                  (try clear ho0)
                  refine hK.out _ _ ⟨(blk_cell BK248.out 0).trans rfl, (blk_cell BK248.out 1).trans rfl⟩ (fun hHeld => ?_)
                  clear hK K
                  refine norm_ (a' := ?_) ?_ ?_
                  rotate_left
                  · show Act.put _ (some 46) _ = _
                    simp only [Act.put, List.setIfInBounds_toArray, List.set_cons_zero, List.set_cons_succ, i64_w, i32_w]
                    rfl
                  exact norm_ (by simp only [putAll, Act.put, List.setIfInBounds_toArray, List.set_cons_zero, List.set_cons_succ]) (hCont (.slice Ao69 t250.length co69, v255, gb257) _ ⟨hHeld, (by (with_reducible repeat (first | apply Kd.R_alloc | apply Kd.R_drewN | apply Kd.R_drew)); exact Kd.R_mono HO218.out (fun _ hk => ⟨hk.1.1.1, ⟨hk.1.1.2.1, ⟨hk.1.1.2.2.1, ⟨hk.1.1.2.2.2.1, ⟨hk.1.1.2.2.2.2.1, ⟨hk.1.1.2.2.2.2.2, ⟨hk.1.2, hk.2⟩⟩⟩⟩⟩⟩⟩)), (by (with_reducible repeat (first | apply Kd.R_alloc | apply Kd.R_drewN | apply Kd.R_drew)); exact Kd.R_mono HO222.out (fun _ hk => ⟨hk.1.1.1, ⟨hk.1.1.2.1, ⟨hk.1.1.2.2.1, ⟨hk.1.1.2.2.2.1, ⟨hk.1.1.2.2.2.2.1, ⟨hk.1.1.2.2.2.2.2, ⟨hk.1.2, hk.2⟩⟩⟩⟩⟩⟩⟩)), (by (with_reducible repeat (first | apply Kd.R_alloc | apply Kd.R_drewN | apply Kd.R_drew)); exact Kd.R_mono HO226.out (fun _ hk => ⟨hk.1.1.1, ⟨hk.1.1.2.1, ⟨hk.1.1.2.2.1, ⟨hk.1.1.2.2.2.1, ⟨hk.1.1.2.2.2.2.1, ⟨hk.1.1.2.2.2.2.2, ⟨hk.1.2, hk.2⟩⟩⟩⟩⟩⟩⟩)), (by (with_reducible repeat (first | apply Kd.R_alloc | apply Kd.R_drewN | apply Kd.R_drew)); exact Kd.R_mono HO231.out (fun _ hk => ⟨hk.1.1.1, ⟨hk.1.1.2.1, ⟨hk.1.1.2.2.1, ⟨hk.1.1.2.2.2.1, ⟨hk.1.1.2.2.2.2.1, ⟨hk.1.1.2.2.2.2.2, ⟨hk.1.2, hk.2⟩⟩⟩⟩⟩⟩⟩)), (by (with_reducible repeat (first | apply Kd.R_alloc | apply Kd.R_drewN | apply Kd.R_drew)); exact Kd.R_mono HO239.out (fun _ hk => ⟨hk.1.1.1, ⟨hk.1.1.2.1, ⟨hk.1.1.2.2.1, ⟨hk.1.1.2.2.2.1, ⟨hk.1.1.2.2.2.2.1, ⟨hk.1.1.2.2.2.2.2, ⟨hk.1.2, hk.2⟩⟩⟩⟩⟩⟩⟩)), (by (with_reducible repeat (first | apply Kd.R_alloc | apply Kd.R_drewN | apply Kd.R_drew)); exact Kd.R_mono HO243.out (fun _ hk => ⟨hk.1.1.1, ⟨hk.1.1.2.1, ⟨hk.1.1.2.2.1, ⟨hk.1.1.2.2.2.1, ⟨hk.1.1.2.2.2.2.1, ⟨hk.1.1.2.2.2.2.2, ⟨hk.1.2, hk.2⟩⟩⟩⟩⟩⟩⟩)), (by (with_reducible repeat (first | apply Kd.R_alloc | apply Kd.R_drewN | apply Kd.R_drew)); exact Kd.R_mono HO247.out (fun _ hk => ⟨hk.1.1.1, ⟨hk.1.1.2.1, ⟨hk.1.1.2.2.1, ⟨hk.1.1.2.2.2.1, ⟨hk.1.1.2.2.2.2.1, ⟨hk.1.1.2.2.2.2.2, ⟨hk.1.2, hk.2⟩⟩⟩⟩⟩⟩⟩)), (by (with_reducible repeat (first | apply Kd.R_alloc | apply Kd.R_drewN | apply Kd.R_drew)); exact Kd.R_mono HO252.out (fun _ hk => ⟨hk.1.1.1.1.1.1.1.2, ⟨hk.1.1.1.1.1.1.2, ⟨hk.1.1.1.1.1.2, ⟨hk.1.1.1.1.2, ⟨hk.1.1.1.2, ⟨hk.1.1.2, ⟨hk.1.2, hk.2⟩⟩⟩⟩⟩⟩⟩)), (by (with_reducible repeat (first | apply Kd.R_alloc | apply Kd.R_drewN | apply Kd.R_drew)); exact Kd.R_mono HO256.out (fun _ hk => ⟨hk.1.1.1.1.1.1.1.2, ⟨hk.1.1.1.1.1.1.2, ⟨hk.1.1.1.1.1.2, ⟨hk.1.1.1.1.2, ⟨hk.1.1.1.2, ⟨hk.1.1.2, ⟨hk.1.2, hk.2⟩⟩⟩⟩⟩⟩⟩)), pk, pk, pk, pk, GW257.out, GE257.out, NB227_257.out, NB257_227.out, NB232_257.out, NB257_232.out, NB248_257.out, NB257_248.out, bl⟩)
              · skip
                refine box_step ?hg (N := 11) ?hd (cs := #[.int .i64 0, .slice none 0 0]) (t := 31) ?hr ?_; (case hd => rfl); (case hg => rfl); (case hr => first | (go_simp; done) | (go_simp; rfl))
                intro gb257 hg w67 hbox hb
                have n0_ := Aside0.mk (Kd.R_below (rk HO218) hb)
                have n1_ := Aside0.mk (Kd.R_below (rk HO222) hb)
                have n2_ := Aside0.mk (Kd.R_below (rk HO226) hb)
                have n3_ := Aside0.mk (Kd.R_below (rk HO231) hb)
                have n4_ := Aside0.mk (Kd.R_below (rk HO239) hb)
                have n5_ := Aside0.mk (Kd.R_below (rk HO243) hb)
                have n6_ := Aside0.mk (Kd.R_below (rk HO247) hb)
                have n7_ := Aside0.mk (bb (g := gb227) hb)
                have n8_ := Aside0.mk (bb (g := gb232) hb)
                have n9_ := Aside0.mk (bb (g := gb248) hb)
                have n10_ := Aside0.mk (below_step bl hb)
                have n11_ := Aside0.mk (hbox)
                have n12_ := Aside0.mk ((sz hg : w.heap.size ≤ gb257))
                have n13_ := Aside0.mk ((sz hg : w.heap.size ≤ gb257))
                have n14_ := Aside0.mk ((nl hg : gb227 ≠ gb257))
                have n15_ := Aside0.mk ((ng hg : gb257 ≠ gb227))
                have n16_ := Aside0.mk ((nl hg : gb232 ≠ gb257))
                have n17_ := Aside0.mk ((ng hg : gb257 ≠ gb232))
                have n18_ := Aside0.mk ((nl hg : gb248 ≠ gb257))
                have n19_ := Aside0.mk ((ng hg : gb257 ≠ gb248))
                clear HO218
                clear HO222
                clear HO226
                clear HO231
                clear HO239
                clear HO243
                clear HO247
                clear BK227
                clear BK232
                clear BK248
                clear HB
                have HO218 := n0_
                have HO222 := n1_
                have HO226 := n2_
                have HO231 := n3_
                have HO239 := n4_
                have HO243 := n5_
                have HO247 := n6_
                have BK227 := n7_
                have BK232 := n8_
                have BK248 := n9_
                have HB := n10_
                have BK257 := n11_
                have GW257 := n12_
                have GE257 := n13_
                have NB227_257 := n14_
                have NB257_227 := n15_
                have NB232_257 := n16_
                have NB257_232 := n17_
                have NB248_257 := n18_
                have NB257_248 := n19_
                clear n0_ n1_ n2_ n3_ n4_ n5_ n6_ n7_ n8_ n9_ n10_ n11_ n12_ n13_ n14_ n15_ n16_ n17_ n18_ n19_
                clear hb hbox hg
                refine hK.out _ _ ⟨(blk_cell BK248.out 0).trans rfl, (blk_cell BK248.out 1).trans rfl⟩ (fun hHeld => ?_)
                clear hK K
                refine norm_ (a' := ?_) ?_ ?_
                rotate_left
                · show Act.put _ (some 11) _ = _
                  simp only [Act.put, List.setIfInBounds_toArray, List.set_cons_zero, List.set_cons_succ, i64_w, i32_w]
                  rfl
                refine one_ (i := 2) (N := some 45) #[true, true, true, false, true, false] rfl rfl (by kernel_rfl) (by decide) (fun K hK => ?_)
                refine goes_ Try.func13 (by kernel_rfl) rfl #[.int .u64 a2] (by rfl) rfl rfl am ?_
                with_reducible refine (rowlockref03_Whole.calls k a2 t249 t250 _ A33.out).mono ?_
                rintro e w68 ⟨v251, rfl, ho0, hb⟩
                refine ⟨_, rfl, ?_⟩
                have n0_ := Aside0.mk (Kd.R_elder' (rk HO218) (Kd.R_base ho0) hb)
                have n1_ := Aside0.mk (Kd.R_elder' (rk HO222) (Kd.R_base ho0) hb)
                have n2_ := Aside0.mk (Kd.R_elder' (rk HO226) (Kd.R_base ho0) hb)
                have n3_ := Aside0.mk (Kd.R_elder' (rk HO231) (Kd.R_base ho0) hb)
                have n4_ := Aside0.mk (Kd.R_elder' (rk HO239) (Kd.R_base ho0) hb)
                have n5_ := Aside0.mk (Kd.R_elder' (rk HO243) (Kd.R_base ho0) hb)
                have n6_ := Aside0.mk (Kd.R_elder' (rk HO247) (Kd.R_base ho0) hb)
                have n7_ := Aside0.mk (Kd.R_lower (Kd.R_new' (Kd.R_new' (Kd.R_new' (Kd.R_new' (Kd.R_new' (Kd.R_new' (Kd.R_new' ho0 (Kd.R_lt (rk HO218))) (Kd.R_lt (rk HO222))) (Kd.R_lt (rk HO226))) (Kd.R_lt (rk HO231))) (Kd.R_lt (rk HO239))) (Kd.R_lt (rk HO243))) (Kd.R_lt (rk HO247))) (below_size bl))
                have n8_ := Aside0.mk (bb (g := gb227) hb)
                have n9_ := Aside0.mk (bb (g := gb232) hb)
                have n10_ := Aside0.mk (bb (g := gb248) hb)
                have n11_ := Aside0.mk (bb (g := gb257) hb)
                have n12_ := Aside0.mk (below_step bl hb)
                clear HO218
                clear HO222
                clear HO226
                clear HO231
                clear HO239
                clear HO243
                clear HO247
                clear BK227
                clear BK232
                clear BK248
                clear BK257
                clear HB
                have HO218 := n0_
                have HO222 := n1_
                have HO226 := n2_
                have HO231 := n3_
                have HO239 := n4_
                have HO243 := n5_
                have HO247 := n6_
                have HO252 := n7_
                have BK227 := n8_
                have BK232 := n9_
                have BK248 := n10_
                have BK257 := n11_
                have HB := n12_
                clear n0_ n1_ n2_ n3_ n4_ n5_ n6_ n7_ n8_ n9_ n10_ n11_ n12_
                (try clear hb)
                (try clear hb2)
                (try clear hk)
                (try clear hi)
                (try clear ho0)
                obtain ⟨Ao69, co69, eo69⟩ := Kd.R_slice HO252.out
                (first | subst eo69 | (injection eo69 with f1_ f2_ f3_; have f4_ := f1_.symm; have f5_ := f3_.symm; clear f1_ f2_ f3_; subst f4_; subst f5_))
                refine hK.out _ _ ⟨(blk_cell BK248.out 0).trans rfl, (blk_cell BK248.out 1).trans rfl⟩ (fun hHeld => ?_)
                clear hK K
                refine norm_ (a' := ?_) ?_ ?_
                rotate_left
                · show Act.put _ (some 45) _ = _
                  simp only [Act.put, List.setIfInBounds_toArray, List.set_cons_zero, List.set_cons_succ, i64_w, i32_w]
                  rfl
                refine one_ (i := 3) (N := some 46) #[true, true, true, true, true, false] rfl rfl (by kernel_rfl) (by decide) (fun K hK => ?_)
                refine goes_ Try.func15 (by kernel_rfl) rfl #[.agg #[.int .i64 t244, .slice Ao64 t245.length co64], .agg #[.int .i64 t249, .slice Ao69 t250.length co69]] (by rfl) rfl rfl am ?_
                with_reducible refine (rowlockref03_Plus.calls k t244 _ _ t245 t249 _ _ t250 t253 t254 _ ?side1 ?side2 ?side3 ?side4 A34.out).mono ?_
                (case side1 => repeat (first | exact (Kd.R_reads' HO247.out).2.2 | (with_reducible refine Kd.C_alloc ?_ _) | (with_reducible refine Kd.C_drewN ?_ _) | (with_reducible refine Kd.C_drew ?_)))
                (case side2 => exact (Kd.R_reads' HO247.out).2.1)
                (case side3 => repeat (first | exact (Kd.R_reads' HO252.out).2.2 | (with_reducible refine Kd.C_alloc ?_ _) | (with_reducible refine Kd.C_drewN ?_ _) | (with_reducible refine Kd.C_drew ?_)))
                (case side4 => exact (Kd.R_reads' HO252.out).2.1)
                rintro e w70 ⟨v255, rfl, ho0, hb⟩
                refine ⟨_, rfl, ?_⟩
                have n0_ := Aside0.mk (Kd.R_elder' (rk HO218) (Kd.R_base ho0) hb)
                have n1_ := Aside0.mk (Kd.R_elder' (rk HO222) (Kd.R_base ho0) hb)
                have n2_ := Aside0.mk (Kd.R_elder' (rk HO226) (Kd.R_base ho0) hb)
                have n3_ := Aside0.mk (Kd.R_elder' (rk HO231) (Kd.R_base ho0) hb)
                have n4_ := Aside0.mk (Kd.R_elder' (rk HO239) (Kd.R_base ho0) hb)
                have n5_ := Aside0.mk (Kd.R_elder' (rk HO243) (Kd.R_base ho0) hb)
                have n6_ := Aside0.mk (Kd.R_elder' (rk HO247) (Kd.R_base ho0) hb)
                have n7_ := Aside0.mk (Kd.R_elder' (rk HO252) (Kd.R_base ho0) hb)
                have n8_ := Aside0.mk (Kd.R_lower (Kd.R_new' (Kd.R_new' (Kd.R_new' (Kd.R_new' (Kd.R_new' (Kd.R_new' (Kd.R_new' (Kd.R_new' ho0 (Kd.R_lt (rk HO218))) (Kd.R_lt (rk HO222))) (Kd.R_lt (rk HO226))) (Kd.R_lt (rk HO231))) (Kd.R_lt (rk HO239))) (Kd.R_lt (rk HO243))) (Kd.R_lt (rk HO247))) (Kd.R_lt (rk HO252))) (below_size bl))
                have n9_ := Aside0.mk (bb (g := gb227) hb)
                have n10_ := Aside0.mk (bb (g := gb232) hb)
                have n11_ := Aside0.mk (bb (g := gb248) hb)
                have n12_ := Aside0.mk (bb (g := gb257) hb)
                have n13_ := Aside0.mk (below_step bl hb)
                clear HO218
                clear HO222
                clear HO226
                clear HO231
                clear HO239
                clear HO243
                clear HO247
                clear HO252
                clear BK227
                clear BK232
                clear BK248
                clear BK257
                clear HB
                have HO218 := n0_
                have HO222 := n1_
                have HO226 := n2_
                have HO231 := n3_
                have HO239 := n4_
                have HO243 := n5_
                have HO247 := n6_
                have HO252 := n7_
                have HO256 := n8_
                have BK227 := n9_
                have BK232 := n10_
                have BK248 := n11_
                have BK257 := n12_
                have HB := n13_
                clear n0_ n1_ n2_ n3_ n4_ n5_ n6_ n7_ n8_ n9_ n10_ n11_ n12_ n13_
                (try clear hb)
                (try clear hb2)
                (try clear hk)
                (try clear hi)
                (try clear ho0)
                refine hK.out _ _ ⟨(blk_cell BK248.out 0).trans rfl, (blk_cell BK248.out 1).trans rfl⟩ (fun hHeld => ?_)
                clear hK K
                refine norm_ (a' := ?_) ?_ ?_
                rotate_left
                · show Act.put _ (some 46) _ = _
                  simp only [Act.put, List.setIfInBounds_toArray, List.set_cons_zero, List.set_cons_succ, i64_w, i32_w]
                  rfl
                exact norm_ (by simp only [putAll, Act.put, List.setIfInBounds_toArray, List.set_cons_zero, List.set_cons_succ]) (hCont (.slice Ao69 t250.length co69, v255, gb257) _ ⟨hHeld, (by (with_reducible repeat (first | apply Kd.R_alloc | apply Kd.R_drewN | apply Kd.R_drew)); exact Kd.R_mono HO218.out (fun _ hk => ⟨hk.1.1.1, ⟨hk.1.1.2.1, ⟨hk.1.1.2.2.1, ⟨hk.1.1.2.2.2.1, ⟨hk.1.1.2.2.2.2.1, ⟨hk.1.1.2.2.2.2.2, ⟨hk.1.2, hk.2⟩⟩⟩⟩⟩⟩⟩)), (by (with_reducible repeat (first | apply Kd.R_alloc | apply Kd.R_drewN | apply Kd.R_drew)); exact Kd.R_mono HO222.out (fun _ hk => ⟨hk.1.1.1, ⟨hk.1.1.2.1, ⟨hk.1.1.2.2.1, ⟨hk.1.1.2.2.2.1, ⟨hk.1.1.2.2.2.2.1, ⟨hk.1.1.2.2.2.2.2, ⟨hk.1.2, hk.2⟩⟩⟩⟩⟩⟩⟩)), (by (with_reducible repeat (first | apply Kd.R_alloc | apply Kd.R_drewN | apply Kd.R_drew)); exact Kd.R_mono HO226.out (fun _ hk => ⟨hk.1.1.1, ⟨hk.1.1.2.1, ⟨hk.1.1.2.2.1, ⟨hk.1.1.2.2.2.1, ⟨hk.1.1.2.2.2.2.1, ⟨hk.1.1.2.2.2.2.2, ⟨hk.1.2, hk.2⟩⟩⟩⟩⟩⟩⟩)), (by (with_reducible repeat (first | apply Kd.R_alloc | apply Kd.R_drewN | apply Kd.R_drew)); exact Kd.R_mono HO231.out (fun _ hk => ⟨hk.1.1.1, ⟨hk.1.1.2.1, ⟨hk.1.1.2.2.1, ⟨hk.1.1.2.2.2.1, ⟨hk.1.1.2.2.2.2.1, ⟨hk.1.1.2.2.2.2.2, ⟨hk.1.2, hk.2⟩⟩⟩⟩⟩⟩⟩)), (by (with_reducible repeat (first | apply Kd.R_alloc | apply Kd.R_drewN | apply Kd.R_drew)); exact Kd.R_mono HO239.out (fun _ hk => ⟨hk.1.1.1, ⟨hk.1.1.2.1, ⟨hk.1.1.2.2.1, ⟨hk.1.1.2.2.2.1, ⟨hk.1.1.2.2.2.2.1, ⟨hk.1.1.2.2.2.2.2, ⟨hk.1.2, hk.2⟩⟩⟩⟩⟩⟩⟩)), (by (with_reducible repeat (first | apply Kd.R_alloc | apply Kd.R_drewN | apply Kd.R_drew)); exact Kd.R_mono HO243.out (fun _ hk => ⟨hk.1.1.1, ⟨hk.1.1.2.1, ⟨hk.1.1.2.2.1, ⟨hk.1.1.2.2.2.1, ⟨hk.1.1.2.2.2.2.1, ⟨hk.1.1.2.2.2.2.2, ⟨hk.1.2, hk.2⟩⟩⟩⟩⟩⟩⟩)), (by (with_reducible repeat (first | apply Kd.R_alloc | apply Kd.R_drewN | apply Kd.R_drew)); exact Kd.R_mono HO247.out (fun _ hk => ⟨hk.1.1.1, ⟨hk.1.1.2.1, ⟨hk.1.1.2.2.1, ⟨hk.1.1.2.2.2.1, ⟨hk.1.1.2.2.2.2.1, ⟨hk.1.1.2.2.2.2.2, ⟨hk.1.2, hk.2⟩⟩⟩⟩⟩⟩⟩)), (by (with_reducible repeat (first | apply Kd.R_alloc | apply Kd.R_drewN | apply Kd.R_drew)); exact Kd.R_mono HO252.out (fun _ hk => ⟨hk.1.1.1.1.1.1.1.2, ⟨hk.1.1.1.1.1.1.2, ⟨hk.1.1.1.1.1.2, ⟨hk.1.1.1.1.2, ⟨hk.1.1.1.2, ⟨hk.1.1.2, ⟨hk.1.2, hk.2⟩⟩⟩⟩⟩⟩⟩)), (by (with_reducible repeat (first | apply Kd.R_alloc | apply Kd.R_drewN | apply Kd.R_drew)); exact Kd.R_mono HO256.out (fun _ hk => ⟨hk.1.1.1.1.1.1.1.2, ⟨hk.1.1.1.1.1.1.2, ⟨hk.1.1.1.1.1.2, ⟨hk.1.1.1.1.2, ⟨hk.1.1.1.2, ⟨hk.1.1.2, ⟨hk.1.2, hk.2⟩⟩⟩⟩⟩⟩⟩)), pk, pk, pk, pk, GW257.out, GE257.out, NB227_257.out, NB257_227.out, NB232_257.out, NB257_232.out, NB248_257.out, NB257_248.out, bl⟩)
            rintro ⟨v251, v255, gb257⟩ w71 ⟨hS_, h0_, h1_, h2_, h3_, h4_, h5_, h6_, h7_, h8_, h9_, h10_, h11_, h12_, h13_, h14_, h15_, h16_, h17_, h18_, h19_, h20_, h21_⟩
            have n0_ : Aside0 (Kd.R (Kd.int .u64) 27 w71 w.heap.size (fun k_ => some k_ ≠ (.slice Ao43 t220.length co43 : Value).ownBlock ∧ some k_ ≠ (.slice Ao47 t224.length co47 : Value).ownBlock ∧ some k_ ≠ (.slice Ao52 t229.length co52 : Value).ownBlock ∧ some k_ ≠ (.slice Ao57 t237.length co57 : Value).ownBlock ∧ some k_ ≠ (.slice Ao58 t241.length co58 : Value).ownBlock ∧ some k_ ≠ (.slice Ao64 t245.length co64 : Value).ownBlock ∧ some k_ ≠ (v251 : Value).ownBlock ∧ some k_ ≠ (v255 : Value).ownBlock) (.slice Ao42 t216.length co42) t216) := ⟨h0_⟩
            have n1_ : Aside0 (Kd.R (Kd.int .u64) 27 w71 w.heap.size (fun k_ => some k_ ≠ (.slice Ao42 t216.length co42 : Value).ownBlock ∧ some k_ ≠ (.slice Ao47 t224.length co47 : Value).ownBlock ∧ some k_ ≠ (.slice Ao52 t229.length co52 : Value).ownBlock ∧ some k_ ≠ (.slice Ao57 t237.length co57 : Value).ownBlock ∧ some k_ ≠ (.slice Ao58 t241.length co58 : Value).ownBlock ∧ some k_ ≠ (.slice Ao64 t245.length co64 : Value).ownBlock ∧ some k_ ≠ (v251 : Value).ownBlock ∧ some k_ ≠ (v255 : Value).ownBlock) (.slice Ao43 t220.length co43) t220) := ⟨h1_⟩
            have n2_ : Aside0 (Kd.R (Kd.int .u64) 27 w71 w.heap.size (fun k_ => some k_ ≠ (.slice Ao42 t216.length co42 : Value).ownBlock ∧ some k_ ≠ (.slice Ao43 t220.length co43 : Value).ownBlock ∧ some k_ ≠ (.slice Ao52 t229.length co52 : Value).ownBlock ∧ some k_ ≠ (.slice Ao57 t237.length co57 : Value).ownBlock ∧ some k_ ≠ (.slice Ao58 t241.length co58 : Value).ownBlock ∧ some k_ ≠ (.slice Ao64 t245.length co64 : Value).ownBlock ∧ some k_ ≠ (v251 : Value).ownBlock ∧ some k_ ≠ (v255 : Value).ownBlock) (.slice Ao47 t224.length co47) t224) := ⟨h2_⟩
            have n3_ : Aside0 (Kd.R (Kd.int .u64) 27 w71 w.heap.size (fun k_ => some k_ ≠ (.slice Ao42 t216.length co42 : Value).ownBlock ∧ some k_ ≠ (.slice Ao43 t220.length co43 : Value).ownBlock ∧ some k_ ≠ (.slice Ao47 t224.length co47 : Value).ownBlock ∧ some k_ ≠ (.slice Ao57 t237.length co57 : Value).ownBlock ∧ some k_ ≠ (.slice Ao58 t241.length co58 : Value).ownBlock ∧ some k_ ≠ (.slice Ao64 t245.length co64 : Value).ownBlock ∧ some k_ ≠ (v251 : Value).ownBlock ∧ some k_ ≠ (v255 : Value).ownBlock) (.slice Ao52 t229.length co52) t229) := ⟨h3_⟩
            have n4_ : Aside0 (Kd.R (Kd.int .u64) 27 w71 w.heap.size (fun k_ => some k_ ≠ (.slice Ao42 t216.length co42 : Value).ownBlock ∧ some k_ ≠ (.slice Ao43 t220.length co43 : Value).ownBlock ∧ some k_ ≠ (.slice Ao47 t224.length co47 : Value).ownBlock ∧ some k_ ≠ (.slice Ao52 t229.length co52 : Value).ownBlock ∧ some k_ ≠ (.slice Ao58 t241.length co58 : Value).ownBlock ∧ some k_ ≠ (.slice Ao64 t245.length co64 : Value).ownBlock ∧ some k_ ≠ (v251 : Value).ownBlock ∧ some k_ ≠ (v255 : Value).ownBlock) (.slice Ao57 t237.length co57) t237) := ⟨h4_⟩
            have n5_ : Aside0 (Kd.R (Kd.int .u64) 27 w71 w.heap.size (fun k_ => some k_ ≠ (.slice Ao42 t216.length co42 : Value).ownBlock ∧ some k_ ≠ (.slice Ao43 t220.length co43 : Value).ownBlock ∧ some k_ ≠ (.slice Ao47 t224.length co47 : Value).ownBlock ∧ some k_ ≠ (.slice Ao52 t229.length co52 : Value).ownBlock ∧ some k_ ≠ (.slice Ao57 t237.length co57 : Value).ownBlock ∧ some k_ ≠ (.slice Ao64 t245.length co64 : Value).ownBlock ∧ some k_ ≠ (v251 : Value).ownBlock ∧ some k_ ≠ (v255 : Value).ownBlock) (.slice Ao58 t241.length co58) t241) := ⟨h5_⟩
            have n6_ : Aside0 (Kd.R (Kd.int .u64) 27 w71 w.heap.size (fun k_ => some k_ ≠ (.slice Ao42 t216.length co42 : Value).ownBlock ∧ some k_ ≠ (.slice Ao43 t220.length co43 : Value).ownBlock ∧ some k_ ≠ (.slice Ao47 t224.length co47 : Value).ownBlock ∧ some k_ ≠ (.slice Ao52 t229.length co52 : Value).ownBlock ∧ some k_ ≠ (.slice Ao57 t237.length co57 : Value).ownBlock ∧ some k_ ≠ (.slice Ao58 t241.length co58 : Value).ownBlock ∧ some k_ ≠ (v251 : Value).ownBlock ∧ some k_ ≠ (v255 : Value).ownBlock) (.slice Ao64 t245.length co64) t245) := ⟨h6_⟩
            have n7_ : Aside0 (Kd.R (Kd.int .u64) 27 w71 w.heap.size (fun k_ => some k_ ≠ (.slice Ao42 t216.length co42 : Value).ownBlock ∧ some k_ ≠ (.slice Ao43 t220.length co43 : Value).ownBlock ∧ some k_ ≠ (.slice Ao47 t224.length co47 : Value).ownBlock ∧ some k_ ≠ (.slice Ao52 t229.length co52 : Value).ownBlock ∧ some k_ ≠ (.slice Ao57 t237.length co57 : Value).ownBlock ∧ some k_ ≠ (.slice Ao58 t241.length co58 : Value).ownBlock ∧ some k_ ≠ (.slice Ao64 t245.length co64 : Value).ownBlock ∧ some k_ ≠ (v255 : Value).ownBlock) v251 t250) := ⟨h7_⟩
            have n8_ : Aside0 (Kd.R (Kd.int .u64) 27 w71 w.heap.size (fun k_ => some k_ ≠ (.slice Ao42 t216.length co42 : Value).ownBlock ∧ some k_ ≠ (.slice Ao43 t220.length co43 : Value).ownBlock ∧ some k_ ≠ (.slice Ao47 t224.length co47 : Value).ownBlock ∧ some k_ ≠ (.slice Ao52 t229.length co52 : Value).ownBlock ∧ some k_ ≠ (.slice Ao57 t237.length co57 : Value).ownBlock ∧ some k_ ≠ (.slice Ao58 t241.length co58 : Value).ownBlock ∧ some k_ ≠ (.slice Ao64 t245.length co64 : Value).ownBlock ∧ some k_ ≠ (v251 : Value).ownBlock) v255 t254) := ⟨h8_⟩
            have n9_ : Aside0 (w71.heap[gb227]? = some (.cells #[.int .i64 t223, .slice Ao47 t224.length co47] 31 (0, 0))) := ⟨h9_⟩
            have n10_ : Aside0 (w71.heap[gb232]? = some (.cells #[.int .i64 t228, .slice Ao52 t229.length co52] 31 (0, 0))) := ⟨h10_⟩
            have n11_ : Aside0 (w71.heap[gb248]? = some (.cells #[.int .i64 t244, .slice Ao64 t245.length co64] 31 (0, 0))) := ⟨h11_⟩
            have n12_ : Aside0 (w71.heap[gb257]? = some (.cells #[.int .i64 0, .slice none 0 0] 31 (0, 0))) := ⟨h12_⟩
            have n13_ : Aside0 (w.heap.size ≤ gb257) := ⟨h13_⟩
            have n14_ : Aside0 (w.heap.size ≤ gb257) := ⟨h14_⟩
            have n15_ : Aside0 (gb227 ≠ gb257) := ⟨h15_⟩
            have n16_ : Aside0 (gb257 ≠ gb227) := ⟨h16_⟩
            have n17_ : Aside0 (gb232 ≠ gb257) := ⟨h17_⟩
            have n18_ : Aside0 (gb257 ≠ gb232) := ⟨h18_⟩
            have n19_ : Aside0 (gb248 ≠ gb257) := ⟨h19_⟩
            have n20_ : Aside0 (gb257 ≠ gb248) := ⟨h20_⟩
            have n21_ : Aside0 (Below w.heap.size w w71) := ⟨h21_⟩
            clear HO218
            clear HO222
            clear HO226
            clear HO231
            clear HO239
            clear HO243
            clear HO247
            clear BK227
            clear BK232
            clear BK248
            clear HB
            clear h0_ h1_ h2_ h3_ h4_ h5_ h6_ h7_ h8_ h9_ h10_ h11_ h12_ h13_ h14_ h15_ h16_ h17_ h18_ h19_ h20_ h21_
            have HO218 := n0_
            have HO222 := n1_
            have HO226 := n2_
            have HO231 := n3_
            have HO239 := n4_
            have HO243 := n5_
            have HO247 := n6_
            have HO252 := n7_
            have HO256 := n8_
            have BK227 := n9_
            have BK232 := n10_
            have BK248 := n11_
            have BK257 := n12_
            have GW257 := n13_
            have GE257 := n14_
            have NB227_257 := n15_
            have NB257_227 := n16_
            have NB232_257 := n17_
            have NB257_232 := n18_
            have NB248_257 := n19_
            have NB257_248 := n20_
            have HB := n21_
            clear n0_ n1_ n2_ n3_ n4_ n5_ n6_ n7_ n8_ n9_ n10_ n11_ n12_ n13_ n14_ n15_ n16_ n17_ n18_ n19_ n20_ n21_
            have hHeld : w71.cell? ⟨gb248, 0, none⟩ = some (.int .i64 t244) ∧ w71.cell? ⟨gb248, 1, none⟩ = some (.slice Ao64 t245.length co64) := hS_
            obtain ⟨Ao73, co73, eo73⟩ := Kd.R_slice HO256.out
            (first | subst eo73 | (injection eo73 with f1_ f2_ f3_; have f4_ := f1_.symm; have f5_ := f3_.symm; clear f1_ f2_ f3_; subst f4_; subst f5_))
            refine norm_ (a' := ?_) ?_ ?_
            rotate_left
            · simp only [putAll, Act.put, List.setIfInBounds_toArray, List.set_cons_zero, List.set_cons_succ]
              rfl
            refine one_ (i := 5) (N := none) #[true, true, true, true, true, true] rfl rfl (by kernel_rfl) (by decide) (fun K hK => ?_)
            have hs72 : w71.cell? ⟨gb257, 0, none⟩ = some (.int .i64 0) := (blk_cell BK257.out 0).trans rfl
            have hfs72 := blk_frozen BK257.out 0
            have hns72_0 := NB227_257.out
            have hns72_1 := NB232_257.out
            have hns72_2 := NB248_257.out
            have hms72_0 := NB257_227.out
            have hms72_1 := NB257_232.out
            have hms72_2 := NB257_248.out
            have hs74 : w71.cell? ⟨gb257, 1, none⟩ = some (.slice none 0 0) := (blk_cell BK257.out 1).trans rfl
            have hfs74 := blk_frozen BK257.out 1
            have hns74_0 := NB227_257.out
            have hns74_1 := NB232_257.out
            have hns74_2 := NB248_257.out
            have hms74_0 := NB257_227.out
            have hms74_1 := NB257_232.out
            have hms74_2 := NB257_248.out
            refine skip_ (w1 := ?_) (by rfl) rfl ?_ ?_
            rotate_left
            · go_simp
              rfl
            refine hK.out _ _ ⟨((cell_far (p := ⟨gb257, _, none⟩) NB248_257.out _).trans (((cell_far (p := ⟨gb257, _, none⟩) NB248_257.out _).trans (hHeld.1)))), ((cell_far (p := ⟨gb257, _, none⟩) NB248_257.out _).trans (((cell_far (p := ⟨gb257, _, none⟩) NB248_257.out _).trans (hHeld.2))))⟩ (fun hHeld => ?_)
            clear hK K
            refine done_ (by kernel_rfl) ?_
            try go_wp2_with (first | ((with_reducible refine gate_callee (f := 8) rfl ?_); refine goesL_ (some 47) rfl rfl Try.func8 (by kernel_rfl) rfl #[] rfl am ?_; (with_reducible refine (rowlocklaw03_fixed.calls k  true _ A35.out).mono ?_); rintro e w75 ⟨rfl, hb⟩; refine ⟨_, rfl, ?_⟩; have n0_ := Aside0.mk (Kd.R_below (by (with_reducible repeat (first | apply Kd.R_alloc | apply Kd.R_drewN | apply Kd.R_drew)); exact (Kd.R_mono (Kd.R_far (p := ⟨gb257, 1, none⟩) (Kd.R_far (p := ⟨gb257, 0, none⟩) (Kd.R_types HO218.out BK257.out (by decide)) (fun _ hk => hk.2) (.int .i64 t253)) (fun _ hk => hk.2) (.slice Ao73 t254.length co73)) (fun _ h_ => h_.1))) hb); have n1_ := Aside0.mk (Kd.R_below (by (with_reducible repeat (first | apply Kd.R_alloc | apply Kd.R_drewN | apply Kd.R_drew)); exact (Kd.R_mono (Kd.R_far (p := ⟨gb257, 1, none⟩) (Kd.R_far (p := ⟨gb257, 0, none⟩) (Kd.R_types HO222.out BK257.out (by decide)) (fun _ hk => hk.2) (.int .i64 t253)) (fun _ hk => hk.2) (.slice Ao73 t254.length co73)) (fun _ h_ => h_.1))) hb); have n2_ := Aside0.mk (Kd.R_below (by (with_reducible repeat (first | apply Kd.R_alloc | apply Kd.R_drewN | apply Kd.R_drew)); exact (Kd.R_mono (Kd.R_far (p := ⟨gb257, 1, none⟩) (Kd.R_far (p := ⟨gb257, 0, none⟩) (Kd.R_types HO226.out BK257.out (by decide)) (fun _ hk => hk.2) (.int .i64 t253)) (fun _ hk => hk.2) (.slice Ao73 t254.length co73)) (fun _ h_ => h_.1))) hb); have n3_ := Aside0.mk (Kd.R_below (by (with_reducible repeat (first | apply Kd.R_alloc | apply Kd.R_drewN | apply Kd.R_drew)); exact (Kd.R_mono (Kd.R_far (p := ⟨gb257, 1, none⟩) (Kd.R_far (p := ⟨gb257, 0, none⟩) (Kd.R_types HO231.out BK257.out (by decide)) (fun _ hk => hk.2) (.int .i64 t253)) (fun _ hk => hk.2) (.slice Ao73 t254.length co73)) (fun _ h_ => h_.1))) hb); have n4_ := Aside0.mk (Kd.R_below (by (with_reducible repeat (first | apply Kd.R_alloc | apply Kd.R_drewN | apply Kd.R_drew)); exact (Kd.R_mono (Kd.R_far (p := ⟨gb257, 1, none⟩) (Kd.R_far (p := ⟨gb257, 0, none⟩) (Kd.R_types HO239.out BK257.out (by decide)) (fun _ hk => hk.2) (.int .i64 t253)) (fun _ hk => hk.2) (.slice Ao73 t254.length co73)) (fun _ h_ => h_.1))) hb); have n5_ := Aside0.mk (Kd.R_below (by (with_reducible repeat (first | apply Kd.R_alloc | apply Kd.R_drewN | apply Kd.R_drew)); exact (Kd.R_mono (Kd.R_far (p := ⟨gb257, 1, none⟩) (Kd.R_far (p := ⟨gb257, 0, none⟩) (Kd.R_types HO243.out BK257.out (by decide)) (fun _ hk => hk.2) (.int .i64 t253)) (fun _ hk => hk.2) (.slice Ao73 t254.length co73)) (fun _ h_ => h_.1))) hb); have n6_ := Aside0.mk (Kd.R_below (by (with_reducible repeat (first | apply Kd.R_alloc | apply Kd.R_drewN | apply Kd.R_drew)); exact (Kd.R_mono (Kd.R_far (p := ⟨gb257, 1, none⟩) (Kd.R_far (p := ⟨gb257, 0, none⟩) (Kd.R_types HO247.out BK257.out (by decide)) (fun _ hk => hk.2) (.int .i64 t253)) (fun _ hk => hk.2) (.slice Ao73 t254.length co73)) (fun _ h_ => h_.1))) hb); have n7_ := Aside0.mk (Kd.R_below (by (with_reducible repeat (first | apply Kd.R_alloc | apply Kd.R_drewN | apply Kd.R_drew)); exact (Kd.R_mono (Kd.R_far (p := ⟨gb257, 1, none⟩) (Kd.R_far (p := ⟨gb257, 0, none⟩) (Kd.R_types HO252.out BK257.out (by decide)) (fun _ hk => hk.2) (.int .i64 t253)) (fun _ hk => hk.2) (.slice Ao73 t254.length co73)) (fun _ h_ => h_.1))) hb); have n8_ := Aside0.mk (Kd.R_below (by (with_reducible repeat (first | apply Kd.R_alloc | apply Kd.R_drewN | apply Kd.R_drew)); exact (Kd.R_mono (Kd.R_far (p := ⟨gb257, 1, none⟩) (Kd.R_far (p := ⟨gb257, 0, none⟩) (Kd.R_types HO256.out BK257.out (by decide)) (fun _ hk => hk.2) (.int .i64 t253)) (fun _ hk => hk.2) (.slice Ao73 t254.length co73)) (fun _ h_ => h_.1))) hb); have n9_ := Aside0.mk (blk_below (g := gb227) (o := .cells #[.int .i64 t223, .slice Ao47 t224.length co47] 31 (0, 0)) (by (with_reducible repeat (first | refine blk_drewN ?_ _ | refine blk_drew ?_ | refine blk_alloc ?_ _)); refine blk_far ?_ NB227_257.out _; (with_reducible repeat (first | refine blk_drewN ?_ _ | refine blk_drew ?_ | refine blk_alloc ?_ _)); refine blk_far ?_ NB227_257.out _; (with_reducible repeat (first | refine blk_drewN ?_ _ | refine blk_drew ?_ | refine blk_alloc ?_ _)); exact BK227.out) hb); have n10_ := Aside0.mk (blk_below (g := gb232) (o := .cells #[.int .i64 t228, .slice Ao52 t229.length co52] 31 (0, 0)) (by (with_reducible repeat (first | refine blk_drewN ?_ _ | refine blk_drew ?_ | refine blk_alloc ?_ _)); refine blk_far ?_ NB232_257.out _; (with_reducible repeat (first | refine blk_drewN ?_ _ | refine blk_drew ?_ | refine blk_alloc ?_ _)); refine blk_far ?_ NB232_257.out _; (with_reducible repeat (first | refine blk_drewN ?_ _ | refine blk_drew ?_ | refine blk_alloc ?_ _)); exact BK232.out) hb); have n11_ := Aside0.mk (blk_below (g := gb248) (o := .cells #[.int .i64 t244, .slice Ao64 t245.length co64] 31 (0, 0)) (by (with_reducible repeat (first | refine blk_drewN ?_ _ | refine blk_drew ?_ | refine blk_alloc ?_ _)); refine blk_far ?_ NB248_257.out _; (with_reducible repeat (first | refine blk_drewN ?_ _ | refine blk_drew ?_ | refine blk_alloc ?_ _)); refine blk_far ?_ NB248_257.out _; (with_reducible repeat (first | refine blk_drewN ?_ _ | refine blk_drew ?_ | refine blk_alloc ?_ _)); exact BK248.out) hb); have n12_ := Aside0.mk (blk_below (g := gb257) (o := .cells #[.int .i64 t253, .slice Ao73 t254.length co73] 31 (0, 0)) (by (with_reducible repeat (first | refine blk_drewN ?_ _ | refine blk_drew ?_ | refine blk_alloc ?_ _)); refine blk_put (cs := #[.int .i64 t253, .slice none 0 0]) ?_ 1 _ rfl; (with_reducible repeat (first | refine blk_drewN ?_ _ | refine blk_drew ?_ | refine blk_alloc ?_ _)); refine blk_put (cs := #[.int .i64 0, .slice none 0 0]) ?_ 0 _ rfl; (with_reducible repeat (first | refine blk_drewN ?_ _ | refine blk_drew ?_ | refine blk_alloc ?_ _)); exact BK257.out) hb); have n13_ := Aside0.mk (below_step bl hb); clear HO218; clear HO222; clear HO226; clear HO231; clear HO239; clear HO243; clear HO247; clear HO252; clear HO256; clear BK227; clear BK232; clear BK248; clear BK257; clear HB; have HO218 := n0_; have HO222 := n1_; have HO226 := n2_; have HO231 := n3_; have HO239 := n4_; have HO243 := n5_; have HO247 := n6_; have HO252 := n7_; have HO256 := n8_; have BK227 := n9_; have BK232 := n10_; have BK248 := n11_; have BK257 := n12_; have HB := n13_; clear n0_ n1_ n2_ n3_ n4_ n5_ n6_ n7_ n8_ n9_ n10_ n11_ n12_ n13_; (try clear hb); (try clear hb2); (try clear hk); (try clear hi); have hnb76 := NB227_257.out; have hnc76 := NB257_227.out; have hcz77_0 : w75.cell? ⟨gb227, 0, none⟩ = some (.int .i64 t223) := (blk_cell BK227.out 0).trans rfl; have hcz77_1 : w75.cell? ⟨gb227, 1, none⟩ = some (.slice Ao47 t224.length co47) := (blk_cell BK227.out 1).trans rfl; have hfz77_0 := blk_frozen BK227.out 0; have hfz77_1 := blk_frozen BK227.out 1; have hnb78 := NB248_257.out; have hnc78 := NB257_248.out; have hcz79_0 : w75.cell? ⟨gb248, 0, none⟩ = some (.int .i64 t244) := (blk_cell BK248.out 0).trans rfl; have hcz79_1 : w75.cell? ⟨gb248, 1, none⟩ = some (.slice Ao64 t245.length co64) := (blk_cell BK248.out 1).trans rfl; have hfz79_0 := blk_frozen BK248.out 0; have hfz79_1 := blk_frozen BK248.out 1) | (go_at_call 14; (with_reducible refine (rowlockref03_Less.calls k t223 _ _ t224 t244 _ _ t245 false _ ?side1 ?side2 ?side3 ?side4 A37.out).mono ?_); (case side1 => repeat (first | exact (Kd.R_reads' HO226.out).2.2 | (with_reducible refine Kd.C_alloc ?_ _) | (with_reducible refine Kd.C_drewN ?_ _) | (with_reducible refine Kd.C_drew ?_))); (case side2 => exact (Kd.R_reads' HO226.out).2.1); (case side3 => repeat (first | exact (Kd.R_reads' HO247.out).2.2 | (with_reducible refine Kd.C_alloc ?_ _) | (with_reducible refine Kd.C_drewN ?_ _) | (with_reducible refine Kd.C_drew ?_))); (case side4 => exact (Kd.R_reads' HO247.out).2.1); rintro e w80 ⟨rfl, hb⟩; have n0_ := Aside0.mk (Kd.R_below (rk HO218) hb); have n1_ := Aside0.mk (Kd.R_below (rk HO222) hb); have n2_ := Aside0.mk (Kd.R_below (rk HO226) hb); have n3_ := Aside0.mk (Kd.R_below (rk HO231) hb); have n4_ := Aside0.mk (Kd.R_below (rk HO239) hb); have n5_ := Aside0.mk (Kd.R_below (rk HO243) hb); have n6_ := Aside0.mk (Kd.R_below (rk HO247) hb); have n7_ := Aside0.mk (Kd.R_below (rk HO252) hb); have n8_ := Aside0.mk (Kd.R_below (rk HO256) hb); have n9_ := Aside0.mk (bb (g := gb227) hb); have n10_ := Aside0.mk (bb (g := gb232) hb); have n11_ := Aside0.mk (bb (g := gb248) hb); have n12_ := Aside0.mk (bb (g := gb257) hb); have n13_ := Aside0.mk (below_step bl hb); clear HO218; clear HO222; clear HO226; clear HO231; clear HO239; clear HO243; clear HO247; clear HO252; clear HO256; clear BK227; clear BK232; clear BK248; clear BK257; clear HB; have HO218 := n0_; have HO222 := n1_; have HO226 := n2_; have HO231 := n3_; have HO239 := n4_; have HO243 := n5_; have HO247 := n6_; have HO252 := n7_; have HO256 := n8_; have BK227 := n9_; have BK232 := n10_; have BK248 := n11_; have BK257 := n12_; have HB := n13_; clear n0_ n1_ n2_ n3_ n4_ n5_ n6_ n7_ n8_ n9_ n10_ n11_ n12_ n13_; (try clear hb); (try clear hb2); (try clear hk); (try clear hi)))
            go_ret
            exact ⟨by first | rfl | (simp [errW_none, errW_some] <;> rfl) | (simp [*, errW_none, errW_some] <;> rfl), bl⟩
          · rw [if_neg c39] at H
            have c39b0 : (t214 == 18446744073709551615) = false := beq_eq_false_iff_ne.mpr c39
            have c39b1 : (t214 != 18446744073709551615) = true := bne_iff_ne.mpr c39
            replace H := Option.bind_eq_some_iff.mp H
            obtain ⟨t260, A810, H⟩ := H
            replace H : (some t260) = some r := H
            have A81 := Aside0.mk A810
            clear A810
            obtain rfl := Option.some.inj H
            go_enter Try.func4, Try.ntmps4
            try go_wp2_with (first | ((with_reducible refine gate_callee (f := 11) rfl ?_); refine goesL_ (some 15) rfl rfl Try.func11 (by kernel_rfl) rfl #[.int .u64 a0, .int .u64 a1, .int .u64 a2] rfl am ?_; (with_reducible refine (calc_Times.calls k a0 a1 a2 t214 _ A4.out).mono ?_); rintro e w' ⟨rfl, ⟨nd, rfl⟩⟩; refine ⟨_, rfl, ?_⟩) | ((with_reducible refine gate_callee (f := 13) rfl ?_); refine goesL_ (some 17) rfl rfl Try.func13 (by kernel_rfl) rfl #[.int .u64 a0] rfl am ?_; (with_reducible refine (rowlockref03_Whole.calls k a0 t215 t216 _ A5.out).mono ?_); rintro e w82 ⟨v217, rfl, ho0, hb⟩; refine ⟨_, rfl, ?_⟩; have n0_ := Aside0.mk (Kd.R_lower ho0 (below_size bl)); have n1_ := Aside0.mk (below_step bl hb); clear HB; have HO218 := n0_; have HB := n1_; clear n0_ n1_; (try clear hb); (try clear hb2); (try clear hk); (try clear hi); (try clear ho0)) | ((with_reducible refine gate_callee (f := 13) rfl ?_); refine goesL_ (some 19) rfl rfl Try.func13 (by kernel_rfl) rfl #[.int .u64 a1] rfl am ?_; (with_reducible refine (rowlockref03_Whole.calls k a1 t219 t220 _ A6.out).mono ?_); rintro e w83 ⟨v221, rfl, ho0, hb⟩; refine ⟨_, rfl, ?_⟩; have n0_ := Aside0.mk (Kd.R_elder' (rk HO218) (Kd.R_base ho0) hb); have n1_ := Aside0.mk (Kd.R_lower (Kd.R_new' ho0 (Kd.R_lt (rk HO218))) (below_size bl)); have n2_ := Aside0.mk (below_step bl hb); clear HO218; clear HB; have HO218 := n0_; have HO222 := n1_; have HB := n2_; clear n0_ n1_ n2_; (try clear hb); (try clear hb2); (try clear hk); (try clear hi); (try clear ho0); obtain ⟨Ao84, co84, eo84⟩ := Kd.R_slice HO218.out; subst eo84; obtain ⟨Ao85, co85, eo85⟩ := Kd.R_slice HO222.out; subst eo85) | ((with_reducible refine gate_callee (f := 12) rfl ?_); refine goesL_ (some 20) rfl rfl Try.func12 (by kernel_rfl) rfl #[.agg #[.int .i64 t215, .slice Ao84 t216.length co84], .agg #[.int .i64 t219, .slice Ao85 t220.length co85]] rfl am ?_; (with_reducible refine (rowlockref03_Times.calls k t215 _ _ t216 t219 _ _ t220 t223 t224 _ ?side1 ?side2 ?side3 ?side4 A7.out).mono ?_); (case side1 => repeat (first | exact (Kd.R_reads' HO218.out).2.2 | (with_reducible refine Kd.C_alloc ?_ _) | (with_reducible refine Kd.C_drewN ?_ _) | (with_reducible refine Kd.C_drew ?_))); (case side2 => exact (Kd.R_reads' HO218.out).2.1); (case side3 => repeat (first | exact (Kd.R_reads' HO222.out).2.2 | (with_reducible refine Kd.C_alloc ?_ _) | (with_reducible refine Kd.C_drewN ?_ _) | (with_reducible refine Kd.C_drew ?_))); (case side4 => exact (Kd.R_reads' HO222.out).2.1); rintro e w86 ⟨v225, rfl, ho0, hb⟩; refine ⟨_, rfl, ?_⟩; have n0_ := Aside0.mk (Kd.R_elder' (rk HO218) (Kd.R_base ho0) hb); have n1_ := Aside0.mk (Kd.R_elder' (rk HO222) (Kd.R_base ho0) hb); have n2_ := Aside0.mk (Kd.R_lower (Kd.R_new' (Kd.R_new' ho0 (Kd.R_lt (rk HO218))) (Kd.R_lt (rk HO222))) (below_size bl)); have n3_ := Aside0.mk (below_step bl hb); clear HO218; clear HO222; clear HB; have HO218 := n0_; have HO222 := n1_; have HO226 := n2_; have HB := n3_; clear n0_ n1_ n2_ n3_; (try clear hb); (try clear hb2); (try clear hk); (try clear hi); (try clear ho0)) | ((with_reducible refine gate_dst (N := 8) rfl ?_); refine box_event ?hg (N := 8) ?hd (cs := #[.int .i64 0, .slice none 0 0]) (t := 31) ?hr ?_; (case hd => rfl); (case hg => rfl); (case hr => first | (go_simp; done) | (go_simp; rfl)); intro gb227 hg w87 hbox hb; have n0_ := Aside0.mk (Kd.R_below (rk HO218) hb); have n1_ := Aside0.mk (Kd.R_below (rk HO222) hb); have n2_ := Aside0.mk (Kd.R_below (rk HO226) hb); have n3_ := Aside0.mk (below_step bl hb); have n4_ := Aside0.mk (hbox); have n5_ := Aside0.mk ((sz hg : w.heap.size ≤ gb227)); have n6_ := Aside0.mk ((sz hg : w.heap.size ≤ gb227)); clear HO218; clear HO222; clear HO226; clear HB; have HO218 := n0_; have HO222 := n1_; have HO226 := n2_; have HB := n3_; have BK227 := n4_; have GW227 := n5_; have GE227 := n6_; clear n0_ n1_ n2_ n3_ n4_ n5_ n6_; clear hb hbox hg; have hcz88_0 : w87.cell? ⟨gb227, 0, none⟩ = some (.int .i64 0) := (blk_cell BK227.out 0).trans rfl; have hcz88_1 : w87.cell? ⟨gb227, 1, none⟩ = some (.slice none 0 0) := (blk_cell BK227.out 1).trans rfl; have hfz88_0 := blk_frozen BK227.out 0; have hfz88_1 := blk_frozen BK227.out 1; obtain ⟨Ao89, co89, eo89⟩ := Kd.R_slice HO226.out; subst eo89) | ((with_reducible refine gate_callee (f := 13) rfl ?_); refine goesL_ (some 21) rfl rfl Try.func13 (by kernel_rfl) rfl #[.int .u64 0] rfl am ?_; (with_reducible refine (rowlockref03_Whole.calls k 0 t228 t229 _ A8.out).mono ?_); rintro e w90 ⟨v230, rfl, ho0, hb⟩; refine ⟨_, rfl, ?_⟩; have n0_ := Aside0.mk (Kd.R_elder' (by (with_reducible repeat (first | apply Kd.R_alloc | apply Kd.R_drewN | apply Kd.R_drew)); exact (Kd.R_mono (Kd.R_far (p := ⟨gb227, 1, none⟩) (Kd.R_far (p := ⟨gb227, 0, none⟩) (Kd.R_types HO218.out BK227.out (by decide)) (fun _ hk => hk.2) (.int .i64 t223)) (fun _ hk => hk.2) (.slice Ao89 t224.length co89)) (fun _ h_ => h_.1))) (Kd.R_base ho0) hb); have n1_ := Aside0.mk (Kd.R_elder' (by (with_reducible repeat (first | apply Kd.R_alloc | apply Kd.R_drewN | apply Kd.R_drew)); exact (Kd.R_mono (Kd.R_far (p := ⟨gb227, 1, none⟩) (Kd.R_far (p := ⟨gb227, 0, none⟩) (Kd.R_types HO222.out BK227.out (by decide)) (fun _ hk => hk.2) (.int .i64 t223)) (fun _ hk => hk.2) (.slice Ao89 t224.length co89)) (fun _ h_ => h_.1))) (Kd.R_base ho0) hb); have n2_ := Aside0.mk (Kd.R_elder' (by (with_reducible repeat (first | apply Kd.R_alloc | apply Kd.R_drewN | apply Kd.R_drew)); exact (Kd.R_mono (Kd.R_far (p := ⟨gb227, 1, none⟩) (Kd.R_far (p := ⟨gb227, 0, none⟩) (Kd.R_types HO226.out BK227.out (by decide)) (fun _ hk => hk.2) (.int .i64 t223)) (fun _ hk => hk.2) (.slice Ao89 t224.length co89)) (fun _ h_ => h_.1))) (Kd.R_base ho0) hb); have n3_ := Aside0.mk (Kd.R_lower (Kd.R_new' (Kd.R_new' (Kd.R_new' ho0 (Kd.R_lt (by (with_reducible repeat (first | apply Kd.R_alloc | apply Kd.R_drewN | apply Kd.R_drew)); exact (Kd.R_mono (Kd.R_far (p := ⟨gb227, 1, none⟩) (Kd.R_far (p := ⟨gb227, 0, none⟩) (Kd.R_types HO218.out BK227.out (by decide)) (fun _ hk => hk.2) (.int .i64 t223)) (fun _ hk => hk.2) (.slice Ao89 t224.length co89)) (fun _ h_ => h_.1))))) (Kd.R_lt (by (with_reducible repeat (first | apply Kd.R_alloc | apply Kd.R_drewN | apply Kd.R_drew)); exact (Kd.R_mono (Kd.R_far (p := ⟨gb227, 1, none⟩) (Kd.R_far (p := ⟨gb227, 0, none⟩) (Kd.R_types HO222.out BK227.out (by decide)) (fun _ hk => hk.2) (.int .i64 t223)) (fun _ hk => hk.2) (.slice Ao89 t224.length co89)) (fun _ h_ => h_.1))))) (Kd.R_lt (by (with_reducible repeat (first | apply Kd.R_alloc | apply Kd.R_drewN | apply Kd.R_drew)); exact (Kd.R_mono (Kd.R_far (p := ⟨gb227, 1, none⟩) (Kd.R_far (p := ⟨gb227, 0, none⟩) (Kd.R_types HO226.out BK227.out (by decide)) (fun _ hk => hk.2) (.int .i64 t223)) (fun _ hk => hk.2) (.slice Ao89 t224.length co89)) (fun _ h_ => h_.1))))) (below_size bl)); have n4_ := Aside0.mk (blk_below (g := gb227) (o := .cells #[.int .i64 t223, .slice Ao89 t224.length co89] 31 (0, 0)) (by (with_reducible repeat (first | refine blk_drewN ?_ _ | refine blk_drew ?_ | refine blk_alloc ?_ _)); refine blk_put (cs := #[.int .i64 t223, .slice none 0 0]) ?_ 1 _ rfl; (with_reducible repeat (first | refine blk_drewN ?_ _ | refine blk_drew ?_ | refine blk_alloc ?_ _)); refine blk_put (cs := #[.int .i64 0, .slice none 0 0]) ?_ 0 _ rfl; (with_reducible repeat (first | refine blk_drewN ?_ _ | refine blk_drew ?_ | refine blk_alloc ?_ _)); exact BK227.out) hb); have n5_ := Aside0.mk (below_step bl hb); clear HO218; clear HO222; clear HO226; clear BK227; clear HB; have HO218 := n0_; have HO222 := n1_; have HO226 := n2_; have HO231 := n3_; have BK227 := n4_; have HB := n5_; clear n0_ n1_ n2_ n3_ n4_ n5_; (try clear hb); (try clear hb2); (try clear hk); (try clear hi); (try clear ho0)) | ((with_reducible refine gate_dst (N := 9) rfl ?_); refine box_event ?hg (N := 9) ?hd (cs := #[.int .i64 0, .slice none 0 0]) (t := 31) ?hr ?_; (case hd => rfl); (case hg => rfl); (case hr => first | (go_simp; done) | (go_simp; rfl)); intro gb232 hg w91 hbox hb; have n0_ := Aside0.mk (Kd.R_below (rk HO218) hb); have n1_ := Aside0.mk (Kd.R_below (rk HO222) hb); have n2_ := Aside0.mk (Kd.R_below (rk HO226) hb); have n3_ := Aside0.mk (Kd.R_below (rk HO231) hb); have n4_ := Aside0.mk (bb (g := gb227) hb); have n5_ := Aside0.mk (below_step bl hb); have n6_ := Aside0.mk (hbox); have n7_ := Aside0.mk ((sz hg : w.heap.size ≤ gb232)); have n8_ := Aside0.mk ((sz hg : w.heap.size ≤ gb232)); have n9_ := Aside0.mk ((nl hg : gb227 ≠ gb232)); have n10_ := Aside0.mk ((ng hg : gb232 ≠ gb227)); clear HO218; clear HO222; clear HO226; clear HO231; clear BK227; clear HB; have HO218 := n0_; have HO222 := n1_; have HO226 := n2_; have HO231 := n3_; have BK227 := n4_; have HB := n5_; have BK232 := n6_; have GW232 := n7_; have GE232 := n8_; have NB227_232 := n9_; have NB232_227 := n10_; clear n0_ n1_ n2_ n3_ n4_ n5_ n6_ n7_ n8_ n9_ n10_; clear hb hbox hg; have hnb92 := NB232_227.out; have hnc92 := NB227_232.out; have hcz93_0 : w91.cell? ⟨gb232, 0, none⟩ = some (.int .i64 0) := (blk_cell BK232.out 0).trans rfl; have hcz93_1 : w91.cell? ⟨gb232, 1, none⟩ = some (.slice none 0 0) := (blk_cell BK232.out 1).trans rfl; have hfz93_0 := blk_frozen BK232.out 0; have hfz93_1 := blk_frozen BK232.out 1; obtain ⟨Ao94, co94, eo94⟩ := Kd.R_slice HO231.out; subst eo94; have hcz95_0 : w91.cell? ⟨gb227, 0, none⟩ = some (.int .i64 t223) := (blk_cell BK227.out 0).trans rfl; have hcz95_1 : w91.cell? ⟨gb227, 1, none⟩ = some (.slice Ao89 t224.length co89) := (blk_cell BK227.out 1).trans rfl; have hfz95_0 := blk_frozen BK227.out 0; have hfz95_1 := blk_frozen BK227.out 1) | ((with_reducible refine gate_callee (f := 14) rfl ?_); refine goesL_ (some 24) rfl rfl Try.func14 (by kernel_rfl) rfl #[.agg #[.int .i64 t228, .slice Ao94 t229.length co94], .agg #[.int .i64 t223, .slice Ao89 t224.length co89]] rfl am ?_; (with_reducible refine (rowlockref03_Less.calls k t228 _ _ t229 t223 _ _ t224 true _ ?side1 ?side2 ?side3 ?side4 A9.out).mono ?_); (case side1 => refine (Kd.R_reads' (e := 27) (base := w.heap.size) (ok := fun k_ => (((True ∧ some k_ ≠ (.slice Ao84 t216.length co84 : Value).ownBlock) ∧ some k_ ≠ (.slice Ao85 t220.length co85 : Value).ownBlock) ∧ some k_ ≠ (.slice Ao89 t224.length co89 : Value).ownBlock)) (n := t229.length) (c := co94) ?_).2.2; exact (by (with_reducible repeat (first | apply Kd.R_alloc | apply Kd.R_drewN | apply Kd.R_drew)); exact (Kd.R_mono (Kd.R_far (p := ⟨gb232, 1, none⟩) (Kd.R_far (p := ⟨gb232, 0, none⟩) (Kd.R_types HO231.out BK232.out (by decide)) (fun _ hk => hk.2) (.int .i64 t228)) (fun _ hk => hk.2) (.slice Ao94 t229.length co94)) (fun _ h_ => h_.1)))); (case side2 => exact (Kd.R_reads' HO231.out).2.1); (case side3 => refine (Kd.R_reads' (e := 27) (base := w.heap.size) (ok := fun k_ => (((True ∧ some k_ ≠ (.slice Ao84 t216.length co84 : Value).ownBlock) ∧ some k_ ≠ (.slice Ao85 t220.length co85 : Value).ownBlock) ∧ some k_ ≠ (.slice Ao94 t229.length co94 : Value).ownBlock)) (n := t224.length) (c := co89) ?_).2.2; exact (by (with_reducible repeat (first | apply Kd.R_alloc | apply Kd.R_drewN | apply Kd.R_drew)); exact (Kd.R_mono (Kd.R_far (p := ⟨gb232, 1, none⟩) (Kd.R_far (p := ⟨gb232, 0, none⟩) (Kd.R_types HO226.out BK232.out (by decide)) (fun _ hk => hk.2) (.int .i64 t228)) (fun _ hk => hk.2) (.slice Ao94 t229.length co94)) (fun _ h_ => h_.1)))); (case side4 => exact (Kd.R_reads' HO226.out).2.1); rintro e w96 ⟨rfl, hb⟩; refine ⟨_, rfl, ?_⟩; have n0_ := Aside0.mk (Kd.R_below (by (with_reducible repeat (first | apply Kd.R_alloc | apply Kd.R_drewN | apply Kd.R_drew)); exact (Kd.R_mono (Kd.R_far (p := ⟨gb232, 1, none⟩) (Kd.R_far (p := ⟨gb232, 0, none⟩) (Kd.R_types HO218.out BK232.out (by decide)) (fun _ hk => hk.2) (.int .i64 t228)) (fun _ hk => hk.2) (.slice Ao94 t229.length co94)) (fun _ h_ => h_.1))) hb); have n1_ := Aside0.mk (Kd.R_below (by (with_reducible repeat (first | apply Kd.R_alloc | apply Kd.R_drewN | apply Kd.R_drew)); exact (Kd.R_mono (Kd.R_far (p := ⟨gb232, 1, none⟩) (Kd.R_far (p := ⟨gb232, 0, none⟩) (Kd.R_types HO222.out BK232.out (by decide)) (fun _ hk => hk.2) (.int .i64 t228)) (fun _ hk => hk.2) (.slice Ao94 t229.length co94)) (fun _ h_ => h_.1))) hb); have n2_ := Aside0.mk (Kd.R_below (by (with_reducible repeat (first | apply Kd.R_alloc | apply Kd.R_drewN | apply Kd.R_drew)); exact (Kd.R_mono (Kd.R_far (p := ⟨gb232, 1, none⟩) (Kd.R_far (p := ⟨gb232, 0, none⟩) (Kd.R_types HO226.out BK232.out (by decide)) (fun _ hk => hk.2) (.int .i64 t228)) (fun _ hk => hk.2) (.slice Ao94 t229.length co94)) (fun _ h_ => h_.1))) hb); have n3_ := Aside0.mk (Kd.R_below (by (with_reducible repeat (first | apply Kd.R_alloc | apply Kd.R_drewN | apply Kd.R_drew)); exact (Kd.R_mono (Kd.R_far (p := ⟨gb232, 1, none⟩) (Kd.R_far (p := ⟨gb232, 0, none⟩) (Kd.R_types HO231.out BK232.out (by decide)) (fun _ hk => hk.2) (.int .i64 t228)) (fun _ hk => hk.2) (.slice Ao94 t229.length co94)) (fun _ h_ => h_.1))) hb); have n4_ := Aside0.mk (blk_below (g := gb227) (o := .cells #[.int .i64 t223, .slice Ao89 t224.length co89] 31 (0, 0)) (by (with_reducible repeat (first | refine blk_drewN ?_ _ | refine blk_drew ?_ | refine blk_alloc ?_ _)); refine blk_far ?_ NB227_232.out _; (with_reducible repeat (first | refine blk_drewN ?_ _ | refine blk_drew ?_ | refine blk_alloc ?_ _)); refine blk_far ?_ NB227_232.out _; (with_reducible repeat (first | refine blk_drewN ?_ _ | refine blk_drew ?_ | refine blk_alloc ?_ _)); exact BK227.out) hb); have n5_ := Aside0.mk (blk_below (g := gb232) (o := .cells #[.int .i64 t228, .slice Ao94 t229.length co94] 31 (0, 0)) (by (with_reducible repeat (first | refine blk_drewN ?_ _ | refine blk_drew ?_ | refine blk_alloc ?_ _)); refine blk_put (cs := #[.int .i64 t228, .slice none 0 0]) ?_ 1 _ rfl; (with_reducible repeat (first | refine blk_drewN ?_ _ | refine blk_drew ?_ | refine blk_alloc ?_ _)); refine blk_put (cs := #[.int .i64 0, .slice none 0 0]) ?_ 0 _ rfl; (with_reducible repeat (first | refine blk_drewN ?_ _ | refine blk_drew ?_ | refine blk_alloc ?_ _)); exact BK232.out) hb); have n6_ := Aside0.mk (below_step bl hb); clear HO218; clear HO222; clear HO226; clear HO231; clear BK227; clear BK232; clear HB; have HO218 := n0_; have HO222 := n1_; have HO226 := n2_; have HO231 := n3_; have BK227 := n4_; have BK232 := n5_; have HB := n6_; clear n0_ n1_ n2_ n3_ n4_ n5_ n6_; (try clear hb); (try clear hb2); (try clear hk); (try clear hi)) | ((with_reducible refine gate_callee (f := 13) rfl ?_); refine goesL_ (some 39) rfl rfl Try.func13 (by kernel_rfl) rfl #[.int .u64 t214] rfl am ?_; (with_reducible refine (rowlockref03_Whole.calls k t214 t236 t237 _ A30.out).mono ?_); rintro e w97 ⟨v238, rfl, ho0, hb⟩; refine ⟨_, rfl, ?_⟩; have n0_ := Aside0.mk (Kd.R_elder' (rk HO218) (Kd.R_base ho0) hb); have n1_ := Aside0.mk (Kd.R_elder' (rk HO222) (Kd.R_base ho0) hb); have n2_ := Aside0.mk (Kd.R_elder' (rk HO226) (Kd.R_base ho0) hb); have n3_ := Aside0.mk (Kd.R_elder' (rk HO231) (Kd.R_base ho0) hb); have n4_ := Aside0.mk (Kd.R_lower (Kd.R_new' (Kd.R_new' (Kd.R_new' (Kd.R_new' ho0 (Kd.R_lt (rk HO218))) (Kd.R_lt (rk HO222))) (Kd.R_lt (rk HO226))) (Kd.R_lt (rk HO231))) (below_size bl)); have n5_ := Aside0.mk (bb (g := gb227) hb); have n6_ := Aside0.mk (bb (g := gb232) hb); have n7_ := Aside0.mk (below_step bl hb); clear HO218; clear HO222; clear HO226; clear HO231; clear BK227; clear BK232; clear HB; have HO218 := n0_; have HO222 := n1_; have HO226 := n2_; have HO231 := n3_; have HO239 := n4_; have BK227 := n5_; have BK232 := n6_; have HB := n7_; clear n0_ n1_ n2_ n3_ n4_ n5_ n6_ n7_; (try clear hb); (try clear hb2); (try clear hk); (try clear hi); (try clear ho0)) | ((with_reducible refine gate_callee (f := 13) rfl ?_); refine goesL_ (some 41) rfl rfl Try.func13 (by kernel_rfl) rfl #[.int .u64 a2] rfl am ?_; (with_reducible refine (rowlockref03_Whole.calls k a2 t240 t241 _ A31.out).mono ?_); rintro e w98 ⟨v242, rfl, ho0, hb⟩; refine ⟨_, rfl, ?_⟩; have n0_ := Aside0.mk (Kd.R_elder' (rk HO218) (Kd.R_base ho0) hb); have n1_ := Aside0.mk (Kd.R_elder' (rk HO222) (Kd.R_base ho0) hb); have n2_ := Aside0.mk (Kd.R_elder' (rk HO226) (Kd.R_base ho0) hb); have n3_ := Aside0.mk (Kd.R_elder' (rk HO231) (Kd.R_base ho0) hb); have n4_ := Aside0.mk (Kd.R_elder' (rk HO239) (Kd.R_base ho0) hb); have n5_ := Aside0.mk (Kd.R_lower (Kd.R_new' (Kd.R_new' (Kd.R_new' (Kd.R_new' (Kd.R_new' ho0 (Kd.R_lt (rk HO218))) (Kd.R_lt (rk HO222))) (Kd.R_lt (rk HO226))) (Kd.R_lt (rk HO231))) (Kd.R_lt (rk HO239))) (below_size bl)); have n6_ := Aside0.mk (bb (g := gb227) hb); have n7_ := Aside0.mk (bb (g := gb232) hb); have n8_ := Aside0.mk (below_step bl hb); clear HO218; clear HO222; clear HO226; clear HO231; clear HO239; clear BK227; clear BK232; clear HB; have HO218 := n0_; have HO222 := n1_; have HO226 := n2_; have HO231 := n3_; have HO239 := n4_; have HO243 := n5_; have BK227 := n6_; have BK232 := n7_; have HB := n8_; clear n0_ n1_ n2_ n3_ n4_ n5_ n6_ n7_ n8_; (try clear hb); (try clear hb2); (try clear hk); (try clear hi); (try clear ho0); obtain ⟨Ao99, co99, eo99⟩ := Kd.R_slice HO239.out; subst eo99; obtain ⟨Ao100, co100, eo100⟩ := Kd.R_slice HO243.out; subst eo100) | ((with_reducible refine gate_callee (f := 12) rfl ?_); refine goesL_ (some 42) rfl rfl Try.func12 (by kernel_rfl) rfl #[.agg #[.int .i64 t236, .slice Ao99 t237.length co99], .agg #[.int .i64 t240, .slice Ao100 t241.length co100]] rfl am ?_; (with_reducible refine (rowlockref03_Times.calls k t236 _ _ t237 t240 _ _ t241 t244 t245 _ ?side1 ?side2 ?side3 ?side4 A32.out).mono ?_); (case side1 => repeat (first | exact (Kd.R_reads' HO239.out).2.2 | (with_reducible refine Kd.C_alloc ?_ _) | (with_reducible refine Kd.C_drewN ?_ _) | (with_reducible refine Kd.C_drew ?_))); (case side2 => exact (Kd.R_reads' HO239.out).2.1); (case side3 => repeat (first | exact (Kd.R_reads' HO243.out).2.2 | (with_reducible refine Kd.C_alloc ?_ _) | (with_reducible refine Kd.C_drewN ?_ _) | (with_reducible refine Kd.C_drew ?_))); (case side4 => exact (Kd.R_reads' HO243.out).2.1); rintro e w101 ⟨v246, rfl, ho0, hb⟩; refine ⟨_, rfl, ?_⟩; have n0_ := Aside0.mk (Kd.R_elder' (rk HO218) (Kd.R_base ho0) hb); have n1_ := Aside0.mk (Kd.R_elder' (rk HO222) (Kd.R_base ho0) hb); have n2_ := Aside0.mk (Kd.R_elder' (rk HO226) (Kd.R_base ho0) hb); have n3_ := Aside0.mk (Kd.R_elder' (rk HO231) (Kd.R_base ho0) hb); have n4_ := Aside0.mk (Kd.R_elder' (rk HO239) (Kd.R_base ho0) hb); have n5_ := Aside0.mk (Kd.R_elder' (rk HO243) (Kd.R_base ho0) hb); have n6_ := Aside0.mk (Kd.R_lower (Kd.R_new' (Kd.R_new' (Kd.R_new' (Kd.R_new' (Kd.R_new' (Kd.R_new' ho0 (Kd.R_lt (rk HO218))) (Kd.R_lt (rk HO222))) (Kd.R_lt (rk HO226))) (Kd.R_lt (rk HO231))) (Kd.R_lt (rk HO239))) (Kd.R_lt (rk HO243))) (below_size bl)); have n7_ := Aside0.mk (bb (g := gb227) hb); have n8_ := Aside0.mk (bb (g := gb232) hb); have n9_ := Aside0.mk (below_step bl hb); clear HO218; clear HO222; clear HO226; clear HO231; clear HO239; clear HO243; clear BK227; clear BK232; clear HB; have HO218 := n0_; have HO222 := n1_; have HO226 := n2_; have HO231 := n3_; have HO239 := n4_; have HO243 := n5_; have HO247 := n6_; have BK227 := n7_; have BK232 := n8_; have HB := n9_; clear n0_ n1_ n2_ n3_ n4_ n5_ n6_ n7_ n8_ n9_; (try clear hb); (try clear hb2); (try clear hk); (try clear hi); (try clear ho0)) | ((with_reducible refine gate_dst (N := 10) rfl ?_); refine box_event ?hg (N := 10) ?hd (cs := #[.int .i64 0, .slice none 0 0]) (t := 31) ?hr ?_; (case hd => rfl); (case hg => rfl); (case hr => first | (go_simp; done) | (go_simp; rfl)); intro gb248 hg w102 hbox hb; have n0_ := Aside0.mk (Kd.R_below (rk HO218) hb); have n1_ := Aside0.mk (Kd.R_below (rk HO222) hb); have n2_ := Aside0.mk (Kd.R_below (rk HO226) hb); have n3_ := Aside0.mk (Kd.R_below (rk HO231) hb); have n4_ := Aside0.mk (Kd.R_below (rk HO239) hb); have n5_ := Aside0.mk (Kd.R_below (rk HO243) hb); have n6_ := Aside0.mk (Kd.R_below (rk HO247) hb); have n7_ := Aside0.mk (bb (g := gb227) hb); have n8_ := Aside0.mk (bb (g := gb232) hb); have n9_ := Aside0.mk (below_step bl hb); have n10_ := Aside0.mk (hbox); have n11_ := Aside0.mk ((sz hg : w.heap.size ≤ gb248)); have n12_ := Aside0.mk ((sz hg : w.heap.size ≤ gb248)); have n13_ := Aside0.mk ((nl hg : gb227 ≠ gb248)); have n14_ := Aside0.mk ((ng hg : gb248 ≠ gb227)); have n15_ := Aside0.mk ((nl hg : gb232 ≠ gb248)); have n16_ := Aside0.mk ((ng hg : gb248 ≠ gb232)); clear HO218; clear HO222; clear HO226; clear HO231; clear HO239; clear HO243; clear HO247; clear BK227; clear BK232; clear HB; have HO218 := n0_; have HO222 := n1_; have HO226 := n2_; have HO231 := n3_; have HO239 := n4_; have HO243 := n5_; have HO247 := n6_; have BK227 := n7_; have BK232 := n8_; have HB := n9_; have BK248 := n10_; have GW248 := n11_; have GE248 := n12_; have NB227_248 := n13_; have NB248_227 := n14_; have NB232_248 := n15_; have NB248_232 := n16_; clear n0_ n1_ n2_ n3_ n4_ n5_ n6_ n7_ n8_ n9_ n10_ n11_ n12_ n13_ n14_ n15_ n16_; clear hb hbox hg; have hnb103 := NB248_227.out; have hnc103 := NB227_248.out; have hnb104 := NB248_232.out; have hnc104 := NB232_248.out; have hcz105_0 : w102.cell? ⟨gb248, 0, none⟩ = some (.int .i64 0) := (blk_cell BK248.out 0).trans rfl; have hcz105_1 : w102.cell? ⟨gb248, 1, none⟩ = some (.slice none 0 0) := (blk_cell BK248.out 1).trans rfl; have hfz105_0 := blk_frozen BK248.out 0; have hfz105_1 := blk_frozen BK248.out 1; obtain ⟨Ao106, co106, eo106⟩ := Kd.R_slice HO247.out; subst eo106))
            have n0_ : Aside0 (Kd.R (Kd.int .u64) 27 ((w102.setCell ⟨gb248, 0, none⟩ (.int .i64 t244)).setCell ⟨gb248, 1, none⟩ (.slice Ao106 t245.length co106)) w.heap.size (fun k_ => some k_ ≠ (.slice Ao85 t220.length co85 : Value).ownBlock ∧ some k_ ≠ (.slice Ao89 t224.length co89 : Value).ownBlock ∧ some k_ ≠ (.slice Ao94 t229.length co94 : Value).ownBlock ∧ some k_ ≠ (.slice Ao99 t237.length co99 : Value).ownBlock ∧ some k_ ≠ (.slice Ao100 t241.length co100 : Value).ownBlock ∧ some k_ ≠ (.slice Ao106 t245.length co106 : Value).ownBlock) (.slice Ao84 t216.length co84) t216) := ⟨by (with_reducible repeat (first | apply Kd.R_alloc | apply Kd.R_drewN | apply Kd.R_drew)); exact Kd.R_mono (Kd.R_far (p := ⟨gb248, 1, none⟩) (Kd.R_far (p := ⟨gb248, 0, none⟩) (Kd.R_types HO218.out BK248.out (by decide)) (fun _ hk => hk.2) (.int .i64 t244)) (fun _ hk => hk.2) (.slice Ao106 t245.length co106)) (fun _ hk => ⟨hk.1.1.1.1.1.1.2, ⟨hk.1.1.1.1.1.2, ⟨hk.1.1.1.1.2, ⟨hk.1.1.1.2, ⟨hk.1.1.2, hk.1.2⟩⟩⟩⟩⟩)⟩
            have n1_ : Aside0 (Kd.R (Kd.int .u64) 27 ((w102.setCell ⟨gb248, 0, none⟩ (.int .i64 t244)).setCell ⟨gb248, 1, none⟩ (.slice Ao106 t245.length co106)) w.heap.size (fun k_ => some k_ ≠ (.slice Ao84 t216.length co84 : Value).ownBlock ∧ some k_ ≠ (.slice Ao89 t224.length co89 : Value).ownBlock ∧ some k_ ≠ (.slice Ao94 t229.length co94 : Value).ownBlock ∧ some k_ ≠ (.slice Ao99 t237.length co99 : Value).ownBlock ∧ some k_ ≠ (.slice Ao100 t241.length co100 : Value).ownBlock ∧ some k_ ≠ (.slice Ao106 t245.length co106 : Value).ownBlock) (.slice Ao85 t220.length co85) t220) := ⟨by (with_reducible repeat (first | apply Kd.R_alloc | apply Kd.R_drewN | apply Kd.R_drew)); exact Kd.R_mono (Kd.R_far (p := ⟨gb248, 1, none⟩) (Kd.R_far (p := ⟨gb248, 0, none⟩) (Kd.R_types HO222.out BK248.out (by decide)) (fun _ hk => hk.2) (.int .i64 t244)) (fun _ hk => hk.2) (.slice Ao106 t245.length co106)) (fun _ hk => ⟨hk.1.1.1.1.1.1.2, ⟨hk.1.1.1.1.1.2, ⟨hk.1.1.1.1.2, ⟨hk.1.1.1.2, ⟨hk.1.1.2, hk.1.2⟩⟩⟩⟩⟩)⟩
            have n2_ : Aside0 (Kd.R (Kd.int .u64) 27 ((w102.setCell ⟨gb248, 0, none⟩ (.int .i64 t244)).setCell ⟨gb248, 1, none⟩ (.slice Ao106 t245.length co106)) w.heap.size (fun k_ => some k_ ≠ (.slice Ao84 t216.length co84 : Value).ownBlock ∧ some k_ ≠ (.slice Ao85 t220.length co85 : Value).ownBlock ∧ some k_ ≠ (.slice Ao94 t229.length co94 : Value).ownBlock ∧ some k_ ≠ (.slice Ao99 t237.length co99 : Value).ownBlock ∧ some k_ ≠ (.slice Ao100 t241.length co100 : Value).ownBlock ∧ some k_ ≠ (.slice Ao106 t245.length co106 : Value).ownBlock) (.slice Ao89 t224.length co89) t224) := ⟨by (with_reducible repeat (first | apply Kd.R_alloc | apply Kd.R_drewN | apply Kd.R_drew)); exact Kd.R_mono (Kd.R_far (p := ⟨gb248, 1, none⟩) (Kd.R_far (p := ⟨gb248, 0, none⟩) (Kd.R_types HO226.out BK248.out (by decide)) (fun _ hk => hk.2) (.int .i64 t244)) (fun _ hk => hk.2) (.slice Ao106 t245.length co106)) (fun _ hk => ⟨hk.1.1.1.1.1.1.2, ⟨hk.1.1.1.1.1.2, ⟨hk.1.1.1.1.2, ⟨hk.1.1.1.2, ⟨hk.1.1.2, hk.1.2⟩⟩⟩⟩⟩)⟩
            have n3_ : Aside0 (Kd.R (Kd.int .u64) 27 ((w102.setCell ⟨gb248, 0, none⟩ (.int .i64 t244)).setCell ⟨gb248, 1, none⟩ (.slice Ao106 t245.length co106)) w.heap.size (fun k_ => some k_ ≠ (.slice Ao84 t216.length co84 : Value).ownBlock ∧ some k_ ≠ (.slice Ao85 t220.length co85 : Value).ownBlock ∧ some k_ ≠ (.slice Ao89 t224.length co89 : Value).ownBlock ∧ some k_ ≠ (.slice Ao99 t237.length co99 : Value).ownBlock ∧ some k_ ≠ (.slice Ao100 t241.length co100 : Value).ownBlock ∧ some k_ ≠ (.slice Ao106 t245.length co106 : Value).ownBlock) (.slice Ao94 t229.length co94) t229) := ⟨by (with_reducible repeat (first | apply Kd.R_alloc | apply Kd.R_drewN | apply Kd.R_drew)); exact Kd.R_mono (Kd.R_far (p := ⟨gb248, 1, none⟩) (Kd.R_far (p := ⟨gb248, 0, none⟩) (Kd.R_types HO231.out BK248.out (by decide)) (fun _ hk => hk.2) (.int .i64 t244)) (fun _ hk => hk.2) (.slice Ao106 t245.length co106)) (fun _ hk => ⟨hk.1.1.1.1.1.1.2, ⟨hk.1.1.1.1.1.2, ⟨hk.1.1.1.1.2, ⟨hk.1.1.1.2, ⟨hk.1.1.2, hk.1.2⟩⟩⟩⟩⟩)⟩
            have n4_ : Aside0 (Kd.R (Kd.int .u64) 27 ((w102.setCell ⟨gb248, 0, none⟩ (.int .i64 t244)).setCell ⟨gb248, 1, none⟩ (.slice Ao106 t245.length co106)) w.heap.size (fun k_ => some k_ ≠ (.slice Ao84 t216.length co84 : Value).ownBlock ∧ some k_ ≠ (.slice Ao85 t220.length co85 : Value).ownBlock ∧ some k_ ≠ (.slice Ao89 t224.length co89 : Value).ownBlock ∧ some k_ ≠ (.slice Ao94 t229.length co94 : Value).ownBlock ∧ some k_ ≠ (.slice Ao100 t241.length co100 : Value).ownBlock ∧ some k_ ≠ (.slice Ao106 t245.length co106 : Value).ownBlock) (.slice Ao99 t237.length co99) t237) := ⟨by (with_reducible repeat (first | apply Kd.R_alloc | apply Kd.R_drewN | apply Kd.R_drew)); exact Kd.R_mono (Kd.R_far (p := ⟨gb248, 1, none⟩) (Kd.R_far (p := ⟨gb248, 0, none⟩) (Kd.R_types HO239.out BK248.out (by decide)) (fun _ hk => hk.2) (.int .i64 t244)) (fun _ hk => hk.2) (.slice Ao106 t245.length co106)) (fun _ hk => ⟨hk.1.1.1.1.1.1.2, ⟨hk.1.1.1.1.1.2, ⟨hk.1.1.1.1.2, ⟨hk.1.1.1.2, ⟨hk.1.1.2, hk.1.2⟩⟩⟩⟩⟩)⟩
            have n5_ : Aside0 (Kd.R (Kd.int .u64) 27 ((w102.setCell ⟨gb248, 0, none⟩ (.int .i64 t244)).setCell ⟨gb248, 1, none⟩ (.slice Ao106 t245.length co106)) w.heap.size (fun k_ => some k_ ≠ (.slice Ao84 t216.length co84 : Value).ownBlock ∧ some k_ ≠ (.slice Ao85 t220.length co85 : Value).ownBlock ∧ some k_ ≠ (.slice Ao89 t224.length co89 : Value).ownBlock ∧ some k_ ≠ (.slice Ao94 t229.length co94 : Value).ownBlock ∧ some k_ ≠ (.slice Ao99 t237.length co99 : Value).ownBlock ∧ some k_ ≠ (.slice Ao106 t245.length co106 : Value).ownBlock) (.slice Ao100 t241.length co100) t241) := ⟨by (with_reducible repeat (first | apply Kd.R_alloc | apply Kd.R_drewN | apply Kd.R_drew)); exact Kd.R_mono (Kd.R_far (p := ⟨gb248, 1, none⟩) (Kd.R_far (p := ⟨gb248, 0, none⟩) (Kd.R_types HO243.out BK248.out (by decide)) (fun _ hk => hk.2) (.int .i64 t244)) (fun _ hk => hk.2) (.slice Ao106 t245.length co106)) (fun _ hk => ⟨hk.1.1.1.1.1.1.2, ⟨hk.1.1.1.1.1.2, ⟨hk.1.1.1.1.2, ⟨hk.1.1.1.2, ⟨hk.1.1.2, hk.1.2⟩⟩⟩⟩⟩)⟩
            have n6_ : Aside0 (Kd.R (Kd.int .u64) 27 ((w102.setCell ⟨gb248, 0, none⟩ (.int .i64 t244)).setCell ⟨gb248, 1, none⟩ (.slice Ao106 t245.length co106)) w.heap.size (fun k_ => some k_ ≠ (.slice Ao84 t216.length co84 : Value).ownBlock ∧ some k_ ≠ (.slice Ao85 t220.length co85 : Value).ownBlock ∧ some k_ ≠ (.slice Ao89 t224.length co89 : Value).ownBlock ∧ some k_ ≠ (.slice Ao94 t229.length co94 : Value).ownBlock ∧ some k_ ≠ (.slice Ao99 t237.length co99 : Value).ownBlock ∧ some k_ ≠ (.slice Ao100 t241.length co100 : Value).ownBlock) (.slice Ao106 t245.length co106) t245) := ⟨by (with_reducible repeat (first | apply Kd.R_alloc | apply Kd.R_drewN | apply Kd.R_drew)); exact Kd.R_mono (Kd.R_far (p := ⟨gb248, 1, none⟩) (Kd.R_far (p := ⟨gb248, 0, none⟩) (Kd.R_types HO247.out BK248.out (by decide)) (fun _ hk => hk.2) (.int .i64 t244)) (fun _ hk => hk.2) (.slice Ao106 t245.length co106)) (fun _ hk => ⟨hk.1.1.1.1.1.1.2, ⟨hk.1.1.1.1.1.2, ⟨hk.1.1.1.1.2, ⟨hk.1.1.1.2, ⟨hk.1.1.2, hk.1.2⟩⟩⟩⟩⟩)⟩
            have n7_ : Aside0 (((w102.setCell ⟨gb248, 0, none⟩ (.int .i64 t244)).setCell ⟨gb248, 1, none⟩ (.slice Ao106 t245.length co106)).heap[gb227]? = some (.cells #[.int .i64 t223, .slice Ao89 t224.length co89] 31 (0, 0))) := ⟨by (with_reducible repeat (first | refine blk_drewN ?_ _ | refine blk_drew ?_ | refine blk_alloc ?_ _)); refine blk_far ?_ NB227_248.out _; (with_reducible repeat (first | refine blk_drewN ?_ _ | refine blk_drew ?_ | refine blk_alloc ?_ _)); refine blk_far ?_ NB227_248.out _; (with_reducible repeat (first | refine blk_drewN ?_ _ | refine blk_drew ?_ | refine blk_alloc ?_ _)); exact BK227.out⟩
            have n8_ : Aside0 (((w102.setCell ⟨gb248, 0, none⟩ (.int .i64 t244)).setCell ⟨gb248, 1, none⟩ (.slice Ao106 t245.length co106)).heap[gb232]? = some (.cells #[.int .i64 t228, .slice Ao94 t229.length co94] 31 (0, 0))) := ⟨by (with_reducible repeat (first | refine blk_drewN ?_ _ | refine blk_drew ?_ | refine blk_alloc ?_ _)); refine blk_far ?_ NB232_248.out _; (with_reducible repeat (first | refine blk_drewN ?_ _ | refine blk_drew ?_ | refine blk_alloc ?_ _)); refine blk_far ?_ NB232_248.out _; (with_reducible repeat (first | refine blk_drewN ?_ _ | refine blk_drew ?_ | refine blk_alloc ?_ _)); exact BK232.out⟩
            have n9_ : Aside0 (((w102.setCell ⟨gb248, 0, none⟩ (.int .i64 t244)).setCell ⟨gb248, 1, none⟩ (.slice Ao106 t245.length co106)).heap[gb248]? = some (.cells #[.int .i64 t244, .slice Ao106 t245.length co106] 31 (0, 0))) := ⟨by (with_reducible repeat (first | refine blk_drewN ?_ _ | refine blk_drew ?_ | refine blk_alloc ?_ _)); refine blk_put (cs := #[.int .i64 t244, .slice none 0 0]) ?_ 1 _ rfl; (with_reducible repeat (first | refine blk_drewN ?_ _ | refine blk_drew ?_ | refine blk_alloc ?_ _)); refine blk_put (cs := #[.int .i64 0, .slice none 0 0]) ?_ 0 _ rfl; (with_reducible repeat (first | refine blk_drewN ?_ _ | refine blk_drew ?_ | refine blk_alloc ?_ _)); exact BK248.out⟩
            have n10_ : Aside0 (Below w.heap.size w ((w102.setCell ⟨gb248, 0, none⟩ (.int .i64 t244)).setCell ⟨gb248, 1, none⟩ (.slice Ao106 t245.length co106))) := ⟨bl⟩
            (try clear HO218)
            (try clear HO222)
            (try clear HO226)
            (try clear HO231)
            (try clear HO239)
            (try clear HO243)
            (try clear HO247)
            (try clear BK227)
            (try clear BK232)
            (try clear BK248)
            (try clear HB)
            generalize ((w102.setCell ⟨gb248, 0, none⟩ (.int .i64 t244)).setCell ⟨gb248, 1, none⟩ (.slice Ao106 t245.length co106)) = w107 at n0_ n1_ n2_ n3_ n4_ n5_ n6_ n7_ n8_ n9_ n10_ ⊢
            have HO218 := n0_
            have HO222 := n1_
            have HO226 := n2_
            have HO231 := n3_
            have HO239 := n4_
            have HO243 := n5_
            have HO247 := n6_
            have BK227 := n7_
            have BK232 := n8_
            have BK248 := n9_
            have HB := n10_
            clear n0_ n1_ n2_ n3_ n4_ n5_ n6_ n7_ n8_ n9_ n10_
            have n0_ := Aside0.mk (Kd.R_drew HO218.out)
            have n1_ := Aside0.mk (Kd.R_drew HO222.out)
            have n2_ := Aside0.mk (Kd.R_drew HO226.out)
            have n3_ := Aside0.mk (Kd.R_drew HO231.out)
            have n4_ := Aside0.mk (Kd.R_drew HO239.out)
            have n5_ := Aside0.mk (Kd.R_drew HO243.out)
            have n6_ := Aside0.mk (Kd.R_drew HO247.out)
            have n7_ := Aside0.mk (blk_drew BK227.out)
            have n8_ := Aside0.mk (blk_drew BK232.out)
            have n9_ := Aside0.mk (blk_drew BK248.out)
            have n10_ := Aside0.mk (below_drew1 HB.out)
            clear HO218
            clear HO222
            clear HO226
            clear HO231
            clear HO239
            clear HO243
            clear HO247
            clear BK227
            clear BK232
            clear BK248
            clear HB
            have HO218 := n0_
            have HO222 := n1_
            have HO226 := n2_
            have HO231 := n3_
            have HO239 := n4_
            have HO243 := n5_
            have HO247 := n6_
            have BK227 := n7_
            have BK232 := n8_
            have BK248 := n9_
            have HB := n10_
            clear n0_ n1_ n2_ n3_ n4_ n5_ n6_ n7_ n8_ n9_ n10_
            refine start_ (n := 6) (S := fun w' => w'.cell? ⟨gb248, 0, none⟩ = some (.int .i64 t244) ∧ w'.cell? ⟨gb248, 1, none⟩ = some (.slice Ao106 t245.length co106)) (ds := []) #[false, false, false, false, false, false] (by kernel_rfl) rfl rfl ⟨(blk_cell BK248.out 0).trans rfl, (blk_cell BK248.out 1).trans rfl⟩ (fun hHeld => ?_)
            generalize w107.drew = w108 at HO218 HO222 HO226 HO231 HO239 HO243 HO247 BK227 BK232 BK248 HB hHeld ⊢
            refine pure_ (i := 1) (N := some 44) (v := ?_) (a' := ?_) #[false, true, false, false, false, false] rfl rfl (by kernel_rfl) (fun _ _ _ h => h) (Or.inl ⟨by rfl, ?_⟩) ?_ ?_
            rotate_left
            · intro w'
              go_simp
              with_reducible rfl
            rotate_left
            · simp only [Act.put, List.setIfInBounds_toArray, List.set_cons_zero, List.set_cons_succ, i64_w, i32_w]
              rfl
            refine take_ (i := 0) (N := some 43) (v := ?_) (a' := ?_) #[true, true, false, false, false, false] rfl rfl (by kernel_rfl) (fun _ _ _ h => h) (Or.inl ⟨by rfl, ?_⟩) hHeld ?_ ?_
            rotate_left
            · rintro w' ⟨s0, s1⟩
              go_simp
              with_reducible rfl
            rotate_left
            · simp only [Act.put, List.setIfInBounds_toArray, List.set_cons_zero, List.set_cons_succ, i64_w, i32_w]
              rfl
            refine join_ (σ := Value × Value × Nat) 1 #[true, true, true, true, true, false] (fun s_ => [(45, .agg #[.int .i64 t249, s_.1]), (46, .agg #[.int .i64 t253, s_.2.1]), (11, .pointer (some ⟨s_.2.2, 0, none⟩))]) (fun s_ w' => (w'.cell? ⟨gb248, 0, none⟩ = some (.int .i64 t244) ∧ w'.cell? ⟨gb248, 1, none⟩ = some (.slice Ao106 t245.length co106)) ∧ (Kd.R (Kd.int .u64) 27 w' w.heap.size (fun k_ => some k_ ≠ (.slice Ao85 t220.length co85 : Value).ownBlock ∧ some k_ ≠ (.slice Ao89 t224.length co89 : Value).ownBlock ∧ some k_ ≠ (.slice Ao94 t229.length co94 : Value).ownBlock ∧ some k_ ≠ (.slice Ao99 t237.length co99 : Value).ownBlock ∧ some k_ ≠ (.slice Ao100 t241.length co100 : Value).ownBlock ∧ some k_ ≠ (.slice Ao106 t245.length co106 : Value).ownBlock ∧ some k_ ≠ (s_.1 : Value).ownBlock ∧ some k_ ≠ (s_.2.1 : Value).ownBlock) (.slice Ao84 t216.length co84) t216) ∧ (Kd.R (Kd.int .u64) 27 w' w.heap.size (fun k_ => some k_ ≠ (.slice Ao84 t216.length co84 : Value).ownBlock ∧ some k_ ≠ (.slice Ao89 t224.length co89 : Value).ownBlock ∧ some k_ ≠ (.slice Ao94 t229.length co94 : Value).ownBlock ∧ some k_ ≠ (.slice Ao99 t237.length co99 : Value).ownBlock ∧ some k_ ≠ (.slice Ao100 t241.length co100 : Value).ownBlock ∧ some k_ ≠ (.slice Ao106 t245.length co106 : Value).ownBlock ∧ some k_ ≠ (s_.1 : Value).ownBlock ∧ some k_ ≠ (s_.2.1 : Value).ownBlock) (.slice Ao85 t220.length co85) t220) ∧ (Kd.R (Kd.int .u64) 27 w' w.heap.size (fun k_ => some k_ ≠ (.slice Ao84 t216.length co84 : Value).ownBlock ∧ some k_ ≠ (.slice Ao85 t220.length co85 : Value).ownBlock ∧ some k_ ≠ (.slice Ao94 t229.length co94 : Value).ownBlock ∧ some k_ ≠ (.slice Ao99 t237.length co99 : Value).ownBlock ∧ some k_ ≠ (.slice Ao100 t241.length co100 : Value).ownBlock ∧ some k_ ≠ (.slice Ao106 t245.length co106 : Value).ownBlock ∧ some k_ ≠ (s_.1 : Value).ownBlock ∧ some k_ ≠ (s_.2.1 : Value).ownBlock) (.slice Ao89 t224.length co89) t224) ∧ (Kd.R (Kd.int .u64) 27 w' w.heap.size (fun k_ => some k_ ≠ (.slice Ao84 t216.length co84 : Value).ownBlock ∧ some k_ ≠ (.slice Ao85 t220.length co85 : Value).ownBlock ∧ some k_ ≠ (.slice Ao89 t224.length co89 : Value).ownBlock ∧ some k_ ≠ (.slice Ao99 t237.length co99 : Value).ownBlock ∧ some k_ ≠ (.slice Ao100 t241.length co100 : Value).ownBlock ∧ some k_ ≠ (.slice Ao106 t245.length co106 : Value).ownBlock ∧ some k_ ≠ (s_.1 : Value).ownBlock ∧ some k_ ≠ (s_.2.1 : Value).ownBlock) (.slice Ao94 t229.length co94) t229) ∧ (Kd.R (Kd.int .u64) 27 w' w.heap.size (fun k_ => some k_ ≠ (.slice Ao84 t216.length co84 : Value).ownBlock ∧ some k_ ≠ (.slice Ao85 t220.length co85 : Value).ownBlock ∧ some k_ ≠ (.slice Ao89 t224.length co89 : Value).ownBlock ∧ some k_ ≠ (.slice Ao94 t229.length co94 : Value).ownBlock ∧ some k_ ≠ (.slice Ao100 t241.length co100 : Value).ownBlock ∧ some k_ ≠ (.slice Ao106 t245.length co106 : Value).ownBlock ∧ some k_ ≠ (s_.1 : Value).ownBlock ∧ some k_ ≠ (s_.2.1 : Value).ownBlock) (.slice Ao99 t237.length co99) t237) ∧ (Kd.R (Kd.int .u64) 27 w' w.heap.size (fun k_ => some k_ ≠ (.slice Ao84 t216.length co84 : Value).ownBlock ∧ some k_ ≠ (.slice Ao85 t220.length co85 : Value).ownBlock ∧ some k_ ≠ (.slice Ao89 t224.length co89 : Value).ownBlock ∧ some k_ ≠ (.slice Ao94 t229.length co94 : Value).ownBlock ∧ some k_ ≠ (.slice Ao99 t237.length co99 : Value).ownBlock ∧ some k_ ≠ (.slice Ao106 t245.length co106 : Value).ownBlock ∧ some k_ ≠ (s_.1 : Value).ownBlock ∧ some k_ ≠ (s_.2.1 : Value).ownBlock) (.slice Ao100 t241.length co100) t241) ∧ (Kd.R (Kd.int .u64) 27 w' w.heap.size (fun k_ => some k_ ≠ (.slice Ao84 t216.length co84 : Value).ownBlock ∧ some k_ ≠ (.slice Ao85 t220.length co85 : Value).ownBlock ∧ some k_ ≠ (.slice Ao89 t224.length co89 : Value).ownBlock ∧ some k_ ≠ (.slice Ao94 t229.length co94 : Value).ownBlock ∧ some k_ ≠ (.slice Ao99 t237.length co99 : Value).ownBlock ∧ some k_ ≠ (.slice Ao100 t241.length co100 : Value).ownBlock ∧ some k_ ≠ (s_.1 : Value).ownBlock ∧ some k_ ≠ (s_.2.1 : Value).ownBlock) (.slice Ao106 t245.length co106) t245) ∧ (Kd.R (Kd.int .u64) 27 w' w.heap.size (fun k_ => some k_ ≠ (.slice Ao84 t216.length co84 : Value).ownBlock ∧ some k_ ≠ (.slice Ao85 t220.length co85 : Value).ownBlock ∧ some k_ ≠ (.slice Ao89 t224.length co89 : Value).ownBlock ∧ some k_ ≠ (.slice Ao94 t229.length co94 : Value).ownBlock ∧ some k_ ≠ (.slice Ao99 t237.length co99 : Value).ownBlock ∧ some k_ ≠ (.slice Ao100 t241.length co100 : Value).ownBlock ∧ some k_ ≠ (.slice Ao106 t245.length co106 : Value).ownBlock ∧ some k_ ≠ (s_.2.1 : Value).ownBlock) s_.1 t250) ∧ (Kd.R (Kd.int .u64) 27 w' w.heap.size (fun k_ => some k_ ≠ (.slice Ao84 t216.length co84 : Value).ownBlock ∧ some k_ ≠ (.slice Ao85 t220.length co85 : Value).ownBlock ∧ some k_ ≠ (.slice Ao89 t224.length co89 : Value).ownBlock ∧ some k_ ≠ (.slice Ao94 t229.length co94 : Value).ownBlock ∧ some k_ ≠ (.slice Ao99 t237.length co99 : Value).ownBlock ∧ some k_ ≠ (.slice Ao100 t241.length co100 : Value).ownBlock ∧ some k_ ≠ (.slice Ao106 t245.length co106 : Value).ownBlock ∧ some k_ ≠ (s_.1 : Value).ownBlock) s_.2.1 t254) ∧ (w'.heap[gb227]? = some (.cells #[.int .i64 t223, .slice Ao89 t224.length co89] 31 (0, 0))) ∧ (w'.heap[gb232]? = some (.cells #[.int .i64 t228, .slice Ao94 t229.length co94] 31 (0, 0))) ∧ (w'.heap[gb248]? = some (.cells #[.int .i64 t244, .slice Ao106 t245.length co106] 31 (0, 0))) ∧ (w'.heap[s_.2.2]? = some (.cells #[.int .i64 0, .slice none 0 0] 31 (0, 0))) ∧ (w.heap.size ≤ s_.2.2) ∧ (w.heap.size ≤ s_.2.2) ∧ (gb227 ≠ s_.2.2) ∧ (s_.2.2 ≠ gb227) ∧ (gb232 ≠ s_.2.2) ∧ (s_.2.2 ≠ gb232) ∧ (gb248 ≠ s_.2.2) ∧ (s_.2.2 ≠ gb248) ∧ (Below w.heap.size w w')) ?_ ?_
            rotate_left
            · intro hCont
              refine two_ (i := 2) (j := 4) (Ni := some 45) (Nj := some 11) #[true, true, true, false, false, false] #[true, true, false, false, true, false] rfl rfl rfl rfl (by kernel_rfl) (by decide) (by decide) (fun K hK => ?_) (fun K hK => ?_)
              · skip
                refine goes_ Try.func13 (by kernel_rfl) rfl #[.int .u64 a2] (by rfl) rfl rfl am ?_
                with_reducible refine (rowlockref03_Whole.calls k a2 t249 t250 _ A33.out).mono ?_
                rintro e w109 ⟨v251, rfl, ho0, hb⟩
                refine ⟨_, rfl, ?_⟩
                have n0_ := Aside0.mk (Kd.R_elder' (rk HO218) (Kd.R_base ho0) hb)
                have n1_ := Aside0.mk (Kd.R_elder' (rk HO222) (Kd.R_base ho0) hb)
                have n2_ := Aside0.mk (Kd.R_elder' (rk HO226) (Kd.R_base ho0) hb)
                have n3_ := Aside0.mk (Kd.R_elder' (rk HO231) (Kd.R_base ho0) hb)
                have n4_ := Aside0.mk (Kd.R_elder' (rk HO239) (Kd.R_base ho0) hb)
                have n5_ := Aside0.mk (Kd.R_elder' (rk HO243) (Kd.R_base ho0) hb)
                have n6_ := Aside0.mk (Kd.R_elder' (rk HO247) (Kd.R_base ho0) hb)
                have n7_ := Aside0.mk (Kd.R_lower (Kd.R_new' (Kd.R_new' (Kd.R_new' (Kd.R_new' (Kd.R_new' (Kd.R_new' (Kd.R_new' ho0 (Kd.R_lt (rk HO218))) (Kd.R_lt (rk HO222))) (Kd.R_lt (rk HO226))) (Kd.R_lt (rk HO231))) (Kd.R_lt (rk HO239))) (Kd.R_lt (rk HO243))) (Kd.R_lt (rk HO247))) (below_size bl))
                have n8_ := Aside0.mk (bb (g := gb227) hb)
                have n9_ := Aside0.mk (bb (g := gb232) hb)
                have n10_ := Aside0.mk (bb (g := gb248) hb)
                have n11_ := Aside0.mk (below_step bl hb)
                clear HO218
                clear HO222
                clear HO226
                clear HO231
                clear HO239
                clear HO243
                clear HO247
                clear BK227
                clear BK232
                clear BK248
                clear HB
                have HO218 := n0_
                have HO222 := n1_
                have HO226 := n2_
                have HO231 := n3_
                have HO239 := n4_
                have HO243 := n5_
                have HO247 := n6_
                have HO252 := n7_
                have BK227 := n8_
                have BK232 := n9_
                have BK248 := n10_
                have HB := n11_
                clear n0_ n1_ n2_ n3_ n4_ n5_ n6_ n7_ n8_ n9_ n10_ n11_
                (try clear hb)
                (try clear hb2)
                (try clear hk)
                (try clear hi)
                (try clear ho0)
                obtain ⟨Ao110, co110, eo110⟩ := Kd.R_slice HO252.out
                (first | subst eo110 | (injection eo110 with f1_ f2_ f3_; have f4_ := f1_.symm; have f5_ := f3_.symm; clear f1_ f2_ f3_; subst f4_; subst f5_))
                refine hK.out _ _ ⟨(blk_cell BK248.out 0).trans rfl, (blk_cell BK248.out 1).trans rfl⟩ (fun hHeld => ?_)
                clear hK K
                refine norm_ (a' := ?_) ?_ ?_
                rotate_left
                · show Act.put _ (some 45) _ = _
                  simp only [Act.put, List.setIfInBounds_toArray, List.set_cons_zero, List.set_cons_succ, i64_w, i32_w]
                  rfl
                refine two_ (i := 3) (j := 4) (Ni := some 46) (Nj := some 11) #[true, true, true, true, false, false] #[true, true, true, false, true, false] rfl rfl rfl rfl (by kernel_rfl) (by decide) (by decide) (fun K hK => ?_) (fun K hK => ?_)
                · skip
                  refine goes_ Try.func15 (by kernel_rfl) rfl #[.agg #[.int .i64 t244, .slice Ao106 t245.length co106], .agg #[.int .i64 t249, .slice Ao110 t250.length co110]] (by rfl) rfl rfl am ?_
                  with_reducible refine (rowlockref03_Plus.calls k t244 _ _ t245 t249 _ _ t250 t253 t254 _ ?side1 ?side2 ?side3 ?side4 A34.out).mono ?_
                  (case side1 => repeat (first | exact (Kd.R_reads' HO247.out).2.2 | (with_reducible refine Kd.C_alloc ?_ _) | (with_reducible refine Kd.C_drewN ?_ _) | (with_reducible refine Kd.C_drew ?_)))
                  (case side2 => exact (Kd.R_reads' HO247.out).2.1)
                  (case side3 => repeat (first | exact (Kd.R_reads' HO252.out).2.2 | (with_reducible refine Kd.C_alloc ?_ _) | (with_reducible refine Kd.C_drewN ?_ _) | (with_reducible refine Kd.C_drew ?_)))
                  (case side4 => exact (Kd.R_reads' HO252.out).2.1)
                  rintro e w111 ⟨v255, rfl, ho0, hb⟩
                  refine ⟨_, rfl, ?_⟩
                  have n0_ := Aside0.mk (Kd.R_elder' (rk HO218) (Kd.R_base ho0) hb)
                  have n1_ := Aside0.mk (Kd.R_elder' (rk HO222) (Kd.R_base ho0) hb)
                  have n2_ := Aside0.mk (Kd.R_elder' (rk HO226) (Kd.R_base ho0) hb)
                  have n3_ := Aside0.mk (Kd.R_elder' (rk HO231) (Kd.R_base ho0) hb)
                  have n4_ := Aside0.mk (Kd.R_elder' (rk HO239) (Kd.R_base ho0) hb)
                  have n5_ := Aside0.mk (Kd.R_elder' (rk HO243) (Kd.R_base ho0) hb)
                  have n6_ := Aside0.mk (Kd.R_elder' (rk HO247) (Kd.R_base ho0) hb)
                  have n7_ := Aside0.mk (Kd.R_elder' (rk HO252) (Kd.R_base ho0) hb)
                  have n8_ := Aside0.mk (Kd.R_lower (Kd.R_new' (Kd.R_new' (Kd.R_new' (Kd.R_new' (Kd.R_new' (Kd.R_new' (Kd.R_new' (Kd.R_new' ho0 (Kd.R_lt (rk HO218))) (Kd.R_lt (rk HO222))) (Kd.R_lt (rk HO226))) (Kd.R_lt (rk HO231))) (Kd.R_lt (rk HO239))) (Kd.R_lt (rk HO243))) (Kd.R_lt (rk HO247))) (Kd.R_lt (rk HO252))) (below_size bl))
                  have n9_ := Aside0.mk (bb (g := gb227) hb)
                  have n10_ := Aside0.mk (bb (g := gb232) hb)
                  have n11_ := Aside0.mk (bb (g := gb248) hb)
                  have n12_ := Aside0.mk (below_step bl hb)
                  clear HO218
                  clear HO222
                  clear HO226
                  clear HO231
                  clear HO239
                  clear HO243
                  clear HO247
                  clear HO252
                  clear BK227
                  clear BK232
                  clear BK248
                  clear HB
                  have HO218 := n0_
                  have HO222 := n1_
                  have HO226 := n2_
                  have HO231 := n3_
                  have HO239 := n4_
                  have HO243 := n5_
                  have HO247 := n6_
                  have HO252 := n7_
                  have HO256 := n8_
                  have BK227 := n9_
                  have BK232 := n10_
                  have BK248 := n11_
                  have HB := n12_
                  clear n0_ n1_ n2_ n3_ n4_ n5_ n6_ n7_ n8_ n9_ n10_ n11_ n12_
                  (try clear hb)
                  (try clear hb2)
                  (try clear hk)
                  (try clear hi)
                  (try clear ho0)
                  refine hK.out _ _ ⟨(blk_cell BK248.out 0).trans rfl, (blk_cell BK248.out 1).trans rfl⟩ (fun hHeld => ?_)
                  clear hK K
                  refine norm_ (a' := ?_) ?_ ?_
                  rotate_left
                  · show Act.put _ (some 46) _ = _
                    simp only [Act.put, List.setIfInBounds_toArray, List.set_cons_zero, List.set_cons_succ, i64_w, i32_w]
                    rfl
                  refine one_ (i := 4) (N := some 11) #[true, true, true, true, true, false] rfl rfl (by kernel_rfl) (by decide) (fun K hK => ?_)
                  refine box_step ?hg (N := 11) ?hd (cs := #[.int .i64 0, .slice none 0 0]) (t := 31) ?hr ?_; (case hd => rfl); (case hg => rfl); (case hr => first | (go_simp; done) | (go_simp; rfl))
                  intro gb257 hg w112 hbox hb
                  have n0_ := Aside0.mk (Kd.R_below (rk HO218) hb)
                  have n1_ := Aside0.mk (Kd.R_below (rk HO222) hb)
                  have n2_ := Aside0.mk (Kd.R_below (rk HO226) hb)
                  have n3_ := Aside0.mk (Kd.R_below (rk HO231) hb)
                  have n4_ := Aside0.mk (Kd.R_below (rk HO239) hb)
                  have n5_ := Aside0.mk (Kd.R_below (rk HO243) hb)
                  have n6_ := Aside0.mk (Kd.R_below (rk HO247) hb)
                  have n7_ := Aside0.mk (Kd.R_below (rk HO252) hb)
                  have n8_ := Aside0.mk (Kd.R_below (rk HO256) hb)
                  have n9_ := Aside0.mk (bb (g := gb227) hb)
                  have n10_ := Aside0.mk (bb (g := gb232) hb)
                  have n11_ := Aside0.mk (bb (g := gb248) hb)
                  have n12_ := Aside0.mk (below_step bl hb)
                  have n13_ := Aside0.mk (hbox)
                  have n14_ := Aside0.mk ((sz hg : w.heap.size ≤ gb257))
                  have n15_ := Aside0.mk ((sz hg : w.heap.size ≤ gb257))
                  have n16_ := Aside0.mk ((nl hg : gb227 ≠ gb257))
                  have n17_ := Aside0.mk ((ng hg : gb257 ≠ gb227))
                  have n18_ := Aside0.mk ((nl hg : gb232 ≠ gb257))
                  have n19_ := Aside0.mk ((ng hg : gb257 ≠ gb232))
                  have n20_ := Aside0.mk ((nl hg : gb248 ≠ gb257))
                  have n21_ := Aside0.mk ((ng hg : gb257 ≠ gb248))
                  clear HO218
                  clear HO222
                  clear HO226
                  clear HO231
                  clear HO239
                  clear HO243
                  clear HO247
                  clear HO252
                  clear HO256
                  clear BK227
                  clear BK232
                  clear BK248
                  clear HB
                  have HO218 := n0_
                  have HO222 := n1_
                  have HO226 := n2_
                  have HO231 := n3_
                  have HO239 := n4_
                  have HO243 := n5_
                  have HO247 := n6_
                  have HO252 := n7_
                  have HO256 := n8_
                  have BK227 := n9_
                  have BK232 := n10_
                  have BK248 := n11_
                  have HB := n12_
                  have BK257 := n13_
                  have GW257 := n14_
                  have GE257 := n15_
                  have NB227_257 := n16_
                  have NB257_227 := n17_
                  have NB232_257 := n18_
                  have NB257_232 := n19_
                  have NB248_257 := n20_
                  have NB257_248 := n21_
                  clear n0_ n1_ n2_ n3_ n4_ n5_ n6_ n7_ n8_ n9_ n10_ n11_ n12_ n13_ n14_ n15_ n16_ n17_ n18_ n19_ n20_ n21_
                  clear hb hbox hg
                  refine hK.out _ _ ⟨(blk_cell BK248.out 0).trans rfl, (blk_cell BK248.out 1).trans rfl⟩ (fun hHeld => ?_)
                  clear hK K
                  refine norm_ (a' := ?_) ?_ ?_
                  rotate_left
                  · show Act.put _ (some 11) _ = _
                    simp only [Act.put, List.setIfInBounds_toArray, List.set_cons_zero, List.set_cons_succ, i64_w, i32_w]
                    rfl
                  exact norm_ (by simp only [putAll, Act.put, List.setIfInBounds_toArray, List.set_cons_zero, List.set_cons_succ]) (hCont (.slice Ao110 t250.length co110, v255, gb257) _ ⟨hHeld, (by (with_reducible repeat (first | apply Kd.R_alloc | apply Kd.R_drewN | apply Kd.R_drew)); exact Kd.R_mono HO218.out (fun _ hk => ⟨hk.1.1.1, ⟨hk.1.1.2.1, ⟨hk.1.1.2.2.1, ⟨hk.1.1.2.2.2.1, ⟨hk.1.1.2.2.2.2.1, ⟨hk.1.1.2.2.2.2.2, ⟨hk.1.2, hk.2⟩⟩⟩⟩⟩⟩⟩)), (by (with_reducible repeat (first | apply Kd.R_alloc | apply Kd.R_drewN | apply Kd.R_drew)); exact Kd.R_mono HO222.out (fun _ hk => ⟨hk.1.1.1, ⟨hk.1.1.2.1, ⟨hk.1.1.2.2.1, ⟨hk.1.1.2.2.2.1, ⟨hk.1.1.2.2.2.2.1, ⟨hk.1.1.2.2.2.2.2, ⟨hk.1.2, hk.2⟩⟩⟩⟩⟩⟩⟩)), (by (with_reducible repeat (first | apply Kd.R_alloc | apply Kd.R_drewN | apply Kd.R_drew)); exact Kd.R_mono HO226.out (fun _ hk => ⟨hk.1.1.1, ⟨hk.1.1.2.1, ⟨hk.1.1.2.2.1, ⟨hk.1.1.2.2.2.1, ⟨hk.1.1.2.2.2.2.1, ⟨hk.1.1.2.2.2.2.2, ⟨hk.1.2, hk.2⟩⟩⟩⟩⟩⟩⟩)), (by (with_reducible repeat (first | apply Kd.R_alloc | apply Kd.R_drewN | apply Kd.R_drew)); exact Kd.R_mono HO231.out (fun _ hk => ⟨hk.1.1.1, ⟨hk.1.1.2.1, ⟨hk.1.1.2.2.1, ⟨hk.1.1.2.2.2.1, ⟨hk.1.1.2.2.2.2.1, ⟨hk.1.1.2.2.2.2.2, ⟨hk.1.2, hk.2⟩⟩⟩⟩⟩⟩⟩)), (by (with_reducible repeat (first | apply Kd.R_alloc | apply Kd.R_drewN | apply Kd.R_drew)); exact Kd.R_mono HO239.out (fun _ hk => ⟨hk.1.1.1, ⟨hk.1.1.2.1, ⟨hk.1.1.2.2.1, ⟨hk.1.1.2.2.2.1, ⟨hk.1.1.2.2.2.2.1, ⟨hk.1.1.2.2.2.2.2, ⟨hk.1.2, hk.2⟩⟩⟩⟩⟩⟩⟩)), (by (with_reducible repeat (first | apply Kd.R_alloc | apply Kd.R_drewN | apply Kd.R_drew)); exact Kd.R_mono HO243.out (fun _ hk => ⟨hk.1.1.1, ⟨hk.1.1.2.1, ⟨hk.1.1.2.2.1, ⟨hk.1.1.2.2.2.1, ⟨hk.1.1.2.2.2.2.1, ⟨hk.1.1.2.2.2.2.2, ⟨hk.1.2, hk.2⟩⟩⟩⟩⟩⟩⟩)), (by (with_reducible repeat (first | apply Kd.R_alloc | apply Kd.R_drewN | apply Kd.R_drew)); exact Kd.R_mono HO247.out (fun _ hk => ⟨hk.1.1.1, ⟨hk.1.1.2.1, ⟨hk.1.1.2.2.1, ⟨hk.1.1.2.2.2.1, ⟨hk.1.1.2.2.2.2.1, ⟨hk.1.1.2.2.2.2.2, ⟨hk.1.2, hk.2⟩⟩⟩⟩⟩⟩⟩)), (by (with_reducible repeat (first | apply Kd.R_alloc | apply Kd.R_drewN | apply Kd.R_drew)); exact Kd.R_mono HO252.out (fun _ hk => ⟨hk.1.1.1.1.1.1.1.2, ⟨hk.1.1.1.1.1.1.2, ⟨hk.1.1.1.1.1.2, ⟨hk.1.1.1.1.2, ⟨hk.1.1.1.2, ⟨hk.1.1.2, ⟨hk.1.2, hk.2⟩⟩⟩⟩⟩⟩⟩)), (by (with_reducible repeat (first | apply Kd.R_alloc | apply Kd.R_drewN | apply Kd.R_drew)); exact Kd.R_mono HO256.out (fun _ hk => ⟨hk.1.1.1.1.1.1.1.2, ⟨hk.1.1.1.1.1.1.2, ⟨hk.1.1.1.1.1.2, ⟨hk.1.1.1.1.2, ⟨hk.1.1.1.2, ⟨hk.1.1.2, ⟨hk.1.2, hk.2⟩⟩⟩⟩⟩⟩⟩)), pk, pk, pk, pk, GW257.out, GE257.out, NB227_257.out, NB257_227.out, NB232_257.out, NB257_232.out, NB248_257.out, NB257_248.out, bl⟩)
                · skip
                  refine box_step ?hg (N := 11) ?hd (cs := #[.int .i64 0, .slice none 0 0]) (t := 31) ?hr ?_; (case hd => rfl); (case hg => rfl); (case hr => first | (go_simp; done) | (go_simp; rfl))
                  intro gb257 hg w110 hbox hb
                  have n0_ := Aside0.mk (Kd.R_below (rk HO218) hb)
                  have n1_ := Aside0.mk (Kd.R_below (rk HO222) hb)
                  have n2_ := Aside0.mk (Kd.R_below (rk HO226) hb)
                  have n3_ := Aside0.mk (Kd.R_below (rk HO231) hb)
                  have n4_ := Aside0.mk (Kd.R_below (rk HO239) hb)
                  have n5_ := Aside0.mk (Kd.R_below (rk HO243) hb)
                  have n6_ := Aside0.mk (Kd.R_below (rk HO247) hb)
                  have n7_ := Aside0.mk (Kd.R_below (rk HO252) hb)
                  have n8_ := Aside0.mk (bb (g := gb227) hb)
                  have n9_ := Aside0.mk (bb (g := gb232) hb)
                  have n10_ := Aside0.mk (bb (g := gb248) hb)
                  have n11_ := Aside0.mk (below_step bl hb)
                  have n12_ := Aside0.mk (hbox)
                  have n13_ := Aside0.mk ((sz hg : w.heap.size ≤ gb257))
                  have n14_ := Aside0.mk ((sz hg : w.heap.size ≤ gb257))
                  have n15_ := Aside0.mk ((nl hg : gb227 ≠ gb257))
                  have n16_ := Aside0.mk ((ng hg : gb257 ≠ gb227))
                  have n17_ := Aside0.mk ((nl hg : gb232 ≠ gb257))
                  have n18_ := Aside0.mk ((ng hg : gb257 ≠ gb232))
                  have n19_ := Aside0.mk ((nl hg : gb248 ≠ gb257))
                  have n20_ := Aside0.mk ((ng hg : gb257 ≠ gb248))
                  clear HO218
                  clear HO222
                  clear HO226
                  clear HO231
                  clear HO239
                  clear HO243
                  clear HO247
                  clear HO252
                  clear BK227
                  clear BK232
                  clear BK248
                  clear HB
                  have HO218 := n0_
                  have HO222 := n1_
                  have HO226 := n2_
                  have HO231 := n3_
                  have HO239 := n4_
                  have HO243 := n5_
                  have HO247 := n6_
                  have HO252 := n7_
                  have BK227 := n8_
                  have BK232 := n9_
                  have BK248 := n10_
                  have HB := n11_
                  have BK257 := n12_
                  have GW257 := n13_
                  have GE257 := n14_
                  have NB227_257 := n15_
                  have NB257_227 := n16_
                  have NB232_257 := n17_
                  have NB257_232 := n18_
                  have NB248_257 := n19_
                  have NB257_248 := n20_
                  clear n0_ n1_ n2_ n3_ n4_ n5_ n6_ n7_ n8_ n9_ n10_ n11_ n12_ n13_ n14_ n15_ n16_ n17_ n18_ n19_ n20_
                  clear hb hbox hg
                  obtain ⟨Ao111, co111, eo111⟩ := Kd.R_slice HO252.out
                  (first | subst eo111 | (injection eo111 with f1_ f2_ f3_; have f4_ := f1_.symm; have f5_ := f3_.symm; clear f1_ f2_ f3_; subst f4_; subst f5_))
                  refine hK.out _ _ ⟨(blk_cell BK248.out 0).trans rfl, (blk_cell BK248.out 1).trans rfl⟩ (fun hHeld => ?_)
                  clear hK K
                  refine norm_ (a' := ?_) ?_ ?_
                  rotate_left
                  · show Act.put _ (some 11) _ = _
                    simp only [Act.put, List.setIfInBounds_toArray, List.set_cons_zero, List.set_cons_succ, i64_w, i32_w]
                    rfl
                  refine one_ (i := 3) (N := some 46) #[true, true, true, true, true, false] rfl rfl (by kernel_rfl) (by decide) (fun K hK => ?_)
                  refine goes_ Try.func15 (by kernel_rfl) rfl #[.agg #[.int .i64 t244, .slice Ao106 t245.length co106], .agg #[.int .i64 t249, .slice Ao111 t250.length co111]] (by rfl) rfl rfl am ?_
                  with_reducible refine (rowlockref03_Plus.calls k t244 _ _ t245 t249 _ _ t250 t253 t254 _ ?side1 ?side2 ?side3 ?side4 A34.out).mono ?_
                  (case side1 => repeat (first | exact (Kd.R_reads' HO247.out).2.2 | (with_reducible refine Kd.C_alloc ?_ _) | (with_reducible refine Kd.C_drewN ?_ _) | (with_reducible refine Kd.C_drew ?_)))
                  (case side2 => exact (Kd.R_reads' HO247.out).2.1)
                  (case side3 => repeat (first | exact (Kd.R_reads' HO252.out).2.2 | (with_reducible refine Kd.C_alloc ?_ _) | (with_reducible refine Kd.C_drewN ?_ _) | (with_reducible refine Kd.C_drew ?_)))
                  (case side4 => exact (Kd.R_reads' HO252.out).2.1)
                  rintro e w112 ⟨v255, rfl, ho0, hb⟩
                  refine ⟨_, rfl, ?_⟩
                  have n0_ := Aside0.mk (Kd.R_elder' (rk HO218) (Kd.R_base ho0) hb)
                  have n1_ := Aside0.mk (Kd.R_elder' (rk HO222) (Kd.R_base ho0) hb)
                  have n2_ := Aside0.mk (Kd.R_elder' (rk HO226) (Kd.R_base ho0) hb)
                  have n3_ := Aside0.mk (Kd.R_elder' (rk HO231) (Kd.R_base ho0) hb)
                  have n4_ := Aside0.mk (Kd.R_elder' (rk HO239) (Kd.R_base ho0) hb)
                  have n5_ := Aside0.mk (Kd.R_elder' (rk HO243) (Kd.R_base ho0) hb)
                  have n6_ := Aside0.mk (Kd.R_elder' (rk HO247) (Kd.R_base ho0) hb)
                  have n7_ := Aside0.mk (Kd.R_elder' (rk HO252) (Kd.R_base ho0) hb)
                  have n8_ := Aside0.mk (Kd.R_lower (Kd.R_new' (Kd.R_new' (Kd.R_new' (Kd.R_new' (Kd.R_new' (Kd.R_new' (Kd.R_new' (Kd.R_new' ho0 (Kd.R_lt (rk HO218))) (Kd.R_lt (rk HO222))) (Kd.R_lt (rk HO226))) (Kd.R_lt (rk HO231))) (Kd.R_lt (rk HO239))) (Kd.R_lt (rk HO243))) (Kd.R_lt (rk HO247))) (Kd.R_lt (rk HO252))) (below_size bl))
                  have n9_ := Aside0.mk (bb (g := gb227) hb)
                  have n10_ := Aside0.mk (bb (g := gb232) hb)
                  have n11_ := Aside0.mk (bb (g := gb248) hb)
                  have n12_ := Aside0.mk (bb (g := gb257) hb)
                  have n13_ := Aside0.mk (below_step bl hb)
                  clear HO218
                  clear HO222
                  clear HO226
                  clear HO231
                  clear HO239
                  clear HO243
                  clear HO247
                  clear HO252
                  clear BK227
                  clear BK232
                  clear BK248
                  clear BK257
                  clear HB
                  have HO218 := n0_
                  have HO222 := n1_
                  have HO226 := n2_
                  have HO231 := n3_
                  have HO239 := n4_
                  have HO243 := n5_
                  have HO247 := n6_
                  have HO252 := n7_
                  have HO256 := n8_
                  have BK227 := n9_
                  have BK232 := n10_
                  have BK248 := n11_
                  have BK257 := n12_
                  have HB := n13_
                  clear n0_ n1_ n2_ n3_ n4_ n5_ n6_ n7_ n8_ n9_ n10_ n11_ n12_ n13_
                  (try clear hb)
                  (try clear hb2)
                  (try clear hk)
                  (try clear hi)
                  (try clear ho0)
                  refine hK.out _ _ ⟨(blk_cell BK248.out 0).trans rfl, (blk_cell BK248.out 1).trans rfl⟩ (fun hHeld => ?_)
                  clear hK K
                  refine norm_ (a' := ?_) ?_ ?_
                  rotate_left
                  · show Act.put _ (some 46) _ = _
                    simp only [Act.put, List.setIfInBounds_toArray, List.set_cons_zero, List.set_cons_succ, i64_w, i32_w]
                    rfl
                  exact norm_ (by simp only [putAll, Act.put, List.setIfInBounds_toArray, List.set_cons_zero, List.set_cons_succ]) (hCont (.slice Ao111 t250.length co111, v255, gb257) _ ⟨hHeld, (by (with_reducible repeat (first | apply Kd.R_alloc | apply Kd.R_drewN | apply Kd.R_drew)); exact Kd.R_mono HO218.out (fun _ hk => ⟨hk.1.1.1, ⟨hk.1.1.2.1, ⟨hk.1.1.2.2.1, ⟨hk.1.1.2.2.2.1, ⟨hk.1.1.2.2.2.2.1, ⟨hk.1.1.2.2.2.2.2, ⟨hk.1.2, hk.2⟩⟩⟩⟩⟩⟩⟩)), (by (with_reducible repeat (first | apply Kd.R_alloc | apply Kd.R_drewN | apply Kd.R_drew)); exact Kd.R_mono HO222.out (fun _ hk => ⟨hk.1.1.1, ⟨hk.1.1.2.1, ⟨hk.1.1.2.2.1, ⟨hk.1.1.2.2.2.1, ⟨hk.1.1.2.2.2.2.1, ⟨hk.1.1.2.2.2.2.2, ⟨hk.1.2, hk.2⟩⟩⟩⟩⟩⟩⟩)), (by (with_reducible repeat (first | apply Kd.R_alloc | apply Kd.R_drewN | apply Kd.R_drew)); exact Kd.R_mono HO226.out (fun _ hk => ⟨hk.1.1.1, ⟨hk.1.1.2.1, ⟨hk.1.1.2.2.1, ⟨hk.1.1.2.2.2.1, ⟨hk.1.1.2.2.2.2.1, ⟨hk.1.1.2.2.2.2.2, ⟨hk.1.2, hk.2⟩⟩⟩⟩⟩⟩⟩)), (by (with_reducible repeat (first | apply Kd.R_alloc | apply Kd.R_drewN | apply Kd.R_drew)); exact Kd.R_mono HO231.out (fun _ hk => ⟨hk.1.1.1, ⟨hk.1.1.2.1, ⟨hk.1.1.2.2.1, ⟨hk.1.1.2.2.2.1, ⟨hk.1.1.2.2.2.2.1, ⟨hk.1.1.2.2.2.2.2, ⟨hk.1.2, hk.2⟩⟩⟩⟩⟩⟩⟩)), (by (with_reducible repeat (first | apply Kd.R_alloc | apply Kd.R_drewN | apply Kd.R_drew)); exact Kd.R_mono HO239.out (fun _ hk => ⟨hk.1.1.1, ⟨hk.1.1.2.1, ⟨hk.1.1.2.2.1, ⟨hk.1.1.2.2.2.1, ⟨hk.1.1.2.2.2.2.1, ⟨hk.1.1.2.2.2.2.2, ⟨hk.1.2, hk.2⟩⟩⟩⟩⟩⟩⟩)), (by (with_reducible repeat (first | apply Kd.R_alloc | apply Kd.R_drewN | apply Kd.R_drew)); exact Kd.R_mono HO243.out (fun _ hk => ⟨hk.1.1.1, ⟨hk.1.1.2.1, ⟨hk.1.1.2.2.1, ⟨hk.1.1.2.2.2.1, ⟨hk.1.1.2.2.2.2.1, ⟨hk.1.1.2.2.2.2.2, ⟨hk.1.2, hk.2⟩⟩⟩⟩⟩⟩⟩)), (by (with_reducible repeat (first | apply Kd.R_alloc | apply Kd.R_drewN | apply Kd.R_drew)); exact Kd.R_mono HO247.out (fun _ hk => ⟨hk.1.1.1, ⟨hk.1.1.2.1, ⟨hk.1.1.2.2.1, ⟨hk.1.1.2.2.2.1, ⟨hk.1.1.2.2.2.2.1, ⟨hk.1.1.2.2.2.2.2, ⟨hk.1.2, hk.2⟩⟩⟩⟩⟩⟩⟩)), (by (with_reducible repeat (first | apply Kd.R_alloc | apply Kd.R_drewN | apply Kd.R_drew)); exact Kd.R_mono HO252.out (fun _ hk => ⟨hk.1.1.1.1.1.1.1.2, ⟨hk.1.1.1.1.1.1.2, ⟨hk.1.1.1.1.1.2, ⟨hk.1.1.1.1.2, ⟨hk.1.1.1.2, ⟨hk.1.1.2, ⟨hk.1.2, hk.2⟩⟩⟩⟩⟩⟩⟩)), (by (with_reducible repeat (first | apply Kd.R_alloc | apply Kd.R_drewN | apply Kd.R_drew)); exact Kd.R_mono HO256.out (fun _ hk => ⟨hk.1.1.1.1.1.1.1.2, ⟨hk.1.1.1.1.1.1.2, ⟨hk.1.1.1.1.1.2, ⟨hk.1.1.1.1.2, ⟨hk.1.1.1.2, ⟨hk.1.1.2, ⟨hk.1.2, hk.2⟩⟩⟩⟩⟩⟩⟩)), pk, pk, pk, pk, GW257.out, GE257.out, NB227_257.out, NB257_227.out, NB232_257.out, NB257_232.out, NB248_257.out, NB257_248.out, bl⟩)
              · skip
                refine box_step ?hg (N := 11) ?hd (cs := #[.int .i64 0, .slice none 0 0]) (t := 31) ?hr ?_; (case hd => rfl); (case hg => rfl); (case hr => first | (go_simp; done) | (go_simp; rfl))
                intro gb257 hg w109 hbox hb
                have n0_ := Aside0.mk (Kd.R_below (rk HO218) hb)
                have n1_ := Aside0.mk (Kd.R_below (rk HO222) hb)
                have n2_ := Aside0.mk (Kd.R_below (rk HO226) hb)
                have n3_ := Aside0.mk (Kd.R_below (rk HO231) hb)
                have n4_ := Aside0.mk (Kd.R_below (rk HO239) hb)
                have n5_ := Aside0.mk (Kd.R_below (rk HO243) hb)
                have n6_ := Aside0.mk (Kd.R_below (rk HO247) hb)
                have n7_ := Aside0.mk (bb (g := gb227) hb)
                have n8_ := Aside0.mk (bb (g := gb232) hb)
                have n9_ := Aside0.mk (bb (g := gb248) hb)
                have n10_ := Aside0.mk (below_step bl hb)
                have n11_ := Aside0.mk (hbox)
                have n12_ := Aside0.mk ((sz hg : w.heap.size ≤ gb257))
                have n13_ := Aside0.mk ((sz hg : w.heap.size ≤ gb257))
                have n14_ := Aside0.mk ((nl hg : gb227 ≠ gb257))
                have n15_ := Aside0.mk ((ng hg : gb257 ≠ gb227))
                have n16_ := Aside0.mk ((nl hg : gb232 ≠ gb257))
                have n17_ := Aside0.mk ((ng hg : gb257 ≠ gb232))
                have n18_ := Aside0.mk ((nl hg : gb248 ≠ gb257))
                have n19_ := Aside0.mk ((ng hg : gb257 ≠ gb248))
                clear HO218
                clear HO222
                clear HO226
                clear HO231
                clear HO239
                clear HO243
                clear HO247
                clear BK227
                clear BK232
                clear BK248
                clear HB
                have HO218 := n0_
                have HO222 := n1_
                have HO226 := n2_
                have HO231 := n3_
                have HO239 := n4_
                have HO243 := n5_
                have HO247 := n6_
                have BK227 := n7_
                have BK232 := n8_
                have BK248 := n9_
                have HB := n10_
                have BK257 := n11_
                have GW257 := n12_
                have GE257 := n13_
                have NB227_257 := n14_
                have NB257_227 := n15_
                have NB232_257 := n16_
                have NB257_232 := n17_
                have NB248_257 := n18_
                have NB257_248 := n19_
                clear n0_ n1_ n2_ n3_ n4_ n5_ n6_ n7_ n8_ n9_ n10_ n11_ n12_ n13_ n14_ n15_ n16_ n17_ n18_ n19_
                clear hb hbox hg
                refine hK.out _ _ ⟨(blk_cell BK248.out 0).trans rfl, (blk_cell BK248.out 1).trans rfl⟩ (fun hHeld => ?_)
                clear hK K
                refine norm_ (a' := ?_) ?_ ?_
                rotate_left
                · show Act.put _ (some 11) _ = _
                  simp only [Act.put, List.setIfInBounds_toArray, List.set_cons_zero, List.set_cons_succ, i64_w, i32_w]
                  rfl
                refine one_ (i := 2) (N := some 45) #[true, true, true, false, true, false] rfl rfl (by kernel_rfl) (by decide) (fun K hK => ?_)
                refine goes_ Try.func13 (by kernel_rfl) rfl #[.int .u64 a2] (by rfl) rfl rfl am ?_
                with_reducible refine (rowlockref03_Whole.calls k a2 t249 t250 _ A33.out).mono ?_
                rintro e w110 ⟨v251, rfl, ho0, hb⟩
                refine ⟨_, rfl, ?_⟩
                have n0_ := Aside0.mk (Kd.R_elder' (rk HO218) (Kd.R_base ho0) hb)
                have n1_ := Aside0.mk (Kd.R_elder' (rk HO222) (Kd.R_base ho0) hb)
                have n2_ := Aside0.mk (Kd.R_elder' (rk HO226) (Kd.R_base ho0) hb)
                have n3_ := Aside0.mk (Kd.R_elder' (rk HO231) (Kd.R_base ho0) hb)
                have n4_ := Aside0.mk (Kd.R_elder' (rk HO239) (Kd.R_base ho0) hb)
                have n5_ := Aside0.mk (Kd.R_elder' (rk HO243) (Kd.R_base ho0) hb)
                have n6_ := Aside0.mk (Kd.R_elder' (rk HO247) (Kd.R_base ho0) hb)
                have n7_ := Aside0.mk (Kd.R_lower (Kd.R_new' (Kd.R_new' (Kd.R_new' (Kd.R_new' (Kd.R_new' (Kd.R_new' (Kd.R_new' ho0 (Kd.R_lt (rk HO218))) (Kd.R_lt (rk HO222))) (Kd.R_lt (rk HO226))) (Kd.R_lt (rk HO231))) (Kd.R_lt (rk HO239))) (Kd.R_lt (rk HO243))) (Kd.R_lt (rk HO247))) (below_size bl))
                have n8_ := Aside0.mk (bb (g := gb227) hb)
                have n9_ := Aside0.mk (bb (g := gb232) hb)
                have n10_ := Aside0.mk (bb (g := gb248) hb)
                have n11_ := Aside0.mk (bb (g := gb257) hb)
                have n12_ := Aside0.mk (below_step bl hb)
                clear HO218
                clear HO222
                clear HO226
                clear HO231
                clear HO239
                clear HO243
                clear HO247
                clear BK227
                clear BK232
                clear BK248
                clear BK257
                clear HB
                have HO218 := n0_
                have HO222 := n1_
                have HO226 := n2_
                have HO231 := n3_
                have HO239 := n4_
                have HO243 := n5_
                have HO247 := n6_
                have HO252 := n7_
                have BK227 := n8_
                have BK232 := n9_
                have BK248 := n10_
                have BK257 := n11_
                have HB := n12_
                clear n0_ n1_ n2_ n3_ n4_ n5_ n6_ n7_ n8_ n9_ n10_ n11_ n12_
                (try clear hb)
                (try clear hb2)
                (try clear hk)
                (try clear hi)
                (try clear ho0)
                obtain ⟨Ao111, co111, eo111⟩ := Kd.R_slice HO252.out
                (first | subst eo111 | (injection eo111 with f1_ f2_ f3_; have f4_ := f1_.symm; have f5_ := f3_.symm; clear f1_ f2_ f3_; subst f4_; subst f5_))
                refine hK.out _ _ ⟨(blk_cell BK248.out 0).trans rfl, (blk_cell BK248.out 1).trans rfl⟩ (fun hHeld => ?_)
                clear hK K
                refine norm_ (a' := ?_) ?_ ?_
                rotate_left
                · show Act.put _ (some 45) _ = _
                  simp only [Act.put, List.setIfInBounds_toArray, List.set_cons_zero, List.set_cons_succ, i64_w, i32_w]
                  rfl
                refine one_ (i := 3) (N := some 46) #[true, true, true, true, true, false] rfl rfl (by kernel_rfl) (by decide) (fun K hK => ?_)
                refine goes_ Try.func15 (by kernel_rfl) rfl #[.agg #[.int .i64 t244, .slice Ao106 t245.length co106], .agg #[.int .i64 t249, .slice Ao111 t250.length co111]] (by rfl) rfl rfl am ?_
                with_reducible refine (rowlockref03_Plus.calls k t244 _ _ t245 t249 _ _ t250 t253 t254 _ ?side1 ?side2 ?side3 ?side4 A34.out).mono ?_
                (case side1 => repeat (first | exact (Kd.R_reads' HO247.out).2.2 | (with_reducible refine Kd.C_alloc ?_ _) | (with_reducible refine Kd.C_drewN ?_ _) | (with_reducible refine Kd.C_drew ?_)))
                (case side2 => exact (Kd.R_reads' HO247.out).2.1)
                (case side3 => repeat (first | exact (Kd.R_reads' HO252.out).2.2 | (with_reducible refine Kd.C_alloc ?_ _) | (with_reducible refine Kd.C_drewN ?_ _) | (with_reducible refine Kd.C_drew ?_)))
                (case side4 => exact (Kd.R_reads' HO252.out).2.1)
                rintro e w112 ⟨v255, rfl, ho0, hb⟩
                refine ⟨_, rfl, ?_⟩
                have n0_ := Aside0.mk (Kd.R_elder' (rk HO218) (Kd.R_base ho0) hb)
                have n1_ := Aside0.mk (Kd.R_elder' (rk HO222) (Kd.R_base ho0) hb)
                have n2_ := Aside0.mk (Kd.R_elder' (rk HO226) (Kd.R_base ho0) hb)
                have n3_ := Aside0.mk (Kd.R_elder' (rk HO231) (Kd.R_base ho0) hb)
                have n4_ := Aside0.mk (Kd.R_elder' (rk HO239) (Kd.R_base ho0) hb)
                have n5_ := Aside0.mk (Kd.R_elder' (rk HO243) (Kd.R_base ho0) hb)
                have n6_ := Aside0.mk (Kd.R_elder' (rk HO247) (Kd.R_base ho0) hb)
                have n7_ := Aside0.mk (Kd.R_elder' (rk HO252) (Kd.R_base ho0) hb)
                have n8_ := Aside0.mk (Kd.R_lower (Kd.R_new' (Kd.R_new' (Kd.R_new' (Kd.R_new' (Kd.R_new' (Kd.R_new' (Kd.R_new' (Kd.R_new' ho0 (Kd.R_lt (rk HO218))) (Kd.R_lt (rk HO222))) (Kd.R_lt (rk HO226))) (Kd.R_lt (rk HO231))) (Kd.R_lt (rk HO239))) (Kd.R_lt (rk HO243))) (Kd.R_lt (rk HO247))) (Kd.R_lt (rk HO252))) (below_size bl))
                have n9_ := Aside0.mk (bb (g := gb227) hb)
                have n10_ := Aside0.mk (bb (g := gb232) hb)
                have n11_ := Aside0.mk (bb (g := gb248) hb)
                have n12_ := Aside0.mk (bb (g := gb257) hb)
                have n13_ := Aside0.mk (below_step bl hb)
                clear HO218
                clear HO222
                clear HO226
                clear HO231
                clear HO239
                clear HO243
                clear HO247
                clear HO252
                clear BK227
                clear BK232
                clear BK248
                clear BK257
                clear HB
                have HO218 := n0_
                have HO222 := n1_
                have HO226 := n2_
                have HO231 := n3_
                have HO239 := n4_
                have HO243 := n5_
                have HO247 := n6_
                have HO252 := n7_
                have HO256 := n8_
                have BK227 := n9_
                have BK232 := n10_
                have BK248 := n11_
                have BK257 := n12_
                have HB := n13_
                clear n0_ n1_ n2_ n3_ n4_ n5_ n6_ n7_ n8_ n9_ n10_ n11_ n12_ n13_
                (try clear hb)
                (try clear hb2)
                (try clear hk)
                (try clear hi)
                (try clear ho0)
                refine hK.out _ _ ⟨(blk_cell BK248.out 0).trans rfl, (blk_cell BK248.out 1).trans rfl⟩ (fun hHeld => ?_)
                clear hK K
                refine norm_ (a' := ?_) ?_ ?_
                rotate_left
                · show Act.put _ (some 46) _ = _
                  simp only [Act.put, List.setIfInBounds_toArray, List.set_cons_zero, List.set_cons_succ, i64_w, i32_w]
                  rfl
                exact norm_ (by simp only [putAll, Act.put, List.setIfInBounds_toArray, List.set_cons_zero, List.set_cons_succ]) (hCont (.slice Ao111 t250.length co111, v255, gb257) _ ⟨hHeld, (by (with_reducible repeat (first | apply Kd.R_alloc | apply Kd.R_drewN | apply Kd.R_drew)); exact Kd.R_mono HO218.out (fun _ hk => ⟨hk.1.1.1, ⟨hk.1.1.2.1, ⟨hk.1.1.2.2.1, ⟨hk.1.1.2.2.2.1, ⟨hk.1.1.2.2.2.2.1, ⟨hk.1.1.2.2.2.2.2, ⟨hk.1.2, hk.2⟩⟩⟩⟩⟩⟩⟩)), (by (with_reducible repeat (first | apply Kd.R_alloc | apply Kd.R_drewN | apply Kd.R_drew)); exact Kd.R_mono HO222.out (fun _ hk => ⟨hk.1.1.1, ⟨hk.1.1.2.1, ⟨hk.1.1.2.2.1, ⟨hk.1.1.2.2.2.1, ⟨hk.1.1.2.2.2.2.1, ⟨hk.1.1.2.2.2.2.2, ⟨hk.1.2, hk.2⟩⟩⟩⟩⟩⟩⟩)), (by (with_reducible repeat (first | apply Kd.R_alloc | apply Kd.R_drewN | apply Kd.R_drew)); exact Kd.R_mono HO226.out (fun _ hk => ⟨hk.1.1.1, ⟨hk.1.1.2.1, ⟨hk.1.1.2.2.1, ⟨hk.1.1.2.2.2.1, ⟨hk.1.1.2.2.2.2.1, ⟨hk.1.1.2.2.2.2.2, ⟨hk.1.2, hk.2⟩⟩⟩⟩⟩⟩⟩)), (by (with_reducible repeat (first | apply Kd.R_alloc | apply Kd.R_drewN | apply Kd.R_drew)); exact Kd.R_mono HO231.out (fun _ hk => ⟨hk.1.1.1, ⟨hk.1.1.2.1, ⟨hk.1.1.2.2.1, ⟨hk.1.1.2.2.2.1, ⟨hk.1.1.2.2.2.2.1, ⟨hk.1.1.2.2.2.2.2, ⟨hk.1.2, hk.2⟩⟩⟩⟩⟩⟩⟩)), (by (with_reducible repeat (first | apply Kd.R_alloc | apply Kd.R_drewN | apply Kd.R_drew)); exact Kd.R_mono HO239.out (fun _ hk => ⟨hk.1.1.1, ⟨hk.1.1.2.1, ⟨hk.1.1.2.2.1, ⟨hk.1.1.2.2.2.1, ⟨hk.1.1.2.2.2.2.1, ⟨hk.1.1.2.2.2.2.2, ⟨hk.1.2, hk.2⟩⟩⟩⟩⟩⟩⟩)), (by (with_reducible repeat (first | apply Kd.R_alloc | apply Kd.R_drewN | apply Kd.R_drew)); exact Kd.R_mono HO243.out (fun _ hk => ⟨hk.1.1.1, ⟨hk.1.1.2.1, ⟨hk.1.1.2.2.1, ⟨hk.1.1.2.2.2.1, ⟨hk.1.1.2.2.2.2.1, ⟨hk.1.1.2.2.2.2.2, ⟨hk.1.2, hk.2⟩⟩⟩⟩⟩⟩⟩)), (by (with_reducible repeat (first | apply Kd.R_alloc | apply Kd.R_drewN | apply Kd.R_drew)); exact Kd.R_mono HO247.out (fun _ hk => ⟨hk.1.1.1, ⟨hk.1.1.2.1, ⟨hk.1.1.2.2.1, ⟨hk.1.1.2.2.2.1, ⟨hk.1.1.2.2.2.2.1, ⟨hk.1.1.2.2.2.2.2, ⟨hk.1.2, hk.2⟩⟩⟩⟩⟩⟩⟩)), (by (with_reducible repeat (first | apply Kd.R_alloc | apply Kd.R_drewN | apply Kd.R_drew)); exact Kd.R_mono HO252.out (fun _ hk => ⟨hk.1.1.1.1.1.1.1.2, ⟨hk.1.1.1.1.1.1.2, ⟨hk.1.1.1.1.1.2, ⟨hk.1.1.1.1.2, ⟨hk.1.1.1.2, ⟨hk.1.1.2, ⟨hk.1.2, hk.2⟩⟩⟩⟩⟩⟩⟩)), (by (with_reducible repeat (first | apply Kd.R_alloc | apply Kd.R_drewN | apply Kd.R_drew)); exact Kd.R_mono HO256.out (fun _ hk => ⟨hk.1.1.1.1.1.1.1.2, ⟨hk.1.1.1.1.1.1.2, ⟨hk.1.1.1.1.1.2, ⟨hk.1.1.1.1.2, ⟨hk.1.1.1.2, ⟨hk.1.1.2, ⟨hk.1.2, hk.2⟩⟩⟩⟩⟩⟩⟩)), pk, pk, pk, pk, GW257.out, GE257.out, NB227_257.out, NB257_227.out, NB232_257.out, NB257_232.out, NB248_257.out, NB257_248.out, bl⟩)
            rintro ⟨v251, v255, gb257⟩ w113 ⟨hS_, h0_, h1_, h2_, h3_, h4_, h5_, h6_, h7_, h8_, h9_, h10_, h11_, h12_, h13_, h14_, h15_, h16_, h17_, h18_, h19_, h20_, h21_⟩
            have n0_ : Aside0 (Kd.R (Kd.int .u64) 27 w113 w.heap.size (fun k_ => some k_ ≠ (.slice Ao85 t220.length co85 : Value).ownBlock ∧ some k_ ≠ (.slice Ao89 t224.length co89 : Value).ownBlock ∧ some k_ ≠ (.slice Ao94 t229.length co94 : Value).ownBlock ∧ some k_ ≠ (.slice Ao99 t237.length co99 : Value).ownBlock ∧ some k_ ≠ (.slice Ao100 t241.length co100 : Value).ownBlock ∧ some k_ ≠ (.slice Ao106 t245.length co106 : Value).ownBlock ∧ some k_ ≠ (v251 : Value).ownBlock ∧ some k_ ≠ (v255 : Value).ownBlock) (.slice Ao84 t216.length co84) t216) := ⟨h0_⟩
            have n1_ : Aside0 (Kd.R (Kd.int .u64) 27 w113 w.heap.size (fun k_ => some k_ ≠ (.slice Ao84 t216.length co84 : Value).ownBlock ∧ some k_ ≠ (.slice Ao89 t224.length co89 : Value).ownBlock ∧ some k_ ≠ (.slice Ao94 t229.length co94 : Value).ownBlock ∧ some k_ ≠ (.slice Ao99 t237.length co99 : Value).ownBlock ∧ some k_ ≠ (.slice Ao100 t241.length co100 : Value).ownBlock ∧ some k_ ≠ (.slice Ao106 t245.length co106 : Value).ownBlock ∧ some k_ ≠ (v251 : Value).ownBlock ∧ some k_ ≠ (v255 : Value).ownBlock) (.slice Ao85 t220.length co85) t220) := ⟨h1_⟩
            have n2_ : Aside0 (Kd.R (Kd.int .u64) 27 w113 w.heap.size (fun k_ => some k_ ≠ (.slice Ao84 t216.length co84 : Value).ownBlock ∧ some k_ ≠ (.slice Ao85 t220.length co85 : Value).ownBlock ∧ some k_ ≠ (.slice Ao94 t229.length co94 : Value).ownBlock ∧ some k_ ≠ (.slice Ao99 t237.length co99 : Value).ownBlock ∧ some k_ ≠ (.slice Ao100 t241.length co100 : Value).ownBlock ∧ some k_ ≠ (.slice Ao106 t245.length co106 : Value).ownBlock ∧ some k_ ≠ (v251 : Value).ownBlock ∧ some k_ ≠ (v255 : Value).ownBlock) (.slice Ao89 t224.length co89) t224) := ⟨h2_⟩
            have n3_ : Aside0 (Kd.R (Kd.int .u64) 27 w113 w.heap.size (fun k_ => some k_ ≠ (.slice Ao84 t216.length co84 : Value).ownBlock ∧ some k_ ≠ (.slice Ao85 t220.length co85 : Value).ownBlock ∧ some k_ ≠ (.slice Ao89 t224.length co89 : Value).ownBlock ∧ some k_ ≠ (.slice Ao99 t237.length co99 : Value).ownBlock ∧ some k_ ≠ (.slice Ao100 t241.length co100 : Value).ownBlock ∧ some k_ ≠ (.slice Ao106 t245.length co106 : Value).ownBlock ∧ some k_ ≠ (v251 : Value).ownBlock ∧ some k_ ≠ (v255 : Value).ownBlock) (.slice Ao94 t229.length co94) t229) := ⟨h3_⟩
            have n4_ : Aside0 (Kd.R (Kd.int .u64) 27 w113 w.heap.size (fun k_ => some k_ ≠ (.slice Ao84 t216.length co84 : Value).ownBlock ∧ some k_ ≠ (.slice Ao85 t220.length co85 : Value).ownBlock ∧ some k_ ≠ (.slice Ao89 t224.length co89 : Value).ownBlock ∧ some k_ ≠ (.slice Ao94 t229.length co94 : Value).ownBlock ∧ some k_ ≠ (.slice Ao100 t241.length co100 : Value).ownBlock ∧ some k_ ≠ (.slice Ao106 t245.length co106 : Value).ownBlock ∧ some k_ ≠ (v251 : Value).ownBlock ∧ some k_ ≠ (v255 : Value).ownBlock) (.slice Ao99 t237.length co99) t237) := ⟨h4_⟩
            have n5_ : Aside0 (Kd.R (Kd.int .u64) 27 w113 w.heap.size (fun k_ => some k_ ≠ (.slice Ao84 t216.length co84 : Value).ownBlock ∧ some k_ ≠ (.slice Ao85 t220.length co85 : Value).ownBlock ∧ some k_ ≠ (.slice Ao89 t224.length co89 : Value).ownBlock ∧ some k_ ≠ (.slice Ao94 t229.length co94 : Value).ownBlock ∧ some k_ ≠ (.slice Ao99 t237.length co99 : Value).ownBlock ∧ some k_ ≠ (.slice Ao106 t245.length co106 : Value).ownBlock ∧ some k_ ≠ (v251 : Value).ownBlock ∧ some k_ ≠ (v255 : Value).ownBlock) (.slice Ao100 t241.length co100) t241) := ⟨h5_⟩
            have n6_ : Aside0 (Kd.R (Kd.int .u64) 27 w113 w.heap.size (fun k_ => some k_ ≠ (.slice Ao84 t216.length co84 : Value).ownBlock ∧ some k_ ≠ (.slice Ao85 t220.length co85 : Value).ownBlock ∧ some k_ ≠ (.slice Ao89 t224.length co89 : Value).ownBlock ∧ some k_ ≠ (.slice Ao94 t229.length co94 : Value).ownBlock ∧ some k_ ≠ (.slice Ao99 t237.length co99 : Value).ownBlock ∧ some k_ ≠ (.slice Ao100 t241.length co100 : Value).ownBlock ∧ some k_ ≠ (v251 : Value).ownBlock ∧ some k_ ≠ (v255 : Value).ownBlock) (.slice Ao106 t245.length co106) t245) := ⟨h6_⟩
            have n7_ : Aside0 (Kd.R (Kd.int .u64) 27 w113 w.heap.size (fun k_ => some k_ ≠ (.slice Ao84 t216.length co84 : Value).ownBlock ∧ some k_ ≠ (.slice Ao85 t220.length co85 : Value).ownBlock ∧ some k_ ≠ (.slice Ao89 t224.length co89 : Value).ownBlock ∧ some k_ ≠ (.slice Ao94 t229.length co94 : Value).ownBlock ∧ some k_ ≠ (.slice Ao99 t237.length co99 : Value).ownBlock ∧ some k_ ≠ (.slice Ao100 t241.length co100 : Value).ownBlock ∧ some k_ ≠ (.slice Ao106 t245.length co106 : Value).ownBlock ∧ some k_ ≠ (v255 : Value).ownBlock) v251 t250) := ⟨h7_⟩
            have n8_ : Aside0 (Kd.R (Kd.int .u64) 27 w113 w.heap.size (fun k_ => some k_ ≠ (.slice Ao84 t216.length co84 : Value).ownBlock ∧ some k_ ≠ (.slice Ao85 t220.length co85 : Value).ownBlock ∧ some k_ ≠ (.slice Ao89 t224.length co89 : Value).ownBlock ∧ some k_ ≠ (.slice Ao94 t229.length co94 : Value).ownBlock ∧ some k_ ≠ (.slice Ao99 t237.length co99 : Value).ownBlock ∧ some k_ ≠ (.slice Ao100 t241.length co100 : Value).ownBlock ∧ some k_ ≠ (.slice Ao106 t245.length co106 : Value).ownBlock ∧ some k_ ≠ (v251 : Value).ownBlock) v255 t254) := ⟨h8_⟩
            have n9_ : Aside0 (w113.heap[gb227]? = some (.cells #[.int .i64 t223, .slice Ao89 t224.length co89] 31 (0, 0))) := ⟨h9_⟩
            have n10_ : Aside0 (w113.heap[gb232]? = some (.cells #[.int .i64 t228, .slice Ao94 t229.length co94] 31 (0, 0))) := ⟨h10_⟩
            have n11_ : Aside0 (w113.heap[gb248]? = some (.cells #[.int .i64 t244, .slice Ao106 t245.length co106] 31 (0, 0))) := ⟨h11_⟩
            have n12_ : Aside0 (w113.heap[gb257]? = some (.cells #[.int .i64 0, .slice none 0 0] 31 (0, 0))) := ⟨h12_⟩
            have n13_ : Aside0 (w.heap.size ≤ gb257) := ⟨h13_⟩
            have n14_ : Aside0 (w.heap.size ≤ gb257) := ⟨h14_⟩
            have n15_ : Aside0 (gb227 ≠ gb257) := ⟨h15_⟩
            have n16_ : Aside0 (gb257 ≠ gb227) := ⟨h16_⟩
            have n17_ : Aside0 (gb232 ≠ gb257) := ⟨h17_⟩
            have n18_ : Aside0 (gb257 ≠ gb232) := ⟨h18_⟩
            have n19_ : Aside0 (gb248 ≠ gb257) := ⟨h19_⟩
            have n20_ : Aside0 (gb257 ≠ gb248) := ⟨h20_⟩
            have n21_ : Aside0 (Below w.heap.size w w113) := ⟨h21_⟩
            clear HO218
            clear HO222
            clear HO226
            clear HO231
            clear HO239
            clear HO243
            clear HO247
            clear BK227
            clear BK232
            clear BK248
            clear HB
            clear h0_ h1_ h2_ h3_ h4_ h5_ h6_ h7_ h8_ h9_ h10_ h11_ h12_ h13_ h14_ h15_ h16_ h17_ h18_ h19_ h20_ h21_
            have HO218 := n0_
            have HO222 := n1_
            have HO226 := n2_
            have HO231 := n3_
            have HO239 := n4_
            have HO243 := n5_
            have HO247 := n6_
            have HO252 := n7_
            have HO256 := n8_
            have BK227 := n9_
            have BK232 := n10_
            have BK248 := n11_
            have BK257 := n12_
            have GW257 := n13_
            have GE257 := n14_
            have NB227_257 := n15_
            have NB257_227 := n16_
            have NB232_257 := n17_
            have NB257_232 := n18_
            have NB248_257 := n19_
            have NB257_248 := n20_
            have HB := n21_
            clear n0_ n1_ n2_ n3_ n4_ n5_ n6_ n7_ n8_ n9_ n10_ n11_ n12_ n13_ n14_ n15_ n16_ n17_ n18_ n19_ n20_ n21_
            have hHeld : w113.cell? ⟨gb248, 0, none⟩ = some (.int .i64 t244) ∧ w113.cell? ⟨gb248, 1, none⟩ = some (.slice Ao106 t245.length co106) := hS_
            obtain ⟨Ao115, co115, eo115⟩ := Kd.R_slice HO256.out
            (first | subst eo115 | (injection eo115 with f1_ f2_ f3_; have f4_ := f1_.symm; have f5_ := f3_.symm; clear f1_ f2_ f3_; subst f4_; subst f5_))
            refine norm_ (a' := ?_) ?_ ?_
            rotate_left
            · simp only [putAll, Act.put, List.setIfInBounds_toArray, List.set_cons_zero, List.set_cons_succ]
              rfl
            refine one_ (i := 5) (N := none) #[true, true, true, true, true, true] rfl rfl (by kernel_rfl) (by decide) (fun K hK => ?_)
            have hs114 : w113.cell? ⟨gb257, 0, none⟩ = some (.int .i64 0) := (blk_cell BK257.out 0).trans rfl
            have hfs114 := blk_frozen BK257.out 0
            have hns114_0 := NB227_257.out
            have hns114_1 := NB232_257.out
            have hns114_2 := NB248_257.out
            have hms114_0 := NB257_227.out
            have hms114_1 := NB257_232.out
            have hms114_2 := NB257_248.out
            have hs116 : w113.cell? ⟨gb257, 1, none⟩ = some (.slice none 0 0) := (blk_cell BK257.out 1).trans rfl
            have hfs116 := blk_frozen BK257.out 1
            have hns116_0 := NB227_257.out
            have hns116_1 := NB232_257.out
            have hns116_2 := NB248_257.out
            have hms116_0 := NB257_227.out
            have hms116_1 := NB257_232.out
            have hms116_2 := NB257_248.out
            refine skip_ (w1 := ?_) (by rfl) rfl ?_ ?_
            rotate_left
            · go_simp
              rfl
            refine hK.out _ _ ⟨((cell_far (p := ⟨gb257, _, none⟩) NB248_257.out _).trans (((cell_far (p := ⟨gb257, _, none⟩) NB248_257.out _).trans (hHeld.1)))), ((cell_far (p := ⟨gb257, _, none⟩) NB248_257.out _).trans (((cell_far (p := ⟨gb257, _, none⟩) NB248_257.out _).trans (hHeld.2))))⟩ (fun hHeld => ?_)
            clear hK K
            refine done_ (by kernel_rfl) ?_
            try go_wp2_with (first | ((with_reducible refine gate_callee (f := 8) rfl ?_); refine goesL_ (some 47) rfl rfl Try.func8 (by kernel_rfl) rfl #[] rfl am ?_; (with_reducible refine (rowlocklaw03_fixed.calls k  true _ A35.out).mono ?_); rintro e w117 ⟨rfl, hb⟩; refine ⟨_, rfl, ?_⟩; have n0_ := Aside0.mk (Kd.R_below (by (with_reducible repeat (first | apply Kd.R_alloc | apply Kd.R_drewN | apply Kd.R_drew)); exact (Kd.R_mono (Kd.R_far (p := ⟨gb257, 1, none⟩) (Kd.R_far (p := ⟨gb257, 0, none⟩) (Kd.R_types HO218.out BK257.out (by decide)) (fun _ hk => hk.2) (.int .i64 t253)) (fun _ hk => hk.2) (.slice Ao115 t254.length co115)) (fun _ h_ => h_.1))) hb); have n1_ := Aside0.mk (Kd.R_below (by (with_reducible repeat (first | apply Kd.R_alloc | apply Kd.R_drewN | apply Kd.R_drew)); exact (Kd.R_mono (Kd.R_far (p := ⟨gb257, 1, none⟩) (Kd.R_far (p := ⟨gb257, 0, none⟩) (Kd.R_types HO222.out BK257.out (by decide)) (fun _ hk => hk.2) (.int .i64 t253)) (fun _ hk => hk.2) (.slice Ao115 t254.length co115)) (fun _ h_ => h_.1))) hb); have n2_ := Aside0.mk (Kd.R_below (by (with_reducible repeat (first | apply Kd.R_alloc | apply Kd.R_drewN | apply Kd.R_drew)); exact (Kd.R_mono (Kd.R_far (p := ⟨gb257, 1, none⟩) (Kd.R_far (p := ⟨gb257, 0, none⟩) (Kd.R_types HO226.out BK257.out (by decide)) (fun _ hk => hk.2) (.int .i64 t253)) (fun _ hk => hk.2) (.slice Ao115 t254.length co115)) (fun _ h_ => h_.1))) hb); have n3_ := Aside0.mk (Kd.R_below (by (with_reducible repeat (first | apply Kd.R_alloc | apply Kd.R_drewN | apply Kd.R_drew)); exact (Kd.R_mono (Kd.R_far (p := ⟨gb257, 1, none⟩) (Kd.R_far (p := ⟨gb257, 0, none⟩) (Kd.R_types HO231.out BK257.out (by decide)) (fun _ hk => hk.2) (.int .i64 t253)) (fun _ hk => hk.2) (.slice Ao115 t254.length co115)) (fun _ h_ => h_.1))) hb); have n4_ := Aside0.mk (Kd.R_below (by (with_reducible repeat (first | apply Kd.R_alloc | apply Kd.R_drewN | apply Kd.R_drew)); exact (Kd.R_mono (Kd.R_far (p := ⟨gb257, 1, none⟩) (Kd.R_far (p := ⟨gb257, 0, none⟩) (Kd.R_types HO239.out BK257.out (by decide)) (fun _ hk => hk.2) (.int .i64 t253)) (fun _ hk => hk.2) (.slice Ao115 t254.length co115)) (fun _ h_ => h_.1))) hb); have n5_ := Aside0.mk (Kd.R_below (by (with_reducible repeat (first | apply Kd.R_alloc | apply Kd.R_drewN | apply Kd.R_drew)); exact (Kd.R_mono (Kd.R_far (p := ⟨gb257, 1, none⟩) (Kd.R_far (p := ⟨gb257, 0, none⟩) (Kd.R_types HO243.out BK257.out (by decide)) (fun _ hk => hk.2) (.int .i64 t253)) (fun _ hk => hk.2) (.slice Ao115 t254.length co115)) (fun _ h_ => h_.1))) hb); have n6_ := Aside0.mk (Kd.R_below (by (with_reducible repeat (first | apply Kd.R_alloc | apply Kd.R_drewN | apply Kd.R_drew)); exact (Kd.R_mono (Kd.R_far (p := ⟨gb257, 1, none⟩) (Kd.R_far (p := ⟨gb257, 0, none⟩) (Kd.R_types HO247.out BK257.out (by decide)) (fun _ hk => hk.2) (.int .i64 t253)) (fun _ hk => hk.2) (.slice Ao115 t254.length co115)) (fun _ h_ => h_.1))) hb); have n7_ := Aside0.mk (Kd.R_below (by (with_reducible repeat (first | apply Kd.R_alloc | apply Kd.R_drewN | apply Kd.R_drew)); exact (Kd.R_mono (Kd.R_far (p := ⟨gb257, 1, none⟩) (Kd.R_far (p := ⟨gb257, 0, none⟩) (Kd.R_types HO252.out BK257.out (by decide)) (fun _ hk => hk.2) (.int .i64 t253)) (fun _ hk => hk.2) (.slice Ao115 t254.length co115)) (fun _ h_ => h_.1))) hb); have n8_ := Aside0.mk (Kd.R_below (by (with_reducible repeat (first | apply Kd.R_alloc | apply Kd.R_drewN | apply Kd.R_drew)); exact (Kd.R_mono (Kd.R_far (p := ⟨gb257, 1, none⟩) (Kd.R_far (p := ⟨gb257, 0, none⟩) (Kd.R_types HO256.out BK257.out (by decide)) (fun _ hk => hk.2) (.int .i64 t253)) (fun _ hk => hk.2) (.slice Ao115 t254.length co115)) (fun _ h_ => h_.1))) hb); have n9_ := Aside0.mk (blk_below (g := gb227) (o := .cells #[.int .i64 t223, .slice Ao89 t224.length co89] 31 (0, 0)) (by (with_reducible repeat (first | refine blk_drewN ?_ _ | refine blk_drew ?_ | refine blk_alloc ?_ _)); refine blk_far ?_ NB227_257.out _; (with_reducible repeat (first | refine blk_drewN ?_ _ | refine blk_drew ?_ | refine blk_alloc ?_ _)); refine blk_far ?_ NB227_257.out _; (with_reducible repeat (first | refine blk_drewN ?_ _ | refine blk_drew ?_ | refine blk_alloc ?_ _)); exact BK227.out) hb); have n10_ := Aside0.mk (blk_below (g := gb232) (o := .cells #[.int .i64 t228, .slice Ao94 t229.length co94] 31 (0, 0)) (by (with_reducible repeat (first | refine blk_drewN ?_ _ | refine blk_drew ?_ | refine blk_alloc ?_ _)); refine blk_far ?_ NB232_257.out _; (with_reducible repeat (first | refine blk_drewN ?_ _ | refine blk_drew ?_ | refine blk_alloc ?_ _)); refine blk_far ?_ NB232_257.out _; (with_reducible repeat (first | refine blk_drewN ?_ _ | refine blk_drew ?_ | refine blk_alloc ?_ _)); exact BK232.out) hb); have n11_ := Aside0.mk (blk_below (g := gb248) (o := .cells #[.int .i64 t244, .slice Ao106 t245.length co106] 31 (0, 0)) (by (with_reducible repeat (first | refine blk_drewN ?_ _ | refine blk_drew ?_ | refine blk_alloc ?_ _)); refine blk_far ?_ NB248_257.out _; (with_reducible repeat (first | refine blk_drewN ?_ _ | refine blk_drew ?_ | refine blk_alloc ?_ _)); refine blk_far ?_ NB248_257.out _; (with_reducible repeat (first | refine blk_drewN ?_ _ | refine blk_drew ?_ | refine blk_alloc ?_ _)); exact BK248.out) hb); have n12_ := Aside0.mk (blk_below (g := gb257) (o := .cells #[.int .i64 t253, .slice Ao115 t254.length co115] 31 (0, 0)) (by (with_reducible repeat (first | refine blk_drewN ?_ _ | refine blk_drew ?_ | refine blk_alloc ?_ _)); refine blk_put (cs := #[.int .i64 t253, .slice none 0 0]) ?_ 1 _ rfl; (with_reducible repeat (first | refine blk_drewN ?_ _ | refine blk_drew ?_ | refine blk_alloc ?_ _)); refine blk_put (cs := #[.int .i64 0, .slice none 0 0]) ?_ 0 _ rfl; (with_reducible repeat (first | refine blk_drewN ?_ _ | refine blk_drew ?_ | refine blk_alloc ?_ _)); exact BK257.out) hb); have n13_ := Aside0.mk (below_step bl hb); clear HO218; clear HO222; clear HO226; clear HO231; clear HO239; clear HO243; clear HO247; clear HO252; clear HO256; clear BK227; clear BK232; clear BK248; clear BK257; clear HB; have HO218 := n0_; have HO222 := n1_; have HO226 := n2_; have HO231 := n3_; have HO239 := n4_; have HO243 := n5_; have HO247 := n6_; have HO252 := n7_; have HO256 := n8_; have BK227 := n9_; have BK232 := n10_; have BK248 := n11_; have BK257 := n12_; have HB := n13_; clear n0_ n1_ n2_ n3_ n4_ n5_ n6_ n7_ n8_ n9_ n10_ n11_ n12_ n13_; (try clear hb); (try clear hb2); (try clear hk); (try clear hi); have hnb118 := NB227_257.out; have hnc118 := NB257_227.out; have hcz119_0 : w117.cell? ⟨gb227, 0, none⟩ = some (.int .i64 t223) := (blk_cell BK227.out 0).trans rfl; have hcz119_1 : w117.cell? ⟨gb227, 1, none⟩ = some (.slice Ao89 t224.length co89) := (blk_cell BK227.out 1).trans rfl; have hfz119_0 := blk_frozen BK227.out 0; have hfz119_1 := blk_frozen BK227.out 1; have hnb120 := NB248_257.out; have hnc120 := NB257_248.out; have hcz121_0 : w117.cell? ⟨gb248, 0, none⟩ = some (.int .i64 t244) := (blk_cell BK248.out 0).trans rfl; have hcz121_1 : w117.cell? ⟨gb248, 1, none⟩ = some (.slice Ao106 t245.length co106) := (blk_cell BK248.out 1).trans rfl; have hfz121_0 := blk_frozen BK248.out 0; have hfz121_1 := blk_frozen BK248.out 1) | (go_at_call 14; (with_reducible refine (rowlockref03_Less.calls k t223 _ _ t224 t244 _ _ t245 false _ ?side1 ?side2 ?side3 ?side4 A37.out).mono ?_); (case side1 => repeat (first | exact (Kd.R_reads' HO226.out).2.2 | (with_reducible refine Kd.C_alloc ?_ _) | (with_reducible refine Kd.C_drewN ?_ _) | (with_reducible refine Kd.C_drew ?_))); (case side2 => exact (Kd.R_reads' HO226.out).2.1); (case side3 => repeat (first | exact (Kd.R_reads' HO247.out).2.2 | (with_reducible refine Kd.C_alloc ?_ _) | (with_reducible refine Kd.C_drewN ?_ _) | (with_reducible refine Kd.C_drew ?_))); (case side4 => exact (Kd.R_reads' HO247.out).2.1); rintro e w122 ⟨rfl, hb⟩; have n0_ := Aside0.mk (Kd.R_below (rk HO218) hb); have n1_ := Aside0.mk (Kd.R_below (rk HO222) hb); have n2_ := Aside0.mk (Kd.R_below (rk HO226) hb); have n3_ := Aside0.mk (Kd.R_below (rk HO231) hb); have n4_ := Aside0.mk (Kd.R_below (rk HO239) hb); have n5_ := Aside0.mk (Kd.R_below (rk HO243) hb); have n6_ := Aside0.mk (Kd.R_below (rk HO247) hb); have n7_ := Aside0.mk (Kd.R_below (rk HO252) hb); have n8_ := Aside0.mk (Kd.R_below (rk HO256) hb); have n9_ := Aside0.mk (bb (g := gb227) hb); have n10_ := Aside0.mk (bb (g := gb232) hb); have n11_ := Aside0.mk (bb (g := gb248) hb); have n12_ := Aside0.mk (bb (g := gb257) hb); have n13_ := Aside0.mk (below_step bl hb); clear HO218; clear HO222; clear HO226; clear HO231; clear HO239; clear HO243; clear HO247; clear HO252; clear HO256; clear BK227; clear BK232; clear BK248; clear BK257; clear HB; have HO218 := n0_; have HO222 := n1_; have HO226 := n2_; have HO231 := n3_; have HO239 := n4_; have HO243 := n5_; have HO247 := n6_; have HO252 := n7_; have HO256 := n8_; have BK227 := n9_; have BK232 := n10_; have BK248 := n11_; have BK257 := n12_; have HB := n13_; clear n0_ n1_ n2_ n3_ n4_ n5_ n6_ n7_ n8_ n9_ n10_ n11_ n12_ n13_; (try clear hb); (try clear hb2); (try clear hk); (try clear hi); have hcz123_0 : w122.cell? ⟨gb227, 0, none⟩ = some (.int .i64 t223) := (blk_cell BK227.out 0).trans rfl; have hcz123_1 : w122.cell? ⟨gb227, 1, none⟩ = some (.slice Ao89 t224.length co89) := (blk_cell BK227.out 1).trans rfl; have hfz123_0 := blk_frozen BK227.out 0; have hfz123_1 := blk_frozen BK227.out 1; have hnb124 := NB257_232.out; have hnc124 := NB232_257.out; have hcz125_0 : w122.cell? ⟨gb257, 0, none⟩ = some (.int .i64 t253) := (blk_cell BK257.out 0).trans rfl; have hcz125_1 : w122.cell? ⟨gb257, 1, none⟩ = some (.slice Ao115 t254.length co115) := (blk_cell BK257.out 1).trans rfl; have hfz125_0 := blk_frozen BK257.out 0; have hfz125_1 := blk_frozen BK257.out 1) | (go_at_call 14; (with_reducible refine (rowlockref03_Less.calls k t223 _ _ t224 t253 _ _ t254 t260 _ ?side1 ?side2 ?side3 ?side4 A81.out).mono ?_); (case side1 => repeat (first | exact (Kd.R_reads' HO226.out).2.2 | (with_reducible refine Kd.C_alloc ?_ _) | (with_reducible refine Kd.C_drewN ?_ _) | (with_reducible refine Kd.C_drew ?_))); (case side2 => exact (Kd.R_reads' HO226.out).2.1); (case side3 => repeat (first | exact (Kd.R_reads' HO256.out).2.2 | (with_reducible refine Kd.C_alloc ?_ _) | (with_reducible refine Kd.C_drewN ?_ _) | (with_reducible refine Kd.C_drew ?_))); (case side4 => exact (Kd.R_reads' HO256.out).2.1); rintro e w126 ⟨rfl, hb⟩; have n0_ := Aside0.mk (Kd.R_below (rk HO218) hb); have n1_ := Aside0.mk (Kd.R_below (rk HO222) hb); have n2_ := Aside0.mk (Kd.R_below (rk HO226) hb); have n3_ := Aside0.mk (Kd.R_below (rk HO231) hb); have n4_ := Aside0.mk (Kd.R_below (rk HO239) hb); have n5_ := Aside0.mk (Kd.R_below (rk HO243) hb); have n6_ := Aside0.mk (Kd.R_below (rk HO247) hb); have n7_ := Aside0.mk (Kd.R_below (rk HO252) hb); have n8_ := Aside0.mk (Kd.R_below (rk HO256) hb); have n9_ := Aside0.mk (bb (g := gb227) hb); have n10_ := Aside0.mk (bb (g := gb232) hb); have n11_ := Aside0.mk (bb (g := gb248) hb); have n12_ := Aside0.mk (bb (g := gb257) hb); have n13_ := Aside0.mk (below_step bl hb); clear HO218; clear HO222; clear HO226; clear HO231; clear HO239; clear HO243; clear HO247; clear HO252; clear HO256; clear BK227; clear BK232; clear BK248; clear BK257; clear HB; have HO218 := n0_; have HO222 := n1_; have HO226 := n2_; have HO231 := n3_; have HO239 := n4_; have HO243 := n5_; have HO247 := n6_; have HO252 := n7_; have HO256 := n8_; have BK227 := n9_; have BK232 := n10_; have BK248 := n11_; have BK257 := n12_; have HB := n13_; clear n0_ n1_ n2_ n3_ n4_ n5_ n6_ n7_ n8_ n9_ n10_ n11_ n12_ n13_; (try clear hb); (try clear hb2); (try clear hk); (try clear hi)))
            go_ret
            exact ⟨by first | rfl | (simp [errW_none, errW_some] <;> rfl) | (simp [*, errW_none, errW_some] <;> rfl), bl⟩
      · replace c36 := Bool.eq_false_iff.mpr c36
        subst c36
        have H1 : (some false) = some r := by rw [if_neg (show ¬ (false = true) by decide)] at H; exact H
        clear H
        have H := H1
        clear H1
        obtain rfl := Option.some.inj H
        exact absurd hrt.out (by decide)
  · replace c10 := Bool.eq_false_iff.mpr c10
    subst c10
    have H1 : ((rowlocklaw03_fixed.f k).bind fun t234 => (if t234 = true then (some (t214 == 0)) else (some false))) = some r := by rw [if_neg (show ¬ (false = true) by decide)] at H; exact H
    clear H
    have H := H1
    clear H1
    replace H := Option.bind_eq_some_iff.mp H
    obtain ⟨t234, A1270, H⟩ := H
    replace H : (if t234 = true then (some (t214 == 0)) else (some false)) = some r := H
    have A127 := Aside0.mk A1270
    clear A1270
    by_cases c128 : t234 = true
    · subst c128
      have H1 : (some (t214 == 0)) = some r := by rw [if_pos rfl] at H; exact H
      clear H
      have H := H1
      clear H1
      obtain rfl := Option.some.inj H
      go_enter Try.func4, Try.ntmps4
      go_wp2_with (first | ((with_reducible refine gate_callee (f := 11) rfl ?_); refine goesL_ (some 15) rfl rfl Try.func11 (by kernel_rfl) rfl #[.int .u64 a0, .int .u64 a1, .int .u64 a2] rfl am ?_; (with_reducible refine (calc_Times.calls k a0 a1 a2 t214 _ A4.out).mono ?_); rintro e w' ⟨rfl, ⟨nd, rfl⟩⟩; refine ⟨_, rfl, ?_⟩) | ((with_reducible refine gate_callee (f := 13) rfl ?_); refine goesL_ (some 17) rfl rfl Try.func13 (by kernel_rfl) rfl #[.int .u64 a0] rfl am ?_; (with_reducible refine (rowlockref03_Whole.calls k a0 t215 t216 _ A5.out).mono ?_); rintro e w129 ⟨v217, rfl, ho0, hb⟩; refine ⟨_, rfl, ?_⟩; have n0_ := Aside0.mk (Kd.R_lower ho0 (below_size bl)); have n1_ := Aside0.mk (below_step bl hb); clear HB; have HO218 := n0_; have HB := n1_; clear n0_ n1_; (try clear hb); (try clear hb2); (try clear hk); (try clear hi); (try clear ho0)) | ((with_reducible refine gate_callee (f := 13) rfl ?_); refine goesL_ (some 19) rfl rfl Try.func13 (by kernel_rfl) rfl #[.int .u64 a1] rfl am ?_; (with_reducible refine (rowlockref03_Whole.calls k a1 t219 t220 _ A6.out).mono ?_); rintro e w130 ⟨v221, rfl, ho0, hb⟩; refine ⟨_, rfl, ?_⟩; have n0_ := Aside0.mk (Kd.R_elder' (rk HO218) (Kd.R_base ho0) hb); have n1_ := Aside0.mk (Kd.R_lower (Kd.R_new' ho0 (Kd.R_lt (rk HO218))) (below_size bl)); have n2_ := Aside0.mk (below_step bl hb); clear HO218; clear HB; have HO218 := n0_; have HO222 := n1_; have HB := n2_; clear n0_ n1_ n2_; (try clear hb); (try clear hb2); (try clear hk); (try clear hi); (try clear ho0); obtain ⟨Ao131, co131, eo131⟩ := Kd.R_slice HO218.out; subst eo131; obtain ⟨Ao132, co132, eo132⟩ := Kd.R_slice HO222.out; subst eo132) | ((with_reducible refine gate_callee (f := 12) rfl ?_); refine goesL_ (some 20) rfl rfl Try.func12 (by kernel_rfl) rfl #[.agg #[.int .i64 t215, .slice Ao131 t216.length co131], .agg #[.int .i64 t219, .slice Ao132 t220.length co132]] rfl am ?_; (with_reducible refine (rowlockref03_Times.calls k t215 _ _ t216 t219 _ _ t220 t223 t224 _ ?side1 ?side2 ?side3 ?side4 A7.out).mono ?_); (case side1 => repeat (first | exact (Kd.R_reads' HO218.out).2.2 | (with_reducible refine Kd.C_alloc ?_ _) | (with_reducible refine Kd.C_drewN ?_ _) | (with_reducible refine Kd.C_drew ?_))); (case side2 => exact (Kd.R_reads' HO218.out).2.1); (case side3 => repeat (first | exact (Kd.R_reads' HO222.out).2.2 | (with_reducible refine Kd.C_alloc ?_ _) | (with_reducible refine Kd.C_drewN ?_ _) | (with_reducible refine Kd.C_drew ?_))); (case side4 => exact (Kd.R_reads' HO222.out).2.1); rintro e w133 ⟨v225, rfl, ho0, hb⟩; refine ⟨_, rfl, ?_⟩; have n0_ := Aside0.mk (Kd.R_elder' (rk HO218) (Kd.R_base ho0) hb); have n1_ := Aside0.mk (Kd.R_elder' (rk HO222) (Kd.R_base ho0) hb); have n2_ := Aside0.mk (Kd.R_lower (Kd.R_new' (Kd.R_new' ho0 (Kd.R_lt (rk HO218))) (Kd.R_lt (rk HO222))) (below_size bl)); have n3_ := Aside0.mk (below_step bl hb); clear HO218; clear HO222; clear HB; have HO218 := n0_; have HO222 := n1_; have HO226 := n2_; have HB := n3_; clear n0_ n1_ n2_ n3_; (try clear hb); (try clear hb2); (try clear hk); (try clear hi); (try clear ho0)) | ((with_reducible refine gate_dst (N := 8) rfl ?_); refine box_event ?hg (N := 8) ?hd (cs := #[.int .i64 0, .slice none 0 0]) (t := 31) ?hr ?_; (case hd => rfl); (case hg => rfl); (case hr => first | (go_simp; done) | (go_simp; rfl)); intro gb227 hg w134 hbox hb; have n0_ := Aside0.mk (Kd.R_below (rk HO218) hb); have n1_ := Aside0.mk (Kd.R_below (rk HO222) hb); have n2_ := Aside0.mk (Kd.R_below (rk HO226) hb); have n3_ := Aside0.mk (below_step bl hb); have n4_ := Aside0.mk (hbox); have n5_ := Aside0.mk ((sz hg : w.heap.size ≤ gb227)); have n6_ := Aside0.mk ((sz hg : w.heap.size ≤ gb227)); clear HO218; clear HO222; clear HO226; clear HB; have HO218 := n0_; have HO222 := n1_; have HO226 := n2_; have HB := n3_; have BK227 := n4_; have GW227 := n5_; have GE227 := n6_; clear n0_ n1_ n2_ n3_ n4_ n5_ n6_; clear hb hbox hg; have hcz135_0 : w134.cell? ⟨gb227, 0, none⟩ = some (.int .i64 0) := (blk_cell BK227.out 0).trans rfl; have hcz135_1 : w134.cell? ⟨gb227, 1, none⟩ = some (.slice none 0 0) := (blk_cell BK227.out 1).trans rfl; have hfz135_0 := blk_frozen BK227.out 0; have hfz135_1 := blk_frozen BK227.out 1; obtain ⟨Ao136, co136, eo136⟩ := Kd.R_slice HO226.out; subst eo136) | ((with_reducible refine gate_callee (f := 13) rfl ?_); refine goesL_ (some 21) rfl rfl Try.func13 (by kernel_rfl) rfl #[.int .u64 0] rfl am ?_; (with_reducible refine (rowlockref03_Whole.calls k 0 t228 t229 _ A8.out).mono ?_); rintro e w137 ⟨v230, rfl, ho0, hb⟩; refine ⟨_, rfl, ?_⟩; have n0_ := Aside0.mk (Kd.R_elder' (by (with_reducible repeat (first | apply Kd.R_alloc | apply Kd.R_drewN | apply Kd.R_drew)); exact (Kd.R_mono (Kd.R_far (p := ⟨gb227, 1, none⟩) (Kd.R_far (p := ⟨gb227, 0, none⟩) (Kd.R_types HO218.out BK227.out (by decide)) (fun _ hk => hk.2) (.int .i64 t223)) (fun _ hk => hk.2) (.slice Ao136 t224.length co136)) (fun _ h_ => h_.1))) (Kd.R_base ho0) hb); have n1_ := Aside0.mk (Kd.R_elder' (by (with_reducible repeat (first | apply Kd.R_alloc | apply Kd.R_drewN | apply Kd.R_drew)); exact (Kd.R_mono (Kd.R_far (p := ⟨gb227, 1, none⟩) (Kd.R_far (p := ⟨gb227, 0, none⟩) (Kd.R_types HO222.out BK227.out (by decide)) (fun _ hk => hk.2) (.int .i64 t223)) (fun _ hk => hk.2) (.slice Ao136 t224.length co136)) (fun _ h_ => h_.1))) (Kd.R_base ho0) hb); have n2_ := Aside0.mk (Kd.R_elder' (by (with_reducible repeat (first | apply Kd.R_alloc | apply Kd.R_drewN | apply Kd.R_drew)); exact (Kd.R_mono (Kd.R_far (p := ⟨gb227, 1, none⟩) (Kd.R_far (p := ⟨gb227, 0, none⟩) (Kd.R_types HO226.out BK227.out (by decide)) (fun _ hk => hk.2) (.int .i64 t223)) (fun _ hk => hk.2) (.slice Ao136 t224.length co136)) (fun _ h_ => h_.1))) (Kd.R_base ho0) hb); have n3_ := Aside0.mk (Kd.R_lower (Kd.R_new' (Kd.R_new' (Kd.R_new' ho0 (Kd.R_lt (by (with_reducible repeat (first | apply Kd.R_alloc | apply Kd.R_drewN | apply Kd.R_drew)); exact (Kd.R_mono (Kd.R_far (p := ⟨gb227, 1, none⟩) (Kd.R_far (p := ⟨gb227, 0, none⟩) (Kd.R_types HO218.out BK227.out (by decide)) (fun _ hk => hk.2) (.int .i64 t223)) (fun _ hk => hk.2) (.slice Ao136 t224.length co136)) (fun _ h_ => h_.1))))) (Kd.R_lt (by (with_reducible repeat (first | apply Kd.R_alloc | apply Kd.R_drewN | apply Kd.R_drew)); exact (Kd.R_mono (Kd.R_far (p := ⟨gb227, 1, none⟩) (Kd.R_far (p := ⟨gb227, 0, none⟩) (Kd.R_types HO222.out BK227.out (by decide)) (fun _ hk => hk.2) (.int .i64 t223)) (fun _ hk => hk.2) (.slice Ao136 t224.length co136)) (fun _ h_ => h_.1))))) (Kd.R_lt (by (with_reducible repeat (first | apply Kd.R_alloc | apply Kd.R_drewN | apply Kd.R_drew)); exact (Kd.R_mono (Kd.R_far (p := ⟨gb227, 1, none⟩) (Kd.R_far (p := ⟨gb227, 0, none⟩) (Kd.R_types HO226.out BK227.out (by decide)) (fun _ hk => hk.2) (.int .i64 t223)) (fun _ hk => hk.2) (.slice Ao136 t224.length co136)) (fun _ h_ => h_.1))))) (below_size bl)); have n4_ := Aside0.mk (blk_below (g := gb227) (o := .cells #[.int .i64 t223, .slice Ao136 t224.length co136] 31 (0, 0)) (by (with_reducible repeat (first | refine blk_drewN ?_ _ | refine blk_drew ?_ | refine blk_alloc ?_ _)); refine blk_put (cs := #[.int .i64 t223, .slice none 0 0]) ?_ 1 _ rfl; (with_reducible repeat (first | refine blk_drewN ?_ _ | refine blk_drew ?_ | refine blk_alloc ?_ _)); refine blk_put (cs := #[.int .i64 0, .slice none 0 0]) ?_ 0 _ rfl; (with_reducible repeat (first | refine blk_drewN ?_ _ | refine blk_drew ?_ | refine blk_alloc ?_ _)); exact BK227.out) hb); have n5_ := Aside0.mk (below_step bl hb); clear HO218; clear HO222; clear HO226; clear BK227; clear HB; have HO218 := n0_; have HO222 := n1_; have HO226 := n2_; have HO231 := n3_; have BK227 := n4_; have HB := n5_; clear n0_ n1_ n2_ n3_ n4_ n5_; (try clear hb); (try clear hb2); (try clear hk); (try clear hi); (try clear ho0)) | ((with_reducible refine gate_dst (N := 9) rfl ?_); refine box_event ?hg (N := 9) ?hd (cs := #[.int .i64 0, .slice none 0 0]) (t := 31) ?hr ?_; (case hd => rfl); (case hg => rfl); (case hr => first | (go_simp; done) | (go_simp; rfl)); intro gb232 hg w138 hbox hb; have n0_ := Aside0.mk (Kd.R_below (rk HO218) hb); have n1_ := Aside0.mk (Kd.R_below (rk HO222) hb); have n2_ := Aside0.mk (Kd.R_below (rk HO226) hb); have n3_ := Aside0.mk (Kd.R_below (rk HO231) hb); have n4_ := Aside0.mk (bb (g := gb227) hb); have n5_ := Aside0.mk (below_step bl hb); have n6_ := Aside0.mk (hbox); have n7_ := Aside0.mk ((sz hg : w.heap.size ≤ gb232)); have n8_ := Aside0.mk ((sz hg : w.heap.size ≤ gb232)); have n9_ := Aside0.mk ((nl hg : gb227 ≠ gb232)); have n10_ := Aside0.mk ((ng hg : gb232 ≠ gb227)); clear HO218; clear HO222; clear HO226; clear HO231; clear BK227; clear HB; have HO218 := n0_; have HO222 := n1_; have HO226 := n2_; have HO231 := n3_; have BK227 := n4_; have HB := n5_; have BK232 := n6_; have GW232 := n7_; have GE232 := n8_; have NB227_232 := n9_; have NB232_227 := n10_; clear n0_ n1_ n2_ n3_ n4_ n5_ n6_ n7_ n8_ n9_ n10_; clear hb hbox hg; have hnb139 := NB232_227.out; have hnc139 := NB227_232.out; have hcz140_0 : w138.cell? ⟨gb232, 0, none⟩ = some (.int .i64 0) := (blk_cell BK232.out 0).trans rfl; have hcz140_1 : w138.cell? ⟨gb232, 1, none⟩ = some (.slice none 0 0) := (blk_cell BK232.out 1).trans rfl; have hfz140_0 := blk_frozen BK232.out 0; have hfz140_1 := blk_frozen BK232.out 1; obtain ⟨Ao141, co141, eo141⟩ := Kd.R_slice HO231.out; subst eo141; have hcz142_0 : w138.cell? ⟨gb227, 0, none⟩ = some (.int .i64 t223) := (blk_cell BK227.out 0).trans rfl; have hcz142_1 : w138.cell? ⟨gb227, 1, none⟩ = some (.slice Ao136 t224.length co136) := (blk_cell BK227.out 1).trans rfl; have hfz142_0 := blk_frozen BK227.out 0; have hfz142_1 := blk_frozen BK227.out 1) | ((with_reducible refine gate_callee (f := 14) rfl ?_); refine goesL_ (some 24) rfl rfl Try.func14 (by kernel_rfl) rfl #[.agg #[.int .i64 t228, .slice Ao141 t229.length co141], .agg #[.int .i64 t223, .slice Ao136 t224.length co136]] rfl am ?_; (with_reducible refine (rowlockref03_Less.calls k t228 _ _ t229 t223 _ _ t224 false _ ?side1 ?side2 ?side3 ?side4 A9.out).mono ?_); (case side1 => refine (Kd.R_reads' (e := 27) (base := w.heap.size) (ok := fun k_ => (((True ∧ some k_ ≠ (.slice Ao131 t216.length co131 : Value).ownBlock) ∧ some k_ ≠ (.slice Ao132 t220.length co132 : Value).ownBlock) ∧ some k_ ≠ (.slice Ao136 t224.length co136 : Value).ownBlock)) (n := t229.length) (c := co141) ?_).2.2; exact (by (with_reducible repeat (first | apply Kd.R_alloc | apply Kd.R_drewN | apply Kd.R_drew)); exact (Kd.R_mono (Kd.R_far (p := ⟨gb232, 1, none⟩) (Kd.R_far (p := ⟨gb232, 0, none⟩) (Kd.R_types HO231.out BK232.out (by decide)) (fun _ hk => hk.2) (.int .i64 t228)) (fun _ hk => hk.2) (.slice Ao141 t229.length co141)) (fun _ h_ => h_.1)))); (case side2 => exact (Kd.R_reads' HO231.out).2.1); (case side3 => refine (Kd.R_reads' (e := 27) (base := w.heap.size) (ok := fun k_ => (((True ∧ some k_ ≠ (.slice Ao131 t216.length co131 : Value).ownBlock) ∧ some k_ ≠ (.slice Ao132 t220.length co132 : Value).ownBlock) ∧ some k_ ≠ (.slice Ao141 t229.length co141 : Value).ownBlock)) (n := t224.length) (c := co136) ?_).2.2; exact (by (with_reducible repeat (first | apply Kd.R_alloc | apply Kd.R_drewN | apply Kd.R_drew)); exact (Kd.R_mono (Kd.R_far (p := ⟨gb232, 1, none⟩) (Kd.R_far (p := ⟨gb232, 0, none⟩) (Kd.R_types HO226.out BK232.out (by decide)) (fun _ hk => hk.2) (.int .i64 t228)) (fun _ hk => hk.2) (.slice Ao141 t229.length co141)) (fun _ h_ => h_.1)))); (case side4 => exact (Kd.R_reads' HO226.out).2.1); rintro e w143 ⟨rfl, hb⟩; refine ⟨_, rfl, ?_⟩; have n0_ := Aside0.mk (Kd.R_below (by (with_reducible repeat (first | apply Kd.R_alloc | apply Kd.R_drewN | apply Kd.R_drew)); exact (Kd.R_mono (Kd.R_far (p := ⟨gb232, 1, none⟩) (Kd.R_far (p := ⟨gb232, 0, none⟩) (Kd.R_types HO218.out BK232.out (by decide)) (fun _ hk => hk.2) (.int .i64 t228)) (fun _ hk => hk.2) (.slice Ao141 t229.length co141)) (fun _ h_ => h_.1))) hb); have n1_ := Aside0.mk (Kd.R_below (by (with_reducible repeat (first | apply Kd.R_alloc | apply Kd.R_drewN | apply Kd.R_drew)); exact (Kd.R_mono (Kd.R_far (p := ⟨gb232, 1, none⟩) (Kd.R_far (p := ⟨gb232, 0, none⟩) (Kd.R_types HO222.out BK232.out (by decide)) (fun _ hk => hk.2) (.int .i64 t228)) (fun _ hk => hk.2) (.slice Ao141 t229.length co141)) (fun _ h_ => h_.1))) hb); have n2_ := Aside0.mk (Kd.R_below (by (with_reducible repeat (first | apply Kd.R_alloc | apply Kd.R_drewN | apply Kd.R_drew)); exact (Kd.R_mono (Kd.R_far (p := ⟨gb232, 1, none⟩) (Kd.R_far (p := ⟨gb232, 0, none⟩) (Kd.R_types HO226.out BK232.out (by decide)) (fun _ hk => hk.2) (.int .i64 t228)) (fun _ hk => hk.2) (.slice Ao141 t229.length co141)) (fun _ h_ => h_.1))) hb); have n3_ := Aside0.mk (Kd.R_below (by (with_reducible repeat (first | apply Kd.R_alloc | apply Kd.R_drewN | apply Kd.R_drew)); exact (Kd.R_mono (Kd.R_far (p := ⟨gb232, 1, none⟩) (Kd.R_far (p := ⟨gb232, 0, none⟩) (Kd.R_types HO231.out BK232.out (by decide)) (fun _ hk => hk.2) (.int .i64 t228)) (fun _ hk => hk.2) (.slice Ao141 t229.length co141)) (fun _ h_ => h_.1))) hb); have n4_ := Aside0.mk (blk_below (g := gb227) (o := .cells #[.int .i64 t223, .slice Ao136 t224.length co136] 31 (0, 0)) (by (with_reducible repeat (first | refine blk_drewN ?_ _ | refine blk_drew ?_ | refine blk_alloc ?_ _)); refine blk_far ?_ NB227_232.out _; (with_reducible repeat (first | refine blk_drewN ?_ _ | refine blk_drew ?_ | refine blk_alloc ?_ _)); refine blk_far ?_ NB227_232.out _; (with_reducible repeat (first | refine blk_drewN ?_ _ | refine blk_drew ?_ | refine blk_alloc ?_ _)); exact BK227.out) hb); have n5_ := Aside0.mk (blk_below (g := gb232) (o := .cells #[.int .i64 t228, .slice Ao141 t229.length co141] 31 (0, 0)) (by (with_reducible repeat (first | refine blk_drewN ?_ _ | refine blk_drew ?_ | refine blk_alloc ?_ _)); refine blk_put (cs := #[.int .i64 t228, .slice none 0 0]) ?_ 1 _ rfl; (with_reducible repeat (first | refine blk_drewN ?_ _ | refine blk_drew ?_ | refine blk_alloc ?_ _)); refine blk_put (cs := #[.int .i64 0, .slice none 0 0]) ?_ 0 _ rfl; (with_reducible repeat (first | refine blk_drewN ?_ _ | refine blk_drew ?_ | refine blk_alloc ?_ _)); exact BK232.out) hb); have n6_ := Aside0.mk (below_step bl hb); clear HO218; clear HO222; clear HO226; clear HO231; clear BK227; clear BK232; clear HB; have HO218 := n0_; have HO222 := n1_; have HO226 := n2_; have HO231 := n3_; have BK227 := n4_; have BK232 := n5_; have HB := n6_; clear n0_ n1_ n2_ n3_ n4_ n5_ n6_; (try clear hb); (try clear hb2); (try clear hk); (try clear hi)) | ((with_reducible refine gate_callee (f := 8) rfl ?_); refine goesL_ (some 26) rfl rfl Try.func8 (by kernel_rfl) rfl #[] rfl am ?_; (with_reducible refine (rowlocklaw03_fixed.calls k  true _ A127.out).mono ?_); rintro e w144 ⟨rfl, hb⟩; refine ⟨_, rfl, ?_⟩; have n0_ := Aside0.mk (Kd.R_below (rk HO218) hb); have n1_ := Aside0.mk (Kd.R_below (rk HO222) hb); have n2_ := Aside0.mk (Kd.R_below (rk HO226) hb); have n3_ := Aside0.mk (Kd.R_below (rk HO231) hb); have n4_ := Aside0.mk (bb (g := gb227) hb); have n5_ := Aside0.mk (bb (g := gb232) hb); have n6_ := Aside0.mk (below_step bl hb); clear HO218; clear HO222; clear HO226; clear HO231; clear BK227; clear BK232; clear HB; have HO218 := n0_; have HO222 := n1_; have HO226 := n2_; have HO231 := n3_; have BK227 := n4_; have BK232 := n5_; have HB := n6_; clear n0_ n1_ n2_ n3_ n4_ n5_ n6_; (try clear hb); (try clear hb2); (try clear hk); (try clear hi)))
      go_ret
      exact ⟨by first | rfl | (simp [errW_none, errW_some] <;> rfl) | (simp [*, errW_none, errW_some] <;> rfl), bl⟩
    · replace c128 := Bool.eq_false_iff.mpr c128
      subst c128
      have H1 : (some false) = some r := by rw [if_neg (show ¬ (false = true) by decide)] at H; exact H
      clear H
      have H := H1
      clear H1
      obtain rfl := Option.some.inj H
      exact absurd hrt.out (by decide)

/-- THE ONE PURE STATEMENT of rowlocklaw03_CalcTimes: yours. -/
def rowlocklaw03_CalcTimes.Pure : Prop := ∀ (a0 : Int) (a1 : Int) (a2 : Int), (Lit.int .u64 a0).wf = true → (Lit.int .u64 a1).wf = true → (Lit.int .u64 a2).wf = true → ∃ k, rowlocklaw03_CalcTimes.f k a0 a1 a2 = some true
theorem rowlocklaw03_CalcTimes.walk (P : rowlocklaw03_CalcTimes.Pure) (a0 : Int) (a1 : Int) (a2 : Int) (w : World) (w0 : (Lit.int .u64 a0).wf = true) (w1 : (Lit.int .u64 a1).wf = true) (w2 : (Lit.int .u64 a2).wf = true) :
    Calls Try.prog 4 #[.int .u64 a0, .int .u64 a1, .int .u64 a2] w fun e w' => e = .returned (.bool true) ∧ Below w.heap.size w w' := by
  obtain ⟨k, h⟩ := P a0 a1 a2 w0 w1 w2
  refine (rowlocklaw03_CalcTimes.calls k a0 a1 a2 true w ⟨rfl⟩ h).mono ?_
  rintro e w' ⟨rfl, hd⟩
  exact ⟨rfl, hd⟩

end Go.Proofs.Ytneihjdkaogkiaa.PCalcTimes
