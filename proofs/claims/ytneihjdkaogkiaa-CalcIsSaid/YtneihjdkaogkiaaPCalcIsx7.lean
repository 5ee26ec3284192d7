-- printed for this claim by a copy of the printer that this session turned (wip/pp)
import Derived.Test.YtneihjdkaogkiaaPCalcIsx0
import Derived.Test.YtneihjdkaogkiaaPCalcIsx3
import Derived.Test.YtneihjdkaogkiaaPCalcIsx4
import Derived.Test.YtneihjdkaogkiaaPCalcIsx5
import Derived.Test.YtneihjdkaogkiaaPCalcIsx6
namespace Go.Proofs.Ytneihjdkaogkiaa.PCalcIs
open Go.RowKit Go.Proofs.YtneihjdkaogkiaaW.PrintWords Go.Proofs.YtneihjdkaogkiaaW.PrintLast Go.Proofs.YtneihjdkaogkiaaW.PrintMore
attribute [local go_sem] max2_int min2_int max_two min_two max_three min_three max_four min_four   -- for this text's walks alone
set_option linter.unusedVariables false
set_option linter.unusedSimpArgs false

/-! ### rowlocklaw03_CalcIs: function 5 -/
def rowlocklaw03_CalcIs.f (k : Nat) (a0 : Int) (a1 : Int) : Option (Bool) := (rowlockref03_Of.f k a0).bind fun bt277 => ((rowlockref03_Of.f k a1).bind fun bt281 => ((calc_Add.f a0 a1).bind fun bt287 => ((calc_Sub.f a0 a1).bind fun bt289 => ((calc_Mul.f a0 a1).bind fun bt291 => ((calc_Neg.f a0).bind fun bt293 => ((rowlocklaw03_fixed.f k).bind fun t295 => (if t295 = true then ((rowlockref03_Plus.f k bt277.1 bt277.2 bt281.1 bt281.2).bind fun bt296 => ((rowlocklaw03_is.f k bt287.1 bt287.2 bt296.1 bt296.2).bind fun t300 => (if t300 = true then ((rowlockref03_Turn.f bt281.1 bt281.2).bind fun bt301 => ((rowlockref03_Plus.f k bt277.1 bt277.2 bt301.1 bt301.2).bind fun bt305 => ((rowlocklaw03_is.f k bt289.1 bt289.2 bt305.1 bt305.2).bind fun t309 => (if t309 = true then ((rowlockref03_Times.f k bt277.1 bt277.2 bt281.1 bt281.2).bind fun bt310 => ((rowlocklaw03_is.f k bt291.1 bt291.2 bt310.1 bt310.2).bind fun t314 => (if t314 = true then ((rowlockref03_Turn.f bt277.1 bt277.2).bind fun bt315 => ((rowlocklaw03_is.f k bt293.1 bt293.2 bt315.1 bt315.2).bind fun t319 => (some t319))) else (some false)))) else (some false))))) else (some false)))) else (some false))))))))
theorem rowlocklaw03_CalcIs.mono : ∀ a0 a1 k, LeO (rowlocklaw03_CalcIs.f k a0 a1) (rowlocklaw03_CalcIs.f (k + 1) a0 a1) := by
  intro a0 a1 k
  unfold rowlocklaw03_CalcIs.f
  repeat' first
      | (with_reducible exact rowlocklaw03_fixed.mono _)
      | (with_reducible exact rowlocklaw03_is.mono _ _ _ _ _)
      | (with_reducible exact rowlockref03_Of.mono _ _)
      | (with_reducible exact rowlockref03_Plus.mono _ _ _ _ _)
      | (with_reducible exact rowlockref03_Times.mono _ _ _ _ _)
      | (with_reducible exact LeO.refl _)
      | (with_reducible exact LeO.none _)
      | (with_reducible refine LeO.ite ?_ ?_)
      | (with_reducible refine LeO.bind ?_ (fun _ => ?_))
      | exact rowlocklaw03_fixed.mono _
      | exact rowlocklaw03_is.mono _ _ _ _ _
      | exact rowlockref03_Of.mono _ _
      | exact rowlockref03_Plus.mono _ _ _ _ _
      | exact rowlockref03_Times.mono _ _ _ _ _
      | exact LeO.none _
      | refine LeO.ite ?_ ?_
      | refine LeO.bind ?_ (fun _ => ?_)
def rowlocklaw03_CalcIs.T6 : Bool × List (List Nat × List Nat) := (true, [([], []), ([0, 0], [0]), ([1], [1]), ([1], [1]), ([1], [1]), ([1], [1]), ([4, 5, 1, 1], [1, 4, 5]), ([2, 3, 6, 6, 1], [1, 2, 3, 6]), ([1, 7], [1, 7]), ([8, 7], [8]), ([9], [9]), ([9], [9]), ([9], [9]), ([9], [9]), ([13, 9, 9], [9, 13]), ([12, 14, 14, 9], [9, 12, 14]), ([10, 11, 15, 15, 9], [9, 10, 11, 15]), ([9, 16], [9, 16]), ([17, 16], [17]), ([18], [18]), ([18], [18]), ([18], [18]), ([18], [18]), ([21, 22, 18, 18], [18, 21, 22]), ([19, 20, 23, 23, 18], [18, 19, 20, 23]), ([18, 24], [18, 24]), ([25, 24], [25]), ([26], [26]), ([26], [26]), ([26], [26]), ([29, 26, 26], [26, 29]), ([27, 28, 30, 30, 26], [26, 27, 28, 30]), ([26, 31], [26, 31]), ([32, 31, 0, 1, 2, 3, 4, 5, 6, 7, 8, 9, 10, 11, 12, 13, 14, 15, 16, 17, 18, 19, 20, 21, 22, 23, 24, 25, 26, 27, 28, 29, 30, 31, 32], [32])])
def rowlocklaw03_CalcIs.B6 : List Nat := [0, 1, 3, 3, 3, 3, 51, 127, 255, 511, 1023, 1023, 1023, 1023, 9215, 29695, 65535, 131071, 262143, 524287, 524287, 524287, 524287, 6815743, 16777215, 33554431, 67108863, 134217727, 134217727, 134217727, 671088639, 2147483647, 4294967295, 8589934591]
theorem rowlocklaw03_CalcIs.tab6 : rtab .any (opsOf Try.f5 6) = rowlocklaw03_CalcIs.T6 := by kernel_rfl
theorem rowlocklaw03_CalcIs.bits6 : waitsOk rowlocklaw03_CalcIs.T6.2 rowlocklaw03_CalcIs.B6 = true := by kernel_rfl
set_option maxHeartbeats 8000000 in
set_option maxRecDepth 100000 in
theorem rowlocklaw03_CalcIs.calls (k : Nat) (a0 : Int) (a1 : Int) (r : Bool) (w : World) (hrt : Aside0 (r = true)) (h : rowlocklaw03_CalcIs.f k a0 a1 = some r) :
    Calls Try.prog 5 #[.int .i64 a0, .int .i64 a1] w fun e w' => e = .returned (.bool r) ∧ Below w.heap.size w w' := by
  have hu31 := Try.underlying31
  have HB := Aside0.mk (Below.refl w.heap.size w)
  have H : ((rowlockref03_Of.f k a0).bind fun bt277 => ((rowlockref03_Of.f k a1).bind fun bt281 => ((calc_Add.f a0 a1).bind fun bt287 => ((calc_Sub.f a0 a1).bind fun bt289 => ((calc_Mul.f a0 a1).bind fun bt291 => ((calc_Neg.f a0).bind fun bt293 => ((rowlocklaw03_fixed.f k).bind fun t295 => (if t295 = true then ((rowlockref03_Plus.f k bt277.1 bt277.2 bt281.1 bt281.2).bind fun bt296 => ((rowlocklaw03_is.f k bt287.1 bt287.2 bt296.1 bt296.2).bind fun t300 => (if t300 = true then ((rowlockref03_Turn.f bt281.1 bt281.2).bind fun bt301 => ((rowlockref03_Plus.f k bt277.1 bt277.2 bt301.1 bt301.2).bind fun bt305 => ((rowlocklaw03_is.f k bt289.1 bt289.2 bt305.1 bt305.2).bind fun t309 => (if t309 = true then ((rowlockref03_Times.f k bt277.1 bt277.2 bt281.1 bt281.2).bind fun bt310 => ((rowlocklaw03_is.f k bt291.1 bt291.2 bt310.1 bt310.2).bind fun t314 => (if t314 = true then ((rowlockref03_Turn.f bt277.1 bt277.2).bind fun bt315 => ((rowlocklaw03_is.f k bt293.1 bt293.2 bt315.1 bt315.2).bind fun t319 => (some t319))) else (some false)))) else (some false))))) else (some false)))) else (some false))))))))) = some r := h
  clear h
  replace H := Option.bind_eq_some_iff.mp H
  obtain ⟨⟨t277, t278⟩, A30, H⟩ := H
  replace H : ((rowlockref03_Of.f k a1).bind fun bt281 => ((calc_Add.f a0 a1).bind fun bt287 => ((calc_Sub.f a0 a1).bind fun bt289 => ((calc_Mul.f a0 a1).bind fun bt291 => ((calc_Neg.f a0).bind fun bt293 => ((rowlocklaw03_fixed.f k).bind fun t295 => (if t295 = true then ((rowlockref03_Plus.f k t277 t278 bt281.1 bt281.2).bind fun bt296 => ((rowlocklaw03_is.f k bt287.1 bt287.2 bt296.1 bt296.2).bind fun t300 => (if t300 = true then ((rowlockref03_Turn.f bt281.1 bt281.2).bind fun bt301 => ((rowlockref03_Plus.f k t277 t278 bt301.1 bt301.2).bind fun bt305 => ((rowlocklaw03_is.f k bt289.1 bt289.2 bt305.1 bt305.2).bind fun t309 => (if t309 = true then ((rowlockref03_Times.f k t277 t278 bt281.1 bt281.2).bind fun bt310 => ((rowlocklaw03_is.f k bt291.1 bt291.2 bt310.1 bt310.2).bind fun t314 => (if t314 = true then ((rowlockref03_Turn.f t277 t278).bind fun bt315 => ((rowlocklaw03_is.f k bt293.1 bt293.2 bt315.1 bt315.2).bind fun t319 => (some t319))) else (some false)))) else (some false))))) else (some false)))) else (some false)))))))) = some r := H
  have A3 := Aside0.mk A30
  clear A30
  replace H := Option.bind_eq_some_iff.mp H
  obtain ⟨⟨t281, t282⟩, A40, H⟩ := H
  replace H : ((calc_Add.f a0 a1).bind fun bt287 => ((calc_Sub.f a0 a1).bind fun bt289 => ((calc_Mul.f a0 a1).bind fun bt291 => ((calc_Neg.f a0).bind fun bt293 => ((rowlocklaw03_fixed.f k).bind fun t295 => (if t295 = true then ((rowlockref03_Plus.f k t277 t278 t281 t282).bind fun bt296 => ((rowlocklaw03_is.f k bt287.1 bt287.2 bt296.1 bt296.2).bind fun t300 => (if t300 = true then ((rowlockref03_Turn.f t281 t282).bind fun bt301 => ((rowlockref03_Plus.f k t277 t278 bt301.1 bt301.2).bind fun bt305 => ((rowlocklaw03_is.f k bt289.1 bt289.2 bt305.1 bt305.2).bind fun t309 => (if t309 = true then ((rowlockref03_Times.f k t277 t278 t281 t282).bind fun bt310 => ((rowlocklaw03_is.f k bt291.1 bt291.2 bt310.1 bt310.2).bind fun t314 => (if t314 = true then ((rowlockref03_Turn.f t277 t278).bind fun bt315 => ((rowlocklaw03_is.f k bt293.1 bt293.2 bt315.1 bt315.2).bind fun t319 => (some t319))) else (some false)))) else (some false))))) else (some false)))) else (some false))))))) = some r := H
  have A4 := Aside0.mk A40
  clear A40
  replace H := Option.bind_eq_some_iff.mp H
  obtain ⟨⟨t287, t288⟩, A50, H⟩ := H
  replace H : ((calc_Sub.f a0 a1).bind fun bt289 => ((calc_Mul.f a0 a1).bind fun bt291 => ((calc_Neg.f a0).bind fun bt293 => ((rowlocklaw03_fixed.f k).bind fun t295 => (if t295 = true then ((rowlockref03_Plus.f k t277 t278 t281 t282).bind fun bt296 => ((rowlocklaw03_is.f k t287 t288 bt296.1 bt296.2).bind fun t300 => (if t300 = true then ((rowlockref03_Turn.f t281 t282).bind fun bt301 => ((rowlockref03_Plus.f k t277 t278 bt301.1 bt301.2).bind fun bt305 => ((rowlocklaw03_is.f k bt289.1 bt289.2 bt305.1 bt305.2).bind fun t309 => (if t309 = true then ((rowlockref03_Times.f k t277 t278 t281 t282).bind fun bt310 => ((rowlocklaw03_is.f k bt291.1 bt291.2 bt310.1 bt310.2).bind fun t314 => (if t314 = true then ((rowlockref03_Turn.f t277 t278).bind fun bt315 => ((rowlocklaw03_is.f k bt293.1 bt293.2 bt315.1 bt315.2).bind fun t319 => (some t319))) else (some false)))) else (some false))))) else (some false)))) else (some false)))))) = some r := H
  have A5 := Aside0.mk A50
  clear A50
  replace H := Option.bind_eq_some_iff.mp H
  obtain ⟨⟨t289, t290⟩, A60, H⟩ := H
  replace H : ((calc_Mul.f a0 a1).bind fun bt291 => ((calc_Neg.f a0).bind fun bt293 => ((rowlocklaw03_fixed.f k).bind fun t295 => (if t295 = true then ((rowlockref03_Plus.f k t277 t278 t281 t282).bind fun bt296 => ((rowlocklaw03_is.f k t287 t288 bt296.1 bt296.2).bind fun t300 => (if t300 = true then ((rowlockref03_Turn.f t281 t282).bind fun bt301 => ((rowlockref03_Plus.f k t277 t278 bt301.1 bt301.2).bind fun bt305 => ((rowlocklaw03_is.f k t289 t290 bt305.1 bt305.2).bind fun t309 => (if t309 = true then ((rowlockref03_Times.f k t277 t278 t281 t282).bind fun bt310 => ((rowlocklaw03_is.f k bt291.1 bt291.2 bt310.1 bt310.2).bind fun t314 => (if t314 = true then ((rowlockref03_Turn.f t277 t278).bind fun bt315 => ((rowlocklaw03_is.f k bt293.1 bt293.2 bt315.1 bt315.2).bind fun t319 => (some t319))) else (some false)))) else (some false))))) else (some false)))) else (some false))))) = some r := H
  have A6 := Aside0.mk A60
  clear A60
  replace H := Option.bind_eq_some_iff.mp H
  obtain ⟨⟨t291, t292⟩, A70, H⟩ := H
  replace H : ((calc_Neg.f a0).bind fun bt293 => ((rowlocklaw03_fixed.f k).bind fun t295 => (if t295 = true then ((rowlockref03_Plus.f k t277 t278 t281 t282).bind fun bt296 => ((rowlocklaw03_is.f k t287 t288 bt296.1 bt296.2).bind fun t300 => (if t300 = true then ((rowlockref03_Turn.f t281 t282).bind fun bt301 => ((rowlockref03_Plus.f k t277 t278 bt301.1 bt301.2).bind fun bt305 => ((rowlocklaw03_is.f k t289 t290 bt305.1 bt305.2).bind fun t309 => (if t309 = true then ((rowlockref03_Times.f k t277 t278 t281 t282).bind fun bt310 => ((rowlocklaw03_is.f k t291 t292 bt310.1 bt310.2).bind fun t314 => (if t314 = true then ((rowlockref03_Turn.f t277 t278).bind fun bt315 => ((rowlocklaw03_is.f k bt293.1 bt293.2 bt315.1 bt315.2).bind fun t319 => (some t319))) else (some false)))) else (some false))))) else (some false)))) else (some false)))) = some r := H
  have A7 := Aside0.mk A70
  clear A70
  replace H := Option.bind_eq_some_iff.mp H
  obtain ⟨⟨t293, t294⟩, A80, H⟩ := H
  replace H : ((rowlocklaw03_fixed.f k).bind fun t295 => (if t295 = true then ((rowlockref03_Plus.f k t277 t278 t281 t282).bind fun bt296 => ((rowlocklaw03_is.f k t287 t288 bt296.1 bt296.2).bind fun t300 => (if t300 = true then ((rowlockref03_Turn.f t281 t282).bind fun bt301 => ((rowlockref03_Plus.f k t277 t278 bt301.1 bt301.2).bind fun bt305 => ((rowlocklaw03_is.f k t289 t290 bt305.1 bt305.2).bind fun t309 => (if t309 = true then ((rowlockref03_Times.f k t277 t278 t281 t282).bind fun bt310 => ((rowlocklaw03_is.f k t291 t292 bt310.1 bt310.2).bind fun t314 => (if t314 = true then ((rowlockref03_Turn.f t277 t278).bind fun bt315 => ((rowlocklaw03_is.f k t293 t294 bt315.1 bt315.2).bind fun t319 => (some t319))) else (some false)))) else (some false))))) else (some false)))) else (some false))) = some r := H
  have A8 := Aside0.mk A80
  clear A80
  replace H := Option.bind_eq_some_iff.mp H
  obtain ⟨t295, A90, H⟩ := H
  replace H : (if t295 = true then ((rowlockref03_Plus.f k t277 t278 t281 t282).bind fun bt296 => ((rowlocklaw03_is.f k t287 t288 bt296.1 bt296.2).bind fun t300 => (if t300 = true then ((rowlockref03_Turn.f t281 t282).bind fun bt301 => ((rowlockref03_Plus.f k t277 t278 bt301.1 bt301.2).bind fun bt305 => ((rowlocklaw03_is.f k t289 t290 bt305.1 bt305.2).bind fun t309 => (if t309 = true then ((rowlockref03_Times.f k t277 t278 t281 t282).bind fun bt310 => ((rowlocklaw03_is.f k t291 t292 bt310.1 bt310.2).bind fun t314 => (if t314 = true then ((rowlockref03_Turn.f t277 t278).bind fun bt315 => ((rowlocklaw03_is.f k t293 t294 bt315.1 bt315.2).bind fun t319 => (some t319))) else (some false)))) else (some false))))) else (some false)))) else (some false)) = some r := H
  have A9 := Aside0.mk A90
  clear A90
  by_cases c10 : t295 = true
  · subst c10
    have H1 : ((rowlockref03_Plus.f k t277 t278 t281 t282).bind fun bt296 => ((rowlocklaw03_is.f k t287 t288 bt296.1 bt296.2).bind fun t300 => (if t300 = true then ((rowlockref03_Turn.f t281 t282).bind fun bt301 => ((rowlockref03_Plus.f k t277 t278 bt301.1 bt301.2).bind fun bt305 => ((rowlocklaw03_is.f k t289 t290 bt305.1 bt305.2).bind fun t309 => (if t309 = true then ((rowlockref03_Times.f k t277 t278 t281 t282).bind fun bt310 => ((rowlocklaw03_is.f k t291 t292 bt310.1 bt310.2).bind fun t314 => (if t314 = true then ((rowlockref03_Turn.f t277 t278).bind fun bt315 => ((rowlocklaw03_is.f k t293 t294 bt315.1 bt315.2).bind fun t319 => (some t319))) else (some false)))) else (some false))))) else (some false)))) = some r := by rw [if_pos rfl] at H; exact H
    clear H
    have H := H1
    clear H1
    replace H := Option.bind_eq_some_iff.mp H
    obtain ⟨⟨t296, t297⟩, A110, H⟩ := H
    replace H : ((rowlocklaw03_is.f k t287 t288 t296 t297).bind fun t300 => (if t300 = true then ((rowlockref03_Turn.f t281 t282).bind fun bt301 => ((rowlockref03_Plus.f k t277 t278 bt301.1 bt301.2).bind fun bt305 => ((rowlocklaw03_is.f k t289 t290 bt305.1 bt305.2).bind fun t309 => (if t309 = true then ((rowlockref03_Times.f k t277 t278 t281 t282).bind fun bt310 => ((rowlocklaw03_is.f k t291 t292 bt310.1 bt310.2).bind fun t314 => (if t314 = true then ((rowlockref03_Turn.f t277 t278).bind fun bt315 => ((rowlocklaw03_is.f k t293 t294 bt315.1 bt315.2).bind fun t319 => (some t319))) else (some false)))) else (some false))))) else (some false))) = some r := H
    have A11 := Aside0.mk A110
    clear A110
    replace H := Option.bind_eq_some_iff.mp H
    obtain ⟨t300, A120, H⟩ := H
    replace H : (if t300 = true then ((rowlockref03_Turn.f t281 t282).bind fun bt301 => ((rowlockref03_Plus.f k t277 t278 bt301.1 bt301.2).bind fun bt305 => ((rowlocklaw03_is.f k t289 t290 bt305.1 bt305.2).bind fun t309 => (if t309 = true then ((rowlockref03_Times.f k t277 t278 t281 t282).bind fun bt310 => ((rowlocklaw03_is.f k t291 t292 bt310.1 bt310.2).bind fun t314 => (if t314 = true then ((rowlockref03_Turn.f t277 t278).bind fun bt315 => ((rowlocklaw03_is.f k t293 t294 bt315.1 bt315.2).bind fun t319 => (some t319))) else (some false)))) else (some false))))) else (some false)) = some r := H
    have A12 := Aside0.mk A120
    clear A120
    by_cases c13 : t300 = true
    · subst c13
      have H1 : ((rowlockref03_Turn.f t281 t282).bind fun bt301 => ((rowlockref03_Plus.f k t277 t278 bt301.1 bt301.2).bind fun bt305 => ((rowlocklaw03_is.f k t289 t290 bt305.1 bt305.2).bind fun t309 => (if t309 = true then ((rowlockref03_Times.f k t277 t278 t281 t282).bind fun bt310 => ((rowlocklaw03_is.f k t291 t292 bt310.1 bt310.2).bind fun t314 => (if t314 = true then ((rowlockref03_Turn.f t277 t278).bind fun bt315 => ((rowlocklaw03_is.f k t293 t294 bt315.1 bt315.2).bind fun t319 => (some t319))) else (some false)))) else (some false))))) = some r := by rw [if_pos rfl] at H; exact H
      clear H
      have H := H1
      clear H1
      replace H := Option.bind_eq_some_iff.mp H
      obtain ⟨⟨t301, t302⟩, A140, H⟩ := H
      replace H : ((rowlockref03_Plus.f k t277 t278 t301 t302).bind fun bt305 => ((rowlocklaw03_is.f k t289 t290 bt305.1 bt305.2).bind fun t309 => (if t309 = true then ((rowlockref03_Times.f k t277 t278 t281 t282).bind fun bt310 => ((rowlocklaw03_is.f k t291 t292 bt310.1 bt310.2).bind fun t314 => (if t314 = true then ((rowlockref03_Turn.f t277 t278).bind fun bt315 => ((rowlocklaw03_is.f k t293 t294 bt315.1 bt315.2).bind fun t319 => (some t319))) else (some false)))) else (some false)))) = some r := H
      have A14 := Aside0.mk A140
      clear A140
      replace H := Option.bind_eq_some_iff.mp H
      obtain ⟨⟨t305, t306⟩, A150, H⟩ := H
      replace H : ((rowlocklaw03_is.f k t289 t290 t305 t306).bind fun t309 => (if t309 = true then ((rowlockref03_Times.f k t277 t278 t281 t282).bind fun bt310 => ((rowlocklaw03_is.f k t291 t292 bt310.1 bt310.2).bind fun t314 => (if t314 = true then ((rowlockref03_Turn.f t277 t278).bind fun bt315 => ((rowlocklaw03_is.f k t293 t294 bt315.1 bt315.2).bind fun t319 => (some t319))) else (some false)))) else (some false))) = some r := H
      have A15 := Aside0.mk A150
      clear A150
      replace H := Option.bind_eq_some_iff.mp H
      obtain ⟨t309, A160, H⟩ := H
      replace H : (if t309 = true then ((rowlockref03_Times.f k t277 t278 t281 t282).bind fun bt310 => ((rowlocklaw03_is.f k t291 t292 bt310.1 bt310.2).bind fun t314 => (if t314 = true then ((rowlockref03_Turn.f t277 t278).bind fun bt315 => ((rowlocklaw03_is.f k t293 t294 bt315.1 bt315.2).bind fun t319 => (some t319))) else (some false)))) else (some false)) = some r := H
      have A16 := Aside0.mk A160
      clear A160
      by_cases c17 : t309 = true
      · subst c17
        have H1 : ((rowlockref03_Times.f k t277 t278 t281 t282).bind fun bt310 => ((rowlocklaw03_is.f k t291 t292 bt310.1 bt310.2).bind fun t314 => (if t314 = true then ((rowlockref03_Turn.f t277 t278).bind fun bt315 => ((rowlocklaw03_is.f k t293 t294 bt315.1 bt315.2).bind fun t319 => (some t319))) else (some false)))) = some r := by rw [if_pos rfl] at H; exact H
        clear H
        have H := H1
        clear H1
        replace H := Option.bind_eq_some_iff.mp H
        obtain ⟨⟨t310, t311⟩, A180, H⟩ := H
        replace H : ((rowlocklaw03_is.f k t291 t292 t310 t311).bind fun t314 => (if t314 = true then ((rowlockref03_Turn.f t277 t278).bind fun bt315 => ((rowlocklaw03_is.f k t293 t294 bt315.1 bt315.2).bind fun t319 => (some t319))) else (some false))) = some r := H
        have A18 := Aside0.mk A180
        clear A180
        replace H := Option.bind_eq_some_iff.mp H
        obtain ⟨t314, A190, H⟩ := H
        replace H : (if t314 = true then ((rowlockref03_Turn.f t277 t278).bind fun bt315 => ((rowlocklaw03_is.f k t293 t294 bt315.1 bt315.2).bind fun t319 => (some t319))) else (some false)) = some r := H
        have A19 := Aside0.mk A190
        clear A190
        by_cases c20 : t314 = true
        · subst c20
          have H1 : ((rowlockref03_Turn.f t277 t278).bind fun bt315 => ((rowlocklaw03_is.f k t293 t294 bt315.1 bt315.2).bind fun t319 => (some t319))) = some r := by rw [if_pos rfl] at H; exact H
          clear H
          have H := H1
          clear H1
          replace H := Option.bind_eq_some_iff.mp H
          obtain ⟨⟨t315, t316⟩, A210, H⟩ := H
          replace H : ((rowlocklaw03_is.f k t293 t294 t315 t316).bind fun t319 => (some t319)) = some r := H
          have A21 := Aside0.mk A210
          clear A210
          replace H := Option.bind_eq_some_iff.mp H
          obtain ⟨t319, A220, H⟩ := H
          replace H : (some t319) = some r := H
          have A22 := Aside0.mk A220
          clear A220
          obtain rfl := Option.some.inj H
          go_enter Try.func5, Try.ntmps5
          try go_wp2_with (first | ((with_reducible refine gate_callee (f := 16) rfl ?_); refine goesL_ (some 16) rfl rfl Try.func16 (by kernel_rfl) rfl #[.int .i64 a0] rfl (by (try simp only [List.map_toArray, List.map_cons, List.map_nil]); first | done | rfl | (simp only [List.length_drop, List.length_take]; rfl)) ?_; (with_reducible refine (rowlockref03_Of.calls k a0 t277 t278 _ A3.out).mono ?_); rintro e w23 ⟨v279, rfl, ho0, hb⟩; refine ⟨_, rfl, ?_⟩; have n0_ := Aside0.mk (Kd.R_lower ho0 (below_size bl)); have n1_ := Aside0.mk (below_step bl hb); clear HB; have HO280 := n0_; have HB := n1_; clear n0_ n1_; (try clear hb); (try clear hb2); (try clear hk); (try clear hi); (try clear ho0)) | ((with_reducible refine gate_callee (f := 16) rfl ?_); refine goesL_ (some 18) rfl rfl Try.func16 (by kernel_rfl) rfl #[.int .i64 a1] rfl (by (try simp only [List.map_toArray, List.map_cons, List.map_nil]); first | done | rfl | (simp only [List.length_drop, List.length_take]; rfl)) ?_; (with_reducible refine (rowlockref03_Of.calls k a1 t281 t282 _ A4.out).mono ?_); rintro e w24 ⟨v283, rfl, ho0, hb⟩; refine ⟨_, rfl, ?_⟩; have n0_ := Aside0.mk (Kd.R_elder' (by (with_reducible repeat (first | apply Kd.R_alloc | apply Kd.R_drewN | apply Kd.R_drew)); exact HO280.out) (Kd.R_base ho0) hb); have n1_ := Aside0.mk (Kd.R_lower (Kd.R_new' ho0 (Kd.R_lt (by (with_reducible repeat (first | apply Kd.R_alloc | apply Kd.R_drewN | apply Kd.R_drew)); exact HO280.out))) (below_size bl)); have n2_ := Aside0.mk (below_step bl hb); clear HO280; clear HB; have HO280 := n0_; have HO284 := n1_; have HB := n2_; clear n0_ n1_ n2_; (try clear hb); (try clear hb2); (try clear hk); (try clear hi); (try clear ho0)) | ((with_reducible refine gate_dst (N := 5) rfl ?_); refine box_event ?hg (N := 5) ?hd (cs := #[.int .i64 0, .slice none 0 0]) (t := 31) ?hr ?_; (case hd => rfl); (case hg => rfl); (case hr => first | (go_simp; done) | (go_simp; rfl)); intro gb285 hg w25 hbox hb; have n0_ := Aside0.mk (Kd.R_below (by (with_reducible repeat (first | apply Kd.R_alloc | apply Kd.R_drewN | apply Kd.R_drew)); exact HO280.out) hb); have n1_ := Aside0.mk (Kd.R_below (by (with_reducible repeat (first | apply Kd.R_alloc | apply Kd.R_drewN | apply Kd.R_drew)); exact HO284.out) hb); have n2_ := Aside0.mk (below_step bl hb); have n3_ := Aside0.mk (hbox); have n4_ := Aside0.mk ((by rw [hg]; exact (below_size bl) : w.heap.size ≤ gb285)); have n5_ := Aside0.mk ((by rw [hg]; exact (below_size bl) : w.heap.size ≤ gb285)); clear HO280; clear HO284; clear HB; have HO280 := n0_; have HO284 := n1_; have HB := n2_; have BK285 := n3_; have GW285 := n4_; have GE285 := n5_; clear n0_ n1_ n2_ n3_ n4_ n5_; clear hb hbox hg) | ((with_reducible refine gate_dst (N := 6) rfl ?_); refine box_event ?hg (N := 6) ?hd (cs := #[.int .i64 0, .slice none 0 0]) (t := 31) ?hr ?_; (case hd => rfl); (case hg => rfl); (case hr => first | (go_simp; done) | (go_simp; rfl)); intro gb286 hg w26 hbox hb; have n0_ := Aside0.mk (Kd.R_below (by (with_reducible repeat (first | apply Kd.R_alloc | apply Kd.R_drewN | apply Kd.R_drew)); exact HO280.out) hb); have n1_ := Aside0.mk (Kd.R_below (by (with_reducible repeat (first | apply Kd.R_alloc | apply Kd.R_drewN | apply Kd.R_drew)); exact HO284.out) hb); have n2_ := Aside0.mk (blk_below (g := gb285) (o := .cells #[.int .i64 0, .slice none 0 0] 31 (0, 0)) pk hb); have n3_ := Aside0.mk (below_step bl hb); have n4_ := Aside0.mk (hbox); have n5_ := Aside0.mk ((by rw [hg]; exact (below_size bl) : w.heap.size ≤ gb286)); have n6_ := Aside0.mk ((by rw [hg]; exact (below_size bl) : w.heap.size ≤ gb286)); have n7_ := Aside0.mk ((by rw [hg]; exact Nat.ne_of_lt (blk_lt (g := gb285) (o := .cells #[.int .i64 0, .slice none 0 0] 31 (0, 0)) pk) : gb285 ≠ gb286)); have n8_ := Aside0.mk ((by rw [hg]; exact Nat.ne_of_gt (blk_lt (g := gb285) (o := .cells #[.int .i64 0, .slice none 0 0] 31 (0, 0)) pk) : gb286 ≠ gb285)); clear HO280; clear HO284; clear BK285; clear HB; have HO280 := n0_; have HO284 := n1_; have BK285 := n2_; have HB := n3_; have BK286 := n4_; have GW286 := n5_; have GE286 := n6_; have NB285_286 := n7_; have NB286_285 := n8_; clear n0_ n1_ n2_ n3_ n4_ n5_ n6_ n7_ n8_; clear hb hbox hg; have hnb27 := NB285_286.out; have hnc27 := NB286_285.out; have hcz28_0 : w26.cell? ⟨gb285, 0, none⟩ = some (.int .i64 0) := (blk_cell BK285.out 0).trans rfl; have hcz28_1 : w26.cell? ⟨gb285, 1, none⟩ = some (.slice none 0 0) := (blk_cell BK285.out 1).trans rfl; have hfz28_0 := blk_frozen BK285.out 0; have hfz28_1 := blk_frozen BK285.out 1; obtain ⟨Ao29, co29, eo29⟩ := Kd.R_slice HO280.out; subst eo29; have hcz30_0 : w26.cell? ⟨gb286, 0, none⟩ = some (.int .i64 0) := (blk_cell BK286.out 0).trans rfl; have hcz30_1 : w26.cell? ⟨gb286, 1, none⟩ = some (.slice none 0 0) := (blk_cell BK286.out 1).trans rfl; have hfz30_0 := blk_frozen BK286.out 0; have hfz30_1 := blk_frozen BK286.out 1; obtain ⟨Ao31, co31, eo31⟩ := Kd.R_slice HO284.out; subst eo31) | ((with_reducible refine gate_callee (f := 17) rfl ?_); refine goesL_ (some 22) rfl rfl Try.func17 (by kernel_rfl) rfl #[.int .i64 a0, .int .i64 a1] rfl (by (try simp only [List.map_toArray, List.map_cons, List.map_nil]); first | done | rfl | (simp only [List.length_drop, List.length_take]; rfl)) ?_; (with_reducible refine (calc_Add.calls a0 a1 t287 t288 _ A5.out).mono ?_); rintro e w32 ⟨rfl, hb⟩; refine ⟨_, rfl, ?_⟩; have n0_ := Aside0.mk (Kd.R_below (by (with_reducible repeat (first | apply Kd.R_alloc | apply Kd.R_drewN | apply Kd.R_drew)); exact (Kd.R_mono (Kd.R_mono (Kd.R_far (p := ⟨gb286, 1, none⟩) (Kd.R_far (p := ⟨gb286, 0, none⟩) (Kd.R_far (p := ⟨gb285, 1, none⟩) (Kd.R_far (p := ⟨gb285, 0, none⟩) (Kd.R_types (Kd.R_types HO280.out BK285.out (by decide)) BK286.out (by decide)) (fun _ hk => hk.1.2) (.int .i64 t277)) (fun _ hk => hk.1.2) (.slice Ao29 t278.length co29)) (fun _ hk => hk.2) (.int .i64 t281)) (fun _ hk => hk.2) (.slice Ao31 t282.length co31)) (fun _ h_ => h_.1)) (fun _ h_ => h_.1))) hb); have n1_ := Aside0.mk (Kd.R_below (by (with_reducible repeat (first | apply Kd.R_alloc | apply Kd.R_drewN | apply Kd.R_drew)); exact (Kd.R_mono (Kd.R_mono (Kd.R_far (p := ⟨gb286, 1, none⟩) (Kd.R_far (p := ⟨gb286, 0, none⟩) (Kd.R_far (p := ⟨gb285, 1, none⟩) (Kd.R_far (p := ⟨gb285, 0, none⟩) (Kd.R_types (Kd.R_types HO284.out BK285.out (by decide)) BK286.out (by decide)) (fun _ hk => hk.1.2) (.int .i64 t277)) (fun _ hk => hk.1.2) (.slice Ao29 t278.length co29)) (fun _ hk => hk.2) (.int .i64 t281)) (fun _ hk => hk.2) (.slice Ao31 t282.length co31)) (fun _ h_ => h_.1)) (fun _ h_ => h_.1))) hb); have n2_ := Aside0.mk (blk_below (g := gb285) (o := .cells #[.int .i64 t277, .slice Ao29 t278.length co29] 31 (0, 0)) (by (with_reducible repeat (first | refine blk_drewN ?_ _ | refine blk_drew ?_ | refine blk_alloc ?_ _)); refine blk_far ?_ NB285_286.out _; (with_reducible repeat (first | refine blk_drewN ?_ _ | refine blk_drew ?_ | refine blk_alloc ?_ _)); refine blk_far ?_ NB285_286.out _; (with_reducible repeat (first | refine blk_drewN ?_ _ | refine blk_drew ?_ | refine blk_alloc ?_ _)); refine blk_put (cs := #[.int .i64 t277, .slice none 0 0]) ?_ 1 _ rfl; (with_reducible repeat (first | refine blk_drewN ?_ _ | refine blk_drew ?_ | refine blk_alloc ?_ _)); refine blk_put (cs := #[.int .i64 0, .slice none 0 0]) ?_ 0 _ rfl; (with_reducible repeat (first | refine blk_drewN ?_ _ | refine blk_drew ?_ | refine blk_alloc ?_ _)); exact BK285.out) hb); have n3_ := Aside0.mk (blk_below (g := gb286) (o := .cells #[.int .i64 t281, .slice Ao31 t282.length co31] 31 (0, 0)) (by (with_reducible repeat (first | refine blk_drewN ?_ _ | refine blk_drew ?_ | refine blk_alloc ?_ _)); refine blk_put (cs := #[.int .i64 t281, .slice none 0 0]) ?_ 1 _ rfl; (with_reducible repeat (first | refine blk_drewN ?_ _ | refine blk_drew ?_ | refine blk_alloc ?_ _)); refine blk_put (cs := #[.int .i64 0, .slice none 0 0]) ?_ 0 _ rfl; (with_reducible repeat (first | refine blk_drewN ?_ _ | refine blk_drew ?_ | refine blk_alloc ?_ _)); refine blk_far ?_ NB286_285.out _; (with_reducible repeat (first | refine blk_drewN ?_ _ | refine blk_drew ?_ | refine blk_alloc ?_ _)); refine blk_far ?_ NB286_285.out _; (with_reducible repeat (first | refine blk_drewN ?_ _ | refine blk_drew ?_ | refine blk_alloc ?_ _)); exact BK286.out) hb); have n4_ := Aside0.mk (below_step bl hb); clear HO280; clear HO284; clear BK285; clear BK286; clear HB; have HO280 := n0_; have HO284 := n1_; have BK285 := n2_; have BK286 := n3_; have HB := n4_; clear n0_ n1_ n2_ n3_ n4_; (try clear hb); (try clear hb2); (try clear hk); (try clear hi)) | ((with_reducible refine gate_callee (f := 18) rfl ?_); refine goesL_ (some 28) rfl rfl Try.func18 (by kernel_rfl) rfl #[.int .i64 a0, .int .i64 a1] rfl (by (try simp only [List.map_toArray, List.map_cons, List.map_nil]); first | done | rfl | (simp only [List.length_drop, List.length_take]; rfl)) ?_; (with_reducible refine (calc_Sub.calls a0 a1 t289 t290 _ A6.out).mono ?_); rintro e w33 ⟨rfl, hb⟩; refine ⟨_, rfl, ?_⟩; have n0_ := Aside0.mk (Kd.R_below (by (with_reducible repeat (first | apply Kd.R_alloc | apply Kd.R_drewN | apply Kd.R_drew)); exact HO280.out) hb); have n1_ := Aside0.mk (Kd.R_below (by (with_reducible repeat (first | apply Kd.R_alloc | apply Kd.R_drewN | apply Kd.R_drew)); exact HO284.out) hb); have n2_ := Aside0.mk (blk_below (g := gb285) (o := .cells #[.int .i64 t277, .slice Ao29 t278.length co29] 31 (0, 0)) pk hb); have n3_ := Aside0.mk (blk_below (g := gb286) (o := .cells #[.int .i64 t281, .slice Ao31 t282.length co31] 31 (0, 0)) pk hb); have n4_ := Aside0.mk (below_step bl hb); clear HO280; clear HO284; clear BK285; clear BK286; clear HB; have HO280 := n0_; have HO284 := n1_; have BK285 := n2_; have BK286 := n3_; have HB := n4_; clear n0_ n1_ n2_ n3_ n4_; (try clear hb); (try clear hb2); (try clear hk); (try clear hi)) | ((with_reducible refine gate_callee (f := 19) rfl ?_); refine goesL_ (some 34) rfl rfl Try.func19 (by kernel_rfl) rfl #[.int .i64 a0, .int .i64 a1] rfl (by (try simp only [List.map_toArray, List.map_cons, List.map_nil]); first | done | rfl | (simp only [List.length_drop, List.length_take]; rfl)) ?_; (with_reducible refine (calc_Mul.calls a0 a1 t291 t292 _ A7.out).mono ?_); rintro e w34 ⟨rfl, hb⟩; refine ⟨_, rfl, ?_⟩; have n0_ := Aside0.mk (Kd.R_below (by (with_reducible repeat (first | apply Kd.R_alloc | apply Kd.R_drewN | apply Kd.R_drew)); exact HO280.out) hb); have n1_ := Aside0.mk (Kd.R_below (by (with_reducible repeat (first | apply Kd.R_alloc | apply Kd.R_drewN | apply Kd.R_drew)); exact HO284.out) hb); have n2_ := Aside0.mk (blk_below (g := gb285) (o := .cells #[.int .i64 t277, .slice Ao29 t278.length co29] 31 (0, 0)) pk hb); have n3_ := Aside0.mk (blk_below (g := gb286) (o := .cells #[.int .i64 t281, .slice Ao31 t282.length co31] 31 (0, 0)) pk hb); have n4_ := Aside0.mk (below_step bl hb); clear HO280; clear HO284; clear BK285; clear BK286; clear HB; have HO280 := n0_; have HO284 := n1_; have BK285 := n2_; have BK286 := n3_; have HB := n4_; clear n0_ n1_ n2_ n3_ n4_; (try clear hb); (try clear hb2); (try clear hk); (try clear hi)) | ((with_reducible refine gate_callee (f := 20) rfl ?_); refine goesL_ (some 39) rfl rfl Try.func20 (by kernel_rfl) rfl #[.int .i64 a0] rfl (by (try simp only [List.map_toArray, List.map_cons, List.map_nil]); first | done | rfl | (simp only [List.length_drop, List.length_take]; rfl)) ?_; (with_reducible refine (calc_Neg.calls a0 t293 t294 _ A8.out).mono ?_); rintro e w35 ⟨rfl, hb⟩; refine ⟨_, rfl, ?_⟩; have n0_ := Aside0.mk (Kd.R_below (by (with_reducible repeat (first | apply Kd.R_alloc | apply Kd.R_drewN | apply Kd.R_drew)); exact HO280.out) hb); have n1_ := Aside0.mk (Kd.R_below (by (with_reducible repeat (first | apply Kd.R_alloc | apply Kd.R_drewN | apply Kd.R_drew)); exact HO284.out) hb); have n2_ := Aside0.mk (blk_below (g := gb285) (o := .cells #[.int .i64 t277, .slice Ao29 t278.length co29] 31 (0, 0)) pk hb); have n3_ := Aside0.mk (blk_below (g := gb286) (o := .cells #[.int .i64 t281, .slice Ao31 t282.length co31] 31 (0, 0)) pk hb); have n4_ := Aside0.mk (below_step bl hb); clear HO280; clear HO284; clear BK285; clear BK286; clear HB; have HO280 := n0_; have HO284 := n1_; have BK285 := n2_; have BK286 := n3_; have HB := n4_; clear n0_ n1_ n2_ n3_ n4_; (try clear hb); (try clear hb2); (try clear hk); (try clear hi)))
          have n0_ := Aside0.mk (Kd.R_drew HO280.out)
          have n1_ := Aside0.mk (Kd.R_drew HO284.out)
          have n2_ := Aside0.mk (blk_drew BK285.out)
          have n3_ := Aside0.mk (blk_drew BK286.out)
          have n4_ := Aside0.mk (below_drew1 HB.out)
          clear HO280
          clear HO284
          clear BK285
          clear BK286
          clear HB
          have HO280 := n0_
          have HO284 := n1_
          have BK285 := n2_
          have BK286 := n3_
          have HB := n4_
          clear n0_ n1_ n2_ n3_ n4_
          refine start_ (n := 34) (S := fun w' => w'.cell? ⟨gb285, 0, none⟩ = some (.int .i64 t277) ∧ w'.cell? ⟨gb285, 1, none⟩ = some (.slice Ao29 t278.length co29) ∧ w'.cell? ⟨gb286, 0, none⟩ = some (.int .i64 t281) ∧ w'.cell? ⟨gb286, 1, none⟩ = some (.slice Ao31 t282.length co31)) (ds := []) #[false, false, false, false, false, false, false, false, false, false, false, false, false, false, false, false, false, false, false, false, false, false, false, false, false, false, false, false, false, false, false, false, false, false] (by kernel_rfl) rfl rfl ⟨(blk_cell BK285.out 0).trans rfl, (blk_cell BK285.out 1).trans rfl, (blk_cell BK286.out 0).trans rfl, (blk_cell BK286.out 1).trans rfl⟩ (fun hHeld => ?_); refine with_tabW rowlocklaw03_CalcIs.tab6 rowlocklaw03_CalcIs.bits6 (fun HT_ HW_ => ?_)
          generalize w35.drew = w36 at HO280 HO284 BK285 BK286 HB hHeld ⊢
          refine one_ (i := 0) (N := some 42) #[true, false, false, false, false, false, false, false, false, false, false, false, false, false, false, false, false, false, false, false, false, false, false, false, false, false, false, false, false, false, false, false, false, false] rfl rfl (one_of HT_.out (by kernel_rfl)) (by decide) (fun K hK => ?_)
          refine goes_ Try.func8 (by kernel_rfl) rfl #[] (by rfl) rfl rfl (by (try simp only [List.map_toArray, List.map_cons, List.map_nil]); first | done | rfl | (simp only [List.length_drop, List.length_take]; rfl)) ?_
          with_reducible refine (rowlocklaw03_fixed.calls k  true _ A9.out).mono ?_
          rintro e w37 ⟨rfl, hb⟩
          refine ⟨_, rfl, ?_⟩
          have n0_ := Aside0.mk (Kd.R_below (by (with_reducible repeat (first | apply Kd.R_alloc | apply Kd.R_drewN | apply Kd.R_drew)); exact HO280.out) hb)
          have n1_ := Aside0.mk (Kd.R_below (by (with_reducible repeat (first | apply Kd.R_alloc | apply Kd.R_drewN | apply Kd.R_drew)); exact HO284.out) hb)
          have n2_ := Aside0.mk (blk_below (g := gb285) (o := .cells #[.int .i64 t277, .slice Ao29 t278.length co29] 31 (0, 0)) pk hb)
          have n3_ := Aside0.mk (blk_below (g := gb286) (o := .cells #[.int .i64 t281, .slice Ao31 t282.length co31] 31 (0, 0)) pk hb)
          have n4_ := Aside0.mk (below_step bl hb)
          clear HO280
          clear HO284
          clear BK285
          clear BK286
          clear HB
          have HO280 := n0_
          have HO284 := n1_
          have BK285 := n2_
          have BK286 := n3_
          have HB := n4_
          clear n0_ n1_ n2_ n3_ n4_
          (try clear hb)
          (try clear hb2)
          (try clear hk)
          (try clear hi)
          refine hK.out _ _ ⟨(blk_cell BK285.out 0).trans rfl, (blk_cell BK285.out 1).trans rfl, (blk_cell BK286.out 0).trans rfl, (blk_cell BK286.out 1).trans rfl⟩ (fun hHeld => ?_)
          clear hK K
          refine norm_ (a' := ?_) ?_ ?_
          rotate_left
          · show Act.put _ (some 42) _ = _
            simp only [Act.put, List.setIfInBounds_toArray, List.set_cons_zero, List.set_cons_succ, i64_w, i32_w]
            rfl
          refine pure_ (i := 1) (N := some 43) (v := ?_) (a' := ?_) #[true, true, false, false, false, false, false, false, false, false, false, false, false, false, false, false, false, false, false, false, false, false, false, false, false, false, false, false, false, false, false, false, false, false] rfl rfl (any_of HT_.out (by kernel_rfl)) (fun _ _ _ h => h) (Or.inl ⟨by rfl, ?_⟩) ?_ ?_
          rotate_left
          · intro w'
            go_simp
            with_reducible rfl
          rotate_left
          · simp only [Act.put, List.setIfInBounds_toArray, List.set_cons_zero, List.set_cons_succ, i64_w, i32_w]
            rfl
          refine pure_ (i := 2) (N := some 44) (v := ?_) (a' := ?_) #[true, true, true, false, false, false, false, false, false, false, false, false, false, false, false, false, false, false, false, false, false, false, false, false, false, false, false, false, false, false, false, false, false, false] rfl rfl (any_of HT_.out (by kernel_rfl)) (fun _ _ _ h => h) (Or.inl ⟨by rfl, ?_⟩) ?_ ?_
          rotate_left
          · intro w'
            go_simp
            with_reducible rfl
          rotate_left
          · simp only [Act.put, List.setIfInBounds_toArray, List.set_cons_zero, List.set_cons_succ, i64_w, i32_w]
            rfl
          refine pure_ (i := 3) (N := some 45) (v := ?_) (a' := ?_) #[true, true, true, true, false, false, false, false, false, false, false, false, false, false, false, false, false, false, false, false, false, false, false, false, false, false, false, false, false, false, false, false, false, false] rfl rfl (any_of HT_.out (by kernel_rfl)) (fun _ _ _ h => h) (Or.inl ⟨by rfl, ?_⟩) ?_ ?_
          rotate_left
          · intro w'
            go_simp
            with_reducible rfl
          rotate_left
          · simp only [Act.put, List.setIfInBounds_toArray, List.set_cons_zero, List.set_cons_succ, i64_w, i32_w]
            rfl
          refine take_ (i := 4) (N := some 46) (v := ?_) (a' := ?_) #[true, true, true, true, true, false, false, false, false, false, false, false, false, false, false, false, false, false, false, false, false, false, false, false, false, false, false, false, false, false, false, false, false, false] rfl rfl (take_ofW HT_.out HW_.out (by kernel_rfl)) (fun _ _ _ h => h) (Or.inl ⟨by rfl, ?_⟩) hHeld ?_ ?_
          rotate_left
          · rintro w' ⟨s0, s1, s2, s3⟩
            go_simp
            with_reducible rfl
          rotate_left
          · simp only [Act.put, List.setIfInBounds_toArray, List.set_cons_zero, List.set_cons_succ, i64_w, i32_w]
            rfl
          refine take_ (i := 5) (N := some 47) (v := ?_) (a' := ?_) #[true, true, true, true, true, true, false, false, false, false, false, false, false, false, false, false, false, false, false, false, false, false, false, false, false, false, false, false, false, false, false, false, false, false] rfl rfl (take_ofW HT_.out HW_.out (by kernel_rfl)) (fun _ _ _ h => h) (Or.inl ⟨by rfl, ?_⟩) hHeld ?_ ?_
          rotate_left
          · rintro w' ⟨s0, s1, s2, s3⟩
            go_simp
            with_reducible rfl
          rotate_left
          · simp only [Act.put, List.setIfInBounds_toArray, List.set_cons_zero, List.set_cons_succ, i64_w, i32_w]
            rfl
          refine one_ (i := 6) (N := some 48) #[true, true, true, true, true, true, true, false, false, false, false, false, false, false, false, false, false, false, false, false, false, false, false, false, false, false, false, false, false, false, false, false, false, false] rfl rfl (one_of HT_.out (by kernel_rfl)) (by decide) (fun K hK => ?_)
          refine goes_ Try.func15 (by kernel_rfl) rfl #[.agg #[.int .i64 t277, .slice Ao29 t278.length co29], .agg #[.int .i64 t281, .slice Ao31 t282.length co31]] (by rfl) rfl rfl (by (try simp only [List.map_toArray, List.map_cons, List.map_nil]); first | done | rfl | (simp only [List.length_drop, List.length_take]; rfl)) ?_
          with_reducible refine (rowlockref03_Plus.calls k t277 _ _ t278 t281 _ _ t282 t296 t297 _ ?side1 ?side2 ?side3 ?side4 A11.out).mono ?_
          (case side1 => repeat (first | exact (Kd.R_reads' HO280.out).2.2 | (with_reducible refine Kd.C_alloc ?_ _) | (with_reducible refine Kd.C_drewN ?_ _) | (with_reducible refine Kd.C_drew ?_)))
          (case side2 => exact (Kd.R_reads' HO280.out).2.1)
          (case side3 => repeat (first | exact (Kd.R_reads' HO284.out).2.2 | (with_reducible refine Kd.C_alloc ?_ _) | (with_reducible refine Kd.C_drewN ?_ _) | (with_reducible refine Kd.C_drew ?_)))
          (case side4 => exact (Kd.R_reads' HO284.out).2.1)
          rintro e w38 ⟨v298, rfl, ho0, hb⟩
          refine ⟨_, rfl, ?_⟩
          have n0_ := Aside0.mk (Kd.R_elder' (by (with_reducible repeat (first | apply Kd.R_alloc | apply Kd.R_drewN | apply Kd.R_drew)); exact HO280.out) (Kd.R_base ho0) hb)
          have n1_ := Aside0.mk (Kd.R_elder' (by (with_reducible repeat (first | apply Kd.R_alloc | apply Kd.R_drewN | apply Kd.R_drew)); exact HO284.out) (Kd.R_base ho0) hb)
          have n2_ := Aside0.mk (Kd.R_lower (Kd.R_new' (Kd.R_new' ho0 (Kd.R_lt (by (with_reducible repeat (first | apply Kd.R_alloc | apply Kd.R_drewN | apply Kd.R_drew)); exact HO280.out))) (Kd.R_lt (by (with_reducible repeat (first | apply Kd.R_alloc | apply Kd.R_drewN | apply Kd.R_drew)); exact HO284.out))) (below_size bl))
          have n3_ := Aside0.mk (blk_below (g := gb285) (o := .cells #[.int .i64 t277, .slice Ao29 t278.length co29] 31 (0, 0)) pk hb)
          have n4_ := Aside0.mk (blk_below (g := gb286) (o := .cells #[.int .i64 t281, .slice Ao31 t282.length co31] 31 (0, 0)) pk hb)
          have n5_ := Aside0.mk (below_step bl hb)
          clear HO280
          clear HO284
          clear BK285
          clear BK286
          clear HB
          have HO280 := n0_
          have HO284 := n1_
          have HO299 := n2_
          have BK285 := n3_
          have BK286 := n4_
          have HB := n5_
          clear n0_ n1_ n2_ n3_ n4_ n5_
          (try clear hb)
          (try clear hb2)
          (try clear hk)
          (try clear hi)
          (try clear ho0)
          obtain ⟨Ao39, co39, eo39⟩ := Kd.R_slice HO299.out
          (first | subst eo39 | (injection eo39 with f1_ f2_ f3_; have f4_ := f1_.symm; have f5_ := f3_.symm; clear f1_ f2_ f3_; subst f4_; subst f5_))
          refine hK.out _ _ ⟨(blk_cell BK285.out 0).trans rfl, (blk_cell BK285.out 1).trans rfl, (blk_cell BK286.out 0).trans rfl, (blk_cell BK286.out 1).trans rfl⟩ (fun hHeld => ?_)
          clear hK K
          refine norm_ (a' := ?_) ?_ ?_
          rotate_left
          · show Act.put _ (some 48) _ = _
            simp only [Act.put, List.setIfInBounds_toArray, List.set_cons_zero, List.set_cons_succ, i64_w, i32_w]
            rfl
          refine one_ (i := 7) (N := some 49) #[true, true, true, true, true, true, true, true, false, false, false, false, false, false, false, false, false, false, false, false, false, false, false, false, false, false, false, false, false, false, false, false, false, false] rfl rfl (one_of HT_.out (by kernel_rfl)) (by decide) (fun K hK => ?_)
          refine goes_ Try.func21 (by kernel_rfl) rfl #[.int .i64 t287, .bool t288, .agg #[.int .i64 t296, .slice Ao39 t297.length co39]] (by rfl) rfl rfl (by (try simp only [List.map_toArray, List.map_cons, List.map_nil]); first | done | rfl | (simp only [List.length_drop, List.length_take]; rfl)) ?_
          with_reducible refine (rowlocklaw03_is.calls k t287 t288 t296 _ _ t297 true _ ?side1 ?side2 A12.out).mono ?_
          (case side1 => repeat (first | exact (Kd.R_reads' HO299.out).2.2 | (with_reducible refine Kd.C_alloc ?_ _) | (with_reducible refine Kd.C_drewN ?_ _) | (with_reducible refine Kd.C_drew ?_)))
          (case side2 => exact (Kd.R_reads' HO299.out).2.1)
          rintro e w40 ⟨rfl, hb⟩
          refine ⟨_, rfl, ?_⟩
          have n0_ := Aside0.mk (Kd.R_below (by (with_reducible repeat (first | apply Kd.R_alloc | apply Kd.R_drewN | apply Kd.R_drew)); exact HO280.out) hb)
          have n1_ := Aside0.mk (Kd.R_below (by (with_reducible repeat (first | apply Kd.R_alloc | apply Kd.R_drewN | apply Kd.R_drew)); exact HO284.out) hb)
          have n2_ := Aside0.mk (Kd.R_below (by (with_reducible repeat (first | apply Kd.R_alloc | apply Kd.R_drewN | apply Kd.R_drew)); exact HO299.out) hb)
          have n3_ := Aside0.mk (blk_below (g := gb285) (o := .cells #[.int .i64 t277, .slice Ao29 t278.length co29] 31 (0, 0)) pk hb)
          have n4_ := Aside0.mk (blk_below (g := gb286) (o := .cells #[.int .i64 t281, .slice Ao31 t282.length co31] 31 (0, 0)) pk hb)
          have n5_ := Aside0.mk (below_step bl hb)
          clear HO280
          clear HO284
          clear HO299
          clear BK285
          clear BK286
          clear HB
          have HO280 := n0_
          have HO284 := n1_
          have HO299 := n2_
          have BK285 := n3_
          have BK286 := n4_
          have HB := n5_
          clear n0_ n1_ n2_ n3_ n4_ n5_
          (try clear hb)
          (try clear hb2)
          (try clear hk)
          (try clear hi)
          refine hK.out _ _ ⟨(blk_cell BK285.out 0).trans rfl, (blk_cell BK285.out 1).trans rfl, (blk_cell BK286.out 0).trans rfl, (blk_cell BK286.out 1).trans rfl⟩ (fun hHeld => ?_)
          clear hK K
          refine norm_ (a' := ?_) ?_ ?_
          rotate_left
          · show Act.put _ (some 49) _ = _
            simp only [Act.put, List.setIfInBounds_toArray, List.set_cons_zero, List.set_cons_succ, i64_w, i32_w]
            rfl
          refine pure_ (i := 8) (N := some 50) (v := ?_) (a' := ?_) #[true, true, true, true, true, true, true, true, true, false, false, false, false, false, false, false, false, false, false, false, false, false, false, false, false, false, false, false, false, false, false, false, false, false] rfl rfl (any_of HT_.out (by kernel_rfl)) (fun _ _ _ h => h) (Or.inl ⟨by rfl, ?_⟩) ?_ ?_
          rotate_left
          · intro w'
            go_simp
            with_reducible rfl
          rotate_left
          · simp only [Act.put, List.setIfInBounds_toArray, List.set_cons_zero, List.set_cons_succ, i64_w, i32_w]
            rfl
          refine pure_ (i := 9) (N := some 51) (v := ?_) (a' := ?_) #[true, true, true, true, true, true, true, true, true, true, false, false, false, false, false, false, false, false, false, false, false, false, false, false, false, false, false, false, false, false, false, false, false, false] rfl rfl (any_of HT_.out (by kernel_rfl)) (fun _ _ _ h => h) (Or.inl ⟨by rfl, ?_⟩) ?_ ?_
          rotate_left
          · intro w'
            go_simp
            with_reducible rfl
          rotate_left
          · simp only [Act.put, List.setIfInBounds_toArray, List.set_cons_zero, List.set_cons_succ, i64_w, i32_w]
            rfl
          refine pure_ (i := 10) (N := some 52) (v := ?_) (a' := ?_) #[true, true, true, true, true, true, true, true, true, true, true, false, false, false, false, false, false, false, false, false, false, false, false, false, false, false, false, false, false, false, false, false, false, false] rfl rfl (any_of HT_.out (by kernel_rfl)) (fun _ _ _ h => h) (Or.inl ⟨by rfl, ?_⟩) ?_ ?_
          rotate_left
          · intro w'
            go_simp
            with_reducible rfl
          rotate_left
          · simp only [Act.put, List.setIfInBounds_toArray, List.set_cons_zero, List.set_cons_succ, i64_w, i32_w]
            rfl
          refine pure_ (i := 11) (N := some 53) (v := ?_) (a' := ?_) #[true, true, true, true, true, true, true, true, true, true, true, true, false, false, false, false, false, false, false, false, false, false, false, false, false, false, false, false, false, false, false, false, false, false] rfl rfl (any_of HT_.out (by kernel_rfl)) (fun _ _ _ h => h) (Or.inl ⟨by rfl, ?_⟩) ?_ ?_
          rotate_left
          · intro w'
            go_simp
            with_reducible rfl
          rotate_left
          · simp only [Act.put, List.setIfInBounds_toArray, List.set_cons_zero, List.set_cons_succ, i64_w, i32_w]
            rfl
          refine take_ (i := 12) (N := some 54) (v := ?_) (a' := ?_) #[true, true, true, true, true, true, true, true, true, true, true, true, true, false, false, false, false, false, false, false, false, false, false, false, false, false, false, false, false, false, false, false, false, false] rfl rfl (take_ofW HT_.out HW_.out (by kernel_rfl)) (fun _ _ _ h => h) (Or.inl ⟨by rfl, ?_⟩) hHeld ?_ ?_
          rotate_left
          · rintro w' ⟨s0, s1, s2, s3⟩
            go_simp
            with_reducible rfl
          rotate_left
          · simp only [Act.put, List.setIfInBounds_toArray, List.set_cons_zero, List.set_cons_succ, i64_w, i32_w]
            rfl
          refine take_ (i := 13) (N := some 55) (v := ?_) (a' := ?_) #[true, true, true, true, true, true, true, true, true, true, true, true, true, true, false, false, false, false, false, false, false, false, false, false, false, false, false, false, false, false, false, false, false, false] rfl rfl (take_ofW HT_.out HW_.out (by kernel_rfl)) (fun _ _ _ h => h) (Or.inl ⟨by rfl, ?_⟩) hHeld ?_ ?_
          rotate_left
          · rintro w' ⟨s0, s1, s2, s3⟩
            go_simp
            with_reducible rfl
          rotate_left
          · simp only [Act.put, List.setIfInBounds_toArray, List.set_cons_zero, List.set_cons_succ, i64_w, i32_w]
            rfl
          refine one_ (i := 14) (N := some 56) #[true, true, true, true, true, true, true, true, true, true, true, true, true, true, true, false, false, false, false, false, false, false, false, false, false, false, false, false, false, false, false, false, false, false] rfl rfl (one_of HT_.out (by kernel_rfl)) (by decide) (fun K hK => ?_)
          refine goes_ Try.func22 (by kernel_rfl) rfl #[.agg #[.int .i64 t281, .slice Ao31 t282.length co31]] (by rfl) rfl rfl (by (try simp only [List.map_toArray, List.map_cons, List.map_nil]); first | done | rfl | (simp only [List.length_drop, List.length_take]; rfl)) ?_
          with_reducible refine (rowlockref03_Turn.calls t281 (fun k_ => some k_ = (.slice Ao31 t282.length co31 : Value).ownBlock) _ _ t282 t301 t302 _ ?side1 A14.out).mono ?_
          (case side1 => exact Kd.R_V (Kd.R_tight rfl (Kd.R_types (Kd.R_types (HO284.out) BK285.out (by decide)) BK286.out (by decide))))
          rintro e w41 ⟨v303, rfl, ho0, hb⟩
          refine ⟨_, rfl, ?_⟩
          have n0_ := Aside0.mk (Kd.R_below (by (with_reducible repeat (first | apply Kd.R_alloc | apply Kd.R_drewN | apply Kd.R_drew)); exact HO280.out) hb)
          have n1_ := Aside0.mk (Kd.R_below (by (with_reducible repeat (first | apply Kd.R_alloc | apply Kd.R_drewN | apply Kd.R_drew)); exact HO284.out) hb)
          have n2_ := Aside0.mk (Kd.R_below (by (with_reducible repeat (first | apply Kd.R_alloc | apply Kd.R_drewN | apply Kd.R_drew)); exact HO299.out) hb)
          have n3_ := Aside0.mk (Kd.V_lower (Kd.V_mono (ok' := fun k_ => some k_ ≠ (.slice Ao29 t278.length co29 : Value).ownBlock ∧ some k_ ≠ (.slice Ao39 t297.length co39 : Value).ownBlock ∧ k_ ≠ gb285 ∧ k_ ≠ gb286) ho0 (fun k_ hk_ => ⟨Or.elim hk_ (fun hs_ => ((Kd.R_types (Kd.R_types (HO284.out) BK285.out (by decide)) BK286.out (by decide)).1 k_ hs_.symm).1.1.1.2) (fun hn_ => (Kd.fresh' (Kd.R_lt (by (with_reducible repeat (first | apply Kd.R_alloc | apply Kd.R_drewN | apply Kd.R_drew)); exact HO280.out)) k_ hn_)), Or.elim hk_ (fun hs_ => ((Kd.R_types (Kd.R_types (HO284.out) BK285.out (by decide)) BK286.out (by decide)).1 k_ hs_.symm).1.1.2) (fun hn_ => (Kd.fresh' (Kd.R_lt (by (with_reducible repeat (first | apply Kd.R_alloc | apply Kd.R_drewN | apply Kd.R_drew)); exact HO299.out)) k_ hn_)), Or.elim hk_ (fun hs_ => ((Kd.R_types (Kd.R_types (HO284.out) BK285.out (by decide)) BK286.out (by decide)).1 k_ hs_.symm).1.2) (fun hn_ => (Kd.freshB (g := gb285) (o := .cells #[.int .i64 t277, .slice Ao29 t278.length co29] 31 (0, 0)) pk k_ hn_)), Or.elim hk_ (fun hs_ => ((Kd.R_types (Kd.R_types (HO284.out) BK285.out (by decide)) BK286.out (by decide)).1 k_ hs_.symm).2) (fun hn_ => (Kd.freshB (g := gb286) (o := .cells #[.int .i64 t281, .slice Ao31 t282.length co31] 31 (0, 0)) pk k_ hn_))⟩)) (below_size bl))
          have n4_ := Aside0.mk (blk_below (g := gb285) (o := .cells #[.int .i64 t277, .slice Ao29 t278.length co29] 31 (0, 0)) pk hb)
          have n5_ := Aside0.mk (blk_below (g := gb286) (o := .cells #[.int .i64 t281, .slice Ao31 t282.length co31] 31 (0, 0)) pk hb)
          have n6_ := Aside0.mk (below_step bl hb)
          clear HO280
          clear HO284
          clear HO299
          clear BK285
          clear BK286
          clear HB
          have HO280 := n0_
          have HO284 := n1_
          have HO299 := n2_
          have HO304 := n3_
          have BK285 := n4_
          have BK286 := n5_
          have HB := n6_
          clear n0_ n1_ n2_ n3_ n4_ n5_ n6_
          (try clear hb)
          (try clear hb2)
          (try clear hk)
          (try clear hi)
          (try clear ho0)
          obtain ⟨Ao42, co42, eo42⟩ := Kd.V_slice HO304.out
          (first | subst eo42 | (injection eo42 with f1_ f2_ f3_; have f4_ := f1_.symm; have f5_ := f3_.symm; clear f1_ f2_ f3_; subst f4_; subst f5_))
          refine hK.out _ _ ⟨(blk_cell BK285.out 0).trans rfl, (blk_cell BK285.out 1).trans rfl, (blk_cell BK286.out 0).trans rfl, (blk_cell BK286.out 1).trans rfl⟩ (fun hHeld => ?_)
          clear hK K
          refine norm_ (a' := ?_) ?_ ?_
          rotate_left
          · show Act.put _ (some 56) _ = _
            simp only [Act.put, List.setIfInBounds_toArray, List.set_cons_zero, List.set_cons_succ, i64_w, i32_w]
            rfl
          refine one_ (i := 15) (N := some 57) #[true, true, true, true, true, true, true, true, true, true, true, true, true, true, true, true, false, false, false, false, false, false, false, false, false, false, false, false, false, false, false, false, false, false] rfl rfl (one_of HT_.out (by kernel_rfl)) (by decide) (fun K hK => ?_)
          refine goes_ Try.func15 (by kernel_rfl) rfl #[.agg #[.int .i64 t277, .slice Ao29 t278.length co29], .agg #[.int .i64 t301, .slice Ao42 t302.length co42]] (by rfl) rfl rfl (by (try simp only [List.map_toArray, List.map_cons, List.map_nil]); first | done | rfl | (simp only [List.length_drop, List.length_take]; rfl)) ?_
          with_reducible refine (rowlockref03_Plus.calls k t277 _ _ t278 t301 _ _ t302 t305 t306 _ ?side1 ?side2 ?side3 ?side4 A15.out).mono ?_
          (case side1 => repeat (first | exact (Kd.R_reads' HO280.out).2.2 | (with_reducible refine Kd.C_alloc ?_ _) | (with_reducible refine Kd.C_drewN ?_ _) | (with_reducible refine Kd.C_drew ?_)))
          (case side2 => exact (Kd.R_reads' HO280.out).2.1)
          (case side3 => repeat (first | exact (Kd.V_reads' HO304.out).2.2 | (with_reducible refine Kd.C_alloc ?_ _) | (with_reducible refine Kd.C_drewN ?_ _) | (with_reducible refine Kd.C_drew ?_)))
          (case side4 => exact (Kd.V_reads' HO304.out).2.1)
          rintro e w43 ⟨v307, rfl, ho0, hb⟩
          refine ⟨_, rfl, ?_⟩
          have n0_ := Aside0.mk (Kd.R_elder' (by (with_reducible repeat (first | apply Kd.R_alloc | apply Kd.R_drewN | apply Kd.R_drew)); exact HO280.out) (Kd.R_base ho0) hb)
          have n1_ := Aside0.mk (Kd.R_elder' (by (with_reducible repeat (first | apply Kd.R_alloc | apply Kd.R_drewN | apply Kd.R_drew)); exact HO284.out) (Kd.R_base ho0) hb)
          have n2_ := Aside0.mk (Kd.R_elder' (by (with_reducible repeat (first | apply Kd.R_alloc | apply Kd.R_drewN | apply Kd.R_drew)); exact HO299.out) (Kd.R_base ho0) hb)
          have n3_ := Aside0.mk (Kd.V_elder' (by (with_reducible repeat (first | apply Kd.V_alloc | apply Kd.V_drewN | apply Kd.V_drew)); exact HO304.out) (Kd.R_base ho0) hb)
          have n4_ := Aside0.mk (Kd.R_lower (Kd.R_new' (Kd.R_new' (Kd.R_new' ho0 (Kd.R_lt (by (with_reducible repeat (first | apply Kd.R_alloc | apply Kd.R_drewN | apply Kd.R_drew)); exact HO280.out))) (Kd.R_lt (by (with_reducible repeat (first | apply Kd.R_alloc | apply Kd.R_drewN | apply Kd.R_drew)); exact HO284.out))) (Kd.R_lt (by (with_reducible repeat (first | apply Kd.R_alloc | apply Kd.R_drewN | apply Kd.R_drew)); exact HO299.out))) (below_size bl))
          have n5_ := Aside0.mk (blk_below (g := gb285) (o := .cells #[.int .i64 t277, .slice Ao29 t278.length co29] 31 (0, 0)) pk hb)
          have n6_ := Aside0.mk (blk_below (g := gb286) (o := .cells #[.int .i64 t281, .slice Ao31 t282.length co31] 31 (0, 0)) pk hb)
          have n7_ := Aside0.mk (below_step bl hb)
          clear HO280
          clear HO284
          clear HO299
          clear HO304
          clear BK285
          clear BK286
          clear HB
          have HO280 := n0_
          have HO284 := n1_
          have HO299 := n2_
          have HO304 := n3_
          have HO308 := n4_
          have BK285 := n5_
          have BK286 := n6_
          have HB := n7_
          clear n0_ n1_ n2_ n3_ n4_ n5_ n6_ n7_
          (try clear hb)
          (try clear hb2)
          (try clear hk)
          (try clear hi)
          (try clear ho0)
          obtain ⟨Ao44, co44, eo44⟩ := Kd.R_slice HO308.out
          (first | subst eo44 | (injection eo44 with f1_ f2_ f3_; have f4_ := f1_.symm; have f5_ := f3_.symm; clear f1_ f2_ f3_; subst f4_; subst f5_))
          refine hK.out _ _ ⟨(blk_cell BK285.out 0).trans rfl, (blk_cell BK285.out 1).trans rfl, (blk_cell BK286.out 0).trans rfl, (blk_cell BK286.out 1).trans rfl⟩ (fun hHeld => ?_)
          clear hK K
          refine norm_ (a' := ?_) ?_ ?_
          rotate_left
          · show Act.put _ (some 57) _ = _
            simp only [Act.put, List.setIfInBounds_toArray, List.set_cons_zero, List.set_cons_succ, i64_w, i32_w]
            rfl
          refine one_ (i := 16) (N := some 58) #[true, true, true, true, true, true, true, true, true, true, true, true, true, true, true, true, true, false, false, false, false, false, false, false, false, false, false, false, false, false, false, false, false, false] rfl rfl (one_of HT_.out (by kernel_rfl)) (by decide) (fun K hK => ?_)
          refine goes_ Try.func21 (by kernel_rfl) rfl #[.int .i64 t289, .bool t290, .agg #[.int .i64 t305, .slice Ao44 t306.length co44]] (by rfl) rfl rfl (by (try simp only [List.map_toArray, List.map_cons, List.map_nil]); first | done | rfl | (simp only [List.length_drop, List.length_take]; rfl)) ?_
          with_reducible refine (rowlocklaw03_is.calls k t289 t290 t305 _ _ t306 true _ ?side1 ?side2 A16.out).mono ?_
          (case side1 => repeat (first | exact (Kd.R_reads' HO308.out).2.2 | (with_reducible refine Kd.C_alloc ?_ _) | (with_reducible refine Kd.C_drewN ?_ _) | (with_reducible refine Kd.C_drew ?_)))
          (case side2 => exact (Kd.R_reads' HO308.out).2.1)
          rintro e w45 ⟨rfl, hb⟩
          refine ⟨_, rfl, ?_⟩
          have n0_ := Aside0.mk (Kd.R_below (by (with_reducible repeat (first | apply Kd.R_alloc | apply Kd.R_drewN | apply Kd.R_drew)); exact HO280.out) hb)
          have n1_ := Aside0.mk (Kd.R_below (by (with_reducible repeat (first | apply Kd.R_alloc | apply Kd.R_drewN | apply Kd.R_drew)); exact HO284.out) hb)
          have n2_ := Aside0.mk (Kd.R_below (by (with_reducible repeat (first | apply Kd.R_alloc | apply Kd.R_drewN | apply Kd.R_drew)); exact HO299.out) hb)
          have n3_ := Aside0.mk (Kd.V_below (by (with_reducible repeat (first | apply Kd.V_alloc | apply Kd.V_drewN | apply Kd.V_drew)); exact HO304.out) hb)
          have n4_ := Aside0.mk (Kd.R_below (by (with_reducible repeat (first | apply Kd.R_alloc | apply Kd.R_drewN | apply Kd.R_drew)); exact HO308.out) hb)
          have n5_ := Aside0.mk (blk_below (g := gb285) (o := .cells #[.int .i64 t277, .slice Ao29 t278.length co29] 31 (0, 0)) pk hb)
          have n6_ := Aside0.mk (blk_below (g := gb286) (o := .cells #[.int .i64 t281, .slice Ao31 t282.length co31] 31 (0, 0)) pk hb)
          have n7_ := Aside0.mk (below_step bl hb)
          clear HO280
          clear HO284
          clear HO299
          clear HO304
          clear HO308
          clear BK285
          clear BK286
          clear HB
          have HO280 := n0_
          have HO284 := n1_
          have HO299 := n2_
          have HO304 := n3_
          have HO308 := n4_
          have BK285 := n5_
          have BK286 := n6_
          have HB := n7_
          clear n0_ n1_ n2_ n3_ n4_ n5_ n6_ n7_
          (try clear hb)
          (try clear hb2)
          (try clear hk)
          (try clear hi)
          refine hK.out _ _ ⟨(blk_cell BK285.out 0).trans rfl, (blk_cell BK285.out 1).trans rfl, (blk_cell BK286.out 0).trans rfl, (blk_cell BK286.out 1).trans rfl⟩ (fun hHeld => ?_)
          clear hK K
          refine norm_ (a' := ?_) ?_ ?_
          rotate_left
          · show Act.put _ (some 58) _ = _
            simp only [Act.put, List.setIfInBounds_toArray, List.set_cons_zero, List.set_cons_succ, i64_w, i32_w]
            rfl
          refine pure_ (i := 17) (N := some 59) (v := ?_) (a' := ?_) #[true, true, true, true, true, true, true, true, true, true, true, true, true, true, true, true, true, true, false, false, false, false, false, false, false, false, false, false, false, false, false, false, false, false] rfl rfl (any_of HT_.out (by kernel_rfl)) (fun _ _ _ h => h) (Or.inl ⟨by rfl, ?_⟩) ?_ ?_
          rotate_left
          · intro w'
            go_simp
            with_reducible rfl
          rotate_left
          · simp only [Act.put, List.setIfInBounds_toArray, List.set_cons_zero, List.set_cons_succ, i64_w, i32_w]
            rfl
          refine pure_ (i := 18) (N := some 60) (v := ?_) (a' := ?_) #[true, true, true, true, true, true, true, true, true, true, true, true, true, true, true, true, true, true, true, false, false, false, false, false, false, false, false, false, false, false, false, false, false, false] rfl rfl (any_of HT_.out (by kernel_rfl)) (fun _ _ _ h => h) (Or.inl ⟨by rfl, ?_⟩) ?_ ?_
          rotate_left
          · intro w'
            go_simp
            with_reducible rfl
          rotate_left
          · simp only [Act.put, List.setIfInBounds_toArray, List.set_cons_zero, List.set_cons_succ, i64_w, i32_w]
            rfl
          refine pure_ (i := 19) (N := some 61) (v := ?_) (a' := ?_) #[true, true, true, true, true, true, true, true, true, true, true, true, true, true, true, true, true, true, true, true, false, false, false, false, false, false, false, false, false, false, false, false, false, false] rfl rfl (any_of HT_.out (by kernel_rfl)) (fun _ _ _ h => h) (Or.inl ⟨by rfl, ?_⟩) ?_ ?_
          rotate_left
          · intro w'
            go_simp
            with_reducible rfl
          rotate_left
          · simp only [Act.put, List.setIfInBounds_toArray, List.set_cons_zero, List.set_cons_succ, i64_w, i32_w]
            rfl
          refine pure_ (i := 20) (N := some 62) (v := ?_) (a' := ?_) #[true, true, true, true, true, true, true, true, true, true, true, true, true, true, true, true, true, true, true, true, true, false, false, false, false, false, false, false, false, false, false, false, false, false] rfl rfl (any_of HT_.out (by kernel_rfl)) (fun _ _ _ h => h) (Or.inl ⟨by rfl, ?_⟩) ?_ ?_
          rotate_left
          · intro w'
            go_simp
            with_reducible rfl
          rotate_left
          · simp only [Act.put, List.setIfInBounds_toArray, List.set_cons_zero, List.set_cons_succ, i64_w, i32_w]
            rfl
          refine take_ (i := 21) (N := some 63) (v := ?_) (a' := ?_) #[true, true, true, true, true, true, true, true, true, true, true, true, true, true, true, true, true, true, true, true, true, true, false, false, false, false, false, false, false, false, false, false, false, false] rfl rfl (take_ofW HT_.out HW_.out (by kernel_rfl)) (fun _ _ _ h => h) (Or.inl ⟨by rfl, ?_⟩) hHeld ?_ ?_
          rotate_left
          · rintro w' ⟨s0, s1, s2, s3⟩
            go_simp
            with_reducible rfl
          rotate_left
          · simp only [Act.put, List.setIfInBounds_toArray, List.set_cons_zero, List.set_cons_succ, i64_w, i32_w]
            rfl
          refine take_ (i := 22) (N := some 64) (v := ?_) (a' := ?_) #[true, true, true, true, true, true, true, true, true, true, true, true, true, true, true, true, true, true, true, true, true, true, true, false, false, false, false, false, false, false, false, false, false, false] rfl rfl (take_ofW HT_.out HW_.out (by kernel_rfl)) (fun _ _ _ h => h) (Or.inl ⟨by rfl, ?_⟩) hHeld ?_ ?_
          rotate_left
          · rintro w' ⟨s0, s1, s2, s3⟩
            go_simp
            with_reducible rfl
          rotate_left
          · simp only [Act.put, List.setIfInBounds_toArray, List.set_cons_zero, List.set_cons_succ, i64_w, i32_w]
            rfl
          refine one_ (i := 23) (N := some 65) #[true, true, true, true, true, true, true, true, true, true, true, true, true, true, true, true, true, true, true, true, true, true, true, true, false, false, false, false, false, false, false, false, false, false] rfl rfl (one_of HT_.out (by kernel_rfl)) (by decide) (fun K hK => ?_)
          refine goes_ Try.func12 (by kernel_rfl) rfl #[.agg #[.int .i64 t277, .slice Ao29 t278.length co29], .agg #[.int .i64 t281, .slice Ao31 t282.length co31]] (by rfl) rfl rfl (by (try simp only [List.map_toArray, List.map_cons, List.map_nil]); first | done | rfl | (simp only [List.length_drop, List.length_take]; rfl)) ?_
          with_reducible refine (rowlockref03_Times.calls k t277 _ _ t278 t281 _ _ t282 t310 t311 _ ?side1 ?side2 ?side3 ?side4 A18.out).mono ?_
          (case side1 => repeat (first | exact (Kd.R_reads' HO280.out).2.2 | (with_reducible refine Kd.C_alloc ?_ _) | (with_reducible refine Kd.C_drewN ?_ _) | (with_reducible refine Kd.C_drew ?_)))
          (case side2 => exact (Kd.R_reads' HO280.out).2.1)
          (case side3 => repeat (first | exact (Kd.R_reads' HO284.out).2.2 | (with_reducible refine Kd.C_alloc ?_ _) | (with_reducible refine Kd.C_drewN ?_ _) | (with_reducible refine Kd.C_drew ?_)))
          (case side4 => exact (Kd.R_reads' HO284.out).2.1)
          rintro e w46 ⟨v312, rfl, ho0, hb⟩
          refine ⟨_, rfl, ?_⟩
          have n0_ := Aside0.mk (Kd.R_elder' (by (with_reducible repeat (first | apply Kd.R_alloc | apply Kd.R_drewN | apply Kd.R_drew)); exact HO280.out) (Kd.R_base ho0) hb)
          have n1_ := Aside0.mk (Kd.R_elder' (by (with_reducible repeat (first | apply Kd.R_alloc | apply Kd.R_drewN | apply Kd.R_drew)); exact HO284.out) (Kd.R_base ho0) hb)
          have n2_ := Aside0.mk (Kd.R_elder' (by (with_reducible repeat (first | apply Kd.R_alloc | apply Kd.R_drewN | apply Kd.R_drew)); exact HO299.out) (Kd.R_base ho0) hb)
          have n3_ := Aside0.mk (Kd.V_elder' (by (with_reducible repeat (first | apply Kd.V_alloc | apply Kd.V_drewN | apply Kd.V_drew)); exact HO304.out) (Kd.R_base ho0) hb)
          have n4_ := Aside0.mk (Kd.R_elder' (by (with_reducible repeat (first | apply Kd.R_alloc | apply Kd.R_drewN | apply Kd.R_drew)); exact HO308.out) (Kd.R_base ho0) hb)
          have n5_ := Aside0.mk (Kd.R_lower (Kd.R_new' (Kd.R_new' (Kd.R_new' (Kd.R_new' ho0 (Kd.R_lt (by (with_reducible repeat (first | apply Kd.R_alloc | apply Kd.R_drewN | apply Kd.R_drew)); exact HO280.out))) (Kd.R_lt (by (with_reducible repeat (first | apply Kd.R_alloc | apply Kd.R_drewN | apply Kd.R_drew)); exact HO284.out))) (Kd.R_lt (by (with_reducible repeat (first | apply Kd.R_alloc | apply Kd.R_drewN | apply Kd.R_drew)); exact HO299.out))) (Kd.R_lt (by (with_reducible repeat (first | apply Kd.R_alloc | apply Kd.R_drewN | apply Kd.R_drew)); exact HO308.out))) (below_size bl))
          have n6_ := Aside0.mk (blk_below (g := gb285) (o := .cells #[.int .i64 t277, .slice Ao29 t278.length co29] 31 (0, 0)) pk hb)
          have n7_ := Aside0.mk (blk_below (g := gb286) (o := .cells #[.int .i64 t281, .slice Ao31 t282.length co31] 31 (0, 0)) pk hb)
          have n8_ := Aside0.mk (below_step bl hb)
          clear HO280
          clear HO284
          clear HO299
          clear HO304
          clear HO308
          clear BK285
          clear BK286
          clear HB
          have HO280 := n0_
          have HO284 := n1_
          have HO299 := n2_
          have HO304 := n3_
          have HO308 := n4_
          have HO313 := n5_
          have BK285 := n6_
          have BK286 := n7_
          have HB := n8_
          clear n0_ n1_ n2_ n3_ n4_ n5_ n6_ n7_ n8_
          (try clear hb)
          (try clear hb2)
          (try clear hk)
          (try clear hi)
          (try clear ho0)
          obtain ⟨Ao47, co47, eo47⟩ := Kd.R_slice HO313.out
          (first | subst eo47 | (injection eo47 with f1_ f2_ f3_; have f4_ := f1_.symm; have f5_ := f3_.symm; clear f1_ f2_ f3_; subst f4_; subst f5_))
          refine hK.out _ _ ⟨(blk_cell BK285.out 0).trans rfl, (blk_cell BK285.out 1).trans rfl, (blk_cell BK286.out 0).trans rfl, (blk_cell BK286.out 1).trans rfl⟩ (fun hHeld => ?_)
          clear hK K
          refine norm_ (a' := ?_) ?_ ?_
          rotate_left
          · show Act.put _ (some 65) _ = _
            simp only [Act.put, List.setIfInBounds_toArray, List.set_cons_zero, List.set_cons_succ, i64_w, i32_w]
            rfl
          refine one_ (i := 24) (N := some 66) #[true, true, true, true, true, true, true, true, true, true, true, true, true, true, true, true, true, true, true, true, true, true, true, true, true, false, false, false, false, false, false, false, false, false] rfl rfl (one_of HT_.out (by kernel_rfl)) (by decide) (fun K hK => ?_)
          refine goes_ Try.func21 (by kernel_rfl) rfl #[.int .i64 t291, .bool t292, .agg #[.int .i64 t310, .slice Ao47 t311.length co47]] (by rfl) rfl rfl (by (try simp only [List.map_toArray, List.map_cons, List.map_nil]); first | done | rfl | (simp only [List.length_drop, List.length_take]; rfl)) ?_
          with_reducible refine (rowlocklaw03_is.calls k t291 t292 t310 _ _ t311 true _ ?side1 ?side2 A19.out).mono ?_
          (case side1 => repeat (first | exact (Kd.R_reads' HO313.out).2.2 | (with_reducible refine Kd.C_alloc ?_ _) | (with_reducible refine Kd.C_drewN ?_ _) | (with_reducible refine Kd.C_drew ?_)))
          (case side2 => exact (Kd.R_reads' HO313.out).2.1)
          rintro e w48 ⟨rfl, hb⟩
          refine ⟨_, rfl, ?_⟩
          have n0_ := Aside0.mk (Kd.R_below (by (with_reducible repeat (first | apply Kd.R_alloc | apply Kd.R_drewN | apply Kd.R_drew)); exact HO280.out) hb)
          have n1_ := Aside0.mk (Kd.R_below (by (with_reducible repeat (first | apply Kd.R_alloc | apply Kd.R_drewN | apply Kd.R_drew)); exact HO284.out) hb)
          have n2_ := Aside0.mk (Kd.R_below (by (with_reducible repeat (first | apply Kd.R_alloc | apply Kd.R_drewN | apply Kd.R_drew)); exact HO299.out) hb)
          have n3_ := Aside0.mk (Kd.V_below (by (with_reducible repeat (first | apply Kd.V_alloc | apply Kd.V_drewN | apply Kd.V_drew)); exact HO304.out) hb)
          have n4_ := Aside0.mk (Kd.R_below (by (with_reducible repeat (first | apply Kd.R_alloc | apply Kd.R_drewN | apply Kd.R_drew)); exact HO308.out) hb)
          have n5_ := Aside0.mk (Kd.R_below (by (with_reducible repeat (first | apply Kd.R_alloc | apply Kd.R_drewN | apply Kd.R_drew)); exact HO313.out) hb)
          have n6_ := Aside0.mk (blk_below (g := gb285) (o := .cells #[.int .i64 t277, .slice Ao29 t278.length co29] 31 (0, 0)) pk hb)
          have n7_ := Aside0.mk (blk_below (g := gb286) (o := .cells #[.int .i64 t281, .slice Ao31 t282.length co31] 31 (0, 0)) pk hb)
          have n8_ := Aside0.mk (below_step bl hb)
          clear HO280
          clear HO284
          clear HO299
          clear HO304
          clear HO308
          clear HO313
          clear BK285
          clear BK286
          clear HB
          have HO280 := n0_
          have HO284 := n1_
          have HO299 := n2_
          have HO304 := n3_
          have HO308 := n4_
          have HO313 := n5_
          have BK285 := n6_
          have BK286 := n7_
          have HB := n8_
          clear n0_ n1_ n2_ n3_ n4_ n5_ n6_ n7_ n8_
          (try clear hb)
          (try clear hb2)
          (try clear hk)
          (try clear hi)
          refine hK.out _ _ ⟨(blk_cell BK285.out 0).trans rfl, (blk_cell BK285.out 1).trans rfl, (blk_cell BK286.out 0).trans rfl, (blk_cell BK286.out 1).trans rfl⟩ (fun hHeld => ?_)
          clear hK K
          refine norm_ (a' := ?_) ?_ ?_
          rotate_left
          · show Act.put _ (some 66) _ = _
            simp only [Act.put, List.setIfInBounds_toArray, List.set_cons_zero, List.set_cons_succ, i64_w, i32_w]
            rfl
          refine pure_ (i := 25) (N := some 67) (v := ?_) (a' := ?_) #[true, true, true, true, true, true, true, true, true, true, true, true, true, true, true, true, true, true, true, true, true, true, true, true, true, true, false, false, false, false, false, false, false, false] rfl rfl (any_of HT_.out (by kernel_rfl)) (fun _ _ _ h => h) (Or.inl ⟨by rfl, ?_⟩) ?_ ?_
          rotate_left
          · intro w'
            go_simp
            with_reducible rfl
          rotate_left
          · simp only [Act.put, List.setIfInBounds_toArray, List.set_cons_zero, List.set_cons_succ, i64_w, i32_w]
            rfl
          refine pure_ (i := 26) (N := some 68) (v := ?_) (a' := ?_) #[true, true, true, true, true, true, true, true, true, true, true, true, true, true, true, true, true, true, true, true, true, true, true, true, true, true, true, false, false, false, false, false, false, false] rfl rfl (any_of HT_.out (by kernel_rfl)) (fun _ _ _ h => h) (Or.inl ⟨by rfl, ?_⟩) ?_ ?_
          rotate_left
          · intro w'
            go_simp
            with_reducible rfl
          rotate_left
          · simp only [Act.put, List.setIfInBounds_toArray, List.set_cons_zero, List.set_cons_succ, i64_w, i32_w]
            rfl
          refine pure_ (i := 27) (N := some 69) (v := ?_) (a' := ?_) #[true, true, true, true, true, true, true, true, true, true, true, true, true, true, true, true, true, true, true, true, true, true, true, true, true, true, true, true, false, false, false, false, false, false] rfl rfl (any_of HT_.out (by kernel_rfl)) (fun _ _ _ h => h) (Or.inl ⟨by rfl, ?_⟩) ?_ ?_
          rotate_left
          · intro w'
            go_simp
            with_reducible rfl
          rotate_left
          · simp only [Act.put, List.setIfInBounds_toArray, List.set_cons_zero, List.set_cons_succ, i64_w, i32_w]
            rfl
          refine pure_ (i := 28) (N := some 70) (v := ?_) (a' := ?_) #[true, true, true, true, true, true, true, true, true, true, true, true, true, true, true, true, true, true, true, true, true, true, true, true, true, true, true, true, true, false, false, false, false, false] rfl rfl (any_of HT_.out (by kernel_rfl)) (fun _ _ _ h => h) (Or.inl ⟨by rfl, ?_⟩) ?_ ?_
          rotate_left
          · intro w'
            go_simp
            with_reducible rfl
          rotate_left
          · simp only [Act.put, List.setIfInBounds_toArray, List.set_cons_zero, List.set_cons_succ, i64_w, i32_w]
            rfl
          refine take_ (i := 29) (N := some 71) (v := ?_) (a' := ?_) #[true, true, true, true, true, true, true, true, true, true, true, true, true, true, true, true, true, true, true, true, true, true, true, true, true, true, true, true, true, true, false, false, false, false] rfl rfl (take_ofW HT_.out HW_.out (by kernel_rfl)) (fun _ _ _ h => h) (Or.inl ⟨by rfl, ?_⟩) hHeld ?_ ?_
          rotate_left
          · rintro w' ⟨s0, s1, s2, s3⟩
            go_simp
            with_reducible rfl
          rotate_left
          · simp only [Act.put, List.setIfInBounds_toArray, List.set_cons_zero, List.set_cons_succ, i64_w, i32_w]
            rfl
          refine one_ (i := 30) (N := some 72) #[true, true, true, true, true, true, true, true, true, true, true, true, true, true, true, true, true, true, true, true, true, true, true, true, true, true, true, true, true, true, true, false, false, false] rfl rfl (one_of HT_.out (by kernel_rfl)) (by decide) (fun K hK => ?_)
          refine goes_ Try.func22 (by kernel_rfl) rfl #[.agg #[.int .i64 t277, .slice Ao29 t278.length co29]] (by rfl) rfl rfl (by (try simp only [List.map_toArray, List.map_cons, List.map_nil]); first | done | rfl | (simp only [List.length_drop, List.length_take]; rfl)) ?_
          with_reducible refine (rowlockref03_Turn.calls t277 (fun k_ => some k_ = (.slice Ao29 t278.length co29 : Value).ownBlock) _ _ t278 t315 t316 _ ?side1 A21.out).mono ?_
          (case side1 => exact Kd.R_V (Kd.R_tight rfl (Kd.R_types (Kd.R_types (HO280.out) BK285.out (by decide)) BK286.out (by decide))))
          rintro e w49 ⟨v317, rfl, ho0, hb⟩
          refine ⟨_, rfl, ?_⟩
          have n0_ := Aside0.mk (Kd.R_below (by (with_reducible repeat (first | apply Kd.R_alloc | apply Kd.R_drewN | apply Kd.R_drew)); exact HO280.out) hb)
          have n1_ := Aside0.mk (Kd.R_below (by (with_reducible repeat (first | apply Kd.R_alloc | apply Kd.R_drewN | apply Kd.R_drew)); exact HO284.out) hb)
          have n2_ := Aside0.mk (Kd.R_below (by (with_reducible repeat (first | apply Kd.R_alloc | apply Kd.R_drewN | apply Kd.R_drew)); exact HO299.out) hb)
          have n3_ := Aside0.mk (Kd.V_below (by (with_reducible repeat (first | apply Kd.V_alloc | apply Kd.V_drewN | apply Kd.V_drew)); exact HO304.out) hb)
          have n4_ := Aside0.mk (Kd.R_below (by (with_reducible repeat (first | apply Kd.R_alloc | apply Kd.R_drewN | apply Kd.R_drew)); exact HO308.out) hb)
          have n5_ := Aside0.mk (Kd.R_below (by (with_reducible repeat (first | apply Kd.R_alloc | apply Kd.R_drewN | apply Kd.R_drew)); exact HO313.out) hb)
          have n6_ := Aside0.mk (Kd.V_lower (Kd.V_mono (ok' := fun k_ => some k_ ≠ (.slice Ao31 t282.length co31 : Value).ownBlock ∧ some k_ ≠ (.slice Ao39 t297.length co39 : Value).ownBlock ∧ some k_ ≠ (.slice Ao44 t306.length co44 : Value).ownBlock ∧ some k_ ≠ (.slice Ao47 t311.length co47 : Value).ownBlock ∧ k_ ≠ gb285 ∧ k_ ≠ gb286) ho0 (fun k_ hk_ => ⟨Or.elim hk_ (fun hs_ => ((Kd.R_types (Kd.R_types (HO280.out) BK285.out (by decide)) BK286.out (by decide)).1 k_ hs_.symm).1.1.1.1.1.2) (fun hn_ => (Kd.fresh' (Kd.R_lt (by (with_reducible repeat (first | apply Kd.R_alloc | apply Kd.R_drewN | apply Kd.R_drew)); exact HO284.out)) k_ hn_)), Or.elim hk_ (fun hs_ => ((Kd.R_types (Kd.R_types (HO280.out) BK285.out (by decide)) BK286.out (by decide)).1 k_ hs_.symm).1.1.1.1.2) (fun hn_ => (Kd.fresh' (Kd.R_lt (by (with_reducible repeat (first | apply Kd.R_alloc | apply Kd.R_drewN | apply Kd.R_drew)); exact HO299.out)) k_ hn_)), Or.elim hk_ (fun hs_ => ((Kd.R_types (Kd.R_types (HO280.out) BK285.out (by decide)) BK286.out (by decide)).1 k_ hs_.symm).1.1.1.2) (fun hn_ => (Kd.fresh' (Kd.R_lt (by (with_reducible repeat (first | apply Kd.R_alloc | apply Kd.R_drewN | apply Kd.R_drew)); exact HO308.out)) k_ hn_)), Or.elim hk_ (fun hs_ => ((Kd.R_types (Kd.R_types (HO280.out) BK285.out (by decide)) BK286.out (by decide)).1 k_ hs_.symm).1.1.2) (fun hn_ => (Kd.fresh' (Kd.R_lt (by (with_reducible repeat (first | apply Kd.R_alloc | apply Kd.R_drewN | apply Kd.R_drew)); exact HO313.out)) k_ hn_)), Or.elim hk_ (fun hs_ => ((Kd.R_types (Kd.R_types (HO280.out) BK285.out (by decide)) BK286.out (by decide)).1 k_ hs_.symm).1.2) (fun hn_ => (Kd.freshB (g := gb285) (o := .cells #[.int .i64 t277, .slice Ao29 t278.length co29] 31 (0, 0)) pk k_ hn_)), Or.elim hk_ (fun hs_ => ((Kd.R_types (Kd.R_types (HO280.out) BK285.out (by decide)) BK286.out (by decide)).1 k_ hs_.symm).2) (fun hn_ => (Kd.freshB (g := gb286) (o := .cells #[.int .i64 t281, .slice Ao31 t282.length co31] 31 (0, 0)) pk k_ hn_))⟩)) (below_size bl))
          have n7_ := Aside0.mk (blk_below (g := gb285) (o := .cells #[.int .i64 t277, .slice Ao29 t278.length co29] 31 (0, 0)) pk hb)
          have n8_ := Aside0.mk (blk_below (g := gb286) (o := .cells #[.int .i64 t281, .slice Ao31 t282.length co31] 31 (0, 0)) pk hb)
          have n9_ := Aside0.mk (below_step bl hb)
          clear HO280
          clear HO284
          clear HO299
          clear HO304
          clear HO308
          clear HO313
          clear BK285
          clear BK286
          clear HB
          have HO280 := n0_
          have HO284 := n1_
          have HO299 := n2_
          have HO304 := n3_
          have HO308 := n4_
          have HO313 := n5_
          have HO318 := n6_
          have BK285 := n7_
          have BK286 := n8_
          have HB := n9_
          clear n0_ n1_ n2_ n3_ n4_ n5_ n6_ n7_ n8_ n9_
          (try clear hb)
          (try clear hb2)
          (try clear hk)
          (try clear hi)
          (try clear ho0)
          obtain ⟨Ao50, co50, eo50⟩ := Kd.V_slice HO318.out
          (first | subst eo50 | (injection eo50 with f1_ f2_ f3_; have f4_ := f1_.symm; have f5_ := f3_.symm; clear f1_ f2_ f3_; subst f4_; subst f5_))
          refine hK.out _ _ ⟨(blk_cell BK285.out 0).trans rfl, (blk_cell BK285.out 1).trans rfl, (blk_cell BK286.out 0).trans rfl, (blk_cell BK286.out 1).trans rfl⟩ (fun hHeld => ?_)
          clear hK K
          refine norm_ (a' := ?_) ?_ ?_
          rotate_left
          · show Act.put _ (some 72) _ = _
            simp only [Act.put, List.setIfInBounds_toArray, List.set_cons_zero, List.set_cons_succ, i64_w, i32_w]
            rfl
          refine one_ (i := 31) (N := some 73) #[true, true, true, true, true, true, true, true, true, true, true, true, true, true, true, true, true, true, true, true, true, true, true, true, true, true, true, true, true, true, true, true, false, false] rfl rfl (one_of HT_.out (by kernel_rfl)) (by decide) (fun K hK => ?_)
          refine goes_ Try.func21 (by kernel_rfl) rfl #[.int .i64 t293, .bool t294, .agg #[.int .i64 t315, .slice Ao50 t316.length co50]] (by rfl) rfl rfl (by (try simp only [List.map_toArray, List.map_cons, List.map_nil]); first | done | rfl | (simp only [List.length_drop, List.length_take]; rfl)) ?_
          with_reducible refine (rowlocklaw03_is.calls k t293 t294 t315 _ _ t316 t319 _ ?side1 ?side2 A22.out).mono ?_
          (case side1 => repeat (first | exact (Kd.V_reads' HO318.out).2.2 | (with_reducible refine Kd.C_alloc ?_ _) | (with_reducible refine Kd.C_drewN ?_ _) | (with_reducible refine Kd.C_drew ?_)))
          (case side2 => exact (Kd.V_reads' HO318.out).2.1)
          rintro e w51 ⟨rfl, hb⟩
          refine ⟨_, rfl, ?_⟩
          have n0_ := Aside0.mk (Kd.R_below (by (with_reducible repeat (first | apply Kd.R_alloc | apply Kd.R_drewN | apply Kd.R_drew)); exact HO280.out) hb)
          have n1_ := Aside0.mk (Kd.R_below (by (with_reducible repeat (first | apply Kd.R_alloc | apply Kd.R_drewN | apply Kd.R_drew)); exact HO284.out) hb)
          have n2_ := Aside0.mk (Kd.R_below (by (with_reducible repeat (first | apply Kd.R_alloc | apply Kd.R_drewN | apply Kd.R_drew)); exact HO299.out) hb)
          have n3_ := Aside0.mk (Kd.V_below (by (with_reducible repeat (first | apply Kd.V_alloc | apply Kd.V_drewN | apply Kd.V_drew)); exact HO304.out) hb)
          have n4_ := Aside0.mk (Kd.R_below (by (with_reducible repeat (first | apply Kd.R_alloc | apply Kd.R_drewN | apply Kd.R_drew)); exact HO308.out) hb)
          have n5_ := Aside0.mk (Kd.R_below (by (with_reducible repeat (first | apply Kd.R_alloc | apply Kd.R_drewN | apply Kd.R_drew)); exact HO313.out) hb)
          have n6_ := Aside0.mk (Kd.V_below (by (with_reducible repeat (first | apply Kd.V_alloc | apply Kd.V_drewN | apply Kd.V_drew)); exact HO318.out) hb)
          have n7_ := Aside0.mk (blk_below (g := gb285) (o := .cells #[.int .i64 t277, .slice Ao29 t278.length co29] 31 (0, 0)) pk hb)
          have n8_ := Aside0.mk (blk_below (g := gb286) (o := .cells #[.int .i64 t281, .slice Ao31 t282.length co31] 31 (0, 0)) pk hb)
          have n9_ := Aside0.mk (below_step bl hb)
          clear HO280
          clear HO284
          clear HO299
          clear HO304
          clear HO308
          clear HO313
          clear HO318
          clear BK285
          clear BK286
          clear HB
          have HO280 := n0_
          have HO284 := n1_
          have HO299 := n2_
          have HO304 := n3_
          have HO308 := n4_
          have HO313 := n5_
          have HO318 := n6_
          have BK285 := n7_
          have BK286 := n8_
          have HB := n9_
          clear n0_ n1_ n2_ n3_ n4_ n5_ n6_ n7_ n8_ n9_
          (try clear hb)
          (try clear hb2)
          (try clear hk)
          (try clear hi)
          refine hK.out _ _ ⟨(blk_cell BK285.out 0).trans rfl, (blk_cell BK285.out 1).trans rfl, (blk_cell BK286.out 0).trans rfl, (blk_cell BK286.out 1).trans rfl⟩ (fun hHeld => ?_)
          clear hK K
          refine norm_ (a' := ?_) ?_ ?_
          rotate_left
          · show Act.put _ (some 73) _ = _
            simp only [Act.put, List.setIfInBounds_toArray, List.set_cons_zero, List.set_cons_succ, i64_w, i32_w]
            rfl
          refine pure_ (i := 32) (N := some 74) (v := ?_) (a' := ?_) #[true, true, true, true, true, true, true, true, true, true, true, true, true, true, true, true, true, true, true, true, true, true, true, true, true, true, true, true, true, true, true, true, true, false] rfl rfl (any_of HT_.out (by kernel_rfl)) (fun _ _ _ h => h) (Or.inl ⟨by rfl, ?_⟩) ?_ ?_
          rotate_left
          · intro w'
            go_simp
            with_reducible rfl
          rotate_left
          · simp only [Act.put, List.setIfInBounds_toArray, List.set_cons_zero, List.set_cons_succ, i64_w, i32_w]
            rfl
          refine pure_ (i := 33) (N := some 4) (v := ?_) (a' := ?_) #[true, true, true, true, true, true, true, true, true, true, true, true, true, true, true, true, true, true, true, true, true, true, true, true, true, true, true, true, true, true, true, true, true, true] rfl rfl (any_of HT_.out (by kernel_rfl)) (fun _ _ _ h => h) (Or.inl ⟨by rfl, ?_⟩) ?_ ?_
          rotate_left
          · intro w'
            go_simp
            with_reducible rfl
          rotate_left
          · simp only [Act.put, List.setIfInBounds_toArray, List.set_cons_zero, List.set_cons_succ, i64_w, i32_w]
            rfl
          refine done_ (done_of HT_.out (by kernel_rfl)) ?_
          try go_wp2
          go_ret
          exact ⟨by first | rfl | (simp [errW_none, errW_some] <;> rfl) | (simp [*, errW_none, errW_some] <;> rfl), bl⟩
        · replace c20 := Bool.eq_false_iff.mpr c20
          subst c20
          have H1 : (some false) = some r := by rw [if_neg (show ¬ (false = true) by decide)] at H; exact H
          clear H
          have H := H1
          clear H1
          obtain rfl := Option.some.inj H
          exact absurd hrt.out (by decide)
      · replace c17 := Bool.eq_false_iff.mpr c17
        subst c17
        have H1 : (some false) = some r := by rw [if_neg (show ¬ (false = true) by decide)] at H; exact H
        clear H
        have H := H1
        clear H1
        obtain rfl := Option.some.inj H
        exact absurd hrt.out (by decide)
    · replace c13 := Bool.eq_false_iff.mpr c13
      subst c13
      have H1 : (some false) = some r := by rw [if_neg (show ¬ (false = true) by decide)] at H; exact H
      clear H
      have H := H1
      clear H1
      obtain rfl := Option.some.inj H
      exact absurd hrt.out (by decide)
  · replace c10 := Bool.eq_false_iff.mpr c10
    subst c10
    have H1 : (some false) = some r := by rw [if_neg (show ¬ (false = true) by decide)] at H; exact H
    clear H
    have H := H1
    clear H1
    obtain rfl := Option.some.inj H
    exact absurd hrt.out (by decide)

/-- THE ONE PURE STATEMENT of rowlocklaw03_CalcIs: yours. -/
def rowlocklaw03_CalcIs.Pure : Prop := ∀ (a0 : Int) (a1 : Int), (Lit.int .i64 a0).wf = true → (Lit.int .i64 a1).wf = true → ∃ k, rowlocklaw03_CalcIs.f k a0 a1 = some true
theorem rowlocklaw03_CalcIs.walk (P : rowlocklaw03_CalcIs.Pure) (a0 : Int) (a1 : Int) (w : World) (w0 : (Lit.int .i64 a0).wf = true) (w1 : (Lit.int .i64 a1).wf = true) :
    Calls Try.prog 5 #[.int .i64 a0, .int .i64 a1] w fun e w' => e = .returned (.bool true) ∧ Below w.heap.size w w' := by
  obtain ⟨k, h⟩ := P a0 a1 w0 w1
  refine (rowlocklaw03_CalcIs.calls k a0 a1 true w ⟨rfl⟩ h).mono ?_
  rintro e w' ⟨rfl, hd⟩
  exact ⟨rfl, hd⟩

end Go.Proofs.Ytneihjdkaogkiaa.PCalcIs
