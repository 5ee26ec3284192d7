/- Short words for what the printed texts say again and again (the session's own): each is its own statement, shown by the tactics that the print types out. -/
import Derived.Test.YtneihjdkaogkiaaWMore
import Derived.Test.YtneihjdkaogkiaaWNEv
import Derived.Test.YtneihjdkaogkiaaWGuard
import Derived.Test.YtneihjdkaogkiaaWLast
namespace Go.Proofs.Ytneihjdkaogkiaa
open Go.RowKit Go.Proofs.YtneihjdkaogkiaaW.PrintWords Go.Proofs.YtneihjdkaogkiaaW.PrintLast
theorem bl {n : Nat} {w w1 : World} (h : Below n w w1 := by repeat (first | (with_reducible first | exact HB.out | apply below_alloc | apply pw_below_drewN | apply below_drew1 | refine below_set ?_ (Aside0.out (by assumption))) | exact HB.out)) : Below n w w1 := h
theorem pk {w : World} {g : Nat} {o : Obj} (h : w.heap[g]? = some o := by ((with_reducible repeat (first | refine blk_drewN ?_ _ | refine blk_drew ?_ | refine blk_alloc ?_ _)); exact Aside0.out (by assumption))) : w.heap[g]? = some o := h
theorem cb {α : Type} {d : Kd α} {w : World} {A : Option Addr} {n : Nat} {xs : List α} (h : d.C w A n xs := by repeat (first | exact (Kd.C_below (Aside0.out (by assumption)) HB.out) | (with_reducible refine Kd.C_alloc ?_ _) | (with_reducible refine Kd.C_drewN ?_ _) | (with_reducible refine Kd.C_drew ?_))) : d.C w A n xs := h
theorem gate_draws {P : Program} {n : Nat} {ops : Array Oper} {Q : Exit → Act → World → Prop} {a : Act} {w : World} (h : Code.wp P (.region n ops true) Q a w) : Code.wp P (.region n ops true) Q a w := h
end Go.Proofs.Ytneihjdkaogkiaa
