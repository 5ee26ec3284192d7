/- Short words for what the printed texts say again and again (the session's own): each is its own statement, shown by the tactics that the print types out. -/
import Derived.Test.YtneihjdkaogkiaaWMore
import Derived.Test.YtneihjdkaogkiaaWNEv
import Derived.Test.YtneihjdkaogkiaaWGuard
import Derived.Test.YtneihjdkaogkiaaWLast
namespace Go.Proofs.Ytneihjdkaogkiaa
open Go.RowKit Go.Proofs.YtneihjdkaogkiaaW.PrintWords Go.Proofs.YtneihjdkaogkiaaW.PrintLast
theorem bl {n : Nat} {w w1 : World} (h : Below n w w1 := by repeat (first | (with_reducible first | exact HB.out | apply below_alloc | apply pw_below_drewN | apply below_drew1 | refine below_set ?_ (Aside0.out (by first | with_reducible assumption | assumption))) | exact HB.out)) : Below n w w1 := h
theorem pk {w : World} {g : Nat} {o : Obj} (h : w.heap[g]? = some o := by ((with_reducible repeat (first | refine blk_drewN ?_ _ | refine blk_drew ?_ | refine blk_alloc ?_ _)); refine Aside0.out ?_; first | with_reducible assumption | assumption)) : w.heap[g]? = some o := h
theorem cb {α : Type} {d : Kd α} {w : World} {A : Option Addr} {n : Nat} {xs : List α} (h : d.C w A n xs := by repeat (first | exact (Kd.C_below (Aside0.out (by first | with_reducible assumption | assumption)) HB.out) | (with_reducible refine Kd.C_alloc ?_ _) | (with_reducible refine Kd.C_drewN ?_ _) | (with_reducible refine Kd.C_drew ?_))) : d.C w A n xs := h
theorem rk {α : Type} {d : Kd α} {e : Nat} {w w1 : World} {base : Nat} {ok : Nat → Prop} {v : Value} {xs : List α} (H : Aside0 (d.R e w base ok v xs)) (hb : Below w.heap.size w w1 := by repeat (first | (with_reducible first | exact Below.refl _ _ | apply below_alloc | apply pw_below_drewN | apply below_drew1) | exact Below.refl _ _)) : d.R e w1 base ok v xs := Kd.R_below H.out hb
theorem sz {w w1 : World} {g : Nat} (hg : g = w1.heap.size) (h : Below w.heap.size w w1 := by repeat (first | (with_reducible first | exact HB.out | apply below_alloc | apply pw_below_drewN | apply below_drew1 | refine below_set ?_ (Aside0.out (by first | with_reducible assumption | assumption))) | exact HB.out)) : w.heap.size ≤ g := hg ▸ below_size h
theorem nl {w : World} {g g' : Nat} {o : Obj} (hg : g' = w.heap.size) (h : w.heap[g]? = some o := by ((with_reducible repeat (first | refine blk_drewN ?_ _ | refine blk_drew ?_ | refine blk_alloc ?_ _)); refine Aside0.out ?_; first | with_reducible assumption | assumption)) : g ≠ g' := hg ▸ Nat.ne_of_lt (blk_lt (g := g) (o := o) h)
theorem ng {w : World} {g g' : Nat} {o : Obj} (hg : g' = w.heap.size) (h : w.heap[g]? = some o := by ((with_reducible repeat (first | refine blk_drewN ?_ _ | refine blk_drew ?_ | refine blk_alloc ?_ _)); refine Aside0.out ?_; first | with_reducible assumption | assumption)) : g' ≠ g := hg ▸ Nat.ne_of_gt (blk_lt (g := g) (o := o) h)
theorem bb {w w1 : World} {g : Nat} {o : Obj} (hb : Below w.heap.size w w1) (h : w.heap[g]? = some o := by ((with_reducible repeat (first | refine blk_drewN ?_ _ | refine blk_drew ?_ | refine blk_alloc ?_ _)); refine Aside0.out ?_; first | with_reducible assumption | assumption)) : w1.heap[g]? = some o := blk_below (g := g) (o := o) h hb
theorem am {α : Type} {a b : α} (h : a = b := by (try simp only [List.map_toArray, List.map_cons, List.map_nil]); first | done | rfl | (simp only [List.length_drop, List.length_take]; rfl)) : a = b := h
theorem gate_draws {P : Program} {n : Nat} {ops : Array Oper} {Q : Exit → Act → World → Prop} {a : Act} {w : World} (h : Code.wp P (.region n ops true) Q a w) : Code.wp P (.region n ops true) Q a w := h
end Go.Proofs.Ytneihjdkaogkiaa
