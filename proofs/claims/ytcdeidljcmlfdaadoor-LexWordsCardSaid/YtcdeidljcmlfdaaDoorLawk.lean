/- What a row's premises give the contracts by hand: the program's own variables (the session's own words). -/
import Derived.Test.YtcdeidljcmlfdaaDoorOpS
import Derived.HandedShaped
import Derived.Shelf.Vars
import Derived.Lib.LaidTab
import Derived.Lib.LaidU8
import Derived.LaidLaws
namespace Go.Proofs.YtcdeidljcmlfdaaDoor
open Go Go.Eng Go.Proofs Go.RowKit
set_option linter.unusedVariables false
set_option linter.unusedSimpArgs false
/-- the wrap for a row that lists variables, with the world's shape kept -/
theorem handed_and_shaped {H : Type} {enc : TypeId × Value → H} {a : Assume} {C : Checked} {os : Os} {f : FuncId} {fn : Func} {s : ChangeSpec} {conds : List PathCond} {apart fresh handsOn again : Bool} {X : World → Array Value → Prop}
    (hX : ∀ (w w' : World) (args : Array Value), w.heap = w'.heap → X w args → X w' args)
    (own : ownKnob C.prog.godebug = none) (started : os.Started) (noInit : C.prog.inits.idxOf? f = none) (hfn : C.prog.funcs[f]? = some fn)
    (witness : ∃ (w : World) (tape : Tape) (i : Input), w.os = os ∧ (w.forCall tape i).Shaped C.prog ∧ i.vars = [] ∧ Input.okWide C.prog (w.forCall tape i) .any w.heap.size f i ∧
      ((s.pre enc C.prog fn conds apart (w.forCall tape i).memory i.args ∧ X (w.forCall tape i).memory i.args) ∧ sizedMet enc C.prog fn (OpenSpec.ofChange s) apart (w.forCall tape i).memory i.args) ∧ a.holds C.prog (lone (Frame.enter C.prog f i.args .normal) [] (w.forCall tape i)))
    (contract : ∀ (W : World) (base : Nat) (args : Array Value) (ds gs : List (DataW H)) (before : List MemPlace),
      (∀ (j : Nat) t v, fn.params[j]? = some t → args[j]? = some v → Value.okWide C.prog W .any base t v) →
      DataW.Whole enc C.prog fn.params.toList s.vars apart W args.toList ds gs before →
      conds.all (PathCond.test C.prog ⟨fn.params.toList, ds, s.plain.varTypes C.prog, gs⟩) = true →
      (DataW.weightsEach C.prog (fn.params.toList ++ s.plain.varTypes C.prog) (ds ++ gs)).all (· ≤ reachBytes) = true → X W args → W.ShapedOpen C.prog →
      a.holds C.prog (lone (Frame.enter C.prog f args .normal) [] W) →
      Calls C.prog f args W fun e W' => ∃ v, e = .returned v ∧ s.post enc C.prog fn apart fresh handsOn again W args v W') :
    ReturnsInHanded a C os f .any (fun w args => (s.pre enc C.prog fn conds apart w args ∧ X w args) ∧ sizedMet enc C.prog fn (OpenSpec.ofChange s) apart w args) (s.post enc C.prog fn apart fresh handsOn again) := by
  refine returnsInHanded_of_calls own started noInit witness ?_
  intro w tape i _ hsh _ hok hpre hholds
  obtain ⟨_, _, _, fn', hfn', _, _, _, _, hval⟩ := hok
  have e : fn' = fn := Option.some.inj (hfn'.symm.trans hfn)
  subst e
  obtain ⟨⟨⟨ds, gs, before, hw, hc⟩, hx⟩, hz⟩ := hpre
  have hw' := DataW.Whole.of_heap (w' := w.forCall tape i) (by rfl) hw
  refine (contract (w.forCall tape i) w.heap.size i.args ds gs before hval hw' hc (hz.weights hw) (hX _ _ _ (by rfl) hx) hsh hholds).mono fun e W' ⟨v, he, hp⟩ => ?_
  subst he
  exact ChangeSpec.post_blind hp
theorem shaped_int {P : Program} {w : World} {g : Nat} {t : TypeId} {zero : Array Value} {k : IntKind}
    (h : w.ShapedOpen P) (hg : g < P.globals.size)
    (h0 : ((begin P (fun _ _ => 0) default).world.heap[g]?).bind Obj.row? = some (zero, t)) (hz : zero.size = 1)
    (hb : P.buildable t = true) (hc : P.cellTypes P.depth t = some [t]) (hu : P.underlying t = some (.int k)) :
    ∃ cs, w.heap[g]? = some (.cells cs t (0, 0)) ∧ ∃ m, cs = #[.int k m] := by
  obtain ⟨cs, hh, hs, hr⟩ := h.1 g zero t hg h0
  obtain ⟨ts, hts, _, hall⟩ := hr hb
  rw [hc] at hts
  cases hts
  have h1 : cs.size = 1 := by omega
  obtain ⟨u, hu', hok⟩ := hall 0 cs[0] (by simp [h1])
  have : u = t := by simpa using hu'.symm
  subst this
  unfold Cell.ok at hok
  rw [hu] at hok
  have hcs : cs = #[cs[0]] := by
    apply Array.ext
    · simp [h1]
    · intro i h2 h3
      have : i = 0 := by omega
      subst this; rfl
  cases hv : cs[0] <;> rw [hv] at hok <;> simp at hok
  case int k' n => exact ⟨cs, hh, n, by rw [hcs, hv, hok.1]⟩
theorem shaped_iface {P : Program} {w : World} {g : Nat} {t : TypeId} {zero : Array Value} {ms}
    (h : w.ShapedOpen P) (hg : g < P.globals.size)
    (h0 : ((begin P (fun _ _ => 0) default).world.heap[g]?).bind Obj.row? = some (zero, t)) (hz : zero.size = 1)
    (hb : P.buildable t = true) (hc : P.cellTypes P.depth t = some [t]) (hu : P.underlying t = some (.interface ms)) :
    ∃ cs, w.heap[g]? = some (.cells cs t (0, 0)) ∧ ∃ ev, cs = #[ev] ∧ (ev = .nilIface ∨ ∃ (t : TypeId) (p : Value), ev = .iface t p) := by
  obtain ⟨cs, hh, hs, hr⟩ := h.1 g zero t hg h0
  obtain ⟨ts, hts, _, hall⟩ := hr hb
  rw [hc] at hts
  cases hts
  have h1 : cs.size = 1 := by omega
  obtain ⟨u, hu', hok⟩ := hall 0 cs[0] (by simp [h1])
  have : u = t := by simpa using hu'.symm
  subst this
  unfold Cell.ok at hok
  rw [hu] at hok
  have hcs : cs = #[cs[0]] := by
    apply Array.ext
    · simp [h1]
    · intro i h2 h3
      have : i = 0 := by omega
      subst this; rfl
  refine ⟨cs, hh, cs[0], hcs, ?_⟩
  cases hv : cs[0] with
  | nilIface => exact .inl rfl
  | iface t v => exact .inr ⟨t, v, rfl⟩
  | _ => rw [hv] at hok; simp at hok
theorem tab_reads {P : Program} {W : World} {name : String} {k : IntKind} {zs : List Int} {g : Nat} {t e : TypeId} {n : Nat}
    (hg : P.globalNamed name = some g) (hty : (P.globals[g]?).map (·.type) = some t) (ht : P.underlying t = some (.array n e)) (he : P.underlying e = some (.int k)) (hce : P.cellsOf e = 1) (hct : P.cellsOf t = n)
    (h : Lib.VarReads P W name (Lib.tabData k zs)) : ∃ e fr, W.heap[g]? = some (.cells (zs.map fun z => Value.int k z).toArray e fr) := by
  obtain ⟨g', t', cs, fuel, p, hg', ht', hvar, hd⟩ := h
  obtain rfl := Option.some.inj (hg.symm.trans hg')
  obtain rfl := Option.some.inj (hty.symm.trans ht')
  have hx := Lib.cells_of_tab ht he hce hct hd
  unfold World.var? at hvar
  rw [hg, Option.bind_some] at hvar
  split at hvar
  · rename_i c e fr hh
    cases hvar
    refine ⟨e, fr, ?_⟩
    rw [hh, ← hx]
  · cases hvar
theorem iface_reads {P : Program} {W : World} {name tn : String} {d : DataW Unit} {g : Nat} {t : TypeId} {ms}
    (hg : P.globalNamed name = some g) (hty : (P.globals[g]?).map (·.type) = some t) (hi : P.underlying t = some (.interface ms))
    (h : Lib.VarReads P W name (.iface tn d)) : ∃ cs e fr, W.heap[g]? = some (.cells cs e fr) ∧ ∃ ev, cs = #[ev] ∧ (ev = .nilIface ∨ ∃ (t : TypeId) (p : Value), ev = .iface t p) := by
  obtain ⟨g', t', cs, fuel, p, hg', ht', hvar, hd⟩ := h
  obtain rfl := Option.some.inj (hg.symm.trans hg')
  obtain rfl := Option.some.inj (hty.symm.trans ht')
  unfold World.var? at hvar
  rw [hg, Option.bind_some] at hvar
  split at hvar
  · rename_i c e fr hh
    cases hvar
    refine ⟨cs, e, fr, hh, ?_⟩
    obtain ⟨f2, u, v, hc, _⟩ := iface_of_trod hi hd
    refine ⟨.iface u v, ?_, .inr ⟨u, v, rfl⟩⟩
    apply Array.ext'
    exact hc
  · cases hvar
end Go.Proofs.YtcdeidljcmlfdaaDoor
