/- Structs of plain parts, compared (the session's own words). -/
import Derived.Test.YtcdeidljcmlfdaaDoorOps
import Derived.Laws.Strings
namespace Go.Eng
open Go Go.RowKit
set_option linter.unusedVariables false
set_option linter.unusedSimpArgs false

/-- is a type a number, a string, a bool? -/
def kindV (P : Program) (t : TypeId) : Nat := match P.underlying t with
  | some (.int _) => 1
  | some .string => 2
  | some .bool => 3
  | _ => 0
variable {P : Program}
theorem kindV_1 {t : TypeId} (h : kindV P t = 1) : ∃ k, P.underlying t = some (.int k) := by
  unfold kindV at h
  split at h
  · rename_i k hk; exact ⟨k, hk⟩
  all_goals cases h
theorem kindV_2 {t : TypeId} (h : kindV P t = 2) : P.underlying t = some .string := by
  unfold kindV at h
  split at h
  · cases h
  · rename_i hk; exact hk
  all_goals cases h
theorem kindV_3 {t : TypeId} (h : kindV P t = 3) : P.underlying t = some .bool := by
  unfold kindV at h
  split at h
  · cases h
  · cases h
  · rename_i hk; exact hk
  all_goals cases h
/-- where a struct's parts lie, if all of them are plain -/
def flT (P : Program) (t : TypeId) : Option (List (Nat × Nat)) := match P.underlying t with
  | some (.struct fields) => if P.eqGuardType P.depth t = false ∧ P.stoodInHeld t = false ∧ fields.toList.all (fun f => f.name != "_" && kindV P f.type != 0) = true then some (fields.toList.map fun f => (kindV P f.type, f.offset)) else none
  | _ => none
def eqV (n : Nat) : Value → Value → Option Bool
  | .int k a, .int k' b => if k = k' ∧ n = 1 then some (a == b) else none
  | .string a, .string b => if n = 2 then some (a.toList == b.toList) else none
  | .bool a, .bool b => if n = 3 then some (a == b) else none
  | _, _ => none
def eqFs (xs ys : Array Value) : List (Nat × Nat) → Option Bool
  | [] => some true
  | (t, n) :: l => (xs[n]?).bind fun u => (ys[n]?).bind fun v => (eqV t u v).bind fun b => (eqFs xs ys l).map (b && ·)
theorem bytes_beq (a b : ByteArray) : (a == b) = (a.toList == b.toList) := by
  have h : (a == b) = (a.data == b.data) := by
    cases a; cases b; rfl
  rw [h, ByteArray.toList_eq, ByteArray.toList_eq, Bool.eq_iff_iff, beq_iff_eq, beq_iff_eq]
  exact ⟨fun e => by rw [e], fun e => Array.toList_inj.1 e⟩
theorem equal_plain {t : TypeId} {u v : Value} {b : Bool} (h : eqV (kindV P t) u v = some b) (d : Nat) : pureRun P (Op.equalIn (d + 1) t u v) = some b := by
  rw [Op.equalIn, pureRun_bind, pureRun_underlying]
  unfold eqV at h
  split at h
  · split at h
    · rename_i hk
      obtain ⟨rfl, hu⟩ := hk
      obtain ⟨k, hk⟩ := kindV_1 hu
      rw [hk, Option.bind_some]
      simp only [if_true]
      exact h
    · cases h
  · split at h
    · rename_i hu
      rw [kindV_2 hu, Option.bind_some]
      rw [← bytes_beq] at h
      exact h
    · cases h
  · split at h
    · rename_i hu
      rw [kindV_3 hu, Option.bind_some]
      exact h
    · cases h
  · cases h
theorem part_plain {t : TypeId} (h : (kindV P t != 0) = true) {xs : Array Value} {n : Nat} {u : Value} (hx : xs[n]? = some u) : pureRun P (part t xs n) = some u := by
  have ha : pureRun P (isAgg t) = some false := by
    unfold isAgg
    rw [pureRun_bind, pureRun_underlying]
    unfold kindV at h
    split at h
    · rename_i hk; rw [hk]; rfl
    · rename_i hk; rw [hk]; rfl
    · rename_i hk; rw [hk]; rfl
    · cases h
  unfold part
  rw [pureRun_bind, ha, Option.bind_some]
  simp only [Bool.false_eq_true, if_false, hx]
  rfl
theorem equal_flat {t : TypeId} {fields : Array Field} (h : P.underlying t = some (.struct fields)) (hs : P.stoodInHeld t = false) (hf : fields.toList.all (fun f => f.name != "_" && kindV P f.type != 0) = true)
    {xs ys : Array Value} {r : Bool} (he : eqFs xs ys (fields.toList.map fun f => (kindV P f.type, f.offset)) = some r) : pureRun P (Op.equal t (.agg xs) (.agg ys)) = some r := by
  unfold Op.equal Op.maxDepth
  rw [show (10000 : Nat) = 9999 + 1 from rfl, Op.equalIn, pureRun_bind, pureRun_underlying, h, Option.bind_some]
  simp only [pureRun_bind, pureRun_program, Option.bind_some, hs, Bool.false_eq_true, if_false]
  rw [← Array.forIn_toList]
  generalize fields.toList = l at hf he
  have key : ∀ (l : List Field) (r : Bool), l.all (fun f => f.name != "_" && kindV P f.type != 0) = true → eqFs xs ys (l.map fun f => (kindV P f.type, f.offset)) = some r →
      pureRun P (forIn l ((none, ()) : Option Bool × Unit) fun f _ => if f.name ≠ "_" then (do
        if !(← Op.equalIn 9999 f.type (← part f.type xs f.offset) (← part f.type ys f.offset)) then pure (ForInStep.done (some false, ())) else pure (ForInStep.yield (none, ()))) else pure (ForInStep.yield (none, ()))) = some (if r = true then (none, ()) else (some false, ())) := by
    intro l
    induction l with
    | nil =>
      intro r _ he
      simp only [List.map_nil, eqFs, Option.some.injEq] at he
      subst he
      rfl
    | cons f l ih =>
      intro r hf he
      rw [List.all_cons, Bool.and_eq_true, Bool.and_eq_true] at hf
      obtain ⟨⟨h1, h2⟩, h3⟩ := hf
      rw [List.map_cons, eqFs] at he
      cases hu : xs[f.offset]? with
      | none => rw [hu] at he; cases he
      | some u =>
        cases hv : ys[f.offset]? with
        | none => rw [hu, hv] at he; cases he
        | some v =>
          rw [hu, hv, Option.bind_some, Option.bind_some] at he
          cases hb : eqV (kindV P f.type) u v with
          | none => rw [hb] at he; cases he
          | some b =>
            rw [hb, Option.bind_some] at he
            cases hr : eqFs xs ys (l.map fun f => (kindV P f.type, f.offset)) with
            | none => rw [hr] at he; cases he
            | some r' =>
              rw [hr, Option.map_some, Option.some.injEq] at he
              subst he
              rw [List.forIn_cons, pureRun_bind]
              rw [if_pos (bne_iff_ne.1 h1)]
              simp only [pureRun_bind, part_plain h2 hu, part_plain h2 hv, Option.bind_some, equal_plain hb]
              cases b with
              | false => rfl
              | true =>
                show pureRun P (forIn l _ _) = _
                rw [Bool.true_and]
                exact ih r' h3 hr
  rw [key l r hf he, Option.bind_some]
  cases r <;> rfl
theorem bop_aeql {t : TypeId} (x y : Operand) (xs ys : Array Value) (h : ((flT P t).bind (eqFs xs ys)).isSome = true) : bop P .eql t x y (.agg xs) (.agg ys) = ((flT P t).bind (eqFs xs ys)).map Value.bool := by
  cases hl : flT P t with
  | none => rw [hl] at h; cases h
  | some l =>
    rw [hl, Option.bind_some] at h
    rw [Option.bind_some]
    obtain ⟨r, hr⟩ := Option.isSome_iff_exists.1 h
    unfold flT at hl
    split at hl
    · rename_i fields hu
      split at hl
      · rename_i hc
        obtain ⟨hg, hs, hf⟩ := hc
        simp only [Option.some.injEq] at hl
        subst hl
        have h1 : pureRun P (eqGuard .eql t x y (.agg xs) (.agg ys)) = some () := by
          unfold eqGuard
          simp only [Bool.not_true, Bool.false_eq_true, if_false, pureRun_bind, pureRun_program, Option.bind_some, hg, Bool.not_false, if_true]
          rfl
        unfold bop
        rw [pureRun_bind, h1, Option.bind_some]
        show pureRun P (Op.equal t (.agg xs) (.agg ys) >>= fun r => pure (Value.bool r)) = _
        rw [pureRun_bind, equal_flat hu hs hf hr, hr]
        rfl
      · cases hl
    · cases hl
theorem bop_aneq {t : TypeId} (x y : Operand) (xs ys : Array Value) (h : ((flT P t).bind (eqFs xs ys)).isSome = true) : bop P .neq t x y (.agg xs) (.agg ys) = ((flT P t).bind (eqFs xs ys)).map fun b => Value.bool !b := by
  cases hl : flT P t with
  | none => rw [hl] at h; cases h
  | some l =>
    rw [hl, Option.bind_some] at h
    rw [Option.bind_some]
    obtain ⟨r, hr⟩ := Option.isSome_iff_exists.1 h
    unfold flT at hl
    split at hl
    · rename_i fields hu
      split at hl
      · rename_i hc
        obtain ⟨hg, hs, hf⟩ := hc
        simp only [Option.some.injEq] at hl
        subst hl
        have h1 : pureRun P (eqGuard .neq t x y (.agg xs) (.agg ys)) = some () := by
          unfold eqGuard
          simp only [Bool.not_true, Bool.false_eq_true, if_false, pureRun_bind, pureRun_program, Option.bind_some, hg, Bool.not_false, if_true]
          rfl
        unfold bop
        rw [pureRun_bind, h1, Option.bind_some]
        show pureRun P (Op.equal t (.agg xs) (.agg ys) >>= fun r => pure (Value.bool !r)) = _
        rw [pureRun_bind, equal_flat hu hs hf hr, hr]
        rfl
      · cases hl
    · cases hl
theorem eqFs_nil (xs ys : Array Value) : eqFs xs ys [] = some true := (rfl)
theorem eqFs_cons (xs ys : Array Value) (t n : Nat) (l : List (Nat × Nat)) : eqFs xs ys ((t, n) :: l) = (xs[n]?).bind fun u => (ys[n]?).bind fun v => (eqV t u v).bind fun b => (eqFs xs ys l).map (b && ·) := (rfl)
theorem eqV_int (k : IntKind) (a b : Int) : eqV 1 (.int k a) (.int k b) = some (decide (a = b)) := by simp [eqV, int_beq]
theorem eqV_str (a b : ByteArray) : eqV 2 (.string a) (.string b) = some (decide (a = b)) := by simp [eqV, bytes_eq]
theorem eqV_bool (a b : Bool) : eqV 3 (.bool a) (.bool b) = some (a == b) := by simp [eqV]
theorem arr_0 (a : Value) (l : List Value) : (a :: l).toArray[0]? = some a := by simp
theorem arr_s (a : Value) (l : List Value) (n : Nat) : (a :: l).toArray[n + 1]? = l.toArray[n]? := by simp
theorem arr_get (l : List Value) (n : Nat) : l.toArray[n]? = l[n]? := by simp
attribute [go_sem] bop_aeql bop_aneq eqFs_nil eqFs_cons eqV_int eqV_str eqV_bool arr_get
end Go.Eng
