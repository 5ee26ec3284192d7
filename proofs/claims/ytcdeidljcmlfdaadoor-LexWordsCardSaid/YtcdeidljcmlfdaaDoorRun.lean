/- The same reading, cut into parts, for the kernel: closed calls are run so (printed by mkrun.py out of Eng; the session's own words). -/
import Derived.Test.YtcdeidljcmlfdaaDoorTab
namespace Go.Eng
open Go.RowKit
set_option linter.unusedVariables false
set_option linter.unusedSimpArgs false
def qo_move (P : Program) (F : FTy) (tk : Bool × Bool) (ρ : Operand → Option D) (β : Nat → Option (List D)) (o : Oper) (x : Operand) : Option Eff := (ρ x).bind fun d => if tk.1 then some { d := norm P o.type d, gone := goneOf x d } else some { d := strip d }
def qo_assign (P : Program) (F : FTy) (tk : Bool × Bool) (ρ : Operand → Option D) (β : Nat → Option (List D)) (o : Oper) (x : Operand) : Option Eff := (ρ x).bind fun d => some { d := norm P o.type d, gone := goneOf x d }
def qo_pick (P : Program) (F : FTy) (tk : Bool × Bool) (ρ : Operand → Option D) (β : Nat → Option (List D)) (o : Oper) (c a b : Operand) : Option Eff := (ρ c).bind fun c => match c with
    | .v (.bool q) => (ρ (if q then a else b)).bind fun d => if data d then some { d := d } else none
    | _ => none
def qo_alloc (P : Program) (F : FTy) (tk : Bool × Bool) (ρ : Operand → Option D) (β : Nat → Option (List D)) (o : Oper) (t : TypeId) : Option Eff := (ofZero P t).bind fun cs => if cs.all one = true ∧ o.dst.getD 0 < OB then some { d := .bp (o.dst.getD 0) 0, box := some (bzc t cs) } else none
def qo_box (P : Program) (F : FTy) (tk : Bool × Bool) (ρ : Operand → Option D) (β : Nat → Option (List D)) (o : Oper) (t : TypeId) (x : Operand) : Option Eff := (ρ x).bind fun d => if (cellsD d).all one = true ∧ (cellsD d).any (refc (o.dst.getD 0)) = false ∧ o.dst.getD 0 < OB then some { d := .bp (o.dst.getD 0) 0, box := some (cellsD d), gone := goneOf x d } else none
def qo_makeSlice (P : Program) (F : FTy) (tk : Bool × Bool) (ρ : Operand → Option D) (β : Nat → Option (List D)) (o : Oper) (t : TypeId) (l c : Operand) : Option Eff := if sameOp l c = true then (ρ l).bind fun a => (idx a).bind fun n => match P.underlying t with
    | some (.slice e) => (P.info? e).bind fun i => (ofZero P e).bind fun z => if 0 ≤ n ∧ n ≤ (maxLen : Int) ∧ n * i.bytes ≤ 140737488355328 ∧ 0 < i.size ∧ z.length = i.size ∧ z.all one = true ∧ o.dst.getD 0 < OB then
        some { d := .bs (o.dst.getD 0) 0 i.size n.toNat, box := some (List.replicate n.toNat z).flatten } else none
    | _ => none
    else none
def qo_binOp (P : Program) (F : FTy) (tk : Bool × Bool) (ρ : Operand → Option D) (β : Nat → Option (List D)) (o : Oper) (op : BinOp) (t : TypeId) (x y : Operand) : Option Eff := (ρ x).bind fun a => (ρ y).bind fun b => match cmpD P op t a b with
    | some r => some { d := .v r }
    | none => (toV a).bind fun a => (toV b).bind fun b => (pureRun P (do eqGuard op t x y a b; binOp op t a b)).map fun r => { d := .v r }
def qo_makeFunc (P : Program) (F : FTy) (tk : Bool × Bool) (ρ : Operand → Option D) (β : Nat → Option (List D)) (o : Oper) (f : FuncId) (xs ys : Array Operand) : Option Eff := (xs.toList.mapM fun x => (ρ x).bind fun d => if fn1 d = true then some d else none).bind fun ds => (ys.toList.mapM fun x => (ρ x).bind fun d => if fn1 d = true then some d else none).bind fun es => some { d := .fn f ds es }
def qo_unOp (P : Program) (F : FTy) (tk : Bool × Bool) (ρ : Operand → Option D) (β : Nat → Option (List D)) (o : Oper) (op : UnOp) (x : Operand) : Option Eff := (ρ x).bind fun a => (toV a).bind fun a => (pureRun P (Op.unary op a)).map fun r => { d := .v r }
def qo_convert (P : Program) (F : FTy) (tk : Bool × Bool) (ρ : Operand → Option D) (β : Nat → Option (List D)) (o : Oper) (s t : TypeId) (x : Operand) : Option Eff := (ρ x).bind fun a => convD P tk.2 o.dst β s t a
def qo_index (P : Program) (F : FTy) (tk : Bool × Bool) (ρ : Operand → Option D) (β : Nat → Option (List D)) (o : Oper) (t : TypeId) (x i : Operand) : Option Eff := (ρ x).bind fun a => (ρ i).bind fun b => match toV a with
    | some a => (toV b).bind fun b => (pureRun P (Instr.index t a b)).map fun r => { d := .v r }
    | none => match a, P.underlying t with
      | .agg cs, some (.array n e) => (idx b).bind fun i => (sizeT P e).bind fun k => if 0 ≤ i ∧ i < (n : Int) then (partD P e k cs (i.toNat * k)).map fun d => { d := d } else none
      | _, _ => none
def qo_build (P : Program) (F : FTy) (tk : Bool × Bool) (ρ : Operand → Option D) (β : Nat → Option (List D)) (o : Oper) (t : TypeId) (parts : Array (Nat × Operand)) : Option Eff := (ofZero P t).bind fun z => if z.all one then (parts.toList.mapM fun (p : Nat × Operand) => (ρ p.2).map fun d => (p.1, d)).bind fun ps => match P.underlying t with
    | some (.struct fields) => (fields.toList.mapM fun f => (P.info? f.type).map fun i => (f.offset, i.size)).bind fun places =>
      (fillD (places.toArray[·]?) z ps).map fun cs => { d := .agg cs }
    | some (.array _ e) => (sizeT P e).bind fun k => (fillD (fun i => some (i * k, k)) z ps).map fun cs => { d := .agg cs }
    | _ => none
    else none
def qo_buildSlice (P : Program) (F : FTy) (tk : Bool × Bool) (ρ : Operand → Option D) (β : Nat → Option (List D)) (o : Oper) (t : TypeId) (n : Nat) (parts : Array (Nat × Operand)) : Option Eff := match P.underlying t with
    | some (.slice e) => (sizeT P e).bind fun k => if 0 < k ∧ n * k ≤ 2 ^ 24 then (ofZero P e).bind fun z => if z.length = k ∧ z.all one then
        (parts.toList.mapM fun (p : Nat × Operand) => (ρ p.2).map fun d => (p.1, d)).bind fun ps =>
        (fillD (fun i => some (i * k, k)) ((List.range (n * k)).map fun j => z.getD (j % z.length) .undef) ps).bind fun cs => if cs.all nobs = true then some { d := bsE tk.2 e k (chunks k n (cs.map fin1)) } else none else none else none
    | _ => none
def qo_load (P : Program) (F : FTy) (tk : Bool × Bool) (ρ : Operand → Option D) (β : Nat → Option (List D)) (o : Oper) (t : TypeId) (x : Operand) : Option Eff := (ρ x).bind fun a => match a with
    | .bp b off => (β b).bind fun cs => (sizeT P t).bind fun n => if tk.1 then (P.underlying t).bind fun q => if isAggD q then (if off + n ≤ cs.length ∧ ((cs.drop off).take n).all one = true then some { d := .ag2 ((cs.drop off).take n), rd := [b], st := some (b, off, ((cs.drop off).take n).map strip1) } else none) else (cs[off]?).bind fun d => if d.tops then some { d := norm P t d, gb := some (b, off), rd := [b] } else none else (partB P t n cs off).map fun d => { d := d, rd := [b] }
    | .ep k es i j => (es[i]?).bind fun cs => (sizeT P t).bind fun n => (partD P t n cs j).map fun d => { d := d }
    | _ => none
def qo_store (P : Program) (F : FTy) (tk : Bool × Bool) (ρ : Operand → Option D) (β : Nat → Option (List D)) (o : Oper) (t : TypeId) (x y : Operand) : Option Eff := (ρ x).bind fun a => (ρ y).bind fun d => match a with
    | .bp b off => (β b).bind fun cs => (sizeT P t).bind fun n =>
      if (cellsD d).length = n ∧ off + n ≤ cs.length ∧ (cellsD d).all one = true then some { d := .v undef, gone := goneOf y d, rd := [b], st := some (b, off, cellsD d) } else none
    | _ => none
def qo_nilCheck (P : Program) (F : FTy) (tk : Bool × Bool) (ρ : Operand → Option D) (β : Nat → Option (List D)) (o : Oper) (x : Operand) : Option Eff := (ρ x).bind fun a => match a with
    | .bp b off => some { d := .bp b off }
    | .ep k es i j => some { d := .ep k es i j }
    | _ => none
def qo_fieldAddr (P : Program) (F : FTy) (tk : Bool × Bool) (ρ : Operand → Option D) (β : Nat → Option (List D)) (o : Oper) (s : TypeId) (x : Operand) (f : Nat) : Option Eff := (ρ x).bind fun a => (fieldOf P s f).bind fun p => if p.2.2 = 0 then none else match a with
    | .bp b off => some { d := .bp b (off + p.1) }
    | .ep k es i j => some { d := .ep k es i (j + p.1) }
    | _ => none
def qo_field (P : Program) (F : FTy) (tk : Bool × Bool) (ρ : Operand → Option D) (β : Nat → Option (List D)) (o : Oper) (s : TypeId) (x : Operand) (f : Nat) : Option Eff := (ρ x).bind fun a => (fieldOf P s f).bind fun p => match a with
    | .agg cs => (partD P p.2.1 p.2.2 cs p.1).map fun d => { d := d }
    | _ => none
def qo_indexAddr (P : Program) (F : FTy) (tk : Bool × Bool) (ρ : Operand → Option D) (β : Nat → Option (List D)) (o : Oper) (t : TypeId) (x i : Operand) : Option Eff := (ρ x).bind fun a => (ρ i).bind fun b => (idx b).bind fun i => match P.underlying t with
    | some (.slice e) => (sizeT P e).bind fun k => match a with
      | .bs b off k' n => if k = k' ∧ 0 ≤ i ∧ i < (n : Int) then some { d := .bp b (off + i.toNat * k) } else none
      | a => (esOf a).bind fun es => if 0 ≤ i ∧ (es[i.toNat]?).any (fun e => e.length == k) = true then some { d := .ep k es i.toNat 0 } else none
    | some (.array n e) => (sizeT P e).bind fun k => if 0 ≤ i ∧ i < (n : Int) then (match a with
      | .ep k' es i0 j => some { d := .ep k' es i0 (j + i.toNat * k) }
      | .bp b off => some { d := .bp b (off + i.toNat * k) }
      | _ => none) else none
    | _ => none
def qo_slice (P : Program) (F : FTy) (tk : Bool × Bool) (ρ : Operand → Option D) (β : Nat → Option (List D)) (o : Oper) (t : TypeId) (x : Operand) (l h m : Option Operand) : Option Eff := (ρ x).bind fun a => match a, m with
    | .v (.string s), none => match l, h with
      | some l, some h => (ρ l).bind fun l => (toV l).bind fun l => (ρ h).bind fun h => (toV h).bind fun h => (pureRun P (Instr.sliceAt t (.string s) (some l) (some h) none)).map fun r => { d := .v r }
      | some l, none => (ρ l).bind fun l => (toV l).bind fun l => (pureRun P (Instr.sliceAt t (.string s) (some l) none none)).map fun r => { d := .v r }
      | none, some h => (ρ h).bind fun h => (toV h).bind fun h => (pureRun P (Instr.sliceAt t (.string s) none (some h) none)).map fun r => { d := .v r }
      | none, none => none
    | a, none => (esOf a).bind fun p => (bound ρ 0 l).bind fun lo => (bound ρ p.length h).bind fun hi => match P.underlying t with
      | some (.slice e) => (sizeT P e).bind fun k => if p.all (fun e => e.length == k) = true ∧ 0 ≤ lo ∧ lo ≤ hi ∧ hi ≤ (p.length : Int) then some { d := .sl ((p.take hi.toNat).drop lo.toNat) } else none
      | _ => none
    | _, _ => none
def qo_extract (P : Program) (F : FTy) (tk : Bool × Bool) (ρ : Operand → Option D) (β : Nat → Option (List D)) (o : Oper) (x : Operand) (i : Nat) : Option Eff := (ρ x).bind fun a => match a with
    | .tup ds => (ds[i]?).bind fun d => some { d := norm P o.type d }
    | .tp2 c r ds => if i = c ∧ i < ds.length then (match r with
      | .undef => none
      | .raw k m cs => if tk.2 = true ∧ o.dst.isSome = true ∧ o.dst.getD 0 < OB then some { d := .bs (o.dst.getD 0) 0 k m, box := some cs, gone := tmpOf x } else none
      | r => some { d := norm P o.type r, gone := tmpOf x }) else (ds[i]?).bind fun d => some { d := norm P o.type d }
    | _ => none
def qo_b_len (P : Program) (F : FTy) (tk : Bool × Bool) (ρ : Operand → Option D) (β : Nat → Option (List D)) (o : Oper) (c : Call) : Option Eff := match c.args.toList with
      | [x] => (ρ x).bind fun a => match a with
        | .v (.string s) => match (c.argTypes[0]?).bind P.underlying with
          | some .string => some { d := .v (.int .i64 s.size) }
          | _ => none
        | .sl es | .own _ _ es => match (c.argTypes[0]?).bind P.underlying with
          | some (.slice _) => some { d := .v (.int .i64 es.length) }
          | _ => none
        | .bs _ _ _ n => match (c.argTypes[0]?).bind P.underlying with
          | some (.slice _) => some { d := .v (.int .i64 n) }
          | _ => none
        | _ => none
      | _ => none
def qo_b_append (P : Program) (F : FTy) (tk : Bool × Bool) (ρ : Operand → Option D) (β : Nat → Option (List D)) (o : Oper) (c : Call) : Option Eff := match c.args.toList, c.argTypes.toList with
      | [x, y], [t, t'] => if t = t' then (ρ x).bind fun a => (ρ y).bind fun b => match norm P t a, P.underlying t with
        | .own e k es, some (.slice e') => (esOf b).bind fun p => (P.info? e).bind fun i =>
          if e = e' ∧ p.all (fun e => e.length == k) = true ∧ i.size = k ∧ 0 < k ∧ (i.zero.map fun z => z.cells.size) = some k ∧ (es.length + p.length) * i.bytes ≤ 140737488355328 ∧ es.length + p.length ≤ maxLen ∧ o.dst.isSome = true then some (appE tk.2 o.dst e k es p (goneOf x a)) else none
        | .slx k es, some (.slice e') => (esOf b).bind fun p => (P.info? e').bind fun i =>
          if es.isEmpty = false ∧ p.isEmpty = false ∧ es.all (fun e => e.length == k) = true ∧ p.all (fun e => e.length == k) = true ∧ i.size = k ∧ 0 < k ∧ (i.zero.map fun z => z.cells.size) = some k ∧ (es.length + p.length) * i.bytes ≤ 140737488355328 ∧ es.length + p.length ≤ maxLen ∧ o.dst.isSome = true then some { d := .own e' k (es ++ p) } else none
        | _, _ => none
        else (ρ x).bind fun a => (ρ y).bind fun b => appS P t t' (norm P t a) b (goneOf x a) o.dst.isSome
      | _, _ => none
def qo_b_clear (P : Program) (F : FTy) (tk : Bool × Bool) (ρ : Operand → Option D) (β : Nat → Option (List D)) (o : Oper) (c : Call) : Option Eff := match c.args.toList, c.argTypes.toList with
      | [x], [t] => (ρ x).bind fun a => match a, P.underlying t with
        | .bs b off k n, some (.slice e) => (β b).bind fun cs => (ofZero P e).bind fun z => if z.length = k ∧ z.all one = true ∧ off + (List.replicate n z).flatten.length ≤ cs.length ∧ 0 < n then some { d := .tup [], rd := [b], st := some (b, off, (List.replicate n z).flatten) } else none
        | _, _ => none
      | _, _ => none
def qo_b_min (P : Program) (F : FTy) (tk : Bool × Bool) (ρ : Operand → Option D) (β : Nat → Option (List D)) (o : Oper) (c : Call) : Option Eff := (c.args.toList.mapM fun x => (ρ x).bind toV).bind fun vs => (pureRun P (Builtin.min_ c.argTypes o.type vs.toArray)).map fun r => { d := .v r }
def qo_b_max (P : Program) (F : FTy) (tk : Bool × Bool) (ρ : Operand → Option D) (β : Nat → Option (List D)) (o : Oper) (c : Call) : Option Eff := (c.args.toList.mapM fun x => (ρ x).bind toV).bind fun vs => (pureRun P (Builtin.max_ c.argTypes o.type vs.toArray)).map fun r => { d := .v r }
def qo_call (P : Program) (F : FTy) (tk : Bool × Bool) (ρ : Operand → Option D) (β : Nat → Option (List D)) (o : Oper) (c : Call) (x : Operand) : Option Eff := (ρ x).bind fun d => (fnOf d).bind fun f => (c.args.toList.mapM fun x => (ρ x).bind fun d => if argA (finA tk.2 d) = true then some (finA tk.2 d) else none).bind fun ds =>
      if (goneA c.args.toList ds).Nodup then
      (reach β 64 ((f.2.1 ++ ds ++ f.2.2).flatMap boxD) []).bind fun L => if L.isEmpty = true then (callD P F f.1 (f.2.1 ++ ds ++ f.2.2)).bind (retE tk.2 o.dst (goneA c.args.toList ds)) else callO P F β f.1 (f.2.1 ++ ds ++ f.2.2) L (goneA c.args.toList ds)
      else none
def dopQ (P : Program) (F : FTy) (tk : Bool × Bool) (ρ : Operand → Option D) (β : Nat → Option (List D)) (o : Oper) : Option Eff := match o.op with
  | .move x => qo_move P F tk ρ β o x
  | .assign x => qo_assign P F tk ρ β o x
  | .pick c a b => qo_pick P F tk ρ β o c a b
  | .alloc t => qo_alloc P F tk ρ β o t
  | .box t x => qo_box P F tk ρ β o t x
  | .makeSlice t l c => qo_makeSlice P F tk ρ β o t l c
  | .binOp op t x y _ => qo_binOp P F tk ρ β o op t x y
  | .makeFunc (.func f) xs ys => qo_makeFunc P F tk ρ β o f xs ys
  | .unOp op _ x => qo_unOp P F tk ρ β o op x
  | .convert s t x => qo_convert P F tk ρ β o s t x
  | .index t x i => qo_index P F tk ρ β o t x i
  | .build t parts => qo_build P F tk ρ β o t parts
  | .buildSlice t n parts => qo_buildSlice P F tk ρ β o t n parts
  | .load t x => qo_load P F tk ρ β o t x
  | .store t x y => qo_store P F tk ρ β o t x y
  | .nilCheck x => qo_nilCheck P F tk ρ β o x
  | .fieldAddr s x f => qo_fieldAddr P F tk ρ β o s x f
  | .field s x f => qo_field P F tk ρ β o s x f
  | .indexAddr t x i => qo_indexAddr P F tk ρ β o t x i
  | .slice t x l h m => qo_slice P F tk ρ β o t x l h m
  | .extract x i => qo_extract P F tk ρ β o x i
  | .call c => match c.callee with
    | .builtin .len => qo_b_len P F tk ρ β o c
    | .builtin .append => qo_b_append P F tk ρ β o c
    | .builtin .clear => qo_b_clear P F tk ρ β o c
    | .builtin .min => qo_b_min P F tk ρ β o c
    | .builtin .max => qo_b_max P F tk ρ β o c
    | .value x => qo_call P F tk ρ β o c x
    | _ => none
  | _ => none
theorem dopQ_eq (P : Program) (F : FTy) (tk : Bool × Bool) (ρ : Operand → Option D) (β : Nat → Option (List D)) (o : Oper) : dopQ P F tk ρ β o = dop P F tk ρ β o := by
  cases ho : o.op with
  | call c =>
    cases hc : c.callee with
    | builtin b => cases b <;> (simp only [dopQ, dop, ho, hc]; try rfl)
    | value x => simp only [dopQ, dop, ho, hc]; rfl
    | invoke => simp only [dopQ, dop, ho, hc]
  | makeFunc fi xs ys => cases fi <;> (simp only [dopQ, dop, ho]; try rfl)
  | _ => simp only [dopQ, dop, ho]; try rfl
def deffQ (P : Program) (F : FTy) (aps hs : List Tmp) (ops : Array Oper) (st : St) (o : Oper) : Option Eff :=
  (dwant ops o st.at).bind fun q => if q then dopQ P F (match o.dst with | some d => (aps.any (Nat.beq d) || hs.any (Nat.beq (d + HM)), hs.any (Nat.beq d) && decide (d < HM)) | none => (false, false)) st.rd st.bx o else some { d := .v undef }
theorem any_beq (d : Nat) (l : List Nat) : l.any (Nat.beq d) = l.contains d := by
  rw [Bool.eq_iff_iff, List.any_eq_true, List.contains_iff_mem]
  exact ⟨fun ⟨x, hx, h⟩ => by rw [Nat.eq_of_beq_eq_true h]; exact hx, fun h => ⟨d, h, Nat.beq_refl d⟩⟩
theorem deffQ_eq (P : Program) (F : FTy) (hs : List Tmp) (ops : Array Oper) (st : St) (o : Oper) : deffQ P F (apps ops.toList) hs ops st o = deff P F hs ops st o := by
  unfold deffQ deff
  rw [takes_eq]
  simp only [dopQ_eq, any_beq, hinted, moved]
  cases o.dst with
  | none => rfl
  | some d => simp only [Bool.and_comm]
def resN : Res → Nat
  | .t i => 2 * i
  | .b i => 2 * i + 1
theorem resN_inj {a b : Res} (h : resN a = resN b) : a = b := by
  cases a <;> cases b <;> simp only [resN, Res.t.injEq, Res.b.injEq] at h ⊢ <;> omega
def elemQ (r : Res) (l : List Res) : Bool := l.any fun s => Nat.beq (resN r) (resN s)
theorem elemQ_eq (r : Res) (l : List Res) : elemQ r l = l.contains r := by
  rw [Bool.eq_iff_iff, elemQ, List.any_eq_true, List.contains_iff_mem]
  exact ⟨fun ⟨x, hx, h⟩ => by rw [resN_inj (Nat.eq_of_beq_eq_true h)]; exact hx, fun h => ⟨r, h, Nat.beq_refl _⟩⟩
def waitsQ (o : Oper) (i : Nat) : Bool := o.after.toList.any fun e => Region.binds .any e && Nat.beq e.on i
theorem beqN (a b : Nat) : Nat.beq a b = (a == b) := by
  rw [Bool.eq_iff_iff, Nat.beq_eq, beq_iff_eq]
theorem waitsQ_eq (o : Oper) (i : Nat) : waitsQ o i = waits o i := by
  unfold waitsQ waits
  rw [Array.any_toList]
  simp only [beqN]
def okPairQ (ops : Array Oper) (i : Nat) (oi : Oper) (ei : Eff) (oj : Oper) (ej : Eff) : Bool :=
  waitsQ oj i || (((ei.W oi.dst).all fun r => !elemQ r (readsOf ops oj ej) && !elemQ r (ej.W oj.dst)) && ((readsOf ops oi ei).all fun r => !elemQ r (ej.W oj.dst)) && ((softOf oj ej).all fun t => !elemQ (.t t) (ei.Wh oi.dst)) && (softOf oi ei).all fun t => !elemQ (.t t) (ej.Wh oj.dst))
def okTrQ (ops : Array Oper) (l : List ((Oper × Eff) × Nat)) : Bool :=
  l.all fun p => (p.1.1.after.toList.all fun e => !Region.binds .any e || Nat.ble (e.on + 1) p.2) && (p.1.2.box.isNone || p.1.1.dst.isSome) && l.all fun q =>
    (if Nat.ble (p.2 + 1) q.2 = true then okPairQ ops p.2 p.1.1 p.1.2 q.1.1 q.1.2 else true) && (p.1.2.box.isNone || Nat.beq p.2 q.2 || !refsE (p.1.1.dst.getD 0) q.1.2 || waitsQ q.1.1 p.2)
theorem okTrQ_eq (ops : Array Oper) (l : List ((Oper × Eff) × Nat)) : okTrQ ops l = okTr ops l := by
  have hb : ∀ a b : Nat, Nat.ble (a + 1) b = decide (a < b) := fun a b => by
    rw [Bool.eq_iff_iff, Nat.ble_eq, decide_eq_true_eq]; exact Iff.rfl
  unfold okTrQ okTr okPairQ okPair
  simp only [waitsQ_eq, elemQ_eq, Array.all_toList, hb, decide_eq_true_eq, beqN]
  congr 1
  funext p
  congr 2
  funext q
  congr 1
  rw [Bool.or_comm (p.1.2.box.isNone) (p.2 == q.2)]
def setK {β : Type} : List D → Nat → D → (List D → β) → β
  | [], _, _, k => k []
  | _ :: xs, 0, d, k => k (d :: xs)
  | x :: xs, n + 1, d, k => setK xs n d fun ys => k (x :: ys)
theorem setK_eq {β : Type} (d : D) : ∀ (l : List D) (n : Nat) (k : List D → β), setK l n d k = k (l.set n d)
  | [], n, k => rfl
  | x :: xs, 0, k => rfl
  | x :: xs, n + 1, k => by rw [setK, setK_eq d xs]; rfl
def onK {β : Type} (e : Eff) (st : St) (dst : Option Tmp) (k : St → β) : β := match e with
  | ⟨d, none, [], none, _, none, []⟩ => (match dst with
    | some i => setK st.t i d fun t => k ⟨t, st.b⟩
    | none => k st)
  | e => k (e.on st dst)
def onqK {β : Type} (e : Eff) (st : St) (dst : Option Tmp) (k : St → β) : β := match e with
  | ⟨d, none, [], none, _, none, []⟩ => (match dst with
    | some i => setK st.t i d fun t => k ⟨t, st.b⟩
    | none => k st)
  | e => k (e.onq st dst)
theorem onK_eq {β : Type} (e : Eff) (st : St) (dst : Option Tmp) (k : St → β) : onK e st dst k = k (e.on st dst) := by
  unfold onK
  split
  · cases dst with
    | none => rfl
    | some i => simp only [setK_eq]; rfl
  · rfl
theorem onqK_eq {β : Type} (e : Eff) (st : St) (dst : Option Tmp) (k : St → β) : onqK e st dst k = k (e.onq st dst) := by
  unfold onqK
  split
  · cases dst with
    | none => rfl
    | some i => simp only [setK_eq]; rfl
  · rfl
def dlistQ (P : Program) (F : FTy) (aps hs : List Tmp) (ops : Array Oper) : List Oper → St → Option St
  | [], st => some st
  | o :: l, st => (deffQ P F aps hs ops st o).bind fun e => onK e st o.dst fun s => dlistQ P F aps hs ops l s
theorem dlistQ_eq (P : Program) (F : FTy) (hs : List Tmp) (ops : Array Oper) : ∀ (l : List Oper) (st : St), dlistQ P F (apps ops.toList) hs ops l st = dlist P F hs ops l st
  | [], st => rfl
  | o :: l, st => by
    simp only [dlistQ, dlist, deffQ_eq, onK_eq, dlistQ_eq P F hs ops l]
def dtrQ (P : Program) (F : FTy) (aps hs : List Tmp) (ops : Array Oper) : List Oper → St → Option (List Eff)
  | [], _ => some []
  | o :: l, st => (deffQ P F aps (mh hs) ops st o).bind fun e => (onqK e st o.dst fun s => dtrQ P F aps hs ops l s).map (e :: ·)
theorem dtrQ_eq (P : Program) (F : FTy) (hs : List Tmp) (ops : Array Oper) : ∀ (l : List Oper) (st : St), dtrQ P F (apps ops.toList) hs ops l st = dtr P F hs ops l st
  | [], st => rfl
  | o :: l, st => by
    simp only [dtrQ, dtr, deffQ_eq, onqK_eq, dtrQ_eq P F hs ops l]
def dallQ : List (Oper × Eff) → St → (St → Option (Ex × St)) → Option (Ex × St)
  | [], st, k => k st
  | p :: l, st, k => onqK p.2 st p.1.dst fun s => dallQ l s k
theorem dallQ_eq : ∀ (l : List (Oper × Eff)) (st : St) (k : St → Option (Ex × St)), dallQ l st k = k (l.foldl (fun s p => p.2.onq s p.1.dst) st)
  | [], st, k => rfl
  | p :: l, st, k => by
    rw [dallQ, onqK_eq, dallQ_eq l]; rfl
def denCQ (P : Program) (F : FTy) (cl : Nat → List Tmp) : Code → Nat → Nat → St → Option (Ex × St)
  | .skip, _, _, st => some (.norm, st)
  | .region id ops false, _, _, st => (freezes (cl (hreg id)) st).bind fun st => (dlistQ P F (apps ops.toList) (cl (hvar id)) ops ops.toList st).map fun s => (.norm, s)
  | .region id ops true, _, _, st => (freezes (cl (hreg id)) st).bind fun st => (dtrQ P F (apps ops.toList) (cl (hvar id)) ops ops.toList (undefs ops st)).bind fun es => if okTrQ ops (ops.toList.zip es).zipIdx then dallQ (ops.toList.zip es) (undefs ops st) fun s => some (.norm, s) else none
  | .seq a b, bk, n, st => (denCQ P F cl a bk n st).bind fun r => match r.1 with
    | .norm => denCQ P F cl b bk n r.2
    | _ => some r
  | .cond c x y, bk, n, st => (st.rd c).bind fun d => match d with
    | .v (.bool q) => if q then denCQ P F cl x bk n st else denCQ P F cl y bk n st
    | _ => none
  | .block id c, _, n, st => (denCQ P F cl c id n st).map fun r => match r.1 with
    | .exit j => if j = id then (.norm, r.2) else r
    | _ => r
  | .loop c, bk, n, st => iter (denCQ P F cl c bk n) (cl bk) n st
  | .exit id, _, _, st => some (.exit id, st)
  | .ret, _, _, st => some (.ret, st)
  | _, _, _, _ => none
theorem denCQ_eq (P : Program) (F : FTy) (cl : Nat → List Tmp) : ∀ (c : Code) (bk n : Nat) (st : St), denCQ P F cl c bk n st = denC P F cl c bk n st
  | .skip, _, _, _ => rfl
  | .region id ops false, _, _, st => by simp only [denCQ, denC, dlistQ_eq]
  | .region id ops true, _, _, st => by simp only [denCQ, denC, dtrQ_eq, dallQ_eq, okTrQ_eq]; rfl
  | .seq a b, bk, n, st => by
    simp only [denCQ, denC, denCQ_eq P F cl a]
    congr 1
    funext r
    obtain ⟨e, s⟩ := r
    cases e <;> first | rfl | exact denCQ_eq P F cl b _ _ _
  | .cond c x y, bk, n, st => by
    simp only [denCQ, denC]
    congr 1
    funext d
    cases d with
    | v q =>
      cases q with
      | bool q => simp only [denCQ_eq P F cl x, denCQ_eq P F cl y]
      | _ => rfl
    | _ => rfl
  | .block id c, _, n, st => by simp only [denCQ, denC, denCQ_eq P F cl c]; rfl
  | .loop c, bk, n, st => by
    simp only [denCQ, denC]
    rw [show denCQ P F cl c bk n = denC P F cl c bk n from funext fun st => denCQ_eq P F cl c bk n st]
  | .exit _, _, _, _ => rfl
  | .ret, _, _, _ => rfl
  | .scope _, _, _, _ => rfl
  | .label _, _, _, _ => rfl
  | .goto _, _, _, _ => rfl
  | .refuse _, _, _, _ => rfl
  | .rangeFunc .., _, _, _ => rfl
termination_by c => c
def denFQ (P : Program) (F : FTy) (cl : FuncId → Nat → List Tmp) (n : Nat) (f : FuncId) (ds : List D) (os : List (List D)) : Option (D × List (List D)) :=
  (P.funcs[f]?).bind fun fn => fn.body.bind fun c => if ds.length ≤ fn.ntmps then
    (denCQ P F (cl f) c 0 n ⟨ds ++ List.replicate (fn.ntmps - ds.length) (.v undef), fun i => if i < OB then none else os[i - OB]?⟩).bind fun r => match r.1 with
      | .exit _ => none
      | _ => (freezes (cl f hend) r.2).bind fun st => (dresAll P fn.results.toList st (cl f hmvr).head?).bind fun d => (outs st.b os.length 0).map fun os' => (d, os')
    else none
def denNQ (P : Program) (cl : FuncId → Nat → List Tmp) (prim : FTy) : Nat → FTy
  | 0, f, ds, os => prim f ds os
  | n + 1, f, ds, os => match prim f ds os with
    | some r => some r
    | none => denFQ P (denNQ P cl prim n) cl n f ds os
theorem denNQ_eq (P : Program) (cl : FuncId → Nat → List Tmp) (prim : FTy) : ∀ n, denNQ P cl prim n = denN P cl prim n
  | 0 => rfl
  | n + 1 => by
    funext f ds os
    simp only [denNQ, denN, denNQ_eq P cl prim n, denFQ, denF, denCQ_eq]
    rfl
end Go.Eng
namespace Go.Proofs.YtcdeidljcmlfdaaDoor
open Go Go.Eng Go.Proofs
theorem FF_runQ {f : FuncId} {ds : List D} {r : D} (n : Nat) (h : denNQ Tryd.prog hints prims n f ds [] = some (r, [])) : FF f ds = some r :=
  FF_run n (by rw [← denNQ_eq]; exact h)
end Go.Proofs.YtcdeidljcmlfdaaDoor
