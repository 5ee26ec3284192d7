/- A reading of the program's own text by values: what a function makes of data, told without memory, and that the machine does just that, in whatever order (the session's own words). -/
import Derived.Orders
import Derived.Maps.AppendAt
import Derived.Laws.Rows
import Derived.Below
import Derived.KernelRfl
namespace Go.Eng
open Go.RowKit
set_option linter.unusedVariables false
set_option linter.unusedSimpArgs false

/-! ### Data -/
/-- What a place holds, told by value. 'v': this very value. 'sl': a slice whose elements (each a list of cells) stay as they are. 'own': a slice of the call's own, to which may be appended. 'bp': a place in a variable of the call's own. 'ep': the place of a cell of an element. 'bs': a slice whose elements are a variable's cells. -/
inductive D where
  | undef
  | v (x : Value)
  | sl (es : List (List D))
  | own (e : TypeId) (k : Nat) (es : List (List D))
  | agg (cs : List D)
  | tup (ds : List D)
  | bp (b off : Nat)
  | ep (k : Nat) (es : List (List D)) (i j : Nat)
  | bs (b off k n : Nat)
  deriving Inhabited

/-- Cells that stay as they are. -/
abbrev FZ := Nat → Nat → Option Value
/-- the program's own tables: what its variables hold from the start on -/
def tabs (g : Nat) : Option (List Value) := none
def Bs (Z : FZ) : Prop := ∀ g cs, tabs g = some cs → ∀ o (h : o < cs.length), Z g o = some cs[o]

inductive Rp (Z : FZ) : Value → D → Prop
  | v (x : Value) : Rp Z x (.v x)
  | sl (a : Option Addr) (n c k : Nat) (es : List (List D)) (hn : n = es.length) (hc : n ≤ c) (ad : Addr) (ha : 0 < n → a = some ad) (hsp : ad.spot = none) (hk : ∀ i (hi : i < es.length), (es[i]).length = k)
      (x : Nat → Nat → Value) (hz : ∀ i (hi : i < es.length) j (hj : j < (es[i]).length), Z ad.block (ad.off + i * k + j) = some (x i j))
      (hr : ∀ i (hi : i < es.length) j (hj : j < (es[i]).length), Rp Z (x i j) (es[i][j])) : Rp Z (.slice a n c) (.sl es)
  | agg (xs : List Value) (cs : List D) (hl : xs.length = cs.length) (h : ∀ i (hi : i < cs.length) (hj : i < xs.length), Rp Z xs[i] cs[i]) : Rp Z (.agg xs.toArray) (.agg cs)
  | tup (xs : List Value) (cs : List D) (hl : xs.length = cs.length) (h : ∀ i (hi : i < cs.length) (hj : i < xs.length), Rp Z xs[i] cs[i]) : Rp Z (.tuple xs.toArray) (.tup cs)

def FZ.le (Z Z' : FZ) : Prop := ∀ b o x, Z b o = some x → Z' b o = some x
theorem FZ.le_refl (Z : FZ) : Z.le Z := fun _ _ _ h => h
theorem FZ.le_trans {Z Z' Z'' : FZ} (h : Z.le Z') (h' : Z'.le Z'') : Z.le Z'' := fun b o x hx => h' b o x (h b o x hx)

theorem Bs.mono {Z Z' : FZ} (hZ : Z.le Z') (h : Bs Z) : Bs Z' := fun g cs hc o ho => hZ _ _ _ (h g cs hc o ho)
theorem Rp.mono {Z Z' : FZ} (hZ : Z.le Z') {x : Value} {d : D} (h : Rp Z x d) : Rp Z' x d := by
  induction h with
  | v x => exact .v x
  | sl a n c k es hn hc ad ha hsp hk x hz hr ih => exact .sl a n c k es hn hc ad ha hsp hk x (fun i hi j hj => hZ _ _ _ (hz i hi j hj)) ih
  | agg xs cs hl h ih => exact .agg xs cs hl ih
  | tup xs cs hl h ih => exact .tup xs cs hl ih

/-- Those cells stand in the world; each is one value. -/
def Agree (Z : FZ) (w : World) : Prop := ∀ b o x, Z b o = some x → w.cell? ⟨b, o, none⟩ = some x ∧ x.oneCell' = true


/-! ### What an operation makes -/
/-- What asks nothing of the world. -/
def pureRun {α : Type} (P : Program) : Sem α → Option α
  | .pure a => some a
  | .program k => pureRun P (k P)
  | .mark _ k => pureRun P k
  | _ => none
theorem pureRun_run {α : Type} {P : Program} (s : Sem α) (a : α) (w : World) (h : pureRun P s = some a) : s.run P w = .ok a w := by
  induction s with
  | pure x => simp only [pureRun, Option.some.injEq] at h; subst h; rfl
  | program k ih => exact ih P h
  | mark m k ih => exact ih h
  | _ => simp [pureRun] at h

def toV : D → Option Value
  | .v x => some x
  | .agg cs => (go cs).map fun l => .agg l.toArray
  | _ => none
where
  go : List D → Option (List Value)
    | [] => some []
    | .v x :: l => (go l).map (x :: ·)
    | _ :: _ => none
theorem toV_go (Z : FZ) : ∀ (cs : List D) (l xs : List Value), toV.go cs = some l → xs.length = cs.length → (∀ i (hi : i < cs.length) (hj : i < xs.length), Rp Z xs[i] cs[i]) → xs = l
  | [], l, xs, h, hl, _ => by
    simp only [toV.go, Option.some.injEq] at h; subst h
    exact List.eq_nil_of_length_eq_zero hl
  | d :: cs, l, [], h, hl, _ => by simp at hl
  | d :: cs, l, x :: xs, h, hl, hr => by
    cases d with
    | v y =>
      simp only [toV.go, Option.map_eq_some_iff] at h
      obtain ⟨l', h', rfl⟩ := h
      have h0 := hr 0 (by simp) (by simp)
      simp only [List.getElem_cons_zero] at h0
      cases h0
      refine congrArg _ (toV_go Z cs l' xs h' (by simpa using hl) fun i hi hj => ?_)
      have h1 := hr (i + 1) (by simp; omega) (by simp; omega)
      simp only [List.getElem_cons_succ] at h1
      exact h1
    | _ => simp [toV.go] at h
theorem toV_rp {Z : FZ} {x y : Value} {d : D} (h : toV d = some y) (hr : Rp Z x d) : x = y := by
  cases hr with
  | v x => simpa [toV] using h
  | agg xs cs hl hh =>
    simp only [toV, Option.map_eq_some_iff] at h
    obtain ⟨l, h', rfl⟩ := h
    rw [toV_go Z cs l xs h' hl hh]
  | sl => simp [toV] at h
  | tup => simp [toV] at h

def strip : D → D
  | .own _ _ es => .sl es
  | d => d
/-- as it is handed on: nothing may be appended to it any more -/
def fin1 : D → D
  | .own _ _ es => .sl es
  | .v (.slice none 0 0) => .sl []
  | d => d
def fin : D → D
  | .agg cs => .agg (cs.map fin1)
  | d => fin1 d
/-- a result: what may be appended to stays so -/
def finR : D → D
  | .own e k es => .own e k es
  | d => fin d
def cellsD : D → List D
  | .agg cs => cs
  | .v (.agg xs) => xs.toList.map .v
  | d => [d]
def one : D → Bool
  | .v x => x.oneCell'
  | .sl _ | .own _ _ _ | .bs _ _ _ _ => true
  | _ => false
/-- data that may be handed on -/
def D.tops : D → Bool
  | .own _ _ _ | .v _ | .sl _ => true
  | _ => false
def nobs : D → Bool
  | .bs _ _ _ _ => false
  | _ => true
def data : D → Bool
  | .v _ | .sl _ => true
  | .agg cs => cs.all nobs
  | _ => false
/-- does a place of that variable stand there? -/
def refc (b : Nat) : D → Bool
  | .bs b' _ _ _ => b' == b
  | _ => false
def refs (b : Nat) : D → Bool
  | .bp b' _ => b' == b
  | .bs b' _ _ _ => b' == b
  | .agg cs => cs.any (refc b)
  | _ => false
def kill (i : Nat) (d : D) : D := if refs i d then .undef else d
def killb (i : Nat) (c : Option (List D)) : Option (List D) := c.bind fun cs => if cs.any (refc i) then none else some cs
def isAggD : TypeDesc → Bool
  | .struct _ | .array _ _ => true
  | _ => false
def sizeT (P : Program) (t : TypeId) : Option Nat := (P.info? t).map (·.size)
/-- a nil slice is one to which may be appended -/
def norm (P : Program) (t : TypeId) (d : D) : D :=
  match d with
  | .v (.slice none 0 0) => match P.underlying t with
    | some (.slice e) => match P.info? e with
      | some i => .own e i.size []
      | none => d
    | _ => d
  | d => d
def setCells (cs : List D) (n : Nat) (xs : List D) : List D := cs.take n ++ xs ++ cs.drop (n + xs.length)
/-- the parts of a composite, laid at their places -/
def fillD (place : Nat → Option (Nat × Nat)) : List D → List (Nat × D) → Option (List D)
  | cs, [] => some cs
  | cs, (i, d) :: rest => (place i).bind fun p =>
    if (cellsD (strip d)).length = p.2 ∧ p.1 + p.2 ≤ cs.length ∧ (cellsD (strip d)).all one = true then fillD place (setCells cs p.1 (cellsD (strip d))) rest else none
def chunks (k : Nat) : Nat → List D → List (List D)
  | 0, _ => []
  | n + 1, cs => cs.take k :: chunks k n (cs.drop k)
def idx : D → Option Int
  | .v (.int _ i) => some i
  | _ => none

/-- What an operation does to what is told: the value of its temporary, the variable that it makes, the temporaries whose slice goes over, what it stores. -/
structure Eff where
  d : D
  box : Option (List D) := none
  gone : List Tmp := []
  gb : Option (Nat × Nat) := none
  rd : Option Nat := none
  st : Option (Nat × Nat × List D) := none

def tmpOf : Operand → List Tmp
  | .tmp t => [t]
  | _ => []
/-- whose right goes over -/
def goneOf (x : Operand) : D → List Tmp
  | .own _ _ _ => tmpOf x
  | _ => []
/-- a function's own slices' elements -/
def esOf : D → Option (List (List D))
  | .sl es | .own _ _ es => some es
  | _ => none
def ofZero (P : Program) (t : TypeId) : Option (List D) := ((P.info? t).bind (·.zero)).map fun z => z.cells.toList.map D.v
def fieldOf (P : Program) (s : TypeId) (f : Nat) : Option (Nat × TypeId × Nat) :=
  match P.underlying s with
  | some (.struct fields) => (fields[f]?).bind fun x => (sizeT P x.type).bind fun n => some (x.offset, x.type, n)
  | _ => none
def partD (P : Program) (t : TypeId) (n : Nat) (cs : List D) (off : Nat) : Option D :=
  (P.underlying t).bind fun q => if off + n ≤ cs.length then if isAggD q then some (.agg ((cs.drop off).take n)) else if n = 1 then (cs[off]?).map (norm P t) else none else none
/-- out of a variable -/
def partB (P : Program) (t : TypeId) (n : Nat) (cs : List D) (off : Nat) : Option D :=
  partD P t n (cs.map strip) off

/-- the operation's place is what is appended to -/
def takes (ops : Array Oper) (o : Oper) : Bool := match o.dst with
  | some d => ops.any fun p => match p.op with
    | .call c => (match c.callee, c.args.toList with
      | .builtin .append, .tmp t :: _ => t == d
      | _, _ => false)
    | _ => false
  | none => false

def funOf : D → Option FuncId
  | .v (.func (.func f) x y) => if x.size = 0 ∧ y.size = 0 then some f else none
  | _ => none
def bound (ρ : Operand → Option D) (n : Int) : Option Operand → Option Int
  | none => some n
  | some x => (ρ x).bind idx
def sameOp : Operand → Operand → Bool
  | .tmp a, .tmp b => a == b
  | .const (.int _ a), .const (.int _ b) => a == b
  | _, _ => false
/-- is it the program's own text? -/
def bodied (P : Program) (f : FuncId) : Bool := ((P.funcs[f]?).map fun fn => fn.body.isSome).getD false
def outD : Value → Option D
  | .tuple xs => some (.tup (xs.toList.map .v))
  | x => some (.v x)
/-- what stands outside the program's text -/
def ext (P : Program) (f : FuncId) (ds : List D) : Option D := (P.funcs[f]?).bind fun fn => if fn.body.isNone = true ∧ (fn.name == "runtime.NumGoroutine") = false ∧ (Extern.findNext fn).isNone = true then (Extern.find fn).bind fun e => (ds.mapM toV).bind fun vs => (pureRun P (e vs.toArray)).bind outD else none
def callD (P : Program) (F : FuncId → List D → Option D) (f : FuncId) (ds : List D) : Option D := if bodied P f = true then F f ds else ext P f ds
def dop (P : Program) (F : FuncId → List D → Option D) (tk : Bool) (ρ : Operand → Option D) (β : Nat → Option (List D)) (o : Oper) : Option Eff :=
  match o.op with
  | .move x => (ρ x).bind fun d => if tk then some { d := norm P o.type d, gone := goneOf x d } else some { d := norm P o.type (strip d) }
  | .assign x => (ρ x).bind fun d => some { d := norm P o.type d, gone := goneOf x d }
  | .pick c a b => (ρ c).bind fun c => match c with
    | .v (.bool q) => (ρ (if q then a else b)).bind fun d => if data d then some { d := d } else none
    | _ => none
  | .alloc t => (ofZero P t).bind fun cs => if cs.all one then some { d := .bp (o.dst.getD 0) 0, box := some cs } else none
  | .box t x => (ρ x).bind fun d => if (cellsD d).all one = true ∧ (cellsD d).any (refc (o.dst.getD 0)) = false then some { d := .bp (o.dst.getD 0) 0, box := some (cellsD d), gone := goneOf x d } else none
  | .makeSlice t l c => if sameOp l c = true then (ρ l).bind fun a => (idx a).bind fun n => match P.underlying t with
    | some (.slice e) => (P.info? e).bind fun i => (ofZero P e).bind fun z => if 0 ≤ n ∧ n ≤ (maxLen : Int) ∧ n * i.bytes ≤ 140737488355328 ∧ 0 < i.size ∧ z.length = i.size ∧ z.all one = true then
        some { d := .bs (o.dst.getD 0) 0 i.size n.toNat, box := some (List.replicate n.toNat z).flatten } else none
    | _ => none
    else none
  | .binOp op t x y _ => (ρ x).bind fun a => (toV a).bind fun a => (ρ y).bind fun b => (toV b).bind fun b =>
    (pureRun P (do eqGuard op t x y a b; binOp op t a b)).map fun r => { d := .v r }
  | .unOp op _ x => (ρ x).bind fun a => (toV a).bind fun a => (pureRun P (Op.unary op a)).map fun r => { d := .v r }
  | .convert s t x => (ρ x).bind fun a => (toV a).bind fun a => (pureRun P (convert s t a)).map fun r => { d := .v r }
  | .index t x i => (ρ x).bind fun a => (ρ i).bind fun b => match toV a with
    | some a => (toV b).bind fun b => (pureRun P (Instr.index t a b)).map fun r => { d := .v r }
    | none => match a, P.underlying t with
      | .agg cs, some (.array n e) => (idx b).bind fun i => (sizeT P e).bind fun k => if 0 ≤ i ∧ i < (n : Int) then (partD P e k cs (i.toNat * k)).map fun d => { d := d } else none
      | _, _ => none
  | .build t parts => (ofZero P t).bind fun z => if z.all one then (parts.toList.mapM fun (p : Nat × Operand) => (ρ p.2).map fun d => (p.1, d)).bind fun ps => match P.underlying t with
    | some (.struct fields) => (fields.toList.mapM fun f => (P.info? f.type).map fun i => (f.offset, i.size)).bind fun places =>
      (fillD (places.toArray[·]?) z ps).map fun cs => { d := .agg cs }
    | some (.array _ e) => (sizeT P e).bind fun k => (fillD (fun i => some (i * k, k)) z ps).map fun cs => { d := .agg cs }
    | _ => none
    else none
  | .buildSlice t n parts => match P.underlying t with
    | some (.slice e) => (sizeT P e).bind fun k => if 0 < k ∧ n * k ≤ 2 ^ 24 then (ofZero P e).bind fun z => if z.length = k ∧ z.all one then
        (parts.toList.mapM fun (p : Nat × Operand) => (ρ p.2).map fun d => (p.1, d)).bind fun ps =>
        (fillD (fun i => some (i * k, k)) ((List.range (n * k)).map fun j => z.getD (j % z.length) .undef) ps).bind fun cs => if cs.all nobs = true then some { d := .own e k (chunks k n (cs.map fin1)) } else none else none else none
    | _ => none
  | .load t x => (ρ x).bind fun a => match a with
    | .bp b off => (β b).bind fun cs => (sizeT P t).bind fun n => if tk then (P.underlying t).bind fun q => if isAggD q then none else (cs[off]?).bind fun d => if d.tops then some { d := norm P t d, gb := some (b, off), rd := some b } else none else (partB P t n cs off).map fun d => { d := d, rd := some b }
    | .ep k es i j => (es[i]?).bind fun cs => (sizeT P t).bind fun n => (partD P t n cs j).map fun d => { d := d }
    | _ => none
  | .store t x y => (ρ x).bind fun a => (ρ y).bind fun d => match a with
    | .bp b off => (β b).bind fun cs => (sizeT P t).bind fun n =>
      if (cellsD d).length = n ∧ off + n ≤ cs.length ∧ (cellsD d).all one = true then some { d := .v undef, gone := goneOf y d, rd := some b, st := some (b, off, cellsD d) } else none
    | _ => none
  | .nilCheck x => (ρ x).bind fun a => match a with
    | .bp b off => some { d := .bp b off }
    | _ => none
  | .fieldAddr s x f => (ρ x).bind fun a => (fieldOf P s f).bind fun p => if p.2.2 = 0 then none else match a with
    | .bp b off => some { d := .bp b (off + p.1) }
    | .ep k es i j => some { d := .ep k es i (j + p.1) }
    | _ => none
  | .field s x f => (ρ x).bind fun a => (fieldOf P s f).bind fun p => match a with
    | .agg cs => (partD P p.2.1 p.2.2 cs p.1).map fun d => { d := d }
    | _ => none
  | .indexAddr t x i => (ρ x).bind fun a => (ρ i).bind fun b => (idx b).bind fun i => match P.underlying t with
    | some (.slice e) => (sizeT P e).bind fun k => match a with
      | .bs b off k' n => if k = k' ∧ 0 ≤ i ∧ i < (n : Int) then some { d := .bp b (off + i.toNat * k) } else none
      | a => (esOf a).bind fun es => if 0 ≤ i ∧ (es[i.toNat]?).any (fun e => e.length == k) = true then some { d := .ep k es i.toNat 0 } else none
    | some (.array n e) => (sizeT P e).bind fun k => if 0 ≤ i ∧ i < (n : Int) then (match a with
      | .ep k' es i0 j => some { d := .ep k' es i0 (j + i.toNat * k) }
      | .bp b off => some { d := .bp b (off + i.toNat * k) }
      | _ => none) else none
    | _ => none
  | .slice t x l h m => (ρ x).bind fun a => match a, m with
    | .v (.string s), none => match l, h with
      | some l, some h => (ρ l).bind fun l => (toV l).bind fun l => (ρ h).bind fun h => (toV h).bind fun h => (pureRun P (Instr.sliceAt t (.string s) (some l) (some h) none)).map fun r => { d := .v r }
      | some l, none => (ρ l).bind fun l => (toV l).bind fun l => (pureRun P (Instr.sliceAt t (.string s) (some l) none none)).map fun r => { d := .v r }
      | none, some h => (ρ h).bind fun h => (toV h).bind fun h => (pureRun P (Instr.sliceAt t (.string s) none (some h) none)).map fun r => { d := .v r }
      | none, none => none
    | a, none => (esOf a).bind fun p => (bound ρ 0 l).bind fun lo => (bound ρ p.length h).bind fun hi => match P.underlying t with
      | some (.slice e) => (sizeT P e).bind fun k => if p.all (fun e => e.length == k) = true ∧ 0 ≤ lo ∧ lo ≤ hi ∧ hi ≤ (p.length : Int) then some { d := .sl ((p.take hi.toNat).drop lo.toNat) } else none
      | _ => none
    | _, _ => none
  | .extract x i => (ρ x).bind fun a => match a with
    | .tup ds => (ds[i]?).bind fun d => if data d then some { d := norm P o.type d } else none
    | _ => none
  | .call c => match c.callee with
    | .builtin .len => match c.args.toList with
      | [x] => (ρ x).bind fun a => match a with
        | .v (.string s) => match (c.argTypes[0]?).bind P.underlying with
          | some .string => some { d := .v (.int .i64 s.size) }
          | _ => none
        | .sl es | .own _ _ es => match (c.argTypes[0]?).bind P.underlying with
          | some (.slice _) => some { d := .v (.int .i64 es.length) }
          | _ => none
        | .bs _ _ _ n => match (c.argTypes[0]?).bind P.underlying with
          | some (.slice _) => some { d := .v (.int .i64 n) }
          | _ => none
        | _ => none
      | _ => none
    | .builtin .append => match c.args.toList, c.argTypes.toList with
      | [x, y], [t, t'] => if t = t' then (ρ x).bind fun a => (ρ y).bind fun b => match norm P t a, P.underlying t with
        | .own e k es, some (.slice e') => (esOf b).bind fun p => (P.info? e).bind fun i =>
          if e = e' ∧ p.all (fun e => e.length == k) = true ∧ i.size = k ∧ 0 < k ∧ (i.zero.map fun z => z.cells.size) = some k ∧ (es.length + p.length) * i.bytes ≤ 140737488355328 ∧ es.length + p.length ≤ maxLen ∧ o.dst.isSome = true then some { d := .own e k (es ++ p), gone := goneOf x a } else none
        | _, _ => none
        else none
      | _, _ => none
    | .builtin .min => (c.args.toList.mapM fun x => (ρ x).bind toV).bind fun vs => (pureRun P (Builtin.min_ c.argTypes o.type vs.toArray)).map fun r => { d := .v r }
    | .builtin .max => (c.args.toList.mapM fun x => (ρ x).bind toV).bind fun vs => (pureRun P (Builtin.max_ c.argTypes o.type vs.toArray)).map fun r => { d := .v r }
    | .value x => (ρ x).bind fun d => (funOf d).bind fun f => (c.args.toList.mapM fun x => (ρ x).bind fun d => if data (fin d) then some (fin d) else none).bind fun ds => (callD P F f ds).map fun r => { d := r }
    | _ => none
  | _ => none

/-! ### What a text makes -/
structure St where
  t : List D
  b : List (Option (List D))
def St.at (st : St) (i : Tmp) : D := st.t.getD i .undef
def gD (g : Nat) : D := match tabs g with
  | some cs => .ep cs.length [cs.map .v] 0 0
  | none => .v (.pointer (some ⟨g, 0, none⟩))
def St.rd (st : St) : Operand → Option D
  | .tmp t => match st.at t with
    | .undef => none
    | d => some d
  | .const x => some (.v x)
  | .global g => some (gD g)
  | .func f => some (.v (.func (.func f) #[] #[]))
def St.bx (st : St) (b : Nat) : Option (List D) := st.b.getD b none
def St.put (st : St) (dst : Option Tmp) (d : D) : St := match dst with
  | some i => { st with t := st.t.set i d }
  | none => st
def stripAt (t : List D) (i : Nat) : List D := t.modify i strip
def Eff.on (e : Eff) (st : St) (dst : Option Tmp) : St :=
  let t := e.gone.foldl stripAt st.t
  let t := match e.box with
    | some _ => t.map (kill (dst.getD 0))
    | none => t
  let b := match e.box with
    | some cs => (st.b.map (killb (dst.getD 0))).set (dst.getD 0) (some cs)
    | none => st.b
  let b := match e.gb with
    | some (k, off) => b.modify k fun c => c.map fun cs => stripAt cs off
    | none => b
  let b := match e.st with
    | some (k, off, cs) => match b.getD k none with
      | some old => b.set k (some (setCells old off cs))
      | none => b
    | none => b
  St.put ⟨t, b⟩ dst e.d

/-- is it wanted? -/
def dwant (ops : Array Oper) (o : Oper) (rd : Nat → D) : Option Bool :=
  match o.guard with
  | none => some true
  | some (j, want) => match (ops[j]?).bind (·.dst) with
    | none => some false
    | some i => match rd i with
      | .v (.bool b) => some (b == want)
      | .v _ => some false
      | _ => none
/-- one operation -/
def deff (P : Program) (F : FuncId → List D → Option D) (ops : Array Oper) (st : St) (o : Oper) : Option Eff :=
  (dwant ops o st.at).bind fun q => if q then dop P F (takes ops o) st.rd st.bx o else some { d := .v undef }
def dlist (P : Program) (F : FuncId → List D → Option D) (ops : Array Oper) : List Oper → St → Option St
  | [], st => some st
  | o :: l, st => (deff P F ops st o).bind fun e => dlist P F ops l (e.on st o.dst)
/-- what is touched -/
inductive Res where
  | t (i : Nat) | b (i : Nat)
  deriving DecidableEq
def Eff.W (e : Eff) (dst : Option Tmp) : List Res :=
  dst.toList.map .t ++ e.gone.map .t ++ (if e.box.isSome then [.b (dst.getD 0)] else []) ++ e.gb.toList.map (fun p => .b p.1) ++ e.st.toList.map (fun p => .b p.1)
def readsOf (ops : Array Oper) (o : Oper) (e : Eff) : List Res :=
  (o.op.operands.toList.flatMap tmpOf).map .t ++ ((o.guard.toList.flatMap fun g => ((ops[g.1]?).bind (·.dst)).toList).map .t) ++ e.rd.toList.map .b
/-- the same, without the forgetting of places -/
def Eff.onb (e : Eff) (b : List (Option (List D))) (dst : Option Tmp) : List (Option (List D)) :=
  let b := match e.box with
    | some cs => b.set (dst.getD 0) (some cs)
    | none => b
  let b := match e.gb with
    | some (k, off) => b.modify k fun c => c.map fun cs => stripAt cs off
    | none => b
  let b := match e.st with
    | some (k, off, cs) => match b.getD k none with
      | some old => b.set k (some (setCells old off cs))
      | none => b
    | none => b
  b
def Eff.onq (e : Eff) (st : St) (dst : Option Tmp) : St := St.put ⟨e.gone.foldl stripAt st.t, e.onb st.b dst⟩ dst e.d
/-- one behind the other, each told -/
def dtr (P : Program) (F : FuncId → List D → Option D) (ops : Array Oper) : List Oper → St → Option (List Eff)
  | [], _ => some []
  | o :: l, st => (deff P F ops st o).bind fun e => (dtr P F ops l (e.onq st o.dst)).map (e :: ·)
def waits (o : Oper) (i : Nat) : Bool := o.after.any fun e => Region.binds .any e && e.on == i
def refsE (b : Nat) (e : Eff) : Bool := refs b e.d || (e.box.any fun cs => cs.any (refc b)) || (e.st.any fun p => p.2.2.any (refc b))
/-- whoever touches what another one changes waits for it -/
def okPair (ops : Array Oper) (i : Nat) (oi : Oper) (ei : Eff) (oj : Oper) (ej : Eff) : Bool :=
  waits oj i || ((ei.W oi.dst).all fun r => !(readsOf ops oj ej).contains r && !(ej.W oj.dst).contains r) && (readsOf ops oi ei).all fun r => !(ej.W oj.dst).contains r
def okTr (ops : Array Oper) (l : List ((Oper × Eff) × Nat)) : Bool :=
  l.all fun p => (p.1.1.after.all fun e => !Region.binds .any e || decide (e.on < p.2)) && (p.1.2.box.isNone || p.1.1.dst.isSome) && l.all fun q =>
    (if p.2 < q.2 then okPair ops p.2 p.1.1 p.1.2 q.1.1 q.1.2 else true) && (p.2 == q.2 || p.1.2.box.isNone || !refsE (p.1.1.dst.getD 0) q.1.2 || waits q.1.1 p.2)
/-- does it make a variable? -/
def mkr : Op → Bool
  | .alloc _ | .box _ _ | .makeSlice _ _ _ => true
  | _ => false
def undef1 (st : St) (o : Oper) : St := match (if mkr o.op = true then o.dst else none) with
  | some d => ⟨(st.t.map (kill d)).set d .undef, st.b.map (killb d)⟩
  | none => st
def undefs (ops : Array Oper) (st : St) : St := ops.toList.foldl undef1 st
/-- a variable's slices stay as they are from now on -/
def frD (b : Nat) (cs : List D) : D → D
  | .bs b' off k n => if b' = b then (if off + n * k ≤ cs.length then .sl (chunks k n (cs.drop off)) else .undef) else .bs b' off k n
  | .bp b' off => if b' = b then .undef else .bp b' off
  | d => d
def frT (b : Nat) (cs : List D) : D → D
  | .agg ds => if (ds.map (frD b cs)).all one = true then .agg (ds.map (frD b cs)) else if ds.any (refc b) then .undef else .agg ds
  | d => frD b cs d
def frB (b : Nat) (cs : List D) (c : Option (List D)) : Option (List D) := c.bind fun ds => if (ds.map (frD b cs)).all one = true then some (ds.map (frD b cs)) else none
def freeze (b : Nat) (st : St) : Option St := (st.bx b).bind fun cs => if (cs.map fin1).all data = true then some ⟨st.t.map (frT b (cs.map fin1)), (st.b.set b none).map (frB b (cs.map fin1))⟩ else none
def freezes : List Nat → St → Option St
  | [], st => some st
  | b :: l, st => (freeze b st).bind (freezes l)
/-- the hints' numbers: a region's, a function's end's -/
def hreg (id : Nat) : Nat := 2 * id + 1000000
def hend : Nat := 1000001
def dall (ops : List Oper) (es : List Eff) (st : St) : St := (ops.zip es).foldl (fun s p => p.2.onq s p.1.dst) st
inductive Ex where
  | norm | exit (id : Nat) | ret
def clear (cl : List Tmp) (st : St) : St := { st with t := cl.foldl (fun t i => t.set i .undef) st.t }
def iter (f : St → Option (Ex × St)) (cl : List Tmp) : Nat → St → Option (Ex × St)
  | 0, _ => none
  | n + 1, st => (f (clear cl st)).bind fun r => match r.1 with
    | .norm => iter f cl n r.2
    | _ => some r
def denC (P : Program) (F : FuncId → List D → Option D) (cl : Nat → List Tmp) : Code → Nat → Nat → St → Option (Ex × St)
  | .skip, _, _, st => some (.norm, st)
  | .region id ops false, _, _, st => (freezes (cl (hreg id)) st).bind fun st => (dlist P F ops ops.toList st).map fun s => (.norm, s)
  | .region id ops true, _, _, st => (freezes (cl (hreg id)) st).bind fun st => (dtr P F ops ops.toList (undefs ops st)).bind fun es => if okTr ops (ops.toList.zip es).zipIdx then some (.norm, dall ops.toList es (undefs ops st)) else none
  | .seq a b, bk, n, st => (denC P F cl a bk n st).bind fun r => match r.1 with
    | .norm => denC P F cl b bk n r.2
    | _ => some r
  | .cond c x y, bk, n, st => (st.rd c).bind fun d => match d with
    | .v (.bool q) => if q then denC P F cl x bk n st else denC P F cl y bk n st
    | _ => none
  | .block id c, _, n, st => (denC P F cl c id n st).map fun r => match r.1 with
    | .exit j => if j = id then (.norm, r.2) else r
    | _ => r
  | .loop c, bk, n, st => iter (denC P F cl c bk n) (cl bk) n st
  | .exit id, _, _, st => some (.exit id, st)
  | .ret, _, _, st => some (.ret, st)
  | _, _, _, _ => none
def dres (P : Program) (st : St) : ResultVar → Option D
  | .tmp t => (st.rd (.tmp t))
  | .cell a ty => (st.rd (.tmp a)).bind fun d => match d with
    | .bp b 0 => (st.bx b).bind fun cs => (sizeT P ty).bind fun n => partB P ty n cs 0
    | _ => none
def denF (P : Program) (F : FuncId → List D → Option D) (cl : FuncId → Nat → List Tmp) (n : Nat) (f : FuncId) (ds : List D) : Option D :=
  (P.funcs[f]?).bind fun fn => fn.body.bind fun c => if ds.length = fn.params.size ∧ ds.length ≤ fn.ntmps then
    (denC P F (cl f) c 0 n ⟨ds ++ List.replicate (fn.ntmps - ds.length) (.v undef), List.replicate fn.ntmps none⟩).bind fun r => match r.1 with
      | .exit _ => none
      | _ => (freezes (cl f hend) r.2).bind fun st => match fn.results.toList with
        | [x] => (dres P st x).bind fun d => if data (fin d) then some (finR d) else none
        | xs => (xs.mapM fun x => (dres P st x).bind fun d => if data (fin d) then some (fin d) else none).map .tup
    else none
def denN (P : Program) (cl : FuncId → Nat → List Tmp) (prim : FuncId → List D → Option D) : Nat → FuncId → List D → Option D
  | 0, f, ds => prim f ds
  | n + 1, f, ds => match prim f ds with
    | some r => some r
    | none => denF P (denN P cl prim n) cl n f ds

/-! ### The machine does so -/
inductive Pos where
  | t (i : Nat) | b (k j : Nat)
  deriving DecidableEq
inductive Own where
  | none | box (b : Nat) | at (p : Pos)
  deriving DecidableEq
abbrev OM := Nat → Own

/-- elements that stay, from a place on -/
def Els (Z : FZ) (g o k : Nat) (es : List (List D)) : Prop :=
  (∀ i (hi : i < es.length), (es[i]).length = k) ∧ ∀ i (hi : i < es.length) j (hj : j < (es[i]).length), ∃ y, Z g (o + i * k + j) = some y ∧ Rp Z y (es[i][j])
theorem Els.mono {Z Z' : FZ} {g o k : Nat} {es : List (List D)} (hZ : Z.le Z') (h : Els Z g o k es) : Els Z' g o k es :=
  ⟨h.1, fun i hi j hj => let ⟨y, h1, h2⟩ := h.2 i hi j hj; ⟨y, hZ _ _ _ h1, h2.mono hZ⟩⟩
theorem Els.sl {Z : FZ} {g o k n c : Nat} {es : List (List D)} (h : Els Z g o k es) (hn : n = es.length) (hc : n ≤ c) : Rp Z (.slice (some ⟨g, o, none⟩) n c) (.sl es) := by
  have hx : ∀ i j, ∃ y, ∀ (hi : i < es.length) (hj : j < (es[i]).length), Z g (o + i * k + j) = some y ∧ Rp Z y (es[i][j]) := by
    intro i j
    by_cases hi : i < es.length
    · by_cases hj : j < (es[i]).length
      · obtain ⟨y, hy⟩ := h.2 i hi j hj
        exact ⟨y, fun _ _ => hy⟩
      · exact ⟨undef, fun _ h => absurd h hj⟩
    · exact ⟨undef, fun h => absurd h hi⟩
  refine .sl _ n c k es hn hc ⟨g, o, none⟩ (fun _ => rfl) rfl h.1 (fun i j => (hx i j).choose) (fun i hi j hj => ((hx i j).choose_spec hi hj).1) (fun i hi j hj => ((hx i j).choose_spec hi hj).2)

def RVc (Z : FZ) (O : OM) (x : Value) : D → Prop
  | .bs b off k n => ∃ g c, O g = .box b ∧ x = .slice (some ⟨g, off, none⟩) n c ∧ n ≤ c
  | d => Rp Z x d
def RV (Z : FZ) (O : OM) (w : World) (p : Pos) (x : Value) : D → Prop
  | .bs b off k n => RVc Z O x (.bs b off k n)
  | .agg cs => ∃ xs : List Value, x = .agg xs.toArray ∧ xs.length = cs.length ∧ ∀ i (hi : i < cs.length) (hj : i < xs.length), RVc Z O xs[i] cs[i]
  | .undef => True
  | .bp b off => ∃ g, O g = .box b ∧ x = .pointer (some ⟨g, off, none⟩)
  | .ep k es i j => ∃ g o, x = .pointer (some ⟨g, o + i * k + j, none⟩) ∧ Els Z g o k es
  | .own e k es => (es = [] ∧ x = .slice none 0 0) ∨ ∃ g c cur, x = .slice (some ⟨g, 0, none⟩) es.length c ∧ O g = .at p ∧ w.heap[g]? = some (.cells cur e (0, 0)) ∧ es.length ≤ c ∧ c ≤ maxLen ∧ cur.size = c * k ∧ Els Z g 0 k es ∧ ∀ o, es.length * k ≤ o → Z g o = none
  | d => Rp Z x d

/-- a variable of the call's own -/
def BV (Z : FZ) (O : OM) (w : World) (b : Nat) (cs : List D) : Prop :=
  ∃ g xs e, O g = .box b ∧ w.heap[g]? = some (.cells xs e (0, 0)) ∧ xs.size = cs.length ∧ (∀ j (h : j < cs.length) (h' : j < xs.size), RV Z O w (.b b j) xs[j] cs[j] ∧ xs[j].oneCell' = true) ∧ (∀ o, Z g o = none) ∧ cs.all one = true

structure Inv (Z0 : FZ) (w0 : World) (Z : FZ) (O : OM) (st : St) (a : Act) (w : World) : Prop where
  tsz : a.tmps.size = st.t.length
  tv : ∀ i (h : i < st.t.length) (h' : i < a.tmps.size), RV Z O w (.t i) a.tmps[i] st.t[i]
  bv : ∀ b cs, st.bx b = some cs → BV Z O w b cs
  uq : ∀ g g' b, O g = .box b → O g' = .box b → g = g'
  ob : ∀ g, O g ≠ .none → w0.heap.size ≤ g ∧ g < w.heap.size
  ag : Agree Z w
  bl : Below w0.heap.size w0 w
  df : a.defers = []
  zn : ∀ b o x, Z b o = some x → Z0 b o = some x ∨ w0.heap.size ≤ b
  bs : Bs Z

theorem nil_rp {Z : FZ} : Rp Z (.slice none 0 0) (.sl []) := .sl none 0 0 0 [] rfl (Nat.le_refl _) ⟨0, 0, none⟩ (fun h => absurd h (Nat.lt_irrefl _)) rfl (fun i hi => absurd hi (Nat.not_lt_zero _)) (fun _ _ => undef) (fun i hi => absurd hi (Nat.not_lt_zero _)) (fun i hi => absurd hi (Nat.not_lt_zero _))
theorem RV.strip {Z : FZ} {O : OM} {w : World} {p : Pos} {x : Value} {d : D} (h : RV Z O w p x d) : RV Z O w p x (strip d) := by
  cases d with
  | own e k es =>
    rcases h with ⟨rfl, rfl⟩ | ⟨g, c, cur, rfl, _, _, hc, _, _, hE, _⟩
    · exact .sl none 0 0 0 [] rfl (Nat.le_refl _) ⟨0, 0, none⟩ (fun h => absurd h (Nat.lt_irrefl _)) rfl (fun i hi => absurd hi (Nat.not_lt_zero _)) (fun _ _ => undef) (fun i hi => absurd hi (Nat.not_lt_zero _)) (fun i hi => absurd hi (Nat.not_lt_zero _))
    · exact hE.sl rfl hc
  | _ => exact h
theorem RVc.fin1 {Z : FZ} {O : OM} {x : Value} {d : D} (h : RVc Z O x d) : RVc Z O x (fin1 d) := by
  unfold Eng.fin1
  split
  · cases h
  · have hx : x = .slice none 0 0 := by cases h; rfl
    subst hx
    exact nil_rp
  · exact h
theorem RVc.nobs {Z : FZ} {O : OM} {x : Value} {d : D} (h : RVc Z O x d) (hd : nobs d = true) : Rp Z x d := by
  cases d <;> first | exact h | simp [Eng.nobs] at hd
theorem RVc.ofRp {Z : FZ} {O : OM} {x : Value} {d : D} (h : Rp Z x d) : RVc Z O x d := by
  cases d <;> first | exact h | cases h
theorem RVc.move {Z Z' : FZ} {O O' : OM} {x : Value} {d : D} (h : RVc Z O x d) (hZ : Z.le Z') (hb : ∀ g b, O g = .box b → O' g = .box b) : RVc Z' O' x d := by
  cases d with
  | bs b off k n => obtain ⟨g, c, h1, h2⟩ := h; exact ⟨g, c, hb g b h1, h2⟩
  | _ => exact Rp.mono hZ h
theorem RV.fin1 {Z : FZ} {O : OM} {w : World} {p : Pos} {x : Value} {d : D} (h : RV Z O w p x d) : RV Z O w p x (fin1 d) := by
  unfold Eng.fin1
  split
  · exact h.strip
  · have hx : x = .slice none 0 0 := by cases h; rfl
    subst hx
    exact nil_rp
  · exact h
theorem RV.fin {Z : FZ} {O : OM} {w : World} {p : Pos} {x : Value} {d : D} (h : RV Z O w p x d) : RV Z O w p x (fin d) := by
  unfold Eng.fin
  split
  · obtain ⟨xs, rfl, hl, hc⟩ := h
    refine ⟨xs, rfl, by rw [List.length_map]; exact hl, fun i hi hj => ?_⟩
    rw [List.getElem_map]
    exact (hc i (by rw [List.length_map] at hi; exact hi) hj).fin1
  · exact h.fin1
theorem RV.data {Z : FZ} {O : OM} {w : World} {p : Pos} {x : Value} {d : D} (h : RV Z O w p x d) (hd : data d = true) : Rp Z x d := by
  cases d with
  | agg cs =>
    obtain ⟨xs, rfl, hl, hc⟩ := h
    exact .agg xs cs hl fun i hi hj => (hc i hi hj).nobs (List.all_eq_true.1 hd _ (List.getElem_mem hi))
  | v _ => exact h
  | sl _ => exact h
  | _ => simp [Eng.data] at hd
theorem RV.ofRp {Z : FZ} {O : OM} {w : World} {p : Pos} {x : Value} {d : D} (h : Rp Z x d) : RV Z O w p x d := by
  cases h with
  | v x => exact .v x
  | sl a n c k es hn hc ad ha hsp hk x hz hr => exact .sl a n c k es hn hc ad ha hsp hk x hz hr
  | agg xs cs hl h => exact ⟨xs, rfl, hl, fun i hi hj => RVc.ofRp (h i hi hj)⟩
  | tup xs cs hl h => exact .tup xs cs hl h
theorem RVc.rv {Z : FZ} {O : OM} {w : World} {p : Pos} {x : Value} {d : D} (h : RVc Z O x d) : RV Z O w p x d := by
  cases d with
  | bs b off k n => exact h
  | v _ => exact h
  | sl _ => exact h
  | tup _ => exact h
  | agg _ => exact RV.ofRp h
  | _ => cases h
theorem toV_data {d : D} {y : Value} (h : toV d = some y) : data d = true := by
  have key : ∀ (cs : List D) (l : List Value), toV.go cs = some l → cs.all nobs = true := by
    intro cs
    induction cs with
    | nil => intro l _; rfl
    | cons d cs ih =>
      intro l h
      cases d with
      | v x =>
        simp only [toV.go, Option.map_eq_some_iff] at h
        obtain ⟨l', h', _⟩ := h
        rw [List.all_cons, ih l' h']; rfl
      | _ => simp [toV.go] at h
  cases d with
  | agg cs =>
    simp only [toV, Option.map_eq_some_iff] at h
    obtain ⟨l, h', _⟩ := h
    exact key cs l h'
  | v _ => rfl
  | _ => simp [toV] at h
theorem RV.toV {Z : FZ} {O : OM} {w : World} {p : Pos} {x y : Value} {d : D} (h : RV Z O w p x d) (hd : toV d = some y) : x = y :=
  toV_rp hd (h.data (toV_data hd))
/-- other positions, other owners, a later world -/
theorem RV.move {Z Z' : FZ} {O O' : OM} {w w' : World} {p : Pos} {x : Value} {d : D} (h : RV Z O w p x d) (hZ : Z.le Z') (hb : ∀ g b, O g = .box b → O' g = .box b)
    (ho : ∀ e k es, d = .own e k es → ∀ g, O g = .at p → O' g = .at p ∧ w'.heap[g]? = w.heap[g]? ∧ ∀ o, Z g o = none → Z' g o = none) : RV Z' O' w' p x d := by
  cases d with
  | undef => trivial
  | bp b off => obtain ⟨g, h1, h2⟩ := h; exact ⟨g, hb g b h1, h2⟩
  | ep k es i j => obtain ⟨g, o, h1, h2⟩ := h; exact ⟨g, o, h1, h2.mono hZ⟩
  | own e k es =>
    rcases h with h | ⟨g, c, cur, h1, h2, h3, h4, h5, h6, h7, h8⟩
    · exact .inl h
    · obtain ⟨q1, q2, q3⟩ := ho e k es rfl g h2
      exact .inr ⟨g, c, cur, h1, q1, q2.trans h3, h4, h5, h6, h7.mono hZ, fun o ho => q3 o (h8 o ho)⟩
  | v _ => exact Rp.mono hZ h
  | sl _ => exact Rp.mono hZ h
  | agg _ => obtain ⟨xs, h1, h2, h3⟩ := h; exact ⟨xs, h1, h2, fun i hi hj => (h3 i hi hj).move hZ hb⟩
  | bs b off k n => have h' : RVc Z O x (.bs b off k n) := h; exact h'.move hZ hb
  | tup _ => exact Rp.mono hZ h

theorem Inv.rd {Z0 : FZ} {w0 w : World} {Z : FZ} {O : OM} {st : St} {a : Act} (I : Inv Z0 w0 Z O st a w) {x : Operand} {d : D} (h : st.rd x = some d) : ∃ p, RV Z O w p (a.eval x) d ∧ ∀ t, x = .tmp t → p = .t t := by
  cases x with
  | const v => simp only [St.rd, Option.some.injEq] at h; subst h; exact ⟨.t 0, .v _, fun t h => by cases h⟩
  | global g =>
    simp only [St.rd, Option.some.injEq] at h
    subst h
    refine ⟨.t 0, ?_, fun t h => by cases h⟩
    unfold gD
    split
    · rename_i cs hc
      refine ⟨g, 0, ?_, fun i hi => ?_, fun i hi j hj => ?_⟩
      · simp [Act.eval]
      · have : i = 0 := by simp at hi; exact hi
        subst this
        simp
      · have : i = 0 := by simp at hi; exact hi
        subst this
        have hj' : j < cs.length := by simpa using hj
        refine ⟨cs[j], ?_, ?_⟩
        · have := I.bs g cs hc j hj'
          simpa using this
        · simp only [List.getElem_cons_zero, List.getElem_map]
          exact .v _
    · exact .v _
  | func f => simp only [St.rd, Option.some.injEq] at h; subst h; exact ⟨.t 0, .v _, fun t h => by cases h⟩
  | tmp t =>
    have hd : st.at t = d ∧ d ≠ .undef := by
      simp only [St.rd] at h
      split at h
      · cases h
      · rename_i h1 ; simp only [Option.some.injEq] at h; exact ⟨h, fun e => h1 (h.trans e)⟩
    have hlt : t < st.t.length := by
      rcases Nat.lt_or_ge t st.t.length with hl | hl
      · exact hl
      · refine absurd ?_ hd.2
        rw [← hd.1, St.at, List.getD_eq_getElem?_getD, List.getElem?_eq_none hl]; rfl
    have := I.tv t hlt (by rw [I.tsz]; exact hlt)
    have h2 : st.t[t] = d := by rw [← hd.1, St.at, List.getD_eq_getElem?_getD, List.getElem?_eq_getElem hlt]; rfl
    rw [h2] at this
    refine ⟨.t t, ?_, fun s h => by cases h; rfl⟩
    have he : a.eval (.tmp t) = a.tmps[t]'(by rw [I.tsz]; exact hlt) := by
      simp [Act.eval, Array.getD, I.tsz, hlt]
    rw [he]; exact this

theorem put_len (st : St) (dst : Option Tmp) (d : D) : (st.put dst d).t.length = st.t.length := by
  cases dst <;> simp [St.put]
theorem put_size (a : Act) (dst : Option Tmp) (x : Value) : (a.put dst x).tmps.size = a.tmps.size := by
  cases dst <;> simp [Act.put]
theorem put_b (st : St) (dst : Option Tmp) (d : D) : (st.put dst d).b = st.b := by cases dst <;> rfl
theorem put_bx (st : St) (dst : Option Tmp) (d : D) (b : Nat) : (st.put dst d).bx b = st.bx b := by cases dst <;> rfl
theorem put_df (a : Act) (dst : Option Tmp) (x : Value) : (a.put dst x).defers = a.defers := by cases dst <;> rfl
theorem put_cases (st : St) (a : Act) (dst : Option Tmp) (d : D) (x : Value) (i : Nat) (h : i < (st.put dst d).t.length) (h' : i < (a.put dst x).tmps.size) :
    (dst = some i ∧ (st.put dst d).t[i] = d ∧ (a.put dst x).tmps[i] = x) ∨
    ((st.put dst d).t[i] = st.t[i]'(by rw [put_len] at h; exact h) ∧ (a.put dst x).tmps[i] = a.tmps[i]'(by rw [put_size] at h'; exact h')) := by
  cases dst with
  | none => exact .inr ⟨rfl, rfl⟩
  | some k =>
    by_cases hk : k = i
    · subst hk
      refine .inl ⟨rfl, ?_, ?_⟩
      · simp [St.put]
      · simp only [Act.put]; rw [Array.getElem_setIfInBounds (by simpa [Act.put] using h')]; simp
    · refine .inr ⟨?_, ?_⟩
      · simp only [St.put]; rw [List.getElem_set_ne hk]
      · simp only [Act.put]; rw [Array.getElem_setIfInBounds (by simpa [Act.put] using h'), if_neg hk]

/-- (A) a temporary takes what is told -/
theorem Inv.put {Z0 : FZ} {w0 w : World} {Z : FZ} {O : OM} {st : St} {a : Act} (I : Inv Z0 w0 Z O st a w) (dst : Option Tmp) (d : D) (x : Value)
    (h : ∀ i, dst = some i → RV Z O w (.t i) x d) : Inv Z0 w0 Z O (st.put dst d) (a.put dst x) w where
  tsz := by rw [put_size, put_len]; exact I.tsz
  tv := fun i h1 h2 => by
    rcases put_cases st a dst d x i h1 h2 with ⟨e, e1, e2⟩ | ⟨e1, e2⟩
    · rw [e1, e2]; exact h i e
    · rw [e1, e2]; exact I.tv i _ _
  bv := fun b cs hb => I.bv b cs (by rw [put_bx] at hb; exact hb)
  uq := I.uq
  ob := I.ob
  ag := I.ag
  bl := I.bl
  df := by rw [put_df]; exact I.df
  zn := I.zn
  bs := I.bs

/-- a right goes from one position to another -/
def OM.mv (O : OM) (p q : Pos) : OM := fun g => if O g = .at p then .at q else O g
theorem OM.mv_box {O : OM} {p q : Pos} {g b : Nat} : O.mv p q g = .box b ↔ O g = .box b := by
  unfold OM.mv
  by_cases h : O g = .at p
  · rw [if_pos h, h]; exact ⟨fun h => (by cases h), fun h => (by cases h)⟩
  · rw [if_neg h]
theorem OM.mv_other {O : OM} {p q r : Pos} (hr : r ≠ p) {g : Nat} (h : O g = .at r) : O.mv p q g = .at r := by
  unfold OM.mv
  rw [if_neg (fun e => hr (by rw [h] at e; injection e)), h]
theorem OM.mv_self {O : OM} {p q : Pos} {g : Nat} (h : O g = .at p) : O.mv p q g = .at q := by
  unfold OM.mv; rw [if_pos h]
theorem OM.mv_none {O : OM} {p q : Pos} {g : Nat} (h : O.mv p q g ≠ .none) : O g ≠ .none := by
  unfold OM.mv at h
  by_cases e : O g = .at p
  · rw [e]; intro h; cases h
  · rw [if_neg e] at h; exact h
theorem RV.mvo {Z : FZ} {O : OM} {w : World} {p q r : Pos} {x : Value} {d : D} (h : RV Z O w r x d) (hr : r ≠ p ∨ ∀ e k es, d ≠ .own e k es) : RV Z (O.mv p q) w r x d :=
  h.move (FZ.le_refl Z) (fun g b hb => OM.mv_box.2 hb) (fun e k es he g hg => ⟨OM.mv_other (hr.resolve_right fun hn => hn e k es he) hg, rfl, fun _ ho => ho⟩)
theorem RV.mvs {Z : FZ} {O : OM} {w : World} {p q : Pos} {x : Value} {d : D} (h : RV Z O w p x d) : RV Z (O.mv p q) w q x d := by
  cases d with
  | own e k es =>
    rcases h with h | ⟨g, c, cur, h1, h2, h3⟩
    · exact .inl h
    · exact .inr ⟨g, c, cur, h1, OM.mv_self h2, h3⟩
  | bp b off => obtain ⟨g, h1, h2⟩ := h; exact ⟨g, OM.mv_box.2 h1, h2⟩
  | agg cs => obtain ⟨xs, h1, h2, h3⟩ := h; exact ⟨xs, h1, h2, fun i hi hj => (h3 i hi hj).move (FZ.le_refl Z) fun _ _ => OM.mv_box.2⟩
  | bs b off k n => have h' : RVc Z O x (.bs b off k n) := h; exact h'.move (FZ.le_refl Z) fun _ _ => OM.mv_box.2
  | _ => exact h
theorem RV.cell {Z : FZ} {O : OM} {w : World} {p : Pos} {x : Value} {d : D} (h : RV Z O w p x d) (h1 : one d = true) : RVc Z O x (Eng.strip d) := by
  cases d with
  | v _ => exact RVc.ofRp h
  | sl _ => exact RVc.ofRp h
  | own e k es => exact RVc.ofRp (d := .sl es) h.strip
  | bs _ _ _ _ => exact h
  | _ => simp [one] at h1
theorem strip_own (d : D) : ∀ e k es, strip d ≠ .own e k es := by
  intro e k es
  cases d <;> simp [strip]
theorem stripAt_len (t : List D) (i : Nat) : (stripAt t i).length = t.length := by simp [stripAt]
theorem stripAt_get (t : List D) (s i : Nat) (h : i < (stripAt t s).length) : (stripAt t s)[i] = if s = i then strip (t[i]'(by rw [stripAt_len] at h; exact h)) else t[i]'(by rw [stripAt_len] at h; exact h) := by
  simp [stripAt, List.getElem_modify]

/-- (B) a right goes over from a temporary to the place 'q' that is none of the temporaries' or variables', and may be put there -/
theorem Inv.out {Z0 : FZ} {w0 w : World} {Z : FZ} {O : OM} {st : St} {a : Act} (I : Inv Z0 w0 Z O st a w) (s : Tmp) (q : Pos) : Inv Z0 w0 Z (O.mv (.t s) q) { st with t := stripAt st.t s } a w where
  tsz := by rw [I.tsz]; exact (stripAt_len _ _).symm
  tv := fun i h1 h2 => by
    have h1' : i < st.t.length := by simpa [stripAt_len] using h1
    have hg := stripAt_get st.t s i h1
    show RV _ _ _ _ _ ((stripAt st.t s)[i])
    rw [hg]
    by_cases e : s = i
    · rw [if_pos e]; exact (I.tv i h1' h2).strip.mvo (.inr (strip_own _))
    · rw [if_neg e]; exact (I.tv i h1' h2).mvo (.inl fun h => e (by injection h with h; exact h.symm))
  bv := fun b cs hb => by
    obtain ⟨g, xs, e, h1, h2, h3, h4, h5⟩ := I.bv b cs hb
    exact ⟨g, xs, e, OM.mv_box.2 h1, h2, h3, fun j h h' => ⟨(h4 j h h').1.mvo (.inl (by simp)), (h4 j h h').2⟩, h5⟩
  uq := fun g g' b h h' => I.uq g g' b (OM.mv_box.1 h) (OM.mv_box.1 h')
  ob := fun g h => I.ob g (OM.mv_none h)
  ag := I.ag
  bl := I.bl
  df := I.df
  zn := I.zn
  bs := I.bs

/-- what a function makes, for whoever calls it -/
def RR (Z : FZ) (B : Nat) (w : World) (x : Value) (d : D) : Prop := RV Z (fun g => if B ≤ g ∧ g < w.heap.size then .at (.t 0) else .none) w (.t 0) x d
def Contract (P : Program) (f : FuncId) (ds : List D) (r : D) : Prop :=
  ∀ (Z : FZ) (w : World) (vs : Array Value), Agree Z w → Bs Z → vs.size = ds.length → (∀ i (h : i < ds.length) (h' : i < vs.size), Rp Z vs[i] ds[i]) →
    Calls P f vs w fun e w' => ∃ v Z', e = .returned v ∧ Z.le Z' ∧ (∀ b o x, Z' b o = some x → Z b o = some x ∨ w.heap.size ≤ b) ∧ Agree Z' w' ∧ Below w.heap.size w w' ∧ RR Z' w.heap.size w' v r

theorem wp_value {P : Program} {o : Oper} {a : Act} {w w' : World} {K : Act → World → Prop} {Q : Exit → Act → World → Prop} {x : Value} (h : (execOp a.eval o).run P w = .ok (.value x) w') (hK : K (a.put o.dst x) w') : o.wp P a w K Q := by
  unfold Oper.wp; rw [h]; exact hK
theorem run_value {P : Program} {s : Sem Value} {x : Value} {w w' : World} (h : s.run P w = .ok x w') : (do pure (Next.value (← s)) : Sem Next).run P w = .ok (.value x) w' := by
  rw [Sem.run_bind, h]; rfl

section
variable {P : Program} {F : FuncId → List D → Option D} {Z0 : FZ} {w0 w : World} {Z : FZ} {O : OM} {st : St} {a : Act} {K : Act → World → Prop} {Q : Exit → Act → World → Prop} {o : Oper} {e : Eff} {tk : Bool}

/-- what follows, told of the state behind -/
def After (Z0 : FZ) (w0 : World) (Z : FZ) (st : St) (a : Act) (o : Oper) (e : Eff) (K : Act → World → Prop) : Prop :=
  ∀ x Z' O' w', Z.le Z' → Inv Z0 w0 Z' O' (e.on st o.dst) (a.put o.dst x) w' → K (a.put o.dst x) w'

theorem After.pure {d : D} {x : Value} (hK : After Z0 w0 Z st a o { d := d } K) (I : Inv Z0 w0 Z O st a w) (h : ∀ i, RV Z O w (.t i) x d) : K (a.put o.dst x) w :=
  hK x Z O w (FZ.le_refl Z) (I.put o.dst d x fun i _ => h i)

theorem sound_binOp {op : BinOp} {t yt : TypeId} {x y : Operand} (ho : o.op = .binOp op t x y yt) (h : dop P F tk st.rd st.bx o = some e) (I : Inv Z0 w0 Z O st a w) (hK : After Z0 w0 Z st a o e K) : o.wp P a w K Q := by
  simp only [dop, ho, Option.bind_eq_some_iff, Option.map_eq_some_iff] at h
  obtain ⟨dx, hx, vx, hvx, dy, hy, vy, hvy, r, hr, rfl⟩ := h
  obtain ⟨p, hp, _⟩ := I.rd hx
  obtain ⟨q, hq, _⟩ := I.rd hy
  have e1 := hp.toV hvx
  have e2 := hq.toV hvy
  refine wp_value (x := r) ?_ (hK.pure I fun i => .v r)
  unfold execOp
  simp only [ho, e1, e2]
  exact run_value (pureRun_run _ _ w hr)
theorem sound_unOp {op : UnOp} {t : TypeId} {x : Operand} (ho : o.op = .unOp op t x) (h : dop P F tk st.rd st.bx o = some e) (I : Inv Z0 w0 Z O st a w) (hK : After Z0 w0 Z st a o e K) : o.wp P a w K Q := by
  simp only [dop, ho, Option.bind_eq_some_iff, Option.map_eq_some_iff] at h
  obtain ⟨dx, hx, vx, hvx, r, hr, rfl⟩ := h
  obtain ⟨p, hp, _⟩ := I.rd hx
  have e1 := hp.toV hvx
  refine wp_value (x := r) ?_ (hK.pure I fun i => .v r)
  unfold execOp
  simp only [ho, e1]
  exact run_value (pureRun_run _ _ w hr)
theorem sound_convert {s t : TypeId} {x : Operand} (ho : o.op = .convert s t x) (h : dop P F tk st.rd st.bx o = some e) (I : Inv Z0 w0 Z O st a w) (hK : After Z0 w0 Z st a o e K) : o.wp P a w K Q := by
  simp only [dop, ho, Option.bind_eq_some_iff, Option.map_eq_some_iff] at h
  obtain ⟨dx, hx, vx, hvx, r, hr, rfl⟩ := h
  obtain ⟨p, hp, _⟩ := I.rd hx
  have e1 := hp.toV hvx
  refine wp_value (x := r) ?_ (hK.pure I fun i => .v r)
  unfold execOp
  simp only [ho, e1]
  exact run_value (pureRun_run _ _ w hr)
theorem RV.norm {p : Pos} {x : Value} {d : D} {t : TypeId} (h : RV Z O w p x d) : RV Z O w p x (norm P t d) := by
  unfold Eng.norm
  split
  · have hx : x = .slice none 0 0 := by cases h; rfl
    split
    · split
      · exact .inl ⟨rfl, hx⟩
      · exact h
    · exact h
  · exact h
theorem data_rv {p q : Pos} {x : Value} {d : D} (h : RV Z O w p x d) (hd : ∀ e k es, d ≠ .own e k es) : RV Z O w q x d := by
  cases d with
  | own e k es => exact absurd rfl (hd e k es)
  | _ => exact h
theorem sound_pick {c x y : Operand} (ho : o.op = .pick c x y) (h : dop P F tk st.rd st.bx o = some e) (I : Inv Z0 w0 Z O st a w) (hK : After Z0 w0 Z st a o e K) : o.wp P a w K Q := by
  simp only [dop, ho, Option.bind_eq_some_iff] at h
  obtain ⟨dc, hc, h⟩ := h
  split at h
  · rename_i q
    simp only [Option.bind_eq_some_iff] at h
    obtain ⟨d, hd, h⟩ := h
    split at h
    · rename_i hdt
      simp only [Option.some.injEq] at h
      subst h
      obtain ⟨p, hp, _⟩ := I.rd hc
      obtain ⟨p', hp', _⟩ := I.rd hd
      have e1 : a.eval c = .bool q := hp.toV rfl
      refine wp_value (x := a.eval (if q then x else y)) ?_ (hK.pure I fun i => RV.ofRp (hp'.data hdt))
      unfold execOp
      simp only [ho, e1]
      cases q <;> rfl
    · cases h
  · cases h

theorem nogone {x : Operand} {d d' : D} (h : ∀ e k es, d ≠ .own e k es) : ({ d := d', gone := goneOf x d } : Eff) = { d := d' } := by
  cases d with
  | own e k es => exact absurd rfl (h e k es)
  | _ => rfl
/-- a value, and its right with it, goes to a temporary -/
theorem After.moved {x : Operand} {d : D} (hx : st.rd x = some d) {t : TypeId} (hK : After Z0 w0 Z st a o { d := norm P t d, gone := goneOf x d } K) (I : Inv Z0 w0 Z O st a w) : K (a.put o.dst (a.eval x)) w := by
  obtain ⟨p, hp, hpt⟩ := I.rd hx
  by_cases hd : ∀ e k es, d ≠ .own e k es
  · rw [nogone hd] at hK
    exact hK.pure I fun i => (data_rv hp hd).norm
  · simp only [Classical.not_forall, Classical.not_not] at hd
    obtain ⟨e, k, es, rfl⟩ := hd
    cases x with
    | tmp s =>
      have hps := hpt s rfl
      subst hps
      refine hK (a.eval (.tmp s)) Z (O.mv (.t s) (.t (o.dst.getD 0))) w (FZ.le_refl Z) ?_
      have I' := I.out s (.t (o.dst.getD 0))
      have := I'.put o.dst (norm P t (.own e k es)) (a.eval (.tmp s)) (fun i hi => by rw [hi]; exact hp.mvs.norm)
      exact this
    | const v => simp [St.rd] at hx
    | global g => simp only [St.rd, Option.some.injEq, gD] at hx; split at hx <;> cases hx
    | func f => simp [St.rd] at hx
theorem sound_assign {x : Operand} (ho : o.op = .assign x) (h : dop P F tk st.rd st.bx o = some e) (I : Inv Z0 w0 Z O st a w) (hK : After Z0 w0 Z st a o e K) : o.wp P a w K Q := by
  simp only [dop, ho, Option.bind_eq_some_iff, Option.some.injEq] at h
  obtain ⟨d, hx, rfl⟩ := h
  refine wp_value (x := a.eval x) ?_ (After.moved hx hK I)
  unfold execOp; simp only [ho]; rfl
theorem sound_move {x : Operand} (ho : o.op = .move x) (h : dop P F tk st.rd st.bx o = some e) (I : Inv Z0 w0 Z O st a w) (hK : After Z0 w0 Z st a o e K) : o.wp P a w K Q := by
  simp only [dop, ho, Option.bind_eq_some_iff] at h
  obtain ⟨d, hx, h⟩ := h
  split at h
  · simp only [Option.some.injEq] at h
    subst h
    refine wp_value (x := a.eval x) ?_ (After.moved hx hK I)
    unfold execOp; simp only [ho]; rfl
  · simp only [Option.some.injEq] at h
    subst h
    obtain ⟨p, hp, _⟩ := I.rd hx
    refine wp_value (x := a.eval x) ?_ (hK.pure I fun i => (data_rv hp.strip (strip_own d)).norm)
    unfold execOp; simp only [ho]; rfl
theorem run_isAgg {t : TypeId} {q : TypeDesc} (h : P.underlying t = some q) (w : World) : (isAgg t).run P w = .ok (isAggD q) w := by
  unfold isAgg
  rw [Sem.run_bind, run_underlying h w]
  cases q <;> rfl
theorem run_sizeT {t : TypeId} {n : Nat} (h : sizeT P t = some n) (w : World) : (sizeOf t).run P w = .ok n w := by
  simp only [sizeT, Option.map_eq_some_iff] at h
  obtain ⟨i, hi, rfl⟩ := h
  simp [sizeOf, typeInfo, hi]
theorem addr_add (g o j : Nat) : (⟨g, o, none⟩ : Addr).add j = ⟨g, o + j, none⟩ := by
  unfold Addr.add
  split
  · rename_i h; subst h; rfl
  · rfl
/-- cells that stand for data, read as one value -/
theorem run_part {t : TypeId} {n : Nat} {cs : List D} {g off o : Nat} {d : D} (hn : sizeT P t = some n) (hp : partD P t n cs off = some d)
    (hc : ∀ j (h : j < cs.length), off ≤ j → j < off + n → ∃ y, w.cell? ⟨g, o + j, none⟩ = some y ∧ RVc Z O y cs[j]) : ∃ x, (loadVar t ⟨g, o + off, none⟩).run P w = .ok x w ∧ ∀ p, RV Z O w p x d := by
  simp only [partD, Option.bind_eq_some_iff] at hp
  obtain ⟨q, hq, hp⟩ := hp
  split at hp
  · rename_i hle
    split at hp
    · rename_i hag
      simp only [Option.some.injEq] at hp
      subst hp
      have hx : ∀ j, ∃ y, ∀ (h : j < n), w.cell? ⟨g, o + off + j, none⟩ = some y ∧ ∀ (h' : off + j < cs.length), RVc Z O y cs[off + j] := by
        intro j
        by_cases h : j < n
        · obtain ⟨y, h1, h2⟩ := hc (off + j) (by omega) (by omega) (by omega)
          exact ⟨y, fun _ => ⟨by rw [Nat.add_assoc]; exact h1, fun _ => h2⟩⟩
        · exact ⟨undef, fun h' => absurd h' h⟩
      let xs : List Value := (List.range n).map fun j => (hx j).choose
      have hl : xs.length = n := by simp [xs]
      have hrun : (loadCells ⟨g, o + off, none⟩ xs.length).run P w = .ok xs.toArray w := run_loadCells_list (P := P) w _ xs (fun j v hv => by
        have hj : j < n := by have := (List.getElem?_eq_some_iff.1 hv).1; omega
        have hv' : (hx j).choose = v := by simpa [xs, hj] using hv
        rw [addr_add, ← hv']
        exact ((hx j).choose_spec hj).1)
      refine ⟨.agg xs.toArray, ?_, fun p => ⟨xs, rfl, by rw [hl]; simp; omega, fun i hi hj => ?_⟩⟩
      · unfold loadVar
        rw [Sem.run_bind, run_isAgg hq w]
        simp only [Result.andThen_ok, hag, if_true, Sem.run_bind, run_sizeT hn w]
        rw [hl] at hrun
        rw [hrun]; rfl
      · have hin : i < n := by omega
        have h2 := ((hx i).choose_spec hin).2 (by omega)
        simpa [xs] using h2
    · split at hp
      · rename_i hag h1
        subst h1
        simp only [Option.map_eq_some_iff] at hp
        obtain ⟨d0, hd0, rfl⟩ := hp
        obtain ⟨hlt, hd0⟩ := List.getElem?_eq_some_iff.1 hd0
        obtain ⟨y, h1, h2⟩ := hc off hlt (Nat.le_refl _) (by omega)
        rw [hd0] at h2
        refine ⟨y, ?_, fun p => h2.rv.norm⟩
        unfold loadVar
        rw [Sem.run_bind, run_isAgg hq w]
        simp only [Result.andThen_ok, hag]
        simp [load, Sem.run, h1]
      · cases hp
  · cases hp
theorem list_modify_getD {α : Type} (l : List (Option α)) (b b' : Nat) (f : Option α → Option α) (hf : f none = none) : (l.modify b f).getD b' none = if b = b' then f (l.getD b' none) else l.getD b' none := by
  simp only [List.getD_eq_getElem?_getD, List.getElem?_modify]
  split
  · rename_i h; subst h
    cases l[b]? <;> simp [hf]
  · cases l[b']? <;> simp
theorem one_strip {d : D} (h : one d = true) : one (strip d) = true := by
  cases d <;> first | rfl | exact h
theorem all_strip {cs : List D} {i : Nat} (h : cs.all one = true) : (stripAt cs i).all one = true := by
  rw [List.all_eq_true] at h ⊢
  intro d hd
  rw [List.mem_iff_getElem] at hd
  obtain ⟨j, hj, rfl⟩ := hd
  rw [stripAt_get]
  split
  · exact one_strip (h _ (List.getElem_mem _))
  · exact h _ (List.getElem_mem _)
/-- a right goes out of a variable -/
theorem Inv.outB (I : Inv Z0 w0 Z O st a w) (b off : Nat) (q : Pos) : Inv Z0 w0 Z (O.mv (.b b off) q) { st with b := st.b.modify b fun c => c.map fun cs => stripAt cs off } a w where
  tsz := I.tsz
  tv := fun i h1 h2 => (I.tv i h1 h2).mvo (.inl (by simp))
  bv := fun b' cs hb => by
    simp only [St.bx] at hb
    rw [list_modify_getD _ _ _ _ rfl] at hb
    by_cases e : b = b'
    · subst e
      rw [if_pos rfl, Option.map_eq_some_iff] at hb
      obtain ⟨cs0, h0, rfl⟩ := hb
      obtain ⟨g, xs, e, h1, h2, h3, h4, h5⟩ := I.bv b cs0 h0
      refine ⟨g, xs, e, OM.mv_box.2 h1, h2, by rw [stripAt_len]; exact h3, fun j h h' => ?_, h5.1, all_strip h5.2⟩
      have hj : j < cs0.length := by rwa [stripAt_len] at h
      rw [stripAt_get]
      by_cases ej : off = j
      · rw [if_pos ej]; exact ⟨(h4 j hj h').1.strip.mvo (.inr (strip_own _)), (h4 j hj h').2⟩
      · rw [if_neg ej]; exact ⟨(h4 j hj h').1.mvo (.inl fun h => ej (by injection h with _ h; exact h.symm)), (h4 j hj h').2⟩
    · rw [if_neg e] at hb
      obtain ⟨g, xs, e', h1, h2, h3, h4, h5⟩ := I.bv b' cs hb
      exact ⟨g, xs, e', OM.mv_box.2 h1, h2, h3, fun j h h' => ⟨(h4 j h h').1.mvo (.inl fun h => e (by injection h with h _; exact h.symm)), (h4 j h h').2⟩, h5⟩
  uq := fun g g' b h h' => I.uq g g' b (OM.mv_box.1 h) (OM.mv_box.1 h')
  ob := fun g h => I.ob g (OM.mv_none h)
  ag := I.ag
  bl := I.bl
  df := I.df
  zn := I.zn
  bs := I.bs
theorem Inv.box (I : Inv Z0 w0 Z O st a w) {b off : Nat} {p : Pos} {x : Value} {cs : List D} (hx : RV Z O w p x (.bp b off)) (hb : st.bx b = some cs) :
    ∃ g xs e, x = .pointer (some ⟨g, off, none⟩) ∧ O g = .box b ∧ w.heap[g]? = some (.cells xs e (0, 0)) ∧ xs.size = cs.length ∧ (∀ j (h : j < cs.length) (h' : j < xs.size), RV Z O w (.b b j) xs[j] cs[j] ∧ xs[j].oneCell' = true) ∧ (∀ o, Z g o = none) ∧ cs.all one = true := by
  obtain ⟨g, h1, h2⟩ := hx
  obtain ⟨g', xs, e, h3, h4, h5, h6, h7⟩ := I.bv b cs hb
  have := I.uq g g' b h1 h3
  subst this
  exact ⟨g, xs, e, h2, h1, h4, h5, h6, h7⟩
theorem run_loadAt {t : TypeId} {g off : Nat} {x : Value} (h : (loadVar t ⟨g, off, none⟩).run P w = .ok x w) : (Instr.loadAt t (.pointer (some ⟨g, off, none⟩))).run P w = .ok x w := by
  simp only [Instr.loadAt, Instr.sureAddr, Sem.run_bind, Sem.run_pure, Result.andThen_ok, h]
theorem sound_load {t : TypeId} {x : Operand} (ho : o.op = .load t x) (h : dop P F tk st.rd st.bx o = some e) (I : Inv Z0 w0 Z O st a w) (hK : After Z0 w0 Z st a o e K) : o.wp P a w K Q := by
  simp only [dop, ho, Option.bind_eq_some_iff] at h
  obtain ⟨dx, hx, h⟩ := h
  obtain ⟨p, hp, _⟩ := I.rd hx
  split at h
  · rename_i b off
    simp only [Option.bind_eq_some_iff] at h
    obtain ⟨cs, hb, n, hn, h⟩ := h
    obtain ⟨g, xs, e', hxe, hO, hg, hsz, hcs, hZ, hall1⟩ := I.box hp hb
    have hcell : ∀ j (h' : j < xs.size), w.cell? ⟨g, j, none⟩ = some xs[j] := fun j h' => by
      rw [cell_of_row w g j xs e' (0, 0) hg, Array.getElem?_eq_getElem h']
    split at h
    · simp only [Option.bind_eq_some_iff] at h
      obtain ⟨q, hq, h⟩ := h
      split at h
      · cases h
      · rename_i hag
        simp only [Option.bind_eq_some_iff] at h
        obtain ⟨d, hd, h⟩ := h
        split at h
        · simp only [Option.some.injEq] at h
          subst h
          obtain ⟨hlt, hd⟩ := List.getElem?_eq_some_iff.1 hd
          have hlt' : off < xs.size := by omega
          refine wp_value (w' := w) (x := xs[off]) ?_ ?_
          · unfold execOp
            simp only [ho, hxe]
            refine run_value (run_loadAt ?_)
            unfold loadVar
            rw [Sem.run_bind, run_isAgg hq w]
            have hag' : isAggD q = false := by simpa using hag
            simp only [Result.andThen_ok, hag']
            simp [load, Sem.run, hcell off hlt']
          · refine hK _ Z (O.mv (.b b off) (.t (o.dst.getD 0))) w (FZ.le_refl Z) ?_
            have I' := I.outB b off (.t (o.dst.getD 0))
            refine I'.put o.dst (norm P t d) xs[off] fun i hi => ?_
            rw [hi]
            have := (hcs off hlt hlt').1
            rw [hd] at this
            exact this.mvs.norm
        · cases h
    · simp only [Option.map_eq_some_iff] at h
      obtain ⟨d, hd, rfl⟩ := h
      unfold partB at hd
      obtain ⟨y, hy, hr⟩ := run_part (P := P) (Z := Z) (O := O) (w := w) (g := g) (o := 0) hn hd (fun j h1 h2 h3 => by
        have h1' : j < cs.length := by simpa using h1
        refine ⟨xs[j]'(by omega), by rw [Nat.zero_add]; exact hcell j (by omega), ?_⟩
        rw [List.getElem_map]
        exact (hcs j h1' (by omega)).1.cell (List.all_eq_true.1 hall1 _ (List.getElem_mem h1')))
      refine wp_value (x := y) ?_ (hK.pure I fun i => hr _)
      unfold execOp
      simp only [ho, hxe]
      rw [Nat.zero_add] at hy
      exact run_value (run_loadAt hy)
  · rename_i k es i j
    simp only [Option.bind_eq_some_iff, Option.map_eq_some_iff] at h
    obtain ⟨cs, hcs, n, hn, d, hd, rfl⟩ := h
    obtain ⟨g, o', hxe, hE⟩ := hp
    obtain ⟨hlt, hcs⟩ := List.getElem?_eq_some_iff.1 hcs
    obtain ⟨y, hy, hr⟩ := run_part (P := P) (Z := Z) (O := O) (w := w) (g := g) (o := o' + i * k) hn hd (fun j' h1 h2 h3 => by
      subst hcs
      obtain ⟨y, h4, h5⟩ := hE.2 i hlt j' h1
      exact ⟨y, (I.ag _ _ _ h4).1, RVc.ofRp h5⟩)
    refine wp_value (x := y) ?_ (hK.pure I fun i => hr _)
    unfold execOp
    simp only [ho, hxe]
    exact run_value (run_loadAt hy)
  · cases h
theorem sound_nilCheck {x : Operand} (ho : o.op = .nilCheck x) (h : dop P F tk st.rd st.bx o = some e) (I : Inv Z0 w0 Z O st a w) (hK : After Z0 w0 Z st a o e K) : o.wp P a w K Q := by
  simp only [dop, ho, Option.bind_eq_some_iff] at h
  obtain ⟨dx, hx, h⟩ := h
  obtain ⟨p, hp, _⟩ := I.rd hx
  split at h
  · simp only [Option.some.injEq] at h
    subst h
    obtain ⟨g, h1, h2⟩ := hp
    refine wp_value (w' := w) (x := a.eval x) ?_ (hK.pure I fun i => ⟨g, h1, h2⟩)
    unfold execOp
    simp only [ho, h2]
    rfl
  · cases h
theorem fieldOf_spec {s : TypeId} {f : Nat} {r : Nat × TypeId × Nat} (h : fieldOf P s f = some r) : ∃ fields fd, P.underlying s = some (.struct fields) ∧ fields[f]? = some fd ∧ r = (fd.offset, fd.type, r.2.2) ∧ sizeT P fd.type = some r.2.2 := by
  unfold fieldOf at h
  split at h
  · rename_i fields hu
    simp only [Option.bind_eq_some_iff, Option.some.injEq] at h
    obtain ⟨fd, hf, n, hn, rfl⟩ := h
    exact ⟨fields, fd, hu, hf, rfl, hn⟩
  · cases h
theorem run_fieldAt {s : TypeId} {f : Nat} {r : Nat × TypeId × Nat} (h : fieldOf P s f = some r) (h0 : r.2.2 ≠ 0) (g off : Nat) : (Instr.fieldAt s (.pointer (some ⟨g, off, none⟩)) f).run P w = .ok (.pointer (some ⟨g, off + r.1, none⟩)) w := by
  obtain ⟨fields, fd, hu, hf, hr, hn⟩ := fieldOf_spec h
  have h1 : r.1 = fd.offset := by rw [hr]
  unfold Instr.fieldAt
  rw [Sem.run_bind, run_underlying hu w]
  simp only [Result.andThen_ok, hf, Instr.sureAddr, Sem.run_bind, Sem.run_pure, fieldPlace, run_sizeT hn w, if_neg h0, addr_add, h1]
theorem sound_fieldAddr {s : TypeId} {x : Operand} {f : Nat} (ho : o.op = .fieldAddr s x f) (h : dop P F tk st.rd st.bx o = some e) (I : Inv Z0 w0 Z O st a w) (hK : After Z0 w0 Z st a o e K) : o.wp P a w K Q := by
  simp only [dop, ho, Option.bind_eq_some_iff] at h
  obtain ⟨dx, hx, r, hr, h⟩ := h
  obtain ⟨p, hp, _⟩ := I.rd hx
  split at h
  · cases h
  · rename_i h0
    split at h
    · simp only [Option.some.injEq] at h
      subst h
      obtain ⟨g, h1, h2⟩ := hp
      refine wp_value (w' := w) ?_ (hK.pure I fun i => ⟨g, h1, rfl⟩)
      unfold execOp
      simp only [ho, h2]
      exact run_value (run_fieldAt hr h0 _ _)
    · simp only [Option.some.injEq] at h
      subst h
      rename_i k es i j
      obtain ⟨g, o', h1, h2⟩ := hp
      refine wp_value (w' := w) (x := .pointer (some ⟨g, o' + i * k + (j + r.1), none⟩)) ?_ (hK.pure I fun _ => ⟨g, o', rfl, h2⟩)
      unfold execOp
      simp only [ho, h1]
      rw [← Nat.add_assoc]
      exact run_value (run_fieldAt hr h0 _ _)
    · cases h
theorem run_isAgg' {t : TypeId} {q : TypeDesc} (h : P.underlying t = some q) (w : World) : (isAgg t).run P w = .ok (isAggD q) w := run_isAgg h w
theorem run_partV {t : TypeId} {n off : Nat} {xs : List Value} {cs : List D} {d : D} (hn : sizeT P t = some n) (hl : xs.length = cs.length) (hc : ∀ i (hi : i < cs.length) (hj : i < xs.length), RVc Z O xs[i] cs[i])
    (hd : partD P t n cs off = some d) : ∃ y, (part t xs.toArray off).run P w = .ok y w ∧ ∀ p, RV Z O w p y d := by
  simp only [partD, Option.bind_eq_some_iff] at hd
  obtain ⟨q, hq, hd⟩ := hd
  split at hd
  · rename_i hle
    split at hd
    · rename_i hag
      simp only [Option.some.injEq] at hd
      subst hd
      refine ⟨.agg (xs.toArray.extract off (off + n)), ?_, fun p => ?_⟩
      · simp only [part, Sem.run_bind, run_isAgg hq w, Result.andThen_ok, hag, if_true, run_sizeT hn w, Sem.run_pure]
      · rw [show xs.toArray.extract off (off + n) = ((xs.drop off).take n).toArray by simp [List.take_drop, Nat.add_comm]]
        refine ⟨_, rfl, by simp [hl], fun i hi hj => ?_⟩
        simp only [List.getElem_take, List.getElem_drop]
        exact hc _ _ _
    · split at hd
      · rename_i hag hn1
        simp only [Option.map_eq_some_iff] at hd
        obtain ⟨d0, hd0, rfl⟩ := hd
        obtain ⟨hlt, hd0⟩ := List.getElem?_eq_some_iff.1 hd0
        have hlt' : off < xs.length := by omega
        refine ⟨xs[off], ?_, fun p => (RVc.rv (O := O) ?_).norm⟩
        · have hag' : isAggD q = false := by simpa using hag
          have hx1 : xs.toArray[off]? = some xs[off] := by rw [List.getElem?_toArray]; exact List.getElem?_eq_getElem hlt'
          simp only [part, Sem.run_bind, run_isAgg hq w, Result.andThen_ok, hag', Bool.false_eq_true, if_false, hx1, Sem.run_pure]
        · rw [← hd0]; exact hc _ _ _
      · cases hd
  · cases hd
theorem sound_field {s : TypeId} {x : Operand} {f : Nat} (ho : o.op = .field s x f) (h : dop P F tk st.rd st.bx o = some e) (I : Inv Z0 w0 Z O st a w) (hK : After Z0 w0 Z st a o e K) : o.wp P a w K Q := by
  simp only [dop, ho, Option.bind_eq_some_iff] at h
  obtain ⟨dx, hx, r, hr, h⟩ := h
  obtain ⟨p, hp, _⟩ := I.rd hx
  obtain ⟨fields, fd, hu, hf, hre, hn⟩ := fieldOf_spec hr
  split at h
  · rename_i cs
    simp only [Option.map_eq_some_iff] at h
    obtain ⟨d, hd, rfl⟩ := h
    obtain ⟨xs, hxs, hl, hc⟩ := hp
    have h21 : r.2.1 = fd.type := by rw [hre]
    have h1 : r.1 = fd.offset := by rw [hre]
    rw [h21, h1] at hd
    obtain ⟨y, hy, hR⟩ := run_partV (P := P) (w := w) hn hl hc hd
    refine wp_value (w' := w) (x := y) ?_ (hK.pure I fun i => hR _)
    unfold execOp
    simp only [ho, hxs]
    refine run_value ?_
    unfold Instr.field
    rw [Sem.run_bind, run_underlying hu w]
    simp only [Result.andThen_ok, hf, asAgg, Sem.run_bind, Sem.run_pure]
    exact hy
  · cases h
theorem eval_idx {dy : D} {y : Operand} {i : Int} (hy : st.rd y = some dy) (hi : idx dy = some i) (I : Inv Z0 w0 Z O st a w) : ∃ ik, a.eval y = .int ik i := by
  obtain ⟨q, hq, _⟩ := I.rd hy
  cases dy with
  | v vy =>
    cases vy with
    | int ik j => simp only [idx, Option.some.injEq] at hi; subst hi; exact ⟨ik, hq.toV rfl⟩
    | _ => simp [idx] at hi
  | _ => simp [idx] at hi
theorem sound_index {t : TypeId} {x y : Operand} (ho : o.op = .index t x y) (h : dop P F tk st.rd st.bx o = some e) (I : Inv Z0 w0 Z O st a w) (hK : After Z0 w0 Z st a o e K) : o.wp P a w K Q := by
  simp only [dop, ho, Option.bind_eq_some_iff] at h
  obtain ⟨dx, hx, dy, hy, h⟩ := h
  obtain ⟨p, hp, _⟩ := I.rd hx
  split at h
  · rename_i vx hvx
    simp only [Option.bind_eq_some_iff, Option.map_eq_some_iff] at h
    obtain ⟨vy, hvy, r, hr, rfl⟩ := h
    obtain ⟨q, hq, _⟩ := I.rd hy
    have e1 := hp.toV hvx
    have e2 := hq.toV hvy
    refine wp_value (x := r) ?_ (hK.pure I fun i => .v r)
    unfold execOp
    simp only [ho, e1, e2]
    exact run_value (pureRun_run _ _ w hr)
  · split at h
    · rename_i cs n el hu _
      simp only [Option.bind_eq_some_iff] at h
      obtain ⟨i, hi, k, hk, h⟩ := h
      split at h
      · rename_i hin
        simp only [Option.map_eq_some_iff] at h
        obtain ⟨d, hd, rfl⟩ := h
        obtain ⟨xs, hxs, hl, hc⟩ := hp
        obtain ⟨ik, hye⟩ := eval_idx hy hi I
        obtain ⟨z, hz, hR⟩ := run_partV (P := P) (w := w) hk hl hc hd
        refine wp_value (w' := w) (x := z) ?_ (hK.pure I fun i => hR _)
        unfold execOp
        simp only [ho, hxs, hye]
        refine run_value ?_
        unfold Instr.index
        simp only [asIntOf, Sem.run_bind, Sem.run_pure, Result.andThen_ok, run_underlying hu w, if_pos hin, run_sizeT hk w]
        exact hz
      · cases h
    · cases h
theorem esOf_els {p : Pos} {x : Value} {d : D} {es : List (List D)} (h : RV Z O w p x d) (he : esOf d = some es) : ∃ s n c, x = .slice s n c ∧ n = es.length ∧ n ≤ c ∧ ∀ (k i : Nat) (e : List D), es[i]? = some e → e.length = k → ∃ g o, s = some ⟨g, o, none⟩ ∧ Els Z g o k es := by
  have key : ∀ {x : Value}, Rp Z x (.sl es) → ∃ s n c, x = .slice s n c ∧ n = es.length ∧ n ≤ c ∧ ∀ (k i : Nat) (e : List D), es[i]? = some e → e.length = k → ∃ g o, s = some ⟨g, o, none⟩ ∧ Els Z g o k es := by
    intro x h
    cases h with
    | sl s n c k' _ hn hc ad ha hsp hk x hz hr =>
      obtain ⟨g, o, sp⟩ := ad
      simp only at hsp
      subst hsp
      refine ⟨s, n, c, rfl, hn, hc, fun k i e he hek => ?_⟩
      obtain ⟨hi, rfl⟩ := List.getElem?_eq_some_iff.1 he
      have hkk : k' = k := by rw [← hk i hi]; exact hek
      subst hkk
      exact ⟨g, o, ha (by omega), hk, fun i hi j hj => ⟨_, hz i hi j hj, hr i hi j hj⟩⟩
  cases d with
  | sl es' => simp only [esOf, Option.some.injEq] at he; subst he; exact key h
  | own e k' es' => simp only [esOf, Option.some.injEq] at he; subst he; exact key h.strip
  | _ => simp [esOf] at he
theorem sound_indexAddr {t : TypeId} {x y : Operand} (ho : o.op = .indexAddr t x y) (h : dop P F tk st.rd st.bx o = some e) (I : Inv Z0 w0 Z O st a w) (hK : After Z0 w0 Z st a o e K) : o.wp P a w K Q := by
  simp only [dop, ho, Option.bind_eq_some_iff] at h
  obtain ⟨dx, hx, dy, hy, i, hi, h⟩ := h
  obtain ⟨p, hp, _⟩ := I.rd hx
  obtain ⟨q, hq, _⟩ := I.rd hy
  split at h
  · rename_i e' hu
    simp only [Option.bind_eq_some_iff] at h
    obtain ⟨k, hk, h⟩ := h
    obtain ⟨ik, hye⟩ : ∃ ik, a.eval y = .int ik i := by
      cases dy with
      | v vy =>
        cases vy with
        | int ik j => simp only [idx, Option.some.injEq] at hi; subst hi; exact ⟨ik, hq.toV rfl⟩
        | _ => simp [idx] at hi
      | _ => simp [idx] at hi
    split at h
    · rename_i b off k' n
      split at h
      · rename_i hc
        obtain ⟨hkk, h0, hlt⟩ := hc
        subst hkk
        simp only [Option.some.injEq] at h
        subst h
        obtain ⟨g, c, hO, hxe, hnc⟩ := hp
        refine wp_value (w' := w) (x := .pointer (some ⟨g, off + i.toNat * k, none⟩)) ?_ (hK.pure I fun _ => ⟨g, hO, rfl⟩)
        unfold execOp
        simp only [ho, hxe, hye]
        refine run_value ?_
        unfold Instr.indexAt
        have hin : 0 ≤ i ∧ i < (n : Int) := ⟨h0, hlt⟩
        simp only [asIntOf, Sem.run_bind, Sem.run_pure, Result.andThen_ok, run_underlying hu w, if_pos hin, run_sizeT hk w, addr_add]
      · cases h
    simp only [Option.bind_eq_some_iff] at h
    obtain ⟨es, he, h⟩ := h
    split at h
    · rename_i hc
      obtain ⟨h0, hany⟩ := hc
      simp only [Option.some.injEq] at h
      subst h
      obtain ⟨s, n, c, hxe, hn, hnc, hs⟩ := esOf_els hp he
      obtain ⟨ee, hee, hel⟩ : ∃ ee, es[i.toNat]? = some ee ∧ ee.length = k := by
        cases hq : es[i.toNat]? with
        | none => rw [hq] at hany; cases hany
        | some ee => rw [hq] at hany; exact ⟨ee, rfl, by simpa using hany⟩
      have hlt : i.toNat < es.length := (List.getElem?_eq_some_iff.1 hee).1
      obtain ⟨g, o', rfl, hE⟩ := hs _ _ _ hee hel
      refine wp_value (w' := w) (x := .pointer (some ⟨g, o' + i.toNat * k + 0, none⟩)) ?_ (hK.pure I fun _ => ⟨g, o', rfl, hE⟩)
      unfold execOp
      simp only [ho, hxe, hye]
      refine run_value ?_
      unfold Instr.indexAt
      have hin : 0 ≤ i ∧ i < (n : Int) := ⟨h0, by omega⟩
      simp only [asIntOf, Sem.run_bind, Sem.run_pure, Result.andThen_ok, run_underlying hu w, if_pos hin, run_sizeT hk w, addr_add, Nat.add_zero]
    · cases h
  · rename_i n e' hu
    simp only [Option.bind_eq_some_iff] at h
    obtain ⟨k, hk, h⟩ := h
    split at h
    case isFalse => cases h
    rename_i hin
    obtain ⟨ik, hye⟩ : ∃ ik, a.eval y = .int ik i := by
      cases dy with
      | v vy =>
        cases vy with
        | int ik j => simp only [idx, Option.some.injEq] at hi; subst hi; exact ⟨ik, hq.toV rfl⟩
        | _ => simp [idx] at hi
      | _ => simp [idx] at hi
    have hrun : ∀ g off, a.eval x = .pointer (some ⟨g, off, none⟩) → (execOp a.eval o).run P w = .ok (.value (.pointer (some ⟨g, off + i.toNat * k, none⟩))) w := by
      intro g off hxe
      unfold execOp
      simp only [ho, hxe, hye]
      refine run_value ?_
      unfold Instr.indexAt
      simp only [asIntOf, Sem.run_bind, Sem.run_pure, Result.andThen_ok, run_underlying hu w, Instr.sureAddr, if_pos hin, run_sizeT hk w, addr_add]
    split at h
    · rename_i k' es i0 j
      simp only [Option.some.injEq] at h
      subst h
      obtain ⟨g, o', hxe, hE⟩ := hp
      exact wp_value (hrun _ _ hxe) (hK.pure I fun _ => ⟨g, o', by rw [Nat.add_assoc], hE⟩)
    · rename_i b off
      simp only [Option.some.injEq] at h
      subst h
      obtain ⟨g, hO, hxe⟩ := hp
      exact wp_value (hrun _ _ hxe) (hK.pure I fun _ => ⟨g, hO, rfl⟩)
    · cases h
  · cases h

theorem sound_slice {t : TypeId} {x : Operand} {l h' m : Option Operand} (ho : o.op = .slice t x l h' m) (h : dop P F tk st.rd st.bx o = some e) (I : Inv Z0 w0 Z O st a w) (hK : After Z0 w0 Z st a o e K) : o.wp P a w K Q := by
  simp only [dop, ho, Option.bind_eq_some_iff] at h
  obtain ⟨dx, hx, h⟩ := h
  obtain ⟨p, hp, _⟩ := I.rd hx
  split at h
  · rename_i s
    have e1 : a.eval x = .string s := hp.toV rfl
    split at h
    · simp only [Option.bind_eq_some_iff, Option.map_eq_some_iff] at h
      obtain ⟨dl, hl, vl, hvl, dh, hh, vh, hvh, r, hr, rfl⟩ := h
      obtain ⟨_, hl, _⟩ := I.rd hl
      obtain ⟨_, hh, _⟩ := I.rd hh
      have e2 := hl.toV hvl
      have e3 := hh.toV hvh
      refine wp_value (x := r) ?_ (hK.pure I fun i => .v r)
      unfold execOp
      simp only [ho, e1, e2, e3, Option.map_some, Option.map_none]
      exact run_value (pureRun_run _ _ w hr)
    · simp only [Option.bind_eq_some_iff, Option.map_eq_some_iff] at h
      obtain ⟨dl, hl, vl, hvl, r, hr, rfl⟩ := h
      obtain ⟨_, hl, _⟩ := I.rd hl
      have e2 := hl.toV hvl
      refine wp_value (x := r) ?_ (hK.pure I fun i => .v r)
      unfold execOp
      simp only [ho, e1, e2, Option.map_some, Option.map_none]
      exact run_value (pureRun_run _ _ w hr)
    · simp only [Option.bind_eq_some_iff, Option.map_eq_some_iff] at h
      obtain ⟨dh, hh, vh, hvh, r, hr, rfl⟩ := h
      obtain ⟨_, hh, _⟩ := I.rd hh
      have e3 := hh.toV hvh
      refine wp_value (x := r) ?_ (hK.pure I fun i => .v r)
      unfold execOp
      simp only [ho, e1, e3, Option.map_some, Option.map_none]
      exact run_value (pureRun_run _ _ w hr)
    · cases h
  · simp only [Option.bind_eq_some_iff] at h
    obtain ⟨es, he, lo, hlo, hi, hhi, h⟩ := h
    split at h
    · rename_i el hu
      simp only [Option.bind_eq_some_iff] at h
      obtain ⟨k, hk, h⟩ := h
      split at h
      · rename_i hc
        obtain ⟨hkk, h0, h1, h2⟩ := hc
        simp only [Option.some.injEq] at h
        subst h
        obtain ⟨s, n, c, hxe, hn, hnc, hs⟩ := esOf_els hp he
        have hbh : (match h'.map a.eval with | some v => Instr.sliceBound v c .sliceAcap | none => pure n : Sem Nat).run P w = .ok hi.toNat w := by
          cases h' with
          | none =>
            simp only [bound, Option.some.injEq] at hhi
            simp only [Option.map_none, Sem.run_pure]
            rw [← hhi]; simp [hn]
          | some y =>
            simp only [bound, Option.bind_eq_some_iff] at hhi
            obtain ⟨dy, hy, hi'⟩ := hhi
            obtain ⟨ik, hye⟩ := eval_idx hy hi' I
            simp only [Option.map_some, hye, Instr.sliceBound, asIntOf, Sem.run_bind, Sem.run_pure, Result.andThen_ok]
            rw [if_pos ⟨by omega, by omega⟩]
            rfl
        have hbl : (match l.map a.eval with | some v => Instr.sliceBound v hi.toNat .sliceB | none => pure 0 : Sem Nat).run P w = .ok lo.toNat w := by
          cases l with
          | none =>
            simp only [bound, Option.some.injEq] at hlo
            simp only [Option.map_none, Sem.run_pure]
            rw [← hlo]; rfl
          | some y =>
            simp only [bound, Option.bind_eq_some_iff] at hlo
            obtain ⟨dy, hy, hi'⟩ := hlo
            obtain ⟨ik, hye⟩ := eval_idx hy hi' I
            simp only [Option.map_some, hye, Instr.sliceBound, asIntOf, Sem.run_bind, Sem.run_pure, Result.andThen_ok]
            rw [if_pos ⟨by omega, by omega⟩]
            rfl
        have hrun : (Instr.sliceAt t (a.eval x) (l.map a.eval) (h'.map a.eval) none).run P w = .ok (.slice (if c = lo.toNat then s else s.map (·.add (lo.toNat * k))) (hi.toNat - lo.toNat) (c - lo.toNat)) w := by
          unfold Instr.sliceAt
          rw [Sem.run_bind, run_underlying hu w]
          simp only [Result.andThen_ok]
          unfold Instr.slice
          rw [hxe, Sem.run_bind, run_underlying hu w]
          simp only [Result.andThen_ok]
          rw [Sem.run_bind]
          have hb : (Instr.sliceBounds true n c (l.map a.eval) (h'.map a.eval) none).run P w = .ok (lo.toNat, hi.toNat, c) w := by
            unfold Instr.sliceBounds
            cases h' <;> cases l <;> simp only [Option.map_none, Option.map_some, Sem.run_bind, Sem.run_pure, Result.andThen_ok, Result.ok.injEq, and_true, if_true, Option.isSome_none, Bool.false_eq_true, if_false] at hbh hbl ⊢ <;> simp [hbh, hbl]
          rw [hb]
          simp only [Result.andThen_ok, Sem.run_bind, run_sizeT hk w, Sem.run_pure]
        refine wp_value (w' := w) (x := .slice (if c = lo.toNat then s else s.map (·.add (lo.toNat * k))) (hi.toNat - lo.toNat) (c - lo.toNat)) ?_ (hK.pure I fun i => RV.ofRp ?_)
        · unfold execOp
          simp only [ho, Option.map_none]
          exact run_value hrun
        · have hlen : ((es.take hi.toNat).drop lo.toNat).length = hi.toNat - lo.toNat := by
            rw [List.length_drop, List.length_take]; omega
          by_cases hpos : 0 < hi.toNat - lo.toNat
          · have h0l : 0 < es.length := by omega
            obtain ⟨g, o', hse, hE⟩ := hs k 0 es[0] (List.getElem?_eq_getElem h0l) (by simpa using List.all_eq_true.1 hkk _ (List.getElem_mem h0l))
            have hcl : ¬ c = lo.toNat := by omega
            rw [if_neg hcl, hse, Option.map_some, addr_add]
            refine (Els.sl (g := g) (k := k) (o := o' + lo.toNat * k) (c := c - lo.toNat) ⟨fun i hi' => ?_, fun i hi' j hj => ?_⟩ hlen.symm (by omega))
            · simp only [List.getElem_drop, List.getElem_take]
              exact hE.1 _ _
            · rw [hlen] at hi'
              simp only [List.getElem_drop, List.getElem_take] at hj ⊢
              obtain ⟨y, h5, h6⟩ := hE.2 (lo.toNat + i) (by omega) j hj
              refine ⟨y, ?_, h6⟩
              rw [← h5]; congr 1
              rw [Nat.add_mul]; omega
          · have hz : (es.take hi.toNat).drop lo.toNat = [] := List.eq_nil_of_length_eq_zero (by omega)
            rw [hz]
            exact .sl _ _ _ k [] (by simp; omega) (by omega) ⟨0, 0, none⟩ (fun h => absurd h hpos) rfl (fun i hi => absurd hi (Nat.not_lt_zero _)) (fun _ _ => undef) (fun i hi => absurd hi (Nat.not_lt_zero _)) (fun i hi => absurd hi (Nat.not_lt_zero _))
      · cases h
    · cases h
  · cases h
theorem sound_extract {x : Operand} {i : Nat} (ho : o.op = .extract x i) (h : dop P F tk st.rd st.bx o = some e) (I : Inv Z0 w0 Z O st a w) (hK : After Z0 w0 Z st a o e K) : o.wp P a w K Q := by
  simp only [dop, ho, Option.bind_eq_some_iff] at h
  obtain ⟨dx, hx, h⟩ := h
  obtain ⟨p, hp, _⟩ := I.rd hx
  split at h
  · rename_i ds
    simp only [Option.bind_eq_some_iff] at h
    obtain ⟨d, hd, h⟩ := h
    split at h
    · simp only [Option.some.injEq] at h
      subst h
      obtain ⟨hlt, hd⟩ := List.getElem?_eq_some_iff.1 hd
      have hp' : Rp Z (a.eval x) (.tup ds) := hp
      obtain ⟨y, hy, hR⟩ : ∃ y, (Instr.extract (a.eval x) i).run P w = .ok y w ∧ Rp Z y d := by
        generalize a.eval x = v at hp'
        cases hp' with
        | tup xs _ hl hc =>
          refine ⟨xs[i]'(by omega), ?_, by rw [← hd]; exact hc i hlt (by omega)⟩
          have : xs[i]? = some (xs[i]'(by omega)) := List.getElem?_eq_getElem (by omega)
          simp [Instr.extract, this]
      refine wp_value (w' := w) (x := y) ?_ (hK.pure I fun _ => (RV.ofRp hR).norm)
      unfold execOp
      simp only [ho]
      exact run_value hy
    · cases h
  · cases h
theorem exec_builtin {c : Call} {b : Builtin} (ho : o.op = .call c) (hc : c.callee = .builtin b) : execOp a.eval o = builtin b c.argTypes o.type (c.args.map fun | .const _ => true | _ => false) (c.args.map a.eval) := by
  unfold execOp
  simp only [ho, resolve, hc]
  rfl
theorem mapM_toV {xs : List Operand} : ∀ {vs : List Value}, (xs.mapM fun x => (st.rd x).bind toV) = some vs → Inv Z0 w0 Z O st a w → xs.map a.eval = vs := by
  induction xs with
  | nil => intro vs h I; simp at h; subst h; rfl
  | cons x xs ih =>
    intro vs h I
    simp only [List.mapM_cons, Option.bind_eq_bind, Option.bind_eq_some_iff, Option.pure_def, Option.some.injEq] at h
    obtain ⟨v, ⟨d, hd, hv⟩, vs', h', rfl⟩ := h
    obtain ⟨p, hp, _⟩ := I.rd hd
    simp only [List.map_cons, hp.toV hv, ih h' I]
theorem sound_min {c : Call} (ho : o.op = .call c) (hc : c.callee = .builtin .min) (h : dop P F tk st.rd st.bx o = some e) (I : Inv Z0 w0 Z O st a w) (hK : After Z0 w0 Z st a o e K) : o.wp P a w K Q := by
  simp only [dop, ho, hc, Option.bind_eq_some_iff, Option.map_eq_some_iff] at h
  obtain ⟨vs, hvs, r, hr, rfl⟩ := h
  have := mapM_toV hvs I
  refine wp_value (x := r) ?_ (hK.pure I fun i => .v r)
  rw [exec_builtin ho hc, show c.args.map a.eval = vs.toArray by rw [← this, ← Array.toList_map, Array.toArray_toList]]
  exact run_value (pureRun_run _ _ w hr)
theorem sound_max {c : Call} (ho : o.op = .call c) (hc : c.callee = .builtin .max) (h : dop P F tk st.rd st.bx o = some e) (I : Inv Z0 w0 Z O st a w) (hK : After Z0 w0 Z st a o e K) : o.wp P a w K Q := by
  simp only [dop, ho, hc, Option.bind_eq_some_iff, Option.map_eq_some_iff] at h
  obtain ⟨vs, hvs, r, hr, rfl⟩ := h
  have := mapM_toV hvs I
  refine wp_value (x := r) ?_ (hK.pure I fun i => .v r)
  rw [exec_builtin ho hc, show c.args.map a.eval = vs.toArray by rw [← this, ← Array.toList_map, Array.toArray_toList]]
  exact run_value (pureRun_run _ _ w hr)
theorem sound_len {c : Call} (ho : o.op = .call c) (hc : c.callee = .builtin .len) (h : dop P F tk st.rd st.bx o = some e) (I : Inv Z0 w0 Z O st a w) (hK : After Z0 w0 Z st a o e K) : o.wp P a w K Q := by
  simp only [dop, ho, hc] at h
  split at h
  · rename_i x hxs
    have hargs : c.args = #[x] := by rw [← Array.toArray_toList (xs := c.args), hxs]
    simp only [Option.bind_eq_some_iff] at h
    obtain ⟨dx, hx, h⟩ := h
    obtain ⟨p, hp, _⟩ := I.rd hx
    have hfin : ∀ n : Int, (Builtin.len_ c.argTypes o.type #[a.eval x]).run P w = .ok (.int .i64 n) w → e = { d := .v (.int .i64 n) } → o.wp P a w K Q := by
      intro n hr he
      subst he
      refine wp_value (x := .int .i64 n) ?_ (hK.pure I fun i => .v _)
      rw [exec_builtin ho hc, hargs]
      simp only [List.map_toArray, List.map_cons, List.map_nil]
      exact run_value hr
    have ht : ∀ q, (c.argTypes[0]?).bind P.underlying = some q → ∃ t, c.argTypes[0]? = some t ∧ P.underlying t = some q := fun q h => by
      simpa [Option.bind_eq_some_iff] using h
    split at h
    · rename_i s
      split at h
      · rename_i hq
        obtain ⟨t, h1, h2⟩ := ht _ hq
        simp only [Option.some.injEq] at h
        refine hfin _ ?_ h.symm
        rw [show a.eval x = .string s from hp.toV rfl]
        simp [Builtin.len_, h1, run_underlying h2 w, goInt]
      · cases h
    · rename_i es
      split at h
      · rename_i q hq
        obtain ⟨t, h1, h2⟩ := ht _ hq
        simp only [Option.some.injEq] at h
        obtain ⟨s, n, c', hxe, hn, _⟩ := esOf_els hp (es := es) rfl
        refine hfin _ ?_ h.symm
        rw [hxe]
        simp [Builtin.len_, h1, run_underlying h2 w, goInt, hn]
      · cases h
    · rename_i e' k es
      split at h
      · rename_i q hq
        obtain ⟨t, h1, h2⟩ := ht _ hq
        simp only [Option.some.injEq] at h
        obtain ⟨s, n, c', hxe, hn, _⟩ := esOf_els hp (es := es) rfl
        refine hfin _ ?_ h.symm
        rw [hxe]
        simp [Builtin.len_, h1, run_underlying h2 w, goInt, hn]
      · cases h
    · rename_i b off k n
      split at h
      · rename_i q hq
        obtain ⟨t, h1, h2⟩ := ht _ hq
        simp only [Option.some.injEq] at h
        obtain ⟨g, c', _, hxe, _⟩ := hp
        refine hfin _ ?_ h.symm
        rw [hxe]
        simp [Builtin.len_, h1, run_underlying h2 w, goInt]
      · cases h
    · cases h
  · cases h

theorem kill_own {b : Nat} {d : D} {e : TypeId} {k : Nat} {es : List (List D)} (h : kill b d = .own e k es) : d = .own e k es := by
  unfold kill at h
  split at h
  · cases h
  · exact h
theorem RV.kill {Z' : FZ} {O' : OM} {w' : World} {p : Pos} {x : Value} {d : D} {b : Nat} (h : RV Z O w p x d) (hZ : Z.le Z') (hb : ∀ g b', b' ≠ b → O g = .box b' → O' g = .box b')
    (ho : ∀ e k es, d = .own e k es → ∀ g, O g = .at p → O' g = .at p ∧ w'.heap[g]? = w.heap[g]? ∧ ∀ o, Z g o = none → Z' g o = none) : RV Z' O' w' p x (kill b d) := by
  unfold Eng.kill
  split
  · trivial
  · rename_i hr
    have hr : refs b d = false := by simpa using hr
    cases d with
    | bp b' off =>
      have hne : b' ≠ b := by simpa [refs] using hr
      obtain ⟨g, h1, h2⟩ := h
      exact ⟨g, hb g b' hne h1, h2⟩
    | bs b' off k n =>
      have hne : b' ≠ b := by simpa [refs] using hr
      obtain ⟨g, c, h1, h2⟩ := h
      exact ⟨g, c, hb g b' hne h1, h2⟩
    | undef => trivial
    | ep k es i j => obtain ⟨g, o, h1, h2⟩ := h; exact ⟨g, o, h1, h2.mono hZ⟩
    | own e k es =>
      rcases h with h | ⟨g, c, cur, h1, h2, h3, h4, h5, h6, h7, h8⟩
      · exact .inl h
      · obtain ⟨q1, q2, q3⟩ := ho e k es rfl g h2
        exact .inr ⟨g, c, cur, h1, q1, q2.trans h3, h4, h5, h6, h7.mono hZ, fun o ho => q3 o (h8 o ho)⟩
    | v _ => exact Rp.mono hZ h
    | sl _ => exact Rp.mono hZ h
    | agg cs =>
      obtain ⟨xs, h1, h2, h3⟩ := h
      refine ⟨xs, h1, h2, fun i hi hj => ?_⟩
      have hri : refc b cs[i] = false := by
        have := List.any_eq_false.1 (show cs.any (refc b) = false from hr) cs[i] (List.getElem_mem hi)
        simpa using this
      have hc := h3 i hi hj
      generalize cs[i] = c at hri hc
      cases c with
      | bs b' off k n =>
        have hne : b' ≠ b := by simpa [refc] using hri
        obtain ⟨g, c, h1, h2⟩ := hc
        exact ⟨g, c, hb g b' hne h1, h2⟩
      | _ => exact Rp.mono hZ hc
    | tup _ => exact Rp.mono hZ h
theorem set_bx {l : List (Option (List D))} {b b' : Nat} {v : Option (List D)} {cs : List D} (h : (l.set b v).getD b' none = some cs) : (b = b' ∧ v = some cs) ∨ (b ≠ b' ∧ l.getD b' none = some cs) := by
  simp only [List.getD_eq_getElem?_getD, List.getElem?_set] at h ⊢
  by_cases e : b = b'
  · subst e
    rw [if_pos rfl] at h
    split at h
    · exact .inl ⟨rfl, by simpa using h⟩
    · simp at h
  · rw [if_neg e] at h
    exact .inr ⟨e, h⟩
theorem agree_alloc {ob : Obj} (h : Agree Z w) : Agree Z (w.alloc ob) := fun b o x hx => by
  have hc := h b o x hx
  have hlt : b < w.heap.size := block_lt_of_cell hc.1
  exact ⟨(World.cell?_of_block (w := w) (w' := w.alloc ob) (heap_alloc_old w ob b hlt)).trans hc.1, hc.2⟩
theorem kill_one {b : Nat} {d : D} (h : one d = true) (hr : refc b d = false) : kill b d = d := by
  cases d with
  | bs b' off k n => have hr' : (b' == b) = false := hr; simp only [kill, refs, hr']; rfl
  | v _ => rfl
  | sl _ => rfl
  | own _ _ _ => rfl
  | _ => simp [one] at h
theorem killb_some {b : Nat} {c : Option (List D)} {cs : List D} (h : killb b c = some cs) : c = some cs ∧ cs.any (refc b) = false := by
  unfold killb at h
  cases c with
  | none => cases h
  | some ds =>
    simp only [Option.bind_some] at h
    split at h
    · cases h
    · rename_i hr
      simp only [Option.some.injEq] at h
      subst h
      exact ⟨rfl, by simpa using hr⟩
theorem getD_map_killb {l : List (Option (List D))} {b b' : Nat} : (l.map (killb b)).getD b' none = killb b (l.getD b' none) := by
  simp only [List.getD_eq_getElem?_getD, List.getElem?_map]
  cases l[b']? <;> rfl
def OM.nw (O : OM) (n b : Nat) : OM := fun g => if g = n then .box b else if O g = .box b then .none else O g
theorem OM.nw_at {n b g : Nat} {p : Pos} (hg : g < n) (h : O g = .at p) : O.nw n b g = .at p := by
  unfold OM.nw; rw [if_neg (by omega), if_neg (by rw [h]; simp), h]
theorem OM.nw_box {n b b' g : Nat} (hg : g < n) (hb : b' ≠ b) (h : O g = .box b') : O.nw n b g = .box b' := by
  unfold OM.nw; rw [if_neg (by omega), if_neg (by rw [h]; intro e; injection e with e; exact hb e), h]
theorem OM.nw_inv {n b b' g : Nat} (h : O.nw n b g = .box b') : (g = n ∧ b' = b) ∨ (O g = .box b' ∧ b' ≠ b) := by
  unfold OM.nw at h
  split at h
  · rename_i hg; injection h with h; exact .inl ⟨hg, h.symm⟩
  · split at h
    · cases h
    · rename_i hb; exact .inr ⟨h, fun e => hb (by rw [h, e])⟩
theorem OM.nw_none {n b g : Nat} (h : O.nw n b g ≠ .none) : g = n ∨ O g ≠ .none := by
  unfold OM.nw at h
  split at h
  · rename_i hg; exact .inl hg
  · split at h
    · exact absurd rfl h
    · exact .inr h
/-- (C) a new variable -/
theorem Inv.new (I : Inv Z0 w0 Z O st a w) (b : Nat) (t : TypeId) (xs : Array Value) (cs : List D) (hl : xs.size = cs.length)
    (hx : ∀ j (h : j < cs.length) (h' : j < xs.size), RV Z O w (.b b j) xs[j] cs[j] ∧ xs[j].oneCell' = true) (h1 : cs.all one = true) (h2 : cs.any (refc b) = false) :
    Inv Z0 w0 Z (O.nw w.heap.size b) ⟨st.t.map (kill b), (st.b.map (killb b)).set b (some cs)⟩ a (w.alloc (.cells xs t)) := by
  have hB : w0.heap.size ≤ w.heap.size := I.bl.size
  have hlt : ∀ {g}, O g ≠ .none → g < w.heap.size := fun h => (I.ob _ h).2
  have key : ∀ {p x d}, RV Z O w p x d → RV Z (O.nw w.heap.size b) (w.alloc (.cells xs t)) p x (kill b d) := fun h =>
    h.kill (FZ.le_refl Z) (fun g b' hne hg => OM.nw_box (hlt (by rw [hg]; simp)) hne hg)
      (fun e k es he g hg => ⟨OM.nw_at (hlt (by rw [hg]; simp)) hg, heap_alloc_old w _ g (hlt (by rw [hg]; simp)), fun _ ho => ho⟩)
  refine ⟨?_, ?_, ?_, ?_, ?_, agree_alloc I.ag, I.bl.alloc hB _, I.df, I.zn, I.bs⟩
  · simpa using I.tsz
  · intro i h h'
    have h2 : i < st.t.length := by simpa using h
    simp only [List.getElem_map]
    exact key (I.tv i h2 h')
  · intro b' cs' hb
    rcases set_bx hb with ⟨rfl, hc⟩ | ⟨hne, hb'⟩
    · simp only [Option.some.injEq] at hc
      subst hc
      refine ⟨w.heap.size, xs, t, by unfold OM.nw; rw [if_pos rfl], heap_alloc_new w _, hl, fun j h h' => ⟨?_, (hx j h h').2⟩, fun o => ?_, h1⟩
      · have := key (hx j h h').1
        rwa [kill_one (List.all_eq_true.1 h1 _ (List.getElem_mem h)) (by simpa using List.any_eq_false.1 h2 _ (List.getElem_mem h))] at this
      · cases hz : Z w.heap.size o with
        | none => rfl
        | some x => exact absurd (block_lt_of_cell (I.ag _ _ _ hz).1) (by simp)
    · rw [getD_map_killb] at hb'
      obtain ⟨hb', hr'⟩ := killb_some hb'
      obtain ⟨g, xs', e, q1, q2, q3, q4, q5, q6⟩ := I.bv b' cs' hb'
      refine ⟨g, xs', e, OM.nw_box (hlt (by rw [q1]; simp)) (fun e => hne e.symm) q1, (heap_alloc_old w _ g (hlt (by rw [q1]; simp))).trans q2, q3, fun j h h' => ⟨?_, (q4 j h h').2⟩, q5, q6⟩
      have := key (q4 j h h').1
      rwa [kill_one (List.all_eq_true.1 q6 _ (List.getElem_mem h)) (by simpa using List.any_eq_false.1 hr' _ (List.getElem_mem h))] at this
  · intro g g' b' h h'
    rcases OM.nw_inv h with ⟨e1, e2⟩ | ⟨e1, e2⟩ <;> rcases OM.nw_inv h' with ⟨e3, e4⟩ | ⟨e3, e4⟩
    · rw [e1, e3]
    · exact absurd e2 e4
    · exact absurd e4 e2
    · exact I.uq g g' b' e1 e3
  · intro g h
    rcases OM.nw_none h with rfl | h
    · exact ⟨hB, by simp⟩
    · have := I.ob g h; exact ⟨this.1, by simp; omega⟩
theorem cells_rv {p : Pos} {x : Value} {d : D} (h : RV Z O w p x d) (h1 : (cellsD d).all one = true) (hp : ∀ e k es, d ≠ .own e k es) : x.cells.size = (cellsD d).length ∧ ∀ q j (h : j < (cellsD d).length) (h' : j < x.cells.size), RV Z O w q x.cells[j] (cellsD d)[j] ∧ x.cells[j].oneCell' = true := by
  have one_of : ∀ {y : Value} {c : D}, Rp Z y c → one c = true → y.oneCell' = true := by
    intro y c hr ho
    cases hr with
    | v x => exact ho
    | sl => rfl
    | agg => simp [one] at ho
    | tup => simp [one] at ho
  have single : ∀ {y : Value} {c : D}, Rp Z y c → one c = true → (#[y] : Array Value).size = [c].length ∧ ∀ q j (h : j < [c].length) (h' : j < #[y].size), RV Z O w q (#[y])[j] [c][j] ∧ (#[y])[j].oneCell' = true := by
    intro y c hr ho
    refine ⟨rfl, fun q j h h' => ?_⟩
    have : j = 0 := by simp at h; exact h
    subst this
    exact ⟨RV.ofRp hr, one_of hr ho⟩
  cases d with
  | undef => simp [cellsD, one] at h1
  | bp => simp [cellsD, one] at h1
  | ep => simp [cellsD, one] at h1
  | tup => simp [cellsD, one] at h1
  | own e k es => exact absurd rfl (hp e k es)
  | sl es =>
    have hr : Rp Z x (.sl es) := h
    have hx : x.cells = #[x] := by cases hr; rfl
    simp only [cellsD]
    rw [hx]
    exact single hr rfl
  | bs b off k n =>
    obtain ⟨g, c, q1, rfl, q3⟩ := h
    refine ⟨rfl, fun q j h h' => ?_⟩
    have : j = 0 := by simp [cellsD] at h; exact h
    subst this
    exact ⟨⟨g, c, q1, rfl, q3⟩, rfl⟩
  | agg cs =>
    obtain ⟨xs, rfl, hl, hc⟩ := h
    refine ⟨by simpa [Value.cells, cellsD] using hl, fun q j h h' => ?_⟩
    have hj : j < xs.length := by simpa [Value.cells] using h'
    have hr := hc j h hj
    have ho := List.all_eq_true.1 h1 _ (List.getElem_mem h)
    refine ⟨?_, ?_⟩
    · have h0 : RV Z O w q xs[j] cs[j] := hr.rv
      simp only [Value.cells, List.getElem_toArray]
      exact h0
    · have ho' : one cs[j] = true := ho
      have : xs[j].oneCell' = true := by
        generalize cs[j] = d at hr ho'
        cases d with
        | bs b off k n => obtain ⟨g, c, _, e, _⟩ := hr; rw [e]; rfl
        | _ => exact one_of hr ho'
      simpa [Value.cells] using this
  | v y =>
    have hr : Rp Z x (.v y) := h
    cases hr
    cases x with
    | agg xs =>
      refine ⟨by simp [Value.cells, cellsD], fun q j h h' => ?_⟩
      have h2 : (cellsD (.v (.agg xs)))[j] = .v ((Value.agg xs).cells[j]) := by simp [cellsD, Value.cells]
      refine ⟨by rw [h2]; exact .v _, ?_⟩
      have := List.all_eq_true.1 h1 _ (List.getElem_mem h)
      rw [h2] at this
      exact this
    | _ => exact single (.v _) (by simpa [cellsD] using h1)
theorem run_newVar (t : TypeId) (v : Value) : (newVar t v).run P w = .ok ⟨w.heap.size, 0, none⟩ (w.alloc (.cells v.cells t)) := rfl
theorem sound_alloc {t : TypeId} (ho : o.op = .alloc t) (h : dop P F tk st.rd st.bx o = some e) (I : Inv Z0 w0 Z O st a w) (hK : After Z0 w0 Z st a o e K) : o.wp P a w K Q := by
  simp only [dop, ho, Option.bind_eq_some_iff] at h
  obtain ⟨cs, hz, h⟩ := h
  split at h
  · rename_i h1
    simp only [Option.some.injEq] at h
    subst h
    simp only [ofZero, Option.map_eq_some_iff, Option.bind_eq_some_iff] at hz
    obtain ⟨z, ⟨i, hi, hz⟩, rfl⟩ := hz
    have I' := I.new (o.dst.getD 0) t z.cells (z.cells.toList.map .v) (by simp) (fun j h h' => by
      have h2 : (z.cells.toList.map D.v)[j] = .v z.cells[j] := by simp
      refine ⟨by rw [h2]; exact .v _, ?_⟩
      have := List.all_eq_true.1 h1 _ (List.getElem_mem h)
      rw [h2] at this
      exact this) h1 (by rw [List.any_eq_false]; intro d hd; obtain ⟨y, _, rfl⟩ := List.mem_map.1 hd; simp [refc])
    refine wp_value (w' := w.alloc (.cells z.cells t)) (x := .pointer (some ⟨w.heap.size, 0, none⟩)) ?_ ?_
    · unfold execOp
      simp only [ho]
      refine run_value ?_
      unfold Instr.alloc
      rw [Sem.run_bind]
      have : (zeroValue t).run P w = .ok z w := by simp [zeroValue, typeInfo, hi, hz]
      rw [this]
      simp only [Result.andThen_ok, Sem.run_bind, run_newVar, Sem.run_pure]
    · refine hK _ Z (O.nw w.heap.size (o.dst.getD 0)) _ (FZ.le_refl Z) ?_
      exact I'.put o.dst (.bp (o.dst.getD 0) 0) _ (fun i hi => ⟨w.heap.size, by unfold OM.nw; rw [if_pos rfl], rfl⟩)
  · cases h

theorem sound_box {t : TypeId} {x : Operand} (ho : o.op = .box t x) (h : dop P F tk st.rd st.bx o = some e) (I : Inv Z0 w0 Z O st a w) (hK : After Z0 w0 Z st a o e K) : o.wp P a w K Q := by
  simp only [dop, ho, Option.bind_eq_some_iff] at h
  obtain ⟨d, hx, h⟩ := h
  obtain ⟨p, hp, hpt⟩ := I.rd hx
  split at h
  · rename_i h12
    obtain ⟨h1, h2⟩ := h12
    simp only [Option.some.injEq] at h
    subst h
    refine wp_value (w' := w.alloc (.cells (a.eval x).cells t)) (x := .pointer (some ⟨w.heap.size, 0, none⟩)) ?_ ?_
    · unfold execOp
      simp only [ho]
      refine run_value ?_
      unfold Instr.box
      rw [Sem.run_bind, run_newVar]; rfl
    by_cases hd : ∀ e k es, d ≠ .own e k es
    · obtain ⟨hl, hc⟩ := cells_rv hp h1 hd
      have I' := I.new (o.dst.getD 0) t (a.eval x).cells (cellsD d) hl (fun j h h' => hc _ j h h') h1 h2
      refine hK _ Z (O.nw w.heap.size (o.dst.getD 0)) _ (FZ.le_refl Z) ?_
      have hg : goneOf x d = [] := by
        cases d with
        | own e k es => exact absurd rfl (hd e k es)
        | _ => rfl
      have := I'.put o.dst (.bp (o.dst.getD 0) 0) (.pointer (some ⟨w.heap.size, 0, none⟩)) (fun i hi => ⟨w.heap.size, by unfold OM.nw; rw [if_pos rfl], rfl⟩)
      simpa only [Eff.on, hg, List.foldl_nil] using this
    · simp only [Classical.not_forall, Classical.not_not] at hd
      obtain ⟨e, k, es, rfl⟩ := hd
      cases x with
      | tmp s =>
        have hps := hpt s rfl
        subst hps
        have I1 := I.out s (.b (o.dst.getD 0) 0)
        have hcv : (a.eval (.tmp s)).cells = #[a.eval (.tmp s)] := by
          rcases hp with ⟨_, hv⟩ | ⟨g, c, cur, hv, _⟩ <;> rw [hv] <;> rfl
        have hoc : (a.eval (.tmp s)).oneCell' = true := by
          rcases hp with ⟨_, hv⟩ | ⟨g, c, cur, hv, _⟩ <;> rw [hv] <;> rfl
        have I' := I1.new (o.dst.getD 0) t #[a.eval (.tmp s)] [.own e k es] rfl (fun j h h' => by
          have : j = 0 := by simp at h; exact h
          subst this
          exact ⟨hp.mvs, hoc⟩) h1 h2
        rw [hcv]
        refine hK _ Z ((O.mv (.t s) (.b (o.dst.getD 0) 0)).nw w.heap.size (o.dst.getD 0)) _ (FZ.le_refl Z) ?_
        have := I'.put o.dst (.bp (o.dst.getD 0) 0) (.pointer (some ⟨w.heap.size, 0, none⟩)) (fun i hi => ⟨w.heap.size, by unfold OM.nw; rw [if_pos rfl], rfl⟩)
        simpa only [Eff.on, goneOf, tmpOf, List.foldl_nil, List.foldl_cons, cellsD] using this
      | const v => simp [St.rd] at hx
      | global g => simp only [St.rd, Option.some.injEq, gD] at hx; split at hx <;> cases hx
      | func f => simp [St.rd] at hx
  · cases h

theorem at3 {α : Type} {A B : List α} {n m : Nat} (h : n + m ≤ A.length) (hm : B.length = m) (j : Nat) : (A.take n ++ B ++ A.drop (n + m))[j]? = if j < n then A[j]? else if j < n + m then B[j - n]? else A[j]? := by
  by_cases h1 : j < n
  · rw [if_pos h1, List.append_assoc, List.getElem?_append_left (by simp; omega), List.getElem?_take_of_lt h1]
  · rw [if_neg h1]
    by_cases h2 : j < n + m
    · rw [if_pos h2, List.append_assoc, List.getElem?_append_right (by simp; omega), List.getElem?_append_left (by simp; omega)]
      congr 1; simp; omega
    · rw [if_neg h2, List.getElem?_append_right (by simp; omega), List.getElem?_drop]
      congr 1; simp; omega
theorem at3_len {α : Type} {A B : List α} {n m : Nat} (h : n + m ≤ A.length) (hm : B.length = m) : (A.take n ++ B ++ A.drop (n + m)).length = A.length := by
  simp; omega
/-- (D) a variable is written -/
theorem Inv.store (I : Inv Z0 w0 Z O st a w) {b g off : Nat} {cs ds : List D} {xs : Array Value} {vs : List Value} {e : TypeId} (hb : st.bx b = some cs) (hO : O g = .box b) (hg : w.heap[g]? = some (.cells xs e (0, 0)))
    (hl : vs.length = ds.length) (hle : off + ds.length ≤ cs.length) (h1 : ds.all one = true) (hv : ∀ j (h : j < ds.length) (h' : j < vs.length), RV Z O w (.b b (off + j)) vs[j] ds[j] ∧ vs[j].oneCell' = true) :
    Inv Z0 w0 Z O ⟨st.t, st.b.set b (some (setCells cs off ds))⟩ a (w.setRow g (xs.toList.take off ++ vs ++ xs.toList.drop (off + vs.length)).toArray) := by
  obtain ⟨g', xs', e', q1, q2, q3, q4, q5, q6⟩ := I.bv b cs hb
  have hgg := I.uq g g' b hO q1
  subst hgg
  rw [hg] at q2
  simp only [Option.some.injEq, Obj.cells.injEq] at q2
  obtain ⟨rfl, rfl, _⟩ := q2
  have hob := I.ob g (by rw [hO]; simp)
  have hgrow : w.grownBy (w.setRow g (xs.toList.take off ++ vs ++ xs.toList.drop (off + vs.length)).toArray) (some g) := ⟨rfl, rfl, rfl, by simp, fun k _ hk => setRow_other w g k _ (fun e => hk (by rw [e]))⟩
  have key : ∀ {p x d}, RV Z O w p x d → RV Z O (w.setRow g (xs.toList.take off ++ vs ++ xs.toList.drop (off + vs.length)).toArray) p x d := fun h =>
    h.move (FZ.le_refl Z) (fun _ _ h => h) (fun e k es he g' hg' => ⟨hg', setRow_other w g g' _ (fun e => by subst e; rw [hO] at hg'; cases hg'), fun _ h => h⟩)
  refine ⟨I.tsz, fun i h h' => key (I.tv i h h'), ?_, I.uq, fun g' h => ?_, fun b' o' x hx => ?_, ?_, I.df, I.zn, I.bs⟩
  · intro b' cs' hb'
    rcases set_bx hb' with ⟨rfl, hc⟩ | ⟨hne, hb'⟩
    · simp only [Option.some.injEq] at hc
      subst hc
      have hlx : off + vs.length ≤ xs.toList.length := by simp; omega
      refine ⟨g, _, e, hO, setRow_heap w g xs _ e _ hg, ?_, fun j h h' => ?_, q5, ?_⟩
      · simp only [List.size_toArray, setCells]
        rw [at3_len hlx rfl, at3_len hle rfl]; simpa using q3
      · have hj : j < cs.length := by simp only [setCells] at h; rwa [at3_len hle rfl] at h
        have e1 : (setCells cs off ds)[j]? = some (setCells cs off ds)[j] := List.getElem?_eq_getElem h
        have e2 : ((xs.toList.take off ++ vs ++ xs.toList.drop (off + vs.length)).toArray)[j]? = some ((xs.toList.take off ++ vs ++ xs.toList.drop (off + vs.length)).toArray)[j] := Array.getElem?_eq_getElem h'
        generalize (setCells cs off ds)[j] = d at e1
        generalize ((xs.toList.take off ++ vs ++ xs.toList.drop (off + vs.length)).toArray)[j] = x at e2
        rw [setCells, at3 hle rfl] at e1
        rw [List.getElem?_toArray, at3 hlx rfl] at e2
        by_cases c1 : j < off
        · rw [if_pos c1] at e1 e2
          obtain ⟨_, rfl⟩ := List.getElem?_eq_some_iff.1 e1
          obtain ⟨k2, rfl⟩ := List.getElem?_eq_some_iff.1 e2
          have := q4 j hj (by simpa using k2)
          exact ⟨key (by simpa using this.1), by simpa using this.2⟩
        · rw [if_neg c1] at e1 e2
          by_cases c2 : j < off + ds.length
          · rw [if_pos c2] at e1
            rw [if_pos (by omega)] at e2
            obtain ⟨k1, rfl⟩ := List.getElem?_eq_some_iff.1 e1
            obtain ⟨k2, rfl⟩ := List.getElem?_eq_some_iff.1 e2
            have := hv (j - off) k1 k2
            rw [show off + (j - off) = j by omega] at this
            exact ⟨key this.1, this.2⟩
          · rw [if_neg c2] at e1
            rw [if_neg (by omega)] at e2
            obtain ⟨_, rfl⟩ := List.getElem?_eq_some_iff.1 e1
            obtain ⟨k2, rfl⟩ := List.getElem?_eq_some_iff.1 e2
            have := q4 j hj (by simpa using k2)
            exact ⟨key (by simpa using this.1), by simpa using this.2⟩
      · rw [List.all_eq_true] at q6 h1 ⊢
        intro d hd
        simp only [setCells, List.mem_append] at hd
        rcases hd with (hd | hd) | hd
        · exact q6 d (List.mem_of_mem_take hd)
        · exact h1 d hd
        · exact q6 d (List.mem_of_mem_drop hd)
    · obtain ⟨g2, xs2, e2, r1, r2, r3, r4, r5⟩ := I.bv b' cs' hb'
      have hne2 : g2 ≠ g := fun e => by subst e; rw [hO] at r1; injection r1 with r1; exact hne r1
      exact ⟨g2, xs2, e2, r1, (setRow_other w g g2 _ hne2).trans r2, r3, fun j h h' => ⟨key (r4 j h h').1, (r4 j h h').2⟩, r5⟩
  · have := I.ob g' h
    exact ⟨this.1, by simpa using this.2⟩
  · have hc := I.ag b' o' x hx
    have hne : b' ≠ g := fun e => by subst e; rw [q5] at hx; cases hx
    exact ⟨(World.cell?_of_block (setRow_other w g b' _ hne)).trans hc.1, hc.2⟩
  · exact I.bl.grown hgrow I.bl.size (fun k hk => by simp only [Option.some.injEq] at hk; subst hk; exact hob.1)

theorem wp_skipped {x : Value} {w' : World} (h : (execOp a.eval o).run P w = .ok .skip w') (hK : K (a.put o.dst undef) w') : o.wp P a w K Q := by
  unfold Oper.wp; rw [h]; exact hK
theorem run_storeVar_at {t : TypeId} {n g off : Nat} {v : Value} {xs : Array Value} {e : TypeId} (hn : sizeT P t = some n) (hv : v.cells.size = n) (hg : w.heap[g]? = some (.cells xs e (0, 0))) (hle : off + n ≤ xs.size) (h1 : ∀ u ∈ v.cells.toList, u.oneCell' = true) :
    (storeVar t ⟨g, off, none⟩ v).run P w = .ok () (w.setRow g (xs.toList.take off ++ v.cells.toList ++ xs.toList.drop (off + v.cells.toList.length)).toArray) := by
  unfold storeVar
  rw [Sem.run_bind, run_sizeT hn w]
  simp only [Result.andThen_ok]
  have hr := run_storeCells_at P g off e v.cells.toList 0 xs w hg (by simp; omega) h1
  simp only [Nat.add_zero] at hr
  rw [if_neg (by rw [hv]; simp)]
  exact hr
theorem sound_store {t : TypeId} {x y : Operand} (ho : o.op = .store t x y) (h : dop P F tk st.rd st.bx o = some e) (I : Inv Z0 w0 Z O st a w) (hK : After Z0 w0 Z st a o e K) : o.wp P a w K Q := by
  simp only [dop, ho, Option.bind_eq_some_iff] at h
  obtain ⟨dx, hx, d, hy, h⟩ := h
  obtain ⟨p, hp, _⟩ := I.rd hx
  obtain ⟨q, hq, hqt⟩ := I.rd hy
  split at h
  · rename_i b off
    simp only [Option.bind_eq_some_iff] at h
    obtain ⟨cs, hb, n, hn, h⟩ := h
    split at h
    · rename_i hc
      obtain ⟨hln, hle, hone⟩ := hc
      simp only [Option.some.injEq] at h
      subst h
      obtain ⟨g, xs, e', hxe, hO, hg, hsz, hcs, hZ, hall1⟩ := I.box hp hb
      have fin : ∀ {O1 : OM} {t1 : List D}, Inv Z0 w0 Z O1 { st with t := t1 } a w → O1 g = .box b → (goneOf y d).foldl stripAt st.t = t1 →
          (a.eval y).cells.size = (cellsD d).length → (∀ j (h : j < (cellsD d).length) (h' : j < (a.eval y).cells.size), RV Z O1 w (.b b (off + j)) (a.eval y).cells[j] (cellsD d)[j] ∧ (a.eval y).cells[j].oneCell' = true) → o.wp P a w K Q := by
        intro O1 t1 I1 hO1 ht hl hv
        have I2 := I1.store (vs := (a.eval y).cells.toList) (ds := cellsD d) (off := off) (b := b) (cs := cs) (by exact hb) hO1 hg (by simpa using hl) (by omega) hone (fun j h h' => by
          have := hv j h (by simpa using h'); simpa using this)
        refine wp_skipped (x := undef) (w' := w.setRow g (xs.toList.take off ++ (a.eval y).cells.toList ++ xs.toList.drop (off + (a.eval y).cells.toList.length)).toArray) ?_ (hK undef Z O1 _ (FZ.le_refl Z) ?_)
        · unfold execOp
          simp only [ho, hxe]
          unfold Instr.storeAt
          rw [Sem.run_bind, Sem.run_bind]
          simp only [Instr.sureAddr, Sem.run_pure, Result.andThen_ok]
          rw [run_storeVar_at hn (by omega) hg (by omega) (fun u hu => by
            rw [List.mem_iff_getElem] at hu
            obtain ⟨j, hj, rfl⟩ := hu
            have := (hv j (by simp at hj; omega) (by simpa using hj)).2
            simpa using this)]
          rfl
        · have := I2.put o.dst (.v undef) undef (fun i hi => .v _)
          have hb0 : st.b.getD b none = some cs := hb
          simpa only [Eff.on, ht, hb0] using this
      by_cases hd : ∀ e k es, d ≠ .own e k es
      · obtain ⟨hl, hc⟩ := cells_rv hq hone hd
        have hgn : goneOf y d = [] := by
          cases d with
          | own e k es => exact absurd rfl (hd e k es)
          | _ => rfl
        exact fin (O1 := O) (t1 := st.t) I hO (by rw [hgn]; rfl) hl (fun j h h' => hc _ j h h')
      · simp only [Classical.not_forall, Classical.not_not] at hd
        obtain ⟨e, k, es, rfl⟩ := hd
        cases y with
        | tmp s =>
          have hps := hqt s rfl
          subst hps
          have hcv : (a.eval (.tmp s)).cells = #[a.eval (.tmp s)] := by
            rcases hq with ⟨_, hv⟩ | ⟨g, c, cur, hv, _⟩ <;> rw [hv] <;> rfl
          have hoc : (a.eval (.tmp s)).oneCell' = true := by
            rcases hq with ⟨_, hv⟩ | ⟨g, c, cur, hv, _⟩ <;> rw [hv] <;> rfl
          refine fin (I.out s (.b b off)) (OM.mv_box.2 hO) rfl (by rw [hcv]; rfl) (fun j h h' => ?_)
          have : j = 0 := by simp [cellsD] at h; exact h
          subst this
          have h0 : (a.eval (.tmp s)).cells[0] = a.eval (.tmp s) := by simp [hcv]
          rw [h0]
          exact ⟨hq.mvs, hoc⟩
        | const v => simp [St.rd] at hy
        | global g => simp only [St.rd, Option.some.injEq, gD] at hy; split at hy <;> cases hy
        | func f => simp [St.rd] at hy
    · cases h
  · cases h

def CR (Z : FZ) (O : OM) (xs : Array Value) (cs : List D) : Prop := xs.size = cs.length ∧ ∀ j (h : j < cs.length) (h' : j < xs.size), RVc Z O xs[j] cs[j] ∧ xs[j].oneCell' = true
theorem fold_set (off : Nat) : ∀ (vs : List Value) (k : Nat) (xs : Array Value) (j : Nat),
    ((vs.zipIdx k).foldl (fun (cs : Array Value) (x : Value × Nat) => cs.setIfInBounds (off + x.2) x.1) xs)[j]? = if off + k ≤ j ∧ j < off + k + vs.length ∧ j < xs.size then vs[j - (off + k)]? else xs[j]?
  | [], k, xs, j => by
    simp only [List.zipIdx_nil, List.foldl_nil, List.length_nil]
    rw [if_neg (by omega)]
  | v :: vs, k, xs, j => by
    rw [List.zipIdx_cons, List.foldl_cons, fold_set off vs (k + 1)]
    simp only [Array.size_setIfInBounds, List.length_cons]
    by_cases h1 : off + (k + 1) ≤ j ∧ j < off + (k + 1) + vs.length ∧ j < xs.size
    · rw [if_pos h1, if_pos (by omega), show j - (off + k) = (j - (off + (k + 1))) + 1 by omega, List.getElem?_cons_succ]
    · rw [if_neg h1, Array.getElem?_setIfInBounds]
      by_cases h2 : off + k = j
      · by_cases h3 : j < xs.size
        · rw [if_pos h2, if_pos (by omega), if_pos (by omega), h2, Nat.sub_self]; rfl
        · rw [if_pos h2, if_neg (by omega), if_neg (by omega)]
          simp only [Array.getElem?_eq_none (Nat.le_of_not_lt h3)]
      · rw [if_neg h2, if_neg (by omega)]
theorem CR.set {xs : Array Value} {cs ds : List D} {off : Nat} {v : Value} (h : CR Z O xs cs) (hl : v.cells.size = ds.length) (hle : off + ds.length ≤ cs.length) (hv : ∀ j (h : j < ds.length) (h' : j < v.cells.size), RVc Z O v.cells[j] ds[j] ∧ v.cells[j].oneCell' = true) :
    CR Z O (v.cells.zipIdx.foldl (fun (cs : Array Value) (x : Value × Nat) => cs.setIfInBounds (off + x.2) x.1) xs) (setCells cs off ds) := by
  have hg : ∀ j, (v.cells.zipIdx.foldl (fun (cs : Array Value) (x : Value × Nat) => cs.setIfInBounds (off + x.2) x.1) xs)[j]? = if off ≤ j ∧ j < off + v.cells.toList.length ∧ j < xs.size then v.cells.toList[j - off]? else xs[j]? := by
    intro j
    rw [← Array.foldl_toList, Array.toList_zipIdx]
    exact fold_set off v.cells.toList 0 xs j
  have hs : (v.cells.zipIdx.foldl (fun (cs : Array Value) (x : Value × Nat) => cs.setIfInBounds (off + x.2) x.1) xs).size = xs.size := by
    have key : ∀ (l : List (Value × Nat)) (xs : Array Value), (l.foldl (fun (cs : Array Value) (x : Value × Nat) => cs.setIfInBounds (off + x.2) x.1) xs).size = xs.size := by
      intro l
      induction l with
      | nil => intro xs; rfl
      | cons x l ih => intro xs; rw [List.foldl_cons, ih]; simp
    rw [← Array.foldl_toList]; exact key _ _
  refine ⟨by rw [hs, h.1, setCells, at3_len hle rfl], fun j h1 h2 => ?_⟩
  have e1 : (setCells cs off ds)[j]? = some (setCells cs off ds)[j] := List.getElem?_eq_getElem h1
  have e2 := Array.getElem?_eq_getElem h2
  rw [hg] at e2
  generalize (setCells cs off ds)[j] = d at e1
  rw [setCells, at3 hle rfl] at e1
  generalize (v.cells.zipIdx.foldl (fun (cs : Array Value) (x : Value × Nat) => cs.setIfInBounds (off + x.2) x.1) xs)[j] = x at e2
  have hj : j < xs.size := by rwa [hs] at h2
  by_cases c1 : j < off
  · rw [if_pos c1] at e1
    rw [if_neg (by omega)] at e2
    obtain ⟨k1, rfl⟩ := List.getElem?_eq_some_iff.1 e1
    obtain ⟨k2, rfl⟩ := Array.getElem?_eq_some_iff.1 e2
    exact h.2 j k1 k2
  · rw [if_neg c1] at e1
    by_cases c2 : j < off + ds.length
    · rw [if_pos c2] at e1
      rw [if_pos (by simp; omega)] at e2
      obtain ⟨k1, rfl⟩ := List.getElem?_eq_some_iff.1 e1
      obtain ⟨k2, rfl⟩ := List.getElem?_eq_some_iff.1 e2
      have := hv (j - off) k1 (by simpa using k2)
      simpa using this
    · rw [if_neg c2] at e1
      rw [if_neg (by simp; omega)] at e2
      obtain ⟨k1, rfl⟩ := List.getElem?_eq_some_iff.1 e1
      obtain ⟨k2, rfl⟩ := Array.getElem?_eq_some_iff.1 e2
      exact h.2 j k1 k2
theorem fill_rel (I : Inv Z0 w0 Z O st a w) (place : Nat → Option (Nat × Nat)) : ∀ (parts : List (Nat × Operand)) (dl : List (Nat × D)) (xs : Array Value) (cs r : List D),
    (parts.mapM fun (p : Nat × Operand) => (st.rd p.2).map fun d => (p.1, d)) = some dl → fillD place cs dl = some r → CR Z O xs cs → ∃ xs', Instr.fill place xs (parts.map fun p => (p.1, a.eval p.2)) = some xs' ∧ CR Z O xs' r ∧ xs'.size = xs.size
  | [], dl, xs, cs, r, hm, hf, hc => by
    simp only [List.mapM_nil, Option.pure_def, Option.some.injEq] at hm
    subst hm
    simp only [fillD, Option.some.injEq] at hf
    subst hf
    exact ⟨xs, rfl, hc, rfl⟩
  | (i, x) :: parts, dl, xs, cs, r, hm, hf, hc => by
    simp only [List.mapM_cons, Option.bind_eq_bind, Option.bind_eq_some_iff, Option.map_eq_some_iff, Option.pure_def, Option.some.injEq] at hm
    obtain ⟨_, ⟨d, hd, rfl⟩, dl', hm', rfl⟩ := hm
    simp only [fillD, Option.bind_eq_some_iff] at hf
    obtain ⟨⟨off, n⟩, hp, hf⟩ := hf
    simp only at hf
    split at hf
    · rename_i hcnd
      obtain ⟨h1, h2, h3⟩ := hcnd
      obtain ⟨p, hr, _⟩ := I.rd hd
      obtain ⟨hl, hv⟩ := cells_rv hr.strip h3 (strip_own d)
      have hv' : ∀ j (h : j < (cellsD (strip d)).length) (h' : j < (a.eval x).cells.size), RVc Z O (a.eval x).cells[j] (cellsD (strip d))[j] ∧ (a.eval x).cells[j].oneCell' = true := fun j h h' => by
        obtain ⟨q1, q2⟩ := hv p j h h'
        refine ⟨?_, q2⟩
        have hone := List.all_eq_true.1 h3 _ (List.getElem_mem h)
        have hno : ∀ e k es, (cellsD (strip d))[j] ≠ .own e k es := by
          intro e k es he
          cases d with
          | agg cs =>
            obtain ⟨ys, hy, hl', hc'⟩ := hr
            have h'' : j < cs.length := h
            have := hc' j h'' (by omega)
            have he' : cs[j] = .own e k es := he
            rw [he'] at this
            generalize ys[j] = u at this
            cases this
          | v y =>
            cases y <;> simp [cellsD, strip] at he
          | _ => simp [cellsD, strip] at he
        have q3 := q1.cell hone
        have hst : strip (cellsD (strip d))[j] = (cellsD (strip d))[j] := by
          generalize (cellsD (strip d))[j] = c at hno
          cases c with
          | own e k es => exact absurd rfl (hno e k es)
          | _ => rfl
        rw [hst] at q3
        exact q3
      obtain ⟨xs', e1, e2, e3⟩ := fill_rel I place parts dl' _ _ r hm' hf (hc.set (off := off) hl (by omega) hv')
      refine ⟨xs', ?_, e2, ?_⟩
      · simp only [List.map_cons, Instr.fill, hp]
        rw [if_neg (by simp; have := hc.1; omega)]
        exact e1
      · rw [e3]
        have q := (hc.set (off := off) hl (by omega) hv').1
        rw [q, setCells, at3_len (by omega) rfl, hc.1]
    · cases hf

theorem zero_cr {t : TypeId} {z : List D} (h : ofZero P t = some z) (h1 : z.all one = true) : ∃ i zv, P.info? t = some i ∧ i.zero = some zv ∧ z = zv.cells.toList.map .v ∧ CR Z O zv.cells z := by
  simp only [ofZero, Option.map_eq_some_iff, Option.bind_eq_some_iff] at h
  obtain ⟨zv, ⟨i, hi, hz⟩, rfl⟩ := h
  refine ⟨i, zv, hi, hz, rfl, by simp, fun j h h' => ?_⟩
  have h2 : (zv.cells.toList.map D.v)[j] = .v zv.cells[j] := by simp
  refine ⟨by rw [h2]; exact RVc.ofRp (.v _), ?_⟩
  have := List.all_eq_true.1 h1 _ (List.getElem_mem h)
  rw [h2] at this
  exact this
theorem CR.agg {xs : Array Value} {cs : List D} (h : CR Z O xs cs) (p : Pos) : RV Z O w p (.agg xs) (.agg cs) := by
  exact ⟨xs.toList, by simp, by simpa using h.1, fun i hi hj => (by simpa using (h.2 i hi (by simpa using hj)).1)⟩
theorem sound_build {t : TypeId} {parts : Array (Nat × Operand)} (ho : o.op = .build t parts) (h : dop P F tk st.rd st.bx o = some e) (I : Inv Z0 w0 Z O st a w) (hK : After Z0 w0 Z st a o e K) : o.wp P a w K Q := by
  simp only [dop, ho, Option.bind_eq_some_iff] at h
  obtain ⟨z, hz, h⟩ := h
  split at h
  · rename_i h1
    simp only [Option.bind_eq_some_iff] at h
    obtain ⟨dl, hdl, h⟩ := h
    obtain ⟨i, zv, hi, hzv, rfl, hcr⟩ := zero_cr (Z := Z) (O := O) hz h1
    obtain ⟨xs', cs, hb, hcr', rfl⟩ : ∃ xs' cs, P.built t (parts.map fun p => (p.1, a.eval p.2)).toList = some xs' ∧ CR Z O xs' cs ∧ e = { d := .agg cs } := by
      unfold Program.built
      split at h
      · rename_i fields hu
        simp only [Option.bind_eq_some_iff, Option.map_eq_some_iff] at h
        obtain ⟨places, hpl, cs, hf, rfl⟩ := h
        obtain ⟨xs', e1, e2, _⟩ := fill_rel I _ parts.toList dl _ _ cs hdl hf hcr
        refine ⟨xs', cs, ?_, e2, rfl⟩
        simp only [hi, hu, hzv, hpl, Array.toList_map]
        exact e1
      · rename_i n e' hu
        simp only [Option.bind_eq_some_iff, Option.map_eq_some_iff, sizeT] at h
        obtain ⟨k, ⟨ie, hie, rfl⟩, cs, hf, rfl⟩ := h
        obtain ⟨xs', e1, e2, _⟩ := fill_rel I _ parts.toList dl _ _ cs hdl hf hcr
        refine ⟨xs', cs, ?_, e2, rfl⟩
        simp only [hi, hu, hzv, hie, Array.toList_map]
        exact e1
      · cases h
    refine wp_value (w' := w) (x := .agg xs') ?_ (hK.pure I fun i => hcr'.agg _)
    unfold execOp
    simp only [ho]
    exact run_value (run_build w t _ _ hb)
  · cases h
/-- new cells that stay -/
def FZ.add (Z : FZ) (g : Nat) (xs : List Value) : FZ := fun b o => if b = g then (match xs[o]? with | some x => some x | none => Z b o) else Z b o
theorem FZ.add_le {g : Nat} {xs : List Value} (h : ∀ o x, Z g o = some x → xs[o]? = some x) : Z.le (Z.add g xs) := by
  intro b o x hx
  unfold FZ.add
  by_cases e : b = g
  · subst e; rw [if_pos rfl, h o x hx]
  · rw [if_neg e]; exact hx
theorem FZ.add_at {g o : Nat} {xs : List Value} {x : Value} (h : xs[o]? = some x) : Z.add g xs g o = some x := by
  unfold FZ.add; rw [if_pos rfl, h]
theorem FZ.add_inv {g b o : Nat} {xs : List Value} {x : Value} (h : Z.add g xs b o = some x) : (b = g ∧ xs[o]? = some x) ∨ Z b o = some x := by
  unfold FZ.add at h
  by_cases e : b = g
  · rw [if_pos e] at h
    cases hx : xs[o]? with
    | none => rw [hx] at h; exact .inr h
    | some y => rw [hx] at h; simp only [Option.some.injEq] at h; subst h; exact .inl ⟨e, rfl⟩
  · rw [if_neg e] at h; exact .inr h
theorem chunks_len (k : Nat) : ∀ (n : Nat) (cs : List D), (chunks k n cs).length = n
  | 0, _ => rfl
  | n + 1, cs => by simp [chunks, chunks_len k n]
theorem chunks_get (k : Nat) : ∀ (n : Nat) (cs : List D) (i : Nat) (h : i < (chunks k n cs).length), (chunks k n cs)[i] = (cs.drop (i * k)).take k
  | 0, _, i, h => by simp [chunks] at h
  | n + 1, cs, 0, h => by simp [chunks]
  | n + 1, cs, i + 1, h => by
    simp only [chunks, List.getElem_cons_succ]
    rw [chunks_get k n]
    rw [List.drop_drop, Nat.add_mul, Nat.one_mul, Nat.add_comm]
/-- a new own row comes to a temporary -/
theorem Inv.fresh (I : Inv Z0 w0 Z O st a w) (dst : Option Tmp) (e : TypeId) (k : Nat) (es : List (List D)) (xs cur : Array Value) (c : Nat) (hk : ∀ i (h : i < es.length), (es[i]).length = k) (hlx : xs.size = es.length * k)
    (hx : ∀ i (h : i < es.length) j (h' : j < (es[i]).length), ∃ y, xs[i * k + j]? = some y ∧ Rp Z y (es[i][j]) ∧ y.oneCell' = true) (hone : ∀ y ∈ xs, y.oneCell' = true)
    (hcur : ∀ (i : Nat) x, xs[i]? = some x → cur[i]? = some x) (hc : es.length ≤ c) (hcm : c ≤ maxLen) (hcs : cur.size = c * k) (w' : World) (hw : w' = w ∨ w' = w.drew) :
    ∃ Z' O', Z.le Z' ∧ Inv Z0 w0 Z' O' (st.put dst (.own e k es)) (a.put dst (.slice (some ⟨w.heap.size, 0, none⟩) es.length c)) (w'.alloc (.cells cur e)) := by
  have hheap : w'.heap = w.heap := by rcases hw with rfl | rfl <;> rfl
  have hB : w0.heap.size ≤ w.heap.size := I.bl.size
  have hnone : ∀ o, Z w.heap.size o = none := fun o => by
    cases hz : Z w.heap.size o with
    | none => rfl
    | some x => exact absurd (block_lt_of_cell (I.ag _ _ _ hz).1) (by simp)
  have hold : ∀ g, g < w.heap.size → (w'.alloc (.cells cur e)).heap[g]? = w.heap[g]? := fun g hg => by
    rw [heap_alloc_old w' _ g (by rw [hheap]; exact hg), hheap]
  have hnew : (w'.alloc (.cells cur e)).heap[w.heap.size]? = some (.cells cur e (0, 0)) := by
    have := heap_alloc_new w' (.cells cur e (0, 0)); rw [hheap] at this; exact this
  have hsz : (w'.alloc (.cells cur e)).heap.size = w.heap.size + 1 := by simp [hheap]
  let Z' := Z.add w.heap.size xs.toList
  let O' : OM := fun g => if g = w.heap.size then .at (.t (dst.getD 0)) else O g
  have hZ : Z.le Z' := FZ.add_le fun o x hx => by rw [hnone] at hx; cases hx
  have hO : ∀ g, O g ≠ .none → O' g = O g := fun g hg => if_neg (by have := (I.ob g hg).2; omega)
  have hZn : ∀ g o, g < w.heap.size → Z g o = none → Z' g o = none := fun g o hg h => by
    cases hz : Z' g o with
    | none => rfl
    | some x =>
      rcases FZ.add_inv hz with ⟨e, _⟩ | h2
      · omega
      · rw [h] at h2; cases h2
  have key : ∀ {p x d}, RV Z O w p x d → RV Z' O' (w'.alloc (.cells cur e)) p x d := fun h =>
    h.move hZ (fun g b hg => (hO g (by rw [hg]; simp)).trans hg)
      (fun _ _ _ _ g hg => ⟨(hO g (by rw [hg]; simp)).trans hg, hold g (I.ob g (by rw [hg]; simp)).2, fun o ho => hZn g o (I.ob g (by rw [hg]; simp)).2 ho⟩)
  refine ⟨Z', O', hZ, ?_⟩
  have I' : Inv Z0 w0 Z' O' st a (w'.alloc (.cells cur e)) := by
    refine ⟨I.tsz, fun i h h' => key (I.tv i h h'), fun b cs hb => ?_, fun g g' b h h' => ?_, fun g h => ?_, fun b o x hx => ?_, ?_, I.df, fun b o x hx => (FZ.add_inv hx).elim (fun q => .inr (by rw [q.1]; exact hB)) (fun q => I.zn b o x q), I.bs.mono hZ⟩
    · obtain ⟨g, xs2, e2, q1, q2, q3, q4, q5, q6⟩ := I.bv b cs hb
      have hlt := (I.ob g (by rw [q1]; simp)).2
      exact ⟨g, xs2, e2, (hO g (by rw [q1]; simp)).trans q1, (hold g hlt).trans q2, q3, fun j h h' => ⟨key (q4 j h h').1, (q4 j h h').2⟩, fun o => hZn g o hlt (q5 o), q6⟩
    · have f : ∀ g, O' g = .box b → O g = .box b := fun g h => by
        by_cases e : g = w.heap.size
        · have : O' g = .at (.t (dst.getD 0)) := if_pos e
          rw [this] at h; cases h
        · have : O' g = O g := if_neg e
          rw [← this]; exact h
      exact I.uq g g' b (f g h) (f g' h')
    · rw [hsz]
      by_cases e : g = w.heap.size
      · omega
      · have : O' g = O g := if_neg e
        rw [this] at h
        have := I.ob g h; omega
    · rcases FZ.add_inv hx with ⟨rfl, h2⟩ | h2
      · have hc := hcur o x (by simpa using h2)
        refine ⟨by rw [cell_of_row _ _ o cur e (0, 0) hnew]; exact hc, hone x ?_⟩
        have := List.mem_of_getElem? h2
        simpa using this
      · have hc := I.ag b o x h2
        have hlt : b < w.heap.size := block_lt_of_cell hc.1
        exact ⟨(World.cell?_of_block (hold b hlt)).trans hc.1, hc.2⟩
    · have : Below w0.heap.size w0 w' := by
        rcases hw with rfl | rfl
        · exact I.bl
        · exact I.bl.drew
      exact this.alloc (by rw [hheap]; exact hB) _
  refine I'.put dst _ _ fun i hi => .inr ⟨w.heap.size, c, cur, rfl, ?_, hnew, hc, hcm, hcs, ⟨hk, fun i hi j hj => ?_⟩, fun o ho => ?_⟩
  · show (if _ then _ else _) = _
    rw [if_pos rfl, hi]; rfl
  · obtain ⟨y, h1, h2, _⟩ := hx i hi j hj
    refine ⟨y, FZ.add_at (by simpa using h1), h2.mono hZ⟩
  · cases hz : Z' w.heap.size o with
    | none => rfl
    | some x =>
      rcases FZ.add_inv hz with ⟨_, h2⟩ | h2
      · have := (List.getElem?_eq_some_iff.1 h2).1
        simp at this
        omega
      · rw [hnone] at h2; cases h2

theorem sound_buildSlice {t : TypeId} {n : Nat} {parts : Array (Nat × Operand)} (ho : o.op = .buildSlice t n parts) (h : dop P F tk st.rd st.bx o = some e) (I : Inv Z0 w0 Z O st a w) (hK : After Z0 w0 Z st a o e K) : o.wp P a w K Q := by
  simp only [dop, ho] at h
  split at h
  · rename_i e' hu
    simp only [Option.bind_eq_some_iff] at h
    obtain ⟨k, hk, h⟩ := h
    split at h
    · rename_i hc
      obtain ⟨h0, hle⟩ := hc
      simp only [Option.bind_eq_some_iff] at h
      obtain ⟨z, hz, h⟩ := h
      split at h
      · rename_i hc
        obtain ⟨hzl, h1⟩ := hc
        simp only [Option.bind_eq_some_iff] at h
        obtain ⟨dl, hdl, cs, hf, h⟩ := h
        split at h
        case isFalse => cases h
        rename_i hnb
        simp only [Option.some.injEq] at h
        subst h
        obtain ⟨i, zv, hi, hzv, hze, hcr⟩ := zero_cr (Z := Z) (O := O) hz h1
        have hzs : zv.cells.size = k := by rw [hcr.1, hzl]
        have hcr0 : CR Z O ((Array.range (n * k)).map (zv.cells[· % zv.cells.size]!)) ((List.range (n * k)).map fun j => z.getD (j % z.length) .undef) := by
          refine ⟨by simp, fun j h h' => ?_⟩
          have hj : j % k < k := Nat.mod_lt _ h0
          have e1 : ((Array.range (n * k)).map (zv.cells[· % zv.cells.size]!))[j] = zv.cells[j % k]'(by omega) := by
            simp only [Array.getElem_map, Array.getElem_range, hzs]
            exact getElem!_pos zv.cells (j % k) (by omega)
          have e2 : ((List.range (n * k)).map fun j => z.getD (j % z.length) .undef)[j] = z[j % k]'(by omega) := by
            simp only [List.getElem_map, List.getElem_range, hzl]
            rw [List.getD_eq_getElem?_getD, List.getElem?_eq_getElem (by omega)]; rfl
          rw [e1, e2]
          exact hcr.2 (j % k) (by omega) (by omega)
        obtain ⟨xs', e1, e2, e3⟩ := fill_rel I _ parts.toList dl _ _ cs hdl hf hcr0
        have hxs : xs'.size = n * k := by rw [e3]; simp
        have e2 : CR Z O xs' (cs.map fin1) := ⟨by rw [List.length_map]; exact e2.1, fun j h h' => by
          rw [List.getElem_map]
          have := e2.2 j (by rw [List.length_map] at h; exact h) h'
          exact ⟨this.1.fin1, this.2⟩⟩
        have hnb : (cs.map fin1).all nobs = true := by
          rw [List.all_map, List.all_eq_true]
          intro d hd
          have := List.all_eq_true.1 hnb d hd
          show nobs (fin1 d) = true
          unfold fin1
          split
          · rfl
          · rfl
          · exact this
        generalize cs.map fin1 = cs at *
        have hcl : cs.length = n * k := by rw [← e2.1, hxs]
        have hlen : ∀ i (h : i < (chunks k n cs).length), ((chunks k n cs)[i]).length = k := fun i h => by
          rw [chunks_get]
          rw [chunks_len] at h
          have : i * k + k ≤ n * k := by have := Nat.mul_le_mul_right k (show i + 1 ≤ n from h); rwa [Nat.add_mul, Nat.one_mul] at this
          simp; omega
        obtain ⟨Z', O', hZ, I'⟩ := I.fresh o.dst e' k (chunks k n cs) xs' xs' n hlen (by rw [chunks_len]; exact hxs) (fun i h j h' => by
          have hj : j < k := by rw [hlen i h] at h'; exact h'
          have hin : i * k + j < n * k := by
            rw [chunks_len] at h
            have := Nat.mul_le_mul_right k (show i + 1 ≤ n from h)
            rw [Nat.add_mul, Nat.one_mul] at this; omega
          have hr := e2.2 (i * k + j) (by omega) (by omega)
          refine ⟨xs'[i * k + j]'(by omega), Array.getElem?_eq_getElem _, ?_, hr.2⟩
          have he : (chunks k n cs)[i][j] = cs[i * k + j]'(by omega) := by
            have : (chunks k n cs)[i][j] = ((cs.drop (i * k)).take k)[j]'(by rw [← chunks_get k n cs i h]; exact h') := by
              congr 1; exact chunks_get k n cs i h
            rw [this]; simp
          rw [he]; exact hr.1.nobs (List.all_eq_true.1 hnb _ (List.getElem_mem _))) (fun y hy => by
          obtain ⟨j, hj, rfl⟩ := Array.mem_iff_getElem.1 hy
          exact (e2.2 j (by omega) hj).2) (fun _ _ h => h) (by rw [chunks_len]; exact Nat.le_refl _) (by
            have : n ≤ n * k := Nat.le_mul_of_pos_right n h0
            simp only [maxLen]; omega) hxs w (.inl rfl)
        refine wp_value (w' := w.alloc (.cells xs' e')) (x := .slice (some ⟨w.heap.size, 0, none⟩) n n) ?_ ?_
        · unfold execOp
          simp only [ho]
          refine run_value ?_
          unfold Instr.buildSlice
          rw [Sem.run_bind, run_underlying hu w]
          simp only [Result.andThen_ok, Sem.run_bind, run_sizeT hk w, if_neg (show ¬ n * k > 2 ^ 24 by omega)]
          have hzz : (zeroValue e').run P w = .ok zv w := by simp [zeroValue, typeInfo, hi, hzv]
          by_cases hn0 : n * k = 0
          · have hxe : (Array.range (n * k)).map (zv.cells[· % zv.cells.size]!) = #[] := by rw [hn0]; simp
            rw [hxe] at e1
            simp only [if_pos hn0, Sem.run_bind, Sem.run_pure, Result.andThen_ok]
            rw [show ((Array.range (n * k)).map fun x => (#[] : Array Value)[x % (#[] : Array Value).size]!) = #[] by rw [hn0]; simp, Array.toList_map, e1]
            rfl
          · simp only [if_neg hn0, Sem.run_bind, hzz, Sem.run_pure, Result.andThen_ok]
            rw [Array.toList_map, e1]
            rfl
        · simp only [chunks_len] at I'
          exact hK _ Z' O' _ hZ I'
      · cases h
    · cases h
  · cases h

theorem sound_call {c : Call} {f : Operand} (hF : ∀ f ds r, F f ds = some r → Contract P f ds r) (hbody : ∀ f ds r, F f ds = some r → ∃ fn, P.funcs[f]? = some fn ∧ (fn.name == "runtime.NumGoroutine") = false ∧ fn.body.isNone = false) (ho : o.op = .call c) (hc : c.callee = .value f) (h : dop P F tk st.rd st.bx o = some e) (I : Inv Z0 w0 Z O st a w) (hK : After Z0 w0 Z st a o e K) : o.wp P a w K Q := by
  simp only [dop, ho, hc, Option.bind_eq_some_iff, Option.map_eq_some_iff] at h
  obtain ⟨df, hdf, fi, hfi, ds, hds, r, hr, rfl⟩ := h
  have hfe : a.eval f = .func (.func fi) #[] #[] := by
    obtain ⟨pf, hpf, _⟩ := I.rd hdf
    unfold funOf at hfi
    split at hfi
    · rename_i f' x y
      split at hfi
      · rename_i hsz
        simp only [Option.some.injEq] at hfi
        subst hfi
        rw [← Array.size_eq_zero_iff.1 hsz.1]
        rw [show x = y from by rw [Array.size_eq_zero_iff.1 hsz.1, Array.size_eq_zero_iff.1 hsz.2]] at hpf ⊢
        exact hpf.toV rfl
      · cases hfi
    · cases hfi
  have hargs : ∀ (xs : List Operand) (ds : List D), (xs.mapM fun x => (st.rd x).bind fun d => if data (fin d) then some (fin d) else none) = some ds → xs.length = ds.length ∧ ∀ i (h : i < ds.length) (h' : i < (xs.map a.eval).length), Rp Z (xs.map a.eval)[i] ds[i] := by
    intro xs
    induction xs with
    | nil => intro ds h; simp at h; subst h; exact ⟨rfl, fun i h => absurd h (Nat.not_lt_zero _)⟩
    | cons x xs ih =>
      intro ds h
      simp only [List.mapM_cons, Option.bind_eq_bind, Option.bind_eq_some_iff, Option.pure_def, Option.some.injEq] at h
      obtain ⟨d', ⟨d, hd, hd'⟩, ds', h', rfl⟩ := h
      split at hd'
      · rename_i hdt
        simp only [Option.some.injEq] at hd'
        subst hd'
        obtain ⟨p, hp, _⟩ := I.rd hd
        obtain ⟨i1, i2⟩ := ih ds' h'
        refine ⟨by simp [i1], fun i h h' => ?_⟩
        cases i with
        | zero => exact hp.fin.data hdt
        | succ i => exact i2 i (by simpa using h) (by simpa using h')
      · cases hd'
  obtain ⟨hl, hR⟩ := hargs c.args.toList ds hds
  unfold callD at hr
  split at hr
  case isFalse =>
    unfold ext at hr
    simp only [Option.bind_eq_some_iff] at hr
    obtain ⟨fn, hfn, hr⟩ := hr
    split at hr
    case isFalse => cases hr
    rename_i hcond
    obtain ⟨hb, hname, hnx⟩ := hcond
    simp only [Option.bind_eq_some_iff] at hr
    obtain ⟨ex, hex, vs, hvs, v, hv, ho'⟩ := hr
    have hav : (c.args.map a.eval) = vs.toArray := by
      have key : ∀ (xs : List Value) (ds : List D) (vs : List Value), ds.mapM toV = some vs → xs.length = ds.length → (∀ i (h : i < ds.length) (h' : i < xs.length), Rp Z xs[i] ds[i]) → xs = vs := by
        intro xs
        induction xs with
        | nil =>
          intro ds vs h hl _
          have : ds = [] := List.eq_nil_of_length_eq_zero hl.symm
          subst this
          simp at h
          exact h.symm ▸ rfl
        | cons x xs ih =>
          intro ds vs h hl hR
          cases ds with
          | nil => simp at hl
          | cons d ds =>
            simp only [List.mapM_cons, Option.bind_eq_bind, Option.bind_eq_some_iff, Option.pure_def, Option.some.injEq] at h
            obtain ⟨v, hv, vs', hvs', rfl⟩ := h
            have h0 := hR 0 (by simp) (by simp)
            simp only [List.getElem_cons_zero] at h0
            rw [toV_rp hv h0, ih ds vs' hvs' (by simpa using hl) fun i h h' => by
              have := hR (i + 1) (by simp; omega) (by simp; omega)
              simpa using this]
      have := key (c.args.toList.map a.eval) ds vs hvs (by simpa using hl) hR
      rw [← this, ← Array.toList_map, Array.toArray_toList]
    have hnx' : Extern.findNext fn = none := by simpa using hnx
    have hname' : fn.name ≠ "runtime.NumGoroutine" := by simpa using hname
    have hx : (execOp a.eval o).run P w = .ok (.value v) w := by
      unfold execOp
      simp only [ho, resolve, hc, hfe]
      have hrun := pureRun_run _ _ w hv
      rw [← hav] at hrun
      have hb' : fn.body = none := Option.isNone_iff_eq_none.1 hb
      simp [Deferred.ofValue, invoke, callFunc, hfn, hname', hb', hnx', hex, hrun]
    refine wp_value (w' := w) hx (hK.pure I fun i => ?_)
    unfold outD at ho'
    split at ho'
    · rename_i xs
      simp only [Option.some.injEq] at ho'
      subst ho'
      have : xs = xs.toList.toArray := by simp
      rw [this]
      exact RV.ofRp (.tup xs.toList _ (by simp) fun i hi hj => by simp; exact .v _)
    · simp only [Option.some.injEq] at ho'
      subst ho'
      exact RV.ofRp (.v _)
  have hC := hF fi ds r hr Z w (c.args.map a.eval) I.ag I.bs (by simpa using hl) (fun i h h' => by
    have := hR i h (by simpa using h'); simpa using this)
  obtain ⟨fn, hfn, hname, hbn⟩ := hbody fi ds r hr
  have hname' : fn.name ≠ "runtime.NumGoroutine" := by simpa using hname
  have hbn' : ¬ fn.body = none := by intro e; rw [e] at hbn; simp at hbn
  have hx : (execOp a.eval o).run P w = .ok (.enter fi (c.args.map a.eval)) w := by
    unfold execOp
    simp only [ho, resolve, hc, hfe]
    simp [Deferred.ofValue, invoke, callFunc, hfn, hname', hbn']
  unfold Oper.wp
  rw [hx]
  refine Calls.mono hC fun e' w' he => ?_
  obtain ⟨v, Z', rfl, hZ, hZn, hag, hbl, hrr⟩ := he
  have hB : w0.heap.size ≤ w.heap.size := I.bl.size
  let O' : OM := fun g => if w.heap.size ≤ g ∧ g < w'.heap.size then .at (.t (o.dst.getD 0)) else O g
  have hO : ∀ g, O g ≠ .none → O' g = O g := fun g hg => if_neg (by have := (I.ob g hg).2; omega)
  have hZn' : ∀ g o, g < w.heap.size → Z g o = none → Z' g o = none := fun g o hg h => by
    cases hz : Z' g o with
    | none => rfl
    | some x =>
      rcases hZn g o x hz with h2 | h2
      · rw [h] at h2; cases h2
      · omega
  have key : ∀ {p x d}, RV Z O w p x d → RV Z' O' w' p x d := fun h =>
    h.move hZ (fun g b hg => (hO g (by rw [hg]; simp)).trans hg)
      (fun _ _ _ _ g hg => ⟨(hO g (by rw [hg]; simp)).trans hg, hbl.block g (I.ob g (by rw [hg]; simp)).2, fun o ho => hZn' g o (I.ob g (by rw [hg]; simp)).2 ho⟩)
  have I' : Inv Z0 w0 Z' O' st a w' := by
    refine ⟨I.tsz, fun i h h' => key (I.tv i h h'), fun b cs hb => ?_, fun g g' b h h' => ?_, fun g h => ?_, hag, I.bl.trans (hbl.mono hB), I.df, fun b o x hx => (hZn b o x hx).elim (fun q => I.zn b o x q) (fun q => .inr (Nat.le_trans hB q)), I.bs.mono hZ⟩
    · obtain ⟨g, xs2, e2, q1, q2, q3, q4, q5, q6⟩ := I.bv b cs hb
      have hlt := (I.ob g (by rw [q1]; simp)).2
      exact ⟨g, xs2, e2, (hO g (by rw [q1]; simp)).trans q1, (hbl.block g hlt).trans q2, q3, fun j h h' => ⟨key (q4 j h h').1, (q4 j h h').2⟩, fun o => hZn' g o hlt (q5 o), q6⟩
    · have f : ∀ g, O' g = .box b → O g = .box b := fun g h => by
        by_cases e : w.heap.size ≤ g ∧ g < w'.heap.size
        · have : O' g = .at (.t (o.dst.getD 0)) := if_pos e
          rw [this] at h; cases h
        · have : O' g = O g := if_neg e
          rw [← this]; exact h
      exact I.uq g g' b (f g h) (f g' h')
    · by_cases e : w.heap.size ≤ g ∧ g < w'.heap.size
      · omega
      · have : O' g = O g := if_neg e
        rw [this] at h
        have := I.ob g h
        exact ⟨this.1, Nat.lt_of_lt_of_le this.2 hbl.size⟩
  refine hK v Z' O' w' hZ (I'.put o.dst r v fun i hi => ?_)
  have hi' : o.dst.getD 0 = i := by rw [hi]; rfl
  cases r with
  | own e k es =>
    rcases hrr with h | ⟨g, c', cur, h1, h2, h3⟩
    · exact .inl h
    · refine .inr ⟨g, c', cur, h1, ?_, h3⟩
      dsimp only at h2
      split at h2
      · rename_i hg
        show (if _ then _ else _) = _
        rw [if_pos hg, hi']
      · cases h2
  | bp b off =>
    obtain ⟨g, h1, _⟩ := hrr
    dsimp only at h1
    split at h1 <;> cases h1
  | bs b off k n =>
    obtain ⟨g, c, h1, _⟩ := hrr
    dsimp only at h1
    split at h1 <;> cases h1
  | agg cs =>
    obtain ⟨xs, h1, h2, h3⟩ := hrr
    refine ⟨xs, h1, h2, fun i hi hj => ?_⟩
    have hc := h3 i hi hj
    generalize cs[i] = d at hc
    cases d with
    | bs b off k n =>
      obtain ⟨g, c, h1, _⟩ := hc
      dsimp only at h1
      split at h1 <;> cases h1
    | _ => exact hc
  | _ => exact hrr

theorem sameOp_eval {l c : Operand} {ik : IntKind} {n : Int} (h : sameOp l c = true) (hl : a.eval l = .int ik n) : ∃ ik', a.eval c = .int ik' n := by
  cases l with
  | tmp i =>
    cases c with
    | tmp j => simp only [sameOp, beq_iff_eq] at h; subst h; exact ⟨ik, hl⟩
    | _ => simp [sameOp] at h
  | const u =>
    cases c with
    | const v =>
      cases u with
      | int k1 i =>
        cases v with
        | int k2 j =>
          simp only [sameOp, beq_iff_eq] at h
          subst h
          have : (Value.int k1 i) = .int ik n := hl
          simp only [Value.int.injEq] at this
          obtain ⟨rfl, rfl⟩ := this
          exact ⟨k2, rfl⟩
        | _ => simp [sameOp] at h
      | _ => simp [sameOp] at h
    | _ => cases u <;> simp [sameOp] at h
  | _ => cases c <;> simp [sameOp] at h
theorem flat_len {z : List D} : ∀ n, (List.replicate n z).flatten.length = n * z.length
  | 0 => by simp
  | n + 1 => by rw [List.replicate_succ, List.flatten_cons, List.length_append, flat_len n, Nat.add_mul, Nat.one_mul, Nat.add_comm]
theorem flat_get {z : List D} : ∀ n j, j < n * z.length → (List.replicate n z).flatten[j]? = z[j % z.length]?
  | 0, j, h => by simp at h
  | n + 1, j, h => by
    rw [List.replicate_succ, List.flatten_cons]
    by_cases hj : j < z.length
    · rw [List.getElem?_append_left hj, Nat.mod_eq_of_lt hj]
    · have hj := Nat.le_of_not_lt hj
      rw [List.getElem?_append_right hj, flat_get n (j - z.length) (by rw [Nat.add_mul, Nat.one_mul] at h; omega), ← Nat.mod_eq_sub_mod hj]
theorem sound_makeSlice {t : TypeId} {l c : Operand} (ho : o.op = .makeSlice t l c) (h : dop P F tk st.rd st.bx o = some e) (I : Inv Z0 w0 Z O st a w) (hK : After Z0 w0 Z st a o e K) : o.wp P a w K Q := by
  simp only [dop, ho] at h
  split at h
  case isFalse => cases h
  rename_i hsame
  simp only [Option.bind_eq_some_iff] at h
  obtain ⟨dl, hl, n, hi, h⟩ := h
  obtain ⟨q, hq, _⟩ := I.rd hl
  obtain ⟨ik, hle⟩ : ∃ ik, a.eval l = .int ik n := by
    cases dl with
    | v vy =>
      cases vy with
      | int ik j => simp only [idx, Option.some.injEq] at hi; subst hi; exact ⟨ik, hq.toV rfl⟩
      | _ => simp [idx] at hi
    | _ => simp [idx] at hi
  obtain ⟨ik', hce⟩ := sameOp_eval hsame hle
  split at h
  case h_2 => cases h
  rename_i el hu
  simp only [Option.bind_eq_some_iff] at h
  obtain ⟨inf, hinf, z, hz, h⟩ := h
  split at h
  case isFalse => cases h
  rename_i hc
  obtain ⟨h0, hmax, hby, hsz, hzl, h1⟩ := hc
  simp only [Option.some.injEq] at h
  subst h
  obtain ⟨i2, zv, hi2, hzv, hze, hcr⟩ := zero_cr (Z := Z) (O := O) hz h1
  rw [hinf] at hi2
  simp only [Option.some.injEq] at hi2
  subst hi2
  have hzs : zv.cells.size = inf.size := by rw [hcr.1, hzl]
  have hflen : (List.replicate n.toNat z).flatten.length = n.toNat * inf.size := by rw [flat_len, hzl]
  have hmem : ∀ d ∈ (List.replicate n.toNat z).flatten, d ∈ z := by
    intro d hd
    obtain ⟨l, hl1, hl2⟩ := List.mem_flatten.1 hd
    rw [List.eq_of_mem_replicate hl1] at hl2
    exact hl2
  have hall : (List.replicate n.toNat z).flatten.all one = true := List.all_eq_true.2 fun d hd => List.all_eq_true.1 h1 d (hmem d hd)
  have hno : (List.replicate n.toNat z).flatten.any (refc (o.dst.getD 0)) = false := by
    rw [List.any_eq_false]
    intro d hd
    have := hmem d hd
    rw [hze] at this
    obtain ⟨y, _, rfl⟩ := List.mem_map.1 this
    simp [refc]
  have hcells : ∀ j (h : j < (List.replicate n.toNat z).flatten.length) (h' : j < ((Array.range (n.toNat * inf.size)).map (zv.cells[· % zv.cells.size]!)).size), RV Z O w (.b (o.dst.getD 0) j) ((Array.range (n.toNat * inf.size)).map (zv.cells[· % zv.cells.size]!))[j] ((List.replicate n.toNat z).flatten)[j] ∧ ((Array.range (n.toNat * inf.size)).map (zv.cells[· % zv.cells.size]!))[j].oneCell' = true := by
    intro j h h'
    have hj : j < n.toNat * inf.size := by rw [hflen] at h; exact h
    have hm : j % inf.size < inf.size := Nat.mod_lt _ hsz
    have e1 : ((Array.range (n.toNat * inf.size)).map (zv.cells[· % zv.cells.size]!))[j] = zv.cells[j % inf.size]'(by omega) := by
      simp only [Array.getElem_map, Array.getElem_range, hzs]
      exact getElem!_pos zv.cells (j % inf.size) (by omega)
    have e2 : ((List.replicate n.toNat z).flatten)[j] = z[j % inf.size]'(by omega) := by
      have := flat_get (z := z) n.toNat j (by rw [hzl]; exact hj)
      rw [List.getElem?_eq_getElem h, hzl, List.getElem?_eq_getElem (by omega)] at this
      exact Option.some.inj this
    rw [e1, e2]
    have := hcr.2 (j % inf.size) (by omega) (by omega)
    exact ⟨this.1.rv, this.2⟩
  have I' := I.new (o.dst.getD 0) el ((Array.range (n.toNat * inf.size)).map (zv.cells[· % zv.cells.size]!)) (List.replicate n.toNat z).flatten (by rw [hflen]; simp) hcells hall hno
  have hwrap : IntKind.i64.wrap n = n := by
    simp only [maxLen] at hmax
    simp [IntKind.wrap, IntKind.bits, IntKind.signed]
    omega
  refine wp_value (w' := w.alloc (.cells ((Array.range (n.toNat * inf.size)).map (zv.cells[· % zv.cells.size]!)) el)) (x := .slice (some ⟨w.heap.size, 0, none⟩) n.toNat n.toNat) ?_ ?_
  · unfold execOp
    simp only [ho, hle, hce]
    refine run_value ?_
    unfold Instr.makeSlice
    rw [Sem.run_bind, run_underlying hu w]
    have hti : (typeInfo el).run P w = .ok inf w := by simp [typeInfo, hinf]
    have hsi : (sizeOf el).run P w = .ok inf.size w := run_sizeT (by simp [sizeT, hinf]) w
    have hzz : (zeroValue el).run P w = .ok zv w := by simp [zeroValue, typeInfo, hinf, hzv]
    have hb1 : ¬ ((inf.bytes : Int) * n > 2 ^ 48) := by rw [Int.mul_comm]; omega
    have hn0 : ¬ n < 0 := by omega
    simp only [Result.andThen_ok, asInt, asIntOf, Sem.run_bind, Sem.run_pure, hti, hwrap, hn0, hb1, decide_false, Bool.or_self, Bool.false_or, Int.lt_irrefl, Bool.false_eq_true, if_false, gt_iff_lt, run_askRoom, hsi]
    by_cases hn : n.toNat * inf.size = 0
    · have hxe : (Array.range (n.toNat * inf.size)).map (zv.cells[· % zv.cells.size]!) = #[] := by rw [hn]; simp
      rw [if_pos hn, hxe]
      simp only [Sem.run_bind, Sem.run_pure, Result.andThen_ok]
      rw [show ((Array.range (n.toNat * inf.size)).map fun x => (#[] : Array Value)[x % (#[] : Array Value).size]!) = #[] by rw [hn]; simp]
      rfl
    · rw [if_neg hn]
      simp only [Sem.run_bind, hzz, Sem.run_pure, Result.andThen_ok]
      rfl
  · refine hK _ Z (O.nw w.heap.size (o.dst.getD 0)) _ (FZ.le_refl Z) ?_
    have := I'.put o.dst (.bs (o.dst.getD 0) 0 inf.size n.toNat) (.slice (some ⟨w.heap.size, 0, none⟩) n.toNat n.toNat) (fun i hi => ⟨w.heap.size, n.toNat, by unfold OM.nw; rw [if_pos rfl], rfl, Nat.le_refl _⟩)
    exact this

theorem Inv.forget (I : Inv Z0 w0 Z O st a w) (i : Nat) : Inv Z0 w0 Z O { st with t := st.t.set i .undef } a w where
  tsz := by rw [I.tsz]; simp
  tv := fun j h h' => by
    have hj : j < st.t.length := by simpa using h
    show RV _ _ _ _ _ ((st.t.set i .undef)[j])
    rw [List.getElem_set]
    split
    · trivial
    · exact I.tv j hj h'
  bv := I.bv
  uq := I.uq
  ob := I.ob
  ag := I.ag
  bl := I.bl
  df := I.df
  zn := I.zn
  bs := I.bs
theorem put_forget (dst : Option Tmp) (d : D) : ({ st with t := st.t.set (dst.getD 0) .undef } : St).put dst d = match dst with | some _ => st.put dst d | none => { st with t := st.t.set 0 .undef } := by
  cases dst <;> simp [St.put]
/-- the cells of elements that stay, as a list -/
theorem Els.news {g o k : Nat} {es : List (List D)} (h : Els Z g o k es) (hA : Agree Z w) (h0 : 0 < k) : ∃ news : List Value, news.length = es.length * k ∧ (∀ q u, news[q]? = some u → w.cell? ((⟨g, o, none⟩ : Addr).add q) = some u) ∧ (∀ u ∈ news, u.oneCell' = true) ∧
    ∀ i (hi : i < es.length) j (hj : j < (es[i]).length), ∃ y, news[i * k + j]? = some y ∧ Rp Z y (es[i][j]) := by
  have hx : ∀ q, q < es.length * k → ∃ y, Z g (o + q) = some y ∧ ∀ i (hi : i < es.length) j (hj : j < (es[i]).length), i * k + j = q → Rp Z y (es[i][j]) := by
    intro q hq
    have hi : q / k < es.length := Nat.div_lt_of_lt_mul (by rwa [Nat.mul_comm] at hq)
    have hj : q % k < (es[q / k]).length := by rw [h.1 _ hi]; exact Nat.mod_lt _ h0
    obtain ⟨y, h1, h2⟩ := h.2 (q / k) hi (q % k) hj
    have hqq : q / k * k + q % k = q := by rw [Nat.mul_comm]; exact Nat.div_add_mod q k
    refine ⟨y, by rw [Nat.add_assoc, hqq] at h1; exact h1, fun i hi' j hj' he => ?_⟩
    have hjk : j < k := by rw [h.1 _ hi'] at hj'; exact hj'
    have e1 : i = q / k := by rw [← he, Nat.mul_comm i k, Nat.mul_add_div h0, Nat.div_eq_of_lt hjk]; omega
    have e2 : j = q % k := by rw [← he, Nat.mul_comm i k, Nat.mul_add_mod, Nat.mod_eq_of_lt hjk]
    subst e1 e2
    exact h2
  refine ⟨(List.range (es.length * k)).map fun q => (Z g (o + q)).getD undef, by simp, fun q u hu => ?_, fun u hu => ?_, fun i hi j hj => ?_⟩
  · have hq : q < es.length * k := by have := (List.getElem?_eq_some_iff.1 hu).1; simpa using this
    obtain ⟨y, h1, _⟩ := hx q hq
    rw [List.getElem?_map, List.getElem?_range hq] at hu
    simp only [Option.map_some, h1, Option.getD_some, Option.some.injEq] at hu
    subst hu
    rw [addr_add]; exact (hA _ _ _ h1).1
  · simp only [List.mem_map, List.mem_range] at hu
    obtain ⟨q, hq, rfl⟩ := hu
    obtain ⟨y, h1, _⟩ := hx q hq
    rw [h1]; exact (hA _ _ _ h1).2
  · have hjk : j < k := by rw [h.1 _ hi] at hj; exact hj
    have hq : i * k + j < es.length * k := by
      have := Nat.mul_le_mul_right k (show i + 1 ≤ es.length from hi)
      rw [Nat.add_mul, Nat.one_mul] at this; omega
    obtain ⟨y, h1, h2⟩ := hx _ hq
    refine ⟨y, ?_, h2 i hi j hj rfl⟩
    rw [List.getElem?_map, List.getElem?_range hq]
    simp [h1]
/-- (F) an own row grows in its place -/
theorem Inv.room (I : Inv Z0 w0 Z O st a w) (dst : Option Tmp) {g c k : Nat} {e : TypeId} {es es2 : List (List D)} {cur : Array Value} {news : List Value} (hO : O g = .at (.t (dst.getD 0))) (hund : st.at (dst.getD 0) = .undef) (hg : w.heap[g]? = some (.cells cur e (0, 0)))
    (hc : es.length + es2.length ≤ c) (hcm : c ≤ maxLen) (hcs : cur.size = c * k) (hE : Els Z g 0 k es) (hfree : ∀ o, es.length * k ≤ o → Z g o = none) (hl : news.length = es2.length * k) (hk2 : ∀ i (h : i < es2.length), (es2[i]).length = k)
    (h1 : ∀ u ∈ news, u.oneCell' = true) (hn : ∀ i (hi : i < es2.length) j (hj : j < (es2[i]).length), ∃ y, news[i * k + j]? = some y ∧ Rp Z y (es2[i][j])) :
    ∃ Z', Z.le Z' ∧ Inv Z0 w0 Z' O (st.put dst (.own e k (es ++ es2))) (a.put dst (.slice (some ⟨g, 0, none⟩) (es.length + es2.length) c)) (w.setRow g (cur.toList.take (es.length * k) ++ news ++ cur.toList.drop (es.length * k + news.length)).toArray) := by
  have hle : es.length * k + news.length ≤ cur.toList.length := by
    rw [hl, ← Nat.add_mul]; simp only [Array.length_toList, hcs]; exact Nat.mul_le_mul_right _ hc
  have hcl : cur.toList.length = cur.size := by simp
  let rows := cur.toList.take (es.length * k) ++ news
  have hrl : rows.length = (es.length + es2.length) * k := by
    simp only [rows, List.length_append, List.length_take, hl, Nat.add_mul]; omega
  have hob := I.ob g (by rw [hO]; simp)
  have hgrow : w.grownBy (w.setRow g (cur.toList.take (es.length * k) ++ news ++ cur.toList.drop (es.length * k + news.length)).toArray) (some g) := ⟨rfl, rfl, rfl, by simp, fun k _ hk => setRow_other w g k _ (fun e => hk (by rw [e]))⟩
  have hrow : ∀ o x, rows[o]? = some x → (cur.toList.take (es.length * k) ++ news ++ cur.toList.drop (es.length * k + news.length)).toArray[o]? = some x := fun o x hx => by
    rw [List.getElem?_toArray, List.getElem?_append_left (List.getElem?_eq_some_iff.1 hx).1]; exact hx
  have hZ : Z.le (Z.add g rows) := FZ.add_le fun o x hx => by
    have ho : o < es.length * k := by
      rcases Nat.lt_or_ge o (es.length * k) with h | h
      · exact h
      · rw [hfree o h] at hx; cases hx
    have := (I.ag g o x hx).1
    rw [cell_of_row w g o cur e (0, 0) hg] at this
    rw [List.getElem?_append_left (by rw [List.length_take]; omega), List.getElem?_take_of_lt ho]
    simpa using this
  have hne : ∀ {g'}, (∃ p, O g' = .at p ∧ p ≠ .t (dst.getD 0)) → g' ≠ g := fun ⟨p, h1, h2⟩ e => by subst e; rw [hO] at h1; injection h1 with h1; exact h2 h1.symm
  have hZn : ∀ g' o, g' ≠ g → Z g' o = none → Z.add g rows g' o = none := fun g' o h h0 => by unfold FZ.add; rw [if_neg h]; exact h0
  have key : ∀ {p x d}, p ≠ .t (dst.getD 0) → RV Z O w p x d → RV (Z.add g rows) O (w.setRow g (cur.toList.take (es.length * k) ++ news ++ cur.toList.drop (es.length * k + news.length)).toArray) p x d := fun hp h =>
    h.move hZ (fun _ _ h => h) (fun e k es he g' hg' => ⟨hg', setRow_other w g g' _ (hne ⟨_, hg', hp⟩), fun o ho => hZn g' o (hne ⟨_, hg', hp⟩) ho⟩)
  refine ⟨Z.add g rows, hZ, ?_⟩
  have I' : Inv Z0 w0 (Z.add g rows) O st a (w.setRow g (cur.toList.take (es.length * k) ++ news ++ cur.toList.drop (es.length * k + news.length)).toArray) := by
    refine ⟨I.tsz, fun i h h' => ?_, fun b cs hb => ?_, I.uq, fun g' h => ?_, fun b o x hx => ?_, ?_, I.df, fun b o x hx => (FZ.add_inv hx).elim (fun q => .inr (by rw [q.1]; exact hob.1)) (fun q => I.zn b o x q), I.bs.mono hZ⟩
    · by_cases hi : i = dst.getD 0
      · subst hi
        have : st.t[dst.getD 0] = .undef := by
          rw [← hund, St.at, List.getD_eq_getElem?_getD, List.getElem?_eq_getElem h]; rfl
        rw [this]; trivial
      · exact key (fun e => hi (by injection e)) (I.tv i h h')
    · obtain ⟨g2, xs2, e2, q1, q2, q3, q4, q5, q6⟩ := I.bv b cs hb
      have hg2 : g2 ≠ g := fun e => by subst e; rw [hO] at q1; cases q1
      exact ⟨g2, xs2, e2, q1, (setRow_other w g g2 _ hg2).trans q2, q3, fun j h h' => ⟨key (by simp) (q4 j h h').1, (q4 j h h').2⟩, fun o => hZn g2 o hg2 (q5 o), q6⟩
    · have := I.ob g' h
      exact ⟨this.1, by simpa using this.2⟩
    · rcases FZ.add_inv hx with ⟨rfl, h2⟩ | h2
      · refine ⟨by rw [cell_of_row _ _ o _ e (0, 0) (setRow_heap w b cur _ e _ hg)]; exact hrow o x h2, ?_⟩
        have hm := List.mem_of_getElem? h2
        simp only [rows, List.mem_append] at hm
        rcases hm with hm | hm
        · obtain ⟨q, hq, rfl⟩ := List.mem_iff_getElem.1 hm
          have hq1 : q < es.length * k := by simp at hq; omega
          have hq2 : q < cur.size := by simp at hq; omega
          have hi : q / k < es.length := Nat.div_lt_of_lt_mul (by rwa [Nat.mul_comm] at hq1)
          have hk0 : 0 < k := by rcases Nat.eq_zero_or_pos k with h | h; (subst h; simp at hq1); exact h
          have hj : q % k < (es[q / k]).length := by rw [hE.1 _ hi]; exact Nat.mod_lt _ hk0
          obtain ⟨y, h3, _⟩ := hE.2 (q / k) hi (q % k) hj
          rw [Nat.zero_add, show q / k * k + q % k = q by rw [Nat.mul_comm]; exact Nat.div_add_mod q k] at h3
          have h4 := I.ag b q y h3
          rw [cell_of_row w b q cur e (0, 0) hg, Array.getElem?_eq_getElem hq2] at h4
          simp only [Option.some.injEq] at h4
          simp only [List.getElem_take, Array.getElem_toList]
          rw [h4.1]; exact h4.2
        · exact h1 x hm
      · have hc' := I.ag b o x h2
        by_cases hb : b = g
        · subst hb
          have := hZ _ _ _ h2
          have h3 : rows[o]? = some x := by
            have ho : o < es.length * k := by
              rcases Nat.lt_or_ge o (es.length * k) with h | h
              · exact h
              · rw [hfree o h] at h2; cases h2
            have := hc'.1
            rw [cell_of_row w b o cur e (0, 0) hg] at this
            rw [List.getElem?_append_left (by rw [List.length_take]; omega), List.getElem?_take_of_lt ho]
            simpa using this
          exact ⟨by rw [cell_of_row _ _ o _ e (0, 0) (setRow_heap w b cur _ e _ hg)]; exact hrow o x h3, hc'.2⟩
        · exact ⟨(World.cell?_of_block (setRow_other w g b _ hb)).trans hc'.1, hc'.2⟩
    · exact I.bl.grown hgrow I.bl.size (fun k hk => by simp only [Option.some.injEq] at hk; subst hk; exact hob.1)
  refine I'.put dst _ _ fun i hi => .inr ⟨g, c, _, by simp, by rw [hO, hi]; rfl, setRow_heap w g cur _ e _ hg, by simpa using hc, hcm, ?_, ⟨fun i hi => ?_, fun i hi j hj => ?_⟩, fun o ho => ?_⟩
  · rw [List.size_toArray, at3_len hle rfl]; simpa using hcs
  · rw [List.getElem_append]
    split
    · exact hE.1 _ _
    · exact hk2 _ _
  · have hgen : ∀ c, (es ++ es2)[i]? = some c → ∀ j (hj : j < c.length), ∃ y, Z.add g rows g (0 + i * k + j) = some y ∧ Rp (Z.add g rows) y c[j] := by
      intro c hc' j hj
      rcases Nat.lt_or_ge i es.length with hi1 | hi1
      · rw [List.getElem?_append_left hi1, List.getElem?_eq_getElem hi1] at hc'
        simp only [Option.some.injEq] at hc'
        subst hc'
        obtain ⟨y, q1, q2⟩ := hE.2 i hi1 j hj
        exact ⟨y, hZ _ _ _ q1, q2.mono hZ⟩
      · rw [List.getElem?_append_right hi1] at hc'
        obtain ⟨hi2, rfl⟩ := List.getElem?_eq_some_iff.1 hc'
        obtain ⟨y, q1, q2⟩ := hn (i - es.length) hi2 j hj
        refine ⟨y, FZ.add_at ?_, q2.mono hZ⟩
        have hm : i * k = es.length * k + (i - es.length) * k := by rw [← Nat.add_mul]; congr 1; omega
        rw [List.getElem?_append_right (by rw [List.length_take]; omega), ← q1]
        congr 1
        rw [List.length_take]; omega
    exact hgen _ (List.getElem?_eq_getElem hi) j hj
  · rw [List.length_append] at ho
    unfold FZ.add
    rw [if_pos rfl, List.getElem?_eq_none (by omega)]
    exact hfree o (by rw [Nat.add_mul] at ho; omega)

theorem mul_lt {k i n j : Nat} (hi : i < n) (hj : j < k) : i * k + j < n * k := by
  have := Nat.mul_le_mul_right k (show i + 1 ≤ n from hi)
  rw [Nat.add_mul, Nat.one_mul] at this; omega
theorem Els.olds {g k : Nat} {e : TypeId} {es : List (List D)} {cur : Array Value} (h : Els Z g 0 k es) (hA : Agree Z w) (hg : w.heap[g]? = some (.cells cur e (0, 0))) :
    ∀ i (hi : i < es.length) j (hj : j < (es[i]).length), ∃ y, (cur.toList.take (es.length * k))[i * k + j]? = some y ∧ Rp Z y (es[i][j]) ∧ y.oneCell' = true := by
  intro i hi j hj
  obtain ⟨y, h1, h2⟩ := h.2 i hi j hj
  have hjk : j < k := by rw [h.1 _ hi] at hj; exact hj
  have h3 := hA _ _ _ h1
  rw [cell_of_row w g _ cur e (0, 0) hg, Nat.zero_add] at h3
  refine ⟨y, ?_, h2, h3.2⟩
  rw [List.getElem?_take_of_lt (mul_lt hi hjk), Array.getElem?_toList]
  exact h3.1
theorem app_hx {k : Nat} {es es2 : List (List D)} {A B : List Value} (hA : A.length = es.length * k) (h1 : ∀ i (hi : i < es.length) j (hj : j < (es[i]).length), ∃ y, A[i * k + j]? = some y ∧ Rp Z y (es[i][j]) ∧ y.oneCell' = true) (hk : ∀ i (hi : i < es.length), (es[i]).length = k)
    (h2 : ∀ i (hi : i < es2.length) j (hj : j < (es2[i]).length), ∃ y, B[i * k + j]? = some y ∧ Rp Z y (es2[i][j])) (hB : ∀ u ∈ B, u.oneCell' = true) :
    ∀ i (hi : i < (es ++ es2).length) j (hj : j < ((es ++ es2)[i]).length), ∃ y, (A ++ B).toArray[i * k + j]? = some y ∧ Rp Z y ((es ++ es2)[i][j]) ∧ y.oneCell' = true := by
  intro i hi
  have hgen : ∀ c, (es ++ es2)[i]? = some c → ∀ j (hj : j < c.length), ∃ y, (A ++ B).toArray[i * k + j]? = some y ∧ Rp Z y c[j] ∧ y.oneCell' = true := by
    intro c hc j hj
    rw [List.getElem?_toArray]
    rcases Nat.lt_or_ge i es.length with hi1 | hi1
    · rw [List.getElem?_append_left hi1, List.getElem?_eq_getElem hi1] at hc
      simp only [Option.some.injEq] at hc
      subst hc
      obtain ⟨y, q1, q2, q3⟩ := h1 i hi1 j hj
      have hjk : j < k := by rw [hk _ hi1] at hj; exact hj
      exact ⟨y, by rw [List.getElem?_append_left (by rw [hA]; exact mul_lt hi1 hjk)]; exact q1, q2, q3⟩
    · rw [List.getElem?_append_right hi1] at hc
      obtain ⟨hi2, rfl⟩ := List.getElem?_eq_some_iff.1 hc
      obtain ⟨y, q1, q2⟩ := h2 (i - es.length) hi2 j hj
      have hm : i * k = es.length * k + (i - es.length) * k := by rw [← Nat.add_mul]; congr 1; omega
      refine ⟨y, ?_, q2, hB y (List.mem_of_getElem? q1)⟩
      rw [List.getElem?_append_right (by omega), ← q1]
      congr 1; omega
  exact hgen _ (List.getElem?_eq_getElem hi)
theorem run_append_zero {t ty : TypeId} {e : TypeId} {k : Nat} (ht : P.underlying t = some (.slice e)) (hk : sizeT P e = some k) (s s2 : Option Addr) (n c c2 : Nat) (hc : n ≤ c) :
    (Builtin.append_ #[t, t] ty #[.slice s n c, .slice s2 0 c2]).run P w = .ok (.slice s n c) w := by
  have h1 : (Builtin.firstCells k 0 (.slice s2 0 c2)).run P w = .ok #[] w := by
    cases s2 <;> simp [Builtin.firstCells, loadCells, loadCellsFrom]
  cases s <;> simp [Builtin.append_, run_underlying ht, run_sizeT hk, Builtin.lenOf, hc, h1, storeCells]
theorem sound_append {c : Call} (ho : o.op = .call c) (hc : c.callee = .builtin .append) (h : dop P F tk st.rd st.bx o = some e) (I : Inv Z0 w0 Z O st a w) (hK : After Z0 w0 Z st a o e K) : o.wp P a w K Q := by
  simp only [dop, ho, hc] at h
  split at h
  · rename_i x y t t' hxs hts
    split at h
    · rename_i htt
      subst htt
      have hargs : c.args = #[x, y] := by rw [← Array.toArray_toList (xs := c.args), hxs]
      have htys : c.argTypes = #[t, t] := by rw [← Array.toArray_toList (xs := c.argTypes), hts]
      simp only [Option.bind_eq_some_iff] at h
      obtain ⟨dx, hx, dy, hy, h⟩ := h
      obtain ⟨p, hp, hpt⟩ := I.rd hx
      obtain ⟨q, hq, _⟩ := I.rd hy
      split at h
      · rename_i e0 k es e1 hnorm hu
        simp only [Option.bind_eq_some_iff] at h
        obtain ⟨es2, hes, i, hi, h⟩ := h
        split at h
        · rename_i hcond
          obtain ⟨rfl, hkk, hsz, hk0, hz, hbytes, hlen, hdst⟩ := hcond
          simp only [Option.some.injEq] at h
          subst h
          obtain ⟨di, hdi⟩ := Option.isSome_iff_exists.1 hdst
          simp only [Option.map_eq_some_iff] at hz
          obtain ⟨z, hz, hzs⟩ := hz
          obtain ⟨s2, m, c2, hye, hm, hmc, hs2⟩ := esOf_els hq hes
          -- the state behind the right's going over
          have hpn := hp.norm (P := P) (t := t)
          rw [hnorm] at hpn
          obtain ⟨O1, I1, hO1⟩ : ∃ O1 : OM, Inv Z0 w0 Z O1 { st with t := (((goneOf x dx).foldl stripAt st.t).set di .undef) } a w ∧ RV Z O1 w (.t di) (a.eval x) (.own e0 k es) := by
            cases dx with
            | own e2 k2 es2' =>
              cases x with
              | tmp s =>
                have hps := hpt s rfl
                subst hps
                exact ⟨O.mv (.t s) (.t di), (I.out s (.t di)).forget di, hpn.mvs⟩
              | const v => simp [St.rd] at hx
              | global g => simp only [St.rd, Option.some.injEq, gD] at hx; split at hx <;> cases hx
              | func f => simp [St.rd] at hx
            | v vx =>
              refine ⟨O, I.forget di, ?_⟩
              rcases hpn with hh | ⟨g, c', cur, h1, h2, _⟩
              · exact .inl hh
              · exfalso
                have hv : a.eval x = vx := hp.toV rfl
                unfold norm at hnorm
                split at hnorm
                · rename_i heq
                  injection heq with heq
                  rw [hv, heq] at h1; cases h1
                · cases hnorm
            | _ => simp [norm] at hnorm
          have fin : ∀ {x' : Value} {Z' : FZ} {O' : OM} {w' : World}, (Builtin.append_ #[t, t] o.type #[a.eval x, a.eval y]).run P w = .ok x' w' → Z.le Z' →
              Inv Z0 w0 Z' O' (St.put { st with t := (((goneOf x dx).foldl stripAt st.t).set di .undef) } (some di) (.own e0 k (es ++ es2))) (a.put (some di) x') w' → o.wp P a w K Q := by
            intro x' Z' O' w' hr hZ hI
            refine wp_value (w' := w') (x := x') ?_ (hK x' Z' O' w' hZ ?_)
            · rw [exec_builtin ho hc, hargs, htys]
              simp only [List.map_toArray, List.map_cons, List.map_nil]
              exact run_value hr
            · rw [hdi]
              simpa [Eff.on, St.put] using hI
          rcases Nat.eq_zero_or_pos m with h0 | h0
          · subst h0
            have he2 : es2 = [] := List.eq_nil_of_length_eq_zero hm.symm
            subst he2
            have hkT : sizeT P e0 = some k := by simp [sizeT, hi, hsz]
            obtain ⟨s, n, cc, hxe, hnc⟩ : ∃ s n cc, a.eval x = .slice s n cc ∧ n ≤ cc := by
              rcases hO1 with ⟨_, hv⟩ | ⟨g, c', cur, hv, _, _, hv2, _⟩
              · exact ⟨_, _, _, hv, Nat.le_refl _⟩
              · exact ⟨_, _, _, hv, hv2⟩
            refine fin (x' := a.eval x) (Z' := Z) (O' := O1) (w' := w) ?_ (FZ.le_refl Z) (I1.put (some di) _ _ fun i hi => ?_)
            · rw [hxe, hye]; exact run_append_zero hu hkT _ _ _ _ _ hnc
            · simp only [Option.some.injEq] at hi; subst hi
              rw [List.append_nil]; exact hO1
          · have h0l : 0 < es2.length := by omega
            obtain ⟨g2, o2, rfl, hE2⟩ := hs2 k 0 es2[0] (List.getElem?_eq_getElem h0l) (by simpa using List.all_eq_true.1 hkk _ (List.getElem_mem h0l))
            obtain ⟨news, hnl, hnc, hn1, hnr⟩ := hE2.news I.ag hk0
            have hnl' : news.length = m * i.size := by rw [hnl, hsz, hm]
            have hm63 : (m : Int) ≤ 9223372036854775807 := by simp only [maxLen] at hlen; omega
            rcases hO1 with ⟨he, hv⟩ | ⟨g, c', cur, hv, hOg, hg, hcl, hcm, hcs, hE, hfree⟩
            · subst he
              have hb : m * i.bytes ≤ 281474976710656 := by simp only [List.length_nil, Nat.zero_add, ← hm] at hbytes; omega
              have hr := run_append_nil (P := P) w t o.type e0 i z hu hi hz ⟨g2, o2, none⟩ m c2 news hnl' hnc h0 hm63 hb
              have hge := grownCap_ge w m 0 e0
              have hle := grownCap_le_maxLen w m 0 e0 (by simp only [List.length_nil, Nat.zero_add] at hlen; omega)
              obtain ⟨Z', O', hZ, I2⟩ := I1.fresh (some di) e0 k es2 news.toArray (news.toArray ++ Builtin.zeroCells z.cells (grownCap w m 0 e0 - m)) (grownCap w m 0 e0) (fun i hi => hE2.1 i hi) (by simpa using hnl)
                (fun i hi j hj => by
                  obtain ⟨y, q1, q2⟩ := hnr i hi j hj
                  exact ⟨y, by simpa using q1, q2, hn1 y (List.mem_of_getElem? q1)⟩) (fun y hy => hn1 y (by simpa using hy)) (fun i x hx => by
                  rw [Array.getElem?_append_left (Array.getElem?_eq_some_iff.1 hx).1]; exact hx) (by omega) hle (by
                  simp only [Array.size_append, List.size_toArray, size_zeroCells, hzs, hnl, ← hm, ← Nat.add_mul]; congr 1; omega) w.drew (.inr rfl)
              refine fin (x' := .slice (some ⟨w.heap.size, 0, none⟩) m (grownCap w m 0 e0)) (Z' := Z') (O' := O') (w' := w.drew.alloc (.cells (news.toArray ++ Builtin.zeroCells z.cells (grownCap w m 0 e0 - m)) e0)) ?_ hZ ?_
              · rw [hv, hye]; exact hr
              · rw [List.nil_append]; rw [← hm] at I2; exact I2
            · by_cases hroom : es.length + m ≤ c'
              · have hr := run_append_room (P := P) w t o.type e0 i hu hi g es.length c' cur hg ⟨g2, o2, none⟩ m c2 news hnl' hnc hn1 hroom (by rw [hnl', hcs, ← Nat.add_mul, hsz]; exact Nat.mul_le_mul_right _ hroom)
                obtain ⟨Z', hZ, I2⟩ := I1.room (some di) (g := g) (c := c') (k := k) (e := e0) (es := es) (es2 := es2) (cur := cur) (news := news) hOg (by
                  simp only [St.at, Option.getD_some, List.getD_eq_getElem?_getD, List.getElem?_set]
                  split
                  · split <;> rfl
                  · rename_i h; exact absurd trivial h) hg (by omega) hcm hcs hE hfree hnl hE2.1 hn1 hnr
                refine fin ?_ hZ I2
                rw [hv, hye, ← hm]
                rw [hsz] at hr
                exact hr
              · have holds : ∀ j v, (cur.toList.take (es.length * k))[j]? = some v → w.cell? ((⟨g, 0, none⟩ : Addr).add j) = some v := fun j v hj => by
                  have hjl : j < es.length * k := by have := (List.getElem?_eq_some_iff.1 hj).1; simp at this; omega
                  rw [addr_add, Nat.zero_add, cell_of_row w g j cur e0 (0, 0) hg]
                  rw [List.getElem?_take_of_lt hjl] at hj
                  simpa using hj
                have hol : (cur.toList.take (es.length * k)).length = es.length * i.size := by
                  rw [List.length_take, hsz]
                  have : es.length * k ≤ c' * k := Nat.mul_le_mul_right _ hcl
                  simp only [Array.length_toList, hcs]; omega
                have hr := run_append_grow (P := P) w t o.type e0 i z hu hi hz ⟨g, 0, none⟩ es.length c' (cur.toList.take (es.length * k)) hol holds ⟨g2, o2, none⟩ m c2 news hnl' hnc (by omega) (by simp only [maxLen] at hlen; omega) (growslice_fits (by omega) (by rw [hm]; exact hbytes))
                have hge := grownCap_ge w (es.length + m) c' e0
                have hle := grownCap_le_maxLen w (es.length + m) c' e0 (by omega)
                obtain ⟨Z', O', hZ, I2⟩ := I1.fresh (some di) e0 k (es ++ es2) (cur.toList.take (es.length * k) ++ news).toArray ((cur.toList.take (es.length * k)).toArray ++ news.toArray ++ Builtin.zeroCells z.cells (grownCap w (es.length + m) c' e0 - (es.length + m))) (grownCap w (es.length + m) c' e0)
                  (fun i hi => by
                    rw [List.getElem_append]
                    split
                    · exact hE.1 _ _
                    · exact hE2.1 _ _) (by simp only [List.size_toArray, List.length_append, hol, hnl, hsz, Nat.add_mul])
                  (app_hx (by rw [hol, hsz]) (hE.olds I.ag hg) hE.1 hnr hn1) (fun y hy => by
                    have hy' : y ∈ cur.toList.take (es.length * k) ++ news := by simpa using hy
                    rcases List.mem_append.1 hy' with hy' | hy'
                    · obtain ⟨q, hq, rfl⟩ := List.mem_iff_getElem.1 hy'
                      have hq1 : q < es.length * k := by rw [hol, hsz] at hq; exact hq
                      have hi' : q / k < es.length := Nat.div_lt_of_lt_mul (by rwa [Nat.mul_comm] at hq1)
                      have hj' : q % k < (es[q / k]).length := by rw [hE.1 _ hi']; exact Nat.mod_lt _ hk0
                      obtain ⟨y, q1, _, q3⟩ := hE.olds I.ag hg (q / k) hi' (q % k) hj'
                      rw [show q / k * k + q % k = q by rw [Nat.mul_comm]; exact Nat.div_add_mod q k, List.getElem?_eq_getElem hq] at q1
                      simp only [Option.some.injEq] at q1
                      rw [q1]; exact q3
                    · exact hn1 y hy') (fun i x hx => by
                    have hx' : (cur.toList.take (es.length * k) ++ news)[i]? = some x := by simpa using hx
                    have hlt := (List.getElem?_eq_some_iff.1 hx').1
                    rw [Array.getElem?_append_left (by simp only [Array.size_append, List.size_toArray]; rw [List.length_append] at hlt; exact hlt)]
                    simpa using hx') (by rw [List.length_append]; omega) hle (by
                    simp only [Array.size_append, List.size_toArray, size_zeroCells, hzs, hol, hnl, hsz, ← hm, ← Nat.add_mul]; congr 1; omega) w.drew (.inr rfl)
                refine fin (x' := .slice (some ⟨w.heap.size, 0, none⟩) (es.length + m) (grownCap w (es.length + m) c' e0)) (Z' := Z') (O' := O') (w' := w.drew.alloc (.cells ((cur.toList.take (es.length * k)).toArray ++ news.toArray ++ Builtin.zeroCells z.cells (grownCap w (es.length + m) c' e0 - (es.length + m))) e0)) ?_ hZ ?_
                · rw [hv, hye]; exact hr
                · rw [List.length_append, ← hm] at I2; exact I2
        · cases h
      · cases h
    · cases h
  · cases h

/-- what is told of functions holds, and they are called as Go functions are -/
def SoundF (P : Program) (F : FuncId → List D → Option D) : Prop :=
  (∀ f ds r, F f ds = some r → Contract P f ds r) ∧ ∀ f ds r, F f ds = some r → ∃ fn, P.funcs[f]? = some fn ∧ (fn.name == "runtime.NumGoroutine") = false ∧ fn.body.isNone = false
theorem dop_sound (hF : SoundF P F) (h : dop P F tk st.rd st.bx o = some e) (I : Inv Z0 w0 Z O st a w) (hK : After Z0 w0 Z st a o e K) : o.wp P a w K Q := by
  cases ho : o.op with
  | move x => exact sound_move ho h I hK
  | assign x => exact sound_assign ho h I hK
  | pick c x y => exact sound_pick ho h I hK
  | alloc t => exact sound_alloc ho h I hK
  | box t x => exact sound_box ho h I hK
  | build t ps => exact sound_build ho h I hK
  | buildSlice t n ps => exact sound_buildSlice ho h I hK
  | load t x => exact sound_load ho h I hK
  | store t x y => exact sound_store ho h I hK
  | nilCheck x => exact sound_nilCheck ho h I hK
  | binOp op t x y yt => exact sound_binOp ho h I hK
  | unOp op t x => exact sound_unOp ho h I hK
  | convert s t x => exact sound_convert ho h I hK
  | fieldAddr s x f => exact sound_fieldAddr ho h I hK
  | field s x f => exact sound_field ho h I hK
  | indexAddr t x y => exact sound_indexAddr ho h I hK
  | makeSlice t x y => exact sound_makeSlice ho h I hK
  | index t x y => exact sound_index ho h I hK
  | slice t x l h' m => exact sound_slice ho h I hK
  | extract x i => exact sound_extract ho h I hK
  | call c =>
    cases hc : c.callee with
    | builtin b =>
      cases b with
      | len => exact sound_len ho hc h I hK
      | append => exact sound_append ho hc h I hK
      | min => exact sound_min ho hc h I hK
      | max => exact sound_max ho hc h I hK
      | _ => simp [dop, ho, hc] at h
    | value f => exact sound_call hF.1 hF.2 ho hc h I hK
    | invoke r m => simp [dop, ho, hc] at h
  | _ => simp [dop, ho] at h

theorem Inv.at_v (I : Inv Z0 w0 Z O st a w) {i : Nat} {x : Value} (h : st.at i = .v x) : a.tmps[i]? = some x := by
  have hlt : i < st.t.length := by
    rcases Nat.lt_or_ge i st.t.length with hl | hl
    · exact hl
    · rw [St.at, List.getD_eq_getElem?_getD, List.getElem?_eq_none hl] at h; cases h
  have h2 : st.t[i] = .v x := by rw [← h, St.at, List.getD_eq_getElem?_getD, List.getElem?_eq_getElem hlt]; rfl
  have := I.tv i hlt (by rw [I.tsz]; exact hlt)
  rw [h2] at this
  have hx : a.tmps[i]'(by rw [I.tsz]; exact hlt) = x := RV.toV this rfl
  rw [Array.getElem?_eq_getElem (by rw [I.tsz]; exact hlt), hx]
theorem dwant_sound {ops : Array Oper} {q : Bool} (h : dwant ops o st.at = some q) (I : Inv Z0 w0 Z O st a w) : Region.wanted o (yielded ops a.tmps) = q := by
  unfold dwant at h
  unfold Region.wanted
  cases hg : o.guard with
  | none => rw [hg] at h; simpa using h
  | some p =>
    obtain ⟨j, want⟩ := p
    rw [hg] at h
    simp only at h ⊢
    unfold yielded
    cases hj : (ops[j]?).bind (·.dst) with
    | none =>
      rw [hj] at h
      simp only [Option.some.injEq] at h
      subst h
      simp
    | some i =>
      rw [hj] at h
      simp only at h
      simp only [Option.bind_some]
      split at h
      · rename_i b hb
        rw [I.at_v hb]
        simp only [Option.some.injEq] at h
        subst h
        cases b <;> cases want <;> rfl
      · rename_i x hne hx
        rw [I.at_v hx]
        simp only [Option.some.injEq] at h
        subst h
        cases x <;> first | rfl | exact (hne _ rfl).elim
      · cases h
theorem deff_sound {ops : Array Oper} {i : Nat} (hF : SoundF P F) (hi : ops[i]? = some o) (h : deff P F ops st o = some e) (I : Inv Z0 w0 Z O st a w) (hK : After Z0 w0 Z st a o e K) : wpOp P ops Q i K a w := by
  simp only [deff, Option.bind_eq_some_iff] at h
  obtain ⟨q, hq, h⟩ := h
  unfold wpOp
  simp only [hi, dwant_sound hq I]
  cases q with
  | true =>
    simp only [if_true] at h ⊢
    exact .inl (dop_sound hF h I hK)
  | false =>
    simp only [Bool.false_eq_true, if_false, Option.some.injEq] at h ⊢
    subst h
    exact hK.pure I fun i => .v undef
theorem dlist_sound {ops : Array Oper} (hF : SoundF P F) : ∀ (l : List Oper) (k : Nat) (Z : FZ) (O : OM) (st : St) (a : Act) (w : World) (st' : St), (∀ j, l[j]? = ops[k + j]?) → dlist P F ops l st = some st' → Inv Z0 w0 Z O st a w →
    (∀ Z' O' a' w', Z.le Z' → Inv Z0 w0 Z' O' st' a' w' → Q .normal a' w') → wpOps P ops Q (List.range' k l.length) a w
  | [], k, Z, O, st, a, w, st', hl, h, I, hQ => by
    simp only [dlist, Option.some.injEq] at h
    subst h
    exact hQ Z O a w (FZ.le_refl Z) I
  | o :: l, k, Z, O, st, a, w, st', hl, h, I, hQ => by
    simp only [dlist, Option.bind_eq_some_iff] at h
    obtain ⟨e, he, h⟩ := h
    rw [List.length_cons, List.range'_succ, wpOps_cons]
    have hk : ops[k]? = some o := by have := hl 0; simpa using this.symm
    refine deff_sound hF hk he I fun x Z' O' w' hZ I' => ?_
    refine dlist_sound hF l (k + 1) Z' O' _ _ w' st' (fun j => ?_) h I' fun Z2 O2 a2 w2 hZ2 I2 => hQ Z2 O2 a2 w2 (FZ.le_trans hZ hZ2) I2
    have := hl (j + 1)
    rw [List.getElem?_cons_succ] at this
    rw [this]; congr 1; omega

/-- what a text's end is, told -/
def Post (Z0 : FZ) (w0 : World) (Z : FZ) (r : Ex × St) (Q : Exit → Act → World → Prop) : Prop :=
  ∀ Z' O' a' w', Z.le Z' → Inv Z0 w0 Z' O' r.2 a' w' → Q (match r.1 with | .norm => .normal | .exit id => .exit id | .ret => .ret) a' w'
theorem Post.mono {Z' : FZ} {r : Ex × St} (hZ : Z.le Z') (h : Post Z0 w0 Z r Q) : Post Z0 w0 Z' r Q := fun Z2 O2 a2 w2 hZ2 I2 => h Z2 O2 a2 w2 (FZ.le_trans hZ hZ2) I2
theorem clear_inv (I : Inv Z0 w0 Z O st a w) (cl : List Tmp) : Inv Z0 w0 Z O (clear cl st) a w := by
  have : ∀ (cl : List Tmp) (t : List D), Inv Z0 w0 Z O { st with t := t } a w → Inv Z0 w0 Z O { st with t := cl.foldl (fun t i => t.set i .undef) t } a w := by
    intro cl
    induction cl with
    | nil => exact fun _ h => h
    | cons i cl ih => exact fun t h => ih _ (h.forget i)
  exact this cl st.t I
theorem least {p : Nat → Prop} (h : ∃ n, p n) : ∃ n, p n ∧ ∀ m, p m → n ≤ m := by
  obtain ⟨n, hn⟩ := h
  induction n using Nat.strongRecOn with
  | _ n ih =>
    by_cases hm : ∃ m, m < n ∧ p m
    · obtain ⟨m, hlt, hm⟩ := hm; exact ih m hlt hm
    · exact ⟨n, hn, fun m h => Nat.le_of_not_lt fun hlt => hm ⟨m, hlt, h⟩⟩
open Classical in
/-- a loop whose rounds are counted by what tells it -/
theorem wp_loop_told {c : Code} (T : Nat → Act → World → Prop) (h0 : ∀ a w, ¬ T 0 a w) (hs : ∀ n a w, T (n + 1) a w → c.wp P (Exit.then (T n) Q) a w) {n : Nat} (h : T n a w) : (Code.loop c).wp P Q a w := by
  refine wp_loop (fun a w => ∃ n, T n a w) (fun a w => if h : ∃ n, T n a w then (least h).choose else 0) ⟨n, h⟩ fun a w hI => ?_
  have hm := (least hI).choose_spec.1
  cases hn : (least hI).choose with
  | zero => rw [hn] at hm; exact absurd hm (h0 a w)
  | succ m =>
    rw [hn] at hm
    refine wp_mono (hs m a w hm) fun e a' w' he => ?_
    cases e with
    | normal =>
      have hI' : ∃ n, T n a' w' := ⟨m, he⟩
      refine ⟨hI', ?_⟩
      rw [dif_pos hI', dif_pos hI, hn]
      exact Nat.lt_succ_of_le ((least hI').choose_spec.2 m he)
    | _ => exact he
theorem freeze_inv (I : Inv Z0 w0 Z O st a w) {b : Nat} {st' : St} (h : freeze b st = some st') : ∃ Z' O', Z.le Z' ∧ Inv Z0 w0 Z' O' st' a w := by
  simp only [freeze, Option.bind_eq_some_iff] at h
  obtain ⟨cs, hb, h⟩ := h
  split at h
  case isFalse => cases h
  rename_i hall
  simp only [Option.some.injEq] at h
  subst h
  obtain ⟨g, xs, e, hO, hg, hsz, hcs, hZ0, hone⟩ := I.bv b cs hb
  have hgb := I.ob g (by rw [hO]; simp)
  let Z' := Z.add g xs.toList
  let O' : OM := fun g' => if g' = g then .none else O g'
  have hZ : Z.le Z' := FZ.add_le fun o x hx => by rw [hZ0] at hx; cases hx
  have hOx : ∀ {g' b'}, b' ≠ b → O g' = .box b' → O' g' = .box b' := fun {g' b'} hne h => by
    have : g' ≠ g := fun e => by subst e; rw [hO] at h; injection h with h; exact hne h.symm
    show (if _ then _ else _) = _
    rw [if_neg this, h]
  have hOa : ∀ {g' p}, O g' = .at p → O' g' = .at p ∧ g' ≠ g := fun {g' p} h => by
    have : g' ≠ g := fun e => by subst e; rw [hO] at h; cases h
    exact ⟨by show (if _ then _ else _) = _; rw [if_neg this, h], this⟩
  have hZn : ∀ {g' o}, g' ≠ g → Z g' o = none → Z' g' o = none := fun {g' o} hne h => by
    cases hz : Z' g' o with
    | none => rfl
    | some x =>
      rcases FZ.add_inv hz with ⟨e, _⟩ | h2
      · exact absurd e hne
      · rw [h] at h2; cases h2
  have hR : ∀ j (h : j < (cs.map fin1).length) (h' : j < xs.size), Rp Z xs[j] (cs.map fin1)[j] := fun j h h' => by
    have hj : j < cs.length := by simpa using h
    rw [List.getElem_map]
    refine (hcs j hj h').1.fin1.data ?_
    have := List.all_eq_true.1 hall _ (List.getElem_mem h)
    rwa [List.getElem_map] at this
  have hsl : ∀ {x : Value} {off k n : Nat}, RVc Z O x (.bs b off k n) → off + n * k ≤ (cs.map fin1).length → Rp Z' x (.sl (chunks k n ((cs.map fin1).drop off))) := by
    intro x off k n hx hle
    obtain ⟨g1, c, h1, rfl, hnc⟩ := hx
    have := I.uq g1 g b h1 hO
    subst this
    have hlen : ∀ i (hi : i < (chunks k n ((cs.map fin1).drop off)).length), ((chunks k n ((cs.map fin1).drop off))[i]).length = k := fun i hi => by
      rw [chunks_get]
      rw [chunks_len] at hi
      have : i * k + k ≤ n * k := by have := Nat.mul_le_mul_right k (show i + 1 ≤ n from hi); rwa [Nat.add_mul, Nat.one_mul] at this
      rw [List.length_take, List.length_drop, List.length_drop]
      omega
    have hin : ∀ i (hi : i < (chunks k n ((cs.map fin1).drop off)).length) j (hj : j < ((chunks k n ((cs.map fin1).drop off))[i]).length), off + i * k + j < (cs.map fin1).length := fun i hi j hj => by
      rw [hlen i hi] at hj
      rw [chunks_len] at hi
      have : i * k + k ≤ n * k := by have := Nat.mul_le_mul_right k (show i + 1 ≤ n from hi); rwa [Nat.add_mul, Nat.one_mul] at this
      omega
    have hget : ∀ i (hi : i < (chunks k n ((cs.map fin1).drop off)).length) j (hj : j < ((chunks k n ((cs.map fin1).drop off))[i]).length), (chunks k n ((cs.map fin1).drop off))[i][j] = (cs.map fin1)[off + i * k + j]'(hin i hi j hj) := fun i hi j hj => by
      have : (chunks k n ((cs.map fin1).drop off))[i][j] = ((((cs.map fin1).drop off).drop (i * k)).take k)[j]'(by rw [← chunks_get k n _ i hi]; exact hj) := by
        congr 1; exact chunks_get k n _ i hi
      rw [this]
      simp only [List.getElem_take, List.getElem_drop]
      congr 1
      omega
    have hcl : (cs.map fin1).length = xs.size := by rw [List.length_map, hsz]
    refine .sl _ n c k _ (chunks_len k n _).symm hnc ⟨g1, off, none⟩ (fun _ => rfl) rfl hlen (fun i j => xs.getD (off + i * k + j) undef) (fun i hi j hj => ?_) (fun i hi j hj => ?_)
    · have hlt := hin i hi j hj
      refine FZ.add_at ?_
      have hlt' : off + i * k + j < xs.size := by omega
      rw [Array.getElem?_toList, Array.getElem?_eq_getElem hlt']
      simp only [Array.getD, hlt', dif_pos]
      rfl
    · have hlt := hin i hi j hj
      have hlt' : off + i * k + j < xs.size := by omega
      rw [hget i hi j hj]
      simp only [Array.getD, hlt', dif_pos]
      exact (hR _ hlt hlt').mono hZ
  have hcell : ∀ {x : Value} {d : D}, RVc Z O x d → one (frD b (cs.map fin1) d) = true ∨ refc b d = false → RVc Z' O' x (frD b (cs.map fin1) d) := by
    intro x d hx ho
    cases d with
    | bs b' off k n =>
      by_cases hbb : b' = b
      · subst hbb
        simp only [frD, if_true] at ho ⊢
        split
        · rename_i hle; exact RVc.ofRp (hsl hx hle)
        · rename_i hle
          rw [if_neg hle] at ho
          rcases ho with ho | ho
          · cases ho
          · simp [refc] at ho
      · simp only [frD, if_neg hbb]
        obtain ⟨g1, c, h1, h2⟩ := hx
        exact ⟨g1, c, hOx hbb h1, h2⟩
    | bp b' off => cases hx
    | _ => exact RVc.ofRp (Rp.mono hZ hx)
  have hval : ∀ {p x d}, RV Z O w p x d → (∀ ds, d ≠ .agg ds) → RV Z' O' w p x (frD b (cs.map fin1) d) := by
    intro p x d hx hag
    cases d with
    | bs b' off k n =>
      by_cases hbb : b' = b
      · subst hbb
        simp only [frD, if_true]
        split
        · rename_i hle; exact hsl hx hle
        · trivial
      · simp only [frD, if_neg hbb]
        obtain ⟨g1, c, h1, h2⟩ := hx
        exact ⟨g1, c, hOx hbb h1, h2⟩
    | bp b' off =>
      by_cases hbb : b' = b
      · simp only [frD, if_pos hbb]; trivial
      · simp only [frD, if_neg hbb]
        obtain ⟨g1, h1, h2⟩ := hx
        exact ⟨g1, hOx hbb h1, h2⟩
    | undef => trivial
    | ep k es i j => obtain ⟨g, o, h1, h2⟩ := hx; exact ⟨g, o, h1, h2.mono hZ⟩
    | own e k es =>
      rcases hx with h | ⟨g1, c, cur, h1, h2, h3, h4, h5, h6, h7, h8⟩
      · exact .inl h
      · obtain ⟨q1, q2⟩ := hOa h2
        exact .inr ⟨g1, c, cur, h1, q1, h3, h4, h5, h6, h7.mono hZ, fun o ho => hZn q2 (h8 o ho)⟩
    | agg ds => exact absurd rfl (hag ds)
    | v _ => exact Rp.mono hZ hx
    | sl _ => exact Rp.mono hZ hx
    | tup _ => exact Rp.mono hZ hx
  have htmp : ∀ {p x d}, RV Z O w p x d → RV Z' O' w p x (frT b (cs.map fin1) d) := by
    intro p x d hx
    by_cases hag : ∃ ds, d = .agg ds
    · obtain ⟨ds, rfl⟩ := hag
      obtain ⟨ys, h1, h2, h3⟩ := hx
      simp only [frT]
      split
      · rename_i ho
        refine ⟨ys, h1, by simpa using h2, fun i hi hj => ?_⟩
        have hi' : i < ds.length := by simpa using hi
        rw [List.getElem_map]
        refine hcell (h3 i hi' hj) (.inl ?_)
        have := List.all_eq_true.1 ho _ (List.getElem_mem hi)
        rwa [List.getElem_map] at this
      · split
        · trivial
        · rename_i hr
          refine ⟨ys, h1, h2, fun i hi hj => ?_⟩
          have hri : refc b ds[i] = false := by
            have := List.any_eq_false.1 (show ds.any (refc b) = false by simpa using hr) ds[i] (List.getElem_mem hi)
            simpa using this
          have hc := h3 i hi hj
          have := hcell hc (.inr hri)
          generalize ys[i] = y at this hc
          generalize ds[i] = d at this hri hc
          cases d with
          | bs b' off k n =>
            have hbb : b' ≠ b := by simpa [refc] using hri
            simpa only [frD, if_neg hbb] using this
          | bp b' off => cases hc
          | _ => exact this
    · have h0 : ∀ ds, d ≠ .agg ds := fun ds e => hag ⟨ds, e⟩
      have := hval hx h0
      cases d with
      | agg ds => exact absurd rfl (h0 ds)
      | _ => exact this
  refine ⟨Z', O', hZ, ?_, ?_, ?_, ?_, ?_, ?_, I.bl, I.df, ?_, I.bs.mono hZ⟩
  · simpa using I.tsz
  · intro i h h'
    have h2 : i < st.t.length := by simpa using h
    simp only [List.getElem_map]
    exact htmp (I.tv i h2 h')
  · intro b' cs' hb'
    have : (St.bx ⟨st.t.map (frT b (cs.map fin1)), (st.b.set b none).map (frB b (cs.map fin1))⟩ b') = frB b (cs.map fin1) ((st.b.set b none).getD b' none) := by
      simp only [St.bx, List.getD_eq_getElem?_getD, List.getElem?_map]
      cases (st.b.set b none)[b']? <;> rfl
    rw [this] at hb'
    cases hbx : (st.b.set b none).getD b' none with
    | none => rw [hbx] at hb'; cases hb'
    | some ds =>
      rw [hbx] at hb'
      simp only [frB, Option.bind_some] at hb'
      split at hb'
      case isFalse => cases hb'
      rename_i ho
      simp only [Option.some.injEq] at hb'
      subst hb'
      rcases set_bx hbx with ⟨_, h⟩ | ⟨hne, hbx⟩
      · cases h
      · obtain ⟨g2, xs2, e2, r1, r2, r3, r4, r5, r6⟩ := I.bv b' ds hbx
        have hg2 : g2 ≠ g := fun e => by subst e; rw [hO] at r1; injection r1 with r1; exact hne r1
        refine ⟨g2, xs2, e2, hOx (fun e => hne e.symm) r1, r2, by simpa using r3, fun j h h' => ?_, fun o => hZn hg2 (r5 o), ho⟩
        have hj : j < ds.length := by simpa using h
        have h1 := r4 j hj h'
        refine ⟨?_, h1.2⟩
        rw [List.getElem_map]
        refine hval h1.1 fun ds' e => ?_
        have := List.all_eq_true.1 r6 _ (List.getElem_mem hj)
        rw [e] at this
        simp [one] at this
  · intro g1 g2 b' h1 h2
    have f : ∀ g', O' g' = .box b' → O g' = .box b' := fun g' h => by
      by_cases e : g' = g
      · have : O' g' = .none := if_pos e
        rw [this] at h; cases h
      · have : O' g' = O g' := if_neg e
        rw [← this]; exact h
    exact I.uq g1 g2 b' (f g1 h1) (f g2 h2)
  · intro g' h
    by_cases e : g' = g
    · have : O' g' = .none := if_pos e
      exact absurd this h
    · have : O' g' = O g' := if_neg e
      rw [this] at h
      exact I.ob g' h
  · intro b' o x hx
    rcases FZ.add_inv hx with ⟨rfl, h2⟩ | h2
    · have h2' : xs[o]? = some x := by simpa using h2
      refine ⟨by rw [cell_of_row w _ o xs e (0, 0) hg]; exact h2', ?_⟩
      obtain ⟨hlt, rfl⟩ := Array.getElem?_eq_some_iff.1 h2'
      exact (hcs o (by omega) hlt).2
    · exact I.ag b' o x h2
  · intro b' o x hx
    rcases FZ.add_inv hx with ⟨rfl, _⟩ | h2
    · exact .inr hgb.1
    · exact I.zn b' o x h2
theorem freezes_inv : ∀ (l : List Nat) {Z : FZ} {O : OM} {st st' : St}, Inv Z0 w0 Z O st a w → freezes l st = some st' → ∃ Z' O', Z.le Z' ∧ Inv Z0 w0 Z' O' st' a w
  | [], Z, O, st, st', I, h => by
    simp only [freezes, Option.some.injEq] at h
    subst h
    exact ⟨Z, O, FZ.le_refl Z, I⟩
  | b :: l, Z, O, st, st', I, h => by
    simp only [freezes, Option.bind_eq_some_iff] at h
    obtain ⟨s1, h1, h2⟩ := h
    obtain ⟨Z1, O1, hZ1, I1⟩ := freeze_inv I h1
    obtain ⟨Z2, O2, hZ2, I2⟩ := freezes_inv l I1 h2
    exact ⟨Z2, O2, FZ.le_trans hZ1 hZ2, I2⟩
/-- a region in any order -/
def SoundAny (P : Program) : Prop := ∀ (F : FuncId → List D → Option D), SoundF P F → ∀ (Z0 : FZ) (w0 w : World) (Z : FZ) (O : OM) (st : St) (a : Act) (Q : Exit → Act → World → Prop) (id : Nat) (ops : Array Oper) (es : List Eff),
  dtr P F ops ops.toList (undefs ops st) = some es → okTr ops (ops.toList.zip es).zipIdx = true → Inv Z0 w0 Z O st a w → Post Z0 w0 Z (.norm, dall ops.toList es (undefs ops st)) Q → (Code.region id ops true).wp P Q a w
theorem denC_sound (hA : SoundAny P) (hF : SoundF P F) (cl : Nat → List Tmp) (N : Nat) : ∀ (c : Code) (bk : Nat) (Z : FZ) (O : OM) (st : St) (a : Act) (w : World) (Q : Exit → Act → World → Prop) (r : Ex × St), denC P F cl c bk N st = some r → Inv Z0 w0 Z O st a w → Post Z0 w0 Z r Q → c.wp P Q a w
  | .skip, bk, Z, O, st, a, w, Q, r, h, I, hQ => by
    simp only [denC, Option.some.injEq] at h
    subst h
    exact wp_skip (hQ Z O a w (FZ.le_refl Z) I)
  | .exit id, bk, Z, O, st, a, w, Q, r, h, I, hQ => by
    simp only [denC, Option.some.injEq] at h
    subst h
    exact wp_exit (hQ Z O a w (FZ.le_refl Z) I)
  | .ret, bk, Z, O, st, a, w, Q, r, h, I, hQ => by
    simp only [denC, Option.some.injEq] at h
    subst h
    exact wp_ret (hQ Z O a w (FZ.le_refl Z) I)
  | .region id ops false, bk, Z, O, st, a, w, Q, r, h, I, hQ => by
    simp only [denC, Option.bind_eq_some_iff, Option.map_eq_some_iff] at h
    obtain ⟨st1, hfr, s, hs, rfl⟩ := h
    obtain ⟨Z1, O1, hZ1, I1⟩ := freezes_inv _ I hfr
    refine wp_region ?_
    have := dlist_sound (Q := Q) hF ops.toList 0 Z1 O1 st1 a w s (fun j => by simp) hs I1 (fun Z' O' a' w' hZ I' => hQ Z' O' a' w' (FZ.le_trans hZ1 hZ) I')
    rw [List.range_eq_range']
    simpa using this
  | .region id ops true, bk, Z, O, st, a, w, Q, r, h, I, hQ => by
    simp only [denC, Option.bind_eq_some_iff] at h
    obtain ⟨st1, hfr, es, hs, h⟩ := h
    obtain ⟨Z1, O1, hZ1, I1⟩ := freezes_inv _ I hfr
    split at h
    · rename_i hok
      simp only [Option.some.injEq] at h
      subst h
      exact hA F hF Z0 w0 w Z1 O1 st1 a Q id ops es hs hok I1 (hQ.mono hZ1)
    · cases h
  | .seq x y, bk, Z, O, st, a, w, Q, r, h, I, hQ => by
    simp only [denC, Option.bind_eq_some_iff] at h
    obtain ⟨⟨e1, s1⟩, h1, h2⟩ := h
    refine wp_seq (denC_sound hA hF cl N x bk Z O st a w _ (e1, s1) h1 I fun Z' O' a' w' hZ I' => ?_)
    cases e1 with
    | norm => exact denC_sound hA hF cl N y bk Z' O' s1 a' w' Q r h2 I' (hQ.mono hZ)
    | exit id => simp only [Option.some.injEq] at h2; subst h2; exact hQ Z' O' a' w' hZ I'
    | ret => simp only [Option.some.injEq] at h2; subst h2; exact hQ Z' O' a' w' hZ I'
  | .cond c x y, bk, Z, O, st, a, w, Q, r, h, I, hQ => by
    simp only [denC, Option.bind_eq_some_iff] at h
    obtain ⟨d, hd, h⟩ := h
    split at h
    · rename_i q
      obtain ⟨p, hp, _⟩ := I.rd hd
      refine wp_cond (t := q) (hp.toV rfl) ?_
      cases q with
      | true => exact denC_sound hA hF cl N x bk Z O st a w Q r h I hQ
      | false => exact denC_sound hA hF cl N y bk Z O st a w Q r h I hQ
    · cases h
  | .block id c, bk, Z, O, st, a, w, Q, r, h, I, hQ => by
    simp only [denC, Option.map_eq_some_iff] at h
    obtain ⟨⟨e1, s1⟩, h1, rfl⟩ := h
    refine wp_block (denC_sound hA hF cl N c id Z O st a w _ (e1, s1) h1 I fun Z' O' a' w' hZ I' => ?_)
    cases e1 with
    | norm => exact hQ Z' O' a' w' hZ I'
    | exit j =>
      by_cases e : j = id
      · subst e
        simp only [Exit.inBlock, if_true]
        simp only [if_true] at hQ
        exact hQ Z' O' a' w' hZ I'
      · simp only [Exit.inBlock, if_neg e]
        simp only [if_neg e] at hQ
        exact hQ Z' O' a' w' hZ I'
    | ret => exact hQ Z' O' a' w' hZ I'
  | .loop c, bk, Z, O, st, a, w, Q, r, h, I, hQ => by
    simp only [denC] at h
    refine wp_loop_told (fun n a w => ∃ Z2 O2 st2, Z.le Z2 ∧ Inv Z0 w0 Z2 O2 st2 a w ∧ iter (denC P F cl c bk N) (cl bk) n st2 = some r) (fun a w ⟨_, _, _, _, _, h⟩ => by simp [iter] at h) (fun n a w hT => ?_) (n := N) ⟨Z, O, st, FZ.le_refl Z, I, h⟩
    obtain ⟨Z2, O2, st2, hZ2, I2, h2⟩ := hT
    simp only [iter, Option.bind_eq_some_iff] at h2
    obtain ⟨⟨e1, s1⟩, h3, h4⟩ := h2
    refine denC_sound hA hF cl N c bk Z2 O2 _ a w _ (e1, s1) h3 (clear_inv I2 _) fun Z' O' a' w' hZ I' => ?_
    cases e1 with
    | norm => exact ⟨Z', O', s1, FZ.le_trans hZ2 hZ, I', h4⟩
    | exit id => simp only [Option.some.injEq] at h4; subst h4; exact hQ Z' O' a' w' (FZ.le_trans hZ2 hZ) I'
    | ret => simp only [Option.some.injEq] at h4; subst h4; exact hQ Z' O' a' w' (FZ.le_trans hZ2 hZ) I'
  | .scope c, bk, Z, O, st, a, w, Q, r, h, I, hQ => by simp [denC] at h
  | .label l, bk, Z, O, st, a, w, Q, r, h, I, hQ => by simp [denC] at h
  | .goto l, bk, Z, O, st, a, w, Q, r, h, I, hQ => by simp [denC] at h
  | .refuse l, bk, Z, O, st, a, w, Q, r, h, I, hQ => by simp [denC] at h
  | .rangeFunc f ps x y, bk, Z, O, st, a, w, Q, r, h, I, hQ => by simp [denC] at h

def resM (tmps : Array Value) : ResultVar → Sem Value
  | .tmp t => pure (tmps.getD t undef)
  | .cell a t => do loadVar t (← asAddr (tmps.getD a undef))
theorem res_one {x : ResultVar} {d : D} (h : dres P st x = some d) (I : Inv Z0 w0 Z O st a w) : ∃ y p, (resM a.tmps x).run P w = .ok y w ∧ RV Z O w p y d := by
  cases x with
  | tmp t =>
    obtain ⟨p, hp, _⟩ := I.rd (x := .tmp t) h
    exact ⟨a.eval (.tmp t), p, rfl, hp⟩
  | cell t ty =>
    simp only [dres, Option.bind_eq_some_iff] at h
    obtain ⟨dt, hdt, h⟩ := h
    obtain ⟨p, hp, _⟩ := I.rd hdt
    split at h
    · rename_i b
      simp only [Option.bind_eq_some_iff] at h
      obtain ⟨cs, hb, n, hn, hd⟩ := h
      obtain ⟨g, xs, e', hxe, hO, hg, hsz, hcs, hZ, hall1⟩ := I.box hp hb
      unfold partB at hd
      obtain ⟨y, hy, hr⟩ := run_part (P := P) (Z := Z) (O := O) (w := w) (g := g) (o := 0) hn hd (fun j h1 h2 h3 => by
        have h1' : j < cs.length := by simpa using h1
        refine ⟨xs[j]'(by omega), ?_, ?_⟩
        · rw [Nat.zero_add, cell_of_row w g j xs e' (0, 0) hg, Array.getElem?_eq_getElem (by omega)]
        rw [List.getElem_map]
        exact (hcs j h1' (by omega)).1.cell (List.all_eq_true.1 hall1 _ (List.getElem_mem h1')))
      refine ⟨y, .t 0, ?_, hr _⟩
      have hx : a.tmps.getD t undef = .pointer (some ⟨g, 0, none⟩) := hxe
      show (do loadVar ty (← asAddr (a.tmps.getD t undef)) : Sem Value).run P w = _
      rw [hx]
      simp only [asAddr, Sem.run_bind, Sem.run_pure, Result.andThen_ok]
      exact hy
    · cases h
theorem res_all {xs : List ResultVar} : ∀ {ds : List D}, (xs.mapM fun x => (dres P st x).bind fun d => if data (fin d) then some (fin d) else none) = some ds → Inv Z0 w0 Z O st a w →
    ∃ ys : List Value, (xs.mapM (resM a.tmps)).run P w = .ok ys w ∧ ys.length = ds.length ∧ ∀ i (h : i < ds.length) (h' : i < ys.length), Rp Z ys[i] ds[i] := by
  induction xs with
  | nil => intro ds h I; simp at h; subst h; exact ⟨[], rfl, rfl, fun i h => absurd h (Nat.not_lt_zero _)⟩
  | cons x xs ih =>
    intro ds h I
    simp only [List.mapM_cons, Option.bind_eq_bind, Option.bind_eq_some_iff, Option.pure_def, Option.some.injEq] at h
    obtain ⟨d', ⟨d, hd, hd'⟩, ds', h', rfl⟩ := h
    split at hd'
    · rename_i hdt
      simp only [Option.some.injEq] at hd'
      subst hd'
      obtain ⟨y, p, hy, hp⟩ := res_one hd I
      obtain ⟨ys, hys, hl, hR⟩ := ih h' I
      refine ⟨y :: ys, ?_, by simp [hl], fun i h h' => ?_⟩
      · rw [List.mapM_cons, Sem.run_bind, hy]
        simp only [Result.andThen_ok, Sem.run_bind, hys, Sem.run_pure]
      · cases i with
        | zero => exact hp.fin.data hdt
        | succ i => exact hR i (by simpa using h) (by simpa using h')
    · cases hd'
theorem run_results {fn : Func} {tmps : Array Value} {ys : List Value} (h : (fn.results.toList.mapM (resM tmps)).run P w = .ok ys w) : (results fn tmps).run P w = .ok (if h : ys.toArray.size = 1 then ys.toArray[0] else .tuple ys.toArray) w := by
  have he : results fn tmps = (do let vs ← fn.results.mapM (resM tmps); pure (if h : vs.size = 1 then vs[0] else .tuple vs)) := by
    unfold results
    congr 1
  rw [he, Sem.run_bind, Array.mapM_eq_mapM_toList, Sem.run_map, h]
  simp only [Result.andThen_ok, Sem.run_pure]

theorem start_inv {vs : Array Value} {ds : List D} {n : Nat} (hl : vs.size = ds.length) (hR : ∀ i (h : i < ds.length) (h' : i < vs.size), Rp Z vs[i] ds[i]) (hA : Agree Z w) (hB : Bs Z) :
    Inv Z w Z (fun _ => .none) ⟨ds ++ List.replicate (n - ds.length) (.v undef), List.replicate n none⟩ { tmps := vs ++ Array.replicate (n - vs.size) undef, defers := [] } w where
  tsz := by simp [hl]
  tv := fun i h h' => by
    simp only [List.getElem_append, Array.getElem_append]
    by_cases hi : i < ds.length
    · rw [dif_pos hi, dif_pos (by omega)]
      exact RV.ofRp (hR i hi (by omega))
    · rw [dif_neg hi, dif_neg (by omega)]
      simp only [List.getElem_replicate, Array.getElem_replicate]
      exact .v undef
  bv := fun b cs h => by
    simp only [St.bx, List.getD_eq_getElem?_getD, List.getElem?_replicate] at h
    split at h <;> simp at h
  uq := fun g g' b h => by cases h
  ob := fun g h => absurd rfl h
  ag := hA
  bl := Below.refl _ _
  df := rfl
  zn := fun b o x h => .inl h
  bs := hB
theorem denF_sound (hA : SoundAny P) (hF : SoundF P F) (cl : FuncId → Nat → List Tmp) (n : Nat) (f : FuncId) (ds : List D) (r : D) (h : denF P F cl n f ds = some r) : Contract P f ds r := by
  simp only [denF, Option.bind_eq_some_iff] at h
  obtain ⟨fn, hfn, c, hbody, h⟩ := h
  split at h
  · rename_i hlen
    simp only [Option.bind_eq_some_iff] at h
    obtain ⟨⟨e1, st0⟩, hden, h⟩ := h
    have hfz : (∀ id, e1 ≠ .exit id) ∧ ∃ st1, freezes (cl f hend) st0 = some st1 ∧ (match fn.results.toList with
        | [x] => (dres P st1 x).bind fun d => if data (fin d) then some (finR d) else none
        | xs => (xs.mapM fun x => (dres P st1 x).bind fun d => if data (fin d) then some (fin d) else none).map .tup) = some r := by
      cases e1 with
      | exit id => cases h
      | norm =>
        simp only [Option.bind_eq_some_iff] at h
        obtain ⟨s1, h1, h2⟩ := h
        exact ⟨(fun _ h => by cases h), s1, h1, h2⟩
      | ret =>
        simp only [Option.bind_eq_some_iff] at h
        obtain ⟨s1, h1, h2⟩ := h
        exact ⟨(fun _ h => by cases h), s1, h1, h2⟩
    obtain ⟨hex, st1, hfr, hmat⟩ := hfz
    intro Z w vs hAg hBs hl hR
    refine calls_of_wp hfn hbody (denC_sound hA hF (cl f) n c 0 Z (fun _ => .none) _ _ w _ (e1, st0) hden (by
      have := start_inv (n := fn.ntmps) hl hR hAg hBs
      exact this) fun Z1 O1 a' w' hZ1 I1 => ?_)
    obtain ⟨Z', O', hZ2, I'⟩ := freezes_inv _ I1 hfr
    have hZ := FZ.le_trans hZ1 hZ2
    have hfin : (match e1 with | .exit _ => False | _ => True) → ((match (generalizing := false) fn.results.toList with
        | [x] => (dres P st1 x).bind fun d => if data (fin d) then some (finR d) else none
        | xs => (xs.mapM fun x => (dres P st1 x).bind fun d => if data (fin d) then some (fin d) else none).map .tup) = some r) → a'.defers = [] ∧ ∃ v, (results fn a'.tmps).run P w' = .ok v w' ∧ ∃ v' Z2, Ending.returned v = .returned v' ∧ Z.le Z2 ∧ (∀ b o x, Z2 b o = some x → Z b o = some x ∨ w.heap.size ≤ b) ∧ Agree Z2 w' ∧ Below w.heap.size w w' ∧ RR Z2 w.heap.size w' v' r := by
      intro _ hr
      refine ⟨I'.df, ?_⟩
      split at hr
      · rename_i x hx
        simp only [Option.bind_eq_some_iff] at hr
        obtain ⟨d, hd, hr⟩ := hr
        split at hr
        · rename_i hdt
          simp only [Option.some.injEq] at hr
          subst hr
          obtain ⟨y, p, hy, hp⟩ := res_one hd I'
          have hrun := run_results (fn := fn) (tmps := a'.tmps) (ys := [y]) (P := P) (w := w') (by
            rw [hx, List.mapM_cons, Sem.run_bind, hy]; rfl)
          refine ⟨y, hrun, y, Z', rfl, hZ, I'.zn, I'.ag, I'.bl, ?_⟩
          unfold RR
          cases d with
          | own e k es =>
            rcases hp with hp | ⟨g, c', cur, h1, h2, h3, h4⟩
            · exact .inl hp
            · have hob := I'.ob g (by rw [h2]; simp)
              exact .inr ⟨g, c', cur, h1, if_pos hob, h3, h4⟩
          | v _ => exact RV.ofRp (hp.fin.data hdt)
          | sl _ => exact RV.ofRp (hp.fin.data hdt)
          | agg cs => exact RV.ofRp (hp.fin.data hdt)
          | _ => simp [data, fin, fin1] at hdt
        · cases hr
      · rename_i hne
        simp only [Option.map_eq_some_iff] at hr
        obtain ⟨ds', hds', rfl⟩ := hr
        obtain ⟨ys, hys, hyl, hyR⟩ := res_all hds' I'
        have hrun := run_results (fn := fn) (tmps := a'.tmps) (P := P) (w := w') hys
        have hlen' : ys.length = fn.results.toList.length := by
          rw [hyl]
          have : ∀ (xs : List ResultVar) (ds : List D), (xs.mapM fun x => (dres P st1 x).bind fun d => if data (fin d) then some (fin d) else none) = some ds → ds.length = xs.length := by
            intro xs
            induction xs with
            | nil => intro ds h; simp at h; subst h; rfl
            | cons x xs ih =>
              intro ds h
              simp only [List.mapM_cons, Option.bind_eq_bind, Option.bind_eq_some_iff, Option.pure_def, Option.some.injEq] at h
              obtain ⟨d', _, ds', h', rfl⟩ := h
              simp [ih ds' h']
          exact this _ _ hds'
        have hn1 : ¬ ys.toArray.size = 1 := by
          intro e
          have : fn.results.toList.length = 1 := by rw [← hlen']; simpa using e
          obtain ⟨x, hx⟩ := List.length_eq_one_iff.1 this
          exact hne x hx
        rw [dif_neg hn1] at hrun
        exact ⟨_, hrun, _, Z', rfl, hZ, I'.zn, I'.ag, I'.bl, .tup ys ds' hyl fun i h h' => hyR i h h'⟩
    cases e1 with
    | norm => exact hfin trivial hmat
    | ret => exact hfin trivial hmat
    | exit id => exact absurd rfl (hex id)
  · cases h
theorem denN_sound (hA : SoundAny P) {prim : FuncId → List D → Option D} (hp : SoundF P prim) (hnames : ∀ (f : FuncId) (fn : Func), P.funcs[f]? = some fn → (fn.name == "runtime.NumGoroutine") = false) (cl : FuncId → Nat → List Tmp) : ∀ n, SoundF P (denN P cl prim n)
  | 0 => hp
  | n + 1 => by
    have ih := denN_sound hA hp hnames cl n
    refine ⟨fun f ds r h => ?_, fun f ds r h => ?_⟩
    · simp only [denN] at h
      split at h
      · rename_i r' hr; simp only [Option.some.injEq] at h; subst h; exact hp.1 f ds r' hr
      · exact denF_sound hA ih cl n f ds r h
    · simp only [denN] at h
      split at h
      · rename_i r' hr; simp only [Option.some.injEq] at h; subst h; exact hp.2 f ds r' hr
      · simp only [denF, Option.bind_eq_some_iff] at h
        obtain ⟨fn, hfn, c, hbody, h⟩ := h
        exact ⟨fn, hfn, hnames f fn hfn, by rw [hbody]; rfl⟩

theorem mapM_congr' {α β : Type} {f g : α → Option β} : ∀ {l : List α}, (∀ x ∈ l, f x = g x) → l.mapM f = l.mapM g
  | [], _ => rfl
  | x :: l, h => by
    simp only [List.mapM_cons, h x (List.mem_cons_self ..), mapM_congr' fun y hy => h y (List.mem_cons_of_mem _ hy)]
theorem dop_rho {ρ ρ' : Operand → Option D} {β : Nat → Option (List D)} (hρ : ∀ x ∈ o.op.operands, ρ' x = ρ x) : dop P F tk ρ' β o = dop P F tk ρ β o := by
  cases ho : o.op with
  | move x | assign x | box t x | unOp op t x | convert s t x | load t x | nilCheck x | fieldAddr s x f | field s x f | extract x i =>
    have h1 := hρ x (by simp [ho, Op.operands])
    simp only [dop, ho, h1]
  | binOp op t x y yt | index t x y | store t x y | indexAddr t x y | makeSlice t x y =>
    have h1 := hρ x (by simp [ho, Op.operands])
    have h2 := hρ y (by simp [ho, Op.operands])
    simp only [dop, ho, h1, h2]
  | pick c x y =>
    have h1 := hρ c (by simp [ho, Op.operands])
    have h2 := hρ x (by simp [ho, Op.operands])
    have h3 := hρ y (by simp [ho, Op.operands])
    simp only [dop, ho, h1]
    congr 1
    funext d
    split
    · rename_i q
      cases q <;> simp [h2, h3]
    · rfl
  | build t ps =>
    have h1 : (ps.toList.mapM fun (p : Nat × Operand) => (ρ' p.2).map fun d => (p.1, d)) = (ps.toList.mapM fun (p : Nat × Operand) => (ρ p.2).map fun d => (p.1, d)) := mapM_congr' fun p hp => by
      rw [hρ p.2 (by simp only [ho, Op.operands]; simpa using ⟨p.1, by simpa using hp⟩)]
    simp only [dop, ho, h1]
  | buildSlice t n ps =>
    have h1 : (ps.toList.mapM fun (p : Nat × Operand) => (ρ' p.2).map fun d => (p.1, d)) = (ps.toList.mapM fun (p : Nat × Operand) => (ρ p.2).map fun d => (p.1, d)) := mapM_congr' fun p hp => by
      rw [hρ p.2 (by simp only [ho, Op.operands]; simpa using ⟨p.1, by simpa using hp⟩)]
    simp only [dop, ho, h1]
  | slice t x l h m =>
    have h1 := hρ x (by simp [ho, Op.operands])
    have h2 : ∀ y, l = some y → ρ' y = ρ y := fun y e => hρ y (by simp [ho, Op.operands, e])
    have h3 : ∀ y, h = some y → ρ' y = ρ y := fun y e => hρ y (by simp [ho, Op.operands, e])
    have h4 : ∀ n, bound ρ' n l = bound ρ n l := fun n => by
      cases l with
      | none => rfl
      | some y => simp only [bound, h2 y rfl]
    have h5 : ∀ n, bound ρ' n h = bound ρ n h := fun n => by
      cases h with
      | none => rfl
      | some y => simp only [bound, h3 y rfl]
    cases l with
    | none => cases h with
      | none => simp only [dop, ho, h1, h4, h5]
      | some h => simp only [dop, ho, h1, h3 _ rfl, h4, h5]
    | some l => cases h with
      | none => simp only [dop, ho, h1, h2 _ rfl, h4, h5]
      | some h => simp only [dop, ho, h1, h2 _ rfl, h3 _ rfl, h4, h5]
  | call c =>
    have h0 : ∀ x ∈ c.args.toList, ρ' x = ρ x := fun x hx => hρ x (by
      simp only [ho, Op.operands, Call.operands]
      exact Array.mem_append.2 (.inr (by simpa using hx)))
    cases hc : c.callee with
    | builtin b =>
      cases b with
      | len =>
        simp only [dop, ho, hc]
        split
        · rename_i x hx; rw [h0 x (by rw [hx]; simp)]
        · rfl
      | append =>
        simp only [dop, ho, hc]
        split
        · rename_i x y t t' hx _; rw [h0 x (by rw [hx]; simp), h0 y (by rw [hx]; simp)]
        · rfl
      | min =>
        have h1 : (c.args.toList.mapM fun x => (ρ' x).bind toV) = (c.args.toList.mapM fun x => (ρ x).bind toV) := mapM_congr' fun x hx => by rw [h0 x hx]
        simp only [dop, ho, hc, h1]
      | max =>
        have h1 : (c.args.toList.mapM fun x => (ρ' x).bind toV) = (c.args.toList.mapM fun x => (ρ x).bind toV) := mapM_congr' fun x hx => by rw [h0 x hx]
        simp only [dop, ho, hc, h1]
      | _ => simp only [dop, ho, hc]
    | value f =>
        have hf := hρ f (by
          simp only [ho, Op.operands, Call.operands, hc]
          exact Array.mem_append.2 (.inl (by simp)))
        have h1 : (c.args.toList.mapM fun x => (ρ' x).bind fun d => if data (fin d) then some (fin d) else none) = (c.args.toList.mapM fun x => (ρ x).bind fun d => if data (fin d) then some (fin d) else none) := mapM_congr' fun x hx => by rw [h0 x hx]
        simp only [dop, ho, hc, h1, hf]
    | invoke r m => simp only [dop, ho, hc]
  | _ => simp only [dop, ho]

theorem dop_beta {ρ : Operand → Option D} {β β' : Nat → Option (List D)} (h : dop P F tk ρ β o = some e) (hβ : ∀ b, e.rd = some b → β' b = β b) : dop P F tk ρ β' o = some e := by
  cases ho : o.op with
  | load t x =>
    simp only [dop, ho, Option.bind_eq_some_iff] at h ⊢
    obtain ⟨d, hd, h⟩ := h
    refine ⟨d, hd, ?_⟩
    split at h
    · rename_i b off
      have hb : e.rd = some b := by
        simp only [Option.bind_eq_some_iff] at h
        obtain ⟨cs, _, n, _, h⟩ := h
        split at h
        · simp only [Option.bind_eq_some_iff] at h
          obtain ⟨q, _, h⟩ := h
          split at h
          · cases h
          · simp only [Option.bind_eq_some_iff] at h
            obtain ⟨d, _, h⟩ := h
            split at h
            · simp only [Option.some.injEq] at h; subst h; rfl
            · cases h
        · simp only [Option.map_eq_some_iff] at h
          obtain ⟨d, _, rfl⟩ := h; rfl
      simp only [hβ b hb]
      exact h
    · exact h
    · cases h
  | store t x y =>
    simp only [dop, ho, Option.bind_eq_some_iff] at h ⊢
    obtain ⟨d, hd, d2, hd2, h⟩ := h
    refine ⟨d, hd, d2, hd2, ?_⟩
    split at h
    · rename_i b off
      have hb : e.rd = some b := by
        simp only [Option.bind_eq_some_iff] at h
        obtain ⟨cs, _, n, _, h⟩ := h
        split at h
        · simp only [Option.some.injEq] at h; subst h; rfl
        · cases h
      simp only [hβ b hb]
      exact h
    · cases h
  | call c =>
    rw [← h]
    cases hc : c.callee <;> simp only [dop, ho, hc]
  | _ => rw [← h]; simp only [dop, ho]

def St.gt (st : St) : Res → D ⊕ Option (List D)
  | .t i => .inl (st.at i)
  | .b i => .inr (st.bx i)
theorem stripAt_at (t : List D) (s i : Nat) : (stripAt t s).getD i .undef = if s = i then strip (t.getD i .undef) else t.getD i .undef := by
  simp only [stripAt, List.getD_eq_getElem?_getD, List.getElem?_modify]
  split
  · cases t[i]? <;> rfl
  · cases t[i]? <;> rfl
theorem strips_at (gone : List Tmp) : ∀ (t : List D) (i : Nat), i ∉ gone → (gone.foldl stripAt t).getD i .undef = t.getD i .undef := by
  induction gone with
  | nil => intro t i _; rfl
  | cons s l ih =>
    intro t i h
    rw [List.foldl_cons, ih _ _ (fun h' => h (List.mem_cons_of_mem _ h')), stripAt_at, if_neg (fun e => h (by rw [e]; exact List.mem_cons_self ..))]
theorem strips_loc (gone : List Tmp) : ∀ (t t' : List D) (i : Nat), t.getD i .undef = t'.getD i .undef → (gone.foldl stripAt t).getD i .undef = (gone.foldl stripAt t').getD i .undef := by
  induction gone with
  | nil => intro t t' i h; exact h
  | cons s l ih =>
    intro t t' i h
    rw [List.foldl_cons, List.foldl_cons]
    exact ih _ _ _ (by rw [stripAt_at, stripAt_at, h])
theorem strips_len (gone : List Tmp) : ∀ (t : List D), (gone.foldl stripAt t).length = t.length := by
  induction gone with
  | nil => intro t; rfl
  | cons s l ih => intro t; rw [List.foldl_cons, ih, stripAt_len]
theorem set_at (t : List D) (k i : Nat) (d : D) : (t.set k d).getD i .undef = if k = i ∧ i < t.length then d else t.getD i .undef := by
  simp only [List.getD_eq_getElem?_getD, List.getElem?_set]
  by_cases h : k = i
  · subst h
    by_cases h2 : k < t.length
    · simp [h2]
    · simp [h2]
  · simp [h]
theorem setb_at (t : List (Option (List D))) (k i : Nat) (d : Option (List D)) : (t.set k d).getD i none = if k = i ∧ i < t.length then d else t.getD i none := by
  simp only [List.getD_eq_getElem?_getD, List.getElem?_set]
  by_cases h : k = i
  · subst h
    by_cases h2 : k < t.length
    · simp [h2]
    · simp [h2]
  · simp [h]
theorem onq_t (e : Eff) (st : St) (dst : Option Tmp) : (e.onq st dst).t = match dst with | some i => (e.gone.foldl stripAt st.t).set i e.d | none => e.gone.foldl stripAt st.t := by
  cases dst <;> rfl
theorem onq_b (e : Eff) (st : St) (dst : Option Tmp) : (e.onq st dst).b = e.onb st.b dst := by
  cases dst <;> rfl
theorem modb_at (t : List (Option (List D))) (k off i : Nat) : (t.modify k fun c => c.map fun cs => stripAt cs off).getD i none = if k = i then (t.getD i none).map fun cs => stripAt cs off else t.getD i none :=
  list_modify_getD t k i _ rfl

theorem onb_len (e : Eff) (b : List (Option (List D))) (dst : Option Tmp) : (e.onb b dst).length = b.length := by
  unfold Eff.onb
  cases e.box <;> cases e.gb <;> cases e.st <;> simp only <;> (try split) <;> simp
theorem onb_at (e : Eff) (b : List (Option (List D))) (dst : Option Tmp) (i : Nat) : (e.onb b dst).getD i none =
    (let x := match e.box with | some cs => if dst.getD 0 = i ∧ i < b.length then some cs else b.getD i none | none => b.getD i none
     let x := match e.gb with | some (k, off) => if k = i then x.map (fun cs => stripAt cs off) else x | none => x
     match e.st with | some (k, off, cs) => if k = i ∧ i < b.length then x.map (fun old => setCells old off cs) else x | none => x) := by
  unfold Eff.onb
  have st : ∀ (b' : List (Option (List D))) (k off : Nat) (cs : List D), (match b'.getD k none with | some old => b'.set k (some (setCells old off cs)) | none => b').getD i none = if k = i ∧ i < b'.length then (b'.getD i none).map (fun old => setCells old off cs) else b'.getD i none := by
    intro b' k off cs
    by_cases h : k = i
    · subst h
      cases hb : b'.getD k none with
      | none => simp only [hb, Option.map_none, ite_self]
      | some old =>
        simp only [setb_at, Option.map_some]
        split <;> simp_all
    · rw [if_neg (fun e => h e.1)]
      split
      · rw [setb_at, if_neg (fun e => h e.1)]
      · rfl
  cases e.box with
  | none => cases e.gb with
    | none => cases e.st with
      | none => rfl
      | some p => obtain ⟨k, off, cs⟩ := p; simp only [st]
    | some q => cases e.st with
      | none => simp only [modb_at]
      | some p => obtain ⟨k, off, cs⟩ := p; rw [st]; simp only [modb_at, List.length_modify]
  | some c => cases e.gb with
    | none => cases e.st with
      | none => simp only [setb_at]
      | some p => obtain ⟨k, off, cs⟩ := p; rw [st]; simp only [setb_at, List.length_set]
    | some q => cases e.st with
      | none => simp only [modb_at, setb_at]
      | some p => obtain ⟨k, off, cs⟩ := p; rw [st]; simp only [modb_at, setb_at, List.length_modify, List.length_set]

theorem onq_at (e : Eff) (st : St) (dst : Option Tmp) (i : Nat) : (e.onq st dst).at i = if dst = some i ∧ i < st.t.length then e.d else (e.gone.foldl stripAt st.t).getD i .undef := by
  unfold St.at
  rw [onq_t]
  cases dst with
  | none => simp
  | some k => simp only [set_at, strips_len, Option.some.injEq]
theorem onq_W1 (e : Eff) (st : St) (dst : Option Tmp) (r : Res) (h : r ∉ e.W dst) : (e.onq st dst).gt r = st.gt r := by
  simp only [Eff.W, List.mem_append, not_or] at h
  obtain ⟨⟨⟨⟨h1, h2⟩, h3⟩, h4⟩, h5⟩ := h
  cases r with
  | t i =>
    simp only [St.gt, onq_at]
    rw [if_neg (fun q => h1 (by rw [q.1]; simp)), strips_at _ _ _ (fun q => h2 (List.mem_map.2 ⟨i, q, rfl⟩))]
    rfl
  | b i =>
    simp only [St.gt, St.bx, onq_b, onb_at]
    congr 1
    have e1 : (match e.box with | some cs => if dst.getD 0 = i ∧ i < st.b.length then some cs else st.b.getD i none | none => st.b.getD i none) = st.b.getD i none := by
      cases hb : e.box with
      | none => rfl
      | some cs => simp only; rw [if_neg (fun q => h3 (by rw [hb]; simp [q.1]))]
    rw [e1]
    have e2 : (match e.gb with | some (k, off) => if k = i then (st.b.getD i none).map (fun cs => stripAt cs off) else st.b.getD i none | none => st.b.getD i none) = st.b.getD i none := by
      cases hb : e.gb with
      | none => rfl
      | some p => simp only; rw [if_neg (fun q => h4 (by rw [hb]; simp [q]))]
    simp only [e2]
    cases hb : e.st with
    | none => rfl
    | some p => simp only; rw [if_neg (fun q => h5 (by rw [hb]; simp [q.1]))]
theorem onq_W2 (e : Eff) (st st' : St) (dst : Option Tmp) (r : Res) (hl : st.t.length = st'.t.length) (hb : st.b.length = st'.b.length) (h : st.gt r = st'.gt r) : (e.onq st dst).gt r = (e.onq st' dst).gt r := by
  cases r with
  | t i =>
    simp only [St.gt, onq_at, hl, Sum.inl.injEq] at h ⊢
    rw [strips_loc e.gone st.t st'.t i h]
  | b i =>
    simp only [St.gt, St.bx, onq_b, onb_at, hb, Sum.inr.injEq] at h ⊢
    rw [h]
theorem onq_lt (e : Eff) (st : St) (dst : Option Tmp) : (e.onq st dst).t.length = st.t.length := by
  rw [onq_t]; cases dst <;> simp [strips_len]
theorem onq_lb (e : Eff) (st : St) (dst : Option Tmp) : (e.onq st dst).b.length = st.b.length := by
  rw [onq_b, onb_len]
theorem St.ext' {st st' : St} (hl : st.t.length = st'.t.length) (hb : st.b.length = st'.b.length) (h : ∀ r, st.gt r = st'.gt r) : st = st' := by
  obtain ⟨t, b⟩ := st
  obtain ⟨t', b'⟩ := st'
  have e1 : t = t' := List.ext_getElem hl fun i h1 h2 => by
    have := h (.t i)
    simp only [St.gt, St.at, Sum.inl.injEq, List.getD_eq_getElem?_getD, List.getElem?_eq_getElem h1, List.getElem?_eq_getElem h2, Option.getD_some] at this
    exact this
  have e2 : b = b' := List.ext_getElem hb fun i h1 h2 => by
    have := h (.b i)
    simp only [St.gt, St.bx, Sum.inr.injEq, List.getD_eq_getElem?_getD, List.getElem?_eq_getElem h1, List.getElem?_eq_getElem h2, Option.getD_some] at this
    exact this
  rw [e1, e2]
theorem onq_comm (e e' : Eff) (st : St) (d d' : Option Tmp) (h : ∀ r, r ∈ e.W d → r ∉ e'.W d') : e.onq (e'.onq st d') d = e'.onq (e.onq st d) d' := by
  refine St.ext' (by simp only [onq_lt]) (by simp only [onq_lb]) fun r => ?_
  by_cases hr : r ∈ e.W d
  · rw [onq_W1 e' _ d' r (h r hr)]
    exact onq_W2 e _ _ d r (onq_lt ..) (onq_lb ..) (onq_W1 e' _ d' r (h r hr))
  · rw [onq_W1 e _ d r hr]
    exact onq_W2 e' _ _ d' r (onq_lt ..).symm (onq_lb ..).symm (onq_W1 e _ d r hr).symm

/-- the effects of those that came up, in the list's order -/
def sel (L : Nat → Bool) : List ((Oper × Eff) × Nat) → St → St
  | [], s => s
  | p :: l, s => sel L l (if L p.2 then p.1.2.onq s p.1.1.dst else s)
theorem sel_lt (L : Nat → Bool) : ∀ (l : List ((Oper × Eff) × Nat)) (s : St), (sel L l s).t.length = s.t.length ∧ (sel L l s).b.length = s.b.length
  | [], s => ⟨rfl, rfl⟩
  | p :: l, s => by
    have := sel_lt L l (if L p.2 then p.1.2.onq s p.1.1.dst else s)
    simp only [sel]
    split at this <;> simp_all [onq_lt, onq_lb]
/-- what none of them touches -/
theorem sel_W1 (L : Nat → Bool) (r : Res) : ∀ (l : List ((Oper × Eff) × Nat)) (s : St), (∀ p ∈ l, L p.2 = true → r ∉ p.1.2.W p.1.1.dst) → (sel L l s).gt r = s.gt r
  | [], s, _ => rfl
  | p :: l, s, h => by
    simp only [sel]
    rw [sel_W1 L r l _ (fun q hq => h q (List.mem_cons_of_mem _ hq))]
    split
    · rename_i hp; exact onq_W1 _ _ _ _ (h p (List.mem_cons_self ..) hp)
    · rfl
/-- one effect goes past those that it doesn't touch -/
theorem sel_comm (L : Nat → Bool) (e : Eff) (d : Option Tmp) : ∀ (l : List ((Oper × Eff) × Nat)) (s : St), (∀ p ∈ l, L p.2 = true → ∀ r, r ∈ e.W d → r ∉ p.1.2.W p.1.1.dst) → sel L l (e.onq s d) = e.onq (sel L l s) d
  | [], s, _ => rfl
  | p :: l, s, h => by
    simp only [sel]
    rw [← sel_comm L e d l _ (fun q hq => h q (List.mem_cons_of_mem _ hq))]
    split
    · rename_i hp
      rw [onq_comm e p.1.2 s d p.1.1.dst (h p (List.mem_cons_self ..) hp)]
    · rfl
/-- what one reads is the same behind more of them -/
theorem sel_read (L L' : Nat → Bool) (r : Res) : ∀ (l : List ((Oper × Eff) × Nat)) (s s' : St), s.t.length = s'.t.length → s.b.length = s'.b.length → s.gt r = s'.gt r → (∀ p ∈ l, L p.2 ≠ L' p.2 → r ∉ p.1.2.W p.1.1.dst) → (sel L l s).gt r = (sel L' l s').gt r
  | [], s, s', _, _, h, _ => h
  | p :: l, s, s', hl, hb, h, hd => by
    simp only [sel]
    refine sel_read L L' r l _ _ (by split <;> split <;> simp [onq_lt, hl]) (by split <;> split <;> simp [onq_lb, hb]) ?_ (fun q hq => hd q (List.mem_cons_of_mem _ hq))
    by_cases e : L p.2 = L' p.2
    · rw [e]
      split
      · exact onq_W2 _ _ _ _ _ hl hb h
      · exact h
    · have hn := hd p (List.mem_cons_self ..) e
      split
      · rw [onq_W1 _ _ _ _ hn]
        split
        · rw [onq_W1 _ _ _ _ hn]; exact h
        · exact h
      · split
        · rw [onq_W1 _ _ _ _ hn]; exact h
        · exact h

theorem sel_app (L : Nat → Bool) : ∀ (l l' : List ((Oper × Eff) × Nat)) (s : St), sel L (l ++ l') s = sel L l' (sel L l s)
  | [], l', s => rfl
  | p :: l, l', s => by simp only [List.cons_append, sel]; exact sel_app L l l' _
theorem sel_congr {L L' : Nat → Bool} : ∀ (l : List ((Oper × Eff) × Nat)) (s : St), (∀ p ∈ l, L p.2 = L' p.2) → sel L l s = sel L' l s
  | [], s, _ => rfl
  | p :: l, s, h => by
    simp only [sel]
    rw [h p (List.mem_cons_self ..)]
    exact sel_congr l _ fun q hq => h q (List.mem_cons_of_mem _ hq)
/-- one more comes up -/
theorem sel_add (L : Nat → Bool) (i : Nat) (p : Oper × Eff) (l l' : List ((Oper × Eff) × Nat)) (s : St) (hL : L i = false) (h1 : ∀ q ∈ l, q.2 ≠ i) (h2 : ∀ q ∈ l', q.2 ≠ i) (hd : ∀ q ∈ l', L q.2 = true → ∀ r, r ∈ p.2.W p.1.dst → r ∉ q.1.2.W q.1.1.dst) :
    sel (fun j => j == i || L j) (l ++ (p, i) :: l') s = p.2.onq (sel L (l ++ (p, i) :: l') s) p.1.dst := by
  rw [sel_app, sel_app]
  simp only [sel, hL, beq_self_eq_true, Bool.true_or, if_true, Bool.false_eq_true, if_false]
  rw [sel_congr (L := fun j => j == i || L j) (L' := L) l s (fun q hq => by simp [h1 q hq]), sel_congr (L := fun j => j == i || L j) (L' := L) l' _ (fun q hq => by simp [h2 q hq])]
  exact sel_comm L p.2 p.1.dst l' _ hd

/-- an operation looks at what it reads alone -/
theorem deff_congr {ops : Array Oper} {st' : St} (h : deff P F ops st o = some e) (hr : ∀ r ∈ readsOf ops o e, st'.gt r = st.gt r) : deff P F ops st' o = some e := by
  have hw : dwant ops o st'.at = dwant ops o st.at := by
    unfold dwant
    cases hg : o.guard with
    | none => rfl
    | some p =>
      obtain ⟨j, want⟩ := p
      simp only
      cases hj : (ops[j]?).bind (·.dst) with
      | none => rfl
      | some i =>
        have := hr (.t i) (by simp only [readsOf, List.mem_append]; exact .inl (.inr (by simp [hg, hj])))
        simp only [St.gt, Sum.inl.injEq] at this
        simp only [this]
  have hrd : ∀ x ∈ o.op.operands, st'.rd x = st.rd x := by
    intro x hx
    cases x with
    | tmp t =>
      have := hr (.t t) (by
        simp only [readsOf, List.mem_append]
        exact .inl (.inl (List.mem_map.2 ⟨t, List.mem_flatMap.2 ⟨.tmp t, by simpa using hx, by simp [tmpOf]⟩, rfl⟩)))
      simp only [St.gt, Sum.inl.injEq] at this
      simp only [St.rd, this]
    | _ => rfl
  unfold deff at h ⊢
  rw [hw]
  simp only [Option.bind_eq_some_iff] at h ⊢
  obtain ⟨q, hq, h⟩ := h
  refine ⟨q, hq, ?_⟩
  cases q with
  | false => exact h
  | true =>
    simp only [if_true] at h ⊢
    rw [dop_rho hrd]
    refine dop_beta h fun b hb => ?_
    have := hr (.b b) (by simp only [readsOf, List.mem_append]; exact .inr (by simp [hb]))
    simpa only [St.gt, Sum.inr.injEq] using this

theorem dtr_len {ops : Array Oper} : ∀ (l : List Oper) (s : St) (es : List Eff), dtr P F ops l s = some es → es.length = l.length
  | [], s, es, h => by simp only [dtr, Option.some.injEq] at h; subst h; rfl
  | o :: l, s, es, h => by
    simp only [dtr, Option.bind_eq_some_iff, Option.map_eq_some_iff] at h
    obtain ⟨e, _, es', h', rfl⟩ := h
    simp [dtr_len l _ es' h']
/-- each is told behind those ahead of it -/
theorem dtr_spec {ops : Array Oper} : ∀ (l : List Oper) (s : St) (es : List Eff) (k0 k : Nat) (o : Oper) (e : Eff), dtr P F ops l s = some es → l[k]? = some o → es[k]? = some e → deff P F ops (sel (fun j => decide (j < k0 + k)) ((l.zip es).zipIdx k0) s) o = some e
  | [], s, es, k0, k, o, e, h, ho, he => by simp at ho
  | o' :: l, s, es, k0, k, o, e, h, ho, he => by
    simp only [dtr, Option.bind_eq_some_iff, Option.map_eq_some_iff] at h
    obtain ⟨e', hd, es', h', rfl⟩ := h
    simp only [List.zip_cons_cons, List.zipIdx_cons, sel]
    cases k with
    | zero =>
      simp only [List.getElem?_cons_zero, Option.some.injEq] at ho he
      subst ho he
      have : sel (fun j => decide (j < k0 + 0)) ((l.zip es').zipIdx (k0 + 1)) s = s := by
        have hn : ∀ p ∈ (l.zip es').zipIdx (k0 + 1), decide (p.2 < k0 + 0) = false := fun p hp => by
          have := List.le_snd_of_mem_zipIdx hp
          simp; omega
        generalize (l.zip es').zipIdx (k0 + 1) = L at hn
        induction L with
        | nil => rfl
        | cons p L ih =>
          simp only [sel]
          rw [if_neg (by rw [hn p (List.mem_cons_self ..)]; simp)]
          exact ih fun q hq => hn q (List.mem_cons_of_mem _ hq)
      rw [if_neg (by simp), this]
      exact hd
    | succ k =>
      simp only [List.getElem?_cons_succ] at ho he
      have := dtr_spec l _ es' (k0 + 1) k o e h' ho he
      rw [if_pos (by simp), show k0 + (k + 1) = k0 + 1 + k by omega]
      exact this

theorem refs_strip (b : Nat) (d : D) : refs b (strip d) = refs b d := by cases d <;> rfl
theorem refc_strip (b : Nat) (d : D) : refc b (strip d) = refc b d := by cases d <;> rfl
theorem strips_bp (b : Nat) (gone : List Tmp) : ∀ (t : List D) (i : Nat), refs b (t.getD i .undef) = false → refs b ((gone.foldl stripAt t).getD i .undef) = false := by
  induction gone with
  | nil => intro t i h; exact h
  | cons s l ih =>
    intro t i h
    rw [List.foldl_cons]
    refine ih _ _ ?_
    rw [stripAt_at]
    split
    · rw [refs_strip]; exact h
    · exact h
/-- no place of that variable stands anywhere -/
def Norefs (b : Nat) (s : St) : Prop := (∀ x, refs b (s.at x) = false) ∧ ∀ k cs, s.bx k = some cs → cs.any (refc b) = false
theorem any_stripAt (b : Nat) (cs : List D) (off : Nat) (h : cs.any (refc b) = false) : (stripAt cs off).any (refc b) = false := by
  rw [List.any_eq_false] at h ⊢
  intro d hd
  obtain ⟨i, hi, rfl⟩ := List.mem_iff_getElem.1 hd
  rw [stripAt_get]
  have hi' : i < cs.length := by simpa [stripAt_len] using hi
  split
  · rw [refc_strip]; exact h _ (List.getElem_mem hi')
  · exact h _ (List.getElem_mem hi')
theorem onq_norefs (b : Nat) (e : Eff) (s : St) (dst : Option Tmp) (h : Norefs b s) (he : refsE b e = false) : Norefs b (e.onq s dst) := by
  unfold refsE at he
  simp only [Bool.or_eq_false_iff] at he
  obtain ⟨⟨h1, h2⟩, h3⟩ := he
  refine ⟨fun x => ?_, fun k cs hk => ?_⟩
  · rw [onq_at]
    split
    · exact h1
    · exact strips_bp b _ _ _ (h.1 x)
  · have hk' : (e.onb s.b dst).getD k none = some cs := by rw [← onq_b]; exact hk
    rw [onb_at] at hk'
    have hb : ∀ cs, s.b.getD k none = some cs → cs.any (refc b) = false := fun cs hc => h.2 k cs hc
    have step1 : ∀ cs, (match e.box with | some cs => if dst.getD 0 = k ∧ k < s.b.length then some cs else s.b.getD k none | none => s.b.getD k none) = some cs → cs.any (refc b) = false := by
      intro cs hc
      cases hbx : e.box with
      | none => rw [hbx] at hc; exact hb cs hc
      | some c0 =>
        rw [hbx] at hc h2
        simp only at hc
        split at hc
        · simp only [Option.some.injEq] at hc; subst hc; simpa using h2
        · exact hb cs hc
    generalize (match e.box with | some cs => if dst.getD 0 = k ∧ k < s.b.length then some cs else s.b.getD k none | none => s.b.getD k none) = x1 at hk' step1
    have step2 : ∀ cs, (match e.gb with | some (k', off) => if k' = k then x1.map (fun cs => stripAt cs off) else x1 | none => x1) = some cs → cs.any (refc b) = false := by
      intro cs hc
      cases hgb : e.gb with
      | none => rw [hgb] at hc; exact step1 cs hc
      | some p =>
        obtain ⟨k', off⟩ := p
        rw [hgb] at hc
        simp only at hc
        split at hc
        · rw [Option.map_eq_some_iff] at hc
          obtain ⟨c0, hc0, rfl⟩ := hc
          exact any_stripAt b c0 off (step1 c0 hc0)
        · exact step1 cs hc
    simp only at hk'
    generalize (match e.gb with | some (k', off) => if k' = k then x1.map (fun cs => stripAt cs off) else x1 | none => x1) = x2 at hk' step2
    cases hst : e.st with
    | none => rw [hst] at hk'; exact step2 cs hk'
    | some p =>
      obtain ⟨k', off, c1⟩ := p
      rw [hst] at hk' h3
      simp only at hk'
      split at hk'
      · rw [Option.map_eq_some_iff] at hk'
        obtain ⟨c0, hc0, rfl⟩ := hk'
        have q0 := step2 c0 hc0
        have q1 : c1.any (refc b) = false := by simpa using h3
        rw [List.any_eq_false] at q0 q1 ⊢
        intro d hd
        simp only [setCells, List.mem_append] at hd
        rcases hd with (hd | hd) | hd
        · exact q0 d (List.mem_of_mem_take hd)
        · exact q1 d hd
        · exact q0 d (List.mem_of_mem_drop hd)
      · exact step2 cs hk'
theorem sel_nobp (L : Nat → Bool) (b : Nat) : ∀ (l : List ((Oper × Eff) × Nat)) (s : St), Norefs b s → (∀ p ∈ l, L p.2 = true → refsE b p.1.2 = false) → Norefs b (sel L l s)
  | [], s, h, _ => h
  | p :: l, s, h, hd => by
    simp only [sel]
    refine sel_nobp L b l _ ?_ (fun q hq => hd q (List.mem_cons_of_mem _ hq))
    split
    · rename_i hp
      exact onq_norefs b _ _ _ h (hd p (List.mem_cons_self ..) hp)
    · exact h
theorem kill_nobp {b : Nat} {d : D} (h : refs b d = false) : kill b d = d := by
  unfold kill
  rw [h]; rfl
/-- where no place of the new variable is held, nothing is forgotten -/
theorem on_onq (e : Eff) (st : St) (dst : Option Tmp) (h : e.box.isSome = true → Norefs (dst.getD 0) st) : e.on st dst = e.onq st dst := by
  have ht : (match e.box with | some _ => (e.gone.foldl stripAt st.t).map (kill (dst.getD 0)) | none => e.gone.foldl stripAt st.t) = e.gone.foldl stripAt st.t := by
    cases hb : e.box with
    | none => rfl
    | some cs =>
      simp only
      refine List.ext_getElem (by simp) fun i h1 h2 => ?_
      rw [List.getElem_map]
      refine kill_nobp ?_
      have := strips_bp (dst.getD 0) e.gone st.t i ((h (by rw [hb]; rfl)).1 i)
      rw [List.getD_eq_getElem?_getD, List.getElem?_eq_getElem h2] at this
      exact this
  have hb : e.box.isSome = true → st.b.map (killb (dst.getD 0)) = st.b := fun hx => by
    refine List.ext_getElem (by simp) fun i h1 h2 => ?_
    rw [List.getElem_map]
    cases hc : st.b[i] with
    | none => rfl
    | some cs =>
      have := (h hx).2 i cs (by simp only [St.bx, List.getD_eq_getElem?_getD, List.getElem?_eq_getElem h2, hc]; rfl)
      simp only [killb, Option.bind_some, this]
      rfl
  unfold Eff.on Eff.onq Eff.onb
  simp only [ht]
  cases hbx : e.box with
  | none => rfl
  | some cs => simp only [hb (by rw [hbx]; rfl)]

theorem undef1_inv (I : Inv Z0 w0 Z O st a w) (o : Oper) : Inv Z0 w0 Z O (undef1 st o) a w := by
  unfold undef1
  split
  · rename_i d hd
    have J : Inv Z0 w0 Z O ⟨st.t.map (kill d), st.b.map (killb d)⟩ a w := {
      tsz := by rw [I.tsz]; simp
      tv := fun i h h' => by
        have hi : i < st.t.length := by simpa using h
        simp only [List.getElem_map]
        exact (I.tv i hi h').kill (FZ.le_refl Z) (fun _ _ _ h => h) (fun _ _ _ _ _ hg => ⟨hg, rfl, fun _ h => h⟩)
      bv := fun b cs hb => by
        have hb' : (st.b.map (killb d)).getD b none = some cs := hb
        rw [getD_map_killb] at hb'
        exact I.bv b cs (killb_some hb').1
      uq := I.uq, ob := I.ob, ag := I.ag, bl := I.bl, df := I.df, zn := I.zn, bs := I.bs }
    exact J.forget d
  · exact I
theorem undefs_inv (I : Inv Z0 w0 Z O st a w) (ops : Array Oper) : Inv Z0 w0 Z O (undefs ops st) a w := by
  have : ∀ (l : List Oper) (s : St), Inv Z0 w0 Z O s a w → Inv Z0 w0 Z O (l.foldl undef1 s) a w := by
    intro l
    induction l with
    | nil => exact fun _ h => h
    | cons o l ih => exact fun s h => ih _ (undef1_inv h o)
  exact this ops.toList st I

theorem Inv.drew (I : Inv Z0 w0 Z O st a w) : Inv Z0 w0 Z O st a w.drew where
  tsz := I.tsz
  tv := fun i h h' => (I.tv i h h').move (FZ.le_refl Z) (fun _ _ h => h) (fun _ _ _ _ _ hg => ⟨hg, rfl, fun _ h => h⟩)
  bv := fun b cs hb => by
    obtain ⟨g, xs, e, h1, h2, h3, h4, h5⟩ := I.bv b cs hb
    exact ⟨g, xs, e, h1, h2, h3, fun j h h' => ⟨(h4 j h h').1.move (FZ.le_refl Z) (fun _ _ h => h) (fun _ _ _ _ _ hg => ⟨hg, rfl, fun _ h => h⟩), (h4 j h h').2⟩, h5⟩
  uq := I.uq
  ob := I.ob
  ag := fun b o x h => I.ag b o x h
  bl := I.bl.drew
  df := I.df
  zn := I.zn
  bs := I.bs

theorem undef1_nobp (b : Nat) (o : Oper) (s : St) (h : Norefs b s ∨ (mkr o.op = true ∧ o.dst = some b)) : Norefs b (undef1 s o) := by
  unfold undef1
  have hk : ∀ d x, refs b (kill d x) = true → refs b x = true ∧ (d = b → False) := by
    intro d x hx
    unfold kill at hx
    split at hx
    · cases hx
    · rename_i hr
      exact ⟨hx, fun e => by subst e; exact hr hx⟩
  have hkb : ∀ d c cs, killb d c = some cs → c = some cs ∧ (d = b → cs.any (refc b) = false) := by
    intro d c cs hc
    obtain ⟨h1, h2⟩ := killb_some hc
    exact ⟨h1, fun e => by subst e; exact h2⟩
  cases ho : (if mkr o.op = true then o.dst else none) with
  | none =>
    rcases h with h | h
    · exact h
    · rw [if_pos h.1, h.2] at ho; cases ho
  | some d =>
    have hd : Norefs b s ∨ d = b := by
      rcases h with h | h
      · exact .inl h
      · rw [if_pos h.1, h.2] at ho; simp only [Option.some.injEq] at ho; exact .inr ho.symm
    refine ⟨fun x => ?_, fun k cs hc => ?_⟩
    · show refs b (((s.t.map (kill d)).set d .undef).getD x .undef) = false
      rw [set_at]
      split
      · rfl
      · have e1 : (s.t.map (kill d)).getD x .undef = kill d (s.t.getD x .undef) := by
          simp only [List.getD_eq_getElem?_getD, List.getElem?_map]
          cases s.t[x]? <;> rfl
        rw [e1]
        cases hb : refs b (kill d (s.t.getD x .undef)) with
        | false => rfl
        | true =>
          obtain ⟨h1, h2⟩ := hk d _ hb
          rcases hd with hd | hd
          · have := hd.1 x
            rw [St.at, h1] at this; cases this
          · exact (h2 hd).elim
    · have hc' : (s.b.map (killb d)).getD k none = some cs := hc
      rw [getD_map_killb] at hc'
      obtain ⟨h1, h2⟩ := hkb d _ cs hc'
      rcases hd with hd | hd
      · exact hd.2 k cs h1
      · exact h2 hd
theorem undefs_nobp (b : Nat) (ops : Array Oper) (h : ∃ o ∈ ops.toList, mkr o.op = true ∧ o.dst = some b) : Norefs b (undefs ops st) := by
  have key : ∀ (l : List Oper) (s : St), (Norefs b s ∨ ∃ o ∈ l, mkr o.op = true ∧ o.dst = some b) → Norefs b (l.foldl undef1 s) := by
    intro l
    induction l with
    | nil =>
      intro s h
      rcases h with h | ⟨o, ho, _⟩
      · exact h
      · cases ho
    | cons o l ih =>
      intro s h
      refine ih _ ?_
      rcases h with h | ⟨o', ho, hd⟩
      · exact .inl (undef1_nobp b o s (.inl h))
      · rcases List.mem_cons.1 ho with rfl | ho
        · exact .inl (undef1_nobp b o' s (.inr hd))
        · exact .inr ⟨o', ho, hd⟩
  exact key ops.toList st (.inr h)

theorem dall_sel : ∀ (l : List Oper) (es : List Eff) (k : Nat) (s : St), dall l es s = sel (fun _ => true) ((l.zip es).zipIdx k) s
  | [], es, k, s => rfl
  | o :: l, [], k, s => rfl
  | o :: l, e :: es, k, s => by
    have := dall_sel l es (k + 1) (e.onq s o.dst)
    simp only [dall, List.zip_cons_cons, List.foldl_cons, List.zipIdx_cons, sel, if_true] at this ⊢
    exact this
theorem countF : ∀ (l : List Bool) (i : Nat), l[i]? = some false → (l.set i true).countP (!·) + 1 = l.countP (!·)
  | [], i, h => by simp at h
  | b :: l, 0, h => by
    simp only [List.getElem?_cons_zero, Option.some.injEq] at h
    subst h
    simp
  | b :: l, i + 1, h => by
    simp only [List.getElem?_cons_succ] at h
    have := countF l i h
    simp only [List.set_cons_succ, List.countP_cons]
    omega
theorem okTr_spec {ops : Array Oper} {z : List ((Oper × Eff) × Nat)} (h : okTr ops z = true) {p : (Oper × Eff) × Nat} (hp : p ∈ z) :
    (∀ e ∈ p.1.1.after, Region.binds .any e = true → e.on < p.2) ∧ (p.1.2.box.isSome = true → p.1.1.dst.isSome = true) ∧ ∀ q ∈ z, (p.2 < q.2 → okPair ops p.2 p.1.1 p.1.2 q.1.1 q.1.2 = true) ∧ (p.2 = q.2 ∨ p.1.2.box = none ∨ refsE (p.1.1.dst.getD 0) q.1.2 = false ∨ waits q.1.1 p.2 = true) := by
  have h1 := List.all_eq_true.1 h p hp
  simp only [Bool.and_eq_true, List.all_eq_true] at h1
  obtain ⟨⟨h1, h2⟩, h3⟩ := h1
  refine ⟨fun e he hb => ?_, fun hb => ?_, fun q hq => ⟨fun hlt => ?_, ?_⟩⟩
  · have := Array.all_eq_true_iff_forall_mem.1 h1 e he
    simpa [hb] using this
  · rcases Bool.or_eq_true_iff.1 h2 with h2 | h2
    · cases hx : p.1.2.box with
      | none => rw [hx] at hb; cases hb
      | some _ => rw [hx] at h2; cases h2
    · exact h2
  · have := (h3 q hq).1
    rwa [if_pos hlt] at this
  · have := (h3 q hq).2
    simp only [Bool.or_eq_true, beq_iff_eq, Bool.not_eq_true', Option.isNone_iff_eq_none] at this
    rcases this with ((h | h) | h) | h
    · exact .inl h
    · exact .inr (.inl h)
    · exact .inr (.inr (.inl h))
    · exact .inr (.inr (.inr h))
theorem waits_spec {o : Oper} {i : Nat} (h : waits o i = true) : ∃ e ∈ o.after, Region.binds .any e = true ∧ e.on = i := by
  unfold waits at h
  rw [Array.any_eq_true] at h
  obtain ⟨k, hk, h⟩ := h
  simp only [Bool.and_eq_true, beq_iff_eq] at h
  exact ⟨o.after[k], Array.getElem_mem hk, h.1, h.2⟩
theorem okPair_spec {ops : Array Oper} {i : Nat} {oi oj : Oper} {ei ej : Eff} (h : okPair ops i oi ei oj ej = true) :
    waits oj i = true ∨ ((∀ r, r ∈ ei.W oi.dst → r ∉ readsOf ops oj ej ∧ r ∉ ej.W oj.dst) ∧ ∀ r, r ∈ readsOf ops oi ei → r ∉ ej.W oj.dst) := by
  unfold okPair at h
  simp only [Bool.or_eq_true, Bool.and_eq_true, List.all_eq_true, Bool.not_eq_true', List.contains_eq_mem, decide_eq_false_iff_not] at h
  exact h
theorem dop_mkr {ρ : Operand → Option D} {β : Nat → Option (List D)} (h : dop P F tk ρ β o = some e) (hb : e.box.isSome = true) : mkr o.op = true := by
  cases ho : o.op with
  | alloc => rfl
  | box => rfl
  | makeSlice => rfl
  | _ =>
    exfalso
    have key : ∀ (e : Eff), e.box.isSome = true → e.box = none → False := fun e h h' => by rw [h'] at h; cases h
    refine key e hb ?_
    clear hb key
    unfold dop at h
    simp only [ho] at h
    repeat' (first | rfl | (simp only [Option.bind_eq_some_iff, Option.map_eq_some_iff, Option.some.injEq] at h) | (obtain ⟨_, h⟩ := h) | (subst h; rfl) | (cases h; done) | split at h)
theorem deff_mkr {ops : Array Oper} (h : deff P F ops st o = some e) (hb : e.box.isSome = true) : mkr o.op = true := by
  simp only [deff, Option.bind_eq_some_iff] at h
  obtain ⟨q, _, h⟩ := h
  cases q
  · simp at h; subst h; cases hb
  · exact dop_mkr (by simpa using h) hb
theorem any_go (hF : SoundF P F) {ops : Array Oper} {es : List Eff} {s0 : St} (hd : dtr P F ops ops.toList s0 = some es) (hok : okTr ops (ops.toList.zip es).zipIdx = true)
    (hs0 : ∀ b, (∃ o ∈ ops.toList, mkr o.op = true ∧ o.dst = some b) → Norefs b s0)
    (hQ : ∀ Z' O' a' w', Z.le Z' → Inv Z0 w0 Z' O' (sel (fun _ => true) (ops.toList.zip es).zipIdx s0) a' w' → Q .normal a' w') :
    ∀ (fuel : Nat) (listed : Array Bool) (Z' : FZ) (O' : OM) (a : Act) (w : World), Z.le Z' → listed.size = ops.size →
      (∀ (j : Nat) (o : Oper), listed.getD j false = true → ops[j]? = some o → ∀ e ∈ o.after, Region.binds .any e = true → listed.getD e.on false = true) →
      Inv Z0 w0 Z' O' (sel (fun j => listed.getD j false) (ops.toList.zip es).zipIdx s0) a w → listed.toList.countP (!·) ≤ fuel → wpAny P .any ops Q fuel listed a w := by
  have hlen := dtr_len _ _ _ hd
  have hz : ∀ p, p ∈ (ops.toList.zip es).zipIdx ↔ ops[p.2]? = some p.1.1 ∧ es[p.2]? = some p.1.2 := by
    intro p
    rw [List.mem_zipIdx_iff_getElem?, List.getElem?_zip_eq_some]
    simp
  have hmk : ∀ (i : Nat) (o : Oper), ops[i]? = some o → ∃ e, es[i]? = some e := by
    intro i o ho
    have hi : i < ops.size := (Array.getElem?_eq_some_iff.1 ho).1
    exact ⟨es[i]'(by rw [hlen]; simpa using hi), List.getElem?_eq_getElem _⟩
  have hall : ∀ (listed : Array Bool), listed.size = ops.size → (∀ j, j < ops.size → listed.getD j false = true) → sel (fun j => listed.getD j false) (ops.toList.zip es).zipIdx s0 = sel (fun _ => true) (ops.toList.zip es).zipIdx s0 := by
    intro listed _ h
    refine sel_congr _ _ fun p hp => ?_
    have := (hz p).1 hp
    exact h p.2 (Array.getElem?_eq_some_iff.1 this.1).1
  have hend : ∀ (listed : Array Bool), listed.size = ops.size → Region.ready .any ops listed = [] → ∀ j, j < ops.size → listed.getD j false = true := by
    intro listed hsz hr
    intro j
    induction j using Nat.strongRecOn with
    | _ j ih =>
      intro hj
      cases hl : listed.getD j false with
      | true => rfl
      | false =>
        exfalso
        have ho : ops[j]? = some ops[j] := Array.getElem?_eq_getElem hj
        obtain ⟨e, he⟩ := hmk j _ ho
        have hmem : j ∈ Region.ready .any ops listed := by
          rw [mem_ready]
          refine ⟨?_, _, ho, fun e' he' hb => ?_⟩
          · have hj' : j < listed.size := by rw [hsz]; exact hj
            simp only [Array.getD, hj', dif_pos] at hl ⊢
            exact hl
          · have hlt := (okTr_spec hok ((hz ((ops[j], e), j)).2 ⟨ho, he⟩)).1 e' he' hb
            exact ih _ hlt (Nat.lt_trans hlt hj)
        rw [hr] at hmem
        cases hmem
  intro fuel
  induction fuel with
  | zero =>
    intro listed Z' O' a w hZ hsz hcl I hc
    have hc0 : listed.toList.countP (!·) = 0 := Nat.le_zero.1 hc
    have hl : ∀ j, j < ops.size → listed.getD j false = true := by
      intro j hj
      have hj' : j < listed.size := by rw [hsz]; exact hj
      have := List.countP_eq_zero.1 hc0 (listed[j]) (by simp)
      simp only [Array.getD, hj', dif_pos]
      simpa using this
    refine ⟨?_, hQ Z' O' a w hZ (by rw [← hall listed hsz hl]; exact I)⟩
    cases hr : Region.ready .any ops listed with
    | nil => rfl
    | cons i r =>
      have hm : i ∈ Region.ready .any ops listed := by rw [hr]; exact List.mem_cons_self ..
      rw [mem_ready] at hm
      obtain ⟨h0, o, ho, _⟩ := hm
      have hi : i < ops.size := (Array.getElem?_eq_some_iff.1 ho).1
      have h1 := hl i hi
      have hi' : i < listed.size := by rw [hsz]; exact hi
      simp only [Array.getD, hi', dif_pos] at h0 h1
      rw [h0] at h1; cases h1
  | succ fuel ih =>
    intro listed Z' O' a w hZ hsz hcl I hc
    refine ⟨fun hr => hQ Z' O' a w hZ (by rw [← hall listed hsz (hend listed hsz hr)]; exact I), fun i hi => ?_⟩
    rw [mem_ready] at hi
    obtain ⟨h0, o, ho, haft⟩ := hi
    have hlt : i < ops.size := (Array.getElem?_eq_some_iff.1 ho).1
    have hlt' : i < listed.size := by rw [hsz]; exact hlt
    have hLi : listed.getD i false = false := by
      simp only [Array.getD, hlt', dif_pos] at h0 ⊢
      exact h0
    obtain ⟨e, he⟩ := hmk i o ho
    have hpi : ((o, e), i) ∈ (ops.toList.zip es).zipIdx := (hz ((o, e), i)).2 ⟨ho, he⟩
    have hspec := okTr_spec hok hpi
    have hdef := dtr_spec ops.toList s0 es 0 i o e hd (by simpa using ho) he
    rw [Nat.zero_add] at hdef
    have hdef' : deff P F ops (sel (fun j => listed.getD j false) (ops.toList.zip es).zipIdx s0) o = some e := by
      refine deff_congr hdef fun r hr => ?_
      refine sel_read _ _ r _ _ _ rfl rfl rfl fun p hp hne => ?_
      have hp' := (hz p).1 hp
      rcases Nat.lt_trichotomy p.2 i with hlt2 | heq | hgt
      · have hLp : listed.getD p.2 false = false := by
          cases hx : listed.getD p.2 false with
          | false => rfl
          | true => rw [hx] at hne; simp [hlt2] at hne
        rcases okPair_spec (((okTr_spec hok hp).2.2 _ hpi).1 hlt2) with hw | hw
        · obtain ⟨ed, hed, hb, hon⟩ := waits_spec hw
          have := haft ed hed hb
          rw [hon, hLp] at this; cases this
        · exact fun hm => (hw.1 r hm).1 hr
      · rw [heq, hLi] at hne; simp at hne
      · have hLp : listed.getD p.2 false = true := by
          cases hx : listed.getD p.2 false with
          | true => rfl
          | false =>
            rw [hx] at hne
            have : ¬ p.2 < i := by omega
            simp [this] at hne
        rcases okPair_spec ((hspec.2.2 p hp).1 hgt) with hw | hw
        · obtain ⟨ed, hed, hb, hon⟩ := waits_spec hw
          have := hcl p.2 p.1.1 hLp hp'.1 ed hed hb
          simp only at hon
          rw [hon, hLi] at this; cases this
        · exact hw.2 r hr
    refine deff_sound hF ho hdef' I fun x Z2 O2 w2 hZ2 I2 => ?_
    have hon : e.on (sel (fun j => listed.getD j false) (ops.toList.zip es).zipIdx s0) o.dst = e.onq (sel (fun j => listed.getD j false) (ops.toList.zip es).zipIdx s0) o.dst := by
      refine on_onq _ _ _ fun hb => ?_
      have hds := hspec.2.1 hb
      simp only at hds
      obtain ⟨b, hdst⟩ := Option.isSome_iff_exists.1 hds
      rw [hdst]
      refine sel_nobp _ b _ _ (hs0 b ⟨o, ?_, deff_mkr hdef' hb, hdst⟩) fun p hp hL => ?_
      · exact Array.mem_toList_iff.2 (Array.mem_of_getElem? ho)
      · have hp' := (hz p).1 hp
        rcases (hspec.2.2 p hp).2 with h | h | h | h
        · simp only at h
          rw [← h, hLi] at hL; cases hL
        · simp only at h
          rw [h] at hb; cases hb
        · simp only [hdst] at h
          exact h
        · obtain ⟨ed, hed, hb', hon⟩ := waits_spec h
          have := hcl p.2 p.1.1 hL hp'.1 ed hed hb'
          simp only at hon
          rw [hon, hLi] at this; cases this
    rw [hon] at I2
    have hsplit : (ops.toList.zip es).zipIdx = (ops.toList.zip es).zipIdx.take i ++ ((o, e), i) :: (ops.toList.zip es).zipIdx.drop (i + 1) := by
      have hi2 : i < (ops.toList.zip es).zipIdx.length := by simp [hlen, hlt]
      have hge : (ops.toList.zip es).zipIdx[i] = ((o, e), i) := by
        have h1 : ops[i] = o := by
          rw [Array.getElem?_eq_getElem hlt] at ho; exact Option.some.inj ho
        have h2 : es[i]'(by rw [hlen]; simpa using hlt) = e := by
          rw [List.getElem?_eq_getElem (by rw [hlen]; simpa using hlt)] at he; exact Option.some.inj he
        simp [h1, h2]
      rw [← hge, List.getElem_cons_drop, List.take_append_drop]
    have hidx : ∀ q ∈ (ops.toList.zip es).zipIdx, ∀ k, (ops.toList.zip es).zipIdx[k]? = some q → q.2 = k := by
      intro q _ k hk
      rw [List.getElem?_zipIdx] at hk
      simp only [Option.map_eq_some_iff] at hk
      obtain ⟨_, _, rfl⟩ := hk
      simp
    have hadd := sel_add (fun j => listed.getD j false) i (o, e) ((ops.toList.zip es).zipIdx.take i) ((ops.toList.zip es).zipIdx.drop (i + 1)) s0 hLi
      (fun q hq => by
        obtain ⟨k, hk, hkq⟩ := List.mem_iff_getElem?.1 hq |>.imp fun k hk => (⟨(List.getElem?_eq_some_iff.1 hk).1, hk⟩ : k < ((ops.toList.zip es).zipIdx.take i).length ∧ _)
        have hk' : k < i := by simp at hk; omega
        have := hidx q (List.mem_of_mem_take hq) k (by rw [List.getElem?_take_of_lt hk'] at hkq; exact hkq)
        omega)
      (fun q hq => by
        obtain ⟨k, hkq⟩ := List.mem_iff_getElem?.1 hq
        have := hidx q (List.mem_of_mem_drop hq) (i + 1 + k) (by rw [List.getElem?_drop] at hkq; exact hkq)
        omega)
      (fun q hq hL r hr => by
        have hq' := List.mem_of_mem_drop hq
        obtain ⟨k, hkq⟩ := List.mem_iff_getElem?.1 hq
        have hgt := hidx q hq' (i + 1 + k) (by rw [List.getElem?_drop] at hkq; exact hkq)
        have hqq := (hz q).1 hq'
        rcases okPair_spec ((hspec.2.2 q hq').1 (by simp only; omega)) with hw | hw
        · obtain ⟨ed, hed, hb, hon⟩ := waits_spec hw
          have := hcl q.2 q.1.1 hL hqq.1 ed hed hb
          simp only at hon
          rw [hon, hLi] at this; cases this
        · exact (hw.1 r hr).2)
    rw [← hsplit] at hadd
    simp only at hadd
    rw [← hadd] at I2
    refine ih (listed.setIfInBounds i true) Z2 O2 _ w2 (FZ.le_trans hZ hZ2) (by simp [hsz]) (fun j o' hj ho' ed hed hb => ?_) ?_ ?_
    · by_cases hji : j = i
      · subst hji
        rw [ho] at ho'
        simp only [Option.some.injEq] at ho'
        subst ho'
        exact getD_set_true (haft ed hed hb)
      · rw [getD_set_ne false (Ne.symm hji)] at hj
        exact getD_set_true (hcl j o' hj ho' ed hed hb)
    · have hc : sel (fun j => (listed.setIfInBounds i true).getD j false) (ops.toList.zip es).zipIdx s0 = sel (fun j => j == i || listed.getD j false) (ops.toList.zip es).zipIdx s0 := by
        refine sel_congr _ _ fun p hp => ?_
        by_cases hji : p.2 = i
        · rw [hji]
          simp [Array.getD, hlt']
        · rw [getD_set_ne false (Ne.symm hji)]
          simp [hji]
      rw [hc]; exact I2
    · have h1 : listed.toList[i]? = some false := by
        rw [Array.getElem?_toList, Array.getElem?_eq_getElem hlt']
        simp only [Array.getD, hlt', dif_pos] at hLi
        rw [← hLi]; rfl
      have := countF listed.toList i h1
      rw [Array.toList_setIfInBounds]
      omega
theorem sound_any (hm : P.follows .mixedOrders = true) : SoundAny P := by
  intro F hF Z0 w0 w Z O st a Q id ops es hd hok I hQ
  refine wp_region_any hm ?_
  refine any_go (Z0 := Z0) (w0 := w0) hF hd hok (fun b hb => undefs_nobp b ops hb) (Z := Z) (fun Z' O' a' w' hZ I' => ?_) ops.size (Array.replicate ops.size false) Z O a _ (FZ.le_refl Z) (by simp) ?_ ?_ ?_
  · rw [← dall_sel] at I'
    exact hQ Z' O' a' w' hZ I'
  · intro j o hj
    exfalso
    simp only [Array.getD] at hj
    split at hj
    · simp at hj
    · cases hj
  · have hs : sel (fun j => (Array.replicate ops.size false).getD j false) (ops.toList.zip es).zipIdx (undefs ops st) = undefs ops st := by
      have hn : ∀ j, (Array.replicate ops.size false).getD j false = false := by
        intro j
        simp only [Array.getD]
        split
        · simp
        · rfl
      simp only [hn]
      generalize (ops.toList.zip es).zipIdx = l
      induction l with
      | nil => rfl
      | cons p l ih => simp only [sel]; exact ih
    rw [hs]
    exact (undefs_inv I ops).drew
  · have := List.countP_le_length (p := (!·)) (l := (Array.replicate ops.size false).toList)
    simpa using this

end

end Go.Eng
