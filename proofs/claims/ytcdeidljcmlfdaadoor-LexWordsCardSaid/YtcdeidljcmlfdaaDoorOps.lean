/- Each operation by values, as one rewrites with it (the session's own words). -/
import Derived.Test.YtcdeidljcmlfdaaDoorStep
import Derived.Laws.Strings
namespace Go.Eng
open Go.RowKit
set_option linter.unusedVariables false
set_option linter.unusedSimpArgs false

/-! ### What is known of types -/
def kindT (P : Program) (t : TypeId) : Option Bool := (P.underlying t).map isAggD
/-- how long an array is (none: it is a slice), an element's size -/
def ixT (P : Program) (t : TypeId) : Option (Option Nat × Nat) := match P.underlying t with
  | some (.slice e) => (sizeT P e).map fun k => (none, k)
  | some (.array n e) => (sizeT P e).map fun k => (some n, k)
  | _ => none
def elT (P : Program) (t : TypeId) : Option Nat := match P.underlying t with
  | some (.slice e) => sizeT P e
  | _ => none
def isStr (P : Program) (t : TypeId) : Bool := match P.underlying t with
  | some .string => true
  | _ => false
def isSl (P : Program) (t : TypeId) : Bool := match P.underlying t with
  | some (.slice _) => true
  | _ => false
/-- an element's type, size, bytes -/
def apT (P : Program) (t : TypeId) : Option (TypeId × Nat × Nat) := match P.underlying t with
  | some (.slice e) => (P.info? e).bind fun i => if 0 < i.size ∧ (i.zero.map fun z => z.cells.size) = some i.size then some (e, i.size, i.bytes) else none
  | _ => none
/-- where a composite's parts lie -/
def placesT (P : Program) (t : TypeId) : Option (List (Nat × Nat)) := match P.underlying t with
  | some (.struct fields) => fields.toList.mapM fun f => (P.info? f.type).map fun i => (f.offset, i.size)
  | _ => none
def arrT (P : Program) (t : TypeId) : Option Nat := match P.underlying t with
  | some (.array _ e) => sizeT P e
  | _ => none

section
variable {P : Program} {F : FTy} {tk : Bool × Bool} {ρ : Operand → Option D} {β : Nat → Option (List D)} {hs : List Tmp} {ops : Array Oper} {st : St} {dst : Option Tmp} {ty : TypeId} {pos : String} {af : Array Edge} {gd : Option (Nat × Bool)} {cs : List D} {x : Value}

/-! ### Data -/
theorem isU_v : isU (.v x) = false := (rfl)
theorem isU_sl (es : List (List D)) : isU (.sl es) = false := (rfl)
theorem isU_nn : isU (.nn) = false := (rfl)
theorem isU_own (e k : Nat) (es : List (List D)) : isU (.own e k es) = false := (rfl)
theorem isU_agg : isU (.agg cs) = false := (rfl)
theorem isU_tup : isU (.tup cs) = false := (rfl)
theorem isU_bp (b o : Nat) : isU (.bp b o) = false := (rfl)
theorem isU_ep (k : Nat) (es : List (List D)) (i j : Nat) : isU (.ep k es i j) = false := (rfl)
theorem isU_bs (b o k n : Nat) : isU (.bs b o k n) = false := (rfl)
theorem isU_fn (f : FuncId) (xs ys : List D) : isU (.fn f xs ys) = false := (rfl)
theorem isU_ag2 : isU (.ag2 cs) = false := (rfl)
theorem isU_tp2 (c : Nat) (r : D) : isU (.tp2 c r cs) = false := (rfl)
theorem isU_undef : isU .undef = true := (rfl)
theorem strip_v : strip (.v x) = .v x := (rfl)
theorem strip_sl (es : List (List D)) : strip (.sl es) = .sl es := (rfl)
theorem strip_nn : strip (.nn) = .nn := (rfl)
theorem strip_ow (e k : Nat) (es : List (List D)) : strip (.own e k es) = .sl es := (rfl)
theorem strip_agg : strip (.agg cs) = .agg cs := (rfl)
theorem strip_tup : strip (.tup cs) = .tup cs := (rfl)
theorem strip_bp (b o : Nat) : strip (.bp b o) = .bp b o := (rfl)
theorem strip_ep (k : Nat) (es : List (List D)) (i j : Nat) : strip (.ep k es i j) = .ep k es i j := (rfl)
theorem strip_bs (b o k n : Nat) : strip (.bs b o k n) = .bs b o k n := (rfl)
theorem strip_fn (f : FuncId) (xs ys : List D) : strip (.fn f xs ys) = .fn f xs ys := (rfl)
theorem strip_ag2 : strip (.ag2 cs) = .agg (cs.map strip1) := (rfl)
theorem strip_tp2 (c : Nat) (r : D) : strip (.tp2 c r cs) = .tp2 c (stripR r) cs := (rfl)
theorem strip1_own (e k : Nat) (es : List (List D)) : strip1 (.own e k es) = .sl es := (rfl)
theorem strip1_v : strip1 (.v x) = .v x := (rfl)
theorem strip1_sl (es : List (List D)) : strip1 (.sl es) = .sl es := (rfl)
theorem strip1_bp (b o : Nat) : strip1 (.bp b o) = .bp b o := (rfl)
theorem strip1_bs (b o k n : Nat) : strip1 (.bs b o k n) = .bs b o k n := (rfl)
theorem strip1_fn (f : FuncId) (xs ys : List D) : strip1 (.fn f xs ys) = .fn f xs ys := (rfl)
theorem strip1_ep (k : Nat) (es : List (List D)) (i j : Nat) : strip1 (.ep k es i j) = .ep k es i j := (rfl)
theorem strip1_nn : strip1 .nn = .nn := (rfl)
theorem stripR_own (e k : Nat) (es : List (List D)) : stripR (.own e k es) = .sl es := (rfl)
theorem stripR_ag2 : stripR (.ag2 cs) = .agg (cs.map strip1) := (rfl)
theorem stripR_raw (k m : Nat) : stripR (.raw k m cs) = .undef := (rfl)
theorem stripR_agg : stripR (.agg cs) = .agg cs := (rfl)
theorem stripR_undef : stripR .undef = .undef := (rfl)
theorem stripR_sl (es : List (List D)) : stripR (.sl es) = .sl es := (rfl)
theorem stripO_ag2 : stripO (.ag2 cs) = .agg (cs.map strip1) := (rfl)
theorem strip_slx (k : Nat) (es : List (List D)) : strip (.slx k es) = .sl es := (rfl)
theorem stripO_v : stripO (.v x) = .v x := (rfl)
theorem stripO_sl (es : List (List D)) : stripO (.sl es) = .sl es := (rfl)
theorem stripO_nn : stripO (.nn) = .nn := (rfl)
theorem stripO_ow (e k : Nat) (es : List (List D)) : stripO (.own e k es) = .sl es := (rfl)
theorem stripO_agg : stripO (.agg cs) = .agg cs := (rfl)
theorem stripO_tup : stripO (.tup cs) = .tup cs := (rfl)
theorem stripO_bp (b o : Nat) : stripO (.bp b o) = .bp b o := (rfl)
theorem stripO_ep (k : Nat) (es : List (List D)) (i j : Nat) : stripO (.ep k es i j) = .ep k es i j := (rfl)
theorem stripO_bs (b o k n : Nat) : stripO (.bs b o k n) = .bs b o k n := (rfl)
theorem stripO_fn (f : FuncId) (xs ys : List D) : stripO (.fn f xs ys) = .fn f xs ys := (rfl)
theorem stripO_undef : stripO .undef = .undef := (rfl)
theorem stripO_slx (k : Nat) (es : List (List D)) : stripO (.slx k es) = .slx k es := (rfl)
theorem bsE_f (e k : Nat) (es : List (List D)) : bsE false e k es = .own e k es := (rfl)
theorem bsE_t (e k : Nat) (es : List (List D)) : bsE true e k es = .slx k es := (rfl)
theorem strip_undef : strip .undef = .undef := (rfl)
theorem fin1_int (k : IntKind) (n : Int) : fin1 (.v (.int k n)) = .v (.int k n) := (rfl)
theorem fin_int (k : IntKind) (n : Int) : fin (.v (.int k n)) = .v (.int k n) := (rfl)
theorem finR_int (k : IntKind) (n : Int) : finR (.v (.int k n)) = .v (.int k n) := (rfl)
theorem fin1_bool (b : Bool) : fin1 (.v (.bool b)) = .v (.bool b) := (rfl)
theorem fin_bool (b : Bool) : fin (.v (.bool b)) = .v (.bool b) := (rfl)
theorem finR_bool (b : Bool) : finR (.v (.bool b)) = .v (.bool b) := (rfl)
theorem fin1_str (s : ByteArray) : fin1 (.v (.string s)) = .v (.string s) := (rfl)
theorem fin_str (s : ByteArray) : fin (.v (.string s)) = .v (.string s) := (rfl)
theorem finR_str (s : ByteArray) : finR (.v (.string s)) = .v (.string s) := (rfl)
theorem fin1_func (f : Fn) (a b : Array Value) : fin1 (.v (.func f a b)) = .v (.func f a b) := (rfl)
theorem fin_func (f : Fn) (a b : Array Value) : fin (.v (.func f a b)) = .v (.func f a b) := (rfl)
theorem finR_func (f : Fn) (a b : Array Value) : finR (.v (.func f a b)) = .v (.func f a b) := (rfl)
theorem fin1_ptr (p : Option Addr) : fin1 (.v (.pointer p)) = .v (.pointer p) := (rfl)
theorem fin_ptr (p : Option Addr) : fin (.v (.pointer p)) = .v (.pointer p) := (rfl)
theorem finR_ptr (p : Option Addr) : finR (.v (.pointer p)) = .v (.pointer p) := (rfl)
theorem fin1_vagg (xs : Array Value) : fin1 (.v (.agg xs)) = .v (.agg xs) := (rfl)
theorem fin_vagg (xs : Array Value) : fin (.v (.agg xs)) = .v (.agg xs) := (rfl)
theorem finR_vagg (xs : Array Value) : finR (.v (.agg xs)) = .v (.agg xs) := (rfl)
theorem fin1_sl (es : List (List D)) : fin1 (.sl es) = .sl es := (rfl)
theorem fin1_nn : fin1 (.nn) = .nn := (rfl)
theorem fin_sl (es : List (List D)) : fin (.sl es) = .sl es := (rfl)
theorem fin_nn : fin (.nn) = .nn := (rfl)
theorem finR_sl (es : List (List D)) : finR (.sl es) = .sl es := (rfl)
theorem finR_nn : finR (.nn) = .nn := (rfl)
theorem fin1_bs (b o k n : Nat) : fin1 (.bs b o k n) = .bs b o k n := (rfl)
theorem fin_bs (b o k n : Nat) : fin (.bs b o k n) = .bs b o k n := (rfl)
theorem finR_bs (b o k n : Nat) : finR (.bs b o k n) = .bs b o k n := (rfl)
theorem fin1_fn (f : FuncId) (xs ys : List D) : fin1 (.fn f xs ys) = .fn f xs ys := (rfl)
theorem fin_fn (f : FuncId) (xs ys : List D) : fin (.fn f xs ys) = .fn f xs ys := (rfl)
theorem finR_fn (f : FuncId) (xs ys : List D) : finR (.fn f xs ys) = .fn f xs ys := (rfl)
theorem fin1_bp (b o : Nat) : fin1 (.bp b o) = .bp b o := (rfl)
theorem fin_bp (b o : Nat) : fin (.bp b o) = .bp b o := (rfl)
theorem finR_bp (b o : Nat) : finR (.bp b o) = .bp b o := (rfl)
theorem fin1_ep (k : Nat) (es : List (List D)) (i j : Nat) : fin1 (.ep k es i j) = .ep k es i j := (rfl)
theorem fin_ep (k : Nat) (es : List (List D)) (i j : Nat) : fin (.ep k es i j) = .ep k es i j := (rfl)
theorem finR_ep (k : Nat) (es : List (List D)) (i j : Nat) : finR (.ep k es i j) = .ep k es i j := (rfl)
theorem fin1_tup (cs : List D) : fin1 (.tup cs) = .tup cs := (rfl)
theorem fin_tup (cs : List D) : fin (.tup cs) = .tup cs := (rfl)
theorem finR_tup (cs : List D) : finR (.tup cs) = .tup cs := (rfl)
theorem fin1_nil : fin1 (.v (.slice none 0 0)) = .sl [] := (rfl)
theorem fin_nil : fin (.v (.slice none 0 0)) = .sl [] := (rfl)
theorem finR_nil : finR (.v (.slice none 0 0)) = .sl [] := (rfl)
theorem fin1_own (e k : Nat) (es : List (List D)) : fin1 (.own e k es) = .sl es := (rfl)
theorem fin_own (e k : Nat) (es : List (List D)) : fin (.own e k es) = .sl es := (rfl)
theorem finR_own (e k : Nat) (es : List (List D)) : finR (.own e k es) = .own e k es := (rfl)
theorem fin_agg : fin (.agg cs) = .agg (cs.map fin1) := (rfl)
theorem finR_agg : finR (.agg cs) = .agg (cs.map fin1) := (rfl)
theorem strip_strip (d : D) : strip (strip d) = strip d := by
  cases d with
  | tp2 c r ds => cases r <;> rfl
  | _ => rfl
theorem data_v : data (.v x) = true := (rfl)
theorem data_sl (es : List (List D)) : data (.sl es) = true := (rfl)
theorem data_ep (k : Nat) (es : List (List D)) (i j : Nat) : data (.ep k es i j) = true := (rfl)
theorem data_nn : data (.nn) = true := (rfl)
theorem data_agg : data (.agg cs) = cs.all nobs := (rfl)
theorem nobs_v : nobs (.v x) = true := (rfl)
theorem nobs_sl (es : List (List D)) : nobs (.sl es) = true := (rfl)
theorem nobs_ep (k : Nat) (es : List (List D)) (i j : Nat) : nobs (.ep k es i j) = true := (rfl)
theorem nobs_nn : nobs (.nn) = true := (rfl)
theorem nobs_own (e k : Nat) (es : List (List D)) : nobs (.own e k es) = true := (rfl)
theorem nobs_bs (b o k n : Nat) : nobs (.bs b o k n) = false := (rfl)
theorem nobs_bp (b o : Nat) : nobs (.bp b o) = false := (rfl)
theorem nobs_fn (f : FuncId) (xs ys : List D) : nobs (.fn f xs ys) = false := (rfl)
theorem arg_v : arg (.v x) = true := (rfl)
theorem arg_sl (es : List (List D)) : arg (.sl es) = true := (rfl)
theorem arg_ep (k : Nat) (es : List (List D)) (i j : Nat) : arg (.ep k es i j) = true := (rfl)
theorem arg_nn : arg (.nn) = true := (rfl)
theorem arg_agg : arg (.agg cs) = true := (rfl)
theorem arg_bs (b o k n : Nat) : arg (.bs b o k n) = true := (rfl)
theorem arg_bp (b o : Nat) : arg (.bp b o) = true := (rfl)
theorem arg_fn (f : FuncId) (xs ys : List D) : arg (.fn f xs ys) = true := (rfl)
theorem fn1_v : fn1 (.v x) = true := (rfl)
theorem fn1_sl (es : List (List D)) : fn1 (.sl es) = true := (rfl)
theorem fn1_ep (k : Nat) (es : List (List D)) (i j : Nat) : fn1 (.ep k es i j) = true := (rfl)
theorem fn1_nn : fn1 (.nn) = true := (rfl)
theorem fn1_bs (b o k n : Nat) : fn1 (.bs b o k n) = true := (rfl)
theorem fn1_bp (b o : Nat) : fn1 (.bp b o) = true := (rfl)
theorem finA_v (q : Bool)  : finA q (.v x) = fin (.v x) := (rfl)
theorem finA_sl (q : Bool) (es : List (List D)) : finA q (.sl es) = fin (.sl es) := (rfl)
theorem finA_ep (q : Bool) (k : Nat) (es : List (List D)) (i j : Nat) : finA q (.ep k es i j) = fin (.ep k es i j) := (rfl)
theorem finA_nn (q : Bool)  : finA q (.nn ) = fin (.nn ) := (rfl)
theorem finA_bs (q : Bool) (b o k n : Nat) : finA q (.bs b o k n) = fin (.bs b o k n) := (rfl)
theorem finA_bp (q : Bool) (b o : Nat) : finA q (.bp b o) = fin (.bp b o) := (rfl)
theorem finA_fn (q : Bool) (f : FuncId) (xs ys : List D) : finA q (.fn f xs ys) = fin (.fn f xs ys) := (rfl)
theorem finA_agg (q : Bool)  : finA q (.agg cs) = fin (.agg cs) := (rfl)
theorem finA_tup (q : Bool)  : finA q (.tup cs) = fin (.tup cs) := (rfl)
theorem finA_slx (q : Bool) (k : Nat) (es : List (List D)) : finA q (.slx k es) = fin (.slx k es) := (rfl)
theorem finA_own_t (e k : Nat) (es : List (List D)) : finA true (.own e k es) = .own e k es := (rfl)
theorem finA_own_f (e k : Nat) (es : List (List D)) : finA false (.own e k es) = .sl es := (rfl)
theorem finA_ag2 (q : Bool) : finA q (.ag2 cs) = .ag2 (cs.map finW) := (rfl)
theorem finW_v  : finW (.v x) = .v x := (rfl)
theorem finW_sl (es : List (List D)) : finW (.sl es) = .sl es := (rfl)
theorem finW_ep (k : Nat) (es : List (List D)) (i j : Nat) : finW (.ep k es i j) = .ep k es i j := (rfl)
theorem finW_nn  : finW (.nn ) = .nn  := (rfl)
theorem finW_bs (b o k n : Nat) : finW (.bs b o k n) = .bs b o k n := (rfl)
theorem finW_bp (b o : Nat) : finW (.bp b o) = .bp b o := (rfl)
theorem finW_fn (f : FuncId) (xs ys : List D) : finW (.fn f xs ys) = .fn f xs ys := (rfl)
theorem finW_own (e k : Nat) (es : List (List D)) : finW (.own e k es) = .own e k es := (rfl)
theorem finW_slx (k : Nat) (es : List (List D)) : finW (.slx k es) = .sl es := (rfl)
theorem argA_v  : argA (.v x) = arg (.v x) := (rfl)
theorem argA_sl (es : List (List D)) : argA (.sl es) = arg (.sl es) := (rfl)
theorem argA_ep (k : Nat) (es : List (List D)) (i j : Nat) : argA (.ep k es i j) = arg (.ep k es i j) := (rfl)
theorem argA_nn  : argA (.nn ) = arg (.nn ) := (rfl)
theorem argA_bs (b o k n : Nat) : argA (.bs b o k n) = arg (.bs b o k n) := (rfl)
theorem argA_bp (b o : Nat) : argA (.bp b o) = arg (.bp b o) := (rfl)
theorem argA_fn (f : FuncId) (xs ys : List D) : argA (.fn f xs ys) = arg (.fn f xs ys) := (rfl)
theorem argA_agg  : argA (.agg cs) = arg (.agg cs) := (rfl)
theorem argA_tup  : argA (.tup cs) = arg (.tup cs) := (rfl)
theorem argA_slx (k : Nat) (es : List (List D)) : argA (.slx k es) = arg (.slx k es) := (rfl)
theorem argA_own (e k : Nat) (es : List (List D)) : argA (.own e k es) = true := (rfl)
theorem argA_ag2 : argA (.ag2 cs) = true := (rfl)
theorem rt_v  : (D.v x).rt = false := (rfl)
theorem rt_sl (es : List (List D)) : (D.sl es).rt = false := (rfl)
theorem rt_ep (k : Nat) (es : List (List D)) (i j : Nat) : (D.ep k es i j).rt = false := (rfl)
theorem rt_nn  : (D.nn ).rt = false := (rfl)
theorem rt_bs (b o k n : Nat) : (D.bs b o k n).rt = false := (rfl)
theorem rt_bp (b o : Nat) : (D.bp b o).rt = false := (rfl)
theorem rt_fn (f : FuncId) (xs ys : List D) : (D.fn f xs ys).rt = false := (rfl)
theorem rt_agg  : (D.agg cs).rt = false := (rfl)
theorem rt_tup  : (D.tup cs).rt = false := (rfl)
theorem rt_slx (k : Nat) (es : List (List D)) : (D.slx k es).rt = false := (rfl)
theorem rt_own (e k : Nat) (es : List (List D)) : (D.own e k es).rt = true := (rfl)
theorem rt_ag2 : (D.ag2 cs).rt = true := (rfl)
theorem box1_v : box1 (.v x) = [] := (rfl)
theorem box1_sl (es : List (List D)) : box1 (.sl es) = [] := (rfl)
theorem box1_ep (k : Nat) (es : List (List D)) (i j : Nat) : box1 (.ep k es i j) = [] := (rfl)
theorem box1_nn : box1 (.nn) = [] := (rfl)
theorem box1_bs (b o k n : Nat) : box1 (.bs b o k n) = [b] := (rfl)
theorem box1_bp (b o : Nat) : box1 (.bp b o) = [b] := (rfl)
theorem boxc_v : boxc (.v x) = [] := (rfl)
theorem boxc_sl (es : List (List D)) : boxc (.sl es) = [] := (rfl)
theorem boxc_ep (k : Nat) (es : List (List D)) (i j : Nat) : boxc (.ep k es i j) = [] := (rfl)
theorem boxc_nn : boxc (.nn) = [] := (rfl)
theorem boxc_own (e k : Nat) (es : List (List D)) : boxc (.own e k es) = [] := (rfl)
theorem boxc_bs (b o k n : Nat) : boxc (.bs b o k n) = [b] := (rfl)
theorem boxc_bp (b o : Nat) : boxc (.bp b o) = [b] := (rfl)
theorem boxc_fn (f : FuncId) (xs ys : List D) : boxc (.fn f xs ys) = xs.flatMap box1 ++ ys.flatMap box1 := (rfl)
theorem boxa_v : boxa (.v x) = [] := (rfl)
theorem boxa_sl (es : List (List D)) : boxa (.sl es) = [] := (rfl)
theorem boxa_ep (k : Nat) (es : List (List D)) (i j : Nat) : boxa (.ep k es i j) = [] := (rfl)
theorem boxa_nn : boxa (.nn) = [] := (rfl)
theorem boxa_bs (b o k n : Nat) : boxa (.bs b o k n) = [b] := (rfl)
theorem boxa_bp (b o : Nat) : boxa (.bp b o) = [b] := (rfl)
theorem boxa_fn (f : FuncId) (xs ys : List D) : boxa (.fn f xs ys) = xs.flatMap box1 ++ ys.flatMap box1 := (rfl)
theorem boxa_agg : boxa (.agg cs) = cs.flatMap boxc := (rfl)
theorem boxa_ag2 : boxa (.ag2 cs) = cs.flatMap boxc := (rfl)
theorem boxa_undef : boxa .undef = [] := (rfl)
theorem boxa_own (e k : Nat) (es : List (List D)) : boxa (.own e k es) = [] := (rfl)
theorem boxD_v : boxD (.v x) = [] := (rfl)
theorem boxD_sl (es : List (List D)) : boxD (.sl es) = [] := (rfl)
theorem boxD_ep (k : Nat) (es : List (List D)) (i j : Nat) : boxD (.ep k es i j) = [] := (rfl)
theorem boxD_nn : boxD (.nn) = [] := (rfl)
theorem boxD_bs (b o k n : Nat) : boxD (.bs b o k n) = [b] := (rfl)
theorem boxD_bp (b o : Nat) : boxD (.bp b o) = [b] := (rfl)
theorem boxD_fn (f : FuncId) (xs ys : List D) : boxD (.fn f xs ys) = xs.flatMap box1 ++ ys.flatMap box1 := (rfl)
theorem boxD_agg : boxD (.agg cs) = cs.flatMap boxc := (rfl)
theorem boxD_ag2 : boxD (.ag2 cs) = cs.flatMap boxc := (rfl)
theorem boxD_own (e k : Nat) (es : List (List D)) : boxD (.own e k es) = [] := (rfl)
theorem boxc_nobs {d : D} (h : nobs d = true) : boxc d = [] := by
  cases d <;> first | rfl | cases h
theorem flat_nobs (h : cs.all nobs = true) : cs.flatMap boxc = [] := by
  rw [List.flatMap_eq_nil_iff]
  exact fun d hd => boxc_nobs (List.all_eq_true.1 h d hd)
theorem okOut_v : okOut (.v x) = true := (rfl)
theorem okOut_sl (es : List (List D)) : okOut (.sl es) = true := (rfl)
theorem okOutA_own (e k : Nat) (es : List (List D)) : okOutA (.own e k es) = true := (rfl)
theorem okOutA_ag2 : okOutA (.ag2 cs) = (cs.flatMap boxc).all fun b => decide (1000000 ≤ b) := (rfl)
theorem okOut_ep (k : Nat) (es : List (List D)) (i j : Nat) : okOut (.ep k es i j) = true := (rfl)
theorem okOut_nn : okOut (.nn) = true := (rfl)
theorem okOut_bp (b o : Nat) : okOut (.bp b o) = decide (1000000 ≤ b) := by
  show (true && (decide (OB ≤ b) && true)) = _
  rw [Bool.true_and, Bool.and_true]; rfl
theorem okOut_bs (b o k n : Nat) : okOut (.bs b o k n) = decide (1000000 ≤ b) := by
  show (true && (decide (OB ≤ b) && true)) = _
  rw [Bool.true_and, Bool.and_true]; rfl
theorem okOut_agg : okOut (.agg cs) = (cs.flatMap boxc).all fun b => decide (1000000 ≤ b) := (rfl)
theorem okOut_fn (f : FuncId) (xs ys : List D) : okOut (.fn f xs ys) = (xs.flatMap box1 ++ ys.flatMap box1).all fun b => decide (1000000 ≤ b) := (rfl)
theorem outc_eq (cs : List D) : outc cs = if (cs.all fun d => (boxc d).all fun b => decide (1000000 ≤ b)) = true then some cs else none := (rfl)
theorem outc_nobs (h : cs.all nobs = true) : outc cs = some cs := by
  rw [outc_eq, if_pos]
  rw [List.all_eq_true]
  intro d hd
  rw [boxc_nobs (List.all_eq_true.1 h d hd)]; rfl
theorem ren1_v (m : Nat → Nat) : ren1 m (.v x) = .v x := (rfl)
theorem ren1_sl (m : Nat → Nat) (es : List (List D)) : ren1 m (.sl es) = .sl es := (rfl)
theorem ren1_ep (m : Nat → Nat) (k : Nat) (es : List (List D)) (i j : Nat) : ren1 m (.ep k es i j) = .ep k es i j := (rfl)
theorem ren1_nn (m : Nat → Nat)  : ren1 m (.nn) = .nn := (rfl)
theorem ren1_bs (m : Nat → Nat) (b o k n : Nat) : ren1 m (.bs b o k n) = .bs (m b) o k n := (rfl)
theorem ren1_bp (m : Nat → Nat) (b o : Nat) : ren1 m (.bp b o) = .bp (m b) o := (rfl)
theorem renc_v (m : Nat → Nat) : renc m (.v x) = .v x := (rfl)
theorem renc_sl (m : Nat → Nat) (es : List (List D)) : renc m (.sl es) = .sl es := (rfl)
theorem renc_ep (m : Nat → Nat) (k : Nat) (es : List (List D)) (i j : Nat) : renc m (.ep k es i j) = .ep k es i j := (rfl)
theorem renc_nn (m : Nat → Nat)  : renc m (.nn) = .nn := (rfl)
theorem renc_own' (m : Nat → Nat) (e k : Nat) (es : List (List D)) : renc m (.own e k es) = .own e k es := (rfl)
theorem renc_bs (m : Nat → Nat) (b o k n : Nat) : renc m (.bs b o k n) = .bs (m b) o k n := (rfl)
theorem renc_bp (m : Nat → Nat) (b o : Nat) : renc m (.bp b o) = .bp (m b) o := (rfl)
theorem renc_fn (m : Nat → Nat) (f : FuncId) (xs ys : List D) : renc m (.fn f xs ys) = .fn f (xs.map (ren1 m)) (ys.map (ren1 m)) := (rfl)
theorem renc_nobs (m : Nat → Nat) (h : cs.all nobs = true) : cs.map (renc m) = cs := by
  refine (List.map_congr_left fun d hd => ?_).trans (List.map_id' cs)
  have := List.all_eq_true.1 h d hd
  cases d <;> first | rfl | cases this
theorem renD_v (m : Nat → Nat) : renD m (.v x) = .v x := (rfl)
theorem renD_sl (m : Nat → Nat) (es : List (List D)) : renD m (.sl es) = .sl es := (rfl)
theorem renD_ep (m : Nat → Nat) (k : Nat) (es : List (List D)) (i j : Nat) : renD m (.ep k es i j) = .ep k es i j := (rfl)
theorem renD_nn (m : Nat → Nat)  : renD m (.nn) = .nn := (rfl)
theorem renD_own (m : Nat → Nat) (e k : Nat) (es : List (List D)) : renD m (.own e k es) = .own e k es := (rfl)
theorem renD_bs (m : Nat → Nat) (b o k n : Nat) : renD m (.bs b o k n) = .bs (m b) o k n := (rfl)
theorem renD_bp (m : Nat → Nat) (b o : Nat) : renD m (.bp b o) = .bp (m b) o := (rfl)
theorem renD_fn (m : Nat → Nat) (f : FuncId) (xs ys : List D) : renD m (.fn f xs ys) = .fn f (xs.map (ren1 m)) (ys.map (ren1 m)) := (rfl)
theorem renD_agg (m : Nat → Nat) : renD m (.agg cs) = .agg (cs.map (renc m)) := (rfl)
theorem renD_ag2 (m : Nat → Nat) : renD m (.ag2 cs) = .ag2 (cs.map (renc m)) := (rfl)
theorem renD_tp2 (m : Nat → Nat) (c : Nat) (r : D) : renD m (.tp2 c r cs) = .tp2 c (rena m r) (cs.map (rena m)) := (rfl)
theorem renD_tup (m : Nat → Nat) : renD m (.tup cs) = .tup (cs.map (rena m)) := (rfl)
theorem rena_v (m : Nat → Nat) : rena m (.v x) = .v x := (rfl)
theorem rena_sl (m : Nat → Nat) (es : List (List D)) : rena m (.sl es) = .sl es := (rfl)
theorem rena_ep (m : Nat → Nat) (k : Nat) (es : List (List D)) (i j : Nat) : rena m (.ep k es i j) = .ep k es i j := (rfl)
theorem rena_nn (m : Nat → Nat)  : rena m (.nn) = .nn := (rfl)
theorem rena_bs (m : Nat → Nat) (b o k n : Nat) : rena m (.bs b o k n) = .bs (m b) o k n := (rfl)
theorem rena_bp (m : Nat → Nat) (b o : Nat) : rena m (.bp b o) = .bp (m b) o := (rfl)
theorem rena_fn (m : Nat → Nat) (f : FuncId) (xs ys : List D) : rena m (.fn f xs ys) = .fn f (xs.map (ren1 m)) (ys.map (ren1 m)) := (rfl)
theorem rena_agg (m : Nat → Nat) : rena m (.agg cs) = .agg (cs.map (renc m)) := (rfl)
theorem rena_ag2 (m : Nat → Nat) : rena m (.ag2 cs) = .ag2 (cs.map (renc m)) := (rfl)
theorem rena_undef (m : Nat → Nat) : rena m .undef = .undef := (rfl)
theorem rena_own (m : Nat → Nat) (e k : Nat) (es : List (List D)) : rena m (.own e k es) = .own e k es := (rfl)
theorem rena_raw (m : Nat → Nat) (k n : Nat) : rena m (.raw k n cs) = .raw k n cs := (rfl)
theorem idxIn_eq (L : List Nat) (b : Nat) : idxIn L b = 1000000 + L.idxOf b := (rfl)
theorem inIdx_eq (L : List Nat) (i : Nat) : inIdx L i = L.getD (i - 1000000) i := (rfl)
theorem reach_nil (n : Nat) (L : List Nat) : reach β n [] L = some L := by cases n <;> rfl
theorem reach_cons (n b : Nat) (l L : List Nat) : reach β (n + 1) (b :: l) L = if L.contains b = true then reach β n l L else (β b).bind fun cs => reach β n (cs.flatMap boxc ++ l) (L ++ [b]) := (rfl)
theorem refc_v (b : Nat) : refc b (.v x) = false := (rfl)
theorem refc_sl (b : Nat) (es : List (List D)) : refc b (.sl es) = false := (rfl)
theorem refc_ep (b : Nat) (k : Nat) (es : List (List D)) (i j : Nat) : refc b (.ep k es i j) = false := (rfl)
theorem refc_nn (b : Nat)  : refc b (.nn) = false := (rfl)
theorem refc_own (b e k : Nat) (es : List (List D)) : refc b (.own e k es) = false := (rfl)
theorem refc_bs (i b o k n : Nat) : refc i (.bs b o k n) = (b == i) := (rfl)
theorem refc_bp (i b o : Nat) : refc i (.bp b o) = (b == i) := (rfl)
theorem refc_fn (i : Nat) (f : FuncId) (xs ys : List D) : refc i (.fn f xs ys) = (xs.flatMap box1 ++ ys.flatMap box1).contains i := (rfl)
theorem any_refc_nobs (b : Nat) (h : cs.all nobs = true) : cs.any (refc b) = false := by
  rw [List.any_eq_false]
  intro d hd
  have := List.all_eq_true.1 h d hd
  cases d <;> simp_all [nobs, refc]
theorem refl_v (l : List Tmp) : refl l (.v x) = false := (rfl)
theorem refl_sl (l : List Tmp) (es : List (List D)) : refl l (.sl es) = false := (rfl)
theorem refl_ep (l : List Tmp) (k : Nat) (es : List (List D)) (i j : Nat) : refl l (.ep k es i j) = false := (rfl)
theorem refl_nn (l : List Tmp)  : refl l (.nn) = false := (rfl)
theorem refl_own (l : List Tmp) (e k : Nat) (es : List (List D)) : refl l (.own e k es) = false := (rfl)
theorem refl_bs (l : List Tmp) (b o k n : Nat) : refl l (.bs b o k n) = l.contains b := by simp [refl, boxc, box1]
theorem refl_bp (l : List Tmp) (b o : Nat) : refl l (.bp b o) = l.contains b := by simp [refl, boxc, box1]
theorem refl_fn (l : List Tmp) (f : FuncId) (xs ys : List D) : refl l (.fn f xs ys) = (xs.flatMap box1 ++ ys.flatMap box1).any fun b => l.contains b := (rfl)
theorem anyc_nil (l : List Tmp) : anyc l [] = false := (rfl)
theorem anyc_cons' (l : List Tmp) (d : D) (cs : List D) : anyc l (d :: cs) = (refl l d || anyc l cs) := (rfl)
theorem anyc_nobs (l : List Tmp) (h : cs.all nobs = true) : anyc l cs = false := by
  rw [anyc_flat, flat_nobs h]; rfl
theorem anyt_nil (l : List Tmp) : anyt l [] = false := (rfl)
theorem anyt_cons (l : List Tmp) (d : D) (cs : List D) : anyt l (d :: cs) = (((boxa d).any fun b => l.contains b) || anyt l cs) := (rfl)
theorem killbs_none (l : List Tmp) : killbs l none = none := (rfl)
theorem killbs_some (l : List Tmp) : killbs l (some cs) = if anyc l cs = true then none else some cs := (rfl)
theorem rO_nil : refsOnly [] = [] := (rfl)
theorem rO_v (l : List D) : refsOnly (.v x :: l) = refsOnly l := (rfl)
theorem rO_sl (es : List (List D)) (l : List D) : refsOnly (.sl es :: l) = refsOnly l := (rfl)
theorem rO_ep (k : Nat) (es : List (List D)) (i j : Nat) (l : List D) : refsOnly (.ep k es i j :: l) = refsOnly l := (rfl)
theorem rO_nn (l : List D) : refsOnly (.nn :: l) = refsOnly l := (rfl)
theorem rO_own (e k : Nat) (es : List (List D)) (l : List D) : refsOnly (.own e k es :: l) = refsOnly l := (rfl)
theorem rO_bs (b o k n : Nat) (l : List D) : refsOnly (.bs b o k n :: l) = .bs b o k n :: refsOnly l := (rfl)
theorem rO_bp (b o : Nat) (l : List D) : refsOnly (.bp b o :: l) = .bp b o :: refsOnly l := (rfl)
theorem rO_fn (f : FuncId) (xs ys : List D) (l : List D) : refsOnly (.fn f xs ys :: l) = .fn f xs ys :: refsOnly l := (rfl)
theorem rO_nobs (h : cs.all nobs = true) : refsOnly cs = [] := by
  unfold refsOnly
  rw [List.filter_eq_nil_iff]
  intro d hd
  simp [List.all_eq_true.1 h d hd]
theorem frT_v (b : Nat) (c : List D) : frT b c (.v x) = .v x := (rfl)
theorem frT_sl (b : Nat) (c : List D) (es : List (List D)) : frT b c (.sl es) = .sl es := (rfl)
theorem frT_nn (b : Nat) (c : List D)  : frT b c (.nn) = .nn := (rfl)
theorem frT_own (b : Nat) (c : List D) (e k : Nat) (es : List (List D)) : frT b c (.own e k es) = .own e k es := (rfl)
theorem frT_tup (b : Nat) (c l : List D) : frT b c (.tup l) = if refs b (.tup l) = true then .undef else .tup l := (rfl)
theorem refs_tup (b : Nat) (l : List D) : refs b (.tup l) = l.any fun d => (boxa d).contains b := (rfl)
theorem frT_fn (b : Nat) (c : List D) (f : FuncId) (xs ys : List D) : frT b c (.fn f xs ys) = if (xs.flatMap box1 ++ ys.flatMap box1).contains b = true then .undef else .fn f xs ys := (rfl)
theorem frT_bp (i : Nat) (c : List D) (b o : Nat) : frT i c (.bp b o) = if b = i then .ep c.length [c] 0 o else .bp b o := (rfl)
theorem frT_bs (i : Nat) (c : List D) (b o k n : Nat) : frT i c (.bs b o k n) = if b = i then (if o + n * k ≤ c.length then .sl (chunks k n (c.drop o)) else .undef) else .bs b o k n := (rfl)
theorem frT_ep (b : Nat) (c : List D) (k : Nat) (es : List (List D)) (i j : Nat) : frT b c (.ep k es i j) = .ep k es i j := (rfl)
theorem frT_undef (b : Nat) (c : List D) : frT b c .undef = .undef := (rfl)
theorem frT_agg (b : Nat) (c : List D) : frT b c (.agg cs) = if (cs.map (frD b c)).all one = true then .agg (cs.map (frD b c)) else if cs.any (refc b) = true then .undef else .agg cs := (rfl)
theorem frT_ag2 (b : Nat) (c : List D) : frT b c (.ag2 cs) = if cs.any (refc b) = true then .undef else .ag2 cs := (rfl)
theorem frT_tp2 (b : Nat) (l : List D) (c : Nat) (r : D) : frT b l (.tp2 c r cs) = if refs b (.tp2 c r cs) = true then .undef else .tp2 c r cs := (rfl)
theorem refs_tp2 (b c : Nat) (r : D) : refs b (.tp2 c r cs) = ((boxa r).contains b || cs.any fun d => (boxa d).contains b) := (rfl)
theorem frD_v (b : Nat) (c : List D) : frD b c (.v x) = .v x := (rfl)
theorem frD_sl (b : Nat) (c : List D) (es : List (List D)) : frD b c (.sl es) = .sl es := (rfl)
theorem frD_ep (b : Nat) (c : List D) (k : Nat) (es : List (List D)) (i j : Nat) : frD b c (.ep k es i j) = .ep k es i j := (rfl)
theorem frD_nn (b : Nat) (c : List D)  : frD b c (.nn) = .nn := (rfl)
theorem frD_own (b : Nat) (c : List D) (e k : Nat) (es : List (List D)) : frD b c (.own e k es) = .own e k es := (rfl)
theorem frD_bs (i : Nat) (c : List D) (b o k n : Nat) : frD i c (.bs b o k n) = if b = i then (if o + n * k ≤ c.length then .sl (chunks k n (c.drop o)) else .undef) else .bs b o k n := (rfl)
theorem frD_bp (i : Nat) (c : List D) (b o : Nat) : frD i c (.bp b o) = if b = i then .ep c.length [c] 0 o else .bp b o := (rfl)
theorem frD_fn (b : Nat) (c : List D) (f : FuncId) (xs ys : List D) : frD b c (.fn f xs ys) = if (xs.flatMap box1 ++ ys.flatMap box1).contains b = true then .undef else .fn f xs ys := (rfl)
theorem frD_nobs (b : Nat) (c : List D) (h : cs.all (fun d => nobs d && one d) = true) : cs.map (frD b c) = cs := by
  refine (List.map_congr_left fun d hd => ?_).trans (List.map_id' cs)
  have := List.all_eq_true.1 h d hd
  cases d <;> simp_all [nobs, one, frD]
theorem frB_none (b : Nat) (c : List D) : frB b c none = none := (rfl)
theorem frB_some (b : Nat) (c : List D) : frB b c (some cs) = if (cs.map (frD b c)).all oneb = true then some (cs.map (frD b c)) else none := (rfl)
theorem tops_v : D.tops (.v x) = true := (rfl)
theorem tops_sl (es : List (List D)) : D.tops (.sl es) = true := (rfl)
theorem tops_own (e k : Nat) (es : List (List D)) : D.tops (.own e k es) = true := (rfl)
theorem one_int (k : IntKind) (n : Int) : one (.v (.int k n)) = true := (rfl)
theorem one_bool (b : Bool) : one (.v (.bool b)) = true := (rfl)
theorem one_str (s : ByteArray) : one (.v (.string s)) = true := (rfl)
theorem one_nil : one (.v (.slice none 0 0)) = true := (rfl)
theorem one_sl (es : List (List D)) : one (.sl es) = true := (rfl)
theorem one_ep (k : Nat) (es : List (List D)) (i j : Nat) : one (.ep k es i j) = true := (rfl)
theorem one_nn : one (.nn) = true := (rfl)
theorem one_ptr (p : Option Addr) : one (.v (.pointer p)) = true := (rfl)
theorem oneb_ptr (p : Option Addr) : oneb (.v (.pointer p)) = true := (rfl)
theorem one_bs (b o k n : Nat) : one (.bs b o k n) = true := (rfl)
theorem one_bp (b o : Nat) : one (.bp b o) = true := (rfl)
theorem one_fn (f : FuncId) (xs ys : List D) : one (.fn f xs ys) = true := (rfl)
theorem one_own (e k : Nat) (es : List (List D)) : one (.own e k es) = true := (rfl)
theorem oneb_int (k : IntKind) (n : Int) : oneb (.v (.int k n)) = true := (rfl)
theorem oneb_bool (b : Bool) : oneb (.v (.bool b)) = true := (rfl)
theorem oneb_str (s : ByteArray) : oneb (.v (.string s)) = true := (rfl)
theorem oneb_nil : oneb (.v (.slice none 0 0)) = true := (rfl)
theorem oneb_sl (es : List (List D)) : oneb (.sl es) = true := (rfl)
theorem oneb_ep (k : Nat) (es : List (List D)) (i j : Nat) : oneb (.ep k es i j) = true := (rfl)
theorem oneb_nn : oneb (.nn) = true := (rfl)
theorem oneb_bs (b o k n : Nat) : oneb (.bs b o k n) = true := (rfl)
theorem oneb_bp (b o : Nat) : oneb (.bp b o) = true := (rfl)
theorem oneb_fn (f : FuncId) (xs ys : List D) : oneb (.fn f xs ys) = true := (rfl)
theorem oneb_own (e k : Nat) (es : List (List D)) : oneb (.own e k es) = true := (rfl)
theorem oneb_bz (t : TypeId) : oneb (.bz t) = true := (rfl)
theorem frD_bz' (b : Nat) (c : List D) (t : TypeId) : frD b c (.bz t) = .bz t := (rfl)
theorem cells_int (k : IntKind) (n : Int) : cellsD (.v (.int k n)) = [.v (.int k n)] := (rfl)
theorem cells_bool (b : Bool) : cellsD (.v (.bool b)) = [.v (.bool b)] := (rfl)
theorem cells_str (s : ByteArray) : cellsD (.v (.string s)) = [.v (.string s)] := (rfl)
theorem cells_nil : cellsD (.v (.slice none 0 0)) = [.v (.slice none 0 0)] := (rfl)
theorem cells_sl (es : List (List D)) : cellsD (.sl es) = [.sl es] := (rfl)
theorem cells_ep (k : Nat) (es : List (List D)) (i j : Nat) : cellsD (.ep k es i j) = [.ep k es i j] := (rfl)
theorem cells_nn : cellsD (.nn) = [.nn] := (rfl)
theorem cells_own (e k : Nat) (es : List (List D)) : cellsD (.own e k es) = [.own e k es] := (rfl)
theorem cells_ag2 : cellsD (.ag2 cs) = cs := (rfl)
theorem cells_bs (b o k n : Nat) : cellsD (.bs b o k n) = [.bs b o k n] := (rfl)
theorem cells_bp (b o : Nat) : cellsD (.bp b o) = [.bp b o] := (rfl)
theorem cells_fn (f : FuncId) (xs ys : List D) : cellsD (.fn f xs ys) = [.fn f xs ys] := (rfl)
theorem cells_agg : cellsD (.agg cs) = cs := (rfl)
theorem cells_vagg (xs : Array Value) : cellsD (.v (.agg xs)) = xs.toList.map .v := (rfl)
theorem kills_v (l : List Tmp) : kills l (.v x) = .v x := (rfl)
theorem kills_sl (l : List Tmp) (es : List (List D)) : kills l (.sl es) = .sl es := (rfl)
theorem kills_nn (l : List Tmp)  : kills l (.nn) = .nn := (rfl)
theorem kills_own (l : List Tmp) (e k : Nat) (es : List (List D)) : kills l (.own e k es) = .own e k es := (rfl)
theorem kills_agg (l : List Tmp) : kills l (.agg cs) = if anyc l cs = true then .undef else .agg cs := (rfl)
theorem kills_ag2 (l : List Tmp) : kills l (.ag2 cs) = if anyc l cs = true then .undef else .ag2 cs := (rfl)
theorem kills_tp2 (l : List Tmp) (c : Nat) (r : D) : kills l (.tp2 c r cs) = if anyt l (r :: cs) = true then .undef else .tp2 c r cs := (rfl)
theorem kills_bs (l : List Tmp) (b o k n : Nat) : kills l (.bs b o k n) = if l.contains b = true then .undef else .bs b o k n := (rfl)
theorem kills_tup (l : List Tmp) : kills l (.tup cs) = if anyt l cs = true then .undef else .tup cs := (rfl)
theorem kills_fn (l : List Tmp) (f : FuncId) (xs ys : List D) : kills l (.fn f xs ys) = if refl l (.fn f xs ys) = true then .undef else .fn f xs ys := (rfl)
theorem kills_bp (l : List Tmp) (b o : Nat) : kills l (.bp b o) = if l.contains b = true then .undef else .bp b o := (rfl)
theorem kills_ep (l : List Tmp) (k : Nat) (es : List (List D)) (i j : Nat) : kills l (.ep k es i j) = .ep k es i j := (rfl)
theorem kills_undef (l : List Tmp) : kills l .undef = .undef := (rfl)
theorem shD_v : shD (.v x) = .undef := (rfl)
theorem shD_sl (es : List (List D)) : shD (.sl es) = .undef := (rfl)
theorem shD_nn : shD (.nn) = .undef := (rfl)
theorem shD_own (e k : Nat) (es : List (List D)) : shD (.own e k es) = .undef := (rfl)
theorem shD_agg : shD (.agg cs) = .agg (refsOnly cs) := (rfl)
theorem shD_ag2 : shD (.ag2 cs) = .agg (refsOnly cs) := (rfl)
theorem shD_tp2 (c : Nat) (r : D) : shD (.tp2 c r cs) = .tup (r :: cs) := (rfl)
theorem shD_bs (b o k n : Nat) : shD (.bs b o k n) = .bs b 0 0 0 := (rfl)
theorem shD_tup : shD (.tup cs) = .tup cs := (rfl)
theorem shD_fn (f : FuncId) (xs ys : List D) : shD (.fn f xs ys) = .fn f xs ys := (rfl)
theorem shD_bp (b o : Nat) : shD (.bp b o) = .bp b 0 := (rfl)
theorem shD_ep (k : Nat) (es : List (List D)) (i j : Nat) : shD (.ep k es i j) = .undef := (rfl)
theorem shD_undef : shD .undef = .undef := (rfl)
theorem sh_mk (d : D) (box : Option (List D)) (gone : List Tmp) (gb : Option (Nat × Nat)) (rd : List Nat) (s : Option (Nat × Nat × List D)) (ss : List (Nat × List D)) :
    sh ⟨d, box, gone, gb, rd, s, ss⟩ = ⟨shD d, box.map refsOnly, gone, gb, rd, s.map fun p => (p.1, p.2.1, refsOnly p.2.2), ss.map fun p => (p.1, refsOnly p.2)⟩ := (rfl)
theorem toV_v : toV (.v x) = some x := (rfl)
theorem toV_agg : toV (.agg cs) = (toV.go cs).map fun l => .agg l.toArray := (rfl)
theorem go_nil : toV.go [] = some [] := (rfl)
theorem go_cons (l : List D) : toV.go (.v x :: l) = (toV.go l).map (x :: ·) := (rfl)
theorem idx_int (k : IntKind) (n : Int) : idx (.v (.int k n)) = some n := (rfl)
theorem esOf_sl (es : List (List D)) : esOf (.sl es) = some es := (rfl)
theorem esOf_v (a : Option Addr) (c : Nat) : esOf (.v (.slice a 0 c)) = some [] := (rfl)
theorem esOf_own (e k : Nat) (es : List (List D)) : esOf (.own e k es) = some es := (rfl)
theorem goneOf_v (a : Operand) : goneOf a (.v x) = [] := (rfl)
theorem goneOf_sl (a : Operand) (es : List (List D)) : goneOf a (.sl es) = [] := (rfl)
theorem goneOf_nn (a : Operand)  : goneOf a (.nn) = [] := (rfl)
theorem goneOf_own (t : Tmp) (e k : Nat) (es : List (List D)) : goneOf (.tmp t) (.own e k es) = [t] := (rfl)
theorem goneOf_ownc (e k : Nat) (es : List (List D)) : goneOf (.const x) (.own e k es) = [] := (rfl)
theorem goneOf_agg (a : Operand) : goneOf a (.agg cs) = [] := (rfl)
theorem goneOf_tup (a : Operand) : goneOf a (.tup cs) = [] := (rfl)
theorem goneOf_bp (a : Operand) (b o : Nat) : goneOf a (.bp b o) = [] := (rfl)
theorem goneOf_bs (a : Operand) (b o k n : Nat) : goneOf a (.bs b o k n) = [] := (rfl)
theorem goneOf_fn (a : Operand) (f : FuncId) (xs ys : List D) : goneOf a (.fn f xs ys) = [] := (rfl)
theorem goneOf_ep (a : Operand) (k : Nat) (es : List (List D)) (i j : Nat) : goneOf a (.ep k es i j) = [] := (rfl)
theorem goneOf_ag2 (a : Operand) : goneOf a (.ag2 cs) = tmpOf a := (rfl)
theorem goneOf_tp2 (a : Operand) (c : Nat) (r : D) : goneOf a (.tp2 c r cs) = tmpOf a := (rfl)
theorem tmpOf_tmp (t : Tmp) : tmpOf (.tmp t) = [t] := (rfl)
theorem goneA_nil (l : List Operand) : goneA l [] = [] := by cases l <;> rfl
theorem goneA_cons (a : Operand) (l : List Operand) (d : D) (ds : List D) : goneA (a :: l) (d :: ds) = (if d.rt = true then tmpOf a else []) ++ goneA l ds := (rfl)
theorem norm_int (t : TypeId) (k : IntKind) (n : Int) : norm P t (.v (.int k n)) = .v (.int k n) := (rfl)
theorem norm_bool (t : TypeId) (b : Bool) : norm P t (.v (.bool b)) = .v (.bool b) := (rfl)
theorem norm_str (t : TypeId) (s : ByteArray) : norm P t (.v (.string s)) = .v (.string s) := (rfl)
theorem norm_func (t : TypeId) (f : Fn) (a b : Array Value) : norm P t (.v (.func f a b)) = .v (.func f a b) := (rfl)
theorem norm_ptr (t : TypeId) (p : Option Addr) : norm P t (.v (.pointer p)) = .v (.pointer p) := (rfl)
theorem norm_vagg (t : TypeId) (xs : Array Value) : norm P t (.v (.agg xs)) = .v (.agg xs) := (rfl)
theorem norm_sl (t : TypeId) (es : List (List D)) : norm P t (.sl es) = .sl es := (rfl)
theorem norm_nn (t : TypeId)  : norm P t (.nn) = .nn := (rfl)
theorem norm_own (t : TypeId) (e k : Nat) (es : List (List D)) : norm P t (.own e k es) = .own e k es := (rfl)
theorem norm_agg (t : TypeId) : norm P t (.agg cs) = .agg cs := (rfl)
theorem norm_tup (t : TypeId) : norm P t (.tup cs) = .tup cs := (rfl)
theorem norm_bp (t : TypeId) (b o : Nat) : norm P t (.bp b o) = .bp b o := (rfl)
theorem norm_bs (t : TypeId) (b o k n : Nat) : norm P t (.bs b o k n) = .bs b o k n := (rfl)
theorem norm_fn (t : TypeId) (f : FuncId) (xs ys : List D) : norm P t (.fn f xs ys) = .fn f xs ys := (rfl)
theorem norm_ep (t : TypeId) (k : Nat) (es : List (List D)) (i j : Nat) : norm P t (.ep k es i j) = .ep k es i j := (rfl)
theorem norm_ag2 (t : TypeId) : norm P t (.ag2 cs) = .ag2 cs := (rfl)
theorem norm_tp2 (t : TypeId) (c : Nat) (r : D) : norm P t (.tp2 c r cs) = .tp2 c r cs := (rfl)
theorem norm_nil {t e : TypeId} {k b : Nat} (h : apT P t = some (e, k, b)) : norm P t (.v (.slice none 0 0)) = .own e k [] := by
  unfold apT at h
  split at h
  · rename_i e' he
    simp only [Option.bind_eq_some_iff] at h
    obtain ⟨i, hi, h⟩ := h
    split at h
    · simp only [Option.some.injEq, Prod.mk.injEq] at h
      obtain ⟨rfl, rfl, rfl⟩ := h
      simp only [norm, he, hi]
    · cases h
  · cases h
theorem partD_1 {t : TypeId} (h : kindT P t = some false) (cs : List D) (off : Nat) : partD P t 1 cs off = (cs[off]?).map (norm P t) := by
  unfold kindT at h
  rw [Option.map_eq_some_iff] at h
  obtain ⟨q, hq, ha⟩ := h
  simp only [partD, hq, Option.bind_some, ha]
  split
  · simp
  · rename_i hl
    rw [List.getElem?_eq_none (by omega)]; rfl
theorem partD_agg {t : TypeId} (h : kindT P t = some true) (n : Nat) (cs : List D) (off : Nat) : partD P t n cs off = if off + n ≤ cs.length then some (.agg ((cs.drop off).take n)) else none := by
  unfold kindT at h
  rw [Option.map_eq_some_iff] at h
  obtain ⟨q, hq, ha⟩ := h
  simp only [partD, hq, Option.bind_some, ha, if_true]
theorem partB_1 {t : TypeId} (h : kindT P t = some false) (cs : List D) (off : Nat) : partB P t 1 cs off = (cs[off]?).map fun d => norm P t (strip d) := by
  unfold partB
  rw [partD_1 h, List.getElem?_map]
  cases cs[off]? <;> rfl
theorem partB_agg {t : TypeId} (h : kindT P t = some true) (n : Nat) (cs : List D) (off : Nat) : partB P t n cs off = if off + n ≤ cs.length then some (.agg (((cs.map strip).drop off).take n)) else none := by
  unfold partB
  rw [partD_agg h, List.length_map]

/-! ### Operations -/
theorem hinted_eq (o : Oper) : hinted hs o = match o.dst with
    | some d => hs.contains d && decide (d < 3000000)
    | none => false := by
  unfold hinted
  cases o.dst with
  | none => rfl
  | some d => exact Bool.and_comm _ _
theorem moved_eq (o : Oper) : moved hs o = match o.dst with
    | some d => hs.contains (d + 3000000)
    | none => false := (rfl)
theorem mh_nil : mh [] = [] := (rfl)
theorem mh_cons (h : Nat) (l : List Tmp) : mh (h :: l) = if 3000000 ≤ h then h :: mh l else mh l := by
  unfold mh
  rw [List.filter_cons]
  simp only [decide_eq_true_eq]
  rfl
theorem deff_plain (op : Op) : deff P F hs ops st ⟨dst, op, ty, pos, af, none⟩ = dop P F (takes ops ⟨dst, op, ty, pos, af, none⟩ || moved hs ⟨dst, op, ty, pos, af, none⟩, hinted hs ⟨dst, op, ty, pos, af, none⟩) st.rd st.bx ⟨dst, op, ty, pos, af, none⟩ := by
  simp [deff, dwant]
def gdst (ops : List Oper) (j : Nat) : Option Tmp := (ops[j]?).bind (·.dst)
def gwant (w : Bool) : D → Option Bool
  | .v (.bool b) => some (b == w)
  | .v _ => some false
  | _ => none
def guarded (q : Option Bool) (e : Option Eff) : Option Eff := q.bind fun q => if q then e else some { d := .v undef }
theorem stp_guard {l : List Oper} {Q : St → Prop} {q : Bool} {x : Option Eff} (h1 : q = true → stp P F hs ops l st dst Q x) (h2 : q = false → stp P F hs ops l st dst Q (some { d := .v undef })) : stp P F hs ops l st dst Q (guarded (some q) x) := by
  cases q
  · exact h2 rfl
  · exact h1 rfl
theorem stq_guard {l : List Oper} {acc : List Eff} {Q : St → Prop} {q : Bool} {x : Option Eff} (h1 : q = true → stq P F hs ops l acc st dst Q x) (h2 : q = false → stq P F hs ops l acc st dst Q (some { d := .v undef })) : stq P F hs ops l acc st dst Q (guarded (some q) x) := by
  cases q
  · exact h2 rfl
  · exact h1 rfl
theorem guarded_t (e : Option Eff) : guarded (some true) e = e := (rfl)
theorem guarded_f (e : Option Eff) : guarded (some false) e = some { d := .v undef } := (rfl)
@[congr] theorem guarded_congr {q : Option Bool} {q' : Unit → Option Bool} {e : Option Eff} (h : ∀ u : Unit, q = q' u) : guarded q e = guarded (q' ()) e := by rw [← h ()]
theorem deff_guard (op : Op) (j : Nat) (w : Bool) : deff P F hs ops st ⟨dst, op, ty, pos, af, some (j, w)⟩ =
    guarded (match gdst ops.toList j with | none => some false | some i => gwant w (st.at i)) (dop P F (takes ops ⟨dst, op, ty, pos, af, some (j, w)⟩ || moved hs ⟨dst, op, ty, pos, af, some (j, w)⟩, hinted hs ⟨dst, op, ty, pos, af, some (j, w)⟩) st.rd st.bx ⟨dst, op, ty, pos, af, some (j, w)⟩) := by
  unfold deff dwant guarded gdst
  simp only [Array.getElem?_toList]
  cases (ops[j]?).bind (·.dst) with
  | none => rfl
  | some i =>
    simp only
    cases st.at i with
    | v x => cases x <;> rfl
    | _ => rfl
theorem gwant_f (b : Bool) : gwant false (.v (.bool b)) = some (!b) := by cases b <;> rfl
theorem gwant_t (b : Bool) : gwant true (.v (.bool b)) = some b := by cases b <;> rfl
theorem gwant_undef (w : Bool) : gwant w (.v undef) = some false := (rfl)
@[congr] theorem bind_congr1 {α β : Type} {x : Option α} {y : Unit → Option α} {k : α → Option β} (h : ∀ u : Unit, x = y u) : x.bind k = (y ()).bind k := by rw [← h ()]

theorem o_move (a : Operand) : dop P F tk ρ β ⟨dst, .move a, ty, pos, af, gd⟩ = (ρ a).bind fun d => if tk.1 = true then some { d := norm P ty d, gone := goneOf a d } else some { d := strip d } := (rfl)
theorem o_assign (a : Operand) : dop P F tk ρ β ⟨dst, .assign a, ty, pos, af, gd⟩ = (ρ a).bind fun d => some { d := norm P ty d, gone := goneOf a d } := (rfl)
def pickK (ρ : Operand → Option D) (a b : Operand) : D → Option Eff
  | .v (.bool q) => (ρ (if q then a else b)).bind fun d => if data d then some { d := d } else none
  | _ => none
theorem o_pick (c a b : Operand) : dop P F tk ρ β ⟨dst, .pick c a b, ty, pos, af, gd⟩ = (ρ c).bind (pickK ρ a b) := by
  simp only [dop]
  cases ρ c with
  | none => rfl
  | some d =>
    cases d with
    | v x => cases x <;> rfl
    | _ => rfl
theorem pickK_bool (a b : Operand) (q : Bool) : pickK ρ a b (.v (.bool q)) = (ρ (if q = true then a else b)).bind fun d => if data d = true then some { d := d } else none := (rfl)
def bzh (t : TypeId) : List D → List D
  | .v (.pointer none) :: r => .bz t :: r
  | cs => cs
def bzq : Option TypeId → TypeId → List D → List D
  | none, _, cs => cs
  | some T, t, cs => if T = t then bzh t cs else cs
theorem bzc_q (t : TypeId) (cs : List D) : bzc t cs = bzq bzt t cs := by
  unfold bzc bzq
  cases bzt with
  | none => rfl
  | some T =>
    simp only [Option.some.injEq]
    rfl
theorem bzt_is : bzt = none := (rfl)
theorem bzq_none (t : TypeId) (cs : List D) : bzq none t cs = cs := (rfl)
theorem bzq_some (T t : TypeId) (cs : List D) : bzq (some T) t cs = if T = t then bzh t cs else cs := (rfl)
theorem bzh_nil (t : TypeId) (r : List D) : bzh t (.v (.pointer none) :: r) = .bz t :: r := (rfl)
theorem refc_bz (b : Nat) (t : TypeId) : refc b (.bz t) = false := (rfl)
theorem boxc_bz (t : TypeId) : boxc (.bz t) = [] := (rfl)
theorem strip_bz' (t : TypeId) : strip (.bz t) = .bz t := (rfl)
theorem renc_bz' (m : Nat → Nat) (t : TypeId) : renc m (.bz t) = .bz t := (rfl)
theorem o_alloc (t : TypeId) : dop P F tk ρ β ⟨dst, .alloc t, ty, pos, af, gd⟩ = (ofZero P t).bind fun cs => if cs.all one = true ∧ dst.getD 0 < 1000000 then some { d := .bp (dst.getD 0) 0, box := some (bzc t cs) } else none := (rfl)
theorem o_box (t : TypeId) (a : Operand) : dop P F tk ρ β ⟨dst, .box t a, ty, pos, af, gd⟩ = (ρ a).bind fun d => if (cellsD d).all one = true ∧ (cellsD d).any (refc (dst.getD 0)) = false ∧ dst.getD 0 < 1000000 then some { d := .bp (dst.getD 0) 0, box := some (cellsD d), gone := goneOf a d } else none := (rfl)
/-- of two values -/
def bop (P : Program) (op : BinOp) (t : TypeId) (x y : Operand) (a b : Value) : Option Value := pureRun P (do eqGuard op t x y a b; binOp op t a b)
def binK (P : Program) (op : BinOp) (t : TypeId) (a b : Operand) (u v : D) : Option Eff := match cmpD P op t u v with
  | some r => some { d := .v r }
  | none => (toV u).bind fun u => (toV v).bind fun v => (bop P op t a b u v).map fun r => { d := .v r }
theorem o_binOp (op : BinOp) (t yt : TypeId) (a b : Operand) : dop P F tk ρ β ⟨dst, .binOp op t a b yt, ty, pos, af, gd⟩ = (ρ a).bind fun u => (ρ b).bind fun v => binK P op t a b u v := (rfl)
theorem binK_no {op : BinOp} {t : TypeId} {a b : Operand} {u v : D} (h : cmpD P op t u v = none) : binK P op t a b u v = (toV u).bind fun u => (toV v).bind fun v => (bop P op t a b u v).map fun r => { d := .v r } := by
  unfold binK; rw [h]
theorem cmpD_v (op : BinOp) (t : TypeId) (y : Value) (v : D) : cmpD P op t (.v y) v = none := by
  unfold cmpD
  split <;> first | rfl | (cases ‹D.v y = _›)
theorem cmpD_agg (op : BinOp) (t : TypeId) (v : D) : cmpD P op t (.agg cs) v = none := by
  unfold cmpD
  split <;> first | rfl | (cases ‹D.agg cs = _›)
theorem binK_v (op : BinOp) (t : TypeId) (a b : Operand) (y : Value) (v : D) : binK P op t a b (.v y) v = (toV v).bind fun v => (bop P op t a b y v).map fun r => { d := .v r } := by
  rw [binK_no (cmpD_v ..)]; rfl
theorem binK_agg (op : BinOp) (t : TypeId) (a b : Operand) (v : D) : binK P op t a b (.agg cs) v = (toV (.agg cs)).bind fun u => (toV v).bind fun v => (bop P op t a b u v).map fun r => { d := .v r } := binK_no (cmpD_agg ..)
theorem slT_is (t : TypeId) : slT P t = isSl P t := (rfl)
def isPt (P : Program) (t : TypeId) : Bool := ptT P t
def isPs (P : Program) (t : TypeId) : Bool := ptS P t
theorem binK_slE {t : TypeId} (h : isSl P t = true) (a b : Operand) (e : List D) (es : List (List D)) : binK P .eql t a b (.sl (e :: es)) (.v (.slice none 0 0)) = some { d := .v (.bool false) } := by
  simp only [binK, cmpD, slT_is, h, if_true, eqR]
theorem binK_slN {t : TypeId} (h : isSl P t = true) (a b : Operand) (e : List D) (es : List (List D)) : binK P .neq t a b (.sl (e :: es)) (.v (.slice none 0 0)) = some { d := .v (.bool true) } := by
  simp only [binK, cmpD, slT_is, h, if_true, eqR]; rfl
theorem binK_bpE {t : TypeId} (h : isPt P t = true) (a b : Operand) (k o : Nat) : binK P .eql t a b (.bp k o) (.v (.pointer none)) = some { d := .v (.bool false) } := by
  unfold isPt at h
  simp only [binK, cmpD, h, if_true, eqR]
theorem binK_bpN {t : TypeId} (h : isPt P t = true) (a b : Operand) (k o : Nat) : binK P .neq t a b (.bp k o) (.v (.pointer none)) = some { d := .v (.bool true) } := by
  unfold isPt at h
  simp only [binK, cmpD, h, if_true, eqR]; rfl
theorem binK_epE {t : TypeId} (h : isPt P t = true) (a b : Operand) (k : Nat) (es : List (List D)) (i j : Nat) : binK P .eql t a b (.ep k es i j) (.v (.pointer none)) = some { d := .v (.bool false) } := by
  unfold isPt at h
  simp only [binK, cmpD, h, if_true, eqR]
theorem binK_epN {t : TypeId} (h : isPt P t = true) (a b : Operand) (k : Nat) (es : List (List D)) (i j : Nat) : binK P .neq t a b (.ep k es i j) (.v (.pointer none)) = some { d := .v (.bool true) } := by
  unfold isPt at h
  simp only [binK, cmpD, h, if_true, eqR]; rfl
def isIf (P : Program) (t : TypeId) : Bool := ifT P t
theorem binK_nnE {t : TypeId} (h : isIf P t = true) (a b : Operand) : binK P .eql t a b .nn (.v .nilIface) = some { d := .v (.bool false) } := by
  unfold isIf at h
  simp only [binK, cmpD, h, if_true, eqR]
theorem binK_nnN {t : TypeId} (h : isIf P t = true) (a b : Operand) : binK P .neq t a b .nn (.v .nilIface) = some { d := .v (.bool true) } := by
  unfold isIf at h
  simp only [binK, cmpD, h, if_true, eqR]; rfl
theorem binK_ppE {t : TypeId} (h : isPs P t = true) (a b : Operand) (k o : Nat) : binK P .eql t a b (.bp k o) (.bp k o) = some { d := .v (.bool true) } := by
  unfold isPs at h
  simp only [binK, cmpD, h, and_self, if_true, eqR]
theorem binK_ppN {t : TypeId} (h : isPs P t = true) (a b : Operand) (k o : Nat) : binK P .neq t a b (.bp k o) (.bp k o) = some { d := .v (.bool false) } := by
  unfold isPs at h
  simp only [binK, cmpD, h, and_self, if_true, eqR]; rfl
def uop (P : Program) (op : UnOp) (a : Value) : Option Value := pureRun P (Op.unary op a)
theorem o_unOp (op : UnOp) (t : TypeId) (a : Operand) : dop P F tk ρ β ⟨dst, .unOp op t a, ty, pos, af, gd⟩ = (ρ a).bind fun u => (toV u).bind fun u => (uop P op u).map fun r => { d := .v r } := (rfl)
def cvt (P : Program) (s t : TypeId) (a : Value) : Option Value := pureRun P (convert s t a)
/-- a conversion, of what is told -/
def cvK (P : Program) (hint : Bool) (dst : Option Tmp) (β : Nat → Option (List D)) (s t : TypeId) (a : D) : Option Eff := convD P hint dst β s t a
theorem o_convert (s t : TypeId) (a : Operand) : dop P F tk ρ β ⟨dst, .convert s t a, ty, pos, af, gd⟩ = (ρ a).bind fun u => cvK P tk.2 dst β s t u := (rfl)
theorem cvK_int (hint : Bool) (dst : Option Tmp) (β : Nat → Option (List D)) (s t : TypeId) (k : IntKind) (n : Int) : cvK P hint dst β s t (.v (.int k n)) = (cvt P s t (.int k n)).map fun r => { d := .v r } := (rfl)
theorem cvK_str {s t : TypeId} (h : bytT P t = none) (hint : Bool) (dst : Option Tmp) (β : Nat → Option (List D)) (b : ByteArray) : cvK P hint dst β s t (.v (.string b)) = (cvt P s t (.string b)).map fun r => { d := .v r } := by
  simp only [cvK, convD, h, cvt]
theorem cvK_own {s t : TypeId} (h : b2s P s t = true) (hint : Bool) (dst : Option Tmp) (β : Nat → Option (List D)) (e k : Nat) (es : List (List D)) : cvK P hint dst β s t (.own e k es) = (bytN es).map fun l => { d := .v (.string (bsI l)) } := by
  simp only [cvK, convD, h, if_true]
theorem cvK_sl {s t : TypeId} (h : b2s P s t = true) (hint : Bool) (dst : Option Tmp) (β : Nat → Option (List D)) (es : List (List D)) : cvK P hint dst β s t (.sl es) = (bytN es).map fun l => { d := .v (.string (bsI l)) } := by
  simp only [cvK, convD, h, if_true]
theorem cvK_bs {s t : TypeId} (h : b2s P s t = true) (hint : Bool) (dst : Option Tmp) (β : Nat → Option (List D)) (b off n : Nat) : cvK P hint dst β s t (.bs b off 1 n) = (β b).bind fun cs => if off + n ≤ cs.length then (bytN (chunks 1 n (cs.drop off))).map fun l => { d := .v (.string (bsI l)), rd := [b] } else none := by
  simp only [cvK, convD, h, and_self, if_true]
theorem cvK_nil {s t : TypeId} (h : b2s P s t = true) (hint : Bool) (dst : Option Tmp) (β : Nat → Option (List D)) : cvK P hint dst β s t (.v (.slice none 0 0)) = some { d := .v (.string ⟨#[]⟩) } := by
  obtain ⟨e, h1, h2, h3⟩ := und_b2s h
  have hr : pureRun P (convert s t (.slice none 0 0)) = some (.string .empty) := by
    unfold convert
    simp only [pureRun_bind, pureRun_underlying, h1, h2, h3, Option.bind_some]
    rfl
  simp only [cvK, convD, toV, Option.bind_some, hr, Option.map_some]
  rfl
theorem byE_f (dst : Option Tmp) (e : TypeId) (b : ByteArray) : byE false dst e b = { d := .own e 1 (strEs b) } := (rfl)
theorem byE_t {dst : Option Tmp} (hd : dst.getD 0 < 1000000) (e : TypeId) (b : ByteArray) : byE true dst e b = { d := .bs (dst.getD 0) 0 1 b.size, box := some (strEs b).flatten } := by
  have hd' : decide (dst.getD 0 < OB) = true := decide_eq_true hd
  simp only [byE, hd', Bool.and_self, if_true]
/-- bytes as cells -/
def byD (c : UInt8) : List D := [.v (.int .u8 (c.toNat : Int))]
theorem bytN_map : ∀ l : List UInt8, bytN (l.map byD) = some (l.map fun c => (c.toNat : Int))
  | [] => rfl
  | c :: l => by
    show (bytN (l.map byD)).map _ = _
    rw [bytN_map l]; rfl
theorem bsI_map (l : List UInt8) : bsI (l.map fun c => (c.toNat : Int)) = ⟨l.toArray⟩ := by
  unfold bsI
  rw [List.map_map]
  have : ((fun n : Int => UInt8.ofNat n.toNat) ∘ fun c : UInt8 => (c.toNat : Int)) = id := by
    funext c
    simp
  rw [this, List.map_id]
theorem strEs_byD (s : ByteArray) : strEs s = s.data.toList.map byD := by
  simp [strEs, Lib.strCells, byD, Function.comp_def]
def inx (P : Program) (t : TypeId) (a b : Value) : Option Value := pureRun P (Instr.index t a b)
def inK (P : Program) (t : TypeId) (b : D) (i : Option Int) : Option Value → D → Option Eff
  | some a, _ => (toV b).bind fun b => (inx P t a b).map fun r => { d := .v r }
  | none, a => match a, P.underlying t with
      | .agg cs, some (.array n e) => i.bind fun i => (sizeT P e).bind fun k => if 0 ≤ i ∧ i < (n : Int) then (partD P e k cs (i.toNat * k)).map fun d => { d := d } else none
      | _, _ => none
theorem o_index (t : TypeId) (a b : Operand) : dop P F tk ρ β ⟨dst, .index t a b, ty, pos, af, gd⟩ = (ρ a).bind fun u => (ρ b).bind fun v => inK P t v (idx v) (toV u) u := by
  simp only [dop]
  cases ρ a with
  | none => rfl
  | some u =>
    cases ρ b with
    | none => rfl
    | some v =>
      simp only [Option.bind_some]
      cases toV u <;> rfl
theorem inK_some (t : TypeId) (b u : D) (i : Option Int) (a : Value) : inK P t b i (some a) u = (toV b).bind fun b => (inx P t a b).map fun r => { d := .v r } := (rfl)
def arT (P : Program) (t : TypeId) : Option (Nat × TypeId × Nat) := match P.underlying t with
  | some (.array n e) => (sizeT P e).map fun k => (n, e, k)
  | _ => none
theorem inK_agg {t e n k : Nat} (h : arT P t = some (n, e, k)) (b : D) (i : Int) : inK P t b (some i) none (.agg cs) = if 0 ≤ i ∧ i < (n : Int) then (partD P e k cs (i.toNat * k)).map fun d => { d := d } else none := by
  unfold arT at h
  split at h
  · rename_i n' e' hu
    rw [Option.map_eq_some_iff] at h
    obtain ⟨k', hk, h⟩ := h
    simp only [Prod.mk.injEq] at h
    obtain ⟨rfl, rfl, rfl⟩ := h
    simp only [inK, hu, Option.bind_some, hk]
  · cases h
def ldK (P : Program) (tk : Bool) (β : Nat → Option (List D)) (t : TypeId) : D → Option Eff
  | .bp b off => (β b).bind fun cs => (sizeT P t).bind fun n => if tk then (P.underlying t).bind fun q => if isAggD q then (if off + n ≤ cs.length ∧ ((cs.drop off).take n).all one = true then some { d := .ag2 ((cs.drop off).take n), rd := [b], st := some (b, off, ((cs.drop off).take n).map strip1) } else none) else (cs[off]?).bind fun d => if d.tops then some { d := norm P t d, gb := some (b, off), rd := [b] } else none else (partB P t n cs off).map fun d => { d := d, rd := [b] }
  | .ep k es i j => (es[i]?).bind fun cs => (sizeT P t).bind fun n => (partD P t n cs j).map fun d => { d := d }
  | _ => none
theorem o_load (t : TypeId) (a : Operand) : dop P F tk ρ β ⟨dst, .load t a, ty, pos, af, gd⟩ = (ρ a).bind (ldK P tk.1 β t) := by
  simp only [dop]
  cases ρ a with
  | none => rfl
  | some d => cases d <;> rfl
theorem ldK_bp (t : TypeId) (b off : Nat) : ldK P false β t (.bp b off) = (β b).bind fun cs => (sizeT P t).bind fun n => (partB P t n cs off).map fun d => { d := d, rd := [b] } := (rfl)
theorem ldK_bpt {t : TypeId} (h : kindT P t = some false) (hs : (sizeT P t).isSome = true) (b off : Nat) : ldK P true β t (.bp b off) = (β b).bind fun cs => (cs[off]?).bind fun d => if d.tops = true then some { d := norm P t d, gb := some (b, off), rd := [b] } else none := by
  unfold kindT at h
  rw [Option.map_eq_some_iff] at h
  obtain ⟨q, hq, ha⟩ := h
  obtain ⟨n, hn⟩ := Option.isSome_iff_exists.1 hs
  simp only [ldK, hq, hn, Option.bind_some, ha, if_true, Bool.false_eq_true, if_false]
theorem ldK_bpa {t : TypeId} (h : kindT P t = some true) (b off : Nat) : ldK P true β t (.bp b off) = (β b).bind fun cs => (sizeT P t).bind fun n => if off + n ≤ cs.length ∧ ((cs.drop off).take n).all one = true then some { d := .ag2 ((cs.drop off).take n), rd := [b], st := some (b, off, ((cs.drop off).take n).map strip1) } else none := by
  unfold kindT at h
  rw [Option.map_eq_some_iff] at h
  obtain ⟨q, hq, ha⟩ := h
  simp only [ldK, hq, Option.bind_some, ha, if_true]
theorem ldK_ep {tk : Bool} (t : TypeId) (k : Nat) (es : List (List D)) (i j : Nat) : ldK P tk β t (.ep k es i j) = (es[i]?).bind fun cs => (sizeT P t).bind fun n => (partD P t n cs j).map fun d => { d := d } := (rfl)
def stK (P : Program) (β : Nat → Option (List D)) (t : TypeId) (y : Operand) (d : D) : D → Option Eff
  | .bp b off => (β b).bind fun cs => (sizeT P t).bind fun n => if (cellsD d).length = n ∧ off + n ≤ cs.length ∧ (cellsD d).all one = true then some { d := .v undef, gone := goneOf y d, rd := [b], st := some (b, off, cellsD d) } else none
  | _ => none
theorem o_store (t : TypeId) (a b : Operand) : dop P F tk ρ β ⟨dst, .store t a b, ty, pos, af, gd⟩ = (ρ a).bind fun u => (ρ b).bind fun d => stK P β t b d u := by
  simp only [dop]
  cases ρ a with
  | none => rfl
  | some u =>
    cases ρ b with
    | none => cases u <;> rfl
    | some d => cases u <;> rfl
theorem stK_bp (t : TypeId) (y : Operand) (d : D) (b off : Nat) : stK P β t y d (.bp b off) = (β b).bind fun cs => (sizeT P t).bind fun n => if (cellsD d).length = n ∧ off + n ≤ cs.length ∧ (cellsD d).all one = true then some { d := .v undef, gone := goneOf y d, rd := [b], st := some (b, off, cellsD d) } else none := (rfl)
def nilK : D → Option Eff
  | .bp b off => some { d := .bp b off }
  | .ep k es i j => some { d := .ep k es i j }
  | _ => none
theorem o_nilCheck (a : Operand) : dop P F tk ρ β ⟨dst, .nilCheck a, ty, pos, af, gd⟩ = (ρ a).bind nilK := by
  simp only [dop]
  cases ρ a with
  | none => rfl
  | some d => cases d <;> rfl
theorem nilK_ep (k : Nat) (es : List (List D)) (i j : Nat) : nilK (.ep k es i j) = some { d := .ep k es i j } := (rfl)
theorem nilK_bp (b off : Nat) : nilK (.bp b off) = some { d := .bp b off } := (rfl)
def faK (p : Nat × TypeId × Nat) : D → Option Eff
  | .bp b off => if p.2.2 = 0 then none else some { d := .bp b (off + p.1) }
  | .ep k es i j => if p.2.2 = 0 then none else some { d := .ep k es i (j + p.1) }
  | _ => none
theorem o_fieldAddr (s : TypeId) (a : Operand) (f : Nat) : dop P F tk ρ β ⟨dst, .fieldAddr s a f, ty, pos, af, gd⟩ = (ρ a).bind fun u => (fieldOf P s f).bind fun p => faK p u := by
  simp only [dop]
  cases ρ a with
  | none => rfl
  | some u =>
    cases fieldOf P s f with
    | none => rfl
    | some p => by_cases h : p.2.2 = 0 <;> cases u <;> simp [faK, h]
theorem faK_bp (a t n b off : Nat) : faK (a, t, n) (.bp b off) = if n = 0 then none else some { d := .bp b (off + a) } := (rfl)
theorem faK_ep (a t n k : Nat) (es : List (List D)) (i j : Nat) : faK (a, t, n) (.ep k es i j) = if n = 0 then none else some { d := .ep k es i (j + a) } := (rfl)
def fiK (P : Program) (p : Nat × TypeId × Nat) : D → Option Eff
  | .agg cs => (partD P p.2.1 p.2.2 cs p.1).map fun d => { d := d }
  | _ => none
theorem o_field (s : TypeId) (a : Operand) (f : Nat) : dop P F tk ρ β ⟨dst, .field s a f, ty, pos, af, gd⟩ = (ρ a).bind fun u => (fieldOf P s f).bind fun p => fiK P p u := by
  simp only [dop]
  cases ρ a with
  | none => rfl
  | some u =>
    cases fieldOf P s f with
    | none => rfl
    | some p => cases u <;> rfl
theorem fiK_agg (a t n : Nat) : fiK P (a, t, n) (.agg cs) = (partD P t n cs a).map fun d => { d := d } := (rfl)
def ixK (k : Nat) (i : Int) (es : List (List D)) : Option Eff := if 0 ≤ i ∧ (es[i.toNat]?).any (fun e => e.length == k) = true then some { d := .ep k es i.toNat 0 } else none
def iaK (i : Int) : Option Nat × Nat → D → Option Eff
  | (none, k), .bs b off k' n => if k = k' ∧ 0 ≤ i ∧ i < (n : Int) then some { d := .bp b (off + i.toNat * k) } else none
  | (none, k), a => (esOf a).bind (ixK k i)
  | (some n, k), a => if 0 ≤ i ∧ i < (n : Int) then (match a with
      | .ep k' es i0 j => some { d := .ep k' es i0 (j + i.toNat * k) }
      | .bp b off => some { d := .bp b (off + i.toNat * k) }
      | _ => none) else none
theorem o_indexAddr (t : TypeId) (a b : Operand) : dop P F tk ρ β ⟨dst, .indexAddr t a b, ty, pos, af, gd⟩ = (ρ a).bind fun u => (ρ b).bind fun v => (idx v).bind fun i => (ixT P t).bind fun k => iaK i k u := by
  simp only [dop, ixT]
  cases ρ a with
  | none => rfl
  | some u =>
    cases ρ b with
    | none => rfl
    | some v =>
      cases hi : idx v with
      | none => simp [hi]
      | some i =>
        simp only [Option.bind_some, hi]
        cases P.underlying t with
        | none => rfl
        | some q =>
          cases q with
          | slice e =>
            simp only
            cases sizeT P e with
            | none => rfl
            | some k => cases u <;> rfl
          | array n e =>
            simp only
            cases sizeT P e with
            | none => rfl
            | some k => cases u <;> rfl
          | _ => rfl
theorem iaK_bs (k : Nat) (i : Int) (b off k' n : Nat) : iaK i (none, k) (.bs b off k' n) = if k = k' ∧ 0 ≤ i ∧ i < (n : Int) then some { d := .bp b (off + i.toNat * k) } else none := (rfl)
theorem iaK_sl (k : Nat) (i : Int) (es : List (List D)) : iaK i (none, k) (.sl es) = if 0 ≤ i ∧ (es[i.toNat]?).any (fun e => e.length == k) = true then some { d := .ep k es i.toNat 0 } else none := (rfl)
theorem iaK_own (k : Nat) (i : Int) (e k' : Nat) (es : List (List D)) : iaK i (none, k) (.own e k' es) = if 0 ≤ i ∧ (es[i.toNat]?).any (fun e => e.length == k) = true then some { d := .ep k es i.toNat 0 } else none := (rfl)
theorem iaK_aep (n k : Nat) (i : Int) (k' : Nat) (es : List (List D)) (i0 j : Nat) : iaK i (some n, k) (.ep k' es i0 j) = if 0 ≤ i ∧ i < (n : Int) then some { d := .ep k' es i0 (j + i.toNat * k) } else none := (rfl)
theorem iaK_abp (n k : Nat) (i : Int) (b off : Nat) : iaK i (some n, k) (.bp b off) = if 0 ≤ i ∧ i < (n : Int) then some { d := .bp b (off + i.toNat * k) } else none := (rfl)
theorem ixK_eq (k : Nat) (i : Int) (es : List (List D)) : ixK k i es = if 0 ≤ i ∧ (es[i.toNat]?).any (fun e => e.length == k) = true then some { d := .ep k es i.toNat 0 } else none := (rfl)
def exK (P : Program) (h : Bool) (dst : Option Tmp) (x : Operand) (ty : TypeId) (i : Nat) : D → Option Eff
  | .tup ds => (ds[i]?).bind fun d => some { d := norm P ty d }
  | .tp2 c r ds => if i = c ∧ i < ds.length then (match r with
      | .undef => none
      | .raw k m cs => if h = true ∧ dst.isSome = true ∧ dst.getD 0 < OB then some { d := .bs (dst.getD 0) 0 k m, box := some cs, gone := tmpOf x } else none
      | r => some { d := norm P ty r, gone := tmpOf x }) else (ds[i]?).bind fun d => some { d := norm P ty d }
  | _ => none
def xtR (P : Program) (h : Bool) (dst : Option Tmp) (x : Operand) (ty : TypeId) : D → Option Eff
  | .undef => none
  | .raw k m cs => if h = true ∧ dst.isSome = true ∧ dst.getD 0 < OB then some { d := .bs (dst.getD 0) 0 k m, box := some cs, gone := tmpOf x } else none
  | r => some { d := norm P ty r, gone := tmpOf x }
theorem o_extract (a : Operand) (i : Nat) : dop P F tk ρ β ⟨dst, .extract a i, ty, pos, af, gd⟩ = (ρ a).bind (exK P tk.2 dst a ty i) := by
  simp only [dop]
  cases ρ a with
  | none => rfl
  | some d => cases d <;> rfl
theorem exK_tup (h : Bool) (a : Operand) (i : Nat) (ds : List D) : exK P h dst a ty i (.tup ds) = (ds[i]?).bind fun d => some { d := norm P ty d } := (rfl)
theorem exK_tp2 (h : Bool) (a : Operand) (i c : Nat) (r : D) (ds : List D) : exK P h dst a ty i (.tp2 c r ds) = if i = c ∧ i < ds.length then xtR P h dst a ty r else (ds[i]?).bind fun d => some { d := norm P ty d } := by
  cases r <;> rfl
theorem xtR_own (h : Bool) (a : Operand) (e k : Nat) (es : List (List D)) : xtR P h dst a ty (.own e k es) = some { d := .own e k es, gone := tmpOf a } := (rfl)
theorem xtR_ag2 (h : Bool) (a : Operand) : xtR P h dst a ty (.ag2 cs) = some { d := .ag2 cs, gone := tmpOf a } := (rfl)
theorem xtR_agg (h : Bool) (a : Operand) : xtR P h dst a ty (.agg cs) = some { d := .agg cs, gone := tmpOf a } := (rfl)
theorem xtR_sl (h : Bool) (a : Operand) (es : List (List D)) : xtR P h dst a ty (.sl es) = some { d := .sl es, gone := tmpOf a } := (rfl)
theorem xtR_raw (h : Bool) (a : Operand) (k m : Nat) : xtR P h dst a ty (.raw k m cs) = if h = true ∧ dst.isSome = true ∧ dst.getD 0 < 1000000 then some { d := .bs (dst.getD 0) 0 k m, box := some cs, gone := tmpOf a } else none := (rfl)
/-- the arguments -/
def args (q : Bool) (ρ : Operand → Option D) : List Operand → Option (List D)
  | [] => some []
  | a :: l => (ρ a).bind fun d => if argA (finA q d) = true then (args q ρ l).map (finA q d :: ·) else none
theorem args_nil (q : Bool) : args q ρ [] = some [] := (rfl)
theorem args_cons (q : Bool) (a : Operand) (l : List Operand) : args q ρ (a :: l) = (ρ a).bind fun d => if argA (finA q d) = true then (args q ρ l).map (finA q d :: ·) else none := (rfl)
theorem args_eq (q : Bool) : ∀ l : List Operand, (l.mapM fun x => (ρ x).bind fun d => if argA (finA q d) then some (finA q d) else none) = args q ρ l
  | [] => rfl
  | a :: l => by
    rw [List.mapM_cons, args_cons, ← args_eq q l]
    cases ρ a with
    | none => rfl
    | some d =>
      simp only [Option.bind_some]
      split
      · simp only [Option.bind_eq_bind, Option.bind_some, Option.pure_def]
        cases (l.mapM fun x => (ρ x).bind fun d => if argA (finA q d) then some (finA q d) else none) <;> rfl
      · rfl
def calK (P : Program) (F : FTy) (h : Bool) (dst : Option Tmp) (β : Nat → Option (List D)) (gs : List Tmp) (f : FuncId) (as : List D) (L : List Nat) : Option Eff := if L.isEmpty = true then (callD P F f as).bind (retE h dst gs) else callO P F β f as L gs
theorem calK_nil (h : Bool) (gs : List Tmp) (f : FuncId) (as : List D) : calK P F h dst β gs f as [] = (callD P F f as).bind (retE h dst gs) := (rfl)
theorem calK_cons (h : Bool) (gs : List Tmp) (f : FuncId) (as : List D) (b : Nat) (L : List Nat) : calK P F h dst β gs f as (b :: L) = callO P F β f as (b :: L) gs := (rfl)
def calD (P : Program) (F : FTy) (h : Bool) (dst : Option Tmp) (β : Nat → Option (List D)) (gs : List Tmp) (ds : List D) (f : FuncId × List D × List D) : Option Eff := if gs.Nodup then (reach β 64 ((f.2.1 ++ ds ++ f.2.2).flatMap boxD) []).bind (calK P F h dst β gs f.1 (f.2.1 ++ ds ++ f.2.2)) else none
theorem o_call (f : Operand) (as : Array Operand) (ts : Array TypeId) : dop P F tk ρ β ⟨dst, .call ⟨.value f, as, ts⟩, ty, pos, af, gd⟩ = (ρ f).bind fun d => (fnOf d).bind fun f => (args tk.2 ρ as.toList).bind fun ds => calD P F tk.2 dst β (goneA as.toList ds) ds f := by
  simp only [dop, args_eq]; rfl
theorem calD_eq (h : Bool) (gs : List Tmp) (ds : List D) (f : FuncId) (xs ys : List D) : calD P F h dst β gs ds (f, xs, ys) = if gs.Nodup then (reach β 64 ((xs ++ ds ++ ys).flatMap boxD) []).bind (calK P F h dst β gs f (xs ++ ds ++ ys)) else none := (rfl)
theorem retE_v (h : Bool) (gs : List Tmp) : retE h dst gs (.v x) = some { d := .v x, gone := gs } := (rfl)
theorem retE_sl (h : Bool) (gs : List Tmp) (es : List (List D)) : retE h dst gs (.sl es) = some { d := .sl es, gone := gs } := (rfl)
theorem retE_ep (h : Bool) (gs : List Tmp) (k : Nat) (es : List (List D)) (i j : Nat) : retE h dst gs (.ep k es i j) = some { d := .ep k es i j, gone := gs } := (rfl)
theorem retE_nn (h : Bool) (gs : List Tmp)  : retE h dst gs (.nn) = some { d := .nn, gone := gs } := (rfl)
theorem retE_own (h : Bool) (gs : List Tmp) (e k : Nat) (es : List (List D)) : retE h dst gs (.own e k es) = some { d := .own e k es, gone := gs } := (rfl)
theorem retE_agg (h : Bool) (gs : List Tmp) : retE h dst gs (.agg cs) = some { d := .agg cs, gone := gs } := (rfl)
theorem retE_tup (h : Bool) (gs : List Tmp) : retE h dst gs (.tup cs) = some { d := .tup cs, gone := gs } := (rfl)
theorem retE_fn (h : Bool) (gs : List Tmp) (f : FuncId) (xs ys : List D) : retE h dst gs (.fn f xs ys) = some { d := .fn f xs ys, gone := gs } := (rfl)
theorem retE_bp (h : Bool) (gs : List Tmp) (b o : Nat) : retE h dst gs (.bp b o) = some { d := .bp b o, gone := gs } := (rfl)
theorem retE_bs (h : Bool) (gs : List Tmp) (b o k n : Nat) : retE h dst gs (.bs b o k n) = some { d := .bs b o k n, gone := gs } := (rfl)
theorem retE_raw (h : Bool) (gs : List Tmp) (k m : Nat) : retE h dst gs (.raw k m cs) = if h = true ∧ dst.isSome = true ∧ dst.getD 0 < 1000000 then some { d := .bs (dst.getD 0) 0 k m, box := some cs, gone := gs } else if h = false ∧ dst.isSome = true ∧ cs.length = m * k then some { d := .sl (chunks k m cs), gone := gs } else none := (rfl)
theorem retE_ag2 (h : Bool) (gs : List Tmp) : retE h dst gs (.ag2 cs) = some { d := .ag2 cs, gone := gs } := (rfl)
theorem retE_tp2 (h : Bool) (gs : List Tmp) (c : Nat) (r : D) : retE h dst gs (.tp2 c r cs) = some { d := .tp2 c r cs, gone := gs } := (rfl)
def bxs (β : Nat → Option (List D)) : List Nat → Option (List (List D))
  | [] => some []
  | b :: l => (β b).bind fun cs => (bxs β l).map (cs :: ·)
theorem bxs_nil : bxs β [] = some [] := (rfl)
theorem bxs_cons (b : Nat) (l : List Nat) : bxs β (b :: l) = (β b).bind fun cs => (bxs β l).map (cs :: ·) := (rfl)
theorem bxs_eq : ∀ l : List Nat, l.mapM β = bxs β l
  | [] => rfl
  | b :: l => by
    rw [List.mapM_cons, bxs_cons, ← bxs_eq l]
    cases β b with
    | none => rfl
    | some cs =>
      simp only [Option.bind_eq_bind, Option.bind_some, Option.pure_def]
      cases l.mapM β <;> rfl
def outK (gs : List Tmp) (L : List Nat) (p : D × List (List D)) : Option Eff := if p.2.length = L.length then some { d := renD (inIdx L) p.1, gone := gs, rd := L, sets := L.zip (p.2.map fun cs => cs.map (renc (inIdx L))) } else none
theorem outK_eq (gs : List Tmp) (L : List Nat) (r : D) (os : List (List D)) : outK gs L (r, os) = if os.length = L.length then some { d := renD (inIdx L) r, gone := gs, rd := L, sets := L.zip (os.map fun cs => cs.map (renc (inIdx L))) } else none := (rfl)
theorem callO_t {f : FuncId} (h : bodied P f = true) (ds : List D) (L : List Nat) (gs : List Tmp) : callO P F β f ds L gs = (bxs β L).bind fun os => (F f (ds.map (renD (idxIn L))) (os.map fun cs => cs.map (renc (idxIn L)))).bind (outK gs L) := by
  unfold callO
  rw [if_pos h, bxs_eq]; rfl
/-- what a closure holds -/
def caps (ρ : Operand → Option D) : List Operand → Option (List D)
  | [] => some []
  | a :: l => (ρ a).bind fun d => if fn1 d = true then (caps ρ l).map (d :: ·) else none
theorem caps_nil : caps ρ [] = some [] := (rfl)
theorem caps_cons (a : Operand) (l : List Operand) : caps ρ (a :: l) = (ρ a).bind fun d => if fn1 d = true then (caps ρ l).map (d :: ·) else none := (rfl)
theorem caps_eq : ∀ l : List Operand, (l.mapM fun x => (ρ x).bind fun d => if fn1 d = true then some d else none) = caps ρ l
  | [] => rfl
  | a :: l => by
    rw [List.mapM_cons, caps_cons, ← caps_eq l]
    cases ρ a with
    | none => rfl
    | some d =>
      simp only [Option.bind_some]
      split
      · simp only [Option.bind_eq_bind, Option.bind_some, Option.pure_def]
        cases (l.mapM fun x => (ρ x).bind fun d => if fn1 d = true then some d else none) <;> rfl
      · rfl
theorem o_makeFunc (f : FuncId) (xs ys : Array Operand) : dop P F tk ρ β ⟨dst, .makeFunc (.func f) xs ys, ty, pos, af, gd⟩ = (caps ρ xs.toList).bind fun ds => (caps ρ ys.toList).bind fun es => some { d := .fn f ds es } := by
  simp only [dop, caps_eq]
theorem callD_t {f : FuncId} (h : bodied P f = true) (ds : List D) : callD P F f ds = F0 F f ds := by unfold callD; rw [if_pos h]
theorem callD_f {f : FuncId} (h : bodied P f = false) (ds : List D) : callD P F f ds = ext P f ds := by unfold callD; rw [h]; rfl
theorem fnOf_f (f : FuncId) : fnOf (.v (.func (.func f) #[] #[])) = some (f, [], []) := (rfl)
theorem fnOf_fn (f : FuncId) (xs ys : List D) : fnOf (.fn f xs ys) = some (f, xs, ys) := (rfl)
def lenK (P : Program) (t : TypeId) : D → Option Eff
  | .v (.string s) => if isStr P t then some { d := .v (.int .i64 s.size) } else none
  | .sl es | .own _ _ es => if isSl P t then some { d := .v (.int .i64 es.length) } else none
  | .bs _ _ _ n => if isSl P t then some { d := .v (.int .i64 n) } else none
  | _ => none
theorem o_len (a : Operand) (t : TypeId) : dop P F tk ρ β ⟨dst, .call ⟨.builtin .len, #[a], #[t]⟩, ty, pos, af, gd⟩ = (ρ a).bind (lenK P t) := by
  have h1 : ∀ (q : Option TypeDesc) (e : Option Eff), (match q with | some .string => e | _ => none) = if (match q with | some .string => true | _ => false) = true then e else none := by
    intro q e
    cases q with
    | none => rfl
    | some q => cases q <;> rfl
  have h2 : ∀ (q : Option TypeDesc) (e : Option Eff), (match q with | some (.slice _) => e | _ => none) = if (match q with | some (.slice _) => true | _ => false) = true then e else none := by
    intro q e
    cases q with
    | none => rfl
    | some q => cases q <;> rfl
  simp only [dop]
  cases ρ a with
  | none => rfl
  | some d =>
    cases d with
    | v x =>
      cases x with
      | string s => exact h1 _ _
      | _ => rfl
    | sl es => exact h2 _ _
    | own e k es => exact h2 _ _
    | bs b o k n => exact h2 _ _
    | _ => rfl
theorem lenK_str {t : TypeId} (h : isStr P t = true) (s : ByteArray) : lenK P t (.v (.string s)) = some { d := .v (.int .i64 s.size) } := by simp [lenK, h]
theorem lenK_sl {t : TypeId} (h : isSl P t = true) (es : List (List D)) : lenK P t (.sl es) = some { d := .v (.int .i64 es.length) } := by simp [lenK, h]
theorem lenK_own {t : TypeId} (h : isSl P t = true) (e k : Nat) (es : List (List D)) : lenK P t (.own e k es) = some { d := .v (.int .i64 es.length) } := by simp [lenK, h]
theorem lenK_bs {t : TypeId} (h : isSl P t = true) (b o k n : Nat) : lenK P t (.bs b o k n) = some { d := .v (.int .i64 n) } := by simp [lenK, h]
/-- room for so many -/
def room (n bytes : Nat) : Bool := decide (n * bytes ≤ 140737488355328 ∧ n ≤ maxLen)
def lenAll (k : Nat) (p : List (List D)) : Bool := p.all fun e => e.length == k
theorem lenAll_nil (k : Nat) : lenAll k [] = true := (rfl)
theorem lenAll_cons (k : Nat) (e : List D) (p : List (List D)) : lenAll k (e :: p) = (e.length == k && lenAll k p) := (rfl)
theorem lenAll_map {α : Type} {k : Nat} (f : α → List D) (h : ∀ a, (f a).length = k) (l : List α) : lenAll k (l.map f) = true := by
  unfold lenAll; rw [List.all_map, List.all_eq_true]; intro a _; simp [h]
theorem lenAll_app (k : Nat) (p q : List (List D)) : lenAll k (p ++ q) = (lenAll k p && lenAll k q) := by simp [lenAll]
theorem lenAll_take {k : Nat} {p : List (List D)} (h : lenAll k p = true) (n : Nat) : lenAll k (p.take n) = true := by
  rw [lenAll, List.all_eq_true] at h ⊢; exact fun e he => h e (List.mem_of_mem_take he)
theorem lenAll_drop {k : Nat} {p : List (List D)} (h : lenAll k p = true) (n : Nat) : lenAll k (p.drop n) = true := by
  rw [lenAll, List.all_eq_true] at h ⊢; exact fun e he => h e (List.mem_of_mem_drop he)
def apK (hint : Bool) (dst : Option Tmp) (g : List Tmp) (e k b : Nat) (p : List (List D)) : D → Option Eff
  | .own e' k' es => if e' = e ∧ k' = k ∧ lenAll k p = true then if room (es.length + p.length) b then some (appE hint dst e k es p g) else none else none
  | .slx k' es => if k' = k ∧ es.isEmpty = false ∧ p.isEmpty = false ∧ lenAll k es = true ∧ lenAll k p = true then if room (es.length + p.length) b then some { d := .own e k (es ++ p) } else none else none
  | _ => none
theorem o_append {t : TypeId} {e k b : Nat} (h : apT P t = some (e, k, b)) (x y : Operand) (i : Tmp) : dop P F tk ρ β ⟨some i, .call ⟨.builtin .append, #[x, y], #[t, t]⟩, ty, pos, af, gd⟩ = (ρ x).bind fun a => (ρ y).bind fun v => (esOf v).bind fun p => apK tk.2 (some i) (goneOf x a) e k b p (norm P t a) := by
  unfold apT at h
  split at h
  · rename_i e' he
    simp only [Option.bind_eq_some_iff] at h
    obtain ⟨inf, hi, h⟩ := h
    split at h
    · rename_i hz
      simp only [Option.some.injEq, Prod.mk.injEq] at h
      obtain ⟨rfl, rfl, rfl⟩ := h
      simp only [dop, if_true]
      cases ha : ρ x with
      | none => rfl
      | some a =>
        cases hb : ρ y with
        | none => rfl
        | some v =>
          simp only [Option.bind_some]
          cases hv : esOf v with
          | none =>
            simp only [Option.bind_none]
            split
            · rfl
            · rfl
            · rfl
          | some p =>
            simp only [Option.bind_some, he]
            cases hn : norm P t a with
            | own e2 k2 es =>
              simp only [apK]
              by_cases h1 : e2 = e'
              · subst h1
                simp only [hi, Option.bind_some, true_and]
                by_cases h2 : k2 = inf.size
                · subst h2
                  by_cases h3 : lenAll inf.size p = true
                  · have h3' : (p.all fun e => e.length == inf.size) = true := h3
                    simp only [true_and, h3, h3', hz, room, and_true, Option.isSome_some, if_true, decide_eq_true_eq]
                    skip
                  · rw [if_neg (by intro h; exact h3 h.1), if_neg (by intro h; exact h3 h.2)]
                · rw [if_neg (by intro h; exact h2 h.2.1.symm), if_neg (by intro h; exact h2 h.1)]
              · rw [if_neg (by intro h; exact h1 h.1)]
                cases P.info? e2 with
                | none => rfl
                | some i2 => simp only [Option.bind_some]; rw [if_neg (by intro h; exact h1 h.1)]
            | slx k2 es =>
              simp only [apK, hi, Option.bind_some]
              by_cases h2 : k2 = inf.size
              · subst h2
                by_cases h3 : es.isEmpty = false ∧ p.isEmpty = false ∧ lenAll inf.size es = true ∧ lenAll inf.size p = true
                · obtain ⟨h3, h4, h5, h6⟩ := h3
                  have h5' : (es.all fun e => e.length == inf.size) = true := h5
                  have h6' : (p.all fun e => e.length == inf.size) = true := h6
                  simp only [true_and, h3, h4, h5, h6, h5', h6', hz, room, and_true, Option.isSome_some, if_true, decide_eq_true_eq]
                · rw [if_neg (fun h => h3 ⟨h.1, h.2.1, h.2.2.1, h.2.2.2.1⟩), if_neg (fun h => h3 h.2)]
              · rw [if_neg (fun h => h2 h.2.2.2.2.1.symm), if_neg (fun h => h2 h.1)]
            | _ => rfl
    · cases h
  · cases h
theorem apK_own (hint : Bool) (dst : Option Tmp) (g : List Tmp) (e k b : Nat) (es es2 : List (List D)) (h : lenAll k es2 = true) : apK hint dst g e k b es2 (.own e k es) = if room (es.length + es2.length) b = true then some (appE hint dst e k es es2 g) else none := by
  simp [apK, h]
theorem appE_f (dst : Option Tmp) (e k : Nat) (es p : List (List D)) (g : List Tmp) : appE false dst e k es p g = { d := .own e k (es ++ p), gone := g } := (rfl)
theorem appE_n (h : Bool) (dst : Option Tmp) (e k : Nat) (es : List (List D)) (g : List Tmp) : appE h dst e k es [] g = { d := .own e k es, gone := g } := by
  unfold appE appV
  simp
theorem appE_t {dst : Option Tmp} {p : List (List D)} (hd : dst.getD 0 < 1000000) (hp : p.isEmpty = false) (ha : (p.all fun c => c.all fun d => nobs d && one d) = true) (e k : Nat) (g : List Tmp) : appE true dst e k [] p g = { d := .bs (dst.getD 0) 0 k p.length, box := some p.flatten, gone := g } := by
  have hf : (p.flatten.all fun d => nobs d && one d) = true := by rw [List.all_flatten]; exact ha
  have hd' : dst.getD 0 < OB := hd
  unfold appE appV
  simp [hp, hf, hd']
def vals (ρ : Operand → Option D) : List Operand → Option (List Value)
  | [] => some []
  | a :: l => (ρ a).bind fun d => (toV d).bind fun v => (vals ρ l).map (v :: ·)
theorem vals_nil : vals ρ [] = some [] := (rfl)
theorem vals_cons (a : Operand) (l : List Operand) : vals ρ (a :: l) = (ρ a).bind fun d => (toV d).bind fun v => (vals ρ l).map (v :: ·) := (rfl)
theorem vals_eq : ∀ l : List Operand, (l.mapM fun x => (ρ x).bind toV) = vals ρ l
  | [] => rfl
  | a :: l => by
    rw [List.mapM_cons, vals_cons, ← vals_eq l]
    cases ρ a with
    | none => rfl
    | some d =>
      simp only [Option.bind_some]
      cases toV d with
      | none => rfl
      | some v =>
        simp only [Option.bind_eq_bind, Option.bind_some, Option.pure_def]
        cases (l.mapM fun x => (ρ x).bind toV) <;> rfl
def minV (P : Program) (ts : Array TypeId) (ty : TypeId) (vs : List Value) : Option Value := pureRun P (Builtin.min_ ts ty vs.toArray)
def maxV (P : Program) (ts : Array TypeId) (ty : TypeId) (vs : List Value) : Option Value := pureRun P (Builtin.max_ ts ty vs.toArray)
def clN (ofz : TypeId → Option (List D)) (β : Nat → Option (List D)) : Option (TypeId × Nat × Nat) → D → Option Eff
  | some (e, _, _), .bs b off k n => (β b).bind fun cs => (ofz e).bind fun z => if z.length = k ∧ z.all one = true ∧ off + (List.replicate n z).flatten.length ≤ cs.length ∧ 0 < n then some { d := .tup [], rd := [b], st := some (b, off, (List.replicate n z).flatten) } else none
  | _, _ => none
theorem clN_bs (ofz : TypeId → Option (List D)) (β : Nat → Option (List D)) (e : TypeId) (k' bb b off k n : Nat) : clN ofz β (some (e, k', bb)) (.bs b off k n) = (β b).bind fun cs => (ofz e).bind fun z => if z.length = k ∧ z.all one = true ∧ off + (List.replicate n z).flatten.length ≤ cs.length ∧ 0 < n then some { d := .tup [], rd := [b], st := some (b, off, (List.replicate n z).flatten) } else none := (rfl)
theorem o_clear {t : TypeId} (h : (apT P t).isSome = true) (x : Operand) : dop P F tk ρ β ⟨dst, .call ⟨.builtin .clear, #[x], #[t]⟩, ty, pos, af, gd⟩ = (ρ x).bind fun a => clN (ofZero P) β (apT P t) a := by
  obtain ⟨⟨e, k, b⟩, he⟩ := Option.isSome_iff_exists.1 h
  rw [he]
  unfold apT at he
  split at he
  case h_2 => cases he
  rename_i e' hu
  have hee : e' = e := by
    rw [Option.bind_eq_some_iff] at he
    obtain ⟨i, _, he⟩ := he
    split at he
    · simp only [Option.some.injEq, Prod.mk.injEq] at he; exact he.1
    · cases he
  subst hee
  simp only [dop, hu]
  congr 1
  funext a
  cases a <;> rfl
theorem o_min (as : Array Operand) (ts : Array TypeId) : dop P F tk ρ β ⟨dst, .call ⟨.builtin .min, as, ts⟩, ty, pos, af, gd⟩ = (vals ρ as.toList).bind fun vs => (minV P ts ty vs).map fun r => { d := .v r } := by
  simp only [dop, vals_eq]; rfl
theorem o_max (as : Array Operand) (ts : Array TypeId) : dop P F tk ρ β ⟨dst, .call ⟨.builtin .max, as, ts⟩, ty, pos, af, gd⟩ = (vals ρ as.toList).bind fun vs => (maxV P ts ty vs).map fun r => { d := .v r } := by
  simp only [dop, vals_eq]; rfl
theorem minV_2 (ts : Array TypeId) (k k' : IntKind) (a b : Int) : minV P ts ty [.int k a, .int k' b] = some (.int k (if b < a then b else a)) := (rfl)
theorem maxV_2 (ts : Array TypeId) (k k' : IntKind) (a b : Int) : maxV P ts ty [.int k a, .int k' b] = some (.int k (if b > a then b else a)) := (rfl)
/-- the parts of a composite -/
def parts (ρ : Operand → Option D) : List (Nat × Operand) → Option (List (Nat × D))
  | [] => some []
  | p :: l => (ρ p.2).bind fun d => (parts ρ l).map ((p.1, d) :: ·)
theorem parts_nil : parts ρ [] = some [] := (rfl)
theorem parts_cons (i : Nat) (a : Operand) (l : List (Nat × Operand)) : parts ρ ((i, a) :: l) = (ρ a).bind fun d => (parts ρ l).map ((i, d) :: ·) := (rfl)
theorem parts_eq : ∀ l : List (Nat × Operand), (l.mapM fun (p : Nat × Operand) => (ρ p.2).map fun d => (p.1, d)) = parts ρ l
  | [] => rfl
  | (i, a) :: l => by
    rw [List.mapM_cons, parts_cons, ← parts_eq l]
    cases ρ a with
    | none => rfl
    | some d =>
      simp only [Option.map_some, Option.bind_eq_bind, Option.bind_some, Option.pure_def]
      cases (l.mapM fun (p : Nat × Operand) => (ρ p.2).map fun d => (p.1, d)) <;> rfl
def buK (z : List D) (places : List (Nat × Nat)) (ps : List (Nat × D)) : Option Eff := (fillD (places.toArray[·]?) z ps).map fun cs => { d := .agg cs }
theorem o_build {t : TypeId} {places : List (Nat × Nat)} (h : placesT P t = some places) (ps : Array (Nat × Operand)) : dop P F tk ρ β ⟨dst, .build t ps, ty, pos, af, gd⟩ = (ofZero P t).bind fun z => if z.all one = true then (parts ρ ps.toList).bind fun ps => buK z places ps else none := by
  unfold placesT at h
  split at h
  · rename_i fields hf
    simp only [dop, parts_eq, hf, h, Option.bind_some]
    rfl
  · cases h
theorem fillD_nil (place : Nat → Option (Nat × Nat)) : fillD place cs [] = some cs := (rfl)
theorem fillD_cons (place : Nat → Option (Nat × Nat)) (i : Nat) (d : D) (rest : List (Nat × D)) : fillD place cs ((i, d) :: rest) = (place i).bind fun p => if (cellsD (stripO d)).length = p.2 ∧ p.1 + p.2 ≤ cs.length ∧ (cellsD (stripO d)).all one = true then fillD place (setCells cs p.1 (cellsD (stripO d))) rest else none := (rfl)
theorem o_buildSlice {t e k b : Nat} (h : apT P t = some (e, k, b)) (n : Nat) (ps : Array (Nat × Operand)) : dop P F tk ρ β ⟨dst, .buildSlice t n ps, ty, pos, af, gd⟩ = if n * k ≤ 2 ^ 24 then (ofZero P e).bind fun z => if z.length = k ∧ z.all one = true then
        (parts ρ ps.toList).bind fun ps =>
        (fillD (fun i => some (i * k, k)) ((List.range (n * k)).map fun j => z.getD (j % z.length) .undef) ps).bind fun cs => if cs.all nobs = true then some { d := bsE tk.2 e k (chunks k n (cs.map fin1)) } else none else none else none := by
  unfold apT at h
  split at h
  · rename_i e' he
    simp only [Option.bind_eq_some_iff] at h
    obtain ⟨inf, hi, h⟩ := h
    split at h
    · rename_i hz
      simp only [Option.some.injEq, Prod.mk.injEq] at h
      obtain ⟨rfl, rfl, rfl⟩ := h
      simp only [dop, he, sizeT, hi, Option.map_some, Option.bind_some, parts_eq, hz, true_and]
    · cases h
  · cases h

def msK (z : List D) (k b : Nat) (dst : Option Tmp) (n : Int) : Option Eff := if 0 ≤ n ∧ n ≤ (maxLen : Int) ∧ n * b ≤ 140737488355328 ∧ 0 < k ∧ z.length = k ∧ z.all one = true ∧ dst.getD 0 < 1000000 then some { d := .bs (dst.getD 0) 0 k n.toNat, box := some (List.replicate n.toNat z).flatten } else none
theorem msK_eq (z : List D) (k b : Nat) (dst : Option Tmp) (n : Int) : msK z k b dst n = if 0 ≤ n ∧ n ≤ (maxLen : Int) ∧ n * b ≤ 140737488355328 ∧ 0 < k ∧ z.length = k ∧ z.all one = true ∧ dst.getD 0 < 1000000 then some { d := .bs (dst.getD 0) 0 k n.toNat, box := some (List.replicate n.toNat z).flatten } else none := (rfl)
theorem o_makeSlice {t e k b : Nat} (h : apT P t = some (e, k, b)) (l c : Operand) (hs : sameOp l c = true) : dop P F tk ρ β ⟨dst, .makeSlice t l c, ty, pos, af, gd⟩ = (ρ l).bind fun a => (idx a).bind fun n => (ofZero P e).bind fun z => msK z k b dst n := by
  unfold apT at h
  split at h
  · rename_i e' he
    simp only [Option.bind_eq_some_iff] at h
    obtain ⟨inf, hi, h⟩ := h
    split at h
    · rename_i hz
      simp only [Option.some.injEq, Prod.mk.injEq] at h
      obtain ⟨rfl, rfl, rfl⟩ := h
      simp only [dop, he, hi, hs, if_true, Option.bind_some]
      rfl
    · cases h
  · cases h
theorem sameOp_t (i : Tmp) : sameOp (.tmp i) (.tmp i) = true := by simp [sameOp]
def slK (P : Program) (t : TypeId) (lo hi : Int) (p : List (List D)) : Option Eff := (elT P t).bind fun k => if lenAll k p = true ∧ 0 ≤ lo ∧ lo ≤ hi ∧ hi ≤ (p.length : Int) then some { d := .sl ((p.take hi.toNat).drop lo.toNat) } else none
def bnd (n : Int) (x : Option Int) : Int := x.getD n
def sl2K (P : Program) (t : TypeId) (ρ : Operand → Option D) (l h : Option Operand) : D → Option Eff
  | .v (.string s) => match l, h with
      | some l, some h => (ρ l).bind fun l => (toV l).bind fun l => (ρ h).bind fun h => (toV h).bind fun h => (pureRun P (Instr.sliceAt t (.string s) (some l) (some h) none)).map fun r => { d := .v r }
      | some l, none => (ρ l).bind fun l => (toV l).bind fun l => (pureRun P (Instr.sliceAt t (.string s) (some l) none none)).map fun r => { d := .v r }
      | none, some h => (ρ h).bind fun h => (toV h).bind fun h => (pureRun P (Instr.sliceAt t (.string s) none (some h) none)).map fun r => { d := .v r }
      | none, none => none
  | d => (esOf d).bind fun es => (bound ρ 0 l).bind fun lo => (bound ρ es.length h).bind fun hi => slK P t lo hi es
theorem o_slice (t : TypeId) (a : Operand) (l h : Option Operand) : dop P F tk ρ β ⟨dst, .slice t a l h none, ty, pos, af, gd⟩ = (ρ a).bind (sl2K P t ρ l h) := by
  have key : ∀ (q : Option TypeDesc) (k : Nat → Option Eff), (match q with | some (.slice e) => (sizeT P e).bind k | _ => none) = (match q with | some (.slice e) => sizeT P e | _ => none).bind k := by
    intro q k
    cases q with
    | none => rfl
    | some q => cases q <;> rfl
  have key2 : ∀ d : D, ((esOf d).bind fun p => (bound ρ 0 l).bind fun lo => (bound ρ p.length h).bind fun hi => match P.underlying t with
      | some (.slice e) => (sizeT P e).bind fun k => if p.all (fun e => e.length == k) = true ∧ 0 ≤ lo ∧ lo ≤ hi ∧ hi ≤ (p.length : Int) then some { d := .sl ((p.take hi.toNat).drop lo.toNat) } else none
      | _ => none) = (esOf d).bind fun es => (bound ρ 0 l).bind fun lo => (bound ρ es.length h).bind fun hi => slK P t lo hi es := by
    intro d
    simp only [slK, elT]
    congr 1
    funext es
    congr 1
    funext lo
    congr 1
    funext hi
    exact key _ _
  simp only [dop]
  cases ρ a with
  | none => rfl
  | some d =>
    simp only [Option.bind_some]
    cases d with
    | v x =>
      cases x with
      | string s => rfl
      | _ => exact key2 _
    | _ => exact key2 _
theorem bound_none (n : Int) : bound ρ n none = some n := (rfl)
theorem bound_some (n : Int) (a : Operand) : bound ρ n (some a) = (ρ a).bind idx := (rfl)
theorem sl2K_v (t : TypeId) (l h : Option Operand) (b : Option Addr) (c : Nat) : sl2K P t ρ l h (.v (.slice b 0 c)) = (bound ρ 0 l).bind fun lo => (bound ρ (0 : Nat) h).bind fun hi => slK P t lo hi [] := (rfl)
theorem sl2K_sl (t : TypeId) (l h : Option Operand) (es : List (List D)) : sl2K P t ρ l h (.sl es) = (bound ρ 0 l).bind fun lo => (bound ρ es.length h).bind fun hi => slK P t lo hi es := (rfl)
theorem sl2K_own (t : TypeId) (l h : Option Operand) (e k : Nat) (es : List (List D)) : sl2K P t ρ l h (.own e k es) = (bound ρ 0 l).bind fun lo => (bound ρ es.length h).bind fun hi => slK P t lo hi es := (rfl)
theorem slK_eq (t : TypeId) (lo hi : Int) (es : List (List D)) : slK P t lo hi es = (elT P t).bind fun k' => if lenAll k' es = true ∧ 0 ≤ lo ∧ lo ≤ hi ∧ hi ≤ (es.length : Int) then some { d := .sl ((es.take hi.toNat).drop lo.toNat) } else none := (rfl)

/-! ### Values -/
theorem bop_ne {op : BinOp} (h1 : op ≠ .eql) (h2 : op ≠ .neq) (t : TypeId) (x y : Operand) (a b : Value) : bop P op t x y a b = pureRun P (binOp op t a b) := by
  unfold bop eqGuard
  cases op <;> first | rfl | exact absurd rfl h1 | exact absurd rfl h2
theorem bop_add (t : TypeId) (x y : Operand) (k : IntKind) (a b : Int) : bop P .add t x y (.int k a) (.int k b) = some (.int k (k.wrap (a + b))) := by
  rw [bop_ne (by decide) (by decide)]; simp [binOp, Op.intArith, pureRun, pure]
theorem bop_sub (t : TypeId) (x y : Operand) (k : IntKind) (a b : Int) : bop P .sub t x y (.int k a) (.int k b) = some (.int k (k.wrap (a - b))) := by
  rw [bop_ne (by decide) (by decide)]; simp [binOp, Op.intArith, pureRun, pure]
theorem bop_mul (t : TypeId) (x y : Operand) (k : IntKind) (a b : Int) : bop P .mul t x y (.int k a) (.int k b) = some (.int k (k.wrap (a * b))) := by
  rw [bop_ne (by decide) (by decide)]; simp [binOp, Op.intArith, pureRun, pure]
theorem bop_lss (t : TypeId) (x y : Operand) (k : IntKind) (a b : Int) : bop P .lss t x y (.int k a) (.int k b) = some (.bool (decide (a < b))) := by
  rw [bop_ne (by decide) (by decide)]; simp [binOp, Op.intCmp, pureRun, pure]
theorem bop_leq (t : TypeId) (x y : Operand) (k : IntKind) (a b : Int) : bop P .leq t x y (.int k a) (.int k b) = some (.bool (decide (a ≤ b))) := by
  rw [bop_ne (by decide) (by decide)]; simp [binOp, Op.intCmp, pureRun, pure]
theorem bop_gtr (t : TypeId) (x y : Operand) (k : IntKind) (a b : Int) : bop P .gtr t x y (.int k a) (.int k b) = some (.bool (decide (b < a))) := by
  rw [bop_ne (by decide) (by decide)]; simp [binOp, Op.intCmp, pureRun, pure]
theorem bop_geq (t : TypeId) (x y : Operand) (k : IntKind) (a b : Int) : bop P .geq t x y (.int k a) (.int k b) = some (.bool (decide (b ≤ a))) := by
  rw [bop_ne (by decide) (by decide)]; simp [binOp, Op.intCmp, pureRun, pure]
theorem int_beq (a b : Int) : (a == b) = decide (a = b) := (rfl)
theorem bop_eql (t : TypeId) (x y : Operand) (k : IntKind) (a b : Int) : bop P .eql t x y (.int k a) (.int k b) = some (.bool (decide (a = b))) := by
  simp [bop, eqGuard, binOp, Op.intCmp, pureRun_bind, pureRun, pure, ← int_beq]
theorem bop_neq (t : TypeId) (x y : Operand) (k : IntKind) (a b : Int) : bop P .neq t x y (.int k a) (.int k b) = some (.bool (!decide (a = b))) := by
  simp [bop, eqGuard, binOp, Op.intCmp, pureRun_bind, pureRun, pure, bne, ← int_beq]
theorem bop_quo (t : TypeId) (x y : Operand) (k : IntKind) (a b : Int) : bop P .quo t x y (.int k a) (.int k b) = if b = 0 then none else some (.int k (k.wrap (a.tdiv b))) := by
  rw [bop_ne (by decide) (by decide)]
  simp only [binOp, Op.intDiv, ne_eq, not_true, if_false]
  split <;> rfl
theorem bop_rem (t : TypeId) (x y : Operand) (k : IntKind) (a b : Int) : bop P .rem t x y (.int k a) (.int k b) = if b = 0 then none else some (.int k (a.tmod b)) := by
  rw [bop_ne (by decide) (by decide)]
  simp only [binOp, Op.intDiv, ne_eq, not_true, if_false]
  split <;> rfl
def ibit (op : BinOp) (k : IntKind) (a b : Int) : Int :=
  let x := BitVec.ofInt k.bits a
  let y := BitVec.ofInt k.bits b
  k.wrap (match op with | .and => x &&& y | .or => x ||| y | .xor => x ^^^ y | _ => x &&& ~~~y).toNat
theorem bop_and (t : TypeId) (x y : Operand) (k : IntKind) (a b : Int) : bop P .and t x y (.int k a) (.int k b) = some (.int k (ibit .and k a b)) := by
  rw [bop_ne (by decide) (by decide)]; simp [binOp, Op.intBits, pureRun, pure, ibit]
theorem bop_or (t : TypeId) (x y : Operand) (k : IntKind) (a b : Int) : bop P .or t x y (.int k a) (.int k b) = some (.int k (ibit .or k a b)) := by
  rw [bop_ne (by decide) (by decide)]; simp [binOp, Op.intBits, pureRun, pure, ibit]
theorem bop_xor (t : TypeId) (x y : Operand) (k : IntKind) (a b : Int) : bop P .xor t x y (.int k a) (.int k b) = some (.int k (ibit .xor k a b)) := by
  rw [bop_ne (by decide) (by decide)]; simp [binOp, Op.intBits, pureRun, pure, ibit]
theorem bop_andNot (t : TypeId) (x y : Operand) (k : IntKind) (a b : Int) : bop P .andNot t x y (.int k a) (.int k b) = some (.int k (ibit .andNot k a b)) := by
  rw [bop_ne (by decide) (by decide)]; simp [binOp, Op.intBits, pureRun, pure, ibit]
theorem bop_shl (t : TypeId) (x y : Operand) (k k' : IntKind) (a b : Int) : bop P .shl t x y (.int k a) (.int k' b) = if b < 0 then none else some (.int k (k.wrap (a * 2 ^ (min b.toNat k.bits)))) := by
  rw [bop_ne (by decide) (by decide)]
  simp only [binOp, Op.shift]
  split <;> rfl
theorem bop_shr (t : TypeId) (x y : Operand) (k k' : IntKind) (a b : Int) : bop P .shr t x y (.int k a) (.int k' b) = if b < 0 then none else some (.int k (a.fdiv (2 ^ (min b.toNat k.bits)))) := by
  rw [bop_ne (by decide) (by decide)]
  simp only [binOp, Op.shift]
  split <;> rfl
theorem bytes_eq (a b : ByteArray) : (a.toList == b.toList) = decide (a = b) := by
  rw [Bool.eq_iff_iff, beq_iff_eq, decide_eq_true_iff, ByteArray.toList_eq, ByteArray.toList_eq]
  exact ⟨fun h => by cases a; cases b; simp only [ByteArray.mk.injEq]; exact Array.toList_inj.1 h, fun h => by rw [h]⟩
theorem bop_seql (t : TypeId) (x y : Operand) (a b : ByteArray) : bop P .eql t x y (.string a) (.string b) = some (.bool (decide (a = b))) := by
  rw [← bytes_eq]
  simp [bop, eqGuard, binOp, Op.stringOp, pureRun_bind, pureRun, pure]
theorem bop_sneq (t : TypeId) (x y : Operand) (a b : ByteArray) : bop P .neq t x y (.string a) (.string b) = some (.bool !decide (a = b)) := by
  rw [← bytes_eq]
  simp [bop, eqGuard, binOp, Op.stringOp, pureRun_bind, pureRun, pure]
theorem equal_bool {t : TypeId} (h : P.underlying t = some .bool) (a b : Bool) : pureRun P (Op.equal t (.bool a) (.bool b)) = some (a == b) := by
  unfold Op.equal Op.maxDepth
  rw [show (10000 : Nat) = 9999 + 1 from rfl, Op.equalIn, pureRun_bind, pureRun_underlying, h]
  rfl
theorem bop_beql {t : TypeId} (h : P.underlying t = some .bool) (x y : Operand) (a b : Bool) : bop P .eql t x y (.bool a) (.bool b) = some (.bool (a == b)) := by
  have h1 : pureRun P (eqGuard .eql t x y (.bool a) (.bool b)) = some () := by simp [eqGuard, pureRun, pure]
  unfold bop
  rw [pureRun_bind, h1, Option.bind_some]
  show pureRun P (Op.equal t (.bool a) (.bool b) >>= fun r => pure (Value.bool r)) = _
  rw [pureRun_bind, equal_bool h]
  rfl
theorem bop_bneq {t : TypeId} (h : P.underlying t = some .bool) (x y : Operand) (a b : Bool) : bop P .neq t x y (.bool a) (.bool b) = some (.bool (a != b)) := by
  have h1 : pureRun P (eqGuard .neq t x y (.bool a) (.bool b)) = some () := by simp [eqGuard, pureRun, pure]
  unfold bop
  rw [pureRun_bind, h1, Option.bind_some]
  show pureRun P (Op.equal t (.bool a) (.bool b) >>= fun r => pure (Value.bool !r)) = _
  rw [pureRun_bind, equal_bool h]
  rfl
theorem uop_not (b : Bool) : uop P .not (.bool b) = some (.bool !b) := (rfl)
theorem uop_neg (k : IntKind) (a : Int) : uop P .neg (.int k a) = some (.int k (k.wrap (0 - a))) := (rfl)
theorem uop_xor (k : IntKind) (a : Int) : uop P .xor (.int k a) = some (.int k (ibit .xor k (if k.signed then -1 else k.max) a)) := (rfl)
theorem pureRun_program : pureRun P Go.program = some P := (rfl)
theorem cvK_by {s t e : TypeId} (h : bytT P t = some e) (hs : (P.underlying s).isSome = true) (hint : Bool) (d : Nat) (β : Nat → Option (List D)) (b : ByteArray) : cvK P hint (some d) β s t (.v (.string b)) = if room b.size 1 = true then some (byE hint (some d) e b) else none := by
  have hr : (b.size ≤ 140737488355328 ∧ b.size ≤ maxLen ∧ (P.underlying s).isSome = true ∧ (some d).isSome = true) ↔ room b.size 1 = true := by
    unfold room maxLen
    simp only [hs, Option.isSome_some, and_true, Nat.mul_one, decide_eq_true_eq]
  simp only [cvK, convD, h]
  by_cases h1 : room b.size 1 = true
  · rw [if_pos h1, if_pos (hr.2 h1)]
  · rw [if_neg h1, if_neg (fun h => h1 (hr.1 h))]
theorem cvt_int {s t : TypeId} {k' : IntKind} (hs : (P.underlying s).isSome = true) (ht : P.underlying t = some (.int k')) (k : IntKind) (n : Int) : cvt P s t (.int k n) = some (.int k' (k'.wrap n)) := by
  obtain ⟨q, hq⟩ := Option.isSome_iff_exists.1 hs
  unfold cvt convert
  simp only [pureRun_bind, pureRun_underlying, hq, ht, Option.bind_some]
  cases q <;> rfl
theorem dres_tmp (s : St) (t : Tmp) : dres P s (.tmp t) = s.rd (.tmp t) := (rfl)
def dcK (P : Program) (s : St) (ty : TypeId) : D → Option D
  | .bp b 0 => (s.bx b).bind fun cs => (sizeT P ty).bind fun n => partB P ty n cs 0
  | _ => none
theorem dres_cell (s : St) (a : Tmp) (ty : TypeId) : dres P s (.cell a ty) = (s.rd (.tmp a)).bind (dcK P s ty) := by
  simp only [dres]
  cases s.rd (.tmp a) with
  | none => rfl
  | some d =>
    cases d with
    | bp b off => cases off <;> rfl
    | _ => rfl
theorem dcK_bp (s : St) (ty : TypeId) (b : Nat) : dcK P s ty (.bp b 0) = (s.bx b).bind fun cs => (sizeT P ty).bind fun n => partB P ty n cs 0 := (rfl)
/-! ### The same, as functions of what is known of types -/
theorem nn_of {t : TypeId} : norm P t (.v (.slice none 0 0)) = match apT P t with
    | some (e, k, _) => .own e k []
    | none => norm P t (.v (.slice none 0 0)) := by
  split
  · rename_i e k b h; exact norm_nil h
  · rfl
def nilN : Option (TypeId × Nat × Nat) → D
  | some (e, k, _) => .own e k []
  | none => .undef
theorem dresM_tmp (s : St) (t : Tmp) : dresM P s (.tmp t) = (s.rd (.tmp t)).bind fun d => if okOutA (finA true d) = true then some (finA true d) else rawR s d := (rfl)
def dmK (P : Program) (s : St) (ty : TypeId) : D → Option D
  | .bp b 0 => (s.bx b).bind fun cs => (sizeT P ty).bind fun n => (P.underlying ty).bind fun q => if isAggD q = true ∧ b < OB ∧ n ≤ cs.length ∧ (cs.take n).all one = true ∧ okOutA (.ag2 ((cs.take n).map finW)) = true then some (.ag2 ((cs.take n).map finW)) else none
  | _ => none
theorem dresM_cell (s : St) (a : Tmp) (ty : TypeId) : dresM P s (.cell a ty) = (s.rd (.tmp a)).bind (dmK P s ty) := by
  simp only [dresM]
  cases s.rd (.tmp a) with
  | none => rfl
  | some d => cases d <;> rfl
theorem dmK_bp {s : St} {ty : TypeId} (h : kindT P ty = some true) (b : Nat) : dmK P s ty (.bp b 0) = (s.bx b).bind fun cs => (sizeT P ty).bind fun n => if b < 1000000 ∧ n ≤ cs.length ∧ (cs.take n).all one = true ∧ okOutA (.ag2 ((cs.take n).map finW)) = true then some (.ag2 ((cs.take n).map finW)) else none := by
  unfold kindT at h
  rw [Option.map_eq_some_iff] at h
  obtain ⟨q, hq, ha⟩ := h
  simp only [dmK, hq, Option.bind_some, ha, true_and, OB]
theorem norm_nilN {t : TypeId} (h : (apT P t).isSome = true) : norm P t (.v (.slice none 0 0)) = nilN (apT P t) := by
  obtain ⟨⟨e, k, b⟩, he⟩ := Option.isSome_iff_exists.1 h
  rw [norm_nil he, he]; rfl
theorem nilN_some (e k b : Nat) : nilN (some (e, k, b)) = .own e k [] := (rfl)
def apN (hint : Bool) (dst : Option Tmp) (x : Operand) (p : List (List D)) (a : D) : Option (TypeId × Nat × Nat) → D → Option Eff
  | some (e, k, b), d => apK hint dst (goneOf x a) e k b p d
  | none, _ => none
theorem o_appendN {t : TypeId} (h : (apT P t).isSome = true) (x y : Operand) (i : Tmp) : dop P F tk ρ β ⟨some i, .call ⟨.builtin .append, #[x, y], #[t, t]⟩, ty, pos, af, gd⟩ = (ρ x).bind fun a => (ρ y).bind fun v => (esOf v).bind fun p => apN tk.2 (some i) x p a (apT P t) (norm P t a) := by
  obtain ⟨⟨e, k, b⟩, he⟩ := Option.isSome_iff_exists.1 h
  rw [o_append he, he]; rfl
theorem apN_slx (hint : Bool) (dst : Option Tmp) (x : Operand) (e k b : Nat) (es : List (List D)) (c : List D) (es2 : List (List D)) (a : D) (h0 : 1 ≤ es.length) (h2 : lenAll k es = true) (h : lenAll k (c :: es2) = true) : apN hint dst x (c :: es2) a (some (e, k, b)) (.slx k es) = if room (es.length + (c :: es2).length) b = true then some { d := .own e k (es ++ c :: es2) } else none := by
  have h0' : es.isEmpty = false := by cases es with | nil => simp at h0 | cons => rfl
  simp only [apN, apK, h, h0', h2, List.isEmpty_cons, and_self, if_true]
theorem apN_own (hint : Bool) (dst : Option Tmp) (x : Operand) (e k b : Nat) (es es2 : List (List D)) (a : D) (h : lenAll k es2 = true) : apN hint dst x es2 a (some (e, k, b)) (.own e k es) = if room (es.length + es2.length) b = true then some (appE hint dst e k es es2 (goneOf x a)) else none := by
  simp only [apN, apK_own _ _ _ _ _ _ _ _ h]
def bsN (hint : Bool) (ofz : TypeId → Option (List D)) (n : Nat) (ps : Option (List (Nat × D))) : Option (TypeId × Nat × Nat) → Option Eff
  | some (e, k, _) => if n * k ≤ 2 ^ 24 then (ofz e).bind fun z => if z.length = k ∧ z.all one = true then
        ps.bind fun ps =>
        (fillD (fun i => some (i * k, k)) ((List.range (n * k)).map fun j => z.getD (j % z.length) .undef) ps).bind fun cs => if cs.all nobs = true then some { d := bsE hint e k (chunks k n (cs.map fin1)) } else none else none else none
  | none => none
theorem o_buildSliceN {t : TypeId} (h : (apT P t).isSome = true) (n : Nat) (ps : Array (Nat × Operand)) : dop P F tk ρ β ⟨dst, .buildSlice t n ps, ty, pos, af, gd⟩ = bsN tk.2 (ofZero P) n (parts ρ ps.toList) (apT P t) := by
  obtain ⟨⟨e, k, b⟩, he⟩ := Option.isSome_iff_exists.1 h
  rw [o_buildSlice he, he]; rfl
theorem bsN_0 {hint : Bool} {ofz : TypeId → Option (List D)} {e k b : Nat} (h : (ofz e).any (fun z => decide (z.length = k) && z.all one) = true) : bsN hint ofz 0 (some []) (some (e, k, b)) = some { d := bsE hint e k [] } := by
  cases hz : ofz e with
  | none => rw [hz] at h; cases h
  | some z =>
    rw [hz] at h
    simp only [Option.any_some, Bool.and_eq_true, decide_eq_true_eq] at h
    simp [bsN, hz, h.1, h.2, fillD, chunks]
theorem fill_in {k : Nat} : ∀ (ds : List D) (i : Nat) (cs : List D), (∀ d ∈ ds, (cellsD (stripO d)).length = k ∧ (cellsD (stripO d)).all one = true) → (i + ds.length) * k ≤ cs.length →
    fillD (fun i => some (i * k, k)) cs ((ds.zipIdx i).map fun p => (p.2, p.1)) = some (cs.take (i * k) ++ (ds.flatMap fun d => cellsD (stripO d)) ++ cs.drop ((i + ds.length) * k))
  | [], i, cs, _, _ => by simp [fillD]
  | d :: ds, i, cs, h, hl => by
    obtain ⟨h1, h2⟩ := h d (by simp)
    have hk : i * k + k ≤ (i + (d :: ds).length) * k := by
      rw [← Nat.succ_mul]
      exact Nat.mul_le_mul_right k (by simp)
    have hk' : (i + 1) * k = i * k + k := Nat.succ_mul ..
    rw [List.zipIdx_cons, List.map_cons, fillD_cons, Option.bind_some]
    rw [if_pos ⟨h1, (by simp only; omega), h2⟩]
    have hs : setCells cs (i * k) (cellsD (stripO d)) = cs.take (i * k) ++ cellsD (stripO d) ++ cs.drop ((i + 1) * k) := by
      unfold setCells; rw [h1, hk']
    have hlen : (cs.take (i * k) ++ cellsD (stripO d) ++ cs.drop ((i + 1) * k)).length = cs.length := by
      simp only [List.length_append, List.length_take, List.length_drop, h1]; omega
    rw [hs, fill_in ds (i + 1) _ (fun x hx => h x (by simp [hx])) (by rw [hlen]; simp only [List.length_cons] at hl; rw [show i + 1 + ds.length = i + (ds.length + 1) by omega]; exact hl)]
    have e1 : (cs.take (i * k) ++ cellsD (stripO d) ++ cs.drop ((i + 1) * k)).take ((i + 1) * k) = cs.take (i * k) ++ cellsD (stripO d) := by
      rw [List.take_append_of_le_length (by simp only [List.length_append, List.length_take, h1]; omega)]
      exact List.take_of_length_le (by simp only [List.length_append, List.length_take, h1]; omega)
    have e2 : (cs.take (i * k) ++ cellsD (stripO d) ++ cs.drop ((i + 1) * k)).drop ((i + 1 + ds.length) * k) = cs.drop ((i + (d :: ds).length) * k) := by
      have hx : (i + 1 + ds.length) * k = (i + 1) * k + ds.length * k := Nat.add_mul ..
      rw [List.drop_append, List.drop_of_length_le (by simp only [List.length_append, List.length_take, h1]; omega), List.nil_append, List.drop_drop]
      congr 1
      simp only [List.length_append, List.length_take, h1, List.length_cons]
      rw [show i + (ds.length + 1) = i + 1 + ds.length by omega, hx]
      omega
    rw [e1, e2, List.flatMap_cons]
    simp only [List.append_assoc]
theorem chunks_flat {k : Nat} : ∀ (l : List (List D)), (∀ e ∈ l, e.length = k) → chunks k l.length l.flatten = l
  | [], _ => rfl
  | e :: l, h => by
    have he := h e (by simp)
    rw [List.length_cons, chunks, List.flatten_cons, List.take_append_of_le_length (by omega), List.take_of_length_le (by omega), List.drop_append_of_le_length (by omega), List.drop_of_length_le (by omega), List.nil_append, chunks_flat l fun x hx => h x (by simp [hx])]
/-- a composite of parts that stand in order -/
theorem bsN_in {hint : Bool} {ofz : TypeId → Option (List D)} {e k b : Nat} (ds : List D) (h : (ofz e).any (fun z => decide (z.length = k) && z.all one) = true) (hk : ds.length * k ≤ 2 ^ 24) (hd : ∀ d ∈ ds, (cellsD (stripO d)).length = k ∧ (cellsD (stripO d)).all one = true) (hn : ∀ d ∈ ds, (cellsD (stripO d)).all nobs = true) :
    bsN hint ofz ds.length (some (ds.zipIdx.map fun p => (p.2, p.1))) (some (e, k, b)) = some { d := bsE hint e k (ds.map fun d => (cellsD (stripO d)).map fin1) } := by
  cases hz : ofz e with
  | none => rw [hz] at h; cases h
  | some z =>
    rw [hz] at h
    simp only [Option.any_some, Bool.and_eq_true, decide_eq_true_eq] at h
    have hlen : ((List.range (ds.length * k)).map fun j => z.getD (j % z.length) .undef).length = ds.length * k := by simp
    simp only [bsN, hz, Option.bind_some, h.1, h.2, and_self, if_true, if_pos hk]
    rw [← h.1] at hlen ⊢
    rw [show ds.zipIdx = ds.zipIdx 0 from rfl, fill_in ds 0 _ (by rw [h.1]; exact hd) (by rw [hlen]; simp)]
    simp only [Nat.zero_mul, List.take_zero, List.nil_append, Nat.zero_add, Option.bind_some]
    rw [List.drop_of_length_le (by rw [hlen]; exact Nat.le_refl _), List.append_nil]
    have hnb : (ds.flatMap fun d => cellsD (stripO d)).all nobs = true := by
      rw [List.all_eq_true]
      intro x hx
      obtain ⟨d, hd1, hx⟩ := List.mem_flatMap.1 hx
      exact List.all_eq_true.1 (hn d hd1) x hx
    rw [if_pos hnb]
    have hf : (ds.flatMap fun d => cellsD (stripO d)).map fin1 = (ds.map fun d => (cellsD (stripO d)).map fin1).flatten := by
      rw [List.map_flatMap]; rfl
    have hc := chunks_flat (k := z.length) (ds.map fun d => (cellsD (stripO d)).map fin1) (by
      intro x hx
      obtain ⟨d, hd1, rfl⟩ := List.mem_map.1 hx
      rw [List.length_map, h.1]; exact (hd d hd1).1)
    rw [List.length_map] at hc
    rw [hf, hc]
/-- is it a part of k cells? -/
def okPart (k : Nat) (d : D) : Bool := (cellsD (stripO d)).length == k && (cellsD (stripO d)).all one && (cellsD (stripO d)).all nobs
theorem okPart_eq (k : Nat) (d : D) : okPart k d = ((cellsD (stripO d)).length == k && (cellsD (stripO d)).all one && (cellsD (stripO d)).all nobs) := (rfl)
theorem bsN_ok {hint : Bool} {ofz : TypeId → Option (List D)} {e k b : Nat} (ds : List D) (h : (ofz e).any (fun z => decide (z.length = k) && z.all one) = true) (hk : ds.length * k ≤ 2 ^ 24) (hd : ds.all (okPart k) = true) :
    bsN hint ofz ds.length (some (ds.zipIdx.map fun p => (p.2, p.1))) (some (e, k, b)) = some { d := bsE hint e k (ds.map fun d => (cellsD (stripO d)).map fin1) } := by
  have : ∀ d ∈ ds, (cellsD (stripO d)).length = k ∧ (cellsD (stripO d)).all one = true ∧ (cellsD (stripO d)).all nobs = true := fun d hd' => by
    have := List.all_eq_true.1 hd d hd'
    simp only [okPart, Bool.and_eq_true, beq_iff_eq] at this
    exact ⟨this.1.1, this.1.2, this.2⟩
  exact bsN_in ds h hk (fun d hd => ⟨(this d hd).1, (this d hd).2.1⟩) fun d hd => (this d hd).2.2
theorem bsN_1 {hint : Bool} {ofz : TypeId → Option (List D)} {e k b : Nat} (h : (ofz e).any (fun z => decide (z.length = k) && z.all one) = true) (d : D) (hk : 1 * k ≤ 2 ^ 24) (hd : [d].all (okPart k) = true) :
    bsN hint ofz 1 (some [(0, d)]) (some (e, k, b)) = some { d := bsE hint e k [(cellsD (stripO d)).map fin1] } := bsN_ok [d] h hk hd
theorem bsN_2 {hint : Bool} {ofz : TypeId → Option (List D)} {e k b : Nat} (h : (ofz e).any (fun z => decide (z.length = k) && z.all one) = true) (d d1 : D) (hk : 2 * k ≤ 2 ^ 24) (hd : [d, d1].all (okPart k) = true) :
    bsN hint ofz 2 (some [(0, d), (1, d1)]) (some (e, k, b)) = some { d := bsE hint e k [(cellsD (stripO d)).map fin1, (cellsD (stripO d1)).map fin1] } := bsN_ok [d, d1] h hk hd
theorem bsN_3 {hint : Bool} {ofz : TypeId → Option (List D)} {e k b : Nat} (h : (ofz e).any (fun z => decide (z.length = k) && z.all one) = true) (d d1 d2 : D) (hk : 3 * k ≤ 2 ^ 24) (hd : [d, d1, d2].all (okPart k) = true) :
    bsN hint ofz 3 (some [(0, d), (1, d1), (2, d2)]) (some (e, k, b)) = some { d := bsE hint e k [(cellsD (stripO d)).map fin1, (cellsD (stripO d1)).map fin1, (cellsD (stripO d2)).map fin1] } := bsN_ok [d, d1, d2] h hk hd
theorem bsN_4 {hint : Bool} {ofz : TypeId → Option (List D)} {e k b : Nat} (h : (ofz e).any (fun z => decide (z.length = k) && z.all one) = true) (d d1 d2 d3 : D) (hk : 4 * k ≤ 2 ^ 24) (hd : [d, d1, d2, d3].all (okPart k) = true) :
    bsN hint ofz 4 (some [(0, d), (1, d1), (2, d2), (3, d3)]) (some (e, k, b)) = some { d := bsE hint e k [(cellsD (stripO d)).map fin1, (cellsD (stripO d1)).map fin1, (cellsD (stripO d2)).map fin1, (cellsD (stripO d3)).map fin1] } := bsN_ok [d, d1, d2, d3] h hk hd
theorem bsN_5 {hint : Bool} {ofz : TypeId → Option (List D)} {e k b : Nat} (h : (ofz e).any (fun z => decide (z.length = k) && z.all one) = true) (d d1 d2 d3 d4 : D) (hk : 5 * k ≤ 2 ^ 24) (hd : [d, d1, d2, d3, d4].all (okPart k) = true) :
    bsN hint ofz 5 (some [(0, d), (1, d1), (2, d2), (3, d3), (4, d4)]) (some (e, k, b)) = some { d := bsE hint e k [(cellsD (stripO d)).map fin1, (cellsD (stripO d1)).map fin1, (cellsD (stripO d2)).map fin1, (cellsD (stripO d3)).map fin1, (cellsD (stripO d4)).map fin1] } := bsN_ok [d, d1, d2, d3, d4] h hk hd
theorem bsN_6 {hint : Bool} {ofz : TypeId → Option (List D)} {e k b : Nat} (h : (ofz e).any (fun z => decide (z.length = k) && z.all one) = true) (d d1 d2 d3 d4 d5 : D) (hk : 6 * k ≤ 2 ^ 24) (hd : [d, d1, d2, d3, d4, d5].all (okPart k) = true) :
    bsN hint ofz 6 (some [(0, d), (1, d1), (2, d2), (3, d3), (4, d4), (5, d5)]) (some (e, k, b)) = some { d := bsE hint e k [(cellsD (stripO d)).map fin1, (cellsD (stripO d1)).map fin1, (cellsD (stripO d2)).map fin1, (cellsD (stripO d3)).map fin1, (cellsD (stripO d4)).map fin1, (cellsD (stripO d5)).map fin1] } := bsN_ok [d, d1, d2, d3, d4, d5] h hk hd
theorem bsN_7 {hint : Bool} {ofz : TypeId → Option (List D)} {e k b : Nat} (h : (ofz e).any (fun z => decide (z.length = k) && z.all one) = true) (d d1 d2 d3 d4 d5 d6 : D) (hk : 7 * k ≤ 2 ^ 24) (hd : [d, d1, d2, d3, d4, d5, d6].all (okPart k) = true) :
    bsN hint ofz 7 (some [(0, d), (1, d1), (2, d2), (3, d3), (4, d4), (5, d5), (6, d6)]) (some (e, k, b)) = some { d := bsE hint e k [(cellsD (stripO d)).map fin1, (cellsD (stripO d1)).map fin1, (cellsD (stripO d2)).map fin1, (cellsD (stripO d3)).map fin1, (cellsD (stripO d4)).map fin1, (cellsD (stripO d5)).map fin1, (cellsD (stripO d6)).map fin1] } := bsN_ok [d, d1, d2, d3, d4, d5, d6] h hk hd
theorem bsN_8 {hint : Bool} {ofz : TypeId → Option (List D)} {e k b : Nat} (h : (ofz e).any (fun z => decide (z.length = k) && z.all one) = true) (d d1 d2 d3 d4 d5 d6 d7 : D) (hk : 8 * k ≤ 2 ^ 24) (hd : [d, d1, d2, d3, d4, d5, d6, d7].all (okPart k) = true) :
    bsN hint ofz 8 (some [(0, d), (1, d1), (2, d2), (3, d3), (4, d4), (5, d5), (6, d6), (7, d7)]) (some (e, k, b)) = some { d := bsE hint e k [(cellsD (stripO d)).map fin1, (cellsD (stripO d1)).map fin1, (cellsD (stripO d2)).map fin1, (cellsD (stripO d3)).map fin1, (cellsD (stripO d4)).map fin1, (cellsD (stripO d5)).map fin1, (cellsD (stripO d6)).map fin1, (cellsD (stripO d7)).map fin1] } := bsN_ok [d, d1, d2, d3, d4, d5, d6, d7] h hk hd
def msN (ofz : TypeId → Option (List D)) (dst : Option Tmp) (n : Int) : Option (TypeId × Nat × Nat) → Option Eff
  | some (e, k, b) => (ofz e).bind fun z => msK z k b dst n
  | none => none
theorem o_makeSliceN {t : TypeId} (h : (apT P t).isSome = true) (l c : Operand) (hs : sameOp l c = true) : dop P F tk ρ β ⟨dst, .makeSlice t l c, ty, pos, af, gd⟩ = (ρ l).bind fun a => (idx a).bind fun n => msN (ofZero P) dst n (apT P t) := by
  obtain ⟨⟨e, k, b⟩, he⟩ := Option.isSome_iff_exists.1 h
  rw [o_makeSlice he l c hs, he]; rfl
theorem msN_some (ofz : TypeId → Option (List D)) (e k b : Nat) (n : Int) : msN ofz dst n (some (e, k, b)) = (ofz e).bind fun z => msK z k b dst n := (rfl)
def buN (z : List D) (ps : List (Nat × D)) : Option (List (Nat × Nat)) → Option Eff
  | some places => buK z places ps
  | none => none
theorem o_buildN {t : TypeId} (h : (placesT P t).isSome = true) (ps : Array (Nat × Operand)) : dop P F tk ρ β ⟨dst, .build t ps, ty, pos, af, gd⟩ = (ofZero P t).bind fun z => if z.all one = true then (parts ρ ps.toList).bind fun ps => buN z ps (placesT P t) else none := by
  obtain ⟨places, he⟩ := Option.isSome_iff_exists.1 h
  rw [o_build he, he]; rfl
theorem buN_some (z : List D) (ps : List (Nat × D)) (places : List (Nat × Nat)) : buN z ps (some places) = buK z places ps := (rfl)
theorem buK_eq (z : List D) (ps : List (Nat × D)) (places : List (Nat × Nat)) : buK z places ps = (fillD (fun i => places[i]?) z ps).map fun cs => { d := .agg cs } := by
  simp only [buK, List.getElem?_toArray]
/-- what is laid at its places -/
theorem setC_0 (n : Nat) (l : List D) : setCells l 0 [] = l := by simp [setCells]
theorem setC_hd (d x : D) (l : List D) : setCells (d :: l) 0 [x] = x :: l := by simp [setCells]
theorem setC_tl (d : D) (l xs : List D) (n : Nat) : setCells (d :: l) (n + 1) xs = d :: setCells l n xs := by
  simp only [setCells, List.take_succ_cons, List.cons_append]
  rw [show n + 1 + xs.length = (n + xs.length) + 1 by omega, List.drop_succ_cons]
theorem setC_more (d x y : D) (l xs : List D) : setCells (d :: l) 0 (x :: y :: xs) = x :: setCells l 0 (y :: xs) := by
  simp only [setCells, List.take_zero, List.nil_append, List.cons_append, List.length_cons, Nat.zero_add, List.drop_succ_cons]
theorem isU_slx (k : Nat) (es : List (List D)) : isU (.slx k es) = false := (rfl)
theorem fin1_slx (k : Nat) (es : List (List D)) : fin1 (.slx k es) = .sl es := (rfl)
theorem fin_slx (k : Nat) (es : List (List D)) : fin (.slx k es) = .sl es := (rfl)
theorem finR_slx (k : Nat) (es : List (List D)) : finR (.slx k es) = .sl es := (rfl)
theorem data_slx (k : Nat) (es : List (List D)) : data (.slx k es) = false := (rfl)
theorem nobs_slx (k : Nat) (es : List (List D)) : nobs (.slx k es) = false := (rfl)
theorem boxc_slx (k : Nat) (es : List (List D)) : boxc (.slx k es) = [] := (rfl)
theorem refc_slx (b : Nat) (k : Nat) (es : List (List D)) : refc b (.slx k es) = false := (rfl)
theorem refl_slx (l : List Tmp) (k : Nat) (es : List (List D)) : refl l (.slx k es) = false := (rfl)
theorem rO_slx (k : Nat) (es : List (List D)) (l : List D) : refsOnly (.slx k es :: l) = .slx k es :: refsOnly l := (rfl)
theorem frT_slx (b : Nat) (c : List D) (k : Nat) (es : List (List D)) : frT b c (.slx k es) = (.slx k es) := (rfl)
theorem frD_slx (b : Nat) (c : List D) (k : Nat) (es : List (List D)) : frD b c (.slx k es) = (.slx k es) := (rfl)
theorem tops_slx (k : Nat) (es : List (List D)) : D.tops (.slx k es) = true := (rfl)
theorem one_slx (k : Nat) (es : List (List D)) : one (.slx k es) = true := (rfl)
theorem oneb_slx (k : Nat) (es : List (List D)) : oneb (.slx k es) = true := (rfl)
theorem cells_slx (k : Nat) (es : List (List D)) : cellsD (.slx k es) = [(.slx k es)] := (rfl)
theorem kills_slx (l : List Tmp) (k : Nat) (es : List (List D)) : kills l (.slx k es) = (.slx k es) := (rfl)
theorem shD_slx (k : Nat) (es : List (List D)) : shD (.slx k es) = .undef := (rfl)
theorem goneOf_slx (a : Operand) (k : Nat) (es : List (List D)) : goneOf a (.slx k es) = [] := (rfl)
theorem norm_slx (t : TypeId) (k : Nat) (es : List (List D)) : norm P t (.slx k es) = (.slx k es) := (rfl)
theorem stripAt_0 (d : D) (l : List D) : stripAt (d :: l) 0 = strip d :: l := (rfl)
theorem stripAt_s (d : D) (l : List D) (n : Nat) : stripAt (d :: l) (n + 1) = d :: stripAt l n := (rfl)
theorem rep_flat (n : Nat) (x : D) : (List.replicate n [x]).flatten = List.replicate n x := by
  induction n with
  | zero => rfl
  | succ n ih => rw [List.replicate_succ, List.flatten_cons, ih, List.replicate_succ]; rfl
theorem setC_all (l : List D) (xs : List D) (h : l.length = xs.length) : setCells l 0 xs = xs := by simp [setCells, h]
theorem inK_aggN {t : TypeId} (h : (arT P t).isSome = true) (b : D) (i : Int) : inK P t b (some i) none (.agg cs) = (arT P t).bind fun p => if 0 ≤ i ∧ i < (p.1 : Int) then (partD P p.2.1 p.2.2 cs (i.toNat * p.2.2)).map fun d => { d := d } else none := by
  obtain ⟨⟨n, e, k⟩, he⟩ := Option.isSome_iff_exists.1 h
  rw [inK_agg he, he]; rfl
/-- hidden from simp -/
def Hid (p : Prop) : Prop := p
/-! ### Numbers in their range -/
theorem w_i64 {n : Int} (h : -9223372036854775808 ≤ n ∧ n < 9223372036854775808) : IntKind.i64.wrap n = n := by
  simp [IntKind.wrap, IntKind.bits, IntKind.signed]; omega
theorem w_i32 {n : Int} (h : -2147483648 ≤ n ∧ n < 2147483648) : IntKind.i32.wrap n = n := by
  simp [IntKind.wrap, IntKind.bits, IntKind.signed]; omega
theorem w_u64 {n : Int} (h : 0 ≤ n ∧ n < 18446744073709551616) : IntKind.u64.wrap n = n := by
  simp [IntKind.wrap, IntKind.bits, IntKind.signed]; omega
theorem w_u32 {n : Int} (h : 0 ≤ n ∧ n < 4294967296) : IntKind.u32.wrap n = n := by
  simp [IntKind.wrap, IntKind.bits, IntKind.signed]; omega
theorem w_u16 {n : Int} (h : 0 ≤ n ∧ n < 65536) : IntKind.u16.wrap n = n := by
  simp [IntKind.wrap, IntKind.bits, IntKind.signed]; omega
theorem w_u8 {n : Int} (h : 0 ≤ n ∧ n < 256) : IntKind.u8.wrap n = n := by
  simp [IntKind.wrap, IntKind.bits, IntKind.signed]; omega
theorem room_le {n b : Nat} (h : n * b ≤ 140737488355328 ∧ n ≤ 9223372036854775807) : room n b = true := by
  unfold room
  rw [decide_eq_true_eq]
  exact h
theorem tm_nn {a b : Int} (h : 0 ≤ a) : a.tmod b = a % b := Int.tmod_eq_emod_of_nonneg h
theorem td_nn {a b : Int} (h : 0 ≤ a) : a.tdiv b = a / b := Int.tdiv_eq_ediv_of_nonneg h
theorem ite_ok {α : Type} {c : Prop} [Decidable c] {x : α} (h : c) : (if c then some x else none) = some x := if_pos h
theorem tk_map {α β : Type} (f : α → β) (l : List α) : (l.map f).take l.length = l.map f := by rw [← List.length_map (f := f), List.take_length]
theorem nzero : ((0 : Nat) : Int) = 0 := (rfl)
theorem nsucc (i : Nat) : (i : Int) + 1 = ((i + 1 : Nat) : Int) := (rfl)
end
attribute [go_sem] mk_move mk_assign mk_pick mk_alloc mk_box mk_build mk_buildSlice mk_load mk_store mk_nilCheck mk_binOp mk_unOp mk_convert mk_makeSlice mk_slice mk_fieldAddr mk_field mk_indexAddr mk_index mk_extract mk_call mk_makeFunc stp_some stq_some dlw_nil dlw_cons dtw_nil dtw_cons List.toList_toArray ok_some Option.bind_some Option.bind_none Option.map_some Option.map_none on_S onq_S putf boxf boxg boxq gbg stg stc setg_nil setg_cons strips List.foldl_nil List.foldl_cons S_at S_bx rd_tmp rd_const rd_global rd_func upd_at killf_at killg_at undf_at undg_at undefs_S freezes_nil freezes_cons freeze_S fz1_S Option.isNone_some Option.isNone_none frf_at frg_at takes_eq apps appOf gdst List.flatMap_cons List.flatMap_nil List.append_nil List.nil_append List.cons_append Option.toList_some Option.toList_none List.contains_cons List.contains_nil Bool.or_false Bool.false_or Bool.or_true Bool.true_or beq_self_eq_true Bool.false_eq_true if_true if_false Option.getD_some Option.getD_none List.getElem?_cons_zero List.getElem?_cons_succ List.getElem?_nil List.all_cons List.all_nil List.any_cons List.any_nil Bool.and_true Bool.true_and Bool.and_self and_self and_true true_and List.length_cons List.length_nil Nat.zero_add Nat.add_zero List.drop_zero List.map_cons List.map_nil seqQ_norm seqQ_exit seqQ_ret blkQ_norm blkQ_exit blkQ_ret blkR_norm blkR_exit blkR_ret loopQ_norm loopQ_exit loopQ_ret endQ_norm endQ_ret dresAll_one dresAll_two dresAll_m1 dresAll_m2 List.head?_nil List.head?_cons List.nodup_nil List.nodup_cons List.not_mem_nil List.mem_cons rawR_bs dresAll_nil dend_S outE_0 outE_s outs_0 outs_s argsg_nil argsg_at Prod.mk.injEq List.any_append List.flatMap_append List.contains_append List.zip_cons_cons List.zip_nil_left List.idxOf_cons List.idxOf_nil Bool.cond_true Bool.cond_false cond_true cond_false condB_bool decide_eq_true_eq decide_eq_false_iff_not true_implies false_implies forall_const not_true_eq_false not_false_eq_true clear_nil argsf List.getD_cons_zero List.getD_cons_succ decide_true decide_false List.mapM_cons List.mapM_nil Option.bind_eq_bind Option.pure_def List.take_zero List.take_succ_cons List.take_nil List.drop_succ_cons List.drop_nil Nat.min_eq_left Nat.mul_one bne_self_eq_false true_or or_true false_or or_false Option.isSome_some Option.any_some Bool.and_eq_true Bool.not_true Bool.not_false List.reverse_nil List.reverse_cons List.getD_nil Bool.and_false Bool.false_and Bool.not_eq_true' Bool.not_eq_false' isU_v isU_sl isU_nn isU_own isU_agg isU_tup isU_bp isU_ep isU_bs isU_fn isU_ag2 isU_tp2 isU_undef strip_v strip_sl strip_nn strip_ow strip_agg strip_tup strip_bp strip_ep strip_bs strip_fn strip_ag2 strip_tp2 strip1_own strip1_v strip1_sl strip1_bp strip1_bs strip1_fn strip1_ep strip1_nn stripR_own stripR_ag2 stripR_raw stripR_agg stripR_undef stripR_sl stripO_ag2 strip_slx stripO_v stripO_sl stripO_nn stripO_ow stripO_agg stripO_tup stripO_bp stripO_ep stripO_bs stripO_fn stripO_undef stripO_slx bsE_f bsE_t strip_undef fin1_int fin_int finR_int fin1_bool fin_bool finR_bool fin1_str fin_str finR_str fin1_func fin_func finR_func fin1_ptr fin_ptr finR_ptr fin1_vagg fin_vagg finR_vagg fin1_sl fin1_nn fin_sl fin_nn finR_sl finR_nn fin1_bs fin_bs finR_bs fin1_fn fin_fn finR_fn fin1_bp fin_bp finR_bp fin1_ep fin_ep finR_ep fin1_tup fin_tup finR_tup fin1_nil fin_nil finR_nil fin1_own fin_own finR_own fin_agg finR_agg data_v data_sl data_ep data_nn data_agg nobs_v nobs_sl nobs_ep nobs_nn nobs_own nobs_bs nobs_bp nobs_fn arg_v arg_sl arg_ep arg_nn arg_agg arg_bs arg_bp arg_fn fn1_v fn1_sl fn1_ep fn1_nn fn1_bs fn1_bp finA_v finA_sl finA_ep finA_nn finA_bs finA_bp finA_fn finA_agg finA_tup finA_slx finA_own_t finA_own_f finA_ag2 finW_v finW_sl finW_ep finW_nn finW_bs finW_bp finW_fn finW_own finW_slx argA_v argA_sl argA_ep argA_nn argA_bs argA_bp argA_fn argA_agg argA_tup argA_slx argA_own argA_ag2 rt_v rt_sl rt_ep rt_nn rt_bs rt_bp rt_fn rt_agg rt_tup rt_slx rt_own rt_ag2 box1_v box1_sl box1_ep box1_nn box1_bs box1_bp boxc_v boxc_sl boxc_ep boxc_nn boxc_own boxc_bs boxc_bp boxc_fn boxa_v boxa_sl boxa_ep boxa_nn boxa_bs boxa_bp boxa_fn boxa_agg boxa_ag2 boxa_undef boxa_own boxD_v boxD_sl boxD_ep boxD_nn boxD_bs boxD_bp boxD_fn boxD_agg boxD_ag2 boxD_own flat_nobs okOut_v okOut_sl okOutA_own okOutA_ag2 okOut_ep okOut_nn okOut_bp okOut_bs okOut_agg okOut_fn outc_eq outc_nobs ren1_v ren1_sl ren1_ep ren1_nn ren1_bs ren1_bp renc_v renc_sl renc_ep renc_nn renc_own' renc_bs renc_bp renc_fn renc_nobs renD_v renD_sl renD_ep renD_nn renD_own renD_bs renD_bp renD_fn renD_agg renD_ag2 renD_tp2 renD_tup rena_v rena_sl rena_ep rena_nn rena_bs rena_bp rena_fn rena_agg rena_ag2 rena_undef rena_own rena_raw idxIn_eq inIdx_eq reach_nil reach_cons refc_v refc_sl refc_ep refc_nn refc_own refc_bs refc_bp refc_fn any_refc_nobs refl_v refl_sl refl_ep refl_nn refl_own refl_bs refl_bp refl_fn anyc_nil anyc_cons' anyc_nobs anyt_nil anyt_cons killbs_none killbs_some rO_nil rO_v rO_sl rO_ep rO_nn rO_own rO_bs rO_bp rO_fn rO_nobs frT_v frT_sl frT_nn frT_own frT_tup refs_tup frT_fn frT_bp frT_bs frT_ep frT_undef frT_agg frT_ag2 frT_tp2 refs_tp2 frD_v frD_sl frD_ep frD_nn frD_own frD_bs frD_bp frD_fn frD_nobs frB_none frB_some tops_v tops_sl tops_own one_int one_bool one_str one_nil one_sl one_ep one_nn one_ptr oneb_ptr one_bs one_bp one_fn one_own oneb_int oneb_bool oneb_str oneb_nil oneb_sl oneb_ep oneb_nn oneb_bs oneb_bp oneb_fn oneb_own oneb_bz frD_bz' cells_int cells_bool cells_str cells_nil cells_sl cells_ep cells_nn cells_own cells_ag2 cells_bs cells_bp cells_fn cells_agg cells_vagg kills_v kills_sl kills_nn kills_own kills_agg kills_ag2 kills_tp2 kills_bs kills_tup kills_fn kills_bp kills_ep kills_undef shD_v shD_sl shD_nn shD_own shD_agg shD_ag2 shD_tp2 shD_bs shD_tup shD_fn shD_bp shD_ep shD_undef sh_mk toV_v toV_agg go_nil go_cons idx_int esOf_sl esOf_v esOf_own goneOf_v goneOf_sl goneOf_nn goneOf_own goneOf_ownc goneOf_agg goneOf_tup goneOf_bp goneOf_bs goneOf_fn goneOf_ep goneOf_ag2 goneOf_tp2 tmpOf_tmp goneA_nil goneA_cons norm_int norm_bool norm_str norm_func norm_ptr norm_vagg norm_sl norm_nn norm_own norm_agg norm_tup norm_bp norm_bs norm_fn norm_ep norm_ag2 norm_tp2 partD_1 partD_agg partB_1 partB_agg hinted_eq moved_eq mh_nil mh_cons deff_plain guarded_t guarded_f deff_guard gwant_f gwant_t gwant_undef o_move o_assign o_pick pickK_bool bzc_q bzt_is bzq_none bzq_some bzh_nil refc_bz boxc_bz strip_bz' renc_bz' o_alloc o_box o_binOp binK_v binK_agg binK_slE binK_slN binK_bpE binK_bpN binK_epE binK_epN binK_nnE binK_nnN binK_ppE binK_ppN o_unOp o_convert cvK_int cvK_own cvK_sl cvK_bs cvK_nil byE_f byE_t bytN_map bsI_map o_index inK_some o_load ldK_bp ldK_bpt ldK_bpa ldK_ep o_store stK_bp o_nilCheck nilK_ep nilK_bp o_fieldAddr faK_bp faK_ep o_field fiK_agg o_indexAddr iaK_bs iaK_sl iaK_own iaK_aep iaK_abp ixK_eq o_extract exK_tup exK_tp2 xtR_own xtR_ag2 xtR_agg xtR_sl xtR_raw args_nil args_cons calK_nil calK_cons o_call calD_eq retE_v retE_sl retE_ep retE_nn retE_own retE_agg retE_tup retE_fn retE_bp retE_bs retE_raw retE_ag2 retE_tp2 bxs_nil bxs_cons outK_eq callO_t caps_nil caps_cons o_makeFunc callD_t callD_f fnOf_f fnOf_fn o_len lenK_str lenK_sl lenK_own lenK_bs lenAll_nil lenAll_cons lenAll_map lenAll_app lenAll_take lenAll_drop appE_f appE_n vals_nil vals_cons clN_bs o_clear o_min o_max minV_2 maxV_2 parts_nil parts_cons fillD_nil fillD_cons msK_eq sameOp_t o_slice bound_none bound_some sl2K_v sl2K_sl sl2K_own slK_eq bop_add bop_sub bop_mul bop_lss bop_leq bop_gtr bop_geq bop_eql bop_neq bop_quo bop_rem bop_and bop_or bop_xor bop_andNot bop_shl bop_shr bop_seql bop_sneq bop_beql bop_bneq uop_not uop_neg uop_xor cvt_int dres_tmp dres_cell dcK_bp dresM_tmp dresM_cell dmK_bp norm_nilN nilN_some o_appendN apN_slx apN_own o_buildSliceN bsN_0 okPart_eq bsN_1 bsN_2 bsN_3 bsN_4 bsN_5 bsN_6 bsN_7 bsN_8 o_makeSliceN msN_some o_buildN buN_some buK_eq setC_0 setC_hd setC_tl setC_more isU_slx fin1_slx fin_slx finR_slx data_slx nobs_slx boxc_slx refc_slx refl_slx rO_slx frT_slx frD_slx tops_slx one_slx oneb_slx cells_slx kills_slx shD_slx goneOf_slx norm_slx stripAt_0 stripAt_s rep_flat setC_all inK_aggN tk_map nzero
end Go.Eng
