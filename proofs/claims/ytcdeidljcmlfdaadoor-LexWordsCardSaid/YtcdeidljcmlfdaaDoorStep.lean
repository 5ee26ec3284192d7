/- How one steps through a text by values (the session's own words). -/
import Derived.Test.YtcdeidljcmlfdaaDoorDen
namespace Go.Eng
open Go.RowKit
set_option linter.unusedVariables false
set_option linter.unusedSimpArgs false

/-! ### States told by what stands in them -/
def S (N : Nat) (f : Nat → D) (g : Nat → Option (List D)) : St := ⟨(List.range N).map f, g⟩
def upd {α : Type} (f : Nat → α) (i : Nat) (x : α) : Nat → α := fun j => if j = i then x else f j
theorem upd_at {α : Type} (f : Nat → α) (i j : Nat) (x : α) : upd f i x j = if j = i then x else f j := (rfl)
theorem rangemap_set {α : Type} (N : Nat) (f : Nat → α) (i : Nat) (x : α) : ((List.range N).map f).set i x = (List.range N).map (upd f i x) := by
  refine List.ext_getElem (by simp) fun j h1 h2 => ?_
  have hj : j < N := by simpa using h2
  rw [List.getElem_set]
  simp only [List.getElem_map, List.getElem_range, upd]
  split
  · rename_i e; rw [if_pos e.symm]
  · rename_i e; rw [if_neg (fun h => e h.symm)]
theorem rangemap_getD {α : Type} (N : Nat) (f : Nat → α) (i : Nat) (d : α) : ((List.range N).map f).getD i d = if i < N then f i else d := by
  rw [List.getD_eq_getElem?_getD]
  split
  · rename_i h
    rw [List.getElem?_eq_getElem (by simpa using h)]
    simp
  · rename_i h
    rw [List.getElem?_eq_none (by simpa using h)]
    rfl
section
variable {N : Nat} {f : Nat → D} {g : Nat → Option (List D)} {P : Program} {F : FTy} {hs : List Tmp} {ops : Array Oper}
theorem S_congr {f' : Nat → D} {g' : Nat → Option (List D)} (hf : ∀ i, i < N → f i = f' i) (hg : ∀ i, g i = g' i) : S N f g = S N f' g' := by
  unfold S
  congr 1
  · exact List.map_congr_left fun i hi => hf i (List.mem_range.1 hi)
  · exact funext hg
theorem S_at (i : Nat) : (S N f g).at i = if i < N then f i else .undef := rangemap_getD N f i .undef
theorem S_bx (i : Nat) : (S N f g).bx i = g i := (rfl)
def isU : D → Bool
  | .undef => true
  | _ => false
theorem rd_tmp (st : St) (t : Tmp) : st.rd (.tmp t) = if isU (st.at t) then none else some (st.at t) := by
  simp only [St.rd]
  cases st.at t <;> rfl
theorem rd_const (st : St) (x : Value) : st.rd (.const x) = some (.v x) := (rfl)
theorem rd_global (st : St) (x : Nat) : st.rd (.global x) = some (gD x) := (rfl)
theorem rd_func (st : St) (x : FuncId) : st.rd (.func x) = some (.v (.func (.func x) #[] #[])) := (rfl)
def strips (l : List Tmp) (f : Nat → D) : Nat → D := l.foldl (fun f i => upd f i (strip (f i))) f
def refl (l : List Tmp) (d : D) : Bool := (boxc d).any fun b => l.contains b
def anyc (l : List Tmp) (cs : List D) : Bool := cs.any (refl l)
def anyt (l : List Tmp) (ds : List D) : Bool := ds.any fun d => (boxa d).any fun b => l.contains b
/-- the places of variables, forgotten -/
def kills (l : List Tmp) : D → D
  | .bp b off => if l.contains b then .undef else .bp b off
  | .bs b off k n => if l.contains b then .undef else .bs b off k n
  | .agg cs => if anyc l cs then .undef else .agg cs
  | .tup ds => if anyt l ds then .undef else .tup ds
  | .fn f xs ys => if refl l (.fn f xs ys) then .undef else .fn f xs ys
  | .ag2 cs => if anyc l cs then .undef else .ag2 cs
  | .tp2 c r ds => if anyt l (r :: ds) then .undef else .tp2 c r ds
  | d => d
theorem kills_def (l : List Tmp) (d : D) : kills l d = if ((boxD d).any fun b => l.contains b) = true then .undef else d := by
  cases d with
  | bp b off => simp [kills, boxD, boxa, boxc, box1]
  | bs b off k n => simp [kills, boxD, boxa, boxc, box1]
  | agg cs => simp only [kills, boxD, boxa, anyc, List.any_flatMap]; rfl
  | ag2 cs => simp only [kills, boxD, boxa, anyc, List.any_flatMap]; rfl
  | tp2 c r ds => simp only [kills, boxD, anyt, List.any_cons, List.any_append, List.any_flatMap]; rfl
  | tup ds => simp only [kills, boxD, anyt, List.any_flatMap]; rfl
  | fn f xs ys => rfl
  | _ => rfl
def killbs (l : List Tmp) : Option (List D) → Option (List D)
  | some cs => if anyc l cs then none else some cs
  | none => none
theorem any_one (b : Tmp) (l : List Nat) : (l.any fun x => [b].contains x) = l.contains b := by
  rw [Bool.eq_iff_iff]
  simp [List.any_eq_true, List.contains_iff_mem]
theorem refl_one (b : Tmp) (d : D) : refl [b] d = refc b d := by
  rw [refc_mem]; exact any_one b _
theorem anyc_one (b : Tmp) (cs : List D) : anyc [b] cs = cs.any (refc b) := by
  unfold anyc; congr 1; funext d; exact refl_one b d
theorem kill_kills (b : Tmp) (d : D) : kill b d = kills [b] d := by
  unfold kill
  rw [kills_def, refs_mem, any_one]
theorem killb_kills (b : Tmp) (c : Option (List D)) : killb b c = killbs [b] c := by
  cases c with
  | none => rfl
  | some cs => simp only [killb, killbs, Option.bind_some, anyc_one]
def killf (b : Nat) (f : Nat → D) : Nat → D := fun j => kills [b] (f j)
def killg (b : Nat) (g : Nat → Option (List D)) : Nat → Option (List D) := fun j => killbs [b] (g j)
theorem killf_at (b : Nat) (f : Nat → D) (j : Nat) : killf b f j = kills [b] (f j) := (rfl)
theorem killg_at (b : Nat) (g : Nat → Option (List D)) (j : Nat) : killg b g j = killbs [b] (g j) := (rfl)
def boxf (dst : Option Tmp) : Option (List D) → (Nat → D) → (Nat → D)
  | none, f => f
  | some _, f => killf (dst.getD 0) f
def boxg (dst : Option Tmp) : Option (List D) → (Nat → Option (List D)) → (Nat → Option (List D))
  | none, g => g
  | some cs, g => upd (killg (dst.getD 0) g) (dst.getD 0) (some cs)
def gbg : Option (Nat × Nat) → (Nat → Option (List D)) → (Nat → Option (List D))
  | none, g => g
  | some (k, off), g => upd g k ((g k).map fun cs => stripAt cs off)
def stc (off : Nat) (cs : List D) : Option (List D) → Option (List D)
  | some old => some (setCells old off cs)
  | none => none
def stg : Option (Nat × Nat × List D) → (Nat → Option (List D)) → (Nat → Option (List D))
  | none, g => g
  | some (k, off, cs), g => upd g k (stc off cs (g k))
/-- variables as a call left them -/
def setg : List (Nat × List D) → (Nat → Option (List D)) → (Nat → Option (List D))
  | [], g => g
  | p :: l, g => setg l (upd g p.1 (some p.2))
theorem setg_nil (g : Nat → Option (List D)) : setg [] g = g := (rfl)
theorem setg_cons (p : Nat × List D) (l : List (Nat × List D)) (g : Nat → Option (List D)) : setg (p :: l) g = setg l (upd g p.1 (some p.2)) := (rfl)
def putf (dst : Option Tmp) (d : D) (f : Nat → D) : Nat → D := match dst with
  | some i => upd f i d
  | none => f
theorem S_put (dst : Option Tmp) (d : D) : (S N f g).put dst d = S N (putf dst d f) g := by
  cases dst with
  | none => rfl
  | some i => simp only [St.put, S, rangemap_set, putf]
theorem S_strips : ∀ (l : List Tmp) (f : Nat → D), l.foldl stripAt ((List.range N).map f) = (List.range N).map (strips l f)
  | [], f => rfl
  | i :: l, f => by
    simp only [List.foldl_cons, strips]
    have : stripAt ((List.range N).map f) i = (List.range N).map (upd f i (strip (f i))) := by
      refine List.ext_getElem (by simp [stripAt]) fun j h1 h2 => ?_
      rw [stripAt_get]
      simp only [List.getElem_map, List.getElem_range, upd]
      split
      · rename_i e; subst e; rw [if_pos rfl]
      · rename_i e; rw [if_neg (fun h => e h.symm)]
    rw [this]
    exact S_strips l _
def boxq (dst : Option Tmp) : Option (List D) → (Nat → Option (List D)) → (Nat → Option (List D))
  | none, g => g
  | some cs, g => upd g (dst.getD 0) (some cs)
theorem onb_g (e : Eff) (dst : Option Tmp) (g : Nat → Option (List D)) : e.onb g dst = setg e.sets (stg e.st (gbg e.gb (boxq dst e.box g))) := by
  have hset : ∀ (l : List (Nat × List D)) (g : Nat → Option (List D)), l.foldl (fun b p => updb b p.1 (some p.2)) g = setg l g := by
    intro l
    induction l with
    | nil => exact fun _ => rfl
    | cons p l ih => exact fun g => ih _
  have hst : ∀ (x : Option (List D)) (off : Nat) (cs : List D), x.map (fun old => setCells old off cs) = stc off cs x := by
    intro x off cs; cases x <;> rfl
  obtain ⟨d, box, gone, gb, rd, st, sets⟩ := e
  unfold Eff.onb
  simp only [hset]
  congr 1
  cases box <;> cases gb <;> cases st <;> simp only [hst] <;> rfl
theorem on_S (e : Eff) (dst : Option Tmp) : e.on (S N f g) dst = S N (putf dst e.d (boxf dst e.box (strips e.gone f))) (setg e.sets (stg e.st (gbg e.gb (boxg dst e.box g)))) := by
  have ht : ∀ (bx : Option (List D)), (match bx with | some _ => ((List.range N).map (strips e.gone f)).map (kill (dst.getD 0)) | none => (List.range N).map (strips e.gone f)) = (List.range N).map (boxf dst bx (strips e.gone f)) := by
    intro bx
    cases bx with
    | none => rfl
    | some cs =>
      simp only [List.map_map, boxf]
      exact List.map_congr_left fun i _ => kill_kills _ _
  have hk : (fun i => killb (dst.getD 0) (g i)) = killg (dst.getD 0) g := funext fun i => killb_kills _ _
  have h2 : e.onb (match e.box with | some _ => fun i => killb (dst.getD 0) (g i) | none => g) dst = setg e.sets (stg e.st (gbg e.gb (boxg dst e.box g))) := by
    rw [onb_g]
    cases e.box with
    | none => rfl
    | some cs => simp only [hk]; rfl
  have key : ∀ (t : List D) (b : Nat → Option (List D)), t = (List.range N).map (boxf dst e.box (strips e.gone f)) → b = setg e.sets (stg e.st (gbg e.gb (boxg dst e.box g))) → (⟨t, b⟩ : St).put dst e.d = S N (putf dst e.d (boxf dst e.box (strips e.gone f))) (setg e.sets (stg e.st (gbg e.gb (boxg dst e.box g)))) := by
    rintro _ _ rfl rfl
    exact S_put dst e.d
  unfold Eff.on
  refine key _ _ ?_ h2
  rw [← ht]
  rw [show (S N f g).t = (List.range N).map f from rfl, S_strips]
  cases e.box <;> rfl
theorem onq_S (e : Eff) (dst : Option Tmp) : e.onq (S N f g) dst = S N (putf dst e.d (strips e.gone f)) (setg e.sets (stg e.st (gbg e.gb (boxq dst e.box g)))) := by
  unfold Eff.onq
  rw [show (S N f g).b = g from rfl, onb_g, show (S N f g).t = (List.range N).map f from rfl, S_strips]
  exact S_put dst e.d

/-! ### Regions -/
/-- what is appended to -/
def appOf (p : Oper) : List Tmp := match p.op with
  | .call c => (match c.callee, c.args.toList with
    | .builtin .append, .tmp t :: _ => [t]
    | _, _ => [])
  | _ => []
def apps (ops : List Oper) : List Tmp := ops.flatMap appOf
theorem takes_eq (o : Oper) : takes ops o = match o.dst with
    | some d => (apps ops.toList).contains d
    | none => false := by
  unfold takes
  cases o.dst with
  | none => rfl
  | some d =>
    simp only
    rw [Bool.eq_iff_iff, List.contains_iff_mem]
    simp only [apps, List.mem_flatMap, ← Array.any_toList, List.any_eq_true]
    constructor
    · rintro ⟨p, hp, h⟩
      refine ⟨p, hp, ?_⟩
      unfold appOf
      split at h
      · rename_i c hc
        split at h
        · rename_i h1 h2; simp only [hc, h1, h2]; rw [beq_iff_eq] at h; simp [h]
        · cases h
      · cases h
    · rintro ⟨p, hp, h⟩
      refine ⟨p, hp, ?_⟩
      unfold appOf at h
      split at h
      · rename_i c hc
        split at h
        · rename_i h1 h2; simp only [hc, h1, h2]; rw [List.mem_singleton.1 h]; simp
        · cases h
      · cases h
/-- it is told, and then that holds -/
def ok {α : Type} (x : Option α) (k : α → Prop) : Prop := ∃ e, x = some e ∧ k e
theorem ok_some {α : Type} (e : α) (k : α → Prop) : ok (some e) k = k e := by
  refine propext ⟨?_, fun h => ⟨e, rfl, h⟩⟩
  rintro ⟨e', h, hk⟩
  cases h; exact hk
@[congr] theorem ok_congr {α : Type} {x : Option α} {y : Unit → Option α} {k : α → Prop} (h : ∀ u : Unit, x = y u) : ok x k = ok (y ()) k := by rw [← h ()]
def dlw (P : Program) (F : FTy) (hs : List Tmp) (ops : Array Oper) (l : List Oper) (st : St) (Q : St → Prop) : Prop := ok (dlist P F hs ops l st) Q
theorem dlw_nil (st : St) (Q : St → Prop) : dlw P F hs ops [] st Q = Q st := ok_some _ _
/-- one operation is told, then the others -/
def stp (P : Program) (F : FTy) (hs : List Tmp) (ops : Array Oper) (l : List Oper) (st : St) (dst : Option Tmp) (Q : St → Prop) (x : Option Eff) : Prop := ok x fun e => dlw P F hs ops l (e.on st dst) Q
theorem stp_some (l : List Oper) (st : St) (dst : Option Tmp) (Q : St → Prop) (e : Eff) : stp P F hs ops l st dst Q (some e) = dlw P F hs ops l (e.on st dst) Q := ok_some _ _
@[congr] theorem stp_congr {l : List Oper} {st : St} {dst : Option Tmp} {Q : St → Prop} {x : Option Eff} {y : Unit → Option Eff} (h : ∀ u : Unit, x = y u) : stp P F hs ops l st dst Q x = stp P F hs ops l st dst Q (y ()) := by rw [← h ()]
theorem dlw_cons (o : Oper) (l : List Oper) (st : St) (Q : St → Prop) : dlw P F hs ops (o :: l) st Q = stp P F hs ops l st o.dst Q (deff P F hs ops st o) := by
  unfold stp dlw ok
  simp only [dlist, Option.bind_eq_some_iff]
  refine propext ⟨?_, ?_⟩
  · rintro ⟨s, ⟨e, he, hs⟩, hq⟩; exact ⟨e, he, s, hs, hq⟩
  · rintro ⟨e, he, s, hs, hq⟩; exact ⟨s, ⟨e, he, hs⟩, hq⟩
/-- what of an effect the check looks at -/
def refsOnly (cs : List D) : List D := cs.filter fun d => !nobs d
def shD : D → D
  | .bp b _ => .bp b 0
  | .bs b _ _ _ => .bs b 0 0 0
  | .agg cs => .agg (refsOnly cs)
  | .tup ds => .tup ds
  | .fn f xs ys => .fn f xs ys
  | .ag2 cs => .agg (refsOnly cs)
  | .tp2 c r ds => .tup (r :: ds)
  | _ => .undef
def sh (e : Eff) : Eff := { d := shD e.d, box := e.box.map refsOnly, gone := e.gone, gb := e.gb, rd := e.rd, st := e.st.map fun p => (p.1, p.2.1, refsOnly p.2.2), sets := e.sets.map fun p => (p.1, refsOnly p.2) }
theorem refsOnly_any (b : Nat) (cs : List D) : (refsOnly cs).any (refc b) = cs.any (refc b) := by
  unfold refsOnly
  rw [List.any_filter]
  congr 1
  funext d
  cases d <;> simp [nobs, refc]
theorem sh_W (e : Eff) (dst : Option Tmp) : (sh e).W dst = e.W dst := by
  obtain ⟨d, box, gone, gb, rd, st, sets⟩ := e
  cases box <;> cases st <;> simp [sh, Eff.W, Function.comp_def]
theorem sh_Wh (e : Eff) (dst : Option Tmp) : (sh e).Wh dst = e.Wh dst := by
  obtain ⟨d, box, gone, gb, rd, st, sets⟩ := e
  cases box <;> cases st <;> simp [sh, Eff.Wh, Function.comp_def]
theorem sh_soft (o : Oper) (e : Eff) : softOf o (sh e) = softOf o e := (rfl)
theorem sh_reads (o : Oper) (e : Eff) : readsOf ops o (sh e) = readsOf ops o e := (rfl)
theorem sh_bp (b : Nat) (e : Eff) : refsE b (sh e) = refsE b e := by
  obtain ⟨d, box, gone, gb, rd, st, sets⟩ := e
  unfold refsE sh
  have h1 : refs b (shD d) = refs b d := by
    cases d with
    | agg cs => exact refsOnly_any b cs
    | ag2 cs => exact refsOnly_any b cs
    | _ => rfl
  have h2 : (box.map refsOnly).any (fun cs => cs.any (refc b)) = box.any (fun cs => cs.any (refc b)) := by
    cases box with
    | none => rfl
    | some cs => exact refsOnly_any b cs
  have h3 : (st.map fun p => (p.1, p.2.1, refsOnly p.2.2)).any (fun p => p.2.2.any (refc b)) = st.any (fun p => p.2.2.any (refc b)) := by
    cases st with
    | none => rfl
    | some p => exact refsOnly_any b p.2.2
  have h4 : (sets.map fun p => (p.1, refsOnly p.2)).any (fun p => p.2.any (refc b)) = sets.any (fun p => p.2.any (refc b)) := by
    rw [List.any_map]
    congr 1
    funext p
    exact refsOnly_any b p.2
  simp only [h1, h2, h3, h4]
theorem sh_pair (i : Nat) (oi oj : Oper) (ei ej : Eff) : okPair ops i oi (sh ei) oj (sh ej) = okPair ops i oi ei oj ej := by
  simp only [okPair, sh_W, sh_Wh, sh_soft, sh_reads]
theorem sh_okTr (l : List Oper) (es : List Eff) : okTr ops (l.zip (es.map sh)).zipIdx = okTr ops (l.zip es).zipIdx := by
  have hz : ∀ (l : List Oper) (es : List Eff) (k : Nat), (l.zip (es.map sh)).zipIdx k = ((l.zip es).zipIdx k).map fun p => ((p.1.1, sh p.1.2), p.2) := by
    intro l
    induction l with
    | nil => intro es k; rfl
    | cons o l ih =>
      intro es k
      cases es with
      | nil => rfl
      | cons e es => simp only [List.map_cons, List.zip_cons_cons, List.zipIdx_cons, ih]
  rw [hz]
  have hi : ∀ e : Eff, (sh e).box.isNone = e.box.isNone := fun e => by cases e; simp [sh]
  unfold okTr
  rw [List.all_map]
  congr 1
  funext p
  simp only [Function.comp_apply, List.all_map, hi]
  congr 2
  funext q
  simp only [Function.comp_apply, sh_pair, sh_bp]
def dtw (P : Program) (F : FTy) (hs : List Tmp) (ops : Array Oper) (l : List Oper) (acc : List Eff) (st : St) (Q : St → Prop) : Prop :=
  ok (dtr P F hs ops l st) fun es => okTr ops (ops.toList.zip (acc.reverse ++ es.map sh)).zipIdx = true ∧ Q (dall l es st)
theorem dtw_nil (acc : List Eff) (st : St) (Q : St → Prop) : dtw P F hs ops [] acc st Q = (okTr ops (ops.toList.zip acc.reverse).zipIdx = true ∧ Q st) := by
  unfold dtw
  rw [show dtr P F hs ops [] st = some [] from rfl, ok_some]
  simp [dall]
def stq (P : Program) (F : FTy) (hs : List Tmp) (ops : Array Oper) (l : List Oper) (acc : List Eff) (st : St) (dst : Option Tmp) (Q : St → Prop) (x : Option Eff) : Prop := ok x fun e => dtw P F hs ops l (sh e :: acc) (e.onq st dst) Q
theorem stq_some (l : List Oper) (acc : List Eff) (st : St) (dst : Option Tmp) (Q : St → Prop) (e : Eff) : stq P F hs ops l acc st dst Q (some e) = dtw P F hs ops l (sh e :: acc) (e.onq st dst) Q := ok_some _ _
@[congr] theorem stq_congr {l : List Oper} {acc : List Eff} {st : St} {dst : Option Tmp} {Q : St → Prop} {x : Option Eff} {y : Unit → Option Eff} (h : ∀ u : Unit, x = y u) : stq P F hs ops l acc st dst Q x = stq P F hs ops l acc st dst Q (y ()) := by rw [← h ()]
theorem dtw_cons (o : Oper) (l : List Oper) (acc : List Eff) (st : St) (Q : St → Prop) : dtw P F hs ops (o :: l) acc st Q = stq P F hs ops l acc st o.dst Q (deff P F (mh hs) ops st o) := by
  unfold stq dtw ok
  simp only [dtr, Option.bind_eq_some_iff, Option.map_eq_some_iff]
  refine propext ⟨?_, ?_⟩
  · rintro ⟨_, ⟨e, he, es, hs, rfl⟩, h1, h2⟩
    refine ⟨e, he, es, hs, ?_, h2⟩
    simpa using h1
  · rintro ⟨e, he, es, hs, h1, h2⟩
    refine ⟨_, ⟨e, he, es, hs, rfl⟩, ?_, h2⟩
    simpa using h1
def undf (l : List Tmp) (f : Nat → D) : Nat → D := fun j => if l.contains j then .undef else kills l (f j)
def undg (l : List Tmp) (g : Nat → Option (List D)) : Nat → Option (List D) := fun j => killbs l (g j)
theorem undf_at (l : List Tmp) (f : Nat → D) (j : Nat) : undf l f j = if l.contains j then .undef else kills l (f j) := (rfl)
theorem undg_at (l : List Tmp) (g : Nat → Option (List D)) (j : Nat) : undg l g j = killbs l (g j) := (rfl)
theorem any_cons (d : Tmp) (l : List Tmp) (bs : List Nat) : (bs.any fun b => (d :: l).contains b) = ((bs.any fun b => [d].contains b) || bs.any fun b => l.contains b) := by
  rw [Bool.eq_iff_iff]
  simp only [List.any_eq_true, Bool.or_eq_true, List.contains_iff_mem, List.mem_cons, List.not_mem_nil, or_false]
  constructor
  · rintro ⟨x, hx, h | h⟩
    · exact .inl ⟨x, hx, h⟩
    · exact .inr ⟨x, hx, h⟩
  · rintro (⟨x, hx, h⟩ | ⟨x, hx, h⟩)
    · exact ⟨x, hx, .inl h⟩
    · exact ⟨x, hx, .inr h⟩
theorem anyc_flat (l : List Tmp) (cs : List D) : anyc l cs = (cs.flatMap boxc).any fun b => l.contains b := by
  unfold anyc refl; rw [List.any_flatMap]
theorem anyc_cons (d : Tmp) (l : List Tmp) (cs : List D) : anyc (d :: l) cs = (anyc [d] cs || anyc l cs) := by
  rw [anyc_flat, anyc_flat, anyc_flat, any_cons]
theorem kills_kill (d : Tmp) (l : List Tmp) (x : D) : kills l (kills [d] x) = kills (d :: l) x := by
  rw [kills_def [d], kills_def (d :: l), any_cons d l]
  by_cases h : ((boxD x).any fun b => [d].contains b) = true
  · rw [if_pos h, h]; rfl
  · rw [if_neg h, Bool.eq_false_iff.2 h, kills_def, Bool.false_or]
theorem killbs_killb (d : Tmp) (l : List Tmp) (x : Option (List D)) : killbs l (killbs [d] x) = killbs (d :: l) x := by
  cases x with
  | none => rfl
  | some cs =>
    simp only [killbs, anyc_cons d l cs]
    cases anyc [d] cs <;> simp [killbs]
def mkd (o : Oper) : List Tmp := if mkr o.op = true then o.dst.toList else []
theorem mk_move {dst : Option Tmp} {ty : TypeId} {pos : String} {af : Array Edge} {gd : Option (Nat × Bool)} (x : Operand) : mkd ⟨dst, .move x, ty, pos, af, gd⟩ = [] := (rfl)
theorem mk_assign {dst : Option Tmp} {ty : TypeId} {pos : String} {af : Array Edge} {gd : Option (Nat × Bool)} (x : Operand) : mkd ⟨dst, .assign x, ty, pos, af, gd⟩ = [] := (rfl)
theorem mk_pick {dst : Option Tmp} {ty : TypeId} {pos : String} {af : Array Edge} {gd : Option (Nat × Bool)} (x y z : Operand) : mkd ⟨dst, .pick x y z, ty, pos, af, gd⟩ = [] := (rfl)
theorem mk_alloc {dst : Option Tmp} {ty : TypeId} {pos : String} {af : Array Edge} {gd : Option (Nat × Bool)} (t : TypeId) : mkd ⟨dst, .alloc t, ty, pos, af, gd⟩ = dst.toList := (rfl)
theorem mk_box {dst : Option Tmp} {ty : TypeId} {pos : String} {af : Array Edge} {gd : Option (Nat × Bool)} (t : TypeId) (x : Operand) : mkd ⟨dst, .box t x, ty, pos, af, gd⟩ = dst.toList := (rfl)
theorem mk_build {dst : Option Tmp} {ty : TypeId} {pos : String} {af : Array Edge} {gd : Option (Nat × Bool)} (t : TypeId) (p : Array (Nat × Operand)) : mkd ⟨dst, .build t p, ty, pos, af, gd⟩ = [] := (rfl)
theorem mk_buildSlice {dst : Option Tmp} {ty : TypeId} {pos : String} {af : Array Edge} {gd : Option (Nat × Bool)} (t : TypeId) (n : Nat) (p : Array (Nat × Operand)) : mkd ⟨dst, .buildSlice t n p, ty, pos, af, gd⟩ = [] := (rfl)
theorem mk_load {dst : Option Tmp} {ty : TypeId} {pos : String} {af : Array Edge} {gd : Option (Nat × Bool)} (t : TypeId) (x : Operand) : mkd ⟨dst, .load t x, ty, pos, af, gd⟩ = [] := (rfl)
theorem mk_store {dst : Option Tmp} {ty : TypeId} {pos : String} {af : Array Edge} {gd : Option (Nat × Bool)} (t : TypeId) (x y : Operand) : mkd ⟨dst, .store t x y, ty, pos, af, gd⟩ = [] := (rfl)
theorem mk_nilCheck {dst : Option Tmp} {ty : TypeId} {pos : String} {af : Array Edge} {gd : Option (Nat × Bool)} (x : Operand) : mkd ⟨dst, .nilCheck x, ty, pos, af, gd⟩ = [] := (rfl)
theorem mk_binOp {dst : Option Tmp} {ty : TypeId} {pos : String} {af : Array Edge} {gd : Option (Nat × Bool)} (op : BinOp) (t : TypeId) (x y : Operand) (u : TypeId) : mkd ⟨dst, .binOp op t x y u, ty, pos, af, gd⟩ = [] := (rfl)
theorem mk_unOp {dst : Option Tmp} {ty : TypeId} {pos : String} {af : Array Edge} {gd : Option (Nat × Bool)} (op : UnOp) (t : TypeId) (x : Operand) : mkd ⟨dst, .unOp op t x, ty, pos, af, gd⟩ = [] := (rfl)
theorem mk_convert {dst : Option Tmp} {ty : TypeId} {pos : String} {af : Array Edge} {gd : Option (Nat × Bool)} (t u : TypeId) (x : Operand) : mkd ⟨dst, .convert t u x, ty, pos, af, gd⟩ = [] := (rfl)
theorem mk_makeSlice {dst : Option Tmp} {ty : TypeId} {pos : String} {af : Array Edge} {gd : Option (Nat × Bool)} (t : TypeId) (x y : Operand) : mkd ⟨dst, .makeSlice t x y, ty, pos, af, gd⟩ = dst.toList := (rfl)
theorem mk_slice {dst : Option Tmp} {ty : TypeId} {pos : String} {af : Array Edge} {gd : Option (Nat × Bool)} (t : TypeId) (x : Operand) (l h m : Option Operand) : mkd ⟨dst, .slice t x l h m, ty, pos, af, gd⟩ = [] := (rfl)
theorem mk_fieldAddr {dst : Option Tmp} {ty : TypeId} {pos : String} {af : Array Edge} {gd : Option (Nat × Bool)} (t : TypeId) (x : Operand) (n : Nat) : mkd ⟨dst, .fieldAddr t x n, ty, pos, af, gd⟩ = [] := (rfl)
theorem mk_field {dst : Option Tmp} {ty : TypeId} {pos : String} {af : Array Edge} {gd : Option (Nat × Bool)} (t : TypeId) (x : Operand) (n : Nat) : mkd ⟨dst, .field t x n, ty, pos, af, gd⟩ = [] := (rfl)
theorem mk_indexAddr {dst : Option Tmp} {ty : TypeId} {pos : String} {af : Array Edge} {gd : Option (Nat × Bool)} (t : TypeId) (x y : Operand) : mkd ⟨dst, .indexAddr t x y, ty, pos, af, gd⟩ = [] := (rfl)
theorem mk_index {dst : Option Tmp} {ty : TypeId} {pos : String} {af : Array Edge} {gd : Option (Nat × Bool)} (t : TypeId) (x y : Operand) : mkd ⟨dst, .index t x y, ty, pos, af, gd⟩ = [] := (rfl)
theorem mk_extract {dst : Option Tmp} {ty : TypeId} {pos : String} {af : Array Edge} {gd : Option (Nat × Bool)} (x : Operand) (n : Nat) : mkd ⟨dst, .extract x n, ty, pos, af, gd⟩ = [] := (rfl)
theorem mk_call {dst : Option Tmp} {ty : TypeId} {pos : String} {af : Array Edge} {gd : Option (Nat × Bool)} (c : Call) : mkd ⟨dst, .call c, ty, pos, af, gd⟩ = [] := (rfl)
theorem mk_makeFunc {dst : Option Tmp} {ty : TypeId} {pos : String} {af : Array Edge} {gd : Option (Nat × Bool)} (f : Fn) (x y : Array Operand) : mkd ⟨dst, .makeFunc f x y, ty, pos, af, gd⟩ = [] := (rfl)
theorem undefs_S : undefs ops (S N f g) = S N (undf (ops.toList.flatMap mkd) f) (undg (ops.toList.flatMap mkd) g) := by
  unfold undefs
  have : ∀ (l : List Oper) (f : Nat → D) (g : Nat → Option (List D)), l.foldl undef1 (S N f g) = S N (undf (l.flatMap mkd) f) (undg (l.flatMap mkd) g) := by
    intro l
    induction l with
    | nil =>
      intro f g
      refine S_congr (fun i _ => ?_) fun i => ?_
      · simp only [undf, List.flatMap_nil, List.contains_nil, Bool.false_eq_true, if_false]
        rw [kills_def]
        simp
      · simp only [undg, List.flatMap_nil]
        cases g i <;> simp [killbs, anyc_flat]
    | cons o l ih =>
      intro f g
      have hmk : mkd o = (if mkr o.op = true then o.dst else none).toList := by unfold mkd; split <;> rfl
      simp only [List.foldl_cons, undef1]
      cases ho : (if mkr o.op = true then o.dst else none) with
      | none => simp only [List.flatMap_cons, hmk, ho, Option.toList_none, List.nil_append]; exact ih f g
      | some d =>
        simp only [List.flatMap_cons, hmk, ho, Option.toList_some, List.singleton_append]
        have e1 : ((S N f g).t.map (kill d)).set d .undef = (List.range N).map (upd (killf d f) d .undef) := by
          rw [← rangemap_set]
          congr 1
          show ((List.range N).map f).map (kill d) = _
          rw [List.map_map]
          exact List.map_congr_left fun i _ => kill_kills _ _
        have e2 : (fun i => killb d ((S N f g).b i)) = killg d g := funext fun i => killb_kills _ _
        rw [e1, e2]
        show l.foldl undef1 (S N _ _) = _
        rw [ih]
        refine S_congr (fun i _ => ?_) fun i => ?_
        · simp only [undf, upd, List.contains_cons, killf]
          by_cases h1 : i = d
          · subst h1
            simp [kills]
          · rw [show (i == d) = false from by simpa using h1, Bool.false_or]
            simp only [h1, if_false]
            split
            · rfl
            · rw [kills_kill]
        · simp only [undg, killg, killbs_killb]
  exact this _ _ _
/-! ### What stays as it is from now on -/
def frf (b : Nat) (cs : List D) (f : Nat → D) : Nat → D := fun j => frT b cs (f j)
def frg (b : Nat) (cs : List D) (g : Nat → Option (List D)) : Nat → Option (List D) := fun j => frB b cs (if j = b then none else g j)
theorem frf_at (b : Nat) (cs : List D) (f : Nat → D) (j : Nat) : frf b cs f j = frT b cs (f j) := (rfl)
theorem frg_at (b : Nat) (cs : List D) (g : Nat → Option (List D)) (j : Nat) : frg b cs g j = if j = b then none else frB b cs (g j) := by
  unfold frg
  split <;> rfl
theorem freeze_S (b : Nat) : freeze b (S N f g) = (g b).bind fun cs => if (cs.map fin1).all data = true ∧ b < 1000000 then some (S N (frf b (cs.map fin1) f) (frg b (cs.map fin1) g)) else none := by
  unfold freeze
  rw [S_bx]
  congr 1
  funext cs
  unfold OB
  split
  · congr 1
    show (⟨((List.range N).map f).map _, _⟩ : St) = _
    rw [List.map_map]
    rfl
  · rfl
theorem freezes_nil (s : St) : freezes [] s = some s := (rfl)
theorem freezes_cons (b : Nat) (l : List Nat) (s : St) : freezes (b :: l) s = (fz1 b s).bind (freezes l) := (rfl)
theorem fz1_S (b : Nat) : fz1 b (S N f g) = if (g b).isNone = true then some (S N f g) else freeze b (S N f g) := (rfl)

/-! ### Texts -/
def dwp (P : Program) (F : FTy) (cl : Nat → List Tmp) (c : Code) (bk : Nat) (st : St) (Q : Ex → St → Prop) : Prop := ∃ n r, denC P F cl c bk n st = some r ∧ Q r.1 r.2
variable {cl : Nat → List Tmp} {bk : Nat} {st : St} {Q : Ex → St → Prop} {a b c : Code}
theorem dwp_mono {Q' : Ex → St → Prop} (h : dwp P F cl c bk st Q') (hq : ∀ e s, Q' e s → Q e s) : dwp P F cl c bk st Q := by
  obtain ⟨n, r, h, hr⟩ := h
  exact ⟨n, r, h, hq _ _ hr⟩
theorem dwp_skip (h : Q .norm st) : dwp P F cl .skip bk st Q := ⟨0, _, rfl, h⟩
theorem dwp_exit {id : Nat} (h : Q (.exit id) st) : dwp P F cl (.exit id) bk st Q := ⟨0, _, rfl, h⟩
theorem dwp_ret (h : Q .ret st) : dwp P F cl .ret bk st Q := ⟨0, _, rfl, h⟩
def seqQ (P : Program) (F : FTy) (cl : Nat → List Tmp) (b : Code) (bk : Nat) (Q : Ex → St → Prop) (e : Ex) (s : St) : Prop := match e with
  | .norm => dwp P F cl b bk s Q
  | e => Q e s
theorem dwp_seq (h : dwp P F cl a bk st (seqQ P F cl b bk Q)) : dwp P F cl (.seq a b) bk st Q := by
  obtain ⟨n, r, h, hr⟩ := h
  cases hr1 : r.1 with
  | norm =>
    simp only [seqQ, hr1] at hr
    obtain ⟨m, r2, h2, hr2⟩ := hr
    refine ⟨max n m, r2, ?_, hr2⟩
    simp only [denC, Option.bind_eq_some_iff]
    refine ⟨r, denC_mono (fun _ _ _ _ h => h) cl (Nat.le_max_left ..) _ _ _ _ h, ?_⟩
    rw [hr1]
    exact denC_mono (fun _ _ _ _ h => h) cl (Nat.le_max_right ..) _ _ _ _ h2
  | exit id =>
    refine ⟨n, r, ?_, by simpa only [seqQ, hr1] using hr⟩
    simp only [denC, Option.bind_eq_some_iff]
    exact ⟨r, h, by rw [hr1]⟩
  | ret =>
    refine ⟨n, r, ?_, by simpa only [seqQ, hr1] using hr⟩
    simp only [denC, Option.bind_eq_some_iff]
    exact ⟨r, h, by rw [hr1]⟩
theorem dwp_region {id : Nat} (h : ok (freezes (cl (hreg id)) st) fun st => dlw P F (cl (hvar id)) ops ops.toList st (Q .norm)) : dwp P F cl (.region id ops false) bk st Q := by
  obtain ⟨s0, h0, s, hs, hq⟩ := h
  exact ⟨0, (.norm, s), by simp only [denC, h0, Option.bind_some, hs, Option.map_some], hq⟩
theorem dwp_any {id : Nat} (h : ok (freezes (cl (hreg id)) st) fun st => dtw P F (cl (hvar id)) ops ops.toList [] (undefs ops st) (Q .norm)) : dwp P F cl (.region id ops true) bk st Q := by
  obtain ⟨s0, h0, es, hs, hk, hq⟩ := h
  refine ⟨0, (.norm, dall ops.toList es (undefs ops s0)), ?_, hq⟩
  simp only [denC, h0, hs, Option.bind_some]
  rw [List.reverse_nil, List.nil_append, sh_okTr] at hk
  rw [if_pos hk]
theorem dwp_cond {c : Operand} {x y : Code} {q : Bool} (hc : st.rd c = some (.v (.bool q))) (h : dwp P F cl (if q then x else y) bk st Q) : dwp P F cl (.cond c x y) bk st Q := by
  obtain ⟨n, r, h, hr⟩ := h
  refine ⟨n, r, ?_, hr⟩
  simp only [denC, hc, Option.bind_some]
  cases q <;> exact h
def condB : D → Option Bool
  | .v (.bool q) => some q
  | _ => none
theorem condB_bool (q : Bool) : condB (.v (.bool q)) = some q := (rfl)
theorem dwp_if {c : Operand} {x y : Code} (h : ok ((st.rd c).bind condB) fun q => (q = true → dwp P F cl x bk st Q) ∧ (q = false → dwp P F cl y bk st Q)) : dwp P F cl (.cond c x y) bk st Q := by
  obtain ⟨q, hq, h1, h2⟩ := h
  rw [Option.bind_eq_some_iff] at hq
  obtain ⟨d, hd, hq⟩ := hq
  have hdq : d = .v (.bool q) := by
    unfold condB at hq
    split at hq
    · simp only [Option.some.injEq] at hq; rw [hq]
    · cases hq
  rw [hdq] at hd
  refine dwp_cond hd ?_
  cases q
  · exact h2 rfl
  · exact h1 rfl
theorem clear_nil (s : St) : clear [] s = s := (rfl)
def blkR (N id : Nat) (R : (Nat → D) → (Nat → Option (List D)) → Prop) (Q : Ex → St → Prop) (e : Ex) (s : St) : Prop := match e with
  | .exit j => if j = id then ∃ f g, s = S N f g ∧ R f g else Q (.exit j) s
  | .norm => ∃ f g, s = S N f g ∧ R f g
  | .ret => Q .ret s
theorem blkR_norm (id : Nat) (R : (Nat → D) → (Nat → Option (List D)) → Prop) : blkR N id R Q .norm (S N f g) = ∃ f' g', S N f g = S N f' g' ∧ R f' g' := (rfl)
theorem blkR_exit (id j : Nat) (R : (Nat → D) → (Nat → Option (List D)) → Prop) : blkR N id R Q (.exit j) (S N f g) = if j = id then ∃ f' g', S N f g = S N f' g' ∧ R f' g' else Q (.exit j) (S N f g) := (rfl)
theorem blkR_ret (id : Nat) (R : (Nat → D) → (Nat → Option (List D)) → Prop) (s : St) : blkR N id R Q .ret s = Q .ret s := (rfl)
def blkQ (id : Nat) (Q : Ex → St → Prop) (e : Ex) (s : St) : Prop := match e with
  | .exit j => if j = id then Q .norm s else Q (.exit j) s
  | e => Q e s
theorem dwp_block {id : Nat} (h : dwp P F cl c id st (blkQ id Q)) : dwp P F cl (.block id c) bk st Q := by
  obtain ⟨n, r, h, hr⟩ := h
  cases hr1 : r.1 with
  | exit j =>
    by_cases hj : j = id
    · refine ⟨n, (.norm, r.2), ?_, by simpa only [blkQ, hr1, if_pos hj] using hr⟩
      simp only [denC, h, Option.map_some, hr1, if_pos hj]
    · refine ⟨n, r, ?_, by rw [hr1]; simpa only [blkQ, hr1, if_neg hj] using hr⟩
      simp only [denC, h, Option.map_some, hr1, if_neg hj]
  | norm => exact ⟨n, r, by simp only [denC, h, Option.map_some, hr1], by rw [hr1]; simpa only [blkQ, hr1] using hr⟩
  | ret => exact ⟨n, r, by simp only [denC, h, Option.map_some, hr1], by rw [hr1]; simpa only [blkQ, hr1] using hr⟩
theorem dwp_blockR {id : Nat} (R : (Nat → D) → (Nat → Option (List D)) → Prop) (h : dwp P F cl c id st (blkR N id R Q)) (k : ∀ f g, R f g → Q .norm (S N f g)) : dwp P F cl (.block id c) bk st Q := by
  refine dwp_block (dwp_mono h fun e s hs => ?_)
  cases e with
  | norm => obtain ⟨f', g', rfl, hR⟩ := hs; exact k f' g' hR
  | ret => exact hs
  | exit j =>
    simp only [blkR] at hs
    simp only [blkQ]
    split
    · rename_i hj
      rw [if_pos hj] at hs
      obtain ⟨f', g', rfl, hR⟩ := hs; exact k f' g' hR
    · rename_i hj
      rw [if_neg hj] at hs; exact hs
/-- a part by itself: what is told of the state behind it -/
def cutR (N : Nat) (R : (Nat → D) → (Nat → Option (List D)) → Prop) (e : Ex) (s : St) : Prop := match e with
  | .norm => ∃ f g, s = S N f g ∧ R f g
  | _ => False
theorem dwp_cut (R : (Nat → D) → (Nat → Option (List D)) → Prop) (h : dwp P F cl a bk (S N f g) (cutR N R)) (k : ∀ f' g', R f' g' → dwp P F cl b bk (S N f' g') Q) : dwp P F cl (.seq a b) bk (S N f g) Q := by
  refine dwp_seq (dwp_mono h fun e s hs => ?_)
  cases e with
  | norm => obtain ⟨f', g', rfl, hR⟩ := hs; exact k f' g' hR
  | ret => exact hs.elim
  | exit j => exact hs.elim
def loopQ (P : Program) (F : FTy) (cl : Nat → List Tmp) (c : Code) (bk : Nat) (Q : Ex → St → Prop) (e : Ex) (s : St) : Prop := match e with
  | .norm => dwp P F cl (.loop c) bk s Q
  | e => Q e s
theorem dwp_loop (h : dwp P F cl c bk (clear (cl bk) st) (loopQ P F cl c bk Q)) : dwp P F cl (.loop c) bk st Q := by
  obtain ⟨n, r, h, hr⟩ := h
  have hmo : ∀ n m, n ≤ m → ∀ st r, denC P F cl c bk n st = some r → denC P F cl c bk m st = some r := fun n m hn st r h => denC_mono (fun _ _ _ _ h => h) cl hn _ _ _ _ h
  cases hr1 : r.1 with
  | norm =>
    simp only [loopQ, hr1] at hr
    obtain ⟨m, r2, h2, hr2⟩ := hr
    refine ⟨max n m + 1, r2, ?_, hr2⟩
    simp only [denC] at h2 ⊢
    simp only [iter, Option.bind_eq_some_iff]
    refine ⟨r, hmo _ _ (by omega) _ _ h, ?_⟩
    rw [hr1]
    exact iter_mono (fun st r h => hmo m _ (by omega) st r h) (cl bk) m _ _ _ (by omega) h2
  | exit id =>
    refine ⟨n + 1, r, ?_, by simpa only [loopQ, hr1] using hr⟩
    simp only [denC, iter, Option.bind_eq_some_iff]
    exact ⟨r, hmo _ _ (by omega) _ _ h, by rw [hr1]⟩
  | ret =>
    refine ⟨n + 1, r, ?_, by simpa only [loopQ, hr1] using hr⟩
    simp only [denC, iter, Option.bind_eq_some_iff]
    exact ⟨r, hmo _ _ (by omega) _ _ h, by rw [hr1]⟩
theorem dwp_ind (I : Nat → (Nat → D) → (Nat → Option (List D)) → Prop) (n : Nat) (h0 : I n f g)
    (step : ∀ n f g, I n f g → (∀ m f' g', m < n → I m f' g' → dwp P F cl (.loop c) bk (S N f' g') Q) → dwp P F cl c bk (clear (cl bk) (S N f g)) (loopQ P F cl c bk Q)) : dwp P F cl (.loop c) bk (S N f g) Q := by
  induction n using Nat.strongRecOn generalizing f g with
  | _ n ih => exact dwp_loop (step n f g h0 fun m f' g' hm h => ih m hm h)
/-- the same at those places -/
def sameOn {α : Type} (f f' : Nat → α) : List Nat → Prop
  | [] => True
  | k :: l => f' k = f k ∧ sameOn f f' l
theorem sameOn_nil {α : Type} (f f' : Nat → α) : sameOn f f' [] = True := (rfl)
theorem sameOn_one {α : Type} (f f' : Nat → α) (k : Nat) : sameOn f f' [k] = (f' k = f k) := and_true _
theorem sameOn_cons {α : Type} (f f' : Nat → α) (k j : Nat) (l : List Nat) : sameOn f f' (k :: j :: l) = (f' k = f k ∧ sameOn f f' (j :: l)) := (rfl)
theorem sameOn_refl {α : Type} (f : Nat → α) : ∀ l, sameOn f f l
  | [] => trivial
  | k :: l => ⟨rfl, sameOn_refl f l⟩
/-- .. what the round leaves alone is as it was ahead of the loop -/
theorem dwp_indL (L Lg : List Nat) (I : Nat → (Nat → D) → (Nat → Option (List D)) → Prop) (n : Nat) (h0 : I n f g)
    (step : ∀ n f' g', sameOn f f' L → sameOn g g' Lg → I n f' g' → (∀ m f'' g'', m < n → sameOn f f'' L → sameOn g g'' Lg → I m f'' g'' → dwp P F cl (.loop c) bk (S N f'' g'') Q) → dwp P F cl c bk (clear (cl bk) (S N f' g')) (loopQ P F cl c bk Q)) : dwp P F cl (.loop c) bk (S N f g) Q :=
  dwp_ind (fun n f' g' => sameOn f f' L ∧ sameOn g g' Lg ∧ I n f' g') n ⟨sameOn_refl f L, sameOn_refl g Lg, h0⟩ fun n f' g' h ih => step n f' g' h.1 h.2.1 h.2.2 fun m f'' g'' hm h1 h2 h3 => ih m f'' g'' hm ⟨h1, h2, h3⟩
theorem seqQ_norm (s : St) : seqQ P F cl b bk Q .norm s = dwp P F cl b bk s Q := (rfl)
theorem seqQ_exit (id : Nat) (s : St) : seqQ P F cl b bk Q (.exit id) s = Q (.exit id) s := (rfl)
theorem seqQ_ret (s : St) : seqQ P F cl b bk Q .ret s = Q .ret s := (rfl)
theorem blkQ_norm (id : Nat) (s : St) : blkQ id Q .norm s = Q .norm s := (rfl)
theorem blkQ_exit (id j : Nat) (s : St) : blkQ id Q (.exit j) s = if j = id then Q .norm s else Q (.exit j) s := (rfl)
theorem blkQ_ret (id : Nat) (s : St) : blkQ id Q .ret s = Q .ret s := (rfl)
theorem loopQ_norm (s : St) : loopQ P F cl c bk Q .norm s = dwp P F cl (.loop c) bk s Q := (rfl)
theorem loopQ_exit (id : Nat) (s : St) : loopQ P F cl c bk Q (.exit id) s = Q (.exit id) s := (rfl)
theorem loopQ_ret (s : St) : loopQ P F cl c bk Q .ret s = Q .ret s := (rfl)

/-! ### Functions -/
/-- what comes back, and the handed-in variables -/
def outE (b : Nat → Option (List D)) (n : Nat) (d : D) : Option (D × List (List D)) := (outs b n 0).map fun os' => (d, os')
theorem outE_0 (b : Nat → Option (List D)) (d : D) : outE b 0 d = some (d, []) := (rfl)
theorem outE_s (b : Nat → Option (List D)) (n : Nat) (d : D) : outE b (n + 1) d = (outs b (n + 1) 0).map fun os' => (d, os') := (rfl)
theorem outs_0 (b : Nat → Option (List D)) (i : Nat) : outs b 0 i = some [] := (rfl)
def outc (cs : List D) : Option (List D) := if cs.all (fun d => (boxc d).all fun b => decide (1000000 ≤ b)) = true then some cs else none
theorem outs_s (b : Nat → Option (List D)) (n i : Nat) : outs b (n + 1) i = ((b (1000000 + i)).bind outc).bind fun cs => (outs b n (i + 1)).map (cs :: ·) := by
  show ((b (1000000 + i)).bind fun cs => _) = _
  cases b (1000000 + i) with
  | none => rfl
  | some cs =>
    simp only [Option.bind_some, outc]
    by_cases h : (cs.all fun d => (boxc d).all fun b => decide (OB ≤ b)) = true
    · rw [if_pos h]
      have h' : (cs.all fun d => (boxc d).all fun b => decide (1000000 ≤ b)) = true := h
      rw [if_pos h']; rfl
    · rw [if_neg h]
      have h' : ¬ (cs.all fun d => (boxc d).all fun b => decide (1000000 ≤ b)) = true := h
      rw [if_neg h']; rfl
def dend (P : Program) (mv : List Nat) (rs : List ResultVar) (n : Nat) (s : St) : Option (D × List (List D)) := (dresAll P rs s mv.head?).bind (outE s.b n)
theorem dend_S (mv : List Nat) (rs : List ResultVar) (n : Nat) : dend P mv rs n (S N f g) = (dresAll P rs (S N f g) mv.head?).bind (outE g n) := (rfl)
def endQ (P : Program) (l mv : List Nat) (rs : List ResultVar) (n : Nat) (R : D × List (List D) → Prop) (e : Ex) (s : St) : Prop := match e with
  | .exit _ => False
  | _ => ok ((freezes l s).bind (dend P mv rs n)) R
theorem endQ_norm (l mv : List Nat) (rs : List ResultVar) (n : Nat) (R : D × List (List D) → Prop) (s : St) : endQ P l mv rs n R .norm s = ok ((freezes l s).bind (dend P mv rs n)) R := (rfl)
theorem endQ_ret (l mv : List Nat) (rs : List ResultVar) (n : Nat) (R : D × List (List D) → Prop) (s : St) : endQ P l mv rs n R .ret s = ok ((freezes l s).bind (dend P mv rs n)) R := (rfl)
theorem dresAll_one (x : ResultVar) (s : St) : dresAll P [x] s none = (dres P s x).bind fun d => if okOut (fin d) = true then some (finR d) else rawR s d := (rfl)
theorem rawR_bs (v k m : Nat) : rawR (S N f g) (.bs v 0 k m) = (g v).bind fun cs => if v < 1000000 ∧ (cs.map fin1).all (fun d => data d && (nobs d && one d)) = true then some (.raw k m (cs.map fin1)) else none := (rfl)
theorem dresAll_two (x y : ResultVar) (l : List ResultVar) (s : St) : dresAll P (x :: y :: l) s none = ((x :: y :: l).mapM fun x => (dres P s x).bind fun d => if okOut (fin d) = true then some (fin d) else none).map .tup := (rfl)
/-- one result that takes its rights along -/
theorem dresAll_m1 (x : ResultVar) (s : St) : dresAll P [x] s (some 0) = dresM P s x := by
  show (dresM P s x).bind (fun r => some r) = _
  cases dresM P s x <;> rfl
theorem dresAll_m2 (x y : ResultVar) (s : St) : dresAll P [x, y] s (some 0) = (dresM P s x).bind fun r => ((dres P s y).bind fun d => if okOut (fin d) = true then some (fin d) else none).map fun d => .tp2 0 r [.undef, d] := by
  show (dresM P s x).bind (fun r => if (2 : Nat) = 1 then some r else _) = _
  cases dresM P s x with
  | none => rfl
  | some r =>
    simp only [Option.bind_some, if_neg (show ¬ (2 : Nat) = 1 by decide), List.zipIdx_cons, List.zipIdx_nil, List.mapM_cons, List.mapM_nil, if_true]
    simp only [if_neg (show ¬ (0 + 1 : Nat) = 0 by decide)]
    cases (dres P s y).bind fun d => if okOut (fin d) = true then some (fin d) else none <;> rfl
theorem dresAll_nil (s : St) : dresAll P [] s none = some (.tup []) := (rfl)
def argsf (ds : List D) : Nat → D := fun i => ds.getD i (.v undef)
def argsg (os : List (List D)) : Nat → Option (List D) := fun i => if i < 1000000 then none else os[i - 1000000]?
theorem argsg_nil : argsg [] = fun _ => none := funext fun i => by unfold argsg; split <;> simp
theorem argsg_at (os : List (List D)) (i : Nat) : argsg os i = if i < 1000000 then none else os[i - 1000000]? := (rfl)
theorem start_S (ds : List D) (n : Nat) (os : List (List D)) (h : ds.length ≤ n) : (⟨ds ++ List.replicate (n - ds.length) (.v undef), fun i => if i < OB then none else os[i - OB]?⟩ : St) = S n (argsf ds) (argsg os) := by
  unfold S
  congr 1
  refine List.ext_getElem (by simp; omega) fun i h1 h2 => ?_
  simp only [List.getElem_map, List.getElem_range, argsf]
  rw [List.getD_eq_getElem?_getD]
  by_cases hi : i < ds.length
  · rw [List.getElem_append_left hi, List.getElem?_eq_getElem hi]; rfl
  · rw [List.getElem_append_right (by omega), List.getElem?_eq_none (by omega)]; simp
end
theorem Fs_val {P : Program} {cl : FuncId → Nat → List Tmp} {prim : FTy} {f : FuncId} {fn : Func} {c : Code} {ds : List D} {os : List (List D)} {r : D × List (List D)} (hp : prim f ds os = none) (hf : P.funcs[f]? = some fn) (hc : fn.body = some c)
    (hn : ds.length ≤ fn.ntmps) (h : dwp P (Fs P cl prim) (cl f) c 0 (S fn.ntmps (argsf ds) (argsg os)) (endQ P (cl f hend) (cl f hmvr) fn.results.toList os.length (· = r))) : Fs P cl prim f ds os = some r := by
  obtain ⟨n, q, h, hq⟩ := h
  refine Fs_intro P cl prim (n := n) hp ?_
  simp only [denF, hf, hc, Option.bind_some]
  rw [if_pos hn, start_S _ _ _ hn, h, Option.bind_some]
  have hd : (freezes (cl f hend) q.2).bind (dend P (cl f hmvr) fn.results.toList os.length) = some r ∧ ∀ id, q.1 ≠ .exit id := by
    cases hq1 : q.1 with
    | exit id => rw [hq1] at hq; exact hq.elim
    | norm => rw [hq1] at hq; obtain ⟨e, he, rfl⟩ := hq; exact ⟨he, fun _ h => by cases h⟩
    | ret => rw [hq1] at hq; obtain ⟨e, he, rfl⟩ := hq; exact ⟨he, fun _ h => by cases h⟩
  obtain ⟨hd, hne⟩ := hd
  split
  · rename_i id he; exact absurd he (hne id)
  · exact hd
theorem Fs_ex {P : Program} {cl : FuncId → Nat → List Tmp} {prim : FTy} {f : FuncId} {fn : Func} {c : Code} {ds : List D} {os : List (List D)} {R : D × List (List D) → Prop} (hp : prim f ds os = none) (hf : P.funcs[f]? = some fn) (hc : fn.body = some c)
    (hn : ds.length ≤ fn.ntmps) (h : dwp P (Fs P cl prim) (cl f) c 0 (S fn.ntmps (argsf ds) (argsg os)) (endQ P (cl f hend) (cl f hmvr) fn.results.toList os.length R)) : ∃ r, Fs P cl prim f ds os = some r ∧ R r := by
  obtain ⟨n, q, h, hq⟩ := h
  have hd : ∃ r, R r ∧ endQ P (cl f hend) (cl f hmvr) fn.results.toList os.length (· = r) q.1 q.2 := by
    cases hq1 : q.1 with
    | exit id => rw [hq1] at hq; exact hq.elim
    | norm => rw [hq1] at hq; obtain ⟨e, he, hr⟩ := hq; exact ⟨e, hr, e, he, rfl⟩
    | ret => rw [hq1] at hq; obtain ⟨e, he, hr⟩ := hq; exact ⟨e, hr, e, he, rfl⟩
  obtain ⟨r, hr, hd⟩ := hd
  exact ⟨r, Fs_val hp hf hc hn ⟨n, q, h, hd⟩, hr⟩
attribute [irreducible] dwp ok dlw dtw stp stq
end Go.Eng
