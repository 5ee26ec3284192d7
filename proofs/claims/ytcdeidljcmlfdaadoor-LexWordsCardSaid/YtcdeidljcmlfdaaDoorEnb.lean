/- A reading of the program's own text by values: operations, one by one (the session's own words). -/
import Derived.Test.YtcdeidljcmlfdaaDoorEna
namespace Go.Eng
open Go.RowKit
set_option linter.unusedVariables false
set_option linter.unusedSimpArgs false
section
variable {P : Program} {F : FTy} {Z0 : FZ} {w0 : Base} {w : World} {Z : FZ} {O : OM} {st : St} {a : Act} {K : Act → World → Prop} {Q : Exit → Act → World → Prop} {o : Oper} {e : Eff} {tk : Bool × Bool}

/-- what follows, told of the state behind -/
def After (Z0 : FZ) (w0 : Base) (Z : FZ) (st : St) (a : Act) (o : Oper) (e : Eff) (K : Act → World → Prop) : Prop :=
  ∀ x Z' O' w', Z.le Z' → Inv Z0 w0 Z' O' (e.on st o.dst) (a.put o.dst x) w' → K (a.put o.dst x) w'

theorem After.pure {d : D} {x : Value} (hK : After Z0 w0 Z st a o { d := d } K) (I : Inv Z0 w0 Z O st a w) (h : ∀ i, RV Z O w (.t i) x d) : K (a.put o.dst x) w :=
  hK x Z O w (FZ.le_refl Z) (I.put o.dst d x fun i _ => h i)

theorem pureRun_bind {α β : Type} (s : Sem α) (k : α → Sem β) : pureRun P (s >>= k) = (pureRun P s).bind fun a => pureRun P (k a) := by
  induction s with
  | pure x => rfl
  | program q ih => exact ih P
  | mark m q ih => exact ih
  | _ => rfl
theorem pureRun_underlying (t : TypeId) : pureRun P (underlying t) = P.underlying t := by
  unfold underlying
  rw [pureRun_bind]
  show pureRun P (match P.underlying t with | some d => pure d | none => stuck "no such type") = _
  cases P.underlying t <;> rfl
theorem equal_slnil {t e : TypeId} (h : P.underlying t = some (.slice e)) (ad : Addr) (n c : Nat) : pureRun P (Op.equal t (.slice (some ad) n c) (.slice none 0 0)) = some false := by
  unfold Op.equal Op.maxDepth
  rw [show (10000 : Nat) = 9999 + 1 from rfl, Op.equalIn, pureRun_bind, pureRun_underlying, h]
  rfl
theorem equal_ptnil {t e : TypeId} (h : P.underlying t = some (.pointer e)) (ad : Addr) : pureRun P (Op.equal t (.pointer (some ad)) (.pointer none)) = some false := by
  unfold Op.equal Op.maxDepth
  rw [show (10000 : Nat) = 9999 + 1 from rfl, Op.equalIn, pureRun_bind, pureRun_underlying, h]
  rfl
theorem equal_ifnil {t : TypeId} {ms} (h : P.underlying t = some (.interface ms)) (tt : TypeId) (v : Value) : pureRun P (Op.equal t (.iface tt v) .nilIface) = some false := by
  unfold Op.equal Op.maxDepth
  rw [show (10000 : Nat) = 9999 + 1 from rfl, Op.equalIn, pureRun_bind, pureRun_underlying, h]
  rfl
theorem ifT_spec {t : TypeId} (h : ifT P t = true) : ∃ ms, P.underlying t = some (.interface ms) := by
  unfold ifT at h
  split at h
  · rename_i e he; exact ⟨e, he⟩
  · cases h
theorem eqR_run {op : BinOp} {t : TypeId} {x y : Operand} {a b r : Value} {q : Bool} (hg : ∀ op, pureRun P (eqGuard op t x y a b) = some ()) (he : pureRun P (Op.equal t a b) = some q) (hb : ∀ op, op = .eql ∨ op = .neq → Go.binOp op t a b = (if op = .eql then (do pure (.bool (← Op.equal t a b))) else (do pure (.bool (!(← Op.equal t a b)))))) (h : eqR q op = some r) :
    pureRun P (do eqGuard op t x y a b; Go.binOp op t a b) = some r := by
  unfold eqR at h
  split at h
  · simp only [Option.some.injEq] at h
    subst h
    rw [pureRun_bind, hg, Option.bind_some, hb _ (.inl rfl), if_pos rfl, pureRun_bind, he]
    rfl
  · simp only [Option.some.injEq] at h
    subst h
    rw [pureRun_bind, hg, Option.bind_some, hb _ (.inr rfl), if_neg (by decide), pureRun_bind, he]
    rfl
  · cases h
theorem slT_spec {t : TypeId} (h : slT P t = true) : ∃ e, P.underlying t = some (.slice e) := by
  unfold slT at h
  split at h
  · rename_i e he; exact ⟨e, he⟩
  · cases h
theorem ptT_spec {t : TypeId} (h : ptT P t = true) : ∃ e, P.underlying t = some (.pointer e) := by
  unfold ptT at h
  split at h
  · rename_i e he; exact ⟨e, he⟩
  · cases h
theorem cmpD_run {op : BinOp} {t : TypeId} {x y : Operand} {da db : D} {va vb r : Value} {p q : Pos} (ha : RV Z O w p va da) (hb : RV Z O w q vb db) (uq : ∀ g g' b, O g = .box b → O g' = .box b → g = g') (h : cmpD P op t da db = some r) :
    (do eqGuard op t x y va vb; Go.binOp op t va vb : Sem Value).run P w = .ok r w := by
  have gsl : ∀ (ad : Addr) (n c : Nat) (op : BinOp), pureRun P (eqGuard op t x y (.slice (some ad) n c) (.slice none 0 0)) = some () := fun ad n c op => by cases op <;> rfl
  have gpt : ∀ (a b : Option Addr) (op : BinOp), pureRun P (eqGuard op t x y (.pointer a) (.pointer b)) = some () := fun a b op => by cases op <;> rfl
  have bsl : ∀ (ad : Addr) (n c : Nat) (op : BinOp), op = .eql ∨ op = .neq → Go.binOp op t (.slice (some ad) n c) (.slice none 0 0) = (if op = .eql then (do pure (.bool (← Op.equal t (.slice (some ad) n c) (.slice none 0 0)))) else (do pure (.bool (!(← Op.equal t (.slice (some ad) n c) (.slice none 0 0)))))) := fun ad n c op ho => by
    rcases ho with rfl | rfl <;> rfl
  have bpt : ∀ (a b : Option Addr) (op : BinOp), op = .eql ∨ op = .neq → Go.binOp op t (.pointer a) (.pointer b) = (if op = .eql then (do pure (.bool (← Op.equal t (.pointer a) (.pointer b)))) else (do pure (.bool (!(← Op.equal t (.pointer a) (.pointer b)))))) := fun a b op ho => by
    rcases ho with rfl | rfl <;> rfl
  unfold cmpD at h
  split at h
  · split at h
    · rename_i hs
      obtain ⟨e, he⟩ := slT_spec hs
      have hb' : vb = .slice none 0 0 := by
        have h1 : Rp Z vb (.v (.slice none 0 0)) := hb
        cases h1; rfl
      subst hb'
      have ha' : Rp Z va (.sl _) := ha
      cases ha' with
      | sl a n c k es hn hc ad had hsp hk xx hz hr =>
        have := had (by rw [hn]; simp)
        subst this
        exact pureRun_run _ _ w (eqR_run (gsl ad n c) (equal_slnil he ad n c) (bsl ad n c) h)
    · cases h
  · split at h
    · rename_i hs
      obtain ⟨e, he⟩ := ptT_spec hs
      have hb' : vb = .pointer none := by
        have h1 : Rp Z vb (.v (.pointer none)) := hb
        cases h1; rfl
      subst hb'
      obtain ⟨g, hg, rfl⟩ := ha
      exact pureRun_run _ _ w (eqR_run (gpt _ _) (equal_ptnil he _) (bpt _ _) h)
    · cases h
  · split at h
    · rename_i hs
      obtain ⟨e, he⟩ := ptT_spec hs
      have hb' : vb = .pointer none := by
        have h1 : Rp Z vb (.v (.pointer none)) := hb
        cases h1; rfl
      subst hb'
      obtain ⟨g, o, rfl, _⟩ := ep_els ha
      exact pureRun_run _ _ w (eqR_run (gpt _ _) (equal_ptnil he _) (bpt _ _) h)
    · cases h
  · split at h
    · rename_i hs
      obtain ⟨ms, he⟩ := ifT_spec hs
      have hb' : vb = .nilIface := by
        have h1 : Rp Z vb (.v .nilIface) := hb
        cases h1; rfl
      subst hb'
      have ha' : Rp Z va .nn := ha
      cases ha' with
      | nn tt v =>
        exact pureRun_run _ _ w (eqR_run (fun op => by cases op <;> rfl) (equal_ifnil he tt v) (fun op ho => by rcases ho with rfl | rfl <;> rfl) h)
    · cases h
  · split at h
    · rename_i hs
      obtain ⟨hs, rfl, rfl⟩ := hs
      obtain ⟨g, hg, rfl⟩ := ha
      obtain ⟨g', hg', rfl⟩ := hb
      obtain rfl := uq _ _ _ hg hg'
      unfold ptS at hs
      split at hs
      · rename_i e he
        split at hs
        · rename_i i hi
          have hne : i.size ≠ 0 := by simpa using hs
          have key : ∀ (o d : Nat), (Op.equalIn (d + 1) t (.pointer (some ⟨g, o, none⟩)) (.pointer (some ⟨g, o, none⟩))).run P w = .ok true w := fun o d => by
            simp [Op.equalIn, run_underlying he, sizeOf, typeInfo, hi, run_sameAddr_same, hne]
          unfold eqR at h
          split at h
          · simp only [Option.some.injEq] at h
            subst h
            rw [Sem.run_bind, pureRun_run _ _ w (gpt _ _ _)]
            show (Go.binOp .eql t _ _).run P w = _
            rw [bpt _ _ _ (.inl rfl), if_pos rfl]
            simp [Op.equal, Op.maxDepth, key _ 9999]
          · simp only [Option.some.injEq] at h
            subst h
            rw [Sem.run_bind, pureRun_run _ _ w (gpt _ _ _)]
            show (Go.binOp .neq t _ _).run P w = _
            rw [bpt _ _ _ (.inr rfl), if_neg (by decide)]
            simp [Op.equal, Op.maxDepth, key _ 9999]
          · cases h
        · cases hs
      · cases hs
    · cases h
  · cases h
theorem sound_binOp {op : BinOp} {t yt : TypeId} {x y : Operand} (ho : o.op = .binOp op t x y yt) (h : dop P F tk st.rd st.bx o = some e) (I : Inv Z0 w0 Z O st a w) (hK : After Z0 w0 Z st a o e K) : o.wp P a w K Q := by
  simp only [dop, ho, Option.bind_eq_some_iff] at h
  obtain ⟨dx, hx, dy, hy, h⟩ := h
  obtain ⟨p, hp, _⟩ := I.rd hx
  obtain ⟨q, hq, _⟩ := I.rd hy
  split at h
  · rename_i r hr
    simp only [Option.some.injEq] at h
    subst h
    refine wp_value (x := r) ?_ (hK.pure I fun i => .v r)
    unfold execOp
    simp only [ho]
    exact run_value (cmpD_run hp hq I.uq hr)
  · simp only [Option.bind_eq_some_iff, Option.map_eq_some_iff] at h
    obtain ⟨vx, hvx, vy, hvy, r, hr, rfl⟩ := h
    have e1 := hp.toV hvx
    have e2 := hq.toV hvy
    refine wp_value (x := r) ?_ (hK.pure I fun i => .v r)
    unfold execOp
    simp only [ho, e1, e2]
    exact run_value (pureRun_run _ _ w hr)
theorem sound_unOp {op : UnOp} {t : TypeId} {x : Operand} (ho : o.op = .unOp op t x) (h : dop P F tk st.rd st.bx o = some e) (I : Inv Z0 w0 Z O st a w) (hK : After Z0 w0 Z st a o e K) : o.wp P a w K Q := by
  simp only [dop, ho, Option.bind_eq_some_iff, Option.map_eq_some_iff] at h
  obtain ⟨dx, hx, vx, hvx, r, hr, rfl⟩ := h
  obtain ⟨p, hp, _⟩ := I.rd hx
  have e1 := hp.toV hvx
  refine wp_value (x := r) ?_ (hK.pure I fun i => .v r)
  unfold execOp
  simp only [ho, e1]
  exact run_value (pureRun_run _ _ w hr)
theorem RV.norm {p : Pos} {x : Value} {d : D} {t : TypeId} (h : RV Z O w p x d) : RV Z O w p x (norm P t d) := by
  unfold Eng.norm
  split
  · have hx : x = .slice none 0 0 := by cases h; rfl
    split
    · split
      · exact .inl ⟨rfl, hx⟩
      · exact h
    · exact h
  · exact h
theorem data_rv {p q : Pos} {x : Value} {d : D} (h : RV Z O w p x d) (hd : d.rt = false) : RV Z O w q x d :=
  h.moveP (FZ.le_refl Z) (fun _ _ _ h => h) fun he => by rw [hd] at he; cases he
theorem sound_pick {c x y : Operand} (ho : o.op = .pick c x y) (h : dop P F tk st.rd st.bx o = some e) (I : Inv Z0 w0 Z O st a w) (hK : After Z0 w0 Z st a o e K) : o.wp P a w K Q := by
  simp only [dop, ho, Option.bind_eq_some_iff] at h
  obtain ⟨dc, hc, h⟩ := h
  split at h
  · rename_i q
    simp only [Option.bind_eq_some_iff] at h
    obtain ⟨d, hd, h⟩ := h
    split at h
    · rename_i hdt
      simp only [Option.some.injEq] at h
      subst h
      obtain ⟨p, hp, _⟩ := I.rd hc
      obtain ⟨p', hp', _⟩ := I.rd hd
      have e1 : a.eval c = .bool q := hp.toV rfl
      refine wp_value (x := a.eval (if q then x else y)) ?_ (hK.pure I fun i => RV.ofRp (hp'.data hdt))
      unfold execOp
      simp only [ho, e1]
      cases q <;> rfl
    · cases h
  · cases h

theorem gone_cases (x : Operand) (d : D) : (goneOf x d = [] ∧ d.rt = false) ∨ goneOf x d = tmpOf x := by
  cases d with
  | own => exact .inr rfl
  | ag2 => exact .inr rfl
  | tp2 => exact .inr rfl
  | _ => exact .inl ⟨rfl, rfl⟩
theorem rd_cases {x : Operand} {d : D} (hx : st.rd x = some d) : (∃ s, x = .tmp s) ∨ d.rt = false := by
  cases x with
  | tmp s => exact .inl ⟨s, rfl⟩
  | const v => simp only [St.rd, Option.some.injEq] at hx; subst hx; exact .inr rfl
  | global g => simp only [St.rd, Option.some.injEq, gD] at hx; subst hx; refine .inr ?_; split <;> rfl
  | func f => simp only [St.rd, Option.some.injEq] at hx; subst hx; exact .inr rfl
theorem norm_rt {t : TypeId} {d : D} (h : d.rt = true) : norm P t d = d := by
  cases d <;> first | rfl | cases h
/-- a value, and its right with it, goes to a temporary -/
theorem After.moved {x : Operand} {d : D} (hx : st.rd x = some d) {t : TypeId} (hK : After Z0 w0 Z st a o { d := norm P t d, gone := goneOf x d } K) (I : Inv Z0 w0 Z O st a w) : K (a.put o.dst (a.eval x)) w := by
  obtain ⟨p, hp, hpt⟩ := I.rd hx
  rcases gone_cases x d with ⟨h1, h2⟩ | h1
  · rw [h1] at hK
    exact hK.pure I fun i => (data_rv hp h2).norm
  · rw [h1] at hK
    cases x with
    | tmp s =>
      have hps := hpt s rfl
      subst hps
      refine hK (a.eval (.tmp s)) Z (O.mv (.t s) (.t (o.dst.getD 0))) w (FZ.le_refl Z) ?_
      have I' := I.out s (.t (o.dst.getD 0))
      have := I'.put o.dst (norm P t d) (a.eval (.tmp s)) (fun i hi => by rw [hi]; exact hp.mvs.norm)
      exact this
    | const v => exact hK.pure I fun i => (data_rv hp ((rd_cases hx).resolve_left (by rintro ⟨s, h⟩; cases h))).norm
    | global g => exact hK.pure I fun i => (data_rv hp ((rd_cases hx).resolve_left (by rintro ⟨s, h⟩; cases h))).norm
    | func f => exact hK.pure I fun i => (data_rv hp ((rd_cases hx).resolve_left (by rintro ⟨s, h⟩; cases h))).norm
theorem sound_assign {x : Operand} (ho : o.op = .assign x) (h : dop P F tk st.rd st.bx o = some e) (I : Inv Z0 w0 Z O st a w) (hK : After Z0 w0 Z st a o e K) : o.wp P a w K Q := by
  simp only [dop, ho, Option.bind_eq_some_iff, Option.some.injEq] at h
  obtain ⟨d, hx, rfl⟩ := h
  refine wp_value (x := a.eval x) ?_ (After.moved hx hK I)
  unfold execOp; simp only [ho]; rfl
theorem sound_move {x : Operand} (ho : o.op = .move x) (h : dop P F tk st.rd st.bx o = some e) (I : Inv Z0 w0 Z O st a w) (hK : After Z0 w0 Z st a o e K) : o.wp P a w K Q := by
  simp only [dop, ho, Option.bind_eq_some_iff] at h
  obtain ⟨d, hx, h⟩ := h
  split at h
  · simp only [Option.some.injEq] at h
    subst h
    refine wp_value (x := a.eval x) ?_ (After.moved hx hK I)
    unfold execOp; simp only [ho]; rfl
  · simp only [Option.some.injEq] at h
    subst h
    obtain ⟨p, hp, _⟩ := I.rd hx
    refine wp_value (x := a.eval x) ?_ (hK.pure I fun i => data_rv hp.strip (strip_rt d))
    unfold execOp; simp only [ho]; rfl
theorem run_isAgg {t : TypeId} {q : TypeDesc} (h : P.underlying t = some q) (w : World) : (isAgg t).run P w = .ok (isAggD q) w := by
  unfold isAgg
  rw [Sem.run_bind, run_underlying h w]
  cases q <;> rfl
theorem run_sizeT {t : TypeId} {n : Nat} (h : sizeT P t = some n) (w : World) : (sizeOf t).run P w = .ok n w := by
  simp only [sizeT, Option.map_eq_some_iff] at h
  obtain ⟨i, hi, rfl⟩ := h
  simp [sizeOf, typeInfo, hi]
theorem addr_add (g o j : Nat) : (⟨g, o, none⟩ : Addr).add j = ⟨g, o + j, none⟩ := by
  unfold Addr.add
  split
  · rename_i h; subst h; rfl
  · rfl
/-- cells that stand for data, read as one value -/
theorem run_part {t : TypeId} {n : Nat} {cs : List D} {g off o : Nat} {d : D} (hn : sizeT P t = some n) (hp : partD P t n cs off = some d)
    (hc : ∀ j (h : j < cs.length), off ≤ j → j < off + n → ∃ y, w.cell? ⟨g, o + j, none⟩ = some y ∧ RVc Z O y cs[j]) : ∃ x, (loadVar t ⟨g, o + off, none⟩).run P w = .ok x w ∧ ∀ p, RV Z O w p x d := by
  simp only [partD, Option.bind_eq_some_iff] at hp
  obtain ⟨q, hq, hp⟩ := hp
  split at hp
  · rename_i hle
    split at hp
    · rename_i hag
      simp only [Option.some.injEq] at hp
      subst hp
      have hx : ∀ j, ∃ y, ∀ (h : j < n), w.cell? ⟨g, o + off + j, none⟩ = some y ∧ ∀ (h' : off + j < cs.length), RVc Z O y cs[off + j] := by
        intro j
        by_cases h : j < n
        · obtain ⟨y, h1, h2⟩ := hc (off + j) (by omega) (by omega) (by omega)
          exact ⟨y, fun _ => ⟨by rw [Nat.add_assoc]; exact h1, fun _ => h2⟩⟩
        · exact ⟨undef, fun h' => absurd h' h⟩
      let xs : List Value := (List.range n).map fun j => (hx j).choose
      have hl : xs.length = n := by simp [xs]
      have hrun : (loadCells ⟨g, o + off, none⟩ xs.length).run P w = .ok xs.toArray w := run_loadCells_list (P := P) w _ xs (fun j v hv => by
        have hj : j < n := by have := (List.getElem?_eq_some_iff.1 hv).1; omega
        have hv' : (hx j).choose = v := by simpa [xs, hj] using hv
        rw [addr_add, ← hv']
        exact ((hx j).choose_spec hj).1)
      refine ⟨.agg xs.toArray, ?_, fun p => ⟨xs, rfl, by rw [hl]; simp; omega, fun i hi hj => ?_⟩⟩
      · unfold loadVar
        rw [Sem.run_bind, run_isAgg hq w]
        simp only [Result.andThen_ok, hag, if_true, Sem.run_bind, run_sizeT hn w]
        rw [hl] at hrun
        rw [hrun]; rfl
      · have hin : i < n := by omega
        have h2 := ((hx i).choose_spec hin).2 (by omega)
        simpa [xs] using h2
    · split at hp
      · rename_i hag h1
        subst h1
        simp only [Option.map_eq_some_iff] at hp
        obtain ⟨d0, hd0, rfl⟩ := hp
        obtain ⟨hlt, hd0⟩ := List.getElem?_eq_some_iff.1 hd0
        obtain ⟨y, h1, h2⟩ := hc off hlt (Nat.le_refl _) (by omega)
        rw [hd0] at h2
        refine ⟨y, ?_, fun p => h2.rv.norm⟩
        unfold loadVar
        rw [Sem.run_bind, run_isAgg hq w]
        simp only [Result.andThen_ok, hag]
        simp [load, Sem.run, h1]
      · cases hp
  · cases hp
theorem list_modify_getD {α : Type} (l : List (Option α)) (b b' : Nat) (f : Option α → Option α) (hf : f none = none) : (l.modify b f).getD b' none = if b = b' then f (l.getD b' none) else l.getD b' none := by
  simp only [List.getD_eq_getElem?_getD, List.getElem?_modify]
  split
  · rename_i h; subst h
    cases l[b]? <;> simp [hf]
  · cases l[b']? <;> simp
theorem one_strip {d : D} (h : one d = true) : one (strip d) = true := by
  cases d <;> first | rfl | exact h
theorem all_strip {cs : List D} {i : Nat} (h : cs.all one = true) : (stripAt cs i).all one = true := by
  rw [List.all_eq_true] at h ⊢
  intro d hd
  rw [List.mem_iff_getElem] at hd
  obtain ⟨j, hj, rfl⟩ := hd
  rw [stripAt_get]
  split
  · exact one_strip (h _ (List.getElem_mem _))
  · exact h _ (List.getElem_mem _)
/-- a right goes out of a variable -/
theorem Inv.outB (I : Inv Z0 w0 Z O st a w) (b off : Nat) (q : Pos) : Inv Z0 w0 Z (O.mv (.b b off) q) { st with b := updb st.b b ((st.b b).map fun cs => stripAt cs off) } a w where
  tsz := I.tsz
  tv := fun i h1 h2 => (I.tv i h1 h2).mvo (.inl (by simp))
  bv := fun b' cs hb => by
    have hb : updb st.b b ((st.b b).map fun cs => stripAt cs off) b' = some cs := hb
    unfold updb at hb
    by_cases e : b' = b
    · subst e
      rw [if_pos rfl, Option.map_eq_some_iff] at hb
      obtain ⟨cs0, h0, rfl⟩ := hb
      obtain ⟨g, xs, e, h1, h2, h3, h4, h5⟩ := I.bv b' cs0 h0
      refine ⟨g, xs, e, OM.mv_box.2 h1, h2, by rw [stripAt_len]; exact h3, fun j h h' => ?_, h5.1, h5.2.strip⟩
      have hj : j < cs0.length := by rwa [stripAt_len] at h
      rw [stripAt_get]
      by_cases ej : off = j
      · rw [if_pos ej]; exact ⟨(h4 j hj h').1.strip.mvo (.inr (strip_rt _)), (h4 j hj h').2⟩
      · rw [if_neg ej]; exact ⟨(h4 j hj h').1.mvo (.inl fun h => ej (by injection h with _ h; exact h.symm)), (h4 j hj h').2⟩
    · rw [if_neg e] at hb
      obtain ⟨g, xs, e', h1, h2, h3, h4, h5⟩ := I.bv b' cs hb
      exact ⟨g, xs, e', OM.mv_box.2 h1, h2, h3, fun j h h' => ⟨(h4 j h h').1.mvo (.inl fun h => e (by injection h)), (h4 j h h').2⟩, h5⟩
  uq := fun g g' b h h' => I.uq g g' b (OM.mv_box.1 h) (OM.mv_box.1 h')
  ob := fun g h => I.ob g (OM.mv_none h)
  ag := I.ag
  bl := I.bl
  df := I.df
  zn := I.zn
  bs := I.bs
  oi := fun g b h => OM.mv_box.2 (I.oi g b h)
  oo := fun g b h => I.oo g b (OM.mv_box.1 h)
theorem at3 {α : Type} {A B : List α} {n m : Nat} (h : n + m ≤ A.length) (hm : B.length = m) (j : Nat) : (A.take n ++ B ++ A.drop (n + m))[j]? = if j < n then A[j]? else if j < n + m then B[j - n]? else A[j]? := by
  by_cases h1 : j < n
  · rw [if_pos h1, List.append_assoc, List.getElem?_append_left (by simp; omega), List.getElem?_take_of_lt h1]
  · rw [if_neg h1]
    by_cases h2 : j < n + m
    · rw [if_pos h2, List.append_assoc, List.getElem?_append_right (by simp; omega), List.getElem?_append_left (by simp; omega)]
      congr 1; simp; omega
    · rw [if_neg h2, List.getElem?_append_right (by simp; omega), List.getElem?_drop]
      congr 1; simp; omega
theorem at3_len {α : Type} {A B : List α} {n m : Nat} (h : n + m ≤ A.length) (hm : B.length = m) : (A.take n ++ B ++ A.drop (n + m)).length = A.length := by
  simp; omega
/-- the rights of several cells go out of a variable -/
def OM.cp (O : OM) (b off n : Nat) (q : Pos) : OM := fun g => match O g with
  | .at (.b b' j) => if b' = b ∧ off ≤ j ∧ j < off + n then .at q else .at (.b b' j)
  | o => o
theorem OM.cp_box {O : OM} {b off n : Nat} {q : Pos} {g b' : Nat} : O.cp b off n q g = .box b' ↔ O g = .box b' := by
  unfold OM.cp
  split
  · rename_i h; rw [h]; split <;> exact ⟨fun h => (by cases h), fun h => (by cases h)⟩
  · exact Iff.rfl
theorem OM.cp_none {O : OM} {b off n : Nat} {q : Pos} {g : Nat} (h : O.cp b off n q g ≠ .none) : O g ≠ .none := by
  intro e
  unfold OM.cp at h
  rw [e] at h
  exact h rfl
theorem OM.cp_other {O : OM} {b off n : Nat} {q r : Pos} {g : Nat} (hr : ∀ j, off ≤ j → j < off + n → r ≠ .b b j) (h : O g = .at r) : O.cp b off n q g = .at r := by
  unfold OM.cp
  rw [h]
  cases r with
  | t i => rfl
  | b b' j => exact if_neg fun ⟨h1, h2, h3⟩ => hr j h2 h3 (by rw [h1])
theorem OM.cp_self {O : OM} {b off n : Nat} {q : Pos} {g j : Nat} (h1 : off ≤ j) (h2 : j < off + n) (h : O g = .at (.b b j)) : O.cp b off n q g = .at q := by
  unfold OM.cp
  rw [h]
  exact if_pos ⟨rfl, h1, h2⟩
theorem RV.cpo {b off n : Nat} {q r : Pos} {x : Value} {d : D} (h : RV Z O w r x d) (hr : (∀ j, off ≤ j → j < off + n → r ≠ .b b j) ∨ d.rt = false) : RV Z (O.cp b off n q) w r x d :=
  h.move (FZ.le_refl Z) (fun g b hb => OM.cp_box.2 hb) (fun he g hg => ⟨OM.cp_other (hr.resolve_right fun hn => by rw [hn] at he; cases he) hg, rfl, fun _ ho => ho⟩)
theorem RV.strip1 {p : Pos} {x : Value} {d : D} (h : RV Z O w p x d) : RV Z O w p x (strip1 d) := by
  cases d with
  | own e k es => exact h.strip
  | _ => exact h
theorem one_strip1 {d : D} (h : one d = true) : one (strip1 d) = true ∧ (strip1 d).rt = false := by
  cases d <;> first | exact ⟨h, rfl⟩ | exact ⟨rfl, rfl⟩ | cases h
theorem Inv.outC (I : Inv Z0 w0 Z O st a w) (b off n : Nat) (q : Pos) {cs : List D} (hb : st.bx b = some cs) (hle : off + n ≤ cs.length) (h1 : ((cs.drop off).take n).all one = true) :
    Inv Z0 w0 Z (O.cp b off n q) { st with b := updb st.b b (some (setCells cs off (((cs.drop off).take n).map Eng.strip1))) } a w where
  tsz := I.tsz
  tv := fun i h1 h2 => (I.tv i h1 h2).cpo (.inl (by simp))
  bv := fun b' cs' hb' => by
    have hb' : updb st.b b (some (setCells cs off (((cs.drop off).take n).map Eng.strip1))) b' = some cs' := hb'
    unfold updb at hb'
    by_cases e : b' = b
    · subst e
      rw [if_pos rfl, Option.some.injEq] at hb'
      subst hb'
      obtain ⟨g, xs, e, q1, q2, q3, q4, q5, q6⟩ := I.bv b' cs hb
      have hln : (((cs.drop off).take n).map Eng.strip1).length = n := by
        rw [List.length_map, List.length_take, List.length_drop]; omega
      have hlen : (setCells cs off (((cs.drop off).take n).map Eng.strip1)).length = cs.length := by
        unfold setCells; rw [hln]; exact at3_len hle hln
      refine ⟨g, xs, e, OM.cp_box.2 q1, q2, by rw [hlen]; exact q3, fun j h h' => ?_, q5, ?_⟩
      · have hj : j < cs.length := by rwa [hlen] at h
        obtain ⟨r1, r2⟩ := q4 j hj h'
        refine ⟨?_, r2⟩
        have hg : (setCells cs off (((cs.drop off).take n).map Eng.strip1))[j]? = if j < off then cs[j]? else if j < off + n then (((cs.drop off).take n).map Eng.strip1)[j - off]? else cs[j]? := by
          unfold setCells; rw [hln]; exact at3 hle hln j
        rw [List.getElem?_eq_getElem h, List.getElem?_eq_getElem hj] at hg
        by_cases hin : off ≤ j ∧ j < off + n
        · rw [if_neg (by omega), if_pos hin.2, List.getElem?_map, List.getElem?_take_of_lt (by omega), List.getElem?_drop, show off + (j - off) = j by omega, List.getElem?_eq_getElem hj, Option.map_some, Option.some.injEq] at hg
          rw [hg]
          have ho : one cs[j] = true := List.all_eq_true.1 h1 _ (by
            rw [List.mem_iff_getElem?]
            exact ⟨j - off, by rw [List.getElem?_take_of_lt (by omega), List.getElem?_drop, show off + (j - off) = j by omega, List.getElem?_eq_getElem hj]⟩)
          exact r1.strip1.cpo (.inr (one_strip1 ho).2)
        · have hg' : some (setCells cs off (((cs.drop off).take n).map Eng.strip1))[j] = some cs[j] := by
            rw [hg]
            by_cases h5 : j < off
            · rw [if_pos h5]
            · rw [if_neg h5, if_neg (by omega)]
          rw [Option.some.injEq] at hg'
          rw [hg']
          exact r1.cpo (.inl fun j' h2 h3 e => by injection e with _ e; omega)
      · have hx : off + n ≤ xs.size := by omega
        have hv : ((xs.toList.drop off).take n).length = (((cs.drop off).take n).map Eng.strip1).length := by
          rw [hln, List.length_take, List.length_drop, Array.length_toList]; omega
        have h3 := q6.set (off := off) (vs := (xs.toList.drop off).take n) (ds := ((cs.drop off).take n).map Eng.strip1) (List.all_eq_true.2 fun d hd => by
          obtain ⟨d0, hd0, rfl⟩ := List.mem_map.1 hd
          exact (one_strip1 (List.all_eq_true.1 h1 d0 hd0)).1) hv (by rw [hln]; exact hle) q3
        have hxs : (xs.toList.take off ++ (xs.toList.drop off).take n ++ xs.toList.drop (off + ((xs.toList.drop off).take n).length)).toArray = xs := by
          rw [hv, hln, ← List.drop_drop, List.append_assoc, List.take_append_drop, List.take_append_drop, Array.toArray_toList]
        rwa [hxs] at h3
    · rw [if_neg e] at hb'
      obtain ⟨g, xs, e', h1, h2, h3, h4, h5⟩ := I.bv b' cs' hb'
      exact ⟨g, xs, e', OM.cp_box.2 h1, h2, h3, fun j h h' => ⟨(h4 j h h').1.cpo (.inl fun j' _ _ h => e (by injection h)), (h4 j h h').2⟩, h5⟩
  uq := fun g g' b h h' => I.uq g g' b (OM.cp_box.1 h) (OM.cp_box.1 h')
  ob := fun g h => I.ob g (OM.cp_none h)
  ag := I.ag
  bl := I.bl
  df := I.df
  zn := I.zn
  bs := I.bs
  oi := fun g b h => OM.cp_box.2 (I.oi g b h)
  oo := fun g b h => I.oo g b (OM.cp_box.1 h)
/-- a variable's cells, as they come out of it -/
theorem ag2_of {b off n : Nat} {q : Pos} {cs : List D} {xs : Array Value} (hle : off + n ≤ cs.length) (hx : cs.length ≤ xs.size) (h1 : ((cs.drop off).take n).all one = true) (h : ∀ j (h : j < cs.length) (h' : j < xs.size), RV Z O w (.b b j) xs[j] cs[j] ∧ xs[j].oneCell' = true) :
    Ag2V Z (O.cp b off n q) w q (.agg ((xs.toList.drop off).take n).toArray) ((cs.drop off).take n) := by
  have hg : ∀ i (hi : i < ((cs.drop off).take n).length), ((cs.drop off).take n)[i] = cs[off + i]'(by rw [List.length_take, List.length_drop] at hi; omega) := fun i hi => by
    rw [List.getElem_take, List.getElem_drop]
  have hgx : ∀ i (hi : i < ((xs.toList.drop off).take n).length), ((xs.toList.drop off).take n)[i] = xs[off + i]'(by rw [List.length_take, List.length_drop, Array.length_toList] at hi; omega) := fun i hi => by
    rw [List.getElem_take, List.getElem_drop, Array.getElem_toList]
  refine ⟨_, rfl, by simp only [List.length_take, List.length_drop, Array.length_toList]; omega, fun i hi hj => ?_, fun i j hi hj hi' hj' hne h5 h6 ad m c ad' m' c' h7 h8 => ?_⟩
  · have hi2 : i < n ∧ off + i < cs.length := by rw [List.length_take, List.length_drop] at hi; omega
    have ho : one ((cs.drop off).take n)[i] = true := List.all_eq_true.1 h1 _ (List.getElem_mem hi)
    rw [hg i hi] at ho ⊢
    rw [hgx i hj]
    have h2 := (h (off + i) hi2.2 (by omega)).1
    revert h2 ho
    generalize cs[off + i] = d
    intro ho h2
    have mvc : ∀ {x : Value} {d : D}, RVc Z O x d → RVc Z (O.cp b off n q) x d := fun h => h.move (FZ.le_refl Z) fun g b hb => OM.cp_box.2 hb
    cases d with
    | own e k es => exact OwnV.mv h2 (FZ.le_refl Z) fun g hg => ⟨OM.cp_self (j := off + i) (by omega) (by omega) hg, rfl, fun _ h => h⟩
    | v y => exact mvc (d := .v y) (h2.cell ho)
    | sl y => exact mvc (d := .sl y) (h2.cell ho)
    | bs b o k n => exact mvc (d := .bs b o k n) (h2.cell ho)
    | bp b o => exact mvc (d := .bp b o) (h2.cell ho)
    | fn f us vs => exact mvc (d := .fn f us vs) (h2.cell ho)
    | ep k es i j => exact mvc (d := .ep k es i j) (h2.cell ho)
    | nn => exact mvc (d := .nn) (h2.cell ho)
    | slx k es => exact mvc (d := .slx k es) h2
    | _ => cases ho
  · have hi2 : i < n ∧ off + i < cs.length := by rw [List.length_take, List.length_drop] at hi; omega
    have hj2 : j < n ∧ off + j < cs.length := by rw [List.length_take, List.length_drop] at hj; omega
    rw [hg i hi] at h5
    rw [hg j hj] at h6
    rw [hgx i hi'] at h7
    rw [hgx j hj'] at h8
    have k1 := (h (off + i) hi2.2 (by omega)).1
    have k2 := (h (off + j) hj2.2 (by omega)).1
    have own : ∀ {d : D} {p : Pos} {x : Value}, isOwn d = true → RV Z O w p x d → ∀ ad n c, x = .slice (some ad) n c → O ad.block = .at p := by
      intro d p x hd hr ad n c hx
      cases d with
      | own e k es =>
        rcases hr with ⟨_, hr⟩ | ⟨g, c', cur, r1, r2, _⟩
        · rw [hr] at hx; cases hx
        · rw [r1] at hx; injection hx with e1; injection e1 with e1; rw [← e1]; exact r2
      | _ => cases hd
    intro he
    have e1 := own h5 k1 _ _ _ h7
    have e2 := own h6 k2 _ _ _ h8
    rw [he, e2] at e1
    injection e1 with e1
    injection e1 with _ e1
    omega
theorem Inv.box (I : Inv Z0 w0 Z O st a w) {b off : Nat} {p : Pos} {x : Value} {cs : List D} (hx : RV Z O w p x (.bp b off)) (hb : st.bx b = some cs) :
    ∃ g xs e, x = .pointer (some ⟨g, off, none⟩) ∧ O g = .box b ∧ Hp w g xs e ∧ cs.length ≤ xs.size ∧ (∀ j (h : j < cs.length) (h' : j < xs.size), RV Z O w (.b b j) xs[j] cs[j] ∧ xs[j].oneCell' = true) ∧ (∀ o, Z g o = none) ∧ bok g xs e cs := by
  obtain ⟨g, h1, h2⟩ := hx
  obtain ⟨g', xs, e, h3, h4, h5, h6, h7⟩ := I.bv b cs hb
  have := I.uq g g' b h1 h3
  subst this
  exact ⟨g, xs, e, h2, h1, h4, h5, h6, h7⟩
theorem run_loadAt {t : TypeId} {g off : Nat} {x : Value} (h : (loadVar t ⟨g, off, none⟩).run P w = .ok x w) : (Instr.loadAt t (.pointer (some ⟨g, off, none⟩))).run P w = .ok x w := by
  simp only [Instr.loadAt, Instr.sureAddr, Sem.run_bind, Sem.run_pure, Result.andThen_ok, h]
theorem sound_load {t : TypeId} {x : Operand} (ho : o.op = .load t x) (h : dop P F tk st.rd st.bx o = some e) (I : Inv Z0 w0 Z O st a w) (hK : After Z0 w0 Z st a o e K) : o.wp P a w K Q := by
  simp only [dop, ho, Option.bind_eq_some_iff] at h
  obtain ⟨dx, hx, h⟩ := h
  obtain ⟨p, hp, _⟩ := I.rd hx
  split at h
  · rename_i b off
    simp only [Option.bind_eq_some_iff] at h
    obtain ⟨cs, hb, n, hn, h⟩ := h
    obtain ⟨g, xs, e', hxe, hO, hg, hsz, hcs, hZ, hall1⟩ := I.box hp hb
    have hcell : ∀ j (h' : j < xs.size), w.cell? ⟨g, j, none⟩ = some xs[j] := fun j h' => by
      rw [hg.cell j, Array.getElem?_eq_getElem h']
    split at h
    · simp only [Option.bind_eq_some_iff] at h
      obtain ⟨q, hq, h⟩ := h
      split at h
      · rename_i hag
        split at h
        case isFalse => cases h
        rename_i hc
        obtain ⟨hle, hone⟩ := hc
        simp only [Option.some.injEq] at h
        subst h
        have hlx : ((xs.toList.drop off).take n).length = n := by rw [List.length_take, List.length_drop, Array.length_toList]; omega
        refine wp_value (w' := w) (x := .agg ((xs.toList.drop off).take n).toArray) ?_ ?_
        · unfold execOp
          simp only [ho, hxe]
          refine run_value (run_loadAt ?_)
          have hrun : (loadCells ⟨g, off, none⟩ ((xs.toList.drop off).take n).length).run P w = .ok ((xs.toList.drop off).take n).toArray w := run_loadCells_list (P := P) w _ _ (fun j v hv => by
            have hj : j < n := by have := (List.getElem?_eq_some_iff.1 hv).1; omega
            rw [List.getElem?_take_of_lt hj, List.getElem?_drop, Array.getElem?_toList] at hv
            rw [addr_add, hg.cell]; exact hv)
          unfold loadVar
          rw [Sem.run_bind, run_isAgg hq w]
          simp only [Result.andThen_ok, hag, if_true, Sem.run_bind, run_sizeT hn w]
          rw [hlx] at hrun
          rw [hrun]; rfl
        · refine hK _ Z (O.cp b off n (.t (o.dst.getD 0))) w (FZ.le_refl Z) ?_
          have I' := I.outC b off n (.t (o.dst.getD 0)) hb hle hone
          have := I'.put o.dst (.ag2 ((cs.drop off).take n)) (.agg ((xs.toList.drop off).take n).toArray) fun i hi => by
            rw [hi]
            exact ag2_of hle hsz hone hcs
          have hb0 : st.b b = some cs := hb
          simpa only [Eff.on, Eff.onb, hb0, Option.map_some, List.foldl_nil] using this
      · rename_i hag
        simp only [Option.bind_eq_some_iff] at h
        obtain ⟨d, hd, h⟩ := h
        split at h
        · simp only [Option.some.injEq] at h
          subst h
          obtain ⟨hlt, hd⟩ := List.getElem?_eq_some_iff.1 hd
          have hlt' : off < xs.size := by omega
          refine wp_value (w' := w) (x := xs[off]) ?_ ?_
          · unfold execOp
            simp only [ho, hxe]
            refine run_value (run_loadAt ?_)
            unfold loadVar
            rw [Sem.run_bind, run_isAgg hq w]
            have hag' : isAggD q = false := by simpa using hag
            simp only [Result.andThen_ok, hag']
            simp [load, Sem.run, hcell off hlt']
          · refine hK _ Z (O.mv (.b b off) (.t (o.dst.getD 0))) w (FZ.le_refl Z) ?_
            have I' := I.outB b off (.t (o.dst.getD 0))
            refine I'.put o.dst (norm P t d) xs[off] fun i hi => ?_
            rw [hi]
            have := (hcs off hlt hlt').1
            rw [hd] at this
            exact this.mvs.norm
        · cases h
    · simp only [Option.map_eq_some_iff] at h
      obtain ⟨d, hd, rfl⟩ := h
      unfold partB at hd
      obtain ⟨y, hy, hr⟩ := run_part (P := P) (Z := Z) (O := O) (w := w) (g := g) (o := 0) hn hd (fun j h1 h2 h3 => by
        have h1' : j < cs.length := by simpa using h1
        refine ⟨xs[j]'(by omega), by rw [Nat.zero_add]; exact hcell j (by omega), ?_⟩
        rw [List.getElem_map]
        exact (hcs j h1' (by omega)).1.cellb (hall1.mem (List.getElem_mem h1')))
      refine wp_value (x := y) ?_ (hK.pure I fun i => hr _)
      unfold execOp
      simp only [ho, hxe]
      rw [Nat.zero_add] at hy
      exact run_value (run_loadAt hy)
  · rename_i k es i j
    simp only [Option.bind_eq_some_iff, Option.map_eq_some_iff] at h
    obtain ⟨cs, hcs, n, hn, d, hd, rfl⟩ := h
    obtain ⟨g, o', hxe, hE⟩ := ep_els hp
    obtain ⟨hlt, hcs⟩ := List.getElem?_eq_some_iff.1 hcs
    obtain ⟨y, hy, hr⟩ := run_part (P := P) (Z := Z) (O := O) (w := w) (g := g) (o := o' + i * k) hn hd (fun j' h1 h2 h3 => by
      subst hcs
      obtain ⟨y, h4, h5⟩ := hE.2 i hlt j' h1
      exact ⟨y, (I.ag _ _ _ h4).1, RVc.ofRp h5⟩)
    refine wp_value (x := y) ?_ (hK.pure I fun i => hr _)
    unfold execOp
    simp only [ho, hxe]
    exact run_value (run_loadAt hy)
  · cases h
theorem sound_nilCheck {x : Operand} (ho : o.op = .nilCheck x) (h : dop P F tk st.rd st.bx o = some e) (I : Inv Z0 w0 Z O st a w) (hK : After Z0 w0 Z st a o e K) : o.wp P a w K Q := by
  simp only [dop, ho, Option.bind_eq_some_iff] at h
  obtain ⟨dx, hx, h⟩ := h
  obtain ⟨p, hp, _⟩ := I.rd hx
  split at h
  · simp only [Option.some.injEq] at h
    subst h
    obtain ⟨g, h1, h2⟩ := hp
    refine wp_value (w' := w) (x := a.eval x) ?_ (hK.pure I fun i => ⟨g, h1, h2⟩)
    unfold execOp
    simp only [ho, h2]
    rfl
  · simp only [Option.some.injEq] at h
    subst h
    obtain ⟨g, o', h2, hE⟩ := ep_els hp
    refine wp_value (w' := w) (x := a.eval x) ?_ (hK.pure I fun i => hp)
    unfold execOp
    simp only [ho, h2]
    rfl
  · cases h
theorem fieldOf_spec {s : TypeId} {f : Nat} {r : Nat × TypeId × Nat} (h : fieldOf P s f = some r) : ∃ fields fd, P.underlying s = some (.struct fields) ∧ fields[f]? = some fd ∧ r = (fd.offset, fd.type, r.2.2) ∧ sizeT P fd.type = some r.2.2 := by
  unfold fieldOf at h
  split at h
  · rename_i fields hu
    simp only [Option.bind_eq_some_iff, Option.some.injEq] at h
    obtain ⟨fd, hf, n, hn, rfl⟩ := h
    exact ⟨fields, fd, hu, hf, rfl, hn⟩
  · cases h
theorem run_fieldAt {s : TypeId} {f : Nat} {r : Nat × TypeId × Nat} (h : fieldOf P s f = some r) (h0 : r.2.2 ≠ 0) (g off : Nat) : (Instr.fieldAt s (.pointer (some ⟨g, off, none⟩)) f).run P w = .ok (.pointer (some ⟨g, off + r.1, none⟩)) w := by
  obtain ⟨fields, fd, hu, hf, hr, hn⟩ := fieldOf_spec h
  have h1 : r.1 = fd.offset := by rw [hr]
  unfold Instr.fieldAt
  rw [Sem.run_bind, run_underlying hu w]
  simp only [Result.andThen_ok, hf, Instr.sureAddr, Sem.run_bind, Sem.run_pure, fieldPlace, run_sizeT hn w, if_neg h0, addr_add, h1]
theorem sound_fieldAddr {s : TypeId} {x : Operand} {f : Nat} (ho : o.op = .fieldAddr s x f) (h : dop P F tk st.rd st.bx o = some e) (I : Inv Z0 w0 Z O st a w) (hK : After Z0 w0 Z st a o e K) : o.wp P a w K Q := by
  simp only [dop, ho, Option.bind_eq_some_iff] at h
  obtain ⟨dx, hx, r, hr, h⟩ := h
  obtain ⟨p, hp, _⟩ := I.rd hx
  split at h
  · cases h
  · rename_i h0
    split at h
    · simp only [Option.some.injEq] at h
      subst h
      obtain ⟨g, h1, h2⟩ := hp
      refine wp_value (w' := w) ?_ (hK.pure I fun i => ⟨g, h1, rfl⟩)
      unfold execOp
      simp only [ho, h2]
      exact run_value (run_fieldAt hr h0 _ _)
    · simp only [Option.some.injEq] at h
      subst h
      rename_i k es i j
      obtain ⟨g, o', h1, h2⟩ := ep_els hp
      refine wp_value (w' := w) (x := .pointer (some ⟨g, o' + i * k + (j + r.1), none⟩)) ?_ (hK.pure I fun _ => h2.ep _ _)
      unfold execOp
      simp only [ho, h1]
      rw [← Nat.add_assoc]
      exact run_value (run_fieldAt hr h0 _ _)
    · cases h
theorem run_isAgg' {t : TypeId} {q : TypeDesc} (h : P.underlying t = some q) (w : World) : (isAgg t).run P w = .ok (isAggD q) w := run_isAgg h w
theorem run_partV {t : TypeId} {n off : Nat} {xs : List Value} {cs : List D} {d : D} (hn : sizeT P t = some n) (hl : xs.length = cs.length) (hc : ∀ i (hi : i < cs.length) (hj : i < xs.length), RVc Z O xs[i] cs[i])
    (hd : partD P t n cs off = some d) : ∃ y, (part t xs.toArray off).run P w = .ok y w ∧ ∀ p, RV Z O w p y d := by
  simp only [partD, Option.bind_eq_some_iff] at hd
  obtain ⟨q, hq, hd⟩ := hd
  split at hd
  · rename_i hle
    split at hd
    · rename_i hag
      simp only [Option.some.injEq] at hd
      subst hd
      refine ⟨.agg (xs.toArray.extract off (off + n)), ?_, fun p => ?_⟩
      · simp only [part, Sem.run_bind, run_isAgg hq w, Result.andThen_ok, hag, if_true, run_sizeT hn w, Sem.run_pure]
      · rw [show xs.toArray.extract off (off + n) = ((xs.drop off).take n).toArray by simp [List.take_drop, Nat.add_comm]]
        refine ⟨_, rfl, by simp [hl], fun i hi hj => ?_⟩
        simp only [List.getElem_take, List.getElem_drop]
        exact hc _ _ _
    · split at hd
      · rename_i hag hn1
        simp only [Option.map_eq_some_iff] at hd
        obtain ⟨d0, hd0, rfl⟩ := hd
        obtain ⟨hlt, hd0⟩ := List.getElem?_eq_some_iff.1 hd0
        have hlt' : off < xs.length := by omega
        refine ⟨xs[off], ?_, fun p => (RVc.rv (O := O) ?_).norm⟩
        · have hag' : isAggD q = false := by simpa using hag
          have hx1 : xs.toArray[off]? = some xs[off] := by rw [List.getElem?_toArray]; exact List.getElem?_eq_getElem hlt'
          simp only [part, Sem.run_bind, run_isAgg hq w, Result.andThen_ok, hag', Bool.false_eq_true, if_false, hx1, Sem.run_pure]
        · rw [← hd0]; exact hc _ _ _
      · cases hd
  · cases hd
theorem sound_field {s : TypeId} {x : Operand} {f : Nat} (ho : o.op = .field s x f) (h : dop P F tk st.rd st.bx o = some e) (I : Inv Z0 w0 Z O st a w) (hK : After Z0 w0 Z st a o e K) : o.wp P a w K Q := by
  simp only [dop, ho, Option.bind_eq_some_iff] at h
  obtain ⟨dx, hx, r, hr, h⟩ := h
  obtain ⟨p, hp, _⟩ := I.rd hx
  obtain ⟨fields, fd, hu, hf, hre, hn⟩ := fieldOf_spec hr
  split at h
  · rename_i cs
    simp only [Option.map_eq_some_iff] at h
    obtain ⟨d, hd, rfl⟩ := h
    obtain ⟨xs, hxs, hl, hc⟩ := hp
    have h21 : r.2.1 = fd.type := by rw [hre]
    have h1 : r.1 = fd.offset := by rw [hre]
    rw [h21, h1] at hd
    obtain ⟨y, hy, hR⟩ := run_partV (P := P) (w := w) hn hl hc hd
    refine wp_value (w' := w) (x := y) ?_ (hK.pure I fun i => hR _)
    unfold execOp
    simp only [ho, hxs]
    refine run_value ?_
    unfold Instr.field
    rw [Sem.run_bind, run_underlying hu w]
    simp only [Result.andThen_ok, hf, asAgg, Sem.run_bind, Sem.run_pure]
    exact hy
  · cases h
theorem eval_idx {dy : D} {y : Operand} {i : Int} (hy : st.rd y = some dy) (hi : idx dy = some i) (I : Inv Z0 w0 Z O st a w) : ∃ ik, a.eval y = .int ik i := by
  obtain ⟨q, hq, _⟩ := I.rd hy
  cases dy with
  | v vy =>
    cases vy with
    | int ik j => simp only [idx, Option.some.injEq] at hi; subst hi; exact ⟨ik, hq.toV rfl⟩
    | _ => simp [idx] at hi
  | _ => simp [idx] at hi
theorem sound_index {t : TypeId} {x y : Operand} (ho : o.op = .index t x y) (h : dop P F tk st.rd st.bx o = some e) (I : Inv Z0 w0 Z O st a w) (hK : After Z0 w0 Z st a o e K) : o.wp P a w K Q := by
  simp only [dop, ho, Option.bind_eq_some_iff] at h
  obtain ⟨dx, hx, dy, hy, h⟩ := h
  obtain ⟨p, hp, _⟩ := I.rd hx
  split at h
  · rename_i vx hvx
    simp only [Option.bind_eq_some_iff, Option.map_eq_some_iff] at h
    obtain ⟨vy, hvy, r, hr, rfl⟩ := h
    obtain ⟨q, hq, _⟩ := I.rd hy
    have e1 := hp.toV hvx
    have e2 := hq.toV hvy
    refine wp_value (x := r) ?_ (hK.pure I fun i => .v r)
    unfold execOp
    simp only [ho, e1, e2]
    exact run_value (pureRun_run _ _ w hr)
  · split at h
    · rename_i cs n el hu _
      simp only [Option.bind_eq_some_iff] at h
      obtain ⟨i, hi, k, hk, h⟩ := h
      split at h
      · rename_i hin
        simp only [Option.map_eq_some_iff] at h
        obtain ⟨d, hd, rfl⟩ := h
        obtain ⟨xs, hxs, hl, hc⟩ := hp
        obtain ⟨ik, hye⟩ := eval_idx hy hi I
        obtain ⟨z, hz, hR⟩ := run_partV (P := P) (w := w) hk hl hc hd
        refine wp_value (w' := w) (x := z) ?_ (hK.pure I fun i => hR _)
        unfold execOp
        simp only [ho, hxs, hye]
        refine run_value ?_
        unfold Instr.index
        simp only [asIntOf, Sem.run_bind, Sem.run_pure, Result.andThen_ok, run_underlying hu w, if_pos hin, run_sizeT hk w]
        exact hz
      · cases h
    · cases h
theorem esOf_els {p : Pos} {x : Value} {d : D} {es : List (List D)} (h : RV Z O w p x d) (he : esOf d = some es) : ∃ s n c, x = .slice s n c ∧ n = es.length ∧ n ≤ c ∧ ∀ (k i : Nat) (e : List D), es[i]? = some e → e.length = k → ∃ g o, s = some ⟨g, o, none⟩ ∧ Els Z g o k es := by
  have key : ∀ {x : Value}, Rp Z x (.sl es) → ∃ s n c, x = .slice s n c ∧ n = es.length ∧ n ≤ c ∧ ∀ (k i : Nat) (e : List D), es[i]? = some e → e.length = k → ∃ g o, s = some ⟨g, o, none⟩ ∧ Els Z g o k es := by
    intro x h
    cases h with
    | sl s n c k' _ hn hc ad ha hsp hk x hz hr =>
      obtain ⟨g, o, sp⟩ := ad
      simp only at hsp
      subst hsp
      refine ⟨s, n, c, rfl, hn, hc, fun k i e he hek => ?_⟩
      obtain ⟨hi, rfl⟩ := List.getElem?_eq_some_iff.1 he
      have hkk : k' = k := by rw [← hk i hi]; exact hek
      subst hkk
      exact ⟨g, o, ha (by omega), hk, fun i hi j hj => ⟨_, hz i hi j hj, hr i hi j hj⟩⟩
  cases d with
  | sl es' => simp only [esOf, Option.some.injEq] at he; subst he; exact key h
  | own e k' es' => simp only [esOf, Option.some.injEq] at he; subst he; exact key h.strip
  | v y =>
    unfold esOf at he
    split at he
    · cases ‹D.v y = D.sl _›
    · cases ‹D.v y = D.own _ _ _›
    · rename_i s c hy
      simp only [Option.some.injEq] at he
      subst he
      cases hy
      have hx : x = .slice s 0 c := by
        have h1 : Rp Z x (.v (.slice s 0 c)) := h
        cases h1; rfl
      exact ⟨s, 0, c, hx, rfl, Nat.zero_le _, fun k i e he _ => by simp at he⟩
    · cases he
  | _ => simp [esOf] at he
theorem sound_indexAddr {t : TypeId} {x y : Operand} (ho : o.op = .indexAddr t x y) (h : dop P F tk st.rd st.bx o = some e) (I : Inv Z0 w0 Z O st a w) (hK : After Z0 w0 Z st a o e K) : o.wp P a w K Q := by
  simp only [dop, ho, Option.bind_eq_some_iff] at h
  obtain ⟨dx, hx, dy, hy, i, hi, h⟩ := h
  obtain ⟨p, hp, _⟩ := I.rd hx
  obtain ⟨q, hq, _⟩ := I.rd hy
  split at h
  · rename_i e' hu
    simp only [Option.bind_eq_some_iff] at h
    obtain ⟨k, hk, h⟩ := h
    obtain ⟨ik, hye⟩ : ∃ ik, a.eval y = .int ik i := by
      cases dy with
      | v vy =>
        cases vy with
        | int ik j => simp only [idx, Option.some.injEq] at hi; subst hi; exact ⟨ik, hq.toV rfl⟩
        | _ => simp [idx] at hi
      | _ => simp [idx] at hi
    split at h
    · rename_i b off k' n
      split at h
      · rename_i hc
        obtain ⟨hkk, h0, hlt⟩ := hc
        subst hkk
        simp only [Option.some.injEq] at h
        subst h
        obtain ⟨g, c, hO, hxe, hnc⟩ := hp
        refine wp_value (w' := w) (x := .pointer (some ⟨g, off + i.toNat * k, none⟩)) ?_ (hK.pure I fun _ => ⟨g, hO, rfl⟩)
        unfold execOp
        simp only [ho, hxe, hye]
        refine run_value ?_
        unfold Instr.indexAt
        have hin : 0 ≤ i ∧ i < (n : Int) := ⟨h0, hlt⟩
        simp only [asIntOf, Sem.run_bind, Sem.run_pure, Result.andThen_ok, run_underlying hu w, if_pos hin, run_sizeT hk w, addr_add]
      · cases h
    simp only [Option.bind_eq_some_iff] at h
    obtain ⟨es, he, h⟩ := h
    split at h
    · rename_i hc
      obtain ⟨h0, hany⟩ := hc
      simp only [Option.some.injEq] at h
      subst h
      obtain ⟨s, n, c, hxe, hn, hnc, hs⟩ := esOf_els hp he
      obtain ⟨ee, hee, hel⟩ : ∃ ee, es[i.toNat]? = some ee ∧ ee.length = k := by
        cases hq : es[i.toNat]? with
        | none => rw [hq] at hany; cases hany
        | some ee => rw [hq] at hany; exact ⟨ee, rfl, by simpa using hany⟩
      have hlt : i.toNat < es.length := (List.getElem?_eq_some_iff.1 hee).1
      obtain ⟨g, o', rfl, hE⟩ := hs _ _ _ hee hel
      refine wp_value (w' := w) (x := .pointer (some ⟨g, o' + i.toNat * k + 0, none⟩)) ?_ (hK.pure I fun _ => hE.ep _ _)
      unfold execOp
      simp only [ho, hxe, hye]
      refine run_value ?_
      unfold Instr.indexAt
      have hin : 0 ≤ i ∧ i < (n : Int) := ⟨h0, by omega⟩
      simp only [asIntOf, Sem.run_bind, Sem.run_pure, Result.andThen_ok, run_underlying hu w, if_pos hin, run_sizeT hk w, addr_add, Nat.add_zero]
    · cases h
  · rename_i n e' hu
    simp only [Option.bind_eq_some_iff] at h
    obtain ⟨k, hk, h⟩ := h
    split at h
    case isFalse => cases h
    rename_i hin
    obtain ⟨ik, hye⟩ : ∃ ik, a.eval y = .int ik i := by
      cases dy with
      | v vy =>
        cases vy with
        | int ik j => simp only [idx, Option.some.injEq] at hi; subst hi; exact ⟨ik, hq.toV rfl⟩
        | _ => simp [idx] at hi
      | _ => simp [idx] at hi
    have hrun : ∀ g off, a.eval x = .pointer (some ⟨g, off, none⟩) → (execOp a.eval o).run P w = .ok (.value (.pointer (some ⟨g, off + i.toNat * k, none⟩))) w := by
      intro g off hxe
      unfold execOp
      simp only [ho, hxe, hye]
      refine run_value ?_
      unfold Instr.indexAt
      simp only [asIntOf, Sem.run_bind, Sem.run_pure, Result.andThen_ok, run_underlying hu w, Instr.sureAddr, if_pos hin, run_sizeT hk w, addr_add]
    split at h
    · rename_i k' es i0 j
      simp only [Option.some.injEq] at h
      subst h
      obtain ⟨g, o', hxe, hE⟩ := ep_els hp
      exact wp_value (hrun _ _ hxe) (hK.pure I fun _ => by rw [Nat.add_assoc]; exact hE.ep _ _)
    · rename_i b off
      simp only [Option.some.injEq] at h
      subst h
      obtain ⟨g, hO, hxe⟩ := hp
      exact wp_value (hrun _ _ hxe) (hK.pure I fun _ => ⟨g, hO, rfl⟩)
    · cases h
  · cases h

theorem sound_slice {t : TypeId} {x : Operand} {l h' m : Option Operand} (ho : o.op = .slice t x l h' m) (h : dop P F tk st.rd st.bx o = some e) (I : Inv Z0 w0 Z O st a w) (hK : After Z0 w0 Z st a o e K) : o.wp P a w K Q := by
  simp only [dop, ho, Option.bind_eq_some_iff] at h
  obtain ⟨dx, hx, h⟩ := h
  obtain ⟨p, hp, _⟩ := I.rd hx
  split at h
  · rename_i s
    have e1 : a.eval x = .string s := hp.toV rfl
    split at h
    · simp only [Option.bind_eq_some_iff, Option.map_eq_some_iff] at h
      obtain ⟨dl, hl, vl, hvl, dh, hh, vh, hvh, r, hr, rfl⟩ := h
      obtain ⟨_, hl, _⟩ := I.rd hl
      obtain ⟨_, hh, _⟩ := I.rd hh
      have e2 := hl.toV hvl
      have e3 := hh.toV hvh
      refine wp_value (x := r) ?_ (hK.pure I fun i => .v r)
      unfold execOp
      simp only [ho, e1, e2, e3, Option.map_some, Option.map_none]
      exact run_value (pureRun_run _ _ w hr)
    · simp only [Option.bind_eq_some_iff, Option.map_eq_some_iff] at h
      obtain ⟨dl, hl, vl, hvl, r, hr, rfl⟩ := h
      obtain ⟨_, hl, _⟩ := I.rd hl
      have e2 := hl.toV hvl
      refine wp_value (x := r) ?_ (hK.pure I fun i => .v r)
      unfold execOp
      simp only [ho, e1, e2, Option.map_some, Option.map_none]
      exact run_value (pureRun_run _ _ w hr)
    · simp only [Option.bind_eq_some_iff, Option.map_eq_some_iff] at h
      obtain ⟨dh, hh, vh, hvh, r, hr, rfl⟩ := h
      obtain ⟨_, hh, _⟩ := I.rd hh
      have e3 := hh.toV hvh
      refine wp_value (x := r) ?_ (hK.pure I fun i => .v r)
      unfold execOp
      simp only [ho, e1, e3, Option.map_some, Option.map_none]
      exact run_value (pureRun_run _ _ w hr)
    · cases h
  · simp only [Option.bind_eq_some_iff] at h
    obtain ⟨es, he, lo, hlo, hi, hhi, h⟩ := h
    split at h
    · rename_i el hu
      simp only [Option.bind_eq_some_iff] at h
      obtain ⟨k, hk, h⟩ := h
      split at h
      · rename_i hc
        obtain ⟨hkk, h0, h1, h2⟩ := hc
        simp only [Option.some.injEq] at h
        subst h
        obtain ⟨s, n, c, hxe, hn, hnc, hs⟩ := esOf_els hp he
        have hbh : (match h'.map a.eval with | some v => Instr.sliceBound v c .sliceAcap | none => pure n : Sem Nat).run P w = .ok hi.toNat w := by
          cases h' with
          | none =>
            simp only [bound, Option.some.injEq] at hhi
            simp only [Option.map_none, Sem.run_pure]
            rw [← hhi]; simp [hn]
          | some y =>
            simp only [bound, Option.bind_eq_some_iff] at hhi
            obtain ⟨dy, hy, hi'⟩ := hhi
            obtain ⟨ik, hye⟩ := eval_idx hy hi' I
            simp only [Option.map_some, hye, Instr.sliceBound, asIntOf, Sem.run_bind, Sem.run_pure, Result.andThen_ok]
            rw [if_pos ⟨by omega, by omega⟩]
            rfl
        have hbl : (match l.map a.eval with | some v => Instr.sliceBound v hi.toNat .sliceB | none => pure 0 : Sem Nat).run P w = .ok lo.toNat w := by
          cases l with
          | none =>
            simp only [bound, Option.some.injEq] at hlo
            simp only [Option.map_none, Sem.run_pure]
            rw [← hlo]; rfl
          | some y =>
            simp only [bound, Option.bind_eq_some_iff] at hlo
            obtain ⟨dy, hy, hi'⟩ := hlo
            obtain ⟨ik, hye⟩ := eval_idx hy hi' I
            simp only [Option.map_some, hye, Instr.sliceBound, asIntOf, Sem.run_bind, Sem.run_pure, Result.andThen_ok]
            rw [if_pos ⟨by omega, by omega⟩]
            rfl
        have hrun : (Instr.sliceAt t (a.eval x) (l.map a.eval) (h'.map a.eval) none).run P w = .ok (.slice (if c = lo.toNat then s else s.map (·.add (lo.toNat * k))) (hi.toNat - lo.toNat) (c - lo.toNat)) w := by
          unfold Instr.sliceAt
          rw [Sem.run_bind, run_underlying hu w]
          simp only [Result.andThen_ok]
          unfold Instr.slice
          rw [hxe, Sem.run_bind, run_underlying hu w]
          simp only [Result.andThen_ok]
          rw [Sem.run_bind]
          have hb : (Instr.sliceBounds true n c (l.map a.eval) (h'.map a.eval) none).run P w = .ok (lo.toNat, hi.toNat, c) w := by
            unfold Instr.sliceBounds
            cases h' <;> cases l <;> simp only [Option.map_none, Option.map_some, Sem.run_bind, Sem.run_pure, Result.andThen_ok, Result.ok.injEq, and_true, if_true, Option.isSome_none, Bool.false_eq_true, if_false] at hbh hbl ⊢ <;> simp [hbh, hbl]
          rw [hb]
          simp only [Result.andThen_ok, Sem.run_bind, run_sizeT hk w, Sem.run_pure]
        refine wp_value (w' := w) (x := .slice (if c = lo.toNat then s else s.map (·.add (lo.toNat * k))) (hi.toNat - lo.toNat) (c - lo.toNat)) ?_ (hK.pure I fun i => RV.ofRp ?_)
        · unfold execOp
          simp only [ho, Option.map_none]
          exact run_value hrun
        · have hlen : ((es.take hi.toNat).drop lo.toNat).length = hi.toNat - lo.toNat := by
            rw [List.length_drop, List.length_take]; omega
          by_cases hpos : 0 < hi.toNat - lo.toNat
          · have h0l : 0 < es.length := by omega
            obtain ⟨g, o', hse, hE⟩ := hs k 0 es[0] (List.getElem?_eq_getElem h0l) (by simpa using List.all_eq_true.1 hkk _ (List.getElem_mem h0l))
            have hcl : ¬ c = lo.toNat := by omega
            rw [if_neg hcl, hse, Option.map_some, addr_add]
            refine (Els.sl (g := g) (k := k) (o := o' + lo.toNat * k) (c := c - lo.toNat) ⟨fun i hi' => ?_, fun i hi' j hj => ?_⟩ hlen.symm (by omega))
            · simp only [List.getElem_drop, List.getElem_take]
              exact hE.1 _ _
            · rw [hlen] at hi'
              simp only [List.getElem_drop, List.getElem_take] at hj ⊢
              obtain ⟨y, h5, h6⟩ := hE.2 (lo.toNat + i) (by omega) j hj
              refine ⟨y, ?_, h6⟩
              rw [← h5]; congr 1
              rw [Nat.add_mul]; omega
          · have hz : (es.take hi.toNat).drop lo.toNat = [] := List.eq_nil_of_length_eq_zero (by omega)
            rw [hz]
            exact .sl _ _ _ k [] (by simp; omega) (by omega) ⟨0, 0, none⟩ (fun h => absurd h hpos) rfl (fun i hi => absurd hi (Nat.not_lt_zero _)) (fun _ _ => undef) (fun i hi => absurd hi (Nat.not_lt_zero _)) (fun i hi => absurd hi (Nat.not_lt_zero _))
      · cases h
    · cases h
  · cases h
theorem exec_builtin {c : Call} {b : Builtin} (ho : o.op = .call c) (hc : c.callee = .builtin b) : execOp a.eval o = builtin b c.argTypes o.type (c.args.map fun | .const _ => true | _ => false) (c.args.map a.eval) := by
  unfold execOp
  simp only [ho, resolve, hc]
  rfl
theorem mapM_toV {xs : List Operand} : ∀ {vs : List Value}, (xs.mapM fun x => (st.rd x).bind toV) = some vs → Inv Z0 w0 Z O st a w → xs.map a.eval = vs := by
  induction xs with
  | nil => intro vs h I; simp at h; subst h; rfl
  | cons x xs ih =>
    intro vs h I
    simp only [List.mapM_cons, Option.bind_eq_bind, Option.bind_eq_some_iff, Option.pure_def, Option.some.injEq] at h
    obtain ⟨v, ⟨d, hd, hv⟩, vs', h', rfl⟩ := h
    obtain ⟨p, hp, _⟩ := I.rd hd
    simp only [List.map_cons, hp.toV hv, ih h' I]
theorem sound_min {c : Call} (ho : o.op = .call c) (hc : c.callee = .builtin .min) (h : dop P F tk st.rd st.bx o = some e) (I : Inv Z0 w0 Z O st a w) (hK : After Z0 w0 Z st a o e K) : o.wp P a w K Q := by
  simp only [dop, ho, hc, Option.bind_eq_some_iff, Option.map_eq_some_iff] at h
  obtain ⟨vs, hvs, r, hr, rfl⟩ := h
  have := mapM_toV hvs I
  refine wp_value (x := r) ?_ (hK.pure I fun i => .v r)
  rw [exec_builtin ho hc, show c.args.map a.eval = vs.toArray by rw [← this, ← Array.toList_map, Array.toArray_toList]]
  exact run_value (pureRun_run _ _ w hr)
theorem sound_max {c : Call} (ho : o.op = .call c) (hc : c.callee = .builtin .max) (h : dop P F tk st.rd st.bx o = some e) (I : Inv Z0 w0 Z O st a w) (hK : After Z0 w0 Z st a o e K) : o.wp P a w K Q := by
  simp only [dop, ho, hc, Option.bind_eq_some_iff, Option.map_eq_some_iff] at h
  obtain ⟨vs, hvs, r, hr, rfl⟩ := h
  have := mapM_toV hvs I
  refine wp_value (x := r) ?_ (hK.pure I fun i => .v r)
  rw [exec_builtin ho hc, show c.args.map a.eval = vs.toArray by rw [← this, ← Array.toList_map, Array.toArray_toList]]
  exact run_value (pureRun_run _ _ w hr)
theorem sound_len {c : Call} (ho : o.op = .call c) (hc : c.callee = .builtin .len) (h : dop P F tk st.rd st.bx o = some e) (I : Inv Z0 w0 Z O st a w) (hK : After Z0 w0 Z st a o e K) : o.wp P a w K Q := by
  simp only [dop, ho, hc] at h
  split at h
  · rename_i x hxs
    have hargs : c.args = #[x] := by rw [← Array.toArray_toList (xs := c.args), hxs]
    simp only [Option.bind_eq_some_iff] at h
    obtain ⟨dx, hx, h⟩ := h
    obtain ⟨p, hp, _⟩ := I.rd hx
    have hfin : ∀ n : Int, (Builtin.len_ c.argTypes o.type #[a.eval x]).run P w = .ok (.int .i64 n) w → e = { d := .v (.int .i64 n) } → o.wp P a w K Q := by
      intro n hr he
      subst he
      refine wp_value (x := .int .i64 n) ?_ (hK.pure I fun i => .v _)
      rw [exec_builtin ho hc, hargs]
      simp only [List.map_toArray, List.map_cons, List.map_nil]
      exact run_value hr
    have ht : ∀ q, (c.argTypes[0]?).bind P.underlying = some q → ∃ t, c.argTypes[0]? = some t ∧ P.underlying t = some q := fun q h => by
      simpa [Option.bind_eq_some_iff] using h
    split at h
    · rename_i s
      split at h
      · rename_i hq
        obtain ⟨t, h1, h2⟩ := ht _ hq
        simp only [Option.some.injEq] at h
        refine hfin _ ?_ h.symm
        rw [show a.eval x = .string s from hp.toV rfl]
        simp [Builtin.len_, h1, run_underlying h2 w, goInt]
      · cases h
    · rename_i es
      split at h
      · rename_i q hq
        obtain ⟨t, h1, h2⟩ := ht _ hq
        simp only [Option.some.injEq] at h
        obtain ⟨s, n, c', hxe, hn, _⟩ := esOf_els hp (es := es) rfl
        refine hfin _ ?_ h.symm
        rw [hxe]
        simp [Builtin.len_, h1, run_underlying h2 w, goInt, hn]
      · cases h
    · rename_i e' k es
      split at h
      · rename_i q hq
        obtain ⟨t, h1, h2⟩ := ht _ hq
        simp only [Option.some.injEq] at h
        obtain ⟨s, n, c', hxe, hn, _⟩ := esOf_els hp (es := es) rfl
        refine hfin _ ?_ h.symm
        rw [hxe]
        simp [Builtin.len_, h1, run_underlying h2 w, goInt, hn]
      · cases h
    · rename_i b off k n
      split at h
      · rename_i q hq
        obtain ⟨t, h1, h2⟩ := ht _ hq
        simp only [Option.some.injEq] at h
        obtain ⟨g, c', _, hxe, _⟩ := hp
        refine hfin _ ?_ h.symm
        rw [hxe]
        simp [Builtin.len_, h1, run_underlying h2 w, goInt]
      · cases h
    · cases h
  · cases h

theorem kill_own {b : Nat} {d : D} {e : TypeId} {k : Nat} {es : List (List D)} (h : kill b d = .own e k es) : d = .own e k es := by
  unfold kill at h
  split at h
  · cases h
  · exact h
theorem refc_mem (b : Nat) (d : D) : refc b d = (boxc d).contains b := by
  cases d with
  | bp b' o => rw [Bool.eq_iff_iff]; simp [refc, boxc, box1]; exact eq_comm
  | bs b' o k n => rw [Bool.eq_iff_iff]; simp [refc, boxc, box1]; exact eq_comm
  | _ => rfl
theorem refs_mem (b : Nat) (d : D) : refs b d = (boxD d).contains b := by
  cases d with
  | agg cs =>
    simp only [refs, boxD, boxa]
    rw [Bool.eq_iff_iff, List.any_eq_true, List.contains_iff_mem, List.mem_flatMap]
    exact ⟨fun ⟨d, h1, h2⟩ => ⟨d, h1, by rwa [refc_mem, List.contains_iff_mem] at h2⟩, fun ⟨d, h1, h2⟩ => ⟨d, h1, by rwa [refc_mem, List.contains_iff_mem]⟩⟩
  | ag2 cs =>
    simp only [refs, boxD, boxa]
    rw [Bool.eq_iff_iff, List.any_eq_true, List.contains_iff_mem, List.mem_flatMap]
    exact ⟨fun ⟨d, h1, h2⟩ => ⟨d, h1, by rwa [refc_mem, List.contains_iff_mem] at h2⟩, fun ⟨d, h1, h2⟩ => ⟨d, h1, by rwa [refc_mem, List.contains_iff_mem]⟩⟩
  | tup ds =>
    simp only [refs, boxD]
    rw [Bool.eq_iff_iff, List.any_eq_true, List.contains_iff_mem, List.mem_flatMap]
    exact ⟨fun ⟨d, h1, h2⟩ => ⟨d, h1, by rwa [List.contains_iff_mem] at h2⟩, fun ⟨d, h1, h2⟩ => ⟨d, h1, by rwa [List.contains_iff_mem]⟩⟩
  | tp2 c r ds =>
    simp only [refs, boxD]
    rw [Bool.eq_iff_iff, Bool.or_eq_true, List.any_eq_true, List.contains_iff_mem, List.contains_iff_mem, List.mem_append, List.mem_flatMap]
    exact ⟨fun h => h.elim .inl fun ⟨d, h1, h2⟩ => .inr ⟨d, h1, by rwa [List.contains_iff_mem] at h2⟩, fun h => h.elim .inl fun ⟨d, h1, h2⟩ => .inr ⟨d, h1, by rwa [List.contains_iff_mem]⟩⟩
  | bp b' o => exact refc_mem b (.bp b' o)
  | bs b' o k n => exact refc_mem b (.bs b' o k n)
  | _ => rfl
theorem refs_ne {b b' : Nat} {d : D} (h : refs b d = false) (hb : b' ∈ boxD d) : b' ≠ b := fun e => by
  rw [refs_mem] at h
  subst e
  rw [List.contains_iff_mem.2 hb] at h; cases h
theorem refc_ne {b b' : Nat} {d : D} (h : refc b d = false) (hb : b' ∈ boxc d) : b' ≠ b := fun e => by
  rw [refc_mem] at h
  subst e
  rw [List.contains_iff_mem.2 hb] at h; cases h
theorem RV.kill {Z' : FZ} {O' : OM} {w' : World} {p : Pos} {x : Value} {d : D} {b : Nat} (h : RV Z O w p x d) (hZ : Z.le Z') (hb : ∀ g b', b' ≠ b → O g = .box b' → O' g = .box b')
    (ho : d.rt = true → ∀ g, O g = .at p → O' g = .at p ∧ w'.heap[g]? = w.heap[g]? ∧ ∀ o, Z g o = none → Z' g o = none) : RV Z' O' w' p x (kill b d) := by
  unfold Eng.kill
  split
  · trivial
  · rename_i hr
    have hr : refs b d = false := by simpa using hr
    exact h.moveB hZ (fun g b' hb' => hb g b' (refs_ne hr hb')) ho
theorem kill_oneb {b : Nat} {d : D} (h : oneb d = true) (hr : refc b d = false) : kill b d = d := by
  have : refs b d = false := by
    cases d with
    | agg => simp [oneb, one] at h
    | ag2 => simp [oneb, one] at h
    | tp2 => simp [oneb, one] at h
    | tup => simp [oneb, one] at h
    | _ => first | exact hr | rfl
  unfold Eng.kill
  rw [this]; rfl
theorem set_bx {l : Nat → Option (List D)} {b b' : Nat} {v : Option (List D)} {cs : List D} (h : updb l b v b' = some cs) : (b = b' ∧ v = some cs) ∨ (b ≠ b' ∧ l b' = some cs) := by
  unfold updb at h
  by_cases e : b' = b
  · rw [if_pos e] at h; exact .inl ⟨e.symm, h⟩
  · rw [if_neg e] at h; exact .inr ⟨fun h => e h.symm, h⟩
theorem agree_alloc {ob : Obj} (h : Agree Z w) : Agree Z (w.alloc ob) := fun b o x hx => by
  have hc := h b o x hx
  have hlt : b < w.heap.size := block_lt_of_cell hc.1
  exact ⟨(World.cell?_of_block (w := w) (w' := w.alloc ob) (heap_alloc_old w ob b hlt)).trans hc.1, hc.2⟩
theorem kill_one {b : Nat} {d : D} (h : one d = true) (hr : refc b d = false) : kill b d = d := by
  have : refs b d = false := by
    cases d with
    | agg => simp [one] at h
    | ag2 => simp [one] at h
    | tp2 => simp [one] at h
    | tup => simp [one] at h
    | _ => first | exact hr | rfl
  unfold kill
  rw [this]; rfl
theorem killb_some {b : Nat} {c : Option (List D)} {cs : List D} (h : killb b c = some cs) : c = some cs ∧ cs.any (refc b) = false := by
  unfold killb at h
  cases c with
  | none => cases h
  | some ds =>
    simp only [Option.bind_some] at h
    split at h
    · cases h
    · rename_i hr
      simp only [Option.some.injEq] at h
      subst h
      exact ⟨rfl, by simpa using hr⟩
def OM.nw (O : OM) (n b : Nat) : OM := fun g => if g = n then .box b else if O g = .box b then .none else O g
theorem OM.nw_at {n b g : Nat} {p : Pos} (hg : g < n) (h : O g = .at p) : O.nw n b g = .at p := by
  unfold OM.nw; rw [if_neg (by omega), if_neg (by rw [h]; simp), h]
theorem OM.nw_box {n b b' g : Nat} (hg : g < n) (hb : b' ≠ b) (h : O g = .box b') : O.nw n b g = .box b' := by
  unfold OM.nw; rw [if_neg (by omega), if_neg (by rw [h]; intro e; injection e with e; exact hb e), h]
theorem OM.nw_inv {n b b' g : Nat} (h : O.nw n b g = .box b') : (g = n ∧ b' = b) ∨ (O g = .box b' ∧ b' ≠ b) := by
  unfold OM.nw at h
  split at h
  · rename_i hg; injection h with h; exact .inl ⟨hg, h.symm⟩
  · split at h
    · cases h
    · rename_i hb; exact .inr ⟨h, fun e => hb (by rw [h, e])⟩
theorem OM.nw_none {n b g : Nat} (h : O.nw n b g ≠ .none) : g = n ∨ O g ≠ .none := by
  unfold OM.nw at h
  split at h
  · rename_i hg; exact .inl hg
  · split at h
    · exact absurd rfl h
    · exact .inr h
/-- (C) a new variable -/
theorem Inv.new (I : Inv Z0 w0 Z O st a w) (b : Nat) (t : TypeId) (xs : Array Value) (cs : List D) (hl : cs.length ≤ xs.size)
    (hx : ∀ j (h : j < cs.length) (h' : j < xs.size), RV Z O w (.b b j) xs[j] cs[j] ∧ xs[j].oneCell' = true) (h1 : bok w.heap.size xs t cs) (h2 : cs.any (refc b) = false) (hbo : b < OB) :
    Inv Z0 w0 Z (O.nw w.heap.size b) ⟨st.t.map (kill b), updb (fun i => killb b (st.b i)) b (some cs)⟩ a (w.alloc (.cells xs t)) := by
  have hB : w0.w.heap.size ≤ w.heap.size := I.bl.size
  have hlt : ∀ {g}, O g ≠ .none → g < w.heap.size := fun h => (I.ob _ h).2
  have key : ∀ {p x d}, RV Z O w p x d → RV Z (O.nw w.heap.size b) (w.alloc (.cells xs t)) p x (kill b d) := fun h =>
    h.kill (FZ.le_refl Z) (fun g b' hne hg => OM.nw_box (hlt (by rw [hg]; simp)) hne hg)
      (fun _ g hg => ⟨OM.nw_at (hlt (by rw [hg]; simp)) hg, heap_alloc_old w _ g (hlt (by rw [hg]; simp)), fun _ ho => ho⟩)
  refine ⟨?_, ?_, ?_, ?_, ?_, agree_alloc I.ag, I.bl.alloc _, I.df, I.zn, I.bs, fun g b' h => ?_, fun g b' h hb => ?_⟩
  · simpa using I.tsz
  · intro i h h'
    have h2 : i < st.t.length := by simpa using h
    simp only [List.getElem_map]
    exact key (I.tv i h2 h')
  · intro b' cs' hb
    rcases set_bx (show updb (fun i => killb b (st.b i)) b (some cs) b' = some cs' from hb) with ⟨rfl, hc⟩ | ⟨hne, hb'⟩
    · simp only [Option.some.injEq] at hc
      subst hc
      refine ⟨w.heap.size, xs, t, by unfold OM.nw; rw [if_pos rfl], Hp.of0 (heap_alloc_new w _), hl, fun j h h' => ⟨?_, (hx j h h').2⟩, fun o => ?_, h1⟩
      · have := key (hx j h h').1
        rwa [kill_oneb (h1.mem (List.getElem_mem h)) (by simpa using List.any_eq_false.1 h2 _ (List.getElem_mem h))] at this
      · cases hz : Z w.heap.size o with
        | none => rfl
        | some x => exact absurd (block_lt_of_cell (I.ag _ _ _ hz).1) (by simp)
    · obtain ⟨hb', hr'⟩ := killb_some hb'
      obtain ⟨g, xs', e, q1, q2, q3, q4, q5, q6⟩ := I.bv b' cs' hb'
      refine ⟨g, xs', e, OM.nw_box (hlt (by rw [q1]; simp)) (fun e => hne e.symm) q1, q2.at (heap_alloc_old w _ g (hlt (by rw [q1]; simp))), q3, fun j h h' => ⟨?_, (q4 j h h').2⟩, q5, q6⟩
      have := key (q4 j h h').1
      rwa [kill_oneb (q6.mem (List.getElem_mem h)) (by simpa using List.any_eq_false.1 hr' _ (List.getElem_mem h))] at this
  · intro g g' b' h h'
    rcases OM.nw_inv h with ⟨e1, e2⟩ | ⟨e1, e2⟩ <;> rcases OM.nw_inv h' with ⟨e3, e4⟩ | ⟨e3, e4⟩
    · rw [e1, e3]
    · exact absurd e2 e4
    · exact absurd e4 e2
    · exact I.uq g g' b' e1 e3
  · intro g h
    rcases OM.nw_none h with rfl | h
    · exact ⟨w0.hM _ hB, by simp⟩
    · have := I.ob g h; exact ⟨this.1, by simp; omega⟩
  · have h3 := I.oi g b' h
    have h4 := w0.ol g b' h
    exact OM.nw_box (hlt (by rw [h3]; simp)) (by omega) h3
  · rcases OM.nw_inv h with ⟨_, e⟩ | ⟨e, _⟩
    · omega
    · exact I.oo g b' e hb
theorem cells_rv {p : Pos} {x : Value} {d : D} (h : RV Z O w p x d) (h1 : (cellsD d).all one = true) (hp : d.rt = false) : x.cells.size = (cellsD d).length ∧ ∀ q j (h : j < (cellsD d).length) (h' : j < x.cells.size), RV Z O w q x.cells[j] (cellsD d)[j] ∧ x.cells[j].oneCell' = true := by
  have one_of : ∀ {y : Value} {c : D}, Rp Z y c → one c = true → y.oneCell' = true := by
    intro y c hr ho
    cases hr with
    | v x => exact ho
    | sl => rfl
    | nn => rfl
    | ep => rfl
    | agg => simp [one] at ho
    | tup => simp [one] at ho
  have single : ∀ {y : Value} {c : D}, Rp Z y c → one c = true → (#[y] : Array Value).size = [c].length ∧ ∀ q j (h : j < [c].length) (h' : j < #[y].size), RV Z O w q (#[y])[j] [c][j] ∧ (#[y])[j].oneCell' = true := by
    intro y c hr ho
    refine ⟨rfl, fun q j h h' => ?_⟩
    have : j = 0 := by simp at h; exact h
    subst this
    exact ⟨RV.ofRp hr, one_of hr ho⟩
  cases d with
  | raw => simp [cellsD, one] at h1
  | bz => simp [cellsD, one] at h1
  | slx k es =>
    obtain ⟨q1, a', n', rfl⟩ := h
    refine ⟨rfl, fun q j h h' => ?_⟩
    have : j = 0 := by simp [cellsD] at h; exact h
    subst this
    exact ⟨⟨q1, a', n', rfl⟩, rfl⟩
  | undef => simp [cellsD, one] at h1
  | bp b off =>
    obtain ⟨g, q1, rfl⟩ := h
    refine ⟨rfl, fun q j h h' => ?_⟩
    have : j = 0 := by simp [cellsD] at h; exact h
    subst this
    exact ⟨⟨g, q1, rfl⟩, rfl⟩
  | fn f ds es =>
    obtain ⟨xs, ys, rfl, q2⟩ := h
    refine ⟨rfl, fun q j h h' => ?_⟩
    have : j = 0 := by simp [cellsD] at h; exact h
    subst this
    exact ⟨⟨xs, ys, rfl, q2⟩, rfl⟩
  | ep k es i j =>
    have hr : Rp Z x (.ep k es i j) := h
    have hx : x.cells = #[x] := by cases hr; rfl
    rw [hx]
    exact single hr rfl
  | nn =>
    have hr : Rp Z x .nn := h
    have hx : x.cells = #[x] := by cases hr; rfl
    rw [hx]
    exact single hr rfl
  | tup => simp [cellsD, one] at h1
  | own e k es => cases hp
  | ag2 => cases hp
  | tp2 => simp [cellsD, one] at h1
  | sl es =>
    have hr : Rp Z x (.sl es) := h
    have hx : x.cells = #[x] := by cases hr; rfl
    simp only [cellsD]
    rw [hx]
    exact single hr rfl
  | bs b off k n =>
    obtain ⟨g, c, q1, rfl, q3⟩ := h
    refine ⟨rfl, fun q j h h' => ?_⟩
    have : j = 0 := by simp [cellsD] at h; exact h
    subst this
    exact ⟨⟨g, c, q1, rfl, q3⟩, rfl⟩
  | agg cs =>
    obtain ⟨xs, rfl, hl, hc⟩ := h
    refine ⟨by simpa [Value.cells, cellsD] using hl, fun q j h h' => ?_⟩
    have hj : j < xs.length := by simpa [Value.cells] using h'
    have hr := hc j h hj
    have ho := List.all_eq_true.1 h1 _ (List.getElem_mem h)
    refine ⟨?_, ?_⟩
    · have h0 : RV Z O w q xs[j] cs[j] := hr.rv
      simp only [Value.cells, List.getElem_toArray]
      exact h0
    · have ho' : one cs[j] = true := ho
      have : xs[j].oneCell' = true := by
        generalize cs[j] = d at hr ho'
        cases d with
        | bz => simp [one] at ho'
        | bs b off k n => obtain ⟨g, c, _, e, _⟩ := hr; rw [e]; rfl
        | bp b off => obtain ⟨g, _, e⟩ := hr; rw [e]; rfl
        | fn f ds es => obtain ⟨xs, ys, e, _⟩ := hr; rw [e]; rfl
        | slx k es => obtain ⟨_, a', n', e⟩ := hr; rw [e]; rfl
        | _ => exact one_of hr ho'
      simpa [Value.cells] using this
  | v y =>
    have hr : Rp Z x (.v y) := h
    cases hr
    cases x with
    | agg xs =>
      refine ⟨by simp [Value.cells, cellsD], fun q j h h' => ?_⟩
      have h2 : (cellsD (.v (.agg xs)))[j] = .v ((Value.agg xs).cells[j]) := by simp [cellsD, Value.cells]
      refine ⟨by rw [h2]; exact .v _, ?_⟩
      have := List.all_eq_true.1 h1 _ (List.getElem_mem h)
      rw [h2] at this
      exact this
    | _ => exact single (.v _) (by simpa [cellsD] using h1)
theorem run_newVar (t : TypeId) (v : Value) : (newVar t v).run P w = .ok ⟨w.heap.size, 0, none⟩ (w.alloc (.cells v.cells t)) := rfl
theorem sound_alloc {t : TypeId} (ho : o.op = .alloc t) (h : dop P F tk st.rd st.bx o = some e) (I : Inv Z0 w0 Z O st a w) (hK : After Z0 w0 Z st a o e K) : o.wp P a w K Q := by
  simp only [dop, ho, Option.bind_eq_some_iff] at h
  obtain ⟨cs, hz, h⟩ := h
  split at h
  · rename_i h1
    obtain ⟨h1, hbo⟩ := h1
    simp only [Option.some.injEq] at h
    subst h
    simp only [ofZero, Option.map_eq_some_iff, Option.bind_eq_some_iff] at hz
    obtain ⟨z, ⟨i, hi, hz⟩, rfl⟩ := hz
    have hone : ∀ j (h' : j < z.cells.size), z.cells[j].oneCell' = true := fun j h' => by
      have h3 : j < (z.cells.toList.map D.v).length := by simpa using h'
      have h2 : (z.cells.toList.map D.v)[j] = .v z.cells[j] := by simp
      have := List.all_eq_true.1 h1 _ (List.getElem_mem h3)
      rw [h2] at this
      exact this
    have I' := I.new (o.dst.getD 0) t z.cells (bzc t (z.cells.toList.map .v)) (by rw [bzc_len]; simp) (fun j h h' => by
      have h3 : j < (z.cells.toList.map D.v).length := by simpa using h'
      refine ⟨?_, hone j h'⟩
      rcases bzc_get t _ j h h3 with h2 | h2
      · exact (congrArg (fun d => RV Z O w (.b (o.dst.getD 0) j) z.cells[j] d) h2).mpr trivial
      · have h4 : (z.cells.toList.map D.v)[j] = .v z.cells[j] := by simp
        exact (congrArg (fun d => RV Z O w (.b (o.dst.getD 0) j) z.cells[j] d) (h2.trans h4)).mpr (.v _)) (bok.bzc h1 (by simp) fun r hr => by
          have h5 : (z.cells.toList.map D.v)[0]? = some (.v (.pointer none)) := by rw [hr]; rfl
          rw [List.getElem?_map, Option.map_eq_some_iff] at h5
          obtain ⟨y, hy, h6⟩ := h5
          injection h6 with h6
          rw [← h6, ← Array.getElem?_toList]; exact hy) (bzc_any _ _ _ (by rw [List.any_eq_false]; intro d hd; obtain ⟨y, _, rfl⟩ := List.mem_map.1 hd; simp [refc])) hbo
    refine wp_value (w' := w.alloc (.cells z.cells t)) (x := .pointer (some ⟨w.heap.size, 0, none⟩)) ?_ ?_
    · unfold execOp
      simp only [ho]
      refine run_value ?_
      unfold Instr.alloc
      rw [Sem.run_bind]
      have : (zeroValue t).run P w = .ok z w := by simp [zeroValue, typeInfo, hi, hz]
      rw [this]
      simp only [Result.andThen_ok, Sem.run_bind, run_newVar, Sem.run_pure]
    · refine hK _ Z (O.nw w.heap.size (o.dst.getD 0)) _ (FZ.le_refl Z) ?_
      exact I'.put o.dst (.bp (o.dst.getD 0) 0) _ (fun i hi => ⟨w.heap.size, by unfold OM.nw; rw [if_pos rfl], rfl⟩)
  · cases h

/-- what goes from a temporary to a variable's cells -/
theorem cells_out (I : Inv Z0 w0 Z O st a w) {y : Operand} {d : D} (hy : st.rd y = some d) (hone : (cellsD d).all one = true) (b off : Nat) :
    ∃ O1, Inv Z0 w0 Z O1 { st with t := (goneOf y d).foldl stripAt st.t } a w ∧ (∀ g b', O1 g = .box b' ↔ O g = .box b') ∧ (a.eval y).cells.size = (cellsD d).length ∧
      ∀ j (h : j < (cellsD d).length) (h' : j < (a.eval y).cells.size), RV Z O1 w (.b b (off + j)) (a.eval y).cells[j] (cellsD d)[j] ∧ (a.eval y).cells[j].oneCell' = true := by
  obtain ⟨q, hq, hqt⟩ := I.rd hy
  by_cases hd : d.rt = true
  · obtain ⟨s, rfl⟩ := (rd_cases hy).resolve_right (by rw [hd]; intro h; cases h)
    have hps := hqt s rfl
    subst hps
    cases d with
    | own e k es =>
      have hcv : (a.eval (.tmp s)).cells = #[a.eval (.tmp s)] := by
        rcases hq with ⟨_, hv⟩ | ⟨g, c, cur, hv, _⟩ <;> rw [hv] <;> rfl
      have hoc : (a.eval (.tmp s)).oneCell' = true := by
        rcases hq with ⟨_, hv⟩ | ⟨g, c, cur, hv, _⟩ <;> rw [hv] <;> rfl
      refine ⟨_, I.out s (.b b off), fun g b' => OM.mv_box, by rw [hcv]; rfl, fun j h h' => ?_⟩
      have : j = 0 := by simp [cellsD] at h; exact h
      subst this
      have h0 : (a.eval (.tmp s)).cells[0] = a.eval (.tmp s) := by simp [hcv]
      rw [h0]
      exact ⟨hq.mvs, hoc⟩
    | ag2 cs =>
      obtain ⟨xs, h1, h2, ix, h3⟩ := Ag2V.out hq
      have hcv : (a.eval (.tmp s)).cells = xs.toArray := by rw [h1]; rfl
      refine ⟨_, I.outS s fun g => .b b (off + ix g), fun g b' => OM.sp_box, by rw [hcv, List.size_toArray]; exact h2, fun j h h' => ?_⟩
      have hj : j < cs.length := h
      have h0 : (a.eval (.tmp s)).cells[j] = xs[j]'(by omega) := by simp [hcv]
      rw [h0]
      exact h3 b off j hj (by omega) (List.all_eq_true.1 hone _ (List.getElem_mem h))
    | tp2 => simp [cellsD, one] at hone
    | _ => cases hd
  · have hd : d.rt = false := by simpa using hd
    obtain ⟨hl, hc⟩ := cells_rv hq hone hd
    have hgn : goneOf y d = [] := by
      cases d with
      | own e k es => cases hd
      | ag2 => cases hd
      | tp2 => simp [cellsD, one] at hone
      | _ => rfl
    rw [hgn]
    exact ⟨O, I, fun _ _ => Iff.rfl, hl, fun j h h' => hc _ j h h'⟩
theorem sound_box {t : TypeId} {x : Operand} (ho : o.op = .box t x) (h : dop P F tk st.rd st.bx o = some e) (I : Inv Z0 w0 Z O st a w) (hK : After Z0 w0 Z st a o e K) : o.wp P a w K Q := by
  simp only [dop, ho, Option.bind_eq_some_iff] at h
  obtain ⟨d, hx, h⟩ := h
  obtain ⟨p, hp, hpt⟩ := I.rd hx
  split at h
  · rename_i h12
    obtain ⟨h1, h2, hbo⟩ := h12
    simp only [Option.some.injEq] at h
    subst h
    refine wp_value (w' := w.alloc (.cells (a.eval x).cells t)) (x := .pointer (some ⟨w.heap.size, 0, none⟩)) ?_ ?_
    · unfold execOp
      simp only [ho]
      refine run_value ?_
      unfold Instr.box
      rw [Sem.run_bind, run_newVar]; rfl
    obtain ⟨O1, I1, hO1, hl, hc⟩ := cells_out I hx h1 (o.dst.getD 0) 0
    have I' := I1.new (o.dst.getD 0) t (a.eval x).cells (cellsD d) (Nat.le_of_eq hl.symm) (fun j h h' => by have := hc j h h'; rwa [Nat.zero_add] at this) (bok.of h1) h2 hbo
    refine hK _ Z (O1.nw w.heap.size (o.dst.getD 0)) _ (FZ.le_refl Z) ?_
    have := I'.put o.dst (.bp (o.dst.getD 0) 0) (.pointer (some ⟨w.heap.size, 0, none⟩)) (fun i hi => ⟨w.heap.size, by unfold OM.nw; rw [if_pos rfl], rfl⟩)
    simpa only [Eff.on, Eff.onb, List.foldl_nil] using this
  · cases h

/-- (D) a variable is written -/
theorem Inv.store (I : Inv Z0 w0 Z O st a w) {b g off : Nat} {cs ds : List D} {xs : Array Value} {vs : List Value} {e : TypeId} (hb : st.bx b = some cs) (hO : O g = .box b) (hg : Hp w g xs e)
    (hl : vs.length = ds.length) (hle : off + ds.length ≤ cs.length) (h1 : ds.all one = true) (hv : ∀ j (h : j < ds.length) (h' : j < vs.length), RV Z O w (.b b (off + j)) vs[j] ds[j] ∧ vs[j].oneCell' = true) :
    Inv Z0 w0 Z O ⟨st.t, updb st.b b (some (setCells cs off ds))⟩ a (w.setRow g (xs.toList.take off ++ vs ++ xs.toList.drop (off + vs.length)).toArray) := by
  obtain ⟨g', xs', e', q1, q2, q3, q4, q5, q6⟩ := I.bv b cs hb
  have hgg := I.uq g g' b hO q1
  subst hgg
  obtain ⟨rfl, rfl⟩ := hg.inj q2
  have hob := I.ob g (by rw [hO]; simp)
  have hgrow : w.grownBy (w.setRow g (xs.toList.take off ++ vs ++ xs.toList.drop (off + vs.length)).toArray) (some g) := ⟨rfl, rfl, rfl, by simp, fun k _ hk => setRow_other w g k _ (fun e => hk (by rw [e]))⟩
  have key : ∀ {p x d}, RV Z O w p x d → RV Z O (w.setRow g (xs.toList.take off ++ vs ++ xs.toList.drop (off + vs.length)).toArray) p x d := fun h =>
    h.move (FZ.le_refl Z) (fun _ _ h => h) (fun _ g' hg' => ⟨hg', setRow_other w g g' _ (fun e => by subst e; rw [hO] at hg'; cases hg'), fun _ h => h⟩)
  refine ⟨I.tsz, fun i h h' => key (I.tv i h h'), ?_, I.uq, fun g' h => ?_, fun b' o' x hx => ?_, ?_, I.df, I.zn, I.bs, I.oi, I.oo⟩
  · intro b' cs' hb'
    rcases set_bx (show updb st.b b (some (setCells cs off ds)) b' = some cs' from hb') with ⟨rfl, hc⟩ | ⟨hne, hb'⟩
    · simp only [Option.some.injEq] at hc
      subst hc
      have hlx : off + vs.length ≤ xs.toList.length := by simp; omega
      refine ⟨g, _, e, hO, hg.set (by simp only [List.size_toArray]; rw [at3_len hlx rfl]; simp), ?_, fun j h h' => ?_, q5, ?_⟩
      · simp only [List.size_toArray, setCells]
        rw [at3_len hlx rfl, at3_len hle rfl]; simpa using q3
      · have hj : j < cs.length := by simp only [setCells] at h; rwa [at3_len hle rfl] at h
        have e1 : (setCells cs off ds)[j]? = some (setCells cs off ds)[j] := List.getElem?_eq_getElem h
        have e2 : ((xs.toList.take off ++ vs ++ xs.toList.drop (off + vs.length)).toArray)[j]? = some ((xs.toList.take off ++ vs ++ xs.toList.drop (off + vs.length)).toArray)[j] := Array.getElem?_eq_getElem h'
        generalize (setCells cs off ds)[j] = d at e1
        generalize ((xs.toList.take off ++ vs ++ xs.toList.drop (off + vs.length)).toArray)[j] = x at e2
        rw [setCells, at3 hle rfl] at e1
        rw [List.getElem?_toArray, at3 hlx rfl] at e2
        by_cases c1 : j < off
        · rw [if_pos c1] at e1 e2
          obtain ⟨_, rfl⟩ := List.getElem?_eq_some_iff.1 e1
          obtain ⟨k2, rfl⟩ := List.getElem?_eq_some_iff.1 e2
          have := q4 j hj (by simpa using k2)
          exact ⟨key (by simpa using this.1), by simpa using this.2⟩
        · rw [if_neg c1] at e1 e2
          by_cases c2 : j < off + ds.length
          · rw [if_pos c2] at e1
            rw [if_pos (by omega)] at e2
            obtain ⟨k1, rfl⟩ := List.getElem?_eq_some_iff.1 e1
            obtain ⟨k2, rfl⟩ := List.getElem?_eq_some_iff.1 e2
            have := hv (j - off) k1 k2
            rw [show off + (j - off) = j by omega] at this
            exact ⟨key this.1, this.2⟩
          · rw [if_neg c2] at e1
            rw [if_neg (by omega)] at e2
            obtain ⟨_, rfl⟩ := List.getElem?_eq_some_iff.1 e1
            obtain ⟨k2, rfl⟩ := List.getElem?_eq_some_iff.1 e2
            have := q4 j hj (by simpa using k2)
            exact ⟨key (by simpa using this.1), by simpa using this.2⟩
      · exact q6.set h1 hl hle q3
    · obtain ⟨g2, xs2, e2, r1, r2, r3, r4, r5⟩ := I.bv b' cs' hb'
      have hne2 : g2 ≠ g := fun e => by subst e; rw [hO] at r1; injection r1 with r1; exact hne r1
      exact ⟨g2, xs2, e2, r1, r2.at (setRow_other w g g2 _ hne2), r3, fun j h h' => ⟨key (r4 j h h').1, (r4 j h h').2⟩, r5⟩
  · have := I.ob g' h
    exact ⟨this.1, by simpa using this.2⟩
  · have hc := I.ag b' o' x hx
    have hne : b' ≠ g := fun e => by subst e; rw [q5] at hx; cases hx
    exact ⟨(World.cell?_of_block (setRow_other w g b' _ hne)).trans hc.1, hc.2⟩
  · exact I.bl.grown hgrow hob.1

theorem wp_skipped {x : Value} {w' : World} (h : (execOp a.eval o).run P w = .ok .skip w') (hK : K (a.put o.dst undef) w') : o.wp P a w K Q := by
  unfold Oper.wp; rw [h]; exact hK
theorem run_storeCells_hp (P : Program) (g o : Nat) (t : TypeId) : ∀ (vs : List Value) (i : Nat) (cur : Array Value) (w : World), Hp w g cur t → o + i + vs.length ≤ cur.size → (∀ v ∈ vs, v.oneCell' = true) →
    (storeCells ⟨g, o, none⟩ vs i).run P w = .ok () (w.setRow g (cur.toList.take (o + i) ++ vs ++ cur.toList.drop (o + i + vs.length)).toArray)
  | [], i, cur, w, hg, _, _ => by
    obtain ⟨fr, hg, _⟩ := hg
    simp only [storeCells, List.append_nil, List.length_nil, Nat.add_zero, List.take_append_drop, Array.toArray_toList]
    rw [setRow_self w g cur t fr hg]
    rfl
  | v :: rest, i, cur, w, hg, hl, h1 => by
    have hi : o + i < cur.size := by simp at hl; omega
    have hadd : (⟨g, o, none⟩ : Addr).add i = ⟨g, o + i, none⟩ := by unfold Addr.add; split <;> simp_all
    have hcell : w.cell? ⟨g, o + i, none⟩ = some cur[o + i] := by rw [hg.cell, Array.getElem?_eq_getElem hi]
    have hfro : w.frozen? ⟨g, o + i, none⟩ = false := hg.free _ hi
    have hst : (store ((⟨g, o, none⟩ : Addr).add i) v).run P w = .ok () (w.setRow g (cur.setIfInBounds (o + i) v)) := by
      obtain ⟨fr, hg', _⟩ := hg
      rw [hadd, run_store P w _ v _ (h1 v (by simp)), hcell]
      simp [hfro, setCell_eq_setRow w g (o + i) cur t fr v hg']
    have ih := run_storeCells_hp P g o t rest (i + 1) (cur.setIfInBounds (o + i) v) (w.setRow g (cur.setIfInBounds (o + i) v)) (hg.set (by simp)) (by simp at hl ⊢; omega) (fun x hx => h1 x (by simp [hx]))
    simp only [storeCells, Sem.run_bind, hst, Result.andThen_ok, ih, setRow_setRow]
    congr 3
    have e := list_seg_step cur.toList (o + i) v rest (by simp at hl ⊢; omega)
    simpa [Array.toList_setIfInBounds, Nat.add_assoc] using e
theorem run_storeVar_at {t : TypeId} {n g off : Nat} {v : Value} {xs : Array Value} {e : TypeId} (hn : sizeT P t = some n) (hv : v.cells.size = n) (hg : Hp w g xs e) (hle : off + n ≤ xs.size) (h1 : ∀ u ∈ v.cells.toList, u.oneCell' = true) :
    (storeVar t ⟨g, off, none⟩ v).run P w = .ok () (w.setRow g (xs.toList.take off ++ v.cells.toList ++ xs.toList.drop (off + v.cells.toList.length)).toArray) := by
  unfold storeVar
  rw [Sem.run_bind, run_sizeT hn w]
  simp only [Result.andThen_ok]
  have hr := run_storeCells_hp P g off e v.cells.toList 0 xs w hg (by simp; omega) h1
  simp only [Nat.add_zero] at hr
  rw [if_neg (by rw [hv]; simp)]
  exact hr
theorem sound_store {t : TypeId} {x y : Operand} (ho : o.op = .store t x y) (h : dop P F tk st.rd st.bx o = some e) (I : Inv Z0 w0 Z O st a w) (hK : After Z0 w0 Z st a o e K) : o.wp P a w K Q := by
  simp only [dop, ho, Option.bind_eq_some_iff] at h
  obtain ⟨dx, hx, d, hy, h⟩ := h
  obtain ⟨p, hp, _⟩ := I.rd hx
  obtain ⟨q, hq, hqt⟩ := I.rd hy
  split at h
  · rename_i b off
    simp only [Option.bind_eq_some_iff] at h
    obtain ⟨cs, hb, n, hn, h⟩ := h
    split at h
    · rename_i hc
      obtain ⟨hln, hle, hone⟩ := hc
      simp only [Option.some.injEq] at h
      subst h
      obtain ⟨g, xs, e', hxe, hO, hg, hsz, hcs, hZ, hall1⟩ := I.box hp hb
      have fin : ∀ {O1 : OM} {t1 : List D}, Inv Z0 w0 Z O1 { st with t := t1 } a w → O1 g = .box b → (goneOf y d).foldl stripAt st.t = t1 →
          (a.eval y).cells.size = (cellsD d).length → (∀ j (h : j < (cellsD d).length) (h' : j < (a.eval y).cells.size), RV Z O1 w (.b b (off + j)) (a.eval y).cells[j] (cellsD d)[j] ∧ (a.eval y).cells[j].oneCell' = true) → o.wp P a w K Q := by
        intro O1 t1 I1 hO1 ht hl hv
        have I2 := I1.store (vs := (a.eval y).cells.toList) (ds := cellsD d) (off := off) (b := b) (cs := cs) (by exact hb) hO1 hg (by simpa using hl) (by omega) hone (fun j h h' => by
          have := hv j h (by simpa using h'); simpa using this)
        refine wp_skipped (x := undef) (w' := w.setRow g (xs.toList.take off ++ (a.eval y).cells.toList ++ xs.toList.drop (off + (a.eval y).cells.toList.length)).toArray) ?_ (hK undef Z O1 _ (FZ.le_refl Z) ?_)
        · unfold execOp
          simp only [ho, hxe]
          unfold Instr.storeAt
          rw [Sem.run_bind, Sem.run_bind]
          simp only [Instr.sureAddr, Sem.run_pure, Result.andThen_ok]
          rw [run_storeVar_at hn (by omega) hg (by omega) (fun u hu => by
            rw [List.mem_iff_getElem] at hu
            obtain ⟨j, hj, rfl⟩ := hu
            have := (hv j (by simp at hj; omega) (by simpa using hj)).2
            simpa using this)]
          rfl
        · have := I2.put o.dst (.v undef) undef (fun i hi => .v _)
          have hb0 : st.b b = some cs := hb
          simpa only [Eff.on, Eff.onb, ht, hb0, Option.map_some, List.foldl_nil] using this
      obtain ⟨O1, I1, hO1, hl, hc⟩ := cells_out I hy hone b off
      exact fin (O1 := O1) (t1 := (goneOf y d).foldl stripAt st.t) I1 ((hO1 _ _).2 hO) rfl hl hc
    · cases h
  · cases h

def CR (Z : FZ) (O : OM) (xs : Array Value) (cs : List D) : Prop := xs.size = cs.length ∧ ∀ j (h : j < cs.length) (h' : j < xs.size), RVc Z O xs[j] cs[j] ∧ xs[j].oneCell' = true
theorem fold_set (off : Nat) : ∀ (vs : List Value) (k : Nat) (xs : Array Value) (j : Nat),
    ((vs.zipIdx k).foldl (fun (cs : Array Value) (x : Value × Nat) => cs.setIfInBounds (off + x.2) x.1) xs)[j]? = if off + k ≤ j ∧ j < off + k + vs.length ∧ j < xs.size then vs[j - (off + k)]? else xs[j]?
  | [], k, xs, j => by
    simp only [List.zipIdx_nil, List.foldl_nil, List.length_nil]
    rw [if_neg (by omega)]
  | v :: vs, k, xs, j => by
    rw [List.zipIdx_cons, List.foldl_cons, fold_set off vs (k + 1)]
    simp only [Array.size_setIfInBounds, List.length_cons]
    by_cases h1 : off + (k + 1) ≤ j ∧ j < off + (k + 1) + vs.length ∧ j < xs.size
    · rw [if_pos h1, if_pos (by omega), show j - (off + k) = (j - (off + (k + 1))) + 1 by omega, List.getElem?_cons_succ]
    · rw [if_neg h1, Array.getElem?_setIfInBounds]
      by_cases h2 : off + k = j
      · by_cases h3 : j < xs.size
        · rw [if_pos h2, if_pos (by omega), if_pos (by omega), h2, Nat.sub_self]; rfl
        · rw [if_pos h2, if_neg (by omega), if_neg (by omega)]
          simp only [Array.getElem?_eq_none (Nat.le_of_not_lt h3)]
      · rw [if_neg h2, if_neg (by omega)]
theorem CR.set {xs : Array Value} {cs ds : List D} {off : Nat} {v : Value} (h : CR Z O xs cs) (hl : v.cells.size = ds.length) (hle : off + ds.length ≤ cs.length) (hv : ∀ j (h : j < ds.length) (h' : j < v.cells.size), RVc Z O v.cells[j] ds[j] ∧ v.cells[j].oneCell' = true) :
    CR Z O (v.cells.zipIdx.foldl (fun (cs : Array Value) (x : Value × Nat) => cs.setIfInBounds (off + x.2) x.1) xs) (setCells cs off ds) := by
  have hg : ∀ j, (v.cells.zipIdx.foldl (fun (cs : Array Value) (x : Value × Nat) => cs.setIfInBounds (off + x.2) x.1) xs)[j]? = if off ≤ j ∧ j < off + v.cells.toList.length ∧ j < xs.size then v.cells.toList[j - off]? else xs[j]? := by
    intro j
    rw [← Array.foldl_toList, Array.toList_zipIdx]
    exact fold_set off v.cells.toList 0 xs j
  have hs : (v.cells.zipIdx.foldl (fun (cs : Array Value) (x : Value × Nat) => cs.setIfInBounds (off + x.2) x.1) xs).size = xs.size := by
    have key : ∀ (l : List (Value × Nat)) (xs : Array Value), (l.foldl (fun (cs : Array Value) (x : Value × Nat) => cs.setIfInBounds (off + x.2) x.1) xs).size = xs.size := by
      intro l
      induction l with
      | nil => intro xs; rfl
      | cons x l ih => intro xs; rw [List.foldl_cons, ih]; simp
    rw [← Array.foldl_toList]; exact key _ _
  refine ⟨by rw [hs, h.1, setCells, at3_len hle rfl], fun j h1 h2 => ?_⟩
  have e1 : (setCells cs off ds)[j]? = some (setCells cs off ds)[j] := List.getElem?_eq_getElem h1
  have e2 := Array.getElem?_eq_getElem h2
  rw [hg] at e2
  generalize (setCells cs off ds)[j] = d at e1
  rw [setCells, at3 hle rfl] at e1
  generalize (v.cells.zipIdx.foldl (fun (cs : Array Value) (x : Value × Nat) => cs.setIfInBounds (off + x.2) x.1) xs)[j] = x at e2
  have hj : j < xs.size := by rwa [hs] at h2
  by_cases c1 : j < off
  · rw [if_pos c1] at e1
    rw [if_neg (by omega)] at e2
    obtain ⟨k1, rfl⟩ := List.getElem?_eq_some_iff.1 e1
    obtain ⟨k2, rfl⟩ := Array.getElem?_eq_some_iff.1 e2
    exact h.2 j k1 k2
  · rw [if_neg c1] at e1
    by_cases c2 : j < off + ds.length
    · rw [if_pos c2] at e1
      rw [if_pos (by simp; omega)] at e2
      obtain ⟨k1, rfl⟩ := List.getElem?_eq_some_iff.1 e1
      obtain ⟨k2, rfl⟩ := List.getElem?_eq_some_iff.1 e2
      have := hv (j - off) k1 (by simpa using k2)
      simpa using this
    · rw [if_neg c2] at e1
      rw [if_neg (by simp; omega)] at e2
      obtain ⟨k1, rfl⟩ := List.getElem?_eq_some_iff.1 e1
      obtain ⟨k2, rfl⟩ := Array.getElem?_eq_some_iff.1 e2
      exact h.2 j k1 k2
theorem fill_rel (I : Inv Z0 w0 Z O st a w) (place : Nat → Option (Nat × Nat)) : ∀ (parts : List (Nat × Operand)) (dl : List (Nat × D)) (xs : Array Value) (cs r : List D),
    (parts.mapM fun (p : Nat × Operand) => (st.rd p.2).map fun d => (p.1, d)) = some dl → fillD place cs dl = some r → CR Z O xs cs → ∃ xs', Instr.fill place xs (parts.map fun p => (p.1, a.eval p.2)) = some xs' ∧ CR Z O xs' r ∧ xs'.size = xs.size
  | [], dl, xs, cs, r, hm, hf, hc => by
    simp only [List.mapM_nil, Option.pure_def, Option.some.injEq] at hm
    subst hm
    simp only [fillD, Option.some.injEq] at hf
    subst hf
    exact ⟨xs, rfl, hc, rfl⟩
  | (i, x) :: parts, dl, xs, cs, r, hm, hf, hc => by
    simp only [List.mapM_cons, Option.bind_eq_bind, Option.bind_eq_some_iff, Option.map_eq_some_iff, Option.pure_def, Option.some.injEq] at hm
    obtain ⟨_, ⟨d, hd, rfl⟩, dl', hm', rfl⟩ := hm
    simp only [fillD, Option.bind_eq_some_iff] at hf
    obtain ⟨⟨off, n⟩, hp, hf⟩ := hf
    simp only at hf
    split at hf
    · rename_i hcnd
      obtain ⟨h1, h2, h3⟩ := hcnd
      obtain ⟨p, hr, _⟩ := I.rd hd
      obtain ⟨hl, hv⟩ := cells_rv hr.stripO h3 (by cases d <;> first | rfl | simp [cellsD, stripO, one] at h3)
      have hv' : ∀ j (h : j < (cellsD (stripO d)).length) (h' : j < (a.eval x).cells.size), RVc Z O (a.eval x).cells[j] (cellsD (stripO d))[j] ∧ (a.eval x).cells[j].oneCell' = true := fun j h h' => by
        obtain ⟨q1, q2⟩ := hv p j h h'
        refine ⟨?_, q2⟩
        have hone := List.all_eq_true.1 h3 _ (List.getElem_mem h)
        have hno : ∀ e k es, (cellsD (stripO d))[j] ≠ .own e k es := by
          intro e k es he
          cases d with
          | agg cs =>
            obtain ⟨ys, hy, hl', hc'⟩ := hr
            have h'' : j < cs.length := h
            have := hc' j h'' (by omega)
            have he' : cs[j] = .own e k es := he
            rw [he'] at this
            generalize ys[j] = u at this
            cases this
          | v y =>
            cases y <;> simp [cellsD, stripO] at he
          | ag2 cs =>
            have h'' : j < cs.length := by simpa [cellsD, stripO] using h
            have he' : (cs.map Eng.strip1)[j]'(by simpa using h'') = .own e k es := he
            rw [List.getElem_map] at he'
            revert he'
            generalize cs[j] = c
            cases c <;> simp [Eng.strip1]
          | _ => simp [cellsD, stripO] at he
        by_cases hx : ∃ k es, (cellsD (stripO d))[j] = .slx k es
        · obtain ⟨k, es, hx⟩ := hx
          rw [hx] at q1 ⊢
          exact q1
        have q3 := q1.cell hone
        have hst : strip (cellsD (stripO d))[j] = (cellsD (stripO d))[j] := by
          generalize (cellsD (stripO d))[j] = c at hno hx hone
          cases c with
          | ag2 => cases hone
          | tp2 => cases hone
          | own e k es => exact absurd rfl (hno e k es)
          | slx k es => exact absurd ⟨k, es, rfl⟩ hx
          | _ => rfl
        rw [hst] at q3
        exact q3
      obtain ⟨xs', e1, e2, e3⟩ := fill_rel I place parts dl' _ _ r hm' hf (hc.set (off := off) hl (by omega) hv')
      refine ⟨xs', ?_, e2, ?_⟩
      · simp only [List.map_cons, Instr.fill, hp]
        rw [if_neg (by simp; have := hc.1; omega)]
        exact e1
      · rw [e3]
        have q := (hc.set (off := off) hl (by omega) hv').1
        rw [q, setCells, at3_len (by omega) rfl, hc.1]
    · cases hf

theorem zero_cr {t : TypeId} {z : List D} (h : ofZero P t = some z) (h1 : z.all one = true) : ∃ i zv, P.info? t = some i ∧ i.zero = some zv ∧ z = zv.cells.toList.map .v ∧ CR Z O zv.cells z := by
  simp only [ofZero, Option.map_eq_some_iff, Option.bind_eq_some_iff] at h
  obtain ⟨zv, ⟨i, hi, hz⟩, rfl⟩ := h
  refine ⟨i, zv, hi, hz, rfl, by simp, fun j h h' => ?_⟩
  have h2 : (zv.cells.toList.map D.v)[j] = .v zv.cells[j] := by simp
  refine ⟨by rw [h2]; exact RVc.ofRp (.v _), ?_⟩
  have := List.all_eq_true.1 h1 _ (List.getElem_mem h)
  rw [h2] at this
  exact this
theorem CR.agg {xs : Array Value} {cs : List D} (h : CR Z O xs cs) (p : Pos) : RV Z O w p (.agg xs) (.agg cs) := by
  exact ⟨xs.toList, by simp, by simpa using h.1, fun i hi hj => (by simpa using (h.2 i hi (by simpa using hj)).1)⟩
theorem sound_build {t : TypeId} {parts : Array (Nat × Operand)} (ho : o.op = .build t parts) (h : dop P F tk st.rd st.bx o = some e) (I : Inv Z0 w0 Z O st a w) (hK : After Z0 w0 Z st a o e K) : o.wp P a w K Q := by
  simp only [dop, ho, Option.bind_eq_some_iff] at h
  obtain ⟨z, hz, h⟩ := h
  split at h
  · rename_i h1
    simp only [Option.bind_eq_some_iff] at h
    obtain ⟨dl, hdl, h⟩ := h
    obtain ⟨i, zv, hi, hzv, rfl, hcr⟩ := zero_cr (Z := Z) (O := O) hz h1
    obtain ⟨xs', cs, hb, hcr', rfl⟩ : ∃ xs' cs, P.built t (parts.map fun p => (p.1, a.eval p.2)).toList = some xs' ∧ CR Z O xs' cs ∧ e = { d := .agg cs } := by
      unfold Program.built
      split at h
      · rename_i fields hu
        simp only [Option.bind_eq_some_iff, Option.map_eq_some_iff] at h
        obtain ⟨places, hpl, cs, hf, rfl⟩ := h
        obtain ⟨xs', e1, e2, _⟩ := fill_rel I _ parts.toList dl _ _ cs hdl hf hcr
        refine ⟨xs', cs, ?_, e2, rfl⟩
        simp only [hi, hu, hzv, hpl, Array.toList_map]
        exact e1
      · rename_i n e' hu
        simp only [Option.bind_eq_some_iff, Option.map_eq_some_iff, sizeT] at h
        obtain ⟨k, ⟨ie, hie, rfl⟩, cs, hf, rfl⟩ := h
        obtain ⟨xs', e1, e2, _⟩ := fill_rel I _ parts.toList dl _ _ cs hdl hf hcr
        refine ⟨xs', cs, ?_, e2, rfl⟩
        simp only [hi, hu, hzv, hie, Array.toList_map]
        exact e1
      · cases h
    refine wp_value (w' := w) (x := .agg xs') ?_ (hK.pure I fun i => hcr'.agg _)
    unfold execOp
    simp only [ho]
    exact run_value (run_build w t _ _ hb)
  · cases h
/-- new cells that stay -/
def FZ.add (Z : FZ) (g : Nat) (xs : List Value) : FZ := fun b o => if b = g then (match xs[o]? with | some x => some x | none => Z b o) else Z b o
theorem FZ.add_le {g : Nat} {xs : List Value} (h : ∀ o x, Z g o = some x → xs[o]? = some x) : Z.le (Z.add g xs) := by
  intro b o x hx
  unfold FZ.add
  by_cases e : b = g
  · subst e; rw [if_pos rfl, h o x hx]
  · rw [if_neg e]; exact hx
theorem FZ.add_at {g o : Nat} {xs : List Value} {x : Value} (h : xs[o]? = some x) : Z.add g xs g o = some x := by
  unfold FZ.add; rw [if_pos rfl, h]
theorem FZ.add_inv {g b o : Nat} {xs : List Value} {x : Value} (h : Z.add g xs b o = some x) : (b = g ∧ xs[o]? = some x) ∨ Z b o = some x := by
  unfold FZ.add at h
  by_cases e : b = g
  · rw [if_pos e] at h
    cases hx : xs[o]? with
    | none => rw [hx] at h; exact .inr h
    | some y => rw [hx] at h; simp only [Option.some.injEq] at h; subst h; exact .inl ⟨e, rfl⟩
  · rw [if_neg e] at h; exact .inr h
theorem chunks_len (k : Nat) : ∀ (n : Nat) (cs : List D), (chunks k n cs).length = n
  | 0, _ => rfl
  | n + 1, cs => by simp [chunks, chunks_len k n]
theorem chunks_get (k : Nat) : ∀ (n : Nat) (cs : List D) (i : Nat) (h : i < (chunks k n cs).length), (chunks k n cs)[i] = (cs.drop (i * k)).take k
  | 0, _, i, h => by simp [chunks] at h
  | n + 1, cs, 0, h => by simp [chunks]
  | n + 1, cs, i + 1, h => by
    simp only [chunks, List.getElem_cons_succ]
    rw [chunks_get k n]
    rw [List.drop_drop, Nat.add_mul, Nat.one_mul, Nat.add_comm]
/-- a new own row comes to a temporary -/
theorem Inv.freshH (I : Inv Z0 w0 Z O st a w) (dst : Option Tmp) (e : TypeId) (k : Nat) (es : List (List D)) (xs cur : Array Value) (c : Nat) (hk : ∀ i (h : i < es.length), (es[i]).length = k) (hlx : xs.size = es.length * k)
    (hx : ∀ i (h : i < es.length) j (h' : j < (es[i]).length), ∃ y, xs[i * k + j]? = some y ∧ Rp Z y (es[i][j]) ∧ y.oneCell' = true) (hone : ∀ y ∈ xs, y.oneCell' = true)
    (hcur : ∀ (i : Nat) x, xs[i]? = some x → cur[i]? = some x) (hc : es.length ≤ c) (hcm : c ≤ maxLen) (hcs : cur.size = c * k) (w' : World)
    (hold : ∀ g, g < w.heap.size → w'.heap[g]? = w.heap[g]?) (hnew : Hp w' w.heap.size cur e) (hsz : w'.heap.size = w.heap.size + 1) (hos : w'.os = w.os) (hta : w'.tape = w.tape) (hou : w'.output = w.output) :
    ∃ Z' O', Z.le Z' ∧ Inv Z0 w0 Z' O' (st.put dst (.own e k es)) (a.put dst (.slice (some ⟨w.heap.size, 0, none⟩) es.length c)) w' ∧ Els Z' w.heap.size 0 k es := by
  have hB : w0.w.heap.size ≤ w.heap.size := I.bl.size
  have hnone : ∀ o, Z w.heap.size o = none := fun o => by
    cases hz : Z w.heap.size o with
    | none => rfl
    | some x => exact absurd (block_lt_of_cell (I.ag _ _ _ hz).1) (by simp)
  let Z' := Z.add w.heap.size xs.toList
  let O' : OM := fun g => if g = w.heap.size then .at (.t (dst.getD 0)) else O g
  have hZ : Z.le Z' := FZ.add_le fun o x hx => by rw [hnone] at hx; cases hx
  have hO : ∀ g, O g ≠ .none → O' g = O g := fun g hg => if_neg (by have := (I.ob g hg).2; omega)
  have hZn : ∀ g o, g < w.heap.size → Z g o = none → Z' g o = none := fun g o hg h => by
    cases hz : Z' g o with
    | none => rfl
    | some x =>
      rcases FZ.add_inv hz with ⟨e, _⟩ | h2
      · omega
      · rw [h] at h2; cases h2
  have key : ∀ {p x d}, RV Z O w p x d → RV Z' O' w' p x d := fun h =>
    h.move hZ (fun g b hg => (hO g (by rw [hg]; simp)).trans hg)
      (fun _ g hg => ⟨(hO g (by rw [hg]; simp)).trans hg, hold g (I.ob g (by rw [hg]; simp)).2, fun o ho => hZn g o (I.ob g (by rw [hg]; simp)).2 ho⟩)
  refine ⟨Z', O', hZ, ?_⟩
  have I' : Inv Z0 w0 Z' O' st a w' := by
    refine ⟨I.tsz, fun i h h' => key (I.tv i h h'), fun b cs hb => ?_, fun g g' b h h' => ?_, fun g h => ?_, fun b o x hx => ?_, ?_, I.df, fun b o x hx => (FZ.add_inv hx).elim (fun q => .inr (by rw [q.1]; exact w0.hM _ hB)) (fun q => I.zn b o x q), I.bs.mono hZ, fun g b h => (hO g (by rw [I.oi g b h]; simp)).trans (I.oi g b h), fun g b h hb => I.oo g b (by
      by_cases e : g = w.heap.size
      · have : O' g = .at (.t (dst.getD 0)) := if_pos e
        rw [this] at h; cases h
      · have : O' g = O g := if_neg e
        rwa [this] at h) hb⟩
    · obtain ⟨g, xs2, e2, q1, q2, q3, q4, q5, q6⟩ := I.bv b cs hb
      have hlt := (I.ob g (by rw [q1]; simp)).2
      exact ⟨g, xs2, e2, (hO g (by rw [q1]; simp)).trans q1, q2.at (hold g hlt), q3, fun j h h' => ⟨key (q4 j h h').1, (q4 j h h').2⟩, fun o => hZn g o hlt (q5 o), q6⟩
    · have f : ∀ g, O' g = .box b → O g = .box b := fun g h => by
        by_cases e : g = w.heap.size
        · have : O' g = .at (.t (dst.getD 0)) := if_pos e
          rw [this] at h; cases h
        · have : O' g = O g := if_neg e
          rw [← this]; exact h
      exact I.uq g g' b (f g h) (f g' h')
    · rw [hsz]
      by_cases e : g = w.heap.size
      · exact ⟨by rw [e]; exact w0.hM _ hB, by omega⟩
      · have : O' g = O g := if_neg e
        rw [this] at h
        have := I.ob g h
        exact ⟨this.1, by omega⟩
    · rcases FZ.add_inv hx with ⟨rfl, h2⟩ | h2
      · have hc := hcur o x (by simpa using h2)
        refine ⟨by rw [hnew.cell o]; exact hc, hone x ?_⟩
        have := List.mem_of_getElem? h2
        simpa using this
      · have hc := I.ag b o x h2
        have hlt : b < w.heap.size := block_lt_of_cell hc.1
        exact ⟨(World.cell?_of_block (hold b hlt)).trans hc.1, hc.2⟩
    · exact ⟨hos.trans I.bl.os, hta.trans I.bl.tape, hou.trans I.bl.output, by have := I.bl.size; omega, fun k hk => (hold k (I.bl.old hk)).trans (I.bl.block k hk)⟩
  have hEl : Els Z' w.heap.size 0 k es := ⟨hk, fun i hi j hj => by
    obtain ⟨y, h1, h2, _⟩ := hx i hi j hj
    exact ⟨y, FZ.add_at (by simpa using h1), h2.mono hZ⟩⟩
  refine ⟨?_, hEl⟩
  refine I'.put dst _ _ fun i hi => .inr ⟨w.heap.size, c, cur, rfl, ?_, hnew, hc, hcm, hcs, hEl, fun o ho => ?_⟩
  · show (if _ then _ else _) = _
    rw [if_pos rfl, hi]; rfl
  · cases hz : Z' w.heap.size o with
    | none => rfl
    | some x =>
      rcases FZ.add_inv hz with ⟨_, h2⟩ | h2
      · have := (List.getElem?_eq_some_iff.1 h2).1
        simp at this
        omega
      · rw [hnone] at h2; cases h2
theorem Inv.freshG (I : Inv Z0 w0 Z O st a w) (dst : Option Tmp) (e : TypeId) (k : Nat) (es : List (List D)) (xs cur : Array Value) (c : Nat) (hk : ∀ i (h : i < es.length), (es[i]).length = k) (hlx : xs.size = es.length * k)
    (hx : ∀ i (h : i < es.length) j (h' : j < (es[i]).length), ∃ y, xs[i * k + j]? = some y ∧ Rp Z y (es[i][j]) ∧ y.oneCell' = true) (hone : ∀ y ∈ xs, y.oneCell' = true)
    (hcur : ∀ (i : Nat) x, xs[i]? = some x → cur[i]? = some x) (hc : es.length ≤ c) (hcm : c ≤ maxLen) (hcs : cur.size = c * k) (w' : World)
    (hold : ∀ g, g < w.heap.size → w'.heap[g]? = w.heap[g]?) (hnew : Hp w' w.heap.size cur e) (hsz : w'.heap.size = w.heap.size + 1) (hos : w'.os = w.os) (hta : w'.tape = w.tape) (hou : w'.output = w.output) :
    ∃ Z' O', Z.le Z' ∧ Inv Z0 w0 Z' O' (st.put dst (.own e k es)) (a.put dst (.slice (some ⟨w.heap.size, 0, none⟩) es.length c)) w' := by
  obtain ⟨Z', O', h1, h2, _⟩ := I.freshH dst e k es xs cur c hk hlx hx hone hcur hc hcm hcs w' hold hnew hsz hos hta hou
  exact ⟨Z', O', h1, h2⟩
/-- .. in a new block -/
theorem Inv.fresh' (I : Inv Z0 w0 Z O st a w) (dst : Option Tmp) (e : TypeId) (k : Nat) (es : List (List D)) (xs cur : Array Value) (c : Nat) (hk : ∀ i (h : i < es.length), (es[i]).length = k) (hlx : xs.size = es.length * k)
    (hx : ∀ i (h : i < es.length) j (h' : j < (es[i]).length), ∃ y, xs[i * k + j]? = some y ∧ Rp Z y (es[i][j]) ∧ y.oneCell' = true) (hone : ∀ y ∈ xs, y.oneCell' = true)
    (hcur : ∀ (i : Nat) x, xs[i]? = some x → cur[i]? = some x) (hc : es.length ≤ c) (hcm : c ≤ maxLen) (hcs : cur.size = c * k) (w' : World) (hw : w' = w ∨ w' = w.drew) :
    ∃ Z' O', Z.le Z' ∧ Inv Z0 w0 Z' O' (st.put dst (.own e k es)) (a.put dst (.slice (some ⟨w.heap.size, 0, none⟩) es.length c)) (w'.alloc (.cells cur e)) ∧ Els Z' w.heap.size 0 k es := by
  have hheap : w'.heap = w.heap := by rcases hw with rfl | rfl <;> rfl
  have hnew : (w'.alloc (.cells cur e)).heap[w.heap.size]? = some (.cells cur e (0, 0)) := by
    have := heap_alloc_new w' (.cells cur e (0, 0)); rw [hheap] at this; exact this
  exact I.freshH dst e k es xs cur c hk hlx hx hone hcur hc hcm hcs _ (fun g hg => by rw [heap_alloc_old w' _ g (by rw [hheap]; exact hg), hheap]) (.of0 hnew) (by simp [hheap]) (by rcases hw with rfl | rfl <;> rfl) (by rcases hw with rfl | rfl <;> rfl) (by rcases hw with rfl | rfl <;> rfl)
theorem Inv.fresh (I : Inv Z0 w0 Z O st a w) (dst : Option Tmp) (e : TypeId) (k : Nat) (es : List (List D)) (xs cur : Array Value) (c : Nat) (hk : ∀ i (h : i < es.length), (es[i]).length = k) (hlx : xs.size = es.length * k)
    (hx : ∀ i (h : i < es.length) j (h' : j < (es[i]).length), ∃ y, xs[i * k + j]? = some y ∧ Rp Z y (es[i][j]) ∧ y.oneCell' = true) (hone : ∀ y ∈ xs, y.oneCell' = true)
    (hcur : ∀ (i : Nat) x, xs[i]? = some x → cur[i]? = some x) (hc : es.length ≤ c) (hcm : c ≤ maxLen) (hcs : cur.size = c * k) (w' : World) (hw : w' = w ∨ w' = w.drew) :
    ∃ Z' O', Z.le Z' ∧ Inv Z0 w0 Z' O' (st.put dst (.own e k es)) (a.put dst (.slice (some ⟨w.heap.size, 0, none⟩) es.length c)) (w'.alloc (.cells cur e)) := by
  obtain ⟨Z', O', h1, h2, _⟩ := I.fresh' dst e k es xs cur c hk hlx hx hone hcur hc hcm hcs w' hw
  exact ⟨Z', O', h1, h2⟩
theorem sound_buildSlice {t : TypeId} {n : Nat} {parts : Array (Nat × Operand)} (ho : o.op = .buildSlice t n parts) (h : dop P F tk st.rd st.bx o = some e) (I : Inv Z0 w0 Z O st a w) (hK : After Z0 w0 Z st a o e K) : o.wp P a w K Q := by
  simp only [dop, ho] at h
  split at h
  · rename_i e' hu
    simp only [Option.bind_eq_some_iff] at h
    obtain ⟨k, hk, h⟩ := h
    split at h
    · rename_i hc
      obtain ⟨h0, hle⟩ := hc
      simp only [Option.bind_eq_some_iff] at h
      obtain ⟨z, hz, h⟩ := h
      split at h
      · rename_i hc
        obtain ⟨hzl, h1⟩ := hc
        simp only [Option.bind_eq_some_iff] at h
        obtain ⟨dl, hdl, cs, hf, h⟩ := h
        split at h
        case isFalse => cases h
        rename_i hnb
        simp only [Option.some.injEq] at h
        subst h
        obtain ⟨i, zv, hi, hzv, hze, hcr⟩ := zero_cr (Z := Z) (O := O) hz h1
        have hzs : zv.cells.size = k := by rw [hcr.1, hzl]
        have hcr0 : CR Z O ((Array.range (n * k)).map (zv.cells[· % zv.cells.size]!)) ((List.range (n * k)).map fun j => z.getD (j % z.length) .undef) := by
          refine ⟨by simp, fun j h h' => ?_⟩
          have hj : j % k < k := Nat.mod_lt _ h0
          have e1 : ((Array.range (n * k)).map (zv.cells[· % zv.cells.size]!))[j] = zv.cells[j % k]'(by omega) := by
            simp only [Array.getElem_map, Array.getElem_range, hzs]
            exact getElem!_pos zv.cells (j % k) (by omega)
          have e2 : ((List.range (n * k)).map fun j => z.getD (j % z.length) .undef)[j] = z[j % k]'(by omega) := by
            simp only [List.getElem_map, List.getElem_range, hzl]
            rw [List.getD_eq_getElem?_getD, List.getElem?_eq_getElem (by omega)]; rfl
          rw [e1, e2]
          exact hcr.2 (j % k) (by omega) (by omega)
        obtain ⟨xs', e1, e2, e3⟩ := fill_rel I _ parts.toList dl _ _ cs hdl hf hcr0
        have hxs : xs'.size = n * k := by rw [e3]; simp
        have e2 : CR Z O xs' (cs.map fin1) := ⟨by rw [List.length_map]; exact e2.1, fun j h h' => by
          rw [List.getElem_map]
          have := e2.2 j (by rw [List.length_map] at h; exact h) h'
          exact ⟨this.1.fin1, this.2⟩⟩
        have hnb : (cs.map fin1).all nobs = true := by
          rw [List.all_map, List.all_eq_true]
          intro d hd
          have := List.all_eq_true.1 hnb d hd
          show nobs (fin1 d) = true
          unfold fin1
          split
          · rfl
          · rfl
          · rfl
          · exact this
        generalize cs.map fin1 = cs at *
        have hcl : cs.length = n * k := by rw [← e2.1, hxs]
        have hlen : ∀ i (h : i < (chunks k n cs).length), ((chunks k n cs)[i]).length = k := fun i h => by
          rw [chunks_get]
          rw [chunks_len] at h
          have : i * k + k ≤ n * k := by have := Nat.mul_le_mul_right k (show i + 1 ≤ n from h); rwa [Nat.add_mul, Nat.one_mul] at this
          simp; omega
        obtain ⟨Z', O', hZ, I', hEl⟩ := I.fresh' o.dst e' k (chunks k n cs) xs' xs' n hlen (by rw [chunks_len]; exact hxs) (fun i h j h' => by
          have hj : j < k := by rw [hlen i h] at h'; exact h'
          have hin : i * k + j < n * k := by
            rw [chunks_len] at h
            have := Nat.mul_le_mul_right k (show i + 1 ≤ n from h)
            rw [Nat.add_mul, Nat.one_mul] at this; omega
          have hr := e2.2 (i * k + j) (by omega) (by omega)
          refine ⟨xs'[i * k + j]'(by omega), Array.getElem?_eq_getElem _, ?_, hr.2⟩
          have he : (chunks k n cs)[i][j] = cs[i * k + j]'(by omega) := by
            have : (chunks k n cs)[i][j] = ((cs.drop (i * k)).take k)[j]'(by rw [← chunks_get k n cs i h]; exact h') := by
              congr 1; exact chunks_get k n cs i h
            rw [this]; simp
          rw [he]; exact hr.1.nobs (List.all_eq_true.1 hnb _ (List.getElem_mem _))) (fun y hy => by
          obtain ⟨j, hj, rfl⟩ := Array.mem_iff_getElem.1 hy
          exact (e2.2 j (by omega) hj).2) (fun _ _ h => h) (by rw [chunks_len]; exact Nat.le_refl _) (by
            have : n ≤ n * k := Nat.le_mul_of_pos_right n h0
            simp only [maxLen]; omega) hxs w (.inl rfl)
        refine wp_value (w' := w.alloc (.cells xs' e')) (x := .slice (some ⟨w.heap.size, 0, none⟩) n n) ?_ ?_
        · unfold execOp
          simp only [ho]
          refine run_value ?_
          unfold Instr.buildSlice
          rw [Sem.run_bind, run_underlying hu w]
          simp only [Result.andThen_ok, Sem.run_bind, run_sizeT hk w, if_neg (show ¬ n * k > 2 ^ 24 by omega)]
          have hzz : (zeroValue e').run P w = .ok zv w := by simp [zeroValue, typeInfo, hi, hzv]
          by_cases hn0 : n * k = 0
          · have hxe : (Array.range (n * k)).map (zv.cells[· % zv.cells.size]!) = #[] := by rw [hn0]; simp
            rw [hxe] at e1
            simp only [if_pos hn0, Sem.run_bind, Sem.run_pure, Result.andThen_ok]
            rw [show ((Array.range (n * k)).map fun x => (#[] : Array Value)[x % (#[] : Array Value).size]!) = #[] by rw [hn0]; simp, Array.toList_map, e1]
            rfl
          · simp only [if_neg hn0, Sem.run_bind, hzz, Sem.run_pure, Result.andThen_ok]
            rw [Array.toList_map, e1]
            rfl
        · simp only [chunks_len] at I'
          refine hK _ Z' O' _ hZ ?_
          unfold bsE
          split
          · have hcap : RVs Z' O' (.slice (some ⟨w.heap.size, 0, none⟩) n n) (.slx k (chunks k n cs)) := by
              exact ⟨hEl.sl (by rw [chunks_len]) (Nat.le_refl _), _, _, rfl⟩
            have I2 := I'.put o.dst (.slx k (chunks k n cs)) (.slice (some ⟨w.heap.size, 0, none⟩) n n) (fun i hi => hcap)
            have e1 : (st.put o.dst (.own e' k (chunks k n cs))).put o.dst (.slx k (chunks k n cs)) = st.put o.dst (.slx k (chunks k n cs)) := by
              cases o.dst with
              | none => rfl
              | some di => simp [St.put]
            have e2 : (a.put o.dst (.slice (some ⟨w.heap.size, 0, none⟩) n n)).put o.dst (.slice (some ⟨w.heap.size, 0, none⟩) n n) = a.put o.dst (.slice (some ⟨w.heap.size, 0, none⟩) n n) := by
              cases o.dst with
              | none => rfl
              | some di => simp [Act.put]
            rw [e1, e2] at I2
            exact I2
          · exact I'
      · cases h
    · cases h
  · cases h

theorem reach_spec {β : Nat → Option (List D)} : ∀ (n : Nat) (l seen L : List Nat), reach β n l seen = some L →
    (∀ b ∈ seen, b ∈ L) ∧ (∀ b ∈ l, b ∈ L) ∧ (∀ b ∈ L, b ∈ seen ∨ ∃ cs, β b = some cs ∧ ∀ d ∈ cs, ∀ b' ∈ boxc d, b' ∈ L) ∧ (seen.Nodup → L.Nodup)
  | n, [], seen, L, h => by
    have : some seen = some L := by cases n <;> exact h
    simp only [Option.some.injEq] at this
    subst this
    exact ⟨fun _ h => h, (fun _ h => by cases h), (fun _ h => .inl h), fun h => h⟩
  | 0, _ :: _, _, _, h => by cases h
  | n + 1, b :: l, seen, L, h => by
    simp only [reach] at h
    split at h
    · rename_i hb
      obtain ⟨h1, h2, h3, h4⟩ := reach_spec n l seen L h
      exact ⟨h1, fun b' hb' => (List.mem_cons.1 hb').elim (fun e => by subst e; exact h1 _ (List.contains_iff_mem.1 hb)) (h2 b'), h3, h4⟩
    · rename_i hb
      rw [Option.bind_eq_some_iff] at h
      obtain ⟨cs, hcs, h⟩ := h
      obtain ⟨h1, h2, h3, h4⟩ := reach_spec n _ _ L h
      have hbL : b ∈ L := h1 b (by simp)
      refine ⟨fun b' hb' => h1 b' (by simp [hb']), fun b' hb' => (List.mem_cons.1 hb').elim (fun e => by rw [e]; exact hbL) fun h => h2 b' (by simp [h]), fun b' hb' => ?_, fun hn => h4 ?_⟩
      · rcases h3 b' hb' with h | h
        · rcases List.mem_append.1 h with h | h
          · exact .inl h
          · obtain rfl := List.mem_singleton.1 h
            exact .inr ⟨cs, hcs, fun d hd b2 hb2 => h2 b2 (List.mem_append.2 (.inl (List.mem_flatMap.2 ⟨d, hd, hb2⟩)))⟩
        · exact .inr h
      · rw [List.nodup_append]
        refine ⟨hn, by simp, fun x hx y hy e => ?_⟩
        obtain rfl := List.mem_singleton.1 hy
        subst e
        exact hb (List.contains_iff_mem.2 hx)
theorem inIdx_idxIn {L : List Nat} {b : Nat} (h : b ∈ L) : inIdx L (idxIn L b) = b := by
  unfold inIdx idxIn
  rw [Nat.add_sub_cancel_left, List.getD_eq_getElem?_getD, List.getElem?_eq_getElem (List.idxOf_lt_length_of_mem h)]
  simp
theorem idxIn_get {L : List Nat} (hn : L.Nodup) {i : Nat} (h : i < L.length) : idxIn L L[i] = OB + i := by
  unfold idxIn
  rw [List.Nodup.idxOf_getElem hn]
theorem inIdx_nil : inIdx [] = fun i => i := by funext i; simp [inIdx]
/-- who holds what is handed in: variables; rights that were laid at places behind the N temporaries -/
def OM.sub (O : OM) (L : List Nat) (N : Nat) : OM := fun g => match O g with
  | .box b => if b ∈ L then .box (idxIn L b) else .none
  | .at (.b b j) => if b ∈ L then .at (.b (idxIn L b) j) else .none
  | .at (.t i) => if N ≤ i then .at (.t (i - N)) else .none
  | .none => .none
theorem OM.sub_box {O : OM} {L : List Nat} {N g b : Nat} (h : O g = .box b) (hb : b ∈ L) : O.sub L N g = .box (idxIn L b) := by unfold OM.sub; simp only [h, if_pos hb]
theorem OM.sub_at {O : OM} {L : List Nat} {N g b j : Nat} (h : O g = .at (.b b j)) (hb : b ∈ L) : O.sub L N g = .at (.b (idxIn L b) j) := by unfold OM.sub; simp only [h, if_pos hb]
theorem OM.sub_t {O : OM} {L : List Nat} {N g i : Nat} (h : O g = .at (.t (N + i))) : O.sub L N g = .at (.t i) := by
  unfold OM.sub; simp only [h, if_pos (Nat.le_add_right N i), Nat.add_sub_cancel_left]
theorem OM.sub_none {O : OM} {L : List Nat} {N g : Nat} (h : ∀ b, O g = .box b → b ∉ L) (h' : ∀ b j, O g = .at (.b b j) → b ∉ L) (ht : ∀ i, O g = .at (.t i) → i < N) : O.sub L N g = .none := by
  unfold OM.sub
  split
  · rename_i b hb; rw [if_neg (h b hb)]
  · rename_i b j hb; rw [if_neg (h' b j hb)]
  · rename_i i hb; rw [if_neg (Nat.not_le.2 (ht i hb))]
  · rfl
theorem OM.sub_ne {O : OM} {L : List Nat} {N g : Nat} (h : O.sub L N g ≠ .none) : O g ≠ .none := by
  intro e
  exact h (OM.sub_none (fun b hb => by rw [e] at hb; cases hb) (fun b j hb => by rw [e] at hb; cases hb) (fun i hb => by rw [e] at hb; cases hb))
theorem OM.sub_inv {O : OM} {L : List Nat} {N g b : Nat} (h : O.sub L N g = .box b) : ∃ b0, b0 ∈ L ∧ O g = .box b0 ∧ b = idxIn L b0 := by
  unfold OM.sub at h
  split at h
  · rename_i b0 hb0
    split at h
    · rename_i hm; injection h with h; exact ⟨b0, hm, hb0, h.symm⟩
    · cases h
  · split at h <;> cases h
  · split at h <;> cases h
  · cases h
def OM.trs (L : List Nat) (dst : Nat) : Own → Own
  | .box b => .box (inIdx L b)
  | .at (.t _) => .at (.t dst)
  | .at (.b b j) => .at (.b (inIdx L b) j)
  | .none => .none
open Classical in
/-- who holds what behind a call -/
noncomputable def OM.back (O : OM) (L : List Nat) (N dst n : Nat) (O' : OM) : OM := fun g => if n ≤ g ∨ O.sub L N g ≠ .none then OM.trs L dst (O' g) else O g
theorem renc_one (m : Nat → Nat) (d : D) : one (renc m d) = one d := by cases d <;> rfl
theorem renc_own (m : Nat → Nat) {d : D} (h : ∀ e k es, d ≠ .own e k es) : ∀ e k es, renc m d ≠ .own e k es := by
  cases d <;> intro e k es <;> simp [renc, ren1] at h ⊢
/-- what is handed in, as the one called has it -/
theorem BV.sub {b N : Nat} {cs : List D} {L : List Nat} (h : BV Z O w b cs) (hb : b ∈ L) (hc : ∀ d ∈ cs, ∀ b' ∈ boxc d, b' ∈ L) : BV Z (O.sub L N) w (idxIn L b) (cs.map (renc (idxIn L))) := by
  obtain ⟨g, xs, e, h1, h2, h3, h4, h5, h6⟩ := h
  refine ⟨g, xs, e, OM.sub_box h1 hb, h2, by simpa using h3, fun j h h' => ?_, h5, ?_⟩
  · have hj : j < cs.length := by simpa using h
    rw [List.getElem_map]
    obtain ⟨q1, q2⟩ := h4 j hj h'
    refine ⟨?_, q2⟩
    have hd := hc _ (List.getElem_mem hj)
    have ho := h6.mem (List.getElem_mem hj)
    generalize cs[j] = d at q1 hd ho
    cases d with
    | own e k es =>
      rcases q1 with q | ⟨g2, c, cur, r1, r2, r3⟩
      · exact .inl q
      · exact .inr ⟨g2, c, cur, r1, OM.sub_at r2 hb, r3⟩
    | raw => cases ho
    | ag2 => cases ho
    | tp2 => cases ho
    | undef => cases ho
    | agg => cases ho
    | tup => cases ho
    | ep k es i j => exact RVc.rv (RVc.ren (d := .ep k es i j) q1 (FZ.le_refl Z) fun g' b' hb' hg' => OM.sub_box hg' (hd b' hb'))
    | nn => exact RVc.rv (RVc.ren (d := .nn) q1 (FZ.le_refl Z) fun g' b' hb' hg' => OM.sub_box hg' (hd b' hb'))
    | v y => exact RVc.rv (RVc.ren (d := .v y) q1 (FZ.le_refl Z) fun g' b' hb' hg' => OM.sub_box hg' (hd b' hb'))
    | sl es => exact RVc.rv (RVc.ren (d := .sl es) q1 (FZ.le_refl Z) fun g' b' hb' hg' => OM.sub_box hg' (hd b' hb'))
    | bp b o => exact RVc.rv (RVc.ren (d := .bp b o) q1 (FZ.le_refl Z) fun g' b' hb' hg' => OM.sub_box hg' (hd b' hb'))
    | bs b o k n => exact RVc.rv (RVc.ren (d := .bs b o k n) q1 (FZ.le_refl Z) fun g' b' hb' hg' => OM.sub_box hg' (hd b' hb'))
    | fn f ds es => exact RVc.rv (RVc.ren (d := .fn f ds es) q1 (FZ.le_refl Z) fun g' b' hb' hg' => OM.sub_box hg' (hd b' hb'))
    | slx k es => exact RVc.rv (RVc.ren (d := .slx k es) q1 (FZ.le_refl Z) fun g' b' hb' hg' => OM.sub_box hg' (hd b' hb'))
    | bz => trivial
  · exact h6.ren _
/-- behind a call -/
theorem Inv.back (I : Inv Z0 w0 Z O st a w) {L : List Nat} {N : Nat} (hN : st.t.length ≤ N) (hL : L.Nodup) {dst : Nat} {Z' : FZ} {O' : OM} {w' : World} {v : Value} {r : D} {os' : List (List D)} (hp : PostC Z w (O.sub L N) L.length Z' O' w' v r os') :
    Inv Z0 w0 Z' (O.back L N dst w.heap.size O') ⟨st.t, (L.zip (os'.map fun cs => cs.map (renc (inIdx L)))).foldl (fun b p => updb b p.1 (some p.2)) st.b⟩ a w' ∧ RVr Z' (O.back L N dst w.heap.size O') w' (.t dst) v (renD (inIdx L) r) := by
  have hB : w0.w.heap.size ≤ w.heap.size := I.bl.size
  have hlt : ∀ {g}, O g ≠ .none → g < w.heap.size := fun h => (I.ob _ h).2
  have bkX : ∀ {g}, (w.heap.size ≤ g ∨ O.sub L N g ≠ .none) → O.back L N dst w.heap.size O' g = OM.trs L dst (O' g) := fun h => if_pos h
  have bkO : ∀ {g}, ¬ (w.heap.size ≤ g ∨ O.sub L N g ≠ .none) → O.back L N dst w.heap.size O' g = O g := fun h => if_neg h
  -- a variable stays where it is
  have hbx : ∀ {g b}, O g = .box b → O.back L N dst w.heap.size O' g = .box b := fun {g b} h => by
    by_cases hb : b ∈ L
    · have h1 := OM.sub_box (N := N) h hb
      rw [bkX (.inr (by rw [h1]; simp)), (hp.obx g _).2 h1]
      show Own.box (inIdx L (idxIn L b)) = _
      rw [inIdx_idxIn hb]
    · have h1 : O.sub L N g = .none := OM.sub_none (fun b' hb' => by rw [h] at hb'; injection hb' with e; rw [← e]; exact hb) (fun b' j hb' => by rw [h] at hb'; cases hb') (fun i hb' => by rw [h] at hb'; cases hb')
      have h2 := hlt (show O g ≠ .none by rw [h]; simp)
      rw [bkO (by rw [h1]; simp; omega), h]
  have hbi : ∀ {g b}, O.back L N dst w.heap.size O' g = .box b → O g = .box b := fun {g b} h => by
    by_cases hx : w.heap.size ≤ g ∨ O.sub L N g ≠ .none
    · rw [bkX hx] at h
      cases ho : O' g with
      | box b1 =>
        rw [ho] at h
        obtain ⟨b0, q1, q2, q3⟩ := OM.sub_inv ((hp.obx g b1).1 ho)
        have h : Own.box (inIdx L b1) = .box b := h
        rw [q3, inIdx_idxIn q1] at h
        rw [q2, h]
      | none => rw [ho] at h; cases h
      | «at» p => rw [ho] at h; cases p <;> cases h
    · rwa [bkO hx] at h
  -- who is not handed in stays as it is
  have hfar : ∀ {g}, O g ≠ .none → O.sub L N g = .none → O.back L N dst w.heap.size O' g = O g ∧ w'.heap[g]? = w.heap[g]? ∧ ∀ o, Z g o = none → Z' g o = none := fun {g} h h1 => by
    have h2 := hlt h
    refine ⟨bkO (by rw [h1]; simp; omega), hp.wblk g h2 h1, fun o ho => ?_⟩
    cases hz : Z' g o with
    | none => rfl
    | some x =>
      rcases hp.zn g o x hz with h3 | h3 | h3
      · rw [ho] at h3; cases h3
      · omega
      · exact absurd h1 h3
  have key : ∀ {p x d}, (∀ b j, p = .b b j → b ∉ L) → (∀ i, p = .t i → i < N) → RV Z O w p x d → RV Z' (O.back L N dst w.heap.size O') w' p x d := fun {p x d} hpp hpt h =>
    h.move hp.zle (fun g b hg => hbx hg) (fun _ g hg => by
      have h1 : O.sub L N g = .none := OM.sub_none (fun b hb => by rw [hg] at hb; cases hb) (fun b j hb => by rw [hg] at hb; injection hb with e; exact hpp b j e) (fun i hb => by rw [hg] at hb; injection hb with e; exact hpt i e)
      obtain ⟨q1, q2, q3⟩ := hfar (show O g ≠ .none by rw [hg]; simp) h1
      exact ⟨q1.trans hg, q2, q3⟩)
  have hren : ∀ {g b}, O' g = .box b → O.back L N dst w.heap.size O' g = .box (inIdx L b) := fun {g b} h => by
    rw [bkX (hp.oob g (by rw [h]; simp)).1, h]; rfl
  have hfold : ∀ (l : List (Nat × List D)) (β : Nat → Option (List D)) (b : Nat) (cs : List D), (l.map (·.1)).Nodup → l.foldl (fun b p => updb b p.1 (some p.2)) β b = some cs → (b, cs) ∈ l ∨ (b ∉ l.map (·.1) ∧ β b = some cs) := by
    intro l
    induction l with
    | nil => intro β b cs _ h; exact .inr ⟨by simp, h⟩
    | cons p l ih =>
      intro β b cs hn h
      rw [List.map_cons, List.nodup_cons] at hn
      rcases ih _ b cs hn.2 h with h1 | ⟨h1, h2⟩
      · exact .inl (List.mem_cons_of_mem _ h1)
      · simp only [updb] at h2
        split at h2
        · rename_i e; simp only [Option.some.injEq] at h2; subst e; rw [← h2]; exact .inl (by simp)
        · rename_i e; exact .inr ⟨by simp only [List.map_cons, List.mem_cons, not_or]; exact ⟨e, h1⟩, h2⟩
  refine ⟨⟨I.tsz, fun i h h' => key (fun b j e => by cases e) (fun j e => by injection e with e; have h : i < st.t.length := h; omega) (I.tv i h h'), fun b cs hb => ?_, fun g g' b h h' => I.uq g g' b (hbi h) (hbi h'), fun g h => ?_, hp.ag, ?_, I.df, fun b o x hx => ?_, I.bs.mono hp.zle, fun g b h => hbx (I.oi g b h), fun g b h hb => I.oo g b (hbi h) hb⟩, ?_⟩
  · have hfst : (L.zip (os'.map fun cs => cs.map (renc (inIdx L)))).map (·.1) = L := by
      rw [List.map_fst_zip]; rw [List.length_map, hp.olen]; exact Nat.le_refl _
    rcases hfold _ _ b cs (by rw [hfst]; exact hL) hb with h | ⟨h1, h2⟩
    · obtain ⟨i, hi, he⟩ := List.mem_iff_getElem.1 h
      have hi1 : i < L.length := by rw [List.length_zip] at hi; omega
      have hi2 : i < os'.length := by rw [List.length_zip, List.length_map] at hi; omega
      rw [List.getElem_zip, List.getElem_map] at he
      simp only [Prod.mk.injEq] at he
      obtain ⟨rfl, rfl⟩ := he
      obtain ⟨g, xs, e, r1, r2, r3, r4, r5, r6⟩ := hp.obv i _ (List.getElem?_eq_getElem hi2)
      have hix : inIdx L (OB + i) = L[i] := by
        unfold inIdx
        rw [Nat.add_sub_cancel_left, List.getD_eq_getElem?_getD, List.getElem?_eq_getElem hi1]; rfl
      refine ⟨g, xs, e, (hren r1).trans (by rw [hix]), r2, by simpa using r3, fun j h h' => ?_, r5, ?_⟩
      · have hj : j < (os'[i]).length := by simpa using h
        rw [List.getElem_map]
        obtain ⟨q1, q2⟩ := r4 j hj h'
        refine ⟨?_, q2⟩
        have ho := r6.mem (List.getElem_mem hj)
        generalize (os'[i])[j] = d at q1 ho
        have hr : ∀ {c : D}, RVc Z' O' xs[j] c → RVc Z' (O.back L N dst w.heap.size O') xs[j] (renc (inIdx L) c) := fun hc => hc.ren (FZ.le_refl Z') fun g b _ hg => hren hg
        cases d with
        | own e k es =>
          rcases q1 with q | ⟨g2, c, cur, t1, t2, t3⟩
          · exact .inl q
          · refine .inr ⟨g2, c, cur, t1, ?_, t3⟩
            rw [bkX (hp.oob g2 (by rw [t2]; simp)).1, t2]
            show Own.at (.b (inIdx L (OB + i)) j) = _
            rw [hix]
        | raw => cases ho
        | ag2 => cases ho
        | tp2 => cases ho
        | undef => cases ho
        | agg => cases ho
        | tup => cases ho
        | ep k es i j => exact RVc.rv (hr (c := .ep k es i j) q1)
        | nn => exact RVc.rv (hr (c := .nn) q1)
        | v y => exact RVc.rv (hr (c := .v y) q1)
        | sl es => exact RVc.rv (hr (c := .sl es) q1)
        | slx k es => exact RVc.rv (hr (c := .slx k es) q1)
        | bp b o => exact RVc.rv (hr (c := .bp b o) q1)
        | bs b o k n => exact RVc.rv (hr (c := .bs b o k n) q1)
        | fn f ds es => exact RVc.rv (hr (c := .fn f ds es) q1)
        | bz => trivial
      · exact r6.ren _
    · rw [hfst] at h1
      obtain ⟨g, xs, e, r1, r2, r3, r4, r5, r6⟩ := I.bv b cs h2
      have h3 : O.sub L N g = .none := OM.sub_none (fun b' hb' => by rw [r1] at hb'; injection hb' with e; rw [← e]; exact h1) (fun b' j hb' => by rw [r1] at hb'; cases hb') (fun i hb' => by rw [r1] at hb'; cases hb')
      obtain ⟨q1, q2, q3⟩ := hfar (show O g ≠ .none by rw [r1]; simp) h3
      exact ⟨g, xs, e, q1.trans r1, r2.at q2, r3, fun j h h' => ⟨key (fun b' j' e => by injection e with e; rw [← e]; exact h1) (fun j e => by cases e) (r4 j h h').1, (r4 j h h').2⟩, fun o => q3 o (r5 o), r6⟩
  · by_cases hx : w.heap.size ≤ g ∨ O.sub L N g ≠ .none
    · rw [bkX hx] at h
      have h1 : O' g ≠ .none := fun e => h (by rw [e]; rfl)
      refine ⟨?_, (hp.oob g h1).2⟩
      rcases hx with hx | hx
      · exact w0.hM _ (Nat.le_trans hB hx)
      · exact (I.ob g (OM.sub_ne hx)).1
    · rw [bkO hx] at h
      have := I.ob g h
      exact ⟨this.1, Nat.lt_of_lt_of_le this.2 hp.wsz⟩
  · refine ⟨hp.wos.trans I.bl.os, hp.wtape.trans I.bl.tape, hp.wout.trans I.bl.output, Nat.le_trans hB hp.wsz, fun k hk => (hp.wblk k (I.bl.old hk) ?_).trans (I.bl.block k hk)⟩
    cases hs : O.sub L N k with
    | none => rfl
    | _ => exact absurd (I.ob k (OM.sub_ne (by rw [hs]; simp))).1 hk
  · rcases hp.zn b o x hx with h | h | h
    · exact I.zn b o x h
    · exact .inr (w0.hM _ (Nat.le_trans hB h))
    · exact .inr (I.ob b (OM.sub_ne h)).1
  · have hat : ∀ g, O' g = .at (.t 0) → O.back L N dst w.heap.size O' g = .at (.t dst) := fun g hg => by
      rw [bkX (hp.oob g (by rw [hg]; simp)).1, hg]; rfl
    have hrv := hp.rv
    cases r with
    | raw k m cs => exact RawV.mv (k := k) hrv (FZ.le_refl Z') fun g hg => ⟨hat g hg, rfl, fun _ h => h⟩
    | _ => exact RVr.of (RV.renB hrv.rv (FZ.le_refl Z') (fun g b _ hg => hren hg) fun _ g hg => ⟨hat g hg, rfl, fun _ h => h⟩) (fun k m cs e => by cases e)
theorem mapM_get {α β : Type} {f : α → Option β} : ∀ {l : List α} {r : List β}, l.mapM f = some r → r.length = l.length ∧ ∀ i (h : i < l.length) (h' : i < r.length), f l[i] = some r[i]
  | [], r, h => by simp at h; subst h; exact ⟨rfl, fun i h => absurd h (Nat.not_lt_zero _)⟩
  | x :: l, r, h => by
    simp only [List.mapM_cons, Option.bind_eq_bind, Option.bind_eq_some_iff, Option.pure_def, Option.some.injEq] at h
    obtain ⟨y, hy, ys, hys, rfl⟩ := h
    obtain ⟨h1, h2⟩ := mapM_get hys
    refine ⟨by simp [h1], fun i h h' => ?_⟩
    cases i with
    | zero => exact hy
    | succ i => exact h2 i (by simpa using h) (by simpa using h')
theorem sound_makeFunc {fi : FuncId} {xs ys : Array Operand} (ho : o.op = .makeFunc (.func fi) xs ys) (h : dop P F tk st.rd st.bx o = some e) (I : Inv Z0 w0 Z O st a w) (hK : After Z0 w0 Z st a o e K) : o.wp P a w K Q := by
  simp only [dop, ho, Option.bind_eq_some_iff, Option.some.injEq] at h
  obtain ⟨ds, hds, es, hes, rfl⟩ := h
  have key : ∀ {xs : Array Operand} {ds : List D}, (xs.toList.mapM fun x => (st.rd x).bind fun d => if fn1 d = true then some d else none) = some ds → ((xs.map a.eval).toList).length = ds.length ∧ ∀ i (hi : i < ds.length) (hj : i < ((xs.map a.eval).toList).length), RVs Z O ((xs.map a.eval).toList)[i] ds[i] := by
    intro xs ds h
    obtain ⟨h1, h2⟩ := mapM_get h
    refine ⟨by simp [h1], fun i hi hj => ?_⟩
    have hx : i < xs.toList.length := by rw [← h1]; exact hi
    have h3 := h2 i hx hi
    rw [Option.bind_eq_some_iff] at h3
    obtain ⟨d, hd, h3⟩ := h3
    split at h3
    case isFalse => cases h3
    rename_i hf
    simp only [Option.some.injEq] at h3
    obtain ⟨p, hp, _⟩ := I.rd hd
    rw [← h3]
    have e : ((xs.map a.eval).toList)[i] = a.eval (xs.toList[i]) := by simp
    rw [e]
    cases d <;> first | exact hp | simp [fn1] at hf
  obtain ⟨k1, k2⟩ := key hds
  obtain ⟨k3, k4⟩ := key hes
  refine wp_value (w' := w) (x := .func (.func fi) (xs.map a.eval) (ys.map a.eval)) ?_ (hK.pure I fun i => ⟨(xs.map a.eval).toList, (ys.map a.eval).toList, by simp only [Array.toArray_toList], k1, k3, k2, k4⟩)
  unfold execOp
  simp only [ho]
  exact run_value rfl
theorem fnOf_eval {df : D} {f : Operand} {fi : FuncId × List D × List D} (hdf : st.rd f = some df) (hfi : fnOf df = some fi) (I : Inv Z0 w0 Z O st a w) : ∃ xs ys : List Value, a.eval f = .func (.func fi.1) xs.toArray ys.toArray ∧ xs.length = fi.2.1.length ∧ ys.length = fi.2.2.length ∧
    (∀ i (hi : i < fi.2.1.length) (hj : i < xs.length), RVa Z O xs[i] fi.2.1[i]) ∧ ∀ i (hi : i < fi.2.2.length) (hj : i < ys.length), RVa Z O ys[i] fi.2.2[i] := by
  obtain ⟨pf, hpf, _⟩ := I.rd hdf
  unfold fnOf at hfi
  split at hfi
  · rename_i f' x y
    split at hfi
    · rename_i hsz
      simp only [Option.some.injEq] at hfi
      subst hfi
      refine ⟨[], [], ?_, rfl, rfl, fun i h => absurd h (Nat.not_lt_zero _), fun i h => absurd h (Nat.not_lt_zero _)⟩
      have hx := Array.size_eq_zero_iff.1 hsz.1
      have hy := Array.size_eq_zero_iff.1 hsz.2
      subst hx
      subst hy
      exact hpf.toV rfl
    · cases hfi
  · rename_i f' xs ys
    simp only [Option.some.injEq] at hfi
    subst hfi
    obtain ⟨us, vs, h1, h2, h3, h4, h5⟩ := hpf
    exact ⟨us, vs, h1, h2, h3, fun i hi hj => (h4 i hi hj).rvc.rva, fun i hi hj => (h5 i hi hj).rvc.rva⟩
  · cases hfi
theorem Inv.forget (I : Inv Z0 w0 Z O st a w) (i : Nat) : Inv Z0 w0 Z O { st with t := st.t.set i .undef } a w where
  tsz := by rw [I.tsz]; simp
  tv := fun j h h' => by
    have hj : j < st.t.length := by simpa using h
    show RV _ _ _ _ _ ((st.t.set i .undef)[j])
    rw [List.getElem_set]
    split
    · trivial
    · exact I.tv j hj h'
  bv := I.bv
  uq := I.uq
  ob := I.ob
  ag := I.ag
  bl := I.bl
  df := I.df
  zn := I.zn
  bs := I.bs
  oi := I.oi
  oo := I.oo
/-- a block of the call's own, on which nothing was claimed, stays as it is from now on -/
theorem Inv.claim (I : Inv Z0 w0 Z O st a w) (di : Nat) {g : Nat} {xs : Array Value} {e : TypeId} (rows : List Value) (hO : O g = .at (.t di)) (hg : Hp w g xs e) (hrow : ∀ (o : Nat) (x : Value), rows[o]? = some x → xs[o]? = some x)
    (h1 : ∀ x ∈ rows, x.oneCell' = true) (hZ0 : ∀ o, Z g o = none) : Z.le (Z.add g rows) ∧ Inv Z0 w0 (Z.add g rows) O { st with t := st.t.set di .undef } a w := by
  have hZ : Z.le (Z.add g rows) := FZ.add_le fun o x hx => by rw [hZ0 o] at hx; cases hx
  have hob := I.ob g (by rw [hO]; simp)
  have hne : ∀ {g' : Nat} {p : Pos}, O g' = .at p → p ≠ .t di → g' ≠ g := fun h h2 e => by subst e; rw [hO] at h; injection h with h; exact h2 h.symm
  have hZn : ∀ g' o, g' ≠ g → Z g' o = none → Z.add g rows g' o = none := fun g' o h h0 => by unfold FZ.add; rw [if_neg h]; exact h0
  have key : ∀ {p x d}, p ≠ .t di → RV Z O w p x d → RV (Z.add g rows) O w p x d := fun hp h =>
    h.move hZ (fun _ _ h => h) (fun _ g' hg' => ⟨hg', rfl, fun o ho => hZn g' o (hne hg' hp) ho⟩)
  refine ⟨hZ, by rw [I.tsz]; simp, fun j h h' => ?_, fun b cs hb => ?_, I.uq, I.ob, fun b o x hx => ?_, I.bl, I.df, fun b o x hx => (FZ.add_inv hx).elim (fun q => .inr (by rw [q.1]; exact hob.1)) (fun q => I.zn b o x q), I.bs.mono hZ, I.oi, I.oo⟩
  · have hj : j < st.t.length := by simpa using h
    show RV _ _ _ _ _ ((st.t.set di .undef)[j])
    rw [List.getElem_set]
    split
    · trivial
    · rename_i hne'
      exact key (fun e => hne' (by injection e with e; exact e.symm)) (I.tv j hj h')
  · obtain ⟨g2, xs2, e2, q1, q2, q3, q4, q5, q6⟩ := I.bv b cs hb
    have hg2 : g2 ≠ g := fun e => by subst e; rw [hO] at q1; cases q1
    exact ⟨g2, xs2, e2, q1, q2, q3, fun j h h' => ⟨key (by simp) (q4 j h h').1, (q4 j h h').2⟩, fun o => hZn g2 o hg2 (q5 o), q6⟩
  · rcases FZ.add_inv hx with ⟨rfl, h2⟩ | h2
    · exact ⟨by rw [hg.cell o]; exact hrow o x h2, h1 x (List.mem_of_getElem? h2)⟩
    · exact I.ag b o x h2
/-- .. and is told by its parts -/
theorem rp_chunks {Z : FZ} {g k m c : Nat} {cs : List D} (hcl : cs.length = m * k) (hmc : m ≤ c) (h : ∀ o (ho : o < cs.length), ∃ y, Z g o = some y ∧ Rp Z y cs[o]) : Rp Z (.slice (some ⟨g, 0, none⟩) m c) (.sl (chunks k m cs)) := by
  have hlen : ∀ i (hi : i < (chunks k m cs).length), ((chunks k m cs)[i]).length = k := fun i hi => by
    rw [chunks_get, List.length_take, List.length_drop]
    rw [chunks_len] at hi
    have := Nat.mul_le_mul_right k (show i + 1 ≤ m from hi)
    rw [Nat.add_mul, Nat.one_mul] at this
    omega
  have hel : ∀ i (hi : i < (chunks k m cs).length) j (hj : j < ((chunks k m cs)[i]).length), ∃ y, Z g (0 + i * k + j) = some y ∧ Rp Z y ((chunks k m cs)[i][j]) := fun i hi j hj => by
    have hjk : j < k := by rw [hlen i hi] at hj; exact hj
    have hb : i * k + j < cs.length := by
      rw [chunks_len] at hi
      have := Nat.mul_le_mul_right k (show i + 1 ≤ m from hi)
      rw [Nat.add_mul, Nat.one_mul] at this
      omega
    obtain ⟨y, h2, h3⟩ := h (i * k + j) hb
    refine ⟨y, by rw [Nat.zero_add]; exact h2, ?_⟩
    have e : (chunks k m cs)[i][j] = cs[i * k + j] := by
      have e1 : (chunks k m cs)[i]? = some ((cs.drop (i * k)).take k) := by rw [List.getElem?_eq_getElem hi, chunks_get]
      have e2 : ((chunks k m cs)[i])[j]? = cs[i * k + j]? := by
        rw [chunks_get, List.getElem?_take, if_pos hjk, List.getElem?_drop]
      rw [List.getElem?_eq_getElem hj, List.getElem?_eq_getElem hb] at e2
      exact Option.some.inj e2
    rw [e]; exact h3
  exact Els.sl ⟨hlen, hel⟩ (by rw [chunks_len]) hmc
theorem OM.nw_at' {n b g : Nat} {p : Pos} (hg : g ≠ n) (h : O g = .at p) : O.nw n b g = .at p := by
  unfold OM.nw; rw [if_neg hg, if_neg (by rw [h]; simp), h]
theorem OM.nw_box' {n b b' g : Nat} (hg : g ≠ n) (hb : b' ≠ b) (h : O g = .box b') : O.nw n b g = .box b' := by
  unfold OM.nw; rw [if_neg hg, if_neg (by rw [h]; intro e; injection e with e; exact hb e), h]
/-- a new variable, in a block that is the call's own -/
theorem Inv.newG (I : Inv Z0 w0 Z O st a w) (di : Nat) (n b : Nat) (t : TypeId) (xs : Array Value) (cs : List D) (w' : World) (hl : cs.length ≤ xs.size)
    (hx : ∀ j (h : j < cs.length) (h' : j < xs.size), Rp Z xs[j] cs[j] ∧ xs[j].oneCell' = true) (h1 : cs.all one = true) (h2 : cs.any (refc b) = false) (hbo : b < OB)
    (hn : Hp w' n xs t) (hw : ∀ g, g ≠ n → g < w.heap.size → w'.heap[g]? = w.heap[g]?) (hsz : w.heap.size ≤ w'.heap.size) (hos : w'.os = w.os) (hta : w'.tape = w.tape) (hou : w'.output = w.output)
    (hM : w0.M n) (hOb : ∀ b, O n ≠ .box b) (hOn : ∀ p, O n = .at p → p = .t di) (hund : st.at di = .undef) (hZ : ∀ o, Z n o = none) :
    Inv Z0 w0 Z (O.nw n b) ⟨st.t.map (kill b), updb (fun i => killb b (st.b i)) b (some cs)⟩ a w' := by
  have hnl : n < w'.heap.size := hn.lt
  have hlt : ∀ {g}, O g ≠ .none → g < w.heap.size := fun h => (I.ob _ h).2
  have hne : ∀ {g b'}, O g = .box b' → g ≠ n := fun {g b'} h e => by subst e; exact hOb b' h
  have key : ∀ {p x d}, p ≠ .t di → RV Z O w p x d → RV Z (O.nw n b) w' p x (kill b d) := fun {p x d} hp h =>
    h.kill (FZ.le_refl Z) (fun g b' hnb hg => OM.nw_box' (hne hg) hnb hg)
      (fun _ g hg => by
        have hgn : g ≠ n := fun e => by subst e; exact hp (hOn p hg)
        exact ⟨OM.nw_at' hgn hg, hw g hgn (hlt (by rw [hg]; simp)), fun _ ho => ho⟩)
  have hbl : BelowB w0 w' := {
    os := hos.trans I.bl.os
    tape := hta.trans I.bl.tape
    output := hou.trans I.bl.output
    size := Nat.le_trans I.bl.size hsz
    block := fun k hk => (hw k (fun e => by subst e; exact hk hM) (I.bl.old hk)).trans (I.bl.block k hk) }
  have hag : Agree Z w' := fun g o x h => by
    have hc := I.ag g o x h
    have hgn : g ≠ n := fun e => by subst e; rw [hZ] at h; cases h
    exact ⟨(World.cell?_of_block (w := w) (w' := w') (hw g hgn (block_lt_of_cell hc.1))).trans hc.1, hc.2⟩
  refine ⟨?_, ?_, ?_, ?_, ?_, hag, hbl, I.df, I.zn, I.bs, fun g b' h => ?_, fun g b' h hb => ?_⟩
  · simpa using I.tsz
  · intro i h h'
    have h2 : i < st.t.length := by simpa using h
    simp only [List.getElem_map]
    by_cases hi : i = di
    · subst hi
      have : st.t[i] = .undef := by
        rw [← hund, St.at, List.getD_eq_getElem?_getD, List.getElem?_eq_getElem h2]; rfl
      rw [this]
      trivial
    · exact key (fun e => hi (by injection e)) (I.tv i h2 h')
  · intro b' cs' hb
    rcases set_bx (show updb (fun i => killb b (st.b i)) b (some cs) b' = some cs' from hb) with ⟨rfl, hc⟩ | ⟨hnb, hb'⟩
    · simp only [Option.some.injEq] at hc
      subst hc
      exact ⟨n, xs, t, by unfold OM.nw; rw [if_pos rfl], hn, hl, fun j h h' => ⟨RV.ofRp (hx j h h').1, (hx j h h').2⟩, hZ, bok.of h1⟩
    · obtain ⟨hb', hr'⟩ := killb_some hb'
      obtain ⟨g, xs', e, q1, q2, q3, q4, q5, q6⟩ := I.bv b' cs' hb'
      refine ⟨g, xs', e, OM.nw_box' (hne q1) (fun e => hnb e.symm) q1, q2.at (hw g (hne q1) (hlt (by rw [q1]; simp))), q3, fun j h h' => ⟨?_, (q4 j h h').2⟩, q5, q6⟩
      have := key (by simp) (q4 j h h').1
      rwa [kill_oneb (q6.mem (List.getElem_mem h)) (by simpa using List.any_eq_false.1 hr' _ (List.getElem_mem h))] at this
  · intro g g' b' h h'
    rcases OM.nw_inv h with ⟨e1, e2⟩ | ⟨e1, e2⟩ <;> rcases OM.nw_inv h' with ⟨e3, e4⟩ | ⟨e3, e4⟩
    · rw [e1, e3]
    · exact absurd e2 e4
    · exact absurd e4 e2
    · exact I.uq g g' b' e1 e3
  · intro g h
    rcases OM.nw_none h with rfl | h
    · exact ⟨hM, hnl⟩
    · have := I.ob g h; exact ⟨this.1, by omega⟩
  · have h3 := I.oi g b' h
    have h4 := w0.ol g b' h
    exact OM.nw_box' (hne h3) (by omega) h3
  · rcases OM.nw_inv h with ⟨_, e⟩ | ⟨e, _⟩
    · omega
    · exact I.oo g b' e hb
theorem RVg.rv {p : Pos} {x : Value} {d : D} (h : RVg Z O w p x d) : RV Z O w p x d := by
  cases d with
  | raw => trivial
  | undef => trivial
  | tup => exact RV.ofRp h
  | tp2 => cases h
  | _ => exact h
theorem sound_extract {x : Operand} {i : Nat} (ho : o.op = .extract x i) (h : dop P F tk st.rd st.bx o = some e) (I : Inv Z0 w0 Z O st a w) (hK : After Z0 w0 Z st a o e K) : o.wp P a w K Q := by
  simp only [dop, ho, Option.bind_eq_some_iff] at h
  obtain ⟨dx, hx, h⟩ := h
  obtain ⟨p, hp, hpt⟩ := I.rd hx
  split at h
  · rename_i ds
    simp only [Option.bind_eq_some_iff] at h
    obtain ⟨d, hd, h⟩ := h
    simp only [Option.some.injEq] at h
    subst h
    obtain ⟨hlt, hd⟩ := List.getElem?_eq_some_iff.1 hd
    obtain ⟨y, hy, hR⟩ : ∃ y, (Instr.extract (a.eval x) i).run P w = .ok y w ∧ RVa Z O y d := by
      obtain ⟨xs, hxs, hl, hc⟩ := hp
      rw [hxs]
      refine ⟨xs[i]'(by omega), ?_, by rw [← hd]; exact hc i hlt (by omega)⟩
      have : xs[i]? = some (xs[i]'(by omega)) := List.getElem?_eq_getElem (by omega)
      simp [Instr.extract, this]
    refine wp_value (w' := w) (x := y) ?_ (hK.pure I fun _ => hR.rv.norm)
    unfold execOp
    simp only [ho]
    exact run_value hy
  · rename_i c r ds
    obtain ⟨xs, hxs, hl, hcs, hcr⟩ := hp
    have hrun : ∀ (hi : i < xs.length), (execOp a.eval o).run P w = .ok (.value xs[i]) w := fun hi => by
      unfold execOp
      simp only [ho]
      refine run_value ?_
      have : xs[i]? = some xs[i] := List.getElem?_eq_getElem hi
      rw [hxs]
      simp [Instr.extract, this]
    split at h
    · rename_i hic
      obtain ⟨rfl, hi⟩ := hic
      have hi' : i < xs.length := by omega
      have hr := hcr hi'
      have gen : e = { d := norm P o.type r, gone := tmpOf x } → o.wp P a w K Q := by
        intro he
        subst he
        refine wp_value (hrun hi') ?_
        by_cases htmp : ∃ s, x = .tmp s
        · obtain ⟨s, rfl⟩ := htmp
          have hps := hpt s rfl
          subst hps
          refine hK xs[i] Z (O.mv (.t s) (.t (o.dst.getD 0))) w (FZ.le_refl Z) ?_
          have I' := I.out s (.t (o.dst.getD 0))
          have := I'.put o.dst (norm P o.type r) xs[i] (fun j hj => by
            rw [hj]
            exact hr.rv.mvs.norm)
          exact this
        · exfalso
          cases x with
          | tmp s => exact htmp ⟨s, rfl⟩
          | const v => simp [St.rd] at hx
          | global g => simp only [St.rd, Option.some.injEq, gD] at hx; split at hx <;> cases hx
          | func f => simp [St.rd] at hx
      cases r with
      | undef => cases h
      | raw k m cs =>
        replace h : (if tk.2 = true ∧ o.dst.isSome = true ∧ o.dst.getD 0 < OB then some ({ d := .bs (o.dst.getD 0) 0 k m, box := some cs, gone := tmpOf x } : Eff) else none) = some e := h
        split at h
        case isFalse => cases h
        rename_i hcond
        obtain ⟨_, hds2, hbo⟩ := hcond
        simp only [Option.some.injEq] at h
        subst h
        obtain ⟨di, hdi⟩ := Option.isSome_iff_exists.1 hds2
        rw [hdi] at hbo
        simp only [Option.getD_some] at hbo
        rcases rd_cases hx with ⟨s, rfl⟩ | hn
        case inr => cases hn
        have hps := hpt s rfl
        subst hps
        refine wp_value (hrun hi') ?_
        have hr' : RawV Z (O.mv (.t s) (.t di)) w (.t di) xs[i] k m cs := RawV.mv (k := k) hr (FZ.le_refl Z) fun g hg => ⟨OM.mv_self hg, rfl, fun _ h => h⟩
        obtain ⟨g, c', us, e, hv, hmc, hO, hg, hl, hx2, hZ0, hall⟩ := hr'
        have h1 : cs.all one = true := List.all_eq_true.2 fun d hd => by have := List.all_eq_true.1 hall d hd; simp only [Bool.and_eq_true] at this; exact this.2
        have h2 : cs.any (refc di) = false := List.any_eq_false.2 fun d hd => by
          have := List.all_eq_true.1 hall d hd
          simp only [Bool.and_eq_true] at this
          have := this.1
          cases d <;> simp_all [nobs, refc]
        have I0 := I.out s (.t di)
        have I1 := I0.forget di
        have I2 := I1.newG di g di e us cs w hl hx2 h1 h2 hbo hg (fun _ _ _ => rfl) (Nat.le_refl _) rfl rfl rfl (I0.ob g (by rw [hO]; simp)).1 (fun b hb => by rw [hO] at hb; cases hb) (fun p hp => by rw [hO] at hp; injection hp with hp; exact hp.symm) (by
          simp only [St.at, List.getD_eq_getElem?_getD, List.getElem?_set]
          split
          · split <;> rfl
          · rename_i h; exact absurd trivial h) hZ0
        have I3 := I2.put (some di) (.bs di 0 k m) xs[i] (fun i _ => ⟨g, c', by unfold OM.nw; rw [if_pos rfl], hv, hmc⟩)
        have := hK xs[i] Z _ w (FZ.le_refl Z) (by
          rw [hdi]
          simpa [Eff.on, Eff.onb, St.put, List.map_set, tmpOf] using I3)
        exact this
      | _ =>
        simp only [Option.some.injEq] at h
        exact gen h.symm
    · rename_i hic
      simp only [Option.bind_eq_some_iff] at h
      obtain ⟨d, hd, h⟩ := h
      simp only [Option.some.injEq] at h
      subst h
      obtain ⟨hlt, hd⟩ := List.getElem?_eq_some_iff.1 hd
      have hne : i ≠ c := fun e => hic ⟨e, hlt⟩
      have hR := hcs i hlt (by omega) hne
      rw [hd] at hR
      exact wp_value (hrun (by omega)) (hK.pure I fun _ => hR.rv.norm)
  · cases h
theorem RV.finA {p : Pos} {x : Value} {d : D} (q : Bool) (h : RV Z O w p x d) : RV Z O w p x (finA q d) := by
  cases d with
  | own e k es =>
    simp only [Eng.finA]
    split
    · exact h
    · exact h.strip
  | ag2 cs =>
    obtain ⟨xs, h1, h2, h3, h4⟩ := h
    have hw : ∀ d, isOwn (finW d) = isOwn d := fun d => by cases d <;> rfl
    refine ⟨xs, h1, by rw [List.length_map]; exact h2, fun i hi hj => ?_, fun i j hi hj hi' hj' hne h5 h6 => ?_⟩
    · rw [List.length_map] at hi
      rw [List.getElem_map]
      have := h3 i hi hj
      revert this
      generalize cs[i] = c
      intro this
      cases c with
      | slx k es => exact this.1
      | _ => exact this
    · rw [List.length_map] at hi hj
      rw [List.getElem_map, hw] at h5 h6
      exact h4 i j hi hj hi' hj' hne h5 h6
  | _ => exact h.fin
theorem finA_rt {q : Bool} {d : D} (h : (finA q d).rt = true) : d.rt = true := by
  cases d with
  | own => rfl
  | ag2 => rfl
  | tp2 c r ds => exact h
  | v x =>
    exfalso
    revert h
    simp only [finA, fin, fin1]
    split <;> intro h <;> cases h
  | _ => cases h
/-- whose rights are handed over, and whither -/
def pairsA (N : Nat) : Nat → List Operand → List D → List (Tmp × Nat)
  | k, x :: xs, d :: ds => (if d.rt = true then (tmpOf x).map fun s => (s, N + k) else []) ++ pairsA N (k + 1) xs ds
  | _, _, _ => []
theorem pairsA_fst (N : Nat) : ∀ (k : Nat) (xs : List Operand) (ds : List D), (pairsA N k xs ds).map (·.1) = goneA xs ds
  | k, [], ds => by simp [pairsA, goneA]
  | k, x :: xs, [] => by simp [pairsA, goneA]
  | k, x :: xs, d :: ds => by
    have ih := pairsA_fst N (k + 1) xs ds
    unfold goneA at ih ⊢
    rw [List.zip_cons_cons, List.flatMap_cons, pairsA, List.map_append, ih]
    congr 1
    simp only
    split
    · rw [List.map_map]; exact List.map_id _
    · rfl
theorem pairsA_mem (N : Nat) : ∀ (k : Nat) (xs : List Operand) (ds : List D) (j : Nat) (h : j < xs.length) (h' : j < ds.length) (s : Tmp), (ds[j]).rt = true → xs[j] = .tmp s → (s, N + (k + j)) ∈ pairsA N k xs ds
  | k, x :: xs, d :: ds, 0, h, h', s, h1, h2 => by
    simp only [List.getElem_cons_zero] at h1 h2
    subst h2
    rw [pairsA, if_pos h1]
    exact List.mem_append_left _ (by simp [tmpOf])
  | k, x :: xs, d :: ds, j + 1, h, h', s, h1, h2 => by
    simp only [List.getElem_cons_succ] at h1 h2
    have := pairsA_mem N (k + 1) xs ds j (by simpa using h) (by simpa using h') s h1 h2
    rw [pairsA]
    refine List.mem_append_right _ ?_
    rwa [show k + 1 + j = k + (j + 1) by omega] at this
theorem pairsA_inv (N : Nat) : ∀ (k : Nat) (xs : List Operand) (ds : List D) (p : Tmp × Nat), p ∈ pairsA N k xs ds → N ≤ p.2 ∧ .tmp p.1 ∈ xs
  | k, [], ds, p, h => by simp [pairsA] at h
  | k, x :: xs, [], p, h => by simp [pairsA] at h
  | k, x :: xs, d :: ds, p, h => by
    rw [pairsA] at h
    rcases List.mem_append.1 h with h | h
    · split at h
      · obtain ⟨s, hs, rfl⟩ := List.mem_map.1 h
        cases x with
        | tmp t =>
          simp only [tmpOf, List.mem_singleton] at hs
          subst hs
          exact ⟨Nat.le_add_right _ _, by simp⟩
        | _ => simp [tmpOf] at hs
      · cases h
    · obtain ⟨h1, h2⟩ := pairsA_inv N (k + 1) xs ds p h
      exact ⟨h1, List.mem_cons_of_mem _ h2⟩
theorem Inv.outs {N : Nat} : ∀ (l : List (Tmp × Nat)) {O : OM} {st : St}, Inv Z0 w0 Z O st a w → (l.map (·.1)).Nodup → (∀ p ∈ l, p.1 < N ∧ N ≤ p.2) →
    ∃ O1, Inv Z0 w0 Z O1 { st with t := (l.map (·.1)).foldl stripAt st.t } a w ∧ (∀ g b, O g = .box b → O1 g = .box b) ∧ (∀ p x d, RV Z O w p x d → (∀ q ∈ l, p ≠ .t q.1) → RV Z O1 w p x d) ∧ ∀ q ∈ l, ∀ x d, RV Z O w (.t q.1) x d → RV Z O1 w (.t q.2) x d
  | [], O, st, I, _, _ => ⟨O, I, fun _ _ h => h, fun _ _ _ h _ => h, fun q hq => by cases hq⟩
  | (s, n) :: l, O, st, I, hn, hl => by
    rw [List.map_cons, List.nodup_cons] at hn
    have h0 : s < N ∧ N ≤ n := hl (s, n) (by simp)
    obtain ⟨O1, I1, h1, h2, h3⟩ := Inv.outs l (I.out s (.t n)) hn.2 fun p hp => hl p (List.mem_cons_of_mem _ hp)
    refine ⟨O1, I1, fun g b hb => h1 g b (OM.mv_box.2 hb), fun p x d h hp => h2 p x d (h.mvo (.inl (hp (s, n) (by simp)))) fun q hq => hp q (List.mem_cons_of_mem _ hq), fun q hq x d h => ?_⟩
    rcases List.mem_cons.1 hq with rfl | hq
    · exact h2 _ x d h.mvs fun q hq e => by
        have h4 : (q.1 : Nat) < N ∧ N ≤ q.2 := hl q (List.mem_cons_of_mem _ hq)
        have e : (n : Nat) = q.1 := by injection e
        exact absurd h4.1 (by rw [← e]; exact Nat.not_lt.2 h0.2)
    · refine h3 q hq x d (h.mvo (.inl fun e => ?_))
      injection e with e
      exact hn.1 (by rw [← e]; exact List.mem_map.2 ⟨q, hq, rfl⟩)
theorem rd_lt {t : Tmp} {d : D} (h : st.rd (.tmp t) = some d) : t < st.t.length := by
  rcases Nat.lt_or_ge t st.t.length with hl | hl
  · exact hl
  · simp [St.rd, St.at, List.getD_eq_getElem?_getD, List.getElem?_eq_none hl] at h
theorem strips_len' (gs : List Tmp) : ∀ (t : List D), (gs.foldl stripAt t).length = t.length := by
  induction gs with
  | nil => intro t; rfl
  | cons g gs ih => intro t; rw [List.foldl_cons, ih, stripAt_len]
theorem sound_call {c : Call} {f : Operand} (hF : ∀ f ds os r os', F f ds os = some (r, os') → Contract P f ds os r os') (hbody : ∀ f ds os p, F f ds os = some p → ∃ fn, P.funcs[f]? = some fn ∧ (fn.name == "runtime.NumGoroutine") = false ∧ fn.body.isNone = false) (ho : o.op = .call c) (hc : c.callee = .value f) (h : dop P F tk st.rd st.bx o = some e) (I : Inv Z0 w0 Z O st a w) (hK : After Z0 w0 Z st a o e K) : o.wp P a w K Q := by
  simp only [dop, ho, hc, Option.bind_eq_some_iff] at h
  obtain ⟨df, hdf, fi, hfi, ds, hds, h⟩ := h
  split at h
  case isFalse => cases h
  rename_i hnd
  simp only [Option.bind_eq_some_iff] at h
  obtain ⟨L, hLr, h⟩ := h
  obtain ⟨xs, ys, hfe, hxl, hyl, hxs, hys⟩ := fnOf_eval hdf hfi I
  obtain ⟨hdl, hdg⟩ := mapM_get hds
  -- what is handed over
  obtain ⟨O1, I1, hO1, hpl, hpr⟩ := I.outs (N := st.t.length) (pairsA st.t.length fi.2.1.length c.args.toList ds) (by rw [pairsA_fst]; exact hnd) (fun p hp => by
    obtain ⟨h1, h2⟩ := pairsA_inv _ _ _ _ _ hp
    refine ⟨?_, h1⟩
    obtain ⟨j, hj, hj2⟩ := List.mem_iff_getElem.1 h2
    have h3 := hdg j hj (by omega)
    rw [Option.bind_eq_some_iff] at h3
    obtain ⟨d, hd, _⟩ := h3
    rw [hj2] at hd
    exact rd_lt hd)
  rw [pairsA_fst] at I1
  generalize hgs : goneA c.args.toList ds = gs at h hnd I1
  have hplain : ∀ {x : Value} {d : D} {n : Nat}, RVa Z O x d → RV Z O1 w (.t n) x d := fun h => (h.moveB (FZ.le_refl Z) fun g b _ hg => hO1 g b hg).rv
  have hargs : ((xs.toArray ++ c.args.map a.eval) ++ ys.toArray).size = (fi.2.1 ++ ds ++ fi.2.2).length ∧ ∀ i (h : i < (fi.2.1 ++ ds ++ fi.2.2).length) (h' : i < ((xs.toArray ++ c.args.map a.eval) ++ ys.toArray).size), RV Z O1 w (.t (st.t.length + i)) ((xs.toArray ++ c.args.map a.eval) ++ ys.toArray)[i] (fi.2.1 ++ ds ++ fi.2.2)[i] := by
    refine ⟨by simp [hxl, hyl, hdl], fun i h h' => ?_⟩
    rw [List.getElem_append, Array.getElem_append]
    have e1 : (fi.2.1 ++ ds).length = (xs.toArray ++ c.args.map a.eval).size := by simp [hxl, hdl]
    by_cases h1 : i < (fi.2.1 ++ ds).length
    · rw [dif_pos h1, dif_pos (by omega), List.getElem_append, Array.getElem_append]
      by_cases h2 : i < fi.2.1.length
      · rw [dif_pos h2, dif_pos (by simp; omega)]
        simp only [List.getElem_toArray]
        exact hplain (hxs i h2 (by omega))
      · rw [dif_neg h2, dif_neg (by simp; omega)]
        have hcs : c.args.toList.length = c.args.size := by simp
        simp only [List.length_append] at h1
        have h3 := hdg (i - fi.2.1.length) (by omega) (by omega)
        rw [Option.bind_eq_some_iff] at h3
        obtain ⟨d, hd, h3⟩ := h3
        split at h3
        case isFalse => cases h3
        rename_i hf
        simp only [Option.some.injEq] at h3
        obtain ⟨p, hp, hpt⟩ := I.rd hd
        have e2 : (c.args.map a.eval)[i - xs.toArray.size]'(by rw [Array.size_map, List.size_toArray]; omega) = a.eval (c.args.toList[i - fi.2.1.length]'(by omega)) := by simp [hxl]
        rw [e2]
        by_cases hrt : (ds[i - fi.2.1.length]'(by omega)).rt = true
        · have hrt' := hrt
          rw [← h3] at hrt'
          obtain ⟨s, hs⟩ := (rd_cases hd).resolve_right (by rw [finA_rt hrt']; intro h; cases h)
          have hps := hpt s hs
          subst hps
          have hm := pairsA_mem st.t.length fi.2.1.length c.args.toList ds (i - fi.2.1.length) (by omega) (by omega) s hrt hs
          have h5 := hpr _ hm _ _ (hp.finA tk.2)
          rw [h3] at h5
          rwa [show fi.2.1.length + (i - fi.2.1.length) = i by omega] at h5
        · have hrt : (ds[i - fi.2.1.length]'(by omega)).rt = false := by simpa using hrt
          have h5 := hp.finA tk.2
          rw [h3] at h5
          refine hpl _ _ _ (data_rv h5 hrt) fun q hq e => ?_
          have e : (st.t.length + i : Nat) = q.1 := by injection e
          have h6 := (pairsA_inv _ _ _ _ _ hq).2
          obtain ⟨j, hj, hj2⟩ := List.mem_iff_getElem.1 h6
          have h7 := hdg j hj (by omega)
          rw [Option.bind_eq_some_iff] at h7
          obtain ⟨d', hd', _⟩ := h7
          rw [hj2] at hd'
          have h8 := rd_lt hd'
          exact absurd h8 (by rw [← e]; exact Nat.not_lt.2 (Nat.le_add_right _ _))
    · rw [dif_neg h1, dif_neg (by omega)]
      simp only [List.getElem_toArray]
      have := hys (i - (fi.2.1 ++ ds).length) (by simp at h h1 ⊢; omega) (by simp at h h1 ⊢; omega)
      have e3 : i - (xs.toArray ++ c.args.map a.eval).size = i - (fi.2.1 ++ ds).length := by rw [e1]
      simp only [e3]
      exact hplain this
  obtain ⟨hal, haR⟩ := hargs
  generalize hvs : (xs.toArray ++ c.args.map a.eval) ++ ys.toArray = vs at hal haR
  generalize fi.2.1 ++ ds ++ fi.2.2 = as at hLr h hal haR
  generalize fi.1 = f0 at hfe h
  obtain ⟨_, hL1, hL2, hL3⟩ := reach_spec _ _ _ _ hLr
  have hL3 := hL3 List.nodup_nil
  have henter : ∀ fn, P.funcs[f0]? = some fn → (fn.name == "runtime.NumGoroutine") = false → fn.body.isNone = false → (execOp a.eval o).run P w = .ok (.enter f0 vs) w := by
    intro fn hfn hname hbn
    have hname' : fn.name ≠ "runtime.NumGoroutine" := by simpa using hname
    have hbn' : ¬ fn.body = none := by intro e; rw [e] at hbn; simp at hbn
    unfold execOp
    simp only [ho, resolve, hc, hfe]
    simp [Deferred.ofValue, invoke, callFunc, hfn, hname', hbn', ← hvs]
  -- a call by its contract
  have hgo : ∀ (os : List (List D)) (r : D) (os' : List (List D)), L.mapM st.bx = some os → F f0 (as.map (renD (idxIn L))) (os.map fun cs => cs.map (renc (idxIn L))) = some (r, os') →
      (∀ x Z' O' w', Z.le Z' → RVr Z' O' w' (.t (o.dst.getD 0)) x (renD (inIdx L) r) → Inv Z0 w0 Z' O' ((⟨gs.foldl stripAt st.t, (L.zip (os'.map fun cs => cs.map (renc (inIdx L)))).foldl (fun b p => updb b p.1 (some p.2)) st.b⟩ : St).put o.dst (renD (inIdx L) r)) (a.put o.dst x) w' → K (a.put o.dst x) w') → o.wp P a w K Q := by
    intro os r os' hos hr hK'
    obtain ⟨hol, hog⟩ := mapM_get hos
    obtain ⟨fn, hfn, hname, hbn⟩ := hbody f0 _ _ _ hr
    have hC := hF f0 _ _ r os' hr Z w vs (O1.sub L st.t.length) I1.ag I1.bs (by simpa using hal) (fun i h h' => by
      have hi : i < as.length := by simpa using h
      rw [List.getElem_map]
      exact (haR i hi h').renB (FZ.le_refl Z) (fun g b hb hg => OM.sub_box hg (hL1 b (List.mem_flatMap.2 ⟨_, List.getElem_mem hi, hb⟩))) fun _ g hg => ⟨OM.sub_t hg, rfl, fun _ h => h⟩) (fun i cs hcs => by
      rw [List.getElem?_map, Option.map_eq_some_iff] at hcs
      obtain ⟨cs0, h1, rfl⟩ := hcs
      obtain ⟨hi, rfl⟩ := List.getElem?_eq_some_iff.1 h1
      have hi' : i < L.length := by omega
      have h2 := hog i hi' hi
      have h3 := (I1.bv _ _ h2).sub (L := L) (N := st.t.length) (List.getElem_mem hi') (fun d hd b' hb' => by
        rcases hL2 _ (List.getElem_mem hi') with h | ⟨cs, q1, q2⟩
        · cases h
        · rw [h2] at q1
          simp only [Option.some.injEq] at q1
          exact q2 d (by rw [← q1]; exact hd) b' hb')
      rwa [idxIn_get hL3 hi'] at h3)
      (fun g g' b h h' => by
        obtain ⟨b0, q1, q2, q3⟩ := OM.sub_inv h
        obtain ⟨b1, r1, r2, r3⟩ := OM.sub_inv h'
        have : b0 = b1 := by rw [← inIdx_idxIn q1, ← q3, r3, inIdx_idxIn r1]
        subst this
        exact I1.uq g g' b0 q2 r2)
      (fun g b h => by
        obtain ⟨b0, q1, q2, q3⟩ := OM.sub_inv h
        rw [q3]; unfold idxIn; omega)
      (fun g h => (I1.ob g (OM.sub_ne h)).2) I1.bl.gks (fun g hg => by
        cases hs : O1.sub L st.t.length g with
        | none => rfl
        | _ => exact absurd (I1.ob g (OM.sub_ne (by rw [hs]; simp))).1 (w0.gm g hg))
    unfold Oper.wp
    rw [henter fn hfn hname hbn]
    refine Calls.mono hC fun e' w' he => ?_
    obtain ⟨v, Z', O', rfl, hp⟩ := he
    have hp' : PostC Z w (O1.sub L st.t.length) L.length Z' O' w' v r os' := by
      have e : (os.map fun cs => cs.map (renc (idxIn L))).length = L.length := by simp [hol]
      rw [e] at hp; exact hp
    obtain ⟨I', hrv⟩ := I1.back (N := st.t.length) (Nat.le_of_eq (strips_len' gs st.t)) hL3 (dst := o.dst.getD 0) hp'
    refine hK' v Z' _ w' hp'.zle hrv (I'.put o.dst _ v fun i hi => ?_)
    have : o.dst.getD 0 = i := by rw [hi]; rfl
    rw [← this]; exact hrv.rv
  split at h
  · rename_i hLe
    have hL0 : L = [] := by cases L with | nil => rfl | cons => cases hLe
    subst hL0
    rw [Option.bind_eq_some_iff] at h
    obtain ⟨r, hr, hret⟩ := h
    unfold callD at hr
    split at hr
    case isTrue =>
      unfold F0 at hr
      rw [Option.bind_eq_some_iff] at hr
      obtain ⟨⟨r', os'⟩, hr, hr2⟩ := hr
      split at hr2
      case isFalse => cases hr2
      rename_i hoe
      simp only [Option.some.injEq] at hr2
      subst hr2
      have hos : os' = [] := by cases os' with | nil => rfl | cons => cases hoe
      subst hos
      have hren : as.map (renD (idxIn [])) = as := by
        have hb : ∀ d ∈ as, boxD d = [] := fun d hd => by
          cases hbd : boxD d with
          | nil => rfl
          | cons b l => have := hL1 b (List.mem_flatMap.2 ⟨d, hd, by rw [hbd]; simp⟩); cases this
        have h1 : ∀ d, box1 d = [] → ren1 (idxIn []) d = d := fun d h => by cases d <;> first | rfl | cases h
        have h2 : ∀ d, boxc d = [] → renc (idxIn []) d = d := fun d h => by
          cases d with
          | fn f xs ys =>
            simp only [boxc, List.append_eq_nil_iff, List.flatMap_eq_nil_iff] at h
            simp only [renc]
            rw [List.map_congr_left (g := id) fun d hd => h1 d (h.1 d hd), List.map_congr_left (g := id) fun d hd => h1 d (h.2 d hd), List.map_id, List.map_id]
          | bs => cases h
          | bp => cases h
          | _ => rfl
        have h3 : ∀ d, boxa d = [] → rena (idxIn []) d = d := fun d h => by
          cases d with
          | agg cs =>
            simp only [boxa, List.flatMap_eq_nil_iff] at h
            simp only [rena]
            rw [List.map_congr_left (g := id) fun d hd => h2 d (h d hd), List.map_id]
          | ag2 cs =>
            simp only [boxa, List.flatMap_eq_nil_iff] at h
            simp only [rena]
            rw [List.map_congr_left (g := id) fun d hd => h2 d (h d hd), List.map_id]
          | fn f xs ys => exact h2 (.fn f xs ys) h
          | bs => cases h
          | bp => cases h
          | _ => rfl
        have h4 : ∀ d, boxD d = [] → renD (idxIn []) d = d := fun d h => by
          cases d with
          | tup ds =>
            simp only [boxD, List.flatMap_eq_nil_iff] at h
            simp only [renD]
            rw [List.map_congr_left (g := id) fun d hd => h3 d (h d hd), List.map_id]
          | tp2 c r ds =>
            simp only [boxD, List.append_eq_nil_iff, List.flatMap_eq_nil_iff] at h
            simp only [renD]
            rw [h3 r h.1, List.map_congr_left (g := id) fun d hd => h3 d (h.2 d hd), List.map_id]
          | ag2 cs => exact h3 (.ag2 cs) h
          | agg cs => exact h3 (.agg cs) h
          | fn f xs ys => exact h3 (.fn f xs ys) h
          | bs => cases h
          | bp => cases h
          | _ => rfl
        rw [List.map_congr_left (g := id) fun d hd => h4 d (hb d hd), List.map_id]
      refine hgo [] r' [] rfl (by rw [hren]; exact hr) fun x Z' O' w' hZ hrv I' => ?_
      rw [inIdx_nil, renD_id] at I' hrv
      have plain : e = { d := r', gone := gs } → K (a.put o.dst x) w' := fun he => by
        subst he
        exact hK x Z' O' w' hZ I'
      unfold retE at hret
      split at hret
      · rename_i k m cs
        split at hret
        case isFalse =>
          split at hret
          case isFalse => cases hret
          rename_i hcond
          obtain ⟨_, hds2, hcl⟩ := hcond
          simp only [Option.some.injEq] at hret
          subst hret
          obtain ⟨di, hdi⟩ := Option.isSome_iff_exists.1 hds2
          rw [hdi] at I' hrv ⊢
          simp only [Option.getD_some] at I' hrv
          obtain ⟨g, c', xs, e, rfl, hmc, hO, hg, hl, hx, hZ0, hall⟩ := hrv
          have hrows : ∀ (o : Nat) (x : Value), (xs.toList.take cs.length)[o]? = some x → xs[o]? = some x := fun o x h => by
            rw [List.getElem?_take] at h
            split at h
            · simpa using h
            · cases h
          obtain ⟨hZc, I1⟩ := I'.claim di (xs.toList.take cs.length) hO hg hrows (fun x hx' => by
            obtain ⟨o, ho, rfl⟩ := List.mem_iff_getElem.1 hx'
            have ho2 : o < cs.length := by simp at ho; omega
            simp only [List.getElem_take, Array.getElem_toList]
            exact (hx o ho2 (by omega)).2) hZ0
          have hrp : Rp (Z'.add g (xs.toList.take cs.length)) (.slice (some ⟨g, 0, none⟩) m c') (.sl (chunks k m cs)) := rp_chunks hcl hmc fun o ho => by
            refine ⟨xs[o]'(by omega), FZ.add_at ?_, (hx o ho (by omega)).1.mono hZc⟩
            rw [List.getElem?_take, if_pos ho, Array.getElem?_toList, Array.getElem?_eq_getElem (by omega)]
          have I3 := I1.put (some di) (.sl (chunks k m cs)) (.slice (some ⟨g, 0, none⟩) m c') (fun i _ => RV.ofRp hrp)
          have hpp : (a.put (some di) (.slice (some ⟨g, 0, none⟩) m c')).put (some di) (.slice (some ⟨g, 0, none⟩) m c') = a.put (some di) (.slice (some ⟨g, 0, none⟩) m c') := by
            simp [Act.put]
          rw [hpp] at I3
          have := hK (.slice (some ⟨g, 0, none⟩) m c') _ _ w' (fun b o y hy => hZc b o y (hZ b o y hy)) (by
            rw [hdi]
            simpa [Eff.on, Eff.onb, St.put, List.map_set] using I3)
          rw [hdi] at this
          exact this
        rename_i hcond
        obtain ⟨_, hds2, hbo⟩ := hcond
        simp only [Option.some.injEq] at hret
        subst hret
        obtain ⟨di, hdi⟩ := Option.isSome_iff_exists.1 hds2
        rw [hdi] at I' hrv hbo ⊢
        simp only [Option.getD_some] at I' hrv hbo
        obtain ⟨g, c', xs, e, rfl, hmc, hO, hg, hl, hx, hZ0, hall⟩ := hrv
        have h1 : cs.all one = true := List.all_eq_true.2 fun d hd => by have := List.all_eq_true.1 hall d hd; simp only [Bool.and_eq_true] at this; exact this.2
        have h2 : cs.any (refc di) = false := List.any_eq_false.2 fun d hd => by
          have := List.all_eq_true.1 hall d hd
          simp only [Bool.and_eq_true] at this
          have := this.1
          cases d <;> simp_all [nobs, refc]
        have I1 := I'.forget di
        have I2 := I1.newG di g di e xs cs w' hl hx h1 h2 hbo hg (fun _ _ _ => rfl) (Nat.le_refl _) rfl rfl rfl (I'.ob g (by rw [hO]; simp)).1 (fun b hb => by rw [hO] at hb; cases hb) (fun p hp => by rw [hO] at hp; injection hp with hp; exact hp.symm) (by
          simp only [St.at, List.getD_eq_getElem?_getD, List.getElem?_set]
          split
          · split <;> rfl
          · rename_i h; exact absurd trivial h) hZ0
        have I3 := I2.put (some di) (.bs di 0 k m) (.slice (some ⟨g, 0, none⟩) m c') (fun i _ => ⟨g, c', by unfold OM.nw; rw [if_pos rfl], rfl, hmc⟩)
        have hpp : (a.put (some di) (.slice (some ⟨g, 0, none⟩) m c')).put (some di) (.slice (some ⟨g, 0, none⟩) m c') = a.put (some di) (.slice (some ⟨g, 0, none⟩) m c') := by
          simp [Act.put]
        rw [hpp] at I3
        have := hK (.slice (some ⟨g, 0, none⟩) m c') Z' _ w' hZ (by
          rw [hdi]
          simpa [Eff.on, Eff.onb, St.put, List.map_set] using I3)
        rw [hdi] at this
        exact this
      · simp only [Option.some.injEq] at hret
        exact plain hret.symm
    case isFalse =>
      unfold ext at hr
      simp only [Option.bind_eq_some_iff] at hr
      obtain ⟨fn, hfn, hr⟩ := hr
      split at hr
      case isFalse => cases hr
      rename_i hcond
      obtain ⟨hb, hname, hnx⟩ := hcond
      simp only [Option.bind_eq_some_iff] at hr
      obtain ⟨ex, hex, us, hus, v, hv, ho'⟩ := hr
      obtain ⟨hul, hug⟩ := mapM_get hus
      have hav : vs = us.toArray := by
        refine Array.ext (by simp [hal, hul]) fun i h1 h2 => ?_
        have hi : i < as.length := by omega
        have := hug i hi (by simpa using h2)
        simp only [List.getElem_toArray]
        exact RV.toV (haR i hi h1) this
      have hnx' : Extern.findNext fn = none := by simpa using hnx
      have hname' : fn.name ≠ "runtime.NumGoroutine" := by simpa using hname
      have hx : (execOp a.eval o).run P w = .ok (.value v) w := by
        unfold execOp
        simp only [ho, resolve, hc, hfe]
        have hrun := pureRun_run _ _ w hv
        rw [← hav, ← hvs] at hrun
        have hb' : fn.body = none := Option.isNone_iff_eq_none.1 hb
        simp [Deferred.ofValue, invoke, callFunc, hfn, hname', hb', hnx', hex] at hrun ⊢
        simp [hrun]
      have hne : e = { d := r, gone := gs } := by
        unfold outD at ho'
        split at ho' <;> (simp only [Option.some.injEq] at ho'; subst ho'; simp only [retE, Option.some.injEq] at hret; exact hret.symm)
      subst hne
      refine wp_value (w' := w) hx (hK v Z O1 w (FZ.le_refl Z) (I1.put o.dst r v fun i _ => ?_))
      unfold outD at ho'
      split at ho'
      · rename_i xs'
        simp only [Option.some.injEq] at ho'
        subst ho'
        have : xs' = xs'.toList.toArray := by simp
        rw [this]
        exact RV.ofRp (.tup xs'.toList _ (by simp) fun i hi hj => by simp; exact .v _)
      · simp only [Option.some.injEq] at ho'
        subst ho'
        exact RV.ofRp (.v _)
  · rename_i hLe
    unfold callO at h
    split at h
    case isFalse => cases h
    simp only [Option.bind_eq_some_iff] at h
    obtain ⟨os, hos, ⟨r, os'⟩, hr, h⟩ := h
    split at h
    case isFalse => cases h
    simp only [Option.some.injEq] at h
    subst h
    exact hgo os r os' hos hr fun x Z' O' w' hZ hrv I' => hK x Z' O' w' hZ I'
end
end Go.Eng
