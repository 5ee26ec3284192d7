/- What reads as data stands for typed values (the session's own words). -/
import Derived.Test.YtcdeidljcmlfdaaDoorEng
import Derived.ChangeArms
import Derived.DataReads
import Derived.DataElems
namespace Go.Eng
open Go.RowKit
set_option linter.unusedVariables false
set_option linter.unusedSimpArgs false

/-- every single cell of a world -/
def FZw (w : World) : FZ := fun b o => (w.cell? ⟨b, o, none⟩).bind fun x => if x.oneCell' then some x else none
theorem FZw_agree (w : World) : Agree (FZw w) w := by
  intro b o x h
  unfold FZw at h
  rw [Option.bind_eq_some_iff] at h
  obtain ⟨y, hy, h⟩ := h
  split at h
  · rename_i h1
    simp only [Option.some.injEq] at h
    subst h
    exact ⟨hy, h1⟩
  · cases h
theorem rp_one {Z : FZ} {x : Value} {d : D} (h : Rp Z x d) (h1 : one d = true) : x.oneCell' = true := by
  cases h with
  | v x => exact h1
  | sl => rfl
  | nn => rfl
  | ep => rfl
  | agg => simp [one] at h1
  | tup => simp [one] at h1
/-- cells that stand for data -/
def Cs (Z : FZ) (cs : List Value) (ds : List D) : Prop := cs.length = ds.length ∧ ∀ i (h : i < ds.length) (h' : i < cs.length), Rp Z cs[i] ds[i]
theorem Cs.app {Z : FZ} {a b : List Value} {c d : List D} (h : Cs Z a c) (h' : Cs Z b d) : Cs Z (a ++ b) (c ++ d) := by
  refine ⟨by simp [h.1, h'.1], fun i h1 h2 => ?_⟩
  by_cases hi : i < a.length
  · rw [List.getElem_append_left hi, List.getElem_append_left (by rw [← h.1]; exact hi)]
    exact h.2 _ _ _
  · have hi := Nat.le_of_not_lt hi
    rw [List.getElem_append_right hi, List.getElem_append_right (by rw [← h.1]; exact hi)]
    simp only [h.1]
    exact h'.2 _ _ _
theorem Cs.one {Z : FZ} {x : Value} {d : D} (h : Rp Z x d) : Cs Z [x] [d] :=
  ⟨rfl, fun i h1 h2 => by
    have : i = 0 := by simp at h1; exact h1
    subst this
    exact h⟩
/-- what reads as data of type t (with so much fuel) stands for a value of which G holds -/
def OpD {α : Type} (P : Program) (t : TypeId) (enc : α → List D) (G : α → Prop) (m : Nat) : Prop :=
  ∀ (H : Type) (en : TypeId × Value → H) (w : World) (fuel : Nat), fuel ≤ m → ∀ (cs : List Value) (x : DataW H × List MemPlace),
    DataW.trod en P w 0 (fun _ => true) true fuel t cs = some x → ∃ y, G y ∧ Cs (FZw w) cs (enc y)
section
variable {P : Program} {t e : TypeId} {m : Nat}
theorem opd_int {k : IntKind} (h : P.underlying t = some (.int k)) (m : Nat) : OpD P t (fun x : Int => [.v (.int k x)]) (fun x => (Lit.int k x).wf = true) m := by
  intro H en w fuel _ cs x hx
  obtain ⟨n, rfl, rfl, hw⟩ := DataW.trod_int h hx
  exact ⟨n, hw, Cs.one (.v _)⟩
theorem opd_bool (h : P.underlying t = some .bool) (m : Nat) : OpD P t (fun x : Bool => [.v (.bool x)]) (fun _ => True) m := by
  intro H en w fuel _ cs x hx
  obtain ⟨b, rfl, rfl⟩ := DataW.trod_bool h hx
  exact ⟨b, trivial, Cs.one (.v _)⟩
theorem opd_string (h : P.underlying t = some .string) (m : Nat) : OpD P t (fun x : ByteArray => [.v (.string x)]) (fun x => x.size ≤ maxLen) m := by
  intro H en w fuel _ cs x hx
  obtain ⟨s, rfl, rfl, hs⟩ := DataW.trod_string h hx
  exact ⟨s, hs, Cs.one (.v _)⟩
theorem opd_map {α β : Type} {enc : α → List D} {enc' : β → List D} {G : α → Prop} {G' : β → Prop} (h : OpD P t enc G m) (g : α → β) (he : ∀ y, enc' (g y) = enc y) (hG : ∀ y, G y → G' (g y)) : OpD P t enc' G' m := by
  intro H en w fuel hf cs x hx
  obtain ⟨y, h1, h2⟩ := h H en w fuel hf cs x hx
  exact ⟨g y, hG y h1, by rw [he]; exact h2⟩
theorem opd_le {α : Type} {enc : α → List D} {G : α → Prop} {m' : Nat} (h : OpD P t enc G m) (hm : m' ≤ m) : OpD P t enc G m' := fun H en w fuel hf => h H en w fuel (Nat.le_trans hf hm)
theorem opd_slice {α : Type} {enc : α → List D} {G : α → Prop} {k : Nat} (h : P.underlying t = some (.slice e)) (hk : P.cellsOf e = k) (h0 : 0 < k) (hl : ∀ y, (enc y).length = k) (h1 : ∀ y, (enc y).all one = true) (m : Nat) (ho : OpD P e enc G m) :
    OpD P t (fun xs : List α => [.sl (xs.map enc)]) (fun xs => xs.length ≤ maxLen ∧ ∀ x ∈ xs, G x) m := by
  intro H en w fuel hfu cs x hx
  rcases DataW.trod_slice h hx with ⟨rfl, rfl⟩ | ⟨a, len, cap, elems, rest, n, rfl, rfl, rfl, _, hlc, hm, hlen, hel, _, _⟩
  · exact ⟨[], ⟨Nat.zero_le _, fun x hx => by cases hx⟩, Cs.one (.sl none 0 0 k [] rfl (Nat.le_refl _) ⟨0, 0, none⟩ (fun h => absurd h (Nat.lt_irrefl _)) rfl (fun i hi => absurd hi (Nat.not_lt_zero _)) (fun _ _ => undef) (fun i hi => absurd hi (Nat.not_lt_zero _)) (fun i hi => absurd hi (Nat.not_lt_zero _)))⟩
  · have each : ∀ i, i < len → ∃ (c : List Value) (y : α), c.length = k ∧ Cs (FZw w) c (enc y) ∧ G y ∧ ∀ j, j < k → w.cell? ((a.add (i * k)).add j) = c[j]? := by
      intro i hi
      have h1 := hel i hi
      rw [List.getElem?_eq_getElem (by omega), Option.bind_eq_some_iff] at h1
      obtain ⟨c, hcs, hy⟩ := h1
      obtain ⟨_, hcl, hcell⟩ := World.cells?_some hcs
      obtain ⟨y, hG, hC⟩ := ho H en w n (by omega) c _ hy
      rw [hk] at hcl hcell
      exact ⟨c, y, hcl, hC, hG, hcell⟩
    have hall : ∀ q, q ≤ len → ∃ ys : List α, ys.length = q ∧ ∀ i y, ys[i]? = some y → G y ∧ ∃ c : List Value, c.length = k ∧ Cs (FZw w) c (enc y) ∧ ∀ j, j < k → w.cell? ((a.add (i * k)).add j) = c[j]? := by
      intro q
      induction q with
      | zero => exact fun _ => ⟨[], rfl, fun i y hy => by simp at hy⟩
      | succ q ih =>
        intro hq
        obtain ⟨ys, hyl, hys⟩ := ih (by omega)
        obtain ⟨c, y, q1, q2, q3, q4⟩ := each q (by omega)
        refine ⟨ys ++ [y], by simp [hyl], fun i z hz => ?_⟩
        rcases Nat.lt_or_ge i q with hi | hi
        · rw [List.getElem?_append_left (by omega)] at hz
          exact hys i z hz
        · have hik : i = q := by have := (List.getElem?_eq_some_iff.1 hz).1; simp at this; omega
          subst hik
          rw [List.getElem?_append_right (by omega), hyl] at hz
          simp at hz
          subst hz
          exact ⟨q3, c, q1, q2, q4⟩
    obtain ⟨ys, hyl, hys⟩ := hall len (Nat.le_refl _)
    refine ⟨ys, ⟨by omega, fun y hy => ?_⟩, ?_⟩
    · obtain ⟨i, hi⟩ := List.getElem?_of_mem hy
      exact (hys i y hi).1
    refine Cs.one ?_
    have hlm : ∀ i (hi : i < (ys.map enc).length), ((ys.map enc)[i]).length = k := fun i hi => by rw [List.getElem_map]; exact hl _
    have hsp : 0 < len → a.spot = none := fun hp => by
      obtain ⟨c, y, q1, q2, q3, q4⟩ := each 0 hp
      have := q4 0 h0
      rw [List.getElem?_eq_getElem (by omega)] at this
      have hz := World.cell?_spot this
      simpa [Addr.add] using hz
    have hcell : ∀ i (hi : i < (ys.map enc).length) j (hj : j < ((ys.map enc)[i]).length), ∃ y, FZw w a.block (a.off + i * k + j) = some y ∧ Rp (FZw w) y ((ys.map enc)[i][j]) := by
      intro i hi j hj
      have hi' : i < ys.length := by simpa using hi
      have hj' : j < k := by rw [hlm i hi] at hj; exact hj
      obtain ⟨_, c, q1, q2, q3⟩ := hys i ys[i] (List.getElem?_eq_getElem hi')
      have hc := q3 j hj'
      have hjc : j < c.length := by omega
      rw [List.getElem?_eq_getElem hjc] at hc
      have hje : j < (enc ys[i]).length := by rw [hl]; exact hj'
      have hr := q2.2 j hje hjc
      have h1j : one (enc ys[i])[j] = true := List.all_eq_true.1 (h1 _) _ (List.getElem_mem hje)
      have hone := rp_one hr h1j
      have hadd : (a.add (i * k)).add j = ⟨a.block, a.off + i * k + j, none⟩ := by
        have hs := hsp (by omega)
        obtain ⟨b, o, s⟩ := a
        simp only at hs
        subst hs
        rw [addr_add, addr_add]
      rw [hadd] at hc
      refine ⟨c[j], ?_, by simpa using hr⟩
      unfold FZw
      rw [hc]
      simp [hone]
    by_cases hp : 0 < len
    · refine .sl _ len cap k _ (by simp [hyl]) hlc a (fun _ => rfl) (hsp hp) hlm (fun i j => if hi : i < (ys.map enc).length then (if hj : j < ((ys.map enc)[i]).length then (hcell i hi j hj).choose else undef) else undef) (fun i hi j hj => ?_) (fun i hi j hj => ?_)
      · simp only [hi, hj, dif_pos]; exact (hcell i hi j hj).choose_spec.1
      · simp only [hi, hj, dif_pos]; exact (hcell i hi j hj).choose_spec.2
    · have hy0 : ys = [] := List.eq_nil_of_length_eq_zero (by omega)
      subst hy0
      have hl0 : len = 0 := by omega
      subst hl0
      exact .sl _ 0 cap k _ rfl (Nat.zero_le _) ⟨0, 0, none⟩ (fun h => absurd h (Nat.lt_irrefl _)) rfl (fun i hi => absurd hi (Nat.not_lt_zero _)) (fun _ _ => undef) (fun i hi => absurd hi (Nat.not_lt_zero _)) (fun i hi => absurd hi (Nat.not_lt_zero _))
/-- a struct's fields, from one on -/
def FsD {α : Type} (P : Program) (fs : List Field) (o : Nat) (n : Nat) (enc : α → List D) (G : α → Prop) (m : Nat) : Prop :=
  ∀ (H : Type) (en : TypeId × Value → H) (w : World) (fuel : Nat), fuel ≤ m → ∀ (cs : List Value) (xs : List (DataW H × List MemPlace)), cs.length = o + n → xs.length = fs.length →
    (∀ (i : Nat) (f : Field), fs[i]? = some f → DataW.trod en P w 0 (fun _ => true) true fuel f.type ((cs.drop f.offset).take (P.cellsOf f.type)) = xs[i]?) → ∃ y, G y ∧ Cs (FZw w) (cs.drop o) (enc y)
theorem fsd_one {α : Type} {enc : α → List D} {G : α → Prop} {f : Field} {n : Nat} (h : OpD P f.type enc G m) (hn : P.cellsOf f.type = n) : FsD P [f] f.offset n enc G m := by
  intro H en w fuel hfu cs xs hl hxl hx
  match xs, hxl with
  | [x], _ =>
    have h0 := hx 0 f rfl
    rw [hn, List.take_of_length_le (by rw [List.length_drop]; omega)] at h0
    exact h H en w fuel hfu _ x h0
theorem fsd_cons {α β : Type} {enc : α → List D} {enc' : β → List D} {G : α → Prop} {G' : β → Prop} {f : Field} {fs : List Field} {o n k : Nat} (h : OpD P f.type enc G m) (hk : P.cellsOf f.type = k) (hs : FsD P fs o n enc' G' m) (ho : o = f.offset + k) :
    FsD P (f :: fs) f.offset (k + n) (fun y : α × β => enc y.1 ++ enc' y.2) (fun y => G y.1 ∧ G' y.2) m := by
  intro H en w fuel hfu cs xs hl hxl hx
  match xs, hxl with
  | x :: xs, hxl =>
    have h0 := hx 0 f rfl
    rw [hk] at h0
    obtain ⟨y0, g0, c0⟩ := h H en w fuel hfu _ x h0
    obtain ⟨y1, g1, c1⟩ := hs H en w fuel hfu cs xs (by omega) (by simpa using hxl) (fun i g hg => by have := hx (i + 1) g (by simpa using hg); simpa using this)
    refine ⟨(y0, y1), ⟨g0, g1⟩, ?_⟩
    have : cs.drop f.offset = (cs.drop f.offset).take k ++ cs.drop o := by
      rw [ho, ← List.drop_drop, List.take_append_drop]
    rw [this]
    exact c0.app c1
theorem opd_struct {α : Type} {enc : α → List D} {G : α → Prop} {fs : Array Field} {n : Nat} (h : P.underlying t = some (.struct fs)) (hc : P.cellsOf t = n) (hf : FsD P fs.toList 0 n enc G m) : OpD P t enc G (m + 1) := by
  intro H en w fuel hfu cs x hx
  obtain ⟨xs, n', rfl, rfl, hl, hxl, hget⟩ := DataW.trod_struct h hx
  obtain ⟨y, hG, hC⟩ := hf H en w n' (by omega) cs xs (by rw [hl, hc, Nat.zero_add]) (by simpa using hxl) (fun i f hi => hget i f (by simpa using hi))
  exact ⟨y, hG, by simpa using hC⟩
theorem opd_zero {α : Type} {enc : α → List D} {G : α → Prop} : OpD P t enc G 0 := fun H en w fuel hf cs x hx => by
  obtain rfl : fuel = 0 := by omega
  simp [DataW.trod] at hx
/-- one value that reads so -/
theorem rp_slice {Z : FZ} {a : Option Addr} {n c : Nat} {d : D} (h : Cs Z (Value.slice a n c).cells.toList [d]) : Rp Z (.slice a n c) d := by
  have h0 := h.2 0 (by simp) (by simp [Value.cells])
  simpa [Value.cells] using h0
theorem cs_v {Z : FZ} {cs : List Value} {x : Value} (h : Cs Z cs [.v x]) : cs = [x] := by
  obtain ⟨hl, h⟩ := h
  match cs, hl with
  | [y], _ =>
    have h0 := h 0 (by simp) (by simp)
    simp only [List.getElem_cons_zero] at h0
    cases h0
    rfl
theorem val_int {w : World} {r : Reach} {base : Nat} {v : Value} {k : IntKind} {y : Int} {Z : FZ} (ht : P.underlying t = some (.int k)) (hv : Value.okWide P w r base t v) (h : Cs Z v.cells.toList [.v (.int k y)]) : v = .int k y := by
  have h' : v.cells.toList = [.int k y] := cs_v h
  simp only [Value.okWide, ht, Cell.okWide] at hv
  cases v <;> simp_all [Cell.ok, Value.cells]
theorem val_bool {w : World} {r : Reach} {base : Nat} {v : Value} {y : Bool} {Z : FZ} (ht : P.underlying t = some .bool) (hv : Value.okWide P w r base t v) (h : Cs Z v.cells.toList [.v (.bool y)]) : v = .bool y := by
  have h' : v.cells.toList = [.bool y] := cs_v h
  simp only [Value.okWide, ht, Cell.okWide] at hv
  cases v <;> simp_all [Cell.ok, Value.cells]
theorem val_string {w : World} {r : Reach} {base : Nat} {v : Value} {y : ByteArray} {Z : FZ} (ht : P.underlying t = some .string) (hv : Value.okWide P w r base t v) (h : Cs Z v.cells.toList [.v (.string y)]) : v = .string y := by
  have h' : v.cells.toList = [.string y] := cs_v h
  simp only [Value.okWide, ht, Cell.okWide] at hv
  cases v <;> simp_all [Cell.ok, Value.cells]
theorem rp_cells {Z : FZ} {xs : Array Value} {ds : List D} (h : Cs Z (Value.agg xs).cells.toList ds) : Rp Z (.agg xs) (.agg ds) := by
  have h' : Cs Z xs.toList ds := h
  have := Rp.agg (Z := Z) xs.toList ds h'.1 h'.2
  simpa using this
end
end Go.Eng
