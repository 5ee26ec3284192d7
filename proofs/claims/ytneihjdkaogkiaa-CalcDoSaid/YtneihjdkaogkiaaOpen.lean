/- What reads as data is told as a value of a kind (the session's own words, for the rows of laws with structured parameters). -/
import Derived.Test.YtneihjdkaogkiaaWMore
import Derived.Test.YtneihjdkaogkiaaWNEv
import Derived.ChangeShapes
import Derived.ChangeArms
import Derived.DataReads
import Derived.DataElems
import Derived.SizedLaws
import Derived.WideShapes
import Derived.KernelRfl
namespace Go.Proofs.Ytneihjdkaogkiaa.Opn
open Go.RowKit Go.ChangeShapes Go.WideShapes Go.Proofs.YtneihjdkaogkiaaW.PrintWords
set_option linter.unusedVariables false

/-- What reads as data at type t, with fuel up to m, is a value of kind d of which G holds. -/
def OpensLe {α : Type} (P : Program) (t : TypeId) (d : Kd α) (G : α → Prop) (m : Nat) : Prop :=
  P.cellsOf t = d.sz ∧ ∀ (H : Type) (enc : TypeId × Value → H) (w : World) (fuel : Nat), fuel ≤ m → ∀ (cs : List Value) (x : DataW H × List MemPlace),
    DataW.trod enc P w 0 (fun _ => true) true fuel t cs = some x → (∀ n ∈ x.1.weights P t, n ≤ reachBytes) → ∃ y, d.K w y cs ∧ G y

section
variable {P : Program} {t e : TypeId} {m : Nat}

theorem opens_int {k : IntKind} (h : P.underlying t = some (.int k)) (hc : P.cellsOf t = 1) (m : Nat) : OpensLe P t (Kd.int k) (fun x : Int => (Lit.int k x).wf = true) m := by
  refine ⟨hc, fun H enc w fuel _ cs x hx _ => ?_⟩
  obtain ⟨n, rfl, rfl, hw⟩ := DataW.trod_int h hx
  exact ⟨n, rfl, hw⟩
theorem opens_bool (h : P.underlying t = some .bool) (hc : P.cellsOf t = 1) (m : Nat) : OpensLe P t Kd.bool (fun _ : Bool => True) m := by
  refine ⟨hc, fun H enc w fuel _ cs x hx _ => ?_⟩
  obtain ⟨b, rfl, rfl⟩ := DataW.trod_bool h hx
  exact ⟨b, rfl, trivial⟩
theorem opens_string (h : P.underlying t = some .string) (hc : P.cellsOf t = 1) (m : Nat) : OpensLe P t Kd.string (fun x : ByteArray => x.size ≤ reachBytes) m := by
  refine ⟨hc, fun H enc w fuel _ cs x hx hz => ?_⟩
  obtain ⟨s, rfl, rfl, _⟩ := DataW.trod_string h hx
  refine ⟨s, rfl, ?_⟩
  have := hz s.data.toList.length (by simp [DataW.weights])
  simpa using this
theorem weightsAll_mem {H : Type} {l : List (DataW H)} {d : DataW H} (hd : d ∈ l) : ∀ n ∈ d.weights P e, n ∈ DataW.weightsAll P e l := by
  induction l with
  | nil => cases hd
  | cons a l ih =>
    intro n hn
    simp only [DataW.weightsAll, List.mem_append]
    rcases List.mem_cons.1 hd with rfl | hd
    · exact .inl hn
    · exact .inr (ih hd n hn)
theorem opens_slice {α : Type} {d : Kd α} {G : α → Prop} {b : Nat} (h : P.underlying t = some (.slice e)) (hc : P.cellsOf t = 1) (hb : P.bytesOf e = b) (m : Nat) (ho : OpensLe P e d G m) :
    OpensLe P t (Kd.slice e d) (fun xs : List α => xs.length * b ≤ reachBytes ∧ ∀ x ∈ xs, G x) m := by
  refine ⟨hc, fun H enc w fuel hfu cs x hx hz => ?_⟩
  rcases DataW.trod_slice h hx with ⟨rfl, rfl⟩ | ⟨a, len, cap, elems, rest, n, rfl, rfl, rfl, _, hl, hm, hlen, hel, hsp, hns⟩
  · exact ⟨[], ⟨none, 0, rfl, Nat.le_refl _, Kd.C_nil d w⟩, by simp, fun x hx => by cases hx⟩
  · have each : ∀ i (hi : i < len), ∃ (c : List Value) (y : α), c.length = d.sz ∧ d.K w y c ∧ G y ∧ ∀ j u, c[j]? = some u → w.cell? (a.add (i * d.sz + j)) = some u := by
      intro i hi
      have h1 := hel i hi
      rw [List.getElem?_eq_getElem (by omega), Option.bind_eq_some_iff] at h1
      obtain ⟨c, hcs, hy⟩ := h1
      obtain ⟨_, hcl, hcell⟩ := World.cells?_some hcs
      have hw : ∀ k ∈ (elems[i]'(by omega)).1.weights P e, k ≤ reachBytes := by
        intro k hk
        refine hz k ?_
        simp only [DataW.weights, h, List.mem_cons, List.mem_append]
        exact .inr (.inl (weightsAll_mem (List.mem_map.2 ⟨_, List.getElem_mem (by omega), rfl⟩) k hk))
      obtain ⟨y, hK, hG⟩ := ho.2 H enc w n (by omega) c _ hy hw
      refine ⟨c, y, by rw [hcl, ho.1], hK, hG, fun j u hu => ?_⟩
      have hj : j < P.cellsOf e := by have := (List.getElem?_eq_some_iff.1 hu).1; omega
      have h2 := hcell j hj
      rw [hu] at h2
      rw [← h2, ho.1, Addr.add_add]
    have hall : ∀ k, k ≤ len → ∃ ys : List α, ys.length = k ∧ ∀ i y, ys[i]? = some y → G y ∧ ∃ c : List Value, c.length = d.sz ∧ d.K w y c ∧ ∀ j u, c[j]? = some u → w.cell? (a.add (i * d.sz + j)) = some u := by
      intro k
      induction k with
      | zero => exact fun _ => ⟨[], rfl, fun i y hy => by simp at hy⟩
      | succ k ih =>
        intro hk
        obtain ⟨ys, hyl, hys⟩ := ih (by omega)
        obtain ⟨c, y, h1, h2, h3, h4⟩ := each k (by omega)
        refine ⟨ys ++ [y], by simp [hyl], fun i z hz' => ?_⟩
        rcases Nat.lt_or_ge i k with hi | hi
        · rw [List.getElem?_append_left (by omega)] at hz'
          exact hys i z hz'
        · have hik : i = k := by have := (List.getElem?_eq_some_iff.1 hz').1; simp at this; omega
          subst hik
          rw [List.getElem?_append_right (by omega), hyl] at hz'
          simp at hz'
          subst hz'
          exact ⟨h3, c, h1, h2, h4⟩
    obtain ⟨ys, hyl, hys⟩ := hall len (Nat.le_refl _)
    have hbytes : (elems.length + rest.length) * b ≤ reachBytes := by
      rw [← hb]
      refine hz _ ?_
      simp [DataW.weights, h]
    refine ⟨ys, ⟨some a, cap, by rw [hyl], by omega, hyl ▸ rfl, by have : cap ≤ maxLen := hm; unfold maxLen at this; omega, fun _ => ⟨a, rfl, fun j p hj => ?_⟩⟩, ?_, fun y hy => ?_⟩
    · obtain ⟨_, c, h1, h2, h3⟩ := hys j p hj
      exact ⟨c, h1, h2, h3⟩
    · have : ys.length * b ≤ (elems.length + rest.length) * b := Nat.mul_le_mul_right _ (by omega)
      omega
    · obtain ⟨i, hi⟩ := List.getElem?_of_mem hy
      exact (hys i y hi).1
theorem opens_le {α : Type} {d : Kd α} {G : α → Prop} (h : OpensLe P t d G (m + 1)) : OpensLe P t d G m := ⟨h.1, fun H enc w fuel hf => h.2 H enc w fuel (by omega)⟩
theorem opens_imp {α : Type} {d : Kd α} {G G' : α → Prop} (h : OpensLe P t d G m) (hi : ∀ y, G y → G' y) : OpensLe P t d G' m :=
  ⟨h.1, fun H enc w fuel hf cs x hx hz => by
    obtain ⟨y, h1, h2⟩ := h.2 H enc w fuel hf cs x hx hz
    exact ⟨y, h1, hi y h2⟩⟩
/-- A struct's fields, from offset o on. -/
abbrev FieldsLe {α : Type} (P : Program) (fs : List Field) (o : Nat) (d : Kd α) (G : α → Prop) (m : Nat) : Prop :=
  ∀ (H : Type) (enc : TypeId × Value → H) (w : World) (fuel : Nat), fuel ≤ m → ∀ (cs : List Value) (xs : List (DataW H × List MemPlace)), cs.length = o + d.sz → xs.length = fs.length →
    (∀ (i : Nat) (f : Field), fs[i]? = some f → DataW.trod enc P w 0 (fun _ => true) true fuel f.type ((cs.drop f.offset).take (P.cellsOf f.type)) = xs[i]?) →
    (∀ n ∈ DataW.weightsEach P (fs.map (fun f : Field => f.type)) (xs.map (fun x : DataW H × List MemPlace => x.1)), n ≤ reachBytes) → ∃ y, d.K w y (cs.drop o) ∧ G y
theorem fields_one {α : Type} {d : Kd α} {G : α → Prop} {f : Field} (h : OpensLe P f.type d G m) : FieldsLe P [f] f.offset d G m := by
  intro H enc w fuel hfu cs xs hl hxl hx hz
  match xs, hxl with
  | [x], _ =>
    have h0 := hx 0 f rfl
    rw [h.1, List.take_of_length_le (by rw [List.length_drop]; omega)] at h0
    exact h.2 H enc w fuel hfu _ x h0 (fun n hn => hz n (by simp [DataW.weightsEach, hn]))
theorem fields_cons {α β : Type} {d : Kd α} {d' : Kd β} {G : α → Prop} {G' : β → Prop} {f : Field} {fs : List Field} {o : Nat} (h : OpensLe P f.type d G m) (hs : FieldsLe P fs o d' G' m) (ho : o = f.offset + d.sz) :
    FieldsLe P (f :: fs) f.offset (Kd.pair d d') (fun y => G y.1 ∧ G' y.2) m := by
  intro H enc w fuel hfu cs xs hl hxl hx hz
  match xs, hxl with
  | x :: xs, hxl =>
    have h0 := hx 0 f rfl
    rw [h.1] at h0
    have hpl : (Kd.pair d d').sz = d.sz + d'.sz := rfl
    obtain ⟨y0, k0, g0⟩ := h.2 H enc w fuel hfu _ x h0 (fun n hn => hz n (by simp [DataW.weightsEach, hn]))
    obtain ⟨y1, k1, g1⟩ := hs H enc w fuel hfu cs xs (by omega) (by simpa using hxl) (fun i g hg => by have := hx (i + 1) g (by simpa using hg); simpa using this) (fun n hn => hz n (by simp only [List.map_cons, DataW.weightsEach, List.mem_append]; exact .inr hn))
    refine ⟨(y0, y1), ⟨(cs.drop f.offset).take d.sz, cs.drop o, ?_, k0, k1⟩, g0, g1⟩
    rw [ho, ← List.drop_drop, List.take_append_drop]
theorem opens_struct {α β : Type} {d : Kd α} {G : α → Prop} {F : Kd β} {proj : β → α} {fs : Array Field} (h : P.underlying t = some (.struct fs)) (hc : P.cellsOf t = d.sz) (g : α → β) (hg : ∀ y, proj (g y) = y)
    (hf : FieldsLe P fs.toList 0 d G m) (hF : F = Kd.iso d proj := by rfl) : OpensLe P t F (fun z => G (proj z)) (m + 1) := by
  subst hF
  refine ⟨hc, fun H enc w fuel hfu cs x hx hz => ?_⟩
  obtain ⟨xs, n, rfl, rfl, hl, hxl, hget⟩ := DataW.trod_struct h hx
  obtain ⟨y, hK, hG⟩ := hf H enc w n (by omega) cs xs (by rw [hl, hc]; omega) (by simpa using hxl) (fun i f hi => hget i f (by simpa using hi)) (fun n hn => hz n (by simp only [DataW.weights, h]; exact hn))
  refine ⟨g y, ?_, ?_⟩
  · show d.K w (proj (g y)) cs
    rw [hg]; exact hK
  · show G (proj (g y))
    rw [hg]; exact hG
theorem opens_zero {α : Type} {F : Kd α → Kd α} {sz : Nat} {E : List Nat} {G : α → Prop} (hc : P.cellsOf t = sz) : OpensLe P t (Kd.upto F sz E 0) G 0 :=
  ⟨hc, fun H enc w fuel hf cs x hx _ => by
    obtain rfl : fuel = 0 := by omega
    simp [DataW.trod] at hx⟩
theorem opens_fix {α : Type} {F : Kd α → Kd α} {sz : Nat} {E : List Nat} {hs : ∀ n, (Kd.upto F sz E n).sz = sz} {hE : ∀ n q, q ∈ (Kd.upto F sz E n).E → q ∈ E} {GN : Nat → α → Prop} (h : ∀ n, OpensLe P t (Kd.upto F sz E n) (GN n) n) {m : Nat} :
    OpensLe P t (Kd.fix F sz E hs hE) (fun x => ∃ n, GN n x) m :=
  ⟨(h 0).1.trans (hs 0), fun H enc w fuel _ cs x hx hz => by
    obtain ⟨y, h1, h2⟩ := (h fuel).2 H enc w fuel (Nat.le_refl _) cs x hx hz
    exact ⟨y, ⟨fuel, h1⟩, fuel, h2⟩⟩
theorem weights_of {H : Type} {ts : List TypeId} {ds : List (DataW H)} (h : (DataW.weightsEach P ts ds).all (· ≤ reachBytes) = true) {j : Nat} {t : TypeId} {d : DataW H} (ht : ts[j]? = some t) (hd : ds[j]? = some d) : ∀ n ∈ d.weights P t, n ≤ reachBytes := by
  intro n hn
  have := List.all_eq_true.1 h _ (DataW.weights_mem_each ht hd n hn)
  simpa using this
theorem cells_agg {cs : Array Value} {l : List Value} (h : (Value.agg cs).cells.toList = l) : cs = l.toArray := by
  rw [← h]; simp [Value.cells]
theorem one_int {w : World} {r : Reach} {base : Nat} {v : Value} {k : IntKind} {y : Int} (ht : P.underlying t = some (.int k)) (hv : Value.okWide P w r base t v) {W : World} (h : (Kd.int k).K W y v.cells.toList) : v = .int k y := by
  have h' : v.cells.toList = [.int k y] := h
  simp only [Value.okWide, ht, Cell.okWide] at hv
  cases v <;> simp_all [Cell.ok, Value.cells]
theorem one_bool {w : World} {r : Reach} {base : Nat} {v : Value} {y : Bool} (ht : P.underlying t = some .bool) (hv : Value.okWide P w r base t v) {W : World} (h : Kd.bool.K W y v.cells.toList) : v = .bool y := by
  have h' : v.cells.toList = [.bool y] := h
  simp only [Value.okWide, ht, Cell.okWide] at hv
  cases v <;> simp_all [Cell.ok, Value.cells]
theorem one_string {w : World} {r : Reach} {base : Nat} {v : Value} {y : ByteArray} (ht : P.underlying t = some .string) (hv : Value.okWide P w r base t v) {W : World} (h : Kd.string.K W y v.cells.toList) : v = .string y := by
  have h' : v.cells.toList = [.string y] := h
  simp only [Value.okWide, ht, Cell.okWide] at hv
  cases v <;> simp_all [Cell.ok, Value.cells]
end
end Go.Proofs.Ytneihjdkaogkiaa.Opn
