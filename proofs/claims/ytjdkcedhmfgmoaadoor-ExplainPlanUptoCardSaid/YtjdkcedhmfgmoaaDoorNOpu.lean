/- What reads as data, where its bulk is bounded, stands for typed values (the session's own words). -/
import Derived.Test.YtjdkcedhmfgmoaaDoorNOpS
import Derived.Test.YtjdkcedhmfgmoaaDoorRows
namespace Go.Proofs.YtjdkcedhmfgmoaaDoor
open Go Go.Eng Go.RowKit Go.Proofs
set_option linter.unusedVariables false
set_option linter.unusedSimpArgs false
theorem bulk_one {H : Type} (d : DataW H) : 1 ≤ Rows.uptoBulk d := by
  cases d with
  | lit l => cases l <;> simp [Rows.uptoBulk]
  | nil => simp [Rows.uptoBulk]
  | ptr d => simp [Rows.uptoBulk]
  | slice elems spare => simp [Rows.uptoBulk]
  | agg parts => simp [Rows.uptoBulk]
  | iface t d => simp [Rows.uptoBulk]
  | map entries => simp [Rows.uptoBulk]
  | held h => simp [Rows.uptoBulk]
theorem bulk_part {H : Type} {d : DataW H} {l : List (DataW H)} (h : d ∈ l) : Rows.uptoBulk d ≤ Rows.uptoBulkAll l := by
  induction l with
  | nil => cases h
  | cons x r ih =>
    simp only [Rows.uptoBulkAll]
    cases List.mem_cons.1 h with
    | inl e => subst e; omega
    | inr e => have := ih e; omega
theorem bulk_len {H : Type} (l : List (DataW H)) : l.length ≤ Rows.uptoBulkAll l := by
  induction l with
  | nil => simp [Rows.uptoBulkAll]
  | cons x r ih => have := bulk_one x; simp only [Rows.uptoBulkAll, List.length_cons]; omega
/-- what reads as data of type t (with so much fuel) stands for a value of which G holds -/
def OpU {α : Type} (P : Program) (t : TypeId) (enc : α → List D) (G : α → Prop) (m : Nat) : Prop :=
  ∀ (H : Type) (en : TypeId × Value → H) (w : World) (fuel : Nat), fuel ≤ m → ∀ (cs : List Value) (x : DataW H × List MemPlace),
    DataW.trod en P w 0 (fun _ => true) true fuel t cs = some x → Rows.uptoBulk x.1 ≤ 1048576 → ∃ y, G y ∧ Cs (FZw w) cs (enc y)
section
variable {P : Program} {t e : TypeId} {m : Nat}
theorem opu_int {k : IntKind} (h : P.underlying t = some (.int k)) (m : Nat) : OpU P t (fun x : Int => [.v (.int k x)]) (fun x => (Lit.int k x).wf = true) m := by
  intro H en w fuel _ cs x hx hu
  obtain ⟨n, rfl, rfl, hw⟩ := DataW.trod_int h hx
  exact ⟨n, hw, Cs.one (.v _)⟩
theorem opu_bool (h : P.underlying t = some .bool) (m : Nat) : OpU P t (fun x : Bool => [.v (.bool x)]) (fun _ => True) m := by
  intro H en w fuel _ cs x hx hu
  obtain ⟨b, rfl, rfl⟩ := DataW.trod_bool h hx
  exact ⟨b, trivial, Cs.one (.v _)⟩
theorem opu_string (h : P.underlying t = some .string) (m : Nat) : OpU P t (fun x : ByteArray => [.v (.string x)]) (fun x => x.size ≤ 1048576) m := by
  intro H en w fuel _ cs x hx hu
  obtain ⟨s, rfl, rfl, hs⟩ := DataW.trod_string h hx
  simp only [Rows.uptoBulk] at hu
  exact ⟨s, by have : s.size = s.data.toList.length := by simp
               omega, Cs.one (.v _)⟩
theorem opu_map {α β : Type} {enc : α → List D} {enc' : β → List D} {G : α → Prop} {G' : β → Prop} (h : OpU P t enc G m) (g : α → β) (he : ∀ y, enc' (g y) = enc y) (hG : ∀ y, G y → G' (g y)) : OpU P t enc' G' m := by
  intro H en w fuel hf cs x hx hu
  obtain ⟨y, h1, h2⟩ := h H en w fuel hf cs x hx hu
  exact ⟨g y, hG y h1, by rw [he]; exact h2⟩
theorem opu_le {α : Type} {enc : α → List D} {G : α → Prop} {m' : Nat} (h : OpU P t enc G m) (hm : m' ≤ m) : OpU P t enc G m' := fun H en w fuel hf => h H en w fuel (Nat.le_trans hf hm)
theorem opu_slice {α : Type} {enc : α → List D} {G : α → Prop} {k : Nat} (h : P.underlying t = some (.slice e)) (hk : P.cellsOf e = k) (h0 : 0 < k) (hl : ∀ y, (enc y).length = k) (h1 : ∀ y, (enc y).all one = true) (m : Nat) (ho : OpU P e enc G m) :
    OpU P t (fun xs : List α => [.sl (xs.map enc)]) (fun xs => xs.length ≤ 1048576 ∧ ∀ x ∈ xs, G x) m := by
  intro H en w fuel hfu cs x hx hu
  rcases DataW.trod_slice h hx with ⟨rfl, rfl⟩ | ⟨a, len, cap, elems, rest, n, rfl, rfl, rfl, _, hlc, hm, hlen, hel, _, _⟩
  · exact ⟨[], ⟨Nat.zero_le _, fun x hx => by cases hx⟩, Cs.one (.sl none 0 0 k [] rfl (Nat.le_refl _) ⟨0, 0, none⟩ (fun h => absurd h (Nat.lt_irrefl _)) rfl (fun i hi => absurd hi (Nat.not_lt_zero _)) (fun _ _ => undef) (fun i hi => absurd hi (Nat.not_lt_zero _)) (fun i hi => absurd hi (Nat.not_lt_zero _)))⟩
  · have each : ∀ i, i < len → ∃ (c : List Value) (y : α), c.length = k ∧ Cs (FZw w) c (enc y) ∧ G y ∧ ∀ j, j < k → w.cell? ((a.add (i * k)).add j) = c[j]? := by
      intro i hi
      have h1 := hel i hi
      rw [List.getElem?_eq_getElem (by omega), Option.bind_eq_some_iff] at h1
      have hmem : (elems[i]'(by omega)).1 ∈ elems.map (·.1) := List.mem_map_of_mem (List.getElem_mem _)
      have hbu := bulk_part hmem
      simp only [Rows.uptoBulk] at hu
      obtain ⟨c, hcs, hy⟩ := h1
      obtain ⟨_, hcl, hcell⟩ := World.cells?_some hcs
      obtain ⟨y, hG, hC⟩ := ho H en w n (by omega) c _ hy (by omega)
      rw [hk] at hcl hcell
      exact ⟨c, y, hcl, hC, hG, hcell⟩
    have hall : ∀ q, q ≤ len → ∃ ys : List α, ys.length = q ∧ ∀ i y, ys[i]? = some y → G y ∧ ∃ c : List Value, c.length = k ∧ Cs (FZw w) c (enc y) ∧ ∀ j, j < k → w.cell? ((a.add (i * k)).add j) = c[j]? := by
      intro q
      induction q with
      | zero => exact fun _ => ⟨[], rfl, fun i y hy => by simp at hy⟩
      | succ q ih =>
        intro hq
        obtain ⟨ys, hyl, hys⟩ := ih (by omega)
        obtain ⟨c, y, q1, q2, q3, q4⟩ := each q (by omega)
        refine ⟨ys ++ [y], by simp [hyl], fun i z hz => ?_⟩
        rcases Nat.lt_or_ge i q with hi | hi
        · rw [List.getElem?_append_left (by omega)] at hz
          exact hys i z hz
        · have hik : i = q := by have := (List.getElem?_eq_some_iff.1 hz).1; simp at this; omega
          subst hik
          rw [List.getElem?_append_right (by omega), hyl] at hz
          simp at hz
          subst hz
          exact ⟨q3, c, q1, q2, q4⟩
    obtain ⟨ys, hyl, hys⟩ := hall len (Nat.le_refl _)
    have hbl := bulk_len (elems.map (·.1))
    simp only [Rows.uptoBulk, List.length_map] at hu hbl
    refine ⟨ys, ⟨by omega, fun y hy => ?_⟩, ?_⟩
    · obtain ⟨i, hi⟩ := List.getElem?_of_mem hy
      exact (hys i y hi).1
    refine Cs.one ?_
    have hlm : ∀ i (hi : i < (ys.map enc).length), ((ys.map enc)[i]).length = k := fun i hi => by rw [List.getElem_map]; exact hl _
    have hsp : 0 < len → a.spot = none := fun hp => by
      obtain ⟨c, y, q1, q2, q3, q4⟩ := each 0 hp
      have := q4 0 h0
      rw [List.getElem?_eq_getElem (by omega)] at this
      have hz := World.cell?_spot this
      simpa [Addr.add] using hz
    have hcell : ∀ i (hi : i < (ys.map enc).length) j (hj : j < ((ys.map enc)[i]).length), ∃ y, FZw w a.block (a.off + i * k + j) = some y ∧ Rp (FZw w) y ((ys.map enc)[i][j]) := by
      intro i hi j hj
      have hi' : i < ys.length := by simpa using hi
      have hj' : j < k := by rw [hlm i hi] at hj; exact hj
      obtain ⟨_, c, q1, q2, q3⟩ := hys i ys[i] (List.getElem?_eq_getElem hi')
      have hc := q3 j hj'
      have hjc : j < c.length := by omega
      rw [List.getElem?_eq_getElem hjc] at hc
      have hje : j < (enc ys[i]).length := by rw [hl]; exact hj'
      have hr := q2.2 j hje hjc
      have h1j : one (enc ys[i])[j] = true := List.all_eq_true.1 (h1 _) _ (List.getElem_mem hje)
      have hone := rp_one hr h1j
      have hadd : (a.add (i * k)).add j = ⟨a.block, a.off + i * k + j, none⟩ := by
        have hs := hsp (by omega)
        obtain ⟨b, o, s⟩ := a
        simp only at hs
        subst hs
        rw [addr_add, addr_add]
      rw [hadd] at hc
      refine ⟨c[j], ?_, by simpa using hr⟩
      unfold FZw
      rw [hc]
      simp [hone]
    by_cases hp : 0 < len
    · refine .sl _ len cap k _ (by simp [hyl]) hlc a (fun _ => rfl) (hsp hp) hlm (fun i j => if hi : i < (ys.map enc).length then (if hj : j < ((ys.map enc)[i]).length then (hcell i hi j hj).choose else undef) else undef) (fun i hi j hj => ?_) (fun i hi j hj => ?_)
      · simp only [hi, hj, dif_pos]; exact (hcell i hi j hj).choose_spec.1
      · simp only [hi, hj, dif_pos]; exact (hcell i hi j hj).choose_spec.2
    · have hy0 : ys = [] := List.eq_nil_of_length_eq_zero (by omega)
      subst hy0
      have hl0 : len = 0 := by omega
      subst hl0
      exact .sl _ 0 cap k _ rfl (Nat.zero_le _) ⟨0, 0, none⟩ (fun h => absurd h (Nat.lt_irrefl _)) rfl (fun i hi => absurd hi (Nat.not_lt_zero _)) (fun _ _ => undef) (fun i hi => absurd hi (Nat.not_lt_zero _)) (fun i hi => absurd hi (Nat.not_lt_zero _))
/-- a struct's fields, from one on -/
def FsU {α : Type} (P : Program) (fs : List Field) (o : Nat) (n : Nat) (enc : α → List D) (G : α → Prop) (m : Nat) : Prop :=
  ∀ (H : Type) (en : TypeId × Value → H) (w : World) (fuel : Nat), fuel ≤ m → ∀ (cs : List Value) (xs : List (DataW H × List MemPlace)), cs.length = o + n → xs.length = fs.length → Rows.uptoBulkAll (xs.map (·.1)) ≤ 1048576 →
    (∀ (i : Nat) (f : Field), fs[i]? = some f → DataW.trod en P w 0 (fun _ => true) true fuel f.type ((cs.drop f.offset).take (P.cellsOf f.type)) = xs[i]?) → ∃ y, G y ∧ Cs (FZw w) (cs.drop o) (enc y)
theorem fsu_one {α : Type} {enc : α → List D} {G : α → Prop} {f : Field} {n : Nat} (h : OpU P f.type enc G m) (hn : P.cellsOf f.type = n) : FsU P [f] f.offset n enc G m := by
  intro H en w fuel hfu cs xs hl hxl hu hx
  match xs, hxl with
  | [x], _ =>
    have h0 := hx 0 f rfl
    rw [hn, List.take_of_length_le (by rw [List.length_drop]; omega)] at h0
    simp only [List.map_cons, List.map_nil, Rows.uptoBulkAll] at hu
    exact h H en w fuel hfu _ x h0 (by omega)
theorem fsu_cons {α β : Type} {enc : α → List D} {enc' : β → List D} {G : α → Prop} {G' : β → Prop} {f : Field} {fs : List Field} {o n k : Nat} (h : OpU P f.type enc G m) (hk : P.cellsOf f.type = k) (hs : FsU P fs o n enc' G' m) (ho : o = f.offset + k) :
    FsU P (f :: fs) f.offset (k + n) (fun y : α × β => enc y.1 ++ enc' y.2) (fun y => G y.1 ∧ G' y.2) m := by
  intro H en w fuel hfu cs xs hl hxl hu hx
  match xs, hxl with
  | x :: xs, hxl =>
    have h0 := hx 0 f rfl
    rw [hk] at h0
    simp only [List.map_cons, Rows.uptoBulkAll] at hu
    obtain ⟨y0, g0, c0⟩ := h H en w fuel hfu _ x h0 (by omega)
    obtain ⟨y1, g1, c1⟩ := hs H en w fuel hfu cs xs (by omega) (by simpa using hxl) (by omega) (fun i g hg => by have := hx (i + 1) g (by simpa using hg); simpa using this)
    refine ⟨(y0, y1), ⟨g0, g1⟩, ?_⟩
    have : cs.drop f.offset = (cs.drop f.offset).take k ++ cs.drop o := by
      rw [ho, ← List.drop_drop, List.take_append_drop]
    rw [this]
    exact c0.app c1
theorem opu_struct {α : Type} {enc : α → List D} {G : α → Prop} {fs : Array Field} {n : Nat} (h : P.underlying t = some (.struct fs)) (hc : P.cellsOf t = n) (hf : FsU P fs.toList 0 n enc G m) : OpU P t enc G (m + 1) := by
  intro H en w fuel hfu cs x hx hu
  obtain ⟨xs, n', rfl, rfl, hl, hxl, hget⟩ := DataW.trod_struct h hx
  obtain ⟨y, hG, hC⟩ := hf H en w n' (by omega) cs xs (by rw [hl, hc, Nat.zero_add]) (by simpa using hxl) (by simp only [Rows.uptoBulk] at hu; omega) (fun i f hi => hget i f (by simpa using hi))
  exact ⟨y, hG, by simpa using hC⟩
theorem opu_zero {α : Type} {enc : α → List D} {G : α → Prop} : OpU P t enc G 0 := fun H en w fuel hf cs x hx hu => by
  obtain rfl : fuel = 0 := by omega
  simp [DataW.trod] at hx
end
end Go.Proofs.YtjdkcedhmfgmoaaDoor
