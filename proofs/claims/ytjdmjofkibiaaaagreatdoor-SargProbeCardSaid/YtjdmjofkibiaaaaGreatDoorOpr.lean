/- What reads as data, where each part is within reach, stands for typed values (the session's own words). -/
import Derived.Test.YtjdmjofkibiaaaaGreatDoorOpS
namespace Go.Proofs.YtjdmjofkibiaaaaGreatDoor
open Go Go.Eng Go.RowKit Go.Proofs
set_option linter.unusedVariables false
set_option linter.unusedSimpArgs false
theorem wts_part {H : Type} {P : Program} {e : TypeId} {d : DataW H} {l : List (DataW H)} (h : d ∈ l) (ha : (DataW.weightsAll P e l).all (· ≤ reachBytes) = true) : (DataW.weights P e d).all (· ≤ reachBytes) = true := by
  induction l with
  | nil => cases h
  | cons x r ih =>
    simp only [DataW.weightsAll, List.all_append, Bool.and_eq_true] at ha
    cases List.mem_cons.1 h with
    | inl e => subst e; exact ha.1
    | inr e => exact ih e ha.2
/-- what reads as data of type t (with so much fuel) stands for a value of which G holds -/
def OpR {α : Type} (P : Program) (t : TypeId) (enc : α → List D) (G : α → Prop) (m : Nat) : Prop :=
  ∀ (H : Type) (en : TypeId × Value → H) (w : World) (fuel : Nat), fuel ≤ m → ∀ (cs : List Value) (x : DataW H × List MemPlace),
    DataW.trod en P w 0 (fun _ => true) true fuel t cs = some x → (DataW.weights P t x.1).all (· ≤ reachBytes) = true → ∃ y, G y ∧ Cs (FZw w) cs (enc y)
section
variable {P : Program} {t e : TypeId} {m : Nat}
theorem opr_int {k : IntKind} (h : P.underlying t = some (.int k)) (m : Nat) : OpR P t (fun x : Int => [.v (.int k x)]) (fun x => (Lit.int k x).wf = true) m := by
  intro H en w fuel _ cs x hx hu
  obtain ⟨n, rfl, rfl, hw⟩ := DataW.trod_int h hx
  exact ⟨n, hw, Cs.one (.v _)⟩
theorem opr_bool (h : P.underlying t = some .bool) (m : Nat) : OpR P t (fun x : Bool => [.v (.bool x)]) (fun _ => True) m := by
  intro H en w fuel _ cs x hx hu
  obtain ⟨b, rfl, rfl⟩ := DataW.trod_bool h hx
  exact ⟨b, trivial, Cs.one (.v _)⟩
theorem opr_string (h : P.underlying t = some .string) (m : Nat) : OpR P t (fun x : ByteArray => [.v (.string x)]) (fun x => x.size ≤ 140737488351232) m := by
  intro H en w fuel _ cs x hx hu
  obtain ⟨s, rfl, rfl, hs⟩ := DataW.trod_string h hx
  simp only [DataW.weights, List.all_cons, List.all_nil, Bool.and_true, decide_eq_true_eq] at hu
  unfold reachBytes at hu
  exact ⟨s, by have : s.size = s.data.toList.length := by simp
               omega, Cs.one (.v _)⟩
theorem opr_map {α β : Type} {enc : α → List D} {enc' : β → List D} {G : α → Prop} {G' : β → Prop} (h : OpR P t enc G m) (g : α → β) (he : ∀ y, enc' (g y) = enc y) (hG : ∀ y, G y → G' (g y)) : OpR P t enc' G' m := by
  intro H en w fuel hf cs x hx hu
  obtain ⟨y, h1, h2⟩ := h H en w fuel hf cs x hx hu
  exact ⟨g y, hG y h1, by rw [he]; exact h2⟩
theorem opr_le {α : Type} {enc : α → List D} {G : α → Prop} {m' : Nat} (h : OpR P t enc G m) (hm : m' ≤ m) : OpR P t enc G m' := fun H en w fuel hf => h H en w fuel (Nat.le_trans hf hm)
theorem opr_sliceB {α : Type} {enc : α → List D} {G : α → Prop} {k : Nat} (h : P.underlying t = some (.slice e)) (hk : P.cellsOf e = k) (h0 : 0 < k) (hb : 0 < P.bytesOf e) (hl : ∀ y, (enc y).length = k) (h1 : ∀ y, (enc y).all Eng.one = true) (m : Nat) (ho : OpR P e enc G m) :
    OpR P t (fun xs : List α => [.sl (xs.map enc)]) (fun xs => xs.length * P.bytesOf e ≤ 140737488351232 ∧ ∀ x ∈ xs, G x) m := by
  intro H en w fuel hfu cs x hx hu
  rcases DataW.trod_slice h hx with ⟨rfl, rfl⟩ | ⟨a, len, cap, elems, rest, n, rfl, rfl, rfl, _, hlc, hm, hlen, hel, _, _⟩
  · exact ⟨[], ⟨by simp, fun x hx => by cases hx⟩, Cs.one (.sl none 0 0 k [] rfl (Nat.le_refl _) ⟨0, 0, none⟩ (fun h => absurd h (Nat.lt_irrefl _)) rfl (fun i hi => absurd hi (Nat.not_lt_zero _)) (fun _ _ => undef) (fun i hi => absurd hi (Nat.not_lt_zero _)) (fun i hi => absurd hi (Nat.not_lt_zero _)))⟩
  · simp only [DataW.weights, h, List.all_cons, List.all_append, Bool.and_eq_true, decide_eq_true_eq] at hu
    unfold reachBytes at hu
    replace hu : ((elems.map (·.1)).length + (rest.map (·.1)).length) * P.bytesOf e ≤ 140737488351232 ∧ (DataW.weightsAll P e (elems.map (·.1))).all (· ≤ reachBytes) = true := ⟨hu.1, hu.2.1⟩
    have each : ∀ i, i < len → ∃ (c : List Value) (y : α), c.length = k ∧ Cs (FZw w) c (enc y) ∧ G y ∧ ∀ j, j < k → w.cell? ((a.add (i * k)).add j) = c[j]? := by
      intro i hi
      have h1 := hel i hi
      rw [List.getElem?_eq_getElem (by omega), Option.bind_eq_some_iff] at h1
      have hmem : (elems[i]'(by omega)).1 ∈ elems.map (·.1) := List.mem_map_of_mem (List.getElem_mem _)
      have hbu := wts_part hmem hu.2
      obtain ⟨c, hcs, hy⟩ := h1
      obtain ⟨_, hcl, hcell⟩ := World.cells?_some hcs
      obtain ⟨y, hG, hC⟩ := ho H en w n (by omega) c _ hy hbu
      rw [hk] at hcl hcell
      exact ⟨c, y, hcl, hC, hG, hcell⟩
    have hall : ∀ q, q ≤ len → ∃ ys : List α, ys.length = q ∧ ∀ i y, ys[i]? = some y → G y ∧ ∃ c : List Value, c.length = k ∧ Cs (FZw w) c (enc y) ∧ ∀ j, j < k → w.cell? ((a.add (i * k)).add j) = c[j]? := by
      intro q
      induction q with
      | zero => exact fun _ => ⟨[], rfl, fun i y hy => by simp at hy⟩
      | succ q ih =>
        intro hq
        obtain ⟨ys, hyl, hys⟩ := ih (by omega)
        obtain ⟨c, y, q1, q2, q3, q4⟩ := each q (by omega)
        refine ⟨ys ++ [y], by simp [hyl], fun i z hz => ?_⟩
        rcases Nat.lt_or_ge i q with hi | hi
        · rw [List.getElem?_append_left (by omega)] at hz
          exact hys i z hz
        · have hik : i = q := by have := (List.getElem?_eq_some_iff.1 hz).1; simp at this; omega
          subst hik
          rw [List.getElem?_append_right (by omega), hyl] at hz
          simp at hz
          subst hz
          exact ⟨q3, c, q1, q2, q4⟩
    obtain ⟨ys, hyl, hys⟩ := hall len (Nat.le_refl _)
    have hbl := hu.1
    simp only [List.length_map] at hbl
    have hbl : ys.length * P.bytesOf e ≤ 140737488351232 := Nat.le_trans (Nat.mul_le_mul_right _ (by omega)) hbl
    refine ⟨ys, ⟨hbl, fun y hy => ?_⟩, ?_⟩
    · obtain ⟨i, hi⟩ := List.getElem?_of_mem hy
      exact (hys i y hi).1
    refine Cs.one ?_
    have hlm : ∀ i (hi : i < (ys.map enc).length), ((ys.map enc)[i]).length = k := fun i hi => by rw [List.getElem_map]; exact hl _
    have hsp : 0 < len → a.spot = none := fun hp => by
      obtain ⟨c, y, q1, q2, q3, q4⟩ := each 0 hp
      have := q4 0 h0
      rw [List.getElem?_eq_getElem (by omega)] at this
      have hz := World.cell?_spot this
      simpa [Addr.add] using hz
    have hcell : ∀ i (hi : i < (ys.map enc).length) j (hj : j < ((ys.map enc)[i]).length), ∃ y, FZw w a.block (a.off + i * k + j) = some y ∧ Rp (FZw w) y ((ys.map enc)[i][j]) := by
      intro i hi j hj
      have hi' : i < ys.length := by simpa using hi
      have hj' : j < k := by rw [hlm i hi] at hj; exact hj
      obtain ⟨_, c, q1, q2, q3⟩ := hys i ys[i] (List.getElem?_eq_getElem hi')
      have hc := q3 j hj'
      have hjc : j < c.length := by omega
      rw [List.getElem?_eq_getElem hjc] at hc
      have hje : j < (enc ys[i]).length := by rw [hl]; exact hj'
      have hr := q2.2 j hje hjc
      have h1j : Eng.one (enc ys[i])[j] = true := List.all_eq_true.1 (h1 _) _ (List.getElem_mem hje)
      have hone := rp_one hr h1j
      have hadd : (a.add (i * k)).add j = ⟨a.block, a.off + i * k + j, none⟩ := by
        have hs := hsp (by omega)
        obtain ⟨b, o, s⟩ := a
        simp only at hs
        subst hs
        rw [addr_add, addr_add]
      rw [hadd] at hc
      refine ⟨c[j], ?_, by simpa using hr⟩
      unfold FZw
      rw [hc]
      simp [hone]
    by_cases hp : 0 < len
    · refine .sl _ len cap k _ (by simp [hyl]) hlc a (fun _ => rfl) (hsp hp) hlm (fun i j => if hi : i < (ys.map enc).length then (if hj : j < ((ys.map enc)[i]).length then (hcell i hi j hj).choose else undef) else undef) (fun i hi j hj => ?_) (fun i hi j hj => ?_)
      · simp only [hi, hj, dif_pos]; exact (hcell i hi j hj).choose_spec.1
      · simp only [hi, hj, dif_pos]; exact (hcell i hi j hj).choose_spec.2
    · have hy0 : ys = [] := List.eq_nil_of_length_eq_zero (by omega)
      subst hy0
      have hl0 : len = 0 := by omega
      subst hl0
      exact .sl _ 0 cap k _ rfl (Nat.zero_le _) ⟨0, 0, none⟩ (fun h => absurd h (Nat.lt_irrefl _)) rfl (fun i hi => absurd hi (Nat.not_lt_zero _)) (fun _ _ => undef) (fun i hi => absurd hi (Nat.not_lt_zero _)) (fun i hi => absurd hi (Nat.not_lt_zero _))
theorem opr_slice {α : Type} {enc : α → List D} {G : α → Prop} {k : Nat} (h : P.underlying t = some (.slice e)) (hk : P.cellsOf e = k) (h0 : 0 < k) (hb : 0 < P.bytesOf e) (hl : ∀ y, (enc y).length = k) (h1 : ∀ y, (enc y).all Eng.one = true) (m : Nat) (ho : OpR P e enc G m) :
    OpR P t (fun xs : List α => [.sl (xs.map enc)]) (fun xs => xs.length ≤ 140737488351232 ∧ ∀ x ∈ xs, G x) m :=
  opr_map (opr_sliceB h hk h0 hb hl h1 m ho) (fun y => y) (fun _ => rfl) fun y hy => ⟨Nat.le_trans (Nat.le_mul_of_pos_right _ hb) hy.1, hy.2⟩
/-- a struct's fields, from one on -/
def FsR {α : Type} (P : Program) (fs : List Field) (o : Nat) (n : Nat) (enc : α → List D) (G : α → Prop) (m : Nat) : Prop :=
  ∀ (H : Type) (en : TypeId × Value → H) (w : World) (fuel : Nat), fuel ≤ m → ∀ (cs : List Value) (xs : List (DataW H × List MemPlace)), cs.length = o + n → xs.length = fs.length → (DataW.weightsEach P (fs.map (·.type)) (xs.map (·.1))).all (· ≤ reachBytes) = true →
    (∀ (i : Nat) (f : Field), fs[i]? = some f → DataW.trod en P w 0 (fun _ => true) true fuel f.type ((cs.drop f.offset).take (P.cellsOf f.type)) = xs[i]?) → ∃ y, G y ∧ Cs (FZw w) (cs.drop o) (enc y)
theorem fsr_one {α : Type} {enc : α → List D} {G : α → Prop} {f : Field} {n : Nat} (h : OpR P f.type enc G m) (hn : P.cellsOf f.type = n) : FsR P [f] f.offset n enc G m := by
  intro H en w fuel hfu cs xs hl hxl hu hx
  match xs, hxl with
  | [x], _ =>
    have h0 := hx 0 f rfl
    rw [hn, List.take_of_length_le (by rw [List.length_drop]; omega)] at h0
    simp only [List.map_cons, List.map_nil, DataW.weightsEach, List.append_nil] at hu
    exact h H en w fuel hfu _ x h0 hu
theorem fsr_cons {α β : Type} {enc : α → List D} {enc' : β → List D} {G : α → Prop} {G' : β → Prop} {f : Field} {fs : List Field} {o n k : Nat} (h : OpR P f.type enc G m) (hk : P.cellsOf f.type = k) (hs : FsR P fs o n enc' G' m) (ho : o = f.offset + k) :
    FsR P (f :: fs) f.offset (k + n) (fun y : α × β => enc y.1 ++ enc' y.2) (fun y => G y.1 ∧ G' y.2) m := by
  intro H en w fuel hfu cs xs hl hxl hu hx
  match xs, hxl with
  | x :: xs, hxl =>
    have h0 := hx 0 f rfl
    rw [hk] at h0
    simp only [List.map_cons, DataW.weightsEach, List.all_append, Bool.and_eq_true] at hu
    obtain ⟨y0, g0, c0⟩ := h H en w fuel hfu _ x h0 hu.1
    obtain ⟨y1, g1, c1⟩ := hs H en w fuel hfu cs xs (by omega) (by simpa using hxl) hu.2 (fun i g hg => by have := hx (i + 1) g (by simpa using hg); simpa using this)
    refine ⟨(y0, y1), ⟨g0, g1⟩, ?_⟩
    have : cs.drop f.offset = (cs.drop f.offset).take k ++ cs.drop o := by
      rw [ho, ← List.drop_drop, List.take_append_drop]
    rw [this]
    exact c0.app c1
theorem opr_struct {α : Type} {enc : α → List D} {G : α → Prop} {fs : Array Field} {n : Nat} (h : P.underlying t = some (.struct fs)) (hc : P.cellsOf t = n) (hf : FsR P fs.toList 0 n enc G m) : OpR P t enc G (m + 1) := by
  intro H en w fuel hfu cs x hx hu
  obtain ⟨xs, n', rfl, rfl, hl, hxl, hget⟩ := DataW.trod_struct h hx
  obtain ⟨y, hG, hC⟩ := hf H en w n' (by omega) cs xs (by rw [hl, hc, Nat.zero_add]) (by simpa using hxl) (by simpa only [DataW.weights, h] using hu) (fun i f hi => hget i f (by simpa using hi))
  exact ⟨y, hG, by simpa using hC⟩
theorem opr_zero {α : Type} {enc : α → List D} {G : α → Prop} : OpR P t enc G 0 := fun H en w fuel hf cs x hx hu => by
  obtain rfl : fuel = 0 := by omega
  simp [DataW.trod] at hx
end
end Go.Proofs.YtjdmjofkibiaaaaGreatDoor
