/- strings.Builder: contracts (the session's own words). -/
import Derived.Test.YtjdmjofkibiaaaaGreatDoorBld
import Derived.Test.YtjdmjofkibiaaaaGreatDoorPdb
namespace Go.Proofs.YtjdmjofkibiaaaaGreatDoor
open Go Go.Eng Go.RowKit Go.Proofs
set_option linter.unusedVariables false
set_option linter.unusedSimpArgs false
theorem heap_set0 {w : World} {g : Nat} {xs : Array Value} {e : TypeId} {fr : Nat × Nat} {v : Value} (hg : w.heap[g]? = some (.cells xs e fr)) : (w.setCell ⟨g, 0, none⟩ v).heap[g]? = some (.cells (xs.setIfInBounds 0 v) e fr) := by
  unfold World.setCell
  simp [Array.getElem?_modify, hg]
theorem heap_setO {w : World} {g k : Nat} {v : Value} (h : k ≠ g) : (w.setCell ⟨g, 0, none⟩ v).heap[k]? = w.heap[k]? := by
  unfold World.setCell
  simp only [Array.getElem?_modify]
  rw [if_neg (fun e => h e.symm)]
/-- a variable that was handed in, and its place -/
theorem hand1 {Z : FZ} {w : World} {O0 : OM} {vs : Array Value} {cs : List D} (hl : vs.size = 1) (hR : ∀ i (h : i < [D.bp OB 0].length) (h' : i < vs.size), RV Z O0 w (.t i) vs[i] [D.bp OB 0][i])
    (hos : ∀ i c, [cs][i]? = some c → BV Z O0 w (OB + i) c) (huq : ∀ g g' b, O0 g = .box b → O0 g' = .box b → g = g') :
    ∃ g xs e, vs = #[.pointer (some ⟨g, 0, none⟩)] ∧ O0 g = .box OB ∧ Hp w g xs e ∧ cs.length ≤ xs.size ∧ (∀ j (h : j < cs.length) (h' : j < xs.size), RV Z O0 w (.b OB j) xs[j] cs[j] ∧ xs[j].oneCell' = true) ∧ (∀ o, Z g o = none) ∧ bok g xs e cs := by
  obtain ⟨a, rfl, ha⟩ := arg1 hl hR
  obtain ⟨g, h1, rfl⟩ := ha
  obtain ⟨g', xs, e, h2, h3⟩ := hos 0 cs rfl
  have := huq g g' OB h1 h2
  subst this
  exact ⟨g, xs, e, rfl, h1, h3⟩
theorem sCopyCheck {ds : List D} {os : List (List D)} {r : D} {os' : List (List D)} (h : pCopyCheck ds os = some (r, os')) : Contract Tryz.prog 155 ds os r os' := by
  unfold pCopyCheck at h
  split at h
  · rename_i b T c1
    split at h
    · rename_i hc
      obtain ⟨rfl, rfl, h1c⟩ := hc
      cases h
      intro Z w vs O0 hA hB hl hR hos huq hob hlt hG hN
      obtain ⟨g, xs, e, rfl, hO, hgH, hsz, hcs, hZ, hok⟩ := hand1 hl hR hos huq
      obtain ⟨fr, hg, hfr⟩ := id hgH
      obtain ⟨he, hxs, h0⟩ := hok.ty _ _ rfl
      subst he
      have hxs2 : xs.size = 2 := hxs
      have hc0 : w.cell? ⟨g, 0, none⟩ = xs[0]? := by rw [cell_of_row w g 0 xs _ fr hg]
      rcases h0 with h0 | h0
      · refine (copy_fresh g w (hc0.trans h0) (by simp [World.shape?, hg, hxs2]) (hgH.free 0 (by omega))).mono fun e w' hw => ?_
        obtain ⟨rfl, rfl⟩ := hw
        have hg2 := heap_set0 (v := .pointer (some ⟨g, 0, none⟩)) hg
        refine ⟨_, Z, O0, rfl, FZ.le_refl Z, fun b o y hy => .inl hy, fun b o y hy => ?_, rfl, rfl, rfl, by simp [World.setCell], fun k hk hk0 => heap_setO fun e => (by rw [e, hO] at hk0; cases hk0), rfl, fun i cs hi => ?_, fun g b => Iff.rfl, fun g' hg' => ⟨.inr hg', by simpa [World.setCell] using hlt g' hg'⟩, ?_⟩
        · obtain ⟨q1, q2⟩ := hA b o y hy
          have hne : b ≠ g := fun e => by rw [e, hZ] at hy; cases hy
          exact ⟨(World.cell?_of_block (heap_setO hne)).trans q1, q2⟩
        · cases i with
          | succ i => simp at hi
          | zero =>
            simp only [List.getElem?_cons_zero, Option.some.injEq] at hi
            subst hi
            refine ⟨g, _, _, hO, ⟨fr, hg2, by simpa using hfr⟩, by simpa using hsz, fun j h h' => ?_, hZ, ⟨hok.one, fun T r hT => ?_⟩⟩
            · have hj : j < xs.size := by simpa using h'
              have hh := hcs j h hj
              by_cases hj0 : j = 0
              · subst hj0
                refine ⟨trivial, ?_⟩
                simp [Value.oneCell']
              · obtain rfl : j = 1 := by simp at h; omega
                have e1 : (xs.setIfInBounds 0 (Value.pointer (some ⟨g, 0, none⟩)))[1]'h' = xs[1]'hj := by
                  have : (xs.setIfInBounds 0 (Value.pointer (some ⟨g, 0, none⟩)))[1]? = xs[1]? := by
                    rw [Array.getElem?_setIfInBounds, if_neg (by omega)]
                  rw [Array.getElem?_eq_getElem h', Array.getElem?_eq_getElem hj] at this
                  injection this
                rw [e1]
                refine ⟨hh.1.move (FZ.le_refl Z) (fun _ _ h => h) fun _ g' hg' => ⟨hg', heap_setO fun e => (by rw [e, hO] at hg'; cases hg'), fun _ h => h⟩, hh.2⟩
            · injection hT with hT _
              injection hT with hT
              exact ⟨hT, (by rw [Array.size_setIfInBounds]; exact hxs), .inr (by simp [Array.getElem?_setIfInBounds, hxs2])⟩
        · exact ⟨[], rfl, rfl, fun i hi => absurd hi (Nat.not_lt_zero i)⟩
      · refine (copy_used g w (hc0.trans h0)).mono fun e w' hw => ?_
        obtain ⟨rfl, rfl⟩ := hw
        exact ⟨_, Z, O0, rfl, FZ.le_refl Z, fun b o y hy => .inl hy, hA, rfl, rfl, rfl, Nat.le_refl _, fun _ _ _ => rfl, rfl, hos, fun g b => Iff.rfl, fun g hg => ⟨.inr hg, hlt g hg⟩, ⟨[], rfl, rfl, fun i hi => absurd hi (Nat.not_lt_zero i)⟩⟩
    · cases h
  · cases h
theorem bytesOf_get : ∀ {es : List (List D)} {l : List UInt8}, bytesOf es = some l → l.length = es.length ∧ ∀ (j : Nat) (x : UInt8), l[j]? = some x → es[j]? = some [D.v (.int .u8 (x.toNat : Int))]
  | [], l, h => by
    injection h with h
    subst h
    exact ⟨rfl, fun j x hj => by simp at hj⟩
  | e :: es, l, h => by
    match e, h with
    | [.v (.int .u8 n)], h =>
      simp only [bytesOf] at h
      split at h
      · rename_i hn
        rw [Option.map_eq_some_iff] at h
        obtain ⟨l', h', rfl⟩ := h
        obtain ⟨q1, q2⟩ := bytesOf_get h'
        refine ⟨by simp [q1], fun j x hj => ?_⟩
        cases j with
        | zero =>
          simp only [List.getElem?_cons_zero, Option.some.injEq] at hj ⊢
          subst hj
          have : ((UInt8.ofNat n.toNat).toNat : Int) = n := by
            rw [UInt8.toNat_ofNat_of_lt' (by show n.toNat < 256; omega)]; omega
          rw [this]
        | succ j =>
          simp only [List.getElem?_cons_succ] at hj ⊢
          exact q2 j x hj
      · cases h
theorem heap_fz {w : World} {g k n : Nat} (h : k ≠ g) : (w.drew.freeze ⟨g, 0, none⟩ n).heap[k]? = w.heap[k]? := by
  unfold World.freeze
  split
  · rfl
  · simp only [Array.getElem?_modify]
    rw [if_neg (fun e => h e.symm)]
    rfl
theorem heap_fz0 {w : World} {g n : Nat} {cur : Array Value} {e : TypeId} {fr : Nat × Nat} (hg : w.heap[g]? = some (.cells cur e fr)) : ∃ fz, (w.drew.freeze ⟨g, 0, none⟩ n).heap[g]? = some (.cells cur e fz) := by
  unfold World.freeze
  split
  · exact ⟨_, hg⟩
  · have hg' : w.drew.heap[g]? = some (.cells cur e fr) := hg
    exact ⟨_, by simp only [Array.getElem?_modify, if_true, hg', Option.map_some]; rfl⟩
theorem sString {ds : List D} {os : List (List D)} {r : D} {os' : List (List D)} (h : pString ds os = some (r, os')) : Contract Tryz.prog 116 ds os r os' := by
  unfold pString at h
  split at h
  · rename_i b T e0 k es
    split at h
    · rename_i hc
      obtain ⟨rfl, rfl, rfl, rfl, hne⟩ := hc
      rw [Option.map_eq_some_iff] at h
      obtain ⟨l, hl0, h⟩ := h
      cases h
      obtain ⟨hll, hlg⟩ := bytesOf_get hl0
      intro Z w vs O0 hA hB hl hR hos huq hob hlt hG hN
      obtain ⟨g, xs, e, rfl, hO, hgH, hsz, hcs, hZ, hok⟩ := hand1 hl hR hos huq
      obtain ⟨fr, hg, hfr⟩ := id hgH
      obtain ⟨he, hxs, h0⟩ := hok.ty _ _ rfl
      subst he
      have hxs2 : xs.size = 2 := hxs
      have h1 := hcs 1 (by simp) (by omega)
      rcases h1.1 with ⟨q, _⟩ | ⟨g2, c, cur, q1, q2, q3, q4, q5, q6, q7, q8⟩
      · exact absurd q hne
      · obtain ⟨fr2, q3, hfr2⟩ := q3
        have hgg : g2 ≠ g := fun e => by rw [e, hO] at q2; cases q2
        have hxe : xs = #[xs[0]'(by omega), .slice (some ⟨g2, 0, none⟩) l.length c] := by
          apply Array.ext
          · simp [hxs2]
          · intro i hi hi'
            rcases (by omega : i = 0 ∨ i = 1) with h | h
            · subst h; rfl
            · subst h
              have : xs[1] = .slice (some ⟨g2, 0, none⟩) es.length c := q1
              rw [hll]; exact this
        have hg' : w.heap[g]? = some (.cells #[xs[0]'(by omega), .slice (some ⟨g2, 0, none⟩) l.length c] 201 fr) := by rw [← hxe]; exact hg
        refine (string_some g g2 c l _ cur fr2 fr w hg' q3 (fun e => by subst e; exact hne (List.eq_nil_of_length_eq_zero hll.symm)) (by rw [hll]; exact q4) q5 (by simpa using q6) (fun j x hj => ?_)).mono fun e w' hw => ?_
        · have he := hlg j x hj
          obtain ⟨hj1, hj2⟩ := List.getElem?_eq_some_iff.1 he
          obtain ⟨y, r1, r2⟩ := q7.2 j hj1 0 (by rw [hj2]; simp)
          simp only [hj2, List.getElem_cons_zero] at r2
          have hy : y = .int .u8 x.toNat := by cases r2; rfl
          have := (hA _ _ _ r1).1
          rw [hy] at this
          rw [addr_add]
          simpa using this
        · obtain ⟨rfl, rfl⟩ := hw
          obtain ⟨fz, hf⟩ := heap_fz0 (n := l.length) q3
          have hgw : (w.drew.freeze ⟨g2, 0, none⟩ l.length).heap[g]? = w.heap[g]? := heap_fz hgg.symm
          have hws : (w.drew.freeze ⟨g2, 0, none⟩ l.length).heap.size = w.heap.size := by
            unfold World.freeze
            split
            · rfl
            · rw [Array.size_modify]; rfl
          refine ⟨_, Z, O0, rfl, FZ.le_refl Z, fun b o y hy => .inl hy, fun b o y hy => ?_, ?_, ?_, ?_, by rw [hws]; exact Nat.le_refl _, fun k hk hk0 => heap_fz fun e => (by rw [e, q2] at hk0; cases hk0), rfl, fun i cs hi => ?_, fun g b => Iff.rfl, fun g' hg' => ⟨.inr hg', by rw [hws]; exact hlt g' hg'⟩, .v _⟩
          · obtain ⟨r1, r2⟩ := hA b o y hy
            by_cases hb : b = g2
            · subst hb
              rw [cell_of_row w b o cur _ fr2 q3] at r1
              exact ⟨by rw [cell_of_row _ b o cur _ fz hf]; exact r1, r2⟩
            · exact ⟨(World.cell?_of_block (heap_fz hb)).trans r1, r2⟩
          · (unfold World.freeze; split <;> rfl)
          · (unfold World.freeze; split <;> rfl)
          · (unfold World.freeze; split <;> rfl)
          · cases i with
            | succ i => simp at hi
            | zero =>
              simp only [List.getElem?_cons_zero, Option.some.injEq] at hi
              subst hi
              refine ⟨g, xs, _, hO, hgH.at hgw, hsz, fun j h h' => ?_, hZ, ⟨by rw [List.all_cons, List.all_cons]; rfl, fun T r hT => ?_⟩⟩
              · rcases (by simp at h; omega : j = 0 ∨ j = 1) with hj | hj
                · subst hj
                  exact ⟨trivial, (hcs 0 (by simp) (by omega)).2⟩
                · subst hj
                  refine ⟨?_, h1.2⟩
                  have hx1 : xs[1] = .slice (some ⟨g2, 0, none⟩) es.length c := q1
                  show Rp Z xs[1] (.sl es)
                  rw [hx1]
                  exact q7.sl rfl q4
              · injection hT with hT _
                injection hT with hT
                exact ⟨hT, hxs, h0⟩
    · cases h
  · rename_i b T
    split at h
    · rename_i hc
      obtain ⟨rfl, rfl⟩ := hc
      cases h
      intro Z w vs O0 hA hB hl hR hos huq hob hlt hG hN
      obtain ⟨g, xs, e, rfl, hO, hgH, hsz, hcs, hZ, hok⟩ := hand1 hl hR hos huq
      obtain ⟨fr, hg, hfr⟩ := id hgH
      obtain ⟨he, hxs, h0⟩ := hok.ty _ _ rfl
      subst he
      have hxs2 : xs.size = 2 := hxs
      have h1 := hcs 1 (by simp) (by omega)
      have hx1 : xs[1] = .slice none 0 0 := h1.1.toV rfl
      have hxe : xs = #[xs[0]'(by omega), .slice none 0 0] := by
        apply Array.ext
        · simp [hxs2]
        · intro i hi hi'
          rcases (by omega : i = 0 ∨ i = 1) with h | h
          · subst h; rfl
          · subst h; exact hx1
      have hg' : w.heap[g]? = some (.cells #[xs[0]'(by omega), .slice none 0 0] 201 fr) := by rw [← hxe]; exact hg
      refine (string_nil g _ fr w hg').mono fun e w' hw => ?_
      obtain ⟨rfl, rfl⟩ := hw
      exact ⟨_, Z, O0, rfl, FZ.le_refl Z, fun b o y hy => .inl hy, hA, rfl, rfl, rfl, Nat.le_refl _, fun _ _ _ => rfl, rfl, hos, fun g b => Iff.rfl, fun g hg => ⟨.inr hg, hlt g hg⟩, .v _⟩
    · cases h
  · cases h
end Go.Proofs.YtjdmjofkibiaaaaGreatDoor
