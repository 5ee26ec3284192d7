/- Strings: put together, cut (the session's own words). -/
import Derived.Test.YtcdeidljcmlfdaaDoorOps
import Derived.Test.YtcdeidljcmlfdaaDoorPdf
namespace Go.Eng
open Go.RowKit
set_option linter.unusedVariables false
set_option linter.unusedSimpArgs false
section
variable {P : Program} {ρ : Operand → Option D}
/-- a piece of a string -/
def sls (P : Program) (t : TypeId) (s : ByteArray) (l h : Option Value) : Option Value := pureRun P (Instr.sliceAt t (.string s) l h none)
theorem sl2K_str2 (t : TypeId) (l h : Operand) (s : ByteArray) : sl2K P t ρ (some l) (some h) (.v (.string s)) = (ρ l).bind fun l => (toV l).bind fun l => (ρ h).bind fun h => (toV h).bind fun h => (sls P t s (some l) (some h)).map fun r => { d := .v r } := (rfl)
theorem sl2K_strl (t : TypeId) (l : Operand) (s : ByteArray) : sl2K P t ρ (some l) none (.v (.string s)) = (ρ l).bind fun l => (toV l).bind fun l => (sls P t s (some l) none).map fun r => { d := .v r } := (rfl)
theorem sl2K_strh (t : TypeId) (h : Operand) (s : ByteArray) : sl2K P t ρ none (some h) (.v (.string s)) = (ρ h).bind fun h => (toV h).bind fun h => (sls P t s none (some h)).map fun r => { d := .v r } := (rfl)
/-- the piece from i up to j, as bytes -/
def cut (s : ByteArray) (i j : Nat) : ByteArray := s.extract i j
theorem isStr_und {t : TypeId} (h : isStr P t = true) : P.underlying t = some .string := by
  unfold isStr at h
  split at h
  · assumption
  · cases h
theorem sls_run {t : TypeId} (ht : isStr P t = true) (s : ByteArray) (l h : Option Value) : sls P t s l h = pureRun P (do
    let (l, h, _) ← Instr.sliceBounds false s.size s.size l h none
    pure (Value.string (s.extract l h))) := by
  have hu := isStr_und ht
  unfold sls Instr.sliceAt
  simp only [pureRun_bind, pureRun_underlying, hu, Option.bind_some]
  unfold Instr.slice
  simp only [pureRun_bind, pureRun_underlying, hu, Option.bind_some, Option.isSome_none, Bool.false_eq_true, if_false]
theorem bound_ok (k : IntKind) (i : Int) (y : Nat) (c : BoundsCode) (h0 : 0 ≤ i) (h1 : i ≤ y) : pureRun P (Instr.sliceBound (.int k i) y c) = some i.toNat := by
  unfold Instr.sliceBound
  simp only [asIntOf, pureRun_bind]
  show pureRun P (if 0 ≤ i ∧ i ≤ (y : Int) then pure i.toNat else boundsPanic k i y c) = _
  rw [if_pos ⟨h0, h1⟩]; rfl
theorem sls2 {t : TypeId} (ht : isStr P t = true) (s : ByteArray) (k k' : IntKind) (i j : Int) (h0 : 0 ≤ i) (h1 : i ≤ j) (h2 : j ≤ (s.size : Int)) : sls P t s (some (.int k i)) (some (.int k' j)) = some (.string (cut s i.toNat j.toNat)) := by
  rw [sls_run ht]
  simp only [Instr.sliceBounds, pureRun_bind, bound_ok k' j s.size _ (by omega) h2, Option.bind_some]
  have hb : (if false = true then BoundsCode.sliceAcap else BoundsCode.sliceAlen) = BoundsCode.sliceAlen := rfl
  show (((pureRun P (pure s.size)).bind fun m => ((pureRun P (Instr.sliceBound (.int k' j) m (if false = true then .sliceAcap else .sliceAlen))).bind fun h => ((pureRun P (Instr.sliceBound (.int k i) h (if (none : Option Value).isSome = true then .slice3C else .sliceB))).bind fun l => pureRun P (pure (l, h, m))))).bind fun p => pureRun P (pure (Value.string (s.extract p.1 p.2.1)))) = _
  simp only [show ∀ (n : Nat), pureRun P (pure n : Sem Nat) = some n from fun _ => rfl, Option.bind_some, bound_ok k' j s.size _ (by omega) h2]
  rw [bound_ok k i j.toNat _ h0 (by omega)]
  rfl
theorem sls_l {t : TypeId} (ht : isStr P t = true) (s : ByteArray) (k : IntKind) (i : Int) (h0 : 0 ≤ i) (h1 : i ≤ (s.size : Int)) : sls P t s (some (.int k i)) none = some (.string (cut s i.toNat s.size)) := by
  rw [sls_run ht]
  simp only [Instr.sliceBounds, pureRun_bind]
  show (((pureRun P (pure s.size)).bind fun m => ((pureRun P (pure s.size)).bind fun h => ((pureRun P (Instr.sliceBound (.int k i) h (if (none : Option Value).isSome = true then .slice3C else .sliceB))).bind fun l => pureRun P (pure (l, h, m))))).bind fun p => pureRun P (pure (Value.string (s.extract p.1 p.2.1)))) = _
  simp only [show ∀ (n : Nat), pureRun P (pure n : Sem Nat) = some n from fun _ => rfl, Option.bind_some]
  rw [bound_ok k i s.size _ h0 h1]
  rfl
theorem sls_h {t : TypeId} (ht : isStr P t = true) (s : ByteArray) (k : IntKind) (j : Int) (h0 : 0 ≤ j) (h1 : j ≤ (s.size : Int)) : sls P t s none (some (.int k j)) = some (.string (cut s 0 j.toNat)) := by
  rw [sls_run ht]
  simp only [Instr.sliceBounds, pureRun_bind]
  show (((pureRun P (pure s.size)).bind fun m => ((pureRun P (Instr.sliceBound (.int k j) m (if false = true then .sliceAcap else .sliceAlen))).bind fun h => ((pureRun P (pure 0)).bind fun l => pureRun P (pure (l, h, m))))).bind fun p => pureRun P (pure (Value.string (s.extract p.1 p.2.1)))) = _
  simp only [show ∀ (n : Nat), pureRun P (pure n : Sem Nat) = some n from fun _ => rfl, Option.bind_some]
  rw [bound_ok k j s.size _ h0 h1]
  rfl
/-- put together -/
theorem bop_sadd (t : TypeId) (x y : Operand) (a b : ByteArray) (h : (a.size : Int) + (b.size : Int) ≤ 9223372036854775807) : bop P .add t x y (.string a) (.string b) = some (.string (a ++ b)) := by
  rw [bop_ne (by decide) (by decide)]
  simp only [binOp, Op.stringOp]
  have hm : IntKind.i64.max = 9223372036854775807 := by decide
  rw [if_neg (by omega)]
  rfl
end
theorem bl_bs (l : List UInt8) : bl (bs l) = l := rfl
theorem bs_bl (s : ByteArray) : bs (bl s) = s := rfl
theorem bl_size (s : ByteArray) : (bl s).length = s.size := by unfold bl; simp
theorem bs_size (l : List UInt8) : (bs l).size = l.length := rfl
theorem lit_size (l : List UInt8) : (⟨l.toArray⟩ : ByteArray).size = l.length := rfl
theorem cut_size (s : ByteArray) (i j : Nat) : (cut s i j).size = min j s.size - i := by unfold cut; simp
theorem bl_inj {a b : ByteArray} (h : bl a = bl b) : a = b := by rw [← bs_bl a, h, bs_bl]
theorem bs_inj {a b : List UInt8} (h : bs a = bs b) : a = b := by rw [← bl_bs a, h, bl_bs]
theorem bl_cut (s : ByteArray) (i j : Nat) : bl (cut s i j) = ((bl s).take j).drop i := by
  unfold cut bl
  simp [ByteArray.data_extract, List.extract_eq_take_drop, List.drop_take]
theorem bl_app (a b : ByteArray) : bl (a ++ b) = bl a ++ bl b := by unfold bl; simp
theorem cut_bs (l : List UInt8) (i j : Nat) : cut (bs l) i j = bs ((l.take j).drop i) := bl_inj (by rw [bl_cut, bl_bs, bl_bs])
theorem app_bs (a b : List UInt8) : bs a ++ bs b = bs (a ++ b) := bl_inj (by rw [bl_app, bl_bs, bl_bs, bl_bs])
theorem norm_nilI {P : Program} (t : TypeId) : norm P t (.v .nilIface) = .v .nilIface := (rfl)
theorem norm_nnI {P : Program} (t : TypeId) : norm P t .nn = .nn := (rfl)
theorem fin_nilI : fin (.v .nilIface) = .v .nilIface := (rfl)
theorem okOut_nilI : okOut (.v .nilIface) = true := (rfl)
attribute [go_sem] norm_nilI norm_nnI fin_nilI okOut_nilI
attribute [go_sem] sl2K_str2 sl2K_strl sl2K_strh
/-- what an append of a string makes, where types are known -/
def apSK (e : TypeId) : D → D → List Tmp → Option Eff
  | .own e' k es, .v (.string s), g => if e' = e ∧ k = 1 ∧ es.length + s.size ≤ 140737488355328 then some { d := .own e' 1 (es ++ strEs s), gone := g } else none
  | _, _, _ => none
theorem o_appendS {P : Program} {F : FTy} {tk : Bool × Bool} {ρ : Operand → Option D} {β : Nat → Option (List D)} {ty : TypeId} {pos : String} {af : Array Edge} {gd : Option (Nat × Bool)} {t t' e : TypeId} {i : TypeInfo} (ht : P.underlying t = some (.slice e)) (hu : P.underlying t' = some .string) (hi : P.info? e = some i) (hb : (decide (i.size = 1) && decide (i.bytes = 1) && z8 i.zero) = true) (htt : (t == t') = false) (x y : Operand) (n : Tmp) :
    dop P F tk ρ β ⟨some n, .call ⟨.builtin .append, #[x, y], #[t, t']⟩, ty, pos, af, gd⟩ = (ρ x).bind fun a => (ρ y).bind fun b => apSK e (norm P t a) b (goneOf x a) := by
  simp only [Bool.and_eq_true, decide_eq_true_eq] at hb
  obtain ⟨⟨h1, h2⟩, h3⟩ := hb
  have htt' : ¬ t = t' := by simpa using htt
  simp only [dop, if_neg htt']
  congr 1; funext a; congr 1; funext b
  unfold appS apSK
  cases hn : norm P t a with
  | own e' k es =>
    cases b with
    | v vb =>
      cases vb with
      | string s =>
        simp only [ht, hu]
        by_cases he : e' = e
        · subst he
          simp only [hi, Option.bind_some, h1, h2, h3, true_and, Option.isSome_some, and_true]
          by_cases hk : k = 1
          · by_cases hl : es.length + s.size ≤ 140737488355328
            · rw [if_pos ⟨hk, hl, by unfold maxLen; omega⟩, if_pos ⟨hk, hl⟩]
            · rw [if_neg (fun h => hl h.2.1), if_neg (fun h => hl h.2)]
          · rw [if_neg (fun h => hk h.1), if_neg (fun h => hk h.1)]
        · rw [if_neg (fun h => he h.1)]
          cases P.info? e' with
          | none => rfl
          | some i' => simp only [Option.bind_some]; rw [if_neg (fun h => he h.1)]
      | _ => rfl
    | _ => rfl
  | _ => rfl
theorem apSK_ok (e : TypeId) (es : List (List D)) (s : ByteArray) (g : List Tmp) (h : (es.length : Int) + s.size ≤ 140737488355328) : apSK e (.own e 1 es) (.v (.string s)) g = some { d := .own e 1 (es ++ strEs s), gone := g } := by
  exact if_pos ⟨rfl, rfl, by omega⟩
theorem strEs_app (s t : ByteArray) : strEs s ++ strEs t = strEs (s ++ t) := by
  unfold strEs Lib.strCells
  rw [← List.map_append, ← List.map_append]
  simp
theorem strEs_ne {s : ByteArray} (h : 0 < s.size) : strEs s ≠ [] := fun e => by
  have := strEs_len s
  rw [e] at this
  simp at this; omega
theorem strEs_nil : strEs ⟨#[]⟩ = [] := rfl
end Go.Eng
