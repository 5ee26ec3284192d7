/- A reading of the program's own text by values: more operations, whole texts, regions in any order (the session's own words). -/
import Derived.Test.YtcdeidljcmlfdaaDoorEnb
import Derived.Lib.ConvBytes
import Derived.Laws.BytesString
namespace Go.Eng
open Go.RowKit
set_option linter.unusedVariables false
set_option linter.unusedSimpArgs false
section
variable {P : Program} {F : FTy} {Z0 : FZ} {w0 : Base} {w : World} {Z : FZ} {O : OM} {st : St} {a : Act} {K : Act → World → Prop} {Q : Exit → Act → World → Prop} {o : Oper} {e : Eff} {tk : Bool × Bool}
theorem sameOp_eval {l c : Operand} {ik : IntKind} {n : Int} (h : sameOp l c = true) (hl : a.eval l = .int ik n) : ∃ ik', a.eval c = .int ik' n := by
  cases l with
  | tmp i =>
    cases c with
    | tmp j => simp only [sameOp, beq_iff_eq] at h; subst h; exact ⟨ik, hl⟩
    | _ => simp [sameOp] at h
  | const u =>
    cases c with
    | const v =>
      cases u with
      | int k1 i =>
        cases v with
        | int k2 j =>
          simp only [sameOp, beq_iff_eq] at h
          subst h
          have : (Value.int k1 i) = .int ik n := hl
          simp only [Value.int.injEq] at this
          obtain ⟨rfl, rfl⟩ := this
          exact ⟨k2, rfl⟩
        | _ => simp [sameOp] at h
      | _ => simp [sameOp] at h
    | _ => cases u <;> simp [sameOp] at h
  | _ => cases c <;> simp [sameOp] at h
theorem flat_len {z : List D} : ∀ n, (List.replicate n z).flatten.length = n * z.length
  | 0 => by simp
  | n + 1 => by rw [List.replicate_succ, List.flatten_cons, List.length_append, flat_len n, Nat.add_mul, Nat.one_mul, Nat.add_comm]
theorem flat_get {z : List D} : ∀ n j, j < n * z.length → (List.replicate n z).flatten[j]? = z[j % z.length]?
  | 0, j, h => by simp at h
  | n + 1, j, h => by
    rw [List.replicate_succ, List.flatten_cons]
    by_cases hj : j < z.length
    · rw [List.getElem?_append_left hj, Nat.mod_eq_of_lt hj]
    · have hj := Nat.le_of_not_lt hj
      rw [List.getElem?_append_right hj, flat_get n (j - z.length) (by rw [Nat.add_mul, Nat.one_mul] at h; omega), ← Nat.mod_eq_sub_mod hj]
theorem sound_makeSlice {t : TypeId} {l c : Operand} (ho : o.op = .makeSlice t l c) (h : dop P F tk st.rd st.bx o = some e) (I : Inv Z0 w0 Z O st a w) (hK : After Z0 w0 Z st a o e K) : o.wp P a w K Q := by
  simp only [dop, ho] at h
  split at h
  case isFalse => cases h
  rename_i hsame
  simp only [Option.bind_eq_some_iff] at h
  obtain ⟨dl, hl, n, hi, h⟩ := h
  obtain ⟨q, hq, _⟩ := I.rd hl
  obtain ⟨ik, hle⟩ : ∃ ik, a.eval l = .int ik n := by
    cases dl with
    | v vy =>
      cases vy with
      | int ik j => simp only [idx, Option.some.injEq] at hi; subst hi; exact ⟨ik, hq.toV rfl⟩
      | _ => simp [idx] at hi
    | _ => simp [idx] at hi
  obtain ⟨ik', hce⟩ := sameOp_eval hsame hle
  split at h
  case h_2 => cases h
  rename_i el hu
  simp only [Option.bind_eq_some_iff] at h
  obtain ⟨inf, hinf, z, hz, h⟩ := h
  split at h
  case isFalse => cases h
  rename_i hc
  obtain ⟨h0, hmax, hby, hsz, hzl, h1, hbo⟩ := hc
  simp only [Option.some.injEq] at h
  subst h
  obtain ⟨i2, zv, hi2, hzv, hze, hcr⟩ := zero_cr (Z := Z) (O := O) hz h1
  rw [hinf] at hi2
  simp only [Option.some.injEq] at hi2
  subst hi2
  have hzs : zv.cells.size = inf.size := by rw [hcr.1, hzl]
  have hflen : (List.replicate n.toNat z).flatten.length = n.toNat * inf.size := by rw [flat_len, hzl]
  have hmem : ∀ d ∈ (List.replicate n.toNat z).flatten, d ∈ z := by
    intro d hd
    obtain ⟨l, hl1, hl2⟩ := List.mem_flatten.1 hd
    rw [List.eq_of_mem_replicate hl1] at hl2
    exact hl2
  have hall : (List.replicate n.toNat z).flatten.all one = true := List.all_eq_true.2 fun d hd => List.all_eq_true.1 h1 d (hmem d hd)
  have hno : (List.replicate n.toNat z).flatten.any (refc (o.dst.getD 0)) = false := by
    rw [List.any_eq_false]
    intro d hd
    have := hmem d hd
    rw [hze] at this
    obtain ⟨y, _, rfl⟩ := List.mem_map.1 this
    simp [refc]
  have hcells : ∀ j (h : j < (List.replicate n.toNat z).flatten.length) (h' : j < ((Array.range (n.toNat * inf.size)).map (zv.cells[· % zv.cells.size]!)).size), RV Z O w (.b (o.dst.getD 0) j) ((Array.range (n.toNat * inf.size)).map (zv.cells[· % zv.cells.size]!))[j] ((List.replicate n.toNat z).flatten)[j] ∧ ((Array.range (n.toNat * inf.size)).map (zv.cells[· % zv.cells.size]!))[j].oneCell' = true := by
    intro j h h'
    have hj : j < n.toNat * inf.size := by rw [hflen] at h; exact h
    have hm : j % inf.size < inf.size := Nat.mod_lt _ hsz
    have e1 : ((Array.range (n.toNat * inf.size)).map (zv.cells[· % zv.cells.size]!))[j] = zv.cells[j % inf.size]'(by omega) := by
      simp only [Array.getElem_map, Array.getElem_range, hzs]
      exact getElem!_pos zv.cells (j % inf.size) (by omega)
    have e2 : ((List.replicate n.toNat z).flatten)[j] = z[j % inf.size]'(by omega) := by
      have := flat_get (z := z) n.toNat j (by rw [hzl]; exact hj)
      rw [List.getElem?_eq_getElem h, hzl, List.getElem?_eq_getElem (by omega)] at this
      exact Option.some.inj this
    rw [e1, e2]
    have := hcr.2 (j % inf.size) (by omega) (by omega)
    exact ⟨this.1.rv, this.2⟩
  have I' := I.new (o.dst.getD 0) el ((Array.range (n.toNat * inf.size)).map (zv.cells[· % zv.cells.size]!)) (List.replicate n.toNat z).flatten (by rw [hflen]; simp) hcells (bok.of hall) hno hbo
  have hwrap : IntKind.i64.wrap n = n := by
    simp only [maxLen] at hmax
    simp [IntKind.wrap, IntKind.bits, IntKind.signed]
    omega
  refine wp_value (w' := w.alloc (.cells ((Array.range (n.toNat * inf.size)).map (zv.cells[· % zv.cells.size]!)) el)) (x := .slice (some ⟨w.heap.size, 0, none⟩) n.toNat n.toNat) ?_ ?_
  · unfold execOp
    simp only [ho, hle, hce]
    refine run_value ?_
    unfold Instr.makeSlice
    rw [Sem.run_bind, run_underlying hu w]
    have hti : (typeInfo el).run P w = .ok inf w := by simp [typeInfo, hinf]
    have hsi : (sizeOf el).run P w = .ok inf.size w := run_sizeT (by simp [sizeT, hinf]) w
    have hzz : (zeroValue el).run P w = .ok zv w := by simp [zeroValue, typeInfo, hinf, hzv]
    have hb1 : ¬ ((inf.bytes : Int) * n > 2 ^ 48) := by rw [Int.mul_comm]; omega
    have hn0 : ¬ n < 0 := by omega
    simp only [Result.andThen_ok, asInt, asIntOf, Sem.run_bind, Sem.run_pure, hti, hwrap, hn0, hb1, decide_false, Bool.or_self, Bool.false_or, Int.lt_irrefl, Bool.false_eq_true, if_false, gt_iff_lt, run_askRoom, hsi]
    by_cases hn : n.toNat * inf.size = 0
    · have hxe : (Array.range (n.toNat * inf.size)).map (zv.cells[· % zv.cells.size]!) = #[] := by rw [hn]; simp
      rw [if_pos hn, hxe]
      simp only [Sem.run_bind, Sem.run_pure, Result.andThen_ok]
      rw [show ((Array.range (n.toNat * inf.size)).map fun x => (#[] : Array Value)[x % (#[] : Array Value).size]!) = #[] by rw [hn]; simp]
      rfl
    · rw [if_neg hn]
      simp only [Sem.run_bind, hzz, Sem.run_pure, Result.andThen_ok]
      rfl
  · refine hK _ Z (O.nw w.heap.size (o.dst.getD 0)) _ (FZ.le_refl Z) ?_
    have := I'.put o.dst (.bs (o.dst.getD 0) 0 inf.size n.toNat) (.slice (some ⟨w.heap.size, 0, none⟩) n.toNat n.toNat) (fun i hi => ⟨w.heap.size, n.toNat, by unfold OM.nw; rw [if_pos rfl], rfl, Nat.le_refl _⟩)
    exact this

theorem sound_clear {c : Call} (ho : o.op = .call c) (hc : c.callee = .builtin .clear) (h : dop P F tk st.rd st.bx o = some e) (I : Inv Z0 w0 Z O st a w) (hK : After Z0 w0 Z st a o e K) : o.wp P a w K Q := by
  simp only [dop, ho, hc] at h
  split at h
  case h_2 => cases h
  rename_i x t hxs hts
  have hargs : c.args = #[x] := by rw [← Array.toArray_toList (xs := c.args), hxs]
  have htys : c.argTypes = #[t] := by rw [← Array.toArray_toList (xs := c.argTypes), hts]
  simp only [Option.bind_eq_some_iff] at h
  obtain ⟨dx, hx, h⟩ := h
  obtain ⟨p, hp, _⟩ := I.rd hx
  split at h
  case h_2 => cases h
  rename_i b off k n el hu
  simp only [Option.bind_eq_some_iff] at h
  obtain ⟨cs, hb, z, hz, h⟩ := h
  split at h
  case isFalse => cases h
  rename_i hcond
  obtain ⟨hzl, h1, hle, hn⟩ := hcond
  simp only [Option.some.injEq] at h
  subst h
  obtain ⟨g, cp, hO, hxe, hnc⟩ : ∃ g cp, O g = .box b ∧ a.eval x = .slice (some ⟨g, off, none⟩) n cp ∧ n ≤ cp := hp
  obtain ⟨g', xs, e', q1, hg, q3, q4, q5, q6⟩ := I.bv b cs hb
  have hgg := I.uq g g' b hO q1
  subst hgg
  obtain ⟨inf, zv, hi2, hzv, hze, hcr⟩ := zero_cr (Z := Z) (O := O) hz h1
  have hzs : zv.cells.size = z.length := hcr.1
  obtain ⟨vs, hvs⟩ : ∃ vs, Builtin.zeroCells zv.cells n = vs := ⟨_, rfl⟩
  have hvl : vs.size = n * z.length := by rw [← hvs]; simp [Builtin.zeroCells, hzs]
  have hflen : (List.replicate n z).flatten.length = n * z.length := flat_len n
  have hmem : ∀ d ∈ (List.replicate n z).flatten, d ∈ z := by
    intro d hd
    obtain ⟨l, hl1, hl2⟩ := List.mem_flatten.1 hd
    rw [List.eq_of_mem_replicate hl1] at hl2
    exact hl2
  have hall : (List.replicate n z).flatten.all one = true := List.all_eq_true.2 fun d hd => List.all_eq_true.1 h1 d (hmem d hd)
  have hcells : ∀ j (h : j < (List.replicate n z).flatten.length) (h' : j < vs.toList.length), RV Z O w (.b b (off + j)) vs.toList[j] ((List.replicate n z).flatten)[j] ∧ vs.toList[j].oneCell' = true := by
    intro j h h'
    have hj : j < n * z.length := by rw [hflen] at h; exact h
    have hz0 : 0 < z.length := by
      rcases Nat.eq_zero_or_pos z.length with hz0 | hz0
      · rw [hz0] at hj; simp at hj
      · exact hz0
    have hm : j % z.length < z.length := Nat.mod_lt _ hz0
    have e1 : vs.toList[j] = zv.cells[j % z.length]'(by omega) := by
      subst hvs
      simp only [Builtin.zeroCells, Array.getElem_toList, Array.getElem_map, Array.getElem_range, hzs]
      exact getElem!_pos zv.cells (j % z.length) (by omega)
    have e2 : ((List.replicate n z).flatten)[j] = z[j % z.length]'(by omega) := by
      have := flat_get (z := z) n j hj
      rw [List.getElem?_eq_getElem h, List.getElem?_eq_getElem hm] at this
      exact Option.some.inj this
    rw [e1, e2]
    have := hcr.2 (j % z.length) hm (by omega)
    exact ⟨this.1.rv, this.2⟩
  have I2 := I.store (vs := vs.toList) (ds := (List.replicate n z).flatten) (off := off) (b := b) (cs := cs) hb hO hg (by simp [hvl, hflen]) (by omega) hall hcells
  have hx1 : ∀ v ∈ vs.toList, v.oneCell' = true := fun v hv => by
    rw [List.mem_iff_getElem] at hv
    obtain ⟨j, hj, rfl⟩ := hv
    exact (hcells j (by rw [hflen]; simpa [hvl] using hj) hj).2
  refine wp_value (x := .tuple #[]) (w' := w.setRow g (xs.toList.take off ++ vs.toList ++ xs.toList.drop (off + vs.toList.length)).toArray) ?_ (hK _ Z O _ (FZ.le_refl Z) ?_)
  · rw [exec_builtin ho hc, hargs, htys]
    have hr := run_storeCells_hp P g off e' vs.toList 0 xs w hg (by simp [hvl]; omega) hx1
    simp only [Nat.add_zero] at hr
    have hzz : (zeroValue el).run P w = .ok zv w := by simp [zeroValue, typeInfo, hi2, hzv]
    have hn0 : n ≠ 0 := by omega
    refine run_value ?_
    simp only [List.map_toArray, List.map_cons, List.map_nil, hxe]
    cases n with
    | zero => exact absurd rfl hn0
    | succ n =>
      have ht0 : (#[t] : Array TypeId)[0]? = some t := rfl
      simp only [Builtin.clear_, ht0, List.getElem?_toArray, List.getElem?_cons_zero, Sem.run_bind, run_underlying hu w, Result.andThen_ok, hzz, hvs, hr, Sem.run_pure]
  · have := I2.put o.dst (.tup []) (.tuple #[]) (fun i hi => ⟨[], rfl, rfl, fun i hi => absurd hi (Nat.not_lt_zero _)⟩)
    have hb0 : st.b b = some cs := hb
    simpa only [Eff.on, Eff.onb, hb0, Option.map_some, List.foldl_nil] using this

theorem put_forget (dst : Option Tmp) (d : D) : ({ st with t := st.t.set (dst.getD 0) .undef } : St).put dst d = match dst with | some _ => st.put dst d | none => { st with t := st.t.set 0 .undef } := by
  cases dst <;> simp [St.put]
/-- the cells of elements that stay, as a list -/
theorem Els.news {g o k : Nat} {es : List (List D)} (h : Els Z g o k es) (hA : Agree Z w) (h0 : 0 < k) : ∃ news : List Value, news.length = es.length * k ∧ (∀ q u, news[q]? = some u → w.cell? ((⟨g, o, none⟩ : Addr).add q) = some u) ∧ (∀ u ∈ news, u.oneCell' = true) ∧
    ∀ i (hi : i < es.length) j (hj : j < (es[i]).length), ∃ y, news[i * k + j]? = some y ∧ Rp Z y (es[i][j]) := by
  have hx : ∀ q, q < es.length * k → ∃ y, Z g (o + q) = some y ∧ ∀ i (hi : i < es.length) j (hj : j < (es[i]).length), i * k + j = q → Rp Z y (es[i][j]) := by
    intro q hq
    have hi : q / k < es.length := Nat.div_lt_of_lt_mul (by rwa [Nat.mul_comm] at hq)
    have hj : q % k < (es[q / k]).length := by rw [h.1 _ hi]; exact Nat.mod_lt _ h0
    obtain ⟨y, h1, h2⟩ := h.2 (q / k) hi (q % k) hj
    have hqq : q / k * k + q % k = q := by rw [Nat.mul_comm]; exact Nat.div_add_mod q k
    refine ⟨y, by rw [Nat.add_assoc, hqq] at h1; exact h1, fun i hi' j hj' he => ?_⟩
    have hjk : j < k := by rw [h.1 _ hi'] at hj'; exact hj'
    have e1 : i = q / k := by rw [← he, Nat.mul_comm i k, Nat.mul_add_div h0, Nat.div_eq_of_lt hjk]; omega
    have e2 : j = q % k := by rw [← he, Nat.mul_comm i k, Nat.mul_add_mod, Nat.mod_eq_of_lt hjk]
    subst e1 e2
    exact h2
  refine ⟨(List.range (es.length * k)).map fun q => (Z g (o + q)).getD undef, by simp, fun q u hu => ?_, fun u hu => ?_, fun i hi j hj => ?_⟩
  · have hq : q < es.length * k := by have := (List.getElem?_eq_some_iff.1 hu).1; simpa using this
    obtain ⟨y, h1, _⟩ := hx q hq
    rw [List.getElem?_map, List.getElem?_range hq] at hu
    simp only [Option.map_some, h1, Option.getD_some, Option.some.injEq] at hu
    subst hu
    rw [addr_add]; exact (hA _ _ _ h1).1
  · simp only [List.mem_map, List.mem_range] at hu
    obtain ⟨q, hq, rfl⟩ := hu
    obtain ⟨y, h1, _⟩ := hx q hq
    rw [h1]; exact (hA _ _ _ h1).2
  · have hjk : j < k := by rw [h.1 _ hi] at hj; exact hj
    have hq : i * k + j < es.length * k := by
      have := Nat.mul_le_mul_right k (show i + 1 ≤ es.length from hi)
      rw [Nat.add_mul, Nat.one_mul] at this; omega
    obtain ⟨y, h1, h2⟩ := hx _ hq
    refine ⟨y, ?_, h2 i hi j hj rfl⟩
    rw [List.getElem?_map, List.getElem?_range hq]
    simp [h1]
/-- an append in place, to a block that no string shares -/
theorem run_append_room_hp (w : World) (t ty e : TypeId) (i : TypeInfo) (ht : P.underlying t = some (.slice e)) (hi : P.info? e = some i)
    (g sLen sCap : Nat) (cur : Array Value) (hg : Hp w g cur e)
    (a : Addr) (m c : Nat) (news : List Value) (hl : news.length = m * i.size) (hnews : ∀ j u, news[j]? = some u → w.cell? (a.add j) = some u) (h1 : ∀ u ∈ news, u.oneCell' = true)
    (hroom : sLen + m ≤ sCap) (hfit : sLen * i.size + news.length ≤ cur.size) :
    (Builtin.append_ #[t, t] ty #[.slice (some ⟨g, 0, none⟩) sLen sCap, .slice (some a) m c]).run P w =
      .ok (.slice (some ⟨g, 0, none⟩) (sLen + m) sCap) (w.setRow g (cur.toList.take (sLen * i.size) ++ news ++ cur.toList.drop (sLen * i.size + news.length)).toArray) := by
  have hf := run_firstCells_some (P := P) w i.size m a m c news hl hnews
  have hst := run_storeCells_hp P g (sLen * i.size) e news 0 cur w hg (by simpa using hfit) h1
  simp only [Nat.add_zero] at hst
  simp [Builtin.append_, run_underlying ht, sizeOf, typeInfo, hi, Builtin.lenOf, hroom, hf, Addr.add_lit, hst]
theorem run_append_room_string_hp (w : World) (t u ty e : TypeId) (i : TypeInfo) (ht : P.underlying t = some (.slice e)) (hu : P.underlying u = some .string) (hi : P.info? e = some i) (hs1 : i.size = 1)
    (g sLen sCap : Nat) (cur : Array Value) (hg : Hp w g cur e) (s : ByteArray)
    (hroom : sLen + s.size ≤ sCap) (hfit : sLen + s.size ≤ cur.size) :
    (Builtin.append_ #[t, u] ty #[.slice (some ⟨g, 0, none⟩) sLen sCap, .string s]).run P w =
      .ok (.slice (some ⟨g, 0, none⟩) (sLen + s.size) sCap) (w.setRow g (cur.toList.take sLen ++ Lib.strCells s ++ cur.toList.drop (sLen + s.size)).toArray) := by
  have hf := Lib.run_firstCells_string (P := P) (w := w) 1 s
  have hst := run_storeCells_hp P g sLen e (Lib.strCells s) 0 cur w hg (by simpa [Lib.strCells_length] using hfit) (Lib.strCells_oneCell s)
  simp only [Nat.add_zero, Lib.strCells_length] at hst
  simp [Builtin.append_, run_underlying ht, run_underlying hu, sizeOf, typeInfo, hi, hs1, Builtin.lenOf, hroom, hf, Addr.add_lit, hst]
/-- (F) an own row grows in its place -/
theorem Inv.room (I : Inv Z0 w0 Z O st a w) (dst : Option Tmp) {g c k : Nat} {e : TypeId} {es es2 : List (List D)} {cur : Array Value} {news : List Value} (hO : O g = .at (.t (dst.getD 0))) (hund : st.at (dst.getD 0) = .undef) (hg : Hp w g cur e)
    (hc : es.length + es2.length ≤ c) (hcm : c ≤ maxLen) (hcs : cur.size = c * k) (hE : Els Z g 0 k es) (hfree : ∀ o, es.length * k ≤ o → Z g o = none) (hl : news.length = es2.length * k) (hk2 : ∀ i (h : i < es2.length), (es2[i]).length = k)
    (h1 : ∀ u ∈ news, u.oneCell' = true) (hn : ∀ i (hi : i < es2.length) j (hj : j < (es2[i]).length), ∃ y, news[i * k + j]? = some y ∧ Rp Z y (es2[i][j])) :
    ∃ Z', Z.le Z' ∧ Inv Z0 w0 Z' O (st.put dst (.own e k (es ++ es2))) (a.put dst (.slice (some ⟨g, 0, none⟩) (es.length + es2.length) c)) (w.setRow g (cur.toList.take (es.length * k) ++ news ++ cur.toList.drop (es.length * k + news.length)).toArray) := by
  have hle : es.length * k + news.length ≤ cur.toList.length := by
    rw [hl, ← Nat.add_mul]; simp only [Array.length_toList, hcs]; exact Nat.mul_le_mul_right _ hc
  have hcl : cur.toList.length = cur.size := by simp
  have hsz0 : (cur.toList.take (es.length * k) ++ news ++ cur.toList.drop (es.length * k + news.length)).toArray.size = cur.size := by
    rw [List.size_toArray, at3_len hle rfl]; simp
  let rows := cur.toList.take (es.length * k) ++ news
  have hrl : rows.length = (es.length + es2.length) * k := by
    simp only [rows, List.length_append, List.length_take, hl, Nat.add_mul]; omega
  have hob := I.ob g (by rw [hO]; simp)
  have hgrow : w.grownBy (w.setRow g (cur.toList.take (es.length * k) ++ news ++ cur.toList.drop (es.length * k + news.length)).toArray) (some g) := ⟨rfl, rfl, rfl, by simp, fun k _ hk => setRow_other w g k _ (fun e => hk (by rw [e]))⟩
  have hrow : ∀ o x, rows[o]? = some x → (cur.toList.take (es.length * k) ++ news ++ cur.toList.drop (es.length * k + news.length)).toArray[o]? = some x := fun o x hx => by
    rw [List.getElem?_toArray, List.getElem?_append_left (List.getElem?_eq_some_iff.1 hx).1]; exact hx
  have hZ : Z.le (Z.add g rows) := FZ.add_le fun o x hx => by
    have ho : o < es.length * k := by
      rcases Nat.lt_or_ge o (es.length * k) with h | h
      · exact h
      · rw [hfree o h] at hx; cases hx
    have := (I.ag g o x hx).1
    rw [hg.cell o] at this
    rw [List.getElem?_append_left (by rw [List.length_take]; omega), List.getElem?_take_of_lt ho]
    simpa using this
  have hne : ∀ {g'}, (∃ p, O g' = .at p ∧ p ≠ .t (dst.getD 0)) → g' ≠ g := fun ⟨p, h1, h2⟩ e => by subst e; rw [hO] at h1; injection h1 with h1; exact h2 h1.symm
  have hZn : ∀ g' o, g' ≠ g → Z g' o = none → Z.add g rows g' o = none := fun g' o h h0 => by unfold FZ.add; rw [if_neg h]; exact h0
  have key : ∀ {p x d}, p ≠ .t (dst.getD 0) → RV Z O w p x d → RV (Z.add g rows) O (w.setRow g (cur.toList.take (es.length * k) ++ news ++ cur.toList.drop (es.length * k + news.length)).toArray) p x d := fun hp h =>
    h.move hZ (fun _ _ h => h) (fun _ g' hg' => ⟨hg', setRow_other w g g' _ (hne ⟨_, hg', hp⟩), fun o ho => hZn g' o (hne ⟨_, hg', hp⟩) ho⟩)
  refine ⟨Z.add g rows, hZ, ?_⟩
  have I' : Inv Z0 w0 (Z.add g rows) O st a (w.setRow g (cur.toList.take (es.length * k) ++ news ++ cur.toList.drop (es.length * k + news.length)).toArray) := by
    refine ⟨I.tsz, fun i h h' => ?_, fun b cs hb => ?_, I.uq, fun g' h => ?_, fun b o x hx => ?_, ?_, I.df, fun b o x hx => (FZ.add_inv hx).elim (fun q => .inr (by rw [q.1]; exact hob.1)) (fun q => I.zn b o x q), I.bs.mono hZ, I.oi, I.oo⟩
    · by_cases hi : i = dst.getD 0
      · subst hi
        have : st.t[dst.getD 0] = .undef := by
          rw [← hund, St.at, List.getD_eq_getElem?_getD, List.getElem?_eq_getElem h]; rfl
        rw [this]; trivial
      · exact key (fun e => hi (by injection e)) (I.tv i h h')
    · obtain ⟨g2, xs2, e2, q1, q2, q3, q4, q5, q6⟩ := I.bv b cs hb
      have hg2 : g2 ≠ g := fun e => by subst e; rw [hO] at q1; cases q1
      exact ⟨g2, xs2, e2, q1, q2.at (setRow_other w g g2 _ hg2), q3, fun j h h' => ⟨key (by simp) (q4 j h h').1, (q4 j h h').2⟩, fun o => hZn g2 o hg2 (q5 o), q6⟩
    · have := I.ob g' h
      exact ⟨this.1, by simpa using this.2⟩
    · rcases FZ.add_inv hx with ⟨rfl, h2⟩ | h2
      · refine ⟨by rw [(hg.set hsz0).cell o]; exact hrow o x h2, ?_⟩
        have hm := List.mem_of_getElem? h2
        simp only [rows, List.mem_append] at hm
        rcases hm with hm | hm
        · obtain ⟨q, hq, rfl⟩ := List.mem_iff_getElem.1 hm
          have hq1 : q < es.length * k := by simp at hq; omega
          have hq2 : q < cur.size := by simp at hq; omega
          have hi : q / k < es.length := Nat.div_lt_of_lt_mul (by rwa [Nat.mul_comm] at hq1)
          have hk0 : 0 < k := by rcases Nat.eq_zero_or_pos k with h | h; (subst h; simp at hq1); exact h
          have hj : q % k < (es[q / k]).length := by rw [hE.1 _ hi]; exact Nat.mod_lt _ hk0
          obtain ⟨y, h3, _⟩ := hE.2 (q / k) hi (q % k) hj
          rw [Nat.zero_add, show q / k * k + q % k = q by rw [Nat.mul_comm]; exact Nat.div_add_mod q k] at h3
          have h4 := I.ag b q y h3
          rw [hg.cell q, Array.getElem?_eq_getElem hq2] at h4
          simp only [Option.some.injEq] at h4
          simp only [List.getElem_take, Array.getElem_toList]
          rw [h4.1]; exact h4.2
        · exact h1 x hm
      · have hc' := I.ag b o x h2
        by_cases hb : b = g
        · subst hb
          have := hZ _ _ _ h2
          have h3 : rows[o]? = some x := by
            have ho : o < es.length * k := by
              rcases Nat.lt_or_ge o (es.length * k) with h | h
              · exact h
              · rw [hfree o h] at h2; cases h2
            have := hc'.1
            rw [hg.cell o] at this
            rw [List.getElem?_append_left (by rw [List.length_take]; omega), List.getElem?_take_of_lt ho]
            simpa using this
          exact ⟨by rw [(hg.set hsz0).cell o]; exact hrow o x h3, hc'.2⟩
        · exact ⟨(World.cell?_of_block (setRow_other w g b _ hb)).trans hc'.1, hc'.2⟩
    · exact I.bl.grown hgrow hob.1
  refine I'.put dst _ _ fun i hi => .inr ⟨g, c, _, by simp, by rw [hO, hi]; rfl, hg.set hsz0, by simpa using hc, hcm, ?_, ⟨fun i hi => ?_, fun i hi j hj => ?_⟩, fun o ho => ?_⟩
  · rw [List.size_toArray, at3_len hle rfl]; simpa using hcs
  · rw [List.getElem_append]
    split
    · exact hE.1 _ _
    · exact hk2 _ _
  · have hgen : ∀ c, (es ++ es2)[i]? = some c → ∀ j (hj : j < c.length), ∃ y, Z.add g rows g (0 + i * k + j) = some y ∧ Rp (Z.add g rows) y c[j] := by
      intro c hc' j hj
      rcases Nat.lt_or_ge i es.length with hi1 | hi1
      · rw [List.getElem?_append_left hi1, List.getElem?_eq_getElem hi1] at hc'
        simp only [Option.some.injEq] at hc'
        subst hc'
        obtain ⟨y, q1, q2⟩ := hE.2 i hi1 j hj
        exact ⟨y, hZ _ _ _ q1, q2.mono hZ⟩
      · rw [List.getElem?_append_right hi1] at hc'
        obtain ⟨hi2, rfl⟩ := List.getElem?_eq_some_iff.1 hc'
        obtain ⟨y, q1, q2⟩ := hn (i - es.length) hi2 j hj
        refine ⟨y, FZ.add_at ?_, q2.mono hZ⟩
        have hm : i * k = es.length * k + (i - es.length) * k := by rw [← Nat.add_mul]; congr 1; omega
        rw [List.getElem?_append_right (by rw [List.length_take]; omega), ← q1]
        congr 1
        rw [List.length_take]; omega
    exact hgen _ (List.getElem?_eq_getElem hi) j hj
  · rw [List.length_append] at ho
    unfold FZ.add
    rw [if_pos rfl, List.getElem?_eq_none (by omega)]
    exact hfree o (by rw [Nat.add_mul] at ho; omega)

theorem mul_lt {k i n j : Nat} (hi : i < n) (hj : j < k) : i * k + j < n * k := by
  have := Nat.mul_le_mul_right k (show i + 1 ≤ n from hi)
  rw [Nat.add_mul, Nat.one_mul] at this; omega
theorem Els.olds {g k : Nat} {e : TypeId} {es : List (List D)} {cur : Array Value} (h : Els Z g 0 k es) (hA : Agree Z w) (hg : Hp w g cur e) :
    ∀ i (hi : i < es.length) j (hj : j < (es[i]).length), ∃ y, (cur.toList.take (es.length * k))[i * k + j]? = some y ∧ Rp Z y (es[i][j]) ∧ y.oneCell' = true := by
  intro i hi j hj
  obtain ⟨y, h1, h2⟩ := h.2 i hi j hj
  have hjk : j < k := by rw [h.1 _ hi] at hj; exact hj
  have h3 := hA _ _ _ h1
  rw [hg.cell _, Nat.zero_add] at h3
  refine ⟨y, ?_, h2, h3.2⟩
  rw [List.getElem?_take_of_lt (mul_lt hi hjk), Array.getElem?_toList]
  exact h3.1
theorem app_hx {k : Nat} {es es2 : List (List D)} {A B : List Value} (hA : A.length = es.length * k) (h1 : ∀ i (hi : i < es.length) j (hj : j < (es[i]).length), ∃ y, A[i * k + j]? = some y ∧ Rp Z y (es[i][j]) ∧ y.oneCell' = true) (hk : ∀ i (hi : i < es.length), (es[i]).length = k)
    (h2 : ∀ i (hi : i < es2.length) j (hj : j < (es2[i]).length), ∃ y, B[i * k + j]? = some y ∧ Rp Z y (es2[i][j])) (hB : ∀ u ∈ B, u.oneCell' = true) :
    ∀ i (hi : i < (es ++ es2).length) j (hj : j < ((es ++ es2)[i]).length), ∃ y, (A ++ B).toArray[i * k + j]? = some y ∧ Rp Z y ((es ++ es2)[i][j]) ∧ y.oneCell' = true := by
  intro i hi
  have hgen : ∀ c, (es ++ es2)[i]? = some c → ∀ j (hj : j < c.length), ∃ y, (A ++ B).toArray[i * k + j]? = some y ∧ Rp Z y c[j] ∧ y.oneCell' = true := by
    intro c hc j hj
    rw [List.getElem?_toArray]
    rcases Nat.lt_or_ge i es.length with hi1 | hi1
    · rw [List.getElem?_append_left hi1, List.getElem?_eq_getElem hi1] at hc
      simp only [Option.some.injEq] at hc
      subst hc
      obtain ⟨y, q1, q2, q3⟩ := h1 i hi1 j hj
      have hjk : j < k := by rw [hk _ hi1] at hj; exact hj
      exact ⟨y, by rw [List.getElem?_append_left (by rw [hA]; exact mul_lt hi1 hjk)]; exact q1, q2, q3⟩
    · rw [List.getElem?_append_right hi1] at hc
      obtain ⟨hi2, rfl⟩ := List.getElem?_eq_some_iff.1 hc
      obtain ⟨y, q1, q2⟩ := h2 (i - es.length) hi2 j hj
      have hm : i * k = es.length * k + (i - es.length) * k := by rw [← Nat.add_mul]; congr 1; omega
      refine ⟨y, ?_, q2, hB y (List.mem_of_getElem? q1)⟩
      rw [List.getElem?_append_right (by omega), ← q1]
      congr 1; omega
  exact hgen _ (List.getElem?_eq_getElem hi)
theorem run_append_zero {t ty : TypeId} {e : TypeId} {k : Nat} (ht : P.underlying t = some (.slice e)) (hk : sizeT P e = some k) (s s2 : Option Addr) (n c c2 : Nat) (hc : n ≤ c) :
    (Builtin.append_ #[t, t] ty #[.slice s n c, .slice s2 0 c2]).run P w = .ok (.slice s n c) w := by
  have h1 : (Builtin.firstCells k 0 (.slice s2 0 c2)).run P w = .ok #[] w := by
    cases s2 <;> simp [Builtin.firstCells, loadCells, loadCellsFrom]
  cases s <;> simp [Builtin.append_, run_underlying ht, run_sizeT hk, Builtin.lenOf, hc, h1, storeCells]
theorem flats_len {k : Nat} : ∀ (es : List (List D)), (∀ i (h : i < es.length), (es[i]).length = k) → es.flatten.length = es.length * k
  | [], _ => by simp
  | e :: es, h => by
    have h0 := h 0 (by simp)
    simp only [List.getElem_cons_zero] at h0
    rw [List.flatten_cons, List.length_append, h0, flats_len es (fun i hi => by have := h (i + 1) (by simp; omega); simpa using this), List.length_cons, Nat.succ_mul]; omega
theorem flats_get {k : Nat} (hk : 0 < k) : ∀ (es : List (List D)), (∀ i (h : i < es.length), (es[i]).length = k) → ∀ j (h : j < es.flatten.length), ∃ (i : Nat) (hi : i < es.length) (q : Nat) (hq : q < (es[i]).length), j = i * k + q ∧ es.flatten[j] = es[i][q]
  | [], _, j, h => by simp at h
  | e :: es, hes, j, h => by
    have h0 := hes 0 (by simp)
    simp only [List.getElem_cons_zero] at h0
    by_cases hj : j < k
    · refine ⟨0, by simp, j, by simp only [List.getElem_cons_zero]; omega, by omega, ?_⟩
      simp only [List.flatten_cons, List.getElem_cons_zero]
      rw [List.getElem_append_left (by omega)]
    · have h' : j - k < es.flatten.length := by
        rw [List.flatten_cons, List.length_append] at h; omega
      obtain ⟨i, hi, q, hq, h1, h2⟩ := flats_get hk es (fun i hi => by have := hes (i + 1) (by simp; omega); simpa using this) (j - k) h'
      refine ⟨i + 1, by simp; omega, q, by simpa using hq, by rw [Nat.succ_mul]; omega, ?_⟩
      simp only [List.flatten_cons, List.getElem_cons_succ]
      rw [List.getElem_append_right (by omega)]
      simp only [h0]
      exact h2
theorem run_appS_zero {t u ty : TypeId} {e : TypeId} {i : TypeInfo} (ht : P.underlying t = some (.slice e)) (hu : P.underlying u = some .string) (hi : P.info? e = some i) (hs1 : i.size = 1) (b : Option Addr) (n c : Nat) (hc : n ≤ c) (s : ByteArray) (hm : s.size = 0) :
    (Builtin.append_ #[t, u] ty #[.slice b n c, .string s]).run P w = .ok (.slice b n c) w := by
  have hn : Lib.strCells s = [] := List.eq_nil_of_length_eq_zero (by rw [Lib.strCells_length]; exact hm)
  have hf := Lib.run_firstCells_string (P := P) (w := w) 1 s
  rw [hm, hn] at hf
  cases b <;> simp [Builtin.append_, run_underlying ht, run_underlying hu, sizeOf, typeInfo, hi, hs1, Builtin.lenOf, hm, hf, hc, storeCells]
theorem strEs_len (s : ByteArray) : (strEs s).length = s.size := by unfold strEs; rw [List.length_map, Lib.strCells_length]
theorem strEs_one (s : ByteArray) : ∀ i (h : i < (strEs s).length), ((strEs s)[i]).length = 1 := fun i h => by simp [strEs]
theorem strEs_rp (Z : FZ) (s : ByteArray) : ∀ i (hi : i < (strEs s).length) j (hj : j < ((strEs s)[i]).length), ∃ y, (Lib.strCells s)[i * 1 + j]? = some y ∧ Rp Z y ((strEs s)[i][j]) := fun i hi j hj => by
  have h1 := strEs_one s i hi
  obtain rfl : j = 0 := by omega
  have hi' : i < (Lib.strCells s).length := by rw [Lib.strCells_length, ← strEs_len]; exact hi
  refine ⟨(Lib.strCells s)[i], by rw [Nat.mul_one, Nat.add_zero, List.getElem?_eq_getElem hi'], ?_⟩
  have : (strEs s)[i][0] = .v (Lib.strCells s)[i] := by
    have e : (strEs s)[i] = [.v (Lib.strCells s)[i]] := by simp [strEs]
    simp only [e, List.getElem_cons_zero]
  rw [this]
  exact .v _
theorem sound_appendS {c : Call} (ho : o.op = .call c) (hc : c.callee = .builtin .append) {x y : Operand} {t t' : TypeId} (hargs : c.args = #[x, y]) (htys : c.argTypes = #[t, t']) {dx dy : D} (hx : st.rd x = some dx) (hy : st.rd y = some dy)
    (h : appS P t t' (norm P t dx) dy (goneOf x dx) o.dst.isSome = some e) (I : Inv Z0 w0 Z O st a w) (hK : After Z0 w0 Z st a o e K) : o.wp P a w K Q := by
  obtain ⟨p, hp, hpt⟩ := I.rd hx
  obtain ⟨q, hq, _⟩ := I.rd hy
  cases hnorm : norm P t dx with
  | own e0 k es =>
    rw [hnorm] at h
    cases dy with
    | v vy =>
      cases vy with
      | string s =>
        simp only [appS] at h
        split at h
        · rename_i e1 hu hu'
          simp only [Option.bind_eq_some_iff] at h
          obtain ⟨i, hi, h⟩ := h
          split at h
          · rename_i hcond
            obtain ⟨rfl, rfl, hsz, hby, hz, hbytes, hlen, hdst⟩ := hcond
            have hz := z8_of hz
            simp only [Option.some.injEq] at h
            subst h
            obtain ⟨di, hdi⟩ := Option.isSome_iff_exists.1 hdst
            have hye : a.eval y = .string s := hq.toV rfl
            have hpn := hp.norm (P := P) (t := t)
            rw [hnorm] at hpn
            obtain ⟨O1, I1, hO1⟩ : ∃ O1 : OM, Inv Z0 w0 Z O1 { st with t := (((goneOf x dx).foldl stripAt st.t).set di .undef) } a w ∧ RV Z O1 w (.t di) (a.eval x) (.own e0 1 es) := by
              cases dx with
              | own e2 k2 es2' =>
                cases x with
                | tmp s =>
                  have hps := hpt s rfl
                  subst hps
                  exact ⟨O.mv (.t s) (.t di), (I.out s (.t di)).forget di, hpn.mvs⟩
                | const v => simp [St.rd] at hx
                | global g => simp only [St.rd, Option.some.injEq, gD] at hx; split at hx <;> cases hx
                | func f => simp [St.rd] at hx
              | v vx =>
                refine ⟨O, I.forget di, ?_⟩
                rcases hpn with hh | ⟨g, c', cur, h1, h2, _⟩
                · exact .inl hh
                · exfalso
                  have hv : a.eval x = vx := hp.toV rfl
                  unfold norm at hnorm
                  split at hnorm
                  · rename_i heq
                    injection heq with heq
                    rw [hv, heq] at h1; cases h1
                  · cases hnorm
              | _ => simp [norm] at hnorm
            have fin : ∀ {x' : Value} {Z' : FZ} {O' : OM} {w' : World}, (Builtin.append_ #[t, t'] o.type #[a.eval x, a.eval y]).run P w = .ok x' w' → Z.le Z' →
                Inv Z0 w0 Z' O' (St.put { st with t := (((goneOf x dx).foldl stripAt st.t).set di .undef) } (some di) (.own e0 1 (es ++ strEs s))) (a.put (some di) x') w' → o.wp P a w K Q := by
              intro x' Z' O' w' hr hZ hI
              refine wp_value (w' := w') (x := x') ?_ (hK x' Z' O' w' hZ ?_)
              · rw [exec_builtin ho hc, hargs, htys]
                simp only [List.map_toArray, List.map_cons, List.map_nil]
                exact run_value hr
              · rw [hdi]
                simpa [Eff.on, Eff.onb, St.put] using hI
            have hm := strEs_len s
            have hnl := Lib.strCells_length s
            have hnr := strEs_rp Z s
            have hk2 := strEs_one s
            have hn1 := Lib.strCells_oneCell s
            have hzs : (Value.int IntKind.u8 0).cells.size = 1 := rfl
            have hnl2 : (Lib.strCells s).length = (strEs s).length * 1 := by rw [hnl, hm, Nat.mul_one]
            rcases Nat.eq_zero_or_pos s.size with h0 | h0
            · have he2 : strEs s = [] := List.eq_nil_of_length_eq_zero (by rw [hm]; exact h0)
              obtain ⟨s', n, cc, hxe, hnc⟩ : ∃ s n cc, a.eval x = .slice s n cc ∧ n ≤ cc := by
                rcases hO1 with ⟨_, hv⟩ | ⟨g, c', cur, hv, _, _, hv2, _⟩
                · exact ⟨_, _, _, hv, Nat.le_refl _⟩
                · exact ⟨_, _, _, hv, hv2⟩
              refine fin (x' := a.eval x) (Z' := Z) (O' := O1) (w' := w) ?_ (FZ.le_refl Z) (I1.put (some di) _ _ fun i hi => ?_)
              · rw [hxe, hye]; exact run_appS_zero hu hu' hi hsz _ _ _ hnc s h0
              · simp only [Option.some.injEq] at hi; subst hi
                rw [he2, List.append_nil]; exact hO1
            · have hm63 : ((es.length + s.size : Nat) : Int) ≤ 9223372036854775807 := by simp only [maxLen] at hlen; omega
              rcases hO1 with ⟨he, hv⟩ | ⟨g, c', cur, hv, hOg, hg, hcl, hcm, hcs, hE, hfree⟩
              · subst he
                have hr := run_append_nil_string (P := P) w t t' o.type e0 i (.int .u8 0) hu hu' hi hz s (by omega) (by simpa using hm63) (by rw [hby]; simp only [List.length_nil, Nat.zero_add] at hbytes; omega)
                have e1 : (s.data.map fun b => Value.int .u8 b.toNat) = (Lib.strCells s).toArray := by
                  apply Array.ext'
                  simp [Lib.strCells]
                rw [e1] at hr
                have hge := grownCap_ge w s.size 0 e0
                have hle := grownCap_le_maxLen w s.size 0 e0 (by simp only [List.length_nil, Nat.zero_add] at hlen; exact hlen)
                obtain ⟨Z', O', hZ, I2⟩ := I1.fresh (some di) e0 1 (strEs s) (Lib.strCells s).toArray ((Lib.strCells s).toArray ++ Builtin.zeroCells (Value.int .u8 0).cells (grownCap w s.size 0 e0 - s.size)) (grownCap w s.size 0 e0) hk2 (by simpa using hnl2)
                  (fun i hi j hj => by
                    obtain ⟨y, q1, q2⟩ := hnr i hi j hj
                    exact ⟨y, by simpa using q1, q2, hn1 y (List.mem_of_getElem? q1)⟩) (fun y hy => hn1 y (by simpa using hy)) (fun i x hx => by
                    rw [Array.getElem?_append_left (Array.getElem?_eq_some_iff.1 hx).1]; exact hx) (by rw [hm]; exact hge) hle (by
                    simp only [Array.size_append, List.size_toArray, size_zeroCells, hzs, hnl]; omega) w.drew (.inr rfl)
                refine fin (x' := .slice (some ⟨w.heap.size, 0, none⟩) s.size (grownCap w s.size 0 e0)) (Z' := Z') (O' := O') (w' := w.drew.alloc (.cells ((Lib.strCells s).toArray ++ Builtin.zeroCells (Value.int .u8 0).cells (grownCap w s.size 0 e0 - s.size)) e0)) ?_ hZ ?_
                · rw [hv, hye]; exact hr
                · rw [List.nil_append]; rw [hm] at I2; exact I2
              · have hcs' : cur.size = c' := by simpa using hcs
                by_cases hroom : es.length + s.size ≤ c'
                · have hr := run_append_room_string_hp (P := P) w t t' o.type e0 i hu hu' hi hsz g es.length c' cur hg s hroom (by rw [hcs']; exact hroom)
                  obtain ⟨Z', hZ, I2⟩ := I1.room (some di) (g := g) (c := c') (k := 1) (e := e0) (es := es) (es2 := strEs s) (cur := cur) (news := Lib.strCells s) hOg (by
                    simp only [St.at, Option.getD_some, List.getD_eq_getElem?_getD, List.getElem?_set]
                    split
                    · split <;> rfl
                    · rename_i h; exact absurd trivial h) hg (by rw [hm]; exact hroom) hcm hcs hE hfree hnl2 hk2 hn1 hnr
                  refine fin ?_ hZ I2
                  rw [hv, hye, hm]
                  rw [Nat.mul_one, hnl]
                  exact hr
                · have holds : ∀ j v, (cur.toList.take (es.length * 1))[j]? = some v → w.cell? ((⟨g, 0, none⟩ : Addr).add j) = some v := fun j v hj => by
                    have hjl : j < es.length * 1 := by have := (List.getElem?_eq_some_iff.1 hj).1; simp at this; omega
                    rw [addr_add, Nat.zero_add, hg.cell j]
                    rw [List.getElem?_take_of_lt hjl] at hj
                    simpa using hj
                  have hol : (cur.toList.take (es.length * 1)).length = es.length * 1 := by
                    rw [List.length_take]
                    simp only [Array.length_toList, hcs']; omega
                  have hr := Lib.run_append_grow_string (P := P) w t t' o.type e0 i (.int .u8 0) hu hu' hi hz ⟨g, 0, none⟩ es.length c' (cur.toList.take (es.length * 1)) (by rw [hsz]; exact hol) holds s (by omega) hm63 (by rw [hby]; exact growslice_fits (by omega) (by omega))
                  have hge := grownCap_ge w (es.length + s.size) c' e0
                  have hle := grownCap_le_maxLen w (es.length + s.size) c' e0 hlen
                  obtain ⟨Z', O', hZ, I2⟩ := I1.fresh (some di) e0 1 (es ++ strEs s) (cur.toList.take (es.length * 1) ++ Lib.strCells s).toArray ((cur.toList.take (es.length * 1)).toArray ++ (Lib.strCells s).toArray ++ Builtin.zeroCells (Value.int .u8 0).cells (grownCap w (es.length + s.size) c' e0 - (es.length + s.size))) (grownCap w (es.length + s.size) c' e0)
                    (fun i hi => by
                      rw [List.getElem_append]
                      split
                      · exact hE.1 _ _
                      · exact hk2 _ _) (by simp only [List.size_toArray, List.length_append, hol, hnl2, Nat.add_mul])
                    (app_hx hol (hE.olds I.ag hg) hE.1 hnr hn1) (fun y hy => by
                      have hy' : y ∈ cur.toList.take (es.length * 1) ++ Lib.strCells s := by simpa using hy
                      rcases List.mem_append.1 hy' with hy' | hy'
                      · obtain ⟨q, hq, rfl⟩ := List.mem_iff_getElem.1 hy'
                        have hq1 : q < es.length := by rw [hol] at hq; omega
                        have hj' : 0 < (es[q]).length := by rw [hE.1 _ hq1]; omega
                        obtain ⟨y, q1, _, q3⟩ := hE.olds I.ag hg q hq1 0 hj'
                        rw [show q * 1 + 0 = q by omega, List.getElem?_eq_getElem hq] at q1
                        simp only [Option.some.injEq] at q1
                        rw [q1]; exact q3
                      · exact hn1 y hy') (fun i x hx => by
                      have hx' : (cur.toList.take (es.length * 1) ++ Lib.strCells s)[i]? = some x := by simpa using hx
                      have hlt := (List.getElem?_eq_some_iff.1 hx').1
                      rw [Array.getElem?_append_left (by simp only [Array.size_append, List.size_toArray]; rw [List.length_append] at hlt; exact hlt)]
                      simpa using hx') (by rw [List.length_append, hm]; exact hge) hle (by
                      simp only [Array.size_append, List.size_toArray, size_zeroCells, hzs, hol, hnl]; omega) w.drew (.inr rfl)
                  refine fin (x' := .slice (some ⟨w.heap.size, 0, none⟩) (es.length + s.size) (grownCap w (es.length + s.size) c' e0)) (Z' := Z') (O' := O') (w' := w.drew.alloc (.cells ((cur.toList.take (es.length * 1)).toArray ++ (Lib.strCells s).toArray ++ Builtin.zeroCells (Value.int .u8 0).cells (grownCap w (es.length + s.size) c' e0 - (es.length + s.size))) e0)) ?_ hZ ?_
                  · rw [hv, hye]; exact hr
                  · rw [List.length_append, hm] at I2; exact I2
          · cases h
        · cases h
      | _ => simp [appS] at h
    | _ => simp [appS] at h
  | _ => rw [hnorm] at h; simp [appS] at h
theorem sound_append {c : Call} (ho : o.op = .call c) (hc : c.callee = .builtin .append) (h : dop P F tk st.rd st.bx o = some e) (I : Inv Z0 w0 Z O st a w) (hK : After Z0 w0 Z st a o e K) : o.wp P a w K Q := by
  simp only [dop, ho, hc] at h
  split at h
  · rename_i x y t t' hxs hts
    split at h
    · rename_i htt
      subst htt
      have hargs : c.args = #[x, y] := by rw [← Array.toArray_toList (xs := c.args), hxs]
      have htys : c.argTypes = #[t, t] := by rw [← Array.toArray_toList (xs := c.argTypes), hts]
      simp only [Option.bind_eq_some_iff] at h
      obtain ⟨dx, hx, dy, hy, h⟩ := h
      obtain ⟨p, hp, hpt⟩ := I.rd hx
      obtain ⟨q, hq, _⟩ := I.rd hy
      split at h
      · rename_i e0 k es e1 hnorm hu
        simp only [Option.bind_eq_some_iff] at h
        obtain ⟨es2, hes, i, hi, h⟩ := h
        split at h
        · rename_i hcond
          obtain ⟨rfl, hkk, hsz, hk0, hz, hbytes, hlen, hdst⟩ := hcond
          simp only [Option.some.injEq] at h
          subst h
          obtain ⟨di, hdi⟩ := Option.isSome_iff_exists.1 hdst
          simp only [Option.map_eq_some_iff] at hz
          obtain ⟨z, hz, hzs⟩ := hz
          obtain ⟨s2, m, c2, hye, hm, hmc, hs2⟩ := esOf_els hq hes
          -- the state behind the right's going over
          have hpn := hp.norm (P := P) (t := t)
          rw [hnorm] at hpn
          obtain ⟨O1, I1, hO1⟩ : ∃ O1 : OM, Inv Z0 w0 Z O1 { st with t := (((goneOf x dx).foldl stripAt st.t).set di .undef) } a w ∧ RV Z O1 w (.t di) (a.eval x) (.own e0 k es) := by
            cases dx with
            | own e2 k2 es2' =>
              cases x with
              | tmp s =>
                have hps := hpt s rfl
                subst hps
                exact ⟨O.mv (.t s) (.t di), (I.out s (.t di)).forget di, hpn.mvs⟩
              | const v => simp [St.rd] at hx
              | global g => simp only [St.rd, Option.some.injEq, gD] at hx; split at hx <;> cases hx
              | func f => simp [St.rd] at hx
            | v vx =>
              refine ⟨O, I.forget di, ?_⟩
              rcases hpn with hh | ⟨g, c', cur, h1, h2, _⟩
              · exact .inl hh
              · exfalso
                have hv : a.eval x = vx := hp.toV rfl
                unfold norm at hnorm
                split at hnorm
                · rename_i heq
                  injection heq with heq
                  rw [hv, heq] at h1; cases h1
                · cases hnorm
            | _ => simp [norm] at hnorm
          by_cases hvar : appV tk.2 o.dst es es2 = true
          · have he : appE tk.2 o.dst e0 k es es2 (goneOf x dx) = { d := .bs di 0 k es2.length, box := some es2.flatten, gone := goneOf x dx } := by unfold appE; rw [if_pos hvar, hdi]; rfl
            rw [he] at hK
            unfold appV at hvar
            simp only [Bool.and_eq_true, decide_eq_true_eq, Bool.not_eq_true'] at hvar
            obtain ⟨⟨⟨⟨_, hes0⟩, hp0⟩, hob⟩, hall⟩ := hvar
            obtain rfl := List.isEmpty_iff.1 hes0
            have hob' : di < OB := by rw [hdi] at hob; exact hob
            have h0l : 0 < es2.length := by cases es2 with | nil => cases hp0 | cons => simp
            have h0 : 0 < m := by omega
            obtain ⟨g2, o2, rfl, hE2⟩ := hs2 k 0 es2[0] (List.getElem?_eq_getElem h0l) (by simpa using List.all_eq_true.1 hkk _ (List.getElem_mem h0l))
            obtain ⟨news, hnl, hnc, hn1, hnr⟩ := hE2.news I.ag hk0
            have hnl' : news.length = m * i.size := by rw [hnl, hsz, hm]
            have hm63 : (m : Int) ≤ 9223372036854775807 := by simp only [maxLen] at hlen; omega
            have h1 : es2.flatten.all one = true := List.all_eq_true.2 fun d hd => by have := List.all_eq_true.1 hall d hd; simp only [Bool.and_eq_true] at this; exact this.2
            have h2 : es2.flatten.any (refc di) = false := List.any_eq_false.2 fun d hd => by
              have := List.all_eq_true.1 hall d hd
              simp only [Bool.and_eq_true] at this
              have := this.1
              cases d <;> simp_all [nobs, refc]
            have hfl : es2.flatten.length = news.length := by rw [flats_len es2 hE2.1, hnl]
            have hxs : ∀ (xs : Array Value), (∀ (j : Nat) (y : Value), news[j]? = some y → xs[j]? = some y) → ∀ j (h : j < es2.flatten.length) (h' : j < xs.size), Rp Z xs[j] es2.flatten[j] ∧ xs[j].oneCell' = true := fun xs hx j h h' => by
              obtain ⟨i', hi', q', hq', hjq, hfd⟩ := flats_get hk0 es2 hE2.1 j h
              obtain ⟨y, hy1, hy2⟩ := hnr i' hi' q' hq'
              rw [← hjq] at hy1
              have hy3 := hx j y hy1
              rw [Array.getElem?_eq_getElem h'] at hy3
              simp only [Option.some.injEq] at hy3
              rw [hy3, hfd]
              exact ⟨hy2, hn1 y (List.mem_of_getElem? hy1)⟩
            have hund : St.at { st with t := (((goneOf x dx).foldl stripAt st.t).set di .undef) } di = .undef := by
              simp only [St.at, List.getD_eq_getElem?_getD, List.getElem?_set]
              split
              · split <;> rfl
              · rename_i h; exact absurd trivial h
            have finV : ∀ {n : Nat} {c' : Nat} {xs : Array Value} {w' : World}, (Builtin.append_ #[t, t] o.type #[a.eval x, a.eval y]).run P w = .ok (.slice (some ⟨n, 0, none⟩) m c') w' → m ≤ c' → news.length ≤ xs.size → (∀ (j : Nat) (y : Value), news[j]? = some y → xs[j]? = some y) →
                Hp w' n xs e0 → (∀ g, g ≠ n → g < w.heap.size → w'.heap[g]? = w.heap[g]?) → w.heap.size ≤ w'.heap.size → w'.os = w.os → w'.tape = w.tape → w'.output = w.output →
                w0.M n → (∀ b, O1 n ≠ .box b) → (∀ p, O1 n = .at p → p = .t di) → (∀ o, Z n o = none) → o.wp P a w K Q := by
              intro n c' xs w' hr hmc' hxl hxn hn hw hszw hos hta hou hM hOb hOn hZn
              have I2 := I1.newG di n di e0 xs es2.flatten w' (by rw [hfl]; exact hxl) (hxs xs hxn) h1 h2 hob' hn hw hszw hos hta hou hM hOb hOn hund hZn
              have I3 := I2.put (some di) (.bs di 0 k es2.length) (.slice (some ⟨n, 0, none⟩) m c') (fun i _ => ⟨n, c', by unfold OM.nw; rw [if_pos rfl], by rw [hm], by omega⟩)
              refine wp_value (w' := w') (x := .slice (some ⟨n, 0, none⟩) m c') ?_ (hK _ Z (O1.nw n di) w' (FZ.le_refl Z) ?_)
              · rw [exec_builtin ho hc, hargs, htys]
                simp only [List.map_toArray, List.map_cons, List.map_nil]
                exact run_value hr
              · rw [hdi]
                simpa [Eff.on, Eff.onb, St.put, List.map_set] using I3
            have fresh : ∀ {c' : Nat} {xs : Array Value}, (Builtin.append_ #[t, t] o.type #[a.eval x, a.eval y]).run P w = .ok (.slice (some ⟨w.heap.size, 0, none⟩) m c') (w.drew.alloc (.cells xs e0)) → m ≤ c' → news.length ≤ xs.size → (∀ (j : Nat) (y : Value), news[j]? = some y → xs[j]? = some y) → o.wp P a w K Q := by
              intro c' xs hr hmc' hxl hxn
              have hszd : w.heap.size ≤ (w.drew.alloc (.cells xs e0)).heap.size := by
                have : (w.drew.alloc (.cells xs e0)).heap.size = w.heap.size + 1 := by simp
                omega
              refine finV hr hmc' hxl hxn (.of0 (heap_alloc_new w.drew _)) (fun g hg hlt => heap_alloc_old w.drew _ g hlt) hszd rfl rfl rfl (w0.hM _ I.bl.size) (fun b hb => ?_) (fun p hp => ?_) (fun o => ?_)
              · have := (I1.ob w.heap.size (by rw [hb]; simp)).2; omega
              · have := (I1.ob w.heap.size (by rw [hp]; simp)).2; omega
              · cases hz : Z w.heap.size o with
                | none => rfl
                | some x => exact absurd (block_lt_of_cell (I.ag _ _ _ hz).1) (by simp)
            rcases hO1 with ⟨_, hv⟩ | ⟨g, c', cur, hv, hOg, hg, hcl, hcm, hcs, hE, hfree⟩
            · have hb : m * i.bytes ≤ 281474976710656 := by simp only [List.length_nil, Nat.zero_add, ← hm] at hbytes; omega
              have hr := run_append_nil (P := P) w t o.type e0 i z hu hi hz ⟨g2, o2, none⟩ m c2 news hnl' hnc h0 hm63 hb
              exact fresh (by rw [hv, hye]; exact hr) (grownCap_ge w m 0 e0) (by simp) (fun j y hy => by
                rw [Array.getElem?_append_left (by have := (List.getElem?_eq_some_iff.1 hy).1; simpa using this)]; simpa using hy)
            · by_cases hroom : m ≤ c'
              · have hr := run_append_room_hp (P := P) w t o.type e0 i hu hi g 0 c' cur hg ⟨g2, o2, none⟩ m c2 news hnl' hnc hn1 (by omega) (by rw [hnl', hcs, hsz]; simp only [Nat.zero_mul, Nat.zero_add]; exact Nat.mul_le_mul_right _ hroom)
                refine finV (n := g) (c' := c') (by rw [hv, hye]; simpa using hr) hroom (by simp) (fun j y hy => by
                  have hlt := (List.getElem?_eq_some_iff.1 hy).1
                  simp only [Nat.zero_mul, List.take_zero, List.nil_append, List.getElem?_toArray]
                  rw [List.getElem?_append_left hlt]; exact hy) (hg.set (by
                    have h9 : news.length ≤ cur.size := by rw [hnl', hcs, hsz]; exact Nat.mul_le_mul_right _ hroom
                    simp only [Nat.zero_mul, List.take_zero, List.nil_append, List.size_toArray, List.length_append, List.length_drop, Array.length_toList]; omega)) (fun g' hg' _ => setRow_other w g g' _ hg') (by simp) rfl rfl rfl (I1.ob g (by rw [hOg]; simp)).1 (fun b hb => by rw [hOg] at hb; cases hb) (fun p hp => by rw [hOg] at hp; injection hp with hp; exact hp.symm) (fun o => hfree o (by simp))
              · have hr := run_append_grow (P := P) w t o.type e0 i z hu hi hz ⟨g, 0, none⟩ 0 c' [] (by simp) (fun j v hj => by simp at hj) ⟨g2, o2, none⟩ m c2 news hnl' hnc (by omega) (by simp only [maxLen] at hlen; omega) (growslice_fits (by omega) (by rw [hm]; simpa using hbytes))
                exact fresh (xs := #[] ++ news.toArray ++ Builtin.zeroCells z.cells (grownCap w (0 + m) c' e0 - (0 + m))) (c' := grownCap w (0 + m) c' e0) (by rw [hv, hye]; simpa using hr) (by have := grownCap_ge w (0 + m) c' e0; omega) (by simp) (fun j y hy => by
                  rw [Array.getElem?_append_left (by have := (List.getElem?_eq_some_iff.1 hy).1; simpa using this)]; simpa using hy)
          have he : appE tk.2 o.dst e0 k es es2 (goneOf x dx) = { d := .own e0 k (es ++ es2), gone := goneOf x dx } := by unfold appE; rw [if_neg hvar]
          rw [he] at hK
          have fin : ∀ {x' : Value} {Z' : FZ} {O' : OM} {w' : World}, (Builtin.append_ #[t, t] o.type #[a.eval x, a.eval y]).run P w = .ok x' w' → Z.le Z' →
              Inv Z0 w0 Z' O' (St.put { st with t := (((goneOf x dx).foldl stripAt st.t).set di .undef) } (some di) (.own e0 k (es ++ es2))) (a.put (some di) x') w' → o.wp P a w K Q := by
            intro x' Z' O' w' hr hZ hI
            refine wp_value (w' := w') (x := x') ?_ (hK x' Z' O' w' hZ ?_)
            · rw [exec_builtin ho hc, hargs, htys]
              simp only [List.map_toArray, List.map_cons, List.map_nil]
              exact run_value hr
            · rw [hdi]
              simpa [Eff.on, Eff.onb, St.put] using hI
          rcases Nat.eq_zero_or_pos m with h0 | h0
          · subst h0
            have he2 : es2 = [] := List.eq_nil_of_length_eq_zero hm.symm
            subst he2
            have hkT : sizeT P e0 = some k := by simp [sizeT, hi, hsz]
            obtain ⟨s, n, cc, hxe, hnc⟩ : ∃ s n cc, a.eval x = .slice s n cc ∧ n ≤ cc := by
              rcases hO1 with ⟨_, hv⟩ | ⟨g, c', cur, hv, _, _, hv2, _⟩
              · exact ⟨_, _, _, hv, Nat.le_refl _⟩
              · exact ⟨_, _, _, hv, hv2⟩
            refine fin (x' := a.eval x) (Z' := Z) (O' := O1) (w' := w) ?_ (FZ.le_refl Z) (I1.put (some di) _ _ fun i hi => ?_)
            · rw [hxe, hye]; exact run_append_zero hu hkT _ _ _ _ _ hnc
            · simp only [Option.some.injEq] at hi; subst hi
              rw [List.append_nil]; exact hO1
          · have h0l : 0 < es2.length := by omega
            obtain ⟨g2, o2, rfl, hE2⟩ := hs2 k 0 es2[0] (List.getElem?_eq_getElem h0l) (by simpa using List.all_eq_true.1 hkk _ (List.getElem_mem h0l))
            obtain ⟨news, hnl, hnc, hn1, hnr⟩ := hE2.news I.ag hk0
            have hnl' : news.length = m * i.size := by rw [hnl, hsz, hm]
            have hm63 : (m : Int) ≤ 9223372036854775807 := by simp only [maxLen] at hlen; omega
            rcases hO1 with ⟨he, hv⟩ | ⟨g, c', cur, hv, hOg, hg, hcl, hcm, hcs, hE, hfree⟩
            · subst he
              have hb : m * i.bytes ≤ 281474976710656 := by simp only [List.length_nil, Nat.zero_add, ← hm] at hbytes; omega
              have hr := run_append_nil (P := P) w t o.type e0 i z hu hi hz ⟨g2, o2, none⟩ m c2 news hnl' hnc h0 hm63 hb
              have hge := grownCap_ge w m 0 e0
              have hle := grownCap_le_maxLen w m 0 e0 (by simp only [List.length_nil, Nat.zero_add] at hlen; omega)
              obtain ⟨Z', O', hZ, I2⟩ := I1.fresh (some di) e0 k es2 news.toArray (news.toArray ++ Builtin.zeroCells z.cells (grownCap w m 0 e0 - m)) (grownCap w m 0 e0) (fun i hi => hE2.1 i hi) (by simpa using hnl)
                (fun i hi j hj => by
                  obtain ⟨y, q1, q2⟩ := hnr i hi j hj
                  exact ⟨y, by simpa using q1, q2, hn1 y (List.mem_of_getElem? q1)⟩) (fun y hy => hn1 y (by simpa using hy)) (fun i x hx => by
                  rw [Array.getElem?_append_left (Array.getElem?_eq_some_iff.1 hx).1]; exact hx) (by omega) hle (by
                  simp only [Array.size_append, List.size_toArray, size_zeroCells, hzs, hnl, ← hm, ← Nat.add_mul]; congr 1; omega) w.drew (.inr rfl)
              refine fin (x' := .slice (some ⟨w.heap.size, 0, none⟩) m (grownCap w m 0 e0)) (Z' := Z') (O' := O') (w' := w.drew.alloc (.cells (news.toArray ++ Builtin.zeroCells z.cells (grownCap w m 0 e0 - m)) e0)) ?_ hZ ?_
              · rw [hv, hye]; exact hr
              · rw [List.nil_append]; rw [← hm] at I2; exact I2
            · by_cases hroom : es.length + m ≤ c'
              · have hr := run_append_room_hp (P := P) w t o.type e0 i hu hi g es.length c' cur hg ⟨g2, o2, none⟩ m c2 news hnl' hnc hn1 hroom (by rw [hnl', hcs, ← Nat.add_mul, hsz]; exact Nat.mul_le_mul_right _ hroom)
                obtain ⟨Z', hZ, I2⟩ := I1.room (some di) (g := g) (c := c') (k := k) (e := e0) (es := es) (es2 := es2) (cur := cur) (news := news) hOg (by
                  simp only [St.at, Option.getD_some, List.getD_eq_getElem?_getD, List.getElem?_set]
                  split
                  · split <;> rfl
                  · rename_i h; exact absurd trivial h) hg (by omega) hcm hcs hE hfree hnl hE2.1 hn1 hnr
                refine fin ?_ hZ I2
                rw [hv, hye, ← hm]
                rw [hsz] at hr
                exact hr
              · have holds : ∀ j v, (cur.toList.take (es.length * k))[j]? = some v → w.cell? ((⟨g, 0, none⟩ : Addr).add j) = some v := fun j v hj => by
                  have hjl : j < es.length * k := by have := (List.getElem?_eq_some_iff.1 hj).1; simp at this; omega
                  rw [addr_add, Nat.zero_add, hg.cell j]
                  rw [List.getElem?_take_of_lt hjl] at hj
                  simpa using hj
                have hol : (cur.toList.take (es.length * k)).length = es.length * i.size := by
                  rw [List.length_take, hsz]
                  have : es.length * k ≤ c' * k := Nat.mul_le_mul_right _ hcl
                  simp only [Array.length_toList, hcs]; omega
                have hr := run_append_grow (P := P) w t o.type e0 i z hu hi hz ⟨g, 0, none⟩ es.length c' (cur.toList.take (es.length * k)) hol holds ⟨g2, o2, none⟩ m c2 news hnl' hnc (by omega) (by simp only [maxLen] at hlen; omega) (growslice_fits (by omega) (by rw [hm]; exact hbytes))
                have hge := grownCap_ge w (es.length + m) c' e0
                have hle := grownCap_le_maxLen w (es.length + m) c' e0 (by omega)
                obtain ⟨Z', O', hZ, I2⟩ := I1.fresh (some di) e0 k (es ++ es2) (cur.toList.take (es.length * k) ++ news).toArray ((cur.toList.take (es.length * k)).toArray ++ news.toArray ++ Builtin.zeroCells z.cells (grownCap w (es.length + m) c' e0 - (es.length + m))) (grownCap w (es.length + m) c' e0)
                  (fun i hi => by
                    rw [List.getElem_append]
                    split
                    · exact hE.1 _ _
                    · exact hE2.1 _ _) (by simp only [List.size_toArray, List.length_append, hol, hnl, hsz, Nat.add_mul])
                  (app_hx (by rw [hol, hsz]) (hE.olds I.ag hg) hE.1 hnr hn1) (fun y hy => by
                    have hy' : y ∈ cur.toList.take (es.length * k) ++ news := by simpa using hy
                    rcases List.mem_append.1 hy' with hy' | hy'
                    · obtain ⟨q, hq, rfl⟩ := List.mem_iff_getElem.1 hy'
                      have hq1 : q < es.length * k := by rw [hol, hsz] at hq; exact hq
                      have hi' : q / k < es.length := Nat.div_lt_of_lt_mul (by rwa [Nat.mul_comm] at hq1)
                      have hj' : q % k < (es[q / k]).length := by rw [hE.1 _ hi']; exact Nat.mod_lt _ hk0
                      obtain ⟨y, q1, _, q3⟩ := hE.olds I.ag hg (q / k) hi' (q % k) hj'
                      rw [show q / k * k + q % k = q by rw [Nat.mul_comm]; exact Nat.div_add_mod q k, List.getElem?_eq_getElem hq] at q1
                      simp only [Option.some.injEq] at q1
                      rw [q1]; exact q3
                    · exact hn1 y hy') (fun i x hx => by
                    have hx' : (cur.toList.take (es.length * k) ++ news)[i]? = some x := by simpa using hx
                    have hlt := (List.getElem?_eq_some_iff.1 hx').1
                    rw [Array.getElem?_append_left (by simp only [Array.size_append, List.size_toArray]; rw [List.length_append] at hlt; exact hlt)]
                    simpa using hx') (by rw [List.length_append]; omega) hle (by
                    simp only [Array.size_append, List.size_toArray, size_zeroCells, hzs, hol, hnl, hsz, ← hm, ← Nat.add_mul]; congr 1; omega) w.drew (.inr rfl)
                refine fin (x' := .slice (some ⟨w.heap.size, 0, none⟩) (es.length + m) (grownCap w (es.length + m) c' e0)) (Z' := Z') (O' := O') (w' := w.drew.alloc (.cells ((cur.toList.take (es.length * k)).toArray ++ news.toArray ++ Builtin.zeroCells z.cells (grownCap w (es.length + m) c' e0 - (es.length + m))) e0)) ?_ hZ ?_
                · rw [hv, hye]; exact hr
                · rw [List.length_append, ← hm] at I2; exact I2
        · cases h
      · rename_i k es e0 hnorm hu
        simp only [Option.bind_eq_some_iff] at h
        obtain ⟨es2, hes, i, hi, h⟩ := h
        split at h
        · rename_i hcond
          obtain ⟨he1, he2, hkk1, hkk, hsz, hk0, hz, hbytes, hlen, hdst⟩ := hcond
          simp only [Option.some.injEq] at h
          subst h
          simp only [Option.map_eq_some_iff] at hz
          obtain ⟨z, hz, hzs⟩ := hz
          have hpn := hp.norm (P := P) (t := t)
          rw [hnorm] at hpn
          obtain ⟨hsl, ad, nn, hxe⟩ := hpn
          obtain ⟨s1, m1, c1, hxe1, hm1, _, hs1⟩ := esOf_els (RV.ofRp (w := w) (O := O) (p := p) hsl) (show esOf (.sl es) = some es from rfl)
          rw [hxe] at hxe1
          injection hxe1 with q1 q2 q3
          subst q1
          have hnn : nn = es.length := by omega
          subst hnn
          have h0l1 : 0 < es.length := by cases es with | nil => cases he1 | cons => simp
          have h0l2 : 0 < es2.length := by cases es2 with | nil => cases he2 | cons => simp
          obtain ⟨g1, o1, rfl, hE1⟩ := hs1 k 0 es[0] (List.getElem?_eq_getElem h0l1) (by simpa using List.all_eq_true.1 hkk1 _ (List.getElem_mem h0l1))
          obtain ⟨olds, hol, hoc, ho1, hor⟩ := hE1.news I.ag hk0
          obtain ⟨s2, m, c2, hye, hm, hmc, hs2⟩ := esOf_els hq hes
          obtain ⟨g2, o2, rfl, hE2⟩ := hs2 k 0 es2[0] (List.getElem?_eq_getElem h0l2) (by simpa using List.all_eq_true.1 hkk _ (List.getElem_mem h0l2))
          obtain ⟨news, hnl, hnc, hn1, hnr⟩ := hE2.news I.ag hk0
          have hnl' : news.length = m * i.size := by rw [hnl, hsz, hm]
          have hol' : olds.length = es.length * i.size := by rw [hol, hsz]
          have hr := run_append_grow (P := P) w t o.type e0 i z hu hi hz ⟨g1, o1, none⟩ es.length es.length olds hol' hoc ⟨g2, o2, none⟩ m c2 news hnl' hnc (by omega) (by simp only [maxLen] at hlen; omega) (growslice_fits (by omega) (by rw [hm]; exact hbytes))
          have hge := grownCap_ge w (es.length + m) es.length e0
          have hle := grownCap_le_maxLen w (es.length + m) es.length e0 (by omega)
          obtain ⟨Z', O', hZ, I2⟩ := I.fresh o.dst e0 k (es ++ es2) (olds ++ news).toArray (olds.toArray ++ news.toArray ++ Builtin.zeroCells z.cells (grownCap w (es.length + m) es.length e0 - (es.length + m))) (grownCap w (es.length + m) es.length e0)
            (fun i hi => by
              rw [List.getElem_append]
              split
              · exact hE1.1 _ _
              · exact hE2.1 _ _) (by simp only [List.size_toArray, List.length_append, hol, hnl, Nat.add_mul])
            (app_hx hol (fun i hi j hj => by
              obtain ⟨y, y1, y2⟩ := hor i hi j hj
              exact ⟨y, y1, y2, ho1 y (List.mem_of_getElem? y1)⟩) hE1.1 hnr hn1) (fun y hy => by
              have hy' : y ∈ olds ++ news := by simpa using hy
              rcases List.mem_append.1 hy' with hy' | hy'
              · exact ho1 y hy'
              · exact hn1 y hy') (fun i x hx => by
              have hx' : (olds ++ news)[i]? = some x := by simpa using hx
              have hlt := (List.getElem?_eq_some_iff.1 hx').1
              rw [Array.getElem?_append_left (by simp only [Array.size_append, List.size_toArray]; rw [List.length_append] at hlt; exact hlt)]
              simpa using hx') (by rw [List.length_append]; omega) hle (by
              simp only [Array.size_append, List.size_toArray, size_zeroCells, hzs, hol, hnl, ← hm, ← Nat.add_mul]; congr 1; omega) w.drew (.inr rfl)
          refine wp_value (w' := w.drew.alloc (.cells (olds.toArray ++ news.toArray ++ Builtin.zeroCells z.cells (grownCap w (es.length + m) es.length e0 - (es.length + m))) e0)) (x := .slice (some ⟨w.heap.size, 0, none⟩) (es.length + m) (grownCap w (es.length + m) es.length e0)) ?_ (hK _ Z' O' _ hZ ?_)
          · rw [exec_builtin ho hc, hargs, htys]
            simp only [List.map_toArray, List.map_cons, List.map_nil]
            rw [hxe, hye]
            exact run_value hr
          · rw [List.length_append, ← hm] at I2
            exact I2
        · cases h
      · cases h
    · have hargs : c.args = #[x, y] := by rw [← Array.toArray_toList (xs := c.args), hxs]
      have htys : c.argTypes = #[t, t'] := by rw [← Array.toArray_toList (xs := c.argTypes), hts]
      simp only [Option.bind_eq_some_iff] at h
      obtain ⟨dx, hx, dy, hy, h⟩ := h
      exact sound_appendS ho hc hargs htys hx hy h I hK
  · cases h

/-- bytes, as numbers -/
theorem bytN_spec : ∀ {es : List (List D)} {l : List Int}, bytN es = some l → l.length = es.length ∧ ∀ i (h : i < es.length) (h' : i < l.length), es[i] = [.v (.int .u8 l[i])]
  | [], l, h => by cases h; exact ⟨rfl, fun i h => absurd h (Nat.not_lt_zero _)⟩
  | e :: es, l, h => by
    unfold bytN at h
    split at h
    · rename_i he; cases he
    · rename_i n es' he
      cases he
      rw [Option.map_eq_some_iff] at h
      obtain ⟨l', h', rfl⟩ := h
      obtain ⟨h1, h2⟩ := bytN_spec h'
      refine ⟨by simp [h1], fun i hi hj => ?_⟩
      cases i with
      | zero => rfl
      | succ i => exact h2 i (by simpa using hi) (by simpa using hj)
    · cases h
theorem push_bsI : ∀ (l : List Int) (s : ByteArray), l.foldl (fun r n => r.push (UInt8.ofNat n.toNat)) s = ⟨s.data ++ (l.map fun n => UInt8.ofNat n.toNat).toArray⟩
  | [], s => by simp
  | n :: l, s => by
    rw [List.foldl_cons, push_bsI l]
    congr 1
    simp [ByteArray.push]
theorem und_b2s {s t : TypeId} (h : b2s P s t = true) : ∃ e, P.underlying s = some (.slice e) ∧ P.underlying e = some (.int .u8) ∧ P.underlying t = some .string := by
  unfold b2s at h
  rw [Bool.and_eq_true] at h
  obtain ⟨h1, h2⟩ := h
  have h2 : P.underlying t = some .string := by
    split at h2
    · assumption
    · cases h2
  unfold bytT at h1
  split at h1
  · rename_i e hs
    split at h1
    · exact ⟨e, hs, by assumption, h2⟩
    · cases h1
  · cases h1
theorem bytT_spec {t e : TypeId} (h : bytT P t = some e) : P.underlying t = some (.slice e) ∧ P.underlying e = some (.int .u8) := by
  unfold bytT at h
  split at h
  · rename_i e' hs
    split at h
    · cases h
      exact ⟨hs, by assumption⟩
    · cases h
  · cases h
theorem run_bytes {s t : TypeId} (h : b2s P s t = true) (a : Option Addr) (l : List Int) (c : Nat) (hc : l ≠ [] → ∃ g o, a = some ⟨g, o, none⟩ ∧ ∀ i (hi : i < l.length), w.cell? ⟨g, o + i, none⟩ = some (.int .u8 l[i])) :
    (convert s t (.slice a l.length c)).run P w = .ok (.string (bsI l)) w := by
  obtain ⟨e, h1, h2, h3⟩ := und_b2s h
  rw [run_convert_bytes_string w s t e a _ c h1 h2 h3]
  have key : ∀ ad : Addr, (∀ i (hi : i < l.length), w.cell? (ad.add i) = some (.int .u8 l[i])) → (Conv.bytesToString (.slice (some ad) l.length c)).run P w = .ok (.string (bsI l)) w := fun ad had => by
    have hl := run_loadCells_list (P := P) (w := w) ad (l.map (Value.int .u8)) (fun j v hv => by
      obtain ⟨hj, rfl⟩ := List.getElem?_eq_some_iff.1 hv
      rw [List.length_map] at hj
      rw [had j hj, List.getElem_map])
    rw [List.length_map] at hl
    rw [run_bytesToString w ad _ c l hl, push_bsI]
    simp [bsI, ByteArray.empty, ByteArray.emptyWithCapacity]
    rfl
  cases l with
  | nil =>
    cases a with
    | none => rfl
    | some ad => exact key ad (fun i hi => absurd hi (Nat.not_lt_zero _))
  | cons n l =>
    obtain ⟨g, o, rfl, hg⟩ := hc (by simp)
    exact key _ (fun i hi => by rw [addr_add]; exact hg i hi)
theorem sound_convert {s t : TypeId} {x : Operand} (ho : o.op = .convert s t x) (h : dop P F tk st.rd st.bx o = some e) (I : Inv Z0 w0 Z O st a w) (hK : After Z0 w0 Z st a o e K) : o.wp P a w K Q := by
  simp only [dop, ho, Option.bind_eq_some_iff] at h
  obtain ⟨dx, hx, h⟩ := h
  obtain ⟨p, hp, _⟩ := I.rd hx
  have plain : ∀ {va r : Value}, toV dx = some va → pureRun P (convert s t va) = some r → e = { d := .v r } → o.wp P a w K Q := by
    intro va r hv hr he
    subst he
    have e1 := hp.toV hv
    refine wp_value (x := r) ?_ (hK.pure I fun i => .v r)
    unfold execOp
    simp only [ho, e1]
    exact run_value (pureRun_run _ _ w hr)
  have bytes : ∀ {es : List (List D)}, esOf dx = some es → (if b2s P s t = true then (bytN es).map fun l => ({ d := .v (.string (bsI l)) } : Eff) else none) = some e → o.wp P a w K Q := by
    intro es hes h
    split at h
    · rename_i hb
      rw [Option.map_eq_some_iff] at h
      obtain ⟨l, hl, rfl⟩ := h
      obtain ⟨hl1, hl2⟩ := bytN_spec hl
      obtain ⟨s2, m, c2, hye, hm, hmc, hs2⟩ := esOf_els hp hes
      refine wp_value (x := .string (bsI l)) ?_ (hK.pure I fun i => .v _)
      unfold execOp
      simp only [ho, hye]
      refine run_value ?_
      rw [hm, ← hl1]
      refine run_bytes hb s2 l c2 fun hne => ?_
      have h0 : 0 < l.length := List.length_pos_iff.2 hne
      have e0 := hl2 0 (by omega) h0
      obtain ⟨g, oo, rfl, hE⟩ := hs2 1 0 _ (List.getElem?_eq_getElem (by omega)) (by rw [e0]; rfl)
      refine ⟨g, oo, rfl, fun i hi => ?_⟩
      have hi' : i < es.length := by omega
      have ei := hl2 i hi' hi
      obtain ⟨y, h3, h4⟩ := hE.2 i hi' 0 (by rw [ei]; simp)
      have h5 : (es[i])[0]'(by rw [ei]; simp) = .v (.int .u8 l[i]) := by simp [ei]
      rw [h5] at h4
      have hy : y = .int .u8 l[i] := by cases h4; rfl
      subst hy
      have := (I.ag _ _ _ h3).1
      rw [Nat.mul_one, Nat.add_zero] at this
      exact this
    · cases h
  cases dx with
  | v vx =>
    cases vx with
    | string b =>
      simp only [convD] at h
      split at h
      · rename_i e' he'
        obtain ⟨hu, hu8⟩ := bytT_spec he'
        split at h
        · rename_i hc
          obtain ⟨hsz, hsm, hs, hd⟩ := hc
          obtain ⟨us, hs⟩ := Option.isSome_iff_exists.1 hs
          obtain ⟨di, hdi⟩ := Option.isSome_iff_exists.1 hd
          simp only [Option.some.injEq] at h
          have e1 : a.eval x = .string b := hp.toV rfl
          have hr := Lib.run_convert_string_bytes (P := P) w s t e' b hs hu hu8
          have hge := grownCap_ge w b.size 0 e'
          have hle := grownCap_le_maxLen w b.size 0 e' hsm
          have hN : Hp (Lib.bytesWorld w e' b) w.heap.size (Lib.bytesCells w e' b) e' := ⟨_, Lib.bytesWorld_at_new w e' b, .inr (Nat.le_refl _)⟩
          have hcsz : (Lib.bytesCells w e' b).size = grownCap w b.size 0 e' := by
            simp only [Lib.bytesCells, Array.size_append, Array.size_map, Array.size_replicate]
            have : b.data.size = b.size := rfl
            omega
          have hcell : ∀ (i : Nat) (y : Value), (Lib.strCells b)[i]? = some y → (Lib.bytesCells w e' b)[i]? = some y := fun i y hy => by
            have e2 : (b.data.map fun c => Value.int .u8 c.toNat) = (Lib.strCells b).toArray := by
              apply Array.ext'
              simp [Lib.strCells]
            unfold Lib.bytesCells
            rw [e2, Array.getElem?_append_left (by have := (List.getElem?_eq_some_iff.1 hy).1; simpa using this)]
            simpa using hy
          have hos : (Lib.bytesWorld w e' b).os = w.os := by simp [Lib.bytesWorld, World.freeze, World.alloc, World.drew, -World.alloc_eq, -World.drew_eq]
          have hta : (Lib.bytesWorld w e' b).tape = w.tape := by simp [Lib.bytesWorld, World.freeze, World.alloc, World.drew, -World.alloc_eq, -World.drew_eq]
          have hou : (Lib.bytesWorld w e' b).output = w.output := by simp [Lib.bytesWorld, World.freeze, World.alloc, World.drew, -World.alloc_eq, -World.drew_eq]
          unfold byE at h
          split at h
          · rename_i hh
            subst h
            rw [Bool.and_eq_true, decide_eq_true_eq] at hh
            have hob : di < OB := by have := hh.2; rw [hdi] at this; exact this
            have I1 := I.forget di
            have hfl : (strEs b).flatten.length = b.size := by rw [flats_len (strEs b) (strEs_one b), strEs_len, Nat.mul_one]
            have hfg : ∀ j (h : j < (strEs b).flatten.length), ∃ y, (strEs b).flatten[j] = .v y ∧ (Lib.strCells b)[j]? = some y := fun j hj => by
              obtain ⟨i', hi', q', hq', hjq, hfd⟩ := flats_get (by omega) (strEs b) (strEs_one b) j hj
              have h1 := strEs_one b i' hi'
              have hq0 : q' = 0 := by omega
              subst hq0
              have hi2 : i' < (Lib.strCells b).length := by rw [Lib.strCells_length, ← strEs_len]; exact hi'
              refine ⟨(Lib.strCells b)[i'], ?_, ?_⟩
              · rw [hfd]
                have e : (strEs b)[i'] = [.v (Lib.strCells b)[i']] := by simp [strEs]
                simp only [e, List.getElem_cons_zero]
              · rw [← List.getElem?_eq_getElem hi2]; congr 1; omega
            have hnoref : ∀ d ∈ (strEs b).flatten, one d = true ∧ refc di d = false := fun d hd => by
              obtain ⟨j, hj, rfl⟩ := List.mem_iff_getElem.1 hd
              obtain ⟨y, h1, h2⟩ := hfg j hj
              rw [h1]
              exact ⟨Lib.strCells_oneCell b y (List.mem_of_getElem? h2), rfl⟩
            have hund : St.at { st with t := (st.t.set di .undef) } di = .undef := by
              simp only [St.at, List.getD_eq_getElem?_getD, List.getElem?_set]
              split
              · split <;> rfl
              · rename_i h; exact absurd trivial h
            have I2 := I1.newG di w.heap.size di e' (Lib.bytesCells w e' b) (strEs b).flatten (Lib.bytesWorld w e' b) (by rw [hfl, hcsz]; exact hge) (fun j h h' => by
              obtain ⟨y, h1, h2⟩ := hfg j h
              have h3 := hcell j y h2
              rw [Array.getElem?_eq_getElem h'] at h3
              simp only [Option.some.injEq] at h3
              rw [h1, h3]
              exact ⟨.v _, Lib.strCells_oneCell b y (List.mem_of_getElem? h2)⟩) (List.all_eq_true.2 fun d hd => (hnoref d hd).1) (List.any_eq_false.2 fun d hd => by rw [(hnoref d hd).2]; simp) hob hN (fun g hg hlt => Lib.bytesWorld_at_old w e' b g hlt) (by rw [Lib.bytesWorld_size]; omega) hos hta hou (w0.hM _ I.bl.size) (fun b' hb => by
              have := (I1.ob w.heap.size (by rw [hb]; simp)).2; omega) (fun p hp => by
              have := (I1.ob w.heap.size (by rw [hp]; simp)).2; omega) hund (fun o => by
              cases hz : Z w.heap.size o with
              | none => rfl
              | some x => exact absurd (block_lt_of_cell (I.ag _ _ _ hz).1) (by simp))
            have I3 := I2.put (some di) (.bs di 0 1 b.size) (.slice (some ⟨w.heap.size, 0, none⟩) b.size (grownCap w b.size 0 e')) (fun i _ => ⟨w.heap.size, _, by unfold OM.nw; rw [if_pos rfl], rfl, hge⟩)
            refine wp_value (w' := Lib.bytesWorld w e' b) (x := .slice (some ⟨w.heap.size, 0, none⟩) b.size (grownCap w b.size 0 e')) ?_ (hK _ Z _ _ (FZ.le_refl Z) (?_ : Inv Z0 w0 Z (O.nw w.heap.size di) _ _ _))
            · unfold execOp
              simp only [ho, e1]
              exact run_value hr
            · rw [hdi]
              simpa [Eff.on, Eff.onb, St.put, List.map_set] using I3
          · subst h
            obtain ⟨Z', O', hZ, I2⟩ := I.freshG (some di) e' 1 (strEs b) (Lib.strCells b).toArray (Lib.bytesCells w e' b) (grownCap w b.size 0 e') (strEs_one b) (by simp [strEs_len, Lib.strCells_length])
              (fun i hi j hj => by
                obtain ⟨y, q1, q2⟩ := strEs_rp Z b i hi j hj
                exact ⟨y, by simpa using q1, q2, Lib.strCells_oneCell b y (List.mem_of_getElem? q1)⟩) (fun y hy => Lib.strCells_oneCell b y (by simpa using hy)) (fun i y hy => hcell i y (by simpa using hy)) (by rw [strEs_len]; exact hge) hle (by rw [hcsz, Nat.mul_one])
              (Lib.bytesWorld w e' b) (fun g hg => Lib.bytesWorld_at_old w e' b g hg) hN (Lib.bytesWorld_size w e' b) hos hta hou
            refine wp_value (w' := Lib.bytesWorld w e' b) (x := .slice (some ⟨w.heap.size, 0, none⟩) b.size (grownCap w b.size 0 e')) ?_ (hK _ Z' O' _ hZ ?_)
            · unfold execOp
              simp only [ho, e1]
              exact run_value hr
            · rw [strEs_len] at I2
              rw [hdi]
              simpa [Eff.on, Eff.onb, St.put] using I2
        · cases h
      · rw [Option.map_eq_some_iff] at h
        obtain ⟨r, hr, rfl⟩ := h
        exact plain rfl hr rfl
    | _ =>
      simp only [convD, Option.bind_eq_some_iff, Option.map_eq_some_iff] at h
      obtain ⟨va, hva, r, hr, rfl⟩ := h
      exact plain hva hr rfl
  | own e2 k es => exact bytes rfl h
  | sl es => exact bytes rfl h
  | bs b off k n =>
    simp only [convD] at h
    split at h
    · rename_i hc
      obtain ⟨hb, rfl⟩ := hc
      rw [Option.bind_eq_some_iff] at h
      obtain ⟨cs, hcs, h⟩ := h
      split at h
      · rename_i hle
        rw [Option.map_eq_some_iff] at h
        obtain ⟨l, hl, rfl⟩ := h
        obtain ⟨hl1, hl2⟩ := bytN_spec hl
        rw [chunks_len] at hl1
        obtain ⟨g, c, hO, hxe, hnc⟩ := hp
        obtain ⟨g', xs, e2, q1, q2, q3, q4, q5, q6⟩ := I.bv b cs hcs
        have hgg := I.uq g g' b hO q1
        subst hgg
        have hE : After Z0 w0 Z st a o { d := .v (.string (bsI l)) } K := fun x' Z' O' w' h1 h2 => hK x' Z' O' w' h1 h2
        refine wp_value (x := .string (bsI l)) ?_ (hE.pure I fun i => .v _)
        unfold execOp
        simp only [ho, hxe]
        refine run_value ?_
        rw [← hl1]
        refine run_bytes hb _ l c fun hne => ⟨g, off, rfl, fun i hi => ?_⟩
        have hi2 : i < (chunks 1 n (cs.drop off)).length := by rw [chunks_len]; omega
        have ei := hl2 i hi2 hi
        rw [chunks_get, Nat.mul_one, List.drop_drop] at ei
        have h1 : cs[off + i]? = some (.v (.int .u8 l[i])) := by
          have h2 : ((cs.drop (off + i)).take 1)[0]? = some (.v (.int .u8 l[i])) := by rw [ei]; rfl
          rw [List.getElem?_take_of_lt (by omega), List.getElem?_drop] at h2
          simpa using h2
        obtain ⟨h3, h4⟩ := List.getElem?_eq_some_iff.1 h1
        have h5 := (q4 (off + i) h3 (by omega)).1
        rw [h4] at h5
        have h6 : xs[off + i]'(by omega) = .int .u8 l[i] := h5.toV rfl
        rw [q2.cell, Array.getElem?_eq_getElem (by omega), h6]
      · cases h
    · cases h
  | agg cs =>
    simp only [convD, Option.bind_eq_some_iff, Option.map_eq_some_iff] at h
    obtain ⟨va, hva, r, hr, rfl⟩ := h
    exact plain hva hr rfl
  | _ =>
    simp only [convD, toV, Option.bind_none] at h
    cases h

/-- what is told of functions holds, and they are called as Go functions are -/
def SoundF (P : Program) (F : FTy) : Prop :=
  (∀ f ds os r os', F f ds os = some (r, os') → Contract P f ds os r os') ∧ ∀ f ds os p, F f ds os = some p → ∃ fn, P.funcs[f]? = some fn ∧ (fn.name == "runtime.NumGoroutine") = false ∧ fn.body.isNone = false
theorem dop_sound (hF : SoundF P F) (h : dop P F tk st.rd st.bx o = some e) (I : Inv Z0 w0 Z O st a w) (hK : After Z0 w0 Z st a o e K) : o.wp P a w K Q := by
  cases ho : o.op with
  | move x => exact sound_move ho h I hK
  | assign x => exact sound_assign ho h I hK
  | pick c x y => exact sound_pick ho h I hK
  | alloc t => exact sound_alloc ho h I hK
  | box t x => exact sound_box ho h I hK
  | build t ps => exact sound_build ho h I hK
  | buildSlice t n ps => exact sound_buildSlice ho h I hK
  | load t x => exact sound_load ho h I hK
  | store t x y => exact sound_store ho h I hK
  | nilCheck x => exact sound_nilCheck ho h I hK
  | binOp op t x y yt => exact sound_binOp ho h I hK
  | unOp op t x => exact sound_unOp ho h I hK
  | makeFunc fi xs ys =>
    cases fi with
    | func fi => exact sound_makeFunc ho h I hK
    | _ => simp [dop, ho] at h
  | convert s t x => exact sound_convert ho h I hK
  | fieldAddr s x f => exact sound_fieldAddr ho h I hK
  | field s x f => exact sound_field ho h I hK
  | indexAddr t x y => exact sound_indexAddr ho h I hK
  | makeSlice t x y => exact sound_makeSlice ho h I hK
  | index t x y => exact sound_index ho h I hK
  | slice t x l h' m => exact sound_slice ho h I hK
  | extract x i => exact sound_extract ho h I hK
  | call c =>
    cases hc : c.callee with
    | builtin b =>
      cases b with
      | len => exact sound_len ho hc h I hK
      | append => exact sound_append ho hc h I hK
      | min => exact sound_min ho hc h I hK
      | max => exact sound_max ho hc h I hK
      | clear => exact sound_clear ho hc h I hK
      | _ => simp [dop, ho, hc] at h
    | value f => exact sound_call hF.1 hF.2 ho hc h I hK
    | invoke r m => simp [dop, ho, hc] at h
  | _ => simp [dop, ho] at h

theorem Inv.at_v (I : Inv Z0 w0 Z O st a w) {i : Nat} {x : Value} (h : st.at i = .v x) : a.tmps[i]? = some x := by
  have hlt : i < st.t.length := by
    rcases Nat.lt_or_ge i st.t.length with hl | hl
    · exact hl
    · rw [St.at, List.getD_eq_getElem?_getD, List.getElem?_eq_none hl] at h; cases h
  have h2 : st.t[i] = .v x := by rw [← h, St.at, List.getD_eq_getElem?_getD, List.getElem?_eq_getElem hlt]; rfl
  have := I.tv i hlt (by rw [I.tsz]; exact hlt)
  rw [h2] at this
  have hx : a.tmps[i]'(by rw [I.tsz]; exact hlt) = x := RV.toV this rfl
  rw [Array.getElem?_eq_getElem (by rw [I.tsz]; exact hlt), hx]
theorem dwant_sound {ops : Array Oper} {q : Bool} (h : dwant ops o st.at = some q) (I : Inv Z0 w0 Z O st a w) : Region.wanted o (yielded ops a.tmps) = q := by
  unfold dwant at h
  unfold Region.wanted
  cases hg : o.guard with
  | none => rw [hg] at h; simpa using h
  | some p =>
    obtain ⟨j, want⟩ := p
    rw [hg] at h
    simp only at h ⊢
    unfold yielded
    cases hj : (ops[j]?).bind (·.dst) with
    | none =>
      rw [hj] at h
      simp only [Option.some.injEq] at h
      subst h
      simp
    | some i =>
      rw [hj] at h
      simp only at h
      simp only [Option.bind_some]
      split at h
      · rename_i b hb
        rw [I.at_v hb]
        simp only [Option.some.injEq] at h
        subst h
        cases b <;> cases want <;> rfl
      · rename_i x hne hx
        rw [I.at_v hx]
        simp only [Option.some.injEq] at h
        subst h
        cases x <;> first | rfl | exact (hne _ rfl).elim
      · cases h
theorem deff_sound {hs : List Tmp} {ops : Array Oper} {i : Nat} (hF : SoundF P F) (hi : ops[i]? = some o) (h : deff P F hs ops st o = some e) (I : Inv Z0 w0 Z O st a w) (hK : After Z0 w0 Z st a o e K) : wpOp P ops Q i K a w := by
  simp only [deff, Option.bind_eq_some_iff] at h
  obtain ⟨q, hq, h⟩ := h
  unfold wpOp
  simp only [hi, dwant_sound hq I]
  cases q with
  | true =>
    simp only [if_true] at h ⊢
    exact .inl (dop_sound hF h I hK)
  | false =>
    simp only [Bool.false_eq_true, if_false, Option.some.injEq] at h ⊢
    subst h
    exact hK.pure I fun i => .v undef
theorem dlist_sound {hs : List Tmp} {ops : Array Oper} (hF : SoundF P F) : ∀ (l : List Oper) (k : Nat) (Z : FZ) (O : OM) (st : St) (a : Act) (w : World) (st' : St), (∀ j, l[j]? = ops[k + j]?) → dlist P F hs ops l st = some st' → Inv Z0 w0 Z O st a w →
    (∀ Z' O' a' w', Z.le Z' → Inv Z0 w0 Z' O' st' a' w' → Q .normal a' w') → wpOps P ops Q (List.range' k l.length) a w
  | [], k, Z, O, st, a, w, st', hl, h, I, hQ => by
    simp only [dlist, Option.some.injEq] at h
    subst h
    exact hQ Z O a w (FZ.le_refl Z) I
  | o :: l, k, Z, O, st, a, w, st', hl, h, I, hQ => by
    simp only [dlist, Option.bind_eq_some_iff] at h
    obtain ⟨e, he, h⟩ := h
    rw [List.length_cons, List.range'_succ, wpOps_cons]
    have hk : ops[k]? = some o := by have := hl 0; simpa using this.symm
    refine deff_sound hF hk he I fun x Z' O' w' hZ I' => ?_
    refine dlist_sound hF l (k + 1) Z' O' _ _ w' st' (fun j => ?_) h I' fun Z2 O2 a2 w2 hZ2 I2 => hQ Z2 O2 a2 w2 (FZ.le_trans hZ hZ2) I2
    have := hl (j + 1)
    rw [List.getElem?_cons_succ] at this
    rw [this]; congr 1; omega

/-- what a text's end is, told -/
def Post (Z0 : FZ) (w0 : Base) (Z : FZ) (r : Ex × St) (Q : Exit → Act → World → Prop) : Prop :=
  ∀ Z' O' a' w', Z.le Z' → Inv Z0 w0 Z' O' r.2 a' w' → Q (match r.1 with | .norm => .normal | .exit id => .exit id | .ret => .ret) a' w'
theorem Post.mono {Z' : FZ} {r : Ex × St} (hZ : Z.le Z') (h : Post Z0 w0 Z r Q) : Post Z0 w0 Z' r Q := fun Z2 O2 a2 w2 hZ2 I2 => h Z2 O2 a2 w2 (FZ.le_trans hZ hZ2) I2
theorem clear_inv (I : Inv Z0 w0 Z O st a w) (cl : List Tmp) : Inv Z0 w0 Z O (clear cl st) a w := by
  have : ∀ (cl : List Tmp) (t : List D), Inv Z0 w0 Z O { st with t := t } a w → Inv Z0 w0 Z O { st with t := cl.foldl (fun t i => t.set i .undef) t } a w := by
    intro cl
    induction cl with
    | nil => exact fun _ h => h
    | cons i cl ih => exact fun t h => ih _ (h.forget i)
  exact this cl st.t I
theorem least {p : Nat → Prop} (h : ∃ n, p n) : ∃ n, p n ∧ ∀ m, p m → n ≤ m := by
  obtain ⟨n, hn⟩ := h
  induction n using Nat.strongRecOn with
  | _ n ih =>
    by_cases hm : ∃ m, m < n ∧ p m
    · obtain ⟨m, hlt, hm⟩ := hm; exact ih m hlt hm
    · exact ⟨n, hn, fun m h => Nat.le_of_not_lt fun hlt => hm ⟨m, hlt, h⟩⟩
open Classical in
/-- a loop whose rounds are counted by what tells it -/
theorem wp_loop_told {c : Code} (T : Nat → Act → World → Prop) (h0 : ∀ a w, ¬ T 0 a w) (hs : ∀ n a w, T (n + 1) a w → c.wp P (Exit.then (T n) Q) a w) {n : Nat} (h : T n a w) : (Code.loop c).wp P Q a w := by
  refine wp_loop (fun a w => ∃ n, T n a w) (fun a w => if h : ∃ n, T n a w then (least h).choose else 0) ⟨n, h⟩ fun a w hI => ?_
  have hm := (least hI).choose_spec.1
  cases hn : (least hI).choose with
  | zero => rw [hn] at hm; exact absurd hm (h0 a w)
  | succ m =>
    rw [hn] at hm
    refine wp_mono (hs m a w hm) fun e a' w' he => ?_
    cases e with
    | normal =>
      have hI' : ∃ n, T n a' w' := ⟨m, he⟩
      refine ⟨hI', ?_⟩
      rw [dif_pos hI', dif_pos hI, hn]
      exact Nat.lt_succ_of_le ((least hI').choose_spec.2 m he)
    | _ => exact he
theorem freeze_inv (I : Inv Z0 w0 Z O st a w) {b : Nat} {st' : St} (h : freeze b st = some st') : ∃ Z' O', Z.le Z' ∧ Inv Z0 w0 Z' O' st' a w := by
  simp only [freeze, Option.bind_eq_some_iff] at h
  obtain ⟨cs, hb, h⟩ := h
  split at h
  case isFalse => cases h
  rename_i hall
  obtain ⟨hall, hbo⟩ := hall
  simp only [Option.some.injEq] at h
  subst h
  obtain ⟨g, xs, e, hO, hg, hsz, hcs, hZ0, hone⟩ := I.bv b cs hb
  have hgb := I.ob g (by rw [hO]; simp)
  let Z' := Z.add g (xs.toList.take cs.length)
  let O' : OM := fun g' => if g' = g then .none else O g'
  have hZ : Z.le Z' := FZ.add_le fun o x hx => by rw [hZ0] at hx; cases hx
  have hOx : ∀ {g' b'}, b' ≠ b → O g' = .box b' → O' g' = .box b' := fun {g' b'} hne h => by
    have : g' ≠ g := fun e => by subst e; rw [hO] at h; injection h with h; exact hne h.symm
    show (if _ then _ else _) = _
    rw [if_neg this, h]
  have hOa : ∀ {g' p}, O g' = .at p → O' g' = .at p ∧ g' ≠ g := fun {g' p} h => by
    have : g' ≠ g := fun e => by subst e; rw [hO] at h; cases h
    exact ⟨by show (if _ then _ else _) = _; rw [if_neg this, h], this⟩
  have hZn : ∀ {g' o}, g' ≠ g → Z g' o = none → Z' g' o = none := fun {g' o} hne h => by
    cases hz : Z' g' o with
    | none => rfl
    | some x =>
      rcases FZ.add_inv hz with ⟨e, _⟩ | h2
      · exact absurd e hne
      · rw [h] at h2; cases h2
  have hR : ∀ j (h : j < (cs.map fin1).length) (h' : j < xs.size), Rp Z xs[j] (cs.map fin1)[j] := fun j h h' => by
    have hj : j < cs.length := by simpa using h
    rw [List.getElem_map]
    refine (hcs j hj h').1.fin1.data ?_
    have := List.all_eq_true.1 hall _ (List.getElem_mem h)
    rwa [List.getElem_map] at this
  have hsl : ∀ {x : Value} {off k n : Nat}, RVc Z O x (.bs b off k n) → off + n * k ≤ (cs.map fin1).length → Rp Z' x (.sl (chunks k n ((cs.map fin1).drop off))) := by
    intro x off k n hx hle
    obtain ⟨g1, c, h1, rfl, hnc⟩ := hx
    have := I.uq g1 g b h1 hO
    subst this
    have hlen : ∀ i (hi : i < (chunks k n ((cs.map fin1).drop off)).length), ((chunks k n ((cs.map fin1).drop off))[i]).length = k := fun i hi => by
      rw [chunks_get]
      rw [chunks_len] at hi
      have : i * k + k ≤ n * k := by have := Nat.mul_le_mul_right k (show i + 1 ≤ n from hi); rwa [Nat.add_mul, Nat.one_mul] at this
      rw [List.length_take, List.length_drop, List.length_drop]
      omega
    have hin : ∀ i (hi : i < (chunks k n ((cs.map fin1).drop off)).length) j (hj : j < ((chunks k n ((cs.map fin1).drop off))[i]).length), off + i * k + j < (cs.map fin1).length := fun i hi j hj => by
      rw [hlen i hi] at hj
      rw [chunks_len] at hi
      have : i * k + k ≤ n * k := by have := Nat.mul_le_mul_right k (show i + 1 ≤ n from hi); rwa [Nat.add_mul, Nat.one_mul] at this
      omega
    have hget : ∀ i (hi : i < (chunks k n ((cs.map fin1).drop off)).length) j (hj : j < ((chunks k n ((cs.map fin1).drop off))[i]).length), (chunks k n ((cs.map fin1).drop off))[i][j] = (cs.map fin1)[off + i * k + j]'(hin i hi j hj) := fun i hi j hj => by
      have : (chunks k n ((cs.map fin1).drop off))[i][j] = ((((cs.map fin1).drop off).drop (i * k)).take k)[j]'(by rw [← chunks_get k n _ i hi]; exact hj) := by
        congr 1; exact chunks_get k n _ i hi
      rw [this]
      simp only [List.getElem_take, List.getElem_drop]
      congr 1
      omega
    have hcl : (cs.map fin1).length ≤ xs.size := by rw [List.length_map]; exact hsz
    refine .sl _ n c k _ (chunks_len k n _).symm hnc ⟨g1, off, none⟩ (fun _ => rfl) rfl hlen (fun i j => xs.getD (off + i * k + j) undef) (fun i hi j hj => ?_) (fun i hi j hj => ?_)
    · have hlt := hin i hi j hj
      refine FZ.add_at ?_
      have hlt' : off + i * k + j < xs.size := by omega
      have hlt2 : off + i * k + j < cs.length := by rw [List.length_map] at hlt; exact hlt
      rw [List.getElem?_take_of_lt hlt2, Array.getElem?_toList, Array.getElem?_eq_getElem hlt']
      simp only [Array.getD, hlt', dif_pos]
      rfl
    · have hlt := hin i hi j hj
      have hlt' : off + i * k + j < xs.size := by omega
      rw [hget i hi j hj]
      simp only [Array.getD, hlt', dif_pos]
      exact (hR _ hlt hlt').mono hZ
  have hbp : ∀ {x : Value} {off : Nat}, RVc Z O x (.bp b off) → Rp Z' x (.ep (cs.map fin1).length [cs.map fin1] 0 off) := by
    intro x off hx
    obtain ⟨g1, h1, rfl⟩ := hx
    have := I.uq g1 g b h1 hO
    subst this
    have hE : Els Z' g1 0 (cs.map fin1).length [cs.map fin1] := by
      refine ⟨fun i hi => ?_, fun i hi j hj => ?_⟩
      · have : i = 0 := by simp at hi; exact hi
        subst this; rfl
      · have : i = 0 := by simp at hi; exact hi
        subst this
        have hj' : j < (cs.map fin1).length := hj
        have hj2 : j < cs.length := by simpa using hj'
        have hjx : j < xs.size := by omega
        refine ⟨xs[j], ?_, (hR j hj' hjx).mono hZ⟩
        rw [Nat.zero_mul, Nat.zero_add]
        try rw [Nat.zero_add]
        refine FZ.add_at ?_
        rw [List.getElem?_take_of_lt hj2, Array.getElem?_toList, Array.getElem?_eq_getElem hjx]
    have := hE.ep 0 off
    simpa using this
  have hnr : ∀ {d : D}, refc b d = false → frD b (cs.map fin1) d = d := fun {d} hr => by
    cases d with
    | bs b' off k n => have h : b' ≠ b := by simpa [refc] using hr
                       simp only [frD, if_neg h]
    | bp b' off => have h : b' ≠ b := by simpa [refc] using hr
                   simp only [frD, if_neg h]
    | fn f ds es => have h : (ds.flatMap box1 ++ es.flatMap box1).contains b = false := hr
                    simp only [frD, h]; rfl
    | _ => rfl
  have hcell : ∀ {x : Value} {d : D}, RVc Z O x d → one (frD b (cs.map fin1) d) = true ∨ refc b d = false → RVc Z' O' x (frD b (cs.map fin1) d) := by
    intro x d hx ho
    cases hr : refc b d with
    | false =>
      rw [hnr hr]
      exact hx.moveB hZ fun g b' hb' => hOx (refc_ne hr hb')
    | true =>
      have ho : one (frD b (cs.map fin1) d) = true := ho.resolve_right (by rw [hr]; simp)
      cases d with
      | bs b' off k n =>
        have hbb : b' = b := by simpa [refc] using hr
        subst hbb
        simp only [frD, if_true] at ho ⊢
        split
        · rename_i hle; exact RVc.ofRp (hsl hx hle)
        · rename_i hle
          rw [if_neg hle] at ho
          cases ho
      | bp b' off =>
        have hbb : b' = b := by simpa [refc] using hr
        subst hbb
        simp only [frD, if_true]
        exact RVc.ofRp (hbp hx)
      | fn f ds es =>
        have h : (ds.flatMap box1 ++ es.flatMap box1).contains b = true := hr
        simp only [frD, h, if_true] at ho
        cases ho
      | _ => cases hr
  have hval : ∀ {p x d}, RV Z O w p x d → (∀ ds, d ≠ .agg ds) → (∀ ds, d ≠ .tup ds) → (∀ ds, d ≠ .ag2 ds) → (∀ c r ds, d ≠ .tp2 c r ds) → RV Z' O' w p x (frD b (cs.map fin1) d) := by
    intro p x d hx hag htu hag2 htp2
    have hrr : refs b d = refc b d := by
      cases d with
      | agg ds => exact absurd rfl (hag ds)
      | tup ds => exact absurd rfl (htu ds)
      | ag2 ds => exact absurd rfl (hag2 ds)
      | tp2 c r ds => exact absurd rfl (htp2 c r ds)
      | _ => rfl
    cases hr : refc b d with
    | false =>
      rw [hnr hr]
      exact hx.moveB hZ (fun g b' hb' => hOx (refs_ne (by rw [hrr]; exact hr) hb')) fun _ g' hg' => ⟨(hOa hg').1, rfl, fun o ho => hZn (hOa hg').2 ho⟩
    | true =>
      cases d with
      | bs b' off k n =>
        have hbb : b' = b := by simpa [refc] using hr
        subst hbb
        simp only [frD, if_true]
        split
        · rename_i hle; exact hsl hx hle
        · trivial
      | bp b' off =>
        have hbb : b' = b := by simpa [refc] using hr
        subst hbb
        simp only [frD, if_true]
        exact hbp hx
      | fn f ds es =>
        have h : (ds.flatMap box1 ++ es.flatMap box1).contains b = true := hr
        simp only [frD, h, if_true]; trivial
      | _ => cases hr
  have htmp : ∀ {p x d}, RV Z O w p x d → RV Z' O' w p x (frT b (cs.map fin1) d) := by
    intro p x d hx
    cases d with
    | raw => trivial
    | agg ds =>
      obtain ⟨ys, h1, h2, h3⟩ := hx
      simp only [frT]
      split
      · rename_i ho
        refine ⟨ys, h1, by simpa using h2, fun i hi hj => ?_⟩
        have hi' : i < ds.length := by simpa using hi
        rw [List.getElem_map]
        refine hcell (h3 i hi' hj) (.inl ?_)
        have := List.all_eq_true.1 ho _ (List.getElem_mem hi)
        rwa [List.getElem_map] at this
      · split
        · trivial
        · rename_i hr
          refine ⟨ys, h1, h2, fun i hi hj => ?_⟩
          have hri : refc b ds[i] = false := by
            have := List.any_eq_false.1 (show ds.any (refc b) = false by simpa using hr) ds[i] (List.getElem_mem hi)
            simpa using this
          exact (h3 i hi hj).moveB hZ fun g b' hb' => hOx (refc_ne hri hb')
    | ag2 ds =>
      simp only [frT]
      split
      · trivial
      · rename_i hr
        exact hx.moveB hZ (fun g b' hb' => hOx (refs_ne (d := .ag2 ds) (by simpa [refs] using hr) hb')) fun _ g' hg' => ⟨(hOa hg').1, rfl, fun o ho => hZn (hOa hg').2 ho⟩
    | tp2 c r ds =>
      simp only [frT]
      split
      · trivial
      · rename_i hr
        exact hx.moveB hZ (fun g b' hb' => hOx (refs_ne (by simpa using hr) hb')) fun _ g' hg' => ⟨(hOa hg').1, rfl, fun o ho => hZn (hOa hg').2 ho⟩
    | tup ds =>
      simp only [frT]
      split
      · trivial
      · rename_i hr
        exact hx.moveB hZ (fun g b' hb' => hOx (refs_ne (by simpa using hr) hb')) fun he => by cases he
    | v y => exact hval (d := .v y) hx (fun _ e => by cases e) (fun _ e => by cases e) (fun _ e => by cases e) (fun _ _ _ e => by cases e)
    | sl es => exact hval (d := .sl es) hx (fun _ e => by cases e) (fun _ e => by cases e) (fun _ e => by cases e) (fun _ _ _ e => by cases e)
    | slx k es => exact hval (d := .slx k es) hx (fun _ e => by cases e) (fun _ e => by cases e) (fun _ e => by cases e) (fun _ _ _ e => by cases e)
    | undef => trivial
    | own e k es => exact hval (d := .own e k es) hx (fun _ e => by cases e) (fun _ e => by cases e) (fun _ e => by cases e) (fun _ _ _ e => by cases e)
    | ep k es i j => exact hval (d := .ep k es i j) hx (fun _ e => by cases e) (fun _ e => by cases e) (fun _ e => by cases e) (fun _ _ _ e => by cases e)
    | nn => exact hval (d := .nn) hx (fun _ e => by cases e) (fun _ e => by cases e) (fun _ e => by cases e) (fun _ _ _ e => by cases e)
    | bs b' off k n => exact hval (d := .bs b' off k n) hx (fun _ e => by cases e) (fun _ e => by cases e) (fun _ e => by cases e) (fun _ _ _ e => by cases e)
    | bp b' off => exact hval (d := .bp b' off) hx (fun _ e => by cases e) (fun _ e => by cases e) (fun _ e => by cases e) (fun _ _ _ e => by cases e)
    | fn f ds es => exact hval (d := .fn f ds es) hx (fun _ e => by cases e) (fun _ e => by cases e) (fun _ e => by cases e) (fun _ _ _ e => by cases e)
    | bz => trivial
  have hOi : ∀ {g' b'}, O' g' = .box b' → O g' = .box b' ∧ g' ≠ g := fun {g' b'} h => by
    by_cases e : g' = g
    · have : O' g' = .none := if_pos e
      rw [this] at h; cases h
    · have : O' g' = O g' := if_neg e
      exact ⟨by rw [← this]; exact h, e⟩
  refine ⟨Z', O', hZ, ?_, ?_, ?_, ?_, ?_, ?_, I.bl, I.df, ?_, I.bs.mono hZ, fun g' b' h => hOx (by have := w0.ol g' b' h; omega) (I.oi g' b' h), fun g' b' h hb => I.oo g' b' (hOi h).1 hb⟩
  · simpa using I.tsz
  · intro i h h'
    have h2 : i < st.t.length := by simpa using h
    simp only [List.getElem_map]
    exact htmp (I.tv i h2 h')
  · intro b' cs' hb'
    have hb' : frB b (cs.map fin1) (if b' = b then none else st.b b') = some cs' := hb'
    by_cases hne : b' = b
    · rw [if_pos hne] at hb'; cases hb'
    · rw [if_neg hne] at hb'
      simp only [frB, Option.bind_eq_some_iff] at hb'
      obtain ⟨ds, hbx, hb'⟩ := hb'
      split at hb'
      case isFalse => cases hb'
      rename_i ho
      simp only [Option.some.injEq] at hb'
      subst hb'
      obtain ⟨g2, xs2, e2, r1, r2, r3, r4, r5, r6⟩ := I.bv b' ds hbx
      have hg2 : g2 ≠ g := fun e => by subst e; rw [hO] at r1; injection r1 with r1; exact hne r1.symm
      refine ⟨g2, xs2, e2, hOx hne r1, r2, by simpa using r3, fun j h h' => ?_, fun o => hZn hg2 (r5 o), r6.fr ho⟩
      have hj : j < ds.length := by simpa using h
      have h1 := r4 j hj h'
      refine ⟨?_, h1.2⟩
      rw [List.getElem_map]
      have h3 := r6.mem (List.getElem_mem hj)
      refine hval h1.1 (fun ds' e => ?_) (fun ds' e => ?_) (fun ds' e => ?_) (fun _ _ ds' e => ?_)
      · rw [e] at h3; cases h3
      · rw [e] at h3; cases h3
      · rw [e] at h3; cases h3
      · rw [e] at h3; cases h3
  · intro g1 g2 b' h1 h2
    have f : ∀ g', O' g' = .box b' → O g' = .box b' := fun g' h => by
      by_cases e : g' = g
      · have : O' g' = .none := if_pos e
        rw [this] at h; cases h
      · have : O' g' = O g' := if_neg e
        rw [← this]; exact h
    exact I.uq g1 g2 b' (f g1 h1) (f g2 h2)
  · intro g' h
    by_cases e : g' = g
    · have : O' g' = .none := if_pos e
      exact absurd this h
    · have : O' g' = O g' := if_neg e
      rw [this] at h
      exact I.ob g' h
  · intro b' o x hx
    rcases FZ.add_inv hx with ⟨rfl, h2⟩ | h2
    · obtain ⟨hlo, h2⟩ : o < cs.length ∧ xs.toList[o]? = some x := by
        rw [List.getElem?_take] at h2
        split at h2
        · exact ⟨by assumption, h2⟩
        · cases h2
      have h2' : xs[o]? = some x := by simpa using h2
      refine ⟨by rw [hg.cell o]; exact h2', ?_⟩
      obtain ⟨hlt, rfl⟩ := Array.getElem?_eq_some_iff.1 h2'
      exact (hcs o hlo hlt).2
    · exact I.ag b' o x h2
  · intro b' o x hx
    rcases FZ.add_inv hx with ⟨rfl, _⟩ | h2
    · exact .inr hgb.1
    · exact I.zn b' o x h2
theorem freezes_inv : ∀ (l : List Nat) {Z : FZ} {O : OM} {st st' : St}, Inv Z0 w0 Z O st a w → freezes l st = some st' → ∃ Z' O', Z.le Z' ∧ Inv Z0 w0 Z' O' st' a w
  | [], Z, O, st, st', I, h => by
    simp only [freezes, Option.some.injEq] at h
    subst h
    exact ⟨Z, O, FZ.le_refl Z, I⟩
  | b :: l, Z, O, st, st', I, h => by
    simp only [freezes, Option.bind_eq_some_iff] at h
    obtain ⟨s1, h1, h2⟩ := h
    unfold fz1 at h1
    split at h1
    · simp only [Option.some.injEq] at h1
      subst h1
      exact freezes_inv l I h2
    · obtain ⟨Z1, O1, hZ1, I1⟩ := freeze_inv I h1
      obtain ⟨Z2, O2, hZ2, I2⟩ := freezes_inv l I1 h2
      exact ⟨Z2, O2, FZ.le_trans hZ1 hZ2, I2⟩
/-- a region in any order -/
def SoundAny (P : Program) : Prop := ∀ (F : FTy), SoundF P F → ∀ (Z0 : FZ) (w0 : Base) (w : World) (Z : FZ) (O : OM) (st : St) (a : Act) (Q : Exit → Act → World → Prop) (id : Nat) (hs : List Tmp) (ops : Array Oper) (es : List Eff),
  dtr P F hs ops ops.toList (undefs ops st) = some es → okTr ops (ops.toList.zip es).zipIdx = true → Inv Z0 w0 Z O st a w → Post Z0 w0 Z (.norm, dall ops.toList es (undefs ops st)) Q → (Code.region id ops true).wp P Q a w
theorem denC_sound (hA : SoundAny P) (hF : SoundF P F) (cl : Nat → List Tmp) (N : Nat) : ∀ (c : Code) (bk : Nat) (Z : FZ) (O : OM) (st : St) (a : Act) (w : World) (Q : Exit → Act → World → Prop) (r : Ex × St), denC P F cl c bk N st = some r → Inv Z0 w0 Z O st a w → Post Z0 w0 Z r Q → c.wp P Q a w
  | .skip, bk, Z, O, st, a, w, Q, r, h, I, hQ => by
    simp only [denC, Option.some.injEq] at h
    subst h
    exact wp_skip (hQ Z O a w (FZ.le_refl Z) I)
  | .exit id, bk, Z, O, st, a, w, Q, r, h, I, hQ => by
    simp only [denC, Option.some.injEq] at h
    subst h
    exact wp_exit (hQ Z O a w (FZ.le_refl Z) I)
  | .ret, bk, Z, O, st, a, w, Q, r, h, I, hQ => by
    simp only [denC, Option.some.injEq] at h
    subst h
    exact wp_ret (hQ Z O a w (FZ.le_refl Z) I)
  | .region id ops false, bk, Z, O, st, a, w, Q, r, h, I, hQ => by
    simp only [denC, Option.bind_eq_some_iff, Option.map_eq_some_iff] at h
    obtain ⟨st1, hfr, s, hs, rfl⟩ := h
    obtain ⟨Z1, O1, hZ1, I1⟩ := freezes_inv _ I hfr
    refine wp_region ?_
    have := dlist_sound (Q := Q) hF ops.toList 0 Z1 O1 st1 a w s (fun j => by simp) hs I1 (fun Z' O' a' w' hZ I' => hQ Z' O' a' w' (FZ.le_trans hZ1 hZ) I')
    rw [List.range_eq_range']
    simpa using this
  | .region id ops true, bk, Z, O, st, a, w, Q, r, h, I, hQ => by
    simp only [denC, Option.bind_eq_some_iff] at h
    obtain ⟨st1, hfr, es, hs, h⟩ := h
    obtain ⟨Z1, O1, hZ1, I1⟩ := freezes_inv _ I hfr
    split at h
    · rename_i hok
      simp only [Option.some.injEq] at h
      subst h
      exact hA F hF Z0 w0 w Z1 O1 st1 a Q id _ ops es hs hok I1 (hQ.mono hZ1)
    · cases h
  | .seq x y, bk, Z, O, st, a, w, Q, r, h, I, hQ => by
    simp only [denC, Option.bind_eq_some_iff] at h
    obtain ⟨⟨e1, s1⟩, h1, h2⟩ := h
    refine wp_seq (denC_sound hA hF cl N x bk Z O st a w _ (e1, s1) h1 I fun Z' O' a' w' hZ I' => ?_)
    cases e1 with
    | norm => exact denC_sound hA hF cl N y bk Z' O' s1 a' w' Q r h2 I' (hQ.mono hZ)
    | exit id => simp only [Option.some.injEq] at h2; subst h2; exact hQ Z' O' a' w' hZ I'
    | ret => simp only [Option.some.injEq] at h2; subst h2; exact hQ Z' O' a' w' hZ I'
  | .cond c x y, bk, Z, O, st, a, w, Q, r, h, I, hQ => by
    simp only [denC, Option.bind_eq_some_iff] at h
    obtain ⟨d, hd, h⟩ := h
    split at h
    · rename_i q
      obtain ⟨p, hp, _⟩ := I.rd hd
      refine wp_cond (t := q) (hp.toV rfl) ?_
      cases q with
      | true => exact denC_sound hA hF cl N x bk Z O st a w Q r h I hQ
      | false => exact denC_sound hA hF cl N y bk Z O st a w Q r h I hQ
    · cases h
  | .block id c, bk, Z, O, st, a, w, Q, r, h, I, hQ => by
    simp only [denC, Option.map_eq_some_iff] at h
    obtain ⟨⟨e1, s1⟩, h1, rfl⟩ := h
    refine wp_block (denC_sound hA hF cl N c id Z O st a w _ (e1, s1) h1 I fun Z' O' a' w' hZ I' => ?_)
    cases e1 with
    | norm => exact hQ Z' O' a' w' hZ I'
    | exit j =>
      by_cases e : j = id
      · subst e
        simp only [Exit.inBlock, if_true]
        simp only [if_true] at hQ
        exact hQ Z' O' a' w' hZ I'
      · simp only [Exit.inBlock, if_neg e]
        simp only [if_neg e] at hQ
        exact hQ Z' O' a' w' hZ I'
    | ret => exact hQ Z' O' a' w' hZ I'
  | .loop c, bk, Z, O, st, a, w, Q, r, h, I, hQ => by
    simp only [denC] at h
    refine wp_loop_told (fun n a w => ∃ Z2 O2 st2, Z.le Z2 ∧ Inv Z0 w0 Z2 O2 st2 a w ∧ iter (denC P F cl c bk N) (cl bk) n st2 = some r) (fun a w ⟨_, _, _, _, _, h⟩ => by simp [iter] at h) (fun n a w hT => ?_) (n := N) ⟨Z, O, st, FZ.le_refl Z, I, h⟩
    obtain ⟨Z2, O2, st2, hZ2, I2, h2⟩ := hT
    simp only [iter, Option.bind_eq_some_iff] at h2
    obtain ⟨⟨e1, s1⟩, h3, h4⟩ := h2
    refine denC_sound hA hF cl N c bk Z2 O2 _ a w _ (e1, s1) h3 (clear_inv I2 _) fun Z' O' a' w' hZ I' => ?_
    cases e1 with
    | norm => exact ⟨Z', O', s1, FZ.le_trans hZ2 hZ, I', h4⟩
    | exit id => simp only [Option.some.injEq] at h4; subst h4; exact hQ Z' O' a' w' (FZ.le_trans hZ2 hZ) I'
    | ret => simp only [Option.some.injEq] at h4; subst h4; exact hQ Z' O' a' w' (FZ.le_trans hZ2 hZ) I'
  | .scope c, bk, Z, O, st, a, w, Q, r, h, I, hQ => by simp [denC] at h
  | .label l, bk, Z, O, st, a, w, Q, r, h, I, hQ => by simp [denC] at h
  | .goto l, bk, Z, O, st, a, w, Q, r, h, I, hQ => by simp [denC] at h
  | .refuse l, bk, Z, O, st, a, w, Q, r, h, I, hQ => by simp [denC] at h
  | .rangeFunc f ps x y, bk, Z, O, st, a, w, Q, r, h, I, hQ => by simp [denC] at h

def resM (tmps : Array Value) : ResultVar → Sem Value
  | .tmp t => pure (tmps.getD t undef)
  | .cell a t => do loadVar t (← asAddr (tmps.getD a undef))
theorem res_one {x : ResultVar} {d : D} (h : dres P st x = some d) (I : Inv Z0 w0 Z O st a w) : ∃ y t, (resM a.tmps x).run P w = .ok y w ∧ RV Z O w (.t t) y d := by
  cases x with
  | tmp t =>
    obtain ⟨p, hp, hpt⟩ := I.rd (x := .tmp t) h
    obtain rfl := hpt t rfl
    exact ⟨a.eval (.tmp t), t, rfl, hp⟩
  | cell t ty =>
    simp only [dres, Option.bind_eq_some_iff] at h
    obtain ⟨dt, hdt, h⟩ := h
    obtain ⟨p, hp, _⟩ := I.rd hdt
    split at h
    · rename_i b
      simp only [Option.bind_eq_some_iff] at h
      obtain ⟨cs, hb, n, hn, hd⟩ := h
      obtain ⟨g, xs, e', hxe, hO, hg, hsz, hcs, hZ, hall1⟩ := I.box hp hb
      unfold partB at hd
      obtain ⟨y, hy, hr⟩ := run_part (P := P) (Z := Z) (O := O) (w := w) (g := g) (o := 0) hn hd (fun j h1 h2 h3 => by
        have h1' : j < cs.length := by simpa using h1
        refine ⟨xs[j]'(by omega), ?_, ?_⟩
        · rw [Nat.zero_add, hg.cell j, Array.getElem?_eq_getElem (by omega)]
        rw [List.getElem_map]
        exact (hcs j h1' (by omega)).1.cellb (hall1.mem (List.getElem_mem h1')))
      refine ⟨y, 0, ?_, hr _⟩
      have hx : a.tmps.getD t undef = .pointer (some ⟨g, 0, none⟩) := hxe
      show (do loadVar ty (← asAddr (a.tmps.getD t undef)) : Sem Value).run P w = _
      rw [hx]
      simp only [asAddr, Sem.run_bind, Sem.run_pure, Result.andThen_ok]
      exact hy
    · cases h
theorem res_all {xs : List ResultVar} : ∀ {ds : List D}, (xs.mapM fun x => (dres P st x).bind fun d => if okOut (fin d) = true then some (fin d) else none) = some ds → Inv Z0 w0 Z O st a w →
    ∃ ys : List Value, (xs.mapM (resM a.tmps)).run P w = .ok ys w ∧ ys.length = ds.length ∧ ∀ i (h : i < ds.length) (h' : i < ys.length), RVa Z O ys[i] ds[i] ∧ okOut ds[i] = true := by
  induction xs with
  | nil => intro ds h I; simp at h; subst h; exact ⟨[], rfl, rfl, fun i h => absurd h (Nat.not_lt_zero _)⟩
  | cons x xs ih =>
    intro ds h I
    simp only [List.mapM_cons, Option.bind_eq_bind, Option.bind_eq_some_iff, Option.pure_def, Option.some.injEq] at h
    obtain ⟨d', ⟨d, hd, hd'⟩, ds', h', rfl⟩ := h
    split at hd'
    · rename_i hdt
      simp only [Option.some.injEq] at hd'
      subst hd'
      obtain ⟨y, t, hy, hp⟩ := res_one hd I
      obtain ⟨ys, hys, hl, hR⟩ := ih h' I
      refine ⟨y :: ys, ?_, by simp [hl], fun i h h' => ?_⟩
      · rw [List.mapM_cons, Sem.run_bind, hy]
        simp only [Result.andThen_ok, Sem.run_bind, hys, Sem.run_pure]
      · cases i with
        | zero => exact ⟨hp.fin.arg (by simp only [okOut, Bool.and_eq_true] at hdt; exact hdt.1), hdt⟩
        | succ i => exact hR i (by simpa using h) (by simpa using h')
    · cases hd'
theorem run_results {fn : Func} {tmps : Array Value} {ys : List Value} (h : (fn.results.toList.mapM (resM tmps)).run P w = .ok ys w) : (results fn tmps).run P w = .ok (if h : ys.toArray.size = 1 then ys.toArray[0] else .tuple ys.toArray) w := by
  have he : results fn tmps = (do let vs ← fn.results.mapM (resM tmps); pure (if h : vs.size = 1 then vs[0] else .tuple vs)) := by
    unfold results
    congr 1
  rw [he, Sem.run_bind, Array.mapM_eq_mapM_toList, Sem.run_map, h]
  simp only [Result.andThen_ok, Sem.run_pure]

/-- where a call begins -/
def startB (w : World) (O0 : OM) (h : ∀ g b, O0 g = .box b → OB ≤ b) (hG : Gks w) (hN : ∀ g, g ∈ gids → O0 g = .none) : Base := ⟨w, fun g => w.heap.size ≤ g ∨ O0 g ≠ .none, O0, fun _ h => .inl h, h, hG, fun g hg hm => by
  obtain ⟨cs, e, fr, h1, _⟩ := hG g hg
  have h2 : g < w.heap.size := (Array.getElem?_eq_some_iff.1 h1).1
  rcases hm with hm | hm
  · omega
  · exact hm (hN g hg)⟩
theorem start_inv {vs : Array Value} {ds : List D} {os : List (List D)} {n : Nat} {O0 : OM} (hl : vs.size = ds.length) (hR : ∀ i (h : i < ds.length) (h' : i < vs.size), RV Z O0 w (.t i) vs[i] ds[i]) (hA : Agree Z w) (hB : Bs Z)
    (hos : ∀ i cs, os[i]? = some cs → BV Z O0 w (OB + i) cs) (huq : ∀ g g' b, O0 g = .box b → O0 g' = .box b → g = g') (hob : ∀ g b, O0 g = .box b → OB ≤ b) (hlt : ∀ g, O0 g ≠ .none → g < w.heap.size) (hG : Gks w) (hN : ∀ g, g ∈ gids → O0 g = .none) :
    Inv Z (startB w O0 hob hG hN) Z O0 ⟨ds ++ List.replicate (n - ds.length) (.v undef), fun i => if i < OB then none else os[i - OB]?⟩ { tmps := vs ++ Array.replicate (n - vs.size) undef, defers := [] } w where
  tsz := by simp [hl]
  tv := fun i h h' => by
    simp only [List.getElem_append, Array.getElem_append]
    by_cases hi : i < ds.length
    · rw [dif_pos hi, dif_pos (by omega)]
      exact hR i hi (by omega)
    · rw [dif_neg hi, dif_neg (by omega)]
      simp only [List.getElem_replicate, Array.getElem_replicate]
      exact .v undef
  bv := fun b cs h => by
    have h : (if b < OB then none else os[b - OB]?) = some cs := h
    split at h
    · cases h
    · have := hos _ _ h
      rwa [show OB + (b - OB) = b by omega] at this
  uq := huq
  ob := fun g h => ⟨.inr h, hlt g h⟩
  ag := hA
  bl := ⟨rfl, rfl, rfl, Nat.le_refl _, fun _ _ => rfl⟩
  df := rfl
  zn := fun b o x h => .inl h
  bs := hB
  oi := fun _ _ h => h
  oo := fun _ _ h _ => h
theorem outs_spec {b : Nat → Option (List D)} : ∀ (n i : Nat) (l : List (List D)), outs b n i = some l → l.length = n ∧ ∀ j cs, l[j]? = some cs → b (OB + (i + j)) = some cs ∧ ∀ d ∈ cs, ∀ b' ∈ boxc d, OB ≤ b'
  | 0, i, l, h => by
    simp only [outs, Option.some.injEq] at h
    subst h
    exact ⟨rfl, fun j cs h => by simp at h⟩
  | n + 1, i, l, h => by
    simp only [outs, Option.bind_eq_some_iff] at h
    obtain ⟨cs, hcs, h⟩ := h
    split at h
    case isFalse => cases h
    rename_i hall
    rw [Option.map_eq_some_iff] at h
    obtain ⟨l', h', rfl⟩ := h
    obtain ⟨h1, h2⟩ := outs_spec n (i + 1) l' h'
    refine ⟨by simp [h1], fun j cs' hj => ?_⟩
    cases j with
    | zero =>
      simp only [List.getElem?_cons_zero, Option.some.injEq] at hj
      subst hj
      refine ⟨hcs, fun d hd b' hb' => ?_⟩
      have := List.all_eq_true.1 hall d hd
      have := List.all_eq_true.1 this b' hb'
      exact of_decide_eq_true this
    | succ j =>
      rw [List.getElem?_cons_succ] at hj
      have := h2 j cs' hj
      rwa [show OB + (i + 1 + j) = OB + (i + (j + 1)) by omega] at this
open Classical in
/-- who holds what, for the caller -/
noncomputable def OM.endAt (O : OM) (t : Nat) : OM := fun g => match O g with
  | .box b => if OB ≤ b then .box b else .none
  | .at (.t i) => if i = t then .at (.t 0) else .none
  | .at (.b b j) => if OB ≤ b then .at (.b b j) else .none
  | .none => .none
theorem finR_raw {d : D} (h : okOut (fin d) = true) : ∀ k m cs, finR d ≠ .raw k m cs := by
  intro k m cs e
  have key : fin d = .raw k m cs → False := fun e => by rw [e] at h; cases h
  cases d with
  | own => cases e
  | _ => exact key e
theorem RVg.rvr {p : Pos} {x : Value} {d : D} (h : RVg Z O w p x d) : RVr Z O w p x d := by
  cases d with
  | raw => exact h
  | undef => trivial
  | tup => exact RV.ofRp (p := p) (w := w) h
  | tp2 => cases h
  | _ => exact h
theorem RV.argG {p : Pos} {x : Value} {d : D} (h : RV Z O w p x d) (hd : argA d = true) : RVg Z O w p x d := by
  cases d <;> first | exact h | cases hd
/-- who holds what, for the caller, where a result takes its rights along -/
def OM.isEnd (O : OM) (t : Nat) (E : OM) : Prop := ∀ g, E g = O.endAt t g ∨ (E g = .at (.t 0) ∧ ((∃ b, O g = .box b ∧ b < OB) ∨ ∃ b j, O g = .at (.b b j) ∧ b < OB))
theorem endAt_box {t g b : Nat} (h : O g = .box b) (hb : OB ≤ b) : O.endAt t g = .box b := by unfold OM.endAt; simp only [h, if_pos hb]
theorem endAt_t {t g : Nat} (h : O g = .at (.t t)) : O.endAt t g = .at (.t 0) := by unfold OM.endAt; simp only [h, if_true]
theorem okOutA_ob {d : D} (h : okOutA d = true) : ∀ b ∈ boxD d, OB ≤ b := fun b hb => by
  simp only [okOutA, Bool.and_eq_true] at h
  exact of_decide_eq_true (List.all_eq_true.1 h.2 b hb)
theorem res_m {x : ResultVar} {r : D} (h : dresM P st x = some r) (I : Inv Z0 w0 Z O st a w) : ∃ y t E, (resM a.tmps x).run P w = .ok y w ∧ (∀ g, E g = O.endAt t g ∨ (E g = .at (.t 0) ∧ ((∃ b, O g = .box b ∧ b < OB) ∨ ∃ b j, O g = .at (.b b j) ∧ b < OB))) ∧ RVg Z E w (.t 0) y r := by
  cases x with
  | tmp t =>
    simp only [dresM, Option.bind_eq_some_iff] at h
    obtain ⟨d, hd, h⟩ := h
    obtain ⟨p, hp, hpt⟩ := I.rd (x := .tmp t) hd
    obtain rfl := hpt t rfl
    split at h
    · rename_i hok
      simp only [Option.some.injEq] at h
      subst h
      refine ⟨a.eval (.tmp t), t, O.endAt t, rfl, fun g => .inl rfl, ?_⟩
      have h1 : argA (finA true d) = true := by simp only [okOutA, Bool.and_eq_true] at hok; exact hok.1
      have h2 := hp.finA true
      exact RV.argG (h2.moveP (FZ.le_refl Z) (fun g b hb hg => endAt_box hg (okOutA_ob hok b hb)) fun _ g hg => ⟨endAt_t hg, rfl, fun _ h => h⟩) h1
    · unfold rawR at h
      split at h
      case h_2 => cases h
      rename_i b k m _
      rw [Option.bind_eq_some_iff] at h
      obtain ⟨cs, hcs, h⟩ := h
      split at h
      case isFalse => cases h
      rename_i hcond
      obtain ⟨hbo, hall⟩ := hcond
      simp only [Option.some.injEq] at h
      obtain ⟨g, c', hO, hx, hmc⟩ := hp
      obtain ⟨g2, xs, e, q1, q2, q3, q4, q5, q6⟩ := I.bv _ _ hcs
      obtain rfl := I.uq _ _ _ hO q1
      refine ⟨a.eval (.tmp t), t, fun g' => if g' = g then .at (.t 0) else O.endAt t g', rfl, fun g' => ?_, ?_⟩
      · by_cases hg : g' = g
        · subst hg; exact .inr ⟨if_pos rfl, .inl ⟨b, hO, hbo⟩⟩
        · exact .inl (if_neg hg)
      · rw [← h]
        refine ⟨g, c', xs, e, hx, hmc, if_pos rfl, q2, by rw [List.length_map]; exact q3, fun j h h' => ?_, q5, ?_⟩
        · have hj : j < cs.length := by simpa using h
          have hd2 := List.all_eq_true.1 hall _ (List.getElem_mem h)
          simp only [Bool.and_eq_true] at hd2
          rw [List.getElem_map] at hd2 ⊢
          exact ⟨(q4 j hj h').1.fin1.data hd2.1, (q4 j hj h').2⟩
        · exact List.all_eq_true.2 fun d hd => by
            have := List.all_eq_true.1 hall d hd
            simp only [Bool.and_eq_true] at this ⊢
            exact this.2
  | cell t ty =>
    simp only [dresM, Option.bind_eq_some_iff] at h
    obtain ⟨dt, hdt, h⟩ := h
    obtain ⟨p, hp, _⟩ := I.rd hdt
    split at h
    case h_2 => cases h
    rename_i b
    simp only [Option.bind_eq_some_iff] at h
    obtain ⟨cs, hb, n, hn, q, hq, h⟩ := h
    split at h
    case isFalse => cases h
    rename_i hcond
    obtain ⟨hag, hbo, hle, hone, hok⟩ := hcond
    simp only [Option.some.injEq] at h
    subst h
    obtain ⟨g, xs, e', hxe, hO, hg, hsz, hcs, hZ, hall1⟩ := I.box hp hb
    have hlx : ((xs.toList.drop 0).take n).length = n := by rw [List.length_take, List.length_drop, Array.length_toList]; omega
    have hA := ag2_of (q := .t 0) (off := 0) (n := n) (by omega) hsz (by simpa using hone) hcs
    refine ⟨.agg ((xs.toList.drop 0).take n).toArray, 0, (O.cp b 0 n (.t 0)).endAt 0, ?_, fun g' => ?_, ?_⟩
    · have hx : a.tmps.getD t undef = .pointer (some ⟨g, 0, none⟩) := hxe
      show (do loadVar ty (← asAddr (a.tmps.getD t undef)) : Sem Value).run P w = _
      rw [hx]
      simp only [asAddr, Sem.run_bind, Sem.run_pure, Result.andThen_ok]
      have hrun : (loadCells ⟨g, 0, none⟩ ((xs.toList.drop 0).take n).length).run P w = .ok ((xs.toList.drop 0).take n).toArray w := run_loadCells_list (P := P) w _ _ (fun j v hv => by
        have hj : j < n := by have := (List.getElem?_eq_some_iff.1 hv).1; omega
        rw [List.getElem?_take_of_lt hj, List.getElem?_drop, Array.getElem?_toList] at hv
        rw [addr_add, hg.cell]; exact hv)
      unfold loadVar
      rw [Sem.run_bind, run_isAgg hq w]
      simp only [Result.andThen_ok, hag, if_true, Sem.run_bind, run_sizeT hn w]
      rw [hlx] at hrun
      rw [hrun]; rfl
    · by_cases hin : ∃ j, O g' = .at (.b b j) ∧ j < n
      · obtain ⟨j, hj, hjn⟩ := hin
        have h1 : O.cp b 0 n (.t 0) g' = .at (.t 0) := OM.cp_self (Nat.zero_le j) (by omega) hj
        exact .inr ⟨by unfold OM.endAt; simp only [h1, if_true], .inr ⟨b, j, hj, hbo⟩⟩
      · have h1 : O.cp b 0 n (.t 0) g' = O g' := by
          unfold OM.cp
          split
          · rename_i b' j hj
            rw [if_neg (fun ⟨h1, h2, h3⟩ => hin ⟨j, by rw [hj, h1], by omega⟩), hj]
          · rfl
        exact .inl (by unfold OM.endAt; rw [h1])
    · have hA' : RV Z (O.cp b 0 n (.t 0)) w (.t 0) (.agg ((xs.toList.drop 0).take n).toArray) (.ag2 (cs.take n)) := by
        have : (cs.drop 0).take n = cs.take n := by simp
        rw [this] at hA
        exact hA
      have h2 := hA'.finA true
      exact RV.argG (d := .ag2 ((cs.take n).map finW)) (h2.moveP (FZ.le_refl Z) (fun g b hb hg => endAt_box hg (okOutA_ob hok b hb)) fun _ g hg => ⟨endAt_t hg, rfl, fun _ h => h⟩) rfl
theorem res_allM {c : Nat} : ∀ {xs : List ResultVar} {k : Nat} {ds : List D}, ((xs.zipIdx k).mapM fun p => if p.2 = c then some .undef else (dres P st p.1).bind fun d => if okOut (fin d) = true then some (fin d) else none) = some ds → Inv Z0 w0 Z O st a w →
    (∀ i x, xs[i]? = some x → k + i = c → ∃ y, (resM a.tmps x).run P w = .ok y w) →
    ∃ ys : List Value, (xs.mapM (resM a.tmps)).run P w = .ok ys w ∧ ys.length = ds.length ∧ ∀ i (h : i < ds.length) (h' : i < ys.length), (∀ hx : i < xs.length, (resM a.tmps xs[i]).run P w = .ok ys[i] w) ∧ (k + i ≠ c → RVa Z O ys[i] ds[i] ∧ okOut ds[i] = true) := by
  intro xs
  induction xs with
  | nil => intro k ds h I _; simp at h; subst h; exact ⟨[], rfl, rfl, fun i h => absurd h (Nat.not_lt_zero _)⟩
  | cons x xs ih =>
    intro k ds h I hc
    simp only [List.zipIdx_cons, List.mapM_cons, Option.bind_eq_bind, Option.bind_eq_some_iff, Option.pure_def, Option.some.injEq] at h
    obtain ⟨d', hd, ds', h', rfl⟩ := h
    obtain ⟨ys, hys, hl, hR⟩ := ih (k := k + 1) h' I fun i x hx hi => hc (i + 1) x (by simpa using hx) (by omega)
    have hone : ∃ y, (resM a.tmps x).run P w = .ok y w ∧ (k ≠ c → RVa Z O y d' ∧ okOut d' = true) := by
      by_cases hk : k = c
      · obtain ⟨y, hy⟩ := hc 0 x (by simp) hk
        exact ⟨y, hy, fun h => absurd hk h⟩
      · rw [if_neg hk, Option.bind_eq_some_iff] at hd
        obtain ⟨d, hd, hd'⟩ := hd
        split at hd'
        · rename_i hdt
          simp only [Option.some.injEq] at hd'
          subst hd'
          obtain ⟨y, t, hy, hp⟩ := res_one hd I
          exact ⟨y, hy, fun _ => ⟨hp.fin.arg (by simp only [okOut, Bool.and_eq_true] at hdt; exact hdt.1), hdt⟩⟩
        · cases hd'
    obtain ⟨y, hy, hyR⟩ := hone
    refine ⟨y :: ys, ?_, by simp [hl], fun i h h' => ?_⟩
    · rw [List.mapM_cons, Sem.run_bind, hy]
      simp only [Result.andThen_ok, Sem.run_bind, hys, Sem.run_pure]
    · cases i with
      | zero => exact ⟨fun _ => hy, hyR⟩
      | succ i =>
        obtain ⟨h1, h2⟩ := hR i (by simpa using h) (by simpa using h')
        exact ⟨fun hx => h1 (by simpa using hx), fun hne => h2 (by omega)⟩
theorem denF_sound (hA : SoundAny P) (hF : SoundF P F) (cl : FuncId → Nat → List Tmp) (n : Nat) (f : FuncId) (ds : List D) (os : List (List D)) (r : D) (os' : List (List D)) (h : denF P F cl n f ds os = some (r, os')) : Contract P f ds os r os' := by
  simp only [denF, Option.bind_eq_some_iff] at h
  obtain ⟨fn, hfn, c, hbody, h⟩ := h
  split at h
  case isFalse => cases h
  rename_i hlen
  simp only [Option.bind_eq_some_iff] at h
  obtain ⟨⟨e1, st0⟩, hden, h⟩ := h
  have hfz : (∀ id, e1 ≠ .exit id) ∧ ∃ st1, freezes (cl f hend) st0 = some st1 ∧ dresAll P fn.results.toList st1 (cl f hmvr).head? = some r ∧ outs st1.b os.length 0 = some os' := by
    have key : ∀ {x : Option (D × List (List D))}, x = some (r, os') → x = ((freezes (cl f hend) st0).bind fun st => (dresAll P fn.results.toList st (cl f hmvr).head?).bind fun d => (outs st.b os.length 0).map fun os' => (d, os')) → ∃ st1, freezes (cl f hend) st0 = some st1 ∧ dresAll P fn.results.toList st1 (cl f hmvr).head? = some r ∧ outs st1.b os.length 0 = some os' := by
      intro x hx h
      rw [hx] at h
      have h := h.symm
      simp only [Option.bind_eq_some_iff, Option.map_eq_some_iff, Prod.mk.injEq] at h
      obtain ⟨s1, h1, d, h2, o, h3, rfl, rfl⟩ := h
      exact ⟨s1, h1, h2, h3⟩
    cases e1 with
    | exit id => cases h
    | norm => exact ⟨(fun _ h => by cases h), key h rfl⟩
    | ret => exact ⟨(fun _ h => by cases h), key h rfl⟩
  obtain ⟨hex, st1, hfr, hmat, hout⟩ := hfz
  intro Z w vs O0 hAg hBs hl hR hos huq hob hlt hG hN
  refine calls_of_wp hfn hbody (denC_sound hA hF (cl f) n c 0 Z O0 _ _ w _ (e1, st0) hden (start_inv (n := fn.ntmps) hl hR hAg hBs hos huq hob hlt hG hN) fun Z1 O1 a' w' hZ1 I1 => ?_)
  obtain ⟨Z', O', hZ2, I'⟩ := freezes_inv _ I1 hfr
  have hZ := FZ.le_trans hZ1 hZ2
  obtain ⟨ho1, ho2⟩ := outs_spec _ _ _ hout
  have hpostE : ∀ (v : Value) (t : Nat) (E : OM), (∀ g, E g = O'.endAt t g ∨ (E g = .at (.t 0) ∧ ((∃ b, O' g = .box b ∧ b < OB) ∨ ∃ b j, O' g = .at (.b b j) ∧ b < OB))) → RVr Z' E w' (.t 0) v r → PostC Z w O0 os.length Z' E w' v r os' := by
    intro v t E hE hrv
    have hbx : ∀ {g b}, O' g = .box b → OB ≤ b → E g = .box b := fun {g b} h hb => by
      rcases hE g with h1 | ⟨_, ⟨b', h2, h3⟩ | ⟨b', j', h2, h3⟩⟩
      · rw [h1]; unfold OM.endAt; simp only [h, if_pos hb]
      · rw [h] at h2; injection h2 with h2; omega
      · rw [h] at h2; cases h2
    have hne : ∀ {g}, E g ≠ .none → O' g ≠ .none := fun {g} h e => by
      rcases hE g with h1 | ⟨_, ⟨b', h2, h3⟩ | ⟨b', j', h2, h3⟩⟩
      · rw [h1] at h; exact h (by unfold OM.endAt; simp only [e])
      · rw [e] at h2; cases h2
      · rw [e] at h2; cases h2
    refine ⟨hZ, I'.zn, I'.ag, I'.bl.os, I'.bl.tape, I'.bl.output, I'.bl.size, fun k hk h0 => I'.bl.block k (fun hm => hm.elim (fun h => by have h : w.heap.size ≤ k := h; omega) (fun h => h h0)), ho1, fun i cs hcs => ?_, fun g b => ⟨fun h => ?_, fun h => hbx (I'.oi g b h) (hob g b h)⟩, fun g h => I'.ob g (hne h), hrv⟩
    · obtain ⟨h1, h2⟩ := ho2 i cs hcs
      rw [Nat.zero_add] at h1
      obtain ⟨g, xs, e, q1, q2, q3, q4, q5, q6⟩ := I'.bv _ _ h1
      refine ⟨g, xs, e, hbx q1 (by omega), q2, q3, fun j h h' => ⟨?_, (q4 j h h').2⟩, q5, q6⟩
      have h3 := h2 _ (List.getElem_mem h)
      have h4 := q6.mem (List.getElem_mem h)
      have h5 := (q4 j h h').1
      generalize cs[j] = d at h3 h4 h5
      refine h5.moveB (FZ.le_refl Z') (fun g b hb hg => hbx hg (h3 b ?_)) fun _ g' hg' => ⟨?_, rfl, fun _ h => h⟩
      · cases d <;> first | exact hb | cases h4
      · rcases hE g' with h1 | ⟨_, ⟨b', h2, h3⟩ | ⟨b', j', h2, h3⟩⟩
        · rw [h1]; unfold OM.endAt; simp only [hg']; rw [if_pos (by omega)]
        · rw [hg'] at h2; cases h2
        · rw [hg'] at h2; injection h2 with h2; injection h2 with h2 _; omega
    · rcases hE g with h1 | ⟨h1, _⟩
      case inr => rw [h1] at h; cases h
      rw [h1] at h
      unfold OM.endAt at h
      split at h
      · rename_i b' hb'
        split at h
        · rename_i hle
          injection h with h
          subst h
          exact I'.oo g b' hb' hle
        · cases h
      · split at h <;> cases h
      · split at h <;> cases h
      · cases h
  have hpost : ∀ (v : Value) (t : Nat), RVr Z' (O'.endAt t) w' (.t 0) v r → PostC Z w O0 os.length Z' (O'.endAt t) w' v r os' := fun v t h => hpostE v t _ (fun g => .inl rfl) h
  have hmv : ∀ {t : Nat} {y : Value} {d : D}, RVa Z' O' y d → okOut d = true → RVa Z' (O'.endAt t) y d := fun {t y d} h ho => h.moveB (FZ.le_refl Z') fun g b hb hg => by
    simp only [okOut, Bool.and_eq_true] at ho
    have h1 : OB ≤ b := of_decide_eq_true (List.all_eq_true.1 ho.2 b (by cases d <;> first | exact hb | cases ho.1))
    unfold OM.endAt; simp only [hg, if_pos h1]
  have hfin : a'.defers = [] ∧ ∃ v, (results fn a'.tmps).run P w' = .ok v w' ∧ ∃ v' Z2 O2, Ending.returned v = .returned v' ∧ PostC Z w O0 os.length Z2 O2 w' v' r os' := by
    refine ⟨I'.df, ?_⟩
    unfold dresAll at hmat
    split at hmat
    · rename_i c hmv
      simp only [Option.bind_eq_some_iff] at hmat
      obtain ⟨x, hxc, r0, hr0, hmat⟩ := hmat
      obtain ⟨y, t, E, hy, hE, hg⟩ := res_m hr0 I'
      split at hmat
      · rename_i hl1
        simp only [Option.some.injEq] at hmat
        obtain ⟨x', hx'⟩ := List.length_eq_one_iff.1 hl1
        rw [hx'] at hxc
        have hxx : x' = x := by
          cases c with
          | zero => simpa using hxc
          | succ c => simp at hxc
        subst hxx
        have hrun := run_results (fn := fn) (tmps := a'.tmps) (ys := [y]) (P := P) (w := w') (by
          rw [hx', List.mapM_cons, Sem.run_bind, hy]; rfl)
        exact ⟨y, hrun, y, Z', E, rfl, hpostE y t E hE (by rw [← hmat]; exact hg.rvr)⟩
      · rename_i hl1
        rw [Option.map_eq_some_iff] at hmat
        obtain ⟨ds', hds', hr⟩ := hmat
        obtain ⟨ys, hys, hyl, hyR⟩ := res_allM (k := 0) hds' I' (fun i x' hx' hi => ⟨y, by
          have : i = c := by omega
          subst this
          rw [hx'] at hxc
          simp only [Option.some.injEq] at hxc
          rw [hxc]; exact hy⟩)
        have hrun := run_results (fn := fn) (tmps := a'.tmps) (P := P) (w := w') hys
        have hlen' : ys.length = fn.results.toList.length := by rw [hyl, (mapM_get hds').1]; simp
        have hn1 : ¬ ys.toArray.size = 1 := by
          intro e
          exact hl1 (by rw [← hlen']; simpa using e)
        rw [dif_neg hn1] at hrun
        refine ⟨_, hrun, _, Z', E, rfl, hpostE _ t E hE ?_⟩
        rw [← hr]
        refine ⟨ys, rfl, hyl, fun i h h' hne => ?_, fun hj => ?_⟩
        · obtain ⟨_, h2⟩ := hyR i h h'
          obtain ⟨h3, h4⟩ := h2 (by omega)
          refine h3.moveB (FZ.le_refl Z') fun g b hb hgb => ?_
          simp only [okOut, Bool.and_eq_true] at h4
          have h1 : OB ≤ b := of_decide_eq_true (List.all_eq_true.1 h4.2 b (by
            revert hb
            generalize ds'[i] = d at h4
            intro hb
            cases d <;> first | exact hb | cases h4.1))
          rcases hE g with h5 | ⟨_, ⟨b', h5, h6⟩ | ⟨b', j', h5, h6⟩⟩
          · rw [h5]; unfold OM.endAt; simp only [hgb, if_pos h1]
          · rw [hgb] at h5; injection h5 with h5; omega
          · rw [hgb] at h5; cases h5
        · have hc' : c < ds'.length := by omega
          obtain ⟨h2, _⟩ := hyR c hc' hj
          obtain ⟨hcl, hxc'⟩ := List.getElem?_eq_some_iff.1 hxc
          have h3 := h2 (by omega)
          rw [hxc'] at h3
          rw [hy] at h3
          injection h3 with h3
          rw [← h3]
          exact hg
    · rename_i x hx
      simp only [Option.bind_eq_some_iff] at hmat
      obtain ⟨d, hd, hr⟩ := hmat
      split at hr
      case isFalse =>
        unfold rawR at hr
        split at hr
        case h_2 => cases hr
        rename_i b k m _
        rw [Option.bind_eq_some_iff] at hr
        obtain ⟨cs, hcs, hr⟩ := hr
        split at hr
        case isFalse => cases hr
        rename_i hcond
        obtain ⟨hbo, hall⟩ := hcond
        simp only [Option.some.injEq] at hr
        obtain ⟨y, t, hy, hp⟩ := res_one hd I'
        obtain ⟨g, c', hO, rfl, hmc⟩ := hp
        obtain ⟨g2, xs, e, q1, q2, q3, q4, q5, q6⟩ := I'.bv _ _ hcs
        obtain rfl := I'.uq _ _ _ hO q1
        have hrun := run_results (fn := fn) (tmps := a'.tmps) (ys := [.slice (some ⟨g, 0, none⟩) m c']) (P := P) (w := w') (by
          rw [hx, List.mapM_cons, Sem.run_bind, hy]; rfl)
        refine ⟨_, hrun, _, Z', fun g' => if g' = g then .at (.t 0) else O'.endAt t g', rfl, hpostE _ t _ (fun g' => ?_) ?_⟩
        · by_cases hg : g' = g
          · subst hg; exact .inr ⟨by rw [if_pos rfl], .inl ⟨b, hO, hbo⟩⟩
          · exact .inl (if_neg hg)
        · rw [← hr]
          refine ⟨g, c', xs, e, rfl, hmc, if_pos rfl, q2, by rw [List.length_map]; exact q3, fun j h h' => ?_, q5, ?_⟩
          · have hj : j < cs.length := by simpa using h
            have hd2 := List.all_eq_true.1 hall _ (List.getElem_mem h)
            simp only [Bool.and_eq_true] at hd2
            rw [List.getElem_map] at hd2 ⊢
            exact ⟨(q4 j hj h').1.fin1.data hd2.1, (q4 j hj h').2⟩
          · exact List.all_eq_true.2 fun d hd => by
              have := List.all_eq_true.1 hall d hd
              simp only [Bool.and_eq_true] at this ⊢
              exact this.2
      rename_i hdt
      simp only [Option.some.injEq] at hr
      obtain ⟨y, t, hy, hp⟩ := res_one hd I'
      have hrun := run_results (fn := fn) (tmps := a'.tmps) (ys := [y]) (P := P) (w := w') (by
        rw [hx, List.mapM_cons, Sem.run_bind, hy]; rfl)
      refine ⟨y, hrun, y, Z', _, rfl, hpost y t ?_⟩
      rw [← hr]
      refine RVr.of ?_ (finR_raw hdt)
      have harg : arg (fin d) = true := by simp only [okOut, Bool.and_eq_true] at hdt; exact hdt.1
      cases d with
      | own e k es =>
        rcases hp with hp | ⟨g, c', cur, h1, h2, h3, h4⟩
        · exact .inl hp
        · exact .inr ⟨g, c', cur, h1, by unfold OM.endAt; simp only [h2, if_true], h3, h4⟩
      | raw => cases harg
      | ag2 => cases harg
      | tp2 => cases harg
      | bz => cases harg
      | undef => cases harg
      | ep k es i j => exact (hmv (t := t) (hp.fin.arg harg) hdt).rv
      | nn => exact (hmv (t := t) (hp.fin.arg harg) hdt).rv
      | tup => cases harg
      | v y => exact (hmv (t := t) (hp.fin.arg harg) hdt).rv
      | sl es => exact (hmv (t := t) (hp.fin.arg harg) hdt).rv
      | slx k es => exact (hmv (t := t) (hp.fin.arg harg) hdt).rv
      | agg cs => exact (hmv (t := t) (hp.fin.arg harg) hdt).rv
      | bp b o => exact (hmv (t := t) (hp.fin.arg harg) hdt).rv
      | bs b o k n => exact (hmv (t := t) (hp.fin.arg harg) hdt).rv
      | fn f xs ys => exact (hmv (t := t) (hp.fin.arg harg) hdt).rv
    · rename_i hne
      simp only [Option.map_eq_some_iff] at hmat
      obtain ⟨ds', hds', hr⟩ := hmat
      obtain ⟨ys, hys, hyl, hyR⟩ := res_all hds' I'
      have hrun := run_results (fn := fn) (tmps := a'.tmps) (P := P) (w := w') hys
      have hlen' : ys.length = fn.results.toList.length := by rw [hyl, (mapM_get hds').1]
      have hn1 : ¬ ys.toArray.size = 1 := by
        intro e
        have : fn.results.toList.length = 1 := by rw [← hlen']; simpa using e
        obtain ⟨x, hx⟩ := List.length_eq_one_iff.1 this
        exact hne x hx
      rw [dif_neg hn1] at hrun
      refine ⟨_, hrun, _, Z', _, rfl, hpost _ 0 ?_⟩
      rw [← hr]
      refine RVr.of ?_ (fun k m cs e => by cases e)
      exact ⟨ys, rfl, hyl, fun i h h' => hmv (hyR i h h').1 (hyR i h h').2⟩
  cases e1 with
  | norm => exact hfin
  | ret => exact hfin
  | exit id => exact absurd rfl (hex id)
theorem denN_sound (hA : SoundAny P) {prim : FTy} (hp : SoundF P prim) (hnames : ∀ (f : FuncId) (fn : Func), P.funcs[f]? = some fn → (fn.name == "runtime.NumGoroutine") = false) (cl : FuncId → Nat → List Tmp) : ∀ n, SoundF P (denN P cl prim n)
  | 0 => hp
  | n + 1 => by
    have ih := denN_sound hA hp hnames cl n
    refine ⟨fun f ds os r os' h => ?_, fun f ds os p h => ?_⟩
    · simp only [denN] at h
      split at h
      · rename_i r' hr; simp only [Option.some.injEq] at h; subst h; exact hp.1 f ds os r os' hr
      · exact denF_sound hA ih cl n f ds os r os' h
    · simp only [denN] at h
      split at h
      · rename_i r' hr; exact hp.2 f ds os r' hr
      · simp only [denF, Option.bind_eq_some_iff] at h
        obtain ⟨fn, hfn, c, hbody, h⟩ := h
        exact ⟨fn, hfn, hnames f fn hfn, by rw [hbody]; rfl⟩

theorem mapM_congr' {α β : Type} {f g : α → Option β} : ∀ {l : List α}, (∀ x ∈ l, f x = g x) → l.mapM f = l.mapM g
  | [], _ => rfl
  | x :: l, h => by
    simp only [List.mapM_cons, h x (List.mem_cons_self ..), mapM_congr' fun y hy => h y (List.mem_cons_of_mem _ hy)]
theorem dop_rho {ρ ρ' : Operand → Option D} {β : Nat → Option (List D)} (hρ : ∀ x ∈ o.op.operands, ρ' x = ρ x) : dop P F tk ρ' β o = dop P F tk ρ β o := by
  cases ho : o.op with
  | move x | assign x | box t x | unOp op t x | convert s t x | load t x | nilCheck x | fieldAddr s x f | field s x f | extract x i =>
    have h1 := hρ x (by simp [ho, Op.operands])
    simp only [dop, ho, h1]
  | binOp op t x y yt | index t x y | store t x y | indexAddr t x y | makeSlice t x y =>
    have h1 := hρ x (by simp [ho, Op.operands])
    have h2 := hρ y (by simp [ho, Op.operands])
    simp only [dop, ho, h1, h2]
  | pick c x y =>
    have h1 := hρ c (by simp [ho, Op.operands])
    have h2 := hρ x (by simp [ho, Op.operands])
    have h3 := hρ y (by simp [ho, Op.operands])
    simp only [dop, ho, h1]
    congr 1
    funext d
    split
    · rename_i q
      cases q <;> simp [h2, h3]
    · rfl
  | build t ps =>
    have h1 : (ps.toList.mapM fun (p : Nat × Operand) => (ρ' p.2).map fun d => (p.1, d)) = (ps.toList.mapM fun (p : Nat × Operand) => (ρ p.2).map fun d => (p.1, d)) := mapM_congr' fun p hp => by
      rw [hρ p.2 (by simp only [ho, Op.operands]; simpa using ⟨p.1, by simpa using hp⟩)]
    simp only [dop, ho, h1]
  | buildSlice t n ps =>
    have h1 : (ps.toList.mapM fun (p : Nat × Operand) => (ρ' p.2).map fun d => (p.1, d)) = (ps.toList.mapM fun (p : Nat × Operand) => (ρ p.2).map fun d => (p.1, d)) := mapM_congr' fun p hp => by
      rw [hρ p.2 (by simp only [ho, Op.operands]; simpa using ⟨p.1, by simpa using hp⟩)]
    simp only [dop, ho, h1]
  | slice t x l h m =>
    have h1 := hρ x (by simp [ho, Op.operands])
    have h2 : ∀ y, l = some y → ρ' y = ρ y := fun y e => hρ y (by simp [ho, Op.operands, e])
    have h3 : ∀ y, h = some y → ρ' y = ρ y := fun y e => hρ y (by simp [ho, Op.operands, e])
    have h4 : ∀ n, bound ρ' n l = bound ρ n l := fun n => by
      cases l with
      | none => rfl
      | some y => simp only [bound, h2 y rfl]
    have h5 : ∀ n, bound ρ' n h = bound ρ n h := fun n => by
      cases h with
      | none => rfl
      | some y => simp only [bound, h3 y rfl]
    cases l with
    | none => cases h with
      | none => simp only [dop, ho, h1, h4, h5]
      | some h => simp only [dop, ho, h1, h3 _ rfl, h4, h5]
    | some l => cases h with
      | none => simp only [dop, ho, h1, h2 _ rfl, h4, h5]
      | some h => simp only [dop, ho, h1, h2 _ rfl, h3 _ rfl, h4, h5]
  | call c =>
    have h0 : ∀ x ∈ c.args.toList, ρ' x = ρ x := fun x hx => hρ x (by
      simp only [ho, Op.operands, Call.operands]
      exact Array.mem_append.2 (.inr (by simpa using hx)))
    cases hc : c.callee with
    | builtin b =>
      cases b with
      | len =>
        simp only [dop, ho, hc]
        split
        · rename_i x hx; rw [h0 x (by rw [hx]; simp)]
        · rfl
      | append =>
        simp only [dop, ho, hc]
        split
        · rename_i x y t t' hx _; rw [h0 x (by rw [hx]; simp), h0 y (by rw [hx]; simp)]
        · rfl
      | min =>
        have h1 : (c.args.toList.mapM fun x => (ρ' x).bind toV) = (c.args.toList.mapM fun x => (ρ x).bind toV) := mapM_congr' fun x hx => by rw [h0 x hx]
        simp only [dop, ho, hc, h1]
      | max =>
        have h1 : (c.args.toList.mapM fun x => (ρ' x).bind toV) = (c.args.toList.mapM fun x => (ρ x).bind toV) := mapM_congr' fun x hx => by rw [h0 x hx]
        simp only [dop, ho, hc, h1]
      | clear =>
        simp only [dop, ho, hc]
        split
        · rename_i x t hx _; rw [h0 x (by rw [hx]; simp)]
        · rfl
      | _ => simp only [dop, ho, hc]
    | value f =>
        have hf := hρ f (by
          simp only [ho, Op.operands, Call.operands, hc]
          exact Array.mem_append.2 (.inl (by simp)))
        have h1 : (c.args.toList.mapM fun x => (ρ' x).bind fun d => if argA (finA tk.2 d) = true then some (finA tk.2 d) else none) = (c.args.toList.mapM fun x => (ρ x).bind fun d => if argA (finA tk.2 d) = true then some (finA tk.2 d) else none) := mapM_congr' fun x hx => by rw [h0 x hx]
        simp only [dop, ho, hc, h1, hf]
    | invoke r m => simp only [dop, ho, hc]
  | makeFunc fi xs ys =>
    cases fi with
    | func fi =>
      have h1 : (xs.toList.mapM fun x => (ρ' x).bind fun d => if fn1 d = true then some d else none) = (xs.toList.mapM fun x => (ρ x).bind fun d => if fn1 d = true then some d else none) := mapM_congr' fun x hx => by
        rw [hρ x (by simp only [ho, Op.operands]; exact Array.mem_append.2 (.inl (by simpa using hx)))]
      have h2 : (ys.toList.mapM fun x => (ρ' x).bind fun d => if fn1 d = true then some d else none) = (ys.toList.mapM fun x => (ρ x).bind fun d => if fn1 d = true then some d else none) := mapM_congr' fun x hx => by
        rw [hρ x (by simp only [ho, Op.operands]; exact Array.mem_append.2 (.inr (by simpa using hx)))]
      simp only [dop, ho, h1, h2]
    | _ => simp only [dop, ho]
  | _ => simp only [dop, ho]

theorem reach_congr {β β' : Nat → Option (List D)} : ∀ (n : Nat) (l seen L : List Nat), reach β n l seen = some L → (∀ b ∈ L, β' b = β b) → reach β' n l seen = some L
  | n, [], seen, L, h, _ => by
    have : some seen = some L := by cases n <;> exact h
    cases n <;> exact this
  | 0, _ :: _, _, _, h, _ => by cases h
  | n + 1, b :: l, seen, L, h, hb => by
    have hbL := (reach_spec _ _ _ _ h).2.1 b (by simp)
    simp only [reach] at h ⊢
    split at h
    · rename_i hs
      rw [if_pos hs]
      exact reach_congr n l seen L h hb
    · rename_i hs
      rw [if_neg hs, hb b hbL]
      rw [Option.bind_eq_some_iff] at h ⊢
      obtain ⟨cs, hcs, h⟩ := h
      exact ⟨cs, hcs, reach_congr n _ _ L h hb⟩
theorem dop_beta {ρ : Operand → Option D} {β β' : Nat → Option (List D)} (h : dop P F tk ρ β o = some e) (hβ : ∀ b ∈ e.rd, β' b = β b) : dop P F tk ρ β' o = some e := by
  cases ho : o.op with
  | load t x =>
    simp only [dop, ho, Option.bind_eq_some_iff] at h ⊢
    obtain ⟨d, hd, h⟩ := h
    refine ⟨d, hd, ?_⟩
    split at h
    · rename_i b off
      have hb : b ∈ e.rd := by
        simp only [Option.bind_eq_some_iff] at h
        obtain ⟨cs, _, n, _, h⟩ := h
        split at h
        · simp only [Option.bind_eq_some_iff] at h
          obtain ⟨q, _, h⟩ := h
          split at h
          · split at h
            · simp only [Option.some.injEq] at h; subst h; simp
            · cases h
          · simp only [Option.bind_eq_some_iff] at h
            obtain ⟨d, _, h⟩ := h
            split at h
            · simp only [Option.some.injEq] at h; subst h; simp
            · cases h
        · simp only [Option.map_eq_some_iff] at h
          obtain ⟨d, _, rfl⟩ := h; simp
      simp only [hβ b hb]
      exact h
    · exact h
    · cases h
  | store t x y =>
    simp only [dop, ho, Option.bind_eq_some_iff] at h ⊢
    obtain ⟨d, hd, d2, hd2, h⟩ := h
    refine ⟨d, hd, d2, hd2, ?_⟩
    split at h
    · rename_i b off
      have hb : b ∈ e.rd := by
        simp only [Option.bind_eq_some_iff] at h
        obtain ⟨cs, _, n, _, h⟩ := h
        split at h
        · simp only [Option.some.injEq] at h; subst h; simp
        · cases h
      simp only [hβ b hb]
      exact h
    · cases h
  | call c =>
    cases hc : c.callee with
    | value f =>
      simp only [dop, ho, hc, Option.bind_eq_some_iff] at h ⊢
      obtain ⟨df, hdf, fi, hfi, ds, hds, h⟩ := h
      refine ⟨df, hdf, fi, hfi, ds, hds, ?_⟩
      split at h
      case isFalse => cases h
      rename_i hnd
      rw [if_pos hnd]
      simp only [Option.bind_eq_some_iff] at h ⊢
      obtain ⟨L, hL, h⟩ := h
      by_cases hLe : L.isEmpty = true
      · rw [if_pos hLe] at h
        have hL0 : L = [] := by cases L with | nil => rfl | cons => cases hLe
        subst hL0
        exact ⟨[], reach_congr _ _ _ _ hL (fun b hb => by cases hb), by rw [if_pos hLe]; exact h⟩
      · rw [if_neg hLe] at h
        have hrd : e.rd = L := by
          unfold callO at h
          split at h
          · simp only [Option.bind_eq_some_iff] at h
            obtain ⟨os, _, p, _, h⟩ := h
            split at h
            · simp only [Option.some.injEq] at h; subst h; rfl
            · cases h
          · cases h
        rw [hrd] at hβ
        refine ⟨L, reach_congr _ _ _ _ hL hβ, ?_⟩
        rw [if_neg hLe]
        unfold callO at h ⊢
        rw [show L.mapM β' = L.mapM β from mapM_congr' hβ]
        exact h
    | builtin b =>
      cases b with
      | clear =>
        simp only [dop, ho, hc] at h ⊢
        split at h
        case h_2 => cases h
        rename_i x t hxs hts
        rw [Option.bind_eq_some_iff] at h ⊢
        obtain ⟨a, ha, h⟩ := h
        refine ⟨a, ha, ?_⟩
        split at h
        case h_2 => cases h
        rename_i b off k n el hu
        have hb : b ∈ e.rd := by
          simp only [Option.bind_eq_some_iff] at h
          obtain ⟨cs, _, z, _, h⟩ := h
          split at h
          · simp only [Option.some.injEq] at h; subst h; simp
          · cases h
        simp only [hβ b hb]
        exact h
      | _ => rw [← h]; simp only [dop, ho, hc]
    | invoke r m => rw [← h]; simp only [dop, ho, hc]
  | makeFunc fi xs ys => rw [← h]; cases fi <;> simp only [dop, ho]
  | convert s t x =>
    simp only [dop, ho, Option.bind_eq_some_iff] at h ⊢
    obtain ⟨d, hd, h⟩ := h
    refine ⟨d, hd, ?_⟩
    cases d with
    | bs b off k n =>
      have hb : b ∈ e.rd := by
        simp only [convD] at h
        split at h
        · simp only [Option.bind_eq_some_iff] at h
          obtain ⟨cs, _, h⟩ := h
          split at h
          · rw [Option.map_eq_some_iff] at h
            obtain ⟨l, _, rfl⟩ := h; simp
          · cases h
        · cases h
      simp only [convD, hβ b hb] at h ⊢
      exact h
    | v x => cases x <;> exact h
    | _ => exact h
  | _ => rw [← h]; simp only [dop, ho]

def St.gt (st : St) : Res → D ⊕ Option (List D)
  | .t i => .inl (st.at i)
  | .b i => .inr (st.bx i)
theorem stripAt_at (t : List D) (s i : Nat) : (stripAt t s).getD i .undef = if s = i then strip (t.getD i .undef) else t.getD i .undef := by
  simp only [stripAt, List.getD_eq_getElem?_getD, List.getElem?_modify]
  split
  · cases t[i]? <;> rfl
  · cases t[i]? <;> rfl
theorem strips_at (gone : List Tmp) : ∀ (t : List D) (i : Nat), i ∉ gone → (gone.foldl stripAt t).getD i .undef = t.getD i .undef := by
  induction gone with
  | nil => intro t i _; rfl
  | cons s l ih =>
    intro t i h
    rw [List.foldl_cons, ih _ _ (fun h' => h (List.mem_cons_of_mem _ h')), stripAt_at, if_neg (fun e => h (by rw [e]; exact List.mem_cons_self ..))]
theorem strips_loc (gone : List Tmp) : ∀ (t t' : List D) (i : Nat), t.getD i .undef = t'.getD i .undef → (gone.foldl stripAt t).getD i .undef = (gone.foldl stripAt t').getD i .undef := by
  induction gone with
  | nil => intro t t' i h; exact h
  | cons s l ih =>
    intro t t' i h
    rw [List.foldl_cons, List.foldl_cons]
    exact ih _ _ _ (by rw [stripAt_at, stripAt_at, h])
theorem strips_len (gone : List Tmp) : ∀ (t : List D), (gone.foldl stripAt t).length = t.length := by
  induction gone with
  | nil => intro t; rfl
  | cons s l ih => intro t; rw [List.foldl_cons, ih, stripAt_len]
theorem set_at (t : List D) (k i : Nat) (d : D) : (t.set k d).getD i .undef = if k = i ∧ i < t.length then d else t.getD i .undef := by
  simp only [List.getD_eq_getElem?_getD, List.getElem?_set]
  by_cases h : k = i
  · subst h
    by_cases h2 : k < t.length
    · simp [h2]
    · simp [h2]
  · simp [h]
theorem onq_t (e : Eff) (st : St) (dst : Option Tmp) : (e.onq st dst).t = match dst with | some i => (e.gone.foldl stripAt st.t).set i e.d | none => e.gone.foldl stripAt st.t := by
  cases dst <;> rfl
theorem onq_b (e : Eff) (st : St) (dst : Option Tmp) : (e.onq st dst).b = e.onb st.b dst := by
  cases dst <;> rfl
theorem fold_at (i : Nat) : ∀ (l : List (Nat × List D)) (b : Nat → Option (List D)), l.foldl (fun b p => updb b p.1 (some p.2)) b i = l.foldl (fun x p => if i = p.1 then some p.2 else x) (b i)
  | [], b => rfl
  | p :: l, b => fold_at i l _
theorem onb_at (e : Eff) (b : Nat → Option (List D)) (dst : Option Tmp) (i : Nat) : e.onb b dst i =
    (let x := match e.box with | some cs => if i = dst.getD 0 then some cs else b i | none => b i
     let x := match e.gb with | some (k, off) => if i = k then x.map (fun cs => stripAt cs off) else x | none => x
     let x := match e.st with | some (k, off, cs) => if i = k then x.map (fun old => setCells old off cs) else x | none => x
     e.sets.foldl (fun x p => if i = p.1 then some p.2 else x) x) := by
  have up : ∀ (b : Nat → Option (List D)) (k : Nat) (f : List D → List D), updb b k ((b k).map f) i = if i = k then (b i).map f else b i := by
    intro b k f
    unfold updb
    split
    · rename_i h; rw [h]
    · rfl
  unfold Eff.onb
  rw [fold_at]
  obtain ⟨d, box, gone, gb, rd, st, sets⟩ := e
  simp only
  congr 1
  cases box with
  | none => cases gb with
    | none => cases st with
      | none => rfl
      | some p => exact up ..
    | some q => cases st with
      | none => exact up ..
      | some p => simp only [up]
  | some c => cases gb with
    | none => cases st with
      | none => rfl
      | some p => simp only [up]; rfl
    | some q => cases st with
      | none => simp only [up]; rfl
      | some p => simp only [up]; rfl

theorem onq_at (e : Eff) (st : St) (dst : Option Tmp) (i : Nat) : (e.onq st dst).at i = if dst = some i ∧ i < st.t.length then e.d else (e.gone.foldl stripAt st.t).getD i .undef := by
  unfold St.at
  rw [onq_t]
  cases dst with
  | none => simp
  | some k => simp only [set_at, strips_len, Option.some.injEq]
theorem onq_W1 (e : Eff) (st : St) (dst : Option Tmp) (r : Res) (h : r ∉ e.W dst) : (e.onq st dst).gt r = st.gt r := by
  simp only [Eff.W, List.mem_append, not_or] at h
  obtain ⟨⟨⟨⟨⟨h1, h2⟩, h3⟩, h4⟩, h5⟩, h6⟩ := h
  cases r with
  | t i =>
    simp only [St.gt, onq_at]
    rw [if_neg (fun q => h1 (by rw [q.1]; simp)), strips_at _ _ _ (fun q => h2 (List.mem_map.2 ⟨i, q, rfl⟩))]
    rfl
  | b i =>
    simp only [St.gt, St.bx, onq_b, onb_at]
    congr 1
    have e1 : (match e.box with | some cs => if i = dst.getD 0 then some cs else st.b i | none => st.b i) = st.b i := by
      cases hb : e.box with
      | none => rfl
      | some cs => simp only; rw [if_neg (fun q => h3 (by rw [hb]; simp [q]))]
    rw [e1]
    have e2 : (match e.gb with | some (k, off) => if i = k then (st.b i).map (fun cs => stripAt cs off) else st.b i | none => st.b i) = st.b i := by
      cases hb : e.gb with
      | none => rfl
      | some p => simp only; rw [if_neg (fun q => h4 (by rw [hb]; simp [q]))]
    simp only [e2]
    have e3 : (match e.st with | some (k, off, cs) => if i = k then (st.b i).map (fun old => setCells old off cs) else st.b i | none => st.b i) = st.b i := by
      cases hb : e.st with
      | none => rfl
      | some p => simp only; rw [if_neg (fun q => h5 (by rw [hb]; simp [q]))]
    rw [e3]
    have : ∀ (l : List (Nat × List D)) (x : Option (List D)), (∀ p ∈ l, i ≠ p.1) → l.foldl (fun x p => if i = p.1 then some p.2 else x) x = x := by
      intro l
      induction l with
      | nil => exact fun _ _ => rfl
      | cons p l ih => exact fun x h => by rw [List.foldl_cons, if_neg (h p (List.mem_cons_self ..)), ih _ fun q hq => h q (List.mem_cons_of_mem _ hq)]
    exact this _ _ fun p hp q => h6 (List.mem_map.2 ⟨p, hp, by rw [q]⟩)
theorem onq_W2 (e : Eff) (st st' : St) (dst : Option Tmp) (r : Res) (hl : st.t.length = st'.t.length) (h : st.gt r = st'.gt r) : (e.onq st dst).gt r = (e.onq st' dst).gt r := by
  cases r with
  | t i =>
    simp only [St.gt, onq_at, hl, Sum.inl.injEq] at h ⊢
    rw [strips_loc e.gone st.t st'.t i h]
  | b i =>
    simp only [St.gt, St.bx, onq_b, onb_at, Sum.inr.injEq] at h ⊢
    rw [h]
theorem onq_lt (e : Eff) (st : St) (dst : Option Tmp) : (e.onq st dst).t.length = st.t.length := by
  rw [onq_t]; cases dst <;> simp [strips_len]
theorem St.ext' {st st' : St} (hl : st.t.length = st'.t.length) (h : ∀ r, st.gt r = st'.gt r) : st = st' := by
  obtain ⟨t, b⟩ := st
  obtain ⟨t', b'⟩ := st'
  have e1 : t = t' := List.ext_getElem hl fun i h1 h2 => by
    have := h (.t i)
    simp only [St.gt, St.at, Sum.inl.injEq, List.getD_eq_getElem?_getD, List.getElem?_eq_getElem h1, List.getElem?_eq_getElem h2, Option.getD_some] at this
    exact this
  have e2 : b = b' := funext fun i => by
    have := h (.b i)
    simp only [St.gt, St.bx, Sum.inr.injEq] at this
    exact this
  rw [e1, e2]
theorem onq_comm (e e' : Eff) (st : St) (d d' : Option Tmp) (h : ∀ r, r ∈ e.W d → r ∉ e'.W d') : e.onq (e'.onq st d') d = e'.onq (e.onq st d) d' := by
  refine St.ext' (by simp only [onq_lt]) fun r => ?_
  by_cases hr : r ∈ e.W d
  · rw [onq_W1 e' _ d' r (h r hr)]
    exact onq_W2 e _ _ d r (onq_lt ..) (onq_W1 e' _ d' r (h r hr))
  · rw [onq_W1 e _ d r hr]
    exact onq_W2 e' _ _ d' r (onq_lt ..).symm (onq_W1 e _ d r hr).symm

/-- the effects of those that came up, in the list's order -/
def sel (L : Nat → Bool) : List ((Oper × Eff) × Nat) → St → St
  | [], s => s
  | p :: l, s => sel L l (if L p.2 then p.1.2.onq s p.1.1.dst else s)
theorem sel_lt (L : Nat → Bool) : ∀ (l : List ((Oper × Eff) × Nat)) (s : St), (sel L l s).t.length = s.t.length
  | [], s => rfl
  | p :: l, s => by
    have := sel_lt L l (if L p.2 then p.1.2.onq s p.1.1.dst else s)
    simp only [sel]
    split at this <;> simp_all [onq_lt]
/-- what none of them touches -/
theorem sel_W1 (L : Nat → Bool) (r : Res) : ∀ (l : List ((Oper × Eff) × Nat)) (s : St), (∀ p ∈ l, L p.2 = true → r ∉ p.1.2.W p.1.1.dst) → (sel L l s).gt r = s.gt r
  | [], s, _ => rfl
  | p :: l, s, h => by
    simp only [sel]
    rw [sel_W1 L r l _ (fun q hq => h q (List.mem_cons_of_mem _ hq))]
    split
    · rename_i hp; exact onq_W1 _ _ _ _ (h p (List.mem_cons_self ..) hp)
    · rfl
/-- one effect goes past those that it doesn't touch -/
theorem sel_comm (L : Nat → Bool) (e : Eff) (d : Option Tmp) : ∀ (l : List ((Oper × Eff) × Nat)) (s : St), (∀ p ∈ l, L p.2 = true → ∀ r, r ∈ e.W d → r ∉ p.1.2.W p.1.1.dst) → sel L l (e.onq s d) = e.onq (sel L l s) d
  | [], s, _ => rfl
  | p :: l, s, h => by
    simp only [sel]
    rw [← sel_comm L e d l _ (fun q hq => h q (List.mem_cons_of_mem _ hq))]
    split
    · rename_i hp
      rw [onq_comm e p.1.2 s d p.1.1.dst (h p (List.mem_cons_self ..) hp)]
    · rfl
/-- what one reads is the same behind more of them -/
theorem sel_read (L L' : Nat → Bool) (r : Res) : ∀ (l : List ((Oper × Eff) × Nat)) (s s' : St), s.t.length = s'.t.length → s.gt r = s'.gt r → (∀ p ∈ l, L p.2 ≠ L' p.2 → r ∉ p.1.2.W p.1.1.dst) → (sel L l s).gt r = (sel L' l s').gt r
  | [], s, s', _, h, _ => h
  | p :: l, s, s', hl, h, hd => by
    simp only [sel]
    refine sel_read L L' r l _ _ (by split <;> split <;> simp [onq_lt, hl]) ?_ (fun q hq => hd q (List.mem_cons_of_mem _ hq))
    by_cases e : L p.2 = L' p.2
    · rw [e]
      split
      · exact onq_W2 _ _ _ _ _ hl h
      · exact h
    · have hn := hd p (List.mem_cons_self ..) e
      split
      · rw [onq_W1 _ _ _ _ hn]
        split
        · rw [onq_W1 _ _ _ _ hn]; exact h
        · exact h
      · split
        · rw [onq_W1 _ _ _ _ hn]; exact h
        · exact h

theorem strip_strip' (d : D) : strip (strip d) = strip d := by
  cases d with
  | tp2 c r ds => cases r <;> rfl
  | _ => rfl
theorem strips_soft (gone : List Tmp) : ∀ (t : List D) (i : Nat), strip ((gone.foldl stripAt t).getD i .undef) = strip (t.getD i .undef) := by
  induction gone with
  | nil => intro t i; rfl
  | cons g gone ih =>
    intro t i
    rw [List.foldl_cons, ih, stripAt_at]
    split
    · exact strip_strip' _
    · rfl
theorem onq_soft (e : Eff) (dst : Option Tmp) (s s' : St) (t : Nat) (hl : s.t.length = s'.t.length) (h : strip (s.at t) = strip (s'.at t)) : strip ((e.onq s dst).at t) = strip ((e.onq s' dst).at t) := by
  rw [onq_at, onq_at, hl]
  split
  · rfl
  · rw [strips_soft, strips_soft]; exact h
theorem onq_soft1 (e : Eff) (dst : Option Tmp) (s : St) (t : Nat) (h : Res.t t ∉ e.Wh dst) : strip ((e.onq s dst).at t) = strip (s.at t) := by
  rw [onq_at]
  split
  · rename_i hd
    exact absurd (by unfold Eff.Wh; rw [hd.1]; simp) h
  · exact strips_soft _ _ _
theorem sel_soft (L L' : Nat → Bool) (t : Nat) : ∀ (l : List ((Oper × Eff) × Nat)) (s s' : St), s.t.length = s'.t.length → strip (s.at t) = strip (s'.at t) → (∀ p ∈ l, L p.2 ≠ L' p.2 → Res.t t ∉ p.1.2.Wh p.1.1.dst) → strip ((sel L l s).at t) = strip ((sel L' l s').at t)
  | [], s, s', _, h, _ => h
  | p :: l, s, s', hl, h, hp => by
    simp only [sel]
    have hp' : ∀ q ∈ l, L q.2 ≠ L' q.2 → Res.t t ∉ q.1.2.Wh q.1.1.dst := fun q hq => hp q (List.mem_cons_of_mem _ hq)
    have h0 := hp p (by simp)
    by_cases h1 : L p.2 = true <;> by_cases h2 : L' p.2 = true
    · rw [if_pos h1, if_pos h2]
      exact sel_soft L L' t l _ _ (by rw [onq_lt, onq_lt]; exact hl) (onq_soft _ _ _ _ t hl h) hp'
    · rw [if_pos h1, if_neg h2]
      exact sel_soft L L' t l _ _ (by rw [onq_lt]; exact hl) ((onq_soft1 _ _ _ t (h0 (by rw [h1]; simpa using Ne.symm h2))).trans h) hp'
    · rw [if_neg h1, if_pos h2]
      exact sel_soft L L' t l _ _ (by rw [onq_lt]; exact hl) (h.trans (onq_soft1 _ _ _ t (h0 (by rw [h2]; simpa using h1))).symm) hp'
    · rw [if_neg h1, if_neg h2]
      exact sel_soft L L' t l _ _ hl h hp'
theorem sel_app (L : Nat → Bool) : ∀ (l l' : List ((Oper × Eff) × Nat)) (s : St), sel L (l ++ l') s = sel L l' (sel L l s)
  | [], l', s => rfl
  | p :: l, l', s => by simp only [List.cons_append, sel]; exact sel_app L l l' _
theorem sel_congr {L L' : Nat → Bool} : ∀ (l : List ((Oper × Eff) × Nat)) (s : St), (∀ p ∈ l, L p.2 = L' p.2) → sel L l s = sel L' l s
  | [], s, _ => rfl
  | p :: l, s, h => by
    simp only [sel]
    rw [h p (List.mem_cons_self ..)]
    exact sel_congr l _ fun q hq => h q (List.mem_cons_of_mem _ hq)
/-- one more comes up -/
theorem sel_add (L : Nat → Bool) (i : Nat) (p : Oper × Eff) (l l' : List ((Oper × Eff) × Nat)) (s : St) (hL : L i = false) (h1 : ∀ q ∈ l, q.2 ≠ i) (h2 : ∀ q ∈ l', q.2 ≠ i) (hd : ∀ q ∈ l', L q.2 = true → ∀ r, r ∈ p.2.W p.1.dst → r ∉ q.1.2.W q.1.1.dst) :
    sel (fun j => j == i || L j) (l ++ (p, i) :: l') s = p.2.onq (sel L (l ++ (p, i) :: l') s) p.1.dst := by
  rw [sel_app, sel_app]
  simp only [sel, hL, beq_self_eq_true, Bool.true_or, if_true, Bool.false_eq_true, if_false]
  rw [sel_congr (L := fun j => j == i || L j) (L' := L) l s (fun q hq => by simp [h1 q hq]), sel_congr (L := fun j => j == i || L j) (L' := L) l' _ (fun q hq => by simp [h2 q hq])]
  exact sel_comm L p.2 p.1.dst l' _ hd

/-- an operation looks at what it reads alone -/
theorem deff_congr {hs : List Tmp} {ops : Array Oper} {st' : St} (h : deff P F hs ops st o = some e) (hr : ∀ r ∈ readsOf ops o e, st'.gt r = st.gt r) (hsf : ∀ t ∈ softOf o e, strip (st'.at t) = strip (st.at t)) : deff P F hs ops st' o = some e := by
  have hw : dwant ops o st'.at = dwant ops o st.at := by
    unfold dwant
    cases hg : o.guard with
    | none => rfl
    | some p =>
      obtain ⟨j, want⟩ := p
      simp only
      cases hj : (ops[j]?).bind (·.dst) with
      | none => rfl
      | some i =>
        have := hr (.t i) (by simp only [readsOf, List.mem_append]; exact .inl (.inr (by simp [hg, hj])))
        simp only [St.gt, Sum.inl.injEq] at this
        simp only [this]
  by_cases hse : (softOf o e).isEmpty = true
  case neg =>
    obtain ⟨t, i, ho, hg⟩ : ∃ t i, o.op = .extract (.tmp t) i ∧ e.gone = [] := by
      unfold softOf at hse
      split at hse
      · rename_i x i hx
        split at hse
        · rename_i hg
          cases x with
          | tmp t => exact ⟨t, i, hx, List.isEmpty_iff.1 hg⟩
          | _ => exact absurd rfl hse
        · exact absurd rfl hse
      · exact absurd rfl hse
    have hst : strip (st'.at t) = strip (st.at t) := hsf t (by unfold softOf; rw [ho]; simp [hg, tmpOf])
    unfold deff at h ⊢
    rw [hw]
    simp only [Option.bind_eq_some_iff] at h ⊢
    obtain ⟨q, hq, h⟩ := h
    refine ⟨q, hq, ?_⟩
    cases q with
    | false => exact h
    | true =>
      simp only [if_true] at h ⊢
      simp only [dop, ho, Option.bind_eq_some_iff] at h ⊢
      obtain ⟨d, hd, h⟩ := h
      have hd0 : st.at t = d := by
        simp only [St.rd] at hd
        split at hd
        · cases hd
        · simp only [Option.some.injEq] at hd; exact hd
      rw [hd0] at hst
      have hrd' : ∀ d', st'.at t = d' → d' ≠ .undef → st'.rd (.tmp t) = some d' := fun d' h h' => by
        simp only [St.rd]
        split
        · rename_i h2; exact absurd (h.symm.trans h2) h'
        · rw [h]
      cases d with
      | tup ds =>
        have hd' : st'.at t = .tup ds := by
          revert hst
          generalize st'.at t = d'
          intro hst
          cases d' <;> first | exact hst | cases hst
        exact ⟨_, hrd' _ hd' (by simp), h⟩
      | tp2 c r ds =>
        obtain ⟨r', hd'⟩ : ∃ r', st'.at t = .tp2 c r' ds := by
          revert hst
          generalize st'.at t = d'
          intro hst
          cases d' with
          | tp2 c' r' ds' => simp only [strip, D.tp2.injEq] at hst; exact ⟨r', by rw [hst.1, hst.2.2]⟩
          | _ => cases hst
        refine ⟨_, hrd' _ hd' (by simp), ?_⟩
        simp only at h ⊢
        split at h
        · exfalso
          split at h
          · cases h
          · split at h
            · simp only [Option.some.injEq] at h; subst h; simp [tmpOf] at hg
            · cases h
          · simp only [Option.some.injEq] at h; subst h; simp [tmpOf] at hg
        · rename_i hne
          rw [if_neg hne]
          exact h
      | _ => cases h
  have hrd : ∀ x ∈ o.op.operands, st'.rd x = st.rd x := by
    intro x hx
    cases x with
    | tmp t =>
      have := hr (.t t) (by
        simp only [readsOf, hse, if_true, List.mem_append]
        exact .inl (.inl (List.mem_map.2 ⟨t, List.mem_flatMap.2 ⟨.tmp t, by simpa using hx, by simp [tmpOf]⟩, rfl⟩)))
      simp only [St.gt, Sum.inl.injEq] at this
      simp only [St.rd, this]
    | _ => rfl
  unfold deff at h ⊢
  rw [hw]
  simp only [Option.bind_eq_some_iff] at h ⊢
  obtain ⟨q, hq, h⟩ := h
  refine ⟨q, hq, ?_⟩
  cases q with
  | false => exact h
  | true =>
    simp only [if_true] at h ⊢
    rw [dop_rho hrd]
    refine dop_beta h fun b hb => ?_
    have := hr (.b b) (by simp only [readsOf, List.mem_append]; exact .inr (List.mem_map.2 ⟨b, hb, rfl⟩))
    simp only [St.gt, Sum.inr.injEq] at this
    exact this

theorem dtr_len {hs : List Tmp} {ops : Array Oper} : ∀ (l : List Oper) (s : St) (es : List Eff), dtr P F hs ops l s = some es → es.length = l.length
  | [], s, es, h => by simp only [dtr, Option.some.injEq] at h; subst h; rfl
  | o :: l, s, es, h => by
    simp only [dtr, Option.bind_eq_some_iff, Option.map_eq_some_iff] at h
    obtain ⟨e, _, es', h', rfl⟩ := h
    simp [dtr_len l _ es' h']
/-- each is told behind those ahead of it -/
theorem dtr_spec {hs : List Tmp} {ops : Array Oper} : ∀ (l : List Oper) (s : St) (es : List Eff) (k0 k : Nat) (o : Oper) (e : Eff), dtr P F hs ops l s = some es → l[k]? = some o → es[k]? = some e → deff P F (mh hs) ops (sel (fun j => decide (j < k0 + k)) ((l.zip es).zipIdx k0) s) o = some e
  | [], s, es, k0, k, o, e, h, ho, he => by simp at ho
  | o' :: l, s, es, k0, k, o, e, h, ho, he => by
    simp only [dtr, Option.bind_eq_some_iff, Option.map_eq_some_iff] at h
    obtain ⟨e', hd, es', h', rfl⟩ := h
    simp only [List.zip_cons_cons, List.zipIdx_cons, sel]
    cases k with
    | zero =>
      simp only [List.getElem?_cons_zero, Option.some.injEq] at ho he
      subst ho he
      have : sel (fun j => decide (j < k0 + 0)) ((l.zip es').zipIdx (k0 + 1)) s = s := by
        have hn : ∀ p ∈ (l.zip es').zipIdx (k0 + 1), decide (p.2 < k0 + 0) = false := fun p hp => by
          have := List.le_snd_of_mem_zipIdx hp
          simp; omega
        generalize (l.zip es').zipIdx (k0 + 1) = L at hn
        induction L with
        | nil => rfl
        | cons p L ih =>
          simp only [sel]
          rw [if_neg (by rw [hn p (List.mem_cons_self ..)]; simp)]
          exact ih fun q hq => hn q (List.mem_cons_of_mem _ hq)
      rw [if_neg (by simp), this]
      exact hd
    | succ k =>
      simp only [List.getElem?_cons_succ] at ho he
      have := dtr_spec l _ es' (k0 + 1) k o e h' ho he
      rw [if_pos (by simp), show k0 + (k + 1) = k0 + 1 + k by omega]
      exact this

theorem refc_strip1 (b : Nat) (d : D) : refc b (strip1 d) = refc b d := by cases d <;> rfl
theorem boxc_strip1 (d : D) : boxc (strip1 d) = boxc d := by cases d <;> rfl
theorem boxa_stripR (d : D) : boxa (stripR d) = boxa d := by
  cases d with
  | ag2 cs =>
    simp only [stripR, stripO, boxa, List.flatMap_map, boxc_strip1]
  | _ => rfl
theorem refs_strip (b : Nat) (d : D) : refs b (strip d) = refs b d := by
  cases d with
  | ag2 cs =>
    simp only [strip, refs, List.any_map]
    congr 1
    funext d
    exact refc_strip1 b d
  | tp2 c r ds => simp only [strip, refs, boxa_stripR]
  | _ => rfl
theorem refc_strip (b : Nat) (d : D) : refc b (strip d) = refc b d := by cases d <;> rfl
theorem strips_bp (b : Nat) (gone : List Tmp) : ∀ (t : List D) (i : Nat), refs b (t.getD i .undef) = false → refs b ((gone.foldl stripAt t).getD i .undef) = false := by
  induction gone with
  | nil => intro t i h; exact h
  | cons s l ih =>
    intro t i h
    rw [List.foldl_cons]
    refine ih _ _ ?_
    rw [stripAt_at]
    split
    · rw [refs_strip]; exact h
    · exact h
/-- no place of that variable stands anywhere -/
def Norefs (b : Nat) (s : St) : Prop := (∀ x, refs b (s.at x) = false) ∧ ∀ k cs, s.bx k = some cs → cs.any (refc b) = false
theorem any_stripAt (b : Nat) (cs : List D) (off : Nat) (h : cs.any (refc b) = false) : (stripAt cs off).any (refc b) = false := by
  rw [List.any_eq_false] at h ⊢
  intro d hd
  obtain ⟨i, hi, rfl⟩ := List.mem_iff_getElem.1 hd
  rw [stripAt_get]
  have hi' : i < cs.length := by simpa [stripAt_len] using hi
  split
  · rw [refc_strip]; exact h _ (List.getElem_mem hi')
  · exact h _ (List.getElem_mem hi')
theorem onq_norefs (b : Nat) (e : Eff) (s : St) (dst : Option Tmp) (h : Norefs b s) (he : refsE b e = false) : Norefs b (e.onq s dst) := by
  unfold refsE at he
  simp only [Bool.or_eq_false_iff] at he
  obtain ⟨⟨⟨h1, h2⟩, h3⟩, h4⟩ := he
  refine ⟨fun x => ?_, fun k cs hk => ?_⟩
  · rw [onq_at]
    split
    · exact h1
    · exact strips_bp b _ _ _ (h.1 x)
  · have hk' : e.onb s.b dst k = some cs := by rw [← onq_b]; exact hk
    rw [onb_at] at hk'
    have hb : ∀ cs, s.b k = some cs → cs.any (refc b) = false := fun cs hc => h.2 k cs hc
    have step1 : ∀ cs, (match e.box with | some cs => if k = dst.getD 0 then some cs else s.b k | none => s.b k) = some cs → cs.any (refc b) = false := by
      intro cs hc
      cases hbx : e.box with
      | none => rw [hbx] at hc; exact hb cs hc
      | some c0 =>
        rw [hbx] at hc h2
        simp only at hc
        split at hc
        · simp only [Option.some.injEq] at hc; subst hc; simpa using h2
        · exact hb cs hc
    generalize (match e.box with | some cs => if k = dst.getD 0 then some cs else s.b k | none => s.b k) = x1 at hk' step1
    have step2 : ∀ cs, (match e.gb with | some (k', off) => if k = k' then x1.map (fun cs => stripAt cs off) else x1 | none => x1) = some cs → cs.any (refc b) = false := by
      intro cs hc
      cases hgb : e.gb with
      | none => rw [hgb] at hc; exact step1 cs hc
      | some p =>
        obtain ⟨k', off⟩ := p
        rw [hgb] at hc
        simp only at hc
        split at hc
        · rw [Option.map_eq_some_iff] at hc
          obtain ⟨c0, hc0, rfl⟩ := hc
          exact any_stripAt b c0 off (step1 c0 hc0)
        · exact step1 cs hc
    simp only at hk'
    generalize (match e.gb with | some (k', off) => if k = k' then x1.map (fun cs => stripAt cs off) else x1 | none => x1) = x2 at hk' step2
    have step3 : ∀ cs, (match e.st with | some (k', off, cs) => if k = k' then x2.map (fun old => setCells old off cs) else x2 | none => x2) = some cs → cs.any (refc b) = false := by
      intro cs hk'
      cases hst : e.st with
      | none => rw [hst] at hk'; exact step2 cs hk'
      | some p =>
        obtain ⟨k', off, c1⟩ := p
        rw [hst] at hk' h3
        simp only at hk'
        split at hk'
        · rw [Option.map_eq_some_iff] at hk'
          obtain ⟨c0, hc0, rfl⟩ := hk'
          have q0 := step2 c0 hc0
          have q1 : c1.any (refc b) = false := by simpa using h3
          rw [List.any_eq_false] at q0 q1 ⊢
          intro d hd
          simp only [setCells, List.mem_append] at hd
          rcases hd with (hd | hd) | hd
          · exact q0 d (List.mem_of_mem_take hd)
          · exact q1 d hd
          · exact q0 d (List.mem_of_mem_drop hd)
        · exact step2 cs hk'
    generalize (match e.st with | some (k', off, cs) => if k = k' then x2.map (fun old => setCells old off cs) else x2 | none => x2) = x3 at hk' step3
    have : ∀ (l : List (Nat × List D)) (x : Option (List D)), (∀ cs, x = some cs → cs.any (refc b) = false) → (l.any fun p => p.2.any (refc b)) = false → ∀ cs, l.foldl (fun x p => if k = p.1 then some p.2 else x) x = some cs → cs.any (refc b) = false := by
      intro l
      induction l with
      | nil => exact fun x hx _ cs hc => hx cs hc
      | cons p l ih =>
        intro x hx hl cs hc
        simp only [List.any_cons, Bool.or_eq_false_iff] at hl
        refine ih _ ?_ hl.2 cs hc
        intro cs' hc'
        simp only at hc'
        split at hc'
        · simp only [Option.some.injEq] at hc'; subst hc'; exact hl.1
        · exact hx cs' hc'
    exact this _ _ step3 h4 cs hk'
theorem sel_nobp (L : Nat → Bool) (b : Nat) : ∀ (l : List ((Oper × Eff) × Nat)) (s : St), Norefs b s → (∀ p ∈ l, L p.2 = true → refsE b p.1.2 = false) → Norefs b (sel L l s)
  | [], s, h, _ => h
  | p :: l, s, h, hd => by
    simp only [sel]
    refine sel_nobp L b l _ ?_ (fun q hq => hd q (List.mem_cons_of_mem _ hq))
    split
    · rename_i hp
      exact onq_norefs b _ _ _ h (hd p (List.mem_cons_self ..) hp)
    · exact h
theorem kill_nobp {b : Nat} {d : D} (h : refs b d = false) : kill b d = d := by
  unfold kill
  rw [h]; rfl
/-- where no place of the new variable is held, nothing is forgotten -/
theorem on_onq (e : Eff) (st : St) (dst : Option Tmp) (h : e.box.isSome = true → Norefs (dst.getD 0) st) : e.on st dst = e.onq st dst := by
  have ht : (match e.box with | some _ => (e.gone.foldl stripAt st.t).map (kill (dst.getD 0)) | none => e.gone.foldl stripAt st.t) = e.gone.foldl stripAt st.t := by
    cases hb : e.box with
    | none => rfl
    | some cs =>
      simp only
      refine List.ext_getElem (by simp) fun i h1 h2 => ?_
      rw [List.getElem_map]
      refine kill_nobp ?_
      have := strips_bp (dst.getD 0) e.gone st.t i ((h (by rw [hb]; rfl)).1 i)
      rw [List.getD_eq_getElem?_getD, List.getElem?_eq_getElem h2] at this
      exact this
  have hb : e.box.isSome = true → (fun i => killb (dst.getD 0) (st.b i)) = st.b := fun hx => by
    funext i
    cases hc : st.b i with
    | none => rfl
    | some cs =>
      have := (h hx).2 i cs hc
      simp only [killb, Option.bind_some, this]
      rfl
  unfold Eff.on Eff.onq Eff.onb
  cases hbx : e.box with
  | none => rfl
  | some cs =>
    have h2 := hb (by rw [hbx]; rfl)
    rw [hbx] at ht
    have ht' : (e.gone.foldl stripAt st.t).map (kill (dst.getD 0)) = e.gone.foldl stripAt st.t := ht
    simp only [h2, ht']

theorem undef1_inv (I : Inv Z0 w0 Z O st a w) (o : Oper) : Inv Z0 w0 Z O (undef1 st o) a w := by
  unfold undef1
  split
  · rename_i d hd
    have J : Inv Z0 w0 Z O ⟨st.t.map (kill d), fun i => killb d (st.b i)⟩ a w := {
      tsz := by rw [I.tsz]; simp
      tv := fun i h h' => by
        have hi : i < st.t.length := by simpa using h
        simp only [List.getElem_map]
        exact (I.tv i hi h').kill (FZ.le_refl Z) (fun _ _ _ h => h) (fun _ _ hg => ⟨hg, rfl, fun _ h => h⟩)
      bv := fun b cs hb => by
        have hb' : killb d (st.b b) = some cs := hb
        exact I.bv b cs (killb_some hb').1
      uq := I.uq, ob := I.ob, ag := I.ag, bl := I.bl, df := I.df, zn := I.zn, bs := I.bs, oi := I.oi, oo := I.oo }
    exact J.forget d
  · exact I
theorem undefs_inv (I : Inv Z0 w0 Z O st a w) (ops : Array Oper) : Inv Z0 w0 Z O (undefs ops st) a w := by
  have : ∀ (l : List Oper) (s : St), Inv Z0 w0 Z O s a w → Inv Z0 w0 Z O (l.foldl undef1 s) a w := by
    intro l
    induction l with
    | nil => exact fun _ h => h
    | cons o l ih => exact fun s h => ih _ (undef1_inv h o)
  exact this ops.toList st I

theorem Inv.drew (I : Inv Z0 w0 Z O st a w) : Inv Z0 w0 Z O st a w.drew where
  tsz := I.tsz
  tv := fun i h h' => (I.tv i h h').move (FZ.le_refl Z) (fun _ _ h => h) (fun _ _ hg => ⟨hg, rfl, fun _ h => h⟩)
  bv := fun b cs hb => by
    obtain ⟨g, xs, e, h1, h2, h3, h4, h5⟩ := I.bv b cs hb
    exact ⟨g, xs, e, h1, h2, h3, fun j h h' => ⟨(h4 j h h').1.move (FZ.le_refl Z) (fun _ _ h => h) (fun _ _ hg => ⟨hg, rfl, fun _ h => h⟩), (h4 j h h').2⟩, h5⟩
  uq := I.uq
  ob := I.ob
  ag := fun b o x h => I.ag b o x h
  bl := I.bl.drew
  df := I.df
  zn := I.zn
  bs := I.bs
  oi := I.oi
  oo := I.oo

theorem undef1_nobp (b : Nat) (o : Oper) (s : St) (h : Norefs b s ∨ (mkr o.op = true ∧ o.dst = some b)) : Norefs b (undef1 s o) := by
  unfold undef1
  have hk : ∀ d x, refs b (kill d x) = true → refs b x = true ∧ (d = b → False) := by
    intro d x hx
    unfold kill at hx
    split at hx
    · cases hx
    · rename_i hr
      exact ⟨hx, fun e => by subst e; exact hr hx⟩
  have hkb : ∀ d c cs, killb d c = some cs → c = some cs ∧ (d = b → cs.any (refc b) = false) := by
    intro d c cs hc
    obtain ⟨h1, h2⟩ := killb_some hc
    exact ⟨h1, fun e => by subst e; exact h2⟩
  cases ho : (if mkr o.op = true then o.dst else none) with
  | none =>
    rcases h with h | h
    · exact h
    · rw [if_pos h.1, h.2] at ho; cases ho
  | some d =>
    have hd : Norefs b s ∨ d = b := by
      rcases h with h | h
      · exact .inl h
      · rw [if_pos h.1, h.2] at ho; simp only [Option.some.injEq] at ho; exact .inr ho.symm
    refine ⟨fun x => ?_, fun k cs hc => ?_⟩
    · show refs b (((s.t.map (kill d)).set d .undef).getD x .undef) = false
      rw [set_at]
      split
      · rfl
      · have e1 : (s.t.map (kill d)).getD x .undef = kill d (s.t.getD x .undef) := by
          simp only [List.getD_eq_getElem?_getD, List.getElem?_map]
          cases s.t[x]? <;> rfl
        rw [e1]
        cases hb : refs b (kill d (s.t.getD x .undef)) with
        | false => rfl
        | true =>
          obtain ⟨h1, h2⟩ := hk d _ hb
          rcases hd with hd | hd
          · have := hd.1 x
            rw [St.at, h1] at this; cases this
          · exact (h2 hd).elim
    · have hc' : killb d (s.b k) = some cs := hc
      obtain ⟨h1, h2⟩ := hkb d _ cs hc'
      rcases hd with hd | hd
      · exact hd.2 k cs h1
      · exact h2 hd
theorem undefs_nobp (b : Nat) (ops : Array Oper) (h : ∃ o ∈ ops.toList, mkr o.op = true ∧ o.dst = some b) : Norefs b (undefs ops st) := by
  have key : ∀ (l : List Oper) (s : St), (Norefs b s ∨ ∃ o ∈ l, mkr o.op = true ∧ o.dst = some b) → Norefs b (l.foldl undef1 s) := by
    intro l
    induction l with
    | nil =>
      intro s h
      rcases h with h | ⟨o, ho, _⟩
      · exact h
      · cases ho
    | cons o l ih =>
      intro s h
      refine ih _ ?_
      rcases h with h | ⟨o', ho, hd⟩
      · exact .inl (undef1_nobp b o s (.inl h))
      · rcases List.mem_cons.1 ho with rfl | ho
        · exact .inl (undef1_nobp b o' s (.inr hd))
        · exact .inr ⟨o', ho, hd⟩
  exact key ops.toList st (.inr h)

theorem dall_sel : ∀ (l : List Oper) (es : List Eff) (k : Nat) (s : St), dall l es s = sel (fun _ => true) ((l.zip es).zipIdx k) s
  | [], es, k, s => rfl
  | o :: l, [], k, s => rfl
  | o :: l, e :: es, k, s => by
    have := dall_sel l es (k + 1) (e.onq s o.dst)
    simp only [dall, List.zip_cons_cons, List.foldl_cons, List.zipIdx_cons, sel, if_true] at this ⊢
    exact this
theorem countF : ∀ (l : List Bool) (i : Nat), l[i]? = some false → (l.set i true).countP (!·) + 1 = l.countP (!·)
  | [], i, h => by simp at h
  | b :: l, 0, h => by
    simp only [List.getElem?_cons_zero, Option.some.injEq] at h
    subst h
    simp
  | b :: l, i + 1, h => by
    simp only [List.getElem?_cons_succ] at h
    have := countF l i h
    simp only [List.set_cons_succ, List.countP_cons]
    omega
theorem okTr_spec {ops : Array Oper} {z : List ((Oper × Eff) × Nat)} (h : okTr ops z = true) {p : (Oper × Eff) × Nat} (hp : p ∈ z) :
    (∀ e ∈ p.1.1.after, Region.binds .any e = true → e.on < p.2) ∧ (p.1.2.box.isSome = true → p.1.1.dst.isSome = true) ∧ ∀ q ∈ z, (p.2 < q.2 → okPair ops p.2 p.1.1 p.1.2 q.1.1 q.1.2 = true) ∧ (p.2 = q.2 ∨ p.1.2.box = none ∨ refsE (p.1.1.dst.getD 0) q.1.2 = false ∨ waits q.1.1 p.2 = true) := by
  have h1 := List.all_eq_true.1 h p hp
  simp only [Bool.and_eq_true, List.all_eq_true] at h1
  obtain ⟨⟨h1, h2⟩, h3⟩ := h1
  refine ⟨fun e he hb => ?_, fun hb => ?_, fun q hq => ⟨fun hlt => ?_, ?_⟩⟩
  · have := Array.all_eq_true_iff_forall_mem.1 h1 e he
    simpa [hb] using this
  · rcases Bool.or_eq_true_iff.1 h2 with h2 | h2
    · cases hx : p.1.2.box with
      | none => rw [hx] at hb; cases hb
      | some _ => rw [hx] at h2; cases h2
    · exact h2
  · have := (h3 q hq).1
    rwa [if_pos hlt] at this
  · have := (h3 q hq).2
    simp only [Bool.or_eq_true, beq_iff_eq, Bool.not_eq_true', Option.isNone_iff_eq_none] at this
    rcases this with ((h | h) | h) | h
    · exact .inl h
    · exact .inr (.inl h)
    · exact .inr (.inr (.inl h))
    · exact .inr (.inr (.inr h))
theorem waits_spec {o : Oper} {i : Nat} (h : waits o i = true) : ∃ e ∈ o.after, Region.binds .any e = true ∧ e.on = i := by
  unfold waits at h
  rw [Array.any_eq_true] at h
  obtain ⟨k, hk, h⟩ := h
  simp only [Bool.and_eq_true, beq_iff_eq] at h
  exact ⟨o.after[k], Array.getElem_mem hk, h.1, h.2⟩
theorem okPair_spec {ops : Array Oper} {i : Nat} {oi oj : Oper} {ei ej : Eff} (h : okPair ops i oi ei oj ej = true) :
    waits oj i = true ∨ ((∀ r, r ∈ ei.W oi.dst → r ∉ readsOf ops oj ej ∧ r ∉ ej.W oj.dst) ∧ (∀ r, r ∈ readsOf ops oi ei → r ∉ ej.W oj.dst) ∧ (∀ t, t ∈ softOf oj ej → Res.t t ∉ ei.Wh oi.dst) ∧ ∀ t, t ∈ softOf oi ei → Res.t t ∉ ej.Wh oj.dst) := by
  unfold okPair at h
  simp only [Bool.or_eq_true, Bool.and_eq_true, List.all_eq_true, Bool.not_eq_true', List.contains_eq_mem, decide_eq_false_iff_not] at h
  exact h.imp id fun h => ⟨h.1.1.1, h.1.1.2, h.1.2, h.2⟩
theorem callO_box {β : Nat → Option (List D)} {f : FuncId} {ds : List D} {L : List Nat} {gs : List Tmp} {e : Eff} (h : callO P F β f ds L gs = some e) : e.box = none := by
  unfold callO at h
  split at h
  · simp only [Option.bind_eq_some_iff] at h
    obtain ⟨os, _, p, _, h⟩ := h
    split at h
    · simp only [Option.some.injEq] at h; subst h; rfl
    · cases h
  · cases h
theorem retE_box {dst : Option Tmp} {gs : List Tmp} {r : D} {e : Eff} (h : retE false dst gs r = some e) : e.box = none := by
  unfold retE at h
  split at h
  · split at h
    · rename_i hc; cases hc.1
    · split at h
      · simp only [Option.some.injEq] at h; subst h; rfl
      · cases h
  · simp only [Option.some.injEq] at h; subst h; rfl
theorem appS_box {t t' : TypeId} {a b : D} {g : List Tmp} {q : Bool} {e : Eff} (h : appS P t t' a b g q = some e) : e.box = none := by
  unfold appS at h
  repeat' (first | rfl | (simp only [Option.bind_eq_some_iff, Option.some.injEq] at h) | (obtain ⟨_, h⟩ := h) | (subst h; rfl) | (cases h; done) | split at h)
theorem convD_box {dst : Option Tmp} {β : Nat → Option (List D)} {s t : TypeId} {d : D} {e : Eff} (h : convD P false dst β s t d = some e) : e.box = none := by
  unfold convD at h
  unfold byE at h
  repeat' (first | rfl | (simp only [Option.bind_eq_some_iff, Option.map_eq_some_iff, Option.some.injEq, Bool.false_and, Bool.false_eq_true, if_false] at h) | (obtain ⟨_, h⟩ := h) | (subst h; rfl) | (cases h; done) | split at h)
theorem dop_mkr {q : Bool} {ρ : Operand → Option D} {β : Nat → Option (List D)} (h : dop P F (q, false) ρ β o = some e) (hb : e.box.isSome = true) : mkr o.op = true := by
  cases ho : o.op with
  | alloc => rfl
  | box => rfl
  | makeSlice => rfl
  | makeFunc fi xs ys =>
    exfalso
    cases fi with
    | func fi =>
      simp only [dop, ho, Option.bind_eq_some_iff, Option.some.injEq] at h
      obtain ⟨_, _, _, _, rfl⟩ := h
      cases hb
    | _ => simp only [dop, ho] at h; cases h
  | _ =>
    exfalso
    have key : ∀ (e : Eff), e.box.isSome = true → e.box = none → False := fun e h h' => by rw [h'] at h; cases h
    refine key e hb ?_
    clear hb key
    unfold dop at h
    simp only [ho] at h
    repeat' (first | rfl | (simp only [Option.bind_eq_some_iff, Option.map_eq_some_iff, Option.some.injEq] at h) | (obtain ⟨_, h⟩ := h) | (subst h; rfl) | exact callO_box h | exact convD_box h | exact retE_box h | exact appS_box h | (cases h; done) | split at h)
theorem deff_mkr {hs : List Tmp} {ops : Array Oper} (h : deff P F (mh hs) ops st o = some e) (hb : e.box.isSome = true) : mkr o.op = true := by
  simp only [deff, Option.bind_eq_some_iff] at h
  obtain ⟨q, _, h⟩ := h
  cases q
  · simp at h; subst h; cases hb
  · exact dop_mkr (q := takes ops o || moved (mh hs) o) (by simpa only [hinted_mh, if_true] using h) hb
theorem any_go (hF : SoundF P F) {hs : List Tmp} {ops : Array Oper} {es : List Eff} {s0 : St} (hd : dtr P F hs ops ops.toList s0 = some es) (hok : okTr ops (ops.toList.zip es).zipIdx = true)
    (hs0 : ∀ b, (∃ o ∈ ops.toList, mkr o.op = true ∧ o.dst = some b) → Norefs b s0)
    (hQ : ∀ Z' O' a' w', Z.le Z' → Inv Z0 w0 Z' O' (sel (fun _ => true) (ops.toList.zip es).zipIdx s0) a' w' → Q .normal a' w') :
    ∀ (fuel : Nat) (listed : Array Bool) (Z' : FZ) (O' : OM) (a : Act) (w : World), Z.le Z' → listed.size = ops.size →
      (∀ (j : Nat) (o : Oper), listed.getD j false = true → ops[j]? = some o → ∀ e ∈ o.after, Region.binds .any e = true → listed.getD e.on false = true) →
      Inv Z0 w0 Z' O' (sel (fun j => listed.getD j false) (ops.toList.zip es).zipIdx s0) a w → listed.toList.countP (!·) ≤ fuel → wpAny P .any ops Q fuel listed a w := by
  have hlen := dtr_len _ _ _ hd
  have hz : ∀ p, p ∈ (ops.toList.zip es).zipIdx ↔ ops[p.2]? = some p.1.1 ∧ es[p.2]? = some p.1.2 := by
    intro p
    rw [List.mem_zipIdx_iff_getElem?, List.getElem?_zip_eq_some]
    simp
  have hmk : ∀ (i : Nat) (o : Oper), ops[i]? = some o → ∃ e, es[i]? = some e := by
    intro i o ho
    have hi : i < ops.size := (Array.getElem?_eq_some_iff.1 ho).1
    exact ⟨es[i]'(by rw [hlen]; simpa using hi), List.getElem?_eq_getElem _⟩
  have hall : ∀ (listed : Array Bool), listed.size = ops.size → (∀ j, j < ops.size → listed.getD j false = true) → sel (fun j => listed.getD j false) (ops.toList.zip es).zipIdx s0 = sel (fun _ => true) (ops.toList.zip es).zipIdx s0 := by
    intro listed _ h
    refine sel_congr _ _ fun p hp => ?_
    have := (hz p).1 hp
    exact h p.2 (Array.getElem?_eq_some_iff.1 this.1).1
  have hend : ∀ (listed : Array Bool), listed.size = ops.size → Region.ready .any ops listed = [] → ∀ j, j < ops.size → listed.getD j false = true := by
    intro listed hsz hr
    intro j
    induction j using Nat.strongRecOn with
    | _ j ih =>
      intro hj
      cases hl : listed.getD j false with
      | true => rfl
      | false =>
        exfalso
        have ho : ops[j]? = some ops[j] := Array.getElem?_eq_getElem hj
        obtain ⟨e, he⟩ := hmk j _ ho
        have hmem : j ∈ Region.ready .any ops listed := by
          rw [mem_ready]
          refine ⟨?_, _, ho, fun e' he' hb => ?_⟩
          · have hj' : j < listed.size := by rw [hsz]; exact hj
            simp only [Array.getD, hj', dif_pos] at hl ⊢
            exact hl
          · have hlt := (okTr_spec hok ((hz ((ops[j], e), j)).2 ⟨ho, he⟩)).1 e' he' hb
            exact ih _ hlt (Nat.lt_trans hlt hj)
        rw [hr] at hmem
        cases hmem
  intro fuel
  induction fuel with
  | zero =>
    intro listed Z' O' a w hZ hsz hcl I hc
    have hc0 : listed.toList.countP (!·) = 0 := Nat.le_zero.1 hc
    have hl : ∀ j, j < ops.size → listed.getD j false = true := by
      intro j hj
      have hj' : j < listed.size := by rw [hsz]; exact hj
      have := List.countP_eq_zero.1 hc0 (listed[j]) (by simp)
      simp only [Array.getD, hj', dif_pos]
      simpa using this
    refine ⟨?_, hQ Z' O' a w hZ (by rw [← hall listed hsz hl]; exact I)⟩
    cases hr : Region.ready .any ops listed with
    | nil => rfl
    | cons i r =>
      have hm : i ∈ Region.ready .any ops listed := by rw [hr]; exact List.mem_cons_self ..
      rw [mem_ready] at hm
      obtain ⟨h0, o, ho, _⟩ := hm
      have hi : i < ops.size := (Array.getElem?_eq_some_iff.1 ho).1
      have h1 := hl i hi
      have hi' : i < listed.size := by rw [hsz]; exact hi
      simp only [Array.getD, hi', dif_pos] at h0 h1
      rw [h0] at h1; cases h1
  | succ fuel ih =>
    intro listed Z' O' a w hZ hsz hcl I hc
    refine ⟨fun hr => hQ Z' O' a w hZ (by rw [← hall listed hsz (hend listed hsz hr)]; exact I), fun i hi => ?_⟩
    rw [mem_ready] at hi
    obtain ⟨h0, o, ho, haft⟩ := hi
    have hlt : i < ops.size := (Array.getElem?_eq_some_iff.1 ho).1
    have hlt' : i < listed.size := by rw [hsz]; exact hlt
    have hLi : listed.getD i false = false := by
      simp only [Array.getD, hlt', dif_pos] at h0 ⊢
      exact h0
    obtain ⟨e, he⟩ := hmk i o ho
    have hpi : ((o, e), i) ∈ (ops.toList.zip es).zipIdx := (hz ((o, e), i)).2 ⟨ho, he⟩
    have hspec := okTr_spec hok hpi
    have hdef := dtr_spec ops.toList s0 es 0 i o e hd (by simpa using ho) he
    rw [Nat.zero_add] at hdef
    have hdef' : deff P F (mh hs) ops (sel (fun j => listed.getD j false) (ops.toList.zip es).zipIdx s0) o = some e := by
      have hfar : ∀ p ∈ (ops.toList.zip es).zipIdx, listed.getD p.2 false ≠ decide (p.2 < i) → (p.2 < i ∧ ((∀ r, r ∈ p.1.2.W p.1.1.dst → r ∉ readsOf ops o e ∧ r ∉ e.W o.dst) ∧ (∀ r, r ∈ readsOf ops p.1.1 p.1.2 → r ∉ e.W o.dst) ∧ (∀ t, t ∈ softOf o e → Res.t t ∉ p.1.2.Wh p.1.1.dst) ∧ ∀ t, t ∈ softOf p.1.1 p.1.2 → Res.t t ∉ e.Wh o.dst)) ∨ (i < p.2 ∧ ((∀ r, r ∈ e.W o.dst → r ∉ readsOf ops p.1.1 p.1.2 ∧ r ∉ p.1.2.W p.1.1.dst) ∧ (∀ r, r ∈ readsOf ops o e → r ∉ p.1.2.W p.1.1.dst) ∧ (∀ t, t ∈ softOf p.1.1 p.1.2 → Res.t t ∉ e.Wh o.dst) ∧ ∀ t, t ∈ softOf o e → Res.t t ∉ p.1.2.Wh p.1.1.dst)) := by
        intro p hp hne
        have hp' := (hz p).1 hp
        rcases Nat.lt_trichotomy p.2 i with hlt2 | heq | hgt
        · have hLp : listed.getD p.2 false = false := by
            cases hx : listed.getD p.2 false with
            | false => rfl
            | true => rw [hx] at hne; simp [hlt2] at hne
          rcases okPair_spec (((okTr_spec hok hp).2.2 _ hpi).1 hlt2) with hw | hw
          · obtain ⟨ed, hed, hb, hon⟩ := waits_spec hw
            have := haft ed hed hb
            rw [hon, hLp] at this; cases this
          · exact .inl ⟨hlt2, hw⟩
        · rw [heq, hLi] at hne; simp at hne
        · have hLp : listed.getD p.2 false = true := by
            cases hx : listed.getD p.2 false with
            | true => rfl
            | false =>
              rw [hx] at hne
              have : ¬ p.2 < i := by omega
              simp [this] at hne
          rcases okPair_spec ((hspec.2.2 p hp).1 hgt) with hw | hw
          · obtain ⟨ed, hed, hb, hon⟩ := waits_spec hw
            have := hcl p.2 p.1.1 hLp hp'.1 ed hed hb
            simp only at hon
            rw [hon, hLi] at this; cases this
          · exact .inr ⟨hgt, hw⟩
      refine deff_congr hdef (fun r hr => ?_) fun t ht => ?_
      · refine sel_read _ _ r _ _ _ rfl rfl fun p hp hne => ?_
        rcases hfar p hp hne with ⟨_, hw⟩ | ⟨_, hw⟩
        · exact fun hm => (hw.1 r hm).1 hr
        · exact hw.2.1 r hr
      · refine sel_soft _ _ t _ _ _ rfl rfl fun p hp hne => ?_
        rcases hfar p hp hne with ⟨_, hw⟩ | ⟨_, hw⟩
        · exact hw.2.2.1 t ht
        · exact hw.2.2.2 t ht
    refine deff_sound hF ho hdef' I fun x Z2 O2 w2 hZ2 I2 => ?_
    have hon : e.on (sel (fun j => listed.getD j false) (ops.toList.zip es).zipIdx s0) o.dst = e.onq (sel (fun j => listed.getD j false) (ops.toList.zip es).zipIdx s0) o.dst := by
      refine on_onq _ _ _ fun hb => ?_
      have hds := hspec.2.1 hb
      simp only at hds
      obtain ⟨b, hdst⟩ := Option.isSome_iff_exists.1 hds
      rw [hdst]
      refine sel_nobp _ b _ _ (hs0 b ⟨o, ?_, deff_mkr hdef' hb, hdst⟩) fun p hp hL => ?_
      · exact Array.mem_toList_iff.2 (Array.mem_of_getElem? ho)
      · have hp' := (hz p).1 hp
        rcases (hspec.2.2 p hp).2 with h | h | h | h
        · simp only at h
          rw [← h, hLi] at hL; cases hL
        · simp only at h
          rw [h] at hb; cases hb
        · simp only [hdst] at h
          exact h
        · obtain ⟨ed, hed, hb', hon⟩ := waits_spec h
          have := hcl p.2 p.1.1 hL hp'.1 ed hed hb'
          simp only at hon
          rw [hon, hLi] at this; cases this
    rw [hon] at I2
    have hsplit : (ops.toList.zip es).zipIdx = (ops.toList.zip es).zipIdx.take i ++ ((o, e), i) :: (ops.toList.zip es).zipIdx.drop (i + 1) := by
      have hi2 : i < (ops.toList.zip es).zipIdx.length := by simp [hlen, hlt]
      have hge : (ops.toList.zip es).zipIdx[i] = ((o, e), i) := by
        have h1 : ops[i] = o := by
          rw [Array.getElem?_eq_getElem hlt] at ho; exact Option.some.inj ho
        have h2 : es[i]'(by rw [hlen]; simpa using hlt) = e := by
          rw [List.getElem?_eq_getElem (by rw [hlen]; simpa using hlt)] at he; exact Option.some.inj he
        simp [h1, h2]
      rw [← hge, List.getElem_cons_drop, List.take_append_drop]
    have hidx : ∀ q ∈ (ops.toList.zip es).zipIdx, ∀ k, (ops.toList.zip es).zipIdx[k]? = some q → q.2 = k := by
      intro q _ k hk
      rw [List.getElem?_zipIdx] at hk
      simp only [Option.map_eq_some_iff] at hk
      obtain ⟨_, _, rfl⟩ := hk
      simp
    have hadd := sel_add (fun j => listed.getD j false) i (o, e) ((ops.toList.zip es).zipIdx.take i) ((ops.toList.zip es).zipIdx.drop (i + 1)) s0 hLi
      (fun q hq => by
        obtain ⟨k, hk, hkq⟩ := List.mem_iff_getElem?.1 hq |>.imp fun k hk => (⟨(List.getElem?_eq_some_iff.1 hk).1, hk⟩ : k < ((ops.toList.zip es).zipIdx.take i).length ∧ _)
        have hk' : k < i := by simp at hk; omega
        have := hidx q (List.mem_of_mem_take hq) k (by rw [List.getElem?_take_of_lt hk'] at hkq; exact hkq)
        omega)
      (fun q hq => by
        obtain ⟨k, hkq⟩ := List.mem_iff_getElem?.1 hq
        have := hidx q (List.mem_of_mem_drop hq) (i + 1 + k) (by rw [List.getElem?_drop] at hkq; exact hkq)
        omega)
      (fun q hq hL r hr => by
        have hq' := List.mem_of_mem_drop hq
        obtain ⟨k, hkq⟩ := List.mem_iff_getElem?.1 hq
        have hgt := hidx q hq' (i + 1 + k) (by rw [List.getElem?_drop] at hkq; exact hkq)
        have hqq := (hz q).1 hq'
        rcases okPair_spec ((hspec.2.2 q hq').1 (by simp only; omega)) with hw | hw
        · obtain ⟨ed, hed, hb, hon⟩ := waits_spec hw
          have := hcl q.2 q.1.1 hL hqq.1 ed hed hb
          simp only at hon
          rw [hon, hLi] at this; cases this
        · exact (hw.1 r hr).2)
    rw [← hsplit] at hadd
    simp only at hadd
    rw [← hadd] at I2
    refine ih (listed.setIfInBounds i true) Z2 O2 _ w2 (FZ.le_trans hZ hZ2) (by simp [hsz]) (fun j o' hj ho' ed hed hb => ?_) ?_ ?_
    · by_cases hji : j = i
      · subst hji
        rw [ho] at ho'
        simp only [Option.some.injEq] at ho'
        subst ho'
        exact getD_set_true (haft ed hed hb)
      · rw [getD_set_ne false (Ne.symm hji)] at hj
        exact getD_set_true (hcl j o' hj ho' ed hed hb)
    · have hc : sel (fun j => (listed.setIfInBounds i true).getD j false) (ops.toList.zip es).zipIdx s0 = sel (fun j => j == i || listed.getD j false) (ops.toList.zip es).zipIdx s0 := by
        refine sel_congr _ _ fun p hp => ?_
        by_cases hji : p.2 = i
        · rw [hji]
          simp [Array.getD, hlt']
        · rw [getD_set_ne false (Ne.symm hji)]
          simp [hji]
      rw [hc]; exact I2
    · have h1 : listed.toList[i]? = some false := by
        rw [Array.getElem?_toList, Array.getElem?_eq_getElem hlt']
        simp only [Array.getD, hlt', dif_pos] at hLi
        rw [← hLi]; rfl
      have := countF listed.toList i h1
      rw [Array.toList_setIfInBounds]
      omega
theorem sound_any (hm : P.follows .mixedOrders = true) : SoundAny P := by
  intro F hF Z0 w0 w Z O st a Q id hs ops es hd hok I hQ
  refine wp_region_any hm ?_
  refine any_go (Z0 := Z0) (w0 := w0) hF hd hok (fun b hb => undefs_nobp b ops hb) (Z := Z) (fun Z' O' a' w' hZ I' => ?_) ops.size (Array.replicate ops.size false) Z O a _ (FZ.le_refl Z) (by simp) ?_ ?_ ?_
  · rw [← dall_sel] at I'
    exact hQ Z' O' a' w' hZ I'
  · intro j o hj
    exfalso
    simp only [Array.getD] at hj
    split at hj
    · simp at hj
    · cases hj
  · have hs : sel (fun j => (Array.replicate ops.size false).getD j false) (ops.toList.zip es).zipIdx (undefs ops st) = undefs ops st := by
      have hn : ∀ j, (Array.replicate ops.size false).getD j false = false := by
        intro j
        simp only [Array.getD]
        split
        · simp
        · rfl
      simp only [hn]
      generalize (ops.toList.zip es).zipIdx = l
      induction l with
      | nil => rfl
      | cons p l ih => simp only [sel]; exact ih
    rw [hs]
    exact (undefs_inv I ops).drew
  · have := List.countP_le_length (p := (!·)) (l := (Array.replicate ops.size false).toList)
    simpa using this

end

end Go.Eng
