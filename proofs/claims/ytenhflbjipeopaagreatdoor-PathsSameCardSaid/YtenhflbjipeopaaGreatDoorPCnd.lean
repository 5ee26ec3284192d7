/- A path's conditions: the contract by hand: read by the engine up to the sort, from there on by the kit's contracts (the session's own words). -/
import Derived.Test.YtenhflbjipeopaaGreatDoorPPrk
import Derived.Test.YtenhflbjipeopaaGreatDoorPPsm
import Derived.Test.YtenhflbjipeopaaGreatDoorPShf
import Derived.Sort.OwnSortedInts
import Derived.WalkKit
import Derived.Handy
namespace Go.Proofs.YtenhflbjipeopaaGreatDoor
open Go Go.Eng Go.RowKit Go.Proofs Go.Sort
set_option linter.unusedVariables false
set_option linter.unusedSimpArgs false
set_option maxRecDepth 100000
set_option maxHeartbeats 4000000
def nI (n : Int) : List D := [.v (.int .i64 n)]
/-- a copy of nothing -/
def prims0 : FTy := fun f ds os => if f = 36 then (match ds, os with
  | [.sl []], [] => some (.own 3 1 [], [])
  | _, _ => none) else none
theorem prims0_sound : SoundF Tryz.prog prims0 := by
  refine ⟨fun f ds os r os' h => ?_, fun f ds os p h => ?_⟩
  · unfold prims0 at h
    split at h
    · rename_i e
      subst e
      split at h
      · cases h
        exact empty_contract 9 (fun c => by kernel_rfl) (fun ad c => by kernel_rfl)
      · cases h
    · cases h
  · unfold prims0 at h
    split at h
    · rename_i e; subst e; exact ⟨_, Tryz.func36, by kernel_rfl, by kernel_rfl⟩
    · cases h
noncomputable def FG0 : FTy := Fs Tryz.prog hints prims0
theorem sAny : SoundAny Tryz.prog := sound_any (by kernel_rfl)
theorem FG0_sound : SoundF Tryz.prog FG0 := by
  refine Fs_sound Tryz.prog hints prims0 sAny prims0_sound fun f fn hf => ?_
  have h : (Tryz.prog.funcs.all fun fn => !(fn.name == "runtime.NumGoroutine")) = true := by kernel_rfl
  rw [Array.all_eq_true] at h
  obtain ⟨hi, rfl⟩ := Array.getElem?_eq_some_iff.1 hf
  simpa using h f hi
theorem clone0 (l : List Int) (hl : l.length ≤ 1000) : F0 FG0 36 [.sl (l.map nI)] = some (.own 3 1 (l.map nI)) := by
  have key : FG0 36 [.sl (l.map nI)] [] = some (.own 3 1 (l.map nI), []) := by
    cases l with
    | nil => exact Fs_prim _ _ _ rfl
    | cons a r =>
      have e1 : (r.map nI).length = r.length := List.length_map ..
      have e2 : lenAll 1 (r.map nI) = true := lenAll_map nI (fun _ => rfl) _
      refine Fs_val rfl Tryz.func36 rfl (by rw [Tryz.ntmps36]; exact Nat.succ_le_of_lt (by simp)) ?_
      simp only [Tryz.ntmps36, Tryz.results36]
      rw [List.map_cons, show nI a = [.v (.int .i64 a)] from rfl]
      simp only [List.length_cons] at hl
      show dwp Tryz.prog FG0 _ _ _ _ _
      repeat' (first | (intro hc; (try simp only [bne_eq_false_iff_eq, bne_iff_ne, beq_iff_eq, beq_eq_false_iff_ne, Bool.not_eq_true', Bool.not_eq_false', decide_eq_true_eq, decide_eq_false_iff_not] at hc); (try replace hc := eq_true (show (_ : ByteArray) = _ from hc)); (try (exfalso; first | omega | exact hc trivial | exact hc))) | refine And.intro (show okTr _ _ = true by kernel_rfl) ?_ | refine And.intro ?_ ?_ | refine stp_guard ?_ ?_ | refine stq_guard ?_ ?_ | refine dwp_seq ?_ | refine dwp_block ?_ | ((first | refine dwp_region ?_ | refine dwp_any ?_ | refine dwp_skip ?_ | refine dwp_exit ?_ | refine dwp_ret ?_ | refine dwp_if ?_ | skip); (simp only [go_sem, beq_true, beq_false, Bool.true_beq, Bool.false_beq, Bool.bne_true, Bool.bne_false, Bool.true_bne, Bool.false_bne, Option.isSome_none, ne_eq, Int.cast_ofNat_Int, ↓reduceIte, reduceCtorEq, Nat.reduceBEq, Nat.reduceEqDiff, Nat.reduceLT, Nat.reduceLeDiff, Nat.reduceAdd, Nat.reduceMul, Nat.reducePow, Nat.reduceSub, Int.reduceEq, Int.reduceLT, Int.reduceLE, Int.reduceToNat, Int.reduceMul, Int.reduceNeg, Int.reduceAdd, Int.reduceSub, *]; try simp (disch := (first | omega | (simp only [ByteArray.size_append, bs_size, lit_size, cut_size, List.length_append, List.length_cons, List.length_nil]; omega))) only [sls2S, sls_lS, sls_hS, bop_sadd, List.length_drop, List.length_take, List.length_append, ite_ok, w_i64, w_u64, w_u8, w_u32, w_u16, w_i32, room_le, tm_nn, td_nn, nsucc])) | simp (disch := (first | omega | (simp only [ByteArray.size_append, bs_size, lit_size, cut_size, List.length_append, List.length_cons, List.length_nil]; omega))) only [sls2S, sls_lS, sls_hS, bop_sadd, List.length_drop, List.length_take, List.length_append, ite_ok, w_i64, w_u64, w_u8, w_u32, w_u16, w_i32, room_le, tm_nn, td_nn, nsucc])
  unfold F0
  rw [key]
  rfl
theorem calls_by {P : Program} {F : FTy} {f : FuncId} {fn : Func} {c0 c1 r : Code} {cl : Nat → List Tmp} {ds : List D} {R : St → Prop} {vs : Array Value} {w : World} {K : Ending → World → Prop} {Z : FZ}
    (hA : SoundAny P) (hF : SoundF P F) (hfn : P.funcs[f]? = some fn) (hb : fn.body = some (.seq c0 (.seq c1 r))) (hn : ds.length ≤ fn.ntmps)
    (hd : dwp P F cl c0 0 (S fn.ntmps (argsf ds) (argsg [])) (fun e s => e = .norm ∧ dwp P F cl c1 0 s (fun e2 s2 => e2 = .norm ∧ R s2)))
    (hl : vs.size = ds.length) (hR : ∀ i (h : i < ds.length) (h' : i < vs.size), RVa Z (fun _ => .none) vs[i] ds[i]) (hAg : Agree Z w) (hB : Bs Z) (hG : Gks w)
    (tail : ∀ Z' O' s a' w', Z.le Z' → Inv Z (startB w (fun _ => .none) (fun g b h => by cases h) hG (fun _ _ => rfl)) Z' O' s a' w' → R s → r.wp P (bodyPost P fn K) a' w') : Calls P f vs w K := by
  have hI := start_inv (n := fn.ntmps) (os := []) (O0 := fun _ => .none) hl hR hAg hB (fun i cs h => by simp at h) (fun g g' b h => by cases h) (fun g b h => by cases h) (fun g h => absurd rfl h) hG (fun _ _ => rfl)
  rw [start_S ds fn.ntmps [] hn] at hI
  refine calls_of_wp hfn hb (wp_seq ?_)
  unfold dwp at hd
  obtain ⟨n, q, hden, hq1, n2, q2, hden2, hq3, hq4⟩ := hd
  refine denC_sound hA hF cl n c0 0 Z _ _ _ w _ q hden hI fun Z1 O1 a1 w1 hz1 I1 => ?_
  rw [hq1]
  show (Code.seq c1 r).wp P _ a1 w1
  refine wp_seq ?_
  refine denC_sound hA hF cl n2 c1 0 Z1 O1 _ a1 w1 _ q2 hden2 I1 fun Z2 O2 a2 w2 hz2 I2 => ?_
  rw [hq3]
  show r.wp P _ a2 w2
  exact tail Z2 O2 q2.2 a2 w2 (FZ.le_trans hz1 hz2) I2 hq4
theorem ints_map : ∀ (es : List (List D)) (zs : List Int), intsD es = some zs → es = zs.map nI
  | [], zs, h => by cases h; rfl
  | e :: es, zs, h => by
    unfold intsD at h
    split at h
    · rename_i he; cases he
    · rename_i n es' he
      cases he
      rw [Option.map_eq_some_iff] at h
      obtain ⟨ys, hy, rfl⟩ := h
      rw [ints_map _ _ hy]
      rfl
    · cases h
theorem arr14 (t : Array Value) (h : t.size = 14) : ∃ v0 v1 v2 v3 v4 v5 v6 v7 v8 v9 v10 v11 v12 v13, t = #[v0, v1, v2, v3, v4, v5, v6, v7, v8, v9, v10, v11, v12, v13] := by
  obtain ⟨l⟩ := t
  match l, h with
  | [v0, v1, v2, v3, v4, v5, v6, v7, v8, v9, v10, v11, v12, v13], _ => exact ⟨v0, v1, v2, v3, v4, v5, v6, v7, v8, v9, v10, v11, v12, v13, rfl⟩
theorem conds_pre (k i o : Int) (rs al : List (List D)) (zs ys : List Int) (hlen : zs.length + ys.length ≤ 1000) :
    ∃ c0 c1 r, Tryz.f16.body = some (.seq c0 (.seq c1 r)) ∧ dwp Tryz.prog FG0 (hints 16) c0 0 (S 14 (argsf [.agg [.v (.int .u8 k), .v (.int .i64 i), .sl rs, .sl (zs.map nI), .v (.int .i64 o), .sl al, .sl (ys.map nI)]]) (argsg [])) (fun e s => e = .norm ∧ dwp Tryz.prog FG0 (hints 16) c1 0 s (fun e2 s2 => e2 = .norm ∧ (s2.at 3 = .own 3 1 ((zs ++ ys).map nI) ∧ s2.t.length = 14))) := by
  refine ⟨_, _, _, rfl, ?_⟩
  have e := clone0 zs (by omega)
  have e1 : (zs.map nI).length = zs.length := List.length_map ..
  have e2 : (ys.map nI).length = ys.length := List.length_map ..
  have e3 : lenAll 1 (zs.map nI) = true := lenAll_map nI (fun _ => rfl) _
  have e4 : lenAll 1 (ys.map nI) = true := lenAll_map nI (fun _ => rfl) _
  have e5 : (zs ++ ys).map nI = zs.map nI ++ ys.map nI := List.map_append
  rw [e5]
  generalize zs.map nI = A at *
  generalize ys.map nI = B at *
  clear e5
  repeat' (first | (intro hc; (try simp only [bne_eq_false_iff_eq, bne_iff_ne, beq_iff_eq, beq_eq_false_iff_ne, Bool.not_eq_true', Bool.not_eq_false', decide_eq_true_eq, decide_eq_false_iff_not] at hc); (try replace hc := eq_true (show (_ : ByteArray) = _ from hc)); (try (exfalso; first | omega | exact hc trivial | exact hc))) | refine And.intro (show okTr _ _ = true by kernel_rfl) ?_ | refine And.intro ?_ ?_ | refine stp_guard ?_ ?_ | refine stq_guard ?_ ?_ | refine dwp_seq ?_ | refine dwp_block ?_ | ((first | refine dwp_region ?_ | refine dwp_any ?_ | refine dwp_skip ?_ | refine dwp_exit ?_ | refine dwp_ret ?_ | refine dwp_if ?_ | skip); (simp only [go_sem, beq_true, beq_false, Bool.true_beq, Bool.false_beq, Bool.bne_true, Bool.bne_false, Bool.true_bne, Bool.false_bne, Option.isSome_none, ne_eq, Int.cast_ofNat_Int, ↓reduceIte, reduceCtorEq, Nat.reduceBEq, Nat.reduceEqDiff, Nat.reduceLT, Nat.reduceLeDiff, Nat.reduceAdd, Nat.reduceMul, Nat.reducePow, Nat.reduceSub, Int.reduceEq, Int.reduceLT, Int.reduceLE, Int.reduceToNat, Int.reduceMul, Int.reduceNeg, Int.reduceAdd, Int.reduceSub, *]; try simp (disch := (first | omega | (simp only [ByteArray.size_append, bs_size, lit_size, cut_size, List.length_append, List.length_cons, List.length_nil]; omega))) only [sls2S, sls_lS, sls_hS, bop_sadd, List.length_drop, List.length_take, List.length_append, ite_ok, w_i64, w_u64, w_u8, w_u32, w_u16, w_i32, room_le, tm_nn, td_nn, nsucc])) | simp (disch := (first | omega | (simp only [ByteArray.size_append, bs_size, lit_size, cut_size, List.length_append, List.length_cons, List.length_nil]; omega))) only [sls2S, sls_lS, sls_hS, bop_sadd, List.length_drop, List.length_take, List.length_append, ite_ok, w_i64, w_u64, w_u8, w_u32, w_u16, w_i32, room_le, tm_nn, td_nn, nsucc])
  simp [S]
theorem cell_int {Z : FZ} {w : World} {g : Nat} {cur : Array Value} {e : TypeId} {l : List Int} (hA : Agree Z w) (hb : w.heap[g]? = some (.cells cur e (0, 0))) (hE : Els Z g 0 1 (l.map nI)) : Holds (Value.int .i64) w g 0 l.toArray := by
  intro j hj
  have hj' : j < l.length := by simpa using hj
  obtain ⟨y, h1, h2⟩ := hE.2 j (by simpa using hj') 0 (by simp [nI])
  have h3 : Rp Z y (.v (.int .i64 l[j])) := by simpa [nI] using h2
  have hy : y = .int .i64 l[j] := by cases h3; rfl
  subst hy
  have h4 := (hA _ _ _ h1).1
  refine ⟨?_, by simp [World.frozen?, hb]⟩
  simpa [getElem!_pos, hj'] using h4
/-- cells more that stay as they are -/
def Zl (Z : FZ) (g : Nat) (l : List Int) : FZ := fun b o => if b = g ∧ o < l.length then some (.int .i64 (l.getD o 0)) else Z b o
set_option maxHeartbeats 1000000 in
theorem sConds {ds : List D} {os : List (List D)} {r : D} {os' : List (List D)} (h : pConds ds os = some (r, os')) : Contract Tryz.prog 16 ds os r os' := by
  unfold pConds at h
  split at h
  · rename_i k i rs es o al fs
    rw [Option.bind_eq_some_iff] at h
    obtain ⟨zs, hzs, h⟩ := h
    rw [Option.bind_eq_some_iff] at h
    obtain ⟨ys, hys, h⟩ := h
    split at h
    · rename_i hlen
      cases h
      obtain rfl := ints_map _ _ hzs
      obtain rfl := ints_map _ _ hys
      refine contract_more (fun _ _ _ h => by cases h) fun Z w vs O0 hA hG hl hR => ?_
      obtain ⟨u, rfl, h1⟩ := arg1 hl hR
      obtain ⟨xs, rfl, hlx, hx⟩ := h1
      have hagg : Rp Z (.agg xs.toArray) (.agg [.v (.int .u8 k), .v (.int .i64 i), .sl rs, .sl (zs.map nI), .v (.int .i64 o), .sl al, .sl (ys.map nI)]) := .agg xs _ hlx (fun a ha hb => by
        have hx := hx a ha hb
        match a, ha with
        | 0, _ => exact hx
        | 1, _ => exact hx
        | 2, _ => exact hx
        | 3, _ => exact hx
        | 4, _ => exact hx
        | 5, _ => exact hx
        | 6, _ => exact hx)
      obtain ⟨c0, c1, rst, hbody, hd⟩ := conds_pre k i o rs al zs ys hlen
      have hrst : rst = match Tryz.f16.body with | some (.seq _ (.seq _ r)) => r | _ => .skip := by rw [hbody]
      refine calls_by (ds := [.agg [.v (.int .u8 k), .v (.int .i64 i), .sl rs, .sl (zs.map nI), .v (.int .i64 o), .sl al, .sl (ys.map nI)]]) (R := fun s => s.at 3 = .own 3 1 ((zs ++ ys).map nI) ∧ s.t.length = 14) sAny FG0_sound Tryz.func16 hbody (by rw [Tryz.ntmps16]; exact (show 1 ≤ 14 from by decide)) (by rw [Tryz.ntmps16]; exact hd) rfl (fun a h h' => by
        have : a = 0 := by simpa using h
        subst this
        exact RVa.ofRp hagg) hA (fun g cs h => by cases h) hG ?_
      intro Z1 O1 s a1 w1 hz1 I1 hs1
      clear hd hbody
      obtain ⟨hs3, hsl⟩ := hs1
      obtain ⟨tm, df⟩ := a1
      have hdf : df = [] := I1.df
      subst hdf
      have hts : tm.size = 14 := I1.tsz.trans hsl
      obtain ⟨v0, v1, v2, v3, v4, v5, v6, v7, v8, v9, v10, v11, v12, v13, rfl⟩ := arr14 tm hts
      have r3 : RV Z1 O1 w1 (.t 3) v3 (.own 3 1 ((zs ++ ys).map nI)) := by
        have := I1.tv 3 (by omega) (by simp)
        have hs3' : s.t[3]'(by omega) = .own 3 1 ((zs ++ ys).map nI) := by
          rw [← hs3]
          unfold St.at
          rw [List.getD_eq_getElem?_getD, List.getElem?_eq_getElem (by omega)]
          rfl
        rw [hs3'] at this
        exact this
      have bel1 : Below w.heap.size w w1 := ⟨I1.bl.os, I1.bl.tape, I1.bl.output, I1.bl.size, fun k hk => I1.bl.block k (fun hm => by
        rcases hm with hm | hm
        · have hm : w.heap.size ≤ k := hm
          omega
        · exact hm rfl)⟩
      generalize hzl : zs ++ ys = l at *
      have hll : l.length ≤ 1000 := by rw [← hzl, List.length_append]; exact hlen
      rcases r3 with ⟨hnil, hv3⟩ | ⟨g, c, cur, hv3, hO, hheap, hle, hcm, hsz, hEls, _⟩
      · have hl0 : l = [] := by
          have := congrArg List.length hnil
          simpa using this
        subst hl0
        subst hv3
        subst hrst
        dsimp only [Tryz.f16]
        go_wp2_with fail
        refine (Tryz.slices_Sort_int_none none 0 _).mono fun e w' he => ?_
        obtain ⟨rfl, rfl⟩ := he
        simp only []
        go_wp2_with fail
        refine (Tryz.slices_Compact_int_empty none 0 _).mono fun e w' he => ?_
        obtain ⟨rfl, rfl⟩ := he
        simp only []
        go_wp2_with fail
        go_ret
        have hc0 : condsL [] = [] := by
          unfold condsL
          rw [List.mergeSort_nil]
          rfl
        rw [hc0]
        exact ⟨_, Z, rfl, FZ.le_refl Z, fun b o y hy => .inl hy, below_keeps hA bel1, nil_rp, bel1⟩
      · rw [List.length_map] at hle hv3
        subst hv3
        subst hrst
        have hgw : w.heap.size ≤ g := by
          rcases (I1.ob g (by rw [hO]; intro h; cases h)).1 with h | h
          · exact h
          · exact absurd rfl h
        have hg1 : g < w1.heap.size := (I1.ob g (by rw [hO]; intro h; cases h)).2
        have hH := cell_int I1.ag hheap hEls
        dsimp only [Tryz.f16]
        go_wp2_with fail
        refine (Tryz.slices_Sort_int g 0 c l w1 hH hg1 (by omega)).mono fun e w' he => ?_
        obtain ⟨rfl, n1, os1, rfl⟩ := he
        simp only []
        have hzz : (l.mergeSort fun x y => decide (x ≤ y)).length = l.length := List.length_mergeSort ..
        have hcd : condsL l = Lib.compact (l.mergeSort fun x y => decide (x ≤ y)) := rfl
        generalize (l.mergeSort fun x y => decide (x ≤ y)) = st at *
        have hH2 : Holds (Value.int .i64) (grow (putRow (Value.int .i64) (Sort.ahead w1 n1) g 0 st.toArray) os1) g 0 st.toArray :=
          holds_grow _ _ _ _ _ _ (by simpa using hg1) (holds_putRow _ _ _ _ l.toArray st.toArray (holds_ahead _ _ _ _ _ _ hH) (by simp [hzz]))
        have bel2 : Below w.heap.size w (grow (putRow (Value.int .i64) (Sort.ahead w1 n1) g 0 st.toArray) os1) := bel1.grown (grownBy_sortedI st.toArray) bel1.size (fun k hk => by cases hk; exact hgw)
        have hg2 : g < (grow (putRow (Value.int .i64) (Sort.ahead w1 n1) g 0 st.toArray) os1).heap.size := by
          have : w1.heap.size ≤ (grow (putRow (Value.int .i64) (Sort.ahead w1 n1) g 0 st.toArray) os1).heap.size := (grownBy_sortedI st.toArray).size
          omega
        generalize grow (putRow (Value.int .i64) (Sort.ahead w1 n1) g 0 st.toArray) os1 = w2 at *
        have hC : Calls Tryz.prog 38 #[.slice (some ⟨g, 0, none⟩) l.length c] w2 fun e w' => e = .returned (.slice (some ⟨g, 0, none⟩) (Lib.compact st).length c) ∧ ∃ q, w' = putRow (Value.int .i64) (Sort.ahead w2 q) g 0 (Lib.compact st ++ List.replicate (st.length - (Lib.compact st).length) 0).toArray := by
          rw [← hzz]
          exact Tryz.slices_Compact_int g 0 c st w2 hH2 (by omega) (by omega)
        go_wp2_with fail
        refine hC.mono fun e w' he => ?_
        obtain ⟨rfl, q, rfl⟩ := he
        simp only []
        go_wp2_with fail
        go_ret
        rw [hcd]
        have hcl : (Lib.compact st).length ≤ st.length := by
          have := List.length_filter_le (Lib.keeps st.toArray) (List.range st.length)
          rw [List.length_range] at this
          unfold Lib.compact Lib.compactUpTo
          rw [List.length_map]
          exact this
        generalize Lib.compact st = L at *
        have hfs : (L ++ List.replicate (st.length - L.length) 0).toArray.size = st.toArray.size := by simp; omega
        have hcell : ∀ a, a < L.length → (putRow (Value.int .i64) (Sort.ahead w2 q) g 0 (L ++ List.replicate (st.length - L.length) 0).toArray).cell? ⟨g, a, none⟩ = some (.int .i64 (L.getD a 0)) := fun a ha => by
          have := cell?_putRow (Value.int .i64) (Sort.ahead w2 q) g 0 st.toArray (L ++ List.replicate (st.length - L.length) 0).toArray (holds_ahead _ _ _ _ _ _ hH2) hfs a (by rw [hfs]; simp; omega)
          rw [Nat.zero_add] at this
          rw [this]
          have h5 : a < (L ++ List.replicate (st.length - L.length) 0).length := by simp; omega
          simp [getElem!_pos, h5, List.getElem_append_left ha, List.getD_eq_getElem?_getD, List.getElem?_eq_getElem ha]
          rw [List.getElem?_append_left ha, List.getElem?_eq_getElem ha]
          rfl
        have bel3 : Below w.heap.size w (putRow (Value.int .i64) (Sort.ahead w2 q) g 0 (L ++ List.replicate (st.length - L.length) 0).toArray) := by
          have := bel2.grown (grownBy_sortedI (w := w2) (g := g) (n := q) (os := #[]) (L ++ List.replicate (st.length - L.length) 0).toArray) bel2.size (fun k hk => by cases hk; exact hgw)
          rwa [grow_empty] at this
        generalize putRow (Value.int .i64) (Sort.ahead w2 q) g 0 (L ++ List.replicate (st.length - L.length) 0).toArray = w3 at *
        have hA3 := below_keeps hA bel3
        refine ⟨_, Zl Z g L, rfl, fun b o y hy => ?_, fun b o y hy => ?_, fun b o y hy => ?_, ?_, bel3⟩
        · have := World.block_lt_of_cell? w _ (hA b o y hy).1
          simp only at this
          unfold Zl
          rw [if_neg (by omega)]
          exact hy
        · unfold Zl at hy
          split at hy
          · exact .inr (by omega)
          · exact .inl hy
        · unfold Zl at hy
          split at hy
          · rename_i hh
            obtain ⟨rfl, ho⟩ := hh
            cases hy
            exact ⟨hcell o ho, rfl⟩
          · exact hA3 b o y hy
        · refine .sl _ L.length c 1 _ (by simp) (by omega) ⟨g, 0, none⟩ (fun _ => rfl) rfl (fun a ha => by simp) (fun a _ => .int .i64 (L.getD a 0)) (fun a ha b hb => ?_) (fun a ha b hb => ?_)
          · have hb0 : b = 0 := by simpa using hb
            subst hb0
            have ha' : a < L.length := by simpa using ha
            unfold Zl
            rw [if_pos ⟨rfl, by simpa using ha'⟩]
            simp
          · have hb0 : b = 0 := by simpa using hb
            subst hb0
            have ha' : a < L.length := by simpa using ha
            have : ((L.map fun n => [D.v (.int .i64 n)])[a])[0] = D.v (.int .i64 (L.getD a 0)) := by simp [List.getD_eq_getElem?_getD, List.getElem?_eq_getElem ha']
            rw [this]
            exact .v _
    · cases h
  · cases h
end Go.Proofs.YtenhflbjipeopaaGreatDoor
