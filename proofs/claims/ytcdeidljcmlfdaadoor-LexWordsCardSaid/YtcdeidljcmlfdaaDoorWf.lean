/- slices.AppendSeq over the words' iterator: all words, in a block of the call's own (the session's own words). -/
import Derived.Test.YtcdeidljcmlfdaaDoorWc
import Derived.RangeFuncBox
import Derived.Maps.AppendAt
import Derived.OwnWalk
namespace Go.Proofs.YtcdeidljcmlfdaaDoor
open Go Go.Eng Go.Proofs Go.RowKit Go.Shelf
attribute [local go_sem] Oper.semAt_some
set_option linter.unusedVariables false
set_option linter.unusedSimpArgs false
def encW (x : ByteArray) : Value := .string x
theorem info_str : (Tryd.prog.info? 9).map (fun i => (i.zero, i.size, i.bytes)) = some (some (.string ⟨#[]⟩), 1, 16) := by kernel_rfl
set_option maxRecDepth 100000 in
set_option maxHeartbeats 4000000 in
theorem appendSeqW (Bq Bs Bz m₀ : Nat) (m : Int) (w : World) (hq1 : Bq < w.heap.size) (hs1 : Bs < w.heap.size) (hz1 : Bz < w.heap.size) (h21 : 2 < w.heap.size) (hd1 : Bq ≠ Bs) (hd2 : Bz ≠ Bs) (hd3 : 2 ≠ Bs) (hm0 : m₀ ≤ Bs)
    (hq : w.cell? ⟨Bq, 0, none⟩ = some (.string ⟨#[32]⟩)) (hs : w.cell? ⟨Bs, 0, none⟩ = some (.string (bs (sfx wrd)))) (hsf : w.frozen? ⟨Bs, 0, none⟩ = false) (hz : w.cell? ⟨Bz, 0, none⟩ = some (.int .i64 0)) (hm : w.cell? ⟨2, 0, none⟩ = some (.int .i64 m)) :
    CallsIn Fence.wide 6 Tryd.prog 36 #[.slice none 0 0, .func (.func 39) #[] #[.pointer (some ⟨Bq, 0, none⟩), .pointer (some ⟨Bs, 0, none⟩), .pointer (some ⟨Bz, 0, none⟩)]] w fun e W' =>
      ∃ v, e = .returned v ∧ W'.ownsRow w.heap.size 9 1 v wrd.length ((wrd.map bs).map encW) ∧ Below m₀ w W' ∧ w.heap.size ≤ W'.heap.size := by
  refine callsIn_of_wp_marks Tryd.func36 rfl trivial ?_ rfl
  simp only [Tryd.ntmps36, List.size_toArray, List.length_cons, List.length_nil, Nat.reduceAdd, Nat.reduceSub, Array.replicate_succ, Array.replicate_zero, List.push_toArray, List.append_toArray, List.nil_append, List.cons_append]
  gi_wp2
  obtain ⟨W0, hW0⟩ : ∃ W0, w.alloc (.cells #[.slice none 0 0] 30) = W0 := ⟨_, rfl⟩
  have z0 : W0.heap.size = w.heap.size + 1 := by rw [← hW0]; simp
  have bx : Boxed W0 w.heap.size 30 (.slice none 0 0) := by rw [← hW0]; exact Boxed.new w _ _
  have hB0 : Below w.heap.size w W0 := by rw [← hW0]; exact (Below.refl _ w).alloc (Nat.le_refl _) _
  have q0 := (hB0.cell (p := ⟨Bq, 0, none⟩) hq1).trans hq
  have s0 := (hB0.cell (p := ⟨Bs, 0, none⟩) hs1).trans hs
  have f0 := (hB0.frozen (p := ⟨Bs, 0, none⟩) hs1).trans hsf
  have y0 := (hB0.cell (p := ⟨Bz, 0, none⟩) hz1).trans hz
  have m0 := (hB0.cell (p := ⟨2, 0, none⟩) h21).trans hm
  rw [hW0]
  clear hW0
  refine wpIn_rangeFunc_box (F := Fence.wide) rfl (by decide : 1 ≤ 6) (gf := 39) (lb := #[.pointer (some ⟨Bq, 0, none⟩), .pointer (some ⟨Bs, 0, none⟩), .pointer (some ⟨Bz, 0, none⟩)]) rfl trivial (enters_of Tryd.func39 (by kernel_rfl) rfl)
    (encs := fun x : ByteArray => #[.string x]) (Kp := Below w.heap.size) (S := fun ys => ys = wrd.map bs) (Sp := fun pre => pre <+: wrd.map bs) (N := wrd.length) (Bx := Bs) (w0 := W0)
    (fun l J Jx W hW _ _ hJb hY h0 => splitIter (6 - 1) (by decide) l Bq Bs Bz w.heap.size m J Jx hq1 hs1 hz1 h21 hd1 hd2 hd3 hJb hY W
      ((hW.cell (p := ⟨Bq, 0, none⟩) (by dsimp only; omega)).trans q0) ((hW.cell (p := ⟨Bs, 0, none⟩) (by dsimp only; omega)).trans s0) ((hW.frozen (p := ⟨Bs, 0, none⟩) (by dsimp only; omega)).trans f0) ((hW.cell (p := ⟨Bz, 0, none⟩) (by dsimp only; omega)).trans y0) ((hW.cell (p := ⟨2, 0, none⟩) (by dsimp only; omega)).trans m0) h0)
    belowK_t (belowK_b (by omega)) (Below.refl _ _) (fun _ => rfl)
    (fun pre W => (∃ v, Boxed W w.heap.size 30 v ∧ W.ownsRow w.heap.size 9 1 v pre.length (pre.map encW) ∧ (v = .slice none 0 0 ↔ pre = [])) ∧ (Below m₀ w W ∧ w.heap.size ≤ W.heap.size))
    (fun _ _ _ => False)
    ?own (fun _ _ _ _ _ hs _ _ => hs) ?box ⟨⟨_, bx, World.ownsRow_nil _ _ _ _, by simp⟩, hB0.mono (by omega), by omega⟩
    (fun x => { tmps := #[.slice none 0 0, .func (.func 39) #[] #[.pointer (some ⟨Bq, 0, none⟩), .pointer (some ⟨Bs, 0, none⟩), .pointer (some ⟨Bz, 0, none⟩)], .pointer (some ⟨w.heap.size, 0, none⟩), undef, .slice none 0 0, .string x, .func (.func 39) #[] #[.pointer (some ⟨Bq, 0, none⟩), .pointer (some ⟨Bs, 0, none⟩), .pointer (some ⟨Bz, 0, none⟩)], .string x, undef, undef, undef, undef, undef], defers := [] }) ?assign ?body ?done ?stop
  case own =>
    exact OwnFrom.and (Own.from (holdsRow_own w.heap.size w.heap.size 30 9 1 (fun pre : List ByteArray => pre.length) (fun pre => pre.map encW) (fun pre v => (v = .slice none 0 0 ↔ pre = []))) _)
      (OwnFrom.and (ownFrom_below (by omega) (by omega)) (fun s A B row hs hg hr => Nat.le_trans hs hg.size))
  case box =>
    rintro q A v ⟨⟨u, hu, hr, hn⟩, hB, hz⟩
    have hg := grownBy_setCell' A Bs v
    exact ⟨⟨u, hu.kept hg (fun e => by simp at e; omega), hr.kept hg (.inr fun e => by have := (hr.lt _ e).1; omega), hn⟩, hB.setCell (p := ⟨Bs, 0, none⟩) hm0 v, Nat.le_trans hz hg.size⟩
  case assign =>
    intro l x W K hK
    gi_wp2
    exact hK
  case body =>
    rintro l pre x W ⟨⟨v, hv, hrow, hnil⟩, hB, hsz⟩ hlen
    have hlen : pre.length < 24 := hlen
    have hvc := hv.cell
    have hvf := hv.frozen
    obtain ⟨i0, hi, hz0, hz1, hz2⟩ := info_parts info_str
    have hmx : pre.length + 1 ≤ maxLen := by unfold maxLen; omega
    gi_wp2_with (gi_at_builtin; refine wpListIn_append_own _ rfl _ _ 30 rfl w.heap.size 9 i0 (.string ⟨#[]⟩) 1 16 Tryd.underlying30 hi hz0 hz1 hz2 rfl (by decide) _ _ _ rfl (hrow.alloc _) ⟨W.heap.size, 0, none⟩ 1 1 [encW x] rfl rfl (cell_one_new _ _ _) (by simp [Value.oneCell', encW]) (by omega) (by omega) (by simp; omega) ?_; intro v' w1 hown' hgrow _; obtain ⟨g', cap', rfl⟩ := ownsRow_succ hown'; obtain ⟨hv1, hv2, hr2, hk2, hb2⟩ := hv.appended (by decide) hrow hsz (Nat.le_refl _) hown' hgrow; have hc1 := hv1.cell; have hf1 := hv1.frozen)
    exact ⟨hk2, hb2, ⟨_, hv2, by simpa using hr2, by simp⟩, hB.trans (hb2.mono (by omega)), Nat.le_trans hsz hb2.size⟩
  case done =>
    rintro D ys W hD rfl ⟨⟨v, hv, hrow, hnil⟩, hB, hsz⟩ hK
    have hv' := hv.cell
    gi_wp2
    refine ⟨by simp, .inl ⟨_, _, rfl, run_takeDeferred hK, ?_⟩⟩
    have hp := belowK_b (w := w) (Nat.le_refl _) W D (.deferred (some [])) (.deferred none) (by omega) hK rfl rfl
    exact ⟨_, results_tmp rfl _ _ _, v, rfl, by simpa using ownsRow_putObj hrow (.deferred none) hK rfl, hB.trans (hp.mono (by omega)), by simpa using hsz⟩
  case stop =>
    rintro D c pre W _ _ h _
    exact h.elim
end Go.Proofs.YtcdeidljcmlfdaaDoor
