/- The iterator of strings.SplitSeq, at the words (the session's own words). -/
import Derived.Test.YtcdeidljcmlfdaaDoorWa
import Derived.Test.YtcdeidljcmlfdaaDoorShf
import Derived.Test.YtcdeidljcmlfdaaDoorPlx
import Derived.Test.YtcdeidljcmlfdaaDoorStr
import Derived.Test.YtcdeidljcmlfdaaDoorProg
import Derived.RangeFuncNested
import Derived.Shelf.Abstract
import Derived.Shelf.RegionOpen
import Derived.WalkKit
import Derived.OwnWalkIn
import Derived.TacticsInMore
import Derived.LoopNIn
import Derived.LoopIn
namespace Go.Proofs.YtcdeidljcmlfdaaDoor
open Go Go.Eng Go.Proofs Go.RowKit Go.Shelf
attribute [local go_sem] Oper.semAt_some
set_option linter.unusedVariables false
set_option linter.unusedSimpArgs false
/-- words, a blank between -/
def sfx : List (List UInt8) → List UInt8
  | [] => []
  | [w] => w
  | w :: v :: ws => w ++ 32 :: sfx (v :: ws)
theorem sfx_all : sfx wrd = allW := by decide
theorem idx_word : ∀ (w r : List UInt8), (w.all fun c => c != 32) = true → Lib.index (w ++ 32 :: r) [32] = (w.length : Int)
  | [], r, _ => by rw [List.nil_append, Lib.index]; simp [List.isPrefixOf]
  | c :: w, r, h => by
    rw [List.all_cons, Bool.and_eq_true] at h
    have hc : c ≠ 32 := by simpa using h.1
    have ih := idx_word w r h.2
    have hp : List.isPrefixOf [32] (c :: (w ++ 32 :: r)) = false := by
      simp only [List.isPrefixOf, Bool.and_true]
      rw [beq_eq_false_iff_ne]; exact fun e => hc e.symm
    rw [List.cons_append, Lib.index, hp]
    simp only [Bool.false_eq_true, if_false]
    rw [ih, if_neg (by simp; try omega), List.length_cons]
    try omega
theorem idx_last : ∀ (w : List UInt8), (w.all fun c => c != 32) = true → Lib.index w [32] = -1
  | [], _ => by decide
  | c :: w, h => by
    rw [List.all_cons, Bool.and_eq_true] at h
    have hc : c ≠ 32 := by simpa using h.1
    have ih := idx_last w h.2
    have hp : List.isPrefixOf [32] (c :: w) = false := by
      simp only [List.isPrefixOf, Bool.and_true]
      rw [beq_eq_false_iff_ne]; exact fun e => hc e.symm
    rw [Lib.index, hp]
    simp only [Bool.false_eq_true, if_false]
    rw [ih]; try rfl
theorem no_blank {w : List UInt8} (h : w ∈ wrd) : (w.all fun c => c != 32) = true := by
  have : (wrd.all fun w => w.all fun c => c != 32) = true := by decide
  exact List.all_eq_true.1 this w h
def leftOf (Bs : Nat) (W : World) : Nat := match W.cell? ⟨Bs, 0, none⟩ with
  | some (.string s) => s.size
  | _ => 0
set_option maxRecDepth 100000 in
set_option maxHeartbeats 4000000 in
theorem splitIter (n : Nat) (hn : 1 ≤ n) (l Bq Bs Bz n₁ : Nat) (m : Int) (J Jx : List ByteArray → World → Prop) (hq1 : Bq < n₁) (hs1 : Bs < n₁) (hz1 : Bz < n₁) (h21 : 2 < n₁) (hd1 : Bq ≠ Bs) (hd2 : Bz ≠ Bs) (hd3 : 2 ≠ Bs)
    (hJb : ∀ s A v, J s A → J s (A.setCell ⟨Bs, 0, none⟩ v))
    (hY : ∀ pre x W, J pre W → pre.length < wrd.length → YieldAt Fence.wide (n - 1) Tryd.prog l #[.string x] W fun e W' =>
      (e = .returned (.bool true) ∧ J (pre ++ [x]) W' ∧ Below n₁ W W') ∨ (e = .returned (.bool false) ∧ Jx (pre ++ [x]) W'))
    (W : World) (hq : W.cell? ⟨Bq, 0, none⟩ = some (.string ⟨#[32]⟩)) (hs : W.cell? ⟨Bs, 0, none⟩ = some (.string (bs (sfx wrd)))) (hsf : W.frozen? ⟨Bs, 0, none⟩ = false) (hz : W.cell? ⟨Bz, 0, none⟩ = some (.int .i64 0)) (hm : W.cell? ⟨2, 0, none⟩ = some (.int .i64 m)) (h0 : J [] W) :
    CallsIn Fence.wide n Tryd.prog 39 #[.func (.yield l) #[] #[], .pointer (some ⟨Bq, 0, none⟩), .pointer (some ⟨Bs, 0, none⟩), .pointer (some ⟨Bz, 0, none⟩)] W fun e W' => (∃ v, e = .returned v) ∧
      ((∃ ys, ys = wrd.map bs ∧ J ys W') ∨ (∃ pre, pre <+: wrd.map bs ∧ Jx pre W')) := by
  refine callsIn_of_wp Tryd.func39 rfl trivial ?_ rfl
  simp only [Tryd.ntmps39, List.size_toArray, List.length_cons, List.length_nil, Nat.reduceAdd, Nat.reduceSub, Array.replicate_succ, Array.replicate_zero, List.push_toArray, List.append_toArray, List.nil_append, List.cons_append]
  gi_wp2
  gi_loopw [] (fun wr => ∃ (pre : List (List UInt8)) (w : List UInt8) (rest : List (List UInt8)), wrd = pre ++ w :: rest ∧ (sfx (w :: rest)).length ≤ 200 ∧ wr.cell? ⟨Bs, 0, none⟩ = some (.string (bs (sfx (w :: rest)))) ∧ wr.frozen? ⟨Bs, 0, none⟩ = false ∧ wr.cell? ⟨Bq, 0, none⟩ = some (.string ⟨#[32]⟩) ∧ wr.cell? ⟨Bz, 0, none⟩ = some (.int .i64 0) ∧ wr.cell? ⟨2, 0, none⟩ = some (.int .i64 m) ∧ J (pre.map bs) wr) (fun wr => leftOf Bs wr)
  case atStart =>
    exact ⟨[], _, _, rfl, by decide, hs, hsf, hq, hz, hm, h0⟩
  case round =>
    obtain ⟨pre, w, rest, hx, hsl, hcs, hcf, hcq, hcz, hcm, hJ⟩ := hrel
    have hw : w ∈ wrd := by rw [hx]; simp
    have hnb := no_blank hw
    obtain ⟨fn, tmps, assign, body, hy, hR⟩ := hY (pre.map bs) (bs w) wr hJ (by rw [List.length_map, hx]; simp)
    have hwl : w.length ≤ 100 := by
      have : (wrd.all fun w => decide (w.length ≤ 100)) = true := by decide
      exact of_decide_eq_true (List.all_eq_true.1 this w hw)
    cases rest with
    | nil =>
      have hix : Lib.index (bs w).data.toList (⟨#[32]⟩ : ByteArray).data.toList = -1 := idx_last w hnb
      replace hcs : wr.cell? ⟨Bs, 0, none⟩ = some (.string (bs w)) := hcs
      have hsz : (bs w).size < 4294967281 := by show w.length < _; omega
      have hfin : wrd.map bs = pre.map bs ++ [bs w] := by rw [hx]; simp
      clear hx
      gi_wp2_with (refine ⟨trivial, ?_⟩; gi_at_call 40; refine (callsIn_wide.2 (Tryd.strings_Index (bs w) ⟨#[32]⟩ m wr hsz hcm)).mono ?_; rintro e w' ⟨rfl, rfl⟩; rw [hix])
      refine hR.mono ?_
      rintro e W3 (⟨rfl, hJ3, hk3⟩ | ⟨rfl, hJx3⟩)
      · gi_wp2
        go_end0
        exact ⟨⟨_, rfl⟩, .inl ⟨_, hfin.symm ▸ rfl, hJ3⟩⟩
      · gi_wp2
        go_end0
        exact ⟨⟨_, rfl⟩, .inr ⟨_, by rw [hfin]; exact List.prefix_refl _, hJx3⟩⟩
    | cons v ws =>
      have hix : Lib.index (bs (w ++ 32 :: sfx (v :: ws))).data.toList (⟨#[32]⟩ : ByteArray).data.toList = (w.length : Int) := idx_word w _ hnb
      replace hcs : wr.cell? ⟨Bs, 0, none⟩ = some (.string (bs (w ++ 32 :: sfx (v :: ws)))) := hcs
      have hsz : (bs (w ++ 32 :: sfx (v :: ws))).size < 4294967281 := by show (sfx (w :: v :: ws)).length < _; omega
      have hex : (bs (w ++ 32 :: sfx (v :: ws))).extract 0 w.length = bs w := by
        show cut (bs (w ++ 32 :: sfx (v :: ws))) 0 w.length = bs w
        rw [cut_bs]; simp
      have hex2 : (bs (w ++ 32 :: sfx (v :: ws))).extract (w.length + 1) (bs (w ++ 32 :: sfx (v :: ws))).size = bs (sfx (v :: ws)) := by
        show cut (bs (w ++ 32 :: sfx (v :: ws))) (w.length + 1) _ = bs (sfx (v :: ws))
        rw [cut_bs, bs_size, List.take_length]; simp
      have hbs : (bs (w ++ 32 :: sfx (v :: ws))).size = w.length + 1 + (sfx (v :: ws)).length := by rw [bs_size, List.length_append, List.length_cons]; omega
      have hb1 : (w.length : Int) ≤ ((bs (w ++ 32 :: sfx (v :: ws))).size : Int) := by omega
      have hb2 : (w.length : Int) + 1 ≤ ((bs (w ++ 32 :: sfx (v :: ws))).size : Int) := by omega
      have hlt : (bs (sfx (v :: ws))).size < (bs (w ++ 32 :: sfx (v :: ws))).size := by rw [bs_size (sfx (v :: ws))]; omega
      have hsl2 : (sfx (v :: ws)).length ≤ 200 := by rw [bs_size] at hbs; have : (sfx (w :: v :: ws)).length = (w ++ 32 :: sfx (v :: ws)).length := rfl; omega
      clear hbs
      gi_wp2_with (refine ⟨trivial, ?_⟩; gi_at_call 40; refine (callsIn_wide.2 (Tryd.strings_Index (bs (w ++ 32 :: sfx (v :: ws))) ⟨#[32]⟩ m wr hsz hcm)).mono ?_; rintro e w' ⟨rfl, rfl⟩; rw [hix])
      refine hR.mono ?_
      rintro e W3 (⟨rfl, hJ3, hk3⟩ | ⟨rfl, hJx3⟩)
      · have hcs3 : W3.cell? ⟨Bs, 0, none⟩ = some (.string (bs (w ++ 32 :: sfx (v :: ws)))) := (hk3.cell (p := ⟨Bs, 0, none⟩) hs1).trans hcs
        have hcq3 : W3.cell? ⟨Bq, 0, none⟩ = some (.string ⟨#[32]⟩) := (hk3.cell (p := ⟨Bq, 0, none⟩) hq1).trans hcq
        have hcz3 : W3.cell? ⟨Bz, 0, none⟩ = some (.int .i64 0) := (hk3.cell (p := ⟨Bz, 0, none⟩) hz1).trans hcz
        have hcm3 : W3.cell? ⟨2, 0, none⟩ = some (.int .i64 m) := (hk3.cell (p := ⟨2, 0, none⟩) h21).trans hcm
        have hcf3 : W3.frozen? ⟨Bs, 0, none⟩ = false := (hk3.frozen (p := ⟨Bs, 0, none⟩) hs1).trans hcf
        gi_wp2
        have hnew : (W3.setCell ⟨Bs, 0, none⟩ (.string (bs (sfx (v :: ws))))).cell? ⟨Bs, 0, none⟩ = some (.string (bs (sfx (v :: ws)))) := World.cell?_setCell_same' _ _ _ (by rw [hcs3]; rfl)
        have hoth : ∀ b, b ≠ Bs → (W3.setCell ⟨Bs, 0, none⟩ (.string (bs (sfx (v :: ws))))).cell? ⟨b, 0, none⟩ = W3.cell? ⟨b, 0, none⟩ := fun b hb => World.cell?_setCell_other _ _ _ _ (fun e => hb (congrArg Addr.block e).symm)
        go_roundw
        case rel =>
          refine ⟨pre ++ [w], v, ws, by rw [hx]; simp, hsl2, hnew, by rw [World.frozen?_setCell]; exact hcf3, (hoth Bq hd1).trans hcq3, (hoth Bz hd2).trans hcz3, (hoth 2 hd3).trans hcm3, ?_⟩
          rw [List.map_append]
          exact hJb _ _ _ hJ3
        case measure =>
          unfold leftOf
          rw [hnew, hcs]
          exact hlt
      · gi_wp2
        refine bodyPost_ret (results_none rfl _ _ _) rfl ?_
        exact ⟨⟨_, rfl⟩, .inr ⟨_, by rw [hx]; simp, hJx3⟩⟩
end Go.Proofs.YtcdeidljcmlfdaaDoor
