/- The reading by values, taken to its limit, and how one steps through it (the session's own words). -/
import Derived.Test.YtcdeidljcmlfdaaDoorEng
namespace Go.Eng
open Go.RowKit
set_option linter.unusedVariables false
set_option linter.unusedSimpArgs false

/-! ### More fuel, and a better table -/
def FTy.le (F F' : FTy) : Prop := ∀ f ds os r, F f ds os = some r → F' f ds os = some r
section
variable {P : Program} {F F' : FTy} {hs : List Tmp} {ops : Array Oper} {tk : Bool × Bool}
theorem F0_mono (hF : F.le F') {f : FuncId} {ds : List D} {r : D} (h : F0 F f ds = some r) : F0 F' f ds = some r := by
  simp only [F0, Option.bind_eq_some_iff] at h ⊢
  obtain ⟨p, hp, h⟩ := h
  exact ⟨p, hF _ _ _ _ hp, h⟩
theorem callD_mono (hF : F.le F') {f : FuncId} {ds : List D} {r : D} (h : callD P F f ds = some r) : callD P F' f ds = some r := by
  unfold callD at h ⊢
  split at h
  · rename_i hb; rw [if_pos hb]; exact F0_mono hF h
  · rename_i hb; rw [if_neg hb]; exact h
theorem callO_mono (hF : F.le F') {β : Nat → Option (List D)} {f : FuncId} {ds : List D} {L : List Nat} {gs : List Tmp} {e : Eff} (h : callO P F β f ds L gs = some e) : callO P F' β f ds L gs = some e := by
  unfold callO at h ⊢
  split at h
  · rename_i hb
    rw [if_pos hb]
    simp only [Option.bind_eq_some_iff] at h ⊢
    obtain ⟨os, ho, p, hp, h⟩ := h
    exact ⟨os, ho, p, hF _ _ _ _ hp, h⟩
  · cases h
theorem dop_mono (hF : F.le F') {ρ : Operand → Option D} {β : Nat → Option (List D)} {o : Oper} {e : Eff} (h : dop P F tk ρ β o = some e) : dop P F' tk ρ β o = some e := by
  cases ho : o.op with
  | call c =>
    cases hc : c.callee with
    | value x =>
      simp only [dop, ho, hc, Option.bind_eq_some_iff, Option.map_eq_some_iff] at h ⊢
      obtain ⟨d, hd, f, hf, ds, hds, h⟩ := h
      refine ⟨d, hd, f, hf, ds, hds, ?_⟩
      split at h
      case isFalse => cases h
      rename_i hnd
      rw [if_pos hnd]
      simp only [Option.bind_eq_some_iff] at h ⊢
      obtain ⟨L, hL, he⟩ := h
      refine ⟨L, hL, ?_⟩
      split at he
      · rename_i hLe
        rw [if_pos hLe]
        rw [Option.bind_eq_some_iff] at he ⊢
        obtain ⟨r, hr, he⟩ := he
        exact ⟨r, callD_mono hF hr, he⟩
      · rename_i hLe
        rw [if_neg hLe]
        exact callO_mono hF he
    | builtin b => cases b <;> (simp only [dop, ho, hc] at h ⊢; first | exact h | cases h)
    | _ => simp only [dop, ho, hc] at h ⊢; first | exact h | cases h
  | makeFunc fi xs ys => cases fi <;> (simp only [dop, ho] at h ⊢; first | exact h | cases h)
  | _ => simp only [dop, ho] at h ⊢; first | exact h | cases h
theorem deff_mono (hF : F.le F') {st : St} {o : Oper} {e : Eff} (h : deff P F hs ops st o = some e) : deff P F' hs ops st o = some e := by
  simp only [deff, Option.bind_eq_some_iff] at h ⊢
  obtain ⟨q, hq, h⟩ := h
  refine ⟨q, hq, ?_⟩
  cases q
  · exact h
  · exact dop_mono hF h
theorem dlist_mono (hF : F.le F') : ∀ (l : List Oper) (st s : St), dlist P F hs ops l st = some s → dlist P F' hs ops l st = some s
  | [], st, s, h => h
  | o :: l, st, s, h => by
    simp only [dlist, Option.bind_eq_some_iff] at h ⊢
    obtain ⟨e, he, h⟩ := h
    exact ⟨e, deff_mono hF he, dlist_mono hF l _ s h⟩
theorem dtr_mono (hF : F.le F') : ∀ (l : List Oper) (st : St) (es : List Eff), dtr P F hs ops l st = some es → dtr P F' hs ops l st = some es
  | [], st, s, h => h
  | o :: l, st, s, h => by
    simp only [dtr, Option.bind_eq_some_iff, Option.map_eq_some_iff] at h ⊢
    obtain ⟨e, he, es, h, hs⟩ := h
    exact ⟨e, deff_mono hF he, es, dtr_mono hF l _ es h, hs⟩
theorem iter_mono {f f' : St → Option (Ex × St)} (hf : ∀ st r, f st = some r → f' st = some r) (cl : List Tmp) : ∀ (n m : Nat) (st : St) (r : Ex × St), n ≤ m → iter f cl n st = some r → iter f' cl m st = some r
  | 0, m, st, r, _, h => by simp [iter] at h
  | n + 1, 0, st, r, hm, h => absurd hm (Nat.not_succ_le_zero n)
  | n + 1, m + 1, st, r, hm, h => by
    simp only [iter, Option.bind_eq_some_iff] at h ⊢
    obtain ⟨q, hq, h⟩ := h
    refine ⟨q, hf _ _ hq, ?_⟩
    split at h
    · rename_i he; exact iter_mono hf cl n m q.2 r (Nat.le_of_succ_le_succ hm) h
    · rename_i he; exact h
theorem denC_mono (hF : F.le F') (cl : Nat → List Tmp) {n m : Nat} (hn : n ≤ m) : ∀ (c : Code) (bk : Nat) (st : St) (r : Ex × St), denC P F cl c bk n st = some r → denC P F' cl c bk m st = some r
  | .skip, bk, st, r, h => h
  | .exit id, bk, st, r, h => h
  | .ret, bk, st, r, h => h
  | .region id ops false, bk, st, r, h => by
    simp only [denC, Option.bind_eq_some_iff, Option.map_eq_some_iff] at h ⊢
    obtain ⟨s0, h0, s, hs, h⟩ := h
    exact ⟨s0, h0, s, dlist_mono hF _ _ _ hs, h⟩
  | .region id ops true, bk, st, r, h => by
    simp only [denC, Option.bind_eq_some_iff] at h ⊢
    obtain ⟨s0, h0, s, hs, h⟩ := h
    exact ⟨s0, h0, s, dtr_mono hF _ _ _ hs, h⟩
  | .seq a b, bk, st, r, h => by
    simp only [denC, Option.bind_eq_some_iff] at h ⊢
    obtain ⟨q, hq, h⟩ := h
    refine ⟨q, denC_mono hF cl hn a bk st q hq, ?_⟩
    split at h
    · exact denC_mono hF cl hn b bk _ r h
    · exact h
  | .cond c x y, bk, st, r, h => by
    simp only [denC, Option.bind_eq_some_iff] at h ⊢
    obtain ⟨d, hd, h⟩ := h
    refine ⟨d, hd, ?_⟩
    split at h
    · rename_i q
      cases q
      · exact by simpa using denC_mono hF cl hn y bk st r (by simpa using h)
      · exact by simpa using denC_mono hF cl hn x bk st r (by simpa using h)
    · cases h
  | .block id c, bk, st, r, h => by
    simp only [denC, Option.map_eq_some_iff] at h ⊢
    obtain ⟨q, hq, h⟩ := h
    exact ⟨q, denC_mono hF cl hn c id st q hq, h⟩
  | .loop c, bk, st, r, h => by
    simp only [denC] at h ⊢
    exact iter_mono (fun st r h => denC_mono hF cl hn c bk st r h) (cl bk) n m st r hn h
termination_by c => c
end

/-- a chain of tables and what it comes to -/
structure Lim (Fn : Nat → FTy) (F : FTy) : Prop where
  up : ∀ n m, n ≤ m → (Fn n).le (Fn m)
  to : ∀ f ds os r, F f ds os = some r → ∃ n, Fn n f ds os = some r
section
variable {P : Program} {F : FTy} {Fn : Nat → FTy} {hs : List Tmp} {ops : Array Oper} {tk : Bool × Bool}
theorem dop_cont (hF : Lim Fn F) {ρ : Operand → Option D} {β : Nat → Option (List D)} {o : Oper} {e : Eff} (h : dop P F tk ρ β o = some e) : ∃ k, dop P (Fn k) tk ρ β o = some e := by
  cases ho : o.op with
  | call c =>
    cases hc : c.callee with
    | value x =>
      simp only [dop, ho, hc, Option.bind_eq_some_iff, Option.map_eq_some_iff] at h ⊢
      obtain ⟨d, hd, f, hf, ds, hds, h⟩ := h
      split at h
      case isFalse => cases h
      rename_i hnd
      simp only [Option.bind_eq_some_iff] at h
      obtain ⟨L, hL, he⟩ := h
      by_cases hLe : L.isEmpty = true
      · rw [if_pos hLe, Option.bind_eq_some_iff] at he
        obtain ⟨r, hr, he⟩ := he
        obtain ⟨k, hk⟩ : ∃ k, callD P (Fn k) f.1 (f.2.1 ++ ds ++ f.2.2) = some r := by
          unfold callD at hr ⊢
          split at hr
          · rename_i hb
            simp only [F0, Option.bind_eq_some_iff] at hr ⊢
            obtain ⟨p, hp, hr⟩ := hr
            obtain ⟨k, hk⟩ := hF.to _ _ _ _ hp
            refine ⟨k, ?_⟩
            rw [if_pos hb]
            simp only [Option.bind_eq_some_iff]
            exact ⟨p, hk, hr⟩
          · rename_i hb
            exact ⟨0, by rw [if_neg hb]; exact hr⟩
        refine ⟨k, d, hd, f, hf, ds, hds, ?_⟩
        rw [if_pos hnd]
        simp only [Option.bind_eq_some_iff]
        refine ⟨L, hL, ?_⟩
        rw [if_pos hLe, Option.bind_eq_some_iff]
        exact ⟨r, hk, he⟩
      · rw [if_neg hLe] at he
        obtain ⟨k, hk⟩ : ∃ k, callO P (Fn k) β f.1 (f.2.1 ++ ds ++ f.2.2) L (goneA c.args.toList ds) = some e := by
          unfold callO at he ⊢
          split at he
          · rename_i hb
            simp only [Option.bind_eq_some_iff] at he
            obtain ⟨os, ho, p, hp, he⟩ := he
            obtain ⟨k, hk⟩ := hF.to _ _ _ _ hp
            refine ⟨k, ?_⟩
            rw [if_pos hb]
            simp only [Option.bind_eq_some_iff]
            exact ⟨os, ho, p, hk, he⟩
          · cases he
        refine ⟨k, d, hd, f, hf, ds, hds, ?_⟩
        rw [if_pos hnd]
        simp only [Option.bind_eq_some_iff]
        refine ⟨L, hL, ?_⟩
        rw [if_neg hLe]
        exact hk
    | builtin b => refine ⟨0, ?_⟩; cases b <;> (simp only [dop, ho, hc] at h ⊢; first | exact h | cases h)
    | _ => refine ⟨0, ?_⟩; simp only [dop, ho, hc] at h ⊢; first | exact h | cases h
  | makeFunc fi xs ys => refine ⟨0, ?_⟩; cases fi <;> (simp only [dop, ho] at h ⊢; first | exact h | cases h)
  | _ => refine ⟨0, ?_⟩; simp only [dop, ho] at h ⊢; first | exact h | cases h
theorem deff_cont (hF : Lim Fn F) {st : St} {o : Oper} {e : Eff} (h : deff P F hs ops st o = some e) : ∃ k, deff P (Fn k) hs ops st o = some e := by
  simp only [deff, Option.bind_eq_some_iff] at h ⊢
  obtain ⟨q, hq, h⟩ := h
  cases q
  · exact ⟨0, false, hq, h⟩
  · obtain ⟨k, hk⟩ := dop_cont hF h
    exact ⟨k, true, hq, hk⟩
theorem dlist_cont (hF : Lim Fn F) : ∀ (l : List Oper) (st s : St), dlist P F hs ops l st = some s → ∃ k, dlist P (Fn k) hs ops l st = some s
  | [], st, s, h => ⟨0, h⟩
  | o :: l, st, s, h => by
    simp only [dlist, Option.bind_eq_some_iff] at h ⊢
    obtain ⟨e, he, h⟩ := h
    obtain ⟨k1, h1⟩ := deff_cont hF he
    obtain ⟨k2, h2⟩ := dlist_cont hF l _ s h
    exact ⟨max k1 k2, e, deff_mono (hF.up _ _ (Nat.le_max_left ..)) h1, dlist_mono (hF.up _ _ (Nat.le_max_right ..)) _ _ _ h2⟩
theorem dtr_cont (hF : Lim Fn F) : ∀ (l : List Oper) (st : St) (es : List Eff), dtr P F hs ops l st = some es → ∃ k, dtr P (Fn k) hs ops l st = some es
  | [], st, s, h => ⟨0, h⟩
  | o :: l, st, s, h => by
    simp only [dtr, Option.bind_eq_some_iff, Option.map_eq_some_iff] at h ⊢
    obtain ⟨e, he, es, h, hs⟩ := h
    obtain ⟨k1, h1⟩ := deff_cont hF he
    obtain ⟨k2, h2⟩ := dtr_cont hF l _ es h
    exact ⟨max k1 k2, e, deff_mono (hF.up _ _ (Nat.le_max_left ..)) h1, es, dtr_mono (hF.up _ _ (Nat.le_max_right ..)) _ _ _ h2, hs⟩
theorem iter_cont {f : St → Option (Ex × St)} {fn : Nat → St → Option (Ex × St)} (up : ∀ n m, n ≤ m → ∀ st r, fn n st = some r → fn m st = some r) (to : ∀ st r, f st = some r → ∃ k, fn k st = some r) (cl : List Tmp) :
    ∀ (n : Nat) (st : St) (r : Ex × St), iter f cl n st = some r → ∃ k, iter (fn k) cl n st = some r
  | 0, st, r, h => by simp [iter] at h
  | n + 1, st, r, h => by
    simp only [iter, Option.bind_eq_some_iff] at h ⊢
    obtain ⟨q, hq, h⟩ := h
    obtain ⟨k1, h1⟩ := to _ _ hq
    split at h
    · rename_i he
      obtain ⟨k2, h2⟩ := iter_cont up to cl n q.2 r h
      refine ⟨max k1 k2, q, up _ _ (Nat.le_max_left ..) _ _ h1, ?_⟩
      rw [he]
      exact iter_mono (up _ _ (Nat.le_max_right k1 k2)) cl n n _ _ (Nat.le_refl _) h2
    · rename_i he
      refine ⟨k1, q, h1, ?_⟩
      split
      · rename_i e2; exact absurd e2 he
      · exact h
theorem denC_cont (hF : Lim Fn F) (cl : Nat → List Tmp) (n : Nat) : ∀ (c : Code) (bk : Nat) (st : St) (r : Ex × St), denC P F cl c bk n st = some r → ∃ k, denC P (Fn k) cl c bk n st = some r
  | .skip, bk, st, r, h => ⟨0, h⟩
  | .exit id, bk, st, r, h => ⟨0, h⟩
  | .ret, bk, st, r, h => ⟨0, h⟩
  | .region id ops false, bk, st, r, h => by
    simp only [denC, Option.bind_eq_some_iff, Option.map_eq_some_iff] at h ⊢
    obtain ⟨s0, h0, s, hs, h⟩ := h
    obtain ⟨k, hk⟩ := dlist_cont hF _ _ _ hs
    exact ⟨k, s0, h0, s, hk, h⟩
  | .region id ops true, bk, st, r, h => by
    simp only [denC, Option.bind_eq_some_iff] at h ⊢
    obtain ⟨s0, h0, s, hs, h⟩ := h
    obtain ⟨k, hk⟩ := dtr_cont hF _ _ _ hs
    exact ⟨k, s0, h0, s, hk, h⟩
  | .seq a b, bk, st, r, h => by
    simp only [denC, Option.bind_eq_some_iff] at h ⊢
    obtain ⟨q, hq, h⟩ := h
    obtain ⟨k1, h1⟩ := denC_cont hF cl n a bk st q hq
    split at h
    · rename_i he
      obtain ⟨k2, h2⟩ := denC_cont hF cl n b bk _ r h
      refine ⟨max k1 k2, q, denC_mono (hF.up _ _ (Nat.le_max_left ..)) cl (Nat.le_refl n) _ _ _ _ h1, ?_⟩
      rw [he]
      exact denC_mono (hF.up _ _ (Nat.le_max_right ..)) cl (Nat.le_refl n) _ _ _ _ h2
    · rename_i he
      refine ⟨k1, q, h1, ?_⟩
      split
      · rename_i e2; exact absurd e2 he
      · exact h
  | .cond c x y, bk, st, r, h => by
    simp only [denC, Option.bind_eq_some_iff] at h ⊢
    obtain ⟨d, hd, h⟩ := h
    split at h
    · rename_i q
      cases q
      · obtain ⟨k, hk⟩ := denC_cont hF cl n y bk st r (by simpa using h)
        exact ⟨k, _, hd, by simpa using hk⟩
      · obtain ⟨k, hk⟩ := denC_cont hF cl n x bk st r (by simpa using h)
        exact ⟨k, _, hd, by simpa using hk⟩
    · cases h
  | .block id c, bk, st, r, h => by
    simp only [denC, Option.map_eq_some_iff] at h ⊢
    obtain ⟨q, hq, h⟩ := h
    obtain ⟨k, hk⟩ := denC_cont hF cl n c id st q hq
    exact ⟨k, q, hk, h⟩
  | .loop c, bk, st, r, h => by
    simp only [denC] at h ⊢
    exact iter_cont (fun a b hab st r h => denC_mono (hF.up _ _ hab) cl (Nat.le_refl n) c bk st r h) (fun st r h => denC_cont hF cl n c bk st r h) (cl bk) n st r h
termination_by c => c
end

section
variable (P : Program) (cl : FuncId → Nat → List Tmp) (prim : FTy)
theorem denF_mono {F F' : FTy} (hF : F.le F') {n m : Nat} (hn : n ≤ m) {f : FuncId} {ds : List D} {os : List (List D)} {r : D × List (List D)} (h : denF P F cl n f ds os = some r) : denF P F' cl m f ds os = some r := by
  simp only [denF, Option.bind_eq_some_iff] at h ⊢
  obtain ⟨fn, hfn, c, hc, h⟩ := h
  refine ⟨fn, hfn, c, hc, ?_⟩
  split
  · rename_i hl
    rw [if_pos hl] at h
    simp only [Option.bind_eq_some_iff] at h ⊢
    obtain ⟨q, hq, h⟩ := h
    exact ⟨q, denC_mono hF (cl f) hn _ _ _ _ hq, h⟩
  · rename_i hl; rw [if_neg hl] at h; exact h
theorem denN_mono : ∀ n m, n ≤ m → FTy.le (denN P cl prim n) (denN P cl prim m)
  | 0, 0, _ => fun f ds os r h => h
  | 0, m + 1, _ => fun f ds os r h => by
    simp only [denN] at h ⊢
    rw [h]
  | n + 1, 0, h => absurd h (Nat.not_succ_le_zero n)
  | n + 1, m + 1, h => fun f ds os r hr => by
    have ih := denN_mono n m (Nat.le_of_succ_le_succ h)
    simp only [denN] at hr ⊢
    split
    · rename_i r' hp; rw [hp] at hr; exact hr
    · rename_i hp
      rw [hp] at hr
      exact denF_mono P cl ih (Nat.le_of_succ_le_succ h) hr
open Classical in
/-- what the program makes of data -/
noncomputable def Fs : FTy := fun f ds os => if h : ∃ r n, denN P cl prim n f ds os = some r then some h.choose else none
theorem Fs_iff {f : FuncId} {ds : List D} {os : List (List D)} {r : D × List (List D)} : Fs P cl prim f ds os = some r ↔ ∃ n, denN P cl prim n f ds os = some r := by
  unfold Fs
  constructor
  · intro h
    split at h
    · rename_i hx
      simp only [Option.some.injEq] at h
      rw [← h]; exact hx.choose_spec
    · cases h
  · rintro ⟨n, h⟩
    have hx : ∃ r n, denN P cl prim n f ds os = some r := ⟨r, n, h⟩
    rw [dif_pos hx]
    obtain ⟨m, hm⟩ := hx.choose_spec
    have h1 := denN_mono P cl prim n (max n m) (Nat.le_max_left ..) _ _ _ _ h
    have h2 := denN_mono P cl prim m (max n m) (Nat.le_max_right ..) _ _ _ _ hm
    rw [h1] at h2
    exact h2.symm
theorem Fs_lim : Lim (denN P cl prim) (Fs P cl prim) := ⟨denN_mono P cl prim, fun f ds os r h => (Fs_iff P cl prim).1 h⟩
theorem Fs_intro {n : Nat} {f : FuncId} {ds : List D} {os : List (List D)} {r : D × List (List D)} (hp : prim f ds os = none) (h : denF P (Fs P cl prim) cl n f ds os = some r) : Fs P cl prim f ds os = some r := by
  have : ∃ k, denF P (denN P cl prim k) cl n f ds os = some r := by
    simp only [denF, Option.bind_eq_some_iff] at h ⊢
    obtain ⟨fn, hfn, c, hc, h⟩ := h
    split at h
    · rename_i hl
      simp only [Option.bind_eq_some_iff] at h ⊢
      obtain ⟨q, hq, h⟩ := h
      obtain ⟨k, hk⟩ := denC_cont (Fs_lim P cl prim) (cl f) n _ _ _ _ hq
      exact ⟨k, fn, hfn, c, hc, by rw [if_pos hl]; exact Option.bind_eq_some_iff.2 ⟨q, hk, h⟩⟩
    · cases h
  obtain ⟨k, hk⟩ := this
  refine (Fs_iff P cl prim).2 ⟨max n k + 1, ?_⟩
  simp only [denN, hp]
  exact denF_mono P cl (denN_mono P cl prim k _ (Nat.le_max_right ..)) (Nat.le_max_left ..) hk
theorem Fs_prim {f : FuncId} {ds : List D} {os : List (List D)} {r : D × List (List D)} (h : prim f ds os = some r) : Fs P cl prim f ds os = some r := (Fs_iff P cl prim).2 ⟨0, h⟩
theorem Fs_sound (hA : SoundAny P) (hp : SoundF P prim) (hnames : ∀ (f : FuncId) (fn : Func), P.funcs[f]? = some fn → (fn.name == "runtime.NumGoroutine") = false) : SoundF P (Fs P cl prim) :=
  ⟨fun f ds os r os' h => let ⟨n, hn⟩ := (Fs_iff P cl prim).1 h; (denN_sound hA hp hnames cl n).1 f ds os r os' hn,
   fun f ds os r h => let ⟨n, hn⟩ := (Fs_iff P cl prim).1 h; (denN_sound hA hp hnames cl n).2 f ds os r hn⟩
end
end Go.Eng
