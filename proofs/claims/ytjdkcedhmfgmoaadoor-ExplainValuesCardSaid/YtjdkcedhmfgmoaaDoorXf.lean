/- Plans' texts: both are the same (the session's own words). -/
import Derived.Test.YtjdkcedhmfgmoaaDoorXe
namespace Go.Proofs.YtjdkcedhmfgmoaaDoor
open Go Go.Eng Go.Proofs
set_option linter.unusedVariables false
set_option linter.unusedSimpArgs false
set_option maxRecDepth 100000
set_option maxHeartbeats 8000000
theorem bl_lit (l : List UInt8) : bl ⟨l.toArray⟩ = l := rfl
theorem stepEq (b : Bok) (k : Blk) (s : Stp) : bs (Lib.join ((swords b k s).map bl) [32]) ++ ⟨#[10]⟩ = rstep b k s := by
  apply bl_inj
  rw [bl_app, bl_bs]
  unfold swords rstep rhead rpath pwords
  by_cases m2 : s.method = 2
  · simp [m2, Lib.join_cons, Lib.joinTail, bl_app, bl_lit]
  by_cases m3 : s.method = 3
  · by_cases k0 : s.path.kind = 0
    · simp [m3, k0, Lib.join_cons, Lib.joinTail, bl_app, bl_lit]
    by_cases k1 : s.path.kind = 1
    · simp [m3, k1, Lib.join_cons, Lib.joinTail, bl_app, bl_lit]
    by_cases k2 : s.path.kind = 2
    · simp [m3, k2, Lib.join_cons, Lib.joinTail, bl_app, bl_lit]
    by_cases k3 : s.path.kind = 3
    · simp [m3, k3, Lib.join_cons, Lib.joinTail, bl_app, bl_lit]
    · simp [m3, k0, k1, k2, k3, Lib.join_cons, Lib.joinTail, bl_app, bl_lit]
  · by_cases k0 : s.path.kind = 0
    · simp [m2, m3, k0, Lib.join_cons, Lib.joinTail, bl_app, bl_lit]
    by_cases k1 : s.path.kind = 1
    · simp [m2, m3, k1, Lib.join_cons, Lib.joinTail, bl_app, bl_lit]
    by_cases k2 : s.path.kind = 2
    · simp [m2, m3, k2, Lib.join_cons, Lib.joinTail, bl_app, bl_lit]
    by_cases k3 : s.path.kind = 3
    · simp [m2, m3, k3, Lib.join_cons, Lib.joinTail, bl_app, bl_lit]
    · simp [m2, m3, k0, k1, k2, k3, Lib.join_cons, Lib.joinTail, bl_app, bl_lit]
theorem rstep_size {b : Bok} (h : okBok b) (k : Blk) (s : Stp) (hs : okStp s) : 0 < (rstep b k s).size ∧ (rstep b k s).size ≤ 9000000 := by
  have z1 := iname_size h s.index
  have z2 := rpath_size h s.path hs.2.2.2.1 hs.2.2.2.2
  have z3 := dec_size s.join hs.2.2.1
  have z4 := dec_size s.table hs.1
  have s2 := tname_size h k s.table
  have s3 := mname_size s.method
  unfold rstep rhead
  split
  · simp only [ByteArray.size_append, lit_size, List.length_cons, List.length_nil]; omega
  · split
    · simp only [ByteArray.size_append, lit_size, List.length_cons, List.length_nil]; omega
    · simp only [ByteArray.size_append, lit_size, List.length_cons, List.length_nil]; omega
theorem stepT (b : Bok) (k : Blk) (s : Stp) (hb : okBok b) (hk : k.tables.length ≤ 140737488355328) (hk2 : ∀ q ∈ k.tables, in64 q) (hs : okStp s) : FF 36 [.agg (bokC b), .agg (blkC k), .agg (stpC s)] = some (.v (.string (rstep b k s))) := by
  rw [← stepEq]
  refine stepX b k s hb hk hk2 hs ?_
  have h1 := (rstep_size hb k s hs).2
  rw [← stepEq, ByteArray.size_append, bs_size] at h1
  omega
end Go.Proofs.YtjdkcedhmfgmoaaDoor
