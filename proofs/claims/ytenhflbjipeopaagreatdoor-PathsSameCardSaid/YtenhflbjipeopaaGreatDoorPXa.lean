/- Plans' texts: data, names (the session's own words). -/
import Derived.Test.YtenhflbjipeopaaGreatDoorPOpS
import Derived.Test.YtenhflbjipeopaaGreatDoorPRun
namespace Go.Proofs.YtenhflbjipeopaaGreatDoor
open Go Go.Eng Go.Proofs
set_option linter.unusedVariables false
set_option linter.unusedSimpArgs false
set_option maxRecDepth 100000
set_option maxHeartbeats 4000000
def strC (s : ByteArray) : List D := [.v (.string s)]
def intC (n : Int) : List D := [.v (.int .i64 n)]
def bytC (n : Int) : List D := [.v (.int .u8 n)]
structure Colm where
  name : ByteArray
  kind : Int
  distinct : Int
  nulls : Int
structure Tbl where
  name : ByteArray
  cols : List Colm
  first : Int
  rows : Int
  pages : Int
structure Idx where
  name : ByteArray
  table : Int
  cols : List Int
  root : Int
  leaves : Int
  high : Int
  distinct : List Int
structure Rng where
  lo : ByteArray
  hi : ByteArray
  ends : Bool
structure Pth where
  kind : Int
  index : Int
  ranges : List Rng
  conds : List Int
  other : Int
  also : List Rng
  more : List Int
structure Stp where
  table : Int
  method : Int
  path : Pth
  index : Int
  join : Int
structure Bok where
  tables : List Tbl
  indexes : List Idx
def colC (c : Colm) : List D := [.v (.string c.name), .v (.int .u8 c.kind), .v (.int .i64 c.distinct), .v (.int .i64 c.nulls)]
def tblC (t : Tbl) : List D := [.v (.string t.name), .sl (t.cols.map colC), .v (.int .u32 t.first), .v (.int .i64 t.rows), .v (.int .i64 t.pages)]
def idxC (t : Idx) : List D := [.v (.string t.name), .v (.int .i64 t.table), .sl (t.cols.map intC), .v (.int .u32 t.root), .v (.int .i64 t.leaves), .v (.int .i64 t.high), .sl (t.distinct.map intC)]
def rngC (r : Rng) : List D := [.v (.string r.lo), .v (.string r.hi), .v (.bool r.ends)]
def pthC (p : Pth) : List D := [.v (.int .u8 p.kind), .v (.int .i64 p.index), .sl (p.ranges.map rngC), .sl (p.conds.map intC), .v (.int .i64 p.other), .sl (p.also.map rngC), .sl (p.more.map intC)]
def stpC (s : Stp) : List D := [.v (.int .i64 s.table), .v (.int .u8 s.method), .v (.int .u8 s.path.kind), .v (.int .i64 s.path.index), .sl (s.path.ranges.map rngC), .sl (s.path.conds.map intC), .v (.int .i64 s.path.other), .sl (s.path.also.map rngC), .sl (s.path.more.map intC), .v (.int .i64 s.index), .v (.int .i64 s.join)]
def bokC (b : Bok) : List D := [.sl (b.tables.map tblC), .sl (b.indexes.map idxC)]
theorem pthC_eq (p : Pth) : pthC p = [.v (.int .u8 p.kind), .v (.int .i64 p.index), .sl (p.ranges.map rngC), .sl (p.conds.map intC), .v (.int .i64 p.other), .sl (p.also.map rngC), .sl (p.more.map intC)] := (rfl)
theorem stpC_eq (s : Stp) : stpC s = [.v (.int .i64 s.table), .v (.int .u8 s.method), .v (.int .u8 s.path.kind), .v (.int .i64 s.path.index), .sl (s.path.ranges.map rngC), .sl (s.path.conds.map intC), .v (.int .i64 s.path.other), .sl (s.path.also.map rngC), .sl (s.path.more.map intC), .v (.int .i64 s.index), .v (.int .i64 s.join)] := (rfl)
theorem bokC_eq (b : Bok) : bokC b = [.sl (b.tables.map tblC), .sl (b.indexes.map idxC)] := (rfl)
theorem idxC_len (t : Idx) : (idxC t).length = 7 := rfl
theorem tblC_len (t : Tbl) : (tblC t).length = 5 := rfl
def lq : ByteArray := ⟨#[63]⟩
/-- an index' name -/
def iname (b : Bok) (i : Int) : ByteArray := if i < 0 then ⟨#[63]⟩ else match b.indexes[i.toNat]? with
  | some x => x.name
  | none => ⟨#[63]⟩
def mname (m : Int) : ByteArray := if m = 0 then ⟨#[102, 105, 114, 115, 116]⟩ else if m = 1 then ⟨#[108, 111, 111, 112]⟩ else if m = 2 then ⟨#[112, 114, 111, 98, 101]⟩ else if m = 3 then ⟨#[109, 101, 114, 103, 101]⟩ else ⟨#[63]⟩
end Go.Proofs.YtenhflbjipeopaaGreatDoor
