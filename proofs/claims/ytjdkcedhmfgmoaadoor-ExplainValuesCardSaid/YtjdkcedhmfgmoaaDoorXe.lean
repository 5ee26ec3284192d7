/- Plans' texts: the document's steps (the session's own words). -/
import Derived.Test.YtjdkcedhmfgmoaaDoorXd
namespace Go.Proofs.YtjdkcedhmfgmoaaDoor
open Go Go.Eng Go.Proofs
set_option linter.unusedVariables false
set_option linter.unusedSimpArgs false
set_option maxRecDepth 100000
set_option maxHeartbeats 8000000
def rhead (b : Bok) (k : Blk) (s : Stp) : ByteArray := mname s.method ++ ⟨#[32]⟩ ++ tname b k s.table ++ ⟨#[35]⟩ ++ dec s.table ++ ⟨#[32]⟩
/-- a step's text, as the document puts it together -/
def rstep (b : Bok) (k : Blk) (s : Stp) : ByteArray :=
  if s.method = 2 then rhead b k s ++ iname b s.index ++ ⟨#[32, 111, 110, 32]⟩ ++ dec s.join ++ ⟨#[10]⟩
  else if s.method = 3 then rhead b k s ++ rpath b s.path ++ ⟨#[32, 111, 110, 32]⟩ ++ dec s.join ++ ⟨#[10]⟩
  else rhead b k s ++ rpath b s.path ++ ⟨#[10]⟩
theorem rpath_size {b : Bok} (h : okBok b) (p : Pth) (hp : okPth p) (ha : p.also.length ≤ 140737488355328) : (rpath b p).size ≤ 3000000 := by
  have s1 := iname_size h p.index
  have s2 := iname_size h p.other
  have s3 := dec_size (p.ranges.length : Int) ⟨by omega, by have := hp.2.2.2.2; omega⟩
  have s4 := dec_size (p.also.length : Int) ⟨by omega, by omega⟩
  unfold rpath
  repeat' split
  all_goals (simp only [ByteArray.size_append, lit_size, List.length_cons, List.length_nil]; omega)
theorem mname_size (m : Int) : (mname m).size ≤ 5 := by
  unfold mname
  repeat' split
  all_goals decide
end Go.Proofs.YtjdkcedhmfgmoaaDoor
