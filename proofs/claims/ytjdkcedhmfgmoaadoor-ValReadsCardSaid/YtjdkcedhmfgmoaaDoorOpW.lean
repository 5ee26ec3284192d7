/- As the cards ask it (the session's own words). -/
import Derived.Test.YtjdkcedhmfgmoaaDoorOpV
import Derived.Test.YtjdkcedhmfgmoaaDoorVi
namespace Go.Proofs.YtjdkcedhmfgmoaaDoor
open Go Go.Eng Go.Proofs Go.RowKit
set_option linter.unusedVariables false
theorem valShows_ok (v : Val) (h : okVal v) : FF 7 [.agg (valCells v)] = some (.v (.bool true)) := valShows v (by have := h.1; unfold I64 at this; unfold inI64; omega) h.2.2
theorem valReads_ok (s : ByteArray) (h : s.size ≤ maxLen) : FF 8 [.v (.string s)] = some (.v (.bool true)) := valReads s
end Go.Proofs.YtjdkcedhmfgmoaaDoor
