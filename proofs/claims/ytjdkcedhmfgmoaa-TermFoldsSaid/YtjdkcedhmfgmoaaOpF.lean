/- Terms, rows that read as data (the session's own words). -/
import Derived.Test.YtjdkcedhmfgmoaaOpT
import Derived.Test.YtjdkcedhmfgmoaaTq
namespace Go.Proofs.Ytjdkcedhmfgmoaa
open Go Go.Eng Go.Proofs Go.RowKit
theorem termFolds_ok (t : Term) (rows : List (List Val)) (tot : List Val) (ht : rngT t) (hr : rows.length ≤ maxLen ∧ ∀ r ∈ rows, r.length ≤ maxLen ∧ ∀ v ∈ r, I64 v.int) (hv : tot.length ≤ maxLen ∧ ∀ v ∈ tot, I64 v.int) :
    FF 5 [.agg (tcells t), .sl (rows.map rowC), .sl (tot.map valCells)] = some (.v (.bool true)) := termFolds5 t rows tot ht hr.2 hr.1 hv.2 hv.1
end Go.Proofs.Ytjdkcedhmfgmoaa
