/- As the card asks it (the session's own words). -/
import Derived.Test.YtcdeidljcmlfdaaDoorOpS
import Derived.Test.YtcdeidljcmlfdaaDoorXi
namespace Go.Proofs.YtcdeidljcmlfdaaDoor
open Go Go.Eng Go.Proofs Go.RowKit
set_option linter.unusedVariables false
set_option linter.unusedSimpArgs false
theorem lexJoined_ok (a b : ByteArray) (ha : a.size ≤ maxLen) (hb : b.size ≤ maxLen) : FF 5 [.v (.string a), .v (.string b)] = some (.v (.bool true)) := lexJoined a b ha hb
end Go.Proofs.YtcdeidljcmlfdaaDoor
