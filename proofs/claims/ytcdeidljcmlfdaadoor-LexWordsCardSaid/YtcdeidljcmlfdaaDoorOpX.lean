/- As the card asks it (the session's own words). -/
import Derived.Test.YtcdeidljcmlfdaaDoorOpS
import Derived.Test.YtcdeidljcmlfdaaDoorXv
namespace Go.Proofs.YtcdeidljcmlfdaaDoor
open Go Go.Eng Go.Proofs Go.RowKit
theorem lexWords_ok (s : ByteArray) (_ : s.size ≤ maxLen) : FF 6 [.v (.string s)] = some (.v (.bool true)) := lexWords s
end Go.Proofs.YtcdeidljcmlfdaaDoor
