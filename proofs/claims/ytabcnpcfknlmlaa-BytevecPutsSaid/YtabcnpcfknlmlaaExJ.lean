/- Walks: the reference's Inverse. -/
import Derived.Test.YtabcnpcfknlmlaaGH
import Derived.Test.YtabcnpcfknlmlaaGE
namespace Go.Proofs.Ytabcnpcfknlmlaa
open Go.RowKit


end Go.Proofs.Ytabcnpcfknlmlaa
