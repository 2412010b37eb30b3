/- Walks: the reference's Add, Sub, Cmp, Same. -/
import Derived.Test.YtabcnpcfknlmlaaExK
namespace Go.Proofs.Ytabcnpcfknlmlaa
open Go.RowKit


end Go.Proofs.Ytabcnpcfknlmlaa
