/- Small facts on types and memory, at this program. -/
import Derived.Test.YtoehakekjlebdaaDoorBase
import Derived.Test.YtoehakekjlebdaaDoorBoxA
namespace Go.Proofs.YtoehakekjlebdaaDoor
open Go.RowKit

end Go.Proofs.YtoehakekjlebdaaDoor
