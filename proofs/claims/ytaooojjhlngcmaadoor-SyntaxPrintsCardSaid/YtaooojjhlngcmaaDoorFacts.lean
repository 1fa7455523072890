/- FACTS on the types and functions that the walks name, each by the kernel. -/
import Derived.Test.YtaooojjhlngcmaaDoorProg
import Derived.Test.YtaooojjhlngcmaaDoorEngine
namespace Go.Proofs.YtaooojjhlngcmaaDoor
set_option maxRecDepth 100000

end Go.Proofs.YtaooojjhlngcmaaDoor
