/- FACTS on the types and functions that the walks name, each by the kernel. -/
import Derived.Test.YtkmnlogacfkjmaaDoorProg
import Derived.Test.YtkmnlogacfkjmaaDoorEngine
namespace Go.Proofs.YtkmnlogacfkjmaaDoor
set_option maxRecDepth 100000

end Go.Proofs.YtkmnlogacfkjmaaDoor
