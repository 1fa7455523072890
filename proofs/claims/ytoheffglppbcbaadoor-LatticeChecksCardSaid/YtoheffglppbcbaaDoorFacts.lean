/- FACTS on the types and functions that the walks name, each by the kernel. -/
import Derived.Test.YtoheffglppbcbaaDoorProg
import Derived.Test.YtoheffglppbcbaaDoorEngine
namespace Go.Proofs.YtoheffglppbcbaaDoor
set_option maxRecDepth 100000

end Go.Proofs.YtoheffglppbcbaaDoor
