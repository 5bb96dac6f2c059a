/- EpochIdle, with the opening of its arguments. -/
import Derived.Test.YtigjpfhjddkckaaEp4
import Derived.Test.YtigjpfhjddkckaaArg3
namespace Go.Proofs.Ytigjpfhjddkckaa
end Go.Proofs.Ytigjpfhjddkckaa
