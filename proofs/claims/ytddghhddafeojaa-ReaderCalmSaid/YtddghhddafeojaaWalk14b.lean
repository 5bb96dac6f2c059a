/- ReaderCalm, with the opening of its arguments. -/
import Derived.Test.YtddghhddafeojaaRd4
import Derived.Test.YtddghhddafeojaaArg3
namespace Go.Proofs.Ytddghhddafeojaa
end Go.Proofs.Ytddghhddafeojaa
