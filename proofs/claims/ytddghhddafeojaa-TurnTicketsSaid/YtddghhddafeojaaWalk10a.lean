/- TurnTickets, with the opening of its arguments. -/
import Derived.Test.YtddghhddafeojaaTu2
import Derived.Test.YtddghhddafeojaaArg3
namespace Go.Proofs.Ytddghhddafeojaa
end Go.Proofs.Ytddghhddafeojaa
