/- How arguments of these kinds are read, and read again: nothing here for this seat. -/
import Derived.Test.YtjkaeimchnfhkaaDoorRows
namespace Go.Proofs.YtjkaeimchnfhkaaDoor
end Go.Proofs.YtjkaeimchnfhkaaDoor
