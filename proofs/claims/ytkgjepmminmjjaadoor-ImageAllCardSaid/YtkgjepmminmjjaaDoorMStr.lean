/- The order of texts, plainly: it is an order, and a search by halves in a rising row finds how many stand ahead. -/
import Derived.Test.YtkgjepmminmjjaaDoorWAll
import Derived.Test.YtkgjepmminmjjaaDoorMBase
import Derived.Test.YtkgjepmminmjjaaDoorEx0
namespace Go.Proofs.YtkgjepmminmjjaaDoor.M
open Go.RowKit Go.Proofs.YtkgjepmminmjjaaDoor.E Go.Proofs.YtkgjepmminmjjaaDoorW.PrintWords Go.Proofs.YtkgjepmminmjjaaDoorW.PrintLast Go.Proofs.YtkgjepmminmjjaaDoorW.PrintMore
end Go.Proofs.YtkgjepmminmjjaaDoor.M
