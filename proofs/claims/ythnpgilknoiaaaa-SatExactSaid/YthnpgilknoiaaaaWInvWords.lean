import Derived.Test.YthnpgilknoiaaaaWInv
import Derived.Test.YthnpgilknoiaaaaWFootNe
namespace Go.Proofs.YthnpgilknoiaaaaW.PrintWords
open Go.RowKit
end Go.Proofs.YthnpgilknoiaaaaW.PrintWords
namespace Go.Proofs.YthnpgilknoiaaaaW.PrintLast
end Go.Proofs.YthnpgilknoiaaaaW.PrintLast
