import Derived.Test.YthnpgilknoiaaaaWWords
namespace Go.Proofs.YthnpgilknoiaaaaW.PrintWords
open Go.RowKit
end Go.Proofs.YthnpgilknoiaaaaW.PrintWords
