import Derived.Test.YthnpgilknoiaaaaWWords
namespace Go.Proofs.YthnpgilknoiaaaaW.PrintWords
open Go.RowKit
namespace Kd
end Kd
end Go.Proofs.YthnpgilknoiaaaaW.PrintWords
