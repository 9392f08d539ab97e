import Derived.Test.YthnpgilknoiaaaaWN
namespace Go.Proofs.YthnpgilknoiaaaaW.PrintWords
open Go.RowKit
namespace Kd
end Kd
end Go.Proofs.YthnpgilknoiaaaaW.PrintWords
