import Derived.Test.YthnpgilknoiaaaaWTab
namespace Go.Proofs.YthnpgilknoiaaaaW.PrintLast
end Go.Proofs.YthnpgilknoiaaaaW.PrintLast
