import Derived.Test.YtdoifmefhofnnaaMSat
namespace Go.Proofs.Ytdoifmefhofnnaa.M
set_option linter.unusedVariables false
open Go.RowKit Go.Proofs.Ytdoifmefhofnnaa.D
end Go.Proofs.Ytdoifmefhofnnaa.M
