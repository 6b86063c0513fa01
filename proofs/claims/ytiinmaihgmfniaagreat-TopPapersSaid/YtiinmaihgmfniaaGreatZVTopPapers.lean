import Derived.Test.YtiinmaihgmfniaaGreatZW7
set_option linter.unusedVariables false
set_option linter.unusedSimpArgs false
set_option maxRecDepth 100000
set_option maxHeartbeats 1000000
namespace Go.Proofs.YtiinmaihgmfniaaGreat
open Go.L Go.Sh
end Go.Proofs.YtiinmaihgmfniaaGreat
