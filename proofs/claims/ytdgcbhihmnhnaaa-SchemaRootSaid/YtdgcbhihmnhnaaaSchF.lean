/- The law SchemaFinds, walked over abstract states. No conditions. -/
import Derived.Test.YtdgcbhihmnhnaaaSchR
import Derived.Test.YtdgcbhihmnhnaaaOpF
namespace Go.Proofs.Ytdgcbhihmnhnaaa
set_option linter.unusedSimpArgs false
set_option linter.unusedVariables false
open Go.RowKit

end Go.Proofs.Ytdgcbhihmnhnaaa
