import Derived.Test.YthijgiinafanfaaA02
import Derived.Test.YthijgiinafanfaaVic
set_option linter.unusedSimpArgs false
set_option linter.unusedVariables false
namespace Go.Proofs.Ythijgiinafanfaa
open Go.Vi
set_option linter.unusedSimpArgs false

end Go.Proofs.Ythijgiinafanfaa
