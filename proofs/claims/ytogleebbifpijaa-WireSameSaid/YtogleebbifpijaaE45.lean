import Derived.Test.YtogleebbifpijaaE44
set_option linter.unusedSimpArgs false
set_option linter.unusedVariables false
namespace Go.Proofs.Ytogleebbifpijaa
open Go.Vi
set_option linter.unusedSimpArgs false

end Go.Proofs.Ytogleebbifpijaa
