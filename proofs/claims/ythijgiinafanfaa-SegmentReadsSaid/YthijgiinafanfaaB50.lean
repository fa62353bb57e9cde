import Derived.Test.YthijgiinafanfaaB49
set_option linter.unusedSimpArgs false
set_option linter.unusedVariables false
namespace Go.Proofs.Ythijgiinafanfaa
open Go.Vi
set_option linter.unusedSimpArgs false

def sizeS (l : List Rec) (i : Nat) : Nat := (rowS (l.take i)).length
end Go.Proofs.Ythijgiinafanfaa
