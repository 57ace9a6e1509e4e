import Derived.Test.YtajmniiiahhfaaaGreatDoorFB
set_option linter.unusedVariables false
set_option linter.unusedSimpArgs false
namespace Go.Hw
open Go Go.Lib
end Go.Hw
