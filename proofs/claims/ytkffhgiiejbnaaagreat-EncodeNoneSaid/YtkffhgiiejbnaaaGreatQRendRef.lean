import Derived.Shelf.Strings.Builder1
import Derived.Shelf.Strings.BuilderF
import Derived.Shelf.Strings.BuilderK
import Derived.Shelf.Strings.BuilderCap
import Derived.Ground.Names2Prog
import Derived.Shelf.Slices.Clone
import Derived.Test.YtkffhgiiejbnaaaGreatProg
import Derived.Lib.Builder
import Derived.Lib.AppendStr
import Derived.Test.YtkffhgiiejbnaaaGreatQ01
import Derived.Test.YtkffhgiiejbnaaaGreatQAid
import Derived.Test.YtkffhgiiejbnaaaGreatQSetB
import Derived.Test.YtkffhgiiejbnaaaGreatQMarkRef
set_option linter.unusedVariables false
set_option linter.unusedSimpArgs false

