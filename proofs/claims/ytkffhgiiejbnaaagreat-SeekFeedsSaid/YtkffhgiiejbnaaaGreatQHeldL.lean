import Derived.Test.YtkffhgiiejbnaaaGreatQDecB
set_option linter.unusedVariables false
set_option linter.unusedSimpArgs false

