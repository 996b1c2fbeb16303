import Derived.Test.YtkffhgiiejbnaaaGreatQDecC
set_option linter.unusedVariables false
set_option linter.unusedSimpArgs false

