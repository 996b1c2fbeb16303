import Derived.Test.YtkffhgiiejbnaaaGreatZDecB
set_option linter.unusedVariables false
set_option linter.unusedSimpArgs false

