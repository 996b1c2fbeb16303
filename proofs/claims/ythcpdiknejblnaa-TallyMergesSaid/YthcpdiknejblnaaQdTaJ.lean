import Derived.Lib.SliceRun
import Derived.Test.YthcpdiknejblnaaQdTaI
import Derived.Test.YthcpdiknejblnaaQdTaQ
set_option linter.unusedVariables false
set_option linter.unusedSimpArgs false

