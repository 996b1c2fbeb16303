import Derived.Lib.SliceRun
import Derived.Test.YthcpdiknejblnaaQeTaI
import Derived.Test.YthcpdiknejblnaaQeTaQ
set_option linter.unusedVariables false
set_option linter.unusedSimpArgs false

