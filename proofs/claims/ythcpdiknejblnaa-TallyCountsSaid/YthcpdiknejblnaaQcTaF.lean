import Derived.Test.YthcpdiknejblnaaQcTaE
import Derived.Test.YthcpdiknejblnaaQcShH
set_option linter.unusedVariables false
set_option linter.unusedSimpArgs false

