import Derived.Test.YthcpdiknejblnaaQeTaE
import Derived.Test.YthcpdiknejblnaaQeShH
set_option linter.unusedVariables false
set_option linter.unusedSimpArgs false

