import Derived.Test.YthcpdiknejblnaaQcTaD
set_option linter.unusedVariables false
set_option linter.unusedSimpArgs false

