import Derived.Test.YthcpdiknejblnaaQeTaD
set_option linter.unusedVariables false
set_option linter.unusedSimpArgs false

