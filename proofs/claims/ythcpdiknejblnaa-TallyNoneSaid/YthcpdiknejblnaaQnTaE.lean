import Derived.Test.YthcpdiknejblnaaQnTaD
set_option linter.unusedVariables false
set_option linter.unusedSimpArgs false

