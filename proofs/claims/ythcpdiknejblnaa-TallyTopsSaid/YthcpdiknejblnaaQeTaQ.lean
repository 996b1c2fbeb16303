import Derived.Test.YthcpdiknejblnaaQeHp
set_option linter.unusedVariables false
set_option linter.unusedSimpArgs false

