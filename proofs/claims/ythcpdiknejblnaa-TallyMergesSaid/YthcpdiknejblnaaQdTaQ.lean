import Derived.Test.YthcpdiknejblnaaQdHp
set_option linter.unusedVariables false
set_option linter.unusedSimpArgs false

