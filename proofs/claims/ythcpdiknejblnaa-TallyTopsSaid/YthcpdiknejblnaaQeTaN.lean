import Derived.BigQuiet
import Derived.Test.YthcpdiknejblnaaQeTaL
set_option linter.unusedVariables false
set_option linter.unusedSimpArgs false

