/- What the function of the law EntrySees computes, and what it leans on. -/
import Derived.Test.YthleeikkpjiicaaDoorWalk1
import Derived.OpenShut
import Derived.ShutString
import Derived.ChangeOld
import Derived.SizedLaws
import Derived.ChangeOld
import Derived.KernelRfl
import Derived.LaidSub
import Derived.Lib.AppendIntMem
import Derived.Lib.Overlaps
import Derived.OpenShut
import Derived.Shelf.Strconv.Itoa3
import Derived.ShutString
import Derived.SizedLaws
import Derived.Test.YthleeikkpjiicaaDoorProg
set_option linter.unusedVariables false
set_option linter.unusedSimpArgs false
set_option linter.unusedSectionVars false
set_option maxRecDepth 100000
