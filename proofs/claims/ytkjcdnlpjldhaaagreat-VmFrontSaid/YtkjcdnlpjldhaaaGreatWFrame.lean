/-
  What the frames of the laws use beside the walks.
-/
import Derived.Test.YtkjcdnlpjldhaaaGreatG01
import Derived.Test.YtkjcdnlpjldhaaaGreatG02
import Derived.Test.YtkjcdnlpjldhaaaGreatG03
import Derived.Test.YtkjcdnlpjldhaaaGreatG04
import Derived.Test.YtkjcdnlpjldhaaaGreatG05
import Derived.Test.YtkjcdnlpjldhaaaGreatG06
import Derived.Test.YtkjcdnlpjldhaaaGreatG07
import Derived.Test.YtkjcdnlpjldhaaaGreatG08
import Derived.Test.YtkjcdnlpjldhaaaGreatG09
import Derived.Test.YtkjcdnlpjldhaaaGreatG10
import Derived.Test.YtkjcdnlpjldhaaaGreatG11
import Derived.Test.YtkjcdnlpjldhaaaGreatG12
import Derived.Test.YtkjcdnlpjldhaaaGreatG13
import Derived.Test.YtkjcdnlpjldhaaaGreatG14
import Derived.Test.YtkjcdnlpjldhaaaGreatG15
import Derived.Test.YtkjcdnlpjldhaaaGreatG16
import Derived.Test.YtkjcdnlpjldhaaaGreatG17
import Derived.Test.YtkjcdnlpjldhaaaGreatG18
import Derived.Test.YtkjcdnlpjldhaaaGreatG19
import Derived.Test.YtkjcdnlpjldhaaaGreatG20
import Derived.Test.YtkjcdnlpjldhaaaGreatG21
import Derived.Test.YtkjcdnlpjldhaaaGreatG22
import Derived.Test.YtkjcdnlpjldhaaaGreatG23
import Derived.Test.YtkjcdnlpjldhaaaGreatG24
import Derived.Test.YtkjcdnlpjldhaaaGreatG25
import Derived.Test.YtkjcdnlpjldhaaaGreatG26
import Derived.Test.YtkjcdnlpjldhaaaGreatG27
import Derived.Test.YtkjcdnlpjldhaaaGreatG28
set_option linter.unusedVariables false
set_option linter.unusedSimpArgs false
set_option maxRecDepth 100000
set_option maxHeartbeats 400000000
namespace Go.Proofs.YtkjcdnlpjldhaaaGreat
open Go.RowKit Tw
set_option linter.unusedVariables false

end Go.Proofs.YtkjcdnlpjldhaaaGreat
