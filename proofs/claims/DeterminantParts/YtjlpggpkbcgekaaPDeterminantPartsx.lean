-- Written by a program of this session (hprint.py) out of the translation and of hand-proved parts. Lean checks it.
import Derived.Test.YtjlpggpkbcgekaaPDeterminantPartsx0
import Derived.Test.YtjlpggpkbcgekaaPDeterminantPartsx1
import Derived.Test.YtjlpggpkbcgekaaPDeterminantPartsx2
import Derived.Test.YtjlpggpkbcgekaaPDeterminantPartsx3
import Derived.Test.YtjlpggpkbcgekaaPDeterminantPartsx4
import Derived.Test.YtjlpggpkbcgekaaPDeterminantPartsx5
import Derived.Test.YtjlpggpkbcgekaaPDeterminantPartsx6
import Derived.Test.YtjlpggpkbcgekaaPDeterminantPartsx7
import Derived.Test.YtjlpggpkbcgekaaPDeterminantPartsx8
namespace Go.Proofs.Ytjlpggpkbcgekaa.PDeterminantParts
open Go.RowKit Go.Proofs.YtjlpggpkbcgekaaW.PrintWords Go.Proofs.YtjlpggpkbcgekaaW.PrintLast Go.Proofs.YtjlpggpkbcgekaaW.PrintMore
attribute [local go_sem] max2_int min2_int max_two min_two max_three min_three max_four min_four   -- for this text's walks alone
set_option linter.unusedVariables false
set_option linter.unusedSimpArgs false

end Go.Proofs.Ytjlpggpkbcgekaa.PDeterminantParts
