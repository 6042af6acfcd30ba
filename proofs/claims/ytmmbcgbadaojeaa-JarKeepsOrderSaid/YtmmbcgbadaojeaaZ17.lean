/- Lemmas of this claim, several texts joined. -/
import Derived.Test.YtmmbcgbadaojeaaZ1
import Derived.Test.YtmmbcgbadaojeaaZ3
import Derived.Test.YtmmbcgbadaojeaaZ9
import Derived.Test.YtmmbcgbadaojeaaZ10
set_option linter.unusedVariables false
set_option linter.unusedSimpArgs false
/- The walks of the reference's prepared key: the table of Sub. -/
namespace Go.Proofs.Ytmmbcgbadaojeaa
open Go.RowKit Go.Sec Go.Oct Go.Aes BigFrame

end Go.Proofs.Ytmmbcgbadaojeaa
