/- Lemmas of this claim, several texts joined. -/
import Derived.Test.YtdmifbfgeeldnaaZ2
import Derived.Test.YtdmifbfgeeldnaaZ5
import Derived.Test.YtdmifbfgeeldnaaZ11
import Derived.Test.YtdmifbfgeeldnaaZ15
set_option linter.unusedVariables false
set_option linter.unusedSimpArgs false
/- The walks of the reference's prepared key: the table of Sub. -/
namespace Go.Proofs.Ytdmifbfgeeldnaa
open Go.RowKit Go.Sec Go.Oct Go.Aes BigFrame

end Go.Proofs.Ytdmifbfgeeldnaa
