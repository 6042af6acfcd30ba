/- Lemmas of this claim, several texts joined. -/
import Derived.Shelf.Strings.Builder1
import Derived.Shelf.Small.Strs
import Derived.Shelf.Strings.Search1
import Derived.Test.YtmdahnkcnagkjaaGreatZ5
set_option maxRecDepth 100000
open Go.Value renaming slice -> Zy
set_option maxHeartbeats 8000000
set_option linter.unusedVariables false
set_option linter.unusedSimpArgs false
/- The contracts of the library's functions that octets call, at this program's numbers. -/
namespace Go.Proofs.P9
open Go.Shelf Go.RowKit Go.Sec
end Go.Proofs.P9

/- The walks of the functions on octets, part two. -/
namespace Go.Proofs.P9
open Go.RowKit Go.Sec Go.Oct BigFrame
theorem gQ (a b:E8)(n c m d:Nat) (l k:E7)(w:World)(h1:Sl w a n l) (h2:Sl w b m k) :
  Calls Tryz.prog 17 #[Zy a n c, Zy b m d] w λ e w'=>e = .returned (.bool (l == k))/\Ext w w':=by
 have e1:=jr U hu8 hst w a n c l h1;have e2:=jr U hu8 hst w b m d k h2
 go_enter Tryz.func17,Tryz.ntmps17
 go_wp2;go_ret;exact ⟨rfl,FD _⟩
theorem ua (a b:E8)(n c m d:Nat) (l k:E7)(w:World)(h1:Sl w a n l) (h2:Sl w b m k) :
  Calls Tryz.prog 166 #[Zy a n c, Zy b m d] w λ e w'=>e = .returned (.bool (l == k))/\Ext w w':=by
 have e1:=jr U hu8 hst w a n c l h1;have e2:=jr U hu8 hst w b m d k h2
 go_enter Tryz.func166,Tryz.ntmps166
 go_wp2;go_ret;exact ⟨rfl,FD _⟩
theorem mO (a b:E8)(n c m d:Nat) (l k:E7)(w:World)(h1:Sl w a n l) (h2:Sl w b m k) :
  Calls Tryz.prog 147 #[Zy a n c, Zy b m d] w λ e w'=>e = .returned (.bool (l == k))/\Ext w w':=by
 go_enter Tryz.func147,Tryz.ntmps147
 go_wp2_with ((go_at_call 166;refine (ua _ _ _ _ _ _ _ _ _ (h1.ext eX) (h2.ext eX)).mono ?_;rintro e w1 ⟨rfl,hxq⟩;obtain ⟨xq,rfl⟩:=hxq.out;clear hxq))
 go_ret;exact ⟨rfl,eX⟩
end Go.Proofs.P9
