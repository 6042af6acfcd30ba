/- Lemmas of this claim, several texts joined. -/
import Derived.Laws.CopyOwn
import Derived.Test.YtmdahnkcnagkjaaGreatZ7
set_option maxRecDepth 100000
open Go.Value renaming slice -> Zy
set_option maxHeartbeats 8000000
set_option linter.unusedVariables false
set_option linter.unusedSimpArgs false
/- copy of bytes into a block that is known. -/
namespace Go.Sec
open Go.RowKit
theorem pj (w:World)(g:Nat) (cs:Array Value):Mut g w (w.setRow g cs) :=
 ⟨rfl,rfl,rfl,by simp [World.setRow],λ i _ hne=>setRow_other w g i cs (λ e=>hne (by rw [e]))⟩
theorem jy {P:Program} {w:World} {ops:Array Oper} {rest:List Oper} {o:Oper} {a:Act} {Q:Exit->Act->World->Prop} (hgd:o.guard=none) (d s:Operand) (dT sT:TypeId)
  (ho:o.op = .call { callee := .builtin .copy,args:=#[d,s],argTypes:=#[dT,sT] }) (elem:TypeId)(hu:P.underlying dT=some (.slice elem)) (hsz:(P.info? elem).map (·.size)=some 1)
  (g off dLen dCap:Nat) (sp:E8)(n c:Nat) (l:E7)(hd:a.eval d = Zy (some ⟨g,off,none⟩) dLen dCap) (hs:a.eval s = Zy sp n c)
  (T:TypeId)(vs:List Value)(hB:Blk w g T vs) (hS:Sl w sp n l) (m:Nat) (hm:m=min n dLen) (hfit:off+m<=vs.length)
  (h:∀ w',Blk w' g T (vs.take off++(l.take m).map u8v++vs.drop (off+m))->Mut g w w'->wpList P ops Q rest (a.put o.dst (.int .i64 (m:Int))) w') :
  wpList P ops Q (o :: rest) a w:=by
 have hl:=hS.len;by_cases h0:m=0
 ·subst h0;refine wpList_copy_nothing hgd d s dT sT ho elem hu hsz _ sp dLen dCap n c hd hs hm.symm ?_;exact h w (by simpa using hB) (Mut.refl _ _)
 ·have hS2:=(hS.take m Zo).by';rcases hS2 with h1|⟨b,o',rfl,hb,hc⟩
  ·have:(l.take m).length=0:=by simpa using congrArg List.length h1
   rw [aat] at this;omega
  ·refine wpList_copy_own hgd d s dT sT ho elem hu hsz g off dLen dCap ⟨b,o',none⟩ n c hd hs vs.toArray T hB ((l.take m).map u8v) (by rw [aaC,aat,hl];show min m n=min n dLen;omega) (λ j v hv=>by rw [bX];exact hc j v hv) (by simp;omega) (aH _) ?_;have:=h (w.setRow g ((vs.toArray.toList.take off++((l.take m).map u8v++vs.toArray.toList.drop (off+((l.take m).map u8v).length))).toArray)) ?_ (pj _ _ _)
   ·have e:((l.take m).map u8v).length=m:=by simp;omega
    rw [e] at this ⊢;exact this
   ·have:=setRow_heap w g vs.toArray ((vs.toArray.toList.take off++((l.take m).map u8v++vs.toArray.toList.drop (off+((l.take m).map u8v).length))).toArray) T (0,0) hB;have e:((l.take m).map u8v).length=m:=by simp;omega
    unfold Blk;rw [this,e];simp
end Go.Sec
