/- Lemmas of this claim, several texts joined. -/
import Derived.Test.YtdmifbfgeeldnaaGreatZ6
import Derived.Test.YtdmifbfgeeldnaaGreatZ8
import Derived.Test.YtdmifbfgeeldnaaGreatZ9
import Derived.Test.YtdmifbfgeeldnaaGreatZ10
import Derived.Test.YtdmifbfgeeldnaaGreatZ27
import Derived.Test.YtdmifbfgeeldnaaGreatZ28
import Derived.Test.YtdmifbfgeeldnaaGreatZ32
import Derived.Test.YtdmifbfgeeldnaaGreatZ34
import Derived.Test.YtdmifbfgeeldnaaGreatZ37
set_option maxRecDepth 100000
set_option linter.unusedVariables false
set_option linter.unusedSimpArgs false
/- sectimeref01.SameFields. -/
namespace Go.Proofs.YtdmifbfgeeldnaaGreat
open Go.RowKit Go.Sec Go.Oct Go.Pkt BigFrame
end Go.Proofs.YtdmifbfgeeldnaaGreat

/- sectimeref18.Same of equal packets. -/
namespace Go.Proofs.YtdmifbfgeeldnaaGreat
open Go.RowKit Go.Sec Go.Oct Go.Pkt BigFrame
end Go.Proofs.YtdmifbfgeeldnaaGreat

/- sectimeworld.Padded, AllPadded. -/
namespace Go.Proofs.YtdmifbfgeeldnaaGreat
open Go.RowKit Go.Sec Go.Oct Go.Pkt BigFrame
def lenAt (w:World)(g:Nat):Nat:=match w.cell? ⟨g,1,none⟩ with|some (.slice _ m _)=>m|_=>0
end Go.Proofs.YtdmifbfgeeldnaaGreat

/- sectimeworld.AllPadded. -/
namespace Go.Proofs.YtdmifbfgeeldnaaGreat
open Go.RowKit Go.Sec Go.Oct Go.Pkt BigFrame
end Go.Proofs.YtdmifbfgeeldnaaGreat

/- Layer 18: the law ProtectOpens. -/
namespace Go.Pkt
open Go.Oct Go.Aes Go.Sec
def protY (K N:List UInt8)(t:UInt64) (A B:List (Int × List UInt8)):List UInt8:=hdrB (askH t)++bytesF (wflds A)++fldB (1028,guardB N (sealB K ⟨askH t,wflds A,wflds B,false⟩ N))
end Go.Pkt
namespace Go.Proofs.YtdmifbfgeeldnaaGreat
open Go.RowKit Go.Sec Go.Oct Go.Pkt Go.Aes Go.Sha BigFrame
end Go.Proofs.YtdmifbfgeeldnaaGreat

/- Layer 18: the law ProtectRefuses. -/
namespace Go.Pkt
open Go.Oct Go.Aes
theorem readE_small (b:List UInt8):(readE b).1.plain.length≤24∧(readE b).1.secret=[]∧(readE b).1.guarded=false:=by
 by_cases h1:(decH b).2=0
 ·by_cases h2:(decF (decH b).1.2).2=0
  ·rw [readE_ok h1 h2]
   exact ⟨(decF_ok h2).2.1,rfl,rfl⟩
  ·rw [readE_flds h1 h2];exact ⟨by simp [zeroP],rfl,rfl⟩
 ·rw [readE_head h1];exact ⟨by simp [zeroP],rfl,rfl⟩
theorem openP_small (ky b:List UInt8):(openP ky b).1.plain.length≤24∧(openP ky b).1.secret.length≤24:=by
 have hz:(zeroP.plain.length≤24)∧zeroP.secret.length≤24:=by simp [zeroP]
 unfold openP
 split
 ·exact hz
 ·split
  ·exact hz
  ·split
   ·exact hz
   ·split
    ·exact hz
    ·split
     ·exact hz
     ·split
      ·exact hz
      ·split
       ·exact hz
       ·rename_i h
        refine ⟨?_,(decF_ok (by simpa using h)).2.1⟩
        have:=(readE_small b).1
        simp only [List.length_take];omega
end Go.Pkt
namespace Go.Proofs.YtdmifbfgeeldnaaGreat
open Go.RowKit Go.Sec Go.Oct Go.Pkt Go.Aes Go.Sha BigFrame
end Go.Proofs.YtdmifbfgeeldnaaGreat
