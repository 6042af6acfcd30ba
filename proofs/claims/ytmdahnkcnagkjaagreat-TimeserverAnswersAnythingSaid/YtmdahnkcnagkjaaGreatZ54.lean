/- Lemmas of this claim, several texts joined. -/
import Derived.Test.YtmdahnkcnagkjaaGreatRows
import Derived.Test.YtmdahnkcnagkjaaGreatZ53
set_option maxRecDepth 100000
open Go.Value renaming int -> Zz,slice -> Zy
open Go.IntKind renaming i64 -> Zx
set_option maxHeartbeats 8000000
set_option linter.unusedVariables false
set_option linter.unusedSimpArgs false
/- What an argument of type []int reads as. -/
namespace Go.Proofs.P9
open Go.RowKit Go.ChangeShapes Go.WideShapes Go.Deep Go.Sec
variable {H:Type} {enc:TypeId × Value->H} {w:World} {b0:Nat} {v:Value} {d:DataW H} {p:List MemPlace}
theorem tH {a:Addr} {len:Nat} {zs:List Int} (hl:len<=zs.length) (hc:∀ c,c<zs.length->w.cell? (a.add c)=some (Zz Zx (zs.getD c 0))):Rd w (some a) ((zs.take len).map nK):=by
 by_cases h0:len=0
 ·left;subst h0;simp
 ·have c0:=hc 0 Zo;have ha:a=⟨a.block,a.off,none⟩:=lr a w _ (by simpa [Addr.add] using c0);have hadd:∀ j,a.add j=⟨a.block,a.off+j,none⟩:=by
   exact z53q88
  refine .inr ⟨a.block,a.off,by rw [<- ha],World.block_lt_of_cell? w a (by simpa [Addr.add] using c0),λ k v hk=>?_⟩;have hkl:k<len:=by
   have:=(List.getElem?_eq_some_iff.1 hk).1;simp at this;omega
  have h1:=hc k Zo;rw [hadd] at h1;rw [h1];have hz:zs.getD k 0=zs[k]'Zo:=by simp [List.getD,show k<zs.length by omega]
  have hk2:((((zs.take len).map nK))[k]?)=some (nK (zs[k]'Zo)):=by
   simp [List.getElem?_take,hkl,show k<zs.length by omega]
  rw [hk2] at hk;injection hk with hk
  rw [<- hk,hz]
theorem DP:Tryz.prog.cellsOf 3=1:=Zk
end Go.Proofs.P9

/- What an argument of type []int reads as, with a bound of its length. -/
namespace Go.Proofs.P9
open Go.RowKit Go.ChangeShapes Go.WideShapes Go.Deep Go.Sec
variable {H:Type} {enc:TypeId × Value->H} {w:World} {b0:Nat} {v:Value} {d:DataW H} {p:List MemPlace}
theorem yM (hv:Value.okWide Tryz.prog w .any b0 22 v) (h:DataW.Trod enc Tryz.prog w 0 (λ _=>true) true 22 v d p) :
  ∃ a n c,∃ L:List Int,v = Zy a n c/\L.length=n/\Rd w a (L.map nK)/\n<=c/\n<=9223372036854775807:=by
 obtain ⟨a,n,c,rfl⟩:=okWide_slice Tryz.underlying22 hv;obtain ⟨m,hm⟩:=h;rcases open_ints Tryz.underlying22 Tryz.underlying3 DP hm with ⟨hcs,_⟩|⟨a,len,cap,zs,hcs,_,hl,hmx,hz,_,hcell,hwz⟩
 ·injection hcs with e _
  exact ⟨none,0,0,[],e,rfl,Rd.nil _ _,aad _,Zs⟩
 ·injection hcs with e _
  have hlz:len<=zs.length:=by rw [hz];split <;> omega
  have hmx:cap<=9223372036854775807:=hmx;exact ⟨some a,len,cap,zs.take len,e,by rw [aat];omega,tH hlz hcell,hl,Zo⟩
end Go.Proofs.P9
