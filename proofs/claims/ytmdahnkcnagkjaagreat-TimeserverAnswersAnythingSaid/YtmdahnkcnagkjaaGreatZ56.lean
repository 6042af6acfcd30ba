/- Lemmas of this claim, several texts joined. -/
import Derived.Test.YtmdahnkcnagkjaaGreatRows
import Derived.Deep.Fields
import Derived.Deep.SlicePairs
import Derived.Test.YtmdahnkcnagkjaaGreatZ28
import Derived.Test.YtmdahnkcnagkjaaGreatZ53
import Derived.Test.YtmdahnkcnagkjaaGreatZ54
import Derived.Test.YtmdahnkcnagkjaaGreatZ55
set_option maxRecDepth 100000
open List renaming take_succ_cons -> q8q, take_zero -> q9q
set_option maxHeartbeats 8000000
set_option linter.unusedVariables false
set_option linter.unusedSimpArgs false
namespace Go.Proofs.P9
open Go.RowKit Go.ChangeShapes Go.WideShapes Go.Deep Go.Sec
variable {H:Type} {enc:TypeId × Value->H} {w:World} {b0:Nat} {v:Value} {d:DataW H} {p:List MemPlace}
theorem ints_of (hv:Value.okWide Tryz.prog w .any b0 22 v) (h:DataW.Trod enc Tryz.prog w 0 (λ _=>true) true 22 v d p) :
  ∃ a n c,∃ L:List Int,v = .slice a n c/\L.length=n/\Rd w a (L.map nK)/\n<=c/\∀ x∈L,(Lit.int .i64 x).wf=true:=by
 obtain ⟨a,n,c,rfl⟩:=okWide_slice Tryz.underlying22 hv;obtain ⟨m,hm⟩:=h;rcases open_ints Tryz.underlying22 Tryz.underlying3 DP hm with ⟨hcs,_⟩|⟨a,len,cap,zs,hcs,_,hl,_,hz,_,hcell,hwz⟩
 ·injection hcs with e _
  exact ⟨none,0,0,[],e,rfl,Rd.nil _ _,Nat.le_refl _,Zs⟩
 ·injection hcs with e _
  have hlz:len<=zs.length:=by rw [hz];split <;> omega
  exact ⟨some a,len,cap,zs.take len,e,by rw [List.length_take];omega,tH hlz hcell,hl,λ x hx=>hwz x (List.mem_of_mem_take hx)⟩
end Go.Proofs.P9

/- What arguments of a law read as: rings, pairs of keys, lists of a number and bytes. -/
namespace Go.Sec
open Go.RowKit Go.ChangeShapes Go.WideShapes Go.Deep
theorem list2 {α:Type} {l:List α} (h:l.length=2):∃ a b,l=[a,b]:=by
 match l,h with
 | [a,b],_=>exact ⟨a,b,rfl⟩
section
variable {H:Type} {enc:TypeId × Value->H} {P:Program} {w:World} {base:Nat} {held:Bool}
theorem one_cells {sp:Nat->Bool} {t:TypeId} {fsqq:Array Field} (hs:P.underlying t=some (.struct fsqq)) (hone:oneCellFields P fsqq=true) {n:Nat} {cs:List Value} {y:DataW H × List MemPlace} (h:DataW.trod enc P w base sp held n t cs=some y) :
  cs.length=P.cellsOf t/\∀ (i:Nat) (f:Field) (v:Value),fsqq[i]?=some f->cs[i]?=some v->∃ m y,DataW.trod enc P w base sp held m f.type [v]=some y:=by
 obtain ⟨xs,m,_,_,hl,hlen,hf⟩:=DataW.trod_struct hs h;refine ⟨hl,λ i f v hi hv=>?_⟩;obtain ⟨o0,k0⟩:=hone_of hone i f hi;have h1:=hf i f hi;have hlt:i<xs.length:=by rw [hlen];exact (Array.getElem?_eq_some_iff.1 hi).1
 rw [o0,k0,List.getElem?_eq_getElem hlt] at h1;have hd:(cs.drop i).take 1=[v]:=by
  obtain ⟨hi',rfl⟩:=List.getElem?_eq_some_iff.1 hv;rw [List.drop_eq_getElem_cons hi',q8q,q9q]
 rw [hd] at h1;exact ⟨m,_,h1⟩
theorem int_cell {sp:Nat->Bool} {t:TypeId} {k:IntKind} (ht:P.underlying t=some (.int k)) {n:Nat} {v:Value} {y:DataW H × List MemPlace} (h:DataW.trod enc P w base sp held n t [v]=some y):∃ x,v = .int k x/\(Lit.int k x).wf=true:=by
 obtain ⟨x,e,_,hw⟩:=DataW.trod_int ht h;injection e with e _
 exact ⟨x,e,hw⟩
end
end Go.Sec
namespace Go.Sec
end Go.Sec
namespace Go.Proofs.P9
open Go.RowKit Go.ChangeShapes Go.WideShapes Go.Deep Go.Sec
variable {H:Type} {enc:TypeId × Value->H} {w:World} {b0:Nat} {v:Value} {d:DataW H} {p:List MemPlace}
end Go.Proofs.P9

/- What an argument of a law reads as: rules of a server. -/
namespace Go.Proofs.P9
open Go.RowKit Go.ChangeShapes Go.WideShapes Go.Deep Go.Sec
variable {H:Type} {enc:TypeId × Value->H} {w:World} {b0:Nat} {v:Value} {d:DataW H} {p:List MemPlace}
theorem rule_of (hv:Value.okWide Tryz.prog w .any b0 28 v) (h:DataW.Trod enc Tryz.prog w 0 (λ _=>true) true 28 v d p):∃ r:Int × Int,v = .agg #[.int .i64 r.1, .int .i64 r.2]:=by
 obtain ⟨cs,rfl,hsz⟩:=okWide_struct Tryz.underlying28 hv;obtain ⟨n,hm⟩:=h;obtain ⟨l⟩:=cs;have hl2:l.length=2:=by simpa using hsz.trans (show Tryz.prog.cellsOf 28=2 from Zk)
 obtain ⟨c0,c1,rfl⟩:=list2 hl2;obtain ⟨_,hf⟩:=one_cells Tryz.underlying28 Zk hm;obtain ⟨_,_,g0⟩:=hf 0 _ c0 rfl rfl;obtain ⟨_,_,g1⟩:=hf 1 _ c1 rfl rfl;obtain ⟨x0,rfl,_⟩:=int_cell Tryz.underlying3 g0;obtain ⟨x1,rfl,_⟩:=int_cell Tryz.underlying3 g1;exact ⟨(x0,x1),rfl⟩
end Go.Proofs.P9
