/- Lemmas of this claim, several texts joined. -/
import Derived.Test.YtdmifbfgeeldnaaGreatZ42
import Derived.Test.YtdmifbfgeeldnaaGreatZ44
set_option maxRecDepth 100000
set_option linter.unusedVariables false
set_option linter.unusedSimpArgs false
/- What arguments of a law read as: jars. -/
namespace Go.Sec
open Go.RowKit Go.ChangeShapes Go.WideShapes Go.Deep
theorem list6j {α:Type} {l:List α} (h:l.length=6):∃ x0 x1 x2 x3 x4 x5,l=[x0,x1,x2,x3,x4,x5]:=by
 match l,h with
 | [x0,x1,x2,x3,x4,x5],_=>exact ⟨x0,x1,x2,x3,x4,x5,rfl⟩
theorem jld_cells {H:Type} {enc:TypeId × Value→H} {P:Program} {w:World} {base:Nat} {held:Bool} {sp:Nat→Bool} {t:TypeId} {fs:Array Field} (hs:P.underlying t=some (.struct fs)) {n:Nat} {cs:List Value} {y:DataW H × List MemPlace} (h:DataW.trod enc P w base sp held n t cs=some y) :
  ∀ (i:Nat) (f:Field),fs[i]?=some f→∃ m y,DataW.trod enc P w base sp held m f.type ((cs.drop f.offset).take (P.cellsOf f.type))=some y:=by
 obtain ⟨xs,m,_,_,hl,hlen,hf⟩:=DataW.trod_struct hs h
 intro i f hi
 have h1:=hf i f hi
 have hlt:i<xs.length:=by rw [hlen];exact (Array.getElem?_eq_some_iff.1 hi).1
 rw [List.getElem?_eq_getElem hlt] at h1
 exact ⟨m,_,h1⟩
end Go.Sec
namespace Go.Proofs.YtdmifbfgeeldnaaGreat
open Go.RowKit Go.ChangeShapes Go.WideShapes Go.Deep Go.Sec Go.Jar
variable {H:Type} {enc:TypeId × Value→H} {w:World} {b0:Nat} {v:Value} {d:DataW H} {p:List MemPlace}
theorem jar_of (hv:Value.okWide Tryz.prog w .any b0 54 v) (h:DataW.Trod enc Tryz.prog w 0 (fun _=>true) true 54 v d p):∃ q,JaR w v q:=by
 obtain ⟨cs,rfl,hsz⟩:=okWide_struct Tryz.underlying54 hv
 obtain ⟨n,hm⟩:=h
 obtain ⟨l⟩:=cs
 have hl6:l.length=6:=by simpa using hsz.trans (show Tryz.prog.cellsOf 54=6 by kernel_rfl)
 obtain ⟨x0,x1,x2,x3,x4,x5,rfl⟩:=list6j hl6
 have hf:=jld_cells Tryz.underlying54 hm
 obtain ⟨_,_,gh⟩:=hf 0 _ rfl
 obtain ⟨_,_,g2⟩:=hf 1 _ rfl
 obtain ⟨_,_,g3⟩:=hf 2 _ rfl
 obtain ⟨_,_,g4⟩:=hf 3 _ rfl
 obtain ⟨_,_,g5⟩:=hf 4 _ rfl
 have gh:DataW.trod enc Tryz.prog w 0 (fun _=>true) true _ 51 [x0,x1]=some _:=gh
 have g2:DataW.trod enc Tryz.prog w 0 (fun _=>true) true _ 52 [x2]=some _:=g2
 have g3:DataW.trod enc Tryz.prog w 0 (fun _=>true) true _ 33 [x3]=some _:=g3
 have g4:DataW.trod enc Tryz.prog w 0 (fun _=>true) true _ 3 [x4]=some _:=g4
 have g5:DataW.trod enc Tryz.prog w 0 (fun _=>true) true _ 3 [x5]=some _:=g5
 obtain ⟨_,hh⟩:=one_cells Tryz.underlying51 (by kernel_rfl) gh
 obtain ⟨_,_,q0⟩:=hh 0 _ x0 rfl rfl
 obtain ⟨_,_,q1⟩:=hh 1 _ x1 rfl rfl
 obtain ⟨a1,n1,k1,l1,rfl,s1,e1,_⟩:=by_of_trod Tryz.underlying33 Tryz.underlying5 (by kernel_rfl) q0
 obtain ⟨a2,n2,k2,l2,rfl,s2,e2,_⟩:=by_of_trod Tryz.underlying33 Tryz.underlying5 (by kernel_rfl) q1
 obtain ⟨a3,n3,k3,l3,rfl,s3,e3,_⟩:=bsc_of_trod Tryz.underlying52 Tryz.underlying33 Tryz.underlying5 (by kernel_rfl) (by kernel_rfl) g2
 obtain ⟨a4,n4,k4,l4,rfl,s4,e4,_⟩:=by_of_trod Tryz.underlying33 Tryz.underlying5 (by kernel_rfl) g3
 obtain ⟨y4,rfl,_⟩:=int_cell Tryz.underlying3 g4
 obtain ⟨y5,rfl,_⟩:=int_cell Tryz.underlying3 g5
 exact ⟨⟨l1,l2,l3,l4,y4,y5⟩,a1,n1,k1,a2,n2,k2,a3,n3,k3,a4,n4,k4,rfl,s1,e1,s2,e2,s3,e3,s4,e4⟩
end Go.Proofs.YtdmifbfgeeldnaaGreat
