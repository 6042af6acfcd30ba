/- Lemmas of this claim, several texts joined. -/
import Derived.Test.YtdmifbfgeeldnaaGreatRows
import Derived.Deep.Fields
import Derived.Deep.SlicePairs
import Derived.Test.YtdmifbfgeeldnaaGreatZ6
import Derived.Test.YtdmifbfgeeldnaaGreatZ43
set_option maxRecDepth 100000
open List renaming take_succ_cons → q8q, take_zero → q9q
set_option linter.unusedVariables false
set_option linter.unusedSimpArgs false
/- What arguments of a law read as: rings, pairs of keys, lists of a number and bytes. -/
namespace Go.Sec
open Go.RowKit Go.ChangeShapes Go.WideShapes Go.Deep
theorem list6 {α:Type} {l:List α} (h:l.length=6):∃ a b c d e f,l=[a,b,c,d,e,f]:=by
 match l,h with
 | [a,b,c,d,e,f],_=>exact ⟨a,b,c,d,e,f,rfl⟩
theorem list2 {α:Type} {l:List α} (h:l.length=2):∃ a b,l=[a,b]:=by
 match l,h with
 | [a,b],_=>exact ⟨a,b,rfl⟩
theorem list1 {α:Type} {l:List α} (h:l.length=1):∃ a,l=[a]:=by
 match l,h with
 | [a],_=>exact ⟨a,rfl⟩
section
variable {H:Type} {enc:TypeId × Value→H} {P:Program} {w:World} {base:Nat} {held:Bool}
theorem one_cells {sp:Nat→Bool} {t:TypeId} {fs:Array Field} (hs:P.underlying t=some (.struct fs)) (hone:oneCellFields P fs=true) {n:Nat} {cs:List Value} {y:DataW H × List MemPlace} (h:DataW.trod enc P w base sp held n t cs=some y) :
  cs.length=P.cellsOf t∧∀ (i:Nat) (f:Field) (v:Value),fs[i]?=some f→cs[i]?=some v→∃ m y,DataW.trod enc P w base sp held m f.type [v]=some y:=by
 obtain ⟨xs,m,_,_,hl,hlen,hf⟩:=DataW.trod_struct hs h
 refine ⟨hl,fun i f v hi hv=>?_⟩
 obtain ⟨o0,k0⟩:=hone_of hone i f hi
 have h1:=hf i f hi
 have hlt:i<xs.length:=by rw [hlen];exact (Array.getElem?_eq_some_iff.1 hi).1
 rw [o0,k0,List.getElem?_eq_getElem hlt] at h1
 have hd:(cs.drop i).take 1=[v]:=by
  obtain ⟨hi',rfl⟩:=List.getElem?_eq_some_iff.1 hv
  rw [List.drop_eq_getElem_cons hi',q8q,q9q]
 rw [hd] at h1
 exact ⟨m,_,h1⟩
theorem int_cell {sp:Nat→Bool} {t:TypeId} {k:IntKind} (ht:P.underlying t=some (.int k)) {n:Nat} {v:Value} {y:DataW H × List MemPlace} (h:DataW.trod enc P w base sp held n t [v]=some y):∃ x,v = .int k x∧(Lit.int k x).wf=true:=by
 obtain ⟨x,e,_,hw⟩:=DataW.trod_int ht h
 injection e with e _
 exact ⟨x,e,hw⟩
theorem bool_cell {sp:Nat→Bool} {t:TypeId} (ht:P.underlying t=some .bool) {n:Nat} {v:Value} {y:DataW H × List MemPlace} (h:DataW.trod enc P w base sp held n t [v]=some y):∃ x,v = .bool x:=by
 obtain ⟨x,e,_⟩:=DataW.trod_bool ht h
 injection e with e _
 exact ⟨x,e⟩
theorem ib_of_trod {t e ti tb tu:TypeId} {f0 f1:Field} (ht:P.underlying t=some (.slice e)) (he:P.underlying e=some (.struct #[f0,f1])) (ce:P.cellsOf e=2) (o0:f0.offset=0) (o1:f1.offset=1) (c0:P.cellsOf f0.type=1) (c1:P.cellsOf f1.type=1)
  (hti:P.underlying f0.type=some (.int .i64)) (htb:P.underlying 33=some (.slice 5)) (hf1:f1.type=33) (htu:P.underlying 5=some (.int .u8)) (cu:P.cellsOf 5=1)
  {n:Nat} {v:Value} {y:DataW H × List MemPlace} (h:DataW.trod enc P w base (fun _=>true) held n t [v]=some y):∃ a len cap L,v = .slice a len cap∧Ib w a len L∧len≤cap∧cap≤maxLen∧∀ x∈L,(Lit.int .i64 x.1).wf=true:=by
 rcases open_slice_pairs ht he ce o0 o1 c0 c1 h with ⟨hcs,_⟩|⟨a,len,cap,m,n,V0,V1,D0,D1,P0,P1,hcs,_,hl,hm,hmm,_,hall⟩
 ·injection hcs with e _
  exact ⟨none,0,0,[],e,Ib.nil _ _,Nat.le_refl _,Nat.zero_le _,by simp⟩
 ·injection hcs with e _
  have hlm:len≤m:=by rw [hmm];split <;> omega
  have each:∀ i,i<len→∃ q:(Int × List UInt8) × (Option Addr × Nat),V0 i = .int .i64 q.1.1∧V1 i = .slice q.2.1 q.1.2.length q.2.2∧Sl w q.2.1 q.1.2.length q.1.2∧q.1.2.length≤q.2.2∧(Lit.int .i64 q.1.1).wf=true:=by
   intro i hi
   obtain ⟨_,_,h0,h1⟩:=hall i (by omega)
   obtain ⟨x,e0,wx⟩:=int_cell hti h0
   rw [hf1] at h1
   obtain ⟨g,k,c,l,e1,s1,le1,_⟩:=by_of_trod htb htu cu h1
   have hk:=s1.len
   subst hk
   exact ⟨((x,l),(g,c)),e0,e1,s1,le1,wx⟩
  obtain ⟨q,hq⟩:=choose_lt each
  have hL:((List.range len).map fun i=>(q i).1).length=len:=by simp
  refine ⟨some a,len,cap,(List.range len).map fun i=>(q i).1,e,⟨hL,?_⟩,hl,hm,?_⟩
  ·by_cases h0:len=0
   ·exact .inl h0
   ·right
    obtain ⟨c0,_⟩:=hall 0 (by omega)
    have ha:a=⟨a.block,a.off,none⟩:=addr_plain a w _ (by simpa [Addr.add] using c0)
    have hadd:∀ j,a.add j=⟨a.block,a.off+j,none⟩:=by
     intro j
     by_cases h0:j=0
     ·subst h0;simp [Addr.add];exact ha
     ·simp [Addr.add,h0]
    refine ⟨a.block,a.off,by rw [← ha],World.block_lt_of_cell? w a (by simpa [Addr.add] using c0),fun k hk=>?_⟩
    rw [hL] at hk
    obtain ⟨d0,d1,_,_⟩:=hall k (by omega)
    obtain ⟨e0,e1,s1,le1,_⟩:=hq k hk
    rw [hadd] at d0 d1
    rw [e0] at d0
    rw [e1] at d1
    simp only [List.getElem_map,List.getElem_range]
    exact ⟨_,_,d0,by rw [Nat.add_assoc];exact d1,s1,le1⟩
  ·intro x hx
   obtain ⟨i,hi,rfl⟩:=List.mem_map.1 hx
   exact (hq i (List.mem_range.1 hi)).2.2.2.2
end
end Go.Sec
namespace Go.Sec
def RgR (w:World)(v:Value)(r:List (Int × List UInt8)):Prop:=∃ a n c,v = .agg #[.slice a n c]∧Ib w a n r∧n≤c
def PrR (w:World)(v:Value)(p:List UInt8 × List UInt8):Prop:=∃ a n c b m d,v = .agg #[.slice a n c, .slice b m d]∧Sl w a n p.1∧n≤c∧Sl w b m p.2∧m≤d
end Go.Sec
namespace Go.Proofs.YtdmifbfgeeldnaaGreat
open Go.RowKit Go.ChangeShapes Go.WideShapes Go.Deep Go.Sec
variable {H:Type} {enc:TypeId × Value→H} {w:World} {b0:Nat} {v:Value} {d:DataW H} {p:List MemPlace}
theorem cU8:Tryz.prog.cellsOf 5=1:=by kernel_rfl
theorem notes_of (hv:Value.okWide Tryz.prog w .any b0 22 v) (h:DataW.Trod enc Tryz.prog w 0 (fun _=>true) true 22 v d p) :
  ∃ a n c L,v = .slice a n c∧Ib w a n L∧n≤c∧c≤maxLen∧∀ x∈L,(Lit.int .i64 x.1).wf=true:=by
 obtain ⟨a,n,c,rfl⟩:=okWide_slice Tryz.underlying22 hv
 obtain ⟨m,hm⟩:=h
 exact ib_of_trod (f0:=_) (f1:=_) (tu:=0) (ti:=0) (tb:=0) Tryz.underlying22 Tryz.underlying73 (by kernel_rfl) rfl rfl (by kernel_rfl) (by kernel_rfl) Tryz.underlying3 Tryz.underlying33 rfl Tryz.underlying5 cU8 hm
theorem pair_of (hv:Value.okWide Tryz.prog w .any b0 51 v) (h:DataW.Trod enc Tryz.prog w 0 (fun _=>true) true 51 v d p):∃ q,PrR w v q:=by
 obtain ⟨cs,rfl,hsz⟩:=okWide_struct Tryz.underlying51 hv
 obtain ⟨n,hm⟩:=h
 obtain ⟨l⟩:=cs
 have hl2:l.length=2:=by simpa using hsz.trans (show Tryz.prog.cellsOf 51=2 by kernel_rfl)
 obtain ⟨c0,c1,rfl⟩:=list2 hl2
 obtain ⟨_,hf⟩:=one_cells Tryz.underlying51 (by kernel_rfl) hm
 obtain ⟨_,_,g0⟩:=hf 0 _ c0 rfl rfl
 obtain ⟨_,_,g1⟩:=hf 1 _ c1 rfl rfl
 obtain ⟨a1,n1,k1,l1,rfl,s1,q1,_⟩:=by_of_trod Tryz.underlying33 Tryz.underlying5 cU8 g0
 obtain ⟨a2,n2,k2,l2,rfl,s2,q2,_⟩:=by_of_trod Tryz.underlying33 Tryz.underlying5 cU8 g1
 exact ⟨(l1,l2),_,_,_,_,_,_,rfl,s1,q1,s2,q2⟩
end Go.Proofs.YtdmifbfgeeldnaaGreat
