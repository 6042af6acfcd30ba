/- Lemmas of this claim, several texts joined. -/
import Derived.Test.YtmdahnkcnagkjaaGreatZ12
import Derived.Test.YtmdahnkcnagkjaaGreatZ14
import Derived.Test.YtmdahnkcnagkjaaGreatZ25
set_option maxRecDepth 100000
set_option maxHeartbeats 8000000
set_option linter.unusedVariables false
set_option linter.unusedSimpArgs false
/- append of bytes that fit into the capacity of a known block; a region of which two operations may come up. -/
namespace Go.Sec
open Go.RowKit
theorem ow {P:Program} (U:U8 P) (w:World)(ty:TypeId)(g n cap:Nat) (l:List UInt8)(hB:Blk w g 5 (l.map u8v)) (hcap:l.length=cap) (A:Option Addr)(m c:Nat) (l':List UInt8)(hS:Sl w A m l') (hroom:n+m≤cap) :
  ∃ w',(Builtin.append_ #[33,33] ty #[.slice (some ⟨g,0,none⟩) n cap, .slice A m c]).run P w = .ok (.slice (some ⟨g,0,none⟩) (n+m) cap) w'∧Blk w' g 5 ((l.take n++l'++l.drop (n+m)).map u8v)∧Mut g w w':=by
 obtain ⟨ht,i,hi,hz,hs,hb⟩:=U
 have hl':=hS.len
 cases A with
 | none =>
  have hm:m=0:=by
   rcases hS.by' with h|⟨_,_,h,_⟩
   ·have:l'=[]:=by simpa using h
    subst this;exact hl'.symm
   ·cases h
  subst hm
  have:l'=[]:=aav hl'
  subst this
  refine ⟨w,?_,by simpa using hB,Mut.refl _ _⟩
  have hroom':n≤cap:=by omega
  simp [Builtin.append_,abD ht,sizeOf,typeInfo,hi,Builtin.lenOf,Builtin.firstCells,hroom',storeCells,loadCells,loadCellsFrom]
 | some ad =>
  have hnews:∀ j u,(l'.map u8v)[j]?=some u→w.cell? (ad.add j)=some u:=fun j u hj=>by
   rcases hS.by' with h|⟨b,o,h,_,hc⟩
   ·rw [h] at hj;cases hj
   ·injection h with h;subst h;rw [bW];exact hc j u hj
  have hBa:w.heap[g]?=some (.cells (l.map u8v).toArray 5 (0,0)):=hB
  have:=run_append_room (P:=P) w 33 ty 5 i ht hi g n cap (l.map u8v).toArray hBa ad m c (l'.map u8v) (by rw [hs,aaI,hl',abE]) hnews (aK _) hroom (by simp [hs];omega)
  refine ⟨_,this,?_,oH _ _ _⟩
  have hh:=setRow_heap w g (l.map u8v).toArray ((l.map u8v).toArray.toList.take (n*i.size)++l'.map u8v++(l.map u8v).toArray.toList.drop (n*i.size+(l'.map u8v).length)).toArray 5 (0,0) hBa
  unfold Blk
  rw [hh]
  simp [hs,hl',List.map_take,List.map_drop]
namespace R5
section
variable {P:Program} {ops:Array Oper} {Q:Exit→Act→World→Prop} {S:World→Prop} {o o2:Oper} {a:Act} {w:World} {fuel:Nat} {listed:Array Bool}
theorem fs (U:U8 P) (s x:Operand) (ho:o.op = .call { callee := .builtin .append,args:=#[s,x],argTypes:=#[33,33] }) (g n cap:Nat) (hs:a.eval s = .slice (some ⟨g,0,none⟩) n cap) (A:Option Addr)(m c:Nat) (hx:a.eval x = .slice A m c)
  (l l':List UInt8)(hB:Blk w g 5 (l.map u8v)) (hcap:l.length=cap) (hS:Sl w A m l') (hroom:n+m≤cap) {R:Value→World→Prop}
  (h:∀ w',Blk w' g 5 ((l.take n++l'++l.drop (n+m)).map u8v)→Mut g w w'→R (.slice (some ⟨g,0,none⟩) (n+m) cap) w'):gives P o a.eval w R:=by
 obtain ⟨w',hrun,h2,h3⟩:=ow U w o.type g n cap l hB hcap A m c l' hS hroom
 exact fL ho hs hx hrun (h w' h2 h3)
end
end R5
end Go.Sec
