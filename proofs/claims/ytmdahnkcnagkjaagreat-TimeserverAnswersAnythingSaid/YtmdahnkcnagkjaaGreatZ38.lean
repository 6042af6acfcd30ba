/- Lemmas of this claim, several texts joined. -/
import Derived.Test.YtmdahnkcnagkjaaGreatZ12
import Derived.Test.YtmdahnkcnagkjaaGreatZ26
set_option maxRecDepth 100000
open Go.Value renaming slice -> Zy
set_option maxHeartbeats 8000000
set_option linter.unusedVariables false
set_option linter.unusedSimpArgs false
/- append of bytes that fit into the capacity of a known block; a region of which two operations may come up. -/
namespace Go.Sec
open Go.RowKit
theorem ou {P:Program} (U:U8 P) (w:World)(ty:TypeId)(g n cap:Nat) (l:E7)(hB:Blk w g 5 (l.map u8v)) (hcap:l.length=cap) (A:E8)(m c:Nat) (l':E7)(hS:Sl w A m l') (hroom:n+m<=cap) :
  ∃ w',(Builtin.append_ #[33,33] ty #[Zy (some ⟨g,0,none⟩) n cap, Zy A m c]).run P w = .ok (Zy (some ⟨g,0,none⟩) (n+m) cap) w'/\Blk w' g 5 ((l.take n++l'++l.drop (n+m)).map u8v)/\Mut g w w':=by
 obtain ⟨ht,i,hi,hz,hs,hb⟩:=U;have hl':=hS.len;cases A with
 | none =>
  have hm:m=0:=by
   rcases hS.by' with h|⟨_,_,h,_⟩
   ·have:l'=[]:=by simpa using h
    subst this;exact hl'.symm
   ·cases h
  subst hm;have:l'=[]:=aaq hl';subst this;refine ⟨w,?_,by simpa using hB,Mut.refl _ _⟩;have hroom':n<=cap:=Zo;simp [Builtin.append_,abF ht,sizeOf,typeInfo,hi,Builtin.lenOf,Builtin.firstCells,hroom',storeCells,loadCells,loadCellsFrom]
 | some ad =>
  have hnews:∀ j u,(l'.map u8v)[j]?=some u->w.cell? (ad.add j)=some u:=λ j u hj=>by
   rcases hS.by' with h|⟨b,o,h,_,hc⟩
   ·rw [h] at hj;cases hj
   ·injection h with h;subst h;rw [bX];exact hc j u hj
  have hBa:w.heap[g]?=some (.cells (l.map u8v).toArray 5 (0,0)):=hB;have:=run_append_room (P:=P) w 33 ty 5 i ht hi g n cap (l.map u8v).toArray hBa ad m c (l'.map u8v) (by rw [hs,aaC,hl',abG]) hnews (aH _) hroom (by simp [hs];omega);refine ⟨_,this,?_,pj _ _ _⟩;have hh:=setRow_heap w g (l.map u8v).toArray ((l.map u8v).toArray.toList.take (n*i.size)++l'.map u8v++(l.map u8v).toArray.toList.drop (n*i.size+(l'.map u8v).length)).toArray 5 (0,0) hBa;unfold Blk;rw [hh];simp [hs,hl',List.map_take,List.map_drop]
namespace R5
section
variable {P:Program} {ops:Array Oper} {Q:Exit->Act->World->Prop} {S:World->Prop} {o o2:Oper} {a:Act} {w:World} {fuel:Nat} {listed:Array Bool}
theorem lD (i j:Nat) (hr:Region.ready .any ops listed=[i,j]) (ho:ops[i]?=some o) (hw:Region.wanted o (yielded ops a.tmps)=true) (ho2:ops[j]?=some o2) (hw2:Region.wanted o2 (yielded ops a.tmps)=true)
  (h:gives P o a.eval w (λ v w'=>S w'/\wpAnyH P .any ops Q S fuel (listed.setIfInBounds i true) (a.put o.dst v) w'))
  (h2:gives P o2 a.eval w (λ v w'=>S w'/\wpAnyH P .any ops Q S fuel (listed.setIfInBounds j true) (a.put o2.dst v) w')):wpAnyH P .any ops Q S (fuel+1) listed a w:=by
 refine wpAnyH_all hr Zs ?_;intro k hk;rcases abr.1 hk with rfl|hk
 ·unfold wpOp;simp only [ho,hw,aba];exact .inl (cO h λ v w' h=>h)
 ·obtain rfl:=aau.1 hk;unfold wpOp;simp only [ho2,hw2,aba];exact .inl (cO h2 λ v w' h=>h)
theorem fx (U:U8 P) (s x:Operand) (ho:o.op = .call { callee := .builtin .append,args:=#[s,x],argTypes:=#[33,33] }) (g n cap:Nat) (hs:a.eval s = Zy (some ⟨g,0,none⟩) n cap) (A:E8)(m c:Nat) (hx:a.eval x = Zy A m c)
  (l l':E7)(hB:Blk w g 5 (l.map u8v)) (hcap:l.length=cap) (hS:Sl w A m l') (hroom:n+m<=cap) {R:Value->World->Prop}
  (h:∀ w',Blk w' g 5 ((l.take n++l'++l.drop (n+m)).map u8v)->Mut g w w'->R (Zy (some ⟨g,0,none⟩) (n+m) cap) w'):gives P o a.eval w R:=by
 obtain ⟨w',hrun,h2,h3⟩:=ou U w o.type g n cap l hB hcap A m c l' hS hroom;exact gg ho hs hx hrun (h w' h2 h3)
end
end R5
end Go.Sec
