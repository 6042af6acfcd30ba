/- Lemmas of this claim, several texts joined. -/
import Derived.ArgAppend
import Derived.Test.YtmdahnkcnagkjaaGreatZ15
import Derived.Test.YtmdahnkcnagkjaaGreatZ24
set_option maxRecDepth 100000
open Go.Value renaming slice -> Zy
open List renaming nil_append -> q5q
set_option maxHeartbeats 8000000
set_option linter.unusedVariables false
set_option linter.unusedSimpArgs false
/- append of slices of bytes in a chain of operations of a region that draws its order. -/
namespace Go.Sec.R5
open Go.RowKit
section
variable {P:Program} {ops:Array Oper} {Q:Exit->Act->World->Prop} {W:World} {S:World->Prop} {D:List Nat} {o:Oper} {l:List Oper} {t:Nat} {a:Act} {w:World}
theorem jw (hSE:∀ w',Ext W w'->S w') (V:S8 P) (hD:D.contains t=false) (hgd:o.guard=none) (s x:Operand)
  (ho:o.op = .call { callee := .builtin .append,args:=#[s,x],argTypes:=#[37,37] })
  (base:Nat) (sa0:E8)(n c0:Nat) (K:List E7) (hs:a.eval s = Zy sa0 n c0) (A:E8)(m c:Nat) (M:List E7) (hx:a.eval x = Zy A m c)
  (hown:bU w base sa0 n c0 K) (hR:RdB w base A m M) (hlen:n+m<=1000000) (hbase:base<=w.heap.size) (hWb:W.heap.size<=base) (hE:Ext W w)
  (h:∀ sa sc w',bU w' base sa (n+m) sc (K++M)->w.grownBy w' (Value.slice sa0 n c0).ownBlock->Below base w w'->Ext W w'->bC P ops Q S D l (t+1) (a.put o.dst (.slice sa (n+m) sc)) w') :
  bC P ops Q S D (o :: l) t a w:=by
 obtain ⟨sa,sc,w',hrun,h2,h3,h4⟩:=kD V w o.type base sa0 n c0 K hown A m c M hR hlen hbase;refine cT hD (by simp [Region.wanted,hgd]) ?_;unfold gives execOp;simp only [ho,resolve,invoke,builtin,aaW,aaX,aaE,abl,aa3,abj,hs,hx,hrun];exact ⟨hSE _ (E9 hE (h4.mono hWb)),h sa sc w' h2 h3 h4 (E9 hE (h4.mono hWb))⟩
theorem yH {f:FuncId} {args:Array Value} {n base:Nat} {L:List (E7)} (h:Calls P f args w λ e w'=>∃ a c,e = .returned (Zy a n c)/\bU w' base a n c L/\Ext w w') :
  Calls P f args w λ e w'=>∃ v,e = .returned v/\∃ p:Par,v = .slice (p 0).1 n (p 0).2/\Ext w w'/\bU w' base (p 0).1 n (p 0).2 L :=
 h.mono λ _ _ ⟨a,c,he,hO,hx⟩=>⟨_,he,λ _=>(a,c),rfl,hx,hO⟩
theorem gg {ρ:Operand->Value} {s x:Operand} {ty:TypeId} (ho:o.op = .call { callee := .builtin .append,args:=#[s,x],argTypes:=#[ty,ty] }) {v1 v2 v:Value} (h1:ρ s=v1) (h2:ρ x=v2) {w':World}
  (hrun:(Builtin.append_ #[ty,ty] o.type #[v1,v2]).run P w = .ok v w') {K:Value->World->Prop} (hS:K v w'):gives P o ρ w K:=by
 unfold gives execOp;simp only [ho,resolve,invoke,builtin,aaW,aaX,aaE,abl,aa3,abj,h1,h2,hrun];exact hS
theorem nG (V:S8 P) (w:World)(ty:TypeId)(base g:Nat) (hown:bU w base (some ⟨g,0,none⟩) 0 0 []) (A:E8)(m c:Nat) (M:List E7) (hR:RdB w base A m M) (hlen:m<=1000000) (hbase:base<=w.heap.size) :
  ∃ sa sc w',(Builtin.append_ #[37,37] ty #[Zy (some ⟨g,0,none⟩) 0 0, Zy A m c]).run P w = .ok (Zy sa m sc) w'/\bU w' base sa m sc M/\Ext w w':=by
 obtain ⟨i,hi,hz,hsz,hb⟩:=V.info;obtain ⟨hM,ys,g2,g3,g4⟩:=hR;have h1:∀ u∈ys,u.oneCell'=true:=λ u hu=>by
  exact z24q49
 rcases g3 with h0|⟨b,off,rfl,hbl,hc⟩
 ·subst h0;obtain rfl:m=0:=by simpa using g2.symm
  obtain rfl:M=[]:=aaq hM;refine ⟨_,_,w,?_,hown,FD _⟩;have hf:(Builtin.firstCells 1 0 (Zy A 0 c)).run P w = .ok #[] w:=by
   exact z4q99
  simp [Builtin.append_,abF V.sl,sizeOf,typeInfo,hi,hsz,Builtin.lenOf,hf,storeCells]
 ·by_cases h0:m=0
  ·subst h0;obtain rfl:M=[]:=aaq hM;refine ⟨_,_,w,?_,hown,FD _⟩;have hf:(Builtin.firstCells 1 0 (Zy (some ⟨b,off,none⟩) 0 c)).run P w = .ok #[] w:=by
    simp [Builtin.firstCells,loadCells,loadCellsFrom]
   simp [Builtin.append_,abF V.sl,sizeOf,typeInfo,hi,hsz,Builtin.lenOf,hf,storeCells]
  ·obtain ⟨v',w',e0,e1,e2⟩:=run_append_arg_grows (P:=P) (w:=w) _ ty 33 i _ 1 24 V.sl hi hz hsz hb rfl Zd ⟨g,0,none⟩ 0 0 [] rfl (λ j u h=>by simp at h) ⟨b,off,none⟩ m c ys Zo (λ j u hu=>by rw [bX];exact hc j u hu) Zo (by simp only [maxLen];omega) Zo;obtain ⟨sa,sc,rfl⟩:=eR e1;have hx:Ext w w':=⟨e2.os,e2.tape,e2.output,e2.size,λ k hk=>e2.block k hk Zs⟩;simp only [aaA,q5q] at e0 e1;refine ⟨sa,sc,w',e0,⟨hM,ys,oI e1 hbase,g2,λ k hk=>?_⟩,hx⟩;obtain ⟨a',n',c',f1,f2,f3,f4⟩:=g4 k hk;exact ⟨a',n',c',f1,f2,f3.ext hx,f4.ext hx⟩
end
end Go.Sec.R5

/- A region that draws its order, of which two operations may come up now. -/
namespace Go.Sec.R5
open Go.RowKit
section
variable {P:Program} {ops:Array Oper} {Q:Exit->Act->World->Prop} {S:World->Prop} {o:Oper} {a:Act} {w:World} {fuel:Nat} {listed:Array Bool}
end
end Go.Sec.R5
