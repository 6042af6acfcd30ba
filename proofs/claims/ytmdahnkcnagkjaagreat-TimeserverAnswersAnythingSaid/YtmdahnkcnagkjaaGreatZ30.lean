/- Lemmas of this claim, several texts joined. -/
import Derived.Test.YtmdahnkcnagkjaaGreatZ26
import Derived.Test.YtmdahnkcnagkjaaGreatZ28
set_option maxRecDepth 100000
open Go.Value renaming int -> Zz,slice -> Zy
open Go.IntKind renaming i64 -> Zx
open List renaming mem_cons -> q3q, not_mem_nil -> q4q
set_option maxHeartbeats 8000000
set_option linter.unusedVariables false
set_option linter.unusedSimpArgs false
/- Rows of structs of a number and bytes, of the call's own. -/
namespace Go.Sec
open Go.RowKit
def InT (T:TypeId)(w:World)(base:Nat) (a:E8)(n:Nat):Prop:=n=0\/∀ b o,a=some ⟨b,o,none⟩->b<base\/∃ t vs,Blk w b t vs/\t≠T
section
variable {T:TypeId} {w w':World} {base base' n c:Nat} {a:E8} {l:E7} {L:List (Int × E7)}
theorem InT.ext (h:InT T w base a n) (hx:Ext w w'):InT T w' base a n :=
 h.imp id λ h b o e=>(h b o e).imp id λ ⟨t,vs,hB,ht⟩=>⟨t,vs,hB.extB hx,ht⟩
theorem InT.mono (h:InT T w base a n) (hb:base<=base'):InT T w base' a n :=
 h.imp id λ h b o e=>(h b o e).imp (λ h=>Zo) id
theorem Sl.inT (h:Sl w a n l) (w':World):InT T w' w.heap.size a n:=by
 exact z24q83
theorem Own.inT (h:Own w base a n c l) (hT:5≠T):InT T w base' a n := .inr λ b o e=>by
 rcases h.2.2 with ⟨h1,h2⟩|⟨g',cap,cur,hv,h2,h3,_⟩
 ·injection h1 with h1;subst h1;cases e
 ·injection hv with h1;subst h1;injection e with e;injection e with e _;subst e
  exact .inr ⟨5,cur.toList,(by unfold Blk;simpa using h3),hT⟩
def uM (T:TypeId)(w:World)(base:Nat) (xs:List Value)(L:List (Int × E7)):Prop :=
 xs.length=L.length*2/\∀ k (h:k<L.length),∃ g c,xs[k*2]?=some (Zz Zx (L[k]).1)/\xs[k*2+1]?=some (Zy g (L[k]).2.length c)/\Sl w g (L[k]).2.length (L[k]).2/\(L[k]).2.length<=c/\InT T w base g (L[k]).2.length
def cf (T:TypeId)(w:World)(base:Nat) (a:E8)(n c:Nat) (L:List (Int × E7)):Prop :=
 L.length=n/\∃ xs,w.ownsRow base T 2 (Zy a n c) n xs/\uM T w base xs L
theorem cf.nil (T:TypeId)(w:World)(base:Nat):cf T w base none 0 0 []:=⟨rfl,[],abA _ _ _ _,rfl,λ k hk=>by cases hk⟩
theorem uM.ext {xs:List Value} (h:uM T w base xs L) (hx:Ext w w'):uM T w' base xs L :=
 ⟨h.1,λ k hk=>by
  obtain ⟨g,c,e1,e2,e3,e4,e5⟩:=h.2 k hk;exact ⟨g,c,e1,e2,e3.ext hx,e4,e5.ext hx⟩⟩
theorem cf.ext (h:cf T w base a n c L) (hx:Ext w w'):cf T w' base a n c L:=by
 obtain ⟨h1,xs,h2,h3⟩:=h;exact ⟨h1,xs,jl h2 hx,h3.ext hx⟩
theorem cf.upE {x:More} (h:cf T w base a n c L):cf T (w.ext x) base a n c L:=h.ext (FE _ _)
theorem vZ (g j:Nat):(⟨g,0,none⟩:Addr).add j=⟨g,j,none⟩:=by unfold Addr.add;split <;> simp_all
theorem cf.ib (h:cf T w base a n c L):Ib w a n L/\n<=c:=by
 obtain ⟨h1,xs,h2,h3,h4⟩:=h;have hc:=λ g=>h2.cells (g:=g);rcases h2.2 with ⟨e1,e2⟩|⟨g,cap,cur,hv,_,hg,hnc,_⟩
 ·injection e1 with e1 e3 e4
  subst e1 e3 e4;exact ⟨⟨h1, .inl rfl⟩,aad _⟩
 ·injection hv with e1 _ e3
  subst e1 e3;refine ⟨⟨h1, .inr ⟨g,0,rfl,(Array.getElem?_eq_some_iff.1 hg).1,λ k hk=>?_⟩⟩,hnc⟩;obtain ⟨ga,cc,k1,k2,k3,k4,_⟩:=h4 k hk;have d1:=hc g rfl _ _ k1;have d2:=hc g rfl _ _ k2;rw [vZ] at d1 d2;exact ⟨ga,cc,by rw [aaA];exact d1,by rw [aaA];exact d2,k3,k4⟩
theorem cf.blk (h:cf T w base a n c L) {b:Nat} {t:TypeId} {vs:List Value} (hB:Blk w b t vs) (ht:t≠T):(Value.slice a n c).ownBlock≠some b:=by
 obtain ⟨_,xs,h2,_⟩:=h;exact ed h2 hB ht
theorem cf.new {id:Int} {g:E8} {m cg:Nat} (h:Sl w g m l) (hc:m<=cg) (hb:base<=w.heap.size) (hi:InT T (w.alloc (.cells #[Zz Zx id, Zy g m cg] T)) base g m) :
  cf T (w.alloc (.cells #[Zz Zx id, Zy g m cg] T)) base (some ⟨w.heap.size,0,none⟩) 1 1 [(id,l)]:=by
 have hl:=h.len;subst hl;refine ⟨rfl,[Zz Zx id, Zy g l.length cg],⟨rfl, .inr ⟨w.heap.size,1,#[Zz Zx id, Zy g l.length cg],rfl,hb,?_,aad _,by unfold maxLen;omega,rfl,rfl⟩⟩,rfl,λ k hk=>?_⟩
 ·have:=Blk.new w #[Zz Zx id, Zy g l.length cg] T;exact this
 ·obtain rfl:k=0:=by simp at hk;omega
  exact ⟨g,cg,rfl,rfl,h.ext (FA _ _),hc,hi⟩
theorem cf.app {a':E8} {c':Nat} (h:cf T w base a n c L) (hg:w.grownBy w' (Value.slice a n c).ownBlock) {xs:List Value} (h0:w.ownsRow base T 2 (Zy a n c) n xs) (hR:uM T w base xs L)
  {id:Int} {g:E8} {m cg:Nat} {l:E7} (hS:Sl w g m l) (hc:m<=cg) (hi:InT T w base g m) (h3:w'.ownsRow base T 2 (Zy a' (n+1) c') (n+1) (xs++[Zz Zx id, Zy g m cg])):cf T w' base a' (n+1) c' (L++[(id,l)]):=by
 have keep:∀ (a1:E8)(n1:Nat) (k:E7),Sl w a1 n1 k->InT T w base a1 n1->Sl w' a1 n1 k/\InT T w' base a1 n1:=by
  exact z24q12
 have hlen:=h.1;obtain ⟨r1,r2⟩:=hR;have hml:=hS.len;refine ⟨by simp [h.1],_,h3,by simp [r1];omega,λ k hk=>?_⟩;by_cases hkn:k<L.length
 ·obtain ⟨a1,c1,e1,e2,e3,e4,e5⟩:=r2 k hkn;obtain ⟨e6,e7⟩:=keep _ _ _ e3 e5;refine ⟨a1,c1,?_,?_,?_⟩
  ·rw [List.getElem?_append_left Zo,abf hkn];exact e1
  ·rw [List.getElem?_append_left Zo,abf hkn];exact e2
  ·rw [abf hkn];exact ⟨e6,e4,e7⟩
 ·obtain rfl:k=L.length:=by simp at hk;omega
  obtain ⟨e6,e7⟩:=keep _ _ _ hS hi;subst hml;refine ⟨g,cg,?_,?_,?_⟩
  ·rw [List.getElem?_append_right Zo,r1];simp
  ·rw [List.getElem?_append_right Zo,r1];simp
  ·simpa using ⟨e6,hc,e7⟩
end
structure SI (P:Program) (sl T:TypeId):Prop where
 sl:P.underlying sl=some (.slice T)
 info:∃ i z,P.info? T=some i/\i.zero=some z/\i.size=2/\i.bytes=32/\z.cells.size=2
theorem rJ {P:Program} {sl T:TypeId} (V:SI P sl T) (w:World)(ty:TypeId)(base:Nat) (sa0:E8)(n c0:Nat) (L:List (Int × E7)) (hown:cf T w base sa0 n c0 L)
  (gb:Nat) (id:Int) (g:E8)(m cg:Nat) (l:E7)(hR:Rd w (some ⟨gb,0,none⟩) [Zz Zx id, Zy g m cg]) (hS:Sl w g m l) (hc:m<=cg) (hi:InT T w base g m) (c:Nat) (hlen:n<=1000000) (hbase:base<=w.heap.size) :
  ∃ sa sc w',(Builtin.append_ #[sl,sl] ty #[Zy sa0 n c0, Zy (some ⟨gb,0,none⟩) 1 c]).run P w = .ok (Zy sa (n+1) sc) w'/\cf T w' base sa (n+1) sc (L++[(id,l)])/\w.grownBy w' (Value.slice sa0 n c0).ownBlock/\Below base w w':=by
 obtain ⟨i,z,hi1,hz,hsz,hb,hzs⟩:=V.info;have hown0:=hown;obtain ⟨hL,xs,h2,h3⟩:=hown0;obtain ⟨v',w',e0,e1,e2,_,_⟩:=run_append_own_at (P:=P) w base sl ty T i z 2 32 V.sl hi1 hz hsz hb hzs Zd _ n _ h2 ⟨gb,0,none⟩ 1 c [Zz Zx id, Zy g m cg] rfl (λ j u hu=>by
  rcases hR with h|⟨b,o,he,hbl,hcc⟩
  ·cases h
  ·injection he with he;injection he with he1 he2
   have:=hcc j u hu;rw [vZ,he1];rw [<- he2,aaA] at this;exact this) (λ u hu=>by
  simp only [q3q,q4q,abt] at hu;rcases hu with rfl|rfl <;> rfl) (by simp only [maxLen];omega) Zo hbase
 obtain ⟨sa,sc,rfl⟩:=eR e1;exact ⟨sa,sc,w',e0,hown.app e2 h2 h3 hS hc hi e1,e2,eP h2 e2 hbase⟩
theorem db {P:Program} {sl T:TypeId} (V:SI P sl T) {w:World} {ops:Array Oper} {rest:List Oper} {o:Oper} {a:Act} {Q:Exit->Act->World->Prop} (hgd:o.guard=none) (s x:Operand)
  (ho:o.op = .call { callee := .builtin .append,args:=#[s,x],argTypes:=#[sl,sl] })
  (base:Nat) (sa0:E8)(n c0:Nat) (L:List (Int × E7)) (hs:a.eval s = Zy sa0 n c0) (gb c:Nat) (id:Int) (g:E8)(m cg:Nat) (l:E7)(hx:a.eval x = Zy (some ⟨gb,0,none⟩) 1 c)
  (hown:cf T w base sa0 n c0 L) (hR:Rd w (some ⟨gb,0,none⟩) [Zz Zx id, Zy g m cg]) (hS:Sl w g m l) (hc:m<=cg) (hi:InT T w base g m) (hlen:n<=1000000) (hbase:base<=w.heap.size)
  (h:∀ sa sc w',cf T w' base sa (n+1) sc (L++[(id,l)])->w.grownBy w' (Value.slice sa0 n c0).ownBlock->Below base w w'->wpList P ops Q rest (a.put o.dst (.slice sa (n+1) sc)) w') :
  wpList P ops Q (o :: rest) a w:=by
 obtain ⟨sa,sc,w',hrun,h2,h3,h4⟩:=rJ V w o.type base sa0 n c0 L hown gb id g m cg l hR hS hc hi c hlen hbase;refine wpList_plain hgd λ K hK=>?_;have:=h sa sc w' h2 h3 h4;unfold Oper.wp execOp;simp only [ho,resolve,invoke,builtin,aaW,aaX,aaE,abl,aa3,abj,hs,hx,hrun];exact hK _ _ this
end Go.Sec
