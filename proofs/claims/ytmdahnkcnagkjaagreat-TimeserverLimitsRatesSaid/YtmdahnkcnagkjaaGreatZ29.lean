/- Lemmas of this claim, several texts joined. -/
import Derived.Maps.AppendAt
import Derived.Test.YtmdahnkcnagkjaaGreatZ14
import Derived.Test.YtmdahnkcnagkjaaGreatZ25
import Derived.Test.YtmdahnkcnagkjaaGreatZ27
set_option maxRecDepth 100000
open List renaming mem_cons → q3q, not_mem_nil → q4q
set_option maxHeartbeats 8000000
set_option linter.unusedVariables false
set_option linter.unusedSimpArgs false
/- Rows of structs of a number and bytes, of the call's own. -/
namespace Go.Sec
open Go.RowKit
def InT (T:TypeId)(w:World)(base:Nat) (a:Option Addr)(n:Nat):Prop:=n=0∨∀ b o,a=some ⟨b,o,none⟩→b<base∨∃ t vs,Blk w b t vs∧t≠T
section
variable {T:TypeId} {w w':World} {base base' n c:Nat} {a:Option Addr} {l:List UInt8} {L:List (Int × List UInt8)}
theorem InT.ext (h:InT T w base a n) (hx:Ext w w'):InT T w' base a n :=
 h.imp id fun h b o e=>(h b o e).imp id fun ⟨t,vs,hB,ht⟩=>⟨t,vs,hB.extB hx,ht⟩
theorem InT.mono (h:InT T w base a n) (hb:base≤base'):InT T w base' a n :=
 h.imp id fun h b o e=>(h b o e).imp (fun h=>by omega) id
theorem Sl.inT (h:Sl w a n l) (w':World):InT T w' w.heap.size a n:=by
 exact z23q84
theorem Own.inT (h:Own w base a n c l) (hT:5≠T):InT T w base' a n := .inr fun b o e=>by
 rcases h.2.2 with ⟨h1,h2⟩|⟨g',cap,cur,hv,h2,h3,_⟩
 ·injection h1 with h1;subst h1;cases e
 ·injection hv with h1;subst h1;injection e with e;injection e with e _;subst e
  exact .inr ⟨5,cur.toList,(by unfold Blk;simpa using h3),hT⟩
def ua (T:TypeId)(w:World)(base:Nat) (xs:List Value)(L:List (Int × List UInt8)):Prop :=
 xs.length=L.length*2∧∀ k (h:k<L.length),∃ g c,xs[k*2]?=some (.int .i64 (L[k]).1)∧xs[k*2+1]?=some (.slice g (L[k]).2.length c)∧Sl w g (L[k]).2.length (L[k]).2∧(L[k]).2.length≤c∧InT T w base g (L[k]).2.length
def cF (T:TypeId)(w:World)(base:Nat) (a:Option Addr)(n c:Nat) (L:List (Int × List UInt8)):Prop :=
 L.length=n∧∃ xs,w.ownsRow base T 2 (.slice a n c) n xs∧ua T w base xs L
theorem cF.nil (T:TypeId)(w:World)(base:Nat):cF T w base none 0 0 []:=⟨rfl,[],aby _ _ _ _,rfl,fun k hk=>by cases hk⟩
theorem ua.ext {xs:List Value} (h:ua T w base xs L) (hx:Ext w w'):ua T w' base xs L :=
 ⟨h.1,fun k hk=>by
  obtain ⟨g,c,e1,e2,e3,e4,e5⟩:=h.2 k hk
  exact ⟨g,c,e1,e2,e3.ext hx,e4,e5.ext hx⟩⟩
theorem cF.ext (h:cF T w base a n c L) (hx:Ext w w'):cF T w' base a n c L:=by
 obtain ⟨h1,xs,h2,h3⟩:=h
 exact ⟨h1,xs,iL h2 hx,h3.ext hx⟩
theorem cF.upE {x:More} (h:cF T w base a n c L):cF T (w.ext x) base a n c L:=h.ext (Ext.of_ext _ _)
theorem uT (g j:Nat):(⟨g,0,none⟩:Addr).add j=⟨g,j,none⟩:=by unfold Addr.add;split <;> simp_all
theorem cF.ib (h:cF T w base a n c L):Ib w a n L∧n≤c:=by
 obtain ⟨h1,xs,h2,h3,h4⟩:=h
 have hc:=fun g=>h2.cells (g:=g)
 rcases h2.2 with ⟨e1,e2⟩|⟨g,cap,cur,hv,_,hg,hnc,_⟩
 ·injection e1 with e1 e3 e4
  subst e1 e3 e4
  exact ⟨⟨h1, .inl rfl⟩,aag _⟩
 ·injection hv with e1 _ e3
  subst e1 e3
  refine ⟨⟨h1, .inr ⟨g,0,rfl,(Array.getElem?_eq_some_iff.1 hg).1,fun k hk=>?_⟩⟩,hnc⟩
  obtain ⟨ga,cc,k1,k2,k3,k4,_⟩:=h4 k hk
  have d1:=hc g rfl _ _ k1
  have d2:=hc g rfl _ _ k2
  rw [uT] at d1 d2
  exact ⟨ga,cc,by rw [aad];exact d1,by rw [aad];exact d2,k3,k4⟩
theorem cF.blk (h:cF T w base a n c L) {b:Nat} {t:TypeId} {vs:List Value} (hB:Blk w b t vs) (ht:t≠T):(Value.slice a n c).ownBlock≠some b:=by
 obtain ⟨_,xs,h2,_⟩:=h
 exact dL h2 hB ht
theorem cF.new {id:Int} {g:Option Addr} {m cg:Nat} (h:Sl w g m l) (hc:m≤cg) (hb:base≤w.heap.size) (hi:InT T (w.alloc (.cells #[.int .i64 id, .slice g m cg] T)) base g m) :
  cF T (w.alloc (.cells #[.int .i64 id, .slice g m cg] T)) base (some ⟨w.heap.size,0,none⟩) 1 1 [(id,l)]:=by
 have hl:=h.len
 subst hl
 refine ⟨rfl,[.int .i64 id, .slice g l.length cg],⟨rfl, .inr ⟨w.heap.size,1,#[.int .i64 id, .slice g l.length cg],rfl,hb,?_,aag _,by unfold maxLen;omega,rfl,rfl⟩⟩,rfl,fun k hk=>?_⟩
 ·have:=Blk.new w #[.int .i64 id, .slice g l.length cg] T
  exact this
 ·obtain rfl:k=0:=by simp at hk;omega
  exact ⟨g,cg,rfl,rfl,h.ext (Ext.of_alloc _ _),hc,hi⟩
theorem cF.app {a':Option Addr} {c':Nat} (h:cF T w base a n c L) (hg:w.grownBy w' (Value.slice a n c).ownBlock) {xs:List Value} (h0:w.ownsRow base T 2 (.slice a n c) n xs) (hR:ua T w base xs L)
  {id:Int} {g:Option Addr} {m cg:Nat} {l:List UInt8} (hS:Sl w g m l) (hc:m≤cg) (hi:InT T w base g m) (h3:w'.ownsRow base T 2 (.slice a' (n+1) c') (n+1) (xs++[.int .i64 id, .slice g m cg])):cF T w' base a' (n+1) c' (L++[(id,l)]):=by
 have keep:∀ (a1:Option Addr)(n1:Nat) (k:List UInt8),Sl w a1 n1 k→InT T w base a1 n1→Sl w' a1 n1 k∧InT T w' base a1 n1:=by
  exact z23q13
 have hlen:=h.1
 obtain ⟨r1,r2⟩:=hR
 have hml:=hS.len
 refine ⟨by simp [h.1],_,h3,by simp [r1];omega,fun k hk=>?_⟩
 by_cases hkn:k<L.length
 ·obtain ⟨a1,c1,e1,e2,e3,e4,e5⟩:=r2 k hkn
  obtain ⟨e6,e7⟩:=keep _ _ _ e3 e5
  refine ⟨a1,c1,?_,?_,?_⟩
  ·rw [List.getElem?_append_left (by omega),abh hkn];exact e1
  ·rw [List.getElem?_append_left (by omega),abh hkn];exact e2
  ·rw [abh hkn];exact ⟨e6,e4,e7⟩
 ·obtain rfl:k=L.length:=by simp at hk;omega
  obtain ⟨e6,e7⟩:=keep _ _ _ hS hi
  subst hml
  refine ⟨g,cg,?_,?_,?_⟩
  ·rw [List.getElem?_append_right (by omega),r1];simp
  ·rw [List.getElem?_append_right (by omega),r1];simp
  ·simpa using ⟨e6,hc,e7⟩
end
structure SI (P:Program) (sl T:TypeId):Prop where
 sl:P.underlying sl=some (.slice T)
 info:∃ i z,P.info? T=some i∧i.zero=some z∧i.size=2∧i.bytes=32∧z.cells.size=2
theorem qy {P:Program} {sl T:TypeId} (V:SI P sl T) (w:World)(ty:TypeId)(base:Nat) (sa0:Option Addr)(n c0:Nat) (L:List (Int × List UInt8)) (hown:cF T w base sa0 n c0 L)
  (gb:Nat) (id:Int) (g:Option Addr)(m cg:Nat) (l:List UInt8)(hR:Rd w (some ⟨gb,0,none⟩) [.int .i64 id, .slice g m cg]) (hS:Sl w g m l) (hc:m≤cg) (hi:InT T w base g m) (c:Nat) (hlen:n≤1000000) (hbase:base≤w.heap.size) :
  ∃ sa sc w',(Builtin.append_ #[sl,sl] ty #[.slice sa0 n c0, .slice (some ⟨gb,0,none⟩) 1 c]).run P w = .ok (.slice sa (n+1) sc) w'∧cF T w' base sa (n+1) sc (L++[(id,l)])∧w.grownBy w' (Value.slice sa0 n c0).ownBlock∧Below base w w':=by
 obtain ⟨i,z,hi1,hz,hsz,hb,hzs⟩:=V.info
 have hown0:=hown
 obtain ⟨hL,xs,h2,h3⟩:=hown0
 obtain ⟨v',w',e0,e1,e2,_,_⟩:=run_append_own_at (P:=P) w base sl ty T i z 2 32 V.sl hi1 hz hsz hb hzs (by decide) _ n _ h2 ⟨gb,0,none⟩ 1 c [.int .i64 id, .slice g m cg] rfl (fun j u hu=>by
  rcases hR with h|⟨b,o,he,hbl,hcc⟩
  ·cases h
  ·injection he with he;injection he with he1 he2
   have:=hcc j u hu
   rw [uT,he1];rw [← he2,aad] at this;exact this) (fun u hu=>by
  simp only [q3q,q4q,aao] at hu
  rcases hu with rfl|rfl <;> rfl) (by simp only [maxLen];omega) (by omega) hbase
 obtain ⟨sa,sc,rfl⟩:=eV e1
 exact ⟨sa,sc,w',e0,hown.app e2 h2 h3 hS hc hi e1,e2,eG h2 e2 hbase⟩
theorem eA {P:Program} {sl T:TypeId} (V:SI P sl T) {w:World} {ops:Array Oper} {rest:List Oper} {o:Oper} {a:Act} {Q:Exit→Act→World→Prop} (hgd:o.guard=none) (s x:Operand)
  (ho:o.op = .call { callee := .builtin .append,args:=#[s,x],argTypes:=#[sl,sl] })
  (base:Nat) (sa0:Option Addr)(n c0:Nat) (L:List (Int × List UInt8)) (hs:a.eval s = .slice sa0 n c0) (gb c:Nat) (id:Int) (g:Option Addr)(m cg:Nat) (l:List UInt8)(hx:a.eval x = .slice (some ⟨gb,0,none⟩) 1 c)
  (hown:cF T w base sa0 n c0 L) (hR:Rd w (some ⟨gb,0,none⟩) [.int .i64 id, .slice g m cg]) (hS:Sl w g m l) (hc:m≤cg) (hi:InT T w base g m) (hlen:n≤1000000) (hbase:base≤w.heap.size)
  (h:∀ sa sc w',cF T w' base sa (n+1) sc (L++[(id,l)])→w.grownBy w' (Value.slice sa0 n c0).ownBlock→Below base w w'→wpList P ops Q rest (a.put o.dst (.slice sa (n+1) sc)) w') :
  wpList P ops Q (o :: rest) a w:=by
 obtain ⟨sa,sc,w',hrun,h2,h3,h4⟩:=qy V w o.type base sa0 n c0 L hown gb id g m cg l hR hS hc hi c hlen hbase
 refine wpList_plain hgd fun K hK=>?_
 have:=h sa sc w' h2 h3 h4
 unfold Oper.wp execOp
 simp only [ho,resolve,invoke,builtin,aaV,aaW,aaH,abn,aa5,abl,hs,hx,hrun]
 exact hK _ _ this
end Go.Sec
