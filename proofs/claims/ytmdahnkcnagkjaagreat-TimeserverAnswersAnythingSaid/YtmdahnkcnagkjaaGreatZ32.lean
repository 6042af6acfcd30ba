/- Lemmas of this claim, several texts joined. -/
import Derived.Test.YtmdahnkcnagkjaaGreatZ20
import Derived.Test.YtmdahnkcnagkjaaGreatZ30
set_option maxRecDepth 100000
open Go.Value renaming int -> Zz,slice -> Zy
open Go.IntKind renaming i64 -> Zx,u8 -> Zu
open List renaming setIfInBounds_toArray -> q0q, set_cons_succ -> q1q, set_cons_zero -> q2q, mem_cons -> q3q, not_mem_nil -> q4q, take_succ_cons -> q8q, take_zero -> q9q, drop_succ_cons -> q10q, drop_zero -> q11q, take_nil -> q12q, drop_nil -> q13q
open Go.IntWalk renaming wrap64_in -> q19q
set_option maxHeartbeats 8000000
set_option linter.unusedVariables false
set_option linter.unusedSimpArgs false
/- Rows of structs of a number and bytes stay where another block turns. -/
namespace Go.Sec
open Go.RowKit
theorem _root_.z32q42{p:Prop}(h:p:=by
 rcases h2.2 with h|⟨g',cap,cur,hv,hb,hh,r⟩
 ·exact .inl h
 ·refine .inr ⟨g',cap,cur,hv,hb,?_,r⟩;rw [hM.block g' (Array.getElem?_eq_some_iff.1 hh).1 (λ e=>hno (by rw [hv];exact e))];exact hh):p:=h
theorem _root_.z32q76{p:Prop}(h:p:=by
 refine .inr ⟨t',vs',Blk.turn hM hB' ?_,ht'⟩;subst e;exact uH e3 Zo hB hne):p:=h
theorem cf.mut {T t:TypeId} {w w':World} {base n c g:Nat} {a:E8} {L:List (Int × E7)} {vs:List Value} (h:cf T w base a n c L) (hB:Blk w g t vs) (ht:t≠T) (hne:∀ v∈vs,∀ x,v ≠ Zz Zu x) (hM:Mut g w w'):cf T w' base a n c L:=by
 have hown:=h.blk hB ht;obtain ⟨h1,xs,h2,h3,h4⟩:=h;have hno:(Value.slice a n c).ownBlock≠some g:=hown;refine ⟨h1,xs,⟨h2.1,?_⟩,h3,λ k hk=>?_⟩
 ·exact z32q42
 ·obtain ⟨g',c',e1,e2,e3,e4,e5⟩:=h4 k hk;refine ⟨g',c',e1,e2,e3.mut hB hne hM,e4,?_⟩;by_cases h0:(L[k]).2.length=0
  ·exact .inl h0
  ·rcases e5 with e5|e5
   ·exact absurd e5 h0
   ·refine .inr λ b o e=>?_;rcases e5 b o e with h|⟨t',vs',hB',ht'⟩
    ·exact .inl h
    ·exact z32q76
end Go.Sec

/- As XReg4, with appends onto rows of the call's own: each row's block is written by one operation alone. -/
namespace Go.Sec.R4
open Go.RowKit Go.Sec
section
variable {S:Nat->Prop} {w w':World}
def su (S:Nat->Prop) (a:E8)(n:Nat):Prop:=n=0\/∀ b o,a=some ⟨b,o,none⟩->¬ S b
theorem su.mono {S':Nat->Prop} {a:E8} {n:Nat} (h:su S a n) (hs:∀ k,S' k->S k):su S' a n:=h.imp id λ h b o e hk=>h b o e (hs b hk)
theorem _root_.z32q27{p:Prop}(h:p:=by
 rcases h with h|⟨b',o',ha,hb,hc⟩
 ·exact .inl h
 ·injection ha with ha
  injection ha with e1 e2
  subst e1 e2;exact .inr ⟨b,o,rfl,aai hb hx.size,λ k v hk=>(FH (hx.block b hb hs)).trans (hc k v hk)⟩):p:=h
theorem sk {b o:Nat} {vs:List Value} (h:Rd w (some ⟨b,o,none⟩) vs) (hx:Chg S w w') (hs:¬ S b):Rd w' (some ⟨b,o,none⟩) vs:=by
 exact z32q27
theorem _root_.z32q90{p:Prop}(h:p:=by
 subst h0;have:=aaq h.len;subst this;exact Sl.nil _ _):p:=h
theorem vg {a:E8} {n:Nat} {l:E7} (h:Sl w a n l) (hx:Chg S w w') (ho:su S a n):Sl w' a n l:=by
 rcases ho with h0|ho
 ·exact z32q90
 ·by_cases h0:n=0
  ·exact z32q90
  ·obtain ⟨b,o,rfl,_,_⟩:=h.at 0 Zo;exact ⟨h.len,sk h.2 hx (ho b o rfl)⟩
theorem Ac {T:TypeId} {base n:Nat} {a:E8} (h:InT T w base a n) (hx:Chg S w w') (ho:su S a n):InT T w' base a n:=by
 rcases ho with h0|ho
 ·exact .inl h0
 ·refine h.imp id λ h b o e=>(h b o e).imp id λ ⟨t,vs,hB,ht⟩=>⟨t,vs,hx.blk hB (ho b o e),ht⟩
theorem pR {base size n c:Nat} {e:TypeId} {a:E8} {xs:List Value} (h:w.ownsRow base e size (Zy a n c) n xs) (hx:Chg S w w') (hs:∀ g,(Value.slice a n c).ownBlock=some g->¬ S g):w'.ownsRow base e size (Zy a n c) n xs:=by
 refine ⟨h.1,?_⟩;rcases h.2 with h1|⟨g,cap,cur,hv,hb,hh,r⟩
 ·exact .inl h1
 ·refine .inr ⟨g,cap,cur,hv,hb,?_,r⟩;rw [hx.block g (Array.getElem?_eq_some_iff.1 hh).1 (hs g (by rw [hv];rfl))];exact hh
theorem Ae {base base' size n c:Nat} {e:TypeId} {a:E8} {xs ys:List Value} (h:w.ownsRow base e size (Zy a n c) n xs) (k:w.ownsRow base' e size (Zy a n c) n ys):xs=ys:=by
 rcases h.2 with ⟨h1,h2⟩|⟨g,cap,cur,hv,hb,hh,_,_,_,r⟩
 ·subst h2;have e1:=h.1;have e2:=k.1;rw [Nat.zero_mul] at e1 e2;rw [aaq e1,aaq e2]
 ·rcases k.2 with ⟨k1,k2⟩|⟨g',cap',cur',hv',hb',hh',_,_,_,r'⟩
  ·rw [hv] at k1;injection k1 with k1;cases k1
  ·rw [hv] at hv';injection hv' with e1
   injection e1 with e1
   injection e1 with e1
   subst e1;rw [hh] at hh';injection hh' with hh'
   injection hh' with e2
   rw [<- r,<- r',e2]
def zj (S:Nat->Prop) (xs:List Value):Prop:=∀ (k:Nat) (g:E8)(m c:Nat),xs[k]?=some (Value.slice g m c)->su S g m
def sW (w:World)(xs:List Value):Prop:=∀ (k:Nat) (g:E8)(m c:Nat),xs[k]?=some (Value.slice g m c)->m=0\/∀ b o,g=some ⟨b,o,none⟩->∃ vs,Blk w b 5 vs
theorem sW.ext {xs:List Value} (h:sW w xs) (hx:Ext w w'):sW w' xs:=λ k g m c e=>(h k g m c e).imp id λ h b o eb=>(h b o eb).imp λ _ hB=>hB.extB hx
theorem sW.chg {xs:List Value} (h:sW w xs) (hx:Chg S w w') (ho:zj S xs):sW w' xs:=λ k g m c e=>by
 rcases h k g m c e with h0|h1
 ·exact .inl h0
 ·rcases ho k g m c e with h0|h2
  ·exact .inl h0
  ·exact .inr λ b o eb=>(h1 b o eb).imp λ _ hB=>hx.blk hB (h2 b o eb)
def nH (T:TypeId)(w:World)(base:Nat) (a:E8)(n c:Nat) (L:List (Int × E7)):Prop:=L.length=n/\∃ xs,w.ownsRow base T 2 (Zy a n c) n xs/\uM T w base xs L/\sW w xs
structure kx (S:Nat->Prop) (T:TypeId)(w:World)(base:Nat) (a:E8)(n c:Nat) (L:List (Int × E7)):Prop where
 len:L.length=n
 ex:∃ xs,w.ownsRow base T 2 (Zy a n c) n xs/\uM T w base xs L/\zj S xs/\sW w xs
 own:∀ g,(Value.slice a n c).ownBlock=some g->¬ S g
variable {T:TypeId} {base n c:Nat} {a:E8} {L:List (Int × E7)}
theorem nH.nil (T:TypeId)(w:World)(base:Nat):nH T w base none 0 0 []:=⟨rfl,[],abA _ _ _ _,⟨rfl,λ k hk=>by cases hk⟩,λ k g m c e=>by cases e⟩
theorem nH.ownI (h:nH T w base a n c L):cf T w base a n c L:=by
 obtain ⟨h1,xs,h2,h3,_⟩:=h;exact ⟨h1,xs,h2,h3⟩
theorem nH.ext (h:nH T w base a n c L) (hx:Ext w w'):nH T w' base a n c L:=by
 obtain ⟨h1,xs,h2,h3,h4⟩:=h;exact ⟨h1,xs,jl h2 hx,h3.ext hx,h4.ext hx⟩
theorem kx.ownU (h:kx S T w base a n c L):nH T w base a n c L:=by
 obtain ⟨h1,⟨xs,h2,h3,_,h4⟩,_⟩:=h;exact ⟨h1,xs,h2,h3,h4⟩
theorem kx.chg (h:kx S T w base a n c L) (hx:Chg S w w'):kx S T w' base a n c L:=by
 obtain ⟨h1,⟨xs,h2,h3,h4,h6⟩,h5⟩:=h;refine ⟨h1,⟨xs,pR h2 hx h5,⟨h3.1,λ k hk=>?_⟩,h4,h6.chg hx h4⟩,h5⟩;obtain ⟨g,c,e1,e2,e3,e4,e5⟩:=h3.2 k hk;have ho:=h4 _ _ _ _ e2;exact ⟨g,c,e1,e2,vg e3 hx ho,e4,Ac e5 hx ho⟩
theorem zX {k:Nat} {t t':TypeId} {vs vs':List Value} (h:Blk w k t vs) (h':Blk w k t' vs'):t=t':=by
 unfold Blk at h h';rw [h] at h';injection h' with h'
 injection h' with _ h'
theorem nH.toX (h:nH T w base a n c L) (hS:∀ k,S k->∃ t vs,Blk w k t vs/\t≠T/\t≠5):kx S T w base a n c L:=by
 obtain ⟨h1,xs,h2,h3,h4⟩:=h;refine ⟨h1,⟨xs,h2,h3,λ k g m cg e=>?_,h4⟩,λ g e hk=>?_⟩
 ·rcases h4 k g m cg e with h0|h5
  ·exact .inl h0
  ·refine .inr λ b o eb hb=>?_;obtain ⟨vs,hB⟩:=h5 b o eb;obtain ⟨t,vs',hB',_,ht⟩:=hS b hb;exact ht (zX hB' hB)
 ·obtain ⟨t,vs,hB,ht,_⟩:=hS g hk;exact ed h2 hB ht e
theorem se {P:Program} {sl T:TypeId} (V:SI P sl T) (w:World)(ty:TypeId)(base:Nat) (sa0:E8)(n c0:Nat) (L:List (Int × E7)) (hown:kx S T w base sa0 n c0 L)
  (gb:Nat) (id:Int) (g:E8)(m cg:Nat) (l:E7)(hR:Rd w (some ⟨gb,0,none⟩) [Zz Zx id, Zy g m cg]) (hS:Sl w g m l) (hc:m<=cg) (hi:InT T w base g m) (ho:su S g m) (hu:m=0\/∀ b o,g=some ⟨b,o,none⟩->∃ vs,Blk w b 5 vs) (hT:T≠5) (hlt:∀ k,S k->k<w.heap.size) (c:Nat) (hlen:n<=1000000) (hbase:base<=w.heap.size) :
  ∃ sa sc w',(Builtin.append_ #[sl,sl] ty #[Zy sa0 n c0, Zy (some ⟨gb,0,none⟩) 1 c]).run P w = .ok (Zy sa (n+1) sc) w'/\kx S T w' base sa (n+1) sc (L++[(id,l)])/\w.grownBy w' (Value.slice sa0 n c0).ownBlock:=by
 obtain ⟨i,z,hi1,hz,hsz,hb,hzs⟩:=V.info;obtain ⟨hL,⟨xs,h2,h3,h4,h6⟩,h5⟩:=hown;obtain ⟨v',w',e0,e1,e2,_,e3⟩:=run_append_own_at (P:=P) w base sl ty T i z 2 32 V.sl hi1 hz hsz hb hzs Zd _ n _ h2 ⟨gb,0,none⟩ 1 c [Zz Zx id, Zy g m cg] rfl (λ j u hu=>by
  rcases hR with h|⟨b,o,he,hbl,hcc⟩
  ·cases h
  ·injection he with he;injection he with he1 he2
   have:=hcc j u hu;rw [vZ,he1];rw [<- he2,aaA] at this;exact this) (λ u hu=>by
  simp only [q3q,q4q,abt] at hu;rcases hu with rfl|rfl <;> rfl) (by simp only [maxLen];omega) Zo hbase
 obtain ⟨sa,sc,rfl⟩:=eR e1;have hI:=cf.app ⟨hL,xs,h2,h3⟩ e2 h2 h3 hS hc hi e1;obtain ⟨k1,ys,k2,k3⟩:=hI;have hy:=Ae k2 e1;subst hy;have hkeep:∀ b vs,Blk w b 5 vs->Blk w' b 5 vs:=λ b vs hB=>hB.grown e2 (ed h2 hB hT.symm);refine ⟨sa,sc,w',e0,⟨k1,⟨_,k2,k3,λ k g' m' c' e=>?_,λ k g' m' c' e=>?_⟩,λ b eb hk=>?_⟩,e2⟩
 ·by_cases hk:k<xs.length
  ·rw [List.getElem?_append_left hk] at e;exact h4 _ _ _ _ e
  ·rw [List.getElem?_append_right Zo] at e;obtain ⟨j,hj⟩:∃ j,k-xs.length=j:=⟨_,rfl⟩;rw [hj] at e
   match j,e with
   | 0,e=>simp at e
   | 1,e =>
    simp at e;obtain ⟨rfl,rfl,rfl⟩:=e;exact ho
 ·by_cases hk:k<xs.length
  ·rw [List.getElem?_append_left hk] at e;exact (h6 _ _ _ _ e).imp (λ h=>h) λ h b o eb=>(h b o eb).imp λ _ hB=>hkeep _ _ hB
  ·rw [List.getElem?_append_right Zo] at e;obtain ⟨j,hj⟩:∃ j,k-xs.length=j:=⟨_,rfl⟩;rw [hj] at e
   match j,e with
   | 0,e=>simp at e
   | 1,e =>
    simp at e;obtain ⟨rfl,rfl,rfl⟩:=e;exact hu.imp (λ h=>h) λ h b o eb=>(h b o eb).imp λ _ hB=>hkeep _ _ hB
 ·rcases e3 with e3|e3
  ·rw [e3] at eb;exact h5 b eb hk
  ·rw [e3] at eb;injection eb with eb
   have:=hlt b hk;omega
end
section
variable {P:Program} {ops:Array Oper} {A:List (List Nat)} {W:World} {G:List Nat} {Q:Act->World->Prop} {o:Oper} {rest:List Oper} {i:Nat} {H:List (Nat × (Par->World->Prop))} {B U:List Nat} {F:Us->Act}
theorem AW (wr:Option Nat) (hwr:∀ g,wr=some g->g∈G) (hU:∀ g,wr=some g->g ∉ U) (mk:Par->Value) (R:Par->World->Prop) (hst:∀ p w w',R p w->Chg (λ k=>k∈G/\wr≠some k) w w'->R p w')
  (h:∀ us w',Chg (λ k=>k∈G/\wr≠some k) W w'->fP H (A.getD i []) us w'->Region.wanted o (yielded ops (F us).tmps)=true/\gives P o (F us).eval w' (λ v w''=>∃ p,v=mk p/\Chg (λ k=>wr=some k) w' w''/\R p w''))
  (hr:VD P ops A W G Q rest (i+1) (H++[(i,R)]) B (U++wr.toList) (λ us=>(F us).put o.dst (mk (us i)))):VD P ops A W G Q (o :: rest) i H B U F :=
 ⟨⟨λ us=>mk (us i),R,true,false,wr⟩,⟨⟨λ g e=>⟨hwr g e,rfl⟩,hst⟩,λ _ us us' he=>by simp only [he],λ us w' hx hf=>by
  obtain ⟨h1,h2⟩:=h us w' hx hf;simp only [h1,aba];exact eJ h2 λ v w'' ⟨p,hp,he,hR⟩=>⟨p,λ us' hu=>by rw [hp,hu],he,hR,λ e=>by cases e⟩⟩,hU,by simpa using hr⟩
theorem Chg.of_grown {w w':World} {r:Option Nat} (h:w.grownBy w' r):Chg (λ k=>r=some k) w w':=⟨h.os,h.tape,h.output,h.size,λ k hk hn=>h.block k hk (λ e=>hn e.symm)⟩
def obL (a:E8):List Nat:=(a.map (·.block)).toList
theorem eT (a:E8)(n c:Nat):(Value.slice a n c).ownBlock=a.map (·.block):=by cases a <;> rfl
theorem vz {a:E8} {g:Nat}:g∈obL a ↔ a.map (·.block)=some g:=by
 unfold obL;cases a
 ·simp
 ·simp [eq_comm]
theorem vF {S:Nat->Prop} {w w':World} {base n c:Nat} {a:E8} {l:E7} (h:Own w base a n c l) (hx:Chg S w w') (hs:∀ k,S k->k<base):Own w' base a n c l :=
 ⟨h.1,pR h.2 hx λ g e hk=>by have:=(fS h.2 g e).1;have:=hs g hk;omega⟩
theorem Ay {S:Nat->Prop} {w:World} {base n c:Nat} {a:E8} {l:E7} (h:Own w base a n c l) (hs:∀ k,S k->k<base):su S a n := .inr λ b o e hk=>by
 subst e;have:=(fS h.2 b rfl).1;have:=hs b hk;omega
theorem BY {w:World} {base n c:Nat} {a:E8} {l:E7} (h:Own w base a n c l):n=0\/∀ b o,a=some ⟨b,o,none⟩->∃ vs,Blk w b 5 vs := .inr λ b o e=>by
 subst e;rcases h.2.2 with ⟨h1,h2⟩|⟨g',cap,cur,hv,hb,hh,_⟩
 ·injection h1 with h1;cases h1
 ·injection hv with h1
  injection h1 with h1
  injection h1 with h1
  subst h1;exact ⟨cur.toList,by unfold Blk;simpa using hh⟩
theorem _root_.z32q25{p:Prop}(h:p:=by
 refine ⟨rfl, .inr ?_⟩;rcases h with h|⟨b',o',ha,hb,hc⟩
 ·cases h
 ·injection ha with ha
  injection ha with e1 e2
  subst e1 e2;refine ⟨b,0,rfl,hb,λ k hk=>?_⟩;obtain rfl:k=0:=by simp at hk;omega
  exact ⟨a1,n1,c1,hc 0 _ rfl,hS⟩):p:=h
theorem zY {w:World} {b:Nat} {a1:E8} {n1 c1:Nat} {l:E7} (h:Rd w (some ⟨b,0,none⟩) [Zy a1 n1 c1]) (hS:Sl w a1 n1 l):Bss w (some ⟨b,0,none⟩) 1 [l]:=by
 exact z32q25
end
end Go.Sec.R4

/- Rows of ints of the call's own. -/
namespace Go.Proofs.P9
open Go.RowKit Go.Sec Go.Sec.R4 BigFrame
def fA (w:World)(base:Nat) (a:E8)(n c:Nat) (l:List Int):Prop:=l.length=n/\w.ownsRow base 3 1 (Zy a n c) n (l.map nK)
theorem fA.nil (w:World)(base:Nat):fA w base none 0 0 []:=⟨rfl,abA _ _ _ _⟩
theorem fA.ext {w w':World} {base:Nat} {a:E8} {n c:Nat} {l:List Int} (h:fA w base a n c l) (hx:Ext w w'):fA w' base a n c l:=⟨h.1,jl h.2 hx⟩
theorem fA.rd {w:World} {base:Nat} {a:E8} {n c:Nat} {l:List Int} (h:fA w base a n c l):Rd w a (l.map nK):=Rd.of_own h.2
theorem A0:(Tryz.prog.info? 3).map (λ i=>(i.zero,i.size,i.bytes))=some (some (Zz Zx 0),1,8):=Zk
theorem nM {w:World} {ops:Array Oper} {rest:List Oper} {o:Oper} {a:Act} {Q:Exit->Act->World->Prop} (hgd:o.guard=none) (s x:Operand)
  (ho:o.op = .call { callee := .builtin .append,args:=#[s,x],argTypes:=#[22,22] })
  (base:Nat) (sa0:E8)(n c0:Nat) (l:List Int) (hs:a.eval s = Zy sa0 n c0) (g c:Nat) (z:Int) (hx:a.eval x = Zy (some ⟨g,0,none⟩) 1 c)
  (hown:fA w base sa0 n c0 l) (hR:Rd w (some ⟨g,0,none⟩) [Zz Zx z]) (hlen:n<=1000000) (hbase:base<=w.heap.size)
  (h:∀ sa sc w',fA w' base sa (n+1) sc (l++[z])->w.grownBy w' (Value.slice sa0 n c0).ownBlock->Below base w w'->wpList Tryz.prog ops Q rest (a.put o.dst (.slice sa (n+1) sc)) w') :
  wpList Tryz.prog ops Q (o :: rest) a w:=by
 obtain ⟨i,hi,hz,hsz,hb⟩:=info_parts A0;refine ly hgd s x 22 ho base 3 i _ 8 Tryz.underlying22 hi hz hsz hb rfl _ n _ hs hown.2 _ 1 c _ hx hR rfl (by simp [Value.oneCell']) (by simp only [maxLen];omega) Zo hbase ?_;intro sa sc w' h1 h2 h3;exact h sa sc w' ⟨by rw [aag,hown.1];rfl,by rw [aaK];exact h1⟩ h2 h3
theorem rn (w:World)(ty:TypeId)(base:Nat) (sa0:E8)(n c0:Nat) (l:List Int) (hown:fA w base sa0 n c0 l) (gb:Nat) (z:Int) (hR:Rd w (some ⟨gb,0,none⟩) [Zz Zx z]) (c:Nat) (hlen:n<=1000000) (hbase:base<=w.heap.size) :
  ∃ sa sc w',(Builtin.append_ #[22,22] ty #[Zy sa0 n c0, Zy (some ⟨gb,0,none⟩) 1 c]).run Tryz.prog w = .ok (Zy sa (n+1) sc) w'/\fA w' base sa (n+1) sc (l++[z])/\w.grownBy w' (Value.slice sa0 n c0).ownBlock/\((Value.slice sa (n+1) sc).ownBlock=(Value.slice sa0 n c0).ownBlock\/(Value.slice sa (n+1) sc).ownBlock=some w.heap.size):=by
 obtain ⟨i,hi,hz,hsz,hb⟩:=info_parts A0;obtain ⟨h1,h2⟩:=hown;obtain ⟨v',w',e0,e1,e2,_,e3⟩:=run_append_own_at (P:=Tryz.prog) w base 22 ty 3 i _ 1 8 Tryz.underlying22 hi hz hsz hb rfl Zd _ n _ h2 ⟨gb,0,none⟩ 1 c [Zz Zx z] rfl (λ j u hu=>by
  rcases hR with h|⟨b,o,he,hbl,hcc⟩
  ·cases h
  ·injection he with he;injection he with he1 he2
   have:=hcc j u hu;rw [vZ,he1];rw [<- he2,aaA] at this;exact this) (λ u hu=>by
  simp only [q3q,q4q,abt] at hu;subst hu;rfl) (by simp only [maxLen];omega) Zo hbase
 obtain ⟨sa,sc,rfl⟩:=eR e1;exact ⟨sa,sc,w',e0,⟨by rw [aag,h1];rfl,by rw [aaK];exact e1⟩,e2,e3⟩
theorem fA.blk {w:World} {base n c:Nat} {a:E8} {l:List Int} (h:fA w base a n c l):∀ g,(Value.slice a n c).ownBlock=some g->∃ vs,Blk w g 3 vs:=λ g hg=>by
 rcases h.2.2 with ⟨h1,h2⟩|⟨g',cap,cur,hv,hb,hh,_⟩
 ·rw [h1] at hg;cases hg
 ·rw [hv] at hg;injection hg with hg
  subst hg;exact ⟨cur.toList,by unfold Blk;simpa using hh⟩
theorem fA.chg {S:Nat->Prop} {w w':World} {base n c:Nat} {a:E8} {l:List Int} (h:fA w base a n c l) (hx:Chg S w w') (hs:∀ g,(Value.slice a n c).ownBlock=some g->¬ S g):fA w' base a n c l:=⟨h.1,pR h.2 hx hs⟩
end Go.Proofs.P9

/- The cases' tapes. -/
namespace Go.Case
def nx (l:List Int) (k:Nat):Int:=l.getD k 0
def nk (l:List Int) (k:Nat):Nat:=if k<l.length then k+1 else k
theorem Br {l:List Int} {k:Nat} (h:l.length<=k):nx l k=0/\nk l k=k:=by
 unfold nx nk;rw [FF,List.getElem?_eq_none h,aae Zo];exact ⟨rfl,rfl⟩
theorem CH {l:List Int} {k:Nat} {z:Int} (h:l[k]?=some z):nx l k=z/\nk l k=k+1:=by
 unfold nx nk;rw [FF,h,aaj (List.getElem?_eq_some_iff.1 h).1];exact ⟨rfl,rfl⟩
end Go.Case
namespace Go.Proofs.P9
open Go.RowKit Go.Sec Go.Case BigFrame
def TpB (w:World)(g:Nat) (a:E8)(n c:Nat) (l:List Int) (k:Nat):Prop :=
 Blk w g 136 [Zy a n c, Zz Zx k]/\l.length=n/\∃ w0,Rd w0 a (l.map nK)/\w0.heap.size<=g/\Ext w0 w
theorem TpB.ext {w w':World} {g:Nat} {a:E8} {n c:Nat} {l:List Int} {k:Nat} (h:TpB w g a n c l k) (hx:Ext w w'):TpB w' g a n c l k:=by
 obtain ⟨h1,h2,w0,h3,h4,h5⟩:=h;exact ⟨h1.extB hx,h2,w0,h3,h4,h5.trans hx⟩
theorem mh (g:Nat) (a:E8)(n c:Nat) (l:List Int) (k:Nat) (w:World)(h:TpB w g a n c l k) (hn:n<=9223372036854775807) (hk:k<=n) :
  Calls Tryz.prog 38 #[.pointer (some ⟨g,0,none⟩)] w λ e w'=>e = .returned (Zz Zx (nx l k))/\TpB w' g a n c l (nk l k)/\Mut g w w':=by
 obtain ⟨hB,hl,w0,hR,hw0,hE⟩:=h;haveI:=hB.blt;have f0:=hB.cell? 0 rfl;have f1:=hB.cell? 1 rfl;by_cases hlt:k<n
 ·have k1:¬ (n:Int)<=(k:Int):=by omega
  have k0:(0:Int)<=(k:Int):=Zo;have kn:(k:Int)<(n:Int):=Zo;obtain ⟨z,hz⟩:∃ z,l[k]?=some z:=⟨_,List.getElem?_eq_getElem Zo⟩;obtain ⟨b,o,rfl,hb,hc⟩:∃ b o,a=some ⟨b,o,none⟩/\b<w0.heap.size/\∀ j v,(l.map nK)[j]?=some v->w0.cell? ⟨b,o+j,none⟩=some v:=by
   rcases hR with h0|⟨b,o,ha,hb,hc⟩
   ·rw [List.map_eq_nil_iff] at h0;rw [h0] at hl;simp at hl;omega
   ·exact ⟨b,o,ha,hb,hc⟩
  obtain ⟨e1,e2⟩:=CH hz;rw [e1,e2];clear e1 e2
  go_enter Tryz.func38,Tryz.ntmps38
  go_wp2_with fail;refine R2.ae 10 [[],[0],[0,1],[0,1,2],[],[4],[4,5],[4,5,6],[4,5,6,7],[0,1,2,3,4,5,6,7,8]] [] (λ h=>(h rfl).elim) Zk Zk Zk Zk Zk ?_;simp only [q8q,q9q,q10q,q11q,q12q,q13q];(repeat (refine R2.av ?_;(try simp only [Act.put,q0q,q1q,q2q])));(refine R2.aU ?_;intro us x hx hf);have hBx:=hB.extB (FE w x);have hEx:=hE.ext x;have f0:=hBx.cell? 0 rfl;have f1:=hBx.cell? 1 rfl;have g1:=hBx.free 1;go_wp2_with fail;refine cU ?_;intro W hW;have hM:Mut g w W:=(show Mut g w (w.ext x) from .of_ext (FE _ _)).trans (by rw [hW];exact (by repeat (with_reducible first|exact Mut.refl _ _|assumption|apply Mut.ext|apply Mut.drew|apply Mut.alloc|apply Mut.setCell)));have hB2:Blk W g 136 [Zy (some ⟨b,o,none⟩) n c, Zz Zx ((k:Int)+1)]:=by rw [hW];exact hBx.set 1 _
  clear hW f0 f1 g1;have hE2:Ext w0 W:=E9 hE (hM.below hw0 hE.size);have hcz:W.cell? ⟨b,o+k,none⟩=some (Zz Zx z):=(hE2.cell (p:=⟨b,o+k,none⟩) hb).trans (hc k _ (by rw [List.getElem?_map,hz];rfl));haveI:=hB2.blt;haveI:BlkLt b W:=⟨aai hb hE2.size⟩;have f0:=hB2.cell? 0 rfl;have f1:=hB2.cell? 1 rfl;have hnk:((k+1:Nat):Int)=(k:Int)+1:=Zo;go_wp2_with fail;refine R2.ae 12 [[],[0],[0,1],[0,1,2],[],[4],[4,5],[4,5,6],[4,5,6,7],[0,1,2,3,4,5,6,7,8],[0,1,2,3,4,5,6,7,8,9],[0,1,2,3,4,5,6,7,8,9,10]] [] (λ h=>(h rfl).elim) Zk Zk Zk Zk Zk ?_;simp only [q8q,q9q,q10q,q11q,q12q,q13q];(repeat (refine R2.av ?_;(try simp only [Act.put,q0q,q1q,q2q])));(refine R2.aU ?_;intro us x hx hf);go_wp2_with fail;go_ret;exact ⟨rfl,⟨by rw [hnk];exact hB2.extB (FE _ _),hl,w0,hR,hw0,hE2.ext _⟩,hM.ext _⟩
 ·obtain ⟨e1,e2⟩:=Br (l:=l) (k:=k) Zo;rw [e1,e2];have k1:(n:Int)<=(k:Int):=Zo;clear e1 e2
  go_enter Tryz.func38,Tryz.ntmps38
  go_wp2_with fail;refine R2.ae 10 [[],[0],[0,1],[0,1,2],[],[4],[4,5],[4,5,6],[4,5,6,7],[0,1,2,3,4,5,6,7,8]] [] (λ h=>(h rfl).elim) Zk Zk Zk Zk Zk ?_;simp only [q8q,q9q,q10q,q11q,q12q,q13q];(repeat (refine R2.av ?_;(try simp only [Act.put,q0q,q1q,q2q])));(refine R2.aU ?_;intro us x hx hf);go_wp2_with fail;go_ret;exact ⟨rfl,⟨hB.extB (FE _ _),hl,w0,hR,hw0,hE.trans (FE _ _)⟩, .of_ext (FE _ _)⟩
theorem fX {l:List Int} {k n:Nat} (hl:l.length=n) (hk:k<=n):nk l k<=n:=by
 unfold nk;split <;> omega
theorem eL (v m:Int) (w:World)(hm:1<=m) (hm2:m<=4611686018427387904) :
  Calls Tryz.prog 10 #[Zz Zx v, Zz Zx m] w λ e w'=>e = .returned (Zz Zx (v % m))/\Ext w w':=by
 have H:=FC (uh v m hm);have hm1:¬ m<1:=Zo;have hm0:¬ m=0:=Zo;have hw:IntKind.i64.wrap (v.tmod m)=v.tmod m:=by rw [aaO];have:=H.out;omega
 go_enter Tryz.func10,Tryz.ntmps10
 go_wp2
 all_goals go_returns
 ·obtain ⟨h1,h2,h3,h4⟩:=H.out;exact ⟨AX (by rw [h4 ‹_›,q19q _ Zo]),FD _⟩
 ·obtain ⟨h1,h2,h3,h4⟩:=H.out;exact ⟨AX (by rw [h3 ‹_›]),FD _⟩
theorem dv (g:Nat) (a:E8)(n c:Nat) (l:List Int) (k:Nat) (m:Int) (w:World)(h:TpB w g a n c l k) (hn:n<=9223372036854775807) (hk:k<=n) (hm:1<=m) (hm2:m<=4611686018427387904) :
  Calls Tryz.prog 36 #[.pointer (some ⟨g,0,none⟩), Zz Zx m] w λ e w'=>e = .returned (Zz Zx (nx l k % m))/\TpB w' g a n c l (nk l k)/\Mut g w w':=by
 have hnx:=λ W H=>mh g a n c l k W H hn hk;have hwi:=λ W=>eL (nx l k) m W hm hm2
 go_enter Tryz.func36,Tryz.ntmps36
 go_wp2_with fail;(with_reducible refine (hnx _ h).mono ?_);rintro e w1 ⟨rfl,hT,hM⟩;go_wp2_with fail;(with_reducible refine (hwi _).mono ?_);rintro e w2 ⟨rfl,hx⟩;go_wp2_with fail;go_ret;exact ⟨rfl,hT.ext hx,hM.trans (.of_ext hx)⟩
theorem qU (g:Nat) (a:E8)(n c:Nat) (l:List Int) (k:Nat) (m:Int) (w:World)(h:TpB w g a n c l k) (hn:n<=9223372036854775807) (hk:k<=n) (hm:1<=m) (hm2:m<=4611686018427387904) :
  Calls Tryz.prog 37 #[.pointer (some ⟨g,0,none⟩), Zz Zx m] w λ e w'=>e = .returned (.bool (nx l k % m == m-1))/\TpB w' g a n c l (nk l k)/\Mut g w w':=by
 have hin:=λ W H=>dv g a n c l k m W H hn hk hm hm2;generalize nx l k % m=v at *;have hw:IntKind.i64.wrap (m-1)=m-1:=by rw [aaO];omega
 go_enter Tryz.func37,Tryz.ntmps37
 go_wp2_with fail;(with_reducible refine (hin _ h).mono ?_);rintro e w1 ⟨rfl,hT,hM⟩;go_wp2_with fail;go_ret;exact ⟨rfl,hT,hM⟩
theorem ym (a:E8)(n c:Nat) (l:List Int) (w:World)(hR:Rd w a (l.map nK)) (hl:l.length=n) :
  Calls Tryz.prog 35 #[Zy a n c] w λ e w'=>∃ g,e = .returned (.pointer (some ⟨g,0,none⟩))/\w.heap.size<=g/\TpB w' g a n c l 0/\Ext w w':=by
 have hB:=Blk.new w #[Zy a n c, Zz Zx 0] 136
 go_enter Tryz.func35,Tryz.ntmps35
 go_wp2_with fail;go_ret;exact ⟨_,rfl,aad _,⟨hB,hl,w,hR,aad _,eX⟩,eX⟩
end Go.Proofs.P9
