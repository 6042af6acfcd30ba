/- Lemmas of this claim, several texts joined. -/
import Derived.Maps.AppendAt
import Derived.Test.YtmdahnkcnagkjaaGreatZ7
set_option maxRecDepth 100000
open Go.Value renaming slice -> Zy
set_option maxHeartbeats 8000000
set_option linter.unusedVariables false
set_option linter.unusedSimpArgs false
/- append onto a row of the call's own: where the new row lies, and what else stays. -/
namespace Go.Sec
open Go.RowKit
section
variable {W W':World} {row:Option Nat}
def Off (a:E8)(row:Option Nat):Prop:=∀ b o,a=some ⟨b,o,none⟩->row≠some b
theorem Rd.grown {a:E8} {vs:List Value} (h:Rd W a vs) (hg:W.grownBy W' row) (hn:Off a row):Rd W' a vs:=by
 rcases h with h|⟨b,o,ha,hb,hc⟩
 ·exact .inl h
 ·exact .inr ⟨b,o,ha,aai hb hg.size,λ k v hk=>(FH (hg.block b hb (λ e=>hn b o ha e.symm))).trans (hc k v hk)⟩
theorem Sl.grown {a:E8} {n:Nat} {l:E7} (h:Sl W a n l) (hg:W.grownBy W' row) (hn:Off a row):Sl W' a n l:=⟨h.len,h.by'.grown hg hn⟩
theorem Blk.grown {g:Nat} {t:TypeId} {vs:List Value} (h:Blk W g t vs) (hg:W.grownBy W' row) (hn:row≠some g):Blk W' g t vs :=
 (hg.block g h.lt (λ e=>hn e.symm)).trans h
theorem Off.nil {row:Option Nat}:Off none row:=λ _ _ h=>by cases h
theorem Off.noRow {a:E8}:Off a none:=λ _ _ _ h=>by cases h
theorem Off.of {b o g:Nat} (h:b≠g):Off (some ⟨b,o,none⟩) (some g):=λ b' o' h1 h2=>by
 injection h1 with h1;injection h1 with h1 _;injection h2 with h2;omega
theorem Off.lt {a:E8} {r:Option Nat} {N:Nat} (h1:∀ b o,a=some ⟨b,o,none⟩->b<N) (h2:∀ g,r=some g->N<=g):Off a r:=λ b o ha hr=>by
 have:=h1 b o ha;have:=h2 b hr;omega
theorem Off.gt {a:E8} {r:Option Nat} {N:Nat} (h1:∀ b o,a=some ⟨b,o,none⟩->N<=b) (h2:∀ g,r=some g->g<N):Off a r:=λ b o ha hr=>by
 have:=h1 b o ha;have:=h2 b hr;omega
theorem Off.app {a:E8} {r r':Option Nat} {N:Nat} (h:Off a r) (h1:∀ b o,a=some ⟨b,o,none⟩->b<N) (hr:r'=r\/r'=some N):Off a r':=by
 rcases hr with rfl|rfl
 ·exact h
 ·exact .lt h1 (λ g' e=>by injection e;omega)
end
theorem Sl.lt {w:World} {a:E8} {n:Nat} {l:E7} (h:Sl w a n l) (hn:0<n):∀ b o,a=some ⟨b,o,none⟩->b<w.heap.size:=λ b o e=>by
 obtain ⟨b',o',h1,h2,_⟩:=h.at 0 hn;rw [e] at h1;injection h1 with h1;injection h1 with h1 _
 rw [h1];exact h2.lt
theorem Own.ge {w:World} {base:Nat} {a:E8} {n c:Nat} {l:E7} (h:Own w base a n c l) (hn:0<n):∀ b o,a=some ⟨b,o,none⟩->base<=b:=λ b o e=>by
 obtain ⟨g,h1,h2,_⟩:=h.at 0 hn;rw [e] at h1;injection h1 with h1;injection h1 with h1 _
 omega
theorem fS {w:World} {base:Nat} {e:TypeId} {size n c:Nat} {a:E8} {xs:List Value} (h:w.ownsRow base e size (Zy a n c) n xs):∀ g,(Value.slice a n c).ownBlock=some g->base<=g/\g<w.heap.size:=λ g hg=>by
 rcases h.2 with ⟨h1,h2⟩|⟨g',cap,cur,hv,h2,h3,_⟩
 ·injection h1 with h1;subst h1;cases hg
 ·injection hv with h1;subst h1;injection hg with hg;subst hg
  exact ⟨h2,(Array.getElem?_eq_some_iff.1 h3).1⟩
theorem jx {P:Program} (w:World)(base:Nat) (t ty e:TypeId)(i:TypeInfo) (z:Value)(bytes:Nat) (ht:P.underlying t=some (.slice e)) (hi:P.info? e=some i) (hz:i.zero=some z)
  (hsize:i.size=1) (hby:i.bytes=bytes) (hzs:z.cells.size=1)
  (v:Value)(n:Nat) (xs:List Value)(hown:w.ownsRow base e 1 v n xs)
  (A:E8)(m c:Nat) (news:List Value)(hr:Rd w A news) (hl:news.length=m) (h1:∀ u∈news,u.oneCell'=true)
  (h63:n+m<=maxLen) (hbytes:(n+m)*bytes<=140737488355328) (hbase:base<=w.heap.size) :
  ∃ sa sc w',(Builtin.append_ #[t,t] ty #[v, Zy A m c]).run P w = .ok (Zy sa (n+m) sc) w'/\w'.ownsRow base e 1 (Zy sa (n+m) sc) (n+m) (xs++news)/\w.grownBy w' v.ownBlock /\
   ((Value.slice sa (n+m) sc).ownBlock=v.ownBlock\/(Value.slice sa (n+m) sc).ownBlock=some w.heap.size):=by
 rcases hr with h0|⟨b,off,rfl,hb,hc⟩
 ·subst h0;simp at hl;subst hl;obtain ⟨sa,sc,rfl⟩:=eR hown;have hle:n<=sc:=by
   exact z4q70
  refine ⟨sa,sc,w,?_,by simpa using hown,World.grownBy.refl w _, .inl rfl⟩;have hf:(Builtin.firstCells 1 0 (Zy A 0 c)).run P w = .ok #[] w:=by
   exact z4q99
  cases sa <;> simp [Builtin.append_,abF ht,sizeOf,typeInfo,hi,hsize,Builtin.lenOf,hle,hf,storeCells]
 ·obtain ⟨v',w',hrun,h2,h3,_,h5⟩:=run_append_own_at (P:=P) (w:=w) base t ty e i z 1 bytes ht hi hz hsize hby hzs Zd v n xs hown ⟨b,off,none⟩ m c news Zo (λ j u hu=>by
   rw [bX];exact hc j u hu) h1 h63 hbytes hbase
  obtain ⟨sa,sc,rfl⟩:=eR h2;exact ⟨sa,sc,w',hrun,h2,h3,h5⟩
theorem gG {P:Program} {w:World} {ops:Array Oper} {rest:List Oper} {o:Oper} {a:Act} {Q:Exit->Act->World->Prop} (hgd:o.guard=none) (s x:Operand) (t:TypeId)
  (ho:o.op = .call { callee := .builtin .append,args:=#[s,x],argTypes:=#[t,t] })
  (base:Nat) (e:TypeId)(i:TypeInfo) (z:Value)(bytes:Nat) (ht:P.underlying t=some (.slice e)) (hi:P.info? e=some i) (hz:i.zero=some z)
  (hsize:i.size=1) (hby:i.bytes=bytes) (hzs:z.cells.size=1)
  (v:Value)(n:Nat) (xs:List Value)(hs:a.eval s=v) (hown:w.ownsRow base e 1 v n xs)
  (A:E8)(m c:Nat) (news:List Value)(hx:a.eval x = Zy A m c) (hr:Rd w A news) (hl:news.length=m) (h1:∀ u∈news,u.oneCell'=true)
  (h63:n+m<=maxLen) (hbytes:(n+m)*bytes<=140737488355328) (hbase:base<=w.heap.size)
  (h:∀ sa sc w',w'.ownsRow base e 1 (.slice sa (n+m) sc) (n+m) (xs++news)->w.grownBy w' v.ownBlock->Below base w w'->((Value.slice sa (n+m) sc).ownBlock=v.ownBlock\/(Value.slice sa (n+m) sc).ownBlock=some w.heap.size)->wpList P ops Q rest (a.put o.dst (.slice sa (n+m) sc)) w') :
  wpList P ops Q (o :: rest) a w:=by
 obtain ⟨sa,sc,w',hrun,h2,h3,h5⟩:=jx (P:=P) w base t o.type e i z bytes ht hi hz hsize hby hzs v n xs hown A m c news hr hl h1 h63 hbytes hbase;refine wpList_plain hgd λ K hK=>?_;have:=h sa sc w' h2 h3 (eP hown h3 hbase) h5;unfold Oper.wp execOp;simp only [ho,resolve,invoke,builtin,aaW,aaX,aaE,abl,aa3,abj,hs,hx,hrun];exact hK _ _ this
theorem iy {P:Program} (U:U8 P) {w:World} {ops:Array Oper} {rest:List Oper} {o:Oper} {a:Act} {Q:Exit->Act->World->Prop} (hgd:o.guard=none) (s x:Operand)
  (ho:o.op = .call { callee := .builtin .append,args:=#[s,x],argTypes:=#[33,33] })
  (base:Nat) (sa0:E8)(n c0:Nat) (l:E7)(hs:a.eval s = Zy sa0 n c0) (A:E8)(m c:Nat) (l':E7)(hx:a.eval x = Zy A m c)
  (hown:Own w base sa0 n c0 l) (hsl:Sl w A m l') (hlen:n+m<=140737488355328) (hbase:base<=w.heap.size)
  (h:∀ sa sc w',Own w' base sa (n+m) sc (l++l')->w.grownBy w' (Value.slice sa0 n c0).ownBlock->Below base w w'->((Value.slice sa (n+m) sc).ownBlock=(Value.slice sa0 n c0).ownBlock\/(Value.slice sa (n+m) sc).ownBlock=some w.heap.size)->wpList P ops Q rest (a.put o.dst (.slice sa (n+m) sc)) w') :
  wpList P ops Q (o :: rest) a w:=by
 obtain ⟨i,hi,hz,hsz,hb⟩:=U.info;refine gG (P:=P) hgd s x _ ho base 5 i _ 1 U.sl hi hz hsz hb rfl _ n _ hs hown.2 A m c _ hx hsl.by' (by rw [aaC];exact hsl.len) (aH _) (by simp only [maxLen];omega) Zo hbase ?_;intro sa sc w' h1 h2 h3 h4;exact h sa sc w' (Own.app hown.1 hsl.len h1) h2 h3 h4
end Go.Sec

/- Rows of slices that the call makes itself; an element that is itself an array, read out of an array. -/
namespace Go.Sec
open Go.RowKit
structure S8 (P:Program):Prop where
 sl:P.underlying 37=some (.slice 33)
 info:∃ i,P.info? 33=some i/\i.zero=some (Zy none 0 0)/\i.size=1/\i.bytes=24
def InB (w:World)(base:Nat) (a:E8)(n:Nat):Prop:=n=0\/∀ b o,a=some ⟨b,o,none⟩->b<base\/∃ t vs,Blk w b t vs/\t≠33
theorem InB.ext {w w':World} {base n:Nat} {a:E8} (h:InB w base a n) (hx:Ext w w'):InB w' base a n :=
 h.imp id λ h b o e=>(h b o e).imp id λ ⟨t,vs,hB,ht⟩=>⟨t,vs,hB.extB hx,ht⟩
def bU (w:World)(base:Nat) (a:E8)(n c:Nat) (L:List E7):Prop :=
 L.length=n/\∃ xs:List Value,w.ownsRow base 33 1 (Zy a n c) n xs/\xs.length=n /\
  ∀ k (h:k<L.length),∃ a' n' c',xs[k]?=some (Zy a' n' c')/\n'<=c'/\Sl w a' n' L[k]/\InB w base a' n'
theorem bU.nil (w:World)(base:Nat):bU w base none 0 0 []:=⟨rfl,[],abA _ _ _ _,rfl,λ k h=>by cases h⟩
theorem bU.empty (w:World):bU (w.alloc (.cells #[] 33)) w.heap.size (some ⟨w.heap.size,0,none⟩) 0 0 [] :=
 ⟨rfl,[],⟨rfl, .inr ⟨w.heap.size,0,#[],rfl,aad _,heap_alloc_new w _,Zs,Zs,rfl,rfl⟩⟩,rfl,λ k h=>by cases h⟩
theorem _root_.z24q80{p:Prop}(h:p:=by
 obtain ⟨a',n',c',e1,e2,e3,e4⟩:=h4 k hk;exact ⟨a',n',c',e1,e2,e3.ext hx,e4.ext hx⟩):p:=h
theorem bU.ext {w w':World} {base n c:Nat} {a:E8} {L:List (E7)} (h:bU w base a n c L) (hx:Ext w w'):bU w' base a n c L:=by
 obtain ⟨h1,xs,h2,h3,h4⟩:=h;refine ⟨h1,xs,jl h2 hx,h3,λ k hk=>?_⟩;exact z24q80
theorem bU.bsc {w:World} {base n c:Nat} {a:E8} {L:List (E7)} (h:bU w base a n c L):Bsc w a n L:=by
 obtain ⟨h1,xs,h2,h3,h4⟩:=h;refine ⟨h1,?_⟩;rcases Rd.of_own h2 with h|⟨b,off,ha,hb,hc⟩
 ·left;subst h;exact h3.symm
 ·refine .inr ⟨b,off,ha,hb,λ k hk=>?_⟩;obtain ⟨a',n',c',e1,e2,e3,_⟩:=h4 k hk;exact ⟨a',n',c',hc k _ e1,e2,e3⟩
theorem bU.le {w:World} {base n c:Nat} {a:E8} {L:List (E7)} (h:bU w base a n c L):n<=c:=by
 obtain ⟨_,xs,h2,_⟩:=h;rcases h2.2 with ⟨h2,h3⟩|⟨g,cap,cur,h2,_,_,h3,_⟩
 ·omega
 ·injection h2 with e1 e2 e3;omega
theorem ed {w:World} {base:Nat} {e t:TypeId} {size n c:Nat} {a:E8} {xs vs:List Value} {b:Nat} (h:w.ownsRow base e size (Zy a n c) n xs) (hB:Blk w b t vs) (ht:t≠e):(Value.slice a n c).ownBlock≠some b:=λ hg=>by
 rcases h.2 with ⟨h1,h2⟩|⟨g',cap,cur,hv,h2,h3,_⟩
 ·injection h1 with h1;subst h1;cases hg
 ·injection hv with h1;subst h1
  have hg:g'=b:=FG hg;subst hg;unfold Blk at hB;rw [h3] at hB;injection hB with hB
  injection hB with _ hB
  exact ht hB.symm
theorem _root_.z24q12{p:Prop}(h:p:=by
 intro a1 n1 k hS hw;rcases hw with h0|hw
 ·subst h0;have:=aaq hS.len;subst this;exact ⟨Sl.nil _ _, .inl rfl⟩
 have hoff:Off a1 (Value.slice a n c).ownBlock:=λ b o e he=>by
  rcases hw b o e with h|⟨t,vs,hB,ht⟩
  ·have:=(fS h0 b he).1;omega
  ·exact ed h0 hB ht he
 refine ⟨hS.grown hg hoff, .inr λ b o e=>?_⟩;rcases hw b o e with h|⟨t,vs,hB,ht⟩
 ·exact .inl h
 ·exact .inr ⟨t,vs,hB.grown hg (ed h0 hB ht),ht⟩):p:=h
theorem _root_.z24q40{p:Prop}(h:p:=by
 obtain ⟨a1,n1,c1,e1,e2,e3,e4⟩:=h2 k hkn;obtain ⟨e5,e6⟩:=keep _ _ _ e3 e4;refine ⟨a1,n1,c1,?_,e2,?_,e6⟩
 ·rw [List.getElem?_append_left Zo];exact e1
 ·rw [abf hkn];exact e5):p:=h
theorem bU.snoc {w w':World} {base n c c':Nat} {a a':E8} {L:List (E7)} (h:bU w base a n c L) (hg:w.grownBy w' (Value.slice a n c).ownBlock)
  {an:E8} {nn cn:Nat} {l:E7} (hs:Sl w an nn l) (hc:nn<=cn) (hl:InB w base an nn)
  (hxs:∃ xs0,w.ownsRow base 33 1 (Zy a n c) n xs0/\xs0.length=n/\(∀ k (h:k<L.length),∃ a' n' c',xs0[k]?=some (Zy a' n' c')/\n'<=c'/\Sl w a' n' L[k]/\InB w base a' n')/\w'.ownsRow base 33 1 (Zy a' (n+1) c') (n+1) (xs0++[Zy an nn cn])) :
  bU w' base a' (n+1) c' (L++[l]):=by
 obtain ⟨xs0,h0,h1,h2,h3⟩:=hxs;have keep:∀ (a1:E8)(n1:Nat) (k:E7),Sl w a1 n1 k->InB w base a1 n1->Sl w' a1 n1 k/\InB w' base a1 n1:=by
  exact z24q12
 have hlen:=h.1;refine ⟨by simp [h.1],_,h3,by simp [h1],λ k hk=>?_⟩;by_cases hkn:k<L.length
 ·exact z24q40
 ·obtain ⟨e5,e6⟩:=keep _ _ _ hs hl;have hk2:k=L.length:=by simp at hk;omega
  subst hk2;refine ⟨an,nn,cn,?_,hc,?_,e6⟩
  ·rw [List.getElem?_append_right Zo,h1,hlen];simp
  ·rw [List.getElem_append_right (aad _)];simpa using e5
theorem cE {P:Program} (V:S8 P) {w:World} {ops:Array Oper} {rest:List Oper} {o:Oper} {a:Act} {Q:Exit->Act->World->Prop} (hgd:o.guard=none) (s x:Operand)
  (ho:o.op = .call { callee := .builtin .append,args:=#[s,x],argTypes:=#[37,37] })
  (base:Nat) (sa0:E8)(n c0:Nat) (L:List E7) (hs:a.eval s = Zy sa0 n c0) (g:Nat) (hx:a.eval x = Zy (some ⟨g,0,none⟩) 1 1)
  (hown:bU w base sa0 n c0 L) (an:E8)(nn cn:Nat) (l:E7)(hR:Rd w (some ⟨g,0,none⟩) [Zy an nn cn]) (hS:Sl w an nn l) (hc:nn<=cn) (hl:InB w base an nn)
  (hlen:n<=1000000) (hbase:base<=w.heap.size)
  (h:∀ sa sc w',bU w' base sa (n+1) sc (L++[l])->w.grownBy w' (Value.slice sa0 n c0).ownBlock->Below base w w'->wpList P ops Q rest (a.put o.dst (.slice sa (n+1) sc)) w') :
  wpList P ops Q (o :: rest) a w:=by
 obtain ⟨i,hi,hz,hsz,hb⟩:=V.info;have hown0:=hown;obtain ⟨hL,xs,h2,h3,h4⟩:=hown0;refine gG (P:=P) hgd s x _ ho base 33 i _ 24 V.sl hi hz hsz hb rfl _ n _ hs h2 (some ⟨g,0,none⟩) 1 1 _ hx hR rfl (λ u hu=>by
  simp only [aau] at hu;subst hu;rfl) (by simp only [maxLen];omega) Zo hbase ?_
 intro sa sc w' e1 e2 e3 _;exact h sa sc w' (hown.snoc e2 hS hc hl ⟨xs,h2,h3,h4,e1⟩) e2 e3
theorem inBlk {w:World} {g base n:Nat} {t:TypeId} {vs:List Value} (hB:Blk w g t vs) (ht:t≠33):InB w base (some ⟨g,0,none⟩) n := .inr λ b o e=>by
 injection e with e;injection e with e _;subst e;exact .inr ⟨_,_,hB,ht⟩
theorem Own.inBlk {w:World} {base base':Nat} {a:E8} {n c:Nat} {l:E7} (h:Own w base a n c l):InB w base' a n := .inr λ b o e=>by
 rcases h.2.2 with ⟨h1,h2⟩|⟨g',cap,cur,hv,h2,h3,_⟩
 ·injection h1 with h1;subst h1;cases e
 ·injection hv with h1;subst h1;injection e with e;injection e with e _;subst e
  exact .inr ⟨5,cur.toList,(by unfold Blk;simpa using h3),Zd⟩
theorem _root_.z24q83{p:Prop}(h:p:=by
 by_cases h0:n=0
 ·exact .inl h0
 ·exact .inr λ b o e => .inl (h.lt Zo b o e)):p:=h
theorem Sl.inB {w:World} {a:E8} {n:Nat} {l:E7} (h:Sl w a n l) (w':World):InB w' w.heap.size a n:=by
 exact z24q83
theorem InB.mono {w:World} {base base' n:Nat} {a:E8} (h:InB w base a n) (hb:base<=base'):InB w base' a n :=
 h.imp id λ h b o e=>(h b o e).imp (λ h=>Zo) id
def RdB (w:World)(base:Nat) (a:E8)(n:Nat) (L:List E7):Prop :=
 L.length=n/\∃ xs:List Value,xs.length=n/\Rd w a xs/\∀ k (h:k<L.length),∃ a' n' c',xs[k]?=some (Zy a' n' c')/\n'<=c'/\Sl w a' n' L[k]/\InB w base a' n'
theorem sK {n:Nat} {R:Nat->Value->Prop} (h:∀ k,k<n->∃ v,R k v):∃ xs:List Value,xs.length=n/\∀ k v,xs[k]?=some v->R k v:=by
 induction n with
 | zero=>exact ⟨[],rfl,λ k v h=>by simp at h⟩
 | succ n ih =>
  obtain ⟨xs,h1,h2⟩:=ih λ k hk=>h k Zo;obtain ⟨v,hv⟩:=h n Zo;refine ⟨xs++[v],by simp [h1],λ k u hk=>?_⟩;by_cases hkn:k<n
  ·rw [List.getElem?_append_left Zo] at hk;exact h2 k u hk
  ·rw [List.getElem?_append_right Zo,h1] at hk;obtain rfl:k=n:=by
    have:=(List.getElem?_eq_some_iff.1 hk).1;simp at this;omega
   simp at hk;subst hk;exact hv
theorem Bsc.rdB {w:World} {a:E8} {n:Nat} {L:List (E7)} (h:Bsc w a n L):RdB w w.heap.size a n L:=by
 refine ⟨h.len,?_⟩;rcases h.row with h0|⟨b,off,ha,hb,hc⟩
 ·exact ⟨[],by simp [h0],Rd.nil _ _,λ k hk=>by have:=h.len;omega⟩
 ·obtain ⟨xs,h1,h2⟩:=sK (n:=n) (R:=λ k v=>∃ (hk:k<L.length) (a':E8)(n' c':Nat),v = Zy a' n' c'/\w.cell? ⟨b,off+k,none⟩=some v/\n'<=c'/\Sl w a' n' L[k]) (λ k hk=>by
   have hkL:k<L.length:=by have:=h.len;omega
   obtain ⟨a',n',c',e1,e2,e3⟩:=hc k hkL;exact ⟨_,hkL,a',n',c',rfl,e1,e2,e3⟩)
  refine ⟨xs,h1, .inr ⟨b,off,ha,hb,λ k v hk=>?_⟩,λ k hk=>?_⟩
  ·obtain ⟨_,_,_,_,_,e2,_⟩:=h2 k v hk;exact e2
  ·have hkx:k<xs.length:=by have:=h.len;omega
   obtain ⟨_,a',n',c',e1,_,e3,e4⟩:=h2 k xs[k] (List.getElem?_eq_getElem hkx);exact ⟨a',n',c',by rw [List.getElem?_eq_getElem hkx,e1],e3,e4,e4.inB _⟩
theorem RdB.ext {w w':World} {base n:Nat} {a:E8} {L:List (E7)} (h:RdB w base a n L) (hx:Ext w w'):RdB w' base a n L:=by
 obtain ⟨h1,xs,h2,h3,h4⟩:=h;refine ⟨h1,xs,h2,h3.ext hx,λ k hk=>?_⟩;exact z24q80
theorem bU.app {w w':World} {base n c m c':Nat} {a a':E8} {L M:List (E7)} (h:bU w base a n c L) (hg:w.grownBy w' (Value.slice a n c).ownBlock)
  {xs0 xs1:List Value} (h0:w.ownsRow base 33 1 (Zy a n c) n xs0) (h1:xs0.length=n) (h2:∀ k (h:k<L.length),∃ a' n' c',xs0[k]?=some (Zy a' n' c')/\n'<=c'/\Sl w a' n' L[k]/\InB w base a' n')
  (g1:M.length=m) (g2:xs1.length=m) (g3:∀ k (h:k<M.length),∃ a' n' c',xs1[k]?=some (Zy a' n' c')/\n'<=c'/\Sl w a' n' M[k]/\InB w base a' n')
  (h3:w'.ownsRow base 33 1 (Zy a' (n+m) c') (n+m) (xs0++xs1)):bU w' base a' (n+m) c' (L++M):=by
 have keep:∀ (a1:E8)(n1:Nat) (k:E7),Sl w a1 n1 k->InB w base a1 n1->Sl w' a1 n1 k/\InB w' base a1 n1:=by
  exact z24q12
 have hlen:=h.1;refine ⟨by simp [h.1,g1],_,h3,by simp [h1,g2],λ k hk=>?_⟩;by_cases hkn:k<L.length
 ·exact z24q40
 ·have hk2:k-L.length<M.length:=by simp at hk;omega
  obtain ⟨a1,n1,c1,e1,e2,e3,e4⟩:=g3 _ hk2;obtain ⟨e5,e6⟩:=keep _ _ _ e3 e4;refine ⟨a1,n1,c1,?_,e2,?_,e6⟩
  ·rw [List.getElem?_append_right Zo,h1,<- hlen];exact e1
  ·rw [List.getElem_append_right Zo];exact e5
theorem _root_.z24q49{p:Prop}(h:p:=by
 obtain ⟨k,hk,rfl⟩:=List.getElem_of_mem hu;obtain ⟨a',n',c',e1,_⟩:=g4 k Zo;rw [List.getElem?_eq_getElem hk] at e1;injection e1 with e1
 rw [e1];rfl):p:=h
theorem kD {P:Program} (V:S8 P) (w:World)(ty:TypeId)(base:Nat) (sa0:E8)(n c0:Nat) (L:List E7) (hown:bU w base sa0 n c0 L) (A:E8)(m c:Nat) (M:List E7) (hR:RdB w base A m M)
  (hlen:n+m<=1000000) (hbase:base<=w.heap.size) :
  ∃ sa sc w',(Builtin.append_ #[37,37] ty #[Zy sa0 n c0, Zy A m c]).run P w = .ok (Zy sa (n+m) sc) w'/\bU w' base sa (n+m) sc (L++M)/\w.grownBy w' (Value.slice sa0 n c0).ownBlock/\Below base w w':=by
 obtain ⟨i,hi,hz,hsz,hb⟩:=V.info;have hown0:=hown;obtain ⟨hL,xs,h2,h3,h4⟩:=hown0;obtain ⟨hM,ys,g2,g3,g4⟩:=hR;have h1:∀ u∈ys,u.oneCell'=true:=λ u hu=>by
  exact z24q49
 obtain ⟨sa,sc,w',e0,e1,e2,_⟩:=jx (P:=P) w base _ ty 33 i _ 24 V.sl hi hz hsz hb rfl _ n _ h2 A m c ys g3 g2 h1 (by simp only [maxLen];omega) Zo hbase;exact ⟨sa,sc,w',e0,hown.app e2 h2 h3 h4 hM g2 g4 e1,e2,eP h2 e2 hbase⟩
theorem mG {P:Program} (V:S8 P) {w:World} {ops:Array Oper} {rest:List Oper} {o:Oper} {a:Act} {Q:Exit->Act->World->Prop} (hgd:o.guard=none) (s x:Operand)
  (ho:o.op = .call { callee := .builtin .append,args:=#[s,x],argTypes:=#[37,37] })
  (base:Nat) (sa0:E8)(n c0:Nat) (L:List E7) (hs:a.eval s = Zy sa0 n c0) (A:E8)(m c:Nat) (M:List E7) (hx:a.eval x = Zy A m c)
  (hown:bU w base sa0 n c0 L) (hR:RdB w base A m M) (hlen:n+m<=1000000) (hbase:base<=w.heap.size)
  (h:∀ sa sc w',bU w' base sa (n+m) sc (L++M)->w.grownBy w' (Value.slice sa0 n c0).ownBlock->Below base w w'->wpList P ops Q rest (a.put o.dst (.slice sa (n+m) sc)) w') :
  wpList P ops Q (o :: rest) a w:=by
 obtain ⟨sa,sc,w',hrun,h2,h3,h4⟩:=kD V w o.type base sa0 n c0 L hown A m c M hR hlen hbase;refine wpList_plain hgd λ K hK=>?_;have:=h sa sc w' h2 h3 h4;unfold Oper.wp execOp;simp only [ho,resolve,invoke,builtin,aaW,aaX,aaE,abl,aa3,abj,hs,hx,hrun];exact hK _ _ this
theorem bU.mono0 {w:World} {base base' n c:Nat} {a:E8} (h:bU w base' a n c []) (hb:base<=base'):bU w base a n c []:=by
 obtain ⟨h1,xs,h2,h3,_⟩:=h;exact ⟨h1,xs,oI h2 hb,h3,λ k hk=>by cases hk⟩
theorem RdB.one {w:World} {base:Nat} {g:E8} {an:E8} {nn cn:Nat} {l:E7} (hR:Rd w g [Zy an nn cn]) (hS:Sl w an nn l) (hc:nn<=cn) (hl:InB w base an nn):RdB w base g 1 [l] :=
 ⟨rfl,[Zy an nn cn],rfl,hR,λ k hk=>by
  obtain rfl:k=0:=by simp at hk;omega
  exact ⟨an,nn,cn,rfl,hc,hS,hl⟩⟩
end Go.Sec
