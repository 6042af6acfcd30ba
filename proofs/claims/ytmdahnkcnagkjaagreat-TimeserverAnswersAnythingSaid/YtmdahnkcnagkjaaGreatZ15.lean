/- Lemmas of this claim, several texts joined. -/
import Derived.Test.YtmdahnkcnagkjaaGreatZ7
import Derived.Test.YtmdahnkcnagkjaaGreatZ14
set_option maxRecDepth 100000
open Go.Value renaming slice -> Zy
set_option maxHeartbeats 8000000
set_option linter.unusedVariables false
set_option linter.unusedSimpArgs false
/- The steps of a chain of operations in a region that draws its order. -/
namespace Go.Sec.R5
open Go.RowKit
section
variable {P:Program} {ops:Array Oper} {Q:Exit->Act->World->Prop} {W:World} {S:World->Prop} {D:List Nat} {o:Oper} {l:List Oper} {t:Nat} {a:Act} {w:World}
theorem fI (hD:D.contains t=true) (h:bC P ops Q S D l (t+1) a w):bC P ops Q S D (o :: l) t a w:=by
 unfold bC;rw [aaj hD];exact h
theorem cT (hD:D.contains t=false) (hw:Region.wanted o (yielded ops a.tmps)=true) (h:gives P o a.eval w (λ v w'=>S w'/\bC P ops Q S D l (t+1) (a.put o.dst v) w')):bC P ops Q S D (o :: l) t a w:=by
 unfold bC;rw [aae (by rw [hD];simp),aaj hw];exact h
theorem qO (hSE:∀ w',Ext W w'->S w') (hD:D.contains t=false) (hw:Region.wanted o (yielded ops a.tmps)=true) (v:Value)(hx:Ext W w) (hr:(execOp a.eval o).run P w = .ok (.value v) w) (h:bC P ops Q S D l (t+1) (a.put o.dst v) w):bC P ops Q S D (o :: l) t a w:=by
 refine cT hD hw ?_;unfold gives;rw [hr];exact ⟨hSE _ hx,h⟩
theorem gj (hSE:∀ w',Ext W w'->S w') (U:U8 P) (hD:D.contains t=false) (hgd:o.guard=none) (s x:Operand)
  (ho:o.op = .call { callee := .builtin .append,args:=#[s,x],argTypes:=#[33,33] })
  (base:Nat) (sa0:E8)(n c0:Nat) (k:E7)(hs:a.eval s = Zy sa0 n c0) (A:E8)(m c:Nat) (k':E7)(hx:a.eval x = Zy A m c)
  (hown:Own w base sa0 n c0 k) (hsl:Sl w A m k') (hlen:n+m<=140737488355328) (hbase:base<=w.heap.size) (hWb:W.heap.size<=base) (hE:Ext W w)
  (h:∀ sa sc w',Own w' base sa (n+m) sc (k++k')->w.grownBy w' (Value.slice sa0 n c0).ownBlock->Below base w w'->Ext W w'->bC P ops Q S D l (t+1) (a.put o.dst (.slice sa (n+m) sc)) w') :
  bC P ops Q S D (o :: l) t a w:=by
 obtain ⟨sa,sc,w',hrun,h2,h3,h4⟩:=kA U w o.type base sa0 n c0 k hown A m c k' hsl hlen hbase;refine cT hD (by simp [Region.wanted,hgd]) ?_;unfold gives execOp;simp only [ho,resolve,invoke,builtin,aaW,aaX,aaE,abl,aa3,abj,hs,hx,hrun];exact ⟨hSE _ (E9 hE (h4.mono hWb)),h sa sc w' h2 h3 h4 (E9 hE (h4.mono hWb))⟩
theorem vm {f:FuncId} {args:Array Value} {n:Nat} {k:E7} {K:World->Prop} (hW:Ext W w) (hK:K w) (h:Calls P f args w (bZ n k w)) :
  Calls P f args w λ e w'=>∃ v,e = .returned v/\∃ p:Par,v = .slice (p 0).1 n (p 0).2/\Ext w w'/\∃ w0,Ext W w0/\Ext w0 w'/\K w0/\Own w' w0.heap.size (p 0).1 n (p 0).2 k :=
 h.mono λ _ w' ⟨a,c,he,hO,hx⟩=>⟨_,he,λ _=>(a,c),rfl,hx,w,hW,hx,hK,hO⟩
theorem nm {T:TypeId} {n:Nat} (hT:RowT P T n) (hD:D.contains t=false) (hgd:o.guard=none) (x y:Operand) (ho:o.op = .store T x y) (g off:Nat) (hx:a.eval x = .pointer (some ⟨g,off,none⟩)) (cs:List Value)(hy:a.eval y = .agg cs.toArray)
  (T':TypeId)(vs:List Value)(hB:Blk w g T' vs) (hn:cs.length=n) (hfit:off+n<=vs.length) (h1:∀ v∈cs,v.oneCell'=true)
  (h:∀ w',Blk w' g T' (vs.take off++cs++vs.drop (off+n))->Mut g w w'->S w'/\bC P ops Q S D l (t+1) (a.put o.dst undef) w'):bC P ops Q S D (o :: l) t a w:=by
 refine cT hD (by simp [Region.wanted,hgd]) ?_;subst hn;have hrun:=run_storeAt_mid (P:=P) w g off T cs.toArray (by simpa using hB.there off cs.length hfit) (by simpa using hT.info) (all_oneCell_toArray h1);unfold gives execOp;simp only [ho,hx,hy,aaW,hrun,aaE,aaX];exact h _ (fY cs off w vs hB hfit) (fZ cs off w)
theorem iQ (h:Q .normal a w):bC P ops Q S D [] t a w:=h
theorem ee {T:TypeId} {n:Nat} (hT:RowT P T n) (x:Operand) (ho:o.op = .load T x) (hgd:o.guard=none) (b off:Nat) (hx:a.eval x = .pointer (some ⟨b,off,none⟩)) (cs:List Value)(hc:∀ w',S w'->Rd w' (some ⟨b,off,none⟩) cs) (hn:cs.length=n) :
  YieldsIf P ops S o (.agg cs.toArray) a :=
 .inl ⟨by simp [Region.wanted,hgd],λ w hw=>by
  unfold execOp;simp only [ho,hx,aaW,aaX,aaE,jP hT (hc w hw) hn]⟩
end
end Go.Sec.R5

/- As XReg5; the operations behind may end in some whose order is open (they are taken one by one). -/
namespace Go.Sec.R5
open Go.RowKit
section main
variable {P:Program} {ops:Array Oper} {A:List (List Nat)} {a0:Act} {W:World} {T:List (Oper × Ent)} {D:List Nat} {S:World->Prop}
theorem xw {m:Nat} (hB:OkB ops A m) {Q:Exit->Act->World->Prop} {n m2:Nat} (hm2:m2<=ops.size) (htail:∀ t,n<=t->t<m2->D.contains t=false->∀ k,k<t->k∈A.getD t []\/D.contains k=true)
  (hlast:∀ t,m2<=t->t<ops.size->D.contains t=false->∀ k,k<m2->k∈A.getD t []\/D.contains k=true) (E:Act->World->Prop)
  (hE:∀ (fuel:Nat) (listed:Array Bool) (a:Act) (w:World),cnt listed ops.size<=fuel->listed.size=ops.size->(∀ k,k<m2->listed.getD k false=true)->(∀ k,m2<=k->k<ops.size->listed.getD k false=D.contains k)->S w->E a w->wpAnyH P .any ops Q S fuel listed a w) :
  ∀ (l:List Oper) (t:Nat) (fuel:Nat) (listed:Array Bool) (a:Act) (w:World),n<=t->t+l.length=m2->(∀ j,j<l.length->l[j]?=ops[t+j]?)->cnt listed ops.size<=fuel ->
  listed.size=ops.size->(∀ k,k<t->listed.getD k false=true)->(∀ k,t<=k->k<ops.size->listed.getD k false=D.contains k) ->
  (∀ (i:Nat) o,ops[i]?=some o->D.contains i=true->∀ k∈A.getD i [],D.contains k=true)->S w ->
  bC P ops (λ _ a w=>E a w) S D l t a w->wpAnyH P .any ops Q S fuel listed a w:=by
 intro l
 induction l with
 | nil =>
  intro t fuel listed a w hn htm hl hf hs h1 h2 hcl hx h;obtain rfl:t=m2:=by simpa using htm
  exact hE fuel listed a w hf hs h1 h2 hx h
 | cons o l ih =>
  intro t fuel listed a w hn htm hl hf hs h1 h2 hcl hx h;simp only [aaM] at htm;have ho:ops[t]?=some o:=by simpa using (hl 0 Zs).symm
  have hlt:t<ops.size:=(Array.getElem?_eq_some_iff.1 ho).1;unfold bC at h;cases hDt:D.contains t with
  | true =>
   rw [aaj hDt] at h;have hlt':listed.getD t false=true:=by rw [h2 t (aad _) hlt,hDt]
   refine ih (t+1) fuel listed a w Zo Zo (λ j hj=>by have:=hl (j+1) (by simp;omega);simpa [aaY,abi 1 j] using this) hf hs (λ k hk=>?_) (λ k hk hk2=>h2 k Zo hk2) hcl hx h;by_cases hkt:k=t
   ·subst hkt;exact hlt'
   ·exact h1 k Zo
  | false =>
  rw [aae (by rw [hDt];simp)] at h;have hlf:listed.getD t false=false:=by rw [h2 t (aad _) hlt,hDt]
  have hc0:=lW listed t ops.size hlt hlf;cases fuel with
  | zero=>omega
  | succ f =>
   have hc:∀ (i:Nat) o,ops[i]?=some o->listed.getD i false=true->∀ k∈A.getD i [],listed.getD k false=true:=λ i o' hi hli k hk=>by
    exact z14q31
   have hcn:cnt (listed.setIfInBounds t true) ops.size<=f:=by
    exact z14q82
   refine ⟨λ h0=>?_,λ i hi=>?_⟩
   ·have:=iv hB hs hlt hlf h1;rw [h0] at this;cases this
   ·obtain ⟨o',ho',hun,hilt,hw⟩:=cC hB hc hs hi;have hDi:i >= t->D.contains i=false:=λ hge=>by
     exact z14q84
    have hit:i=t:=by
     rcases Nat.lt_trichotomy i t with h'|h'|h'
     ·rw [h1 i h'] at hun;cases hun
     ·exact h'
     ·rcases (if him:i<m2 then htail i Zo him (hDi Zo) t h' else hlast i Zo hilt (hDi Zo) t Zo) with h''|h''
      ·have:=hw t h'';rw [hlf] at this;cases this
      ·rw [hDt] at h'';cases h''
    subst hit;have step:∀ a' w',S w'->bC P ops (λ _ a w=>E a w) S D l (i+1) a' w'->S w'/\wpAnyH P .any ops Q S f (listed.setIfInBounds i true) a' w':=λ a' w' hx' h' =>
     ⟨hx',ih (i+1) f _ a' w' Zo Zo (λ j hj=>by have:=hl (j+1) (by simp;omega);simpa [aaY,abi 1 j] using this) hcn (by simpa using hs) (λ k hk=>by
      by_cases hki:k=i
      ·subst hki;exact cP false Zo
      ·rw [abx false (Ne.symm hki)];exact h1 k Zo) (λ k hk hk2=>by
      rw [abx false Zo];exact h2 k Zo hk2) hcl hx' h'⟩
    unfold wpOp;simp only [ho];by_cases hwn:Region.wanted o (yielded ops a.tmps)=true
    ·exact z14q67
    ·rw [aae hwn] at h;rw [aae hwn];exact step _ _ hx h
theorem xO (hB:OkB ops A T.length) (hT:Tab P ops A a0 W D T) {listed:Array Bool} {a:Act} {w:World} {us:Us} (h:InvD ops A a0 W D T listed a w us) (hall:∀ i,i<T.length->listed.getD i false=true):a=ay a0 T us:=by
 exact z3q5
theorem xl (hSE:∀ w',Ext W w'->S w') (hB:OkB ops A T.length) (hT:Tab P ops A a0 W D T) {Q:Exit->Act->World->Prop} (hlen:T.length<=ops.size) (htail:∀ t,T.length<=t->t<ops.size->D.contains t=false->∀ k,k<T.length->k∈A.getD t []\/D.contains k=true)
  (hdone:∀ (listed:Array Bool) (a:Act) (w:World)(us:Us),InvD ops A a0 W D T listed a w us->(∀ i,i<T.length->listed.getD i false=true)->∀ fuel,cnt listed ops.size<=fuel->wpAnyH P .any ops Q S fuel listed a w) :
  ∀ (fuel:Nat) (listed:Array Bool) (a:Act) (w:World)(us:Us),cnt listed ops.size<=fuel->InvD ops A a0 W D T listed a w us->wpAnyH P .any ops Q S fuel listed a w:=by
 intro fuel
 induction fuel with
 | zero =>
  intro listed a w us hc h;have hall:∀ i,i<ops.size->listed.getD i false=true:=λ i hi=>by
   exact z3q73
  exact hdone _ _ _ us h (λ i hi=>hall i Zo) 0 hc
 | succ f ih =>
  intro listed a w us hc h;by_cases hall:∀ i,i<T.length->listed.getD i false=true
  ·exact hdone _ _ _ us h hall (f+1) hc
  ·have hex:∃ i,i<T.length/\listed.getD i false=false:=by
    exact z3q44
   obtain ⟨m,hm,hmu⟩:=hex;refine ⟨λ h0=>?_,λ i hi=>?_⟩
   ·exact z3q61
   ·obtain ⟨o,ho,hun,hlt,hw⟩:=cC hB h.closed h.size hi;have hDi:D.contains i=false:=by
     exact z14q85
    have hin:i<T.length:=by
     rcases abe i T.length with h'|h'
     ·exact h'
     ·rcases htail i h' hlt hDi m hm with h''|h''
      ·have:=hw m h'';rw [hmu] at this;cases this
      ·rw [h.done m h'' Zo] at hmu;cases hmu
    have hx:=List.getElem?_eq_getElem hin;generalize T[i]=x at hx;have hox:o=x.1:=FG (ho.symm.trans (hT.at' i x hx));subst hox;have hcn:cnt (listed.setIfInBounds i true) ops.size<=f:=by
     exact z3q77
    have hag:eu ops x.1 a (ay a0 (T.take i) us):=by
     exact z3q4
    have hsel:=λ cs b=>aa1 hB.sel i x.1 cs b ho;have hsp:=(hT.spec i x hx hDi).2.2 us w h.ext (λ k hk z hz=>h.facts k z hz (hw k (by simpa using hk)));rw [<- hag.wanted] at hsp;have hg:∀ S,gives P x.1 (ay a0 (T.take i) us).eval w S->gives P x.1 a.eval w S:=λ S hS=>by
     unfold gives at *;rw [hag.exec hsel];exact hS
    unfold wpOp;simp only [ho];by_cases hwn:Region.wanted x.1 (yielded ops a.tmps)=true
    ·exact z14q3
    ·exact z14q29
theorem zf {Q:Exit->Act->World->Prop}:∀ (f f':Nat) (listed:Array Bool) (a:Act) (w:World),listed.size=ops.size->cnt listed ops.size<=f->cnt listed ops.size<=f'->wpAnyH P .any ops Q S f listed a w->wpAnyH P .any ops Q S f' listed a w:=by
 have none:∀ (listed:Array Bool),listed.size=ops.size->cnt listed ops.size=0->Region.ready .any ops listed=[]:=λ listed hs h0=>by
  apply List.eq_nil_iff_forall_not_mem.2;intro i hi;obtain ⟨hun,o,ho,_⟩:=mem_ready.1 hi;have hlt:i<ops.size:=(Array.getElem?_eq_some_iff.1 ho).1;rw [kM Zo] at hun;have:=lW listed i ops.size hlt hun;omega
 intro f
 induction f with
 | zero =>
  intro f' listed a w hs h1 _ h;have hr:=none listed hs Zo;exact abh hr h.2 f'
 | succ f ih =>
  intro f' listed a w hs h1 h2 h;cases f' with
  | zero=>exact ⟨none listed hs Zo,h.1 (none listed hs Zo)⟩
  | succ f' =>
   refine ⟨h.1,λ i hi=>wpOp_mono (λ a' w' h'=>⟨h'.1,ih f' _ a' w' (by simpa using hs) ?_ ?_ h'.2⟩) (h.2 i hi)⟩
   all_goals
    obtain ⟨hun,o,ho,_⟩:=mem_ready.1 hi;have hlt:i<ops.size:=(Array.getElem?_eq_some_iff.1 ho).1;rw [kM Zo] at hun;have:=rj listed i ops.size Zo hun;rw [aaj hlt] at this;omega
end main
section
variable {P:Program} {W:World}
theorem qS {S:World->Prop} {Q:Exit->Act->World->Prop} {a0:Act} {l:List Oper} {listed:Array Bool} {fuel:Nat} {w:World} (n m2:Nat) (A:List (List Nat)) (D:List Nat) (L:Array Bool) (F:Nat) (hW:Ext W w) (hSE:∀ w',Ext W w'->S w') (hB:okB l.toArray A l.length=true) (hn:(decide (n<=m2) && decide (m2<=l.length))=true)
  (htail:((List.range l.length).all λ t=>decide (t<n) || D.contains t || (List.range (min t m2)).all λ k=>(A.getD t []).contains k || D.contains k)=true)
  (hcl:((List.range l.length).all λ i => !D.contains i || (A.getD i []).all λ k=>D.contains k)=true)
  (hls:(listed.size == l.length && ((List.range l.length).all λ i=>listed.getD i false == D.contains i) && decide (cnt listed l.length<=fuel))=true)
  (hL:(L.size == l.length && ((List.range l.length).all λ i=>L.getD i false == (decide (i<m2) || D.contains i)) && decide (cnt L l.length<=F))=true)
  (h:VD P l.toArray A W D (λ a w'=>bC P l.toArray (λ _ a w=>wpAnyH P .any l.toArray Q S F L a w) S D ((l.drop n).take (m2-n)) n a w') (l.take n) 0 [] (λ _=>a0)):wpAnyH P .any l.toArray Q S fuel listed a0 w:=by
 simp only [aaz,aa9] at hn;obtain ⟨hn1,hn2⟩:=hn;have hBl:=jO hB;have hBn:OkB l.toArray A n:=⟨hBl.sel,hBl.lt,hBl.wait,hBl.sub,λ i o hi j x d hj hjm=>hBl.look i o hi j x d hj Zo,λ i o hi j x d hj hjm=>hBl.once i o hi j x d hj Zo,hBl.back⟩;simp only [aaz,aa5,aa9,aaw,aaR] at hls hL;obtain ⟨⟨hs1,hs2⟩,hs3⟩:=hls;obtain ⟨⟨hL1,hL2⟩,hL3⟩:=hL;obtain ⟨T,h1,h2,h3⟩:=gK hBn (a0:=a0) (l.take n) 0 [] _ [] h rfl (by simp;omega) (λ j=>by
  rw [List.getElem?_take];split
  ·right;simp
  ·exact .inl rfl) (λ us=>rfl) Zs Zs
 have hTl:T.length=n:=by rw [h1];simp;omega
 have hT:Tab P l.toArray A a0 W D T:=by
  exact z14q22
 rw [<- hTl] at hBn;have hcl':∀ (i:Nat) o,l.toArray[i]?=some o->D.contains i=true->∀ k∈A.getD i [],D.contains k=true:=λ i o hi hD k hk=>by
  exact z14q35
 have htl:∀ t,n<=t->t<l.length->D.contains t=false->∀ k,k<min t m2->k∈A.getD t []\/D.contains k=true:=λ t ht htl hDt k hk=>by
  have:=aaw.1 htail t (aaR.2 htl);rw [hDt] at this;simp only [Bool.or_false,abz,aa9,aaw,aaR] at this;rcases this with h|h
  ·omega
  ·rcases h k hk with h|h
   ·left;simpa using h
   ·exact .inr h
 refine xl hSE hBn hT (by simp [hTl];omega) (λ t ht htl' hDt k hk=>htl t Zo (by simpa using htl') hDt k Zo) (λ listed a w us hi hall fuel hf=>?_) fuel _ _ _ (λ _ _=>(none,0)) (by simpa using hs3) ?_
 ·rw [xO hBn hT hi hall];refine xw hBn (m2:=m2) (n:=n) (by simpa using hn2) (λ t h1 h2 h3 k hk=>htl t h1 Zo h3 k Zo) (λ t h1 h2 h3 k hk=>htl t Zo (by simpa using h2) h3 k Zo) (λ a w=>wpAnyH P .any l.toArray Q S F L a w)
   (λ fuel listed' a w hf hs e1 e2 hx h=>?_) ((l.drop n).take (m2-n)) n fuel listed _ w (aad _) (by simp;omega) (λ j hj=>?_) hf hi.size (λ k hk=>hall k Zo) (λ k hk hkl=>?_) hcl' (hSE _ hi.ext) ?_
  ·have hLl:L=listed':=by
    apply Array.ext
    ·rw [hL1,hs];simp
    ·intro k k1 k2;have q:=hL2 k Zo;have g1:L.getD k false=L[k]:=by simp [k1]
     have g2:listed'.getD k false=listed'[k]:=by simp [k2]
     rw [<- g1,<- g2,q];by_cases hkm:k<m2
     ·rw [e1 k hkm];simp [hkm]
     ·rw [e2 k Zo (by rw [hL1] at k1;simpa using k1)];simp [hkm]
   subst hLl;exact zf F fuel L a w hs (by simpa using hL3) hf h
  ·simp only [aat,aaJ] at hj;rw [List.getElem?_take,aaj Zo,List.getElem?_drop];simp
  ·cases hd:D.contains k with
   | true=>exact hi.done k hd hkl
   | false=>cases hl:listed.getD k false with
    | false=>rfl
    | true=>rw [hi.tail k Zo hl] at hd;cases hd
  ·exact h3 us w hi.ext (λ i x hx=>hi.facts i x hx (hall i (List.getElem?_eq_some_iff.1 hx).1))
 ·exact z14q6
end
end Go.Sec.R5

/- A region that draws its order, of which only one operation may come up now. -/
namespace Go.Sec.R5
open Go.RowKit
section
variable {P:Program} {ops:Array Oper} {Q:Exit->Act->World->Prop} {S:World->Prop} {o:Oper} {a:Act} {w:World} {fuel:Nat} {listed:Array Bool}
theorem aT (i:Nat) (hr:Region.ready .any ops listed=[i]) (ho:ops[i]?=some o) (hw:Region.wanted o (yielded ops a.tmps)=true)
  (h:gives P o a.eval w (λ v w'=>S w'/\wpAnyH P .any ops Q S fuel (listed.setIfInBounds i true) (a.put o.dst v) w')):wpAnyH P .any ops Q S (fuel+1) listed a w:=by
 refine wpAnyH_all hr Zs ?_;intro j hj;obtain rfl:=aau.1 hj;unfold wpOp;simp only [ho,hw,aba];exact .inl (cO h λ v w' h=>h)
theorem cI {T:TypeId} {n:Nat} (hT:RowT P T n) (i:Nat) (hr:Region.ready .any ops listed=[i]) (ho':ops[i]?=some o) (hgd:o.guard=none) (x y:Operand) (ho:o.op = .store T x y) (g off:Nat) (hx:a.eval x = .pointer (some ⟨g,off,none⟩)) (cs:List Value)(hy:a.eval y = .agg cs.toArray)
  (T':TypeId)(vs:List Value)(hB:Blk w g T' vs) (hn:cs.length=n) (hfit:off+n<=vs.length) (h1:∀ v∈cs,v.oneCell'=true)
  (h:∀ w',Blk w' g T' (vs.take off++cs++vs.drop (off+n))->Mut g w w'->S w'/\wpAnyH P .any ops Q S fuel (listed.setIfInBounds i true) (a.put o.dst undef) w'):wpAnyH P .any ops Q S (fuel+1) listed a w:=by
 refine aT i hr ho' (by simp [Region.wanted,hgd]) ?_;subst hn;have hrun:=run_storeAt_mid (P:=P) w g off T cs.toArray (by simpa using hB.there off cs.length hfit) (by simpa using hT.info) (all_oneCell_toArray h1);unfold gives execOp;simp only [ho,hx,hy,aaW,hrun,aaE,aaX];exact h _ (fY cs off w vs hB hfit) (fZ cs off w)
end
end Go.Sec.R5
