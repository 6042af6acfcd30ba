/- Lemmas of this claim, several texts joined. -/
import Derived.OrdersHeld
import Derived.Test.YtmdahnkcnagkjaaGreatZ3
set_option maxRecDepth 100000
set_option maxHeartbeats 8000000
set_option linter.unusedVariables false
set_option linter.unusedSimpArgs false
/- A region that draws its order: operations that only read are taken first; the others in the text's order; behind them a chain of operations, each of which leaves further memory beyond what was there at the region's start. -/
namespace Go.Sec.R5
open Go.RowKit
def held (a:Act) (d:Option Tmp):Value:=match d with|none=>undef|some d=>a.tmps.getD d undef
section main
variable {P:Program} {ops:Array Oper} {A:List (List Nat)} {a0:Act} {W:World} {T:List (Oper × Ent)} {D:List Nat} {S:World->Prop}
structure Tab (P:Program) (ops:Array Oper) (A:List (List Nat)) (a0:Act) (W:World)(D:List Nat) (T:List (Oper × Ent)):Prop where
 at':∀ (i:Nat) x,T[i]?=some x->ops[i]?=some x.1
 spec:∀ (i:Nat) x,T[i]?=some x->D.contains i=false->dP P ops W (A.getD i []) x.1 i x.2 (ay a0 (T.take i)) (cF T (A.getD i []))
 taken:∀ (i:Nat) x,T[i]?=some x->D.contains i=true->(∀ us,x.2.V us=held a0 x.1.dst)/\∀ us p w,x.2.R us p w
theorem Tab.once (hB:OkB ops A T.length) (hT:Tab P ops A a0 W D T):lN T:=λ i j x y d hi hj hne hd=>hB.once j y.1 (hT.at' j y hj) i x.1 d (hT.at' i x hi) (iD hi) hd hne
theorem eU (hB:OkB ops A T.length) (hT:Tab P ops A a0 W D T) {i:Nat} {o:Oper} (hi:ops[i]?=some o) (us us':Us)
  (h:∀ (j:Nat) x,j∈A.getD i []->T[j]?=some x->x.2.V us=x.2.V us'):eu ops o (ay a0 (T.take i) us) (ay a0 (T.take i) us'):=by
 intro t ht;have hO:=gr (hT.once hB) i;by_cases hw:∃ (j:Nat) (x:Oper × Ent),(T.take i)[j]?=some x/\x.1.dst=some t
 ·exact z3q9
 ·exact z3q52
theorem indep (hB:OkB ops A T.length) (hT:Tab P ops A a0 W D T) (w:World)(hx:Ext W w) (us us':Us):∀ (j:Nat) x,T[j]?=some x ->
  cF T (A.getD j []) us w->(∀ k,k∈A.getD j []\/k=j->us k=us' k)->x.2.V us=x.2.V us':=by
 intro j
 induction j using Nat.strongRecOn with
 | _ j ih =>
  intro x hj hf hus;have hop:=hT.at' j x hj;cases hDj:D.contains j with
  | true=>rw [(hT.taken j x hj hDj).1,(hT.taken j x hj hDj).1]
  | false =>
  obtain ⟨_,hvag,hsp⟩:=hT.spec j x hj hDj;cases hv:x.2.vag with
  | true=>exact hvag hv us us' (hus j (.inr rfl))
  | false =>
   have hf':cF T (A.getD j []) us' w:=λ k hk y hy=>by
    have hkm:k∈A.getD j []:=by simpa using hk
    cases hDk:D.contains k with
    | true=>exact (hT.taken k y hy hDk).2 _ _ _
    | false=>rw [<- hus k (.inl hkm),<- (hT.spec k y hy hDk).1.2 us us' (λ m hm=>hus m (.inl (hB.sub j x.1 hop k hkm m hm)))];exact hf k hk y hy
   have hag:=eU hB hT hop us us' (λ k y hk hy=>by
    refine ih k (hB.lt j x.1 hop k hk) y hy (λ m hm z hz=>hf m ?_ z hz) (λ m hm=>hus m ?_)
    ·exact z3q97
    ·rcases hm with hm|hm
     ·exact .inl (hB.sub j x.1 hop k hk m hm)
     ·subst hm;exact .inl hk)
   have h1:=hsp us w hx hf;have h2:=hsp us' w hx hf';have hsel:=λ cs b=>aa1 hB.sel j x.1 cs b hop;rw [hag.wanted,hag.exec hsel] at h1;simp only [hv] at h1 h2;by_cases hw:Region.wanted x.1 (yielded ops (ay a0 (T.take j) us').tmps)=true
   ·exact z3q33
   ·simp only [hw] at h1 h2;rw [h1.1,h2.1]
structure InvD (ops:Array Oper) (A:List (List Nat)) (a0:Act) (W:World)(D:List Nat) (T:List (Oper × Ent)) (listed:Array Bool) (a:Act) (w:World)(us:Us):Prop where
 size:listed.size=ops.size
 ext:Ext W w
 asize:a.tmps.size=a0.tmps.size
 defers:a.defers=a0.defers
 set:∀ (i:Nat) x t,T[i]?=some x->listed.getD i false=true->x.1.dst=some t->t<a0.tmps.size->a.tmps[t]?=some (x.2.V us)
 unset:∀ t,(∀ (i:Nat) x,T[i]?=some x->listed.getD i false=true->x.1.dst≠some t)->a.tmps[t]?=a0.tmps[t]?
 closed:∀ (i:Nat) o,ops[i]?=some o->listed.getD i false=true->∀ k∈A.getD i [],listed.getD k false=true
 facts:∀ (i:Nat) x,T[i]?=some x->listed.getD i false=true->x.2.R us (us i) w
 tail:∀ i,T.length<=i->listed.getD i false=true->D.contains i=true
 done:∀ i,D.contains i=true->i<ops.size->listed.getD i false=true
def bC (P:Program) (ops:Array Oper) (Q:Exit->Act->World->Prop) (S:World->Prop) (D:List Nat):List Oper->Nat->Act->World->Prop
 | [],_,a,w=>Q .normal a w
 | o :: l,t,a,w=>if D.contains t=true then bC P ops Q S D l (t+1) a w
  else if Region.wanted o (yielded ops a.tmps)=true then gives P o a.eval w (λ v w'=>S w'/\bC P ops Q S D l (t+1) (a.put o.dst v) w') else bC P ops Q S D l (t+1) (a.put o.dst undef) w
theorem _root_.z14q31{p:Prop}(h:p:=by
 have hkl:k<i:=hB.lt i o' hi k hk;have hil:i<ops.size:=(Array.getElem?_eq_some_iff.1 hi).1;rcases abe k t with h'|h'
 ·exact h1 k h'
 ·rw [h2 k h' Zo];refine hcl i o' hi ?_ k hk;rw [<- h2 i Zo hil];exact hli):p:=h
theorem _root_.z14q67{p:Prop}(h:p:=by
 rw [aaj hwn] at h;rw [aaj hwn];exact .inl (cO h λ v w' ⟨hx',hc'⟩=>step _ _ hx' hc')):p:=h
theorem _root_.z14q82{p:Prop}(h:p:=by
 have:=rj listed t ops.size (by rw [hs];exact hlt) hlf;rw [aaj hlt] at this;omega):p:=h
theorem _root_.z14q84{p:Prop}(h:p:=by
 cases hd:D.contains i with
 | false=>rfl
 | true=>rw [h2 i hge hilt,hd] at hun;cases hun):p:=h
theorem pC {m:Nat} (hB:OkB ops A m) {Q:Exit->Act->World->Prop} {n:Nat} (htail:∀ t,n<=t->t<ops.size->D.contains t=false->∀ k,k<t->k∈A.getD t []\/D.contains k=true):∀ (l:List Oper) (t:Nat) (fuel:Nat) (listed:Array Bool) (a:Act) (w:World),n<=t->(∀ j,l[j]?=ops[t+j]?)->cnt listed ops.size<=fuel ->
  listed.size=ops.size->(∀ k,k<t->listed.getD k false=true)->(∀ k,t<=k->k<ops.size->listed.getD k false=D.contains k) ->
  (∀ (i:Nat) o,ops[i]?=some o->D.contains i=true->∀ k∈A.getD i [],D.contains k=true)->S w ->
  bC P ops Q S D l t a w->wpAnyH P .any ops Q S fuel listed a w:=by
 intro l
 induction l with
 | nil =>
  intro t fuel listed a w hn hl hf hs h1 h2 hcl hx h;have hts:ops.size<=t:=by
   have:=hl 0;simp at this;exact this
  have hr:Region.ready .any ops listed=[]:=by
   exact z3q43
  exact abh hr h fuel
 | cons o l ih =>
  intro t fuel listed a w hn hl hf hs h1 h2 hcl hx h;have ho:ops[t]?=some o:=by simpa using (hl 0).symm
  have hlt:t<ops.size:=(Array.getElem?_eq_some_iff.1 ho).1;unfold bC at h;cases hDt:D.contains t with
  | true =>
   rw [aaj hDt] at h;have hlt':listed.getD t false=true:=by rw [h2 t (aad _) hlt,hDt]
   refine ih (t+1) fuel listed a w Zo (λ j=>by have:=hl (j+1);simpa [aaY,abi 1 j] using this) hf hs (λ k hk=>?_) (λ k hk hk2=>h2 k Zo hk2) hcl hx h;by_cases hkt:k=t
   ·subst hkt;exact hlt'
   ·exact h1 k Zo
  | false =>
  rw [aae (by rw [hDt];simp)] at h;have hlf:listed.getD t false=false:=by rw [h2 t (aad _) hlt,hDt]
  have hc0:=lW listed t ops.size hlt hlf;cases fuel with
  | zero=>omega
  | succ f =>
   have hc:∀ (i:Nat) o,ops[i]?=some o->listed.getD i false=true->∀ k∈A.getD i [],listed.getD k false=true:=λ i o' hi hli k hk=>by
    exact z14q31
   have hcn:cnt (listed.setIfInBounds t true) ops.size<=f:=by
    exact z14q82
   refine ⟨λ h0=>?_,λ i hi=>?_⟩
   ·have:=iv hB hs hlt hlf h1;rw [h0] at this;cases this
   ·obtain ⟨o',ho',hun,hilt,hw⟩:=cC hB hc hs hi;have hDi:i >= t->D.contains i=false:=λ hge=>by
     exact z14q84
    have hit:i=t:=by
     rcases Nat.lt_trichotomy i t with h'|h'|h'
     ·rw [h1 i h'] at hun;cases hun
     ·exact h'
     ·rcases htail i Zo hilt (hDi Zo) t h' with h''|h''
      ·have:=hw t h'';rw [hlf] at this;cases this
      ·rw [hDt] at h'';cases h''
    subst hit;have step:∀ a' w',S w'->bC P ops Q S D l (i+1) a' w'->S w'/\wpAnyH P .any ops Q S f (listed.setIfInBounds i true) a' w':=λ a' w' hx' h' =>
     ⟨hx',ih (i+1) f _ a' w' Zo (λ j=>by have:=hl (j+1);simpa [aaY,abi 1 j] using this) hcn (by simpa using hs) (λ k hk=>by
      by_cases hki:k=i
      ·subst hki;exact cP false Zo
      ·rw [abx false (Ne.symm hki)];exact h1 k Zo) (λ k hk hk2=>by
      rw [abx false Zo];exact h2 k Zo hk2) hcl hx' h'⟩
    unfold wpOp;simp only [ho];by_cases hwn:Region.wanted o (yielded ops a.tmps)=true
    ·exact z14q67
    ·rw [aae hwn] at h;rw [aae hwn];exact step _ _ hx h
theorem InvD.step (hB:OkB ops A T.length) (hT:Tab P ops A a0 W D T) {listed:Array Bool} {a:Act} {w:World} {us:Us} (h:InvD ops A a0 W D T listed a w us) {i:Nat} {x:Oper × Ent} (hx:T[i]?=some x)
  (hr:i∈Region.ready .any ops listed) (us':Us) (hus:∀ k,k≠i->us' k=us k) (w':World)(he:Ext w w') (hR:x.2.R us' (us' i) w'):InvD ops A a0 W D T (listed.setIfInBounds i true) (a.put x.1.dst (x.2.V us')) w' us':=by
 obtain ⟨o,ho,hun,hlt,hw⟩:=cC hB h.closed h.size hr;have hox:o=x.1:=FG (ho.symm.trans (hT.at' i x hx));subst hox;have hls:i<listed.size:=by rw [h.size];exact hlt
 have lst:∀ j,j≠i->(listed.setIfInBounds i true).getD j false=listed.getD j false:=λ j hj=>abx false (Ne.symm hj);have same:∀ (j:Nat) y,T[j]?=some y->j≠i->listed.getD j false=true->y.2.V us=y.2.V us':=λ j y hy hji hl=>by
  exact z3q23
 have psz:(a.put x.1.dst (x.2.V us')).tmps.size=a.tmps.size:=by cases x.1.dst <;> simp [Act.put]
 have pdf:(a.put x.1.dst (x.2.V us')).defers=a.defers:=by cases x.1.dst <;> rfl
 have pget:∀ t,x.1.dst≠some t->(a.put x.1.dst (x.2.V us')).tmps[t]?=a.tmps[t]?:=λ t ht=>by
  exact z3q51
 refine ⟨by simpa using h.size,h.ext.trans he,by rw [psz,h.asize],by rw [pdf,h.defers],?_,?_,?_,?_,?_,?_⟩
 ·exact z3q19
 ·exact z3q37
 ·exact z3q53
 ·intro j y hy hl;by_cases hji:j=i
  ·exact z3q96
  ·rw [lst j hji] at hl;cases hDj:D.contains j with
   | true=>exact (hT.taken j y hy hDj).2 _ _ _
   | false =>
    rw [hus j hji,(hT.spec j y hy hDj).1.2 us' us (λ k hk=>hus k (by
     rintro rfl;rw [h.closed j y.1 (hT.at' j y hy) hl k hk] at hun;cases hun))]
    exact (hT.spec j y hy hDj).1.1 us _ _ _ (h.facts j y hy hl) he
 ·exact z3q69
 ·intro j hj hjl;by_cases hji:j=i
  ·subst hji;exact cP false hls
  ·rw [lst j hji];exact h.done j hj hjl
theorem jU (hSE:∀ w',Ext W w'->S w') (hB:OkB ops A T.length) (hT:Tab P ops A a0 W D T) {Q:Exit->Act->World->Prop} (htail:∀ t,T.length<=t->t<ops.size->D.contains t=false->∀ k,k<t->k∈A.getD t []\/D.contains k=true) (hcl:∀ (i:Nat) o,ops[i]?=some o->D.contains i=true->∀ k∈A.getD i [],D.contains k=true)
  (hfin:∀ us w',Ext W w'->(∀ (i:Nat) x,T[i]?=some x->x.2.R us (us i) w')->bC P ops Q S D (ops.toList.drop T.length) T.length (ay a0 T us) w')
  {listed:Array Bool} {a:Act} {w:World} {us:Us} (h:InvD ops A a0 W D T listed a w us) (hall:∀ i,i<T.length->listed.getD i false=true) (fuel:Nat) (hf:cnt listed ops.size<=fuel):wpAnyH P .any ops Q S fuel listed a w:=by
 have ha:a=ay a0 T us:=by
  exact z3q5
 rw [ha];refine pC hB htail (ops.toList.drop T.length) T.length fuel listed _ w (aad _) (λ j=>by simp [List.getElem?_drop]) hf h.size hall (λ k hk hkl=>?_) hcl (hSE _ h.ext) ?_
 ·cases hd:D.contains k with
  | true=>exact h.done k hd hkl
  | false=>cases hl:listed.getD k false with
   | false=>rfl
   | true=>rw [h.tail k hk hl] at hd;cases hd
 exact hfin us w h.ext (λ i x hx=>h.facts i x hx (hall i (List.getElem?_eq_some_iff.1 hx).1))
theorem _root_.z14q3{p:Prop}(h:p:=by
 simp only [hwn,aba] at hsp ⊢;refine .inl ?_;cases hv:x.2.vag with
 | true =>
  simp only [hv,aba] at hsp;refine cO (hg _ hsp) ?_;rintro v w' ⟨p,hp,he,hR⟩;have hv':=hp (λ k=>if k=i then p else us k) Zs;rw [hv'];exact ⟨hSE _ (by first|exact h.ext.trans he|exact h.ext),ih _ _ _ _ hcn (h.step hB hT hx hi (λ k=>if k=i then p else us k) (λ k hk=>by simp [hk]) w' he (by
   rw [(hT.spec i x hx hDi).1.2 (λ k=>if k=i then p else us k) us (λ k hk=>by have:=hB.lt i x.1 ho k hk;rw [aae Zo])];simpa using hR))⟩
 | false =>
  simp only [hv,aaD,abg] at hsp;rw [<- hag.exec hsel] at hsp;have hgo:gives P x.1 a.eval w (λ v w'=>v=x.2.V us/\w'=w):=by
   unfold gives;rcases hsp.1 with h1|⟨h1,h2⟩ <;> rw [h1]
   ·exact ⟨rfl,rfl⟩
   ·exact ⟨h2.symm,rfl⟩
  refine cO hgo ?_;rintro v w' ⟨rfl,rfl⟩;exact ⟨hSE _ (by first|exact h.ext.trans he|exact h.ext),ih _ _ _ _ hcn (h.step hB hT hx hi us (λ k _=>rfl) w' (FD _) (hsp.2 _ _ _))⟩):p:=h
theorem _root_.z14q29{p:Prop}(h:p:=by
 simp only [hwn] at hsp ⊢;simp only [aaD,abg] at hsp ⊢;rw [<- hsp.1];exact ⟨hSE _ (by first|exact h.ext.trans he|exact h.ext),ih _ _ _ _ hcn (h.step hB hT hx hi us (λ k _=>rfl) w (FD _) (hsp.2 _ _ _))⟩):p:=h
theorem _root_.z14q85{p:Prop}(h:p:=by
 cases hd:D.contains i with
 | false=>rfl
 | true=>rw [h.done i hd hlt] at hun;cases hun):p:=h
theorem lP (hSE:∀ w',Ext W w'->S w') (hB:OkB ops A T.length) (hT:Tab P ops A a0 W D T) {Q:Exit->Act->World->Prop} (hlen:T.length<=ops.size) (htail:∀ t,T.length<=t->t<ops.size->D.contains t=false->∀ k,k<t->k∈A.getD t []\/D.contains k=true) (hcl:∀ (i:Nat) o,ops[i]?=some o->D.contains i=true->∀ k∈A.getD i [],D.contains k=true)
  (hfin:∀ us w',Ext W w'->(∀ (i:Nat) x,T[i]?=some x->x.2.R us (us i) w')->bC P ops Q S D (ops.toList.drop T.length) T.length (ay a0 T us) w') :
  ∀ (fuel:Nat) (listed:Array Bool) (a:Act) (w:World)(us:Us),cnt listed ops.size<=fuel->InvD ops A a0 W D T listed a w us->wpAnyH P .any ops Q S fuel listed a w:=by
 intro fuel
 induction fuel with
 | zero =>
  intro listed a w us hc h;have hall:∀ i,i<ops.size->listed.getD i false=true:=λ i hi=>by
   exact z3q73
  exact jU hSE hB hT htail hcl hfin h (λ i hi=>hall i Zo) 0 hc
 | succ f ih =>
  intro listed a w us hc h;by_cases hall:∀ i,i<T.length->listed.getD i false=true
  ·exact jU hSE hB hT htail hcl hfin h hall (f+1) hc
  ·have hex:∃ i,i<T.length/\listed.getD i false=false:=by
    exact z3q44
   obtain ⟨m,hm,hmu⟩:=hex;refine ⟨λ h0=>?_,λ i hi=>?_⟩
   ·exact z3q61
   ·obtain ⟨o,ho,hun,hlt,hw⟩:=cC hB h.closed h.size hi;have hDi:D.contains i=false:=by
     exact z14q85
    have hin:i<T.length:=by
     rcases abe i T.length with h'|h'
     ·exact h'
     ·rcases htail i h' hlt hDi m Zo with h''|h''
      ·have:=hw m h'';rw [hmu] at this;cases this
      ·rw [h.done m h'' Zo] at hmu;cases hmu
    have hx:=List.getElem?_eq_getElem hin;generalize T[i]=x at hx;have hox:o=x.1:=FG (ho.symm.trans (hT.at' i x hx));subst hox;have hcn:cnt (listed.setIfInBounds i true) ops.size<=f:=by
     exact z3q77
    have hag:eu ops x.1 a (ay a0 (T.take i) us):=by
     exact z3q4
    have hsel:=λ cs b=>aa1 hB.sel i x.1 cs b ho;have hsp:=(hT.spec i x hx hDi).2.2 us w h.ext (λ k hk z hz=>h.facts k z hz (hw k (by simpa using hk)));rw [<- hag.wanted] at hsp;have hg:∀ S,gives P x.1 (ay a0 (T.take i) us).eval w S->gives P x.1 a.eval w S:=λ S hS=>by
     unfold gives at *;rw [hag.exec hsel];exact hS
    unfold wpOp;simp only [ho];by_cases hwn:Region.wanted x.1 (yielded ops a.tmps)=true
    ·exact z14q3
    ·exact z14q29
end main
/-! ### The walk -/
def VD (P:Program) (ops:Array Oper) (A:List (List Nat)) (W:World)(D:List Nat) (Q:Act->World->Prop):List Oper->Nat->List (Nat × (Us->Par->World->Prop))->(Us->Act)->Prop
 | [],_,H,F=>∀ us w',Ext W w'->(∀ x∈H,x.2 us (us x.1) w')->Q (F us) w'
 | o :: rest,i,H,F=>(D.contains i=true/\VD P ops A W D Q rest (i+1) H F)\/(D.contains i=false/\∃ e:Ent,dP P ops W (A.getD i []) o i e F (pq H (A.getD i []))/\VD P ops A W D Q rest (i+1) (if e.vag then H++[(i,e.R)] else H) (λ us=>(F us).put o.dst (e.V us)))
section
variable {P:Program} {ops:Array Oper} {A:List (List Nat)} {W:World} {D:List Nat} {Q:Act->World->Prop} {o:Oper} {rest:List Oper} {i:Nat} {H:List (Nat × (Us->Par->World->Prop))} {F:Us->Act}
theorem dH (hD:D.contains i=true) (hr:VD P ops A W D Q rest (i+1) H F):VD P ops A W D Q (o :: rest) i H F := .inl ⟨hD,hr⟩
theorem eB (hD:D.contains i=false) (f:Us->Value) (h:∀ us w',Ext W w'->pq H (A.getD i []) us w'->Region.wanted o (yielded ops (F us).tmps)=true/\(execOp (F us).eval o).run P w' = .ok (.value (f us)) w')
  (hr:VD P ops A W D Q rest (i+1) H (λ us=>(F us).put o.dst (f us))):VD P ops A W D Q (o :: rest) i H F :=
 .inr ⟨hD,⟨f,λ _ _ _=>True,false⟩,⟨⟨λ _ _ _ _ _ _=>trivial,λ _ _ _=>rfl⟩,(λ h=>by cases h),λ us w' hx hf=>by
  obtain ⟨h1,h2⟩:=h us w' hx hf;simp only [h1,aba,aaD,abg];exact ⟨.inl h2,λ _ _ _=>trivial⟩⟩,hr⟩
theorem ai (hD:D.contains i=false) (mk:Par->Value) (R:Par->World->Prop) (hst:my R)
  (h:∀ us w',Ext W w'->pq H (A.getD i []) us w'->Region.wanted o (yielded ops (F us).tmps)=true/\gives P o (F us).eval w' (λ v w''=>∃ p,v=mk p/\Ext w' w''/\R p w''))
  (hr:VD P ops A W D Q rest (i+1) (H++[(i,λ _=>R)]) (λ us=>(F us).put o.dst (mk (us i)))):VD P ops A W D Q (o :: rest) i H F :=
 .inr ⟨hD,⟨λ us=>mk (us i),λ _=>R,true⟩,⟨⟨λ _=>hst,λ _ _ _=>rfl⟩,λ _ us us' he=>by simp only [he],λ us w' hx hf=>by
  obtain ⟨h1,h2⟩:=h us w' hx hf;simp only [h1,aba];exact eJ h2 λ v w'' ⟨p,hp,he,hR⟩=>⟨p,λ us' hu=>by rw [hp,hu],he,hR⟩⟩,hr⟩
theorem Aw (hD:D.contains i=false) (mk:Par->Value) (R:Us->Par->World->Prop) (hst:∀ us,my (R us)) (hcg:∀ us us':Us,(∀ k∈A.getD i [],us k=us' k)->R us=R us')
  (h:∀ us w',Ext W w'->pq H (A.getD i []) us w'->Region.wanted o (yielded ops (F us).tmps)=true/\gives P o (F us).eval w' (λ v w''=>∃ p,v=mk p/\Ext w' w''/\R us p w''))
  (hr:VD P ops A W D Q rest (i+1) (H++[(i,R)]) (λ us=>(F us).put o.dst (mk (us i)))):VD P ops A W D Q (o :: rest) i H F :=
 .inr ⟨hD,⟨λ us=>mk (us i),R,true⟩,⟨⟨hst,hcg⟩,λ _ us us' he=>by simp only [he],λ us w' hx hf=>by
  obtain ⟨h1,h2⟩:=h us w' hx hf;simp only [h1,aba];exact eJ h2 λ v w'' ⟨p,hp,he,hR⟩=>⟨p,λ us' hu=>by rw [hp,hu],he,hR⟩⟩,hr⟩
theorem fN (h:∀ us w',Ext W w'->(∀ x∈H,x.2 us (us x.1) w')->Q (F us) w'):VD P ops A W D Q [] i H F:=h
theorem yG {a a0:Act} {d:Option Tmp} (h:∀ t,d=some t->a.tmps[t]?=a0.tmps[t]?):a.put d (held a0 d)=a:=by
 cases d with
 | none=>rfl
 | some t =>
  have h:=h t rfl;show (Act.mk (a.tmps.setIfInBounds t (a0.tmps.getD t undef)) a.defers)=a;have:a.tmps.setIfInBounds t (a0.tmps.getD t undef)=a.tmps:=by
   apply Array.ext_getElem?;intro k;by_cases hk:t=k
   ·subst hk;by_cases ht:t<a.tmps.size
    ·rw [Array.getElem?_setIfInBounds_self_of_lt ht,h,Array.getD_eq_getD_getElem?,<- h,Array.getElem?_eq_getElem ht];rfl
    ·rw [Array.getElem?_eq_none (by rw [Array.size_setIfInBounds];exact abD ht),Array.getElem?_eq_none (abD ht)]
   ·rw [Array.getElem?_setIfInBounds_ne hk]
  rw [this]
theorem gK {a0:Act} {n:Nat} (hB:OkB ops A n):∀ (l:List Oper) (i:Nat) (H:List (Nat × (Us->Par->World->Prop))) (F:Us->Act) (T:List (Oper × Ent)),VD P ops A W D Q l i H F->T.length=i->i+l.length<=n->(∀ j,l[j]?=none\/l[j]?=ops[i+j]?) ->
  (∀ us,F us=ay a0 T us)->(∀ x∈H,∃ y,T[x.1]?=some y/\y.2.R=x.2) ->
  (∀ (j:Nat) y,T[j]?=some y->ops[j]?=some y.1/\(D.contains j=false->dP P ops W (A.getD j []) y.1 j y.2 (ay a0 (T.take j)) (cF (T.take j) (A.getD j [])))/\(D.contains j=true->(∀ us,y.2.V us=held a0 y.1.dst)/\∀ us p w,y.2.R us p w)) ->
  ∃ T':List (Oper × Ent),T'.length=i+l.length/\(∀ (j:Nat) y,T'[j]?=some y->ops[j]?=some y.1/\(D.contains j=false->dP P ops W (A.getD j []) y.1 j y.2 (ay a0 (T'.take j)) (cF (T'.take j) (A.getD j [])))/\(D.contains j=true->(∀ us,y.2.V us=held a0 y.1.dst)/\∀ us p w,y.2.R us p w)) /\
   ∀ us w',Ext W w'->(∀ (j:Nat) y,T'[j]?=some y->y.2.R us (us j) w')->Q (ay a0 T' us) w'
 | [],i,H,F,T,h,hl,_,_,hF,hH,hT=>⟨T,by simpa using hl,hT,λ us w' hx hf=>by
   rw [<- hF us];exact h us w' hx λ x hxH=>by
    obtain ⟨y,hy,hR⟩:=hH x hxH;rw [<- hR];exact hf x.1 y hy⟩
 | o :: rest,i,H,F,T,h,hl,hn,ho,hF,hH,hT=>by
  have hoi:ops[i]?=some o:=by
   rcases ho 0 with h0|h0
   ·simp at h0
   ·simpa using h0.symm
  have hFe:F=ay a0 T:=funext hF;have hrest:=λ j=>(show (rest[j]?=none\/rest[j]?=ops[i+1+j]?) by have:=ho (j+1);simpa [aaY,abi 1 j] using this);have hold:∀ (e:Ent) (H':List (Nat × (Us->Par->World->Prop))),(∀ x∈H',x∈H\/x=(i,e.R))->∀ x∈H',∃ y,(T++[(o,e)])[x.1]?=some y/\y.2.R=x.2:=λ e H' hH' x hx=>by
   rcases hH' x hx with hin|rfl
   ·exact z3q58
   ·exact ⟨(o,e),by rw [List.getElem?_append_right Zo];simp [hl],rfl⟩
  have htab:∀ (e:Ent),(D.contains i=false->dP P ops W (A.getD i []) o i e (ay a0 T) (cF T (A.getD i [])))->(D.contains i=true->(∀ us,e.V us=held a0 o.dst)/\∀ us p w,e.R us p w) ->
    ∀ (j:Nat) y,(T++[(o,e)])[j]?=some y->ops[j]?=some y.1/\(D.contains j=false->dP P ops W (A.getD j []) y.1 j y.2 (ay a0 ((T++[(o,e)]).take j)) (cF ((T++[(o,e)]).take j) (A.getD j [])))/\(D.contains j=true->(∀ us,y.2.V us=held a0 y.1.dst)/\∀ us p w,y.2.R us p w):=λ e h1 h2 j y hy=>by
   by_cases hj:j<T.length
   ·exact z3q71
   ·have hji:j=i:=by
     have:=(List.getElem?_eq_some_iff.1 hy).1;simp at this;omega
    subst hji;rw [List.getElem?_append_right Zo] at hy;have hy':(o,e)=y:=by simpa [hl] using hy
    subst hy';rw [aax Zo,aah Zo];exact ⟨hoi,h1,h2⟩
  rcases h with ⟨hD,hr⟩|⟨hD,e,hs,hr⟩
  ·have hput:∀ us,(ay a0 T us).put o.dst (held a0 o.dst)=ay a0 T us:=λ us=>yG λ t ht=>dq a0 T us t λ j y hy hd=>by
    have hj:=(hT j y hy).1;have hjl:=iD hy;exact hB.once j y.1 hj i o t hoi (by simp at hn;omega) ht Zo hd
   obtain ⟨T',h1,h2,h3⟩:=gK hB (a0:=a0) rest (i+1) H F (T++[(o,⟨λ _=>held a0 o.dst,λ _ _ _=>True,false⟩)]) hr (by simp [hl]) (by simp at hn ⊢;omega) hrest
    (λ us=>by rw [ej,hF us];exact (hput us).symm) (hold _ H (λ x hx => .inl hx)) (htab _ (λ h=>by rw [hD] at h;cases h) (λ _=>⟨λ _=>rfl,λ _ _ _=>trivial⟩))
   exact ⟨T',by rw [h1];simp;omega,h2,h3⟩
  ·obtain ⟨T',h1,h2,h3⟩:=gK hB (a0:=a0) rest (i+1) _ _ (T++[(o,e)]) hr (by simp [hl]) (by simp at hn ⊢;omega) hrest
    (λ us=>by rw [ej,hF us]) (hold e _ (λ x hx=>by
     split at hx
     ·simpa using hx
     ·exact .inl hx)) (htab e (λ _=>by
     rw [<- hFe];refine ⟨hs.1,hs.2.1,λ us w' hx hf=>hs.2.2 us w' hx λ x hxH hc=>?_⟩;obtain ⟨y,hy,hR⟩:=hH x hxH;rw [<- hR];exact hf x.1 hc y hy) (λ h=>by rw [hD] at h;cases h))
   exact ⟨T',by rw [h1];simp;omega,h2,h3⟩
theorem _root_.z14q6{p:Prop}(h:p:=by
 refine ⟨by simpa using hs1,hW,rfl,rfl,?_,λ _ _=>rfl,?_,?_,?_,?_⟩
 ·intro i x t hx hl hd ht;have hil:i<l.length:=by have:=iD hx;omega
  rw [hs2 i hil] at hl;rw [(hT.taken i x hx hl).1,hd];show _=some (a0.tmps.getD t undef);rw [Array.getD_eq_getD_getElem?,Array.getElem?_eq_getElem ht];rfl
 ·intro i o hi hl k hk;have hil:i<l.length:=by simpa using (Array.getElem?_eq_some_iff.1 hi).1
  rw [hs2 i hil] at hl;have hkD:=hcl' i o hi hl k hk;have hki:=hBn.lt i o hi k hk;rw [hs2 k Zo];exact hkD
 ·intro i x hx hl;have hil:i<l.length:=by have:=iD hx;omega
  rw [hs2 i hil] at hl;exact (hT.taken i x hx hl).2 _ _ _
 ·intro i hi hl;by_cases hil:i<l.length
  ·rw [hs2 i hil] at hl;exact hl
  ·rw [Array.getD_eq_getD_getElem?,Array.getElem?_eq_none Zo] at hl;simp at hl
 ·intro i hD hil;rw [hs2 i (by simpa using hil)];exact hD):p:=h
theorem _root_.z14q22{p:Prop}(h:p:=by
 refine ⟨λ i x hx=>(h2 i x hx).1,λ i x hx hD=>?_,λ i x hx hD=>(h2 i x hx).2.2 hD⟩;obtain ⟨hs1,hs2,hs3⟩:=(h2 i x hx).2.1 hD;refine ⟨hs1,hs2,λ us w' hx' hf=>hs3 us w' hx' λ k hk y hy=>?_⟩;rw [List.getElem?_take] at hy;split at hy
 ·exact hf k hk y hy
 ·cases hy):p:=h
theorem _root_.z14q35{p:Prop}(h:p:=by
 have hil:i<l.length:=by simpa using (Array.getElem?_eq_some_iff.1 hi).1
 have:=aaw.1 hcl i (aaR.2 hil);rw [hD] at this;simp only [Bool.not_true,Bool.false_or,aaw] at this;exact this k hk):p:=h
theorem pD {S:World->Prop} {Q:Exit->Act->World->Prop} {a0:Act} {l:List Oper} {listed:Array Bool} {fuel:Nat} {w:World} (n:Nat) (A:List (List Nat)) (D:List Nat) (hW:Ext W w) (hSE:∀ w',Ext W w'->S w') (hB:okB l.toArray A l.length=true) (hn:decide (n<=l.length)=true)
  (htail:((List.range l.length).all λ t=>decide (t<n) || D.contains t || (List.range t).all λ k=>(A.getD t []).contains k || D.contains k)=true)
  (hcl:((List.range l.length).all λ i => !D.contains i || (A.getD i []).all λ k=>D.contains k)=true)
  (hls:(listed.size == l.length && ((List.range l.length).all λ i=>listed.getD i false == D.contains i) && decide (cnt listed l.length<=fuel))=true)
  (h:VD P l.toArray A W D (λ a w'=>bC P l.toArray Q S D (l.drop n) n a w') (l.take n) 0 [] (λ _=>a0)):wpAnyH P .any l.toArray Q S fuel listed a0 w:=by
 have hn':n<=l.length:=by simpa using hn
 have hBl:=jO hB;have hBn:OkB l.toArray A n:=⟨hBl.sel,hBl.lt,hBl.wait,hBl.sub,λ i o hi j x d hj hjm=>hBl.look i o hi j x d hj Zo,λ i o hi j x d hj hjm=>hBl.once i o hi j x d hj Zo,hBl.back⟩;simp only [aaz,aa5,aa9,aaw,aaR] at hls;obtain ⟨⟨hs1,hs2⟩,hs3⟩:=hls;obtain ⟨T,h1,h2,h3⟩:=gK hBn (a0:=a0) (l.take n) 0 [] _ [] h rfl (by simp;omega) (λ j=>by
  rw [List.getElem?_take];split
  ·right;simp
  ·exact .inl rfl) (λ us=>rfl) Zs Zs
 have hTl:T.length=n:=by rw [h1];simp;omega
 have hT:Tab P l.toArray A a0 W D T:=by
  exact z14q22
 rw [<- hTl] at hBn;have hcl':∀ (i:Nat) o,l.toArray[i]?=some o->D.contains i=true->∀ k∈A.getD i [],D.contains k=true:=λ i o hi hD k hk=>by
  exact z14q35
 refine lP hSE hBn hT (by simp [hTl];omega) (λ t ht htl hDt k hk=>?_) hcl' (λ us w' hx hf=>?_) fuel _ _ _ (λ _ _=>(none,0)) (by simpa using hs3) ?_
 ·have:=aaw.1 htail t (aaR.2 (by simpa using htl));rw [hDt] at this;simp only [Bool.or_false,abz,aa9,aaw,aaR] at this;rcases this with h|h
  ·omega
  ·rcases h k hk with h|h
   ·left;simpa using h
   ·exact .inr h
 ·have:=h3 us w' hx hf;rw [hTl];simpa using this
 ·exact z14q6
end
end Go.Sec.R5
