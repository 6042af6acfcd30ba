/- Lemmas of this claim, several texts joined. -/
import Derived.StillTail
import Derived.Test.YtmdahnkcnagkjaaGreatZ2
set_option maxRecDepth 100000
set_option maxHeartbeats 8000000
set_option linter.unusedVariables false
set_option linter.unusedSimpArgs false
/- A region that draws its order, whose operations read, make memory or call what only makes memory: one walk, in the text's order. What an operation that makes memory hands back is known by a law that stays true as memory grows, not by its address. -/
namespace Go.Sec
open Go.RowKit
abbrev SC:=E8 × Nat
abbrev Par:=Nat->SC
abbrev Us:=Nat->Par
section
variable {P:Program}
def gives (P:Program) (o:Oper) (ρ:Operand->Value) (w:World)(S:Value->World->Prop):Prop :=
 match (execOp ρ o).run P w with
 | .ok (.value v) w'=>S v w'
 | .ok .skip w'=>S undef w'
 | .ok (.enter f args) w'=>Calls P f args w' (λ e w''=>∃ v,e = .returned v/\S v w'')
 | _=>False
theorem eJ {o:Oper} {ρ:Operand->Value} {w:World} {S S':Value->World->Prop} (h:gives P o ρ w S) (hh:∀ v w',S v w'->S' v w'):gives P o ρ w S':=by
 unfold gives at *;split <;> simp_all
 rename_i h1;exact h.mono λ e w'' ⟨v,he,hs⟩=>⟨v,he,hh _ _ hs⟩
theorem cO {o:Oper} {a:Act} {w:World} {S:Value->World->Prop} {K:Act->World->Prop} {Q:Exit->Act->World->Prop} (h:gives P o a.eval w S) (hh:∀ v w',S v w'->K (a.put o.dst v) w'):o.wp P a w K Q:=by
 unfold gives at h;unfold Oper.wp;generalize (execOp a.eval o).run P w=r at *;cases r with
 | ok n w' =>
  cases n <;> simp only at h <;> simp only [Oper.upon]
  case value u=>exact hh _ _ h
  case skip=>exact hh _ _ h
  case enter f args=>exact h.mono λ e w'' ⟨v,he,hs⟩=>by subst he;exact hh _ _ hs
 | halt x w'=>simp only at h
structure Ent where
 V:Us->Value
 R:Us->Par->World->Prop
 vag:Bool
instance:Inhabited Ent:=⟨⟨λ _=>undef,λ _ _ _=>True,false⟩⟩
def ay (a0:Act):List (Oper × Ent)->Us->Act
 | [],_=>a0
 | (o,e) :: r,us=>ay (a0.put o.dst (e.V us)) r us
theorem _root_.z3q95{p:Prop}(h:p:=by
 induction l generalizing a0 with
 | nil=>rfl
 | cons y r ih=>exact ih _):p:=h
theorem ej (a0:Act) (l:List (Oper × Ent)) (x:Oper × Ent) (us:Us):ay a0 (l++[x]) us=(ay a0 l us).put x.1.dst (x.2.V us):=by
 exact z3q95
def my (R:Par->World->Prop):Prop:=∀ p w w',R p w->Ext w w'->R p w'
def dP (P:Program) (ops:Array Oper) (W:World)(L:List Nat) (o:Oper) (i:Nat) (e:Ent) (F:Us->Act) (fact:Us->World->Prop):Prop :=
 ((∀ us,my (e.R us))/\∀ us us':Us,(∀ k∈L,us k=us' k)->e.R us=e.R us')/\(e.vag=true->∀ us us':Us,us i=us' i->e.V us=e.V us') /\
 ∀ us w',Ext W w'->fact us w' ->
  if Region.wanted o (yielded ops (F us).tmps)=true then
   (if e.vag then gives P o (F us).eval w' (λ v w''=>∃ p:Par,(∀ us':Us,us' i=p->v=e.V us')/\Ext w' w''/\e.R us p w'')
    else ((execOp (F us).eval o).run P w' = .ok (.value (e.V us)) w'\/((execOp (F us).eval o).run P w' = .ok .skip w'/\e.V us=undef))/\∀ us p w,e.R us p w)
  else e.V us=undef/\∀ us p w,e.R us p w
def cF (T:List (Oper × Ent)) (L:List Nat) (us:Us) (w:World):Prop:=∀ k,L.contains k=true->∀ x,T[k]?=some x->x.2.R us (us k) w
def okB (ops:Array Oper) (A:List (List Nat)) (m:Nat):Bool :=
 Region.noSelect ops && A.length == ops.size &&
 (List.range ops.size).all λ i =>
  match ops[i]? with
  | none=>false
  | some o =>
   ((A.getD i []).all λ j=>decide (j<i) && ((o.after.any λ e=>Region.binds .any e && (e.on == j || (decide (e.on<i) && (A.getD e.on []).contains j)))) && (A.getD j []).all λ k=>(A.getD i []).contains k) &&
   ((List.range ops.size).all λ j =>
    decide (m<=j) || match ops[j]? with
    | none=>false
    | some x=>match x.dst with
     | none=>true
     | some d=>(!(o.looksAt ops).contains d || (A.getD i []).contains j) && (j == i || o.dst != some d)) &&
   o.after.all λ e => !Region.binds .any e || decide (e.on<i)
structure OkB (ops:Array Oper) (A:List (List Nat)) (m:Nat):Prop where
 sel:Region.noSelect ops=true
 lt:∀ (i:Nat) (o:Oper),ops[i]?=some o->∀ j∈A.getD i [],j<i
 wait:∀ (i:Nat) (o:Oper),ops[i]?=some o->∀ j∈A.getD i [],∃ e∈o.after,Region.binds .any e=true/\(e.on=j\/(e.on<i/\j∈A.getD e.on []))
 sub:∀ (i:Nat) (o:Oper),ops[i]?=some o->∀ j∈A.getD i [],∀ k∈A.getD j [],k∈A.getD i []
 look:∀ (i:Nat) (o:Oper),ops[i]?=some o->∀ (j:Nat) (x:Oper) d,ops[j]?=some x->j<m->x.dst=some d->d∈o.looksAt ops->j∈A.getD i []
 once:∀ (i:Nat) (o:Oper),ops[i]?=some o->∀ (j:Nat) (x:Oper) d,ops[j]?=some x->j<m->x.dst=some d->j≠i->o.dst≠some d
 back:∀ (i:Nat) (o:Oper),ops[i]?=some o->∀ e∈o.after,Region.binds .any e=true->e.on<i
theorem iD {α:Type _} {l:List α} {i:Nat} {x:α} (h:l[i]?=some x):i<l.length:=(List.getElem?_eq_some_iff.1 h).1
theorem jO {ops:Array Oper} {A:List (List Nat)} {m:Nat} (h:okB ops A m=true):OkB ops A m:=by
 simp only [okB,aaz,aaw,aaR] at h;obtain ⟨⟨h1,h2⟩,h3⟩:=h;have key:∀ (i:Nat) (o:Oper),ops[i]?=some o->i<ops.size:=λ i o hi=>(Array.getElem?_eq_some_iff.1 hi).1;have main:=λ (i:Nat) (o:Oper) (hi:ops[i]?=some o)=>by
  have:=h3 i (key i o hi);simp only [hi,aaz,aaw,aaR] at this;exact this
 refine ⟨h1,?_,?_,?_,?_,?_,?_⟩
 ·intro i o hi j hj;have:=((main i o hi).1.1 j hj).1.1;simpa using this
 ·intro i o hi j hj;have:=((main i o hi).1.1 j hj).1.2;obtain ⟨e,he,hb⟩:=Array.any_eq_true'.1 this;simp only [aaz,abz,aa5,aa9,List.contains_iff_mem] at hb;exact ⟨e,he,hb.1,hb.2⟩
 ·intro i o hi j hj k hk;have:=((main i o hi).1.1 j hj).2 k hk;simpa using this
 ·intro i o hi j x d hj hjm hd hl;have:=(main i o hi).1.2 j (key j x hj);simp only [hj,hd,show ¬ m<=j from Zo,decide_false,Bool.false_or,aaz,abz,Bool.not_eq_true',List.contains_iff_mem] at this;rcases this.1 with h|h
  ·have:(o.looksAt ops).contains d=true:=by simpa using hl
   rw [this] at h;cases h
  ·exact h
 ·intro i o hi j x d hj hjm hd hne;have:=(main i o hi).1.2 j (key j x hj);simp only [hj,hd,show ¬ m<=j from Zo,decide_false,Bool.false_or,aaz,abz,aa5,aao] at this;rcases this.2 with h|h
  ·exact absurd h hne
  ·exact h
 ·intro i o hi e he hb;have:=Array.all_eq_true_iff_forall_mem.1 (main i o hi).2 e he;simp only [abz,Bool.not_eq_true',aa9,hb] at this;simpa using this
def lN (T:List (Oper × Ent)):Prop:=∀ (i j:Nat) x y d,T[i]?=some x->T[j]?=some y->i≠j->x.1.dst=some d->y.1.dst≠some d
theorem _root_.z3q45{p:Prop}(h:p:=by
 induction T generalizing a0 with
 | nil=>exact ⟨rfl,rfl⟩
 | cons x r ih =>
  have:=ih (a0.put x.1.dst (x.2.V us));simp only [ay];rw [this.1,this.2];cases x.1.dst <;> simp [Act.put]):p:=h
theorem fw (a0:Act) (T:List (Oper × Ent)) (us:Us):(ay a0 T us).tmps.size=a0.tmps.size/\(ay a0 T us).defers=a0.defers:=by
 exact z3q45
theorem _root_.z3q18{p:Prop}(h:p:=by
 induction T generalizing a0 with
 | nil=>rfl
 | cons x r ih =>
  simp only [ay];rw [ih _ (λ i y hy=>h (i+1) y (by simpa using hy))];have:=h 0 x rfl;cases hd:x.1.dst with
  | none=>rfl
  | some d =>
   rw [hd] at this;have hne:d≠t:=λ e=>this (by rw [e]);simp [Act.put,Array.getElem?_setIfInBounds_ne hne]):p:=h
theorem dq (a0:Act) (T:List (Oper × Ent)) (us:Us) (t:Nat) (h:∀ (i:Nat) x,T[i]?=some x->x.1.dst≠some t):(ay a0 T us).tmps[t]?=a0.tmps[t]?:=by
 exact z3q18
theorem fu (a0:Act) (T:List (Oper × Ent)) (us:Us) (hO:lN T) (i:Nat) (x:Oper × Ent) (t:Nat) (hi:T[i]?=some x) (hd:x.1.dst=some t) (ht:t<a0.tmps.size) :
  (ay a0 T us).tmps[t]?=some (x.2.V us):=by
 induction T generalizing a0 i with
 | nil=>simp at hi
 | cons y r ih =>
  simp only [ay];cases i with
  | zero =>
   have hy:y=x:=by simpa using hi
   subst hy;rw [dq _ r us t (λ j z hz=>hO 0 (j+1) y z t rfl (by simpa using hz) Zo hd)];simp [Act.put,hd,ht]
  | succ i =>
   refine ih (a0.put y.1.dst (y.2.V us)) (λ a b p q d h1 h2 h3=>hO (a+1) (b+1) p q d (by simpa using h1) (by simpa using h2) Zo) i (by simpa using hi) ?_;cases y.1.dst <;> simpa [Act.put] using ht
section main
variable {ops:Array Oper} {A:List (List Nat)} {a0:Act} {W:World} {T:List (Oper × Ent)}
structure Tab (P:Program) (ops:Array Oper) (A:List (List Nat)) (a0:Act) (W:World)(T:List (Oper × Ent)):Prop where
 at':∀ (i:Nat) x,T[i]?=some x->ops[i]?=some x.1
 spec:∀ (i:Nat) x,T[i]?=some x->dP P ops W (A.getD i []) x.1 i x.2 (ay a0 (T.take i)) (cF T (A.getD i []))
theorem _root_.z3q55{p:Prop}(h:p:=by
 rw [List.getElem?_take] at hi hj;split at hi <;> split at hj <;> first|(cases hi;done)|(cases hj;done)|skip
 exact h i j x y d hi hj):p:=h
theorem gr (h:lN T) (m:Nat):lN (T.take m):=λ i j x y d hi hj=>by
 exact z3q55
def eu (ops:Array Oper) (o:Oper) (a b:Act):Prop:=∀ t∈o.looksAt ops,a.tmps[t]?=b.tmps[t]?
theorem _root_.z3q47{p:Prop}(h:p:=by
 cases x with
 | tmp t =>
  have:=h t (aaI _ (List.mem_filterMap.2 ⟨.tmp t,by simpa using hx,rfl⟩));simp only [Act.eval,Array.getD_eq_getD_getElem?,this]
 | _=>rfl):p:=h
theorem eu.exec {o:Oper} {a b:Act} (hs:∀ cs b,o.op ≠ .select cs b) (h:eu ops o a b):execOp a.eval o=execOp b.eval o :=
 execOp_congr o hs λ x hx=>by
  exact z3q47
theorem _root_.z3q17{p:Prop}(h:p:=by
 unfold Region.wanted;cases hg:o.guard with
 | none=>rfl
 | some gw =>
  obtain ⟨g,want⟩:=gw;have hy:yielded ops a.tmps g=yielded ops b.tmps g:=by
   unfold yielded;cases ht:(ops[g]?).bind (·.dst) with
   | none=>rfl
   | some t =>
    have:=h t (by simp [Oper.looksAt,hg,ht]);simp only [Option.bind_some,this]
  simp only [hy]):p:=h
theorem eu.wanted {o:Oper} {a b:Act} (h:eu ops o a b):Region.wanted o (yielded ops a.tmps)=Region.wanted o (yielded ops b.tmps):=by
 exact z3q17
structure Inv (ops:Array Oper) (A:List (List Nat)) (a0:Act) (W:World)(T:List (Oper × Ent)) (listed:Array Bool) (a:Act) (w:World)(us:Us):Prop where
 size:listed.size=ops.size
 ext:Ext W w
 asize:a.tmps.size=a0.tmps.size
 defers:a.defers=a0.defers
 set:∀ (i:Nat) x t,T[i]?=some x->listed.getD i false=true->x.1.dst=some t->t<a0.tmps.size->a.tmps[t]?=some (x.2.V us)
 unset:∀ t,(∀ (i:Nat) x,T[i]?=some x->listed.getD i false=true->x.1.dst≠some t)->a.tmps[t]?=a0.tmps[t]?
 closed:∀ (i:Nat) o,ops[i]?=some o->listed.getD i false=true->∀ k∈A.getD i [],listed.getD k false=true
 facts:∀ (i:Nat) x,T[i]?=some x->listed.getD i false=true->x.2.R us (us i) w
 tail:∀ i,T.length<=i->listed.getD i false=false
def cnt (listed:Array Bool):Nat->Nat
 | 0=>0
 | m+1=>cnt listed m+if listed.getD m false=true then 0 else 1
theorem cP {listed:Array Bool} {i:Nat} (d:Bool) (h:i<listed.size):(listed.setIfInBounds i true).getD i d=true:=by
 simp [h]
theorem rj (listed:Array Bool) (i m:Nat) (hi:i<listed.size) (h:listed.getD i false=false):cnt (listed.setIfInBounds i true) m+(if i<m then 1 else 0)<=cnt listed m:=by
 induction m with
 | zero=>simp [cnt]
 | succ m ih =>
  simp only [cnt];by_cases him:i=m
  ·subst him;rw [cP false hi,h];simp at ih ⊢;omega
  ·rw [abx false him];have:(if i<m+1 then 1 else 0)=(if i<m then 1 else 0:Nat):=by split <;> split <;> omega
   omega
theorem lW (listed:Array Bool) (i m:Nat) (hi:i<m) (h:listed.getD i false=false):1<=cnt listed m:=by
 induction m with
 | zero=>omega
 | succ m ih =>
  simp only [cnt];by_cases him:i=m
  ·subst him;rw [h];simp
  ·have:=ih Zo;omega
theorem uj (listed:Array Bool) (m:Nat):cnt listed m<=m:=by
 induction m with
 | zero=>simp [cnt]
 | succ m ih=>simp only [cnt];split <;> omega
theorem kM {listed:Array Bool} {i:Nat} (hi:i<listed.size):listed.getD i true=listed.getD i false:=by simp [hi]
theorem iv {m:Nat} (hB:OkB ops A m) {listed:Array Bool} (hs:listed.size=ops.size) {i:Nat} (hi:i<ops.size) (hun:listed.getD i false=false) (hall:∀ k,k<i->listed.getD k false=true):i∈Region.ready .any ops listed:=by
 rw [mem_ready];refine ⟨by rw [kM Zo];exact hun,ops[i],Array.getElem?_eq_getElem hi,λ e he hb=>hall _ (hB.back i ops[i] (Array.getElem?_eq_getElem hi) e he hb)⟩
theorem cC {m:Nat} (hB:OkB ops A m) {listed:Array Bool} (hc:∀ (i:Nat) o,ops[i]?=some o->listed.getD i false=true->∀ k∈A.getD i [],listed.getD k false=true) (hs:listed.size=ops.size) {i:Nat} (h:i∈Region.ready .any ops listed) :
  ∃ o,ops[i]?=some o/\listed.getD i false=false/\i<ops.size/\∀ k∈A.getD i [],listed.getD k false=true:=by
 obtain ⟨h0,o,ho,hall⟩:=mem_ready.1 h;have hlt:i<ops.size:=(Array.getElem?_eq_some_iff.1 ho).1;refine ⟨o,ho,by rw [<- kM Zo];exact h0,hlt,λ k hk=>?_⟩;obtain ⟨e,he,hb,h1|⟨h1,h2⟩⟩:=hB.wait i o ho k hk
 ·rw [<- h1];exact hall e he hb
 ·exact hc e.on ops[e.on] (Array.getElem?_eq_getElem Zo) (hall e he hb) k h2
theorem _root_.z3q43{p:Prop}(h:p:=by
 apply List.eq_nil_iff_forall_not_mem.2;intro i hi;obtain ⟨h0,o,ho,_⟩:=mem_ready.1 hi;have hlt:i<ops.size:=(Array.getElem?_eq_some_iff.1 ho).1;rw [kM Zo,h1 i Zo] at h0;cases h0):p:=h
theorem _root_.z3q56{p:Prop}(h:p:=by
 by_cases hki:k=i
 ·subst hki;exact cP false Zo
 ·rw [abx false (Ne.symm hki)];exact h1 k Zo):p:=h
theorem _root_.z3q62{p:Prop}(h:p:=by
 have:k<i:=hB.lt i o' hi k hk;rcases abe i t with h'|h'
 ·exact h1 k Zo
 ·rw [h2 i h'] at hli;cases hli):p:=h
theorem _root_.z3q87{p:Prop}(h:p:=by
 have:=iv hB hs hlt (h2 t (aad _)) h1;rw [h0] at this;cases this):p:=h
theorem pC {m:Nat} (hB:OkB ops A m) {Q:Exit->Act->World->Prop} {n:Nat} (htail:∀ t,n<=t->t<ops.size->∀ k,k<t->k∈A.getD t []):∀ (l:List Oper) (t:Nat) (fuel:Nat) (listed:Array Bool) (a:Act) (w:World),n<=t->(∀ j,l[j]?=ops[t+j]?)->l.length<=fuel ->
  listed.size=ops.size->(∀ k,k<t->listed.getD k false=true)->(∀ k,t<=k->listed.getD k false=false) ->
  wpList P ops Q l a w->wpAny P .any ops Q fuel listed a w:=by
 intro l
 induction l with
 | nil =>
  intro t fuel listed a w hn hl hf hs h1 h2 h;have hts:ops.size<=t:=by
   have:=hl 0;simp at this;exact this
  have hr:Region.ready .any ops listed=[]:=by
   exact z3q43
  exact wpAny_done hr h fuel
 | cons o l ih =>
  intro t fuel listed a w hn hl hf hs h1 h2 h;have ho:ops[t]?=some o:=by simpa using (hl 0).symm
  have hlt:t<ops.size:=(Array.getElem?_eq_some_iff.1 ho).1;cases fuel with
  | zero=>simp at hf
  | succ f =>
   have hc:∀ (i:Nat) o,ops[i]?=some o->listed.getD i false=true->∀ k∈A.getD i [],listed.getD k false=true:=λ i o' hi hli k hk=>by
    exact z3q62
   refine ⟨λ h0=>?_,λ i hi=>?_⟩
   ·exact z3q87
   ·obtain ⟨o',ho',hun,hilt,hw⟩:=cC hB hc hs hi;have hit:i=t:=by
     rcases Nat.lt_trichotomy i t with h'|h'|h'
     ·rw [h1 i h'] at hun;cases hun
     ·exact h'
     ·have:=hw t (htail i Zo hilt t h');rw [h2 t (aad _)] at this;cases this
    subst hit;have hop:wpOp P ops Q i (wpList P ops Q l) a w:=by unfold wpOp;simp only [ho];exact h
    refine wpOp_mono (λ a' w' h'=>ih (i+1) f _ a' w' Zo (λ j=>by have:=hl (j+1);simpa [aaY,abi 1 j] using this) (by simpa using hf) (by simpa using hs) (λ k hk=>?_) (λ k hk=>?_) h') hop
    ·exact z3q56
    ·rw [abx false Zo];exact h2 k Zo
theorem y5 {listed:Array Bool}:∀ m n,m<n->listed.getD m false=false->∃ i,i<n/\listed.getD i false=false/\∀ k,k<i->listed.getD k false=true:=by
 intro m
 induction m using Nat.strongRecOn with
 | _ m ih =>
  intro n hm hu;by_cases hx:∃ k,k<m/\listed.getD k false=false
  ·obtain ⟨k,hk,hku⟩:=hx;exact ih k hk n Zo hku
  ·exact ⟨m,hm,hu,λ k hk=>by
    cases hl:listed.getD k false with
    | true=>rfl
    | false=>exact absurd ⟨k,hk,hl⟩ hx⟩
theorem yP (listed:Array Bool) (n m:Nat) (h:n<=m) (hu:∀ i,n<=i->listed.getD i false=false):cnt listed m=cnt listed n+(m-n):=by
 induction m with
 | zero=>obtain rfl:n=0:=by omega
         simp
 | succ m ih =>
  by_cases hnm:n<=m
  ·simp only [cnt];rw [ih hnm,hu m hnm];simp;omega
  ·obtain rfl:n=m+1:=by omega
   simp
end main
/-! ### The walk -/
def fP (H:List (Nat × (Par->World->Prop))) (L:List Nat) (us:Us) (w:World):Prop:=∀ x∈H,L.contains x.1=true->x.2 (us x.1) w
def pq (H:List (Nat × (Us->Par->World->Prop))) (L:List Nat) (us:Us) (w:World):Prop:=∀ x∈H,L.contains x.1=true->x.2 us (us x.1) w
def VD (P:Program) (ops:Array Oper) (A:List (List Nat)) (W:World)(Q:Act->World->Prop):List Oper->Nat->List (Nat × (Us->Par->World->Prop))->(Us->Act)->Prop
 | [],_,H,F=>∀ us w',Ext W w'->(∀ x∈H,x.2 us (us x.1) w')->Q (F us) w'
 | o :: rest,i,H,F=>∃ e:Ent,dP P ops W (A.getD i []) o i e F (pq H (A.getD i []))/\VD P ops A W Q rest (i+1) (if e.vag then H++[(i,e.R)] else H) (λ us=>(F us).put o.dst (e.V us))
section
variable {ops:Array Oper} {A:List (List Nat)} {W:World} {Q:Act->World->Prop} {o:Oper} {rest:List Oper} {i:Nat} {H:List (Nat × (Us->Par->World->Prop))} {F:Us->Act}
end
end
end Go.Sec

/- As XReg, with boxes: variables that operations of one region make, known to differ. -/
namespace Go.Sec.R2
open Go.RowKit Go.Sec
section
variable {P:Program}
structure Ent where
 V:Us->Value
 R:Par->World->Prop
 vag:Bool
 box:Bool
instance:Inhabited Ent:=⟨⟨λ _=>undef,λ _ _=>True,false,false⟩⟩
def ny (p:Par) (w' w'':World):Prop:=∃ g,(p 0).1=some ⟨g,0,none⟩/\w'.heap.size<=g/\g<w''.heap.size
def ay (a0:Act):List (Oper × Ent)->Us->Act
 | [],_=>a0
 | (o,e) :: r,us=>ay (a0.put o.dst (e.V us)) r us
theorem ej (a0:Act) (l:List (Oper × Ent)) (x:Oper × Ent) (us:Us):ay a0 (l++[x]) us=(ay a0 l us).put x.1.dst (x.2.V us):=by
 exact z3q95
def dP (P:Program) (ops:Array Oper) (W:World)(o:Oper) (i:Nat) (e:Ent) (F:Us->Act) (fact:Us->World->Prop):Prop :=
 my e.R/\(e.vag=true->∀ us us':Us,us i=us' i->e.V us=e.V us') /\
 ∀ us w',Ext W w'->fact us w' ->
  if Region.wanted o (yielded ops (F us).tmps)=true then
   (if e.vag then gives P o (F us).eval w' (λ v w''=>∃ p:Par,(∀ us':Us,us' i=p->v=e.V us')/\Ext w' w''/\e.R p w''/\(e.box=true->ny p w' w''))
    else ((execOp (F us).eval o).run P w' = .ok (.value (e.V us)) w'\/((execOp (F us).eval o).run P w' = .ok .skip w'/\e.V us=undef))/\(∀ p w,e.R p w)/\e.box=false)
  else e.V us=undef/\(∀ p w,e.R p w)/\e.box=false
def cF (T:List (Oper × Ent)) (L:List Nat) (us:Us) (w:World):Prop:=∀ k,L.contains k=true->∀ x,T[k]?=some x->x.2.R (us k) w
def lN (T:List (Oper × Ent)):Prop:=∀ (i j:Nat) x y d,T[i]?=some x->T[j]?=some y->i≠j->x.1.dst=some d->y.1.dst≠some d
theorem fw (a0:Act) (T:List (Oper × Ent)) (us:Us):(ay a0 T us).tmps.size=a0.tmps.size/\(ay a0 T us).defers=a0.defers:=by
 exact z3q45
theorem dq (a0:Act) (T:List (Oper × Ent)) (us:Us) (t:Nat) (h:∀ (i:Nat) x,T[i]?=some x->x.1.dst≠some t):(ay a0 T us).tmps[t]?=a0.tmps[t]?:=by
 exact z3q18
theorem fu (a0:Act) (T:List (Oper × Ent)) (us:Us) (hO:lN T) (i:Nat) (x:Oper × Ent) (t:Nat) (hi:T[i]?=some x) (hd:x.1.dst=some t) (ht:t<a0.tmps.size) :
  (ay a0 T us).tmps[t]?=some (x.2.V us):=by
 induction T generalizing a0 i with
 | nil=>simp at hi
 | cons y r ih =>
  simp only [ay];cases i with
  | zero =>
   have hy:y=x:=by simpa using hi
   subst hy;rw [dq _ r us t (λ j z hz=>hO 0 (j+1) y z t rfl (by simpa using hz) Zo hd)];simp [Act.put,hd,ht]
  | succ i =>
   refine ih (a0.put y.1.dst (y.2.V us)) (λ a b p q d h1 h2 h3=>hO (a+1) (b+1) p q d (by simpa using h1) (by simpa using h2) Zo) i (by simpa using hi) ?_;cases y.1.dst <;> simpa [Act.put] using ht
section main
variable {ops:Array Oper} {A:List (List Nat)} {a0:Act} {W:World} {T:List (Oper × Ent)}
structure Tab (P:Program) (ops:Array Oper) (A:List (List Nat)) (a0:Act) (W:World)(T:List (Oper × Ent)):Prop where
 at':∀ (i:Nat) x,T[i]?=some x->ops[i]?=some x.1
 spec:∀ (i:Nat) x,T[i]?=some x->dP P ops W x.1 i x.2 (ay a0 (T.take i)) (cF T (A.getD i []))
theorem Tab.once (hB:OkB ops A T.length) (hT:Tab P ops A a0 W T):lN T:=λ i j x y d hi hj hne hd=>hB.once j y.1 (hT.at' j y hj) i x.1 d (hT.at' i x hi) (iD hi) hd hne
theorem gr (h:lN T) (m:Nat):lN (T.take m):=λ i j x y d hi hj=>by
 exact z3q55
def eu (ops:Array Oper) (o:Oper) (a b:Act):Prop:=∀ t∈o.looksAt ops,a.tmps[t]?=b.tmps[t]?
theorem eu.exec {o:Oper} {a b:Act} (hs:∀ cs b,o.op ≠ .select cs b) (h:eu ops o a b):execOp a.eval o=execOp b.eval o :=
 execOp_congr o hs λ x hx=>by
  exact z3q47
theorem eu.wanted {o:Oper} {a b:Act} (h:eu ops o a b):Region.wanted o (yielded ops a.tmps)=Region.wanted o (yielded ops b.tmps):=by
 exact z3q17
theorem _root_.z3q9{p:Prop}(h:p:=by
 obtain ⟨j,x,hj,hd⟩:=hw;have hj':T[j]?=some x:=by
  rw [List.getElem?_take] at hj;split at hj
  ·exact hj
  ·cases hj
 by_cases hs:t<a0.tmps.size
 ·rw [fu a0 _ us hO j x t hj hd hs,fu a0 _ us' hO j x t hj hd hs];rw [h j x (hB.look i o hi j x.1 t (hT.at' j x hj') (iD hj') hd ht) hj']
 ·have s1:=(fw a0 (T.take i) us).1;have s2:=(fw a0 (T.take i) us').1;have q1:(ay a0 (T.take i) us).tmps[t]?=none:=Array.getElem?_eq_none (s1 ▸ abD hs);have q2:(ay a0 (T.take i) us').tmps[t]?=none:=Array.getElem?_eq_none (s2 ▸ abD hs);rw [q1,q2]):p:=h
theorem _root_.z3q52{p:Prop}(h:p:=by
 have hn:∀ (j:Nat) x,(T.take i)[j]?=some x->x.1.dst≠some t:=λ j x hj hd=>hw ⟨j,x,hj,hd⟩;rw [dq a0 _ us t hn,dq a0 _ us' t hn]):p:=h
theorem eU (hB:OkB ops A T.length) (hT:Tab P ops A a0 W T) {i:Nat} {o:Oper} (hi:ops[i]?=some o) (us us':Us)
  (h:∀ (j:Nat) x,j∈A.getD i []->T[j]?=some x->x.2.V us=x.2.V us'):eu ops o (ay a0 (T.take i) us) (ay a0 (T.take i) us'):=by
 intro t ht;have hO:=gr (hT.once hB) i;by_cases hw:∃ (j:Nat) (x:Oper × Ent),(T.take i)[j]?=some x/\x.1.dst=some t
 ·exact z3q9
 ·exact z3q52
theorem _root_.z3q33{p:Prop}(h:p:=by
 simp only [hw,aba] at h1 h2;rcases h1.1 with h1|⟨h1,e1⟩ <;> rcases h2.1 with h2|⟨h2,e2⟩ <;> rw [h1] at h2
 ·injection h2 with h2;injection h2
 ·injection h2 with h2;cases h2
 ·injection h2 with h2;cases h2
 ·rw [e1,e2]):p:=h
theorem _root_.z3q97{p:Prop}(h:p:=by
 have:=hB.sub j x.1 hop k hk m (by simpa using hm);simpa using this):p:=h
theorem indep (hB:OkB ops A T.length) (hT:Tab P ops A a0 W T) (w:World)(hx:Ext W w) (us us':Us):∀ (j:Nat) x,T[j]?=some x ->
  cF T (A.getD j []) us w->(∀ k,k∈A.getD j []\/k=j->us k=us' k)->x.2.V us=x.2.V us':=by
 intro j
 induction j using Nat.strongRecOn with
 | _ j ih =>
  intro x hj hf hus;have hop:=hT.at' j x hj;obtain ⟨_,hvag,hsp⟩:=hT.spec j x hj;cases hv:x.2.vag with
  | true=>exact hvag hv us us' (hus j (.inr rfl))
  | false =>
   have hf':cF T (A.getD j []) us' w:=λ k hk y hy=>by
    rw [<- hus k (.inl (by simpa using hk))];exact hf k hk y hy
   have hag:=eU hB hT hop us us' (λ k y hk hy=>by
    refine ih k (hB.lt j x.1 hop k hk) y hy (λ m hm z hz=>hf m ?_ z hz) (λ m hm=>hus m ?_)
    ·exact z3q97
    ·rcases hm with hm|hm
     ·exact .inl (hB.sub j x.1 hop k hk m hm)
     ·subst hm;exact .inl hk)
   have h1:=hsp us w hx hf;have h2:=hsp us' w hx hf';have hsel:=λ cs b=>aa1 hB.sel j x.1 cs b hop;rw [hag.wanted,hag.exec hsel] at h1;simp only [hv] at h1 h2;by_cases hw:Region.wanted x.1 (yielded ops (ay a0 (T.take j) us').tmps)=true
   ·exact z3q33
   ·simp only [hw] at h1 h2;rw [h1.1,h2.1]
structure Inv (ops:Array Oper) (A:List (List Nat)) (a0:Act) (W:World)(T:List (Oper × Ent)) (listed:Array Bool) (a:Act) (w:World)(us:Us):Prop where
 size:listed.size=ops.size
 ext:Ext W w
 asize:a.tmps.size=a0.tmps.size
 defers:a.defers=a0.defers
 set:∀ (i:Nat) x t,T[i]?=some x->listed.getD i false=true->x.1.dst=some t->t<a0.tmps.size->a.tmps[t]?=some (x.2.V us)
 unset:∀ t,(∀ (i:Nat) x,T[i]?=some x->listed.getD i false=true->x.1.dst≠some t)->a.tmps[t]?=a0.tmps[t]?
 closed:∀ (i:Nat) o,ops[i]?=some o->listed.getD i false=true->∀ k∈A.getD i [],listed.getD k false=true
 facts:∀ (i:Nat) x,T[i]?=some x->listed.getD i false=true->x.2.R (us i) w
 tail:∀ i,T.length<=i->listed.getD i false=false
 boxlt:∀ (i:Nat) x,T[i]?=some x->listed.getD i false=true->x.2.box=true->∃ g,(us i 0).1=some ⟨g,0,none⟩/\g<w.heap.size
 dist:∀ (i j:Nat) x y,T[i]?=some x->T[j]?=some y->listed.getD i false=true->listed.getD j false=true->i≠j->x.2.box=true->y.2.box=true->(us i 0).1≠(us j 0).1
theorem _root_.z3q8{p:Prop}(h:p:=by
 intro j k y z hy hz hl hm hjk hb hc;by_cases hji:j=i
 ·subst hji;obtain rfl:x=y:=FG (hx.symm.trans hy);obtain ⟨g,h1,h2,_⟩:=hbx hb;rw [lst k (Ne.symm hjk)] at hm;obtain ⟨g',h4,h5⟩:=h.boxlt k z hz hm hc;rw [h1,hus k (Ne.symm hjk),h4];intro e;injection e with e
  injection e with e
  omega
 ·rw [lst j hji] at hl;obtain ⟨g',h4,h5⟩:=h.boxlt j y hy hl hb;by_cases hki:k=i
  ·subst hki;obtain rfl:x=z:=FG (hx.symm.trans hz);obtain ⟨g,h1,h2,_⟩:=hbx hc;rw [h1,hus j hji,h4];intro e;injection e with e
   injection e with e
   omega
  ·rw [lst k hki] at hm;rw [hus j hji,hus k hki];exact h.dist j k y z hy hz hl hm hjk hb hc):p:=h
theorem _root_.z3q19{p:Prop}(h:p:=by
 intro j y t hy hl hd ht;by_cases hji:j=i
 ·subst hji;obtain rfl:x=y:=FG (hx.symm.trans hy);have:t<a.tmps.size:=by rw [h.asize];exact ht
  simp [Act.put,hd,this]
 ·rw [lst j hji] at hl;rw [pget t (hB.once i x.1 ho j y.1 t (hT.at' j y hy) (iD hy) hd hji),h.set j y t hy hl hd ht,same j y hy hji hl]):p:=h
theorem _root_.z3q21{p:Prop}(h:p:=by
 intro j y hy hl hb;by_cases hji:j=i
 ·subst hji;obtain rfl:x=y:=FG (hx.symm.trans hy);obtain ⟨g,h1,_,h3⟩:=hbx hb;exact ⟨g,h1,h3⟩
 ·rw [lst j hji] at hl;rw [hus j hji];obtain ⟨g,h1,h2⟩:=h.boxlt j y hy hl hb;exact ⟨g,h1,aai h2 he.size⟩):p:=h
theorem _root_.z3q23{p:Prop}(h:p:=by
 have hj:=hT.at' j y hy;refine indep hB hT w h.ext us us' j y hy (λ k hk z hz=>h.facts k z hz (h.closed j y.1 hj hl k (by simpa using hk))) (λ k hk=>(hus k ?_).symm);rcases hk with hk|hk
 ·intro e;subst e;rw [h.closed j y.1 hj hl k hk] at hun;cases hun
 ·subst hk;exact hji):p:=h
theorem _root_.z3q37{p:Prop}(h:p:=by
 intro t ht;have hti:x.1.dst≠some t:=ht i x hx (cP false hls);rw [pget t hti];refine h.unset t (λ j y hy hl=>ht j y hy ?_);by_cases hji:j=i
 ·subst hji;exact cP false hls
 ·rw [lst j hji];exact hl):p:=h
theorem _root_.z3q51{p:Prop}(h:p:=by
 cases hd:x.1.dst with
 | none=>rfl
 | some d =>
  rw [hd] at ht;have hne:d≠t:=λ e=>ht (by rw [e]);simp [Act.put,Array.getElem?_setIfInBounds_ne hne]):p:=h
theorem _root_.z3q53{p:Prop}(h:p:=by
 intro j o' hj hl k hk;refine getD_set_true ?_;by_cases hji:j=i
 ·subst hji;exact hw k hk
 ·rw [lst j hji] at hl;exact h.closed j o' hj hl k hk):p:=h
theorem _root_.z3q69{p:Prop}(h:p:=by
 intro j hj;have:i<T.length:=(List.getElem?_eq_some_iff.1 hx).1;rw [lst j Zo];exact h.tail j hj):p:=h
theorem _root_.z3q96{p:Prop}(h:p:=by
 subst hji;obtain rfl:x=y:=FG (hx.symm.trans hy);exact hR):p:=h
theorem Inv.step (hB:OkB ops A T.length) (hT:Tab P ops A a0 W T) {listed:Array Bool} {a:Act} {w:World} {us:Us} (h:Inv ops A a0 W T listed a w us) {i:Nat} {x:Oper × Ent} (hx:T[i]?=some x)
  (hr:i∈Region.ready .any ops listed) (us':Us) (hus:∀ k,k≠i->us' k=us k) (w':World)(he:Ext w w') (hR:x.2.R (us' i) w') (hbx:x.2.box=true->ny (us' i) w w'):Inv ops A a0 W T (listed.setIfInBounds i true) (a.put x.1.dst (x.2.V us')) w' us':=by
 obtain ⟨o,ho,hun,hlt,hw⟩:=cC hB h.closed h.size hr;have hox:o=x.1:=FG (ho.symm.trans (hT.at' i x hx));subst hox;have hls:i<listed.size:=by rw [h.size];exact hlt
 have lst:∀ j,j≠i->(listed.setIfInBounds i true).getD j false=listed.getD j false:=λ j hj=>abx false (Ne.symm hj);have same:∀ (j:Nat) y,T[j]?=some y->j≠i->listed.getD j false=true->y.2.V us=y.2.V us':=λ j y hy hji hl=>by
  exact z3q23
 have psz:(a.put x.1.dst (x.2.V us')).tmps.size=a.tmps.size:=by cases x.1.dst <;> simp [Act.put]
 have pdf:(a.put x.1.dst (x.2.V us')).defers=a.defers:=by cases x.1.dst <;> rfl
 have pget:∀ t,x.1.dst≠some t->(a.put x.1.dst (x.2.V us')).tmps[t]?=a.tmps[t]?:=λ t ht=>by
  exact z3q51
 refine ⟨by simpa using h.size,h.ext.trans he,by rw [psz,h.asize],by rw [pdf,h.defers],?_,?_,?_,?_,?_,?_,?_⟩
 ·exact z3q19
 ·exact z3q37
 ·exact z3q53
 ·intro j y hy hl;by_cases hji:j=i
  ·exact z3q96
  ·rw [lst j hji] at hl;rw [hus j hji];exact (hT.spec j y hy).1 _ _ _ (h.facts j y hy hl) he
 ·exact z3q69
 ·exact z3q21
 ·exact z3q8
end main
/-! ### The walk -/
def VD (P:Program) (ops:Array Oper) (A:List (List Nat)) (W:World)(Q:Act->World->Prop):List Oper->Nat->List (Nat × (Par->World->Prop))->List Nat->(Us->Act)->Prop
 | [],_,H,B,F=>∀ us w',Ext W w'->(∀ x∈H,x.2 (us x.1) w')->(∀ i∈B,∀ j∈B,i≠j->(us i 0).1≠(us j 0).1)->Q (F us) w'
 | o :: rest,i,H,B,F=>∃ e:Ent,dP P ops W o i e F (fP H (A.getD i []))/\VD P ops A W Q rest (i+1) (if e.vag then H++[(i,e.R)] else H) (if e.box then B++[i] else B) (λ us=>(F us).put o.dst (e.V us))
section
variable {ops:Array Oper} {A:List (List Nat)} {W:World} {Q:Act->World->Prop} {o:Oper} {rest:List Oper} {i:Nat} {H:List (Nat × (Par->World->Prop))} {B:List Nat} {F:Us->Act}
theorem eB (f:Us->Value) (h:∀ us w',Ext W w'->fP H (A.getD i []) us w'->Region.wanted o (yielded ops (F us).tmps)=true/\(execOp (F us).eval o).run P w' = .ok (.value (f us)) w')
  (hr:VD P ops A W Q rest (i+1) H B (λ us=>(F us).put o.dst (f us))):VD P ops A W Q (o :: rest) i H B F :=
 ⟨⟨f,λ _ _=>True,false,false⟩,⟨λ _ _ _ _ _=>trivial,(λ h=>by cases h),λ us w' hx hf=>by
  obtain ⟨h1,h2⟩:=h us w' hx hf;simp only [h1,aba,aaD,abg];exact ⟨.inl h2,λ _ _=>trivial,trivial⟩⟩,hr⟩
theorem fF (h:∀ us,Region.wanted o (yielded ops (F us).tmps)=false)
  (hr:VD P ops A W Q rest (i+1) H B (λ us=>(F us).put o.dst undef)):VD P ops A W Q (o :: rest) i H B F :=
 ⟨⟨λ _=>undef,λ _ _=>True,false,false⟩,⟨λ _ _ _ _ _=>trivial,(λ h=>by cases h),λ us w' hx hf=>by
  simp only [h us,aaD,abg];exact ⟨trivial,λ _ _=>trivial,trivial⟩⟩,hr⟩
theorem ai (mk:Par->Value) (R:Par->World->Prop) (hst:my R)
  (h:∀ us w',Ext W w'->fP H (A.getD i []) us w'->Region.wanted o (yielded ops (F us).tmps)=true/\gives P o (F us).eval w' (λ v w''=>∃ p,v=mk p/\Ext w' w''/\R p w''))
  (hr:VD P ops A W Q rest (i+1) (H++[(i,R)]) B (λ us=>(F us).put o.dst (mk (us i)))):VD P ops A W Q (o :: rest) i H B F :=
 ⟨⟨λ us=>mk (us i),R,true,false⟩,⟨hst,λ _ us us' he=>by simp only [he],λ us w' hx hf=>by
  obtain ⟨h1,h2⟩:=h us w' hx hf;simp only [h1,aba];exact eJ h2 λ v w'' ⟨p,hp,he,hR⟩=>⟨p,λ us' hu=>by rw [hp,hu],he,hR,λ e=>by cases e⟩⟩,hr⟩
theorem xZ (mk:Par->Value) (R:Par->World->Prop) (hst:my R)
  (h:∀ us w',Ext W w'->fP H (A.getD i []) us w'->Region.wanted o (yielded ops (F us).tmps)=true/\gives P o (F us).eval w' (λ v w''=>∃ p,v=mk p/\Ext w' w''/\R p w''/\ny p w' w''))
  (hr:VD P ops A W Q rest (i+1) (H++[(i,R)]) (B++[i]) (λ us=>(F us).put o.dst (mk (us i)))):VD P ops A W Q (o :: rest) i H B F :=
 ⟨⟨λ us=>mk (us i),R,true,true⟩,⟨hst,λ _ us us' he=>by simp only [he],λ us w' hx hf=>by
  obtain ⟨h1,h2⟩:=h us w' hx hf;simp only [h1,aba];exact eJ h2 λ v w'' ⟨p,hp,he,hR,hbx⟩=>⟨p,λ us' hu=>by rw [hp,hu],he,hR,λ _=>hbx⟩⟩,hr⟩
theorem fN (h:∀ us w',Ext W w'->(∀ x∈H,x.2 (us x.1) w')->(∀ i∈B,∀ j∈B,i≠j->(us i 0).1≠(us j 0).1)->Q (F us) w'):VD P ops A W Q [] i H B F:=h
theorem _root_.z3q54{p:Prop}(h:p:=by
 split at hk
 ·rcases aaP.1 hk with h'|h'
  ·exact .inl h'
  ·exact .inr ⟨by simpa using h',by assumption⟩
 ·exact .inl hk):p:=h
theorem _root_.z3q58{p:Prop}(h:p:=by
 obtain ⟨y,hy,hR⟩:=hH x hin;exact ⟨y,by rw [List.getElem?_append_left (List.getElem?_eq_some_iff.1 hy).1];exact hy,hR⟩):p:=h
theorem _root_.z3q59{p:Prop}(h:p:=by
 obtain ⟨y,hy,hR⟩:=hK k hin;exact ⟨y,by rw [List.getElem?_append_left (List.getElem?_eq_some_iff.1 hy).1];exact hy,hR⟩):p:=h
theorem _root_.z3q71{p:Prop}(h:p:=by
 rw [List.getElem?_append_left hj] at hy;rw [aax Zo];exact hT j y hy):p:=h
theorem gK {a0:Act}:∀ (l:List Oper) (i:Nat) (H:List (Nat × (Par->World->Prop))) (B:List Nat) (F:Us->Act) (T:List (Oper × Ent)),VD P ops A W Q l i H B F->T.length=i->(∀ j,l[j]?=none\/l[j]?=ops[i+j]?) ->
  (∀ us,F us=ay a0 T us)->(∀ x∈H,∃ y,T[x.1]?=some y/\y.2.R=x.2)->(∀ k∈B,∃ y,T[k]?=some y/\y.2.box=true)->(∀ (j:Nat) y,T[j]?=some y->ops[j]?=some y.1/\dP P ops W y.1 j y.2 (ay a0 (T.take j)) (cF (T.take j) (A.getD j []))) ->
  ∃ T':List (Oper × Ent),T'.length=i+l.length/\(∀ (j:Nat) y,T'[j]?=some y->ops[j]?=some y.1/\dP P ops W y.1 j y.2 (ay a0 (T'.take j)) (cF (T'.take j) (A.getD j []))) /\
   ∀ us w',Ext W w'->(∀ (j:Nat) y,T'[j]?=some y->y.2.R (us j) w')->(∀ (i j:Nat) x y,T'[i]?=some x->T'[j]?=some y->i≠j->x.2.box=true->y.2.box=true->(us i 0).1≠(us j 0).1)->Q (ay a0 T' us) w'
 | [],i,H,B,F,T,h,hl,_,hF,hH,hK,hT=>⟨T,by simpa using hl,hT,λ us w' hx hf hd=>by
   rw [<- hF us];refine h us w' hx (λ x hxH=>?_) (λ k hk m hm hne=>?_)
   ·obtain ⟨y,hy,hR⟩:=hH x hxH;rw [<- hR];exact hf x.1 y hy
   ·obtain ⟨y,hy,hb⟩:=hK k hk;obtain ⟨z,hz,hc⟩:=hK m hm;exact hd k m y z hy hz hne hb hc⟩
 | o :: rest,i,H,B,F,T,h,hl,ho,hF,hH,hK,hT=>by
  obtain ⟨e,hs,hr⟩:=h;have hoi:ops[i]?=some o:=by
   rcases ho 0 with h0|h0
   ·simp at h0
   ·simpa using h0.symm
  have hFe:F=ay a0 T:=funext hF;obtain ⟨T',h1,h2,h3⟩:=gK (a0:=a0) rest (i+1) _ _ _ (T++[(o,e)]) hr (by simp [hl]) (λ j=>by have:=ho (j+1);simpa [aaY,abi 1 j] using this)
   (λ us=>by rw [ej,hF us]) (λ x hx=>by
    have hin:x∈H\/x=(i,e.R):=by
     split at hx
     ·simpa using hx
     ·exact .inl hx
    rcases hin with hin|rfl
    ·exact z3q58
    ·exact ⟨(o,e),by rw [List.getElem?_append_right Zo];simp [hl],rfl⟩)
   (λ k hk=>by
    have hin:k∈B\/(k=i/\e.box=true):=by
     exact z3q54
    rcases hin with hin|⟨rfl,hb⟩
    ·exact z3q59
    ·exact ⟨(o,e),by rw [List.getElem?_append_right Zo];simp [hl],hb⟩)
   (λ j y hy=>by
    by_cases hj:j<T.length
    ·exact z3q71
    ·have hji:j=i:=by
      have:=(List.getElem?_eq_some_iff.1 hy).1;simp at this;omega
     subst hji;rw [List.getElem?_append_right Zo] at hy;have hy':(o,e)=y:=by simpa [hl] using hy
     subst hy';refine ⟨hoi,?_⟩;rw [aax Zo,aah Zo,<- hFe];refine ⟨hs.1,hs.2.1,λ us w' hx hf=>hs.2.2 us w' hx λ x hxH hc=>?_⟩;obtain ⟨y,hy,hR⟩:=hH x hxH;rw [<- hR];exact hf x.1 hc y hy)
  exact ⟨T',by rw [h1];simp;omega,h2,h3⟩
end
end
end Go.Sec.R2
namespace Go.Sec.R2
open Go.RowKit Go.Sec
section
variable {P : Program} {ops : Array Oper} {A : List (List Nat)} {W : World} {Q : Act -> World -> Prop} {o : Oper} {rest : List Oper} {i : Nat} {H : List (Nat × (Par -> World -> Prop))} {B : List Nat} {F : Us -> Act}
theorem av {f : Us -> Value} (hr : VD P ops A W Q rest (i + 1) H B (λ us => (F us).put o.dst (f us)))
    (h : ∀ us w', Ext W w' -> fP H (A.getD i []) us w' -> Region.wanted o (yielded ops (F us).tmps) = true /\ (execOp (F us).eval o).run P w' = .ok (.value (f us)) w' := by intro us w' hx hf; obtain ⟨x, rfl⟩ := hx.out; refine ⟨rfl, ?_⟩; simp [go_sem, execOp, *]; (try simp (disch := omega) only [Go.IntWalk.i64_in, Go.IntWalk.rem_in, Go.IntWalk.wrap64_in]); rfl) : VD P ops A W Q (o :: rest) i H B F := eB f h hr
theorem ef {F' : Us -> World -> Prop} {G' : Us -> World -> Prop} (h : ∀ us x, Ext W (W.ext x) -> F' us (W.ext x) -> (∀ i ∈ B, ∀ j ∈ B, i ≠ j -> (us i 0).1 ≠ (us j 0).1) -> G' us (W.ext x))
    (e : ∀ us w', (∀ y ∈ H, y.2 (us y.1) w') = F' us w' /\ Q (F us) w' = G' us w' := by intro us w'; constructor; (· (try simp only [abr, List.not_mem_nil, abt, aa7, forall_eq, List.nil_append, List.cons_append, aaP, false_or, true_and, and_true]); (try simp only [Nat.reduceAdd, aaA]); all_goals exact rfl); (· (try simp only [Act.put, List.setIfInBounds_toArray, List.set_cons_succ, List.set_cons_zero, wpList_none]); (try simp only [Nat.reduceAdd, aaA]); all_goals exact rfl)) : VD P ops A W Q [] i H B F := fN λ us w' hx hf hd => by
  obtain ⟨x, rfl⟩ := hx.out;have e1 := e us (W.ext x);rw [e1.2];rw [e1.1] at hf;exact h us x hx hf hd
theorem aU {F' : Us -> World -> Prop} {G' : Us -> World -> Prop} (h : ∀ us x, Ext W (W.ext x) -> F' us (W.ext x) -> G' us (W.ext x))
    (e : ∀ us w', (∀ y ∈ H, y.2 (us y.1) w') = F' us w' /\ Q (F us) w' = G' us w' := by intro us w'; constructor; (· (try simp only [abr, List.not_mem_nil, abt, aa7, forall_eq, List.nil_append, List.cons_append, aaP, false_or, true_and, and_true]); (try simp only [Nat.reduceAdd, aaA]); all_goals exact rfl); (· (try simp only [Act.put, List.setIfInBounds_toArray, List.set_cons_succ, List.set_cons_zero, wpList_none]); (try simp only [Nat.reduceAdd, aaA]); all_goals exact rfl)) : VD P ops A W Q [] i H B F := ef (λ us x hx hf _ => h us x hx hf) e
end
end Go.Sec.R2

/- As XReg2: operations of a region that only take a part of what a call returned may be late: the last operations need not wait for them. -/
namespace Go.Sec.R2
open Go.RowKit Go.Sec
def Bj (ops:Array Oper) (A:List (List Nat)) (z:Nat):Array Bool:=((List.range ops.size).map λ k=>(A.getD z []).contains k).toArray
def okZ (ops:Array Oper) (A:List (List Nat)) (Z:List Nat) (n:Nat):Bool:=Z.all λ z=>decide (z<n) && match ops[z]? with
 | some o=>o.guard.isNone && (match o.op with | .extract _ _=>true|_=>false) && Region.free .any ops (Bj ops A z) z && o.after.all λ e => !Region.binds .any e || (A.getD z []).contains e.on
 | none=>false
theorem tW {ops:Array Oper} {A:List (List Nat)} {Z:List Nat} {n:Nat} (h:okZ ops A Z n=true) (z:Nat) (hz:z∈Z):z<n/\∃ o tp ix,ops[z]?=some o/\o.guard=none/\o.op = .extract tp ix/\Region.free .any ops (Bj ops A z) z=true/\∀ e∈o.after,Region.binds .any e=true->e.on∈A.getD z []:=by
 have:=aaw.1 h z hz;rw [aaz,aa9] at this;obtain ⟨h1,h2⟩:=this;refine ⟨h1,?_⟩;cases ho:ops[z]? with
 | none=>rw [ho] at h2;cases h2
 | some o =>
  rw [ho] at h2;simp only [aaz] at h2;obtain ⟨⟨⟨g1,g2⟩,g3⟩,g4⟩:=h2;cases hop:o.op with
  | extract tp ix =>
   refine ⟨o,tp,ix,rfl,by simpa using g1,hop,g3,λ e he hb=>?_⟩;have:=Array.all_eq_true'.1 g4 e he;rw [hb] at this;simpa using this
  | _=>rw [hop] at g2;cases g2
section
variable {P:Program}
theorem tb {o:Oper} {ρ:Operand->Value} {tp:Operand} {ix:Nat} (hop:o.op = .extract tp ix):(∃ v,∀ w,(execOp ρ o).run P w = .ok (.value v) w)\/∀ w,∃ h w',(execOp ρ o).run P w = .halt h w':=by
 unfold execOp;rw [hop];simp only [Instr.extract];generalize ρ tp=t;cases t with
 | tuple vs =>
  simp only;cases hv:vs[ix]? with
  | some u=>exact .inl ⟨u,λ w=>Zs⟩
  | none=>exact .inr λ w=>by simp [stuck]
 | _=>exact .inr λ w=>by simp [stuck]
theorem kE {o:Oper} {ρ:Operand->Value} {tp:Operand} {ix:Nat} (hop:o.op = .extract tp ix) {w:World} {S:Value->World->Prop} (h:gives P o ρ w S):∃ v,(∀ w2,(execOp ρ o).run P w2 = .ok (.value v) w2)/\S v w:=by
 rcases tb (P:=P) (ρ:=ρ) hop with ⟨v,hv⟩|hn
 ·unfold gives at h;rw [hv w] at h;exact ⟨v,hv,h⟩
 ·obtain ⟨e,w',hr⟩:=hn w;unfold gives at h;rw [hr] at h;exact h.elim
section main
variable {ops:Array Oper} {A:List (List Nat)} {a0:Act} {W:World} {T:List (Oper × Ent)}
theorem wu {m:Nat} (hB:OkB ops A m) {Q:Exit->Act->World->Prop} {n:Nat} (htail:∀ t,n<=t->t<ops.size->∀ k,n<=k->k<t->k∈A.getD t []):∀ (l:List Oper) (t:Nat) (fuel:Nat) (listed:Array Bool) (a:Act) (w:World),n<=t->(∀ j,l[j]?=ops[t+j]?)->l.length<=fuel ->
  listed.size=ops.size->(∀ k,k<t->listed.getD k false=true)->(∀ k,t<=k->listed.getD k false=false) ->
  wpList P ops Q l a w->wpAny P .any ops Q fuel listed a w:=by
 intro l
 induction l with
 | nil =>
  intro t fuel listed a w hn hl hf hs h1 h2 h;have hts:ops.size<=t:=by
   have:=hl 0;simp at this;exact this
  have hr:Region.ready .any ops listed=[]:=by
   exact z3q43
  exact wpAny_done hr h fuel
 | cons o l ih =>
  intro t fuel listed a w hn hl hf hs h1 h2 h;have ho:ops[t]?=some o:=by simpa using (hl 0).symm
  have hlt:t<ops.size:=(Array.getElem?_eq_some_iff.1 ho).1;cases fuel with
  | zero=>simp at hf
  | succ f =>
   have hc:∀ (i:Nat) o,ops[i]?=some o->listed.getD i false=true->∀ k∈A.getD i [],listed.getD k false=true:=λ i o' hi hli k hk=>by
    exact z3q62
   refine ⟨λ h0=>?_,λ i hi=>?_⟩
   ·exact z3q87
   ·obtain ⟨o',ho',hun,hilt,hw⟩:=cC hB hc hs hi;have hit:i=t:=by
     rcases Nat.lt_trichotomy i t with h'|h'|h'
     ·rw [h1 i h'] at hun;cases hun
     ·exact h'
     ·have:=hw t (htail i Zo hilt t hn h');rw [h2 t (aad _)] at this;cases this
    subst hit;have hop:wpOp P ops Q i (wpList P ops Q l) a w:=by unfold wpOp;simp only [ho];exact h
    refine wpOp_mono (λ a' w' h'=>ih (i+1) f _ a' w' Zo (λ j=>by have:=hl (j+1);simpa [aaY,abi 1 j] using this) (by simpa using hf) (by simpa using hs) (λ k hk=>?_) (λ k hk=>?_) h') hop
    ·exact z3q56
    ·rw [abx false Zo];exact h2 k Zo
theorem _root_.z3q5{p:Prop}(h:p:=by
 have hs:=fw a0 T us;have:a.tmps=(ay a0 T us).tmps:=by
  apply Array.ext_getElem?;intro t;by_cases hwr:∃ (j:Nat) (y:Oper × Ent),T[j]?=some y/\y.1.dst=some t
  ·obtain ⟨j,y,hj,hd⟩:=hwr;by_cases ht:t<a0.tmps.size
   ·rw [fu a0 _ us (hT.once hB) j y t hj hd ht];exact h.set j y t hj (hall j (List.getElem?_eq_some_iff.1 hj).1) hd ht
   ·have s1:=hs.1;have s2:=h.asize;have q1:(ay a0 T us).tmps[t]?=none:=Array.getElem?_eq_none Zo;have q2:a.tmps[t]?=none:=Array.getElem?_eq_none Zo;rw [q1,q2]
  ·have hn:∀ (j:Nat) y,T[j]?=some y->y.1.dst≠some t:=λ j y hj hd=>hwr ⟨j,y,hj,hd⟩;rw [dq a0 _ us t hn];exact h.unset t (λ j y hy _=>hn j y hy)
 have h2:a.defers=(ay a0 T us).defers:=by rw [hs.2,h.defers]
 cases a with
 | mk x y=>cases hF:ay a0 T us with
  | mk x' y'=>rw [hF] at this h2;simp only at this h2;rw [this,h2]):p:=h
theorem qT (hB:OkB ops A T.length) (hT:Tab P ops A a0 W T) {Q:Exit->Act->World->Prop} (htail:∀ t,T.length<=t->t<ops.size->∀ k,T.length<=k->k<t->k∈A.getD t [])
  (hfin:∀ us w',Ext W w'->(∀ (i:Nat) x,T[i]?=some x->x.2.R (us i) w')->(∀ (i j:Nat) x y,T[i]?=some x->T[j]?=some y->i≠j->x.2.box=true->y.2.box=true->(us i 0).1≠(us j 0).1)->wpList P ops Q (ops.toList.drop T.length) (ay a0 T us) w')
  {listed:Array Bool} {a:Act} {w:World} {us:Us} (h:Inv ops A a0 W T listed a w us) (hall:∀ i,i<T.length->listed.getD i false=true) (fuel:Nat) (hf:ops.size-T.length<=fuel):wpAny P .any ops Q fuel listed a w:=by
 have ha:a=ay a0 T us:=by
  exact z3q5
 rw [ha];refine wu hB htail (ops.toList.drop T.length) T.length fuel listed _ w (aad _) (λ j=>by simp [List.getElem?_drop]) (by simpa using hf) h.size hall (λ k hk=>h.tail k hk) ?_;exact hfin us w h.ext (λ i x hx=>h.facts i x hx (hall i (List.getElem?_eq_some_iff.1 hx).1)) (λ i j x y hi hj hne hb hc=>h.dist i j x y hi hj (hall i (List.getElem?_eq_some_iff.1 hi).1) (hall j (List.getElem?_eq_some_iff.1 hj).1) hne hb hc)
theorem _root_.z3q4{p:Prop}(h:p:=by
 intro t ht;have hO:=gr (hT.once hB) i;by_cases hwr:∃ (j:Nat) (y:Oper × Ent),(T.take i)[j]?=some y/\y.1.dst=some t
 ·obtain ⟨j,y,hj,hd⟩:=hwr;have hj':T[j]?=some y:=by
   rw [List.getElem?_take] at hj;split at hj
   ·exact hj
   ·cases hj
  by_cases hs:t<a0.tmps.size
  ·rw [fu a0 _ us hO j y t hj hd hs];exact h.set j y t hj' (hw j (hB.look i x.1 ho j y.1 t (hT.at' j y hj') (iD hj') hd ht)) hd hs
  ·have s1:=(fw a0 (T.take i) us).1;have s2:=h.asize;have q1:(ay a0 (T.take i) us).tmps[t]?=none:=Array.getElem?_eq_none (s1 ▸ abD hs);have q2:a.tmps[t]?=none:=Array.getElem?_eq_none (s2 ▸ abD hs);rw [q1,q2]
 ·have hn:∀ (j:Nat) y,(T.take i)[j]?=some y->y.1.dst≠some t:=λ j y hj hd=>hwr ⟨j,y,hj,hd⟩;rw [dq a0 _ us t hn];refine h.unset t (λ j y hy hl hd=>?_);have hjA:=hB.look i x.1 ho j y.1 t (hT.at' j y hy) (iD hy) hd ht;have hji:=hB.lt i x.1 ho j hjA;exact hn j y (by rw [List.getElem?_take,aaj hji];exact hy) hd):p:=h
theorem _root_.z3q44{p:Prop}(h:p:=by
 by_cases hx:∃ i,i<T.length/\listed.getD i false=false
 ·exact hx
 ·exact absurd (λ i hi=>by
   cases hl:listed.getD i false with
   | true=>rfl
   | false=>exact absurd ⟨i,hi,hl⟩ hx) hall):p:=h
theorem _root_.z3q61{p:Prop}(h:p:=by
 obtain ⟨i,hi,hiu,hik⟩:=y5 m _ hm hmu;have:=iv hB h.size Zo hiu hik;rw [h0] at this;cases this):p:=h
theorem _root_.z3q66{p:Prop}(h:p:=by
 unfold gives;rcases hsp.1 with h1|⟨h1,h2⟩ <;> rw [h1]
 ·exact ⟨rfl,rfl⟩
 ·exact ⟨h2.symm,rfl⟩):p:=h
theorem _root_.z3q68{p:Prop}(h:p:=by
 have c1:=yP listed T.length ops.size hlen h.tail;have c2:=lW listed i T.length hin hun;omega):p:=h
theorem _root_.z3q73{p:Prop}(h:p:=by
 cases hl:listed.getD i false with
 | true=>rfl
 | false=>have:=lW listed i ops.size hi hl;omega):p:=h
theorem _root_.z3q77{p:Prop}(h:p:=by
 have:=rj listed i ops.size (by rw [h.size];exact hlt) hun;rw [aaj hlt] at this;omega):p:=h
theorem xy (hB:OkB ops A T.length) (hT:Tab P ops A a0 W T) {Q:Exit->Act->World->Prop} (Z:List Nat) (hQ:Z≠[]->∀ c (a:Act) d v w,Q (.panic c) (a.put d v) w->Q (.panic c) a w) (hZ:okZ ops A Z T.length=true) (hlen:T.length<=ops.size) (htail:∀ t,T.length<=t->t<ops.size->∀ k,k<t->k∈A.getD t []\/(k∈Z/\∀ d∈A.getD k [],d∈A.getD t []))
  (hfin:∀ us w',Ext W w'->(∀ (i:Nat) x,T[i]?=some x->x.2.R (us i) w')->(∀ (i j:Nat) x y,T[i]?=some x->T[j]?=some y->i≠j->x.2.box=true->y.2.box=true->(us i 0).1≠(us j 0).1)->wpList P ops Q (ops.toList.drop T.length) (ay a0 T us) w') :
  ∀ (fuel:Nat) (listed:Array Bool) (a:Act) (w:World)(us:Us),cnt listed ops.size<=fuel->ops.size-T.length<=fuel->Inv ops A a0 W T listed a w us->wpAny P .any ops Q fuel listed a w:=by
 have htl:∀ t,T.length<=t->t<ops.size->∀ k,T.length<=k->k<t->k∈A.getD t []:=λ t ht hts k hk hkt=>(htail t ht hts k hkt).elim id λ h=>by
  have:=(tW hZ k h.1).1;omega
 intro fuel
 induction fuel with
 | zero =>
  intro listed a w us hc hf h;have hall:∀ i,i<ops.size->listed.getD i false=true:=λ i hi=>by
   exact z3q73
  exact qT hB hT htl hfin h (λ i hi=>hall i Zo) 0 Zo
 | succ f ih =>
  intro listed a w us hc hf h;by_cases hall:∀ i,i<T.length->listed.getD i false=true
  ·exact qT hB hT htl hfin h hall (f+1) hf
  ·have hex:∃ i,i<T.length/\listed.getD i false=false:=by
    exact z3q44
   obtain ⟨m,hm,hmu⟩:=hex;by_cases hz:∃ z,z∈Z/\listed.getD z false=false/\∀ d∈A.getD z [],listed.getD d false=true
   ·obtain ⟨i,hiZ,hun,hw⟩:=hz;obtain ⟨hin,o,tp,ix,ho,hgd,hop,hfr,haf⟩:=tW hZ i hiZ;have hlt:i<ops.size:=(Array.getElem?_eq_some_iff.1 ho).1;have hi:i∈Region.ready .any ops listed:=mem_ready.2 ⟨by rw [kM (by rw [h.size];exact hlt)];exact hun,o,ho,λ e he hb=>hw _ (haf e he hb)⟩;have hx:=List.getElem?_eq_getElem hin;generalize T[i]=x at hx;have hox:o=x.1:=FG (ho.symm.trans (hT.at' i x hx));subst hox;have hcn:cnt (listed.setIfInBounds i true) ops.size<=f:=by
     exact z3q77
    have hff:ops.size-T.length<=f:=by
     exact z3q68
    have hag:eu ops x.1 a (ay a0 (T.take i) us):=by
     exact z3q4
    have hsel:=λ cs b=>aa1 hB.sel i x.1 cs b ho;have hsp:=(hT.spec i x hx).2.2 us w h.ext (λ k hk z hz=>h.facts k z hz (hw k (by simpa using hk)));rw [<- hag.wanted] at hsp;have hwn:Region.wanted x.1 (yielded ops a.tmps)=true:=by unfold Region.wanted;rw [hgd]
    simp only [hwn,aba] at hsp;have hg:∀ S,gives P x.1 (ay a0 (T.take i) us).eval w S->gives P x.1 a.eval w S:=λ S hS=>by
     unfold gives at *;rw [hag.exec hsel];exact hS
    have hall2:∃ us':Us,(∀ k,k≠i->us' k=us k)/\(∀ w2,(execOp a.eval x.1).run P w2 = .ok (.value (x.2.V us')) w2)/\x.2.R (us' i) w/\(x.2.box=true->ny (us' i) w w):=by
     cases hv:x.2.vag with
     | true =>
      simp only [hv,aba] at hsp;obtain ⟨v,hrun,p,hp,_,hR,hbx⟩:=kE hop (hg _ hsp);have hv':=hp (λ k=>if k=i then p else us k) Zs;exact ⟨λ k=>if k=i then p else us k,λ k hk=>by simp [hk],by rw [<- hv'];exact hrun,by simpa using hR,by simpa using hbx⟩
     | false =>
      simp only [hv,aaD,abg] at hsp;rw [<- hag.exec hsel] at hsp;have hgo:gives P x.1 a.eval w (λ v w'=>v=x.2.V us/\w'=w):=by
       exact z3q66
      obtain ⟨v,hrun,hve,_⟩:=kE hop hgo;exact ⟨us,λ _ _=>rfl,by rw [<- hve];exact hrun,hsp.2.1 _ _,λ e=>by rw [hsp.2.2] at e;cases e⟩
    obtain ⟨us',hus',hrun,hR,hbx⟩:=hall2;refine wpAny_first ho (λ j o cs b=>aa1 hB.sel j o cs b) (λ c a w hq=>hQ (List.ne_nil_of_mem hiZ) c _ _ _ w hq) f listed a w (λ j oj hj hne hju hno=>Region.free_spec ho hfr j oj hj hne (by
     have hjl:j<ops.size:=(Array.getElem?_eq_some_iff.1 hj).1;rw [kM (by rw [h.size];exact hjl)] at hju;have hnc:(A.getD i []).contains j=false:=by
      cases hc:(A.getD i []).contains j with
      | false=>rfl
      | true=>have:=hw j (by simpa using hc);rw [hju] at this;cases this
     unfold Bj;simpa [Array.getD,hjl] using hnc) hno) hi (v:=x.2.V us') (.inl ⟨hwn,hrun⟩) ?_
    exact ih _ _ _ _ hcn hff (h.step hB hT hx hi us' hus' w (FD _) hR hbx)
   refine ⟨λ h0=>?_,λ i hi=>?_⟩
   ·exact z3q61
   ·obtain ⟨o,ho,hun,hlt,hw⟩:=cC hB h.closed h.size hi;have hin:i<T.length:=by
     rcases abe i T.length with h'|h'
     ·exact h'
     ·rcases htail i h' hlt m Zo with h2|⟨h2,h3⟩
      ·have:=hw m h2;rw [hmu] at this;cases this
      ·exact absurd ⟨m,h2,hmu,λ d hd=>hw d (h3 d hd)⟩ hz
    have hx:=List.getElem?_eq_getElem hin;generalize T[i]=x at hx;have hox:o=x.1:=FG (ho.symm.trans (hT.at' i x hx));subst hox;have hcn:cnt (listed.setIfInBounds i true) ops.size<=f:=by
     exact z3q77
    have hff:ops.size-T.length<=f:=by
     exact z3q68
    have hag:eu ops x.1 a (ay a0 (T.take i) us):=by
     exact z3q4
    have hsel:=λ cs b=>aa1 hB.sel i x.1 cs b ho;have hsp:=(hT.spec i x hx).2.2 us w h.ext (λ k hk z hz=>h.facts k z hz (hw k (by simpa using hk)));rw [<- hag.wanted] at hsp;have hg:∀ S,gives P x.1 (ay a0 (T.take i) us).eval w S->gives P x.1 a.eval w S:=λ S hS=>by
     unfold gives at *;rw [hag.exec hsel];exact hS
    unfold wpOp;simp only [ho];by_cases hwn:Region.wanted x.1 (yielded ops a.tmps)=true
    ·simp only [hwn,aba] at hsp ⊢;refine .inl ?_;cases hv:x.2.vag with
     | true =>
      simp only [hv,aba] at hsp;refine cO (hg _ hsp) ?_;rintro v w' ⟨p,hp,he,hR,hbx⟩;have hv':=hp (λ k=>if k=i then p else us k) Zs;rw [hv'];exact ih _ _ _ _ hcn hff (h.step hB hT hx hi (λ k=>if k=i then p else us k) (λ k hk=>by simp [hk]) w' he (by simpa using hR) (by simpa using hbx))
     | false =>
      simp only [hv,aaD,abg] at hsp;rw [<- hag.exec hsel] at hsp;have hgo:gives P x.1 a.eval w (λ v w'=>v=x.2.V us/\w'=w):=by
       exact z3q66
      refine cO hgo ?_;rintro v w' ⟨rfl,rfl⟩;exact ih _ _ _ _ hcn hff (h.step hB hT hx hi us (λ k _=>rfl) w' (FD _) (hsp.2.1 _ _) (λ e=>by rw [hsp.2.2] at e;cases e))
    ·simp only [hwn] at hsp ⊢;simp only [aaD,abg] at hsp ⊢;rw [<- hsp.1];exact ih _ _ _ _ hcn hff (h.step hB hT hx hi us (λ k _=>rfl) w (FD _) (hsp.2.1 _ _) (λ e=>by rw [hsp.2.2] at e;cases e))
end main
theorem _root_.z3q38{p:Prop}(h:p:=by
 have:=aaw.1 htail t (aaR.2 (by simpa using htl));simp only [abz,aa9,aaw,aaR] at this;rcases this with h|h
 ·omega
 ·have:=h k hk;simpa using this):p:=h
theorem ae {id:Nat} {Q:Exit->Act->World->Prop} {a0:Act} {W:World} {l:List Oper} (n:Nat) (A:List (List Nat)) (Z:List Nat) (hQ:Z≠[]->∀ c (a:Act) d v w,Q (.panic c) (a.put d v) w->Q (.panic c) a w) (hm:P.follows .mixedOrders=true) (hB:okB l.toArray A n=true) (hn:decide (n<=l.length)=true)
  (hZ:okZ l.toArray A Z n=true)
  (htail:((List.range l.length).all λ t=>decide (t<n) || (List.range t).all λ k=>(A.getD t []).contains k || (Z.contains k && (A.getD k []).all λ d=>(A.getD t []).contains d))=true)
  (h:VD P l.toArray A W (λ a w'=>wpList P l.toArray Q (l.drop n) a w') (l.take n) 0 [] [] (λ _=>a0)):(Code.region id l.toArray true).wp P Q a0 W:=by
 have hBk:=jO hB;have hn':n<=l.length:=by simpa using hn
 obtain ⟨T,h1,h2,h3⟩:=gK (a0:=a0) (l.take n) 0 [] [] _ [] h rfl (λ j=>by
  rw [List.getElem?_take];split
  ·right;simp
  ·exact .inl rfl) (λ us=>rfl) Zs Zs Zs
 have hTl:T.length=n:=by rw [h1];simp;omega
 rw [<- hTl] at hBk;have hT:Tab P l.toArray A a0 W T:=⟨λ i x hx=>(h2 i x hx).1,λ i x hx=>by
  obtain ⟨ho,hs1,hs2,hs3⟩:=h2 i x hx;refine ⟨hs1,hs2,λ us w' hx' hf=>hs3 us w' hx' λ k hk y hy=>?_⟩;rw [List.getElem?_take] at hy;split at hy
  ·exact hf k hk y hy
  ·cases hy⟩
 refine wp_region_any hm ?_;refine xy hBk hT Z hQ (by rw [hTl];exact hZ) (by simp [hTl];omega) (λ t ht htl k hk=>?_) (λ us w' hx hf hd=>?_) _ _ _ _ (λ _ _=>(none,0)) (uj _ _) Zo ?_
 ·exact z3q38
 ·have:=h3 us w' hx hf hd;rw [hTl];simpa using this
 ·refine ⟨Zs,Ext.drew (FD W),rfl,rfl,?_,λ _ _=>rfl,?_,?_,?_,?_,?_⟩
  ·intro i x t _ hl;rw [getD_replicate_false] at hl;cases hl
  ·intro i o _ hl;rw [getD_replicate_false] at hl;cases hl
  ·intro i x _ hl;rw [getD_replicate_false] at hl;cases hl
  ·intro i _;exact getD_replicate_false _ _
  ·intro i x _ hl;rw [getD_replicate_false] at hl;cases hl
  ·intro i j x y _ _ hl;rw [getD_replicate_false] at hl;cases hl
end
end Go.Sec.R2
