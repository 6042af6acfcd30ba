/- Lemmas of this claim, several texts joined. -/
import Derived.Laws.ResultCell
import Derived.Test.YtmdahnkcnagkjaaGreatZ6
set_option maxRecDepth 100000
open Go.Value renaming slice -> Zy
set_option maxHeartbeats 8000000
set_option linter.unusedVariables false
set_option linter.unusedSimpArgs false
/- Whole arrays as results. -/
namespace Go.Sec
open Go.RowKit
section
variable {P:Program} {fn:Func} {p u:Tmp} {T:TypeId} {n:Nat}
theorem dY (hT:RowT P T n) (w:World)(g o:Nat) (cs:List Value)(hR:Rd w (some ⟨g,o,none⟩) cs) (hn:cs.length=n):(loadVar T ⟨g,o,none⟩).run P w = .ok (.agg cs.toArray) w:=by
 obtain ⟨d,hu,hd⟩:=hT.und;exact run_loadVar_mid w g o T cs d hR.range hu hd (by rw [hT.info,hn])
theorem aL (h:fn.results=#[.cell p T]) (hT:RowT P T n) (tmps:Array Value) (w:World)(g o:Nat) (cs:List Value)(hp:tmps.getD p undef = .pointer (some ⟨g,o,none⟩))
  (hR:Rd w (some ⟨g,o,none⟩) cs) (hn:cs.length=n):(results fn tmps).run P w = .ok (.agg cs.toArray) w:=by
 have hp':tmps[p]?.getD undef = .pointer (some ⟨g,o,none⟩):=by simpa using hp
 simp [results,h,hp',asAddr,dY hT w g o cs hR hn]
theorem aj (h:fn.results=#[.cell p T, .tmp u]) (hT:RowT P T n) (tmps:Array Value) (w:World)(g o:Nat) (cs:List Value)(hp:tmps.getD p undef = .pointer (some ⟨g,o,none⟩))
  (hR:Rd w (some ⟨g,o,none⟩) cs) (hn:cs.length=n) (v:Value)(hv:tmps.getD u undef=v):(results fn tmps).run P w = .ok (.tuple #[.agg cs.toArray,v]) w:=by
 have hp':tmps[p]?.getD undef = .pointer (some ⟨g,o,none⟩):=by simpa using hp
 subst hv;simp [results,h,hp',asAddr,dY hT w g o cs hR hn]
end
end Go.Sec

/- Boxes that a region makes, and stores of what lies there already. -/
namespace Go.Sec
open Go.RowKit
theorem rE {w:World} {g k:Nat} {T:TypeId} {vs:List Value} (h:Blk w g T vs) {v:Value} (hk:vs[k]?=some v):w.setCell ⟨g,k,none⟩ v=w:=by
 have hl:w.heap=(w.setCell ⟨g,k,none⟩ v).heap:=by
  apply Array.ext_getElem?;intro i;by_cases hi:i=g
  ·subst hi;have:=heap_setCell_same w i k _ T v h;rw [this,h];have e:vs.toArray.setIfInBounds k v=vs.toArray:=by
    apply Array.ext_getElem?;intro j;rw [Array.getElem?_setIfInBounds];split
    ·rename_i hj;subst hj;split
     ·simpa using hk.symm
     ·rename_i hn;have:=(List.getElem?_eq_some_iff.1 hk).1;simp at hn;omega
    ·rfl
   rw [e]
  ·exact (heap_setCell_other w ⟨g,k,none⟩ i v hi).symm
 have:w.setCell ⟨g,k,none⟩ v={ w with heap:=(w.setCell ⟨g,k,none⟩ v).heap }:=rfl;rw [this,<- hl]
theorem qj {g:Nat} {T:TypeId} {vs:List Value}:∀ (cs:List Value)(o:Nat) (w:World),Blk w g T vs->(∀ (j:Nat) v,cs[j]?=some v->vs[o+j]?=some v)->w.setCells g o cs=w:=by
 intro cs
 induction cs with
 | nil=>intro o w _ _;rfl
 | cons c r ih =>
  intro o w h hv;simp only [World.setCells];rw [rE h (by simpa using hv 0 c rfl)];exact ih (o+1) w h (λ j v hj=>by have:=hv (j+1) v (by simpa using hj);rwa [show o+(j+1)=o+1+j by omega] at this)
end Go.Sec
namespace Go.Sec.R2
open Go.RowKit Go.Sec
section
variable {P:Program} {ops:Array Oper} {A:List (List Nat)} {W:World} {Q:Act->World->Prop} {o:Oper} {rest:List Oper} {i:Nat} {H:List (Nat × (Par->World->Prop))} {B:List Nat} {F:Us->Act}
theorem cJ {T:TypeId} (z:Value)(zs:List Value)(hz:∀ w,(zeroValue T).run P w = .ok z w) (hzs:z.cells.toList=zs) (hg:o.guard=none) (ho:o.op = .alloc T)
  (hr:VD P ops A W Q rest (i+1) (H++[(i,λ p w''=>∃ g,(p 0).1=some ⟨g,0,none⟩/\W.heap.size<=g/\Blk w'' g T zs)]) (B++[i]) (λ us=>(F us).put o.dst (.pointer (us i 0).1))):VD P ops A W Q (o :: rest) i H B F:=by
 refine xZ (λ p => .pointer (p 0).1) (λ p w''=>∃ g,(p 0).1=some ⟨g,0,none⟩/\W.heap.size<=g/\Blk w'' g T zs) (λ p w w' ⟨g,h1,h2,h3⟩ hx=>⟨g,h1,h2,h3.extB hx⟩) (λ us w' hx hf=>⟨by simp [Region.wanted,hg],?_⟩) hr;unfold gives execOp;simp only [ho,Instr.alloc,aaW,hz,aaE,newVar,newRow,aaX];refine ⟨λ _=>(some ⟨w'.heap.size,0,none⟩,0),rfl,FA _ _,⟨w'.heap.size,rfl,hx.size,?_⟩,w'.heap.size,rfl,aad _,Zs⟩;have:=Blk.new w' z.cells T
 rwa [hzs] at this
theorem pZ {T:TypeId} {n:Nat} (hT:RowT P T n) (hgd:o.guard=none) (x y:Operand) (ho:o.op = .store T x y) (cs:List Value)(hn:cs.length=n) (h1:∀ v∈cs,v.oneCell'=true)
  (h:∀ us w',Ext W w'->fP H (A.getD i []) us w'->(F us).eval y = .agg cs.toArray/\∃ g T',(F us).eval x = .pointer (some ⟨g,0,none⟩)/\Blk w' g T' cs)
  (hr:VD P ops A W Q rest (i+1) H B (λ us=>(F us).put o.dst undef)):VD P ops A W Q (o :: rest) i H B F :=
 ⟨⟨λ _=>undef,λ _ _=>True,false,false⟩,⟨λ _ _ _ _ _=>trivial,(λ h=>by cases h),λ us w' hx hf=>by
  obtain ⟨hy,g,T',hx',hB⟩:=h us w' hx hf;have hw:Region.wanted o (yielded ops (F us).tmps)=true:=by simp [Region.wanted,hgd]
  simp only [hw,aba,aaD,abg];subst hn;have hrun:=run_storeAt_mid (P:=P) w' g 0 T cs.toArray (by simpa using hB.there 0 cs.length Zs) (by simpa using hT.info) (all_oneCell_toArray h1);rw [qj _ _ _ hB (λ j v hj=>by simpa using hj)] at hrun;refine ⟨.inr ⟨?_,trivial⟩,λ _ _=>trivial,trivial⟩;unfold execOp;simp only [ho,hx',hy,aaW,hrun,aaE,aaX]⟩,hr⟩
theorem ao {T:TypeId} {n:Nat} (hT:RowT P T n) (x:Operand) (ho:o.op = .load T x)
  (hw:∀ us,Region.wanted o (yielded ops (F us).tmps)=true) (b off:Nat) (hx:∀ us,(F us).eval x = .pointer (some ⟨b,off,none⟩)) (cs:List Value)(hc:Rd W (some ⟨b,off,none⟩) cs) (hn:cs.length=n)
  (hr:VD P ops A W Q rest (i+1) H B (λ us=>(F us).put o.dst (.agg cs.toArray))):VD P ops A W Q (o :: rest) i H B F :=
 eB (λ _ => .agg cs.toArray) (λ us w' hxw _=>⟨hw us,by
  unfold execOp;simp only [ho,hx,aaW,aaX,aaE,jP hT (hc.ext hxw) hn]⟩) hr
end
end Go.Sec.R2

/- As XReg2, with stores: operations of a region that write, each, a block that no other one of it writes. -/
namespace Go.Sec.R4
open Go.RowKit Go.Sec
def Chg (S:Nat->Prop) (w w':World):Prop:=w'.os=w.os/\w'.tape=w.tape/\w'.output=w.output/\w.heap.size<=w'.heap.size/\∀ k,k<w.heap.size->¬ S k->w'.heap[k]?=w.heap[k]?
section chg
variable {S S':Nat->Prop} {a b c:World}
theorem Chg.refl (S:Nat->Prop) (w:World):Chg S w w:=⟨rfl,rfl,rfl,aad _,λ _ _ _=>rfl⟩
theorem Chg.size (h:Chg S a b):a.heap.size<=b.heap.size:=h.2.2.2.1
theorem Chg.block (h:Chg S a b) (k:Nat) (hk:k<a.heap.size) (hs:¬ S k):b.heap[k]?=a.heap[k]?:=h.2.2.2.2 k hk hs
theorem Chg.trans (h:Chg S a b) (k:Chg S b c):Chg S a c :=
 ⟨k.1.trans h.1,k.2.1.trans h.2.1,k.2.2.1.trans h.2.2.1,aal h.size k.size,λ i hi hs=>(k.block i (aai hi h.size) hs).trans (h.block i hi hs)⟩
theorem Chg.mono (h:Chg S a b) (hs:∀ k,S k->S' k):Chg S' a b:=⟨h.1,h.2.1,h.2.2.1,h.size,λ k hk hn=>h.block k hk (λ e=>hn (hs k e))⟩
theorem Chg.of_ext (h:Ext a b):Chg S a b:=by
 obtain ⟨h1,h2,h3,h4,h5⟩:=h;exact ⟨h1,h2,h3,h4,λ k hk _=>h5 k hk⟩
theorem Chg.drew (h:Chg S a b):Chg S a b.drew:=h
theorem Chg.of_mut {g:Nat} (h:Mut g a b) (hs:S g):Chg S a b:=⟨h.os,h.tape,h.output,h.size,λ k hk hn=>h.block k hk (λ e=>by injection e with e;subst e;exact hn hs)⟩
theorem Chg.mut {g:Nat} (h:Chg (· ∈ [g]) a b):Mut g a b:=⟨h.1,h.2.1,h.2.2.1,h.size,λ k hk hn=>h.block k hk (λ e=>hn (by simp at e;rw [e]))⟩
theorem Chg.ext (h:Chg (· ∈ ([]:List Nat)) a b):Ext a b:=⟨h.1,h.2.1,h.2.2.1,h.size,λ k hk=>h.block k hk Zs⟩
theorem Chg.blk (h:Chg S a b) {k:Nat} {t:TypeId} {vs:List Value} (hr:Blk a k t vs) (hs:¬ S k):Blk b k t vs:=(h.block k hr.lt hs).trans hr
end chg
def BF (G:List Nat) (vag:Bool) (wr:Option Nat) (R:Par->World->Prop):Prop:=(∀ g,wr=some g->g∈G/\vag=true)/\∀ p w w',R p w->Chg (λ k=>k∈G/\wr≠some k) w w'->R p w'
section
variable {P:Program}
structure Ent where
 V:Us->Value
 R:Par->World->Prop
 vag:Bool
 box:Bool
 wr:Option Nat
instance:Inhabited Ent:=⟨⟨λ _=>undef,λ _ _=>True,false,false,none⟩⟩
def ny (p:Par) (w' w'':World):Prop:=∃ g,(p 0).1=some ⟨g,0,none⟩/\w'.heap.size<=g/\g<w''.heap.size
def ay (a0:Act):List (Oper × Ent)->Us->Act
 | [],_=>a0
 | (o,e) :: r,us=>ay (a0.put o.dst (e.V us)) r us
theorem ej (a0:Act) (l:List (Oper × Ent)) (x:Oper × Ent) (us:Us):ay a0 (l++[x]) us=(ay a0 l us).put x.1.dst (x.2.V us):=by
 exact z3q95
def dP (P:Program) (ops:Array Oper) (W:World)(G:List Nat) (o:Oper) (i:Nat) (e:Ent) (F:Us->Act) (fact:Us->World->Prop):Prop :=
 BF G e.vag e.wr e.R/\(e.vag=true->∀ us us':Us,us i=us' i->e.V us=e.V us') /\
 ∀ us w',Chg (λ k=>k∈G/\e.wr≠some k) W w'->fact us w' ->
  if Region.wanted o (yielded ops (F us).tmps)=true then
   (if e.vag then gives P o (F us).eval w' (λ v w''=>∃ p:Par,(∀ us':Us,us' i=p->v=e.V us')/\Chg (λ k=>e.wr=some k) w' w''/\e.R p w''/\(e.box=true->ny p w' w''))
    else ((execOp (F us).eval o).run P w' = .ok (.value (e.V us)) w'\/((execOp (F us).eval o).run P w' = .ok .skip w'/\e.V us=undef))/\(∀ p w,e.R p w)/\e.box=false/\e.wr=none)
  else e.V us=undef/\(∀ p w,e.R p w)/\e.box=false
def cF (T:List (Oper × Ent)) (L:List Nat) (us:Us) (w:World):Prop:=∀ k,L.contains k=true->∀ x,T[k]?=some x->x.2.R (us k) w
def lN (T:List (Oper × Ent)):Prop:=∀ (i j:Nat) x y d,T[i]?=some x->T[j]?=some y->i≠j->x.1.dst=some d->y.1.dst≠some d
theorem fw (a0:Act) (T:List (Oper × Ent)) (us:Us):(ay a0 T us).tmps.size=a0.tmps.size/\(ay a0 T us).defers=a0.defers:=by
 exact z3q45
theorem dq (a0:Act) (T:List (Oper × Ent)) (us:Us) (t:Nat) (h:∀ (i:Nat) x,T[i]?=some x->x.1.dst≠some t):(ay a0 T us).tmps[t]?=a0.tmps[t]?:=by
 exact z3q18
theorem fu (a0:Act) (T:List (Oper × Ent)) (us:Us) (hO:lN T) (i:Nat) (x:Oper × Ent) (t:Nat) (hi:T[i]?=some x) (hd:x.1.dst=some t) (ht:t<a0.tmps.size) :
  (ay a0 T us).tmps[t]?=some (x.2.V us):=by
 induction T generalizing a0 i with
 | nil=>simp at hi
 | cons y r ih =>
  simp only [ay];cases i with
  | zero =>
   have hy:y=x:=by simpa using hi
   subst hy;rw [dq _ r us t (λ j z hz=>hO 0 (j+1) y z t rfl (by simpa using hz) Zo hd)];simp [Act.put,hd,ht]
  | succ i =>
   refine ih (a0.put y.1.dst (y.2.V us)) (λ a b p q d h1 h2 h3=>hO (a+1) (b+1) p q d (by simpa using h1) (by simpa using h2) Zo) i (by simpa using hi) ?_;cases y.1.dst <;> simpa [Act.put] using ht
section main
variable {ops:Array Oper} {A:List (List Nat)} {a0:Act} {W:World} {G:List Nat} {T:List (Oper × Ent)}
structure Tab (P:Program) (ops:Array Oper) (A:List (List Nat)) (a0:Act) (W:World)(G:List Nat) (T:List (Oper × Ent)):Prop where
 at':∀ (i:Nat) x,T[i]?=some x->ops[i]?=some x.1
 spec:∀ (i:Nat) x,T[i]?=some x->dP P ops W G x.1 i x.2 (ay a0 (T.take i)) (cF T (A.getD i []))
 apart:∀ (i j:Nat) x y g,T[i]?=some x->T[j]?=some y->i≠j->x.2.wr=some g->y.2.wr≠some g
theorem Tab.once (hB:OkB ops A T.length) (hT:Tab P ops A a0 W G T):lN T:=λ i j x y d hi hj hne hd=>hB.once j y.1 (hT.at' j y hj) i x.1 d (hT.at' i x hi) (iD hi) hd hne
theorem gr (h:lN T) (m:Nat):lN (T.take m):=λ i j x y d hi hj=>by
 exact z3q55
def eu (ops:Array Oper) (o:Oper) (a b:Act):Prop:=∀ t∈o.looksAt ops,a.tmps[t]?=b.tmps[t]?
theorem eu.exec {o:Oper} {a b:Act} (hs:∀ cs b,o.op ≠ .select cs b) (h:eu ops o a b):execOp a.eval o=execOp b.eval o :=
 execOp_congr o hs λ x hx=>by
  exact z3q47
theorem eu.wanted {o:Oper} {a b:Act} (h:eu ops o a b):Region.wanted o (yielded ops a.tmps)=Region.wanted o (yielded ops b.tmps):=by
 exact z3q17
theorem eU (hB:OkB ops A T.length) (hT:Tab P ops A a0 W G T) {i:Nat} {o:Oper} (hi:ops[i]?=some o) (us us':Us)
  (h:∀ (j:Nat) x,j∈A.getD i []->T[j]?=some x->x.2.V us=x.2.V us'):eu ops o (ay a0 (T.take i) us) (ay a0 (T.take i) us'):=by
 intro t ht;have hO:=gr (hT.once hB) i;by_cases hw:∃ (j:Nat) (x:Oper × Ent),(T.take i)[j]?=some x/\x.1.dst=some t
 ·exact z3q9
 ·exact z3q52
theorem indep (hB:OkB ops A T.length) (hT:Tab P ops A a0 W G T) (w:World)(hx:Chg (· ∈ G) W w) (us us':Us):∀ (j:Nat) x,T[j]?=some x ->
  cF T (A.getD j []) us w->(∀ k,k∈A.getD j []\/k=j->us k=us' k)->x.2.V us=x.2.V us':=by
 intro j
 induction j using Nat.strongRecOn with
 | _ j ih =>
  intro x hj hf hus;have hop:=hT.at' j x hj;obtain ⟨hstab,hvag,hsp⟩:=hT.spec j x hj;cases hv:x.2.vag with
  | true=>exact hvag hv us us' (hus j (.inr rfl))
  | false =>
   have hf':cF T (A.getD j []) us' w:=λ k hk y hy=>by
    rw [<- hus k (.inl (by simpa using hk))];exact hf k hk y hy
   have hag:=eU hB hT hop us us' (λ k y hk hy=>by
    refine ih k (hB.lt j x.1 hop k hk) y hy (λ m hm z hz=>hf m ?_ z hz) (λ m hm=>hus m ?_)
    ·exact z3q97
    ·rcases hm with hm|hm
     ·exact .inl (hB.sub j x.1 hop k hk m hm)
     ·subst hm;exact .inl hk)
   have hx2:Chg (λ k=>k∈G/\x.2.wr≠some k) W w:=by
    refine ⟨hx.1,hx.2.1,hx.2.2.1,hx.size,λ k hk hn=>hx.block k hk λ hkG=>hn ⟨hkG,λ e=>?_⟩⟩;have:=(hstab.1 k e).2;rw [hv] at this;cases this
   have h1:=hsp us w hx2 hf;have h2:=hsp us' w hx2 hf';have hsel:=λ cs b=>aa1 hB.sel j x.1 cs b hop;rw [hag.wanted,hag.exec hsel] at h1;simp only [hv] at h1 h2;by_cases hw:Region.wanted x.1 (yielded ops (ay a0 (T.take j) us').tmps)=true
   ·exact z3q33
   ·simp only [hw] at h1 h2;rw [h1.1,h2.1]
structure Inv (ops:Array Oper) (A:List (List Nat)) (a0:Act) (W:World)(G:List Nat) (T:List (Oper × Ent)) (listed:Array Bool) (a:Act) (w:World)(us:Us):Prop where
 size:listed.size=ops.size
 ext:Chg (· ∈ G) W w
 asize:a.tmps.size=a0.tmps.size
 defers:a.defers=a0.defers
 set:∀ (i:Nat) x t,T[i]?=some x->listed.getD i false=true->x.1.dst=some t->t<a0.tmps.size->a.tmps[t]?=some (x.2.V us)
 unset:∀ t,(∀ (i:Nat) x,T[i]?=some x->listed.getD i false=true->x.1.dst≠some t)->a.tmps[t]?=a0.tmps[t]?
 closed:∀ (i:Nat) o,ops[i]?=some o->listed.getD i false=true->∀ k∈A.getD i [],listed.getD k false=true
 facts:∀ (i:Nat) x,T[i]?=some x->listed.getD i false=true->x.2.R (us i) w
 tail:∀ i,T.length<=i->listed.getD i false=false
 boxlt:∀ (i:Nat) x,T[i]?=some x->listed.getD i false=true->x.2.box=true->∃ g,(us i 0).1=some ⟨g,0,none⟩/\g<w.heap.size
 keep:∀ (i:Nat) x g,T[i]?=some x->listed.getD i false=false->x.2.wr=some g->g<W.heap.size->w.heap[g]?=W.heap[g]?
 dist:∀ (i j:Nat) x y,T[i]?=some x->T[j]?=some y->listed.getD i false=true->listed.getD j false=true->i≠j->x.2.box=true->y.2.box=true->(us i 0).1≠(us j 0).1
theorem Inv.step (hB:OkB ops A T.length) (hT:Tab P ops A a0 W G T) {listed:Array Bool} {a:Act} {w:World} {us:Us} (h:Inv ops A a0 W G T listed a w us) {i:Nat} {x:Oper × Ent} (hx:T[i]?=some x)
  (hr:i∈Region.ready .any ops listed) (us':Us) (hus:∀ k,k≠i->us' k=us k) (w':World)(he:Chg (λ k=>x.2.wr=some k) w w') (hR:x.2.R (us' i) w') (hbx:x.2.box=true->ny (us' i) w w'):Inv ops A a0 W G T (listed.setIfInBounds i true) (a.put x.1.dst (x.2.V us')) w' us':=by
 obtain ⟨o,ho,hun,hlt,hw⟩:=cC hB h.closed h.size hr;have hox:o=x.1:=FG (ho.symm.trans (hT.at' i x hx));subst hox;have hls:i<listed.size:=by rw [h.size];exact hlt
 have lst:∀ j,j≠i->(listed.setIfInBounds i true).getD j false=listed.getD j false:=λ j hj=>abx false (Ne.symm hj);have same:∀ (j:Nat) y,T[j]?=some y->j≠i->listed.getD j false=true->y.2.V us=y.2.V us':=λ j y hy hji hl=>by
  exact z3q23
 have psz:(a.put x.1.dst (x.2.V us')).tmps.size=a.tmps.size:=by cases x.1.dst <;> simp [Act.put]
 have pdf:(a.put x.1.dst (x.2.V us')).defers=a.defers:=by cases x.1.dst <;> rfl
 have pget:∀ t,x.1.dst≠some t->(a.put x.1.dst (x.2.V us')).tmps[t]?=a.tmps[t]?:=λ t ht=>by
  exact z3q51
 refine ⟨by simpa using h.size,h.ext.trans (he.mono λ k hk=>((hT.spec i x hx).1.1 k hk).1),by rw [psz,h.asize],by rw [pdf,h.defers],?_,?_,?_,?_,?_,?_,?_,?_⟩
 ·exact z3q19
 ·exact z3q37
 ·exact z3q53
 ·intro j y hy hl;by_cases hji:j=i
  ·exact z3q96
  ·rw [lst j hji] at hl;rw [hus j hji];exact (hT.spec j y hy).1.2 _ _ _ (h.facts j y hy hl) (he.mono λ k hk=>⟨((hT.spec i x hx).1.1 k hk).1,hT.apart i j x y k hx hy (Ne.symm hji) hk⟩)
 ·exact z3q69
 ·exact z3q21
 ·intro j y g hy hl hg hgW;have hji:j≠i:=by
   intro e;subst e;rw [cP false hls] at hl;cases hl
  rw [lst j hji] at hl;rw [he.block g (aai hgW h.ext.size) (λ e=>hT.apart i j x y g hx hy (Ne.symm hji) e hg)];exact h.keep j y g hy hl hg hgW
 ·exact z3q8
theorem jU (hB:OkB ops A T.length) (hT:Tab P ops A a0 W G T) {Q:Exit->Act->World->Prop} (htail:∀ t,T.length<=t->t<ops.size->∀ k,k<t->k∈A.getD t [])
  (hfin:∀ us w',Chg (· ∈ G) W w'->(∀ (i:Nat) x,T[i]?=some x->x.2.R (us i) w')->(∀ (i j:Nat) x y,T[i]?=some x->T[j]?=some y->i≠j->x.2.box=true->y.2.box=true->(us i 0).1≠(us j 0).1)->wpList P ops Q (ops.toList.drop T.length) (ay a0 T us) w')
  {listed:Array Bool} {a:Act} {w:World} {us:Us} (h:Inv ops A a0 W G T listed a w us) (hall:∀ i,i<T.length->listed.getD i false=true) (fuel:Nat) (hf:ops.size-T.length<=fuel):wpAny P .any ops Q fuel listed a w:=by
 have ha:a=ay a0 T us:=by
  exact z3q5
 rw [ha];refine pC hB htail (ops.toList.drop T.length) T.length fuel listed _ w (aad _) (λ j=>by simp [List.getElem?_drop]) (by simpa using hf) h.size hall (λ k hk=>h.tail k hk) ?_;exact hfin us w h.ext (λ i x hx=>h.facts i x hx (hall i (List.getElem?_eq_some_iff.1 hx).1)) (λ i j x y hi hj hne hb hc=>h.dist i j x y hi hj (hall i (List.getElem?_eq_some_iff.1 hi).1) (hall j (List.getElem?_eq_some_iff.1 hj).1) hne hb hc)
theorem lP (hB:OkB ops A T.length) (hT:Tab P ops A a0 W G T) {Q:Exit->Act->World->Prop} (hlen:T.length<=ops.size) (htail:∀ t,T.length<=t->t<ops.size->∀ k,k<t->k∈A.getD t [])
  (hfin:∀ us w',Chg (· ∈ G) W w'->(∀ (i:Nat) x,T[i]?=some x->x.2.R (us i) w')->(∀ (i j:Nat) x y,T[i]?=some x->T[j]?=some y->i≠j->x.2.box=true->y.2.box=true->(us i 0).1≠(us j 0).1)->wpList P ops Q (ops.toList.drop T.length) (ay a0 T us) w') :
  ∀ (fuel:Nat) (listed:Array Bool) (a:Act) (w:World)(us:Us),cnt listed ops.size<=fuel->ops.size-T.length<=fuel->Inv ops A a0 W G T listed a w us->wpAny P .any ops Q fuel listed a w:=by
 intro fuel
 induction fuel with
 | zero =>
  intro listed a w us hc hf h;have hall:∀ i,i<ops.size->listed.getD i false=true:=λ i hi=>by
   exact z3q73
  exact jU hB hT htail hfin h (λ i hi=>hall i Zo) 0 Zo
 | succ f ih =>
  intro listed a w us hc hf h;by_cases hall:∀ i,i<T.length->listed.getD i false=true
  ·exact jU hB hT htail hfin h hall (f+1) hf
  ·have hex:∃ i,i<T.length/\listed.getD i false=false:=by
    exact z3q44
   obtain ⟨m,hm,hmu⟩:=hex;refine ⟨λ h0=>?_,λ i hi=>?_⟩
   ·exact z3q61
   ·obtain ⟨o,ho,hun,hlt,hw⟩:=cC hB h.closed h.size hi;have hin:i<T.length:=by
     rcases abe i T.length with h'|h'
     ·exact h'
     ·have:=hw m (htail i h' hlt m Zo);rw [hmu] at this;cases this
    have hx:=List.getElem?_eq_getElem hin;generalize T[i]=x at hx;have hox:o=x.1:=FG (ho.symm.trans (hT.at' i x hx));subst hox;have hcn:cnt (listed.setIfInBounds i true) ops.size<=f:=by
     exact z3q77
    have hff:ops.size-T.length<=f:=by
     exact z3q68
    have hag:eu ops x.1 a (ay a0 (T.take i) us):=by
     exact z3q4
    have hsel:=λ cs b=>aa1 hB.sel i x.1 cs b ho;have hxg:Chg (λ k=>k∈G/\x.2.wr≠some k) W w:=by
     refine ⟨h.ext.1,h.ext.2.1,h.ext.2.2.1,h.ext.size,λ k hk hn=>?_⟩;by_cases hkG:k∈G
     ·have hw':x.2.wr=some k:=Decidable.byContradiction λ e=>hn ⟨hkG,e⟩;exact h.keep i x k hx hun hw' hk
     ·exact h.ext.block k hk hkG
    have hsp:=(hT.spec i x hx).2.2 us w hxg (λ k hk z hz=>h.facts k z hz (hw k (by simpa using hk)));rw [<- hag.wanted] at hsp;have hg:∀ S,gives P x.1 (ay a0 (T.take i) us).eval w S->gives P x.1 a.eval w S:=λ S hS=>by
     unfold gives at *;rw [hag.exec hsel];exact hS
    unfold wpOp;simp only [ho];by_cases hwn:Region.wanted x.1 (yielded ops a.tmps)=true
    ·simp only [hwn,aba] at hsp ⊢;refine .inl ?_;cases hv:x.2.vag with
     | true =>
      simp only [hv,aba] at hsp;refine cO (hg _ hsp) ?_;rintro v w' ⟨p,hp,he,hR,hbx⟩;have hv':=hp (λ k=>if k=i then p else us k) Zs;rw [hv'];exact ih _ _ _ _ hcn hff (h.step hB hT hx hi (λ k=>if k=i then p else us k) (λ k hk=>by simp [hk]) w' he (by simpa using hR) (by simpa using hbx))
     | false =>
      simp only [hv,aaD,abg] at hsp;rw [<- hag.exec hsel] at hsp;have hgo:gives P x.1 a.eval w (λ v w'=>v=x.2.V us/\w'=w):=by
       exact z3q66
      refine cO hgo ?_;rintro v w' ⟨rfl,rfl⟩;exact ih _ _ _ _ hcn hff (h.step hB hT hx hi us (λ k _=>rfl) w' (Chg.refl _ _) (hsp.2.1 _ _) (λ e=>by rw [hsp.2.2.1] at e;cases e))
    ·simp only [hwn] at hsp ⊢;simp only [aaD,abg] at hsp ⊢;rw [<- hsp.1];exact ih _ _ _ _ hcn hff (h.step hB hT hx hi us (λ k _=>rfl) w (Chg.refl _ _) (hsp.2.1 _ _) (λ e=>by rw [hsp.2.2] at e;cases e))
end main
/-! ### The walk -/
def VD (P:Program) (ops:Array Oper) (A:List (List Nat)) (W:World)(G:List Nat) (Q:Act->World->Prop):List Oper->Nat->List (Nat × (Par->World->Prop))->List Nat->List Nat->(Us->Act)->Prop
 | [],_,H,B,_,F=>∀ us w',Chg (· ∈ G) W w'->(∀ x∈H,x.2 (us x.1) w')->(∀ i∈B,∀ j∈B,i≠j->(us i 0).1≠(us j 0).1)->Q (F us) w'
 | o :: rest,i,H,B,U,F=>∃ e:Ent,dP P ops W G o i e F (fP H (A.getD i []))/\(∀ g,e.wr=some g->g ∉ U)/\VD P ops A W G Q rest (i+1) (if e.vag then H++[(i,e.R)] else H) (if e.box then B++[i] else B) (U++e.wr.toList) (λ us=>(F us).put o.dst (e.V us))
section
variable {ops:Array Oper} {A:List (List Nat)} {W:World} {G:List Nat} {Q:Act->World->Prop} {o:Oper} {rest:List Oper} {i:Nat} {H:List (Nat × (Par->World->Prop))} {B U:List Nat} {F:Us->Act}
theorem eB (f:Us->Value) (h:∀ us w',Chg (· ∈ G) W w'->fP H (A.getD i []) us w'->Region.wanted o (yielded ops (F us).tmps)=true/\(execOp (F us).eval o).run P w' = .ok (.value (f us)) w')
  (hr:VD P ops A W G Q rest (i+1) H B U (λ us=>(F us).put o.dst (f us))):VD P ops A W G Q (o :: rest) i H B U F :=
 ⟨⟨f,λ _ _=>True,false,false,none⟩,⟨⟨(λ _ h=>by cases h),λ _ _ _ _ _=>trivial⟩,(λ h=>by cases h),λ us w' hx hf=>by
  obtain ⟨h1,h2⟩:=h us w' (hx.mono λ k hk=>hk.1) hf;simp only [h1,aba,aaD,abg];exact ⟨.inl h2,λ _ _=>trivial,trivial,trivial⟩⟩,(λ _ h=>by cases h),by simpa using hr⟩
theorem fF (h:∀ us,Region.wanted o (yielded ops (F us).tmps)=false)
  (hr:VD P ops A W G Q rest (i+1) H B U (λ us=>(F us).put o.dst undef)):VD P ops A W G Q (o :: rest) i H B U F :=
 ⟨⟨λ _=>undef,λ _ _=>True,false,false,none⟩,⟨⟨(λ _ h=>by cases h),λ _ _ _ _ _=>trivial⟩,(λ h=>by cases h),λ us w' hx hf=>by
  simp only [h us,aaD,abg];exact ⟨trivial,λ _ _=>trivial,trivial⟩⟩,(λ _ h=>by cases h),by simpa using hr⟩
theorem ai (mk:Par->Value) (R:Par->World->Prop) (hst:BF G true none R)
  (h:∀ us w',Chg (· ∈ G) W w'->fP H (A.getD i []) us w'->Region.wanted o (yielded ops (F us).tmps)=true/\gives P o (F us).eval w' (λ v w''=>∃ p,v=mk p/\Ext w' w''/\R p w''))
  (hr:VD P ops A W G Q rest (i+1) (H++[(i,R)]) B U (λ us=>(F us).put o.dst (mk (us i)))):VD P ops A W G Q (o :: rest) i H B U F :=
 ⟨⟨λ us=>mk (us i),R,true,false,none⟩,⟨hst,λ _ us us' he=>by simp only [he],λ us w' hx hf=>by
  obtain ⟨h1,h2⟩:=h us w' (hx.mono λ k hk=>hk.1) hf;simp only [h1,aba];exact eJ h2 λ v w'' ⟨p,hp,he,hR⟩=>⟨p,λ us' hu=>by rw [hp,hu],Chg.of_ext he,hR,λ e=>by cases e⟩⟩,(λ _ h=>by cases h),by simpa using hr⟩
theorem xZ (mk:Par->Value) (R:Par->World->Prop) (hst:BF G true none R)
  (h:∀ us w',Chg (· ∈ G) W w'->fP H (A.getD i []) us w'->Region.wanted o (yielded ops (F us).tmps)=true/\gives P o (F us).eval w' (λ v w''=>∃ p,v=mk p/\Ext w' w''/\R p w''/\ny p w' w''))
  (hr:VD P ops A W G Q rest (i+1) (H++[(i,R)]) (B++[i]) U (λ us=>(F us).put o.dst (mk (us i)))):VD P ops A W G Q (o :: rest) i H B U F :=
 ⟨⟨λ us=>mk (us i),R,true,true,none⟩,⟨hst,λ _ us us' he=>by simp only [he],λ us w' hx hf=>by
  obtain ⟨h1,h2⟩:=h us w' (hx.mono λ k hk=>hk.1) hf;simp only [h1,aba];exact eJ h2 λ v w'' ⟨p,hp,he,hR,hbx⟩=>⟨p,λ us' hu=>by rw [hp,hu],Chg.of_ext he,hR,λ _=>hbx⟩⟩,(λ _ h=>by cases h),by simpa using hr⟩
theorem fN (h:∀ us w',Chg (· ∈ G) W w'->(∀ x∈H,x.2 (us x.1) w')->(∀ i∈B,∀ j∈B,i≠j->(us i 0).1≠(us j 0).1)->Q (F us) w'):VD P ops A W G Q [] i H B U F:=h
theorem rz {T:List (Oper × Ent)} {z y:Oper × Ent} {j:Nat} (h:(T++[z])[j]?=some y):(j<T.length/\T[j]?=some y)\/(j=T.length/\y=z):=by
 rcases abe j T.length with hj|hj
 ·rw [List.getElem?_append_left hj] at h;exact .inl ⟨hj,h⟩
 ·have h2:=(List.getElem?_eq_some_iff.1 h).1;simp at h2;obtain rfl:j=T.length:=Zo;rw [List.getElem?_append_right (aad _)] at h;simp at h;exact .inr ⟨rfl,h.symm⟩
theorem gK {a0:Act}:∀ (l:List Oper) (i:Nat) (H:List (Nat × (Par->World->Prop))) (B U:List Nat) (F:Us->Act) (T:List (Oper × Ent)),VD P ops A W G Q l i H B U F->T.length=i->(∀ j,l[j]?=none\/l[j]?=ops[i+j]?) ->
  (∀ us,F us=ay a0 T us)->(∀ x∈H,∃ y,T[x.1]?=some y/\y.2.R=x.2)->(∀ k∈B,∃ y,T[k]?=some y/\y.2.box=true)->(∀ (j:Nat) y g,T[j]?=some y->y.2.wr=some g->g∈U)->(∀ (i j:Nat) x y g,T[i]?=some x->T[j]?=some y->i≠j->x.2.wr=some g->y.2.wr≠some g)->(∀ (j:Nat) y,T[j]?=some y->ops[j]?=some y.1/\dP P ops W G y.1 j y.2 (ay a0 (T.take j)) (cF (T.take j) (A.getD j []))) ->
  ∃ T':List (Oper × Ent),T'.length=i+l.length/\(∀ (j:Nat) y,T'[j]?=some y->ops[j]?=some y.1/\dP P ops W G y.1 j y.2 (ay a0 (T'.take j)) (cF (T'.take j) (A.getD j [])))/\(∀ (i j:Nat) x y g,T'[i]?=some x->T'[j]?=some y->i≠j->x.2.wr=some g->y.2.wr≠some g) /\
   ∀ us w',Chg (· ∈ G) W w'->(∀ (j:Nat) y,T'[j]?=some y->y.2.R (us j) w')->(∀ (i j:Nat) x y,T'[i]?=some x->T'[j]?=some y->i≠j->x.2.box=true->y.2.box=true->(us i 0).1≠(us j 0).1)->Q (ay a0 T' us) w'
 | [],i,H,B,U,F,T,h,hl,_,hF,hH,hK,hU,hA,hT=>⟨T,by simpa using hl,hT,hA,λ us w' hx hf hd=>by
   rw [<- hF us];refine h us w' hx (λ x hxH=>?_) (λ k hk m hm hne=>?_)
   ·obtain ⟨y,hy,hR⟩:=hH x hxH;rw [<- hR];exact hf x.1 y hy
   ·obtain ⟨y,hy,hb⟩:=hK k hk;obtain ⟨z,hz,hc⟩:=hK m hm;exact hd k m y z hy hz hne hb hc⟩
 | o :: rest,i,H,B,U,F,T,h,hl,ho,hF,hH,hK,hU,hA,hT=>by
  obtain ⟨e,hs,hnew,hr⟩:=h;have hoi:ops[i]?=some o:=by
   rcases ho 0 with h0|h0
   ·simp at h0
   ·simpa using h0.symm
  have hFe:F=ay a0 T:=funext hF;obtain ⟨T',h1,h2,h4,h3⟩:=gK (a0:=a0) rest (i+1) _ _ _ _ (T++[(o,e)]) hr (by simp [hl]) (λ j=>by have:=ho (j+1);simpa [aaY,abi 1 j] using this)
   (λ us=>by rw [ej,hF us]) (λ x hx=>by
    have hin:x∈H\/x=(i,e.R):=by
     split at hx
     ·simpa using hx
     ·exact .inl hx
    rcases hin with hin|rfl
    ·exact z3q58
    ·exact ⟨(o,e),by rw [List.getElem?_append_right Zo];simp [hl],rfl⟩)
   (λ k hk=>by
    have hin:k∈B\/(k=i/\e.box=true):=by
     exact z3q54
    rcases hin with hin|⟨rfl,hb⟩
    ·exact z3q59
    ·exact ⟨(o,e),by rw [List.getElem?_append_right Zo];simp [hl],hb⟩)
   (λ j y g hy hg=>by
    rcases rz hy with ⟨_,hy⟩|⟨_,rfl⟩
    ·exact aaI _ (hU j y g hy hg)
    ·have hg':e.wr=some g:=hg;exact aac _ (by rw [hg'];simp))
   (λ a b x y g hx hy hne hg hg2=>by
    rcases rz hx with ⟨_,hx⟩|⟨ea,rfl⟩ <;> rcases rz hy with ⟨_,hy⟩|⟨eb,rfl⟩
    ·exact hA a b x y g hx hy hne hg hg2
    ·exact hnew g hg2 (hU a x g hx hg)
    ·exact hnew g hg (hU b y g hy hg2)
    ·omega)
   (λ j y hy=>by
    by_cases hj:j<T.length
    ·exact z3q71
    ·have hji:j=i:=by
      have:=(List.getElem?_eq_some_iff.1 hy).1;simp at this;omega
     subst hji;rw [List.getElem?_append_right Zo] at hy;have hy':(o,e)=y:=by simpa [hl] using hy
     subst hy';refine ⟨hoi,?_⟩;rw [aax Zo,aah Zo,<- hFe];refine ⟨hs.1,hs.2.1,λ us w' hx hf=>hs.2.2 us w' hx λ x hxH hc=>?_⟩;obtain ⟨y,hy,hR⟩:=hH x hxH;rw [<- hR];exact hf x.1 hc y hy)
  exact ⟨T',by rw [h1];simp;omega,h2,h4,h3⟩
theorem _root_.z7q14{p:Prop}(h:p:=by
 refine ⟨Zs,Chg.refl _ W,rfl,rfl,?_,λ _ _=>rfl,?_,?_,?_,?_,?_,?_⟩
 ·intro i x t _ hl;rw [getD_replicate_false] at hl;cases hl
 ·intro i o _ hl;rw [getD_replicate_false] at hl;cases hl
 ·intro i x _ hl;rw [getD_replicate_false] at hl;cases hl
 ·intro i _;exact getD_replicate_false _ _
 ·intro i x _ hl;rw [getD_replicate_false] at hl;cases hl
 ·intro i x g _ _ _ _;rfl
 ·intro i j x y _ _ hl;rw [getD_replicate_false] at hl;cases hl):p:=h
theorem _root_.z7q28{p:Prop}(h:p:=by
 refine ⟨λ i x hx=>(h2 i x hx).1,λ i x hx=>?_,h4⟩;obtain ⟨ho,hs1,hs2,hs3⟩:=h2 i x hx;refine ⟨hs1,hs2,λ us w' hx' hf=>hs3 us w' hx' λ k hk y hy=>?_⟩;rw [List.getElem?_take] at hy;split at hy
 ·exact hf k hk y hy
 ·cases hy):p:=h
theorem fQ {id:Nat} {Q:Exit->Act->World->Prop} {a0:Act} {W:World} {l:List Oper} (n:Nat) (A:List (List Nat)) (G:List Nat) (hm:P.follows .mixedOrders=true) (hB:okB l.toArray A n=true) (hn:decide (n<=l.length)=true)
  (htail:((List.range l.length).all λ t=>decide (t<n) || (List.range t).all λ k=>(A.getD t []).contains k)=true)
  (h:VD P l.toArray A W G (λ a w'=>wpList P l.toArray Q (l.drop n) a w') (l.take n) 0 [] [] [] (λ _=>a0)):(Code.region id l.toArray true).wp P Q a0 W:=by
 have hBk:=jO hB;have hn':n<=l.length:=by simpa using hn
 obtain ⟨T,h1,h2,h4,h3⟩:=gK (a0:=a0) (l.take n) 0 [] [] [] _ [] h rfl (λ j=>by
  rw [List.getElem?_take];split
  ·right;simp
  ·exact .inl rfl) (λ us=>rfl) Zs Zs Zs Zs Zs
 have hTl:T.length=n:=by rw [h1];simp;omega
 rw [<- hTl] at hBk;have hT:Tab P l.toArray A a0 W G T:=by
  exact z7q28
 refine wp_region_any hm ?_;refine lP hBk hT (by simp [hTl];omega) (λ t ht htl k hk=>?_) (λ us w' hx hf hd=>?_) _ _ _ _ (λ _ _=>(none,0)) (uj _ _) Zo ?_
 ·exact z3q38
 ·have:=h3 us w' hx hf hd;rw [hTl];simpa using this
 ·exact z7q14
end
end
section
variable {P:Program} {ops:Array Oper} {A:List (List Nat)} {W:World} {G:List Nat} {Q:Act->World->Prop} {o:Oper} {rest:List Oper} {i:Nat} {H:List (Nat × (Par->World->Prop))} {B U:List Nat} {F:Us->Act}
theorem tJ {T:TypeId} {n:Nat} (hT:RowT P T n) (hgd:o.guard=none) (x y:Operand) (ho:o.op = .store T x y) (hd:o.dst=none) (g off:Nat) (hg:g∈G) (hU:g ∉ U) (T':TypeId)(vs:List Value)(hB:Blk W g T' vs) (hfit:off+n<=vs.length)
  (cs:Par->List Value) (hcs:∀ p,(cs p).length=n/\∀ v∈cs p,v.oneCell'=true) (R':Par->World->Prop) (hR':∀ p w w',R' p w->Chg (· ∈ G) w w'->R' p w')
  (h:∀ us w',Chg (λ k=>k∈G/\g≠k) W w'->fP H (A.getD i []) us w'->(F us).eval x = .pointer (some ⟨g,off,none⟩)/\∃ p,(F us).eval y = .agg (cs p).toArray/\R' p w')
  (hr:VD P ops A W G Q rest (i+1) (H++[(i,λ p w''=>Blk w'' g T' (vs.take off++cs p++vs.drop (off+n))/\R' p w'')]) B (U++[g]) (λ us=>(F us).put o.dst undef)):VD P ops A W G Q (o :: rest) i H B U F :=
 ⟨⟨λ _=>undef,λ p w''=>Blk w'' g T' (vs.take off++cs p++vs.drop (off+n))/\R' p w'',true,false,some g⟩,
  ⟨⟨(λ g' e=>by injection e with e;subst e;exact ⟨hg,rfl⟩),λ p w w' ⟨h1,h2⟩ hx=>⟨hx.blk h1 (λ hn=>hn.2 rfl),hR' p w w' h2 (hx.mono λ k hk=>hk.1)⟩⟩,(λ _ _ _ _=>rfl),λ us w' hx hf=>by
   have hx':Chg (λ k=>k∈G/\g≠k) W w':=hx.mono λ k hk=>⟨hk.1,λ e=>hk.2 (by rw [e])⟩;obtain ⟨he,p,hy,hp⟩:=h us w' hx' hf;have hw:Region.wanted o (yielded ops (F us).tmps)=true:=by simp [Region.wanted,hgd]
   simp only [hw,aba];have hB':Blk w' g T' vs:=hx'.blk hB (λ hn=>hn.2 rfl);obtain ⟨hn,h1⟩:=hcs p;have hrun:=run_storeAt_mid (P:=P) w' g off T (cs p).toArray (by have:=hB'.there off n hfit;simpa [hn] using this) (by simpa [hn] using hT.info) (all_oneCell_toArray h1);have hM:Mut g w' (w'.setCells g off (cs p)):=fZ _ _ _;have hBn:=fY (cs p) off w' vs hB' Zo;rw [hn] at hBn;unfold gives execOp;simp only [ho,he,hy,aaW,hrun,aaE,aaX];exact ⟨p,(λ _ _=>trivial),Chg.of_mut hM rfl,⟨hBn,hR' p _ _ hp (Chg.of_mut hM hg)⟩,λ e=>by cases e⟩⟩,(λ g' e=>by injection e with e;subst e;exact hU),by simpa using hr⟩
theorem ao {T:TypeId} {n:Nat} (hT:RowT P T n) (x:Operand) (ho:o.op = .load T x) (hw:o.guard=none) (b off:Nat) (hb:b ∉ G) (hx:∀ us,(F us).eval x = .pointer (some ⟨b,off,none⟩)) (cs:List Value)(hc:Rd W (some ⟨b,off,none⟩) cs) (hn:cs.length=n)
  (hr:VD P ops A W G Q rest (i+1) H B U (λ us=>(F us).put o.dst (.agg cs.toArray))):VD P ops A W G Q (o :: rest) i H B U F :=
 eB (λ _ => .agg cs.toArray) (λ us w' hxw _=>⟨by simp [Region.wanted,hw],by
  have hc':Rd w' (some ⟨b,off,none⟩) cs:=by
   rcases hc with hc|⟨b',o',ha,hl,hc⟩
   ·exact .inl hc
   ·injection ha with ha
    injection ha with e1 e2
    subst e1 e2;exact .inr ⟨b,off,rfl,aai hl hxw.size,λ k v hk=>(FH (w:=W) (hxw.block b hl hb)).trans (hc k v hk)⟩
  unfold execOp;simp only [ho,hx,aaW,aaX,aaE,jP hT hc' hn]⟩) hr
end
end Go.Sec.R4

/- Facts on memory are found by looking: at a world that was made by further memory, the facts of the worlds ahead of it hold. -/
namespace Go.Sec
open Go.RowKit
section
variable {w:World} {x:More} {o:Obj} {a:E8} {n:Nat} {l:E7}
theorem Sl.upE (h:Sl w a n l):Sl (w.ext x) a n l:=h.ext (FE _ _)
theorem Sl.upA (h:Sl w a n l):Sl (w.alloc o) a n l:=h.ext (FA _ _)
theorem Sl.upD (h:Sl w a n l):Sl w.drew a n l:=h.ext (Ext.drew (FD _))
theorem Own.upE {base c:Nat} (h:Own w base a n c l):Own (w.ext x) base a n c l:=h.ext (FE _ _)
theorem Own.upA {base c:Nat} (h:Own w base a n c l):Own (w.alloc o) base a n c l:=h.ext (FA _ _)
theorem Own.upD {base c:Nat} (h:Own w base a n c l):Own w.drew base a n c l:=h.ext (Ext.drew (FD _))
theorem Rd.upE {vs:List Value} (h:Rd w a vs):Rd (w.ext x) a vs:=h.ext (FE _ _)
theorem Rd.upA {vs:List Value} (h:Rd w a vs):Rd (w.alloc o) a vs:=h.ext (FA _ _)
theorem Rd.upD {vs:List Value} (h:Rd w a vs):Rd w.drew a vs:=h.ext (Ext.drew (FD _))
structure Bsc (w:World)(a:E8)(n:Nat) (L:List E7):Prop where
 len:L.length=n
 row:n=0\/∃ b off,a=some ⟨b,off,none⟩/\b<w.heap.size/\∀ k (h:k<L.length),∃ a' n' c',w.cell? ⟨b,off+k,none⟩=some (Zy a' n' c')/\n'<=c'/\Sl w a' n' L[k]
theorem Bsc.ext {w w':World} {a:E8} {n:Nat} {L:List (E7)} (h:Bsc w a n L) (hx:Ext w w'):Bsc w' a n L:=by
 refine ⟨h.len,h.row.imp id ?_⟩;rintro ⟨b,off,ha,hb,hc⟩;refine ⟨b,off,ha,aai hb hx.size,λ k hk=>?_⟩;obtain ⟨a',n',c',h1,h3,h2⟩:=hc k hk;exact ⟨a',n',c',(hx.cell (p:=⟨b,_,none⟩) hb).trans h1,h3,h2.ext hx⟩
theorem Bsc.at {w:World} {a:E8} {n:Nat} {L:List (E7)} (h:Bsc w a n L) (k:Nat) (hk:k<n) :
  ∃ b off a' n' c',a=some ⟨b,off,none⟩/\BlkLt b w/\w.cell? ⟨b,off+k,none⟩=some (Zy a' n' c')/\n'<=c'/\Sl w a' n' (L[k]'(by have:=h.len;omega)):=by
 rcases h.row with h0|⟨b,off,ha,hb,hc⟩
 ·omega
 ·obtain ⟨a',n',c',h1,h3,h2⟩:=hc k (by have:=h.len;omega);exact ⟨b,off,a',n',c',ha,⟨hb⟩,h1,h3,h2⟩
theorem Bsc.take {L:List (E7)} (h:Bsc w a n L) (j:Nat) (hj:j<=n):Bsc w a j (L.take j):=by
 refine ⟨by rw [aat,h.len];omega,?_⟩;rcases h.row with h0|⟨b,off,ha,hb,hc⟩
 ·left;omega
 ·refine .inr ⟨b,off,ha,hb,λ k hk=>?_⟩;rw [aat] at hk;obtain ⟨a',n',c',h1,h3,h2⟩:=hc k Zo;exact ⟨a',n',c',h1,h3,by simpa using h2⟩
theorem Bsc.nil (w:World)(a:E8):Bsc w a 0 []:=⟨rfl, .inl rfl⟩
theorem Bsc.upE {L:List (E7)} (h:Bsc w a n L):Bsc (w.ext x) a n L:=h.ext (FE _ _)
theorem Bsc.upA {L:List (E7)} (h:Bsc w a n L):Bsc (w.alloc o) a n L:=h.ext (FA _ _)
theorem Bsc.upD {L:List (E7)} (h:Bsc w a n L):Bsc w.drew a n L:=h.ext (Ext.drew (FD _))
theorem sm {a1 a2:E8} {n1 n2 c1 c2:Nat} {l1 l2:E7} (h1:Sl w a1 n1 l1) (k1:n1<=c1) (h2:Sl w a2 n2 l2) (k2:n2<=c2) (t:TypeId) :
  Bsc (w.alloc (.cells #[Zy a1 n1 c1, Zy a2 n2 c2] t)) (some ⟨w.heap.size,0,none⟩) 2 [l1,l2]:=by
 have hx:=FA w (.cells #[Zy a1 n1 c1, Zy a2 n2 c2] t);refine ⟨rfl, .inr ⟨_,0,rfl,Zs,λ k hk=>?_⟩⟩
 match k,hk with
 | 0,_=>exact ⟨a1,n1,c1,by simp [go_sem],k1,h1.ext hx⟩
 | 1,_=>exact ⟨a2,n2,c2,by simp [go_sem],k2,h2.ext hx⟩
end
end Go.Sec

/- A name that another import makes ambiguous. -/
namespace Go.Proofs.P9
open Go.Sec
abbrev Own (w:World)(base:Nat) (a:E8)(n c:Nat) (l:E7):Prop:=Sec.Own w base a n c l
end Go.Proofs.P9

/- Small things that several chapters share. -/
namespace Go.Sec
open Go.RowKit
section
variable {P:Program} {fn:Func} {p u u2 u3:Tmp} {T:TypeId} {n:Nat}
theorem aD (h:fn.results=#[.cell p T, .tmp u, .tmp u2]) (hT:RowT P T n) (tmps:Array Value) (w:World)(g o:Nat) (cs:List Value)(hp:tmps.getD p undef = .pointer (some ⟨g,o,none⟩))
  (hR:Rd w (some ⟨g,o,none⟩) cs) (hn:cs.length=n) (v v2:Value)(hv:tmps.getD u undef=v) (hv2:tmps.getD u2 undef=v2):(results fn tmps).run P w = .ok (.tuple #[.agg cs.toArray,v,v2]) w:=by
 have hp':tmps[p]?.getD undef = .pointer (some ⟨g,o,none⟩):=by simpa using hp
 subst hv hv2;simp [results,h,hp',asAddr,dY hT w g o cs hR hn]
end
end Go.Sec
namespace Go.Proofs.P9
open Go.RowKit Go.Sec BigFrame
theorem lH (k:Int) (h:0<=k) (h2:k<18446744073709551616):IntKind.u64.wrap k=n64 (UInt64.ofNat k.toNat):=by
 unfold n64;rw [aaG,aaH];omega
theorem cU {P:Program} {c:Code} {Q:Exit->Act->World->Prop} {a:Act} {w:World} (h:∀ W,W=w->c.wp P Q a W):c.wp P Q a w:=h w rfl
theorem iK (w:World)(cs:Array Value) (t:TypeId)(fr:Nat × Nat):Rd (w.alloc (.cells cs t fr)) (some ⟨w.heap.size,0,none⟩) cs.toList :=
 .inr ⟨w.heap.size,0,rfl,Zs,λ k v hk=>by rw [aaA,cell_of_row _ w.heap.size k cs t fr (heap_alloc_new w _)];simpa using hk⟩
end Go.Proofs.P9
