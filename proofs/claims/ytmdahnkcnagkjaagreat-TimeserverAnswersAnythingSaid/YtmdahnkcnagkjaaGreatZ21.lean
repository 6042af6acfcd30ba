/- Lemmas of this claim, several texts joined. -/
import Derived.RangeFuncFrom
import Derived.RangeFuncCalls
import Derived.RangeFuncLeaves
import Derived.OrdersIn
import Derived.TacticsIn
import Derived.Test.YtmdahnkcnagkjaaGreatZ7
set_option maxRecDepth 100000
open List renaming cons_append -> q6q
set_option maxHeartbeats 8000000
set_option linter.unusedVariables false
set_option linter.unusedSimpArgs false
/- Walks within a round of a range Be a function, at the wide fence: what a walk outside has shown of an operation, a row of operations or a region holds there too. -/
namespace Go.Sec
open Go.RowKit
def iH (F:Fence):Prop:=F=Fence.wide\/∃ l,F=Fence.wide.inRound l
theorem ti (l:Nat):iH (Fence.wide.inRound l) := .inr ⟨l,rfl⟩
section
variable {F:Fence} {n:Nat} {P:Program} {o:Oper} {a:Act} {w:World} {K:Act->World->Prop} {Q:Exit->Act->World->Prop} {ops:Array Oper}
theorem lh {f:FuncId} {args:Array Value} {R:Ending->World->Prop} (hF:iH F) (h:Calls P f args w R):CallsIn F n P f args w R:=by
 rcases hF with rfl|⟨l,rfl⟩
 ·exact callsIn_wide.2 h
 ·exact CallsIn.inRound l (callsIn_wide.2 h)
theorem xf {row:String} {args:Array Value} {R:Value->World->Prop} (hF:iH F) (h:Rows P row args w R):RowsIn F n P row args w R:=by
 have key:RowsIn Fence.wide n P row args w R:=λ c cs _=>let ⟨v,w',r,s⟩:=h c cs;⟨v,w',r,stepsIn_wide.2 s⟩;rcases hF with rfl|⟨l,rfl⟩
 ·exact key
 ·exact key
theorem iH.depth (hF:iH F):F.depth=none:=by rcases hF with rfl|⟨l,rfl⟩ <;> rfl
theorem iH.fn (hF:iH F) (f:FuncId):F.fn f:=by rcases hF with rfl|⟨l,rfl⟩ <;> trivial
theorem oY (hF:iH F) (hd:∀ c,o.op ≠ .defer c) (h:o.wp P a w K Q):o.wpIn F n P a w K Q:=by
 refine ⟨λ f _=>hF.fn f,?_⟩;rw [Oper.semAt_eq _ _ _ hd];have hno:∀ x:Prop,F.depth.isSome=true->x:=λ x hx=>by rw [hF.depth] at hx;cases hx
 unfold Oper.wp at h;generalize (execOp a.eval o).run P w=r at *;cases r with
 | ok r w' =>
  cases r with
  | value v=>exact h
  | skip=>exact h
  | defer d=>exact h
  | enter f args=>exact ⟨hno _,lh hF h⟩
  | row row args=>exact ⟨hno _,xf hF h⟩
  | _=>exact False.elim h
 | halt x w' =>
  cases x <;> first|exact h|exact absurd h (by simp [Oper.upon])
def iB (ops:List Oper):Bool:=ops.all λ o=>match o.op with | .defer _=>false|_=>true
theorem lB {l:List Oper} (h:iB l=true):∀ o∈l,∀ c,o.op ≠ .defer c:=by
 intro o ho c hc;have:=aaw.1 h o ho;rw [hc] at this;cases this
theorem jI (hF:iH F) (hL:¬ LetsOut Q):∀ (l rest:List Oper) (a:Act) (w:World),iB l=true->wpList P ops (Exit.then (wpListIn F n P ops Q rest) Q) l a w->wpListIn F n P ops Q (l++rest) a w:=by
 intro l
 induction l with
 | nil=>intro rest a w _ h;exact h
 | cons o l ih =>
  intro rest a w hd h;have hd1:=lB hd o (aa4 ..);have hd2:iB l=true:=by
   unfold iB at *;rw [List.all_cons,aaz] at hd;exact hd.2
  simp only [wpList] at h;simp only [q6q,wpListIn];split
  ·rename_i hw;rw [aaj hw] at h;have h:=h.resolve_right (λ e=>hL e.2);refine oY hF hd1 ?_;have hQ:∀ r,o.upon P a (wpList P ops (Exit.then (wpListIn F n P ops Q rest) Q) l) (Exit.then (wpListIn F n P ops Q rest) Q) r->o.upon P a (wpListIn F n P ops Q (l++rest)) Q r:=by
    intro r hr;cases r with
    | ok r w' =>
     cases r with
     | value v=>exact ih _ _ _ hd2 hr
     | skip=>exact ih _ _ _ hd2 hr
     | defer d=>exact ih _ _ _ hd2 hr
     | enter f args =>
      refine Calls.mono hr λ e w'' he=>?_;cases e with
      | returned v=>exact ih _ _ _ hd2 he
      | panicked chain=>exact he
      | outgrown=>exact he
     | row row args=>exact Rows.mono hr λ v w'' he=>ih _ _ _ hd2 he
     | _=>exact False.elim hr
    | halt x w'=>cases x <;> first|exact hr|exact absurd hr (by simp [Oper.upon])
   exact hQ _ h
  ·rename_i hw;rw [aae hw] at h;exact ⟨λ f _=>hF.fn f,ih _ _ _ hd2 h⟩
theorem rD (hF:iH F) (hL:¬ LetsOut Q) {rest:List Oper} (hd:iB [o]=true) (h:wpList P ops (Exit.then (wpListIn F n P ops Q rest) Q) [o] a w):wpListIn F n P ops Q (o :: rest) a w:=jI hF hL [o] rest a w hd h
theorem r8 (hF:iH F) (hL:¬ LetsOut Q) {o':Oper} {rest:List Oper} (hd:iB [o,o']=true) (h:wpList P ops (Exit.then (wpListIn F n P ops Q rest) Q) [o,o'] a w):wpListIn F n P ops Q (o :: o' :: rest) a w:=jI hF hL [o,o'] rest a w hd h
theorem pU {K:Act->World->Prop} (h:K a w):wpList P ops (Exit.then K Q) [] a w:=h
theorem uq (hF:iH F) (hL:¬ LetsOut Q) (hd:iB ops.toList=true):∀ (fuel:Nat) (listed:Array Bool) (a:Act) (w:World),wpAny P .any ops Q fuel listed a w->wpAnyIn F n P .any ops Q fuel listed a w:=by
 intro fuel
 induction fuel with
 | zero=>intro listed a w h;exact h
 | succ f ih =>
  intro listed a w h;refine ⟨h.1,λ i hi=>?_⟩;have h2:=h.2 i hi;unfold wpOp at h2;unfold wpOpIn;cases ho:ops[i]? with
  | none=>simp only [ho] at h2 ⊢;exact ih _ _ _ h2
  | some o =>
   simp only [ho] at h2 ⊢;have hdo:=lB hd o (by
    have:=Array.mem_of_getElem? ho;simpa using this)
   split
   ·rename_i hw;rw [aaj hw] at h2;have h2:=h2.resolve_right (λ e=>hL e.2);refine oY hF hdo ?_;exact Oper.wp_mono (λ a w h=>ih _ _ _ h) h2
   ·rename_i hw;rw [aae hw] at h2;exact ⟨λ f _=>hF.fn f,ih _ _ _ h2⟩
end
end Go.Sec
namespace Go.Sec.R4
open Go.RowKit Go.Sec
section
variable {P:Program}
variable {ops:Array Oper} {A:List (List Nat)} {W:World} {G:List Nat} {Q:Act->World->Prop} {o:Oper} {rest:List Oper} {i:Nat} {H:List (Nat × (Par->World->Prop))} {B U:List Nat} {F:Us->Act}
theorem wv {Q:Exit->Act->World->Prop} {a0:Act} {W:World} {l:List Oper} (n:Nat) (A:List (List Nat)) (G:List Nat) (hB:okB l.toArray A n=true) (hn:decide (n<=l.length)=true)
  (htail:((List.range l.length).all λ t=>decide (t<n) || (List.range t).all λ k=>(A.getD t []).contains k)=true)
  (h:VD P l.toArray A W G (λ a w'=>wpList P l.toArray Q (l.drop n) a w') (l.take n) 0 [] [] [] (λ _=>a0)):wpAny P .any l.toArray Q l.toArray.size (Array.replicate l.toArray.size false) a0 { W with drawn:=W.drawn+1 }:=by
 have hBk:=jO hB;have hn':n<=l.length:=by simpa using hn
 obtain ⟨T,h1,h2,h4,h3⟩:=gK (a0:=a0) (l.take n) 0 [] [] [] _ [] h rfl (λ j=>by
  rw [List.getElem?_take];split
  ·right;simp
  ·exact .inl rfl) (λ us=>rfl) Zs Zs Zs Zs Zs
 have hTl:T.length=n:=by rw [h1];simp;omega
 rw [<- hTl] at hBk;have hT:Tab P l.toArray A a0 W G T:=by
  exact z7q28
 refine lP hBk hT (by simp [hTl];omega) (λ t ht htl k hk=>?_) (λ us w' hx hf hd=>?_) _ _ _ _ (λ _ _=>(none,0)) (uj _ _) Zo ?_
 ·exact z3q38
 ·have:=h3 us w' hx hf hd;rw [hTl];simpa using this
 ·exact z7q14
theorem lZ {F:Fence} {m:Nat} {id:Nat} {Q:Exit->Act->World->Prop} {a0:Act} {W:World} {l:List Oper} (hF:iH F) (hL:¬ LetsOut Q) (hd:iB l=true) (n:Nat) (A:List (List Nat)) (G:List Nat) (hm:P.follows .mixedOrders=true) (hB:okB l.toArray A n=true) (hn:decide (n<=l.length)=true)
  (htail:((List.range l.length).all λ t=>decide (t<n) || (List.range t).all λ k=>(A.getD t []).contains k)=true)
  (h:VD P l.toArray A W G (λ a w'=>wpList P l.toArray Q (l.drop n) a w') (l.take n) 0 [] [] [] (λ _=>a0)):(Code.region id l.toArray true).wpIn F m P Q a0 W :=
 wpIn_region_any hm (uq hF hL (by simpa using hd) _ _ _ _ (wv n A G hB hn htail h))
end
end Go.Sec.R4
