/- Lemmas of this claim, several texts joined. -/
import Derived.Shelf.Strings.Builder1
import Derived.Shelf.Small.Strs
import Derived.Shelf.Strings.Search1
import Derived.Test.YtmdahnkcnagkjaaGreatRows
import Derived.Test.YtmdahnkcnagkjaaGreatY4
import Derived.Test.YtmdahnkcnagkjaaGreatY5
set_option maxRecDepth 100000
open Go.Value renaming int -> Zz,slice -> Zy
open Go.IntKind renaming i64 -> Zx
open List renaming setIfInBounds_toArray -> q0q, set_cons_succ -> q1q, set_cons_zero -> q2q, mem_cons -> q3q, not_mem_nil -> q4q, nil_append -> q5q, cons_append -> q6q, mem_append -> q7q, take_succ_cons -> q8q, take_zero -> q9q, drop_succ_cons -> q10q, drop_zero -> q11q, take_nil -> q12q, drop_nil -> q13q
open Go.IntWalk renaming i64_in -> q17q, rem_in -> q18q, wrap64_in -> q19q
set_option maxHeartbeats 8000000
set_option linter.unusedVariables false
set_option linter.unusedSimpArgs false
/- The contracts of the library's functions that octets call, at this program's numbers. -/
namespace Go.Proofs.YtmdahnkcnagkjaaGreat
open Go.Shelf Go.RowKit Go.Sec
end Go.Proofs.YtmdahnkcnagkjaaGreat

/- The walks of the functions on octets, part two. -/
namespace Go.Proofs.YtmdahnkcnagkjaaGreat
open Go.RowKit Go.Sec Go.Oct BigFrame
theorem iP (a b:Option Addr)(n c m d:Nat) (l k:List UInt8)(w:World)(h1:Sl w a n l) (h2:Sl w b m k) :
  Calls Tryz.prog 17 #[Zy a n c, Zy b m d] w λ e w'=>e = .returned (.bool (l == k))/\Ext w w':=by
 have e1:=jg U hu8 hst w a n c l h1;have e2:=jg U hu8 hst w b m d k h2
 go_enter Tryz.func17,Tryz.ntmps17
 go_wp2;go_ret;exact ⟨rfl,Ext.refl _⟩
theorem tS (a b:Option Addr)(n c m d:Nat) (l k:List UInt8)(w:World)(h1:Sl w a n l) (h2:Sl w b m k) :
  Calls Tryz.prog 166 #[Zy a n c, Zy b m d] w λ e w'=>e = .returned (.bool (l == k))/\Ext w w':=by
 have e1:=jg U hu8 hst w a n c l h1;have e2:=jg U hu8 hst w b m d k h2
 go_enter Tryz.func166,Tryz.ntmps166
 go_wp2;go_ret;exact ⟨rfl,Ext.refl _⟩
theorem mh (a b:Option Addr)(n c m d:Nat) (l k:List UInt8)(w:World)(h1:Sl w a n l) (h2:Sl w b m k) :
  Calls Tryz.prog 147 #[Zy a n c, Zy b m d] w λ e w'=>e = .returned (.bool (l == k))/\Ext w w':=by
 go_enter Tryz.func147,Tryz.ntmps147
 go_wp2_with ((go_at_call 166;refine (tS _ _ _ _ _ _ _ _ _ (h1.ext eX) (h2.ext eX)).mono ?_;rintro e w1 ⟨rfl,hxq⟩;obtain ⟨xq,rfl⟩:=hxq.out;clear hxq))
 go_ret;exact ⟨rfl,eX⟩
end Go.Proofs.YtmdahnkcnagkjaaGreat

/- The walks of the functions on octets, part three. -/
namespace Go.Proofs.YtmdahnkcnagkjaaGreat
open Go.RowKit Go.Sec Go.Oct BigFrame
def vt (w:World)(n m:Nat) (l k:List UInt8)(e:Ending) (w':World):Prop :=
 ∃ a c b d,e = .returned (.tuple #[Zy a n c, Zy b m d, .bool true])/\Own w' w.heap.size a n c l/\Own w' w.heap.size b m d k/\Ext w w'
theorem tJ (a:Option Addr)(n c:Nat) (l:List UInt8)(k:Nat) (w:World)(h:Sl w a n l) (hn:n<=1000000) (hk:k<=n) (hc:n<=c) :
  Calls Tryz.prog 122 #[Zy a n c, Zz Zx k] w (vt w k (n-k) (l.take k) (l.drop k)):=by
 have h1:=h.take k hk;have h2:=h.drop c k hc;have k0:(0:Int)<=(k:Int):=Zo;have k1:(k:Int)<=(c:Int):=Zo;have k2:(k:Int)<=(n:Int):=Zo
 go_enter Tryz.func122,Tryz.ntmps122
 go_wp2;refine ae 11 [[],[],[0,1],[0,1,2],[],[],[4,5],[0,1,2,3,4,5,6],[0,1,2,3,4,5,6,7],[0,1,2,3,4,5,6,7,8],[0,1,2,3,4,5,6,7,8,9]] Zk Zk Zk Zk ?_;simp only [q8q,q9q,q10q,q11q,q12q,q13q];(repeat (apply aj;(case h=>(intro us w' hx hf;obtain ⟨x,rfl⟩:=hx.out;refine ⟨rfl,?_⟩;simp [go_sem,execOp, *];(try simp (disch:=omega) only [q17q,q18q,q19q]);rfl));(try simp only [Act.put,q0q,q1q,q2q])));(refine ao (λ p => .slice (p 0).1 k (p 0).2) (λ p w''=>Own w'' w.heap.size (p 0).1 k (p 0).2 (l.take k)) (λ p w w' h hx=>h.ext hx) (λ us w' hx hf=>⟨rfl,?_⟩) ?_;(unfold gives;simp [go_sem,execOp];exact aA hx.size (eu _ _ _ _ _ (h1.ext hx) Zo)));(repeat (apply aj;(case h=>(intro us w' hx hf;obtain ⟨x,rfl⟩:=hx.out;refine ⟨rfl,?_⟩;simp [go_sem,execOp, *];(try simp (disch:=omega) only [q17q,q18q,q19q]);rfl));(try simp only [Act.put,q0q,q1q,q2q])));(refine ao (λ p => .slice (p 0).1 (n-k) (p 0).2) (λ p w''=>Own w'' w.heap.size (p 0).1 (n-k) (p 0).2 (l.drop k)) (λ p w w' h hx=>h.ext hx) (λ us w' hx hf=>⟨rfl,?_⟩) ?_;(unfold gives;simp [go_sem,execOp];exact aA hx.size (eu _ _ _ _ _ (h2.ext hx) Zo)));(repeat (apply aj;(case h=>(intro us w' hx hf;obtain ⟨x,rfl⟩:=hx.out;refine ⟨rfl,?_⟩;simp [go_sem,execOp, *];(try simp (disch:=omega) only [q17q,q18q,q19q]);rfl));(try simp only [Act.put,q0q,q1q,q2q])));(refine aB ?_;intro us w' hx hf;obtain ⟨x,rfl⟩:=hx.out;(try simp only [Act.put,q0q,q1q,q2q,ai]);(try simp only [q3q,q4q,aar,aac,aan,q5q,q6q,q7q,aat,aau,aav] at hf);(try simp only [Nat.reduceAdd,aag] at hf ⊢));go_wp2
 go_ret3
 exact ⟨_,_,_,_,rfl,hf.1,hf.2,hx⟩
theorem yQ (a:Option Addr)(n c:Nat) (k:Int) (w:World)(hk:k<0\/(n:Int)<k) :
  Calls Tryz.prog 122 #[Zy a n c, Zz Zx k] w λ e w'=>e = .returned (.tuple #[Zy none 0 0, Zy none 0 0, .bool false])/\Ext w w':=by
 by_cases h0:k<0
 ·go_enter Tryz.func122,Tryz.ntmps122
  go_wp2
  go_ret3
  exact ⟨rfl,Ext.refl _⟩
 ·have h1:(n:Int)<k:=by omega
  go_enter Tryz.func122,Tryz.ntmps122
  go_wp2
  go_ret3
  exact ⟨rfl,Ext.refl _⟩
end Go.Proofs.YtmdahnkcnagkjaaGreat
