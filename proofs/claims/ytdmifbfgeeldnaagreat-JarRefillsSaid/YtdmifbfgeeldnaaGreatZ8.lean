/- Lemmas of this claim, several texts joined. -/
import Derived.Shelf.Strings.Builder1
import Derived.Shelf.Small.Strs
import Derived.Shelf.Strings.Search1
import Derived.Test.YtdmifbfgeeldnaaGreatRows
import Derived.Test.YtdmifbfgeeldnaaGreatZ4
import Derived.Test.YtdmifbfgeeldnaaGreatZ5
set_option maxRecDepth 100000
open List renaming setIfInBounds_toArray → q0q, set_cons_succ → q1q, set_cons_zero → q2q, mem_cons → q3q, not_mem_nil → q4q, nil_append → q5q, cons_append → q6q, mem_append → q7q, take_succ_cons → q8q, take_zero → q9q, drop_succ_cons → q10q, drop_zero → q11q, take_nil → q12q, drop_nil → q13q
set_option linter.unusedVariables false
set_option linter.unusedSimpArgs false
/- The contracts of the library's functions that octets call, at this program's numbers. -/
namespace Go.Proofs.YtdmifbfgeeldnaaGreat
open Go.Shelf Go.RowKit Go.Sec
end Go.Proofs.YtdmifbfgeeldnaaGreat

/- The walks of the functions on octets, part two. -/
namespace Go.Proofs.YtdmifbfgeeldnaaGreat
open Go.RowKit Go.Sec Go.Oct BigFrame
set_option maxHeartbeats 1000000 in
theorem same_any (a b:Option Addr)(n c m d:Nat) (l k:List UInt8)(w:World)(h1:Sl w a n l) (h2:Sl w b m k) :
  Calls Tryz.prog 24 #[.slice a n c, .slice b m d] w fun e w'=>e = .returned (.bool (l == k))∧Ext w w':=by
 have e1:=run_str_by U hu8 hst w a n c l h1
 have e2:=run_str_by U hu8 hst w b m d k h2
 go_enter Tryz.func24,Tryz.ntmps24
 go_wp2
 go_ret
 exact ⟨rfl,Ext.refl _⟩
set_option maxHeartbeats 1000000 in
theorem bequal_any (a b:Option Addr)(n c m d:Nat) (l k:List UInt8)(w:World)(h1:Sl w a n l) (h2:Sl w b m k) :
  Calls Tryz.prog 115 #[.slice a n c, .slice b m d] w fun e w'=>e = .returned (.bool (l == k))∧Ext w w':=by
 have e1:=run_str_by U hu8 hst w a n c l h1
 have e2:=run_str_by U hu8 hst w b m d k h2
 go_enter Tryz.func115,Tryz.ntmps115
 go_wp2
 go_ret
 exact ⟨rfl,Ext.refl _⟩
set_option maxHeartbeats 1000000 in
theorem osame_any (a b:Option Addr)(n c m d:Nat) (l k:List UInt8)(w:World)(h1:Sl w a n l) (h2:Sl w b m k) :
  Calls Tryz.prog 71 #[.slice a n c, .slice b m d] w fun e w'=>e = .returned (.bool (l == k))∧Ext w w':=by
 go_enter Tryz.func71,Tryz.ntmps71
 go_wp2_with ((go_at_call 115;refine (bequal_any _ _ _ _ _ _ _ _ _ (h1.ext eX) (h2.ext eX)).mono ?_;rintro e w1 ⟨rfl,hxq⟩;obtain ⟨xq,rfl⟩:=hxq.out;clear hxq))
 go_ret
 exact ⟨rfl,eX⟩
end Go.Proofs.YtdmifbfgeeldnaaGreat

/- The walks of the functions on octets, part three. -/
namespace Go.Proofs.YtdmifbfgeeldnaaGreat
open Go.RowKit Go.Sec Go.Oct BigFrame
def CutPost (w:World)(n m:Nat) (l k:List UInt8)(e:Ending) (w':World):Prop :=
 ∃ a c b d,e = .returned (.tuple #[.slice a n c, .slice b m d, .bool true])∧Own w' w.heap.size a n c l∧Own w' w.heap.size b m d k∧Ext w w'
set_option maxHeartbeats 2000000 in
theorem cut_ok (a:Option Addr)(n c:Nat) (l:List UInt8)(k:Nat) (w:World)(h:Sl w a n l) (hn:n≤1000000) (hk:k≤n) (hc:n≤c) :
  Calls Tryz.prog 92 #[.slice a n c, .int .i64 k] w (CutPost w k (n-k) (l.take k) (l.drop k)):=by
 have h1:=h.take k hk
 have h2:=h.drop c k hc
 have k0:(0:Int)≤(k:Int):=by omega
 have k1:(k:Int)≤(c:Int):=by omega
 have k2:(k:Int)≤(n:Int):=by omega
 go_enter Tryz.func92,Tryz.ntmps92
 go_wp2
 refine wp_region_vague 11 [[],[],[0,1],[0,1,2],[],[],[4,5],[0,1,2,3,4,5,6],[0,1,2,3,4,5,6,7],[0,1,2,3,4,5,6,7,8],[0,1,2,3,4,5,6,7,8,9]] (by kernel_rfl) (by kernel_rfl) (by kernel_rfl) (by kernel_rfl) ?_;simp only [q8q,q9q,q10q,q11q,q12q,q13q]
 (repeat (refine VD_a ?_;(try simp only [Act.put,q0q,q1q,q2q])))
 (refine VD_vag (fun p => .slice (p 0).1 (k) (p 0).2) (fun p w''=>Own w'' w.heap.size (p 0).1 (k) (p 0).2 (l.take k)) (fun p w w' h hx=>h.ext hx) (fun us w' hx hf=>⟨rfl,?_⟩) ?_;(unfold gives;simp [go_sem,execOp];exact vag_fresh hx.size (clone_any _ _ _ _ _ (h1.ext hx) (by omega))))
 (repeat (refine VD_a ?_;(try simp only [Act.put,q0q,q1q,q2q])))
 (refine VD_vag (fun p => .slice (p 0).1 (n-k) (p 0).2) (fun p w''=>Own w'' w.heap.size (p 0).1 (n-k) (p 0).2 (l.drop k)) (fun p w w' h hx=>h.ext hx) (fun us w' hx hf=>⟨rfl,?_⟩) ?_;(unfold gives;simp [go_sem,execOp];exact vag_fresh hx.size (clone_any _ _ _ _ _ (h2.ext hx) (by omega))))
 (repeat (refine VD_a ?_;(try simp only [Act.put,q0q,q1q,q2q])))
 (refine VD_z ?_;intro us x hx hf;(try simp only [Act.put,q0q,q1q,q2q,wpList_none]);(try simp only [q3q,q4q,or_false,forall_eq_or_imp,forall_eq,q5q,q6q,q7q,false_or,true_and,and_true] at hf);(try simp only [Nat.reduceAdd,Nat.zero_add] at hf ⊢))
 go_wp2
 go_ret3
 exact ⟨_,_,_,_,rfl,hf.1,hf.2,hx⟩
set_option maxHeartbeats 1000000 in
theorem cut_no (a:Option Addr)(n c:Nat) (k:Int) (w:World)(hk:k<0∨(n:Int)<k) :
  Calls Tryz.prog 92 #[.slice a n c, .int .i64 k] w fun e w'=>e = .returned (.tuple #[.slice none 0 0, .slice none 0 0, .bool false])∧Ext w w':=by
 by_cases h0:k<0
 ·go_enter Tryz.func92,Tryz.ntmps92
  go_wp2
  go_ret3
  exact ⟨rfl,Ext.refl _⟩
 ·have h1:(n:Int)<k:=by omega
  go_enter Tryz.func92,Tryz.ntmps92
  go_wp2
  go_ret3
  exact ⟨rfl,Ext.refl _⟩
end Go.Proofs.YtdmifbfgeeldnaaGreat
