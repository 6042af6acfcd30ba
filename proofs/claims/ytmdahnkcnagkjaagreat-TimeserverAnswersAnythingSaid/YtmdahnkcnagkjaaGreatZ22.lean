/- Lemmas of this claim, several texts joined. -/
import Derived.Test.YtmdahnkcnagkjaaGreatRows
import Derived.RangeFuncNested
import Derived.RangeFuncBound
import Derived.Shelf.Abstract
import Derived.Shelf.RegionOpen
import Derived.OwnWalkIn
import Derived.TacticsInMore
import Derived.LoopNIn
import Derived.LoopIn
import Derived.Test.YtmdahnkcnagkjaaGreatZ21
set_option maxRecDepth 100000
open Go.Value renaming int -> Zz,slice -> Zy
open Go.IntKind renaming i64 -> Zx
open List renaming nil_append -> q5q, cons_append -> q6q
set_option maxHeartbeats 8000000
set_option linter.unusedVariables false
set_option linter.unusedSimpArgs false
/- slices.Chunk Be bytes: the iterator and its maker. -/
namespace Go.Proofs.P9
open Go.RowKit Go.Sec BigFrame
attribute [local go_sem] Oper.semAt_some
theorem xi (a:E8)(n c m:Nat) (w:World)(hm:1<=m) :
  Calls Tryz.prog 173 #[Zy a n c, Zz Zx m] w λ e w'=>e = .returned (.func (.func 180) #[] #[.pointer (some ⟨w.heap.size,0,none⟩), .pointer (some ⟨w.heap.size+1,0,none⟩)]) /\
   Blk w' w.heap.size 33 [Zy a n c]/\Blk w' (w.heap.size+1) 3 [Zz Zx m]/\Ext w w':=by
 have hmI:¬ (m:Int)<1:=Zo
 go_enter Tryz.func173,Tryz.ntmps173
 go_wp2;go_ret;exact ⟨rfl,bK,bK,eX⟩
def rN (m n k:Nat):Nat:=min m (n-m*k)
def BQ (g off m n:Nat) (k:Nat):Array Value:=#[Zy (some ⟨g,off+m*k,none⟩) (rN m n k) (rN m n k)]
def qn (b1 b2:Nat) (W W':World):Prop:=W'.heap[b1]?=W.heap[b1]?/\W'.heap[b2]?=W.heap[b2]?
theorem qn.trans {b1 b2:Nat} {A B C:World} (h:qn b1 b2 A B) (k:qn b1 b2 B C):qn b1 b2 A C:=⟨k.1.trans h.1,k.2.trans h.2⟩
theorem rU (q:Nat) (hq:1<=q) (g off n c m b1 b2 N:Nat) (ad:E8)(hA:0<n->ad=some ⟨g,off,none⟩) (w:World)(hm:1<=m) (hN:N=(n+m-1) / m) (hmax:n+m<=1000000000) (hnc:n<=c) (h1:Blk w b1 33 [Zy ad n c]) (h2:Blk w b2 3 [Zz Zx m]) :
  SeqStopsK Fence.wide q Tryz.prog 180 #[.pointer (some ⟨b1,0,none⟩), .pointer (some ⟨b2,0,none⟩)] (BQ g off m n) (qn b1 b2) (λ xs=>xs=List.range N) (λ _=>True) N w:=by
 intro l J Jx W hW hJ hJx hY h0;have hB1:=h1.extB hW;have hB2:=h2.extB hW;refine callsIn_of_wp Tryz.func180 rfl trivial ?_ rfl;simp only [Tryz.ntmps180,List.size_toArray,aaM,List.length_nil,Nat.reduceAdd,Nat.reduceSub,Array.replicate_succ,Array.replicate_zero,List.push_toArray,List.append_toArray,q5q,q6q]
 gi_wp2
 gi_loopw [4,5] (λ v4 _ wr=>∃ k:Nat,k<=N/\v4 = Zz Zx ((m:Int)*(k:Int))/\J (List.range k) wr/\Blk wr b1 33 [Zy ad n c]/\Blk wr b2 3 [Zz Zx m]) (λ v4 _ _=>n+m-(intOf v4).toNat)
 case atStart=>exact ⟨0,aak _,Zs,h0,hB1,hB2⟩
 case round =>
  obtain ⟨k,hk,rfl,hJk,hb1,hb2⟩:=hrel;have hc1:=hb1.cell? 0 rfl;have hc2:=hb2.cell? 0 rfl;by_cases hlt:k<N
  ·have hmk:m*k<n:=by
    have:m*(k+1)<=m*N:=Nat.mul_le_mul_left m hlt;have h3:m*N<=n+m-1:=by rw [hN];exact Nat.mul_div_le _ _
    rw [Nat.mul_add,abG] at this;omega
   obtain rfl:=hA Zo;obtain ⟨i,hi⟩:∃ i:Nat,i=m*k:=⟨_,rfl⟩;have hiI:(m:Int)*(k:Int)=(i:Int):=by rw [hi];simp
   rw [hiI];have hin:(i:Int)<(n:Int):=Zo;obtain ⟨e,he⟩:∃ e:Nat,e=rN m n k:=⟨_,rfl⟩;have hif:=FC (show (if n-i<m then ((n-i:Nat):Int) else (m:Int))=(e:Int) by rw [he];unfold rN;split <;> omega);have hicN:¬ c=i:=Zo;have hicI:(i:Int)<=(n:Int):=Zo;have i0:(0:Int)<=(i:Int):=Zo;have he1:e<=n-i:=by rw [he];unfold rN;omega
   have he0:0<e:=by rw [he];unfold rN;omega
   obtain ⟨fn,tmps,assign,body,hy,hR⟩:=hY (List.range k) k wr.drew (hJ _ wr wr.drew none hJk ⟨rfl,rfl,rfl,aad _,λ _ _ _=>rfl⟩ (λ r e=>by cases e)) (by simpa using hlt);dsimp only [BQ] at hy;rw [<- he,<- hi] at hy;have HI:=FC hi;have HE:=FC he;have HN:=FC hN;clear hi he hiI hmk hN
   gi_wp2
   gi_region
   rw [hif.out];have j0:(i:Int)<=(i:Int)+(e:Int):=Zo;have j1:(i:Int)+(e:Int)<=(c:Int):=Zo
   gi_wp2
   refine hR.mono ?_;have hNk:=HN.out;rintro e1 W3 (⟨rfl,hJ3,hk3⟩|⟨rfl,hJx3⟩)
   ·have hb3:Blk W3 b1 33 [Zy (some ⟨g,off,none⟩) n c]:=hk3.1.trans hb1;have hb4:Blk W3 b2 3 [Zz Zx m]:=hk3.2.trans hb2;have hc3:=hb3.cell? 0 rfl;have hc4:=hb4.cell? 0 rfl;clear hNk
    gi_wp2
    go_roundw
    case rel=>exact ⟨k+1,hlt,by rw [HI.out];simp [Int.mul_add],by rw [aaZ];exact hJ3,hb3,hb4⟩
    case measure=>simp [intOf];omega
   ·gi_wp2
    refine aaa (results_none rfl _ _ _) rfl ?_;exact ⟨⟨_,rfl⟩, .inr ⟨_,trivial,hJx3⟩⟩
  ·obtain rfl:k=N:=by omega
   have hmk:n<=m*k:=by
    rw [hN];have h1:=Nat.div_add_mod (n+m-1) m;have h2:=Nat.mod_lt (n+m-1) (show 0<m from Zo);omega
   obtain ⟨i,hi⟩:∃ i:Nat,i=m*k:=⟨_,rfl⟩;have hiI:(m:Int)*(k:Int)=(i:Int):=by rw [hi];simp
   rw [hiI];have hin:¬ (i:Int)<(n:Int):=Zo;clear hiI hi hmk hN
   gi_wp2
   go_end0
   exact ⟨⟨_,rfl⟩, .inl hJk⟩
end Go.Proofs.P9
