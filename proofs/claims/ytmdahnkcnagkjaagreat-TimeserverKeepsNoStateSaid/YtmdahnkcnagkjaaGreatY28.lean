/- Lemmas of this claim, several texts joined. -/
import Derived.Test.YtmdahnkcnagkjaaGreatY1
import Derived.Test.YtmdahnkcnagkjaaGreatY4
import Derived.Test.YtmdahnkcnagkjaaGreatY5
import Derived.Test.YtmdahnkcnagkjaaGreatY6
import Derived.Test.YtmdahnkcnagkjaaGreatY8
import Derived.Test.YtmdahnkcnagkjaaGreatY9
import Derived.Test.YtmdahnkcnagkjaaGreatY10
import Derived.Test.YtmdahnkcnagkjaaGreatY19
import Derived.Test.YtmdahnkcnagkjaaGreatY24
import Derived.Test.YtmdahnkcnagkjaaGreatY25
import Derived.Test.YtmdahnkcnagkjaaGreatY26
import Derived.Test.YtmdahnkcnagkjaaGreatY27
import Derived.Test.YtmdahnkcnagkjaaGreatY29
import Derived.Test.YtmdahnkcnagkjaaGreatY31
import Derived.Test.YtmdahnkcnagkjaaGreatY34
set_option maxRecDepth 100000
open Go.Value renaming int -> Zz,slice -> Zy
open Go.IntKind renaming i64 -> Zx,u64 -> Zw,u8 -> Zu
open List renaming setIfInBounds_toArray -> q0q, set_cons_succ -> q1q, set_cons_zero -> q2q, mem_cons -> q3q, not_mem_nil -> q4q, nil_append -> q5q, cons_append -> q6q, mem_append -> q7q, take_succ_cons -> q8q, take_zero -> q9q, drop_succ_cons -> q10q, drop_zero -> q11q, take_nil -> q12q, drop_nil -> q13q, getElem_toArray -> q14q, getElem_cons_succ -> q15q, getElem_cons_zero -> q16q
open Go.IntWalk renaming i64_in -> q17q, rem_in -> q18q, wrap64_in -> q19q
set_option maxHeartbeats 8000000
set_option linter.unusedVariables false
set_option linter.unusedSimpArgs false
/- The walks of layer 22: cookie, has, paired. -/
namespace Go.Proofs.YtmdahnkcnagkjaaGreat
open Go.RowKit Go.Sec Go.Oct BigFrame
def DI (L:List (List UInt8)) (k:List UInt8)(w:World)(e:Ending) (w':World):Prop:=∃ r:Int,e = .returned (Zz Zx r)/\(0<=r ↔ k∈L)/\Ext w w'
end Go.Proofs.YtmdahnkcnagkjaaGreat

/- The walks of layer 22: copied, Valid. -/
namespace Go.Jar
structure Jar where
 up:List UInt8
 dn:List UInt8
 ck:List (List UInt8)
 last:List UInt8
 net:Int
 sent:Int
deriving DecidableEq
def bT:Jar:=⟨[],[],[],[],0,0⟩
def jt (j:Jar):Prop:=(j.up.length=32/\j.dn.length=32)/\j.ck.length<=8/\(j.last.length=0\/j.last.length=104)/\j.last ∉ j.ck/\0<=j.net/\0<=j.sent/\j.sent<=1099511627776
instance (j:Jar):Decidable (jt j):=by unfold jt;infer_instance
def bP (j:Jar):Bool:=decide (jt j) && (j.ck.all (λ b=>decide (b.length=104)) && decide j.ck.Nodup)
theorem sF {j:Jar} (h:¬ jt j):bP j=false:=by unfold bP;rw [aaH h];rfl
theorem uz {j:Jar} {k:Nat} (hk:k<j.ck.length) (h:(j.ck[k]).length≠104\/j.ck[k]∈j.ck.take k):bP j=false:=by
 by_cases hv:bP j=true
 ·exfalso;unfold bP at hv;rw [aay,aay] at hv;obtain ⟨_,h1,h2⟩:=hv;rcases h with h|h
  ·have:=aaE.1 h1 _ (aaN hk);simp at this;exact h this
  ·obtain ⟨i,hi,he⟩:=List.getElem_of_mem h;rw [aaF] at hi;rw [List.getElem_take] at he;have:=List.pairwise_iff_getElem.1 (aaV h2) i k Zo hk Zo;exact this he
 ·simpa using hv
theorem kY {j:Jar} (h:jt j) (h1:∀ b∈j.ck,b.length=104) (h2:j.ck.Nodup):bP j=true:=by
 unfold bP;rw [aaC h,aaC h2,aaE.2 (λ b hb=>by simpa using h1 b hb)];rfl
end Go.Jar
namespace Go.Proofs.YtmdahnkcnagkjaaGreat
open Go.RowKit Go.Sec Go.Oct Go.Jar BigFrame
end Go.Proofs.YtmdahnkcnagkjaaGreat

/- The cases of the statements about layers 23 to 43, as plain functions. No program. -/
namespace Go.Case
open Go.Oct Go.Sha Go.Cook Go.Jar Go.Sec
def vF:List UInt8:=[99,97,115,101]
def xO (v:Int):UInt64:=UInt64.ofNat (v % 18446744073709551616).toNat
theorem BR (v:Int):IntKind.u64.wrap v=n64 (xO v):=by
 unfold xO n64;rw [aaL,aaO];omega
def rnd (v:Int) (n:Nat):List UInt8:=(sha (vF++aH 8 (xO v))).take n
theorem bS (v:Int) {n:Nat} (h:n<=32):(rnd v n).length=n:=by
 unfold rnd;rw [aaF,js];omega
def kO (v:Int) (n k:Nat):List (List UInt8):=(List.range k).map λ (i:Nat)=>rnd (v*1000+(i:Int)) n
theorem ij (v:Int) (n k:Nat):(kO v n k).length=k:=by simp [kO]
theorem xw (v:Int) (n k:Nat):kO v n (k+1)=kO v n k++[rnd (v*1000+(k:Int)) n]:=by simp [kO,aa7]
theorem yf {v:Int} {n k:Nat} (hn:n<=32) {x:List UInt8} (h:x∈kO v n k):x.length=n:=by
 obtain ⟨i,_,rfl⟩:=aa6.1 h;exact bS _ hn
def upC (v:Int):List UInt8:=rnd (v*7+1) 32
def dnC (v:Int):List UInt8:=rnd (v*7+2) 32
theorem dI (v:Int):(upC v).length=32:=bS _ Zo
theorem fy (v:Int):(dnC v).length=32:=bS _ Zo
def lW (v:Int) (t:Nat):Ring:=kV (fV (v % 1000).toNat (rnd v 32)) t
def iM (R:Ring) (v:Int) (k:Nat):List (List UInt8):=(List.range k).map λ (i:Nat)=>dw (hd R) 15 (upC v) (dnC v) (rnd ((v+5000)*1000+(i:Int)) 16)
theorem gY (R:Ring) (v:Int) (k:Nat):(iM R v k).length=k:=by simp [iM]
theorem wz (R:Ring) (v:Int) (k:Nat):iM R v (k+1)=iM R v k++[dw (hd R) 15 (upC v) (dnC v) (rnd ((v+5000)*1000+(k:Int)) 16)]:=by simp [iM,aa7]
theorem oI {R:Ring} {v:Int} {k:Nat} (hR:aR R=true) {x:List UInt8} (h:x∈iM R v k):x.length=104:=by
 obtain ⟨i,_,rfl⟩:=aa6.1 h;obtain ⟨v1,_,v3,_⟩:=bm.1 hR;obtain ⟨k0,k1,k2⟩:=v1 _ (oF v3);exact (fQ (m:=hd R) (algo:=15) k0 k1 k2 (bS _ Zo) (dI v) (fy v)).1
def xf (l:List (List UInt8)) (c:List UInt8):List (List UInt8):=if c∈l then l else l++[c]
def dedup (L:List (List UInt8)):List (List UInt8):=L.foldl xf []
theorem oe (L:List (List UInt8)) (c:List UInt8):dedup (L++[c])=xf (dedup L) c:=by simp [dedup]
theorem ir (L:List (List UInt8)):(dedup L).Nodup/\(dedup L).length<=L.length/\∀ x,x∈dedup L ↔ x∈L:=by
 rw [<- List.reverse_reverse L];generalize L.reverse=r
 induction r with
 | nil=>simp [dedup]
 | cons c r ih =>
  rw [List.reverse_cons,oe];obtain ⟨h1,h2,h3⟩:=ih;unfold xf;by_cases hc:c∈dedup r.reverse
  ·rw [aal hc];refine ⟨h1,by rw [aah];omega,λ x=>?_⟩;rw [q7q,h3,aaB];refine ⟨.inl,λ h=>h.elim id λ h=>?_⟩;rw [h];exact (h3 c).1 hc
  ·rw [aaf hc];refine ⟨?_,by rw [aah,aah];exact Nat.add_le_add_right h2 1,λ x=>by rw [q7q,q7q,h3]⟩;rw [List.nodup_append];refine ⟨h1,Zs,λ x hx y hy=>?_⟩;rw [aaB.1 hy];exact λ e=>hc (e ▸ hx)
def oS (R:Ring) (v:Int) (k:Nat) (net:Int):Jar:=⟨upC v,dnC v,dedup (iM R v k),[],net,0⟩
theorem nS {R:Ring} (v:Int) {k:Nat} {net:Int} (hR:aR R=true) (hk:k<=8) (hn:0<=net):bP (oS R v k net)=true:=by
 obtain ⟨d1,d2,d3⟩:=ir (iM R v k);rw [gY] at d2;have h104:∀ b∈dedup (iM R v k),b.length=104:=λ b hb=>oI hR ((d3 b).1 hb);refine kY ⟨⟨dI v,fy v⟩,?_, .inl rfl,λ h=>?_,hn,?_,?_⟩ h104 d1
 ·show (dedup (iM R v k)).length<=8;omega
 ·have:=h104 _ h;simp [oS] at this
 ·show (0:Int)<=0;omega
 ·show (0:Int)<=1099511627776;omega
theorem qJ {R:Ring} {v:Int} {k:Nat} {net:Int} (hk:1<=k):∃ c rest,(oS R v k net).ck=c :: rest:=by
 obtain ⟨_,_,d3⟩:=ir (iM R v k);cases h:dedup (iM R v k) with
 | cons c rest=>exact ⟨c,rest,h⟩
 | nil =>
  exfalso;have:iM R v k=[]:=List.eq_nil_iff_forall_not_mem.2 λ x hx=>by
   have:=(d3 x).2 hx;rw [h] at this;cases this
  have h2:=gY R v k;rw [this] at h2;simp at h2;omega
end Go.Case

/- The walks of layer 22: clone. -/
namespace Go.Sec
open Go.RowKit
theorem bX.blk {w:World} {base n c:Nat} {a:Option Addr} {L:List (List UInt8)} (h:bX w base a n c L) {b:Nat} {t:TypeId} {vs:List Value} (hB:Blk w b t vs) (ht:t≠33):(Value.slice a n c).ownBlock≠some b:=by
 obtain ⟨_,xs,h2,_⟩:=h;exact ej h2 hB ht
theorem bX.mut {t:TypeId} {w w':World} {base n c g:Nat} {a:Option Addr} {L:List (List UInt8)} {vs:List Value} (h:bX w base a n c L) (hB:Blk w g t vs) (ht:t≠33) (hne:∀ v∈vs,∀ x,v ≠ Zz Zu x) (hM:Mut g w w'):bX w' base a n c L:=by
 have hno:=h.blk hB ht;obtain ⟨h1,xs,h2,h3,h4⟩:=h;refine ⟨h1,xs,⟨h2.1,?_⟩,h3,λ k hk=>?_⟩
 ·exact z31q43
 ·obtain ⟨a',n',c',e1,e2,e3,e4⟩:=h4 k hk;refine ⟨a',n',c',e1,e2,e3.mut hB hne hM,?_⟩;rcases e4 with e4|e4
  ·exact .inl e4
  ·by_cases h0:n'=0
   ·exact .inl h0
   ·refine .inr λ b o e=>?_;rcases e4 b o e with h|⟨t',vs',hB',ht'⟩
    ·exact .inl h
    ·exact z31q78
def pz (B0:Nat) (w:World)(a:Option Addr)(n c:Nat) (L:List (List UInt8)):Prop:=∃ B,B0<=B/\B<=w.heap.size/\bX w B a n c L
theorem _root_.z28q91{p:Prop}(h:p:=by
 obtain ⟨B,h1,h2,h3⟩:=h;exact ⟨B,h1,aaq h2 hx.size,h3.ext hx⟩):p:=h
theorem pz.ext {B0 n c:Nat} {w w':World} {a:Option Addr} {L:List (List UInt8)} (h:pz B0 w a n c L) (hx:Ext w w'):pz B0 w' a n c L:=by
 exact z28q91
theorem pz.mut {t:TypeId} {B0 n c g:Nat} {w w':World} {a:Option Addr} {L:List (List UInt8)} {vs:List Value} (h:pz B0 w a n c L) (hB:Blk w g t vs) (ht:t≠33) (hne:∀ v∈vs,∀ x,v ≠ Zz Zu x) (hM:Mut g w w'):pz B0 w' a n c L:=by
 obtain ⟨B,h1,h2,h3⟩:=h;exact ⟨B,h1,aaq h2 hM.size,h3.mut hB ht hne hM⟩
theorem Own.mutT {t:TypeId} {w w':World} {base n c g:Nat} {a:Option Addr} {l:List UInt8} {vs:List Value} (h:Own w base a n c l) (hB:Blk w g t vs) (ht:t≠5) (hM:Mut g w w'):Own w' base a n c l:=by
 have hno:=ej h.2 hB ht;refine ⟨h.1,h.2.1,?_⟩;rcases h.2.2 with h1|⟨g',cap,cur,hv,hb,hh,r⟩
 ·exact .inl h1
 ·refine .inr ⟨g',cap,cur,hv,hb,?_,r⟩;rw [hM.block g' (Array.getElem?_eq_some_iff.1 hh).1 (λ e=>hno (by rw [hv];exact e))];exact hh
theorem Own.grownB {w w':World} {base base' n c m d:Nat} {a b:Option Addr} {l:List UInt8} {L:List (List UInt8)} (h:Own w base a n c l) (hO:bX w base' b m d L) (hg:w.grownBy w' (Value.slice b m d).ownBlock):Own w' base a n c l:=by
 refine ⟨h.1,h.2.1,?_⟩;rcases h.2.2 with h1|⟨g',cap,cur,hv,hb,hh,r⟩
 ·exact .inl h1
 ·refine .inr ⟨g',cap,cur,hv,hb,?_,r⟩;have hB:Blk w g' 5 cur.toList:=by unfold Blk;simpa using hh
  rw [hg.block g' (Array.getElem?_eq_some_iff.1 hh).1 (λ e=>hO.blk hB Zd e.symm)];exact hh
end Go.Sec
namespace Go.Proofs.YtmdahnkcnagkjaaGreat
open Go.RowKit Go.Sec Go.Oct Go.Jar BigFrame
theorem RJ6:RowT Tryz.prog 57 6:=⟨⟨_,Tryz.underlying57,rfl⟩,Zk,⟨_,Tryz.zeroValue57,Zk⟩⟩
def DG (j:Jar) (n1 n2 n3 n4:Nat) (w:World)(e:Ending) (w':World):Prop:=∃ b1 d1 b2 d2 b3 d3 b4 d4,e = .returned (.agg #[Zy b1 n1 d1, Zy b2 n2 d2, Zy b3 n3 d3, Zy b4 n4 d4, Zz Zx j.net, Zz Zx j.sent]) /\
 Own w' 0 b1 n1 d1 j.up/\Own w' 0 b2 n2 d2 j.dn/\pz w.heap.size w' b3 n3 d3 j.ck/\Own w' 0 b4 n4 d4 j.last/\Ext w w'
end Go.Proofs.YtmdahnkcnagkjaaGreat

/- The walks of layer 22: added. -/
namespace Go.Jar
def eB (j:Jar) (b:List UInt8):Jar:=if j.ck.length<8/\b ∉ j.ck/\j.last≠b then { j with ck:=j.ck++[b] } else j
def dS (j:Jar) (l:List (List UInt8)):Jar:=l.foldl eB j
theorem wL (j:Jar) (l:List (List UInt8)) (b:List UInt8):dS j (l++[b])=eB (dS j l) b:=by simp [dS]
theorem sh (j:Jar) (b:List UInt8):(eB j b).up=j.up/\(eB j b).dn=j.dn/\(eB j b).last=j.last/\(eB j b).net=j.net/\(eB j b).sent=j.sent:=by
 unfold eB;split <;> simp
theorem qC (j:Jar) (l:List (List UInt8)):(dS j l).up=j.up/\(dS j l).dn=j.dn/\(dS j l).last=j.last/\(dS j l).net=j.net/\(dS j l).sent=j.sent:=by
 unfold dS
 induction l generalizing j with
 | nil=>simp
 | cons b l ih =>
  obtain ⟨a1,a2,a3,a4,a5⟩:=ih (eB j b);obtain ⟨b1,b2,b3,b4,b5⟩:=sh j b;rw [List.foldl_cons];exact ⟨a1.trans b1,a2.trans b2,a3.trans b3,a4.trans b4,a5.trans b5⟩
end Go.Jar
namespace Go.Proofs.YtmdahnkcnagkjaaGreat
open Go.RowKit Go.Sec Go.Oct Go.Jar BigFrame
def ov (l:List UInt8)(w:World)(a:Option Addr):Prop:=∃ g ga n cc,a=some ⟨g,0,none⟩/\Rd w a [Zy ga n cc]/\Own w 0 ga n cc l
theorem ov.ext {l:List UInt8} {w w':World} {a:Option Addr} (h:ov l w a) (hx:Ext w w'):ov l w' a:=by
 obtain ⟨g,ga,n,cc,h1,h2,h3⟩:=h;exact ⟨g,ga,n,cc,h1,h2.ext hx,h3.ext hx⟩
theorem ov.mk {l:List UInt8} {w:World} {ga:Option Addr} {n cc:Nat} (h:Own w 0 ga n cc l) (T:TypeId):ov l (w.alloc (.cells #[Zy ga n cc] T)) (some ⟨w.heap.size,0,none⟩) :=
 ⟨_,ga,n,cc,rfl,(Blk.new w #[Zy ga n cc] T).rd,h.ext (Ext.of_alloc _ _)⟩
end Go.Proofs.YtmdahnkcnagkjaaGreat

/- The walks of layer 22: Put's test, Want, Again. -/
namespace Go.Jar
def pv (L:List (List UInt8)):Bool:=L.all λ b=>decide (b.length=104)
def Ej (j:Jar):Int × Int:=if bP j then (8-(j.ck.length:Int),0) else (0,3)
def Dt (j:Jar):List UInt8 × Int:=if bP j then (if j.last.length=0 then ([],10) else (j.last,0)) else ([],3)
end Go.Jar
namespace Go.Proofs.YtmdahnkcnagkjaaGreat
open Go.RowKit Go.Sec Go.Oct Go.Jar BigFrame
def DF (L:List (List UInt8)) (w:World)(e:Ending) (w':World):Prop:=∃ r:Int,e = .returned (Zz Zx r)/\(0<=r ↔ pv L=false)/\Ext w w'
end Go.Proofs.YtmdahnkcnagkjaaGreat

/- The walks of layer 22: Put. -/
namespace Go.Jar
def rb (j:Jar) (L:List (List UInt8)):Jar × Int:=if bP j && pv L then (dS j L,0) else (bT,3)
end Go.Jar
namespace Go.Sec
open Go.RowKit
def fU (w:World)(a:Option Addr):Prop:=∀ b o,a=some ⟨b,o,none⟩->∃ vs,Blk w b 33 vs
theorem fU.none (w:World):fU w none:=λ _ _ h=>by cases h
theorem fU.ext {w w':World} {a:Option Addr} (h:fU w a) (hx:Ext w w'):fU w' a:=λ b o e=>(h b o e).imp λ _ h=>h.extB hx
theorem fU.ne {w:World} {a:Option Addr} {g:Nat} {T:TypeId} {us:List Value} (h:fU w a) (hB:Blk w g T us) (hT:T≠33):∀ b o,a=some ⟨b,o,Option.none⟩->b≠g:=λ b o e hbg=>by
 obtain ⟨vs,hv⟩:=h b o e;subst hbg;unfold Blk at hv hB;rw [hv] at hB;injection hB with hB
 injection hB with _ hB
 exact hT hB.symm
theorem fU.mut {w w':World} {a:Option Addr} {g:Nat} {T:TypeId} {us:List Value} (h:fU w a) (hB:Blk w g T us) (hT:T≠33) (hM:Mut g w w'):fU w' a:=λ b o e=>(h b o e).imp λ _ hv=>Blk.turn hM hv (h.ne hB hT b o e)
theorem bX.typ3 {w:World} {base n c:Nat} {a:Option Addr} {L:List (List UInt8)} (h:bX w base a n c L):fU w a:=λ b o e=>by
 obtain ⟨_,xs,h2,_⟩:=h;rcases h2.2 with ⟨h1,_⟩|⟨g,cap,cur,hv,hb,hg,_⟩
 ·injection h1 with h1;rw [h1] at e;cases e
 ·injection hv with h1;rw [h1] at e;injection e with e;injection e with e _
  subst e;exact ⟨cur.toList,by unfold Blk;simpa using hg⟩
end Go.Sec
namespace Go.Proofs.YtmdahnkcnagkjaaGreat
open Go.RowKit Go.Sec Go.Oct Go.Jar BigFrame
theorem vk {P:Program} {f:FuncId} {vs:Array Value} {w:World} {Q:Ending->World->Prop} (h:∀ W,W=w->Calls P f vs W Q):Calls P f vs w Q:=h w rfl
def xl (r:Jar × Int) (w:World)(e:Ending) (w':World):Prop:=∃ b1 n1 d1 b2 n2 d2 b3 n3 d3 b4 n4 d4,e = .returned (.tuple #[.agg #[Zy b1 n1 d1, Zy b2 n2 d2, Zy b3 n3 d3, Zy b4 n4 d4, Zz Zx r.1.net, Zz Zx r.1.sent], Zz Zx r.2]) /\
 Own w' 0 b1 n1 d1 r.1.up/\Own w' 0 b2 n2 d2 r.1.dn/\Bsc w' b3 n3 r.1.ck/\n3<=d3/\fU w' b3/\Own w' 0 b4 n4 d4 r.1.last/\Ext w w'
theorem xl.zero (w w':World)(e:Int) (hx:Ext w w'):xl (bT,e) w (.returned (.tuple #[.agg #[Zy none 0 0, Zy none 0 0, Zy none 0 0, Zy none 0 0, Zz Zx 0, Zz Zx 0], Zz Zx e])) w' :=
 ⟨none,0,0,none,0,0,none,0,0,none,0,0,rfl,Own.nil _ _,Own.nil _ _,Bsc.nil _ _,aae _,fU.none _,Own.nil _ _,hx⟩
end Go.Proofs.YtmdahnkcnagkjaaGreat

/- The walks of layer 19: Valid. -/
namespace Go.Sec
open Go.RowKit
theorem uX {w w':World} (h:Ext w w'):w.grownBy w' none:=⟨h.os,h.tape,h.output,h.size,λ i hi _=>h.block i hi⟩
theorem gV {H:Type} {P:Program} {k:TypeId} {R:Value->Option (DataW H × List MemPlace)} {b n:Nat} {D:DataW H} {w w':World} (h:w.ownsMap P k R b n D) (hx:Ext w w'):w'.ownsMap P k R b n D:=h.kept (uX hx) Zs
theorem qZ {w:World} {b o:Nat} {u v:Value} (hb:b<w.heap.size) (h0:w.cell? ⟨b,o,none⟩=some u) (h1:w.cell? ⟨b,o+1,none⟩=some v):Rd w (some ⟨b,o,none⟩) [u,v]:=by
 refine .inr ⟨b,o,rfl,hb,λ k x hk=>?_⟩
 match k,hk with
 | 0,hk=>simpa using hk ▸ h0
 | 1,hk=>simpa using hk ▸ h1
end Go.Sec
namespace Go.Cook
theorem oY {r:Ring} {k:Nat} {x:Int × List UInt8} (hx:r[k]?=some x) (h:okM x=false\/x.1∈(r.take k).map (·.1)):aR r=false:=by
 obtain ⟨hk,he⟩:=List.getElem?_eq_some_iff.1 hx;by_cases hv:aR r=true
 ·exfalso;obtain ⟨h1,h2,_,_⟩:=bm.1 hv;rcases h with h|h
  ·have:=h1 x (List.mem_of_getElem? hx);unfold okM at h;simp [this] at h
  ·obtain ⟨m,hm,hme⟩:=aa6.1 h;obtain ⟨j,hj,rfl⟩:=List.getElem_of_mem hm;have hjk:j<k:=by rw [aaF] at hj;omega
   have:=List.pairwise_iff_getElem.1 h2 j k (by simp;omega) (by simpa using hk) hjk;simp only [abG] at this;rw [List.getElem_take] at hme;exact this (by rw [hme,he])
 ·simpa using hv
theorem nR {r:Ring} (h1:∀ m∈r,okM m=true) (h2:(r.map (·.1)).Nodup):aR r=decide (1<=r.length/\r.length<=4):=by
 unfold aR y9;rw [aaE.2 h1,aaC h2];rfl
theorem r8 {r:Ring} {k:Nat} {x:Int × List UInt8} (hx:r[k]?=some x) (h2:((r.take k).map (·.1)).Nodup) (h:x.1 ∉ (r.take k).map (·.1)):((r.take (k+1)).map (·.1)).Nodup:=by
 rw [abD,hx,Option.toList_some,aaP,List.map_singleton,List.nodup_append];refine ⟨h2,Zs,λ a ha b hb=>?_⟩;simp only [aaB] at hb;subst hb;exact λ e=>h (e ▸ ha)
theorem iD {r:Ring} {k:Nat} {x:Int × List UInt8} (hx:r[k]?=some x):r.take (k+1)=r.take k++[x]:=by
 rw [abD,hx,Option.toList_some]
end Go.Cook
namespace Go.Proofs.YtmdahnkcnagkjaaGreat
open Go.RowKit Go.Sec Go.Oct Go.Sha Go.Aes Go.Cook BigFrame
open Go.Maps (Keyed)
theorem RM2:RowT Tryz.prog 50 2:=⟨⟨_,Tryz.underlying50,rfl⟩,Zk,⟨_,Tryz.zeroValue50,Zk⟩⟩
theorem KI:Keyed Tryz.prog 3:=Go.Maps.int_keyed Tryz.underlying3
theorem AT (w:World):(zeroValue 4).run Tryz.prog w = .ok (.bool false) w:=Zk
theorem _root_.z28q11{p:Prop}(h:p:=by
 have hv:=hbad (.inl (by unfold okM;simp;omega))
 go_wp2_with (first
  | (refine af RM2 rfl _ rfl b (off+k*2) rfl _ hrd rfl ?_)
  | (refine ag RM2 rfl rfl _ _ rfl rfl rfl rfl (by simp [Act.put]) _ rfl Zs rfl oC ?_;intro x hz _);(have f0:(wr.ext x).cell? ⟨wr.heap.size,0,none⟩=some (.int .i64 id):=hz.cell? 0 rfl);(have f1:(wr.ext x).cell? ⟨wr.heap.size,1,none⟩=some (.slice g ky.length cg):=hz.cell? 1 rfl);(have hownx:=gV hown (Ext.of_ext wr x))
  | fail)
 go_ret;exact ⟨(by first|rfl|(show Ending.returned (Value.bool false)=_;rw [hv])),eX⟩):p:=h
theorem jQ (a:Option Addr)(n c:Nat) (r:Ring) (w:World)(hI:Ib w a n r) (hc:n<=c) (hn:n<=1000000) :
  Calls Tryz.prog 57 #[.agg #[Zy a n c]] w λ e w'=>e = .returned (.bool (aR r))/\Ext w w':=by
 have hmm := @run_makeMap Tryz.prog;have hrl:=hI.len
 go_enter Tryz.func57,Tryz.ntmps57
 go_wp2
 go_loopw [5,10] (λ _ v10 wr=>∃ k:Nat,k<=n/\v10 = Zz Zx k/\(∀ m∈r.take k,okM m=true)/\((r.take k).map (·.1)).Nodup/\Blk wr w.heap.size 26 [Zy a n c]/\wr.ownsMap Tryz.prog 3 (plainElem (H:=Unit) Tryz.prog 4) (w.heap.size+1) k (nm (r.take k))/\Ext w wr)
  (λ _ v10 _=>n-(intOf v10).toNat)
 case atStart =>
  refine ⟨0,aam _,rfl,Zs,Zs,(Blk.new _ _ _).alloc _,?_,eX⟩;have:=World.ownsMap_made (H:=Unit) (w.alloc (.cells #[Zy a n c] 26)) Tryz.prog 3 (plainElem Tryz.prog 4);rw [q9q];simpa [nm] using this
 case round =>
  obtain ⟨k,hk,rfl,h1,h2,hB,hown,hE⟩:=hrel;haveI:=hB.blt;have hbc:=hB.cell? 0 rfl;by_cases hlt:k<n
  ·have hki:(k:Int)<(n:Int):=by omega
   obtain ⟨x,hx⟩:∃ x,r[k]?=some x:=⟨_,List.getElem?_eq_getElem Zo⟩;have hbad:=oY hx;have hsn:=r8 hx h2;have hts:=iD hx;have hat:=xV (H:=Unit) (r.take k) x.1;obtain ⟨id,ky⟩:=x;obtain ⟨b,off,g,cg,rfl,hb,hc0,hc1,hSd,hcd⟩:=(hI.ext hE).at k hlt _ hx;simp only at hc0 hc1 hSd hcd hbad hsn hat;have hrd:=qZ hb.lt hc0 hc1;clear hI;by_cases b1:id<0
   ·exact z28q11
   ·by_cases b2:4294967295<id
    ·exact z28q11
    ·by_cases b3:ky.length=32
     ·have b3i:(((ky.length:Nat):Int) != 32)=false:=by rw [aai];omega
      have hkey:keyOf Tryz.prog 3 (.int .i64 id)=some (.int .i64 id):=Go.Maps.keyOf_int_mk Tryz.underlying3 (WalkArith.wf_i64 Zo);by_cases b4:id∈(r.take k).map (·.1)
      ·have hv:=hbad (.inr b4);rw [aaC b4] at hat;clear b3 hbad hsn
       go_wp2_with (first
        | (refine af RM2 rfl _ rfl b (off+k*2) rfl _ hrd rfl ?_)
        | (refine ag RM2 rfl rfl _ _ rfl rfl rfl rfl (by simp [Act.put]) _ rfl Zs rfl oC ?_;intro x hz _);(have f0:(wr.ext x).cell? ⟨wr.heap.size,0,none⟩=some (.int .i64 id):=hz.cell? 0 rfl);(have f1:(wr.ext x).cell? ⟨wr.heap.size,1,none⟩=some (.slice g ky.length cg):=hz.cell? 1 rfl);(have hownx:=gV hown (Ext.of_ext wr x))
        | (refine fH (by simp [Region.wanted,yielded,Act.put]) ?_;refine fa _ rfl _ _ 156 rfl 3 4 KI Tryz.underlying156 Tryz.underlying4 (AT _) (w.heap.size+1) k _ rfl hownx _ _ rfl hkey true hat ?_)
        | fail)
       go_ret;exact ⟨(by first|rfl|(show Ending.returned (Value.bool false)=_;rw [hv])),eX⟩
      ·have hsn:=hsn b4;have hok:okM (id,ky)=true:=by unfold okM;simp;omega
       rw [aaH b4] at hat;clear b3 hbad
       go_wp2_with (first
        | (refine af RM2 rfl _ rfl b (off+k*2) rfl _ hrd rfl ?_)
        | (refine ag RM2 rfl rfl _ _ rfl rfl rfl rfl (by simp [Act.put]) _ rfl Zs rfl oC ?_;intro x hz _);(have f0:(wr.ext x).cell? ⟨wr.heap.size,0,none⟩=some (.int .i64 id):=hz.cell? 0 rfl);(have f1:(wr.ext x).cell? ⟨wr.heap.size,1,none⟩=some (.slice g ky.length cg):=hz.cell? 1 rfl);(have hownx:=gV hown (Ext.of_ext wr x))
        | (refine fH (by simp [Region.wanted,yielded,Act.put]) ?_;refine fa _ rfl _ _ 156 rfl 3 4 KI Tryz.underlying156 Tryz.underlying4 (AT _) (w.heap.size+1) k _ rfl hownx _ _ rfl hkey false hat ?_)
        | (at_mapUpdate;refine wpList_mapUpdate_own _ rfl _ _ _ 156 rfl 3 4 KI Tryz.underlying156 _ (w.heap.size+1) k _ rfl hownx (by unfold maxLen;omega) _ _ _ rfl rfl hkey _ [] (plainElem_bool Tryz.underlying4 true) ?_;intro w1 hown1 hgrow1)
        | fail)
       have hEx:Ext w (wr.ext x):=eX;go_roundw
       case rel =>
        refine ⟨k+1,Zo,Zg,?_,hsn,Blk.grown (hB.ext x) hgrow1 Zs,?_,hEx.grown hgrow1 hEx.size (λ j hj=>by cases hj;omega)⟩
        ·intro m hm;rw [hts] at hm;rcases aa4.1 hm with hm|hm
         ·exact h1 m hm
         ·rw [aaB.1 hm];exact hok
        ·rw [hts,pq];exact hown1
       case measure=>simp [intOf];omega
     ·have hv:=hbad (.inl (by unfold okM;simp;omega));have b3i:(((ky.length:Nat):Int) != 32)=true:=by rw [aax];omega
      go_wp2_with (first
       | (refine af RM2 rfl _ rfl b (off+k*2) rfl _ hrd rfl ?_)
       | (refine ag RM2 rfl rfl _ _ rfl rfl rfl rfl (by simp [Act.put]) _ rfl Zs rfl oC ?_;intro x hz _);(have f0:(wr.ext x).cell? ⟨wr.heap.size,0,none⟩=some (.int .i64 id):=hz.cell? 0 rfl);(have f1:(wr.ext x).cell? ⟨wr.heap.size,1,none⟩=some (.slice g ky.length cg):=hz.cell? 1 rfl);(have hownx:=gV hown (Ext.of_ext wr x))
       | fail)
      go_ret;exact ⟨(by first|rfl|(show Ending.returned (Value.bool false)=_;rw [hv])),eX⟩
  ·have hkk:k=n:=by omega
   subst hkk;have hki:¬ (k:Int)<(k:Int):=Zo;rw [aak Zo] at h1 h2;have hv:=nR h1 h2;rw [hrl] at hv;by_cases d1:1<=k
   ·by_cases d2:k<=4
    ·have e1:(1:Int)<=(k:Int):=by omega
     have e2:(k:Int)<=4:=Zo;go_wp2_with fail;go_ret;exact ⟨(by first|rfl|(show Ending.returned (Value.bool true)=_;rw [hv,aaC ⟨d1,d2⟩])),hE⟩
    ·have e1:(1:Int)<=(k:Int):=by omega
     have e2:¬ (k:Int)<=4:=Zo;go_wp2_with fail;go_ret;exact ⟨(by first|rfl|(show Ending.returned (Value.bool false)=_;rw [hv,aaH Zo])),hE⟩
   ·have e1:¬ (1:Int)<=(k:Int):=by omega
    go_wp2_with fail;go_ret;exact ⟨(by first|rfl|(show Ending.returned (Value.bool false)=_;rw [hv,aaH Zo])),hE⟩
end Go.Proofs.YtmdahnkcnagkjaaGreat

/- The walks of layer 19: keys, Start, Rotate. -/
namespace Go.Sec
open Go.RowKit
theorem _root_.z28q26{p:Prop}(h:p:=by
 have hblk:=hM.block b hb (λ e=>hbg (by injection e));refine ⟨b,off,ha,aaj hb hM.size,λ k hk=>?_⟩;obtain ⟨g',c,h1,h2,h3,h4⟩:=hc k hk;exact ⟨g',c,(World.cell?_of_block hblk).trans h1,(World.cell?_of_block hblk).trans h2,h3.mut hB hne hM,h4⟩):p:=h
theorem Ib.mut {w w':World} {a:Option Addr} {n g:Nat} {T:TypeId} {vs:List Value} {L:List (Int × List UInt8)} (h:Ib w a n L) (hoff:∀ b o,a=some ⟨b,o,none⟩->b≠g) (hB:Blk w g T vs) (hne:∀ v∈vs,∀ x,v ≠ Zz Zu x) (hM:Mut g w w'):Ib w' a n L:=by
 refine ⟨h.len,h.row.imp id ?_⟩;rintro ⟨b,off,ha,hb,hc⟩;have hbg:=hoff b off ha;exact z28q26
theorem sk {w wr W w9:World} {g:Nat} (hE:Ext w wr) (hx:Ext wr W) (hM:Mut g W w9) (hg:w.heap.size<=g):Ext w w9:=Below.trans (hE.trans hx) (hM.below hg (hE.trans hx).size)
theorem cI.off {T:TypeId} {w:World} {base n c g:Nat} {a:Option Addr} {L:List (Int × List UInt8)} (h:cI T w base a n c L) (hg:g<base):∀ b o,a=some ⟨b,o,none⟩->b≠g:=λ b o e=>by
 obtain ⟨_,xs,h2,_⟩:=h;subst e;have:=(fv h2 b rfl).1;omega
def kx (T:TypeId)(B0:Nat) (w:World)(a:Option Addr)(n c:Nat) (L:List (Int × List UInt8)):Prop:=∃ B,B0<=B/\B<=w.heap.size/\cI T w B a n c L
theorem kx.ext {T:TypeId} {B0 n c:Nat} {w w':World} {a:Option Addr} {L:List (Int × List UInt8)} (h:kx T B0 w a n c L) (hx:Ext w w'):kx T B0 w' a n c L:=by
 exact z28q91
theorem kx.new {T:TypeId} {w:World} {B0:Nat} {id:Int} {g:Option Addr} {m cg:Nat} {l:List UInt8} (h:Sl w g m l) (hc:m<=cg) (hb:B0<=w.heap.size) :
  kx T B0 (w.alloc (.cells #[Zz Zx id, Zy g m cg] T)) (some ⟨w.heap.size,0,none⟩) 1 1 [(id,l)] :=
 ⟨w.heap.size,hb,Zs,cI.new h hc (aae _) (h.inT _)⟩
end Go.Sec
namespace Go.Proofs.YtmdahnkcnagkjaaGreat
open Go.RowKit Go.Sec Go.Oct Go.Sha Go.Aes Go.Cook BigFrame
theorem RR1:RowT Tryz.prog 26 1:=⟨⟨_,Tryz.underlying26,rfl⟩,Zk,⟨_,Tryz.zeroValue26,Zk⟩⟩
theorem CQ:(Tryz.prog.info? 50).map (λ i=>(i.zero,i.size,i.bytes))=some (some (.agg #[Zz Zx 0, Zy none 0 0]),2,32):=Zk
theorem VM:SI Tryz.prog 24 50:=⟨Tryz.underlying24,by
 obtain ⟨i,h1,h2,h3,h4⟩:=info_parts CQ;exact ⟨i,_,h1,h2,h3,h4,rfl⟩⟩
theorem wP (n:Int):bits .and .i64 n 4294967295=n % 4294967296:=by
 have h127:(BitVec.ofInt 64 4294967295).toNat=2 ^ 32-1:=Zd;have key:(BitVec.ofInt 64 n &&& BitVec.ofInt 64 4294967295).toNat=(n % ((2 ^ 64:Nat):Int)).toNat % 2 ^ 32:=by
  rw [BitVec.toNat_and,BitVec.toNat_ofInt,h127,Nat.and_two_pow_sub_one_eq_mod]
 show IntKind.i64.wrap ((BitVec.ofInt 64 n &&& BitVec.ofInt 64 4294967295).toNat:Nat)=n % 4294967296;rw [key,abe];omega
def mY (r:Ring × Int) (w:World)(e:Ending) (w':World):Prop:=∃ a n c,e = .returned (.tuple #[.agg #[Zy a n c], Zz Zx r.2])/\Ib w' a n r.1/\n<=c/\Ext w w'
theorem mY.err (w w':World)(e:Int) (hx:Ext w w'):mY ([],e) w (.returned (.tuple #[.agg #[Zy none 0 0], Zz Zx e])) w':=⟨none,0,0,rfl,Ib.nil _ _,aae _,hx⟩
end Go.Proofs.YtmdahnkcnagkjaaGreat

/- The walks of layer 19: Rotate. -/
namespace Go.Cook
end Go.Cook
namespace Go.Proofs.YtmdahnkcnagkjaaGreat
open Go.RowKit Go.Sec Go.Oct Go.Sha Go.Aes Go.Cook BigFrame
end Go.Proofs.YtmdahnkcnagkjaaGreat

/- The walks of layer 19: seal, Make, cut, ID. -/
namespace Go.Cook
open Go.Sha Go.Oct Go.Aes Go.Sec
theorem kP {ky nonce p:List UInt8} (id:Int) (hk:ky.length=32) (hn:nonce.length=16) (hp:p.length=68) :
  ∃ sd,(bI ky [idB id,nonce] p)=(sd,0)/\sd.length=84:=by
 refine ⟨_,oW (tE hk hn id) Zo,?_⟩;simp only [aah,dr,cO,hp]
theorem yu (l:List UInt8)(h:l.length<=4):0<=n64 (dy l)/\n64 (dy l)<4294967296:=by
 unfold n64;rw [fK _ Zo];have h1:=ke l;have:(256:Nat) ^ l.length<=256 ^ 4:=Nat.pow_le_pow_right Zo h;have e8:(256:Nat) ^ 4=4294967296:=Zd;omega
end Go.Cook
namespace Go.Proofs.YtmdahnkcnagkjaaGreat
open Go.RowKit Go.Sec Go.Oct Go.Sha Go.Aes Go.Cook BigFrame
theorem vP (id:Int) (a b d:Option Addr)(ca cb cd:Nat) (ky nonce p:List UInt8)(w:World)(h0:0<=id) (h1:id<=4294967295) (hk:Sl w a 32 ky) (hca:32<=ca) (hn:Sl w b 16 nonce) (hcb:16<=cb) (hp:Sl w d 68 p) (hcd:68<=cd) :
  Calls Tryz.prog 151 #[.agg #[Zz Zx id, Zy a 32 ca], Zy b 16 cb, Zy d 68 cd] w (cj 104 (idB id++(nonce++(bI ky [idB id,nonce] p).1)) w):=by
 obtain ⟨sd,hsd,hsl⟩:=kP (ky:=ky) (nonce:=nonce) (p:=p) id hk.len hn.len hp.len;have hseal:=λ bA cA bB cB W h1 h2 h3=>ts a bA bB 32 ca 2 cA 68 cB ky [idB id,nonce] p W h1 hca h2 Zo h3;rw [hsd] at hseal ⊢;simp only at hseal ⊢;rw [hsl] at hseal;have hput:=λ W=>gL (UInt64.ofNat id.toNat) 4 (ku id h0 Zo) (show (4:Int)=((4:Nat):Int) from rfl) W Zo;have hidl:=gy id;rw [show aH 4 (UInt64.ofNat id.toNat)=idB id from rfl] at hput;generalize idB id=ib at *;have hnl:=hn.len;have hw:IntKind.u64.wrap id=id:=by rw [aaL];omega
 rw [hw] at hput;clear hsd
 go_enter Tryz.func151,Tryz.ntmps151
 go_wp2_with fail;(with_reducible refine (hput _).mono ?_);rintro e w1 ⟨a1,c1,rfl,hO1,hx1⟩;have hle1:=hO1.le;have hE1:Ext w w1:=(Ext.of_alloc _ _).trans hx1;have hB:=(Blk.new w #[Zz Zx id, Zy a 32 ca] 50).extB hx1;haveI:=hB.blt;have f1:w1.cell? ⟨w.heap.size,1,none⟩=some (Zy a 32 ca):=hB.cell? 1 rfl;have hA:=s6 (c1:=c1) hO1.sl hle1.1 (hn.ext hE1) hcb 33;go_wp2_with fail;(with_reducible refine (hseal _ _ _ _ _ ((hk.ext hE1).ext (Ext.of_alloc _ _)) hA ((hp.ext hE1).ext (Ext.of_alloc _ _)) hcd).mono ?_);rintro e w2 ⟨a2,c2,rfl,hS2,hc2,hx2⟩;have hE2:Ext w1 w2:=(Ext.of_alloc _ _).trans hx2;have hJ:=AF (c1:=c1) (c2:=cb) (c3:=c2) (hO1.sl.ext hE2) ((hn.ext hE1).ext hE2) hS2 33;go_wp2_with fail;(with_reducible refine (gu _ _ _ _ _ hJ Zo 104 (by rw [jA];simp only [aah];omega) Zo).mono ?_);rintro e w3 ⟨a3,c3,rfl,hO3,hx3⟩;rw [jA] at hO3;go_wp2;go_ret;have hE3:Ext w w3:=(hE1.trans hE2).trans ((Ext.of_alloc _ _).trans hx3);exact ⟨_,_,rfl,hO3.mono (by have:=(hE1.trans hE2).size;simp;omega),hE3⟩
def tO (r:List UInt8 × Int) (w:World)(e:Ending) (w':World):Prop:=∃ a c,e = .returned (.tuple #[Zy a r.1.length c, Zz Zx r.2])/\Sl w' a r.1.length r.1/\r.1.length<=c/\Ext w w'
theorem tO.err (w w':World)(e:Int) (hx:Ext w w'):tO ([],e) w (.returned (.tuple #[Zy none 0 0, Zz Zx e])) w':=⟨none,0,rfl,Sl.nil _ _,aae _,hx⟩
def dJ (r:List UInt8 × Int) (w:World)(e:Ending) (w':World):Prop:=∃ a c,e = .returned (.tuple #[Zy a r.1.length c, Zz Zx r.2])/\Own w' 0 a r.1.length c r.1/\Ext w w'
theorem dJ.err (w w':World)(e:Int) (hx:Ext w w'):dJ ([],e) w (.returned (.tuple #[Zy none 0 0, Zz Zx e])) w':=⟨none,0,rfl,Own.nil _ _,hx⟩
theorem dJ.p {r:List UInt8 × Int} {w:World} {e:Ending} {w':World} (h:dJ r w e w'):tO r w e w':=by
 obtain ⟨a,c,h1,h2,h3⟩:=h;exact ⟨a,c,h1,h2.sl,h2.le.1,h3⟩
theorem uI (a u v b:Option Addr)(n c nu cu nv cv nn cn:Nat) (r:Ring) (algo:Int) (up down nonce:List UInt8)(w:World)(hI:Ib w a n r) (hnc:n<=c) (hn:n<=1000000) (hu:Sl w u nu up) (hcu:nu<=cu) (hv:Sl w v nv down) (hcv:nv<=cv) (hb:Sl w b nn nonce) (hcn:nn<=cn) :
  Calls Tryz.prog 127 #[.agg #[Zy a n c], Zz Zx algo, .agg #[Zy u nu cu, Zy v nv cv], Zy b nn cn] w (dJ (bU r algo up down nonce) w):=by
 have hval:=λ W h=>jQ a n c r W h hnc hn;have hrl:=hI.len;have hul:=hu.len;have hvl:=hv.len;have hbl:=hb.len;cases hV:aR r
 ·have e:bU r algo up down nonce=([],3):=by unfold bU;rw [aal hV]
  rw [e];rw [hV] at hval;clear hul hvl hbl e
  go_enter Tryz.func127,Tryz.ntmps127
  go_wp2_with (first
   | (go_at_call 57;refine (hval _ (hI.ext eX)).mono ?_;rintro e w1 ⟨rfl,hxq⟩;obtain ⟨xq,rfl⟩:=hxq.out;clear hxq)
   | fail)
  refine aab (v := .tuple #[Zy none 0 0, Zz Zx 3]) (by simp [results,Tryz.results127,go_sem]) rfl ?_;exact dJ.err _ _ 3 eX
 ·rw [hV] at hval;by_cases a1:algo<0
  ·have e:bU r algo up down nonce=([],4):=by unfold bU;rw [aaf (by rw [hV];simp),aal (.inl a1)]
   rw [e];clear hul hvl hbl e
   go_enter Tryz.func127,Tryz.ntmps127
   go_wp2_with (first
    | (go_at_call 57;refine (hval _ (hI.ext eX)).mono ?_;rintro e w1 ⟨rfl,hxq⟩;obtain ⟨xq,rfl⟩:=hxq.out;clear hxq)
    | fail)
   refine aab (v := .tuple #[Zy none 0 0, Zz Zx 4]) (by simp [results,Tryz.results127,go_sem]) rfl ?_;exact dJ.err _ _ 4 eX
  ·by_cases a2:65535<algo
   ·have e:bU r algo up down nonce=([],4):=by unfold bU;rw [aaf (by rw [hV];simp),aal (.inr a2)]
    rw [e];clear hul hvl hbl e
    go_enter Tryz.func127,Tryz.ntmps127
    go_wp2_with (first
     | (go_at_call 57;refine (hval _ (hI.ext eX)).mono ?_;rintro e w1 ⟨rfl,hxq⟩;obtain ⟨xq,rfl⟩:=hxq.out;clear hxq)
     | fail)
    refine aab (v := .tuple #[Zy none 0 0, Zz Zx 4]) (by simp [results,Tryz.results127,go_sem]) rfl ?_;exact dJ.err _ _ 4 eX
   ·by_cases u32:nu=32
    ·have u32i:(((nu:Nat):Int) != 32)=false:=by rw [aai];omega
     by_cases d32:nv=32
     ·have d32i:(((nv:Nat):Int) != 32)=false:=by rw [aai];omega
      by_cases n16:nn=16
      ·have n16i:(((nn:Nat):Int) != 16)=false:=by rw [aai];omega
       have e:bU r algo up down nonce=(dw (hd r) algo up down nonce,0):=by unfold bU;rw [aaf (by rw [hV];simp),aaf Zo,aaf Zo,aaf Zo]
       obtain ⟨v1,v2,v3,v4⟩:=bm.1 hV;obtain ⟨x0,hx0⟩:∃ x,r[0]?=some x:=⟨_,List.getElem?_eq_getElem Zo⟩;have hhd:hd r=x0:=by unfold hd;rw [List.getD_eq_getElem?_getD,hx0];rfl
       obtain ⟨x1,x2,x3⟩:=v1 x0 (List.mem_of_getElem? hx0);rw [hhd] at e;obtain ⟨id,ky⟩:=x0;simp only at x1 x2 x3;subst u32 d32 n16;obtain ⟨b0,off,g,cg,rfl,hb0,hc0,hc1,hSd,hcd⟩:=hI.at 0 Zo _ hx0;simp only at hc0 hc1 hSd hcd;rw [x3] at hc1 hSd hcd;have hrd:=qZ (w:=w) (o:=off+0*2) hb0.lt hc0 hc1;rw [Nat.zero_mul,abx] at hrd;obtain ⟨pa,hpa⟩:∃ pa,aH 2 (UInt64.ofNat algo.toNat)=pa:=⟨_,rfl⟩;have hpal:pa.length=2:=by rw [<- hpa];exact az _ _
       have hput:=λ W=>gL (UInt64.ofNat algo.toNat) 2 (ku algo Zo Zo) (show (2:Int)=((2:Nat):Int) from rfl) W Zo;rw [hpa] at hput;obtain ⟨pl,hpl⟩:∃ pl,pa++([0,0]++(up++down))=pl:=⟨_,rfl⟩;have hpll:pl.length=68:=by rw [<- hpl];simp only [aah,aaM,List.length_nil];omega
       have hck:dw (id,ky) algo up down nonce=idB id++(nonce++(bI ky [idB id,nonce] pl).1):=by unfold dw eW;rw [hpa,hpl]
       rw [hck] at e;have hckl:(idB id++(nonce++(bI ky [idB id,nonce] pl).1)).length=104:=by
        obtain ⟨sd,h1,h2⟩:=kP (ky:=ky) (nonce:=nonce) (p:=pl) id x3 hbl hpll;rw [h1];simp only [aah,gy];omega
       have hsl:=λ d cd W h1 h2 h3 h4=>vP id g b d cg cn cd ky nonce pl W x1 x2 h1 hcd h2 hcn h3 h4;generalize (idB id++(nonce++(bI ky [idB id,nonce] pl).1))=CK at *;rw [e];have hmk:∀ W:World,(Instr.makeSlice 33 (Zz Zx 2) (Zz Zx 2)).run Tryz.prog W = .ok (Zy (some ⟨W.heap.size,0,none⟩) 2 2) (W.alloc (.cells (bM (Zz Zu 0) 2) 5)):=λ W=>de U 2 2 Zo Zo W;clear e hck hpa hhd hul hvl hbl;haveI:=hb0
       go_enter Tryz.func127,Tryz.ntmps127
       go_wp2_with (first
        | (go_at_call 57;refine (hval _ (hI.ext eX)).mono ?_;rintro e w1 ⟨rfl,hxq⟩;obtain ⟨xq,rfl⟩:=hxq.out;clear hxq)
        | fail)
       refine df ?_;intro W hW;have hEW:Ext w W:=by rw [hW];exact eX
       have hB1:Blk W w.heap.size 26 [Zy (some ⟨b0,off,none⟩) n c]:=by rw [hW];exact bK
       have hB2:Blk W (w.heap.size+1) 55 [Zy u 32 cu, Zy v 32 cv]:=by rw [hW];exact bK
       clear hW;have f0:=hB1.cell? 0 rfl;have f1:=hB2.cell? 0 rfl;have f2:W.cell? ⟨w.heap.size+1,1,none⟩=some (Zy v 32 cv):=hB2.cell? 1 rfl;haveI:=hB1.blt;haveI:=hB2.blt;have hkW:=hSd.ext hEW;have huW:=hu.ext hEW;have hvW:=hv.ext hEW;have hbW:=hb.ext hEW;have hrdW:=hrd.ext hEW;have hn0:0<n:=Zo;refine ae 18 [[],[0],[0,1],[0,1,2],[],[],[5],[5,6],[],[],[9],[],[11],[5,6,7,8,9,10,11,12],[5,6,7,8,9,10,11,12,13],[0,1,2,3,4,5,6,7,8,9,10,11,12,13,14],[0,1,2,3,4,5,6,7,8,9,10,11,12,13,14,15],[0,1,2,3,4,5,6,7,8,9,10,11,12,13,14,15,16]] Zk Zk Zk Zk ?_;simp only [q8q,q9q,q10q,q11q,q12q,q13q];(repeat (apply aj;(case h=>(intro us w' hx hf;obtain ⟨x,rfl⟩:=hx.out;refine ⟨rfl,?_⟩;simp [go_sem,execOp, *];(try simp (disch:=omega) only [q17q,q18q,q19q]);rfl));(try simp only [Act.put,q0q,q1q,q2q])));(refine ay RM2 _ rfl (λ _=>rfl) b0 off (λ _=>by simp [go_sem]) _ hrdW rfl ?_);(repeat (apply aj;(case h=>(intro us w' hx hf;obtain ⟨x,rfl⟩:=hx.out;refine ⟨rfl,?_⟩;simp [go_sem,execOp, *];(try simp (disch:=omega) only [q17q,q18q,q19q]);rfl));(try simp only [Act.put,q0q,q1q,q2q])));(refine ao (λ p => .slice (p 0).1 2 (p 0).2) (λ p w''=>Own w'' 0 (p 0).1 2 (p 0).2 pa) (λ p w w' h hx=>h.ext hx) (λ us w' hx hf=>⟨rfl,?_⟩) ?_;(unfold gives;simp [go_sem,execOp];exact aA (aam _) (hput _)));(refine ao (λ p => .slice (p 0).1 2 2) (λ p w''=>Sl w'' (p 0).1 2 ([0,0])) (λ p w w' h hx=>h.ext hx) (λ us w' hx hf=>⟨rfl,?_⟩) ?_;(unfold gives;simp [go_sem,execOp,hmk];exact ⟨λ _=>(some ⟨w'.heap.size,0,none⟩,0),rfl,Ext.of_alloc _ _,(bY _ _).sl rfl⟩));(repeat (apply aj;(case h=>(intro us w' hx hf;obtain ⟨x,rfl⟩:=hx.out;refine ⟨rfl,?_⟩;simp [go_sem,execOp, *];(try simp (disch:=omega) only [q17q,q18q,q19q]);rfl));(try simp only [Act.put,q0q,q1q,q2q])));(refine ao (λ p => .slice (p 0).1 4 4) (λ p w''=>Bss w'' (p 0).1 4 ([pa,[0,0],up,down])) (λ p w w' h hx=>h.ext hx) (λ us w' hx hf=>⟨rfl,?_⟩) ?_;(unfold gives;simp [go_sem,execOp];exact ⟨λ _=>(some ⟨w'.heap.size,0,none⟩,0),rfl,Ext.of_alloc _ _,Az ((hf _ (aaU _ (aad _ (aaa _))) rfl)).sl (hf _ (aad _ (aaa _)) rfl) (huW.ext hx) (hvW.ext hx) _⟩));(refine ao (λ p => .slice (p 0).1 68 (p 0).2) (λ p w''=>Own w'' 0 (p 0).1 68 (p 0).2 pl) (λ p w w' h hx=>h.ext hx) (λ us w' hx hf=>⟨rfl,?_⟩) ?_;(unfold gives;simp [go_sem,execOp];exact aA (aam _) ((by have:=gu _ 4 4 [pa,[0,0],up,down] w' (by exact (hf _ (aad _ (aaa _)) rfl)) Zo 68 (by rw [mG,hpl];exact hpll) Zo;rw [mG,hpl] at this;exact this))));(refine ao (λ p => .slice (p 0).1 104 (p 0).2) (λ p w''=>Own w'' 0 (p 0).1 104 (p 0).2 CK) (λ p w w' h hx=>h.ext hx) (λ us w' hx hf=>⟨rfl,?_⟩) ?_;(unfold gives;simp [go_sem,execOp];exact aA (aam _) (hsl _ _ _ (hkW.ext hx) (hbW.ext hx) ((hf _ (aad _ (aaa _)) rfl)).sl ((hf _ (aad _ (aaa _)) rfl)).le.1)));(repeat (apply aj;(case h=>(intro us w' hx hf;obtain ⟨x,rfl⟩:=hx.out;refine ⟨rfl,?_⟩;simp [go_sem,execOp, *];(try simp (disch:=omega) only [q17q,q18q,q19q]);rfl));(try simp only [Act.put,q0q,q1q,q2q])));(refine aB ?_;intro us w' hx hf;obtain ⟨x,rfl⟩:=hx.out;(try simp only [Act.put,q0q,q1q,q2q,ai]);(try simp only [q3q,q4q,aar,aac,aan,q5q,q6q,q7q,aat,aau,aav] at hf);(try simp only [Nat.reduceAdd,aag] at hf ⊢));obtain ⟨_,_,_,_,hO⟩:=hf;go_wp2_with fail;refine aab (v := .tuple #[.slice (us 15 0).1 104 (us 15 0).2, Zz Zx 0]) (by simp [results,Tryz.results127,go_sem]) rfl ?_;show ∃ a c,_=Ending.returned (.tuple #[Zy a CK.length c, Zz Zx 0])/\Own _ 0 a CK.length c CK/\Ext w _;rw [hckl];exact ⟨_,_,rfl,hO,hEW.ext x⟩
      ·have e:bU r algo up down nonce=([],3):=by unfold bU;rw [aaf (by rw [hV];simp),aaf Zo,aaf Zo,aal Zo]
       rw [e];have n16i:(((nn:Nat):Int) != 16)=true:=by rw [aax];omega
       clear hul hvl hbl e n16 u32 d32
       go_enter Tryz.func127,Tryz.ntmps127
       go_wp2_with (first
        | (go_at_call 57;refine (hval _ (hI.ext eX)).mono ?_;rintro e w1 ⟨rfl,hxq⟩;obtain ⟨xq,rfl⟩:=hxq.out;clear hxq)
        | fail)
       refine aab (v := .tuple #[Zy none 0 0, Zz Zx 3]) (by simp [results,Tryz.results127,go_sem]) rfl ?_;exact dJ.err _ _ 3 eX
     ·have e:bU r algo up down nonce=([],5):=by unfold bU;rw [aaf (by rw [hV];simp),aaf Zo,aal Zo]
      rw [e];have d32i:(((nv:Nat):Int) != 32)=true:=by rw [aax];omega
      clear hul hvl hbl e u32 d32
      go_enter Tryz.func127,Tryz.ntmps127
      go_wp2_with (first
       | (go_at_call 57;refine (hval _ (hI.ext eX)).mono ?_;rintro e w1 ⟨rfl,hxq⟩;obtain ⟨xq,rfl⟩:=hxq.out;clear hxq)
       | fail)
      refine aab (v := .tuple #[Zy none 0 0, Zz Zx 5]) (by simp [results,Tryz.results127,go_sem]) rfl ?_;exact dJ.err _ _ 5 eX
    ·have e:bU r algo up down nonce=([],5):=by unfold bU;rw [aaf (by rw [hV];simp),aaf Zo,aal Zo]
     rw [e];have u32i:(((nu:Nat):Int) != 32)=true:=by rw [aax];omega
     clear hul hvl hbl e u32
     go_enter Tryz.func127,Tryz.ntmps127
     go_wp2_with (first
      | (go_at_call 57;refine (hval _ (hI.ext eX)).mono ?_;rintro e w1 ⟨rfl,hxq⟩;obtain ⟨xq,rfl⟩:=hxq.out;clear hxq)
      | fail)
     refine aab (v := .tuple #[Zy none 0 0, Zz Zx 5]) (by simp [results,Tryz.results127,go_sem]) rfl ?_;exact dJ.err _ _ 5 eX
def DU (l:List UInt8)(w:World)(e:Ending) (w':World):Prop:=∃ a1 c1 a2 c2 a3 c3,e = .returned (.tuple #[Zy a1 4 c1, Zy a2 16 c2, Zy a3 84 c3])/\Sl w' a1 4 (l.take 4)/\4<=c1/\Sl w' a2 16 ((l.drop 4).take 16)/\16<=c2/\Sl w' a3 84 (l.drop 20)/\84<=c3/\Ext w w'
theorem yw (a:Option Addr)(c:Nat) (l:List UInt8)(w:World)(h:Sl w a 104 l) (hc:104<=c) :
  Calls Tryz.prog 117 #[Zy a 104 c] w (DU l w):=by
 have h1:=h.take 4 Zo;have h2:=(h.drop c 4 hc).take 16 Zo;have h3:=h.drop c 20 hc;have k1:(4:Int)<=(c:Int):=Zo;have k2:(20:Int)<=(c:Int):=Zo;have k3:(104:Int)<=(c:Int):=Zo;have l1:4<=c:=Zo;have l2:20<=c:=Zo
 go_enter Tryz.func117,Tryz.ntmps117
 go_wp2;refine ae 9 [[],[0],[],[2],[],[4],[0,1],[0,1,2,3,6],[0,1,2,3,4,5,6,7]] Zk Zk Zk Zk ?_;simp only [q8q,q9q,q10q,q11q,q12q,q13q];(repeat (apply aj;(case h=>(intro us w' hx hf;obtain ⟨x,rfl⟩:=hx.out;refine ⟨rfl,?_⟩;simp [go_sem,execOp, *];(try simp (disch:=omega) only [q17q,q18q,q19q]);rfl));(try simp only [Act.put,q0q,q1q,q2q])));(refine aB ?_;intro us w' hx hf;obtain ⟨x,rfl⟩:=hx.out;(try simp only [Act.put,q0q,q1q,q2q,ai]);(try simp only [q3q,q4q,aar,aac,aan,q5q,q6q,q7q,aat,aau,aav] at hf);(try simp only [Nat.reduceAdd,aag] at hf ⊢));go_wp2_with fail;refine aab (v := .tuple #[Zy a 4 c, Zy (dX a c 4 1) 16 (c-4), Zy (dX a c 20 1) 84 (c-20)]) (by simp [results,Tryz.results117,go_sem]) rfl ?_;exact ⟨_,_,_,_,_,_,rfl,h1.ext (Ext.of_ext _ _),Zo,h2.ext (Ext.of_ext _ _),Zo,h3.ext (Ext.of_ext _ _),Zo,Ext.of_ext _ _⟩
end Go.Proofs.YtmdahnkcnagkjaaGreat

/- The walks of layer 19: Open. -/
namespace Go.Sec
open Go.RowKit
theorem gi {P:Program} {fn:Func} {q p u u2:Tmp} {T:TypeId} {n:Nat} (h:fn.results=#[.tmp q, .cell p T, .tmp u, .tmp u2]) (hT:RowT P T n) (tmps:Array Value) (w:World)(g o:Nat) (cs:List Value)(hp:tmps.getD p undef = .pointer (some ⟨g,o,none⟩))
  (hR:Rd w (some ⟨g,o,none⟩) cs) (hn:cs.length=n) (v v2 v3:Value)(hv:tmps.getD q undef=v) (hv2:tmps.getD u undef=v2) (hv3:tmps.getD u2 undef=v3):(results fn tmps).run P w = .ok (.tuple #[v, .agg cs.toArray,v2,v3]) w:=by
 have hp':tmps[p]?.getD undef = .pointer (some ⟨g,o,none⟩):=by simpa using hp
 subst hv hv2 hv3;simp [results,h,hp',asAddr,eh hT w g o cs hR hn]
end Go.Sec
namespace Go.Cook
open Go.Sha Go.Oct Go.Aes Go.Sec
def rK (r:Ring) (c:List UInt8):Int:=match jS r c with|none => -1|some i=>(i:Int)
theorem Ar {r:Ring} {c:List UInt8} {k:Nat} {x:Int × List UInt8} (hx:r[k]?=some x) (h0:∀ m∈r.take k,m.1≠lM c) (h:x.1=lM c):jS r c=some k:=by
 unfold jS;obtain ⟨hi,he⟩:=List.getElem?_eq_some_iff.1 hx;rw [List.findIdx?_eq_some_iff_getElem];refine ⟨hi,by rw [he];simpa using h,λ j hj=>?_⟩;have:=h0 r[j] (aby.2 ⟨j,Zo,rfl⟩);simpa using this
theorem Aa {r:Ring} {c:List UInt8} (h0:∀ m∈r,m.1≠lM c):jS r c=none:=by
 unfold jS;rw [List.findIdx?_eq_none_iff];intro m hm;simpa using h0 m hm
theorem yd {r:Ring} {c:List UInt8} {i:Nat} (h:jS r c=some i):i<r.length/\True:=by
 unfold jS at h;rw [List.findIdx?_eq_some_iff_getElem] at h;exact ⟨h.1,trivial⟩
theorem kj {ky:List UInt8} {A:List (List UInt8)} {s:List UInt8}:(bH ky A s).2=0->(bH ky A s).1.length=s.length-16:=by
 intro h;unfold bH at h ⊢;by_cases h1:aP ky A≠0
 ·rw [aal h1] at h;exact absurd h h1
 ·rw [aaf h1] at h ⊢;by_cases h2:65535<s.length
  ·rw [aal h2] at h;cases h
  ·rw [aaf h2] at h ⊢;by_cases h3:s.length<16
   ·rw [aal h3] at h;cases h
   ·rw [aaf h3] at h ⊢;by_cases h4:(cG ky A (bE ky s)).1=s.take 16
    ·rw [aal h4];exact dA
    ·rw [aaf h4] at h;cases h
theorem qu (l:List UInt8)(h:l.length=2):n64 (dy l)=0 ↔ l=[0,0]:=by
 constructor
 ·intro h0;have h1:=fK l Zo;unfold Go.Sec.n64 at h0;have h2:bR l=0:=Zo;exact yN l [0,0] (by rw [h];rfl) (by rw [h2];rfl)
 ·rintro rfl;rfl
end Go.Cook
namespace Go.Proofs.YtmdahnkcnagkjaaGreat
open Go.RowKit Go.Sec Go.Oct Go.Sha Go.Aes Go.Cook BigFrame
theorem RP2:RowT Tryz.prog 55 2:=⟨⟨_,Tryz.underlying55,rfl⟩,Zk,⟨_,Tryz.zeroValue55,Zk⟩⟩
theorem xy (id:Int) (g:Option Addr)(m cg gB:Nat) (a1:Option Addr)(c1:Nat) (ib:List UInt8)(w:World)(h0:0<=id) (h1:id<=4294967295) (hB:Blk w gB 33 [Zy a1 4 c1]) (hS:Sl w a1 4 ib) (hc:4<=c1) :
  Calls Tryz.prog 119 #[.agg #[Zz Zx id, Zy g m cg], .pointer (some ⟨gB,0,none⟩)] w λ e w'=>e = .returned (.bool (id == n64 (dy ib)))/\Ext w w':=by
 have hlt:=hB.lt;have hget:=λ W H=>eG a1 4 c1 ib W H hc Zo;have hw:IntKind.u64.wrap id=id:=by rw [aaL];omega
 haveI:=hB.blt;have f0:=hB.cell? 0 rfl
 go_enter Tryz.func119,Tryz.ntmps119
 go_wp2;obtain ⟨W,hW⟩:∃ W,W=w.alloc (.cells #[Zz Zx id, Zy g m cg] 50):=⟨_,rfl⟩;have hxW:Ext w W:=by rw [hW];exact eX
 have hM:Blk W w.heap.size 50 [Zz Zx id, Zy g m cg]:=by rw [hW];exact bK
 have hB:=hB.extB hxW;have hS:=hS.ext hxW;rw [<- hW];clear hW;haveI:=hM.blt;haveI:=hB.blt;have f1:=hM.cell? 0 rfl;have f0:=hB.cell? 0 rfl;refine ae 7 [[],[0],[0,1],[],[3],[0,1,2,3,4],[0,1,2,3,4,5]] Zk Zk Zk Zk ?_;simp only [q8q,q9q,q10q,q11q,q12q,q13q];(repeat (apply aj;(case h=>(intro us w' hx hf;obtain ⟨x,rfl⟩:=hx.out;refine ⟨rfl,?_⟩;simp [go_sem,execOp, *];(try simp (disch:=omega) only [q17q,q18q,q19q]);rfl));(try simp only [Act.put,q0q,q1q,q2q])));(refine ao (λ _ => Zz Zw (n64 (dy ib))) (λ _ _=>True) (λ _ _ _ _ _=>trivial) (λ us w' hx hf=>⟨rfl,?_⟩) ?_;(unfold gives;simp [go_sem,execOp];refine (hget _ (hS.ext hx)).mono ?_;rintro e w1 ⟨rfl,hx1⟩;first|exact ⟨rfl,hx1⟩|simpa using hx1));(repeat (apply aj;(case h=>(intro us w' hx hf;obtain ⟨x,rfl⟩:=hx.out;refine ⟨rfl,?_⟩;simp [go_sem,execOp, *];(try simp (disch:=omega) only [q17q,q18q,q19q]);rfl));(try simp only [Act.put,q0q,q1q,q2q])));(refine aB ?_;intro us w' hx hf;obtain ⟨x,rfl⟩:=hx.out;(try simp only [Act.put,q0q,q1q,q2q,ai]);(try simp only [q3q,q4q,aar,aac,aan,q5q,q6q,q7q,aat,aau,aav] at hf);(try simp only [Nat.reduceAdd,aag] at hf ⊢));go_wp2;go_ret;exact ⟨rfl,hxW.ext x⟩
theorem s7 (a:Option Addr)(n c:Nat) (r:Ring) (gB:Nat) (a1:Option Addr)(c1:Nat) (ck:List UInt8)(w:World)(hI:Ib w a n r) (hn:n<=1000000) (hr:∀ m∈r,0<=m.1/\m.1<=4294967295) (hB:Blk w gB 33 [Zy a1 4 c1]) (hS:Sl w a1 4 (ck.take 4)) (hc:4<=c1) :
  Calls Tryz.prog 118 #[Zy a n c, .func (.func 119) #[] #[.pointer (some ⟨gB,0,none⟩)]] w λ e w'=>e = .returned (Zz Zx (rK r ck))/\Ext w w':=by
 have hl:=hI.len;have ho1:=λ id g m cg W k0 k1 H1 H2=>xy id g m cg gB a1 c1 (ck.take 4) W k0 k1 H1 H2 hc;rw [show n64 (dy (ck.take 4))=lM ck from rfl] at ho1
 go_enter Tryz.func118,Tryz.ntmps118
 go_wp2_with fail
 go_loopw [5,8] (λ _ v8 wr=>∃ i:Nat,i<=n/\v8 = Zz Zx i/\Hid (∀ m∈r.take i,m.1≠lM ck)/\Ext w wr) (λ _ v8 _=>n-(intOf v8).toNat)
 case atStart=>exact ⟨0,Zo,rfl,Lib.hid Zs,Ext.refl _⟩
 case round =>
  obtain ⟨i,hi,rfl,hm,hx⟩:=hrel;by_cases hlt:i<n
  ·obtain ⟨x,hxi⟩:∃ x,r[i]?=some x:=⟨_,List.getElem?_eq_getElem Zo⟩;obtain ⟨r0,r1⟩:=hr x (List.mem_of_getElem? hxi);obtain ⟨b0,o0,g',c',rfl,hb0,hc0,hc1,hSk,hck⟩:=(hI.ext hx).at i hlt _ hxi;have hrd:=qZ hb0.lt hc0 hc1;have i0:(0:Int)<=(i:Int):=Zo;have i1:(i:Int)<(n:Int):=Zo;have hat:=Lib.hid (λ h=>Ar hxi hm.out h);have hts:=iD hxi;haveI:=hb0
   go_wp2_with (first
    | (refine af RM2 rfl _ rfl b0 (o0+i*2) rfl _ hrd rfl ?_)
    | fail)
   (with_reducible refine (ho1 _ _ _ _ _ r0 r1 (hB.extB hx) (hS.ext hx)).mono ?_);rintro e w1 ⟨rfl,hx1⟩;by_cases hid:x.1=lM ck
   ·have hage:=hat.out hid;have hb:(x.1 == lM ck)=true:=by simpa using hid
    have HR:=Lib.hid (show rK r ck=(i:Int) by unfold rK;rw [hage]);clear hage hid hts;go_wp2_with fail;go_ret;exact ⟨by rw [HR.out];rfl,hx.trans hx1⟩
   ·have hb:(x.1 == lM ck)=false:=by simpa using hid
    have hm2:=Lib.hid (show ∀ m∈r.take (i+1),m.1≠lM ck by
     rw [hts];intro m hm';rcases aa4.1 hm' with h|h
     ·exact hm.out m h
     ·rw [aaB.1 h];exact hid)
    clear hid hts;go_wp2_with fail;go_roundw
    case rel=>exact ⟨i+1,Zo,Zg,hm2,hx.trans hx1⟩
    case measure=>simp [intOf];omega
  ·obtain rfl:i=n:=by omega
   have HR:=Lib.hid (show rK r ck = -1 by unfold rK;rw [Aa (by have:=hm.out;rwa [aak Zo] at this)]);go_wp2_with fail;go_ret;exact ⟨by rw [HR.out];rfl,hx⟩
def l9 (o:Opened) (w:World)(e:Ending) (w':World):Prop:=∃ a n c b m d,e = .returned (.tuple #[Zz Zx o.algo, .agg #[Zy a n c, Zy b m d], Zz Zx o.age, Zz Zx o.err])/\Sl w' a n o.up/\n<=c/\Sl w' b m o.down/\m<=d/\Ext w w'
theorem l9.err (w w':World)(e:Int) (hx:Ext w w'):l9 ⟨0,[],[],0,e⟩ w (.returned (.tuple #[Zz Zx 0, .agg #[Zy none 0 0, Zy none 0 0], Zz Zx 0, Zz Zx e])) w' :=
 ⟨none,0,0,none,0,0,rfl,Sl.nil _ _,aae _,Sl.nil _ _,aae _,hx⟩
theorem xa (a b:Option Addr)(n c nk ck:Nat) (r:Ring) (l:List UInt8)(w:World)(hI:Ib w a n r) (hnc:n<=c) (hn:n<=1000000) (hb:Sl w b nk l) (hck:nk<=ck) :
  Calls Tryz.prog 80 #[.agg #[Zy a n c], Zy b nk ck] w (l9 (dv r l) w):=by
 have hval:=λ W h=>jQ a n c r W h hnc hn;have hrl:=hI.len;have hll:=hb.len;cases hV:aR r
 ·have e:dv r l=⟨0,[],[],0,3⟩:=by unfold dv;rw [aal (.inl hV)]
  rw [e];rw [hV] at hval;clear hll e
  go_enter Tryz.func80,Tryz.ntmps80
  go_wp2_with (first
   | (go_at_call 57;refine (hval _ (hI.ext eX)).mono ?_;rintro e w1 ⟨rfl,hxq⟩;obtain ⟨xq,rfl⟩:=hxq.out;clear hxq)
   | fail)
  refine aab (v := .tuple #[Zz Zx 0, .agg #[Zy none 0 0, Zy none 0 0], Zz Zx 0, Zz Zx 3]) (by simp [results,Tryz.results80,go_sem]) rfl ?_;exact l9.err _ _ _ eX
 ·rw [hV] at hval;by_cases n104:nk=104
  ·subst n104;obtain ⟨v1,v2,v3,v4⟩:=bm.1 hV;have hcut:=λ W H=>yw b ck l W H hck;have hix:=λ gB a1 c1 W H1 H2 H3 H4=>s7 a n c r gB a1 c1 l W H1 hn (λ m hm=>⟨(v1 m hm).1,(v1 m hm).2.1⟩) H2 H3 H4;cases hA:jS r l with
   | none =>
    have e:dv r l=⟨0,[],[],0,5⟩:=by unfold dv;rw [aaf (by rw [hV];simp;omega),hA]
    rw [e];rw [show rK r l = -1 by unfold rK;rw [hA]] at hix;clear hll e hA
    go_enter Tryz.func80,Tryz.ntmps80
    go_wp2_with (first
     | (go_at_call 57;refine (hval _ (hI.ext eX)).mono ?_;rintro e w1 ⟨rfl,hxq⟩;obtain ⟨xq,rfl⟩:=hxq.out;clear hxq)
     | fail)
    have hx0:Ext w (((w.alloc (.cells #[Zy a n c] 26)).alloc (.cells #[Zy none 0 0, Zy none 0 0] 55)).ext xq):=eX;have hB1:Blk (((w.alloc (.cells #[Zy a n c] 26)).alloc (.cells #[Zy none 0 0, Zy none 0 0] 55)).ext xq) w.heap.size 26 [Zy a n c]:=bK;have hB2:Blk (((w.alloc (.cells #[Zy a n c] 26)).alloc (.cells #[Zy none 0 0, Zy none 0 0] 55)).ext xq) (w.heap.size+1) 55 [Zy none 0 0, Zy none 0 0]:=bK;(with_reducible refine (hcut _ (hb.ext hx0)).mono ?_);rintro e w1 ⟨a1,c1,a2,c2,a3,c3,rfl,s1,k1,s2,k2,s3,k3,hx1⟩;have hE1:=hx0.trans hx1;have hB1:=hB1.extB hx1;have hB2:=hB2.extB hx1;have hlt2:=hB2.lt;clear hx1 hx0;haveI:=hB1.blt;haveI:=hB2.blt;have f0:=hB1.cell? 0 rfl;go_wp2_with fail;have hx2:Ext w1 (w1.alloc (.cells #[Zy a1 4 c1] 33)):=Ext.of_alloc _ _;(with_reducible refine (hix _ _ _ _ (hI.ext (hE1.trans hx2)) (Blk.new w1 #[Zy a1 4 c1] 33) (s1.ext hx2) k1).mono ?_);rintro e w2 ⟨rfl,hx3⟩;have hB3:Blk w2 w1.heap.size 33 [Zy a1 4 c1]:=(Blk.new w1 #[Zy a1 4 c1] 33).extB hx3;have hx23:=hx2.trans hx3;have hE2:=hE1.trans hx23;have hB1:=hB1.extB hx23;have hB2:=hB2.extB hx23;have s1:=s1.ext hx23;have s2:=s2.ext hx23;have s3:=s3.ext hx23;clear hx23 hx2 hx3 hE1 f0;haveI:=hB1.blt;haveI:=hB2.blt;haveI:=hB3.blt;have f0:=hB1.cell? 0 rfl;have f3:=hB3.cell? 0 rfl
    go_wp2_with (first
     | (refine aa RP2 rfl _ _ rfl (w.heap.size+1) 0 rfl _ rfl 55 _ hB2 rfl Zs (by first|exact aK _|(simp;done)|(simp;(repeat' (first|rfl|constructor)))) ?_;intro w9 hB9 hM9)
     | fail)
    refine aab (gi Tryz.results80 RP2 _ _ (w.heap.size+1) 0 [Zy none 0 0, Zy none 0 0] rfl hB9.rd rfl _ _ _ rfl rfl rfl) rfl ?_;exact l9.err _ _ _ (sk hE2 (Ext.refl _) hM9 Zo)
   | some i =>
    obtain ⟨hin,hid⟩:=yd hA;obtain ⟨x,hx⟩:∃ x,r[i]?=some x:=⟨_,List.getElem?_eq_getElem hin⟩;obtain ⟨x1,x2,x3⟩:=v1 x (List.mem_of_getElem? hx);obtain ⟨id,ky⟩:=x;simp only at x1 x2 x3;have hinn:iA r i l=bH ky [l.take 4,(l.drop 4).take 16] (l.drop 20):=by unfold iA;rw [List.getD_eq_getElem?_getD,hx];rfl
    rw [show rK r l=(i:Int) by unfold rK;rw [hA]] at hix;obtain ⟨b',off',gk,cgk,rfl,hbk,d0,d1,hSk,hckk⟩:=hI.at i Zo _ hx;simp only at d0 d1 hSk hckk;rw [x3] at d1 hSk hckk;have hope:=λ bA cA aS cS W h1 h2 h3 h4=>sL gk bA aS 32 cgk 2 cA 84 cS ky [l.take 4,(l.drop 4).take 16] (l.drop 20) W h1 hckk h2 Zo h3 h4;have hlen:=kj (ky:=ky) (A:=[l.take 4,(l.drop 4).take 16]) (s:=l.drop 20);rw [<- hinn] at hope hlen;have hd84:(l.drop 20).length=84:=by rw [aaR];omega
    rw [hd84] at hlen;obtain ⟨⟨pl,er⟩,hpe⟩:∃ q,iA r i l=q:=⟨_,rfl⟩;rw [hpe] at hope hlen;simp only at hope hlen;have hres:dv r l=if er≠0\/(pl.drop 2).take 2≠[0,0] then ⟨0,[],[],0,6⟩ else ⟨n64 (dy (pl.take 2)),(pl.drop 4).take 32,(pl.drop 36).take 32,i,0⟩:=by
     unfold dv;rw [aaf (by rw [hV];simp;omega),hA];simp only;rw [hpe]
    have HR:=Lib.hid hres;have i0:(0:Int)<=(i:Int):=Zo;have i1:(i:Int)<(n:Int):=Zo;have i2:¬ (i:Int)<0:=Zo;haveI:=hbk;clear hres hpe hinn hA hll
    go_enter Tryz.func80,Tryz.ntmps80
    go_wp2_with (first
     | (go_at_call 57;refine (hval _ (hI.ext eX)).mono ?_;rintro e w1 ⟨rfl,hxq⟩;obtain ⟨xq,rfl⟩:=hxq.out;clear hxq)
     | fail)
    have hx0:Ext w (((w.alloc (.cells #[Zy (some ⟨b',off',none⟩) n c] 26)).alloc (.cells #[Zy none 0 0, Zy none 0 0] 55)).ext xq):=eX;have hB1:Blk (((w.alloc (.cells #[Zy (some ⟨b',off',none⟩) n c] 26)).alloc (.cells #[Zy none 0 0, Zy none 0 0] 55)).ext xq) w.heap.size 26 [Zy (some ⟨b',off',none⟩) n c]:=bK;have hB2:Blk (((w.alloc (.cells #[Zy (some ⟨b',off',none⟩) n c] 26)).alloc (.cells #[Zy none 0 0, Zy none 0 0] 55)).ext xq) (w.heap.size+1) 55 [Zy none 0 0, Zy none 0 0]:=bK;(with_reducible refine (hcut _ (hb.ext hx0)).mono ?_);rintro e w1 ⟨a1,c1,a2,c2,a3,c3,rfl,s1,k1,s2,k2,s3,k3,hx1⟩;have hE1:=hx0.trans hx1;have hB1:=hB1.extB hx1;have hB2:=hB2.extB hx1;have hlt2:=hB2.lt;clear hx1 hx0;haveI:=hB1.blt;haveI:=hB2.blt;have f0:=hB1.cell? 0 rfl;go_wp2_with fail;have hx2:Ext w1 (w1.alloc (.cells #[Zy a1 4 c1] 33)):=Ext.of_alloc _ _;(with_reducible refine (hix _ _ _ _ (hI.ext (hE1.trans hx2)) (Blk.new w1 #[Zy a1 4 c1] 33) (s1.ext hx2) k1).mono ?_);rintro e w2 ⟨rfl,hx3⟩;have hB3:Blk w2 w1.heap.size 33 [Zy a1 4 c1]:=(Blk.new w1 #[Zy a1 4 c1] 33).extB hx3;have hx23:=hx2.trans hx3;have hE2:=hE1.trans hx23;have hB1:=hB1.extB hx23;have hB2:=hB2.extB hx23;have s1:=s1.ext hx23;have s2:=s2.ext hx23;have s3:=s3.ext hx23;clear hx23 hx2 hx3 hE1 f0;haveI:=hB1.blt;haveI:=hB2.blt;haveI:=hB3.blt;have f0:=hB1.cell? 0 rfl;have f3:=hB3.cell? 0 rfl;go_wp2_with fail;haveI:BlkLt b' w2:=⟨aaj hbk.lt hE2.size⟩;have d1:w2.cell? ⟨b',off'+i*2+1,none⟩=some (Zy gk 32 cgk):=(hE2.cell (p:=⟨b',_,none⟩) hbk.lt).trans d1;have hSkW:=hSk.ext hE2;refine ae 16 [[],[0],[],[0,1,2],[0,1,2,3],[0,1,2,3,4],[],[],[6,7],[],[0,1,2,3,4,5,6,7,8,9],[0,1,2,3,4,5,6,7,8,9,10],[0,1,2,3,4,5,6,7,8,9,10,11],[0,1,2,3,4,5,6,7,8,9,10,11],[0,1,2,3,4,5,6,7,8,9,10,11,12],[0,1,2,3,4,5,6,7,8,9,10,11,12,13,14]] Zk Zk Zk Zk ?_;simp only [q8q,q9q,q10q,q11q,q12q,q13q];(repeat (apply aj;(case h=>(intro us w' hx hf;obtain ⟨x,rfl⟩:=hx.out;refine ⟨rfl,?_⟩;simp [go_sem,execOp, *];(try simp (disch:=omega) only [q17q,q18q,q19q]);rfl));(try simp only [Act.put,q0q,q1q,q2q])));(refine ao (λ p => .slice (p 0).1 2 2) (λ p w''=>Bsc w'' (p 0).1 2 [l.take 4,(l.drop 4).take 16]) (λ p w w' h hx=>by first|exact h.ext hx|exact ⟨h.1.ext hx,h.2.ext hx⟩|exact ⟨h.1.ext hx,h.2⟩|exact ⟨h.1.ext hx,h.2.1.ext hx,h.2.2.ext hx⟩) (λ us w' hx hf=>⟨rfl,?_⟩) ?_;(unfold gives;simp [go_sem,execOp];exact ⟨λ _=>(some ⟨w'.heap.size,0,none⟩,0),rfl,Ext.of_alloc _ _,s6 (s1.ext hx) k1 (s2.ext hx) k2 _⟩));(repeat (apply aj;(case h=>(intro us w' hx hf;obtain ⟨x,rfl⟩:=hx.out;refine ⟨rfl,?_⟩;simp [go_sem,execOp, *];(try simp (disch:=omega) only [q17q,q18q,q19q]);rfl));(try simp only [Act.put,q0q,q1q,q2q])));(refine ao (λ p => .tuple #[.slice (p 0).1 pl.length (p 0).2, Zz Zx er]) (λ p w''=>Sl w'' (p 0).1 pl.length (pl)/\(pl.length)<=(p 0).2) (λ p w w' h hx=>⟨h.1.ext hx,h.2⟩) (λ us w' hx hf=>⟨rfl,?_⟩) ?_;(unfold gives;simp [go_sem,execOp];exact eR (hope _ _ _ _ _ (hSkW.ext hx) (hf _ (aad _ (aaa _)) rfl) (s3.ext hx) k3)));(repeat (apply aj;(case h=>(intro us w' hx hf;obtain ⟨x,rfl⟩:=hx.out;refine ⟨rfl,?_⟩;simp [go_sem,execOp, *];(try simp (disch:=omega) only [q17q,q18q,q19q]);rfl));(try simp only [Act.put,q0q,q1q,q2q])));(refine aB ?_;intro us w' hx hf;obtain ⟨x,rfl⟩:=hx.out;(try simp only [Act.put,q0q,q1q,q2q,ai]);(try simp only [q3q,q4q,aar,aac,aan,q5q,q6q,q7q,aat,aau,aav] at hf);(try simp only [Nat.reduceAdd,aag] at hf ⊢));obtain ⟨_,hSp,hcp⟩:=hf;obtain ⟨ap,hap⟩:∃ a,(us 10 0).1=a:=⟨_,rfl⟩;obtain ⟨cp,hcpe⟩:∃ a,(us 10 0).2=a:=⟨_,rfl⟩;rw [hap] at hSp ⊢;rw [hcpe] at hcp ⊢;clear hap hcpe;obtain ⟨W,hW⟩:∃ W,W=w2.ext x:=⟨_,rfl⟩;rw [<- hW] at hSp ⊢;have hxW:Ext w2 W:=by rw [hW];exact Ext.of_ext _ _
    clear hW;have hE:=hE2.trans hxW;have hB2:=hB2.extB hxW;clear hB1 hB3 s1 s2 s3 d1 hSkW f0 f3 hope hix hcut hval;haveI:=hB2.blt;by_cases her:er=0
    ·subst her;have hpl:pl.length=68:=by rw [hlen rfl]
     rw [hpl] at hSp hcp ⊢;obtain ⟨pb,po,rfl,hpb,_⟩:=hSp.at 0 Zo;have hS2:=nE hSp hcp (show 2<68 from Zo);have hS24:=hS2.take 2 Zo;have l24:((pl.drop 2).take 2).length=2:=by rw [aaF,aaR];omega
     have hg24:=λ W H=>eG (some ⟨pb,po+2,none⟩) 2 (cp-2) ((pl.drop 2).take 2) W H Zo Zo;have j1:(2:Int)<=(cp:Int):=Zo;have j2:(4:Int)<=(cp:Int):=Zo;have j3:4<=cp:=Zo;have j4:2<=cp:=Zo;by_cases hz:(pl.drop 2).take 2=[0,0]
     ·have hz0:=(qu _ l24).2 hz;rw [hz0] at hg24;have HR2:=Lib.hid (show dv r l=⟨n64 (dy (pl.take 2)),(pl.drop 4).take 32,(pl.drop 36).take 32,i,0⟩ by rw [HR.out,aaf (by simp [hz])]);clear hz hz0 HR l24
      go_wp2_with (first
       | (go_at_call 120;(with_reducible refine (hg24 ?_ ?hq10).mono ?_);(case hq10=>exact sS);rintro e w1 ⟨rfl,hxq⟩;obtain ⟨xq,rfl⟩:=hxq.out;clear hxq)
       | fail)
      have hS4:=nE hSp hcp (show 4<68 from Zo);have hE4:Ext W (W.ext xq):=Ext.of_ext _ _;have hct:∀ V,Sl V (some ⟨pb,po+4,none⟩) 64 (pl.drop 4)->Calls Tryz.prog 122 #[Zy (some ⟨pb,po+4,none⟩) 64 (cp-4), Zz Zx 32] V (vt V 32 32 ((pl.drop 4).take 32) ((pl.drop 4).drop 32)):=λ V H=>tJ (some ⟨pb,po+4,none⟩) 64 (cp-4) (pl.drop 4) 32 V H Zo Zo Zo;(with_reducible refine (hct _ (hS4.ext hE4)).mono ?_);rintro e w3 ⟨q1,d1,q2,d2,rfl,hO1,hO2,hx3⟩;rw [abi] at hO2;simp only [Nat.reduceAdd] at hO2;have hx3:=hE4.trans hx3;have hB2:=hB2.extB hx3;have hE3:=hE.trans hx3;have hp1:=hO1.sl;have hp2:Sl w3 q2 32 ((pl.drop 36).take 32):=by rw [aak (by rw [aaR];omega)];exact hO2.sl
      have hq1:=hO1.le.1;have hq2:=hO2.le.1;have hS02:=(hSp.take 2 Zo).ext hx3;clear hO1 hO2 hE4 hct;haveI:=hB2.blt;have c0:=hB2.cell? 0 rfl;have c1:w3.cell? ⟨w.heap.size+1,1,none⟩=some (Zy none 0 0):=hB2.cell? 1 rfl;have z0:=hB2.free 0;have z1:=hB2.free 1;go_wp2_with fail;have hBs:=(hB2.set 0 (Zy q1 32 d1)).set 1 (Zy q2 32 d2);have hM4:Mut (w.heap.size+1) w3 ((w3.setCell ⟨w.heap.size+1,0,none⟩ (Zy q1 32 d1)).setCell ⟨w.heap.size+1,1,none⟩ (Zy q2 32 d2)):=((Mut.refl _ _).setCell 0 _).setCell 1 _;refine df ?_;intro W4 hW4;rw [<- hW4] at hBs hM4;clear hW4;have hBs:Blk W4 (w.heap.size+1) 55 [Zy q1 32 d1, Zy q2 32 d2]:=hBs;have hE4:Ext w W4:=Below.trans hE3 (hM4.below Zo hE3.size);have hp1:=Sl.mut hp1 hB2 Zs hM4;have hp2:=Sl.mut hp2 hB2 Zs hM4;have hS02:=Sl.mut hS02 hB2 Zs hM4;clear hM4 hB2 z0 z1 c0 c1 hS24 hS2 hS4 hg24;obtain ⟨gq,hgq⟩:∃ q,dy (pl.take 2)=q:=⟨_,rfl⟩;have hb02:=yu (pl.take 2) (by rw [aaF];omega);have hg02:=λ V H=>eG (some ⟨pb,po,none⟩) 2 cp (pl.take 2) V H Zo Zo;rw [hgq] at hb02 hg02;have hwr:IntKind.i64.wrap (n64 gq)=n64 gq:=by rw [abe];omega
      haveI:=hBs.blt;have hSE:∀ w',Ext W4 w'->(λ w'=>Blk w' (w.heap.size+1) 55 [Zy q1 32 d1, Zy q2 32 d2]) w':=(λ w' h=>hBs.extB h);have hExt0:Ext W4 (W4).drew:=Ext.drew (Ext.refl _);refine aaX (S:=λ w'=>Blk w' (w.heap.size+1) 55 [Zy q1 32 d1, Zy q2 32 d2]) Zk (hSE _ hExt0) (λ hHeld=>?_);refine aas (i:=0) (v:=?v1) rfl Zk Zk Zk (λ _ _ _ h=>h) (Or.inl ⟨by rfl,?hy1⟩) hHeld ?_;(case hy1=>(intro w' hx;simp [go_sem,execOp, *];(try simp (disch:=omega) only [q17q,q18q,q19q]);rfl));(try simp only [q14q,q15q,q16q,Act.put,q0q,q1q,q2q]);refine aas (i:=1) (v:=?v2) rfl Zk Zk Zk (λ _ _ _ h=>h) (Or.inl ⟨by rfl,?hy2⟩) hHeld ?_;(case hy2=>(intro w' hx;simp [go_sem,execOp, *];(try simp (disch:=omega) only [q17q,q18q,q19q]);rfl));(try simp only [q14q,q15q,q16q,Act.put,q0q,q1q,q2q]);refine aas (i:=4) rfl Zk Zk Zk (λ _ _ _ h=>h) (R5.ew RP2 _ rfl rfl (w.heap.size+1) 0 rfl ([.slice q1 32 d1, .slice q2 32 d2]) ((λ w' h=>h.rd)) rfl) hHeld ?_;(try simp only [q14q,q15q,q16q,Act.put,q0q,q1q,q2q]);refine aas (i:=5) (v:=?v4) rfl Zk Zk Zk (λ _ _ _ h=>h) (Or.inl ⟨by rfl,?hy4⟩) hHeld ?_;(case hy4=>(intro w' hx;simp [go_sem,execOp, *];(try simp (disch:=omega) only [q17q,q18q,q19q]);rfl));(try simp only [q14q,q15q,q16q,Act.put,q0q,q1q,q2q]);(refine R5.aU 2 Zk rfl rfl ?_;unfold gives;simp [go_sem,execOp]);(with_reducible refine (hg02 _ (hS02.ext hExt0)).mono ?_);rintro e w5 ⟨rfl,hx5⟩;have hx5:=hExt0.trans hx5;refine ⟨_,rfl,hSE _ hx5,?_⟩;(try simp only [q14q,q15q,q16q,Act.put,q0q,q1q,q2q]);(refine R5.aU 3 Zk rfl rfl ?_;unfold gives;simp [go_sem,execOp]);refine ⟨hSE _ hx5,?_⟩;(try simp only [q14q,q15q,q16q,Act.put,q0q,q1q,q2q]);(refine R5.aU 6 Zk rfl rfl ?_;unfold gives;simp [go_sem,execOp]);refine ⟨hSE _ hx5,?_⟩;(try simp only [q14q,q15q,q16q,Act.put,q0q,q1q,q2q]);refine R5.cL RP2 7 Zk rfl rfl _ _ rfl (w.heap.size+1) 0 rfl [Zy q1 32 d1, Zy q2 32 d2] rfl 55 _ (hSE _ hx5) rfl Zs oC ?_;intro w6 hB6 hM6;have hS6:Blk w6 (w.heap.size+1) 55 [Zy q1 32 d1, Zy q2 32 d2]:=hB6;refine ⟨hS6,?_⟩;(try simp only [q14q,q15q,q16q,Act.put,q0q,q1q,q2q]);(refine R5.aU 8 Zk rfl rfl ?_;unfold gives;simp [go_sem,execOp]);refine ⟨hS6,?_⟩;(try simp only [q14q,q15q,q16q,Act.put,q0q,q1q,q2q]);(refine R5.aU 9 Zk rfl rfl ?_;unfold gives;simp [go_sem,execOp]);refine ⟨hS6,?_⟩;(try simp only [q14q,q15q,q16q,Act.put,q0q,q1q,q2q]);refine abl Zk ?_ _;go_wp2;refine aab (gi Tryz.results80 RP2 _ _ (w.heap.size+1) 0 [Zy q1 32 d1, Zy q2 32 d2] rfl hS6.rd rfl _ _ _ rfl rfl rfl) rfl ?_;rw [HR2.out,hgq];have hE5:=hE4.trans hx5;have hBk:=hSE _ hx5;exact ⟨_,_,_,_,_,_,(by first|rfl|(rw [hwr];rfl)|(simp only [hwr];rfl)),Sl.mut (hp1.ext hx5) hBk Zs hM6,hq1,Sl.mut (hp2.ext hx5) hBk Zs hM6,hq2,Below.trans hE5 (hM6.below Zo hE5.size)⟩
     ·have hz0:(n64 (dy ((pl.drop 2).take 2)) != 0)=true:=by rw [aax];exact λ h=>hz ((qu _ l24).1 h)
      generalize n64 (dy ((pl.drop 2).take 2))=q at *
      go_wp2_with (first
       | (go_at_call 120;(with_reducible refine (hg24 ?_ ?hq11).mono ?_);(case hq11=>exact sS);rintro e w1 ⟨rfl,hxq⟩;obtain ⟨xq,rfl⟩:=hxq.out;clear hxq)
       | (refine aa RP2 rfl _ _ rfl (w.heap.size+1) 0 rfl _ rfl 55 _ ((hB2.extB eX)) rfl Zs (by first|exact aK _|(simp;done)|(simp;(repeat' (first|rfl|constructor)))) ?_;intro w9 hB9 hM9)
       | fail)
      refine aab (gi Tryz.results80 RP2 _ _ (w.heap.size+1) 0 [Zy none 0 0, Zy none 0 0] rfl hB9.rd rfl _ _ _ rfl rfl rfl) rfl ?_;rw [HR.out,aal (.inr hz)];exact l9.err _ _ _ (sk hE eX hM9 Zo)
    ·have her':=ne0 her
     go_wp2_with (first
      | (refine aa RP2 rfl _ _ rfl (w.heap.size+1) 0 rfl _ rfl 55 _ ((hB2.extB eX)) rfl Zs (by first|exact aK _|(simp;done)|(simp;(repeat' (first|rfl|constructor)))) ?_;intro w9 hB9 hM9)
      | fail)
     refine aab (gi Tryz.results80 RP2 _ _ (w.heap.size+1) 0 [Zy none 0 0, Zy none 0 0] rfl hB9.rd rfl _ _ _ rfl rfl rfl) rfl ?_;rw [HR.out,aal (.inl her)];exact l9.err _ _ _ (sk hE eX hM9 Zo)
  ·have e:dv r l=⟨0,[],[],0,3⟩:=by unfold dv;rw [aal (.inr Zo)]
   rw [e];have hI1:(((nk:Nat):Int) != 104)=true:=by rw [aax];omega
   clear hll e n104
   go_enter Tryz.func80,Tryz.ntmps80
   go_wp2_with (first
    | (go_at_call 57;refine (hval _ (hI.ext eX)).mono ?_;rintro e w1 ⟨rfl,hxq⟩;obtain ⟨xq,rfl⟩:=hxq.out;clear hxq)
    | fail)
   refine aab (v := .tuple #[Zz Zx 0, .agg #[Zy none 0 0, Zy none 0 0], Zz Zx 0, Zz Zx 3]) (by simp [results,Tryz.results80,go_sem]) rfl ?_;exact l9.err _ _ _ eX
end Go.Proofs.YtmdahnkcnagkjaaGreat

/- The walks of layer 17: size, Size, Find. -/
namespace Go.Proofs.YtmdahnkcnagkjaaGreat
open Go.RowKit Go.Sec Go.Oct Go.Pkt BigFrame
theorem RF2:RowT Tryz.prog 79 2:=⟨⟨_,Tryz.underlying79,rfl⟩,Zk,⟨_,Tryz.zeroValue79,Zk⟩⟩
theorem wF (n:Nat) {nI:Int} (hn:nI=(n:Int)) (w:World)(h:n<=1000000000) :
  Calls Tryz.prog 168 #[Zz Zx nI] w λ e w'=>e = .returned (Zz Zx (szN n:Nat))/\Ext w w':=by
 subst hn;have e:max (16:Int) ((4+(n:Int)+4-1) / 4*4)=(szN n:Nat):=by unfold szN;omega
 go_enter Tryz.func168,Tryz.ntmps168
 go_wp2;go_ret;exact ⟨by rw [<- e];rfl,eX⟩
theorem vM (f:Fld) (a:Option Addr)(c:Nat) (w:World)(h:f.2.length<=1000000000) :
  Calls Tryz.prog 153 #[.agg #[Zz Zx f.1, Zy a f.2.length c]] w λ e w'=>e = .returned (.tuple #[Zz Zx (cR f).1, Zz Zx (cR f).2])/\Ext w w':=by
 obtain ⟨t,l⟩:=f;simp only at h ⊢;have hs:=λ W=>wF l.length rfl W h;by_cases h1:t<0
 ·have er:=Lib.hid (show cR (t,l)=(0,4) by unfold cR;rw [aal (.inl h1)])
  go_enter Tryz.func153,Tryz.ntmps153
  go_wp2_with fail;go_ret2;exact ⟨by rw [er.out];rfl,eX⟩
 ·by_cases h2:65535<t
  ·have er:=Lib.hid (show cR (t,l)=(0,4) by unfold cR;rw [aal (.inr h2)])
   go_enter Tryz.func153,Tryz.ntmps153
   go_wp2_with fail;go_ret2;exact ⟨by rw [er.out];rfl,eX⟩
  ·by_cases h3:1232<szN l.length
   ·have er:=Lib.hid (show cR (t,l)=(0,2) by unfold cR;rw [aaf (by simp;omega),aal h3]);have i3:(1232:Int)<((szN l.length:Nat):Int):=Zo;generalize szN l.length=z at *
    go_enter Tryz.func153,Tryz.ntmps153
    go_wp2_with (first
     | (go_at_call 168;refine (hs _).mono ?_;rintro e w1 ⟨rfl,hxq⟩;obtain ⟨xq,rfl⟩:=hxq.out;clear hxq)
     | fail)
    go_ret2;exact ⟨by rw [er.out];rfl,eX⟩
   ·have er:=Lib.hid (show cR (t,l)=(((szN l.length:Nat):Int),0) by unfold cR;rw [aaf (by simp;omega),aaf h3]);have i3:¬ (1232:Int)<((szN l.length:Nat):Int):=Zo;generalize szN l.length=z at *
    go_enter Tryz.func153,Tryz.ntmps153
    go_wp2_with (first
     | (go_at_call 168;refine (hs _).mono ?_;rintro e w1 ⟨rfl,hxq⟩;obtain ⟨xq,rfl⟩:=hxq.out;clear hxq)
     | fail)
    go_ret2;exact ⟨by rw [er.out];rfl,eX⟩
end Go.Proofs.YtmdahnkcnagkjaaGreat

/- The walks of layer 17: Find, the first field of a type. -/
namespace Go.Pkt
open Go.Sec Go.RowKit
theorem rd2 {w:World} {b o:Nat} {v u:Value} (hb:b<w.heap.size) (h1:w.cell? ⟨b,o,none⟩=some v) (h2:w.cell? ⟨b,o+1,none⟩=some u):Rd w (some ⟨b,o,none⟩) [v,u] :=
 .inr ⟨b,o,rfl,hb,λ k x hk=>by
  match k,hk with
  | 0,hk=>simp at hk;subst hk;exact h1
  | 1,hk=>simp at hk;subst hk;exact h2⟩
theorem ji {L:List Fld} {k:Nat} {x:Fld} (h:L[k]?=some x):L.getD k (0,[])=x:=by rw [List.getD_eq_getElem?_getD,h];rfl
end Go.Pkt
namespace Go.Proofs.YtmdahnkcnagkjaaGreat
open Go.RowKit Go.Sec Go.Oct Go.Pkt BigFrame
theorem tC (t:Int) (g:Option Addr)(m c:Nat) (w:World) :
  Calls Tryz.prog 124 #[.agg #[Zz Zx t, Zy g m c]] w λ e w'=>e = .returned (.bool (t == 1028))/\Ext w w':=by
 go_enter Tryz.func124,Tryz.ntmps124
 go_wp2;go_ret;exact ⟨rfl,eX⟩
def jm (k:Int) (L:List Fld):Int:=match eT k L with|none => -1|some i=>i
theorem uJ (a:Option Addr)(n c:Nat) (L:List Fld) (w:World)(hI:Ib w a n L) (hn:n<=1000000) :
  Calls Tryz.prog 123 #[Zy a n c, .func (.func 124) #[] #[]] w λ e w'=>e = .returned (Zz Zx (jm 1028 L))/\Ext w w':=by
 have hl:=hI.len
 go_enter Tryz.func123,Tryz.ntmps123
 go_wp2_with fail
 go_loopw [5,8] (λ _ v8 wr=>∃ i:Nat,i<=n/\v8 = Zz Zx i/\Hid (ixs 1028 L i=[])/\Ext w wr) (λ _ v8 _=>n-(intOf v8).toNat)
 case atStart=>exact ⟨0,Zo,rfl,Lib.hid rfl,Ext.refl _⟩
 case round =>
  obtain ⟨i,hi,rfl,hm,hx⟩:=hrel;by_cases hlt:i<n
  ·obtain ⟨x,hxi⟩:∃ x,L[i]?=some x:=⟨_,List.getElem?_eq_getElem Zo⟩;obtain ⟨b0,o0,g',c',rfl,hb0,hc0,hc1,hSk,hck⟩:=(hI.ext hx).at i hlt _ hxi;have hrd:=rd2 hb0.lt hc0 hc1;have i0:(0:Int)<=(i:Int):=Zo;have i1:(i:Int)<(n:Int):=Zo;have hat:=Lib.hid (ji hxi);have hlL:=Lib.hid (show i<L.length from Zo);haveI:=hb0
   go_wp2_with (first
    | (refine af RF2 rfl _ rfl b0 (o0+i*2) rfl _ hrd rfl ?_)
    | fail)
   (with_reducible refine (tC _ _ _ _ _).mono ?_);rintro e w1 ⟨rfl,hx1⟩;by_cases hid:x.1=1028
   ·have hb:(x.1 == 1028)=true:=by simpa using hid
    have HR:=Lib.hid (show jm 1028 L=(i:Int) by unfold jm;rw [m6 hlL.out hm.out (by rw [hat.out];exact hid)]);clear hid;go_wp2_with fail;go_ret;exact ⟨by rw [HR.out];rfl,hx.trans hx1⟩
   ·have hb:(x.1 == 1028)=false:=by simpa using hid
    have hm2:=Lib.hid (show ixs 1028 L (i+1)=[] by rw [me (by rw [hat.out];exact hid)];exact hm.out);clear hid;go_wp2_with fail;go_roundw
    case rel=>exact ⟨i+1,Zo,Zg,hm2,hx.trans hx1⟩
    case measure=>simp [intOf];omega
  ·obtain rfl:i=n:=by omega
   have HR:=Lib.hid (show jm 1028 L = -1 by unfold jm;rw [sw (by rw [hl];exact hm.out)]);go_wp2_with fail;go_ret;exact ⟨by rw [HR.out];rfl,hx⟩
theorem CL:(Tryz.prog.info? 3).map (λ i=>(i.zero,i.size,i.bytes))=some (some (Zz Zx 0),1,8):=Zk
def C6 (w:World)(base:Nat) (a:Option Addr)(n c:Nat) (l:List Nat):Prop:=l.length=n/\w.ownsRow base 3 1 (Zy a n c) n (l.map λ i:Nat=>Value.int .i64 i)
def Al (l:List Nat) (w:World)(e:Ending) (w':World):Prop:=∃ a c,e = .returned (Zy a l.length c)/\C6 w' w.heap.size a l.length c l/\Ext w w'
theorem wa (k:Int) (a:Option Addr)(n c:Nat) (L:List Fld) (w:World)(hI:Ib w a n L) (hn:n<=1000000) :
  Calls Tryz.prog 130 #[Zy a n c, Zz Zx k] w (Al (ixs k L L.length) w):=by
 have hl:=hI.len;obtain ⟨iI,hi1,hi2,hi3,hi4⟩:=info_parts CL;rw [hl]
 go_enter Tryz.func130,Tryz.ntmps130
 go_wp2_with fail
 go_loopw [5,6,7,10] (λ v5 _ _ v10 wr=>∃ (i:Nat) (sa:Option Addr)(sc:Nat),i<=n/\v10 = Zz Zx i/\v5 = Zy sa (ixs k L i).length sc/\C6 wr w.heap.size sa (ixs k L i).length sc (ixs k L i)/\Ext w wr) (λ _ _ _ v10 _=>n-(intOf v10).toNat)
 case atStart=>exact ⟨0,none,0,Zo,rfl,rfl,⟨rfl,abC _ _ _ _⟩,Ext.refl _⟩
 case round =>
  obtain ⟨i,sa,sc,hi,rfl,rfl,hO,hx⟩:=hrel;by_cases hlt:i<n
  ·obtain ⟨x,hxi⟩:∃ x,L[i]?=some x:=⟨_,List.getElem?_eq_getElem Zo⟩;obtain ⟨b0,o0,g',c',rfl,hb0,hc0,hc1,hSk,hck⟩:=(hI.ext hx).at i hlt _ hxi;have hrd:=rd2 hb0.lt hc0 hc1;have i0:(0:Int)<=(i:Int):=Zo;have i1:(i:Int)<(n:Int):=Zo;have hat:=Lib.hid (ji hxi);have hil:=nV k L i;haveI:=hb0;by_cases hid:x.1=k
   ·have hb:(x.1 == k)=true:=by simpa using hid
    have hy:=Lib.hid (show ixs k L (i+1)=ixs k L i++[i] from lE (by rw [hat.out];exact hid));clear hid
    go_wp2_with (first
     | (refine af RF2 rfl _ rfl b0 (o0+i*2) rfl _ hrd rfl ?_)
     | (at_builtin;refine lV rfl _ _ 22 rfl w.heap.size 3 iI (Zz Zx 0) 1 8 Tryz.underlying22 hi1 hi2 hi3 hi4 rfl Zd _ _ _ (je hO.2 eX) 1 1 rfl (by simp [go_sem]) rfl (by simp [Value.oneCell']) (by unfold maxLen;omega) Zo (Below.size (B:=w.heap.size) eX) ?_;intro sa2 sc2 w2 hO2 hB2)
     | fail)
    go_roundw
    case rel=>exact ⟨i+1,sa2,sc2,Zo,Zg,by rw [hy.out,aah];rfl,by rw [hy.out];exact ⟨Zs,by simpa using hO2⟩,Below.trans (hx.trans eX) hB2⟩
    case measure=>simp [intOf];omega
   ·have hb:(x.1 == k)=false:=by simpa using hid
    have hy:=Lib.hid (show ixs k L (i+1)=ixs k L i from me (by rw [hat.out];exact hid));clear hid
    go_wp2_with (first
     | (refine af RF2 rfl _ rfl b0 (o0+i*2) rfl _ hrd rfl ?_)
     | fail)
    go_roundw
    case rel=>exact ⟨i+1,sa,sc,Zo,Zg,by rw [hy.out],by rw [hy.out];exact ⟨hO.1,je hO.2 eX⟩,hx.trans eX⟩
    case measure=>simp [intOf];omega
  ·obtain rfl:i=n:=by omega
   go_wp2_with fail;go_ret;exact ⟨sa,sc,rfl,hO,hx⟩
end Go.Proofs.YtmdahnkcnagkjaaGreat

/- The walks of layer 17: scan, Decode. -/
namespace Go.Pkt
open Go.Sec Go.RowKit
theorem mR {w:World} {b0 o0 n ca i:Nat} {l:List UInt8} (h:Sl w (some ⟨b0,o0,none⟩) n l) (hca:n<=ca) (hi:i<n):Sl w (some ⟨b0,o0+i,none⟩) (n-i) (l.drop i):=by
 exact z26q74
theorem sP (m:Nat) (l:List UInt8)(h:(fi m l).2≠0):(fi m l).1=[]:=by
 by_cases h0:l=[]
 ·subst h0;rw [lR] at h;exact absurd rfl h
 ·by_cases hs:cY l=0
  ·cases m with
   | zero=>rw [ki l h0 hs]
   | succ m =>
    rw [iG m l h0 hs] at h ⊢;unfold pU at h ⊢;split
    ·rename_i h1;rw [aal h1] at h;exact absurd rfl h
    ·rfl
  ·rw [fb m l h0 hs]
theorem sr (m:Nat) (l:List UInt8):nO [] (fi m l)=fi m l:=by
 unfold nO;split
 ·rename_i h;rw [q5q,<- h]
 ·rename_i h;rw [<- sP m l h]
end Go.Pkt
namespace Go.Proofs.YtmdahnkcnagkjaaGreat
open Go.RowKit Go.Sec Go.Oct Go.Pkt BigFrame
theorem Co:(Tryz.prog.info? 79).map (λ i=>(i.zero,i.size,i.bytes))=some (some (.agg #[Zz Zx 0, Zy none 0 0]),2,32):=Zk
theorem VF:SI Tryz.prog 65 79:=⟨Tryz.underlying65,by obtain ⟨i,h1,h2,h3,h4⟩:=info_parts Co;exact ⟨i,_,h1,h2,h3,h4,rfl⟩⟩
def jU (base gB:Nat) (A:List Fld) (w:World):Prop:=∃ sa sc,base<=w.heap.size/\Blk w gB 65 [Zy sa A.length sc]/\cI 79 w base sa A.length sc A
theorem jU.ext {base gB:Nat} {A:List Fld} {w w':World} (h:jU base gB A w) (hx:Ext w w'):jU base gB A w':=by
 obtain ⟨sa,sc,h1,h2,h3⟩:=h;exact ⟨sa,sc,aaq h1 hx.size,h2.extB hx,h3.ext hx⟩
theorem Ax (base gB:Nat) (A:List Fld) (at0 t:Int) (g:Option Addr)(m c:Nat) (l:List UInt8)(w:World)(hF:jU base gB A w) (hS:Sl w g m l) (hc:m<=c) (hi:InT 79 w base g m) (hk:A.length<=1000000) (hg:base<=gB) :
  Calls Tryz.prog 114 #[Zz Zx at0, .agg #[Zz Zx t, Zy g m c], .pointer (some ⟨gB,0,none⟩)] w λ e w'=>e = .returned (.tuple #[])/\jU base gB (A++[(t,l)]) w'/\Below base w w':=by
 obtain ⟨sa,sc,hb,hB,hO⟩:=hF;have f0:=hB.cell? 0 rfl;haveI:=hB.blt
 go_enter Tryz.func114,Tryz.ntmps114
 go_wp2_with (first
  | (at_builtin;refine dL VF rfl _ _ rfl base _ A.length sc _ rfl (w.heap.size+1) 1 t g m c l (by simp [go_sem]) (hO.ext eX) (Blk.rd bK) (hS.ext eX) hc (hi.ext eX) hk (by simp;omega) ?_;intro sa' sc' w6 hO6 hg6 hb6;have hB6:=(hB.extB (show Ext w ((w.alloc (.cells #[Zz Zx t, Zy g m c] 79)).alloc (.cells #[Zz Zx t, Zy g m c] 79)) from eX)).grown hg6 (hO.blk hB Zd);have f6:=hB6.cell? 0 rfl;have z6:=hB6.free 0)
  | fail)
 go_end0
 have hM:Mut gB w6 (w6.setCell ⟨gB,0,none⟩ (Zy sa' (A.length+1) sc')):=(Mut.refl _ _).setCell 0 _;have hE:Ext w ((w.alloc (.cells #[Zz Zx t, Zy g m c] 79)).alloc (.cells #[Zz Zx t, Zy g m c] 79)):=eX;have hb:=aaq hb hE.size;refine ⟨rfl,⟨sa',sc',aaq (aaq hb hb6.size) hM.size,?_,?_⟩,Below.trans (Below.trans (hE.mono (by have:=hE.size;omega)) hb6) (hM.below hg (aaq hb hb6.size))⟩
 ·rw [aah];exact hB6.set 0 _
 ·rw [aah];exact hO6.mut hB6 Zd Zs hM
theorem jU.below {base gB:Nat} {A:List Fld} {w:World} (h:jU base gB A w):base<=w.heap.size:=by obtain ⟨_,_,h1,_⟩:=h;exact h1
def zL (base gB:Nat) (r:List Fld × Int) (w:World)(e:Ending) (w':World):Prop:=e = .returned (Zz Zx r.2)/\(r.2=0->jU base gB r.1 w')/\Below base w w'
theorem pg (l:List UInt8):n64 (dy ((l.drop 2).take 2))=((dk l:Nat):Int):=by
 unfold n64 dk;rw [fK _ (by simp;omega)]
theorem oy (l:List UInt8):n64 (dy (l.take 2))=((bR (l.take 2):Nat):Int):=by
 unfold n64;rw [fK _ (by simp;omega)]
theorem fP (l:List UInt8):bR (l.take 2)<65536:=by
 have h1:=ke (l.take 2);have h2:(256:Nat) ^ (l.take 2).length<=256 ^ 2:=Nat.pow_le_pow_right Zo (by simp;omega);omega
theorem qo (l:List UInt8):dk l<65536:=fP (l.drop 2)
theorem _root_.z28q17{p:Prop}(h:p:=by
 have er:=Lib.hid (show r=([],3) by
  have hs:cY R=3:=by unfold cY;rw [aaf Zo,hSz,aal Zo]
  rw [hm.out,fb _ R hne (by rw [hs];decide),hs];rfl)
 clear hSz hRl hl hR hst;go_wp2_with fail;(with_reducible refine (hget _ hS2).mono ?_);rintro e w5 ⟨rfl,hx5⟩;go_wp2_with fail;go_ret;rw [er.out];exact ⟨rfl,λ h=>(by cases h),Below.trans hE (hx5.mono hF.below)⟩):p:=h
theorem _root_.z28q40{p:Prop}(h:p:=by
 clear hSz hRl hl hR hst;go_wp2_with fail;(with_reducible refine (hget _ hS2).mono ?_);rintro e w5 ⟨rfl,hx5⟩;go_wp2_with fail;go_ret;rw [er.out];exact ⟨rfl,λ h=>(by cases h),Below.trans hE (hx5.mono hF.below)⟩):p:=h
theorem wO (base gB:Nat) (a:Option Addr)(n c:Nat) (b:List UInt8)(w:World)(hS:Sl w a n b) (hc:n<=c) (hn:n<=1000000) (hF:jU base gB [] w) (hg:base<=gB) (hlo:∀ W,Below base w W->Sl W a n b) :
  Calls Tryz.prog 113 #[Zy a n c, .func (.func 114) #[] #[.pointer (some ⟨gB,0,none⟩)]] w (zL base gB (bj b) w):=by
 have hl:=hS.len;by_cases h1:1232<n
 ·have er:=Lib.hid (show bj b=([],2) from aal Zo);have i1:(1232:Int)<(n:Int):=Zo;clear hl
  go_enter Tryz.func113,Tryz.ntmps113
  go_wp2_with fail;go_ret;rw [er.out];exact ⟨rfl,λ h=>(by cases h),Below.refl _ _⟩
 ·have i1:¬ (1232:Int)<(n:Int):=by omega
  obtain ⟨r,hr⟩:∃ r,bj b=r:=⟨_,rfl⟩;have hr24:=Lib.hid (show fi 24 b=r by rw [<- hr];exact (aaf Zo).symm);rw [hr];clear hr
  go_enter Tryz.func113,Tryz.ntmps113
  go_wp2_with fail
  go_loopw [5,6,7,8] (λ v5 v6 _ _ wr=>∃ (o:Nat) (A:List Fld),o<=n/\A.length<=24/\v5 = Zz Zx o/\v6 = Zz Zx A.length/\Hid (r=nO A (fi (24-A.length) (b.drop o)))/\jU base gB A wr/\Below base w wr) (λ v5 _ _ _ _=>n-(intOf v5).toNat)
  case atStart=>exact ⟨0,[],Zo,Zs,rfl,rfl,Lib.hid (by rw [<- hr24.out];exact (sr _ _).symm),hF,Below.refl _ _⟩
  case round =>
   obtain ⟨o,A,ho,hA,rfl,rfl,hm,hF,hE⟩:=hrel;have hSr:=hlo _ hE;by_cases hlt:o<n
   ·obtain ⟨R,hR⟩:∃ R,b.drop o=R:=⟨_,rfl⟩;have hRl:R.length=n-o:=by rw [<- hR,aaR,hl]
    have hSR:=hSr.drop c o hc;rw [hR] at hSR hm;obtain ⟨b0,o0,rfl, -, -⟩:=hSr.at 0 Zo;have hAd:dX (some ⟨b0,o0,none⟩) c o 1=some ⟨b0,o0+o,none⟩:=by unfold dX;rw [aaf Zo];simp [Addr.add]
    rw [hAd] at hSR;clear hAd;have hne:R≠[]:=λ h=>by rw [h] at hRl;simp at hRl;omega
    have i2:(o:Int)<(n:Int):=Zo;have i3:(o:Int)<=(c:Int):=Zo;have i5:(2:Int)<=((c-o:Nat):Int)\/n-o<4:=Zo;by_cases h4:n-o<4
    ·have i4:((n-o:Nat):Int)<4:=by omega
     have er:=Lib.hid (show r=([],1) by
      have hs:cY R=1:=aal Zo;rw [hm.out,fb _ R hne (by rw [hs];decide),hs];rfl)
     clear i5;go_wp2_with fail;go_ret;rw [er.out];exact ⟨rfl,λ h=>(by cases h),hE⟩
    ·have i4:¬ ((n-o:Nat):Int)<4:=by omega
     have i6:(4:Int)<=((c-o:Nat):Int):=Zo;have i7:(4:Int)<=((n-o:Nat):Int):=Zo;clear i5;have hS2:=(mR hSR (ca:=c-o) Zo (i:=2) Zo).take 2 Zo;have hget:=λ W H=>eG (some ⟨b0,o0+o+2,none⟩) 2 (c-o-2) ((R.drop 2).take 2) W H Zo Zo;rw [pg] at hget;obtain ⟨S,hSz⟩:∃ S,dk R=S:=⟨_,rfl⟩;have hSlt:=qo R;have hst:4<=R.length:=Zo;rw [hSz] at hget hSlt;by_cases hq:S % 4=0
     ·by_cases hq2:S<16
      ·exact z28q17
      ·by_cases hq3:n-o<S
       ·have er:=Lib.hid (show r=([],1) by
         have hs:cY R=1:=by unfold cY;rw [aaf Zo,hSz,aaf Zo,aal Zo]
         rw [hm.out,fb _ R hne (by rw [hs];decide),hs];rfl)
        have iq3:((n-o:Nat):Int)<(S:Int):=Zo;exact z28q40
       ·have hs:cY R=0:=by unfold cY;rw [aaf Zo,hSz,aaf Zo,aaf Zo]
        have iq3:¬ ((n-o:Nat):Int)<(S:Int):=Zo;by_cases hq4:A.length=24
        ·have er:=Lib.hid (show r=([],8) by
          rw [hm.out,hq4,ki R hne hs];rfl)
         have iq4:((A.length:Nat):Int)=24:=Zo;exact z28q40
        ·obtain ⟨q,hq5⟩:∃ q,24-A.length=q+1:=⟨24-A.length-1,Zo⟩;have hm2:=Lib.hid (show r=nO (A++[eE R]) (fi (24-(A++[eE R]).length) (b.drop (o+S))) by
          rw [hm.out,hq5,iG q R hne hs,qv,hSz,aah,<- hR,abi]
          congr 2
          simp;omega)
         have iq4:¬ ((A.length:Nat):Int)=24:=Zo;have hfl:=(mC hs).1;have hfd:(eE R)=(((bR (R.take 2):Nat):Int),(R.take S).drop 4):=by unfold eE;rw [hSz]
         have hS4:=(mR hSR (ca:=c-o) Zo (i:=4) Zo).take (S-4) Zo;rw [hSz] at hfl;have hl4:((R.take S).drop 4).length=S-4:=by rw [hfd] at hfl;simp only at hfl;omega
         rw [<- List.drop_take] at hS4;have hSt:=hSR.take 2 Zo;have hgt:=λ W H=>eG (some ⟨b0,o0+o,none⟩) 2 (c-o) (R.take 2) W H Zo Zo;rw [oy] at hgt;have hTlt:=fP R;rw [hfd] at hm2;clear hfd hfl;generalize bR (R.take 2)=T at *;generalize (R.take S).drop 4=X at *;clear hSz hRl hl hR hst hs hq5;go_wp2_with fail;(with_reducible refine (hget _ hS2).mono ?_);rintro e w5 ⟨rfl,hx5⟩;have hE5:=Below.trans hE (hx5.mono hF.below);have hF5:=hF.ext hx5;have hSt:=hSt.ext hx5;have hS4:=hS4.ext hx5;have j1:(2:Int)<=((c-o:Nat):Int):=Zo;have j2:(4:Int)<=(S:Int):=Zo;have j3:(S:Int)<=((c-o:Nat):Int):=Zo;have j4:¬ c-o=4:=Zo;go_wp2_with fail;refine ae 11 [[],[],[],[2],[2,3],[2,3,4],[],[],[6,7],[2,3,4,6,7,8],[2,3,4,5,6,7,8,9],[0,1,2,3,4,5,6,7,8,9,10]] Zk Zk Zk Zk ?_;simp only [q8q,q9q,q10q,q11q,q12q,q13q];(repeat (apply aj;(case h=>(intro us w' hx hf;obtain ⟨x,rfl⟩:=hx.out;refine ⟨rfl,?_⟩;simp [go_sem,execOp, *];(try simp (disch:=omega) only [q17q,q18q,q19q]);rfl));(try simp only [Act.put,q0q,q1q,q2q])));(refine ao (λ _ => Zz Zw ((T:Nat):Int)) (λ _ _=>True) (λ _ _ _ _ _=>trivial) (λ us w' hx hf=>⟨rfl,?_⟩) ?_;(unfold gives;simp [go_sem,execOp];refine (hgt _ (hSt.ext hx)).mono ?_;rintro e w1 ⟨rfl,hx1⟩;first|exact ⟨rfl,hx1⟩|simpa using hx1));(repeat (apply aj;(case h=>(intro us w' hx hf;obtain ⟨x,rfl⟩:=hx.out;refine ⟨rfl,?_⟩;simp [go_sem,execOp, *];(try simp (disch:=omega) only [q17q,q18q,q19q]);rfl));(try simp only [Act.put,q0q,q1q,q2q])));(refine ao (λ p => .slice (p 0).1 (S-4) (p 0).2) (λ p w''=>Own w'' 0 (p 0).1 (S-4) (p 0).2 X) (λ p w w' h hx=>h.ext hx) (λ us w' hx hf=>⟨rfl,?_⟩) ?_;(unfold gives;simp [go_sem,execOp];exact aA (aam _) (eu (some ⟨b0,o0+o+4,none⟩) (S-4) (c-o-4) X _ (hS4.ext hx) Zo)));(repeat (apply aj;(case h=>(intro us w' hx hf;obtain ⟨x,rfl⟩:=hx.out;refine ⟨rfl,?_⟩;simp [go_sem,execOp, *];(try simp (disch:=omega) only [q17q,q18q,q19q]);rfl));(try simp only [Act.put,q0q,q1q,q2q])));(refine aB ?_;intro us w' hx hf;obtain ⟨x,rfl⟩:=hx.out;(try simp only [Act.put,q0q,q1q,q2q,ai]);(try simp only [q3q,q4q,aar,aac,aan,q5q,q6q,q7q,aat,aau,aav] at hf);(try simp only [Nat.reduceAdd,aag] at hf ⊢));obtain ⟨a6,ha6⟩:∃ a,(us 9 0).1=a:=⟨_,rfl⟩;obtain ⟨c6,hc6⟩:∃ a,(us 9 0).2=a:=⟨_,rfl⟩;have hO:=hf;rw [ha6,hc6] at hO ⊢;clear ha6 hc6 hf;have hx6:Ext w5 (w5.ext x):=Ext.of_ext _ _;have hF6:=hF5.ext hx6;have hE6:=Below.trans hE5 (hx6.mono hF5.below);have hwT:IntKind.i64.wrap ((T:Nat):Int)=(T:Int):=by rw [abe];omega
         try rw [hwT]
         clear hwT;generalize w5.ext x=w6 at *;go_wp2_with fail;(with_reducible refine (Ax base gB A _ _ _ _ _ X w6 hF6 hO.sl hO.le.1 (Own.inT hO Zd) Zo hg).mono ?_);rintro e w7 ⟨rfl,hF7,hE7⟩;go_wp2_with fail;go_roundw
         case rel=>exact ⟨o+S,A++[(((T:Nat):Int),X)],Zo,by simp;omega,Zg,Zs,hm2,hF7,Below.trans hE6 hE7⟩
         case measure=>simp [intOf];omega
     ·exact z28q17
   ·obtain rfl:o=n:=by omega
    have i2:¬ (o:Int)<(o:Int):=Zo;have er:=Lib.hid (show r=(A,0) by rw [hm.out,aaK Zo,lR];simp [nO]);go_wp2_with fail;go_ret;rw [er.out];exact ⟨rfl,λ _=>hF,hE⟩
def ta (r:List Fld × Int) (w:World)(e:Ending) (w':World):Prop:=∃ a c,e = .returned (.tuple #[Zy a r.1.length c, Zz Zx r.2])/\cI 79 w' w.heap.size a r.1.length c r.1/\Ext w w'
theorem ta.err (w w':World)(e:Int) (hx:Ext w w'):ta ([],e) w (.returned (.tuple #[Zy none 0 0, Zz Zx e])) w':=⟨none,0,rfl,cI.nil _ _ _,hx⟩
theorem ng (a:Option Addr)(n c:Nat) (b:List UInt8)(w:World)(hS:Sl w a n b) (hc:n<=c) (hn:n<=1000000) :
  Calls Tryz.prog 77 #[Zy a n c] w (ta (bj b) w):=by
 have hl:=hS.len
 go_enter Tryz.func77,Tryz.ntmps77
 go_wp2_with fail;have hx0:Ext w (w.alloc (.cells #[Zy none 0 0] 65)):=Ext.of_alloc _ _;have hF:jU w.heap.size w.heap.size [] (w.alloc (.cells #[Zy none 0 0] 65)):=⟨none,0,hx0.size,Blk.new _ _ _,cI.nil _ _ _⟩;(with_reducible refine (wO w.heap.size w.heap.size a n c b _ (hS.ext hx0) hc hn hF (aae _) (λ W hW=>hS.ext (Below.trans hx0 hW))).mono ?_);rintro e w1 ⟨rfl,hF1,hE1⟩;have hE:=Below.trans hx0 hE1;by_cases h0:(bj b).2=0
 ·obtain ⟨sa,sc,_,hB,hO⟩:=hF1 h0;have er:=Lib.hid (show bj b=((bj b).1,0) by rw [<- h0]);rw [h0];clear hF1 h0;haveI:=hB.blt;have f0:=hB.cell? 0 rfl;go_wp2_with fail;go_ret2;rw [er.out];exact ⟨sa,sc,rfl,hO,hE⟩
 ·have er:=Lib.hid (show bj b=([],(bj b).2) by
   have:(bj b).1=[]:=by
    unfold bj at h0 ⊢;split
    ·rfl
    ·rename_i h1;rw [aaf h1] at h0;exact sP _ _ h0
   rw [<- this])
  have hne:((bj b).2 != 0)=true:=by rw [aax];exact h0
  clear hF1 h0;generalize (bj b).2=v at *;go_wp2_with fail;go_ret2;rw [er.out];exact ta.err _ _ _ hE
end Go.Proofs.YtmdahnkcnagkjaaGreat
