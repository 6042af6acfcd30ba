/- Lemmas of this claim, several texts joined. -/
import Derived.Test.YtmdahnkcnagkjaaGreatZ27
import Derived.Test.YtmdahnkcnagkjaaGreatZ32
import Derived.Test.YtmdahnkcnagkjaaGreatZ35
set_option maxRecDepth 100000
open Go.Value renaming int -> Zz,slice -> Zy
open Go.IntKind renaming i64 -> Zx,u64 -> Zw,u8 -> Zu
open List renaming setIfInBounds_toArray -> q0q, set_cons_succ -> q1q, set_cons_zero -> q2q, nil_append -> q5q, mem_append -> q7q, take_succ_cons -> q8q, take_zero -> q9q, drop_succ_cons -> q10q, drop_zero -> q11q, take_nil -> q12q, drop_nil -> q13q, getElem_toArray -> q14q, getElem_cons_succ -> q15q, getElem_cons_zero -> q16q
open Go.IntWalk renaming i64_in -> q17q, rem_in -> q18q, wrap64_in -> q19q
set_option maxHeartbeats 8000000
set_option linter.unusedVariables false
set_option linter.unusedSimpArgs false
/- The walks of layer 22: cookie, has, paired. -/
namespace Go.Proofs.P9
open Go.RowKit Go.Sec Go.Oct BigFrame
def D2 (L:List E7) (k:E7)(w:World)(e:Ending) (w':World):Prop:=∃ r:Int,e = .returned (Zz Zx r)/\(0<=r ↔ k∈L)/\Ext w w'
end Go.Proofs.P9

/- The walks of layer 22: copied, Valid. -/
namespace Go.Jar
structure Jar where
 up:E7
 dn:E7
 ck:List E7
 last:E7
 net:Int
 sent:Int
deriving DecidableEq
def bT:Jar:=⟨[],[],[],[],0,0⟩
def jz (j:Jar):Prop:=(j.up.length=32/\j.dn.length=32)/\j.ck.length<=8/\(j.last.length=0\/j.last.length=104)/\j.last ∉ j.ck/\0<=j.net/\0<=j.sent/\j.sent<=1099511627776
instance (j:Jar):Decidable (jz j):=by unfold jz;infer_instance
def bQ (j:Jar):Bool:=decide (jz j) && (j.ck.all (λ b=>decide (b.length=104)) && decide j.ck.Nodup)
theorem sx {j:Jar} (h:¬ jz j):bQ j=false:=by unfold bQ;rw [aay h];rfl
theorem u9 {j:Jar} {k:Nat} (hk:k<j.ck.length) (h:(j.ck[k]).length≠104\/j.ck[k]∈j.ck.take k):bQ j=false:=by
 by_cases hv:bQ j=true
 ·exfalso;unfold bQ at hv;rw [aaz,aaz] at hv;obtain ⟨_,h1,h2⟩:=hv;rcases h with h|h
  ·have:=aaw.1 h1 _ (aaB hk);simp at this;exact h this
  ·obtain ⟨i,hi,he⟩:=List.getElem_of_mem h;rw [aat] at hi;rw [List.getElem_take] at he;have:=List.pairwise_iff_getElem.1 (aaV h2) i k Zo hk Zo;exact this he
 ·simpa using hv
theorem kS {j:Jar} (h:jz j) (h1:∀ b∈j.ck,b.length=104) (h2:j.ck.Nodup):bQ j=true:=by
 unfold bQ;rw [aav h,aav h2,aaw.2 (λ b hb=>by simpa using h1 b hb)];rfl
end Go.Jar
namespace Go.Proofs.P9
open Go.RowKit Go.Sec Go.Oct Go.Jar BigFrame
end Go.Proofs.P9

/- The cases of the statements about layers 23 to 43, as plain functions. No program. -/
namespace Go.Case
open Go.Oct Go.Sha Go.Cook Go.Jar Go.Sec
def vP:E7:=[99,97,115,101]
def zt (v:Int):UInt64:=UInt64.ofNat (v % 18446744073709551616).toNat
theorem BG (v:Int):IntKind.u64.wrap v=n64 (zt v):=by
 unfold zt n64;rw [aaG,aaH];omega
def rnd (v:Int) (n:Nat):E7:=(sha (vP++aF 8 (zt v))).take n
theorem bS (v:Int) {n:Nat} (h:n<=32):(rnd v n).length=n:=by
 unfold rnd;rw [aat,jg];omega
def kQ (v:Int) (n k:Nat):List (E7):=(List.range k).map λ (i:Nat)=>rnd (v*1000+(i:Int)) n
theorem jH (v:Int) (n k:Nat):(kQ v n k).length=k:=by simp [kQ]
theorem xt (v:Int) (n k:Nat):kQ v n (k+1)=kQ v n k++[rnd (v*1000+(k:Int)) n]:=by simp [kQ,aaZ]
theorem y8 {v:Int} {n k:Nat} (hn:n<=32) {x:E7} (h:x∈kQ v n k):x.length=n:=by
 obtain ⟨i,_,rfl⟩:=aa2.1 h;exact bS _ hn
def upC (v:Int):E7:=rnd (v*7+1) 32
def dnC (v:Int):E7:=rnd (v*7+2) 32
theorem dF (v:Int):(upC v).length=32:=bS _ Zo
theorem fz (v:Int):(dnC v).length=32:=bS _ Zo
def lG (v:Int) (t:Nat):Ring:=kz (fW (v % 1000).toNat (rnd v 32)) t
def iM (R:Ring) (v:Int) (k:Nat):List (E7):=(List.range k).map λ (i:Nat)=>dw (hd R) 15 (upC v) (dnC v) (rnd ((v+5000)*1000+(i:Int)) 16)
theorem ie (R:Ring) (v:Int) (k:Nat):(iM R v k).length=k:=by simp [iM]
theorem xR (R:Ring) (v:Int) (k:Nat):iM R v (k+1)=iM R v k++[dw (hd R) 15 (upC v) (dnC v) (rnd ((v+5000)*1000+(k:Int)) 16)]:=by simp [iM,aaZ]
theorem pF {R:Ring} {v:Int} {k:Nat} (hR:aM R=true) {x:E7} (h:x∈iM R v k):x.length=104:=by
 obtain ⟨i,_,rfl⟩:=aa2.1 h;obtain ⟨v1,_,v3,_⟩:=bm.1 hR;obtain ⟨k0,k1,k2⟩:=v1 _ (rQ v3);exact (ig (m:=hd R) (algo:=15) k0 k1 k2 (bS _ Zo) (dF v) (fz v)).1
def wM (l:List E7) (c:E7):List (E7):=if c∈l then l else l++[c]
def dedup (L:List E7):List (E7):=L.foldl wM []
theorem py (L:List E7) (c:E7):dedup (L++[c])=wM (dedup L) c:=by simp [dedup]
theorem gX (L:List E7):(dedup L).Nodup/\(dedup L).length<=L.length/\∀ x,x∈dedup L ↔ x∈L:=by
 rw [<- List.reverse_reverse L];generalize L.reverse=r
 induction r with
 | nil=>simp [dedup]
 | cons c r ih =>
  rw [List.reverse_cons,py];obtain ⟨h1,h2,h3⟩:=ih;unfold wM;by_cases hc:c∈dedup r.reverse
  ·rw [aaj hc];refine ⟨h1,by rw [aag];omega,λ x=>?_⟩;rw [q7q,h3,aau];refine ⟨.inl,λ h=>h.elim id λ h=>?_⟩;rw [h];exact (h3 c).1 hc
  ·rw [aae hc];refine ⟨?_,by rw [aag,aag];exact Nat.add_le_add_right h2 1,λ x=>by rw [q7q,q7q,h3]⟩;rw [List.nodup_append];refine ⟨h1,Zs,λ x hx y hy=>?_⟩;rw [aau.1 hy];exact λ e=>hc (e ▸ hx)
def pG (R:Ring) (v:Int) (k:Nat) (net:Int):Jar:=⟨upC v,dnC v,dedup (iM R v k),[],net,0⟩
theorem n9 {R:Ring} (v:Int) {k:Nat} {net:Int} (hR:aM R=true) (hk:k<=8) (hn:0<=net):bQ (pG R v k net)=true:=by
 obtain ⟨d1,d2,d3⟩:=gX (iM R v k);rw [ie] at d2;have h104:∀ b∈dedup (iM R v k),b.length=104:=λ b hb=>pF hR ((d3 b).1 hb);refine kS ⟨⟨dF v,fz v⟩,?_, .inl rfl,λ h=>?_,hn,?_,?_⟩ h104 d1
 ·show (dedup (iM R v k)).length<=8;omega
 ·have:=h104 _ h;simp [pG] at this
 ·show (0:Int)<=0;omega
 ·show (0:Int)<=1099511627776;omega
theorem qI {R:Ring} {v:Int} {k:Nat} {net:Int} (hk:1<=k):∃ c rest,(pG R v k net).ck=c :: rest:=by
 obtain ⟨_,_,d3⟩:=gX (iM R v k);cases h:dedup (iM R v k) with
 | cons c rest=>exact ⟨c,rest,h⟩
 | nil =>
  exfalso;have:iM R v k=[]:=List.eq_nil_iff_forall_not_mem.2 λ x hx=>by
   have:=(d3 x).2 hx;rw [h] at this;cases this
  have h2:=ie R v k;rw [this] at h2;simp at h2;omega
end Go.Case

/- The walks of layer 22: clone. -/
namespace Go.Sec
open Go.RowKit
theorem bU.blk {w:World} {base n c:Nat} {a:E8} {L:List (E7)} (h:bU w base a n c L) {b:Nat} {t:TypeId} {vs:List Value} (hB:Blk w b t vs) (ht:t≠33):(Value.slice a n c).ownBlock≠some b:=by
 obtain ⟨_,xs,h2,_⟩:=h;exact ed h2 hB ht
theorem bU.mut {t:TypeId} {w w':World} {base n c g:Nat} {a:E8} {L:List (E7)} {vs:List Value} (h:bU w base a n c L) (hB:Blk w g t vs) (ht:t≠33) (hne:∀ v∈vs,∀ x,v ≠ Zz Zu x) (hM:Mut g w w'):bU w' base a n c L:=by
 have hno:=h.blk hB ht;obtain ⟨h1,xs,h2,h3,h4⟩:=h;refine ⟨h1,xs,⟨h2.1,?_⟩,h3,λ k hk=>?_⟩
 ·exact z32q42
 ·obtain ⟨a',n',c',e1,e2,e3,e4⟩:=h4 k hk;refine ⟨a',n',c',e1,e2,e3.mut hB hne hM,?_⟩;rcases e4 with e4|e4
  ·exact .inl e4
  ·by_cases h0:n'=0
   ·exact .inl h0
   ·refine .inr λ b o e=>?_;rcases e4 b o e with h|⟨t',vs',hB',ht'⟩
    ·exact .inl h
    ·exact z32q76
def oL (B0:Nat) (w:World)(a:E8)(n c:Nat) (L:List E7):Prop:=∃ B,B0<=B/\B<=w.heap.size/\bU w B a n c L
theorem _root_.z29q92{p:Prop}(h:p:=by
 obtain ⟨B,h1,h2,h3⟩:=h;exact ⟨B,h1,aal h2 hx.size,h3.ext hx⟩):p:=h
theorem oL.ext {B0 n c:Nat} {w w':World} {a:E8} {L:List (E7)} (h:oL B0 w a n c L) (hx:Ext w w'):oL B0 w' a n c L:=by
 exact z29q92
theorem oL.mut {t:TypeId} {B0 n c g:Nat} {w w':World} {a:E8} {L:List (E7)} {vs:List Value} (h:oL B0 w a n c L) (hB:Blk w g t vs) (ht:t≠33) (hne:∀ v∈vs,∀ x,v ≠ Zz Zu x) (hM:Mut g w w'):oL B0 w' a n c L:=by
 obtain ⟨B,h1,h2,h3⟩:=h;exact ⟨B,h1,aal h2 hM.size,h3.mut hB ht hne hM⟩
theorem Own.mutT {t:TypeId} {w w':World} {base n c g:Nat} {a:E8} {l:E7} {vs:List Value} (h:Own w base a n c l) (hB:Blk w g t vs) (ht:t≠5) (hM:Mut g w w'):Own w' base a n c l:=by
 have hno:=ed h.2 hB ht;refine ⟨h.1,h.2.1,?_⟩;rcases h.2.2 with h1|⟨g',cap,cur,hv,hb,hh,r⟩
 ·exact .inl h1
 ·refine .inr ⟨g',cap,cur,hv,hb,?_,r⟩;rw [hM.block g' (Array.getElem?_eq_some_iff.1 hh).1 (λ e=>hno (by rw [hv];exact e))];exact hh
theorem Own.grownB {w w':World} {base base' n c m d:Nat} {a b:E8} {l:E7} {L:List (E7)} (h:Own w base a n c l) (hO:bU w base' b m d L) (hg:w.grownBy w' (Value.slice b m d).ownBlock):Own w' base a n c l:=by
 refine ⟨h.1,h.2.1,?_⟩;rcases h.2.2 with h1|⟨g',cap,cur,hv,hb,hh,r⟩
 ·exact .inl h1
 ·refine .inr ⟨g',cap,cur,hv,hb,?_,r⟩;have hB:Blk w g' 5 cur.toList:=by unfold Blk;simpa using hh
  rw [hg.block g' (Array.getElem?_eq_some_iff.1 hh).1 (λ e=>hO.blk hB Zd e.symm)];exact hh
end Go.Sec
namespace Go.Proofs.P9
open Go.RowKit Go.Sec Go.Oct Go.Jar BigFrame
theorem RJ6:RowT Tryz.prog 57 6:=⟨⟨_,Tryz.underlying57,rfl⟩,Zk,⟨_,Tryz.zeroValue57,Zk⟩⟩
def DC (j:Jar) (n1 n2 n3 n4:Nat) (w:World)(e:Ending) (w':World):Prop:=∃ b1 d1 b2 d2 b3 d3 b4 d4,e = .returned (.agg #[Zy b1 n1 d1, Zy b2 n2 d2, Zy b3 n3 d3, Zy b4 n4 d4, Zz Zx j.net, Zz Zx j.sent]) /\
 Own w' 0 b1 n1 d1 j.up/\Own w' 0 b2 n2 d2 j.dn/\oL w.heap.size w' b3 n3 d3 j.ck/\Own w' 0 b4 n4 d4 j.last/\Ext w w'
end Go.Proofs.P9

/- The walks of layer 22: added. -/
namespace Go.Jar
def ey (j:Jar) (b:E7):Jar:=if j.ck.length<8/\b ∉ j.ck/\j.last≠b then { j with ck:=j.ck++[b] } else j
def dR (j:Jar) (l:List E7):Jar:=l.foldl ey j
theorem wE (j:Jar) (l:List E7) (b:E7):dR j (l++[b])=ey (dR j l) b:=by simp [dR]
theorem sw (j:Jar) (b:E7):(ey j b).up=j.up/\(ey j b).dn=j.dn/\(ey j b).last=j.last/\(ey j b).net=j.net/\(ey j b).sent=j.sent:=by
 unfold ey;split <;> simp
theorem qL (j:Jar) (l:List E7):(dR j l).up=j.up/\(dR j l).dn=j.dn/\(dR j l).last=j.last/\(dR j l).net=j.net/\(dR j l).sent=j.sent:=by
 unfold dR
 induction l generalizing j with
 | nil=>simp
 | cons b l ih =>
  obtain ⟨a1,a2,a3,a4,a5⟩:=ih (ey j b);obtain ⟨b1,b2,b3,b4,b5⟩:=sw j b;rw [List.foldl_cons];exact ⟨a1.trans b1,a2.trans b2,a3.trans b3,a4.trans b4,a5.trans b5⟩
end Go.Jar
namespace Go.Proofs.P9
open Go.RowKit Go.Sec Go.Oct Go.Jar BigFrame
def pJ (l:E7)(w:World)(a:E8):Prop:=∃ g ga n cc,a=some ⟨g,0,none⟩/\Rd w a [Zy ga n cc]/\Own w 0 ga n cc l
theorem pJ.ext {l:E7} {w w':World} {a:E8} (h:pJ l w a) (hx:Ext w w'):pJ l w' a:=by
 obtain ⟨g,ga,n,cc,h1,h2,h3⟩:=h;exact ⟨g,ga,n,cc,h1,h2.ext hx,h3.ext hx⟩
theorem pJ.mk {l:E7} {w:World} {ga:E8} {n cc:Nat} (h:Own w 0 ga n cc l) (T:TypeId):pJ l (w.alloc (.cells #[Zy ga n cc] T)) (some ⟨w.heap.size,0,none⟩) :=
 ⟨_,ga,n,cc,rfl,(Blk.new w #[Zy ga n cc] T).rd,h.ext (FA _ _)⟩
end Go.Proofs.P9

/- The walks of layer 22: Put's test, Want, Again. -/
namespace Go.Jar
def oR (L:List E7):Bool:=L.all λ b=>decide (b.length=104)
def Ej (j:Jar):Int × Int:=if bQ j then (8-(j.ck.length:Int),0) else (0,3)
def DN (j:Jar):E7 × Int:=if bQ j then (if j.last.length=0 then ([],10) else (j.last,0)) else ([],3)
end Go.Jar
namespace Go.Proofs.P9
open Go.RowKit Go.Sec Go.Oct Go.Jar BigFrame
def DR (L:List E7) (w:World)(e:Ending) (w':World):Prop:=∃ r:Int,e = .returned (Zz Zx r)/\(0<=r ↔ oR L=false)/\Ext w w'
end Go.Proofs.P9

/- The walks of layer 22: Put. -/
namespace Go.Jar
def rZ (j:Jar) (L:List E7):Jar × Int:=if bQ j && oR L then (dR j L,0) else (bT,3)
end Go.Jar
namespace Go.Sec
open Go.RowKit
def fT (w:World)(a:E8):Prop:=∀ b o,a=some ⟨b,o,none⟩->∃ vs,Blk w b 33 vs
theorem fT.none (w:World):fT w none:=λ _ _ h=>by cases h
theorem fT.ext {w w':World} {a:E8} (h:fT w a) (hx:Ext w w'):fT w' a:=λ b o e=>(h b o e).imp λ _ h=>h.extB hx
theorem fT.ne {w:World} {a:E8} {g:Nat} {T:TypeId} {us:List Value} (h:fT w a) (hB:Blk w g T us) (hT:T≠33):∀ b o,a=some ⟨b,o,Option.none⟩->b≠g:=λ b o e hbg=>by
 obtain ⟨vs,hv⟩:=h b o e;subst hbg;unfold Blk at hv hB;rw [hv] at hB;injection hB with hB
 injection hB with _ hB
 exact hT hB.symm
theorem fT.mut {w w':World} {a:E8} {g:Nat} {T:TypeId} {us:List Value} (h:fT w a) (hB:Blk w g T us) (hT:T≠33) (hM:Mut g w w'):fT w' a:=λ b o e=>(h b o e).imp λ _ hv=>Blk.turn hM hv (h.ne hB hT b o e)
theorem bU.typ3 {w:World} {base n c:Nat} {a:E8} {L:List (E7)} (h:bU w base a n c L):fT w a:=λ b o e=>by
 obtain ⟨_,xs,h2,_⟩:=h;rcases h2.2 with ⟨h1,_⟩|⟨g,cap,cur,hv,hb,hg,_⟩
 ·injection h1 with h1;rw [h1] at e;cases e
 ·injection hv with h1;rw [h1] at e;injection e with e;injection e with e _
  subst e;exact ⟨cur.toList,by unfold Blk;simpa using hg⟩
end Go.Sec
namespace Go.Proofs.P9
open Go.RowKit Go.Sec Go.Oct Go.Jar BigFrame
theorem vx {P:Program} {f:FuncId} {vs:Array Value} {w:World} {Q:Ending->World->Prop} (h:∀ W,W=w->Calls P f vs W Q):Calls P f vs w Q:=h w rfl
def wX (r:Jar × Int) (w:World)(e:Ending) (w':World):Prop:=∃ b1 n1 d1 b2 n2 d2 b3 n3 d3 b4 n4 d4,e = .returned (.tuple #[.agg #[Zy b1 n1 d1, Zy b2 n2 d2, Zy b3 n3 d3, Zy b4 n4 d4, Zz Zx r.1.net, Zz Zx r.1.sent], Zz Zx r.2]) /\
 Own w' 0 b1 n1 d1 r.1.up/\Own w' 0 b2 n2 d2 r.1.dn/\Bsc w' b3 n3 r.1.ck/\n3<=d3/\fT w' b3/\Own w' 0 b4 n4 d4 r.1.last/\Ext w w'
theorem wX.zero (w w':World)(e:Int) (hx:Ext w w'):wX (bT,e) w (.returned (.tuple #[.agg #[Zy none 0 0, Zy none 0 0, Zy none 0 0, Zy none 0 0, Zz Zx 0, Zz Zx 0], Zz Zx e])) w' :=
 ⟨none,0,0,none,0,0,none,0,0,none,0,0,rfl,Own.nil _ _,Own.nil _ _,Bsc.nil _ _,aad _,fT.none _,Own.nil _ _,hx⟩
end Go.Proofs.P9

/- The walks of layer 19: Valid. -/
namespace Go.Sec
open Go.RowKit
theorem uL {w w':World} (h:Ext w w'):w.grownBy w' none:=⟨h.os,h.tape,h.output,h.size,λ i hi _=>h.block i hi⟩
theorem ij {H:Type} {P:Program} {k:TypeId} {R:Value->Option (DataW H × List MemPlace)} {b n:Nat} {D:DataW H} {w w':World} (h:w.ownsMap P k R b n D) (hx:Ext w w'):w'.ownsMap P k R b n D:=h.kept (uL hx) Zs
theorem rG {w:World} {b o:Nat} {u v:Value} (hb:b<w.heap.size) (h0:w.cell? ⟨b,o,none⟩=some u) (h1:w.cell? ⟨b,o+1,none⟩=some v):Rd w (some ⟨b,o,none⟩) [u,v]:=by
 refine .inr ⟨b,o,rfl,hb,λ k x hk=>?_⟩
 match k,hk with
 | 0,hk=>simpa using hk ▸ h0
 | 1,hk=>simpa using hk ▸ h1
end Go.Sec
namespace Go.Cook
theorem pv {r:Ring} {k:Nat} {x:Int × E7} (hx:r[k]?=some x) (h:okM x=false\/x.1∈(r.take k).map (·.1)):aM r=false:=by
 obtain ⟨hk,he⟩:=List.getElem?_eq_some_iff.1 hx;by_cases hv:aM r=true
 ·exfalso;obtain ⟨h1,h2,_,_⟩:=bm.1 hv;rcases h with h|h
  ·have:=h1 x (List.mem_of_getElem? hx);unfold okM at h;simp [this] at h
  ·obtain ⟨m,hm,hme⟩:=aa2.1 h;obtain ⟨j,hj,rfl⟩:=List.getElem_of_mem hm;have hjk:j<k:=by rw [aat] at hj;omega
   have:=List.pairwise_iff_getElem.1 h2 j k (by simp;omega) (by simpa using hk) hjk;simp only [abp] at this;rw [List.getElem_take] at hme;exact this (by rw [hme,he])
 ·simpa using hv
theorem oE {r:Ring} (h1:∀ m∈r,okM m=true) (h2:(r.map (·.1)).Nodup):aM r=decide (1<=r.length/\r.length<=4):=by
 unfold aM zp;rw [aaw.2 h1,aav h2];rfl
theorem tf {r:Ring} {k:Nat} {x:Int × E7} (hx:r[k]?=some x) (h2:((r.take k).map (·.1)).Nodup) (h:x.1 ∉ (r.take k).map (·.1)):((r.take (k+1)).map (·.1)).Nodup:=by
 rw [abn,hx,Option.toList_some,aaK,List.map_singleton,List.nodup_append];refine ⟨h2,Zs,λ a ha b hb=>?_⟩;simp only [aau] at hb;subst hb;exact λ e=>h (e ▸ ha)
theorem gv {r:Ring} {k:Nat} {x:Int × E7} (hx:r[k]?=some x):r.take (k+1)=r.take k++[x]:=by
 rw [abn,hx,Option.toList_some]
end Go.Cook
namespace Go.Proofs.P9
open Go.RowKit Go.Sec Go.Oct Go.Sha Go.Aes Go.Cook BigFrame
open Go.Maps (Keyed)
theorem RM2:RowT Tryz.prog 50 2:=⟨⟨_,Tryz.underlying50,rfl⟩,Zk,⟨_,Tryz.zeroValue50,Zk⟩⟩
theorem KI:Keyed Tryz.prog 3:=Go.Maps.int_keyed Tryz.underlying3
theorem A9 (w:World):(zeroValue 4).run Tryz.prog w = .ok (.bool false) w:=Zk
theorem _root_.z29q10{p:Prop}(h:p:=by
 have hv:=hbad (.inl (by unfold okM;simp;omega))
 go_wp2_with (first
  | (refine af RM2 rfl _ rfl b (off+k*2) rfl _ hrd rfl ?_)
  | (refine ag RM2 rfl rfl _ _ rfl rfl rfl rfl (by simp [Act.put]) _ rfl Zs rfl oC ?_;intro x hz _);(have f0:(wr.ext x).cell? ⟨wr.heap.size,0,none⟩=some (.int .i64 id):=hz.cell? 0 rfl);(have f1:(wr.ext x).cell? ⟨wr.heap.size,1,none⟩=some (.slice g ky.length cg):=hz.cell? 1 rfl);(have hownx:=ij hown (FE wr x))
  | fail)
 go_ret;exact ⟨(by first|rfl|(show Ending.returned (Value.bool false)=_;rw [hv])),eX⟩):p:=h
theorem jK (a:E8)(n c:Nat) (r:Ring) (w:World)(hI:Ib w a n r) (hc:n<=c) (hn:n<=1000000) :
  Calls Tryz.prog 57 #[.agg #[Zy a n c]] w λ e w'=>e = .returned (.bool (aM r))/\Ext w w':=by
 have hmm := @run_makeMap Tryz.prog;have hrl:=hI.len
 go_enter Tryz.func57,Tryz.ntmps57
 go_wp2
 go_loopw [5,10] (λ _ v10 wr=>∃ k:Nat,k<=n/\v10 = Zz Zx k/\(∀ m∈r.take k,okM m=true)/\((r.take k).map (·.1)).Nodup/\Blk wr w.heap.size 26 [Zy a n c]/\wr.ownsMap Tryz.prog 3 (plainElem (H:=Unit) Tryz.prog 4) (w.heap.size+1) k (ni (r.take k))/\Ext w wr)
  (λ _ v10 _=>n-(intOf v10).toNat)
 case atStart =>
  refine ⟨0,aak _,rfl,Zs,Zs,(Blk.new _ _ _).alloc _,?_,eX⟩;have:=World.ownsMap_made (H:=Unit) (w.alloc (.cells #[Zy a n c] 26)) Tryz.prog 3 (plainElem Tryz.prog 4);rw [q9q];simpa [ni] using this
 case round =>
  obtain ⟨k,hk,rfl,h1,h2,hB,hown,hE⟩:=hrel;haveI:=hB.blt;have hbc:=hB.cell? 0 rfl;by_cases hlt:k<n
  ·have hki:(k:Int)<(n:Int):=by omega
   obtain ⟨x,hx⟩:∃ x,r[k]?=some x:=⟨_,List.getElem?_eq_getElem Zo⟩;have hbad:=pv hx;have hsn:=tf hx h2;have hts:=gv hx;have hat:=y6 (H:=Unit) (r.take k) x.1;obtain ⟨id,ky⟩:=x;obtain ⟨b,off,g,cg,rfl,hb,hc0,hc1,hSd,hcd⟩:=(hI.ext hE).at k hlt _ hx;simp only at hc0 hc1 hSd hcd hbad hsn hat;have hrd:=rG hb.lt hc0 hc1;clear hI;by_cases b1:id<0
   ·exact z29q10
   ·by_cases b2:4294967295<id
    ·exact z29q10
    ·by_cases b3:ky.length=32
     ·have b3i:(((ky.length:Nat):Int) != 32)=false:=by rw [aaf];omega
      have hkey:keyOf Tryz.prog 3 (.int .i64 id)=some (.int .i64 id):=Go.Maps.keyOf_int_mk Tryz.underlying3 (WalkArith.wf_i64 Zo);by_cases b4:id∈(r.take k).map (·.1)
      ·have hv:=hbad (.inr b4);rw [aav b4] at hat;clear b3 hbad hsn
       go_wp2_with (first
        | (refine af RM2 rfl _ rfl b (off+k*2) rfl _ hrd rfl ?_)
        | (refine ag RM2 rfl rfl _ _ rfl rfl rfl rfl (by simp [Act.put]) _ rfl Zs rfl oC ?_;intro x hz _);(have f0:(wr.ext x).cell? ⟨wr.heap.size,0,none⟩=some (.int .i64 id):=hz.cell? 0 rfl);(have f1:(wr.ext x).cell? ⟨wr.heap.size,1,none⟩=some (.slice g ky.length cg):=hz.cell? 1 rfl);(have hownx:=ij hown (FE wr x))
        | (refine fE (by simp [Region.wanted,yielded,Act.put]) ?_;refine eW _ rfl _ _ 156 rfl 3 4 KI Tryz.underlying156 Tryz.underlying4 (A9 _) (w.heap.size+1) k _ rfl hownx _ _ rfl hkey true hat ?_)
        | fail)
       go_ret;exact ⟨(by first|rfl|(show Ending.returned (Value.bool false)=_;rw [hv])),eX⟩
      ·have hsn:=hsn b4;have hok:okM (id,ky)=true:=by unfold okM;simp;omega
       rw [aay b4] at hat;clear b3 hbad
       go_wp2_with (first
        | (refine af RM2 rfl _ rfl b (off+k*2) rfl _ hrd rfl ?_)
        | (refine ag RM2 rfl rfl _ _ rfl rfl rfl rfl (by simp [Act.put]) _ rfl Zs rfl oC ?_;intro x hz _);(have f0:(wr.ext x).cell? ⟨wr.heap.size,0,none⟩=some (.int .i64 id):=hz.cell? 0 rfl);(have f1:(wr.ext x).cell? ⟨wr.heap.size,1,none⟩=some (.slice g ky.length cg):=hz.cell? 1 rfl);(have hownx:=ij hown (FE wr x))
        | (refine fE (by simp [Region.wanted,yielded,Act.put]) ?_;refine eW _ rfl _ _ 156 rfl 3 4 KI Tryz.underlying156 Tryz.underlying4 (A9 _) (w.heap.size+1) k _ rfl hownx _ _ rfl hkey false hat ?_)
        | (at_mapUpdate;refine wpList_mapUpdate_own _ rfl _ _ _ 156 rfl 3 4 KI Tryz.underlying156 _ (w.heap.size+1) k _ rfl hownx (by unfold maxLen;omega) _ _ _ rfl rfl hkey _ [] (plainElem_bool Tryz.underlying4 true) ?_;intro w1 hown1 hgrow1)
        | fail)
       have hEx:Ext w (wr.ext x):=eX;go_roundw
       case rel =>
        refine ⟨k+1,Zo,Zg,?_,hsn,Blk.grown (hB.ext x) hgrow1 Zs,?_,hEx.grown hgrow1 hEx.size (λ j hj=>by cases hj;omega)⟩
        ·intro m hm;rw [hts] at hm;rcases aaP.1 hm with hm|hm
         ·exact h1 m hm
         ·rw [aau.1 hm];exact hok
        ·rw [hts,oy];exact hown1
       case measure=>simp [intOf];omega
     ·have hv:=hbad (.inl (by unfold okM;simp;omega));have b3i:(((ky.length:Nat):Int) != 32)=true:=by rw [aao];omega
      go_wp2_with (first
       | (refine af RM2 rfl _ rfl b (off+k*2) rfl _ hrd rfl ?_)
       | (refine ag RM2 rfl rfl _ _ rfl rfl rfl rfl (by simp [Act.put]) _ rfl Zs rfl oC ?_;intro x hz _);(have f0:(wr.ext x).cell? ⟨wr.heap.size,0,none⟩=some (.int .i64 id):=hz.cell? 0 rfl);(have f1:(wr.ext x).cell? ⟨wr.heap.size,1,none⟩=some (.slice g ky.length cg):=hz.cell? 1 rfl);(have hownx:=ij hown (FE wr x))
       | fail)
      go_ret;exact ⟨(by first|rfl|(show Ending.returned (Value.bool false)=_;rw [hv])),eX⟩
  ·have hkk:k=n:=by omega
   subst hkk;have hki:¬ (k:Int)<(k:Int):=Zo;rw [aah Zo] at h1 h2;have hv:=oE h1 h2;rw [hrl] at hv;by_cases d1:1<=k
   ·by_cases d2:k<=4
    ·have e1:(1:Int)<=(k:Int):=by omega
     have e2:(k:Int)<=4:=Zo;go_wp2_with fail;go_ret;exact ⟨(by first|rfl|(show Ending.returned (Value.bool true)=_;rw [hv,aav ⟨d1,d2⟩])),hE⟩
    ·have e1:(1:Int)<=(k:Int):=by omega
     have e2:¬ (k:Int)<=4:=Zo;go_wp2_with fail;go_ret;exact ⟨(by first|rfl|(show Ending.returned (Value.bool false)=_;rw [hv,aay Zo])),hE⟩
   ·have e1:¬ (1:Int)<=(k:Int):=by omega
    go_wp2_with fail;go_ret;exact ⟨(by first|rfl|(show Ending.returned (Value.bool false)=_;rw [hv,aay Zo])),hE⟩
end Go.Proofs.P9

/- The walks of layer 19: keys, Start, Rotate. -/
namespace Go.Sec
open Go.RowKit
theorem _root_.z29q24{p:Prop}(h:p:=by
 have hblk:=hM.block b hb (λ e=>hbg (by injection e));refine ⟨b,off,ha,aai hb hM.size,λ k hk=>?_⟩;obtain ⟨g',c,h1,h2,h3,h4⟩:=hc k hk;exact ⟨g',c,(FH hblk).trans h1,(FH hblk).trans h2,h3.mut hB hne hM,h4⟩):p:=h
theorem Ib.mut {w w':World} {a:E8} {n g:Nat} {T:TypeId} {vs:List Value} {L:List (Int × E7)} (h:Ib w a n L) (hoff:∀ b o,a=some ⟨b,o,none⟩->b≠g) (hB:Blk w g T vs) (hne:∀ v∈vs,∀ x,v ≠ Zz Zu x) (hM:Mut g w w'):Ib w' a n L:=by
 refine ⟨h.len,h.row.imp id ?_⟩;rintro ⟨b,off,ha,hb,hc⟩;have hbg:=hoff b off ha;exact z29q24
theorem nL {w wr W w9:World} {g:Nat} (hE:Ext w wr) (hx:Ext wr W) (hM:Mut g W w9) (hg:w.heap.size<=g):Ext w w9:=E9 (hE.trans hx) (hM.below hg (hE.trans hx).size)
def kx (T:TypeId)(B0:Nat) (w:World)(a:E8)(n c:Nat) (L:List (Int × E7)):Prop:=∃ B,B0<=B/\B<=w.heap.size/\cf T w B a n c L
theorem kx.ext {T:TypeId} {B0 n c:Nat} {w w':World} {a:E8} {L:List (Int × E7)} (h:kx T B0 w a n c L) (hx:Ext w w'):kx T B0 w' a n c L:=by
 exact z29q92
theorem kx.new {T:TypeId} {w:World} {B0:Nat} {id:Int} {g:E8} {m cg:Nat} {l:E7} (h:Sl w g m l) (hc:m<=cg) (hb:B0<=w.heap.size) :
  kx T B0 (w.alloc (.cells #[Zz Zx id, Zy g m cg] T)) (some ⟨w.heap.size,0,none⟩) 1 1 [(id,l)] :=
 ⟨w.heap.size,hb,Zs,cf.new h hc (aad _) (h.inT _)⟩
end Go.Sec
namespace Go.Proofs.P9
open Go.RowKit Go.Sec Go.Oct Go.Sha Go.Aes Go.Cook BigFrame
theorem RR1:RowT Tryz.prog 26 1:=⟨⟨_,Tryz.underlying26,rfl⟩,Zk,⟨_,Tryz.zeroValue26,Zk⟩⟩
theorem C5:(Tryz.prog.info? 50).map (λ i=>(i.zero,i.size,i.bytes))=some (some (.agg #[Zz Zx 0, Zy none 0 0]),2,32):=Zk
theorem VM:SI Tryz.prog 24 50:=⟨Tryz.underlying24,by
 obtain ⟨i,h1,h2,h3,h4⟩:=info_parts C5;exact ⟨i,_,h1,h2,h3,h4,rfl⟩⟩
theorem xL (n:Int):bits .and .i64 n 4294967295=n % 4294967296:=by
 have h127:(BitVec.ofInt 64 4294967295).toNat=2 ^ 32-1:=Zd;have key:(BitVec.ofInt 64 n &&& BitVec.ofInt 64 4294967295).toNat=(n % ((2 ^ 64:Nat):Int)).toNat % 2 ^ 32:=by
  rw [BitVec.toNat_and,BitVec.toNat_ofInt,h127,Nat.and_two_pow_sub_one_eq_mod]
 show IntKind.i64.wrap ((BitVec.ofInt 64 n &&& BitVec.ofInt 64 4294967295).toNat:Nat)=n % 4294967296;rw [key,aaO];omega
def qE (r:Ring × Int) (w:World)(e:Ending) (w':World):Prop:=∃ a n c,e = .returned (.tuple #[.agg #[Zy a n c], Zz Zx r.2])/\Ib w' a n r.1/\n<=c/\Ext w w'
theorem qE.err (w w':World)(e:Int) (hx:Ext w w'):qE ([],e) w (.returned (.tuple #[.agg #[Zy none 0 0], Zz Zx e])) w':=⟨none,0,0,rfl,Ib.nil _ _,aad _,hx⟩
end Go.Proofs.P9

/- The walks of layer 19: Rotate. -/
namespace Go.Cook
end Go.Cook
namespace Go.Proofs.P9
open Go.RowKit Go.Sec Go.Oct Go.Sha Go.Aes Go.Cook BigFrame
end Go.Proofs.P9

/- The walks of layer 19: seal, Make, cut, ID. -/
namespace Go.Cook
open Go.Sha Go.Oct Go.Aes Go.Sec
theorem lg {ky nonce p:E7} (id:Int) (hk:ky.length=32) (hn:nonce.length=16) (hp:p.length=68) :
  ∃ sd,(cj ky [idB id,nonce] p)=(sd,0)/\sd.length=84:=by
 refine ⟨_,pg (ve hk hn id) Zo,?_⟩;simp only [aag,dG,di,hp]
theorem pO (l:E7)(h:l.length<=4):0<=n64 (cR l)/\n64 (cR l)<4294967296:=by
 unfold n64;rw [fK _ Zo];have h1:=ki l;have:(256:Nat) ^ l.length<=256 ^ 4:=Nat.pow_le_pow_right Zo h;have e8:(256:Nat) ^ 4=4294967296:=Zd;omega
end Go.Cook
namespace Go.Proofs.P9
open Go.RowKit Go.Sec Go.Oct Go.Sha Go.Aes Go.Cook BigFrame
theorem xS (id:Int) (a b d:E8)(ca cb cd:Nat) (ky nonce p:E7)(w:World)(h0:0<=id) (h1:id<=4294967295) (hk:Sl w a 32 ky) (hca:32<=ca) (hn:Sl w b 16 nonce) (hcb:16<=cb) (hp:Sl w d 68 p) (hcd:68<=cd) :
  Calls Tryz.prog 151 #[.agg #[Zz Zx id, Zy a 32 ca], Zy b 16 cb, Zy d 68 cd] w (bZ 104 (idB id++(nonce++(cj ky [idB id,nonce] p).1)) w):=by
 obtain ⟨sd,hsd,hsl⟩:=lg (ky:=ky) (nonce:=nonce) (p:=p) id hk.len hn.len hp.len;have hseal:=λ bA cA bB cB W h1 h2 h3=>sN a bA bB 32 ca 2 cA 68 cB ky [idB id,nonce] p W h1 hca h2 Zo h3;rw [hsd] at hseal ⊢;simp only at hseal ⊢;rw [hsl] at hseal;have hput:=λ W=>gI (UInt64.ofNat id.toNat) 4 (lH id h0 Zo) (show (4:Int)=((4:Nat):Int) from rfl) W Zo;have hidl:=gU id;rw [show aF 4 (UInt64.ofNat id.toNat)=idB id from rfl] at hput;generalize idB id=ib at *;have hnl:=hn.len;have hw:IntKind.u64.wrap id=id:=by rw [aaG];omega
 rw [hw] at hput;clear hsd
 go_enter Tryz.func151,Tryz.ntmps151
 go_wp2_with fail;(with_reducible refine (hput _).mono ?_);rintro e w1 ⟨a1,c1,rfl,hO1,hx1⟩;have hle1:=hO1.le;have hE1:Ext w w1:=(FA _ _).trans hx1;have hB:=(Blk.new w #[Zz Zx id, Zy a 32 ca] 50).extB hx1;haveI:=hB.blt;have f1:w1.cell? ⟨w.heap.size,1,none⟩=some (Zy a 32 ca):=hB.cell? 1 rfl;have hA:=sm (c1:=c1) hO1.sl hle1.1 (hn.ext hE1) hcb 33;go_wp2_with fail;(with_reducible refine (hseal _ _ _ _ _ ((hk.ext hE1).ext (FA _ _)) hA ((hp.ext hE1).ext (FA _ _)) hcd).mono ?_);rintro e w2 ⟨a2,c2,rfl,hS2,hc2,hx2⟩;have hE2:Ext w1 w2:=(FA _ _).trans hx2;have hJ:=zP (c1:=c1) (c2:=cb) (c3:=c2) (hO1.sl.ext hE2) ((hn.ext hE1).ext hE2) hS2 33;go_wp2_with fail;(with_reducible refine (gu _ _ _ _ _ hJ Zo 104 (by rw [jR];simp only [aag];omega) Zo).mono ?_);rintro e w3 ⟨a3,c3,rfl,hO3,hx3⟩;rw [jR] at hO3;go_wp2;go_ret;have hE3:Ext w w3:=(hE1.trans hE2).trans ((FA _ _).trans hx3);exact ⟨_,_,rfl,hO3.mono (by have:=(hE1.trans hE2).size;simp;omega),hE3⟩
def uf (r:E7 × Int) (w:World)(e:Ending) (w':World):Prop:=∃ a c,e = .returned (.tuple #[Zy a r.1.length c, Zz Zx r.2])/\Sl w' a r.1.length r.1/\r.1.length<=c/\Ext w w'
theorem uf.err (w w':World)(e:Int) (hx:Ext w w'):uf ([],e) w (.returned (.tuple #[Zy none 0 0, Zz Zx e])) w':=⟨none,0,rfl,Sl.nil _ _,aad _,hx⟩
def dD (r:E7 × Int) (w:World)(e:Ending) (w':World):Prop:=∃ a c,e = .returned (.tuple #[Zy a r.1.length c, Zz Zx r.2])/\Own w' 0 a r.1.length c r.1/\Ext w w'
theorem dD.err (w w':World)(e:Int) (hx:Ext w w'):dD ([],e) w (.returned (.tuple #[Zy none 0 0, Zz Zx e])) w':=⟨none,0,rfl,Own.nil _ _,hx⟩
theorem dD.p {r:E7 × Int} {w:World} {e:Ending} {w':World} (h:dD r w e w'):uf r w e w':=by
 obtain ⟨a,c,h1,h2,h3⟩:=h;exact ⟨a,c,h1,h2.sl,h2.le.1,h3⟩
theorem tY (a u v b:E8)(n c nu cu nv cv nn cn:Nat) (r:Ring) (algo:Int) (up down nonce:E7)(w:World)(hI:Ib w a n r) (hnc:n<=c) (hn:n<=1000000) (hu:Sl w u nu up) (hcu:nu<=cu) (hv:Sl w v nv down) (hcv:nv<=cv) (hb:Sl w b nn nonce) (hcn:nn<=cn) :
  Calls Tryz.prog 127 #[.agg #[Zy a n c], Zz Zx algo, .agg #[Zy u nu cu, Zy v nv cv], Zy b nn cn] w (dD (bV r algo up down nonce) w):=by
 have hval:=λ W h=>jK a n c r W h hnc hn;have hrl:=hI.len;have hul:=hu.len;have hvl:=hv.len;have hbl:=hb.len;cases hV:aM r
 ·have e:bV r algo up down nonce=([],3):=by unfold bV;rw [aaj hV]
  rw [e];rw [hV] at hval;clear hul hvl hbl e
  go_enter Tryz.func127,Tryz.ntmps127
  go_wp2_with (first
   | (go_at_call 57;refine (hval _ (hI.ext eX)).mono ?_;rintro e w1 ⟨rfl,hxq⟩;obtain ⟨xq,rfl⟩:=hxq.out;clear hxq)
   | fail)
  refine aaa (v := .tuple #[Zy none 0 0, Zz Zx 3]) (by simp [results,Tryz.results127,go_sem]) rfl ?_;exact dD.err _ _ 3 eX
 ·rw [hV] at hval;by_cases a1:algo<0
  ·have e:bV r algo up down nonce=([],4):=by unfold bV;rw [aae (by rw [hV];simp),aaj (.inl a1)]
   rw [e];clear hul hvl hbl e
   go_enter Tryz.func127,Tryz.ntmps127
   go_wp2_with (first
    | (go_at_call 57;refine (hval _ (hI.ext eX)).mono ?_;rintro e w1 ⟨rfl,hxq⟩;obtain ⟨xq,rfl⟩:=hxq.out;clear hxq)
    | fail)
   refine aaa (v := .tuple #[Zy none 0 0, Zz Zx 4]) (by simp [results,Tryz.results127,go_sem]) rfl ?_;exact dD.err _ _ 4 eX
  ·by_cases a2:65535<algo
   ·have e:bV r algo up down nonce=([],4):=by unfold bV;rw [aae (by rw [hV];simp),aaj (.inr a2)]
    rw [e];clear hul hvl hbl e
    go_enter Tryz.func127,Tryz.ntmps127
    go_wp2_with (first
     | (go_at_call 57;refine (hval _ (hI.ext eX)).mono ?_;rintro e w1 ⟨rfl,hxq⟩;obtain ⟨xq,rfl⟩:=hxq.out;clear hxq)
     | fail)
    refine aaa (v := .tuple #[Zy none 0 0, Zz Zx 4]) (by simp [results,Tryz.results127,go_sem]) rfl ?_;exact dD.err _ _ 4 eX
   ·by_cases u32:nu=32
    ·have u32i:(((nu:Nat):Int) != 32)=false:=by rw [aaf];omega
     by_cases d32:nv=32
     ·have d32i:(((nv:Nat):Int) != 32)=false:=by rw [aaf];omega
      by_cases n16:nn=16
      ·have n16i:(((nn:Nat):Int) != 16)=false:=by rw [aaf];omega
       have e:bV r algo up down nonce=(dw (hd r) algo up down nonce,0):=by unfold bV;rw [aae (by rw [hV];simp),aae Zo,aae Zo,aae Zo]
       obtain ⟨v1,v2,v3,v4⟩:=bm.1 hV;obtain ⟨x0,hx0⟩:∃ x,r[0]?=some x:=⟨_,List.getElem?_eq_getElem Zo⟩;have hhd:hd r=x0:=by unfold hd;rw [FF,hx0];rfl
       obtain ⟨x1,x2,x3⟩:=v1 x0 (List.mem_of_getElem? hx0);rw [hhd] at e;obtain ⟨id,ky⟩:=x0;simp only at x1 x2 x3;subst u32 d32 n16;obtain ⟨b0,off,g,cg,rfl,hb0,hc0,hc1,hSd,hcd⟩:=hI.at 0 Zo _ hx0;simp only at hc0 hc1 hSd hcd;rw [x3] at hc1 hSd hcd;have hrd:=rG (w:=w) (o:=off+0*2) hb0.lt hc0 hc1;rw [Nat.zero_mul,abv] at hrd;obtain ⟨pa,hpa⟩:∃ pa,aF 2 (UInt64.ofNat algo.toNat)=pa:=⟨_,rfl⟩;have hpal:pa.length=2:=by rw [<- hpa];exact aw _ _
       have hput:=λ W=>gI (UInt64.ofNat algo.toNat) 2 (lH algo Zo Zo) (show (2:Int)=((2:Nat):Int) from rfl) W Zo;rw [hpa] at hput;obtain ⟨pl,hpl⟩:∃ pl,pa++([0,0]++(up++down))=pl:=⟨_,rfl⟩;have hpll:pl.length=68:=by rw [<- hpl];simp only [aag,aaM,List.length_nil];omega
       have hck:dw (id,ky) algo up down nonce=idB id++(nonce++(cj ky [idB id,nonce] pl).1):=by unfold dw fe;rw [hpa,hpl]
       rw [hck] at e;have hckl:(idB id++(nonce++(cj ky [idB id,nonce] pl).1)).length=104:=by
        obtain ⟨sd,h1,h2⟩:=lg (ky:=ky) (nonce:=nonce) (p:=pl) id x3 hbl hpll;rw [h1];simp only [aag,gU];omega
       have hsl:=λ d cd W h1 h2 h3 h4=>xS id g b d cg cn cd ky nonce pl W x1 x2 h1 hcd h2 hcn h3 h4;generalize (idB id++(nonce++(cj ky [idB id,nonce] pl).1))=CK at *;rw [e];have hmk:∀ W:World,(Instr.makeSlice 33 (Zz Zx 2) (Zz Zx 2)).run Tryz.prog W = .ok (Zy (some ⟨W.heap.size,0,none⟩) 2 2) (W.alloc (.cells (bJ (Zz Zu 0) 2) 5)):=λ W=>dc U 2 2 Zo Zo W;clear e hck hpa hhd hul hvl hbl;haveI:=hb0
       go_enter Tryz.func127,Tryz.ntmps127
       go_wp2_with (first
        | (go_at_call 57;refine (hval _ (hI.ext eX)).mono ?_;rintro e w1 ⟨rfl,hxq⟩;obtain ⟨xq,rfl⟩:=hxq.out;clear hxq)
        | fail)
       refine cU ?_;intro W hW;have hEW:Ext w W:=by rw [hW];exact eX
       have hB1:Blk W w.heap.size 26 [Zy (some ⟨b0,off,none⟩) n c]:=by rw [hW];exact bK
       have hB2:Blk W (w.heap.size+1) 55 [Zy u 32 cu, Zy v 32 cv]:=by rw [hW];exact bK
       clear hW;have f0:=hB1.cell? 0 rfl;have f1:=hB2.cell? 0 rfl;have f2:W.cell? ⟨w.heap.size+1,1,none⟩=some (Zy v 32 cv):=hB2.cell? 1 rfl;haveI:=hB1.blt;haveI:=hB2.blt;have hkW:=hSd.ext hEW;have huW:=hu.ext hEW;have hvW:=hv.ext hEW;have hbW:=hb.ext hEW;have hrdW:=hrd.ext hEW;have hn0:0<n:=Zo;refine R2.ae 18 [[],[0],[0,1],[0,1,2],[],[],[5],[5,6],[],[],[9],[],[11],[5,6,7,8,9,10,11,12],[5,6,7,8,9,10,11,12,13],[0,1,2,3,4,5,6,7,8,9,10,11,12,13,14],[0,1,2,3,4,5,6,7,8,9,10,11,12,13,14,15],[0,1,2,3,4,5,6,7,8,9,10,11,12,13,14,15,16]] [] (λ h=>(h rfl).elim) Zk Zk Zk Zk Zk ?_;simp only [q8q,q9q,q10q,q11q,q12q,q13q];(repeat (refine R2.av ?_;(try simp only [Act.put,q0q,q1q,q2q])));(refine R2.ao RM2 _ rfl (λ _=>rfl) b0 off (λ _=>by simp [go_sem]) _ hrdW rfl ?_);(repeat (refine R2.av ?_;(try simp only [Act.put,q0q,q1q,q2q])));(refine R2.ai (λ p => .slice (p 0).1 2 (p 0).2) (λ p w''=>Own w'' 0 (p 0).1 2 (p 0).2 pa) (λ p w w' h hx=>h.ext hx) (λ us w' hx hf=>⟨rfl,?_⟩) ?_;(unfold gives;simp [go_sem,execOp];exact az (aak _) (hput _)));(refine R2.ai (λ p => .slice (p 0).1 2 2) (λ p w''=>Sl w'' (p 0).1 2 ([0,0])) (λ p w w' h hx=>h.ext hx) (λ us w' hx hf=>⟨rfl,?_⟩) ?_;(unfold gives;simp [go_sem,execOp,hmk];exact ⟨λ _=>(some ⟨w'.heap.size,0,none⟩,0),rfl,FA _ _,(bY _ _).sl rfl⟩));(repeat (refine R2.av ?_;(try simp only [Act.put,q0q,q1q,q2q])));(refine R2.ai (λ p => .slice (p 0).1 4 4) (λ p w''=>Bss w'' (p 0).1 4 ([pa,[0,0],up,down])) (λ p w w' h hx=>h.ext hx) (λ us w' hx hf=>⟨rfl,?_⟩) ?_;(unfold gives;simp [go_sem,execOp];exact ⟨λ _=>(some ⟨w'.heap.size,0,none⟩,0),rfl,FA _ _,AF ((hf _ (aaI _ (aac _ (aab _))) rfl)).sl (hf _ (aac _ (aab _)) rfl) (huW.ext hx) (hvW.ext hx) _⟩));(refine R2.ai (λ p => .slice (p 0).1 68 (p 0).2) (λ p w''=>Own w'' 0 (p 0).1 68 (p 0).2 pl) (λ p w w' h hx=>h.ext hx) (λ us w' hx hf=>⟨rfl,?_⟩) ?_;(unfold gives;simp [go_sem,execOp];exact az (aak _) ((by have:=gu _ 4 4 [pa,[0,0],up,down] w' (by exact (hf _ (aac _ (aab _)) rfl)) Zo 68 (by rw [mB,hpl];exact hpll) Zo;rw [mB,hpl] at this;exact this))));(refine R2.ai (λ p => .slice (p 0).1 104 (p 0).2) (λ p w''=>Own w'' 0 (p 0).1 104 (p 0).2 CK) (λ p w w' h hx=>h.ext hx) (λ us w' hx hf=>⟨rfl,?_⟩) ?_;(unfold gives;simp [go_sem,execOp];exact az (aak _) (hsl _ _ _ (hkW.ext hx) (hbW.ext hx) ((hf _ (aac _ (aab _)) rfl)).sl ((hf _ (aac _ (aab _)) rfl)).le.1)));(repeat (refine R2.av ?_;(try simp only [Act.put,q0q,q1q,q2q])));(refine R2.aU ?_;intro us x hx hf);obtain ⟨_,_,_,_,hO⟩:=hf;go_wp2_with fail;refine aaa (v := .tuple #[.slice (us 15 0).1 104 (us 15 0).2, Zz Zx 0]) (by simp [results,Tryz.results127,go_sem]) rfl ?_;show ∃ a c,_=Ending.returned (.tuple #[Zy a CK.length c, Zz Zx 0])/\Own _ 0 a CK.length c CK/\Ext w _;rw [hckl];exact ⟨_,_,rfl,hO,hEW.ext x⟩
      ·have e:bV r algo up down nonce=([],3):=by unfold bV;rw [aae (by rw [hV];simp),aae Zo,aae Zo,aaj Zo]
       rw [e];have n16i:(((nn:Nat):Int) != 16)=true:=by rw [aao];omega
       clear hul hvl hbl e n16 u32 d32
       go_enter Tryz.func127,Tryz.ntmps127
       go_wp2_with (first
        | (go_at_call 57;refine (hval _ (hI.ext eX)).mono ?_;rintro e w1 ⟨rfl,hxq⟩;obtain ⟨xq,rfl⟩:=hxq.out;clear hxq)
        | fail)
       refine aaa (v := .tuple #[Zy none 0 0, Zz Zx 3]) (by simp [results,Tryz.results127,go_sem]) rfl ?_;exact dD.err _ _ 3 eX
     ·have e:bV r algo up down nonce=([],5):=by unfold bV;rw [aae (by rw [hV];simp),aae Zo,aaj Zo]
      rw [e];have d32i:(((nv:Nat):Int) != 32)=true:=by rw [aao];omega
      clear hul hvl hbl e u32 d32
      go_enter Tryz.func127,Tryz.ntmps127
      go_wp2_with (first
       | (go_at_call 57;refine (hval _ (hI.ext eX)).mono ?_;rintro e w1 ⟨rfl,hxq⟩;obtain ⟨xq,rfl⟩:=hxq.out;clear hxq)
       | fail)
      refine aaa (v := .tuple #[Zy none 0 0, Zz Zx 5]) (by simp [results,Tryz.results127,go_sem]) rfl ?_;exact dD.err _ _ 5 eX
    ·have e:bV r algo up down nonce=([],5):=by unfold bV;rw [aae (by rw [hV];simp),aae Zo,aaj Zo]
     rw [e];have u32i:(((nu:Nat):Int) != 32)=true:=by rw [aao];omega
     clear hul hvl hbl e u32
     go_enter Tryz.func127,Tryz.ntmps127
     go_wp2_with (first
      | (go_at_call 57;refine (hval _ (hI.ext eX)).mono ?_;rintro e w1 ⟨rfl,hxq⟩;obtain ⟨xq,rfl⟩:=hxq.out;clear hxq)
      | fail)
     refine aaa (v := .tuple #[Zy none 0 0, Zz Zx 5]) (by simp [results,Tryz.results127,go_sem]) rfl ?_;exact dD.err _ _ 5 eX
def DT (l:E7)(w:World)(e:Ending) (w':World):Prop:=∃ a1 c1 a2 c2 a3 c3,e = .returned (.tuple #[Zy a1 4 c1, Zy a2 16 c2, Zy a3 84 c3])/\Sl w' a1 4 (l.take 4)/\4<=c1/\Sl w' a2 16 ((l.drop 4).take 16)/\16<=c2/\Sl w' a3 84 (l.drop 20)/\84<=c3/\Ext w w'
theorem y7 (a:E8)(c:Nat) (l:E7)(w:World)(h:Sl w a 104 l) (hc:104<=c) :
  Calls Tryz.prog 117 #[Zy a 104 c] w (DT l w):=by
 have h1:=h.take 4 Zo;have h2:=(h.drop c 4 hc).take 16 Zo;have h3:=h.drop c 20 hc;have k1:(4:Int)<=(c:Int):=Zo;have k2:(20:Int)<=(c:Int):=Zo;have k3:(104:Int)<=(c:Int):=Zo;have l1:4<=c:=Zo;have l2:20<=c:=Zo
 go_enter Tryz.func117,Tryz.ntmps117
 go_wp2;refine R2.ae 9 [[],[0],[],[2],[],[4],[0,1],[0,1,2,3,6],[0,1,2,3,4,5,6,7]] [] (λ h=>(h rfl).elim) Zk Zk Zk Zk Zk ?_;simp only [q8q,q9q,q10q,q11q,q12q,q13q];(repeat (refine R2.av ?_;(try simp only [Act.put,q0q,q1q,q2q])));(refine R2.aU ?_;intro us x hx hf);go_wp2_with fail;refine aaa (v := .tuple #[Zy a 4 c, Zy (dX a c 4 1) 16 (c-4), Zy (dX a c 20 1) 84 (c-20)]) (by simp [results,Tryz.results117,go_sem]) rfl ?_;exact ⟨_,_,_,_,_,_,rfl,h1.ext (FE _ _),Zo,h2.ext (FE _ _),Zo,h3.ext (FE _ _),Zo,FE _ _⟩
end Go.Proofs.P9

/- The walks of layer 19: Open. -/
namespace Go.Sec
open Go.RowKit
theorem cL {P:Program} {fn:Func} {q p u u2:Tmp} {T:TypeId} {n:Nat} (h:fn.results=#[.tmp q, .cell p T, .tmp u, .tmp u2]) (hT:RowT P T n) (tmps:Array Value) (w:World)(g o:Nat) (cs:List Value)(hp:tmps.getD p undef = .pointer (some ⟨g,o,none⟩))
  (hR:Rd w (some ⟨g,o,none⟩) cs) (hn:cs.length=n) (v v2 v3:Value)(hv:tmps.getD q undef=v) (hv2:tmps.getD u undef=v2) (hv3:tmps.getD u2 undef=v3):(results fn tmps).run P w = .ok (.tuple #[v, .agg cs.toArray,v2,v3]) w:=by
 have hp':tmps[p]?.getD undef = .pointer (some ⟨g,o,none⟩):=by simpa using hp
 subst hv hv2 hv3;simp [results,h,hp',asAddr,dY hT w g o cs hR hn]
end Go.Sec
namespace Go.Cook
open Go.Sha Go.Oct Go.Aes Go.Sec
def rV (r:Ring) (c:E7):Int:=match iU r c with|none => -1|some i=>(i:Int)
theorem vD {r:Ring} {c:E7} {k:Nat} {x:Int × E7} (hx:r[k]?=some x) (h0:∀ m∈r.take k,m.1≠iG c) (h:x.1=iG c):iU r c=some k:=by
 unfold iU;obtain ⟨hi,he⟩:=List.getElem?_eq_some_iff.1 hx;rw [List.findIdx?_eq_some_iff_getElem];refine ⟨hi,by rw [he];simpa using h,λ j hj=>?_⟩;have:=h0 r[j] (List.mem_take_iff_getElem.2 ⟨j,Zo,rfl⟩);simpa using this
theorem vC {r:Ring} {c:E7} (h0:∀ m∈r,m.1≠iG c):iU r c=none:=by
 unfold iU;rw [List.findIdx?_eq_none_iff];intro m hm;simpa using h0 m hm
theorem xY {r:Ring} {c:E7} {i:Nat} (h:iU r c=some i):i<r.length/\True:=by
 unfold iU at h;rw [List.findIdx?_eq_some_iff_getElem] at h;exact ⟨h.1,trivial⟩
theorem iT {ky:E7} {A:List (E7)} {s:E7}:(bL ky A s).2=0->(bL ky A s).1.length=s.length-16:=by
 intro h;unfold bL at h ⊢;by_cases h1:aO ky A≠0
 ·rw [aaj h1] at h;exact absurd h h1
 ·rw [aae h1] at h ⊢;by_cases h2:65535<s.length
  ·rw [aaj h2] at h;cases h
  ·rw [aae h2] at h ⊢;by_cases h3:s.length<16
   ·rw [aaj h3] at h;cases h
   ·rw [aae h3] at h ⊢;by_cases h4:(cK ky A (bG ky s)).1=s.take 16
    ·rw [aaj h4];exact du
    ·rw [aae h4] at h;cases h
theorem qu (l:E7)(h:l.length=2):n64 (cR l)=0 ↔ l=[0,0]:=by
 constructor
 ·intro h0;have h1:=fK l Zo;unfold Go.Sec.n64 at h0;have h2:bR l=0:=Zo;exact yJ l [0,0] (by rw [h];rfl) (by rw [h2];rfl)
 ·rintro rfl;rfl
end Go.Cook
namespace Go.Proofs.P9
open Go.RowKit Go.Sec Go.Oct Go.Sha Go.Aes Go.Cook BigFrame
theorem RP2:RowT Tryz.prog 55 2:=⟨⟨_,Tryz.underlying55,rfl⟩,Zk,⟨_,Tryz.zeroValue55,Zk⟩⟩
theorem wC (id:Int) (g:E8)(m cg gB:Nat) (a1:E8)(c1:Nat) (ib:E7)(w:World)(h0:0<=id) (h1:id<=4294967295) (hB:Blk w gB 33 [Zy a1 4 c1]) (hS:Sl w a1 4 ib) (hc:4<=c1) :
  Calls Tryz.prog 119 #[.agg #[Zz Zx id, Zy g m cg], .pointer (some ⟨gB,0,none⟩)] w λ e w'=>e = .returned (.bool (id == n64 (cR ib)))/\Ext w w':=by
 have hlt:=hB.lt;have hget:=λ W H=>eE a1 4 c1 ib W H hc Zo;have hw:IntKind.u64.wrap id=id:=by rw [aaG];omega
 haveI:=hB.blt;have f0:=hB.cell? 0 rfl
 go_enter Tryz.func119,Tryz.ntmps119
 go_wp2;obtain ⟨W,hW⟩:∃ W,W=w.alloc (.cells #[Zz Zx id, Zy g m cg] 50):=⟨_,rfl⟩;have hxW:Ext w W:=by rw [hW];exact eX
 have hM:Blk W w.heap.size 50 [Zz Zx id, Zy g m cg]:=by rw [hW];exact bK
 have hB:=hB.extB hxW;have hS:=hS.ext hxW;rw [<- hW];clear hW;haveI:=hM.blt;haveI:=hB.blt;have f1:=hM.cell? 0 rfl;have f0:=hB.cell? 0 rfl;refine R2.ae 7 [[],[0],[0,1],[],[3],[0,1,2,3,4],[0,1,2,3,4,5]] [] (λ h=>(h rfl).elim) Zk Zk Zk Zk Zk ?_;simp only [q8q,q9q,q10q,q11q,q12q,q13q];(repeat (refine R2.av ?_;(try simp only [Act.put,q0q,q1q,q2q])));(refine R2.ai (λ _ => Zz Zw (n64 (cR ib))) (λ _ _=>True) (λ _ _ _ _ _=>trivial) (λ us w' hx hf=>⟨rfl,?_⟩) ?_;(unfold gives;simp [go_sem,execOp];refine (hget _ (hS.ext hx)).mono ?_;rintro e w1 ⟨rfl,hx1⟩;first|exact ⟨rfl,hx1⟩|simpa using hx1));(repeat (refine R2.av ?_;(try simp only [Act.put,q0q,q1q,q2q])));(refine R2.aU ?_;intro us x hx hf);go_wp2;go_ret;exact ⟨rfl,hxW.ext x⟩
theorem sz (a:E8)(n c:Nat) (r:Ring) (gB:Nat) (a1:E8)(c1:Nat) (ck:E7)(w:World)(hI:Ib w a n r) (hn:n<=1000000) (hr:∀ m∈r,0<=m.1/\m.1<=4294967295) (hB:Blk w gB 33 [Zy a1 4 c1]) (hS:Sl w a1 4 (ck.take 4)) (hc:4<=c1) :
  Calls Tryz.prog 118 #[Zy a n c, .func (.func 119) #[] #[.pointer (some ⟨gB,0,none⟩)]] w λ e w'=>e = .returned (Zz Zx (rV r ck))/\Ext w w':=by
 have hl:=hI.len;have ho1:=λ id g m cg W k0 k1 H1 H2=>wC id g m cg gB a1 c1 (ck.take 4) W k0 k1 H1 H2 hc;rw [show n64 (cR (ck.take 4))=iG ck from rfl] at ho1
 go_enter Tryz.func118,Tryz.ntmps118
 go_wp2_with fail
 go_loopw [5,8] (λ _ v8 wr=>∃ i:Nat,i<=n/\v8 = Zz Zx i/\Hid (∀ m∈r.take i,m.1≠iG ck)/\Ext w wr) (λ _ v8 _=>n-(intOf v8).toNat)
 case atStart=>exact ⟨0,Zo,rfl,FC Zs,FD _⟩
 case round =>
  obtain ⟨i,hi,rfl,hm,hx⟩:=hrel;by_cases hlt:i<n
  ·obtain ⟨x,hxi⟩:∃ x,r[i]?=some x:=⟨_,List.getElem?_eq_getElem Zo⟩;obtain ⟨r0,r1⟩:=hr x (List.mem_of_getElem? hxi);obtain ⟨b0,o0,g',c',rfl,hb0,hc0,hc1,hSk,hck⟩:=(hI.ext hx).at i hlt _ hxi;have hrd:=rG hb0.lt hc0 hc1;have i0:(0:Int)<=(i:Int):=Zo;have i1:(i:Int)<(n:Int):=Zo;have hat:=FC (λ h=>vD hxi hm.out h);have hts:=gv hxi;haveI:=hb0
   go_wp2_with (first
    | (refine af RM2 rfl _ rfl b0 (o0+i*2) rfl _ hrd rfl ?_)
    | fail)
   (with_reducible refine (ho1 _ _ _ _ _ r0 r1 (hB.extB hx) (hS.ext hx)).mono ?_);rintro e w1 ⟨rfl,hx1⟩;by_cases hid:x.1=iG ck
   ·have hage:=hat.out hid;have hb:(x.1 == iG ck)=true:=by simpa using hid
    have HR:=FC (show rV r ck=(i:Int) by unfold rV;rw [hage]);clear hage hid hts;go_wp2_with fail;go_ret;exact ⟨by rw [HR.out];rfl,hx.trans hx1⟩
   ·have hb:(x.1 == iG ck)=false:=by simpa using hid
    have hm2:=FC (show ∀ m∈r.take (i+1),m.1≠iG ck by
     rw [hts];intro m hm';rcases aaP.1 hm' with h|h
     ·exact hm.out m h
     ·rw [aau.1 h];exact hid)
    clear hid hts;go_wp2_with fail;go_roundw
    case rel=>exact ⟨i+1,Zo,Zg,hm2,hx.trans hx1⟩
    case measure=>simp [intOf];omega
  ·obtain rfl:i=n:=by omega
   have HR:=FC (show rV r ck = -1 by unfold rV;rw [vC (by have:=hm.out;rwa [aah Zo] at this)]);go_wp2_with fail;go_ret;exact ⟨by rw [HR.out];rfl,hx⟩
def fU (o:Opened) (w:World)(e:Ending) (w':World):Prop:=∃ a n c b m d,e = .returned (.tuple #[Zz Zx o.algo, .agg #[Zy a n c, Zy b m d], Zz Zx o.age, Zz Zx o.err])/\Sl w' a n o.up/\n<=c/\Sl w' b m o.down/\m<=d/\Ext w w'
theorem fU.err (w w':World)(e:Int) (hx:Ext w w'):fU ⟨0,[],[],0,e⟩ w (.returned (.tuple #[Zz Zx 0, .agg #[Zy none 0 0, Zy none 0 0], Zz Zx 0, Zz Zx e])) w' :=
 ⟨none,0,0,none,0,0,rfl,Sl.nil _ _,aad _,Sl.nil _ _,aad _,hx⟩
theorem xg (a b:E8)(n c nk ck:Nat) (r:Ring) (l:E7)(w:World)(hI:Ib w a n r) (hnc:n<=c) (hn:n<=1000000) (hb:Sl w b nk l) (hck:nk<=ck) :
  Calls Tryz.prog 80 #[.agg #[Zy a n c], Zy b nk ck] w (fU (cW r l) w):=by
 have hval:=λ W h=>jK a n c r W h hnc hn;have hrl:=hI.len;have hll:=hb.len;cases hV:aM r
 ·have e:cW r l=⟨0,[],[],0,3⟩:=by unfold cW;rw [aaj (.inl hV)]
  rw [e];rw [hV] at hval;clear hll e
  go_enter Tryz.func80,Tryz.ntmps80
  go_wp2_with (first
   | (go_at_call 57;refine (hval _ (hI.ext eX)).mono ?_;rintro e w1 ⟨rfl,hxq⟩;obtain ⟨xq,rfl⟩:=hxq.out;clear hxq)
   | fail)
  refine aaa (v := .tuple #[Zz Zx 0, .agg #[Zy none 0 0, Zy none 0 0], Zz Zx 0, Zz Zx 3]) (by simp [results,Tryz.results80,go_sem]) rfl ?_;exact fU.err _ _ _ eX
 ·rw [hV] at hval;by_cases n104:nk=104
  ·subst n104;obtain ⟨v1,v2,v3,v4⟩:=bm.1 hV;have hcut:=λ W H=>y7 b ck l W H hck;have hix:=λ gB a1 c1 W H1 H2 H3 H4=>sz a n c r gB a1 c1 l W H1 hn (λ m hm=>⟨(v1 m hm).1,(v1 m hm).2.1⟩) H2 H3 H4;cases hA:iU r l with
   | none =>
    have e:cW r l=⟨0,[],[],0,5⟩:=by unfold cW;rw [aae (by rw [hV];simp;omega),hA]
    rw [e];rw [show rV r l = -1 by unfold rV;rw [hA]] at hix;clear hll e hA
    go_enter Tryz.func80,Tryz.ntmps80
    go_wp2_with (first
     | (go_at_call 57;refine (hval _ (hI.ext eX)).mono ?_;rintro e w1 ⟨rfl,hxq⟩;obtain ⟨xq,rfl⟩:=hxq.out;clear hxq)
     | fail)
    have hx0:Ext w (((w.alloc (.cells #[Zy a n c] 26)).alloc (.cells #[Zy none 0 0, Zy none 0 0] 55)).ext xq):=eX;have hB1:Blk (((w.alloc (.cells #[Zy a n c] 26)).alloc (.cells #[Zy none 0 0, Zy none 0 0] 55)).ext xq) w.heap.size 26 [Zy a n c]:=bK;have hB2:Blk (((w.alloc (.cells #[Zy a n c] 26)).alloc (.cells #[Zy none 0 0, Zy none 0 0] 55)).ext xq) (w.heap.size+1) 55 [Zy none 0 0, Zy none 0 0]:=bK;(with_reducible refine (hcut _ (hb.ext hx0)).mono ?_);rintro e w1 ⟨a1,c1,a2,c2,a3,c3,rfl,s1,k1,s2,k2,s3,k3,hx1⟩;have hE1:=hx0.trans hx1;have hB1:=hB1.extB hx1;have hB2:=hB2.extB hx1;have hlt2:=hB2.lt;clear hx1 hx0;haveI:=hB1.blt;haveI:=hB2.blt;have f0:=hB1.cell? 0 rfl;go_wp2_with fail;have hx2:Ext w1 (w1.alloc (.cells #[Zy a1 4 c1] 33)):=FA _ _;(with_reducible refine (hix _ _ _ _ (hI.ext (hE1.trans hx2)) (Blk.new w1 #[Zy a1 4 c1] 33) (s1.ext hx2) k1).mono ?_);rintro e w2 ⟨rfl,hx3⟩;have hB3:Blk w2 w1.heap.size 33 [Zy a1 4 c1]:=(Blk.new w1 #[Zy a1 4 c1] 33).extB hx3;have hx23:=hx2.trans hx3;have hE2:=hE1.trans hx23;have hB1:=hB1.extB hx23;have hB2:=hB2.extB hx23;have s1:=s1.ext hx23;have s2:=s2.ext hx23;have s3:=s3.ext hx23;clear hx23 hx2 hx3 hE1 f0;haveI:=hB1.blt;haveI:=hB2.blt;haveI:=hB3.blt;have f0:=hB1.cell? 0 rfl;have f3:=hB3.cell? 0 rfl
    go_wp2_with (first
     | (refine aa RP2 rfl _ _ rfl (w.heap.size+1) 0 rfl _ rfl 55 _ hB2 rfl Zs (by first|exact aH _|(simp;done)|(simp;(repeat' (first|rfl|constructor)))) ?_;intro w9 hB9 hM9)
     | fail)
    refine aaa (cL Tryz.results80 RP2 _ _ (w.heap.size+1) 0 [Zy none 0 0, Zy none 0 0] rfl hB9.rd rfl _ _ _ rfl rfl rfl) rfl ?_;exact fU.err _ _ _ (nL hE2 (FD _) hM9 Zo)
   | some i =>
    obtain ⟨hin,hid⟩:=xY hA;obtain ⟨x,hx⟩:∃ x,r[i]?=some x:=⟨_,List.getElem?_eq_getElem hin⟩;obtain ⟨x1,x2,x3⟩:=v1 x (List.mem_of_getElem? hx);obtain ⟨id,ky⟩:=x;simp only at x1 x2 x3;have hinn:dO r i l=bL ky [l.take 4,(l.drop 4).take 16] (l.drop 20):=by unfold dO;rw [FF,hx];rfl
    rw [show rV r l=(i:Int) by unfold rV;rw [hA]] at hix;obtain ⟨b',off',gk,cgk,rfl,hbk,d0,d1,hSk,hckk⟩:=hI.at i Zo _ hx;simp only at d0 d1 hSk hckk;rw [x3] at d1 hSk hckk;have hope:=λ bA cA aS cS W h1 h2 h3 h4=>sQ gk bA aS 32 cgk 2 cA 84 cS ky [l.take 4,(l.drop 4).take 16] (l.drop 20) W h1 hckk h2 Zo h3 h4;have hlen:=iT (ky:=ky) (A:=[l.take 4,(l.drop 4).take 16]) (s:=l.drop 20);rw [<- hinn] at hope hlen;have hd84:(l.drop 20).length=84:=by rw [aaJ];omega
    rw [hd84] at hlen;obtain ⟨⟨pl,er⟩,hpe⟩:∃ q,dO r i l=q:=⟨_,rfl⟩;rw [hpe] at hope hlen;simp only at hope hlen;have hres:cW r l=if er≠0\/(pl.drop 2).take 2≠[0,0] then ⟨0,[],[],0,6⟩ else ⟨n64 (cR (pl.take 2)),(pl.drop 4).take 32,(pl.drop 36).take 32,i,0⟩:=by
     unfold cW;rw [aae (by rw [hV];simp;omega),hA];simp only;rw [hpe]
    have HR:=FC hres;have i0:(0:Int)<=(i:Int):=Zo;have i1:(i:Int)<(n:Int):=Zo;have i2:¬ (i:Int)<0:=Zo;haveI:=hbk;clear hres hpe hinn hA hll
    go_enter Tryz.func80,Tryz.ntmps80
    go_wp2_with (first
     | (go_at_call 57;refine (hval _ (hI.ext eX)).mono ?_;rintro e w1 ⟨rfl,hxq⟩;obtain ⟨xq,rfl⟩:=hxq.out;clear hxq)
     | fail)
    have hx0:Ext w (((w.alloc (.cells #[Zy (some ⟨b',off',none⟩) n c] 26)).alloc (.cells #[Zy none 0 0, Zy none 0 0] 55)).ext xq):=eX;have hB1:Blk (((w.alloc (.cells #[Zy (some ⟨b',off',none⟩) n c] 26)).alloc (.cells #[Zy none 0 0, Zy none 0 0] 55)).ext xq) w.heap.size 26 [Zy (some ⟨b',off',none⟩) n c]:=bK;have hB2:Blk (((w.alloc (.cells #[Zy (some ⟨b',off',none⟩) n c] 26)).alloc (.cells #[Zy none 0 0, Zy none 0 0] 55)).ext xq) (w.heap.size+1) 55 [Zy none 0 0, Zy none 0 0]:=bK;(with_reducible refine (hcut _ (hb.ext hx0)).mono ?_);rintro e w1 ⟨a1,c1,a2,c2,a3,c3,rfl,s1,k1,s2,k2,s3,k3,hx1⟩;have hE1:=hx0.trans hx1;have hB1:=hB1.extB hx1;have hB2:=hB2.extB hx1;have hlt2:=hB2.lt;clear hx1 hx0;haveI:=hB1.blt;haveI:=hB2.blt;have f0:=hB1.cell? 0 rfl;go_wp2_with fail;have hx2:Ext w1 (w1.alloc (.cells #[Zy a1 4 c1] 33)):=FA _ _;(with_reducible refine (hix _ _ _ _ (hI.ext (hE1.trans hx2)) (Blk.new w1 #[Zy a1 4 c1] 33) (s1.ext hx2) k1).mono ?_);rintro e w2 ⟨rfl,hx3⟩;have hB3:Blk w2 w1.heap.size 33 [Zy a1 4 c1]:=(Blk.new w1 #[Zy a1 4 c1] 33).extB hx3;have hx23:=hx2.trans hx3;have hE2:=hE1.trans hx23;have hB1:=hB1.extB hx23;have hB2:=hB2.extB hx23;have s1:=s1.ext hx23;have s2:=s2.ext hx23;have s3:=s3.ext hx23;clear hx23 hx2 hx3 hE1 f0;haveI:=hB1.blt;haveI:=hB2.blt;haveI:=hB3.blt;have f0:=hB1.cell? 0 rfl;have f3:=hB3.cell? 0 rfl;go_wp2_with fail;haveI:BlkLt b' w2:=⟨aai hbk.lt hE2.size⟩;have d1:w2.cell? ⟨b',off'+i*2+1,none⟩=some (Zy gk 32 cgk):=(hE2.cell (p:=⟨b',_,none⟩) hbk.lt).trans d1;have hSkW:=hSk.ext hE2;refine R2.ae 16 [[],[0],[],[0,1,2],[0,1,2,3],[0,1,2,3,4],[],[],[6,7],[],[0,1,2,3,4,5,6,7,8,9],[0,1,2,3,4,5,6,7,8,9,10],[0,1,2,3,4,5,6,7,8,9,10,11],[0,1,2,3,4,5,6,7,8,9,10,11],[0,1,2,3,4,5,6,7,8,9,10,11,12],[0,1,2,3,4,5,6,7,8,9,10,11,12,13,14]] [] (λ h=>(h rfl).elim) Zk Zk Zk Zk Zk ?_;simp only [q8q,q9q,q10q,q11q,q12q,q13q];(repeat (refine R2.av ?_;(try simp only [Act.put,q0q,q1q,q2q])));(refine R2.ai (λ p => .slice (p 0).1 2 2) (λ p w''=>Bsc w'' (p 0).1 2 [l.take 4,(l.drop 4).take 16]) (λ p w w' h hx=>by first|exact h.ext hx|exact ⟨h.1.ext hx,h.2.ext hx⟩|exact ⟨h.1.ext hx,h.2⟩|exact ⟨h.1.ext hx,h.2.1.ext hx,h.2.2.ext hx⟩) (λ us w' hx hf=>⟨rfl,?_⟩) ?_;(unfold gives;simp [go_sem,execOp];exact ⟨λ _=>(some ⟨w'.heap.size,0,none⟩,0),rfl,FA _ _,sm (s1.ext hx) k1 (s2.ext hx) k2 _⟩));(repeat (refine R2.av ?_;(try simp only [Act.put,q0q,q1q,q2q])));(refine R2.ai (λ p => .tuple #[.slice (p 0).1 pl.length (p 0).2, Zz Zx er]) (λ p w''=>Sl w'' (p 0).1 pl.length (pl)/\(pl.length)<=(p 0).2) (λ p w w' h hx=>⟨h.1.ext hx,h.2⟩) (λ us w' hx hf=>⟨rfl,?_⟩) ?_;(unfold gives;simp [go_sem,execOp];exact dK (hope _ _ _ _ _ (hSkW.ext hx) (hf _ (aac _ (aab _)) rfl) (s3.ext hx) k3)));(repeat (refine R2.av ?_;(try simp only [Act.put,q0q,q1q,q2q])));(refine R2.aU ?_;intro us x hx hf);obtain ⟨_,hSp,hcp⟩:=hf;obtain ⟨ap,hap⟩:∃ a,(us 10 0).1=a:=⟨_,rfl⟩;obtain ⟨cp,hcpe⟩:∃ a,(us 10 0).2=a:=⟨_,rfl⟩;rw [hap] at hSp ⊢;rw [hcpe] at hcp ⊢;clear hap hcpe;obtain ⟨W,hW⟩:∃ W,W=w2.ext x:=⟨_,rfl⟩;rw [<- hW] at hSp ⊢;have hxW:Ext w2 W:=by rw [hW];exact FE _ _
    clear hW;have hE:=hE2.trans hxW;have hB2:=hB2.extB hxW;clear hB1 hB3 s1 s2 s3 d1 hSkW f0 f3 hope hix hcut hval;haveI:=hB2.blt;by_cases her:er=0
    ·subst her;have hpl:pl.length=68:=by rw [hlen rfl]
     rw [hpl] at hSp hcp ⊢;obtain ⟨pb,po,rfl,hpb,_⟩:=hSp.at 0 Zo;have hS2:=jY hSp hcp (show 2<68 from Zo);have hS24:=hS2.take 2 Zo;have l24:((pl.drop 2).take 2).length=2:=by rw [aat,aaJ];omega
     have hg24:=λ W H=>eE (some ⟨pb,po+2,none⟩) 2 (cp-2) ((pl.drop 2).take 2) W H Zo Zo;have j1:(2:Int)<=(cp:Int):=Zo;have j2:(4:Int)<=(cp:Int):=Zo;have j3:4<=cp:=Zo;have j4:2<=cp:=Zo;by_cases hz:(pl.drop 2).take 2=[0,0]
     ·have hz0:=(qu _ l24).2 hz;rw [hz0] at hg24;have HR2:=FC (show cW r l=⟨n64 (cR (pl.take 2)),(pl.drop 4).take 32,(pl.drop 36).take 32,i,0⟩ by rw [HR.out,aae (by simp [hz])]);clear hz hz0 HR l24
      go_wp2_with (first
       | (go_at_call 120;(with_reducible refine (hg24 ?_ ?hq10).mono ?_);(case hq10=>exact sS);rintro e w1 ⟨rfl,hxq⟩;obtain ⟨xq,rfl⟩:=hxq.out;clear hxq)
       | fail)
      have hS4:=jY hSp hcp (show 4<68 from Zo);have hE4:Ext W (W.ext xq):=FE _ _;have hct:∀ V,Sl V (some ⟨pb,po+4,none⟩) 64 (pl.drop 4)->Calls Tryz.prog 122 #[Zy (some ⟨pb,po+4,none⟩) 64 (cp-4), Zz Zx 32] V (vU V 32 32 ((pl.drop 4).take 32) ((pl.drop 4).drop 32)):=λ V H=>uu (some ⟨pb,po+4,none⟩) 64 (cp-4) (pl.drop 4) 32 V H Zo Zo Zo;(with_reducible refine (hct _ (hS4.ext hE4)).mono ?_);rintro e w3 ⟨q1,d1,q2,d2,rfl,hO1,hO2,hx3⟩;rw [abd] at hO2;simp only [Nat.reduceAdd] at hO2;have hx3:=hE4.trans hx3;have hB2:=hB2.extB hx3;have hE3:=hE.trans hx3;have hp1:=hO1.sl;have hp2:Sl w3 q2 32 ((pl.drop 36).take 32):=by rw [aah (by rw [aaJ];omega)];exact hO2.sl
      have hq1:=hO1.le.1;have hq2:=hO2.le.1;have hS02:=(hSp.take 2 Zo).ext hx3;clear hO1 hO2 hE4 hct;haveI:=hB2.blt;have c0:=hB2.cell? 0 rfl;have c1:w3.cell? ⟨w.heap.size+1,1,none⟩=some (Zy none 0 0):=hB2.cell? 1 rfl;have z0:=hB2.free 0;have z1:=hB2.free 1;go_wp2_with fail;have hBs:=(hB2.set 0 (Zy q1 32 d1)).set 1 (Zy q2 32 d2);have hM4:Mut (w.heap.size+1) w3 ((w3.setCell ⟨w.heap.size+1,0,none⟩ (Zy q1 32 d1)).setCell ⟨w.heap.size+1,1,none⟩ (Zy q2 32 d2)):=((Mut.refl _ _).setCell 0 _).setCell 1 _;refine cU ?_;intro W4 hW4;rw [<- hW4] at hBs hM4;clear hW4;have hBs:Blk W4 (w.heap.size+1) 55 [Zy q1 32 d1, Zy q2 32 d2]:=hBs;have hE4:Ext w W4:=E9 hE3 (hM4.below Zo hE3.size);have hp1:=Sl.mut hp1 hB2 Zs hM4;have hp2:=Sl.mut hp2 hB2 Zs hM4;have hS02:=Sl.mut hS02 hB2 Zs hM4;clear hM4 hB2 z0 z1 c0 c1 hS24 hS2 hS4 hg24;obtain ⟨gq,hgq⟩:∃ q,cR (pl.take 2)=q:=⟨_,rfl⟩;have hb02:=pO (pl.take 2) (by rw [aat];omega);have hg02:=λ V H=>eE (some ⟨pb,po,none⟩) 2 cp (pl.take 2) V H Zo Zo;rw [hgq] at hb02 hg02;have hwr:IntKind.i64.wrap (n64 gq)=n64 gq:=by rw [aaO];omega
      haveI:=hBs.blt;have hSE:∀ w',Ext W4 w'->(λ w'=>Blk w' (w.heap.size+1) 55 [Zy q1 32 d1, Zy q2 32 d2]) w':=(λ w' h=>hBs.extB h);have hExt0:Ext W4 (W4).drew:=Ext.drew (FD _);refine aaS (S:=λ w'=>Blk w' (w.heap.size+1) 55 [Zy q1 32 d1, Zy q2 32 d2]) Zk (hSE _ hExt0) (λ hHeld=>?_);refine aap (i:=0) (v:=?v1) rfl Zk Zk Zk (λ _ _ _ h=>h) (Or.inl ⟨by rfl,?hy1⟩) hHeld ?_;(case hy1=>(intro w' hx;simp [go_sem,execOp, *];(try simp (disch:=omega) only [q17q,q18q,q19q]);rfl));(try simp only [q14q,q15q,q16q,Act.put,q0q,q1q,q2q]);refine aap (i:=1) (v:=?v2) rfl Zk Zk Zk (λ _ _ _ h=>h) (Or.inl ⟨by rfl,?hy2⟩) hHeld ?_;(case hy2=>(intro w' hx;simp [go_sem,execOp, *];(try simp (disch:=omega) only [q17q,q18q,q19q]);rfl));(try simp only [q14q,q15q,q16q,Act.put,q0q,q1q,q2q]);refine aap (i:=4) rfl Zk Zk Zk (λ _ _ _ h=>h) (R5.ee RP2 _ rfl rfl (w.heap.size+1) 0 rfl ([.slice q1 32 d1, .slice q2 32 d2]) ((λ w' h=>h.rd)) rfl) hHeld ?_;(try simp only [q14q,q15q,q16q,Act.put,q0q,q1q,q2q]);refine aap (i:=5) (v:=?v4) rfl Zk Zk Zk (λ _ _ _ h=>h) (Or.inl ⟨by rfl,?hy4⟩) hHeld ?_;(case hy4=>(intro w' hx;simp [go_sem,execOp, *];(try simp (disch:=omega) only [q17q,q18q,q19q]);rfl));(try simp only [q14q,q15q,q16q,Act.put,q0q,q1q,q2q]);(refine R5.aT 2 Zk rfl rfl ?_;unfold gives;simp [go_sem,execOp]);(with_reducible refine (hg02 _ (hS02.ext hExt0)).mono ?_);rintro e w5 ⟨rfl,hx5⟩;have hx5:=hExt0.trans hx5;refine ⟨_,rfl,hSE _ hx5,?_⟩;(try simp only [q14q,q15q,q16q,Act.put,q0q,q1q,q2q]);(refine R5.aT 3 Zk rfl rfl ?_;unfold gives;simp [go_sem,execOp]);refine ⟨hSE _ hx5,?_⟩;(try simp only [q14q,q15q,q16q,Act.put,q0q,q1q,q2q]);(refine R5.aT 6 Zk rfl rfl ?_;unfold gives;simp [go_sem,execOp]);refine ⟨hSE _ hx5,?_⟩;(try simp only [q14q,q15q,q16q,Act.put,q0q,q1q,q2q]);refine R5.cI RP2 7 Zk rfl rfl _ _ rfl (w.heap.size+1) 0 rfl [Zy q1 32 d1, Zy q2 32 d2] rfl 55 _ (hSE _ hx5) rfl Zs oC ?_;intro w6 hB6 hM6;have hS6:Blk w6 (w.heap.size+1) 55 [Zy q1 32 d1, Zy q2 32 d2]:=hB6;refine ⟨hS6,?_⟩;(try simp only [q14q,q15q,q16q,Act.put,q0q,q1q,q2q]);(refine R5.aT 8 Zk rfl rfl ?_;unfold gives;simp [go_sem,execOp]);refine ⟨hS6,?_⟩;(try simp only [q14q,q15q,q16q,Act.put,q0q,q1q,q2q]);(refine R5.aT 9 Zk rfl rfl ?_;unfold gives;simp [go_sem,execOp]);refine ⟨hS6,?_⟩;(try simp only [q14q,q15q,q16q,Act.put,q0q,q1q,q2q]);refine abh Zk ?_ _;go_wp2;refine aaa (cL Tryz.results80 RP2 _ _ (w.heap.size+1) 0 [Zy q1 32 d1, Zy q2 32 d2] rfl hS6.rd rfl _ _ _ rfl rfl rfl) rfl ?_;rw [HR2.out,hgq];have hE5:=hE4.trans hx5;have hBk:=hSE _ hx5;exact ⟨_,_,_,_,_,_,(by first|rfl|(rw [hwr];rfl)|(simp only [hwr];rfl)),Sl.mut (hp1.ext hx5) hBk Zs hM6,hq1,Sl.mut (hp2.ext hx5) hBk Zs hM6,hq2,E9 hE5 (hM6.below Zo hE5.size)⟩
     ·have hz0:(n64 (cR ((pl.drop 2).take 2)) != 0)=true:=by rw [aao];exact λ h=>hz ((qu _ l24).1 h)
      generalize n64 (cR ((pl.drop 2).take 2))=q at *
      go_wp2_with (first
       | (go_at_call 120;(with_reducible refine (hg24 ?_ ?hq11).mono ?_);(case hq11=>exact sS);rintro e w1 ⟨rfl,hxq⟩;obtain ⟨xq,rfl⟩:=hxq.out;clear hxq)
       | (refine aa RP2 rfl _ _ rfl (w.heap.size+1) 0 rfl _ rfl 55 _ ((hB2.extB eX)) rfl Zs (by first|exact aH _|(simp;done)|(simp;(repeat' (first|rfl|constructor)))) ?_;intro w9 hB9 hM9)
       | fail)
      refine aaa (cL Tryz.results80 RP2 _ _ (w.heap.size+1) 0 [Zy none 0 0, Zy none 0 0] rfl hB9.rd rfl _ _ _ rfl rfl rfl) rfl ?_;rw [HR.out,aaj (.inr hz)];exact fU.err _ _ _ (nL hE eX hM9 Zo)
    ·have her':=ne0 her
     go_wp2_with (first
      | (refine aa RP2 rfl _ _ rfl (w.heap.size+1) 0 rfl _ rfl 55 _ ((hB2.extB eX)) rfl Zs (by first|exact aH _|(simp;done)|(simp;(repeat' (first|rfl|constructor)))) ?_;intro w9 hB9 hM9)
      | fail)
     refine aaa (cL Tryz.results80 RP2 _ _ (w.heap.size+1) 0 [Zy none 0 0, Zy none 0 0] rfl hB9.rd rfl _ _ _ rfl rfl rfl) rfl ?_;rw [HR.out,aaj (.inl her)];exact fU.err _ _ _ (nL hE eX hM9 Zo)
  ·have e:cW r l=⟨0,[],[],0,3⟩:=by unfold cW;rw [aaj (.inr Zo)]
   rw [e];have hI1:(((nk:Nat):Int) != 104)=true:=by rw [aao];omega
   clear hll e n104
   go_enter Tryz.func80,Tryz.ntmps80
   go_wp2_with (first
    | (go_at_call 57;refine (hval _ (hI.ext eX)).mono ?_;rintro e w1 ⟨rfl,hxq⟩;obtain ⟨xq,rfl⟩:=hxq.out;clear hxq)
    | fail)
   refine aaa (v := .tuple #[Zz Zx 0, .agg #[Zy none 0 0, Zy none 0 0], Zz Zx 0, Zz Zx 3]) (by simp [results,Tryz.results80,go_sem]) rfl ?_;exact fU.err _ _ _ eX
end Go.Proofs.P9

/- The walks of layer 17: size, Size, Find. -/
namespace Go.Proofs.P9
open Go.RowKit Go.Sec Go.Oct Go.Pkt BigFrame
theorem RF2:RowT Tryz.prog 79 2:=⟨⟨_,Tryz.underlying79,rfl⟩,Zk,⟨_,Tryz.zeroValue79,Zk⟩⟩
theorem xJ (n:Nat) {nI:Int} (hn:nI=(n:Int)) (w:World)(h:n<=1000000000) :
  Calls Tryz.prog 168 #[Zz Zx nI] w λ e w'=>e = .returned (Zz Zx (szN n:Nat))/\Ext w w':=by
 subst hn;have e:max (16:Int) ((4+(n:Int)+4-1) / 4*4)=(szN n:Nat):=by unfold szN;omega
 go_enter Tryz.func168,Tryz.ntmps168
 go_wp2;go_ret;exact ⟨by rw [<- e];rfl,eX⟩
theorem xB (f:Fld) (a:E8)(c:Nat) (w:World)(h:f.2.length<=1000000000) :
  Calls Tryz.prog 153 #[.agg #[Zz Zx f.1, Zy a f.2.length c]] w λ e w'=>e = .returned (.tuple #[Zz Zx (cQ f).1, Zz Zx (cQ f).2])/\Ext w w':=by
 obtain ⟨t,l⟩:=f;simp only at h ⊢;have hs:=λ W=>xJ l.length rfl W h;by_cases h1:t<0
 ·have er:=FC (show cQ (t,l)=(0,4) by unfold cQ;rw [aaj (.inl h1)])
  go_enter Tryz.func153,Tryz.ntmps153
  go_wp2_with fail;go_ret2;exact ⟨by rw [er.out];rfl,eX⟩
 ·by_cases h2:65535<t
  ·have er:=FC (show cQ (t,l)=(0,4) by unfold cQ;rw [aaj (.inr h2)])
   go_enter Tryz.func153,Tryz.ntmps153
   go_wp2_with fail;go_ret2;exact ⟨by rw [er.out];rfl,eX⟩
  ·by_cases h3:1232<szN l.length
   ·have er:=FC (show cQ (t,l)=(0,2) by unfold cQ;rw [aae (by simp;omega),aaj h3]);have i3:(1232:Int)<((szN l.length:Nat):Int):=Zo;generalize szN l.length=z at *
    go_enter Tryz.func153,Tryz.ntmps153
    go_wp2_with (first
     | (go_at_call 168;refine (hs _).mono ?_;rintro e w1 ⟨rfl,hxq⟩;obtain ⟨xq,rfl⟩:=hxq.out;clear hxq)
     | fail)
    go_ret2;exact ⟨by rw [er.out];rfl,eX⟩
   ·have er:=FC (show cQ (t,l)=(((szN l.length:Nat):Int),0) by unfold cQ;rw [aae (by simp;omega),aae h3]);have i3:¬ (1232:Int)<((szN l.length:Nat):Int):=Zo;generalize szN l.length=z at *
    go_enter Tryz.func153,Tryz.ntmps153
    go_wp2_with (first
     | (go_at_call 168;refine (hs _).mono ?_;rintro e w1 ⟨rfl,hxq⟩;obtain ⟨xq,rfl⟩:=hxq.out;clear hxq)
     | fail)
    go_ret2;exact ⟨by rw [er.out];rfl,eX⟩
end Go.Proofs.P9

/- The walks of layer 17: Find, the first field of a type. -/
namespace Go.Pkt
open Go.Sec Go.RowKit
theorem rd2 {w:World} {b o:Nat} {v u:Value} (hb:b<w.heap.size) (h1:w.cell? ⟨b,o,none⟩=some v) (h2:w.cell? ⟨b,o+1,none⟩=some u):Rd w (some ⟨b,o,none⟩) [v,u] :=
 .inr ⟨b,o,rfl,hb,λ k x hk=>by
  match k,hk with
  | 0,hk=>simp at hk;subst hk;exact h1
  | 1,hk=>simp at hk;subst hk;exact h2⟩
theorem jm {L:List Fld} {k:Nat} {x:Fld} (h:L[k]?=some x):L.getD k (0,[])=x:=by rw [FF,h];rfl
end Go.Pkt
namespace Go.Proofs.P9
open Go.RowKit Go.Sec Go.Oct Go.Pkt BigFrame
theorem uQ (t:Int) (g:E8)(m c:Nat) (w:World) :
  Calls Tryz.prog 124 #[.agg #[Zz Zx t, Zy g m c]] w λ e w'=>e = .returned (.bool (t == 1028))/\Ext w w':=by
 go_enter Tryz.func124,Tryz.ntmps124
 go_wp2;go_ret;exact ⟨rfl,eX⟩
def jo (k:Int) (L:List Fld):Int:=match e9 k L with|none => -1|some i=>i
theorem va (a:E8)(n c:Nat) (L:List Fld) (w:World)(hI:Ib w a n L) (hn:n<=1000000) :
  Calls Tryz.prog 123 #[Zy a n c, .func (.func 124) #[] #[]] w λ e w'=>e = .returned (Zz Zx (jo 1028 L))/\Ext w w':=by
 have hl:=hI.len
 go_enter Tryz.func123,Tryz.ntmps123
 go_wp2_with fail
 go_loopw [5,8] (λ _ v8 wr=>∃ i:Nat,i<=n/\v8 = Zz Zx i/\Hid (ixs 1028 L i=[])/\Ext w wr) (λ _ v8 _=>n-(intOf v8).toNat)
 case atStart=>exact ⟨0,Zo,rfl,FC rfl,FD _⟩
 case round =>
  obtain ⟨i,hi,rfl,hm,hx⟩:=hrel;by_cases hlt:i<n
  ·obtain ⟨x,hxi⟩:∃ x,L[i]?=some x:=⟨_,List.getElem?_eq_getElem Zo⟩;obtain ⟨b0,o0,g',c',rfl,hb0,hc0,hc1,hSk,hck⟩:=(hI.ext hx).at i hlt _ hxi;have hrd:=rd2 hb0.lt hc0 hc1;have i0:(0:Int)<=(i:Int):=Zo;have i1:(i:Int)<(n:Int):=Zo;have hat:=FC (jm hxi);have hlL:=FC (show i<L.length from Zo);haveI:=hb0
   go_wp2_with (first
    | (refine af RF2 rfl _ rfl b0 (o0+i*2) rfl _ hrd rfl ?_)
    | fail)
   (with_reducible refine (uQ _ _ _ _ _).mono ?_);rintro e w1 ⟨rfl,hx1⟩;by_cases hid:x.1=1028
   ·have hb:(x.1 == 1028)=true:=by simpa using hid
    have HR:=FC (show jo 1028 L=(i:Int) by unfold jo;rw [mU hlL.out hm.out (by rw [hat.out];exact hid)]);clear hid;go_wp2_with fail;go_ret;exact ⟨by rw [HR.out];rfl,hx.trans hx1⟩
   ·have hb:(x.1 == 1028)=false:=by simpa using hid
    have hm2:=FC (show ixs 1028 L (i+1)=[] by rw [mL (by rw [hat.out];exact hid)];exact hm.out);clear hid;go_wp2_with fail;go_roundw
    case rel=>exact ⟨i+1,Zo,Zg,hm2,hx.trans hx1⟩
    case measure=>simp [intOf];omega
  ·obtain rfl:i=n:=by omega
   have HR:=FC (show jo 1028 L = -1 by unfold jo;rw [sD (by rw [hl];exact hm.out)]);go_wp2_with fail;go_ret;exact ⟨by rw [HR.out];rfl,hx⟩
theorem CO:(Tryz.prog.info? 3).map (λ i=>(i.zero,i.size,i.bytes))=some (some (Zz Zx 0),1,8):=Zk
def CG (w:World)(base:Nat) (a:E8)(n c:Nat) (l:List Nat):Prop:=l.length=n/\w.ownsRow base 3 1 (Zy a n c) n (l.map λ i:Nat=>Value.int .i64 i)
def zT (l:List Nat) (w:World)(e:Ending) (w':World):Prop:=∃ a c,e = .returned (Zy a l.length c)/\CG w' w.heap.size a l.length c l/\Ext w w'
theorem xC (k:Int) (a:E8)(n c:Nat) (L:List Fld) (w:World)(hI:Ib w a n L) (hn:n<=1000000) :
  Calls Tryz.prog 130 #[Zy a n c, Zz Zx k] w (zT (ixs k L L.length) w):=by
 have hl:=hI.len;obtain ⟨iI,hi1,hi2,hi3,hi4⟩:=info_parts CO;rw [hl]
 go_enter Tryz.func130,Tryz.ntmps130
 go_wp2_with fail
 go_loopw [5,6,7,10] (λ v5 _ _ v10 wr=>∃ (i:Nat) (sa:E8)(sc:Nat),i<=n/\v10 = Zz Zx i/\v5 = Zy sa (ixs k L i).length sc/\CG wr w.heap.size sa (ixs k L i).length sc (ixs k L i)/\Ext w wr) (λ _ _ _ v10 _=>n-(intOf v10).toNat)
 case atStart=>exact ⟨0,none,0,Zo,rfl,rfl,⟨rfl,abA _ _ _ _⟩,FD _⟩
 case round =>
  obtain ⟨i,sa,sc,hi,rfl,rfl,hO,hx⟩:=hrel;by_cases hlt:i<n
  ·obtain ⟨x,hxi⟩:∃ x,L[i]?=some x:=⟨_,List.getElem?_eq_getElem Zo⟩;obtain ⟨b0,o0,g',c',rfl,hb0,hc0,hc1,hSk,hck⟩:=(hI.ext hx).at i hlt _ hxi;have hrd:=rd2 hb0.lt hc0 hc1;have i0:(0:Int)<=(i:Int):=Zo;have i1:(i:Int)<(n:Int):=Zo;have hat:=FC (jm hxi);have hil:=oW k L i;haveI:=hb0;by_cases hid:x.1=k
   ·have hb:(x.1 == k)=true:=by simpa using hid
    have hy:=FC (show ixs k L (i+1)=ixs k L i++[i] from lL (by rw [hat.out];exact hid));clear hid
    go_wp2_with (first
     | (refine af RF2 rfl _ rfl b0 (o0+i*2) rfl _ hrd rfl ?_)
     | (at_builtin;refine lK rfl _ _ 22 rfl w.heap.size 3 iI (Zz Zx 0) 1 8 Tryz.underlying22 hi1 hi2 hi3 hi4 rfl Zd _ _ _ (jl hO.2 eX) 1 1 rfl (by simp [go_sem]) rfl (by simp [Value.oneCell']) (by unfold maxLen;omega) Zo (Below.size (B:=w.heap.size) eX) ?_;intro sa2 sc2 w2 hO2 hB2)
     | fail)
    go_roundw
    case rel=>exact ⟨i+1,sa2,sc2,Zo,Zg,by rw [hy.out,aag];rfl,by rw [hy.out];exact ⟨Zs,by simpa using hO2⟩,E9 (hx.trans eX) hB2⟩
    case measure=>simp [intOf];omega
   ·have hb:(x.1 == k)=false:=by simpa using hid
    have hy:=FC (show ixs k L (i+1)=ixs k L i from mL (by rw [hat.out];exact hid));clear hid
    go_wp2_with (first
     | (refine af RF2 rfl _ rfl b0 (o0+i*2) rfl _ hrd rfl ?_)
     | fail)
    go_roundw
    case rel=>exact ⟨i+1,sa,sc,Zo,Zg,by rw [hy.out],by rw [hy.out];exact ⟨hO.1,jl hO.2 eX⟩,hx.trans eX⟩
    case measure=>simp [intOf];omega
  ·obtain rfl:i=n:=by omega
   go_wp2_with fail;go_ret;exact ⟨sa,sc,rfl,hO,hx⟩
end Go.Proofs.P9

/- The walks of layer 17: scan, Decode. -/
namespace Go.Pkt
open Go.Sec Go.RowKit
theorem nz {w:World} {b0 o0 n ca i:Nat} {l:E7} (h:Sl w (some ⟨b0,o0,none⟩) n l) (hca:n<=ca) (hi:i<n):Sl w (some ⟨b0,o0+i,none⟩) (n-i) (l.drop i):=by
 exact z27q72
theorem sA (m:Nat) (l:E7)(h:(fh m l).2≠0):(fh m l).1=[]:=by
 by_cases h0:l=[]
 ·subst h0;rw [lM] at h;exact absurd rfl h
 ·by_cases hs:cX l=0
  ·cases m with
   | zero=>rw [kj l h0 hs]
   | succ m =>
    rw [iO m l h0 hs] at h ⊢;unfold qw at h ⊢;split
    ·rename_i h1;rw [aaj h1] at h;exact absurd rfl h
    ·rfl
  ·rw [fg m l h0 hs]
theorem tr (m:Nat) (l:E7):pQ [] (fh m l)=fh m l:=by
 unfold pQ;split
 ·rename_i h;rw [q5q,<- h]
 ·rename_i h;rw [<- sA m l h]
end Go.Pkt
namespace Go.Proofs.P9
open Go.RowKit Go.Sec Go.Oct Go.Pkt BigFrame
theorem Cy:(Tryz.prog.info? 79).map (λ i=>(i.zero,i.size,i.bytes))=some (some (.agg #[Zz Zx 0, Zy none 0 0]),2,32):=Zk
theorem VF:SI Tryz.prog 65 79:=⟨Tryz.underlying65,by obtain ⟨i,h1,h2,h3,h4⟩:=info_parts Cy;exact ⟨i,_,h1,h2,h3,h4,rfl⟩⟩
def jS (base gB:Nat) (A:List Fld) (w:World):Prop:=∃ sa sc,base<=w.heap.size/\Blk w gB 65 [Zy sa A.length sc]/\cf 79 w base sa A.length sc A
theorem jS.ext {base gB:Nat} {A:List Fld} {w w':World} (h:jS base gB A w) (hx:Ext w w'):jS base gB A w':=by
 obtain ⟨sa,sc,h1,h2,h3⟩:=h;exact ⟨sa,sc,aal h1 hx.size,h2.extB hx,h3.ext hx⟩
theorem AE (base gB:Nat) (A:List Fld) (at0 t:Int) (g:E8)(m c:Nat) (l:E7)(w:World)(hF:jS base gB A w) (hS:Sl w g m l) (hc:m<=c) (hi:InT 79 w base g m) (hk:A.length<=1000000) (hg:base<=gB) :
  Calls Tryz.prog 114 #[Zz Zx at0, .agg #[Zz Zx t, Zy g m c], .pointer (some ⟨gB,0,none⟩)] w λ e w'=>e = .returned (.tuple #[])/\jS base gB (A++[(t,l)]) w'/\Below base w w':=by
 obtain ⟨sa,sc,hb,hB,hO⟩:=hF;have f0:=hB.cell? 0 rfl;haveI:=hB.blt
 go_enter Tryz.func114,Tryz.ntmps114
 go_wp2_with (first
  | (at_builtin;refine db VF rfl _ _ rfl base _ A.length sc _ rfl (w.heap.size+1) 1 t g m c l (by simp [go_sem]) (hO.ext eX) (Blk.rd bK) (hS.ext eX) hc (hi.ext eX) hk (by simp;omega) ?_;intro sa' sc' w6 hO6 hg6 hb6;have hB6:=(hB.extB (show Ext w ((w.alloc (.cells #[Zz Zx t, Zy g m c] 79)).alloc (.cells #[Zz Zx t, Zy g m c] 79)) from eX)).grown hg6 (hO.blk hB Zd);have f6:=hB6.cell? 0 rfl;have z6:=hB6.free 0)
  | fail)
 go_end0
 have hM:Mut gB w6 (w6.setCell ⟨gB,0,none⟩ (Zy sa' (A.length+1) sc')):=(Mut.refl _ _).setCell 0 _;have hE:Ext w ((w.alloc (.cells #[Zz Zx t, Zy g m c] 79)).alloc (.cells #[Zz Zx t, Zy g m c] 79)):=eX;have hb:=aal hb hE.size;refine ⟨rfl,⟨sa',sc',aal (aal hb hb6.size) hM.size,?_,?_⟩,E9 (E9 (hE.mono (by have:=hE.size;omega)) hb6) (hM.below hg (aal hb hb6.size))⟩
 ·rw [aag];exact hB6.set 0 _
 ·rw [aag];exact hO6.mut hB6 Zd Zs hM
theorem jS.below {base gB:Nat} {A:List Fld} {w:World} (h:jS base gB A w):base<=w.heap.size:=by obtain ⟨_,_,h1,_⟩:=h;exact h1
def Ap (base gB:Nat) (r:List Fld × Int) (w:World)(e:Ending) (w':World):Prop:=e = .returned (Zz Zx r.2)/\(r.2=0->jS base gB r.1 w')/\Below base w w'
theorem oz (l:E7):n64 (cR ((l.drop 2).take 2))=((dm l:Nat):Int):=by
 unfold n64 dm;rw [fK _ (by simp;omega)]
theorem nW (l:E7):n64 (cR (l.take 2))=((bR (l.take 2):Nat):Int):=by
 unfold n64;rw [fK _ (by simp;omega)]
theorem fM (l:E7):bR (l.take 2)<65536:=by
 have h1:=ki (l.take 2);have h2:(256:Nat) ^ (l.take 2).length<=256 ^ 2:=Nat.pow_le_pow_right Zo (by simp;omega);omega
theorem qB (l:E7):dm l<65536:=fM (l.drop 2)
theorem _root_.z29q15{p:Prop}(h:p:=by
 have er:=FC (show r=([],3) by
  have hs:cX R=3:=by unfold cX;rw [aae Zo,hSz,aaj Zo]
  rw [hm.out,fg _ R hne (by rw [hs];decide),hs];rfl)
 clear hSz hRl hl hR hst;go_wp2_with fail;(with_reducible refine (hget _ hS2).mono ?_);rintro e w5 ⟨rfl,hx5⟩;go_wp2_with fail;go_ret;rw [er.out];exact ⟨rfl,λ h=>(by cases h),E9 hE (hx5.mono hF.below)⟩):p:=h
theorem _root_.z29q39{p:Prop}(h:p:=by
 clear hSz hRl hl hR hst;go_wp2_with fail;(with_reducible refine (hget _ hS2).mono ?_);rintro e w5 ⟨rfl,hx5⟩;go_wp2_with fail;go_ret;rw [er.out];exact ⟨rfl,λ h=>(by cases h),E9 hE (hx5.mono hF.below)⟩):p:=h
theorem wF (base gB:Nat) (a:E8)(n c:Nat) (b:E7)(w:World)(hS:Sl w a n b) (hc:n<=c) (hn:n<=1000000) (hF:jS base gB [] w) (hg:base<=gB) (hlo:∀ W,Below base w W->Sl W a n b) :
  Calls Tryz.prog 113 #[Zy a n c, .func (.func 114) #[] #[.pointer (some ⟨gB,0,none⟩)]] w (Ap base gB (bj b) w):=by
 have hl:=hS.len;by_cases h1:1232<n
 ·have er:=FC (show bj b=([],2) from aaj Zo);have i1:(1232:Int)<(n:Int):=Zo;clear hl
  go_enter Tryz.func113,Tryz.ntmps113
  go_wp2_with fail;go_ret;rw [er.out];exact ⟨rfl,λ h=>(by cases h),Below.refl _ _⟩
 ·have i1:¬ (1232:Int)<(n:Int):=by omega
  obtain ⟨r,hr⟩:∃ r,bj b=r:=⟨_,rfl⟩;have hr24:=FC (show fh 24 b=r by rw [<- hr];exact (aae Zo).symm);rw [hr];clear hr
  go_enter Tryz.func113,Tryz.ntmps113
  go_wp2_with fail
  go_loopw [5,6,7,8] (λ v5 v6 _ _ wr=>∃ (o:Nat) (A:List Fld),o<=n/\A.length<=24/\v5 = Zz Zx o/\v6 = Zz Zx A.length/\Hid (r=pQ A (fh (24-A.length) (b.drop o)))/\jS base gB A wr/\Below base w wr) (λ v5 _ _ _ _=>n-(intOf v5).toNat)
  case atStart=>exact ⟨0,[],Zo,Zs,rfl,rfl,FC (by rw [<- hr24.out];exact (tr _ _).symm),hF,Below.refl _ _⟩
  case round =>
   obtain ⟨o,A,ho,hA,rfl,rfl,hm,hF,hE⟩:=hrel;have hSr:=hlo _ hE;by_cases hlt:o<n
   ·obtain ⟨R,hR⟩:∃ R,b.drop o=R:=⟨_,rfl⟩;have hRl:R.length=n-o:=by rw [<- hR,aaJ,hl]
    have hSR:=hSr.drop c o hc;rw [hR] at hSR hm;obtain ⟨b0,o0,rfl, -, -⟩:=hSr.at 0 Zo;have hAd:dX (some ⟨b0,o0,none⟩) c o 1=some ⟨b0,o0+o,none⟩:=by unfold dX;rw [aae Zo];simp [Addr.add]
    rw [hAd] at hSR;clear hAd;have hne:R≠[]:=λ h=>by rw [h] at hRl;simp at hRl;omega
    have i2:(o:Int)<(n:Int):=Zo;have i3:(o:Int)<=(c:Int):=Zo;have i5:(2:Int)<=((c-o:Nat):Int)\/n-o<4:=Zo;by_cases h4:n-o<4
    ·have i4:((n-o:Nat):Int)<4:=by omega
     have er:=FC (show r=([],1) by
      have hs:cX R=1:=aaj Zo;rw [hm.out,fg _ R hne (by rw [hs];decide),hs];rfl)
     clear i5;go_wp2_with fail;go_ret;rw [er.out];exact ⟨rfl,λ h=>(by cases h),hE⟩
    ·have i4:¬ ((n-o:Nat):Int)<4:=by omega
     have i6:(4:Int)<=((c-o:Nat):Int):=Zo;have i7:(4:Int)<=((n-o:Nat):Int):=Zo;clear i5;have hS2:=(nz hSR (ca:=c-o) Zo (i:=2) Zo).take 2 Zo;have hget:=λ W H=>eE (some ⟨b0,o0+o+2,none⟩) 2 (c-o-2) ((R.drop 2).take 2) W H Zo Zo;rw [oz] at hget;obtain ⟨S,hSz⟩:∃ S,dm R=S:=⟨_,rfl⟩;have hSlt:=qB R;have hst:4<=R.length:=Zo;rw [hSz] at hget hSlt;by_cases hq:S % 4=0
     ·by_cases hq2:S<16
      ·exact z29q15
      ·by_cases hq3:n-o<S
       ·have er:=FC (show r=([],1) by
         have hs:cX R=1:=by unfold cX;rw [aae Zo,hSz,aae Zo,aaj Zo]
         rw [hm.out,fg _ R hne (by rw [hs];decide),hs];rfl)
        have iq3:((n-o:Nat):Int)<(S:Int):=Zo;exact z29q39
       ·have hs:cX R=0:=by unfold cX;rw [aae Zo,hSz,aae Zo,aae Zo]
        have iq3:¬ ((n-o:Nat):Int)<(S:Int):=Zo;by_cases hq4:A.length=24
        ·have er:=FC (show r=([],8) by
          rw [hm.out,hq4,kj R hne hs];rfl)
         have iq4:((A.length:Nat):Int)=24:=Zo;exact z29q39
        ·obtain ⟨q,hq5⟩:∃ q,24-A.length=q+1:=⟨24-A.length-1,Zo⟩;have hm2:=FC (show r=pQ (A++[eD R]) (fh (24-(A++[eD R]).length) (b.drop (o+S))) by
          rw [hm.out,hq5,iO q R hne hs,ri,hSz,aag,<- hR,abd]
          congr 2
          simp;omega)
         have iq4:¬ ((A.length:Nat):Int)=24:=Zo;have hfl:=(mE hs).1;have hfd:(eD R)=(((bR (R.take 2):Nat):Int),(R.take S).drop 4):=by unfold eD;rw [hSz]
         have hS4:=(nz hSR (ca:=c-o) Zo (i:=4) Zo).take (S-4) Zo;rw [hSz] at hfl;have hl4:((R.take S).drop 4).length=S-4:=by rw [hfd] at hfl;simp only at hfl;omega
         rw [<- List.drop_take] at hS4;have hSt:=hSR.take 2 Zo;have hgt:=λ W H=>eE (some ⟨b0,o0+o,none⟩) 2 (c-o) (R.take 2) W H Zo Zo;rw [nW] at hgt;have hTlt:=fM R;rw [hfd] at hm2;clear hfd hfl;generalize bR (R.take 2)=T at *;generalize (R.take S).drop 4=X at *;clear hSz hRl hl hR hst hs hq5;go_wp2_with fail;(with_reducible refine (hget _ hS2).mono ?_);rintro e w5 ⟨rfl,hx5⟩;have hE5:=E9 hE (hx5.mono hF.below);have hF5:=hF.ext hx5;have hSt:=hSt.ext hx5;have hS4:=hS4.ext hx5;have j1:(2:Int)<=((c-o:Nat):Int):=Zo;have j2:(4:Int)<=(S:Int):=Zo;have j3:(S:Int)<=((c-o:Nat):Int):=Zo;have j4:¬ c-o=4:=Zo;go_wp2_with fail;refine R2.ae 11 [[],[],[],[2],[2,3],[2,3,4],[],[],[6,7],[2,3,4,6,7,8],[2,3,4,5,6,7,8,9],[0,1,2,3,4,5,6,7,8,9,10]] [] (λ h=>(h rfl).elim) Zk Zk Zk Zk Zk ?_;simp only [q8q,q9q,q10q,q11q,q12q,q13q];(repeat (refine R2.av ?_;(try simp only [Act.put,q0q,q1q,q2q])));(refine R2.ai (λ _ => Zz Zw ((T:Nat):Int)) (λ _ _=>True) (λ _ _ _ _ _=>trivial) (λ us w' hx hf=>⟨rfl,?_⟩) ?_;(unfold gives;simp [go_sem,execOp];refine (hgt _ (hSt.ext hx)).mono ?_;rintro e w1 ⟨rfl,hx1⟩;first|exact ⟨rfl,hx1⟩|simpa using hx1));(repeat (refine R2.av ?_;(try simp only [Act.put,q0q,q1q,q2q])));(refine R2.ai (λ p => .slice (p 0).1 (S-4) (p 0).2) (λ p w''=>Own w'' 0 (p 0).1 (S-4) (p 0).2 X) (λ p w w' h hx=>h.ext hx) (λ us w' hx hf=>⟨rfl,?_⟩) ?_;(unfold gives;simp [go_sem,execOp];exact az (aak _) (ei (some ⟨b0,o0+o+4,none⟩) (S-4) (c-o-4) X _ (hS4.ext hx) Zo)));(repeat (refine R2.av ?_;(try simp only [Act.put,q0q,q1q,q2q])));(refine R2.aU ?_;intro us x hx hf);obtain ⟨a6,ha6⟩:∃ a,(us 9 0).1=a:=⟨_,rfl⟩;obtain ⟨c6,hc6⟩:∃ a,(us 9 0).2=a:=⟨_,rfl⟩;have hO:=hf;rw [ha6,hc6] at hO ⊢;clear ha6 hc6 hf;have hx6:Ext w5 (w5.ext x):=FE _ _;have hF6:=hF5.ext hx6;have hE6:=E9 hE5 (hx6.mono hF5.below);have hwT:IntKind.i64.wrap ((T:Nat):Int)=(T:Int):=by rw [aaO];omega
         try rw [hwT]
         clear hwT;generalize w5.ext x=w6 at *;go_wp2_with fail;(with_reducible refine (AE base gB A _ _ _ _ _ X w6 hF6 hO.sl hO.le.1 (Own.inT hO Zd) Zo hg).mono ?_);rintro e w7 ⟨rfl,hF7,hE7⟩;go_wp2_with fail;go_roundw
         case rel=>exact ⟨o+S,A++[(((T:Nat):Int),X)],Zo,by simp;omega,Zg,Zs,hm2,hF7,E9 hE6 hE7⟩
         case measure=>simp [intOf];omega
     ·exact z29q15
   ·obtain rfl:o=n:=by omega
    have i2:¬ (o:Int)<(o:Int):=Zo;have er:=FC (show r=(A,0) by rw [hm.out,aaF Zo,lM];simp [pQ]);go_wp2_with fail;go_ret;rw [er.out];exact ⟨rfl,λ _=>hF,hE⟩
def tn (r:List Fld × Int) (w:World)(e:Ending) (w':World):Prop:=∃ a c,e = .returned (.tuple #[Zy a r.1.length c, Zz Zx r.2])/\cf 79 w' w.heap.size a r.1.length c r.1/\Ext w w'
theorem tn.err (w w':World)(e:Int) (hx:Ext w w'):tn ([],e) w (.returned (.tuple #[Zy none 0 0, Zz Zx e])) w':=⟨none,0,rfl,cf.nil _ _ _,hx⟩
theorem m7 (a:E8)(n c:Nat) (b:E7)(w:World)(hS:Sl w a n b) (hc:n<=c) (hn:n<=1000000) :
  Calls Tryz.prog 77 #[Zy a n c] w (tn (bj b) w):=by
 have hl:=hS.len
 go_enter Tryz.func77,Tryz.ntmps77
 go_wp2_with fail;have hx0:Ext w (w.alloc (.cells #[Zy none 0 0] 65)):=FA _ _;have hF:jS w.heap.size w.heap.size [] (w.alloc (.cells #[Zy none 0 0] 65)):=⟨none,0,hx0.size,Blk.new _ _ _,cf.nil _ _ _⟩;(with_reducible refine (wF w.heap.size w.heap.size a n c b _ (hS.ext hx0) hc hn hF (aad _) (λ W hW=>hS.ext (E9 hx0 hW))).mono ?_);rintro e w1 ⟨rfl,hF1,hE1⟩;have hE:=E9 hx0 hE1;by_cases h0:(bj b).2=0
 ·obtain ⟨sa,sc,_,hB,hO⟩:=hF1 h0;have er:=FC (show bj b=((bj b).1,0) by rw [<- h0]);rw [h0];clear hF1 h0;haveI:=hB.blt;have f0:=hB.cell? 0 rfl;go_wp2_with fail;go_ret2;rw [er.out];exact ⟨sa,sc,rfl,hO,hE⟩
 ·have er:=FC (show bj b=([],(bj b).2) by
   have:(bj b).1=[]:=by
    unfold bj at h0 ⊢;split
    ·rfl
    ·rename_i h1;rw [aae h1] at h0;exact sA _ _ h0
   rw [<- this])
  have hne:((bj b).2 != 0)=true:=by rw [aao];exact h0
  clear hF1 h0;generalize (bj b).2=v at *;go_wp2_with fail;go_ret2;rw [er.out];exact tn.err _ _ _ hE
end Go.Proofs.P9
