/- Lemmas of this claim, several texts joined. -/
import Derived.Test.YtmdahnkcnagkjaaGreatZ18
import Derived.Test.YtmdahnkcnagkjaaGreatZ23
import Derived.Test.YtmdahnkcnagkjaaGreatZ24
set_option maxRecDepth 100000
open Go.Value renaming int -> Zz,slice -> Zy
open Go.IntKind renaming i64 -> Zx,u64 -> Zw,u32 -> Zv,u8 -> Zu
open List renaming setIfInBounds_toArray -> q0q, set_cons_succ -> q1q, set_cons_zero -> q2q, nil_append -> q5q, take_succ_cons -> q8q, take_zero -> q9q, drop_succ_cons -> q10q, drop_zero -> q11q, take_nil -> q12q, drop_nil -> q13q
set_option maxHeartbeats 8000000
set_option linter.unusedVariables false
set_option linter.unusedSimpArgs false
/- Layer 4: the stream of the document. -/
namespace Go.Aes
theorem p9 (ks ctr l:E7):ir ks ctr l=(List.range l.length).map (qk ks ctr l):=by
 refine yq (by rw [ec];simp) λ i hi=>?_;have hi':i<l.length:=by simpa using hi
 rw [kO _ _ _ _ hi',bE _ _ hi];simp
theorem Ab (ks ctr l:E7)(q k:Nat) (hk:k<16):qk ks ctr l (16*q+k)=at' l (16*q+k) ^^^ at' (enc ks (rL q ctr)) k:=by
 unfold qk;rw [show (16*q+k) / 16=q from Zo,show (16*q+k) % 16=k by omega]
theorem um {α:Type} (f:Nat->α) (m:Nat):(List.range m).map f++[f m]=(List.range (m+1)).map f:=by
 rw [aaZ,aaK];rfl
end Go.Aes
namespace Go.Sec
open Go.RowKit Go.Aes
theorem Sl.atq {w:World} {a:E8} {n:Nat} {l:E7} (h:Sl w a n l) (k:Nat) (hk:k<n) :
  ∃ b off,a=some ⟨b,off,none⟩/\BlkLt b w/\w.cell? ⟨b,off+k,none⟩=some (Zz Zu (n8 (at' l k))):=by
 obtain ⟨b,off,h1,h2,h3⟩:=h.at k hk;exact ⟨b,off,h1,h2,by rw [bE l k (by have:=h.len;omega)];exact h3⟩
end Go.Sec
namespace Go.Proofs.P9
open Go.RowKit Go.Sec Go.Oct Go.Aes BigFrame
theorem nC (a b c:E8)(ca cb cc n:Nat) (ky ctr l:E7)(w:World)(hk:Sl w a 16 ky) (hcv:Sl w b 16 ctr) (hcb:16<=cb) (hl:Sl w c n l) (hn:n<=65535) :
  Calls Tryz.prog 106 #[Zy a 16 ca, Zy b 16 cb, Zy c n cc] w (bD n (stream ky ctr l) (Zz Zx 0) w):=by
 have hks:(expand ky).length=176:=dd ky 40 hk.len;have hfin:=FC (show stream ky ctr l=(List.range n).map (qk (expand ky) ctr l) by unfold stream;rw [p9,hl.len]);have hes:=FC (λ q k=>Ab (expand ky) ctr l q k);have hp:=λ w h=>nF a ca ky w h;have hpl:=eI (expand ky) Zo;have hen:=λ a c l w h hc=>tP a c (expand ky) l hks w h hc;generalize pre (expand ky)=pk at *;generalize expand ky=ks at *;generalize qk ks ctr l=f at *;have hnI:¬ (65535:Int)<(n:Int):=Zo
 go_enter Tryz.func106,Tryz.ntmps106
 go_wp2_with (first
  | (go_at_call 138;(with_reducible refine (hp ?_ ?hq2).mono ?_);(case hq2=>exact sS);rintro e w1 ⟨rfl,hxq⟩;obtain ⟨xq,rfl⟩:=hxq.out;clear hxq)
  | ((refine ag R84 rfl rfl _ _ rfl rfl rfl rfl (by simp [Act.put]) (pk.map u8v) rfl Zs ((by simpa using hpl)) (aH _) ?_;intro x2 hBx _);have hRx:=hBx.rd;clear hBx)
  | fail)
 obtain ⟨gm,hgm⟩:∃ gm,Hid (gm=(w.ext xq).heap.size):=⟨_,FC rfl⟩;rw [<- hgm.out] at hRx ⊢;have hxx:Ext w ((w.ext xq).ext x2):=eX;have hgw:w.heap.size<=gm:=by rw [hgm.out];exact (FE w xq).size
 have hgl:gm+1<=((w.ext xq).ext x2).heap.size:=by
  have:=hRx.lt (by simp;omega);omega
 go_loopw [1,9,10] (λ v1 v9 v10 wr=>∃ (q i m:Nat) (a1 a9:E8)(c1 c9:Nat),v10 = Zz Zx i/\Hid (i=16*q)/\v1 = Zy a1 16 c1/\16<=c1/\Sl wr a1 16 (rL q ctr)/\v9 = Zy a9 m c9/\m<=n/\m<=i/\(n<=m\/i<=m)/\Sec.Own wr (gm+1) a9 m c9 ((List.range m).map f)/\Off a1 (Value.slice a9 m c9).ownBlock/\Rd wr (some ⟨gm,0,none⟩) (pk.map u8v)/\Ext w wr) (λ _ _ v10 _=>n-(intOf v10).toNat)
 case atStart =>
  refine ⟨0,0,0,_,_,_,_,rfl,FC rfl,rfl,hcb,(show Sl _ b 16 ctr from (by (repeat' (first|with_reducible assumption|(with_reducible exact dE _)|(with_reducible exact bI _ _ _)|(with_reducible first|apply Sl.upE|apply Sl.upA|apply Sl.upD))))),rfl,Zo,Zo,Zo,(fy _).mono hgl,?_,(by (repeat' (first|with_reducible assumption|(with_reducible first|apply Rd.upE|apply Rd.upA|apply Rd.upD)))),eX⟩;exact .lt (N:=w.heap.size) (hcv.lt Zo) (λ g e=>by have e:((w.ext xq).ext x2).heap.size=g:=FG e;omega)
 case round =>
  clear hRx hgl hxx;obtain ⟨q,i,m,a1,a9,c1,c9,rfl,hiq,rfl,hc1,hC,rfl,hmn,hmi,hor,hO,hof,hR,hx⟩:=hrel;have hle0:=hO.le;by_cases hlt:i<n
  ·have hltI:(i:Int)<(n:Int):=by omega
   obtain rfl:i=m:=Zo
   go_wp2_with (first
    | (refine af R84 rfl _ rfl gm 0 rfl (pk.map u8v) hR ((by simpa using hpl)) ?_)
    | fail)
   refine (hen _ _ _ _ hC hc1).mono ?_;rintro e W2 ⟨a2,c2,rfl,hO2,hx2⟩;have hes1:=FC (λ k=>hes.out q k);have hek:=hO2.sl;have hof2:Off a2 (Value.slice a9 i c9).ownBlock := .gt (hO2.ge Zo) (λ g e=>(fS hO.2 g e).2);generalize enc ks (rL q ctr)=ek at *;have hekl:=hek.len;have hxw2:=hx.trans hx2;have hC2:=hC.ext hx2;have hR2:=hR.ext hx2;have hO2':=hO.ext hx2;clear hO2 hx hx2 hC hR hO;go_wp2_with fail
   go_loopw [9,12] (λ v9 v12 wr=>∃ (k m:Nat) (a9:E8)(c9:Nat),k<=16/\v12 = Zz Zx k/\m<=n/\Hid (m=i+k)/\v9 = Zy a9 m c9/\Sec.Own wr (gm+1) a9 m c9 ((List.range m).map f)/\Off a1 (Value.slice a9 m c9).ownBlock/\Off a2 (Value.slice a9 m c9).ownBlock/\Sl wr a1 16 (rL q ctr)/\Sl wr a2 16 ek/\Rd wr (some ⟨gm,0,none⟩) (pk.map u8v)/\Ext w wr) (λ _ v12 _=>16-(intOf v12).toNat)
   case atStart=>exact ⟨0,i,_,_,Zo,rfl,Zo,FC rfl,rfl,hO2',hof,hof2,hC2,hek,hR2,hxw2⟩
   case round =>
    clear hO2' hC2 hek hR2 hxw2 hof hof2;obtain ⟨k,m,a9,c9,hk,rfl,hmn,hm,rfl,hOw,hof1,hof2,hC,hE,hR,hx⟩:=hrel;have hle:=hOw.le;by_cases hkn:k<16/\i+k<n
    ·obtain ⟨hk16,hin⟩:=hkn;have k0:(k:Int)<16:=Zo;have k1:(i:Int)+(k:Int)<(n:Int):=Zo;have k2:(0:Int)<=(i:Int)+(k:Int):=Zo;have k3:(0:Int)<=(k:Int):=Zo;have k4:((i:Int)+(k:Int)).toNat=i+k:=Zo;obtain ⟨b1,o1,rfl,hb1,hc1'⟩:=(hl.ext hx).atq (i+k) hin;obtain ⟨b2,o2,rfl,hb2,hc2'⟩:=hE.atq k hk16;have hv:=FC (show f m=at' l (i+k) ^^^ at' ek k by rw [hm.out,hiq.out];exact hes1.out k hk16);generalize at' l (i+k)=y1 at *;generalize at' ek k=y2 at *;have hxw:=hx;go_wp2;refine R2.ae 13 [[],[],[],[],[2,3],[1,2,3,4],[1,2,3,4,5],[],[],[7,8],[7,8,9],[1,2,3,4,5,6,7,8,9,10],[1,2,3,4,5,6,7,8,9,10,11],[0,1,2,3,4,5,6,7,8,9,10,11,12],[0,1,2,3,4,5,6,7,8,9,10,11,12,13]] [] (λ h=>(h rfl).elim) Zk Zk Zk Zk Zk ?_;simp only [q8q,q9q,q10q,q11q,q12q,q13q];(repeat (refine R2.av ?_;(try simp only [Act.put,q0q,q1q,q2q])));(refine R2.ai (λ p => .slice (p 0).1 1 1) (λ p w''=>Sl w'' (p 0).1 1 [y1 ^^^ y2]) (λ p w w' h hx=>h.ext hx) (λ us w' hx hf=>⟨rfl,?_⟩) ?_;(unfold gives;simp [go_sem,execOp];exact ⟨λ _=>(some ⟨w'.heap.size,0,none⟩,0),rfl,FA _ _,bI _ (y1 ^^^ y2) _⟩));(refine R2.aU ?_;intro us x hx hf);have hbw:gm+1<=(wr.ext x).heap.size:=by
      have:=(hR.ext hx).lt (by simp;omega);omega
     refine iy U rfl _ _ rfl (gm+1) _ _ _ _ rfl _ 1 1 _ rfl (hOw.ext hx) hf Zo hbw ?_;intro sa2 sc2 w3 hOa hga hBa hra;have hOb:Sec.Own w3 (gm+1) sa2 (m+1) sc2 ((List.range (m+1)).map f):=by rw [<- um,hv.out];exact hOa
     have hC3:=(hC.ext hx).grown hga hof1;have hE3:=(hE.ext hx).grown hga hof2;have hR3:=(hR.ext hx).grown hga (.lt (N:=gm+1) (λ b o e=>by injection e with e;injection e;omega) (λ g e=>(fS hOw.2 g e).1));have hof3:=hof1.app ((hC.ext hx).lt Zo) hra;have hof4:=hof2.app ((hE.ext hx).lt Zo) hra;have hx3:Ext w w3:=E9 (hxw.trans hx) (hBa.mono Zo);clear hOa hga hf hBa hra;go_wp2_with fail;go_roundw
     case rel=>exact ⟨k+1,m+1,_,_,Zo,Zg,by have:=hm.out;omega,FC (by have:=hm.out;omega),rfl,hOb,hof3,hof4,hC3,hE3,hR3,hx3⟩
     case measure=>simp [intOf];omega
    ·have e1:m<=i+16:=by have:=hm.out;omega
     have e2:n<=m\/i+16<=m:=by have:=hm.out;omega
     by_cases hk16:k<16
     case' neg=>have k0:¬ (k:Int)<16:=Zo
     case' pos =>
      have k0:(k:Int)<16:=Zo;have k1:¬ (i:Int)+(k:Int)<(n:Int):=Zo
     all_goals
      go_wp2_with (first|(go_at_call 140;(with_reducible refine (wg ?_ ?_ ?_ ?_ ?hq1).mono ?_);(case hq1=>exact sS);rintro e _ ⟨_,_,rfl,hO,hx⟩;obtain ⟨_,rfl⟩:=hx.out;clear hx;have:=Own.le hO;have:=Own.sl hO)|fail)
      go_roundw
      case rel=>exact ⟨q+1,i+16,m,_,a9,_,c9,Zg,FC (by rw [hiq.out];omega),rfl,Zo,(show Sl _ _ 16 (nxt (rL q ctr)) from (by (repeat' (first|with_reducible assumption|(with_reducible exact dE _)|(with_reducible exact bI _ _ _)|(with_reducible first|apply Sl.upE|apply Sl.upA|apply Sl.upD))))),rfl,hmn,e1,e2,(by (repeat' (first|with_reducible assumption|(with_reducible first|apply Own.upE|apply Own.upA|apply Own.upD)))), .gt (hO.ge Zo) (λ g e=>(fS hOw.2 g e).2),(by (repeat' (first|with_reducible assumption|(with_reducible first|apply Rd.upE|apply Rd.upA|apply Rd.upD)))),eX⟩
      case measure=>simp [intOf];omega
  ·obtain rfl:m=n:=by omega
   go_wp2_with fail;go_ret2;exact ⟨_,_,rfl,by rw [hfin.out];exact hO.sl,hle0.1,hx⟩
end Go.Proofs.P9

/- Layer 4: all lengths: Next, Block, Stream, and the round keys. -/
namespace Go.Aes
def Ex (l:E7):E7:=if l.length=16 then nxt l else []
def D7 (ky l:E7):E7 × Int:=if ky.length≠16 then ([],5) else if l.length≠16 then ([],3) else (block ky l,0)
def Dv (ky ctr l:E7):E7 × Int:=if ky.length≠16 then ([],5) else if ctr.length≠16 then ([],3) else if 65535<l.length then ([],2) else (stream ky ctr l,0)
def C4 (ks:E7):List (E7):=(List.range 11).map λ i=>(ks.drop (16*i)).take 16
def Es (ky:E7):List E7 × Int:=if ky.length≠16 then ([],5) else (C4 (expand ky),0)
theorem di (ky ctr l:E7):(stream ky ctr l).length=l.length:=ec _ _ _
end Go.Aes
namespace Go.Proofs.P9
open Go.RowKit Go.Sec Go.Oct Go.Aes BigFrame
theorem aC (v:Value)(w w':World)(hx:Ext w w'):bD 0 [] v w (.returned (.tuple #[Zy none 0 0,v])) w':=⟨_,_,rfl,Sl.nil _ _,aad _,hx⟩
end Go.Proofs.P9

/- Layer 5 at all lengths of keys and lists. -/
namespace Go.Aes
def Dr (l:E7):E7:=if l.length=16 then tw l else []
def De (ky:E7):E7 × E7 × Int:=if ky.length=16 then (fa (expand ky),fj (expand ky),0) else ([],[],5)
def EL (ky l:E7):E7 × Int:=if ky.length=16 then (DI ky l,0) else ([],5)
def Dz (ky:E7)(L:List E7):E7 × Int:=if ky.length=16 then if 17<L.length then ([],8) else (s2v ky L,0) else ([],5)
end Go.Aes
namespace Go.Proofs.P9
open Go.RowKit Go.Sec Go.Oct Go.Aes BigFrame
def Eu (n:Nat) (l:E7)(w:World)(e:Ending) (w':World):Prop:=∃ a c,e = .returned (Zy a n c)/\Sl w' a n l/\n<=c/\Ext w w'
def Ev (n:Nat) (l:E7)(m:Nat) (k:E7)(v:Value)(w:World)(e:Ending) (w':World):Prop :=
 ∃ a c b d,e = .returned (.tuple #[Zy a n c, Zy b m d,v])/\Sl w' a n l/\n<=c/\Sl w' b m k/\m<=d/\Ext w w'
def kz0:List Value := .pointer none :: List.replicate 32 (u8v 0)
def Dq (w:World)(e:Ending) (w':World):Prop:=∃ ks:List Value,e = .returned (.tuple #[.agg ks.toArray, Zz Zx 5])/\ks.length=33/\(∀ v∈ks,v.oneCell'=true)/\Ext w w'
end Go.Proofs.P9

/- Layer 6 as plain functions. No program. -/
namespace Go.Aes
def cY (A:List E7):Bool:=A.any λ x=>decide (65519<x.length)
def aO (ky:E7)(A:List E7):Int:=if ky.length≠32 then 5 else if 16<A.length then 8 else if cY A then 2 else 0
def cK (ky:E7)(A:List E7) (p:E7):E7 × Int :=
 if aO ky A≠0 then ([],aO ky A) else if 65519<p.length then ([],2) else (s2v (ky.take 16) (A++[p]),0)
def dI (t:E7):E7:=(t.set 8 (at' t 8 &&& 127)).set 12 (at' t 12 &&& 127)
def cj (ky:E7)(A:List E7) (p:E7):E7 × Int :=
 if (cK ky A p).2≠0 then ([],(cK ky A p).2) else ((cK ky A p).1++stream (ky.drop 16) (dI (cK ky A p).1) p,0)
def bG (ky s:E7):E7:=stream (ky.drop 16) (dI (s.take 16)) (s.drop 16)
def bL (ky:E7)(A:List E7) (s:E7):E7 × Int :=
 if aO ky A≠0 then ([],aO ky A) else if 65535<s.length then ([],2) else if s.length<16 then ([],1)
 else if (cK ky A (bG ky s)).1=s.take 16 then (bG ky s,0) else ([],6)
theorem yC {A:List (E7)} (h:cY A=false):∀ x∈A,x.length<=65519:=λ x hx=>by
 unfold cY at h;rw [List.any_eq_false] at h;have:=h x hx;simp at this;exact this
theorem gC {ky:E7} {A:List (E7)} (h:aO ky A=0):ky.length=32/\A.length<=16/\∀ x∈A,x.length<=65519:=by
 unfold aO at h;split at h
 ·cases h
 ·split at h
  ·cases h
  ·split at h
   ·cases h
   ·rename_i h1 h2 h3;exact ⟨Zo,Zo,yC (by simpa using h3)⟩
theorem jd {ky:E7} {A:List (E7)} {p:E7} (h:aO ky A=0) (hp:p.length<=65519):cK ky A p=(s2v (ky.take 16) (A++[p]),0):=by
 unfold cK;rw [aae (by rw [h];simp),aae Zo]
theorem od {ky:E7} {A:List (E7)} {p:E7} (h:(cK ky A p).2=0):(cK ky A p).1.length=16/\aO ky A=0/\p.length<=65519:=by
 unfold cK at h ⊢;split at h
 ·rename_i h1;exact absurd h h1
 ·split at h
  ·cases h
  ·rename_i h1 h2;rw [aae h1,aae h2];exact ⟨dG _ _,by simpa using h1,Zo⟩
theorem du {ky s:E7}:(bG ky s).length=s.length-16:=by simp [bG,di]
end Go.Aes

/- Layer 4: the round keys, both ways. -/
namespace Go.Aes
end Go.Aes
namespace Go.Proofs.P9
open Go.RowKit Go.Sec Go.Oct Go.Aes BigFrame
theorem B9:(Tryz.prog.info? 33).map (λ i=>(i.zero,i.size,i.bytes))=some (some (Zy none 0 0),1,24):=Zk
theorem V8:S8 Tryz.prog:=⟨Tryz.underlying37,info_parts B9⟩
def Et (n:Nat) (L:List E7) (v:Value)(w:World)(e:Ending) (w':World):Prop :=
 ∃ a c,e = .returned (.tuple #[Zy a n c,v])/\Bsc w' a n L/\n<=c/\Ext w w'
end Go.Proofs.P9

/- Open undoes Seal: plain functions. No program. -/
namespace Go.Aes
theorem pg {ky:E7} {A:List (E7)} {p:E7} (h:aO ky A=0) (hp:p.length<=65519) :
  cj ky A p=(s2v (ky.take 16) (A++[p])++stream (ky.drop 16) (dI (s2v (ky.take 16) (A++[p]))) p,0):=by
 unfold cj;rw [jd h hp,aae Zs]
theorem oP {ky:E7} {A:List (E7)} {p:E7} (h:aO ky A=0) (hp:p.length<=65519):bL ky A (cj ky A p).1=(p,0):=by
 rw [pg h hp];have ht:=dG (ky.take 16) (A++[p]);generalize hT:s2v (ky.take 16) (A++[p])=t at *;have h1:(t++stream (ky.drop 16) (dI t) p).take 16=t:=by rw [aax Zo,aah Zo]
 have h2:(t++stream (ky.drop 16) (dI t) p).drop 16=stream (ky.drop 16) (dI t) p:=by rw [aa0 Zo,aaF Zo,q5q]
 have h3:bG ky (t++stream (ky.drop 16) (dI t) p)=p:=by
  unfold bG;rw [h1,h2];exact sr _ _ _
 have hsl:=di (ky.drop 16) (dI t) p;unfold bL;rw [aae (by rw [h];simp),aae (by simp [ht,hsl];omega),aae (by simp [ht]),h3,jd h hp,h1,hT,aaj rfl]
end Go.Aes

/- Layers 16 to 18 as plain functions: headers, fields, protected packets. No program. -/
namespace Go.Pkt
open Go.Oct Go.Sec Go.Aes
structure Hdr where
 leap:Int
 ver:Int
 mode:Int
 strat:Int
 poll:Int
 prec:Int
 rd:UInt32
 rp:UInt32
 id:UInt32
 ref:UInt64
 org:UInt64
 rcv:UInt64
 tx:UInt64
deriving DecidableEq
def gW:Hdr:=⟨0,0,0,0,0,0,0,0,0,0,0,0,0⟩
def okH (h:Hdr):Prop:=(0<=h.leap/\h.leap<=3)/\(3<=h.ver/\h.ver<=4)/\(0<=h.mode/\h.mode<=7)/\(0<=h.strat/\h.strat<=255)/\(-128<=h.poll/\h.poll<=127)/\(-128<=h.prec/\h.prec<=127)
instance (h:Hdr):Decidable (okH h):=by unfold okH;infer_instance
def iW (h:Hdr):E7:=[b8 (h.leap*64+h.ver*8+h.mode),b8 h.strat,b8 h.poll,b8 h.prec]
def pA (h:Hdr):E7:=aF 4 h.rd.toUInt64++(aF 4 h.rp.toUInt64++(aF 4 h.id.toUInt64++(aF 8 h.ref++(aF 8 h.org++(aF 8 h.rcv++aF 8 h.tx)))))
def dg (h:Hdr):E7:=iW h++pA h
theorem dB (h:Hdr):(dg h).length=48:=by simp [dg,iW,pA,aw]
def cH (h:Hdr):E7 × Int:=if okH h then (dg h,0) else ([],4)
def sgn (x:UInt8):Int:=if x.toNat<128 then (x.toNat:Int) else (x.toNat:Int)-256
def en (b:E7)(o n:Nat):UInt64:=cR ((b.drop o).take n)
def rdH (b:E7):Hdr:=⟨((b.getD 0 0).toNat / 64:Nat),((b.getD 0 0).toNat / 8 % 8:Nat),((b.getD 0 0).toNat % 8:Nat),((b.getD 1 0).toNat:Nat),sgn (b.getD 2 0),sgn (b.getD 3 0),
 (en b 4 4).toUInt32,(en b 8 4).toUInt32,(en b 12 4).toUInt32,en b 16 8,en b 24 8,en b 32 8,en b 40 8⟩
def bH (b:E7):(Hdr × E7) × Int :=
 if b.length<48 then ((gW,[]),1) else if 1280<b.length then ((gW,[]),2) else if (rdH b).ver=4\/(rdH b).ver=3 then ((rdH b,b.drop 48),0) else ((gW,[]),3)
def bW (t:UInt64):Hdr:=⟨0,4,3,0,6,0,0,0,0,0,0,0,t⟩
theorem nT (t:UInt64):okH (bW t):=by unfold okH bW;simp
def iY (q:Hdr) (s:Int) (r t:UInt64):Hdr × Int :=
 if ¬ okH q then (gW,4) else if q.mode≠3 then (gW,3) else if s<0\/255<s then (gW,4) else (⟨0,q.ver,4,s,q.poll, -20,0,0,0,0,q.tx,r,t⟩,0)
theorem eS {α:Type} (l r:List α) (n:Nat) (h:l.length=n):(l++r).drop n=r:=by subst h;simp
theorem dV {α:Type} (l r:List α) (n:Nat) (h:l.length=n):(l++r).take n=l:=by subst h;simp
theorem iS {α:Type} (l r:List α) (n m:Nat) (h:l.length=n):(l++r).drop (n+m)=r.drop m:=by subst h;rw [List.drop_append];simp
theorem l9 (v:UInt64):cR (aF 8 v)=v:=by
 apply UInt64.toNat_inj.1;rw [fK _ (by rw [aw];omega),lz];exact aaU (by have:=v.toNat_lt;omega)
theorem oV (v:UInt32):(cR (aF 4 v.toUInt64)).toUInt32=v:=by
 apply UInt32.toNat_inj.1;rw [UInt64.toNat_toUInt32,fK _ (by rw [aw];omega),lz,UInt32.toNat_toUInt64];have:=v.toNat_lt;omega
theorem sg (n:Int):(((b8 n).toNat:Nat):Int)=n % 256:=lA n
theorem zh (h:Hdr) (hh:okH h) (r:E7):rdH (dg h++r)=h:=by
 obtain ⟨h1,h2,h3,h4,h5,h6⟩:=hh;have g:∀ o n (A B C:E7),A.length=o->B.length=n->en (A++(B++C)) o n=cR B:=λ o n A B C hA hB=>by
  unfold en;rw [eS _ _ _ hA,dV _ _ _ hB]
 have e:dg h++r=iW h++(aF 4 h.rd.toUInt64++(aF 4 h.rp.toUInt64++(aF 4 h.id.toUInt64++(aF 8 h.ref++(aF 8 h.org++(aF 8 h.rcv++(aF 8 h.tx++r))))))):=by
  simp [dg,pA,aam]
 have l0:(iW h).length=4:=rfl;have k1:en (dg h++r) 4 4=cR (aF 4 h.rd.toUInt64):=by rw [e];exact g _ _ _ _ _ l0 (aw _ _)
 have k2:en (dg h++r) 8 4=cR (aF 4 h.rp.toUInt64):=by rw [e,<- aam];exact g _ _ _ _ _ (by simp [aw,l0]) (aw _ _)
 have k3:en (dg h++r) 12 4=cR (aF 4 h.id.toUInt64):=by rw [e,<- aam,<- aam];exact g _ _ _ _ _ (by simp [aw,l0]) (aw _ _)
 have k4:en (dg h++r) 16 8=cR (aF 8 h.ref):=by rw [e,<- aam,<- aam,<- aam];exact g _ _ _ _ _ (by simp [aw,l0]) (aw _ _)
 have k5:en (dg h++r) 24 8=cR (aF 8 h.org):=by rw [e,<- aam,<- aam,<- aam,<- aam];exact g _ _ _ _ _ (by simp [aw,l0]) (aw _ _)
 have k6:en (dg h++r) 32 8=cR (aF 8 h.rcv):=by rw [e,<- aam,<- aam,<- aam,<- aam,<- aam];exact g _ _ _ _ _ (by simp [aw,l0]) (aw _ _)
 have k7:en (dg h++r) 40 8=cR (aF 8 h.tx):=by rw [e,<- aam,<- aam,<- aam,<- aam,<- aam,<- aam];exact g _ _ _ _ _ (by simp [aw,l0]) (aw _ _)
 unfold rdH;rw [k1,k2,k3,k4,k5,k6,k7,oV,oV,oV,l9,l9,l9,l9,e];have a0:=sg (h.leap*64+h.ver*8+h.mode);have a1:=sg h.strat;have a2:=sg h.poll;have a3:=sg h.prec;have d:∀ k (t:E7),k<4->(iW h++t).getD k 0=(iW h).getD k 0:=λ k t hk=>by
  rw [FF,FF,List.getElem?_append_left (by rw [l0];exact hk)]
 rw [d 0 _ Zo,d 1 _ Zo,d 2 _ Zo,d 3 _ Zo];show Hdr.mk (((b8 (h.leap*64+h.ver*8+h.mode)).toNat / 64:Nat)) (((b8 (h.leap*64+h.ver*8+h.mode)).toNat / 8 % 8:Nat)) (((b8 (h.leap*64+h.ver*8+h.mode)).toNat % 8:Nat)) ((b8 h.strat).toNat:Nat) (sgn (b8 h.poll)) (sgn (b8 h.prec)) _ _ _ _ _ _ _=_;have c1:(((b8 (h.leap*64+h.ver*8+h.mode)).toNat / 64:Nat):Int)=h.leap:=Zo;have c2:(((b8 (h.leap*64+h.ver*8+h.mode)).toNat / 8 % 8:Nat):Int)=h.ver:=Zo;have c3:(((b8 (h.leap*64+h.ver*8+h.mode)).toNat % 8:Nat):Int)=h.mode:=Zo;have c4:((b8 h.strat).toNat:Int)=h.strat:=Zo;have c5:sgn (b8 h.poll)=h.poll:=by unfold sgn;split <;> omega
 have c6:sgn (b8 h.prec)=h.prec:=by unfold sgn;split <;> omega
 rw [c1,c2,c3,c4,c5,c6]
theorem wz (h:Hdr) (hh:okH h) (r:E7)(hr:r.length<=1232):bH (dg h++r)=((h,r),0):=by
 have l:(dg h++r).length=48+r.length:=by rw [aag,dB]
 unfold bH;rw [zh h hh r,aae Zo,aae Zo,aaj (by have:=hh.2.1;omega),eS _ _ _ (dB h)]
/-! ### fields -/
abbrev Fld:=Int × E7
def szN (n:Nat):Nat:=max 16 ((n+7) / 4*4)
theorem AK (n:Nat):szN n % 4=0:=by unfold szN;omega
theorem jM (n:Nat):16<=szN n/\n+4<=szN n:=by unfold szN;omega
def cQ (f:Fld):Int × Int:=if f.1<0\/65535<f.1 then (0,4) else if 1232<szN f.2.length then (0,2) else (szN f.2.length,0)
def dt (f:Fld):E7:=aF 2 (UInt64.ofNat f.1.toNat)++(aF 2 (UInt64.ofNat (szN f.2.length))++(f.2++List.replicate (szN f.2.length-4-f.2.length) 0))
theorem de (f:Fld):(dt f).length=szN f.2.length:=by
 have:=jM f.2.length;simp only [dt,aag,aw,aaL];omega
def fi:List Fld->Int
 | []=>0
 | f :: L=>if (cQ f).2≠0 then (cQ f).2 else fi L
def bf (L:List Fld):Nat:=(L.map λ f=>szN f.2.length).sum
theorem eO (L:List Fld) (f:Fld):bf (L++[f])=bf L+szN f.2.length:=by simp [bf]
theorem mJ (L:List Fld) (f:Fld):bf (f :: L)=szN f.2.length+bf L:=by simp [bf]
def aQ (L:List Fld):E7:=(L.map dt).flatten
theorem jT (L:List Fld) (f:Fld):aQ (L++[f])=aQ L++dt f:=by simp [aQ]
theorem nw (L:List Fld) (f:Fld):aQ (f :: L)=dt f++aQ L:=by simp [aQ]
theorem bO (L:List Fld):(aQ L).length=bf L:=by
 induction L with
 | nil=>rfl
 | cons f L ih=>rw [nw,mJ,aag,de,ih]
def aX (L:List Fld):E7 × Int:=if fi L≠0 then ([],fi L) else if 24<L.length then ([],8) else if 1232<bf L then ([],2) else (aQ L,0)
theorem rM {L:List Fld} (h:(aX L).2=0):fi L=0/\L.length<=24/\bf L<=1232/\aX L=(aQ L,0):=by
 unfold aX at h ⊢;split at h
 ·rename_i h1;exact absurd h h1
 ·rename_i h1;rw [aae h1];split at h
  ·cases h
  ·rename_i h2;rw [aae h2];split at h
   ·cases h
   ·rename_i h3;rw [aae h3];exact ⟨by simpa using h1,Zo,Zo,rfl⟩
theorem vR {L:List Fld} (h:fi L=0):∀ f∈L,(0<=f.1/\f.1<=65535)/\szN f.2.length<=1232:=by
 induction L with
 | nil=>intro f hf;cases hf
 | cons g L ih =>
  rw [fi] at h;split at h
  ·rename_i h1;exact absurd h h1
  ·rename_i h1;intro f hf;rcases abr.1 hf with rfl|hf
   ·unfold cQ at h1;split at h1
    ·exact absurd (show (4:Int)≠0 from Zd) h1
    ·split at h1
     ·exact absurd (show (2:Int)≠0 from Zd) h1
     ·omega
   ·exact ih h f hf
def dm (l:E7):Nat:=bR ((l.drop 2).take 2)
def cX (l:E7):Int:=if l.length<4 then 1 else if dm l % 4≠0\/dm l<16 then 3 else if l.length<dm l then 1 else 0
def eD (l:E7):Fld:=((bR (l.take 2):Nat),(l.take (dm l)).drop 4)
def qw (f:Fld) (r:List Fld × Int):List Fld × Int:=if r.2=0 then (f :: r.1,0) else ([],r.2)
def pQ (A:List Fld) (r:List Fld × Int):List Fld × Int:=if r.2=0 then (A++r.1,0) else ([],r.2)
theorem ri (A:List Fld) (f:Fld) (r:List Fld × Int):pQ A (qw f r)=pQ (A++[f]) r:=by
 unfold pQ qw;by_cases h:r.2=0 <;> simp [h]
def fh:Nat->E7->List Fld × Int
 | 0,l=>if l=[] then ([],0) else if cX l≠0 then ([],cX l) else ([],8)
 | m+1,l=>if l=[] then ([],0) else if cX l≠0 then ([],cX l) else qw (eD l) (fh m (l.drop (dm l)))
def bj (b:E7):List Fld × Int:=if 1232<b.length then ([],2) else fh 24 b
theorem lM (m:Nat):fh m []=([],0):=by cases m <;> simp [fh]
theorem fg (m:Nat) (l:E7)(h:l≠[]) (hs:cX l≠0):fh m l=([],cX l):=by cases m <;> simp [fh,h,hs]
theorem kj (l:E7)(h:l≠[]) (hs:cX l=0):fh 0 l=([],8):=by simp [fh,h,hs]
theorem iO (m:Nat) (l:E7)(h:l≠[]) (hs:cX l=0):fh (m+1) l=qw (eD l) (fh m (l.drop (dm l))):=by simp [fh,h,hs]
theorem sG {l:E7} (h:cX l=0):4<=l.length/\dm l % 4=0/\16<=dm l/\dm l<=l.length:=by
 unfold cX at h;split at h
 ·cases h
 ·split at h
  ·cases h
  ·split at h
   ·cases h
   ·omega
theorem mE {l:E7} (h:cX l=0):(eD l).2.length+4=dm l/\szN (eD l).2.length=dm l:=by
 obtain ⟨h1,h2,h3,h4⟩:=sG h;have e:(eD l).2.length=dm l-4:=by simp only [eD,aaJ,aat];omega
 refine ⟨Zo,?_⟩;unfold szN;omega
theorem Ag:∀ (m:Nat) (l:E7),(fh m l).2=0->bf (fh m l).1=l.length/\(fh m l).1.length<=m/\∀ f∈(fh m l).1,f.2.length % 4=0/\12<=f.2.length/\0<=f.1/\f.1<=65535:=by
 have hty:∀ l:E7,0<=(eD l).1/\(eD l).1<=65535:=λ l=>by
  have h1:=ki (l.take 2);have h2:(256:Nat) ^ (l.take 2).length<=256 ^ 2:=Nat.pow_le_pow_right Zo (by simp;omega);simp only [eD];omega
 intro m
 induction m with
 | zero =>
  intro l h;by_cases h0:l=[]
  ·subst h0;simp [fh,bf]
  ·by_cases hs:cX l=0
   ·rw [kj l h0 hs] at h;cases h
   ·rw [fg 0 l h0 hs] at h;exact absurd h hs
 | succ m ih =>
  intro l h;by_cases h0:l=[]
  ·subst h0;simp [fh,bf]
  ·by_cases hs:cX l=0
   ·rw [iO m l h0 hs] at h ⊢;unfold qw at h ⊢;split at h
    ·rename_i h1;rw [aaj h1];obtain ⟨i1,i2,i3⟩:=ih _ h1;obtain ⟨s1,s2,s3,s4⟩:=sG hs;obtain ⟨f1,f2⟩:=mE hs;refine ⟨?_,by simp;omega,λ f hf=>?_⟩
     ·rw [mJ,i1,f2,aaJ];omega
     ·rcases abr.1 hf with rfl|hf
      ·have:=hty l;exact ⟨Zo,Zo,this.1,this.2⟩
      ·exact i3 f hf
    ·rename_i h1;exact absurd h h1
   ·rw [fg _ l h0 hs] at h;exact absurd h hs
def eQ (f:Fld):Fld:=(f.1,f.2++List.replicate (szN f.2.length-4-f.2.length) 0)
theorem kg (k:Nat) (h:k<65536):bR (aF 2 (UInt64.ofNat k))=k:=by
 rw [lz,aaH];omega
theorem AS (f:Fld) (r:E7)(h0:0<=f.1) (h1:f.1<=65535) (h2:szN f.2.length<=1232) :
  dm (dt f++r)=szN f.2.length/\eD (dt f++r)=eQ f/\cX (dt f++r)=0/\(dt f++r).drop (dm (dt f++r))=r:=by
 have hz:=jM f.2.length;have hm:=AK f.2.length;have e:dt f++r=aF 2 (UInt64.ofNat f.1.toNat)++(aF 2 (UInt64.ofNat (szN f.2.length))++((f.2++List.replicate (szN f.2.length-4-f.2.length) 0)++r)):=by simp [dt,aam]
 have es:dm (dt f++r)=szN f.2.length:=by
  unfold dm;rw [e,eS _ _ _ (aw _ _),dV _ _ _ (aw _ _),kg _ Zo]
 have et:bR ((dt f++r).take 2)=f.1.toNat:=by rw [e,dV _ _ _ (aw _ _),kg _ Zo]
 have el:(dt f++r).length=szN f.2.length+r.length:=by rw [aag,de]
 refine ⟨es,?_,?_,?_⟩
 ·unfold eD;rw [et,es,dV _ _ _ (de f)];unfold dt eQ;rw [show (4:Nat)=2+2 from rfl,iS _ _ 2 2 (aw _ _),eS _ _ _ (aw _ _)]
  congr 1
  omega
 ·unfold cX;rw [aae Zo,es,aae Zo,aae Zo]
 ·rw [es,eS _ _ _ (de f)]
theorem mW:∀ (L:List Fld) (m:Nat),L.length<=m->(∀ f∈L,(0<=f.1/\f.1<=65535)/\szN f.2.length<=1232)->fh m (aQ L)=(L.map eQ,0):=by
 intro L
 induction L with
 | nil=>intro m _ _;exact lM m
 | cons f L ih =>
  intro m hm hf;obtain ⟨k,rfl⟩:∃ k,m=k+1:=⟨m-1,by simp at hm;omega⟩;obtain ⟨⟨a1,a2⟩,a3⟩:=hf f (aa4 ..);obtain ⟨b1,b2,b3,b4⟩:=AS f (aQ L) a1 a2 a3;have hz:=jM f.2.length;have hne:dt f++aQ L≠[]:=λ h=>by
   have:=congrArg List.length h;rw [aag,de,List.length_nil] at this;omega
  rw [nw,iO k _ hne b3,b2,b4,ih k (by simp at hm;omega) (λ g hg=>hf g (List.mem_cons_of_mem _ hg))];rfl
def ixs (k:Int) (L:List Fld) (j:Nat):List Nat:=(List.range j).filter λ i=>decide ((L.getD i (0,[])).1=k)
theorem zG (k:Int) (L:List Fld):ixs k L 0=[]:=rfl
theorem lL {k:Int} {L:List Fld} {j:Nat} (h:(L.getD j (0,[])).1=k):ixs k L (j+1)=ixs k L j++[j]:=by
 unfold ixs;rw [aaZ,List.filter_append];simp only [List.filter_cons,List.filter_nil,h,decide_true,aba]
theorem mL {k:Int} {L:List Fld} {j:Nat} (h:(L.getD j (0,[])).1≠k):ixs k L (j+1)=ixs k L j:=by
 unfold ixs;rw [aaZ,List.filter_append];simp only [List.filter_cons,List.filter_nil,h,decide_false,aaD,abg,List.append_nil]
theorem vN {k:Int} {L:List Fld} {j i:Nat}:i∈ixs k L j ↔ i<j/\(L.getD i (0,[])).1=k:=by
 unfold ixs;simp
theorem yD {k:Int} {L:List Fld} {j i:Nat} (h:i∈ixs k L j):i<j:=(vN.1 h).1
theorem oW (k:Int) (L:List Fld) (j:Nat):(ixs k L j).length<=j:=by
 unfold ixs;have:=List.length_filter_le (λ i=>decide ((L.getD i (0,[])).1=k)) (List.range j);simpa using this
def e9 (k:Int) (L:List Fld):Option Nat:=(ixs k L L.length).head?
theorem AP (k:Int) (L:List Fld) (j d:Nat):∃ r,ixs k L (j+d)=ixs k L j++r:=by
 induction d with
 | zero=>exact ⟨[],Zs⟩
 | succ d ih =>
  obtain ⟨r,hr⟩:=ih;by_cases h:(L.getD (j+d) (0,[])).1=k
  ·exact ⟨r++[j+d],by rw [<- aaY,lL h,hr,aam]⟩
  ·exact ⟨r,by rw [<- aaY,mL h,hr]⟩
theorem mU {k:Int} {L:List Fld} {j:Nat} (hj:j<L.length) (h0:ixs k L j=[]) (h:(L.getD j (0,[])).1=k):e9 k L=some j:=by
 obtain ⟨r,hr⟩:=AP k L (j+1) (L.length-(j+1));rw [show j+1+(L.length-(j+1))=L.length from Zo,lL h,h0] at hr;unfold e9;rw [hr];rfl
theorem sD {k:Int} {L:List Fld} (h0:ixs k L L.length=[]):e9 k L=none:=by unfold e9;rw [h0];rfl
/-! ### protected packets -/
structure Pkt where
 h:Hdr
 plain:List Fld
 secret:List Fld
 guarded:Bool
deriving DecidableEq
def aP:Pkt:=⟨gW,[],[],false⟩
def aZ (h:Hdr) (L:List Fld):E7 × Int:=if (cH h).2≠0 then ([],(cH h).2) else if (aX L).2≠0 then ([],(aX L).2) else ((cH h).1++(aX L).1,0)
def cG (p:Pkt):E7 × Int:=if (aZ p.h p.plain).2≠0 then ([],(aZ p.h p.plain).2) else if p.secret≠[]\/p.guarded=true then ([],3) else aZ p.h p.plain
def aA (n s:E7):E7:=aF 2 (UInt64.ofNat n.length)++(aF 2 (UInt64.ofNat s.length)++(gD n 4++gD s 4))
def cz (ky:E7)(p:Pkt) (nonce:E7):E7 × Int :=
 if ky.length≠32 then ([],5) else if nonce.length<16\/32<nonce.length then ([],4)
 else if (aZ p.h p.plain).2≠0 then ([],(aZ p.h p.plain).2) else if (aX p.secret).2≠0 then ([],(aX p.secret).2)
 else if ixs 1028 p.plain p.plain.length≠[] then ([],3) else if 24<=p.plain.length then ([],8)
 else if (aX [(1028,aA nonce (cj ky [(aZ p.h p.plain).1,nonce] (aX p.secret).1).1)]).2≠0\/1280<(aZ p.h p.plain).1.length+(aX [(1028,aA nonce (cj ky [(aZ p.h p.plain).1,nonce] (aX p.secret).1).1)]).1.length then ([],2)
 else ((aZ p.h p.plain).1++(aX [(1028,aA nonce (cj ky [(aZ p.h p.plain).1,nonce] (aX p.secret).1).1)]).1,0)
def aE (b:E7):Pkt × Int:=if (bH b).2≠0 then (aP,(bH b).2) else if (bj (bH b).1.2).2≠0 then (aP,(bj (bH b).1.2).2) else (⟨(bH b).1.1,(bj (bH b).1.2).1,[],false⟩,0)
def aG (n:Nat):Nat:=(n+3) / 4*4
def cZ (d:E7):Option (E7 × E7) :=
 let n:=bR (d.take 2)
 let m:=bR ((d.drop 2).take 2)
 let nonce:=(d.drop 4).take n
 let s:=(d.drop (4+aG n)).take m
 if 4<=d.length/\(16<=n/\n<=32)/\d.length=4+aG n+aG m/\aA nonce s=d then some (nonce,s) else none
def cV (ky b:E7):Pkt × Int :=
 if ky.length≠32 then (aP,5) else if (aE b).2≠0 then (aP,(aE b).2) else
 match e9 1028 (aE b).1.plain with
 | none=>(aP,10)
 | some i=>if i+1≠(aE b).1.plain.length then (aP,3) else
  match cZ ((aE b).1.plain.getD i (0,[])).2 with
  | none=>(aP,3)
  | some (nonce,s) =>
   if (bL ky [b.take (b.length-((aE b).1.plain.getD i (0,[])).2.length-4),nonce] s).2≠0 then (aP,6)
   else if (bj (bL ky [b.take (b.length-((aE b).1.plain.getD i (0,[])).2.length-4),nonce] s).1).2≠0 then (aP,(bj (bL ky [b.take (b.length-((aE b).1.plain.getD i (0,[])).2.length-4),nonce] s).1).2)
   else (⟨(aE b).1.h,(aE b).1.plain.take i,(bj (bL ky [b.take (b.length-((aE b).1.plain.getD i (0,[])).2.length-4),nonce] s).1).1,true⟩,0)
end Go.Pkt

/- The walks of layer 16: Valid, Encode, Ask. -/
namespace Go.Pkt
def inR (x lo hi:Int):Bool:=decide (lo<=x/\x<=hi)
theorem js {x lo hi:Int} (h:lo<=x/\x<=hi):inR x lo hi=true:=aav h
theorem jL {x lo hi:Int} (h:¬ (lo<=x/\x<=hi)):inR x lo hi=false:=aay h
end Go.Pkt
namespace Go.Proofs.P9
open Go.RowKit Go.Sec Go.Oct Go.Pkt BigFrame
theorem aJ:RowT Tryz.prog 64 13:=⟨⟨_,Tryz.underlying64,rfl⟩,Zk,⟨_,Tryz.zeroValue64,Zk⟩⟩
theorem jk (x lo hi:Int) (w:World) :
  Calls Tryz.prog 171 #[Zz Zx x, Zz Zx lo, Zz Zx hi] w λ e w'=>e = .returned (.bool (inR x lo hi))/\Ext w w':=by
 by_cases h1:lo<=x
 ·by_cases h2:x<=hi
  ·have e:=FC (js ⟨h1,h2⟩)
   go_enter Tryz.func171,Tryz.ntmps171
   go_wp2;go_ret;exact ⟨by rw [e.out];rfl,eX⟩
  ·have e:=FC (jL (λ h=>h2 h.2:¬ (lo<=x/\x<=hi)))
   go_enter Tryz.func171,Tryz.ntmps171
   go_wp2;go_ret;exact ⟨by rw [e.out];rfl,eX⟩
 ·have e:=FC (jL (λ h=>h1 h.1:¬ (lo<=x/\x<=hi)))
  go_enter Tryz.func171,Tryz.ntmps171
  go_wp2;go_ret;exact ⟨by rw [e.out];rfl,eX⟩
theorem kY (h:Hdr) (w:World) :
  Calls Tryz.prog 161 #[.agg #[Zz Zx h.leap, Zz Zx h.ver, Zz Zx h.mode, Zz Zx h.strat, Zz Zx h.poll, Zz Zx h.prec, Zz Zv (n32 h.rd), Zz Zv (n32 h.rp), Zz Zv (n32 h.id), Zz Zw (n64 h.ref), Zz Zw (n64 h.org), Zz Zw (n64 h.rcv), Zz Zw (n64 h.tx)]] w λ e w'=>e = .returned (Zz Zx (cH h).2)/\Ext w w':=by
 obtain ⟨r,hr⟩:∃ r,(cH h).2=r:=⟨_,rfl⟩;rw [hr];have hok:okH h->r=0:=λ k=>by rw [<- hr];unfold cH;rw [aaj k]
 have hno:¬ okH h->r=4:=λ k=>by rw [<- hr];unfold cH;rw [aae k]
 clear hr;by_cases c1:0<=h.leap/\h.leap<=3
 ·have i1:=js c1;by_cases c2:3<=h.ver/\h.ver<=4
  ·have i2:=js c2;by_cases c3:0<=h.mode/\h.mode<=7
   ·have i3:=js c3;by_cases c4:0<=h.strat/\h.strat<=255
    ·have i4:=js c4;by_cases c5 : -128<=h.poll/\h.poll<=127
     ·have i5:=js c5;by_cases c6 : -128<=h.prec/\h.prec<=127
      ·have i6:=js c6;have e:=FC (hok ⟨c1,c2,c3,c4,c5,c6⟩);clear c1 c2 c3 c4 c5 c6 hok hno
       go_enter Tryz.func161,Tryz.ntmps161
       go_wp2_with (first
        | (go_at_call 171;refine (jk _ _ _ _).mono ?_;rintro e w1 ⟨rfl,hxq⟩;obtain ⟨xq,rfl⟩:=hxq.out;clear hxq)
        | fail)
       go_ret;exact ⟨by rw [e.out];rfl,eX⟩
      ·have i6:=jL c6;have e:=FC (hno λ k=>c6 k.2.2.2.2.2);clear c1 c2 c3 c4 c5 c6 hok hno
       go_enter Tryz.func161,Tryz.ntmps161
       go_wp2_with (first
        | (go_at_call 171;refine (jk _ _ _ _).mono ?_;rintro e w1 ⟨rfl,hxq⟩;obtain ⟨xq,rfl⟩:=hxq.out;clear hxq)
        | fail)
       go_ret;exact ⟨by rw [e.out];rfl,eX⟩
     ·have i5:=jL c5;have e:=FC (hno λ k=>c5 k.2.2.2.2.1);clear c1 c2 c3 c4 c5 hok hno
      go_enter Tryz.func161,Tryz.ntmps161
      go_wp2_with (first
       | (go_at_call 171;refine (jk _ _ _ _).mono ?_;rintro e w1 ⟨rfl,hxq⟩;obtain ⟨xq,rfl⟩:=hxq.out;clear hxq)
       | fail)
      go_ret;exact ⟨by rw [e.out];rfl,eX⟩
    ·have i4:=jL c4;have e:=FC (hno λ k=>c4 k.2.2.2.1);clear c1 c2 c3 c4 hok hno
     go_enter Tryz.func161,Tryz.ntmps161
     go_wp2_with (first
      | (go_at_call 171;refine (jk _ _ _ _).mono ?_;rintro e w1 ⟨rfl,hxq⟩;obtain ⟨xq,rfl⟩:=hxq.out;clear hxq)
      | fail)
     go_ret;exact ⟨by rw [e.out];rfl,eX⟩
   ·have i3:=jL c3;have e:=FC (hno λ k=>c3 k.2.2.1);clear c1 c2 c3 hok hno
    go_enter Tryz.func161,Tryz.ntmps161
    go_wp2_with (first
     | (go_at_call 171;refine (jk _ _ _ _).mono ?_;rintro e w1 ⟨rfl,hxq⟩;obtain ⟨xq,rfl⟩:=hxq.out;clear hxq)
     | fail)
    go_ret;exact ⟨by rw [e.out];rfl,eX⟩
  ·have i2:=jL c2;have e:=FC (hno λ k=>c2 k.2.1);clear c1 c2 hok hno
   go_enter Tryz.func161,Tryz.ntmps161
   go_wp2_with (first
    | (go_at_call 171;refine (jk _ _ _ _).mono ?_;rintro e w1 ⟨rfl,hxq⟩;obtain ⟨xq,rfl⟩:=hxq.out;clear hxq)
    | fail)
   go_ret;exact ⟨by rw [e.out];rfl,eX⟩
 ·have i1:=jL c1;have e:=FC (hno λ k=>c1 k.1);clear c1 hok hno
  go_enter Tryz.func161,Tryz.ntmps161
  go_wp2_with (first
   | (go_at_call 171;refine (jk _ _ _ _).mono ?_;rintro e w1 ⟨rfl,hxq⟩;obtain ⟨xq,rfl⟩:=hxq.out;clear hxq)
   | fail)
  go_ret;exact ⟨by rw [e.out];rfl,eX⟩
end Go.Proofs.P9
