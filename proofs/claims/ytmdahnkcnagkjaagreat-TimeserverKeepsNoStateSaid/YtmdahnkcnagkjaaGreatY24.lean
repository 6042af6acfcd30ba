/- Lemmas of this claim, several texts joined. -/
import Derived.Test.YtmdahnkcnagkjaaGreatY1
import Derived.Test.YtmdahnkcnagkjaaGreatY4
import Derived.Test.YtmdahnkcnagkjaaGreatY6
import Derived.Test.YtmdahnkcnagkjaaGreatY8
import Derived.Test.YtmdahnkcnagkjaaGreatY9
import Derived.Test.YtmdahnkcnagkjaaGreatY10
import Derived.Test.YtmdahnkcnagkjaaGreatY14
import Derived.Test.YtmdahnkcnagkjaaGreatY16
import Derived.Test.YtmdahnkcnagkjaaGreatY18
import Derived.Test.YtmdahnkcnagkjaaGreatY22
import Derived.Test.YtmdahnkcnagkjaaGreatY23
set_option maxRecDepth 100000
open Go.Value renaming int -> Zz,slice -> Zy
open Go.IntKind renaming i64 -> Zx,u64 -> Zw,u32 -> Zv,u8 -> Zu
open List renaming setIfInBounds_toArray -> q0q, set_cons_succ -> q1q, set_cons_zero -> q2q, mem_cons -> q3q, not_mem_nil -> q4q, nil_append -> q5q, cons_append -> q6q, mem_append -> q7q, take_succ_cons -> q8q, take_zero -> q9q, drop_succ_cons -> q10q, drop_zero -> q11q, take_nil -> q12q, drop_nil -> q13q
open Go.IntWalk renaming i64_in -> q17q, rem_in -> q18q, wrap64_in -> q19q
set_option maxHeartbeats 8000000
set_option linter.unusedVariables false
set_option linter.unusedSimpArgs false
/- Layer 4: the stream of the document. -/
namespace Go.Aes
theorem pS (ks ctr l:List UInt8):ic ks ctr l=(List.range l.length).map (pO ks ctr l):=by
 refine zd (by rw [dV];simp) λ i hi=>?_;have hi':i<l.length:=by simpa using hi
 rw [lr _ _ _ _ hi',bw _ _ hi];simp
theorem zM (ks ctr l:List UInt8)(q k:Nat) (hk:k<16):pO ks ctr l (16*q+k)=at' l (16*q+k) ^^^ at' (enc ks (rE q ctr)) k:=by
 unfold pO;rw [show (16*q+k) / 16=q from Zo,show (16*q+k) % 16=k by omega]
theorem uS {α:Type} (f:Nat->α) (m:Nat):(List.range m).map f++[f m]=(List.range (m+1)).map f:=by
 rw [aa7,aaP];rfl
end Go.Aes
namespace Go.Sec
open Go.RowKit Go.Aes
theorem Sl.atq {w:World} {a:Option Addr} {n:Nat} {l:List UInt8} (h:Sl w a n l) (k:Nat) (hk:k<n) :
  ∃ b off,a=some ⟨b,off,none⟩/\BlkLt b w/\w.cell? ⟨b,off+k,none⟩=some (Zz Zu (n8 (at' l k))):=by
 obtain ⟨b,off,h1,h2,h3⟩:=h.at k hk;exact ⟨b,off,h1,h2,by rw [bw l k (by have:=h.len;omega)];exact h3⟩
end Go.Sec
namespace Go.Proofs.YtmdahnkcnagkjaaGreat
open Go.RowKit Go.Sec Go.Oct Go.Aes BigFrame
theorem mK (a b c:Option Addr)(ca cb cc n:Nat) (ky ctr l:List UInt8)(w:World)(hk:Sl w a 16 ky) (hcv:Sl w b 16 ctr) (hcb:16<=cb) (hl:Sl w c n l) (hn:n<=65535) :
  Calls Tryz.prog 106 #[Zy a 16 ca, Zy b 16 cb, Zy c n cc] w (bJ n (stream ky ctr l) (Zz Zx 0) w):=by
 have hks:(expand ky).length=176:=dg ky 40 hk.len;have hfin:=Lib.hid (show stream ky ctr l=(List.range n).map (pO (expand ky) ctr l) by unfold stream;rw [pS,hl.len]);have hes:=Lib.hid (λ q k=>zM (expand ky) ctr l q k);have hp:=λ w h=>mU a ca ky w h;have hpl:=eH (expand ky) Zo;have hen:=λ a c l w h hc=>tl a c (expand ky) l hks w h hc;generalize pre (expand ky)=pk at *;generalize expand ky=ks at *;generalize pO ks ctr l=f at *;have hnI:¬ (65535:Int)<(n:Int):=Zo
 go_enter Tryz.func106,Tryz.ntmps106
 go_wp2_with (first
  | (go_at_call 138;(with_reducible refine (hp ?_ ?hq2).mono ?_);(case hq2=>exact sS);rintro e w1 ⟨rfl,hxq⟩;obtain ⟨xq,rfl⟩:=hxq.out;clear hxq)
  | ((refine ag R84 rfl rfl _ _ rfl rfl rfl rfl (by simp [Act.put]) (pk.map u8v) rfl Zs ((by simpa using hpl)) (aK _) ?_;intro x2 hBx _);have hRx:=hBx.rd;clear hBx)
  | fail)
 obtain ⟨gm,hgm⟩:∃ gm,Hid (gm=(w.ext xq).heap.size):=⟨_,Lib.hid rfl⟩;rw [<- hgm.out] at hRx ⊢;have hxx:Ext w ((w.ext xq).ext x2):=eX;have hgw:w.heap.size<=gm:=by rw [hgm.out];exact (Ext.of_ext w xq).size
 have hgl:gm+1<=((w.ext xq).ext x2).heap.size:=by
  have:=hRx.lt (by simp;omega);omega
 go_loopw [1,9,10] (λ v1 v9 v10 wr=>∃ (q i m:Nat) (a1 a9:Option Addr)(c1 c9:Nat),v10 = Zz Zx i/\Hid (i=16*q)/\v1 = Zy a1 16 c1/\16<=c1/\Sl wr a1 16 (rE q ctr)/\v9 = Zy a9 m c9/\m<=n/\m<=i/\(n<=m\/i<=m)/\Sec.Own wr (gm+1) a9 m c9 ((List.range m).map f)/\Off a1 (Value.slice a9 m c9).ownBlock/\Rd wr (some ⟨gm,0,none⟩) (pk.map u8v)/\Ext w wr) (λ _ _ v10 _=>n-(intOf v10).toNat)
 case atStart =>
  refine ⟨0,0,0,_,_,_,_,rfl,Lib.hid rfl,rfl,hcb,(show Sl _ b 16 ctr from (by (repeat' (first|with_reducible assumption|(with_reducible exact dG _)|(with_reducible exact bO _ _ _)|(with_reducible first|apply Sl.upE|apply Sl.upA|apply Sl.upD))))),rfl,Zo,Zo,Zo,(fD _).mono hgl,?_,(by (repeat' (first|with_reducible assumption|(with_reducible first|apply Rd.upE|apply Rd.upA|apply Rd.upD)))),eX⟩;exact .lt (N:=w.heap.size) (hcv.lt Zo) (λ g e=>by have e:((w.ext xq).ext x2).heap.size=g:=Option.some.inj e;omega)
 case round =>
  clear hRx hgl hxx;obtain ⟨q,i,m,a1,a9,c1,c9,rfl,hiq,rfl,hc1,hC,rfl,hmn,hmi,hor,hO,hof,hR,hx⟩:=hrel;have hle0:=hO.le;by_cases hlt:i<n
  ·have hltI:(i:Int)<(n:Int):=by omega
   obtain rfl:i=m:=Zo
   go_wp2_with (first
    | (refine af R84 rfl _ rfl gm 0 rfl (pk.map u8v) hR ((by simpa using hpl)) ?_)
    | fail)
   refine (hen _ _ _ _ hC hc1).mono ?_;rintro e W2 ⟨a2,c2,rfl,hO2,hx2⟩;have hes1:=Lib.hid (λ k=>hes.out q k);have hek:=hO2.sl;have hof2:Off a2 (Value.slice a9 i c9).ownBlock := .gt (hO2.ge Zo) (λ g e=>(fv hO.2 g e).2);generalize enc ks (rE q ctr)=ek at *;have hekl:=hek.len;have hxw2:=hx.trans hx2;have hC2:=hC.ext hx2;have hR2:=hR.ext hx2;have hO2':=hO.ext hx2;clear hO2 hx hx2 hC hR hO;go_wp2_with fail
   go_loopw [9,12] (λ v9 v12 wr=>∃ (k m:Nat) (a9:Option Addr)(c9:Nat),k<=16/\v12 = Zz Zx k/\m<=n/\Hid (m=i+k)/\v9 = Zy a9 m c9/\Sec.Own wr (gm+1) a9 m c9 ((List.range m).map f)/\Off a1 (Value.slice a9 m c9).ownBlock/\Off a2 (Value.slice a9 m c9).ownBlock/\Sl wr a1 16 (rE q ctr)/\Sl wr a2 16 ek/\Rd wr (some ⟨gm,0,none⟩) (pk.map u8v)/\Ext w wr) (λ _ v12 _=>16-(intOf v12).toNat)
   case atStart=>exact ⟨0,i,_,_,Zo,rfl,Zo,Lib.hid rfl,rfl,hO2',hof,hof2,hC2,hek,hR2,hxw2⟩
   case round =>
    clear hO2' hC2 hek hR2 hxw2 hof hof2;obtain ⟨k,m,a9,c9,hk,rfl,hmn,hm,rfl,hOw,hof1,hof2,hC,hE,hR,hx⟩:=hrel;have hle:=hOw.le;by_cases hkn:k<16/\i+k<n
    ·obtain ⟨hk16,hin⟩:=hkn;have k0:(k:Int)<16:=Zo;have k1:(i:Int)+(k:Int)<(n:Int):=Zo;have k2:(0:Int)<=(i:Int)+(k:Int):=Zo;have k3:(0:Int)<=(k:Int):=Zo;have k4:((i:Int)+(k:Int)).toNat=i+k:=Zo;obtain ⟨b1,o1,rfl,hb1,hc1'⟩:=(hl.ext hx).atq (i+k) hin;obtain ⟨b2,o2,rfl,hb2,hc2'⟩:=hE.atq k hk16;have hv:=Lib.hid (show f m=at' l (i+k) ^^^ at' ek k by rw [hm.out,hiq.out];exact hes1.out k hk16);generalize at' l (i+k)=y1 at *;generalize at' ek k=y2 at *;have hxw:=hx;go_wp2;refine ae 13 [[],[],[],[],[2,3],[1,2,3,4],[1,2,3,4,5],[],[],[7,8],[7,8,9],[1,2,3,4,5,6,7,8,9,10],[1,2,3,4,5,6,7,8,9,10,11],[0,1,2,3,4,5,6,7,8,9,10,11,12],[0,1,2,3,4,5,6,7,8,9,10,11,12,13]] Zk Zk Zk Zk ?_;simp only [q8q,q9q,q10q,q11q,q12q,q13q];(repeat (apply aj;(case h=>(intro us w' hx hf;obtain ⟨x,rfl⟩:=hx.out;refine ⟨rfl,?_⟩;simp [go_sem,execOp, *];(try simp (disch:=omega) only [q17q,q18q,q19q]);rfl));(try simp only [Act.put,q0q,q1q,q2q])));(refine ao (λ p => .slice (p 0).1 1 1) (λ p w''=>Sl w'' (p 0).1 1 [y1 ^^^ y2]) (λ p w w' h hx=>h.ext hx) (λ us w' hx hf=>⟨rfl,?_⟩) ?_;(unfold gives;simp [go_sem,execOp];exact ⟨λ _=>(some ⟨w'.heap.size,0,none⟩,0),rfl,Ext.of_alloc _ _,bO _ (y1 ^^^ y2) _⟩));(refine aB ?_;intro us w' hx hf;obtain ⟨x,rfl⟩:=hx.out;(try simp only [Act.put,q0q,q1q,q2q,ai]);(try simp only [q3q,q4q,aar,aac,aan,q5q,q6q,q7q,aat,aau,aav] at hf);(try simp only [Nat.reduceAdd,aag] at hf ⊢));have hbw:gm+1<=(wr.ext x).heap.size:=by
      have:=(hR.ext hx).lt (by simp;omega);omega
     refine gW U rfl _ _ rfl (gm+1) _ _ _ _ rfl _ 1 1 _ rfl (hOw.ext hx) hf Zo hbw ?_;intro sa2 sc2 w3 hOa hga hBa hra;have hOb:Sec.Own w3 (gm+1) sa2 (m+1) sc2 ((List.range (m+1)).map f):=by rw [<- uS,hv.out];exact hOa
     have hC3:=(hC.ext hx).grown hga hof1;have hE3:=(hE.ext hx).grown hga hof2;have hR3:=(hR.ext hx).grown hga (.lt (N:=gm+1) (λ b o e=>by injection e with e;injection e;omega) (λ g e=>(fv hOw.2 g e).1));have hof3:=hof1.app ((hC.ext hx).lt Zo) hra;have hof4:=hof2.app ((hE.ext hx).lt Zo) hra;have hx3:Ext w w3:=Below.trans (hxw.trans hx) (hBa.mono Zo);clear hOa hga hf hBa hra;go_wp2_with fail;go_roundw
     case rel=>exact ⟨k+1,m+1,_,_,Zo,Zg,by have:=hm.out;omega,Lib.hid (by have:=hm.out;omega),rfl,hOb,hof3,hof4,hC3,hE3,hR3,hx3⟩
     case measure=>simp [intOf];omega
    ·have e1:m<=i+16:=by have:=hm.out;omega
     have e2:n<=m\/i+16<=m:=by have:=hm.out;omega
     by_cases hk16:k<16
     case' neg=>have k0:¬ (k:Int)<16:=Zo
     case' pos =>
      have k0:(k:Int)<16:=Zo;have k1:¬ (i:Int)+(k:Int)<(n:Int):=Zo
     all_goals
      go_wp2_with (first|(go_at_call 140;(with_reducible refine (xt ?_ ?_ ?_ ?_ ?hq1).mono ?_);(case hq1=>exact sS);rintro e _ ⟨_,_,rfl,hO,hx⟩;obtain ⟨_,rfl⟩:=hx.out;clear hx;have:=Own.le hO;have:=Own.sl hO)|fail)
      go_roundw
      case rel=>exact ⟨q+1,i+16,m,_,a9,_,c9,Zg,Lib.hid (by rw [hiq.out];omega),rfl,Zo,(show Sl _ _ 16 (nxt (rE q ctr)) from (by (repeat' (first|with_reducible assumption|(with_reducible exact dG _)|(with_reducible exact bO _ _ _)|(with_reducible first|apply Sl.upE|apply Sl.upA|apply Sl.upD))))),rfl,hmn,e1,e2,(by (repeat' (first|with_reducible assumption|(with_reducible first|apply Own.upE|apply Own.upA|apply Own.upD)))), .gt (hO.ge Zo) (λ g e=>(fv hOw.2 g e).2),(by (repeat' (first|with_reducible assumption|(with_reducible first|apply Rd.upE|apply Rd.upA|apply Rd.upD)))),eX⟩
      case measure=>simp [intOf];omega
  ·obtain rfl:m=n:=by omega
   go_wp2_with fail;go_ret2;exact ⟨_,_,rfl,by rw [hfin.out];exact hO.sl,hle0.1,hx⟩
end Go.Proofs.YtmdahnkcnagkjaaGreat

/- Layer 4: all lengths: Next, Block, Stream, and the round keys. -/
namespace Go.Aes
def D6 (l:List UInt8):List UInt8:=if l.length=16 then nxt l else []
def Dx (ky l:List UInt8):List UInt8 × Int:=if ky.length≠16 then ([],5) else if l.length≠16 then ([],3) else (block ky l,0)
def Dc (ky ctr l:List UInt8):List UInt8 × Int:=if ky.length≠16 then ([],5) else if ctr.length≠16 then ([],3) else if 65535<l.length then ([],2) else (stream ky ctr l,0)
def CZ (ks:List UInt8):List (List UInt8):=(List.range 11).map λ i=>(ks.drop (16*i)).take 16
def Ee (ky:List UInt8):List (List UInt8) × Int:=if ky.length≠16 then ([],5) else (CZ (expand ky),0)
theorem cO (ky ctr l:List UInt8):(stream ky ctr l).length=l.length:=dV _ _ _
end Go.Aes
namespace Go.Proofs.YtmdahnkcnagkjaaGreat
open Go.RowKit Go.Sec Go.Oct Go.Aes BigFrame
theorem aF (v:Value)(w w':World)(hx:Ext w w'):bJ 0 [] v w (.returned (.tuple #[Zy none 0 0,v])) w':=⟨_,_,rfl,Sl.nil _ _,aae _,hx⟩
end Go.Proofs.YtmdahnkcnagkjaaGreat

/- Layer 5 at all lengths of keys and lists. -/
namespace Go.Aes
def C9 (l:List UInt8):List UInt8:=if l.length=16 then tw l else []
def Cy (ky:List UInt8):List UInt8 × List UInt8 × Int:=if ky.length=16 then (eU (expand ky),fh (expand ky),0) else ([],[],5)
def D4 (ky l:List UInt8):List UInt8 × Int:=if ky.length=16 then (DJ ky l,0) else ([],5)
def Db (ky:List UInt8)(L:List (List UInt8)):List UInt8 × Int:=if ky.length=16 then if 17<L.length then ([],8) else (s2v ky L,0) else ([],5)
end Go.Aes
namespace Go.Proofs.YtmdahnkcnagkjaaGreat
open Go.RowKit Go.Sec Go.Oct Go.Aes BigFrame
def Ec (n:Nat) (l:List UInt8)(w:World)(e:Ending) (w':World):Prop:=∃ a c,e = .returned (Zy a n c)/\Sl w' a n l/\n<=c/\Ext w w'
def Em (n:Nat) (l:List UInt8)(m:Nat) (k:List UInt8)(v:Value)(w:World)(e:Ending) (w':World):Prop :=
 ∃ a c b d,e = .returned (.tuple #[Zy a n c, Zy b m d,v])/\Sl w' a n l/\n<=c/\Sl w' b m k/\m<=d/\Ext w w'
def kz0:List Value := .pointer none :: List.replicate 32 (u8v 0)
def Dg (w:World)(e:Ending) (w':World):Prop:=∃ ks:List Value,e = .returned (.tuple #[.agg ks.toArray, Zz Zx 5])/\ks.length=33/\(∀ v∈ks,v.oneCell'=true)/\Ext w w'
end Go.Proofs.YtmdahnkcnagkjaaGreat

/- Layer 6 as plain functions. No program. -/
namespace Go.Aes
def cX (A:List (List UInt8)):Bool:=A.any λ x=>decide (65519<x.length)
def aP (ky:List UInt8)(A:List (List UInt8)):Int:=if ky.length≠32 then 5 else if 16<A.length then 8 else if cX A then 2 else 0
def cG (ky:List UInt8)(A:List (List UInt8)) (p:List UInt8):List UInt8 × Int :=
 if aP ky A≠0 then ([],aP ky A) else if 65519<p.length then ([],2) else (s2v (ky.take 16) (A++[p]),0)
def dK (t:List UInt8):List UInt8:=(t.set 8 (at' t 8 &&& 127)).set 12 (at' t 12 &&& 127)
def bI (ky:List UInt8)(A:List (List UInt8)) (p:List UInt8):List UInt8 × Int :=
 if (cG ky A p).2≠0 then ([],(cG ky A p).2) else ((cG ky A p).1++stream (ky.drop 16) (dK (cG ky A p).1) p,0)
def bE (ky s:List UInt8):List UInt8:=stream (ky.drop 16) (dK (s.take 16)) (s.drop 16)
def bH (ky:List UInt8)(A:List (List UInt8)) (s:List UInt8):List UInt8 × Int :=
 if aP ky A≠0 then ([],aP ky A) else if 65535<s.length then ([],2) else if s.length<16 then ([],1)
 else if (cG ky A (bE ky s)).1=s.take 16 then (bE ky s,0) else ([],6)
theorem xK {A:List (List UInt8)} (h:cX A=false):∀ x∈A,x.length<=65519:=λ x hx=>by
 unfold cX at h;rw [List.any_eq_false] at h;have:=h x hx;simp at this;exact this
theorem gr {ky:List UInt8} {A:List (List UInt8)} (h:aP ky A=0):ky.length=32/\A.length<=16/\∀ x∈A,x.length<=65519:=by
 unfold aP at h;split at h
 ·cases h
 ·split at h
  ·cases h
  ·split at h
   ·cases h
   ·rename_i h1 h2 h3;exact ⟨Zo,Zo,xK (by simpa using h3)⟩
theorem jb {ky:List UInt8} {A:List (List UInt8)} {p:List UInt8} (h:aP ky A=0) (hp:p.length<=65519):cG ky A p=(s2v (ky.take 16) (A++[p]),0):=by
 unfold cG;rw [aaf (by rw [h];simp),aaf Zo]
theorem py {ky:List UInt8} {A:List (List UInt8)} {p:List UInt8} (h:(cG ky A p).2=0):(cG ky A p).1.length=16/\aP ky A=0/\p.length<=65519:=by
 unfold cG at h ⊢;split at h
 ·rename_i h1;exact absurd h h1
 ·split at h
  ·cases h
  ·rename_i h1 h2;rw [aaf h1,aaf h2];exact ⟨dr _ _,by simpa using h1,Zo⟩
theorem dA {ky s:List UInt8}:(bE ky s).length=s.length-16:=by simp [bE,cO]
end Go.Aes

/- Layer 4: the round keys, both ways. -/
namespace Go.Aes
end Go.Aes
namespace Go.Proofs.YtmdahnkcnagkjaaGreat
open Go.RowKit Go.Sec Go.Oct Go.Aes BigFrame
theorem Bi:(Tryz.prog.info? 33).map (λ i=>(i.zero,i.size,i.bytes))=some (some (Zy none 0 0),1,24):=Zk
theorem V8:S8 Tryz.prog:=⟨Tryz.underlying37,info_parts Bi⟩
def D7 (n:Nat) (L:List (List UInt8)) (v:Value)(w:World)(e:Ending) (w':World):Prop :=
 ∃ a c,e = .returned (.tuple #[Zy a n c,v])/\Bsc w' a n L/\n<=c/\Ext w w'
end Go.Proofs.YtmdahnkcnagkjaaGreat

/- Open undoes Seal: plain functions. No program. -/
namespace Go.Aes
theorem oW {ky:List UInt8} {A:List (List UInt8)} {p:List UInt8} (h:aP ky A=0) (hp:p.length<=65519) :
  bI ky A p=(s2v (ky.take 16) (A++[p])++stream (ky.drop 16) (dK (s2v (ky.take 16) (A++[p]))) p,0):=by
 unfold bI;rw [jb h hp,aaf Zs]
theorem nQ {ky:List UInt8} {A:List (List UInt8)} {p:List UInt8} (h:aP ky A=0) (hp:p.length<=65519):bH ky A (bI ky A p).1=(p,0):=by
 rw [oW h hp];have ht:=dr (ky.take 16) (A++[p]);generalize hT:s2v (ky.take 16) (A++[p])=t at *;have h1:(t++stream (ky.drop 16) (dK t) p).take 16=t:=by rw [aaD Zo,aak Zo]
 have h2:(t++stream (ky.drop 16) (dK t) p).drop 16=stream (ky.drop 16) (dK t) p:=by rw [aa9 Zo,aaK Zo,q5q]
 have h3:bE ky (t++stream (ky.drop 16) (dK t) p)=p:=by
  unfold bE;rw [h1,h2];exact ru _ _ _
 have hsl:=cO (ky.drop 16) (dK t) p;unfold bH;rw [aaf (by rw [h];simp),aaf (by simp [ht,hsl];omega),aaf (by simp [ht]),h3,jb h hp,h1,hT,aal rfl]
end Go.Aes

/- Layers 16 to 18 as plain functions: headers, fields, protected packets. No program. -/
namespace Go.Pkt
open Go.Oct Go.Sec Go.Aes
structure Hdr where
 leap:Int
 ver:Int
 mode:Int
 strat:Int
 poll:Int
 prec:Int
 rd:UInt32
 rp:UInt32
 id:UInt32
 ref:UInt64
 org:UInt64
 rcv:UInt64
 tx:UInt64
deriving DecidableEq
def gX:Hdr:=⟨0,0,0,0,0,0,0,0,0,0,0,0,0⟩
def okH (h:Hdr):Prop:=(0<=h.leap/\h.leap<=3)/\(3<=h.ver/\h.ver<=4)/\(0<=h.mode/\h.mode<=7)/\(0<=h.strat/\h.strat<=255)/\(-128<=h.poll/\h.poll<=127)/\(-128<=h.prec/\h.prec<=127)
instance (h:Hdr):Decidable (okH h):=by unfold okH;infer_instance
def iS (h:Hdr):List UInt8:=[b8 (h.leap*64+h.ver*8+h.mode),b8 h.strat,b8 h.poll,b8 h.prec]
def pB (h:Hdr):List UInt8:=aH 4 h.rd.toUInt64++(aH 4 h.rp.toUInt64++(aH 4 h.id.toUInt64++(aH 8 h.ref++(aH 8 h.org++(aH 8 h.rcv++aH 8 h.tx)))))
def cJ (h:Hdr):List UInt8:=iS h++pB h
theorem cH (h:Hdr):(cJ h).length=48:=by simp [cJ,iS,pB,az]
def cC (h:Hdr):List UInt8 × Int:=if okH h then (cJ h,0) else ([],4)
def sgn (x:UInt8):Int:=if x.toNat<128 then (x.toNat:Int) else (x.toNat:Int)-256
def ey (b:List UInt8)(o n:Nat):UInt64:=dy ((b.drop o).take n)
def rdH (b:List UInt8):Hdr:=⟨((b.getD 0 0).toNat / 64:Nat),((b.getD 0 0).toNat / 8 % 8:Nat),((b.getD 0 0).toNat % 8:Nat),((b.getD 1 0).toNat:Nat),sgn (b.getD 2 0),sgn (b.getD 3 0),
 (ey b 4 4).toUInt32,(ey b 8 4).toUInt32,(ey b 12 4).toUInt32,ey b 16 8,ey b 24 8,ey b 32 8,ey b 40 8⟩
def bD (b:List UInt8):(Hdr × List UInt8) × Int :=
 if b.length<48 then ((gX,[]),1) else if 1280<b.length then ((gX,[]),2) else if (rdH b).ver=4\/(rdH b).ver=3 then ((rdH b,b.drop 48),0) else ((gX,[]),3)
def bW (t:UInt64):Hdr:=⟨0,4,3,0,6,0,0,0,0,0,0,0,t⟩
theorem lK (t:UInt64):okH (bW t):=by unfold okH bW;simp
def jV (q:Hdr) (s:Int) (r t:UInt64):Hdr × Int :=
 if ¬ okH q then (gX,4) else if q.mode≠3 then (gX,3) else if s<0\/255<s then (gX,4) else (⟨0,q.ver,4,s,q.poll, -20,0,0,0,0,q.tx,r,t⟩,0)
theorem eZ {α:Type} (l r:List α) (n:Nat) (h:l.length=n):(l++r).drop n=r:=by subst h;simp
theorem ee {α:Type} (l r:List α) (n:Nat) (h:l.length=n):(l++r).take n=l:=by subst h;simp
theorem iE {α:Type} (l r:List α) (n m:Nat) (h:l.length=n):(l++r).drop (n+m)=r.drop m:=by subst h;rw [List.drop_append];simp
theorem lB (v:UInt64):dy (aH 8 v)=v:=by
 apply UInt64.toNat_inj.1;rw [fK _ (by rw [az];omega),lO];exact aa2 (by have:=v.toNat_lt;omega)
theorem oO (v:UInt32):(dy (aH 4 v.toUInt64)).toUInt32=v:=by
 apply UInt32.toNat_inj.1;rw [UInt64.toNat_toUInt32,fK _ (by rw [az];omega),lO,UInt32.toNat_toUInt64];have:=v.toNat_lt;omega
theorem rm (n:Int):(((b8 n).toNat:Nat):Int)=n % 256:=nq n
theorem xN (h:Hdr) (hh:okH h) (r:List UInt8):rdH (cJ h++r)=h:=by
 obtain ⟨h1,h2,h3,h4,h5,h6⟩:=hh;have g:∀ o n (A B C:List UInt8),A.length=o->B.length=n->ey (A++(B++C)) o n=dy B:=λ o n A B C hA hB=>by
  unfold ey;rw [eZ _ _ _ hA,ee _ _ _ hB]
 have e:cJ h++r=iS h++(aH 4 h.rd.toUInt64++(aH 4 h.rp.toUInt64++(aH 4 h.id.toUInt64++(aH 8 h.ref++(aH 8 h.org++(aH 8 h.rcv++(aH 8 h.tx++r))))))):=by
  simp [cJ,pB,aao]
 have l0:(iS h).length=4:=rfl;have k1:ey (cJ h++r) 4 4=dy (aH 4 h.rd.toUInt64):=by rw [e];exact g _ _ _ _ _ l0 (az _ _)
 have k2:ey (cJ h++r) 8 4=dy (aH 4 h.rp.toUInt64):=by rw [e,<- aao];exact g _ _ _ _ _ (by simp [az,l0]) (az _ _)
 have k3:ey (cJ h++r) 12 4=dy (aH 4 h.id.toUInt64):=by rw [e,<- aao,<- aao];exact g _ _ _ _ _ (by simp [az,l0]) (az _ _)
 have k4:ey (cJ h++r) 16 8=dy (aH 8 h.ref):=by rw [e,<- aao,<- aao,<- aao];exact g _ _ _ _ _ (by simp [az,l0]) (az _ _)
 have k5:ey (cJ h++r) 24 8=dy (aH 8 h.org):=by rw [e,<- aao,<- aao,<- aao,<- aao];exact g _ _ _ _ _ (by simp [az,l0]) (az _ _)
 have k6:ey (cJ h++r) 32 8=dy (aH 8 h.rcv):=by rw [e,<- aao,<- aao,<- aao,<- aao,<- aao];exact g _ _ _ _ _ (by simp [az,l0]) (az _ _)
 have k7:ey (cJ h++r) 40 8=dy (aH 8 h.tx):=by rw [e,<- aao,<- aao,<- aao,<- aao,<- aao,<- aao];exact g _ _ _ _ _ (by simp [az,l0]) (az _ _)
 unfold rdH;rw [k1,k2,k3,k4,k5,k6,k7,oO,oO,oO,lB,lB,lB,lB,e];have a0:=rm (h.leap*64+h.ver*8+h.mode);have a1:=rm h.strat;have a2:=rm h.poll;have a3:=rm h.prec;have d:∀ k (t:List UInt8),k<4->(iS h++t).getD k 0=(iS h).getD k 0:=λ k t hk=>by
  rw [List.getD_eq_getElem?_getD,List.getD_eq_getElem?_getD,List.getElem?_append_left (by rw [l0];exact hk)]
 rw [d 0 _ Zo,d 1 _ Zo,d 2 _ Zo,d 3 _ Zo];show Hdr.mk (((b8 (h.leap*64+h.ver*8+h.mode)).toNat / 64:Nat)) (((b8 (h.leap*64+h.ver*8+h.mode)).toNat / 8 % 8:Nat)) (((b8 (h.leap*64+h.ver*8+h.mode)).toNat % 8:Nat)) ((b8 h.strat).toNat:Nat) (sgn (b8 h.poll)) (sgn (b8 h.prec)) _ _ _ _ _ _ _=_;have c1:(((b8 (h.leap*64+h.ver*8+h.mode)).toNat / 64:Nat):Int)=h.leap:=Zo;have c2:(((b8 (h.leap*64+h.ver*8+h.mode)).toNat / 8 % 8:Nat):Int)=h.ver:=Zo;have c3:(((b8 (h.leap*64+h.ver*8+h.mode)).toNat % 8:Nat):Int)=h.mode:=Zo;have c4:((b8 h.strat).toNat:Int)=h.strat:=Zo;have c5:sgn (b8 h.poll)=h.poll:=by unfold sgn;split <;> omega
 have c6:sgn (b8 h.prec)=h.prec:=by unfold sgn;split <;> omega
 rw [c1,c2,c3,c4,c5,c6]
theorem qB (h:Hdr) (hh:okH h) (r:List UInt8)(hr:r.length<=1232):bD (cJ h++r)=((h,r),0):=by
 have l:(cJ h++r).length=48+r.length:=by rw [aah,cH]
 unfold bD;rw [xN h hh r,aaf Zo,aaf Zo,aal (by have:=hh.2.1;omega),eZ _ _ _ (cH h)]
/-! ### fields -/
abbrev Fld:=Int × List UInt8
def szN (n:Nat):Nat:=max 16 ((n+7) / 4*4)
theorem AE (n:Nat):szN n % 4=0:=by unfold szN;omega
theorem jW (n:Nat):16<=szN n/\n+4<=szN n:=by unfold szN;omega
def cR (f:Fld):Int × Int:=if f.1<0\/65535<f.1 then (0,4) else if 1232<szN f.2.length then (0,2) else (szN f.2.length,0)
def dt (f:Fld):List UInt8:=aH 2 (UInt64.ofNat f.1.toNat)++(aH 2 (UInt64.ofNat (szN f.2.length))++(f.2++List.replicate (szN f.2.length-4-f.2.length) 0))
theorem di (f:Fld):(dt f).length=szN f.2.length:=by
 have:=jW f.2.length;simp only [dt,aah,az,aaQ];omega
def fj:List Fld->Int
 | []=>0
 | f :: L=>if (cR f).2≠0 then (cR f).2 else fj L
def aL (L:List Fld):Nat:=(L.map λ f=>szN f.2.length).sum
theorem eM (L:List Fld) (f:Fld):aL (L++[f])=aL L+szN f.2.length:=by simp [aL]
theorem fp (L:List Fld) (f:Fld):aL (f :: L)=szN f.2.length+aL L:=by simp [aL]
def aT (L:List Fld):List UInt8:=(L.map dt).flatten
theorem jT (L:List Fld) (f:Fld):aT (L++[f])=aT L++dt f:=by simp [aT]
theorem na (L:List Fld) (f:Fld):aT (f :: L)=dt f++aT L:=by simp [aT]
theorem bf (L:List Fld):(aT L).length=aL L:=by
 induction L with
 | nil=>rfl
 | cons f L ih=>rw [na,fp,aah,di,ih]
def aO (L:List Fld):List UInt8 × Int:=if fj L≠0 then ([],fj L) else if 24<L.length then ([],8) else if 1232<aL L then ([],2) else (aT L,0)
theorem lU {L:List Fld} (h:(aO L).2=0):fj L=0/\L.length<=24/\aL L<=1232/\aO L=(aT L,0):=by
 unfold aO at h ⊢;split at h
 ·rename_i h1;exact absurd h h1
 ·rename_i h1;rw [aaf h1];split at h
  ·cases h
  ·rename_i h2;rw [aaf h2];split at h
   ·cases h
   ·rename_i h3;rw [aaf h3];exact ⟨by simpa using h1,Zo,Zo,rfl⟩
theorem vd {L:List Fld} (h:fj L=0):∀ f∈L,(0<=f.1/\f.1<=65535)/\szN f.2.length<=1232:=by
 induction L with
 | nil=>intro f hf;cases hf
 | cons g L ih =>
  rw [fj] at h;split at h
  ·rename_i h1;exact absurd h h1
  ·rename_i h1;intro f hf;rcases abv.1 hf with rfl|hf
   ·unfold cR at h1;split at h1
    ·exact absurd (show (4:Int)≠0 from Zd) h1
    ·split at h1
     ·exact absurd (show (2:Int)≠0 from Zd) h1
     ·omega
   ·exact ih h f hf
def dk (l:List UInt8):Nat:=bR ((l.drop 2).take 2)
def cY (l:List UInt8):Int:=if l.length<4 then 1 else if dk l % 4≠0\/dk l<16 then 3 else if l.length<dk l then 1 else 0
def eE (l:List UInt8):Fld:=((bR (l.take 2):Nat),(l.take (dk l)).drop 4)
def pU (f:Fld) (r:List Fld × Int):List Fld × Int:=if r.2=0 then (f :: r.1,0) else ([],r.2)
def nO (A:List Fld) (r:List Fld × Int):List Fld × Int:=if r.2=0 then (A++r.1,0) else ([],r.2)
theorem qv (A:List Fld) (f:Fld) (r:List Fld × Int):nO A (pU f r)=nO (A++[f]) r:=by
 unfold nO pU;by_cases h:r.2=0 <;> simp [h]
def fi:Nat->List UInt8->List Fld × Int
 | 0,l=>if l=[] then ([],0) else if cY l≠0 then ([],cY l) else ([],8)
 | m+1,l=>if l=[] then ([],0) else if cY l≠0 then ([],cY l) else pU (eE l) (fi m (l.drop (dk l)))
def bj (b:List UInt8):List Fld × Int:=if 1232<b.length then ([],2) else fi 24 b
theorem lR (m:Nat):fi m []=([],0):=by cases m <;> simp [fi]
theorem fb (m:Nat) (l:List UInt8)(h:l≠[]) (hs:cY l≠0):fi m l=([],cY l):=by cases m <;> simp [fi,h,hs]
theorem ki (l:List UInt8)(h:l≠[]) (hs:cY l=0):fi 0 l=([],8):=by simp [fi,h,hs]
theorem iG (m:Nat) (l:List UInt8)(h:l≠[]) (hs:cY l=0):fi (m+1) l=pU (eE l) (fi m (l.drop (dk l))):=by simp [fi,h,hs]
theorem sx {l:List UInt8} (h:cY l=0):4<=l.length/\dk l % 4=0/\16<=dk l/\dk l<=l.length:=by
 unfold cY at h;split at h
 ·cases h
 ·split at h
  ·cases h
  ·split at h
   ·cases h
   ·omega
theorem mC {l:List UInt8} (h:cY l=0):(eE l).2.length+4=dk l/\szN (eE l).2.length=dk l:=by
 obtain ⟨h1,h2,h3,h4⟩:=sx h;have e:(eE l).2.length=dk l-4:=by simp only [eE,aaR,aaF];omega
 refine ⟨Zo,?_⟩;unfold szN;omega
theorem zS:∀ (m:Nat) (l:List UInt8),(fi m l).2=0->aL (fi m l).1=l.length/\(fi m l).1.length<=m/\∀ f∈(fi m l).1,f.2.length % 4=0/\12<=f.2.length/\0<=f.1/\f.1<=65535:=by
 have hty:∀ l:List UInt8,0<=(eE l).1/\(eE l).1<=65535:=λ l=>by
  have h1:=ke (l.take 2);have h2:(256:Nat) ^ (l.take 2).length<=256 ^ 2:=Nat.pow_le_pow_right Zo (by simp;omega);simp only [eE];omega
 intro m
 induction m with
 | zero =>
  intro l h;by_cases h0:l=[]
  ·subst h0;simp [fi,aL]
  ·by_cases hs:cY l=0
   ·rw [ki l h0 hs] at h;cases h
   ·rw [fb 0 l h0 hs] at h;exact absurd h hs
 | succ m ih =>
  intro l h;by_cases h0:l=[]
  ·subst h0;simp [fi,aL]
  ·by_cases hs:cY l=0
   ·rw [iG m l h0 hs] at h ⊢;unfold pU at h ⊢;split at h
    ·rename_i h1;rw [aal h1];obtain ⟨i1,i2,i3⟩:=ih _ h1;obtain ⟨s1,s2,s3,s4⟩:=sx hs;obtain ⟨f1,f2⟩:=mC hs;refine ⟨?_,by simp;omega,λ f hf=>?_⟩
     ·rw [fp,i1,f2,aaR];omega
     ·rcases abv.1 hf with rfl|hf
      ·have:=hty l;exact ⟨Zo,Zo,this.1,this.2⟩
      ·exact i3 f hf
    ·rename_i h1;exact absurd h h1
   ·rw [fb _ l h0 hs] at h;exact absurd h hs
def eP (f:Fld):Fld:=(f.1,f.2++List.replicate (szN f.2.length-4-f.2.length) 0)
theorem kb (k:Nat) (h:k<65536):bR (aH 2 (UInt64.ofNat k))=k:=by
 rw [lO,aaO];omega
theorem Aj (f:Fld) (r:List UInt8)(h0:0<=f.1) (h1:f.1<=65535) (h2:szN f.2.length<=1232) :
  dk (dt f++r)=szN f.2.length/\eE (dt f++r)=eP f/\cY (dt f++r)=0/\(dt f++r).drop (dk (dt f++r))=r:=by
 have hz:=jW f.2.length;have hm:=AE f.2.length;have e:dt f++r=aH 2 (UInt64.ofNat f.1.toNat)++(aH 2 (UInt64.ofNat (szN f.2.length))++((f.2++List.replicate (szN f.2.length-4-f.2.length) 0)++r)):=by simp [dt,aao]
 have es:dk (dt f++r)=szN f.2.length:=by
  unfold dk;rw [e,eZ _ _ _ (az _ _),ee _ _ _ (az _ _),kb _ Zo]
 have et:bR ((dt f++r).take 2)=f.1.toNat:=by rw [e,ee _ _ _ (az _ _),kb _ Zo]
 have el:(dt f++r).length=szN f.2.length+r.length:=by rw [aah,di]
 refine ⟨es,?_,?_,?_⟩
 ·unfold eE;rw [et,es,ee _ _ _ (di f)];unfold dt eP;rw [show (4:Nat)=2+2 from rfl,iE _ _ 2 2 (az _ _),eZ _ _ _ (az _ _)]
  congr 1
  omega
 ·unfold cY;rw [aaf Zo,es,aaf Zo,aaf Zo]
 ·rw [es,eZ _ _ _ (di f)]
theorem nj:∀ (L:List Fld) (m:Nat),L.length<=m->(∀ f∈L,(0<=f.1/\f.1<=65535)/\szN f.2.length<=1232)->fi m (aT L)=(L.map eP,0):=by
 intro L
 induction L with
 | nil=>intro m _ _;exact lR m
 | cons f L ih =>
  intro m hm hf;obtain ⟨k,rfl⟩:∃ k,m=k+1:=⟨m-1,by simp at hm;omega⟩;obtain ⟨⟨a1,a2⟩,a3⟩:=hf f (aa5 ..);obtain ⟨b1,b2,b3,b4⟩:=Aj f (aT L) a1 a2 a3;have hz:=jW f.2.length;have hne:dt f++aT L≠[]:=λ h=>by
   have:=congrArg List.length h;rw [aah,di,List.length_nil] at this;omega
  rw [na,iG k _ hne b3,b2,b4,ih k (by simp at hm;omega) (λ g hg=>hf g (abA _ hg))];rfl
def ixs (k:Int) (L:List Fld) (j:Nat):List Nat:=(List.range j).filter λ i=>decide ((L.getD i (0,[])).1=k)
theorem xS (k:Int) (L:List Fld):ixs k L 0=[]:=rfl
theorem lE {k:Int} {L:List Fld} {j:Nat} (h:(L.getD j (0,[])).1=k):ixs k L (j+1)=ixs k L j++[j]:=by
 unfold ixs;rw [aa7,List.filter_append];simp only [List.filter_cons,List.filter_nil,h,decide_true,abg]
theorem me {k:Int} {L:List Fld} {j:Nat} (h:(L.getD j (0,[])).1≠k):ixs k L (j+1)=ixs k L j:=by
 unfold ixs;rw [aa7,List.filter_append];simp only [List.filter_cons,List.filter_nil,h,decide_false,aaG,abn,List.append_nil]
theorem vc {k:Int} {L:List Fld} {j i:Nat}:i∈ixs k L j ↔ i<j/\(L.getD i (0,[])).1=k:=by
 unfold ixs;simp
theorem yH {k:Int} {L:List Fld} {j i:Nat} (h:i∈ixs k L j):i<j:=(vc.1 h).1
theorem nV (k:Int) (L:List Fld) (j:Nat):(ixs k L j).length<=j:=by
 unfold ixs;have:=List.length_filter_le (λ i=>decide ((L.getD i (0,[])).1=k)) (List.range j);simpa using this
def eT (k:Int) (L:List Fld):Option Nat:=(ixs k L L.length).head?
theorem Ad (k:Int) (L:List Fld) (j d:Nat):∃ r,ixs k L (j+d)=ixs k L j++r:=by
 induction d with
 | zero=>exact ⟨[],Zs⟩
 | succ d ih =>
  obtain ⟨r,hr⟩:=ih;by_cases h:(L.getD (j+d) (0,[])).1=k
  ·exact ⟨r++[j+d],by rw [<- aa1,lE h,hr,aao]⟩
  ·exact ⟨r,by rw [<- aa1,me h,hr]⟩
theorem m6 {k:Int} {L:List Fld} {j:Nat} (hj:j<L.length) (h0:ixs k L j=[]) (h:(L.getD j (0,[])).1=k):eT k L=some j:=by
 obtain ⟨r,hr⟩:=Ad k L (j+1) (L.length-(j+1));rw [show j+1+(L.length-(j+1))=L.length from Zo,lE h,h0] at hr;unfold eT;rw [hr];rfl
theorem sw {k:Int} {L:List Fld} (h0:ixs k L L.length=[]):eT k L=none:=by unfold eT;rw [h0];rfl
/-! ### protected packets -/
structure Pkt where
 h:Hdr
 plain:List Fld
 secret:List Fld
 guarded:Bool
deriving DecidableEq
def aQ:Pkt:=⟨gX,[],[],false⟩
def aM (h:Hdr) (L:List Fld):List UInt8 × Int:=if (cC h).2≠0 then ([],(cC h).2) else if (aO L).2≠0 then ([],(aO L).2) else ((cC h).1++(aO L).1,0)
def cQ (p:Pkt):List UInt8 × Int:=if (aM p.h p.plain).2≠0 then ([],(aM p.h p.plain).2) else if p.secret≠[]\/p.guarded=true then ([],3) else aM p.h p.plain
def aD (n s:List UInt8):List UInt8:=aH 2 (UInt64.ofNat n.length)++(aH 2 (UInt64.ofNat s.length)++(gv n 4++gv s 4))
def cD (ky:List UInt8)(p:Pkt) (nonce:List UInt8):List UInt8 × Int :=
 if ky.length≠32 then ([],5) else if nonce.length<16\/32<nonce.length then ([],4)
 else if (aM p.h p.plain).2≠0 then ([],(aM p.h p.plain).2) else if (aO p.secret).2≠0 then ([],(aO p.secret).2)
 else if ixs 1028 p.plain p.plain.length≠[] then ([],3) else if 24<=p.plain.length then ([],8)
 else if (aO [(1028,aD nonce (bI ky [(aM p.h p.plain).1,nonce] (aO p.secret).1).1)]).2≠0\/1280<(aM p.h p.plain).1.length+(aO [(1028,aD nonce (bI ky [(aM p.h p.plain).1,nonce] (aO p.secret).1).1)]).1.length then ([],2)
 else ((aM p.h p.plain).1++(aO [(1028,aD nonce (bI ky [(aM p.h p.plain).1,nonce] (aO p.secret).1).1)]).1,0)
def aC (b:List UInt8):Pkt × Int:=if (bD b).2≠0 then (aQ,(bD b).2) else if (bj (bD b).1.2).2≠0 then (aQ,(bj (bD b).1.2).2) else (⟨(bD b).1.1,(bj (bD b).1.2).1,[],false⟩,0)
def aI (n:Nat):Nat:=(n+3) / 4*4
def db (d:List UInt8):Option (List UInt8 × List UInt8) :=
 let n:=bR (d.take 2)
 let m:=bR ((d.drop 2).take 2)
 let nonce:=(d.drop 4).take n
 let s:=(d.drop (4+aI n)).take m
 if 4<=d.length/\(16<=n/\n<=32)/\d.length=4+aI n+aI m/\aD nonce s=d then some (nonce,s) else none
def cT (ky b:List UInt8):Pkt × Int :=
 if ky.length≠32 then (aQ,5) else if (aC b).2≠0 then (aQ,(aC b).2) else
 match eT 1028 (aC b).1.plain with
 | none=>(aQ,10)
 | some i=>if i+1≠(aC b).1.plain.length then (aQ,3) else
  match db ((aC b).1.plain.getD i (0,[])).2 with
  | none=>(aQ,3)
  | some (nonce,s) =>
   if (bH ky [b.take (b.length-((aC b).1.plain.getD i (0,[])).2.length-4),nonce] s).2≠0 then (aQ,6)
   else if (bj (bH ky [b.take (b.length-((aC b).1.plain.getD i (0,[])).2.length-4),nonce] s).1).2≠0 then (aQ,(bj (bH ky [b.take (b.length-((aC b).1.plain.getD i (0,[])).2.length-4),nonce] s).1).2)
   else (⟨(aC b).1.h,(aC b).1.plain.take i,(bj (bH ky [b.take (b.length-((aC b).1.plain.getD i (0,[])).2.length-4),nonce] s).1).1,true⟩,0)
end Go.Pkt

/- The walks of layer 16: Valid, Encode, Ask. -/
namespace Go.Pkt
def inR (x lo hi:Int):Bool:=decide (lo<=x/\x<=hi)
theorem iY {x lo hi:Int} (h:lo<=x/\x<=hi):inR x lo hi=true:=aaC h
theorem jC {x lo hi:Int} (h:¬ (lo<=x/\x<=hi)):inR x lo hi=false:=aaH h
end Go.Pkt
namespace Go.Proofs.YtmdahnkcnagkjaaGreat
open Go.RowKit Go.Sec Go.Oct Go.Pkt BigFrame
theorem bc:RowT Tryz.prog 64 13:=⟨⟨_,Tryz.underlying64,rfl⟩,Zk,⟨_,Tryz.zeroValue64,Zk⟩⟩
theorem jr (x lo hi:Int) (w:World) :
  Calls Tryz.prog 171 #[Zz Zx x, Zz Zx lo, Zz Zx hi] w λ e w'=>e = .returned (.bool (inR x lo hi))/\Ext w w':=by
 by_cases h1:lo<=x
 ·by_cases h2:x<=hi
  ·have e:=Lib.hid (iY ⟨h1,h2⟩)
   go_enter Tryz.func171,Tryz.ntmps171
   go_wp2;go_ret;exact ⟨by rw [e.out];rfl,eX⟩
  ·have e:=Lib.hid (jC (λ h=>h2 h.2:¬ (lo<=x/\x<=hi)))
   go_enter Tryz.func171,Tryz.ntmps171
   go_wp2;go_ret;exact ⟨by rw [e.out];rfl,eX⟩
 ·have e:=Lib.hid (jC (λ h=>h1 h.1:¬ (lo<=x/\x<=hi)))
  go_enter Tryz.func171,Tryz.ntmps171
  go_wp2;go_ret;exact ⟨by rw [e.out];rfl,eX⟩
theorem kK (h:Hdr) (w:World) :
  Calls Tryz.prog 161 #[.agg #[Zz Zx h.leap, Zz Zx h.ver, Zz Zx h.mode, Zz Zx h.strat, Zz Zx h.poll, Zz Zx h.prec, Zz Zv (n32 h.rd), Zz Zv (n32 h.rp), Zz Zv (n32 h.id), Zz Zw (n64 h.ref), Zz Zw (n64 h.org), Zz Zw (n64 h.rcv), Zz Zw (n64 h.tx)]] w λ e w'=>e = .returned (Zz Zx (cC h).2)/\Ext w w':=by
 obtain ⟨r,hr⟩:∃ r,(cC h).2=r:=⟨_,rfl⟩;rw [hr];have hok:okH h->r=0:=λ k=>by rw [<- hr];unfold cC;rw [aal k]
 have hno:¬ okH h->r=4:=λ k=>by rw [<- hr];unfold cC;rw [aaf k]
 clear hr;by_cases c1:0<=h.leap/\h.leap<=3
 ·have i1:=iY c1;by_cases c2:3<=h.ver/\h.ver<=4
  ·have i2:=iY c2;by_cases c3:0<=h.mode/\h.mode<=7
   ·have i3:=iY c3;by_cases c4:0<=h.strat/\h.strat<=255
    ·have i4:=iY c4;by_cases c5 : -128<=h.poll/\h.poll<=127
     ·have i5:=iY c5;by_cases c6 : -128<=h.prec/\h.prec<=127
      ·have i6:=iY c6;have e:=Lib.hid (hok ⟨c1,c2,c3,c4,c5,c6⟩);clear c1 c2 c3 c4 c5 c6 hok hno
       go_enter Tryz.func161,Tryz.ntmps161
       go_wp2_with (first
        | (go_at_call 171;refine (jr _ _ _ _).mono ?_;rintro e w1 ⟨rfl,hxq⟩;obtain ⟨xq,rfl⟩:=hxq.out;clear hxq)
        | fail)
       go_ret;exact ⟨by rw [e.out];rfl,eX⟩
      ·have i6:=jC c6;have e:=Lib.hid (hno λ k=>c6 k.2.2.2.2.2);clear c1 c2 c3 c4 c5 c6 hok hno
       go_enter Tryz.func161,Tryz.ntmps161
       go_wp2_with (first
        | (go_at_call 171;refine (jr _ _ _ _).mono ?_;rintro e w1 ⟨rfl,hxq⟩;obtain ⟨xq,rfl⟩:=hxq.out;clear hxq)
        | fail)
       go_ret;exact ⟨by rw [e.out];rfl,eX⟩
     ·have i5:=jC c5;have e:=Lib.hid (hno λ k=>c5 k.2.2.2.2.1);clear c1 c2 c3 c4 c5 hok hno
      go_enter Tryz.func161,Tryz.ntmps161
      go_wp2_with (first
       | (go_at_call 171;refine (jr _ _ _ _).mono ?_;rintro e w1 ⟨rfl,hxq⟩;obtain ⟨xq,rfl⟩:=hxq.out;clear hxq)
       | fail)
      go_ret;exact ⟨by rw [e.out];rfl,eX⟩
    ·have i4:=jC c4;have e:=Lib.hid (hno λ k=>c4 k.2.2.2.1);clear c1 c2 c3 c4 hok hno
     go_enter Tryz.func161,Tryz.ntmps161
     go_wp2_with (first
      | (go_at_call 171;refine (jr _ _ _ _).mono ?_;rintro e w1 ⟨rfl,hxq⟩;obtain ⟨xq,rfl⟩:=hxq.out;clear hxq)
      | fail)
     go_ret;exact ⟨by rw [e.out];rfl,eX⟩
   ·have i3:=jC c3;have e:=Lib.hid (hno λ k=>c3 k.2.2.1);clear c1 c2 c3 hok hno
    go_enter Tryz.func161,Tryz.ntmps161
    go_wp2_with (first
     | (go_at_call 171;refine (jr _ _ _ _).mono ?_;rintro e w1 ⟨rfl,hxq⟩;obtain ⟨xq,rfl⟩:=hxq.out;clear hxq)
     | fail)
    go_ret;exact ⟨by rw [e.out];rfl,eX⟩
  ·have i2:=jC c2;have e:=Lib.hid (hno λ k=>c2 k.2.1);clear c1 c2 hok hno
   go_enter Tryz.func161,Tryz.ntmps161
   go_wp2_with (first
    | (go_at_call 171;refine (jr _ _ _ _).mono ?_;rintro e w1 ⟨rfl,hxq⟩;obtain ⟨xq,rfl⟩:=hxq.out;clear hxq)
    | fail)
   go_ret;exact ⟨by rw [e.out];rfl,eX⟩
 ·have i1:=jC c1;have e:=Lib.hid (hno λ k=>c1 k.1);clear c1 hok hno
  go_enter Tryz.func161,Tryz.ntmps161
  go_wp2_with (first
   | (go_at_call 171;refine (jr _ _ _ _).mono ?_;rintro e w1 ⟨rfl,hxq⟩;obtain ⟨xq,rfl⟩:=hxq.out;clear hxq)
   | fail)
  go_ret;exact ⟨by rw [e.out];rfl,eX⟩
end Go.Proofs.YtmdahnkcnagkjaaGreat
