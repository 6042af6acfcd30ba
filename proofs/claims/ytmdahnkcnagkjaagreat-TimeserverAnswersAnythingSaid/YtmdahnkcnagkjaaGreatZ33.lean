/- Lemmas of this claim, several texts joined. -/
import Derived.Lib.SlBytesConst
import Derived.Test.YtmdahnkcnagkjaaGreatZ29
set_option maxRecDepth 100000
open Go.Value renaming int -> Zz,slice -> Zy
open Go.IntKind renaming i64 -> Zx,u64 -> Zw,u8 -> Zu
open List renaming setIfInBounds_toArray -> q0q, set_cons_succ -> q1q, set_cons_zero -> q2q, take_succ_cons -> q8q, take_zero -> q9q, drop_succ_cons -> q10q, drop_zero -> q11q, take_nil -> q12q, drop_nil -> q13q
set_option maxHeartbeats 8000000
set_option linter.unusedVariables false
set_option linter.unusedSimpArgs false
/- The cases: Random, Randoms. -/
namespace Go.Proofs.P9
open Go.RowKit Go.Sec Go.Oct Go.Sha Go.Case BigFrame
theorem zy (w:World)(t:TypeId)(fr:Nat × Nat):Sl (w.alloc (.cells #[Zz Zu 99, Zz Zu 97, Zz Zu 115, Zz Zu 101] t fr)) (some ⟨w.heap.size,0,none⟩) 4 vP:=⟨rfl,iK w #[Zz Zu 99, Zz Zu 97, Zz Zu 115, Zz Zu 101] t fr⟩
theorem gR (v:Int) (n:Nat) {nI:Int} (hn:nI=(n:Int)) (w:World)(h:n<=32) :
  Calls Tryz.prog 20 #[Zz Zx v, Zz Zx nI] w (bZ n (rnd v n) w):=by
 subst hn;have hcv:=Lib.run_convert_bytes_const (P:=Tryz.prog) w 33 5 #[Zz Zu 99, Zz Zu 97, Zz Zu 115, Zz Zu 101] 4 4 U.sl hu8;have hsv:=FC (BG v);have HW:=FC (show rnd v n=(sha (vP++aF 8 (zt v))).take n from rfl)
 go_enter Tryz.func20,Tryz.ntmps20
 go_wp2_with fail;have hxa:=FA w (.cells #[Zz Zu 99, Zz Zu 97, Zz Zu 115, Zz Zu 101] 5 (4,5));have hS0:=zy w 5 (4,5);(with_reducible refine (zq (zt v) 8 hsv.out (show (8:Int)=((8:Nat):Int) from rfl) _ Zo).mono ?_);rintro e w1 ⟨a1,c1,rfl,hO1,hx1⟩;go_wp2_with fail;(with_reducible refine (aR _ _ _ _ _ (oZ (hS0.ext hx1) hO1.sl _) Zo 12 (by simp [gL,aw,vP]) Zo).mono ?_);rintro e w2 ⟨a2,c2,rfl,hO2,hx2⟩;rw [gL] at hO2;have hx12:Ext w w2:=Ext.trans (Ext.alloc (hxa.trans hx1) _) hx2;go_wp2_with fail;(with_reducible refine (nR _ _ _ _ _ hO2.sl hO2.le.1 Zo).mono ?_);rintro e w3 ⟨a3,c3,rfl,hO3,hx3⟩;have hE:=hx12.trans hx3;have hc3:=hO3.le.1;have j0:(0:Int)<=(n:Int):=Zo;have j1:(n:Int)<=(c3:Int):=Zo;have hO4:=(hO3.pre n Zo).mono hx12.size;rw [<- HW.out] at hO4;clear hO1 hO2 hO3 hS0 hxa hx1 hx2 hx3 hcv;go_wp2;go_ret;exact ⟨_,_,rfl,hO4,hE⟩
def CN (L:List E7) (k:Nat) (w:World)(e:Ending) (w':World):Prop:=∃ a c,e = .returned (Zy a k c)/\Bsc w' a k L/\k<=c/\fT w' a/\Ext w w'
def C7 (L:List E7) (k:Nat) (w:World)(e:Ending) (w':World):Prop:=∃ a c,e = .returned (Zy a k c)/\bU w' w.heap.size a k c L/\Ext w w'
theorem uX (v:Nat) (n k:Nat) {vI nI kI:Int} (hv:vI=(v:Int)) (hn:nI=(n:Int)) (hk:kI=(k:Int)) (w:World)(h:n<=32) (hv9:v<=1000000000) (hk9:k<=1000) :
  Calls Tryz.prog 11 #[Zz Zx vI, Zz Zx nI, Zz Zx kI] w (C7 (kQ (v:Int) n k) k w):=by
 subst hv hn hk
 go_enter Tryz.func11,Tryz.ntmps11
 go_wp2_with fail
 go_loopw [7,8] (λ v7 v8 wr=>∃ (i:Nat) (la:E8)(lc:Nat),i<=k/\v8 = Zz Zx i/\v7 = Zy la i lc/\bU wr w.heap.size la i lc (kQ (v:Int) n i)/\Ext w wr) (λ _ v8 _=>k-(intOf v8).toNat)
 case atStart=>exact ⟨0,none,0,aak _,rfl,rfl,bU.nil _ _,FD _⟩
 case round =>
  obtain ⟨i,la,lc,hi,rfl,rfl,hO,hE⟩:=hrel;by_cases hlt:i<k
  ·have i1:(i:Int)<(k:Int):=by omega
   have hts:=FC (xt (v:Int) n i);have hrd:=λ W=>gR ((v:Int)*1000+(i:Int)) n rfl W h;generalize rnd ((v:Int)*1000+(i:Int)) n=X at *;go_wp2_with fail;(with_reducible refine (hrd _).mono ?_);rintro e w1 ⟨a1,c1,rfl,hO1,hx1⟩;have hO:=hO.ext hx1;have hE:=hE.trans hx1;have hB:=hE.size
   go_wp2_with (first
    | (at_builtin;refine cE V8 rfl _ _ rfl w.heap.size la i lc _ rfl w1.heap.size rfl (hO.ext (FA _ _)) a1 n c1 X (Blk.new w1 #[Zy a1 n c1] 33).rd (hO1.ext (FA _ _)).sl hO1.le.1 (Own.inBlk (hO1.ext (FA _ _))) Zo (by have:=(FA w1 (.cells #[Zy a1 n c1] 33)).size;omega) ?_;intro sa sc w7 hO7 hg7 hb7)
    | fail)
   go_roundw
   case rel=>exact ⟨i+1,sa,sc,Zo,Zg,rfl,by rw [hts.out];exact hO7,(show Ext w w7 from E9 (hE.trans (FA _ _)) hb7)⟩
   case measure=>simp [intOf];omega
  ·obtain rfl:i=k:=by omega
   have i1:¬ (i:Int)<(i:Int):=Zo;go_wp2_with fail;go_ret;exact ⟨la,lc,rfl,hO,hE⟩
theorem mz (v:Nat) (n k:Nat) {vI nI kI:Int} (hv:vI=(v:Int)) (hn:nI=(n:Int)) (hk:kI=(k:Int)) (w:World)(h:n<=32) (hv9:v<=1000000000) (hk9:k<=1000) :
  Calls Tryz.prog 11 #[Zz Zx vI, Zz Zx nI, Zz Zx kI] w (CN (kQ (v:Int) n k) k w) :=
 (uX v n k hv hn hk w h hv9 hk9).mono λ _ _ ⟨a,c,h1,h2,h3⟩=>⟨a,c,h1,h2.bsc,h2.le,h2.typ3,h3⟩
end Go.Proofs.P9

/- The walks of layer 19 of the document: Valid, Start, Rotate. -/
namespace Go.Cook
theorem Ar {r:Ring} {i:Nat} {x:Int × E7} (hx:r[i]?=some x) (h:∀ m∈r.take i,m.1≠x.1):x.1 ∉ (r.take i).map (·.1):=λ hm=>by
 obtain ⟨m,h1,h2⟩:=aa2.1 hm;exact h m h1 h2
end Go.Cook
namespace Go.Proofs.P9
open Go.RowKit Go.Sec Go.Oct Go.Sha Go.Aes Go.Cook Go.Chan BigFrame
theorem xX (w:World)(t:TypeId)(fr:Nat × Nat):Sl (w.alloc (.cells #[Zz Zu 115, Zz Zu 101, Zz Zu 99, Zz Zu 116, Zz Zu 105, Zz Zu 109, Zz Zu 101, Zz Zu 32, Zz Zu 115, Zz Zu 116, Zz Zu 97, Zz Zu 114, Zz Zu 116] t fr)) (some ⟨w.heap.size,0,none⟩) 13 mv:=⟨rfl,iK w #[Zz Zu 115, Zz Zu 101, Zz Zu 99, Zz Zu 116, Zz Zu 105, Zz Zu 109, Zz Zu 101, Zz Zu 32, Zz Zu 115, Zz Zu 116, Zz Zu 97, Zz Zu 114, Zz Zu 116] t fr⟩
theorem zF (w:World)(t:TypeId)(fr:Nat × Nat):Sl (w.alloc (.cells #[Zz Zu 115, Zz Zu 101, Zz Zu 99, Zz Zu 116, Zz Zu 105, Zz Zu 109, Zz Zu 101, Zz Zu 32, Zz Zu 110, Zz Zu 101, Zz Zu 120, Zz Zu 116] t fr)) (some ⟨w.heap.size,0,none⟩) 12 vB:=⟨rfl,iK w #[Zz Zu 115, Zz Zu 101, Zz Zu 99, Zz Zu 116, Zz Zu 105, Zz Zu 109, Zz Zu 101, Zz Zu 32, Zz Zu 110, Zz Zu 101, Zz Zu 120, Zz Zu 116] t fr⟩
theorem _root_.z33q64{p:Prop}(h:p:=by
 have hv:=FC (hbad (.inl (by unfold okM;simp;omega)));go_wp2_with fail;go_ret;exact ⟨by rw [hv.out];rfl,hE⟩):p:=h
theorem gl (a:E8)(n c:Nat) (r:Ring) (w:World)(hI:Ib w a n r) (hc:n<=c) (hn:n<=1000000) :
  Calls Tryz.prog 59 #[.agg #[Zy a n c]] w λ e w'=>e = .returned (.bool (aM r))/\Ext w w':=by
 have hrl:=hI.len;by_cases n1:1<=n
 ·by_cases n4:n<=4
  ·have e1:¬ (n:Int)<1:=by omega
   have e2:¬ (4:Int)<(n:Int):=Zo
   go_enter Tryz.func59,Tryz.ntmps59
   go_wp2_with fail
   go_loopw [3,4] (λ v3 _ wr=>∃ k:Nat,k<=n/\v3 = Zz Zx k/\(∀ m∈r.take k,okM m=true)/\((r.take k).map (·.1)).Nodup/\Blk wr w.heap.size 26 [Zy a n c]/\Ext w wr)
    (λ v3 _ _=>n-(intOf v3).toNat)
   case atStart=>exact ⟨0,aak _,rfl,Zs,Zs,Blk.new _ _ _,eX⟩
   case round =>
    obtain ⟨k,hk,rfl,h1,h2,hB,hE⟩:=hrel;haveI:=hB.blt;have hbc:=hB.cell? 0 rfl;by_cases hlt:k<n
    ·have hki:(k:Int)<(n:Int):=by omega
     have hk0:(0:Int)<=(k:Int):=Zo;obtain ⟨x,hx⟩:∃ x,r[k]?=some x:=⟨_,List.getElem?_eq_getElem Zo⟩;have hbad:=pv hx;have hsn:=tf hx h2;have hts:=gv hx;have hno:=Ar hx;obtain ⟨id,ky⟩:=x;obtain ⟨b,off,g,cg,rfl,hb,hc0,hc1,hSd,hcd⟩:=(hI.ext hE).at k hlt _ hx;simp only at hc0 hc1 hSd hcd hbad hsn hno;haveI:=hb;by_cases b1:id<0
     ·exact z33q64
     ·by_cases b2:4294967295<id
      ·exact z33q64
      ·by_cases b3:ky.length=32
       ·have b3i:(((ky.length:Nat):Int) != 32)=false:=by rw [aaf];omega
        have hok:okM (id,ky)=true:=by unfold okM;simp;omega
        clear b3;go_wp2_with fail
        go_loopw [4] (λ v4 wq=>∃ j:Nat,j<=k/\v4 = Zz Zx j/\Hid (∀ m∈r.take j,m.1≠id)/\Blk wq w.heap.size 26 [Zy (some ⟨b,off,none⟩) n c]/\Ext wr wq) (λ v4 _=>k-(intOf v4).toNat)
        case atStart=>exact ⟨0,aak _,rfl,FC Zs,hB,FD _⟩
        case round =>
         clear hB hbc;obtain ⟨j,hj,rfl,hm,hB,hq⟩:=hrel;haveI:=hB.blt;have hbc:=hB.cell? 0 rfl;haveI:BlkLt b wr:=⟨aai hb.lt hq.size⟩;have hc0:=(hq.cell (p:=⟨b,_,none⟩) hb.lt).trans hc0;by_cases hjl:j<k
         ·have hji:(j:Int)<(k:Int):=by omega
          have hj0:(0:Int)<=(j:Int):=Zo;have hjn:(j:Int)<(n:Int):=Zo;obtain ⟨y,hy⟩:∃ y,r[j]?=some y:=⟨_,List.getElem?_eq_getElem Zo⟩;have htj:=gv hy;obtain ⟨b',off',g',cg',hbe,_,hd0,_,_,_⟩:=(hI.ext (hE.trans hq)).at j Zo _ hy;injection hbe with hbe
          injection hbe with hbe1 hbe2
          subst hbe1 hbe2;by_cases hid:y.1=id
          ·have hv:=FC (hbad (.inr (by
            obtain ⟨hj',he⟩:=List.getElem?_eq_some_iff.1 hy;exact aa2.2 ⟨y,List.mem_take_iff_getElem.2 ⟨j,Zo,he⟩,hid⟩)))
           rw [hid] at hd0;have hdd:(id == id)=true:=Zs;go_wp2_with fail;refine R2.ae 13 [[],[0],[],[0,1,2],[0,1,2,3],[0,1,2,3,4],[],[6],[],[6,7,8],[6,7,8,9],[6,7,8,9,10],[0,1,2,3,4,5,6,7,8,9,10,11]] [] (λ h=>(h rfl).elim) Zk Zk Zk Zk Zk ?_;simp only [q8q,q9q,q10q,q11q,q12q,q13q];(repeat (refine R2.av ?_;(try simp only [Act.put,q0q,q1q,q2q])));(refine R2.aU ?_;intro us x hx hf);go_wp2_with fail;go_ret;exact ⟨by rw [hv.out];rfl,(hE.trans hq).ext x⟩
          ·have hdd:(y.1 == id)=false:=by simpa using hid
           have hm2:=FC (show ∀ m∈r.take (j+1),m.1≠id by
            rw [htj];intro m hm';rcases aaP.1 hm' with h|h
            ·exact hm.out m h
            ·rw [aau.1 h];exact hid)
           go_wp2_with fail;refine R2.ae 13 [[],[0],[],[0,1,2],[0,1,2,3],[0,1,2,3,4],[],[6],[],[6,7,8],[6,7,8,9],[6,7,8,9,10],[0,1,2,3,4,5,6,7,8,9,10,11]] [] (λ h=>(h rfl).elim) Zk Zk Zk Zk Zk ?_;simp only [q8q,q9q,q10q,q11q,q12q,q13q];(repeat (refine R2.av ?_;(try simp only [Act.put,q0q,q1q,q2q])));(refine R2.aU ?_;intro us x hx hf);go_wp2_with fail;go_roundw
           case rel=>exact ⟨j+1,Zo,Zg,hm2,hB.ext x,hq.ext x⟩
           case measure=>simp [intOf];omega
         ·obtain rfl:j=k:=by omega
          have hji:¬ (j:Int)<(j:Int):=Zo;have hsn2:=hsn (hno hm.out);go_wp2_with fail;go_roundw
          case rel =>
           refine ⟨j+1,Zo,Zg,?_,hsn2,hB,hE.trans hq⟩;intro m hm';rw [hts] at hm';rcases aaP.1 hm' with h|h
           ·exact h1 m h
           ·rw [aau.1 h];exact hok
          case measure=>simp [intOf];omega
       ·have hv:=FC (hbad (.inl (by unfold okM;simp;omega)));have b3i:(((ky.length:Nat):Int) != 32)=true:=by rw [aao];omega
        go_wp2_with fail;go_ret;exact ⟨by rw [hv.out];rfl,hE⟩
    ·have hkk:k=n:=by omega
     subst hkk;have hki:¬ (k:Int)<(k:Int):=Zo;rw [aah Zo] at h1 h2;have hv:=FC (show aM r=true by rw [oE h1 h2,hrl];exact aav ⟨n1,n4⟩);go_wp2_with fail;go_ret;exact ⟨by rw [hv.out];rfl,hE⟩
  ·have e1:¬ (n:Int)<1:=by omega
   have e2:(4:Int)<(n:Int):=Zo;have hv:=FC (show aM r=false by
    by_cases h:aM r=true
    ·have:=(bm.1 h).2.2.2;omega
    ·simpa using h)
   go_enter Tryz.func59,Tryz.ntmps59
   go_wp2_with fail;go_ret;exact ⟨by rw [hv.out];rfl,eX⟩
 ·have e1:(n:Int)<1:=by omega
  have hv:=FC (show aM r=false by
   by_cases h:aM r=true
   ·have:=(bm.1 h).2.2.1;omega
   ·simpa using h)
  go_enter Tryz.func59,Tryz.ntmps59
  go_wp2_with fail;go_ret;exact ⟨by rw [hv.out];rfl,eX⟩
theorem sZ (id:Int) (a:E8)(n c:Nat) (seed:E7)(w:World)(h:Sl w a n seed) (hnc:n<=c) :
  Calls Tryz.prog 53 #[Zz Zx id, Zy a n c] w (qE (jt id seed) w):=by
 have hll:=h.len;by_cases h1:id<0\/4294967295<id
 ·have e:jt id seed=([],4):=by unfold jt;rw [aaj h1]
  rw [e];clear hll e;rcases h1 with h1|h1
  ·skip
   go_enter Tryz.func53,Tryz.ntmps53
   go_wp2_with fail;refine aaa (v := .tuple #[.agg #[Zy none 0 0], Zz Zx 4]) (by simp [results,Tryz.results53,go_sem]) rfl ?_;exact qE.err _ _ _ eX
  ·have h2:¬ id<0:=by omega
   go_enter Tryz.func53,Tryz.ntmps53
   go_wp2_with fail;refine aaa (v := .tuple #[.agg #[Zy none 0 0], Zz Zx 4]) (by simp [results,Tryz.results53,go_sem]) rfl ?_;exact qE.err _ _ _ eX
 ·have i1:¬ id<0:=by omega
  have i2:¬ 4294967295<id:=Zo;by_cases h2:n=32
  ·subst h2;have e:jt id seed=([(id,eh seed mv 32)],0):=by unfold jt;rw [aae h1,aae Zo]
   rw [e];have hc8:=Lib.run_convert_bytes_const (P:=Tryz.prog) (w.alloc (.cells #[Zy none 0 0] 26)) 33 5 #[Zz Zu 115, Zz Zu 101, Zz Zu 99, Zz Zu 116, Zz Zu 105, Zz Zu 109, Zz Zu 101, Zz Zu 32, Zz Zu 115, Zz Zu 116, Zz Zu 97, Zz Zu 114, Zz Zu 116] 13 13 U.sl hu8;rw [aa8] at hc8;clear hll e h1
   go_enter Tryz.func53,Tryz.ntmps53
   go_wp2_with fail;have hx0:Ext w (w.alloc (.cells #[Zy none 0 0] 26)):=FA _ _;have hxa:Ext w ((w.alloc (.cells #[Zy none 0 0] 26)).alloc (.cells #[Zz Zu 115, Zz Zu 101, Zz Zu 99, Zz Zu 116, Zz Zu 105, Zz Zu 109, Zz Zu 101, Zz Zu 32, Zz Zu 115, Zz Zu 116, Zz Zu 97, Zz Zu 114, Zz Zu 116] 5 (13,14))):=(FA _ _).alloc _;have hSc:=xX (w.alloc (.cells #[Zy none 0 0] 26)) 5 (13,14);rw [aa8] at hSc;(with_reducible refine (m8 _ _ 32 c 13 _ 32 (rfl:(32:Int)=((32:Nat):Int)) seed mv _ (h.ext hxa) hnc Zo hSc Zd Zd).mono ?_);rintro e w1 ⟨b1,d1,rfl,hS1,hd1,hx1⟩;generalize eh seed mv 32=K at *;have hR:=((Blk.new w #[Zy none 0 0] 26).alloc (.cells #[Zz Zu 115, Zz Zu 101, Zz Zu 99, Zz Zu 116, Zz Zu 105, Zz Zu 109, Zz Zu 101, Zz Zu 32, Zz Zu 115, Zz Zu 116, Zz Zu 97, Zz Zu 114, Zz Zu 116] 5 (13,14))).extB hx1;have hE1:Ext w w1:=hxa.trans hx1;have hIb:=ib1 hS1 hd1 id 50;have hlt:=hR.lt;have hRx:=hR.alloc (.cells #[Zz Zx id, Zy b1 32 d1] 50);haveI:=hRx.blt
   go_wp2_with (first
    | (refine aa RR1 rfl _ _ rfl w.heap.size 0 rfl _ rfl 26 _ hRx rfl Zs (by first|exact aH _|(simp;done)|(simp;(repeat' (first|rfl|constructor)))) ?_;intro w9 hB9 hM9)
    | fail)
   refine aaa (aj Tryz.results53 RR1 _ _ w.heap.size 0 _ rfl hB9.rd rfl (Zz Zx 0) rfl) rfl ?_;have hE2:Ext w (w1.alloc (.cells #[Zz Zx id, Zy b1 32 d1] 50)):=hE1.alloc _;exact ⟨_,_,_,rfl,hIb.mut (λ b o e=>by injection e with e;injection e with e _;omega) hRx Zs hM9,aad _,E9 hE2 (hM9.below (aad _) hE2.size)⟩
  ·have e:jt id seed=([],5):=by unfold jt;rw [aae h1,aaj Zo]
   rw [e];have h2':(((n:Nat):Int) != 32)=true:=by rw [aao];omega
   clear hll e h2 h1
   go_enter Tryz.func53,Tryz.ntmps53
   go_wp2_with fail;refine aaa (v := .tuple #[.agg #[Zy none 0 0], Zz Zx 5]) (by simp [results,Tryz.results53,go_sem]) rfl ?_;exact qE.err _ _ _ eX
end Go.Proofs.P9

/- The walks of layer 19 of the document: cookie, Make, ID. -/
namespace Go.Cook
open Go.Sha Go.Oct Go.Aes Go.Sec
theorem qJ {id algo:Int} {ky up down nonce:E7} (h0:0<=id) (h1:id<=4294967295) (hk:ky.length=32) (hn:nonce.length=16) (hu:up.length=32) (hd':down.length=32):(dw (id,ky) algo up down nonce).length=104 :=
 (ig (m:=(id,ky)) h0 h1 hk hn hu hd').1
end Go.Cook
namespace Go.Proofs.P9
open Go.RowKit Go.Sec Go.Oct Go.Sha Go.Aes Go.Cook Go.Chan BigFrame
theorem BK (w:World)(t:TypeId)(fr:Nat × Nat):Sl (w.alloc (.cells #[Zz Zu 0, Zz Zu 0] t fr)) (some ⟨w.heap.size,0,none⟩) 2 [0,0]:=⟨rfl,iK w #[Zz Zu 0, Zz Zu 0] t fr⟩
theorem sO (id:Int) (n:Nat) {nI:Int} (hn:nI=(n:Int)) (w:World)(h0:0<=id) (h1:id<18446744073709551616) (hn2:n<=64) :
  Calls Tryz.prog 56 #[Zz Zw (IntKind.u64.wrap id), Zz Zx nI] w (bZ n (aF n (UInt64.ofNat id.toNat)) w):=by
 subst hn;rw [lH id h0 h1];exact km (UInt64.ofNat id.toNat) n w hn2
theorem tU (id algo:Int) (a u v b:E8)(ca cu cv cb:Nat) (ky up down nonce:E7)(w:World)(h0:0<=id) (h1:id<=4294967295) (g0:0<=algo) (g1:algo<=65535) (hk:Sl w a 32 ky) (hca:32<=ca) (hu:Sl w u 32 up) (hcu:32<=cu) (hv:Sl w v 32 down) (hcv:32<=cv) (hn:Sl w b 16 nonce) (hcb:16<=cb) :
  Calls Tryz.prog 89 #[.agg #[Zz Zx id, Zy a 32 ca], Zz Zx algo, .agg #[Zy u 32 cu, Zy v 32 cv], Zy b 16 cb] w (bZ 104 (dw (id,ky) algo up down nonce) w):=by
 have hul:=hu.len;have hvl:=hv.len;have hnl:=hn.len;obtain ⟨pa,hpa⟩:∃ pa,aF 2 (UInt64.ofNat algo.toNat)=pa:=⟨_,rfl⟩;have hpal:pa.length=2:=by rw [<- hpa];exact aw _ _
 have hpua:=λ W=>sO algo 2 (show (2:Int)=((2:Nat):Int) from rfl) W g0 Zo Zo;have hpui:=λ W=>sO id 4 (show (4:Int)=((4:Nat):Int) from rfl) W h0 Zo Zo;rw [hpa] at hpua;rw [show aF 4 (UInt64.ofNat id.toNat)=idB id from rfl] at hpui;obtain ⟨pl,hpl⟩:∃ pl,pa++([0,0]++(up++down))=pl:=⟨_,rfl⟩;have hpll:pl.length=68:=by rw [<- hpl];simp only [aag,aaM,List.length_nil];omega
 have hck:dw (id,ky) algo up down nonce=idB id++(nonce++(cj ky [idB id,nonce] pl).1):=by unfold dw fe;rw [hpa,hpl]
 obtain ⟨sd,hsd,hsl⟩:=lg (ky:=ky) (nonce:=nonce) (p:=pl) id hk.len hn.len hpll;have hseal:=λ bA cA bB cB W k1 k2 k3=>qA a bA bB 32 ca 2 cA 68 cB ky [idB id,nonce] pl W k1 hca k2 Zo k3;rw [hsd] at hseal hck;simp only at hseal hck;rw [hsl] at hseal;rw [hck];have hidl:=gU id;generalize idB id=ib at *;have hw4:IntKind.u64.wrap id=id:=by rw [aaG];omega
 rw [hw4] at hpui;clear hsd hck hpa
 go_enter Tryz.func89,Tryz.ntmps89
 go_wp2_with fail;(with_reducible refine (hpui _).mono ?_);rintro e w1 ⟨a1,c1,rfl,hO1,hx1⟩;have hle1:=hO1.le;have hx0:Ext w ((w.alloc (.cells #[Zz Zx id, Zy a 32 ca] 50)).alloc (.cells #[Zy u 32 cu, Zy v 32 cv] 55)):=(FA _ _).alloc _;have hE1:Ext w w1:=hx0.trans hx1;have hB:=((Blk.new w #[Zz Zx id, Zy a 32 ca] 50).alloc (.cells #[Zy u 32 cu, Zy v 32 cv] 55)).extB hx1;have hP:=(Blk.newAt (w.alloc (.cells #[Zz Zx id, Zy a 32 ca] 50)) #[Zy u 32 cu, Zy v 32 cv] 55 (w.heap.size+1) Zs).extB hx1;haveI:=hB.blt;haveI:=hP.blt;have f1:w1.cell? ⟨w.heap.size,1,none⟩=some (Zy a 32 ca):=hB.cell? 1 rfl;have f2:w1.cell? ⟨w.heap.size+1,0,none⟩=some (Zy u 32 cu):=hP.cell? 0 rfl;have f3:w1.cell? ⟨w.heap.size+1,1,none⟩=some (Zy v 32 cv):=hP.cell? 1 rfl;have hk1:=hk.ext hE1;have hu1:=hu.ext hE1;have hv1:=hv.ext hE1;have hn1:=hn.ext hE1;have hi1:=hO1.sl;go_wp2_with fail;refine R2.ae 21 [[],[0],[],[],[2,3],[],[5],[5,6],[],[],[9],[],[11],[5,6,7,8,9,10,11,12],[5,6,7,8,9,10,11,12,13],[0,1,2,3,4,5,6,7,8,9,10,11,12,13,14],[0,1,2,3,4,5,6,7,8,9,10,11,12,13,14,15],[0,1,2,3,4,5,6,7,8,9,10,11,12,13,14,15,16],[0,1,2,3,4,5,6,7,8,9,10,11,12,13,14,15,16],[0,1,2,3,4,5,6,7,8,9,10,11,12,13,14,15,16,17],[0,1,2,3,4,5,6,7,8,9,10,11,12,13,14,15,16,17,18,19]] [] (λ h=>(h rfl).elim) Zk Zk Zk Zk Zk ?_;simp only [q8q,q9q,q10q,q11q,q12q,q13q];(repeat (refine R2.av ?_;(try simp only [Act.put,q0q,q1q,q2q])));(refine R2.ai (λ p => .slice (p 0).1 2 2) (λ p w''=>Bsc w'' (p 0).1 2 [ib,nonce]) (λ p w w' h hx=>by first|exact h.ext hx|exact ⟨h.1.ext hx,h.2.ext hx⟩|exact ⟨h.1.ext hx,h.2⟩|exact ⟨h.1.ext hx,h.2.1.ext hx,h.2.2.ext hx⟩) (λ us w' hx hf=>⟨rfl,?_⟩) ?_;(unfold gives;simp [go_sem,execOp];exact ⟨λ _=>(some ⟨w'.heap.size,0,none⟩,0),rfl,FA _ _,sm (hi1.ext hx) hle1.1 (hn1.ext hx) hcb _⟩));(repeat (refine R2.av ?_;(try simp only [Act.put,q0q,q1q,q2q])));(refine R2.ai (λ p => .slice (p 0).1 2 (p 0).2) (λ p w''=>Own w'' 0 (p 0).1 2 (p 0).2 pa) (λ p w w' h hx=>h.ext hx) (λ us w' hx hf=>⟨rfl,?_⟩) ?_;(unfold gives;simp [go_sem,execOp];exact az (aak _) (hpua _)));(refine R2.ai (λ p => .slice (p 0).1 2 2) (λ p w''=>Sl w'' (p 0).1 2 [0,0]) (λ p w w' h hx=>by first|exact h.ext hx|exact ⟨h.1.ext hx,h.2.ext hx⟩|exact ⟨h.1.ext hx,h.2⟩|exact ⟨h.1.ext hx,h.2.1.ext hx,h.2.2.ext hx⟩) (λ us w' hx hf=>⟨rfl,?_⟩) ?_;(unfold gives;simp [go_sem,execOp];exact ⟨λ _=>(some ⟨w'.heap.size,0,none⟩,0),rfl,FA _ _,BK _ _ _⟩));(repeat (refine R2.av ?_;(try simp only [Act.put,q0q,q1q,q2q])));(refine R2.ai (λ p => .slice (p 0).1 4 4) (λ p w''=>Bss w'' (p 0).1 4 ([pa,[0,0],up,down])) (λ p w w' h hx=>h.ext hx) (λ us w' hx hf=>⟨rfl,?_⟩) ?_;(unfold gives;simp [go_sem,execOp];exact ⟨λ _=>(some ⟨w'.heap.size,0,none⟩,0),rfl,FA _ _,AF ((hf _ (aaI _ (aac _ (aab _))) rfl)).sl (hf _ (aac _ (aab _)) rfl) (hu1.ext hx) (hv1.ext hx) _⟩));(refine R2.ai (λ p => .slice (p 0).1 68 (p 0).2) (λ p w''=>Own w'' 0 (p 0).1 68 (p 0).2 pl) (λ p w w' h hx=>h.ext hx) (λ us w' hx hf=>⟨rfl,?_⟩) ?_;(unfold gives;simp [go_sem,execOp];exact az (aak _) ((by have:=aR _ 4 4 [pa,[0,0],up,down] w' (by exact (hf _ (aac _ (aab _)) rfl)) Zo 68 (by rw [mB,hpl];exact hpll) Zo;rw [mB,hpl] at this;exact this))));(refine R2.ai (λ p => .tuple #[.slice (p 0).1 84 (p 0).2, Zz Zx 0]) (λ p w''=>Sl w'' (p 0).1 84 (sd)/\(84)<=(p 0).2) (λ p w w' h hx=>⟨h.1.ext hx,h.2⟩) (λ us w' hx hf=>⟨rfl,?_⟩) ?_;(unfold gives;simp [go_sem,execOp];exact dK (hseal _ _ _ _ _ (hk1.ext hx) (hf _ (aaI _ (aaI _ (aaI _ (aaI _ (aac _ (aab _)))))) rfl) ((hf _ (aac _ (aab _)) rfl)).sl ((hf _ (aac _ (aab _)) rfl)).le.1)));(repeat (refine R2.av ?_;(try simp only [Act.put,q0q,q1q,q2q])));(refine R2.aU ?_;intro us x hx hf);obtain ⟨_,_,_,_,_,hSd,hcd⟩:=hf;have hx2:Ext w1 (w1.ext x):=FE _ _;have hJ:=zP (c1:=c1) (c2:=cb) (c3:=(us 15 0).2) (hi1.ext hx2) (hn1.ext hx2) hSd 33;go_wp2_with fail;(with_reducible refine (aR _ _ _ _ _ hJ Zo 104 (by rw [jR];simp only [aag];omega) Zo).mono ?_);rintro e w3 ⟨a3,c3,rfl,hO3,hx3⟩;rw [jR] at hO3;go_wp2;go_ret;have hE3:Ext w w3:=(hE1.trans hx2).trans ((FA _ _).trans hx3);exact ⟨_,_,rfl,hO3.mono (by have:=(hE1.trans hx2).size;simp;omega),hE3⟩
theorem nE (a u v b:E8)(n c nu cu nv cv nn cn:Nat) (r:Ring) (algo:Int) (up down nonce:E7)(w:World)(hI:Ib w a n r) (hnc:n<=c) (hn:n<=1000000) (hu:Sl w u nu up) (hcu:nu<=cu) (hv:Sl w v nv down) (hcv:nv<=cv) (hb:Sl w b nn nonce) (hcn:nn<=cn) :
  Calls Tryz.prog 50 #[.agg #[Zy a n c], Zz Zx algo, .agg #[Zy u nu cu, Zy v nv cv], Zy b nn cn] w (dD (bV r algo up down nonce) w):=by
 have hval:=λ W h=>gl a n c r W h hnc hn;have hrl:=hI.len;have hul:=hu.len;have hvl:=hv.len;have hbl:=hb.len;cases hV:aM r
 ·have e:bV r algo up down nonce=([],3):=by unfold bV;rw [aaj hV]
  rw [e];rw [hV] at hval;clear hul hvl hbl e
  go_enter Tryz.func50,Tryz.ntmps50
  go_wp2_with (first
   | (go_at_call 59;refine (hval _ (hI.ext eX)).mono ?_;rintro e w1 ⟨rfl,hxq⟩;obtain ⟨xq,rfl⟩:=hxq.out;clear hxq)
   | fail)
  refine aaa (v := .tuple #[Zy none 0 0, Zz Zx 3]) (by simp [results,Tryz.results50,go_sem]) rfl ?_;exact dD.err _ _ 3 eX
 ·rw [hV] at hval;by_cases a1:algo<0
  ·have e:bV r algo up down nonce=([],4):=by unfold bV;rw [aae (by rw [hV];simp),aaj (.inl a1)]
   rw [e];clear hul hvl hbl e
   go_enter Tryz.func50,Tryz.ntmps50
   go_wp2_with (first
    | (go_at_call 59;refine (hval _ (hI.ext eX)).mono ?_;rintro e w1 ⟨rfl,hxq⟩;obtain ⟨xq,rfl⟩:=hxq.out;clear hxq)
    | fail)
   refine aaa (v := .tuple #[Zy none 0 0, Zz Zx 4]) (by simp [results,Tryz.results50,go_sem]) rfl ?_;exact dD.err _ _ 4 eX
  ·by_cases a2:65535<algo
   ·have e:bV r algo up down nonce=([],4):=by unfold bV;rw [aae (by rw [hV];simp),aaj (.inr a2)]
    rw [e];clear hul hvl hbl e
    go_enter Tryz.func50,Tryz.ntmps50
    go_wp2_with (first
     | (go_at_call 59;refine (hval _ (hI.ext eX)).mono ?_;rintro e w1 ⟨rfl,hxq⟩;obtain ⟨xq,rfl⟩:=hxq.out;clear hxq)
     | fail)
    refine aaa (v := .tuple #[Zy none 0 0, Zz Zx 4]) (by simp [results,Tryz.results50,go_sem]) rfl ?_;exact dD.err _ _ 4 eX
   ·by_cases u32:nu=32
    ·have u32i:(((nu:Nat):Int) != 32)=false:=by rw [aaf];omega
     by_cases d32:nv=32
     ·have d32i:(((nv:Nat):Int) != 32)=false:=by rw [aaf];omega
      by_cases n16:nn=16
      ·have n16i:(((nn:Nat):Int) != 16)=false:=by rw [aaf];omega
       have e:bV r algo up down nonce=(dw (hd r) algo up down nonce,0):=by unfold bV;rw [aae (by rw [hV];simp),aae Zo,aae Zo,aae Zo]
       obtain ⟨v1,v2,v3,v4⟩:=bm.1 hV;obtain ⟨x0,hx0⟩:∃ x,r[0]?=some x:=⟨_,List.getElem?_eq_getElem Zo⟩;have hhd:hd r=x0:=by unfold hd;rw [FF,hx0];rfl
       obtain ⟨x1,x2,x3⟩:=v1 x0 (List.mem_of_getElem? hx0);rw [hhd] at e;obtain ⟨id,ky⟩:=x0;simp only at x1 x2 x3;subst u32 d32 n16;obtain ⟨b0,off,g,cg,rfl,hb0,hc0,hc1,hSd,hcd⟩:=hI.at 0 Zo _ hx0;simp only at hc0 hc1 hSd hcd;rw [x3] at hc1 hSd hcd;have hrd:=rG (w:=w) (o:=off+0*2) hb0.lt hc0 hc1;rw [Nat.zero_mul,abv] at hrd;have hckl:(dw (id,ky) algo up down nonce).length=104:=qJ x1 x2 x3 hbl hul hvl;have hsl:=λ W h1 h2 h3 h4=>tU id algo g u v b cg cu cv cn ky up down nonce W x1 x2 Zo Zo h1 hcd h2 hcu h3 hcv h4 hcn;generalize dw (id,ky) algo up down nonce=CK at *;rw [e];clear e hhd hul hvl hbl;haveI:=hb0
       go_enter Tryz.func50,Tryz.ntmps50
       go_wp2_with (first
        | (go_at_call 59;refine (hval _ (hI.ext eX)).mono ?_;rintro e w1 ⟨rfl,hxq⟩;obtain ⟨xq,rfl⟩:=hxq.out;clear hxq)
        | fail)
       refine cU ?_;intro W hW;have hEW:Ext w W:=by rw [hW];exact eX
       have hB1:Blk W w.heap.size 26 [Zy (some ⟨b0,off,none⟩) n c]:=by rw [hW];exact bK
       have hB2:Blk W (w.heap.size+1) 55 [Zy u 32 cu, Zy v 32 cv]:=by rw [hW];exact bK
       clear hW;have f0:=hB1.cell? 0 rfl;haveI:=hB1.blt;haveI:=hB2.blt;have hkW:=hSd.ext hEW;have huW:=hu.ext hEW;have hvW:=hv.ext hEW;have hbW:=hb.ext hEW;have hrdW:=hrd.ext hEW;have hn0:0<n:=Zo;refine R2.ae 10 [[],[0],[0,1],[0,1,2],[],[],[],[0,1,2,3,4,5,6],[0,1,2,3,4,5,6,7],[0,1,2,3,4,5,6,7,8]] [] (λ h=>(h rfl).elim) Zk Zk Zk Zk Zk ?_;simp only [q8q,q9q,q10q,q11q,q12q,q13q];(repeat (refine R2.av ?_;(try simp only [Act.put,q0q,q1q,q2q])));(refine R2.ao RM2 _ rfl (λ _=>rfl) b0 off (λ _=>by simp [go_sem]) _ hrdW rfl ?_);(repeat (refine R2.av ?_;(try simp only [Act.put,q0q,q1q,q2q])));(refine R2.ao RP2 _ rfl (λ _=>rfl) (w.heap.size+1) 0 (λ _=>by simp [go_sem]) _ hB2.rd rfl ?_);(repeat (refine R2.av ?_;(try simp only [Act.put,q0q,q1q,q2q])));(refine R2.ai (λ p => .slice (p 0).1 104 (p 0).2) (λ p w''=>Own w'' 0 (p 0).1 104 (p 0).2 CK) (λ p w w' h hx=>h.ext hx) (λ us w' hx hf=>⟨rfl,?_⟩) ?_;(unfold gives;simp [go_sem,execOp];exact az (aak _) (hsl _ (hkW.ext hx) (huW.ext hx) (hvW.ext hx) (hbW.ext hx))));(repeat (refine R2.av ?_;(try simp only [Act.put,q0q,q1q,q2q])));(refine R2.aU ?_;intro us x hx hf);go_wp2_with fail;refine aaa (v := .tuple #[.slice (us 7 0).1 104 (us 7 0).2, Zz Zx 0]) (by simp [results,Tryz.results50,go_sem]) rfl ?_;show ∃ a c,_=Ending.returned (.tuple #[Zy a CK.length c, Zz Zx 0])/\Own _ 0 a CK.length c CK/\Ext w _;rw [hckl];exact ⟨_,_,rfl,hf,hEW.ext x⟩
      ·have e:bV r algo up down nonce=([],3):=by unfold bV;rw [aae (by rw [hV];simp),aae Zo,aae Zo,aaj Zo]
       rw [e];have n16i:(((nn:Nat):Int) != 16)=true:=by rw [aao];omega
       clear hul hvl hbl e n16 u32 d32
       go_enter Tryz.func50,Tryz.ntmps50
       go_wp2_with (first
        | (go_at_call 59;refine (hval _ (hI.ext eX)).mono ?_;rintro e w1 ⟨rfl,hxq⟩;obtain ⟨xq,rfl⟩:=hxq.out;clear hxq)
        | fail)
       refine aaa (v := .tuple #[Zy none 0 0, Zz Zx 3]) (by simp [results,Tryz.results50,go_sem]) rfl ?_;exact dD.err _ _ 3 eX
     ·have e:bV r algo up down nonce=([],5):=by unfold bV;rw [aae (by rw [hV];simp),aae Zo,aaj Zo]
      rw [e];have d32i:(((nv:Nat):Int) != 32)=true:=by rw [aao];omega
      clear hul hvl hbl e u32 d32
      go_enter Tryz.func50,Tryz.ntmps50
      go_wp2_with (first
       | (go_at_call 59;refine (hval _ (hI.ext eX)).mono ?_;rintro e w1 ⟨rfl,hxq⟩;obtain ⟨xq,rfl⟩:=hxq.out;clear hxq)
       | fail)
      refine aaa (v := .tuple #[Zy none 0 0, Zz Zx 5]) (by simp [results,Tryz.results50,go_sem]) rfl ?_;exact dD.err _ _ 5 eX
    ·have e:bV r algo up down nonce=([],5):=by unfold bV;rw [aae (by rw [hV];simp),aae Zo,aaj Zo]
     rw [e];have u32i:(((nu:Nat):Int) != 32)=true:=by rw [aao];omega
     clear hul hvl hbl e u32
     go_enter Tryz.func50,Tryz.ntmps50
     go_wp2_with (first
      | (go_at_call 59;refine (hval _ (hI.ext eX)).mono ?_;rintro e w1 ⟨rfl,hxq⟩;obtain ⟨xq,rfl⟩:=hxq.out;clear hxq)
      | fail)
     refine aaa (v := .tuple #[Zy none 0 0, Zz Zx 5]) (by simp [results,Tryz.results50,go_sem]) rfl ?_;exact dD.err _ _ 5 eX
theorem yd (a:E8)(n c:Nat) (l:E7)(w:World)(h:Sl w a n l) (hc:n<=c) :
  Calls Tryz.prog 67 #[Zy a n c] w λ e w'=>e = .returned (.tuple #[Zz Zx (idE l).1, Zz Zx (idE l).2])/\Ext w w':=by
 have hl:=h.len;by_cases n104:n=104
 ·subst n104;obtain ⟨q,hq⟩:∃ q,cR (l.take 4)=q:=⟨_,rfl⟩;have e:=FC (show idE l=(n64 q,0) by unfold idE iG;rw [aae Zo,hq]);have hb:=pO (l.take 4) (by rw [aat];omega);rw [hq] at hb;have hget:=λ W H1=>fb a 4 c (l.take 4) W H1 Zo;simp only [hq] at hget;have hw:IntKind.i64.wrap (n64 q)=n64 q:=by rw [aaO];omega
  have h4:=h.take 4 Zo;have k1:(4:Int)<=(c:Int):=Zo;clear hl hq
  go_enter Tryz.func67,Tryz.ntmps67
  go_wp2_with (first
   | (go_at_call 69;refine (hget _ h4).mono ?_;rintro e w1 ⟨rfl,hxq⟩;obtain ⟨xq,rfl⟩:=hxq.out;clear hxq)
   | fail)
  refine aaa (v := .tuple #[Zz Zx (n64 q), Zz Zx 0]) (by simp [results,Tryz.results67,go_sem]) rfl ?_;exact ⟨by rw [e.out],eX⟩
 ·have e:=FC (show idE l=(0,3) by unfold idE;rw [aaj Zo]);have hI:(((n:Nat):Int) != 104)=true:=by rw [aao];omega
  clear hl n104
  go_enter Tryz.func67,Tryz.ntmps67
  go_wp2_with fail;refine aaa (v := .tuple #[Zz Zx 0, Zz Zx 3]) (by simp [results,Tryz.results67,go_sem]) rfl ?_;exact ⟨by rw [e.out],eX⟩
end Go.Proofs.P9
