/- Lemmas of this claim, several texts joined. -/
import Derived.ArgAppend
import Derived.Test.YtmdahnkcnagkjaaGreatZ34
set_option maxRecDepth 100000
open Go.Value renaming int -> Zz,slice -> Zy
open Go.IntKind renaming i64 -> Zx,u8 -> Zu
set_option maxHeartbeats 8000000
set_option linter.unusedVariables false
set_option linter.unusedSimpArgs false
/- The walks of layer 3: labels. -/
namespace Go.Sec
open Go.RowKit
def Rdl (n:Nat) (l:E7)(w:World)(e:Ending) (w':World):Prop:=∃ a c,e = .returned (Zy a n c)/\Sl w' a n l/\n<=c/\Ext w w'
end Go.Sec
namespace Go.Proofs.P9
open Go.RowKit Go.Sec Go.Oct Go.Sha BigFrame
end Go.Proofs.P9

/- The walks of layer 3 of the document. -/
namespace Go.Sec
open Go.RowKit
theorem nP (w:World)(l:E7):Sl (w.ext (eH w ⟨l.toArray⟩)) (some ⟨w.heap.size,0,none⟩) l.length l:=by
 have:=BT w ⟨l.toArray⟩;simpa [ByteArray.size] using this
end Go.Sec
namespace Go.Proofs.P9
open Go.RowKit Go.Sec Go.Oct Go.Sha BigFrame
theorem ow (a:E8)(n c:Nat) (key:E7)(x:UInt8) {xI:Int} (hx:xI=n8 x) (w:World)(h:Sl w a n key) (hnc:n<=c) (hn:n<=1000000) :
  Calls Tryz.prog 137 #[.slice a n c, .int .u8 xI] w (bZ 64 (m5 (Sha.keyOf key) x) w):=by
 subst hx;have hkl:=h.len;have hkol:=r9 key;have hmk:=λ W=>dc U 64 64 Zo Zo W;simp only [aan] at hmk;have hz:(List.replicate 64 (0:UInt8)).length=64:=aaL;obtain ⟨zs,hzs⟩:∃ zs,Hid (zs=List.replicate 64 (0:UInt8)):=⟨_,FC rfl⟩;rw [<- hzs.out] at hz;have hg0:∀ k,zs.getD k 0=0:=λ k=>by
  rw [hzs.out,FF,List.getElem?_replicate];split <;> rfl
 by_cases h64:64<n
 ·have hI:(64:Int)<(n:Int):=by omega
  have hko:=FC (show Sha.keyOf key=sha key by unfold Sha.keyOf;rw [aaj Zo]);clear hkl
  go_enter Tryz.func137,Tryz.ntmps137
  go_wp2_with fail;(with_reducible refine (nR _ _ _ _ _ h hnc hn).mono ?_);rintro e w0 ⟨a0,c0,rfl,hO0,hx0⟩;rw [<- hko.out] at hO0;clear hko;have hS0:=hO0.sl;clear hO0;generalize Sha.keyOf key=ko at *;have hkN:=(hS0).len;go_wp2;have hB0:=bY w0 64;rw [<- hzs.out] at hB0
  go_loopw [6] (λ v6 wr=>∃ k:Nat,k<=64/\v6 = Zz Zx k/\Blk wr w0.heap.size 5 ((dy (λ i=>b' ko i ^^^ x) zs k).map u8v)/\Ext w0 wr) (λ v6 _=>64-(intOf v6).toNat)
  case atStart=>exact ⟨0,Zo,rfl,by rw [dL];exact hB0,FA _ _⟩
  case round =>
   obtain ⟨k,hk,rfl,hBr,hxr⟩:=hrel;by_cases hlt:k<64
   ·have hc:=hBr.at_upTo k (aad _) Zo;rw [hg0 k] at hc;have hf:=hBr.free k;haveI:=hBr.blt;have hU:=iJ (λ i=>b' ko i ^^^ x) zs k Zo;have k0:(0:Int)<=(k:Int):=Zo;have k1:(k:Int)<64:=Zo;by_cases hkn:k<32
    ·obtain ⟨b0,o0,hae,hb0,hcell⟩:=((hS0).ext hxr).atD k hkn;have hbk:ko.getD k 0=b' ko k:=rfl;rw [hbk] at hcell;subst hae;have k2:(k:Int)<(32:Int):=Zo;have hne:b0≠w0.heap.size:=by
      have:=(hS0).lt Zo b0 o0 rfl;omega
     have hB2:=(hBr.set k (u8v (b' ko k))).set k (u8v (b' ko k ^^^ x));rw [List.set_set,<- aaT,hU] at hB2;generalize b' ko k=y at *;clear hU;go_wp2;go_roundw
     case rel=>exact ⟨k+1,Zo,Zg,hB2,Ext.setCell (Ext.setCell hxr Zs _) Zs _⟩
     case measure=>simp [intOf];omega
    ·have k2:¬ (k:Int)<(32:Int):=by omega
     have hb0:b' ko k=0:=by unfold b';rw [FF,List.getElem?_eq_none Zo];rfl
     have hB2:=hBr.set k (u8v (0 ^^^ x));rw [<- aaT] at hB2;simp only [hb0] at hU;rw [hU,UInt8.zero_xor] at hB2;clear hU;go_wp2;go_roundw
     case rel=>exact ⟨k+1,Zo,Zg,hB2,Ext.setCell hxr Zs _⟩
     case measure=>simp [intOf];omega
   ·obtain rfl:k=64:=Zo;(try simp only [Nat.reduceAdd,Nat.reduceMul,Nat.reduceDiv,Nat.reduceSub,aan]);have hO:=Own.of_blk (base:=w0.heap.size) hBr (aad _) (by rw [cD _ _ _ Zo,hz];decide);rw [fH _ _ _ hz,show ((List.range 64).map λ i=>b' ko i ^^^ x).length=64 by simp] at hO;go_wp2;go_ret;exact ⟨_,_,rfl,hO.mono (hx0).size,(hx0).trans hxr⟩
 ·have hI:¬ (64:Int)<(n:Int):=by omega
  have hko:Sha.keyOf key=key:=by unfold Sha.keyOf;rw [aae Zo]
  rw [<- hko] at h;clear hkl hko
  go_enter Tryz.func137,Tryz.ntmps137
  generalize Sha.keyOf key=ko at *;have hkN:=(h).len;go_wp2;have hB0:=bY w 64;rw [<- hzs.out] at hB0
  go_loopw [6] (λ v6 wr=>∃ k:Nat,k<=64/\v6 = Zz Zx k/\Blk wr w.heap.size 5 ((dy (λ i=>b' ko i ^^^ x) zs k).map u8v)/\Ext w wr) (λ v6 _=>64-(intOf v6).toNat)
  case atStart=>exact ⟨0,Zo,rfl,by rw [dL];exact hB0,FA _ _⟩
  case round =>
   obtain ⟨k,hk,rfl,hBr,hxr⟩:=hrel;by_cases hlt:k<64
   ·have hc:=hBr.at_upTo k (aad _) Zo;rw [hg0 k] at hc;have hf:=hBr.free k;haveI:=hBr.blt;have hU:=iJ (λ i=>b' ko i ^^^ x) zs k Zo;have k0:(0:Int)<=(k:Int):=Zo;have k1:(k:Int)<64:=Zo;by_cases hkn:k<n
    ·obtain ⟨b0,o0,hae,hb0,hcell⟩:=((h).ext hxr).atD k hkn;have hbk:ko.getD k 0=b' ko k:=rfl;rw [hbk] at hcell;subst hae;have k2:(k:Int)<(n:Int):=Zo;have hne:b0≠w.heap.size:=by
      have:=(h).lt Zo b0 o0 rfl;omega
     have hB2:=(hBr.set k (u8v (b' ko k))).set k (u8v (b' ko k ^^^ x));rw [List.set_set,<- aaT,hU] at hB2;generalize b' ko k=y at *;clear hU;go_wp2;go_roundw
     case rel=>exact ⟨k+1,Zo,Zg,hB2,Ext.setCell (Ext.setCell hxr Zs _) Zs _⟩
     case measure=>simp [intOf];omega
    ·have k2:¬ (k:Int)<(n:Int):=by omega
     have hb0:b' ko k=0:=by unfold b';rw [FF,List.getElem?_eq_none Zo];rfl
     have hB2:=hBr.set k (u8v (0 ^^^ x));rw [<- aaT] at hB2;simp only [hb0] at hU;rw [hU,UInt8.zero_xor] at hB2;clear hU;go_wp2;go_roundw
     case rel=>exact ⟨k+1,Zo,Zg,hB2,Ext.setCell hxr Zs _⟩
     case measure=>simp [intOf];omega
   ·obtain rfl:k=64:=Zo;(try simp only [Nat.reduceAdd,Nat.reduceMul,Nat.reduceDiv,Nat.reduceSub,aan]);have hO:=Own.of_blk (base:=w.heap.size) hBr (aad _) (by rw [cD _ _ _ Zo,hz];decide);rw [fH _ _ _ hz,show ((List.range 64).map λ i=>b' ko i ^^^ x).length=64 by simp] at hO;go_wp2;go_ret;exact ⟨_,_,rfl,hO.mono (FD w).size,(FD w).trans hxr⟩
theorem wj (a b:E8)(n c m d:Nat) (key l:E7)(w:World)(hk:Sl w a n key) (hnc:n<=c) (hn:n<=1000000) (hl:Sl w b m l) (hm:m<=900000) :
  Calls Tryz.prog 102 #[Zy a n c, Zy b m d] w (bZ 32 (kN key l) w):=by
 have HH:=FC (show kN key l=sha (m5 (Sha.keyOf key) 92++sha (m5 (Sha.keyOf key) 54++l)) from rfl);have hl1:∀ x,(m5 (Sha.keyOf key) x).length=64:=λ x=>rK _ _;have hll:=hl.len
 go_enter Tryz.func102,Tryz.ntmps102
 go_wp2_with fail;(with_reducible refine (ow _ _ _ key 92 Zd _ hk hnc hn).mono ?_);rintro e w1 ⟨a1,c1,rfl,hO1,hx1⟩;go_wp2_with fail;(with_reducible refine (ow _ _ _ key 54 Zd _ (hk.ext hx1) hnc hn).mono ?_);rintro e w2 ⟨a2,c2,rfl,hO2,hx2⟩;have k1:=hl1 92;have k2:=hl1 54;generalize m5 (Sha.keyOf key) 92=m1 at *;generalize m5 (Sha.keyOf key) 54=m2 at *;have hx12:=hx1.trans hx2;go_wp2_with fail;(with_reducible refine (aR _ _ _ _ _ (oZ hO2.sl (hl.ext hx12) _) Zo (64+m) (by simp [gL,k2,hll]) Zo).mono ?_);rintro e w3 ⟨a3,c3,rfl,hO3,hx3⟩;rw [gL] at hO3;have hle3:=hO3.le;have hE3:Ext w w3:=(Ext.alloc hx12 _).trans hx3;have hE13:Ext w1 w3:=(Ext.alloc hx2 _).trans hx3;go_wp2_with fail;(with_reducible refine (nR _ _ _ _ _ hO3.sl hle3.1 Zo).mono ?_);rintro e w4 ⟨a4,c4,rfl,hO4,hx4⟩;have k3:(sha (m2++l)).length=32:=jg _;generalize sha (m2++l)=inner at *;go_wp2_with fail;(with_reducible refine (aR _ _ _ _ _ (oZ (hO1.sl.ext (hE13.trans hx4)) hO4.sl _) Zo 96 (by simp [gL,k1,k3]) Zo).mono ?_);rintro e w5 ⟨a5,c5,rfl,hO5,hx5⟩;rw [gL] at hO5;have hle5:=hO5.le;have hE5:Ext w w5:=(Ext.alloc (hE3.trans hx4) _).trans hx5;go_wp2_with fail;(with_reducible refine (nR _ _ _ _ _ hO5.sl hle5.1 Zo).mono ?_);rintro e w6 ⟨a6,c6,rfl,hO6,hx6⟩;go_wp2;go_ret;exact ⟨_,_,rfl,by rw [HH.out];exact hO6.mono hE5.size,hE5.trans hx6⟩
theorem m8 (a b:E8)(n c m d k:Nat) {kI:Int} (hkI:kI=(k:Int)) (key info:E7)(w:World)(hk:Sl w a n key) (hnc:n<=c) (hn:n<=1000000) (hl:Sl w b m info) (hm:m<=800000) (hk8:k<=8160) :
  Calls Tryz.prog 63 #[Zy a n c, Zy b m d, Zz Zx kI] w (bD k (eh key info k) (Zz Zx 0) w):=by
 subst hkI;obtain ⟨q,hq⟩:∃ q,q=(k+31) / 32:=⟨_,rfl⟩;have HW:=FC (show eh key info k=(sE key info q).take k by rw [hq];rfl);have hq1:32*q<k+32:=Zo;have hq2:k<=32*q:=Zo;have hI:¬ (8160:Int)<(k:Int):=Zo;have hll:=hl.len;clear hq
 go_enter Tryz.func63,Tryz.ntmps63
 go_wp2
 go_loopw [8,9,10] (λ v8 v9 v10 wr=>∃ (i ll:Nat) (so la:E8)(co lc:Nat),i<=q/\v10 = Zz Zx ((i+1:Nat):Int)/\v8 = Zy so (32*i) co/\v9 = Zy la ll lc/\ll<=32/\Own wr w.heap.size so (32*i) co (sE key info i)/\Sl wr la ll (tK key info i)/\Off la (Value.slice so (32*i) co).ownBlock/\Ext w wr) (λ _ _ v10 _=>q+1-(intOf v10).toNat)
 case atStart=>exact ⟨0,0,_,_,0,0,Zo,rfl,rfl,rfl,Zo,(fy _).ext (FA _ _),Sl.nil _ _,Off.of Zs,eX⟩
 case round =>
  obtain ⟨i,ll,so,la,co,lc,hi,rfl,rfl,rfl,hll2,hO,hL,hD,hx⟩:=hrel;have hlk:=hL.len;by_cases hlt:i<q
  ·have hlt2:32*(i:Int)<(k:Int):=by omega
   have hb8:=AG i Zo;have HT:=FC (show tK key info (i+1)=kN key (tK key info i++info++[UInt8.ofNat (i+1)]) from rfl);have HO:=FC (show sE key info (i+1)=sE key info i++tK key info (i+1) from rfl);obtain ⟨bb,hbb⟩:∃ bb,bb=UInt8.ofNat (i+1):=⟨_,rfl⟩;rw [<- hbb] at hb8 HT;clear hbb;have hx1:Ext wr (wr.alloc (.cells #[Zz Zu (n8 bb)] 5)):=FA _ _;have hB3:=zP (c1:=lc) (c2:=d) (c3:=1) (hL.ext hx1) ((hl.ext hx).ext hx1) (bI wr bb 5) 33;rw [aa8] at hB3;go_wp2_with fail;(with_reducible refine (aR _ _ _ _ _ hB3 Zo (ll+m+1) (by simp [jR,hlk,hll];omega) Zo).mono ?_);rintro e w3 ⟨a3,c3,rfl,hO3,hx3⟩;rw [jR,<- aam] at hO3;have hle3:=hO3.le;have hE3:Ext wr w3:=(Ext.alloc hx1 _).trans hx3;go_wp2_with fail;(with_reducible refine (wj _ _ _ _ _ _ _ _ _ (hk.ext (hx.trans hE3)) hnc hn hO3.sl Zo).mono ?_);rintro e w4 ⟨a4,c4,rfl,hO4,hx4⟩;rw [<- HT.out] at hO4;have hE4:=hE3.trans hx4
   go_wp2_with (first
    | (at_builtin;refine iy U rfl _ _ rfl w.heap.size so (32*i) co _ rfl _ 32 _ _ rfl (hO.ext hE4) hO4.sl Zo (hx.trans hE4).size ?_;intro a5 c5 w5 hO5 hg5 hB5 hD5)
    | fail)
   have hl3:=fS hO.2;have hl4:=fS hO4.2;have hge:=hO4.ge Zo;have hlt4:=hO4.sl.lt Zo;have hof:Off a4 (Value.slice so (32*i) co).ownBlock := .gt (N:=w3.heap.size) hge (λ g e=>by have:=(hl3 g e).2;have:=hE3.size;omega);go_roundw
   case rel =>
    refine ⟨i+1,32,a5,a4,c5,c4,Zo,Zg,rfl,rfl,Zo,by rw [HO.out];exact hO5,hO4.sl.grown hg5 hof,?_,E9 (hx.trans hE4) hB5⟩;exact hof.app hlt4 hD5
   case measure=>simp [intOf];omega
  ·obtain rfl:i=q:=by omega
   have hle:=hO.le;have hlt2:¬ 32*(i:Int)<(k:Int):=Zo;have hkc:(k:Int)<=(co:Int):=Zo;go_wp2;go_ret2;exact ⟨_,_,rfl,by rw [HW.out];exact hO.sl.take k Zo,Zo,hx⟩
end Go.Proofs.P9
