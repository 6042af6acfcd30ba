/- Lemmas of this claim, several texts joined. -/
import Derived.ArgAppend
import Derived.Test.YtmdahnkcnagkjaaGreatZ9
import Derived.Test.YtmdahnkcnagkjaaGreatZ33
set_option maxRecDepth 100000
set_option maxHeartbeats 8000000
set_option linter.unusedVariables false
set_option linter.unusedSimpArgs false
/- The walks of layer 3: labels. -/
namespace Go.Sec
open Go.RowKit
def Rdl (n:Nat) (l:List UInt8)(w:World)(e:Ending) (w':World):Prop:=∃ a c,e = .returned (.slice a n c)∧Sl w' a n l∧n≤c∧Ext w w'
end Go.Sec
namespace Go.Proofs.YtmdahnkcnagkjaaGreat
open Go.RowKit Go.Sec Go.Oct Go.Sha BigFrame
end Go.Proofs.YtmdahnkcnagkjaaGreat

/- The walks of layer 3 of the document. -/
namespace Go.Sec
open Go.RowKit
theorem uN (w:World)(l:List UInt8):Sl (w.ext (fw w ⟨l.toArray⟩)) (some ⟨w.heap.size,0,none⟩) l.length l:=by
 have:=AX w ⟨l.toArray⟩
 simpa [ByteArray.size] using this
end Go.Sec
namespace Go.Proofs.YtmdahnkcnagkjaaGreat
open Go.RowKit Go.Sec Go.Oct Go.Sha BigFrame
theorem nh (a:Option Addr)(n c:Nat) (key:List UInt8)(x:UInt8) {xI:Int} (hx:xI=n8 x) (w:World)(h:Sl w a n key) (hnc:n≤c) (hn:n≤1000000) :
  Calls Tryz.prog 137 #[.slice a n c, .int .u8 xI] w (cf 64 (mK (Sha.keyOf key) x) w):=by
 subst hx
 have hkl:=h.len
 have hkol:=qv key
 have hmk:=fun W=>dv U 64 64 (by omega) (by omega) W
 simp only [aat] at hmk
 have hz:(List.replicate 64 (0:UInt8)).length=64:=aaP
 obtain ⟨zs,hzs⟩:∃ zs,Hid (zs=List.replicate 64 (0:UInt8)):=⟨_,Lib.hid rfl⟩
 rw [← hzs.out] at hz
 have hg0:∀ k,zs.getD k 0=0:=fun k=>by
  rw [hzs.out,List.getD_eq_getElem?_getD,List.getElem?_replicate];split <;> rfl
 by_cases h64:64<n
 ·have hI:(64:Int)<(n:Int):=by omega
  have hko:=Lib.hid (show Sha.keyOf key=sha key by unfold Sha.keyOf;rw [aam (by omega)])
  clear hkl
  go_enter Tryz.func137,Tryz.ntmps137
  go_wp2_with fail;(with_reducible refine (na _ _ _ _ _ h hnc hn).mono ?_);rintro e w0 ⟨a0,c0,rfl,hO0,hx0⟩
  rw [← hko.out] at hO0
  clear hko
  have hS0:=hO0.sl
  clear hO0
  generalize Sha.keyOf key=ko at *
  have hkN:=(hS0).len
  go_wp2
  have hB0:=bX w0 64
  rw [← hzs.out] at hB0
  go_loopw [6] (fun v6 wr=>∃ k:Nat,k≤64∧v6 = .int .i64 k∧Blk wr w0.heap.size 5 ((dt (fun i=>b' ko i ^^^ x) zs k).map u8v)∧Ext w0 wr) (fun v6 _=>64-(intOf v6).toNat)
  case atStart=>exact ⟨0,by omega,rfl,by rw [dI];exact hB0,Ext.of_alloc _ _⟩
  case round =>
   obtain ⟨k,hk,rfl,hBr,hxr⟩:=hrel
   by_cases hlt:k<64
   ·have hc:=hBr.at_upTo k (aag _) (by omega)
    rw [hg0 k] at hc
    have hf:=hBr.free k
    haveI:=hBr.blt
    have hU:=iE (fun i=>b' ko i ^^^ x) zs k (by omega)
    have k0:(0:Int)≤(k:Int):=by omega
    have k1:(k:Int)<64:=by omega
    by_cases hkn:k<32
    ·obtain ⟨b0,o0,hae,hb0,hcell⟩:=((hS0).ext hxr).atD k hkn
     have hbk:ko.getD k 0=b' ko k:=rfl
     rw [hbk] at hcell
     subst hae
     have k2:(k:Int)<(32:Int):=by omega
     have hne:b0≠w0.heap.size:=by
      have:=(hS0).lt (by omega) b0 o0 rfl
      omega
     have hB2:=(hBr.set k (u8v (b' ko k))).set k (u8v (b' ko k ^^^ x))
     rw [List.set_set,← aaX,hU] at hB2
     generalize b' ko k=y at *
     clear hU
     go_wp2
     go_roundw
     case rel=>exact ⟨k+1,by omega,by go_num,hB2,Ext.setCell (Ext.setCell hxr (by simp) _) (by simp) _⟩
     case measure=>simp [intOf];omega
    ·have k2:¬ (k:Int)<(32:Int):=by omega
     have hb0:b' ko k=0:=by unfold b';rw [List.getD_eq_getElem?_getD,List.getElem?_eq_none (by omega)];rfl
     have hB2:=hBr.set k (u8v (0 ^^^ x))
     rw [← aaX] at hB2
     simp only [hb0] at hU
     rw [hU,UInt8.zero_xor] at hB2
     clear hU
     go_wp2
     go_roundw
     case rel=>exact ⟨k+1,by omega,by go_num,hB2,Ext.setCell hxr (by simp) _⟩
     case measure=>simp [intOf];omega
   ·obtain rfl:k=64:=(by omega);(try simp only [Nat.reduceAdd,Nat.reduceMul,Nat.reduceDiv,Nat.reduceSub,aat])
    have hO:=Own.of_blk (base:=w0.heap.size) hBr (aag _) (by rw [cz _ _ _ (by omega),hz];decide)
    rw [fB _ _ _ hz,show ((List.range 64).map fun i=>b' ko i ^^^ x).length=64 by simp] at hO
    go_wp2
    go_ret
    exact ⟨_,_,rfl,hO.mono (hx0).size,(hx0).trans hxr⟩
 ·have hI:¬ (64:Int)<(n:Int):=by omega
  have hko:Sha.keyOf key=key:=by unfold Sha.keyOf;rw [aaf (by omega)]
  rw [← hko] at h
  clear hkl hko
  go_enter Tryz.func137,Tryz.ntmps137
  generalize Sha.keyOf key=ko at *
  have hkN:=(h).len
  go_wp2
  have hB0:=bX w 64
  rw [← hzs.out] at hB0
  go_loopw [6] (fun v6 wr=>∃ k:Nat,k≤64∧v6 = .int .i64 k∧Blk wr w.heap.size 5 ((dt (fun i=>b' ko i ^^^ x) zs k).map u8v)∧Ext w wr) (fun v6 _=>64-(intOf v6).toNat)
  case atStart=>exact ⟨0,by omega,rfl,by rw [dI];exact hB0,Ext.of_alloc _ _⟩
  case round =>
   obtain ⟨k,hk,rfl,hBr,hxr⟩:=hrel
   by_cases hlt:k<64
   ·have hc:=hBr.at_upTo k (aag _) (by omega)
    rw [hg0 k] at hc
    have hf:=hBr.free k
    haveI:=hBr.blt
    have hU:=iE (fun i=>b' ko i ^^^ x) zs k (by omega)
    have k0:(0:Int)≤(k:Int):=by omega
    have k1:(k:Int)<64:=by omega
    by_cases hkn:k<n
    ·obtain ⟨b0,o0,hae,hb0,hcell⟩:=((h).ext hxr).atD k hkn
     have hbk:ko.getD k 0=b' ko k:=rfl
     rw [hbk] at hcell
     subst hae
     have k2:(k:Int)<(n:Int):=by omega
     have hne:b0≠w.heap.size:=by
      have:=(h).lt (by omega) b0 o0 rfl
      omega
     have hB2:=(hBr.set k (u8v (b' ko k))).set k (u8v (b' ko k ^^^ x))
     rw [List.set_set,← aaX,hU] at hB2
     generalize b' ko k=y at *
     clear hU
     go_wp2
     go_roundw
     case rel=>exact ⟨k+1,by omega,by go_num,hB2,Ext.setCell (Ext.setCell hxr (by simp) _) (by simp) _⟩
     case measure=>simp [intOf];omega
    ·have k2:¬ (k:Int)<(n:Int):=by omega
     have hb0:b' ko k=0:=by unfold b';rw [List.getD_eq_getElem?_getD,List.getElem?_eq_none (by omega)];rfl
     have hB2:=hBr.set k (u8v (0 ^^^ x))
     rw [← aaX] at hB2
     simp only [hb0] at hU
     rw [hU,UInt8.zero_xor] at hB2
     clear hU
     go_wp2
     go_roundw
     case rel=>exact ⟨k+1,by omega,by go_num,hB2,Ext.setCell hxr (by simp) _⟩
     case measure=>simp [intOf];omega
   ·obtain rfl:k=64:=(by omega);(try simp only [Nat.reduceAdd,Nat.reduceMul,Nat.reduceDiv,Nat.reduceSub,aat])
    have hO:=Own.of_blk (base:=w.heap.size) hBr (aag _) (by rw [cz _ _ _ (by omega),hz];decide)
    rw [fB _ _ _ hz,show ((List.range 64).map fun i=>b' ko i ^^^ x).length=64 by simp] at hO
    go_wp2
    go_ret
    exact ⟨_,_,rfl,hO.mono (Ext.refl w).size,(Ext.refl w).trans hxr⟩
theorem wc (a b:Option Addr)(n c m d:Nat) (key l:List UInt8)(w:World)(hk:Sl w a n key) (hnc:n≤c) (hn:n≤1000000) (hl:Sl w b m l) (hm:m≤900000) :
  Calls Tryz.prog 102 #[.slice a n c, .slice b m d] w (cf 32 (kL key l) w):=by
 have HH:=Lib.hid (show kL key l=sha (mK (Sha.keyOf key) 92++sha (mK (Sha.keyOf key) 54++l)) from rfl)
 have hl1:∀ x,(mK (Sha.keyOf key) x).length=64:=fun x=>rm _ _
 have hll:=hl.len
 go_enter Tryz.func102,Tryz.ntmps102
 go_wp2_with fail;(with_reducible refine (nh _ _ _ key 92 (by decide) _ hk hnc hn).mono ?_);rintro e w1 ⟨a1,c1,rfl,hO1,hx1⟩
 go_wp2_with fail;(with_reducible refine (nh _ _ _ key 54 (by decide) _ (hk.ext hx1) hnc hn).mono ?_);rintro e w2 ⟨a2,c2,rfl,hO2,hx2⟩
 have k1:=hl1 92
 have k2:=hl1 54
 generalize mK (Sha.keyOf key) 92=m1 at *
 generalize mK (Sha.keyOf key) 54=m2 at *
 have hx12:=hx1.trans hx2
 go_wp2_with fail;(with_reducible refine (bf _ _ _ _ _ (oY hO2.sl (hl.ext hx12) _) (by omega) (64+m) (by simp [ic,k2,hll]) (by omega)).mono ?_);rintro e w3 ⟨a3,c3,rfl,hO3,hx3⟩
 rw [ic] at hO3
 have hle3:=hO3.le
 have hE3:Ext w w3:=(Ext.alloc hx12 _).trans hx3
 have hE13:Ext w1 w3:=(Ext.alloc hx2 _).trans hx3
 go_wp2_with fail;(with_reducible refine (na _ _ _ _ _ hO3.sl hle3.1 (by omega)).mono ?_);rintro e w4 ⟨a4,c4,rfl,hO4,hx4⟩
 have k3:(sha (m2++l)).length=32:=iY _
 generalize sha (m2++l)=inner at *
 go_wp2_with fail;(with_reducible refine (bf _ _ _ _ _ (oY (hO1.sl.ext (hE13.trans hx4)) hO4.sl _) (by omega) 96 (by simp [ic,k1,k3]) (by omega)).mono ?_);rintro e w5 ⟨a5,c5,rfl,hO5,hx5⟩
 rw [ic] at hO5
 have hle5:=hO5.le
 have hE5:Ext w w5:=(Ext.alloc (hE3.trans hx4) _).trans hx5
 go_wp2_with fail;(with_reducible refine (na _ _ _ _ _ hO5.sl hle5.1 (by omega)).mono ?_);rintro e w6 ⟨a6,c6,rfl,hO6,hx6⟩
 go_wp2
 go_ret
 exact ⟨_,_,rfl,by rw [HH.out];exact hO6.mono hE5.size,hE5.trans hx6⟩
theorem mT (a b:Option Addr)(n c m d k:Nat) {kI:Int} (hkI:kI=(k:Int)) (key info:List UInt8)(w:World)(hk:Sl w a n key) (hnc:n≤c) (hn:n≤1000000) (hl:Sl w b m info) (hm:m≤800000) (hk8:k≤8160) :
  Calls Tryz.prog 63 #[.slice a n c, .slice b m d, .int .i64 kI] w (bQ k (dY key info k) (.int .i64 0) w):=by
 subst hkI
 obtain ⟨q,hq⟩:∃ q,q=(k+31) / 32:=⟨_,rfl⟩
 have HW:=Lib.hid (show dY key info k=(rM key info q).take k by rw [hq];rfl)
 have hq1:32*q<k+32:=by omega
 have hq2:k≤32*q:=by omega
 have hI:¬ (8160:Int)<(k:Int):=by omega
 have hll:=hl.len
 clear hq
 go_enter Tryz.func63,Tryz.ntmps63
 go_wp2
 go_loopw [8,9,10] (fun v8 v9 v10 wr=>∃ (i ll:Nat) (so la:Option Addr)(co lc:Nat),i≤q∧v10 = .int .i64 ((i+1:Nat):Int)∧v8 = .slice so (32*i) co∧v9 = .slice la ll lc∧ll≤32∧Own wr w.heap.size so (32*i) co (rM key info i)∧Sl wr la ll (tK key info i)∧Off la (Value.slice so (32*i) co).ownBlock∧Ext w wr) (fun _ _ v10 _=>q+1-(intOf v10).toNat)
 case atStart=>exact ⟨0,0,_,_,0,0,by omega,rfl,rfl,rfl,by omega,(fm _).ext (Ext.of_alloc _ _),Sl.nil _ _,Off.of (by simp),eX⟩
 case round =>
  obtain ⟨i,ll,so,la,co,lc,hi,rfl,rfl,rfl,hll2,hO,hL,hD,hx⟩:=hrel
  have hlk:=hL.len
  by_cases hlt:i<q
  ·have hlt2:32*(i:Int)<(k:Int):=by omega
   have hb8:=zw i (by omega)
   have HT:=Lib.hid (show tK key info (i+1)=kL key (tK key info i++info++[UInt8.ofNat (i+1)]) from rfl)
   have HO:=Lib.hid (show rM key info (i+1)=rM key info i++tK key info (i+1) from rfl)
   obtain ⟨bb,hbb⟩:∃ bb,bb=UInt8.ofNat (i+1):=⟨_,rfl⟩
   rw [← hbb] at hb8 HT
   clear hbb
   have hx1:Ext wr (wr.alloc (.cells #[.int .u8 (n8 bb)] 5)):=Ext.of_alloc _ _
   have hB3:=zn (c1:=lc) (c2:=d) (c3:=1) (hL.ext hx1) ((hl.ext hx).ext hx1) (bF wr bb 5) 33
   rw [aa8] at hB3
   go_wp2_with fail;(with_reducible refine (bf _ _ _ _ _ hB3 (by omega) (ll+m+1) (by simp [jn,hlk,hll];omega) (by omega)).mono ?_);rintro e w3 ⟨a3,c3,rfl,hO3,hx3⟩
   rw [jn,← aas] at hO3
   have hle3:=hO3.le
   have hE3:Ext wr w3:=(Ext.alloc hx1 _).trans hx3
   go_wp2_with fail;(with_reducible refine (wc _ _ _ _ _ _ _ _ _ (hk.ext (hx.trans hE3)) hnc hn hO3.sl (by omega)).mono ?_);rintro e w4 ⟨a4,c4,rfl,hO4,hx4⟩
   rw [← HT.out] at hO4
   have hE4:=hE3.trans hx4
   go_wp2_with (first
    | (at_builtin;refine gC U rfl _ _ rfl w.heap.size so (32*i) co _ rfl _ 32 _ _ rfl (hO.ext hE4) hO4.sl (by omega) (hx.trans hE4).size ?_;intro a5 c5 w5 hO5 hg5 hB5 hD5)
    | fail)
   have hl3:=fh hO.2
   have hl4:=fh hO4.2
   have hge:=hO4.ge (by omega)
   have hlt4:=hO4.sl.lt (by omega)
   have hof:Off a4 (Value.slice so (32*i) co).ownBlock := .gt (N:=w3.heap.size) hge (fun g e=>by have:=(hl3 g e).2;have:=hE3.size;omega)
   go_roundw
   case rel =>
    refine ⟨i+1,32,a5,a4,c5,c4,by omega,by go_num,rfl,rfl,by omega,by rw [HO.out];exact hO5,hO4.sl.grown hg5 hof,?_,Below.trans (hx.trans hE4) hB5⟩
    exact hof.app hlt4 hD5
   case measure=>simp [intOf];omega
  ·obtain rfl:i=q:=by omega
   have hle:=hO.le
   have hlt2:¬ 32*(i:Int)<(k:Int):=by omega
   have hkc:(k:Int)≤(co:Int):=by omega
   go_wp2
   go_ret2
   exact ⟨_,_,rfl,by rw [HW.out];exact hO.sl.take k (by omega),by omega,hx⟩
end Go.Proofs.YtmdahnkcnagkjaaGreat
