/- Lemmas of this claim, several texts joined. -/
import Derived.Test.YtmdahnkcnagkjaaGreatZ10
import Derived.Test.YtmdahnkcnagkjaaGreatZ12
set_option maxRecDepth 100000
open Go.Value renaming int -> Zz,slice -> Zy
open Go.IntKind renaming i64 -> Zx,u8 -> Zu
open List renaming setIfInBounds_toArray -> q0q, set_cons_succ -> q1q, set_cons_zero -> q2q, mem_cons -> q3q, not_mem_nil -> q4q, nil_append -> q5q, cons_append -> q6q, mem_append -> q7q, take_succ_cons -> q8q, take_zero -> q9q, drop_succ_cons -> q10q, drop_zero -> q11q, take_nil -> q12q, drop_nil -> q13q
open Go.IntWalk renaming i64_in -> q17q, rem_in -> q18q, wrap64_in -> q19q
set_option maxHeartbeats 8000000
set_option linter.unusedVariables false
set_option linter.unusedSimpArgs false
/- The walks of layer 5, part one. -/
namespace Go.Proofs.P9
open Go.RowKit Go.Sec Go.Oct Go.Aes BigFrame
theorem Bw (x:UInt8):IntKind.u8.wrap (n8 x*135)=n8 (x*135):=by
 have h:(x*135).toNat=x.toNat*135 % 256:=UInt8.toNat_mul _ _;unfold n8;rw [abb,h];omega
theorem B5 (l:E7)(h:l.length=16):at' l 16=0:=by simp [at',h]
theorem ke (l:E7)(hl:l.length=16) (w:World) :
  Calls Tryz.prog 184 #[.agg (l.map u8v).toArray] w λ e w'=>e = .returned (.agg ((tw l).map u8v).toArray)/\Ext w w':=by
 have hal:Tryz.prog.arrayLen 219=16:=Zk
 go_enter Tryz.func184,Tryz.ntmps184
 go_wp2_with ((refine ag R60 rfl rfl _ _ rfl rfl rfl rfl (by simp [Act.put]) ((List.replicate 16 (0:UInt8)).map u8v) rfl Zs rfl (aH _) ?_;intro x hBx _))
 simp only [aa8] at hBx
 go_loopw [4,5] (λ v4 v5 wr=>∃ k:Nat,k<=16/\v5 = Zz Zx ((k:Int)-1)/\v4 = Zz Zu (n8 (at' l k >>> 7))/\Blk wr w.heap.size 219 (l.map u8v)/\Blk wr (w.heap.size+1+1) 219 ((dn (twG l) k).map u8v)/\Blk wr (w.heap.size+1) 219 ((List.replicate 16 (0:UInt8)).map u8v)/\Ext w wr) (λ _ v5 _=>(intOf v5+1).toNat)
 case atStart =>
  exact ⟨16,Zo,rfl,by rw [B5 _ hl];rfl,bK,by rw [Ah];exact hBx,bK,eX⟩
 case round =>
  obtain ⟨k,hk,rfl,rfl,hBl,hBo,hBz,hx⟩:=hrel;by_cases h0:0<k
  ·obtain ⟨j,rfl⟩:∃ j,k=j+1:=⟨k-1,Zo⟩;have hj:j<16:=Zo;have hc:=hBl.cell? j (v := Zz Zu (n8 (at' l j))) (by rw [List.getElem?_map,bE _ _ Zo];simp [show j<l.length by omega]);obtain ⟨vo,hvo⟩:∃ v,wr.cell? ⟨w.heap.size+1+1,j,none⟩=some v:=⟨_,hBo.cell j (by rw [aaC,xr _ _ hk];exact hj)⟩;have hf:=hBo.free j;have HG:=FC (show twG l j=(at' l j <<< 1) ||| (at' l (j+1) >>> 7) from rfl);have HD:=FC (Ca (twG l) j hj);have j0:(0:Int)<=(j:Int):=Zo;have j1:(j:Int)<16:=Zo;haveI:=hBo.blt;go_wp2;go_roundw
   case rel =>
    refine ⟨j,Zo,Zg,rfl,bK,?_,bK,Ext.setCell hx (by simp <;> omega) _⟩;have:=hBo.set j (u8v (twG l j));rw [<- aaT,HD.out,HG.out] at this;exact this
   case measure=>simp [intOf] <;> omega
  ·obtain rfl:k=0:=by omega
   have HT:=FC (zI l);rw [Av] at hBo;have hm:=Bw (at' l 0 >>> 7);have hm2:n8 (at' l 0 >>> 7)*135 % 256=n8 ((at' l 0 >>> 7)*135):=by rw [<- hm,abb];rfl
   have hc:=hBo.cell? 15 (v := Zz Zu (n8 (twG l 15))) Zs;have hf:=hBo.free 15;haveI:=hBo.blt;have hBs:=hBo.set 15 (u8v (twG l 15 ^^^ ((at' l 0 >>> 7)*135)));rw [<- aaT,HT.out] at hBs
   go_wp2_with (first
    | (refine af R60 rfl _ rfl (w.heap.size+1+1) 0 rfl ((tw l).map u8v) hBs.rd ((by simp [bt])) ?_)
    | (refine aa R60 rfl _ _ rfl (w.heap.size+1) 0 rfl ((tw l).map u8v) rfl 219 _ ((hBz.other Zs _)) ((by simp [bt])) Zs (by first|exact aH _|(simp;done)|(simp;(repeat' (first|rfl|constructor)))) ?_;intro ws hB hM))
   have hB:Blk ws (w.heap.size+1) 219 ((tw l).map u8v):=by simpa [bt] using hB
   refine aaa (aL Tryz.results184 R60 _ _ (w.heap.size+1) 0 ((tw l).map u8v) rfl hB.rd ((by simp [bt]))) rfl ?_;exact ⟨rfl,E9 (Ext.setCell hx (by simp <;> omega) _) (hM.below Zs (Ext.setCell hx (by simp <;> omega) _).size)⟩
def kc (c:Nat) (wh pt:E7):List Value := .pointer (some ⟨c,0,none⟩) :: (wh++pt).map u8v
theorem R71:RowT Tryz.prog 223 33:=⟨⟨_,Tryz.underlying223,rfl⟩,Zk,⟨_,Tryz.zeroValue223,Zk⟩⟩
theorem _root_.z11q93{p:Prop}(h:p:=by
 intro u hu;rcases abr.1 hu with rfl|hu
 ·rfl
 ·exact aH _ u hu):p:=h
theorem wO (a:E8)(c:Nat) (ky:E7)(w:World)(h:Sl w a 16 ky) (hc:16<=c) :
  Calls Tryz.prog 176 #[Zy a 16 c] w λ e w'=>∃ g,e = .returned (.tuple #[.agg (kc g (fa (expand ky)) (fj (expand ky))).toArray, Zz Zx 0])/\w.heap.size<=g/\Blk w' g 231 ((expand ky).map u8v)/\Ext w w':=by
 have hkl:=h.len;have HK:(expand ky).length=176:=dd ky 40 hkl;have HS1:=FC (show fa (expand ky)=tw (enc (expand ky) dj) from rfl);have HS2:=FC (show fj (expand ky)=tw (fa (expand ky)) from rfl);have hL1:(fa (expand ky)).length=16:=bt _;have hL2:(fj (expand ky)).length=16:=bt _;generalize fj (expand ky)=k2 at *;generalize fa (expand ky)=k1 at *;generalize hks:expand ky=ks at *
 go_enter Tryz.func176,Tryz.ntmps176
 go_wp2_with fail;refine (vM a c ky _ (h.ext eX) hc).mono ?_;rintro e w1 ⟨g,rfl,hg,hB1,hx1⟩;rw [hks] at hB1;clear hks;obtain ⟨zs,hzl,hz⟩:∃ zs:List Value,zs.length=33/\Blk w1 w.heap.size 223 zs:=⟨_,rfl,(Blk.new _ _ _).extB hx1⟩;have hxw:Ext w w1:=Ext.trans (FA _ _) hx1;simp only [aa8] at hg;clear hx1;have hgl:=hB1.lt;have hwl:=hz.lt
 go_wp2_with ((refine ag R71 rfl rfl _ _ rfl rfl rfl rfl (by simp [Act.put]) ((.pointer (some ⟨g,0,none⟩) :: List.replicate 32 (u8v 0))) rfl Zs rfl ((by intro u hu;simp at hu;rcases hu with rfl|rfl <;> rfl)) ?_;intro x hBk _);have hk0:=hBk.cell? 0 rfl)
 have hkl':=hBk.lt;have hzx:=(hz.ext x);have hsx:w1.heap.size<=(w1.ext x).heap.size:=(FE w1 x).size;have hxe:Ext w ((w1.ext x)):=hxw.ext x;have hB1x:=hB1.ext x;clear hk0;generalize hW:w1.ext x=W at *;refine (nS W.heap.size g 0 219 dj ks _ (Blk.newAt _ _ _ _ rfl) rfl HK (hB1x.alloc _).rd Zo).mono ?_;rintro e w2 ⟨rfl,hBe,hM2⟩;have hB2:=(hB1x.alloc _).turn hM2 Zo;have hBk2:=(hBk.alloc _).turn hM2 Zo;have hz2:=(hzx.alloc _).turn hM2 Zo;have hx2:Ext w w2:=E9 (b:=W.alloc _) (hxe.alloc _) (hM2.below (by have:=hxe.size;omega) (by simp;have:=hxe.size;omega));clear hM2 hB1x hBk hzx;have hs2:W.heap.size<w2.heap.size:=hBe.lt
 go_wp2_with (first
  | (refine af R60 rfl _ rfl W.heap.size 0 rfl ((enc ks dj).map u8v) hBe.rd ((by simp [gM])) ?_)
  | fail)
 refine (ke _ (gM _ _) _).mono ?_;rintro e w3 ⟨rfl,hx3⟩;rw [<- HS1.out];have hBk3:=hBk2.extB hx3;have hz3:=hz2.extB hx3;have hB3:=hB2.extB hx3;have hxw3:=hx2.trans hx3;have hs3:=hx3.size;clear hBk2 hz2 hB2 hBe;have hw1:w.heap.size<w1.heap.size:=hwl
 go_wp2_with (first
  | (refine aa R60 rfl _ _ rfl w1.heap.size 1 rfl (k1.map u8v) rfl 223 _ hBk3 ((by simpa using hL1)) Zs (by first|exact aH _|(simp;done)|(simp;(repeat' (first|rfl|constructor)))) ?_;intro w4 hBk4 hM4);have hk4:Blk w4 w1.heap.size 223 (.pointer (some ⟨g,0,none⟩) :: (k1.map u8v++List.replicate 16 (u8v 0))):=hBk4;have hrk:Rd w4 (some ⟨w1.heap.size,1,none⟩) (k1.map u8v):=(by have:=(hk4.rdAt 1).head 16;simpa [hL1] using this);clear hBk4
  | (refine af R60 rfl _ rfl w1.heap.size 1 rfl (k1.map u8v) hrk ((by simpa using hL1)) ?_)
  | fail)
 have hz4:=hz3.turn hM4 Zo;have hB4:=hB3.turn hM4 Zo;have hxw4:Ext w w4:=E9 hxw3 (hM4.below Zo hxw3.size);clear hz3 hB3 hM4 hrk;refine (ke k1 hL1 _).mono ?_;rintro e w5 ⟨rfl,hx5⟩;rw [<- HS2.out];have hk5:=hk4.extB hx5;have hz5:=hz4.extB hx5;have hB5:=hB4.extB hx5;have hxw5:=hxw4.trans hx5;clear hk4 hz4 hB4 hBk3;have hkcl:(kc g k1 k2).length=33:=by simp [kc,hL1,hL2]
 have hE6:((.pointer (some ⟨g,0,none⟩) :: (k1.map u8v++List.replicate 16 (u8v 0))).take 17++k2.map u8v++(.pointer (some ⟨g,0,none⟩) :: (k1.map u8v++List.replicate 16 (u8v 0))).drop (17+16))=kc g k1 k2:=by
  have h1:(k1.map u8v).length=16:=by simpa using hL1
  have h2:(k1.map u8v++List.replicate 16 (u8v 0)).take 16=k1.map u8v:=by rw [aax Zo,aah Zo]
  simp only [q8q,q10q,h2];rw [aaF (by simp;omega)];simp [kc]
 have hkc1:∀ u∈kc g k1 k2,u.oneCell'=true:=by
  exact z11q93
 go_wp2_with (first
  | (refine aa R60 rfl _ _ rfl w1.heap.size 17 rfl (k2.map u8v) rfl 223 _ hk5 (by simpa using hL2) (by simp [hL1]) (aH _) ?_;intro w6 hBk6 hM6);have hk6:Blk w6 w1.heap.size 223 (kc g k1 k2):=(by rw [<- hE6];exact hBk6);have hz6:=hz5.turn hM6 Zo;clear hBk6
  | (refine af R71 rfl _ rfl w1.heap.size 0 rfl (kc g k1 k2) hk6.rd hkcl ?_)
  | (refine aa R71 rfl _ _ rfl w.heap.size 0 rfl (kc g k1 k2) rfl 223 _ hz6 hkcl Zo hkc1 ?_;intro w7 hz7 hM7)
  | fail)
 have hzf:Blk w7 w.heap.size 223 (kc g k1 k2):=by
  have e:zs.take 0++kc g k1 k2++zs.drop (0+33)=kc g k1 k2:=by simp [hzl]
  rwa [e] at hz7
 refine aaa (aj Tryz.results176 R71 _ _ w.heap.size 0 (kc g k1 k2) rfl hzf.rd hkcl (Zz Zx 0) rfl) rfl ?_;have hxw6:Ext w w6:=E9 hxw5 (hM6.below Zo hxw5.size);exact ⟨g,rfl,Zo,(hB5.turn hM6 Zo).turn hM7 Zo,E9 hxw6 (hM7.below (aad _) hxw6.size)⟩
end Go.Proofs.P9

/- The walks of layer 5, part two: CMAC. -/
namespace Go.Proofs.P9
open Go.RowKit Go.Sec Go.Oct Go.Aes BigFrame
theorem yi (l:E7)(n:Nat) (hl:l.length=n) (hn:n<16):(l++List.replicate (16-n) 0).set n 128=fill l:=by
 subst hl;unfold fill;obtain ⟨j,hj⟩:∃ j,16-l.length=j+1:=⟨15-l.length,Zo⟩;rw [hj,show 15-l.length=j from Zo,List.set_append_right _ _ (aad _),Nat.sub_self,List.replicate_succ,q2q,aam];rfl
theorem yB {l:E7} {n:Nat} (hl:l.length=n):(List.replicate 16 (u8v 0)).take 0++(l.take n).map u8v++(List.replicate 16 (u8v 0)).drop (0+n)=(l++List.replicate (16-n) 0).map u8v:=by
 subst hl;have h1:l.take l.length=l:=aah (aad _);rw [h1,aaK,List.map_replicate,List.drop_replicate,aaA,q9q,q5q]
theorem pK (a:E8)(n c:Nat) (l:E7)(w:World)(h:Sl w a n l) (hn:n<16) :
  Calls Tryz.prog 185 #[Zy a n c] w λ e w'=>e = .returned (.agg ((fill l).map u8v).toArray)/\Ext w w':=by
 have hl:=h.len
 go_enter Tryz.func185,Tryz.ntmps185
 go_wp2_with (first
  | (refine jy rfl (.tmp 4) (.tmp 5) _ _ rfl 5 Tryz.underlying33 Zk (w.heap.size+1) 0 _ _ _ _ _ l rfl rfl 219 _ ((Blk.newAt _ _ _ _ Zs)) ((h.ext eX)) n Zo ((by simp <;> omega)) ?_;intro w2 hB2 hM2);have hB3:Blk w2 (w.heap.size+1) 219 ((l++List.replicate (16-n) 0).map u8v):=(yB hl) ▸ hB2;have hR2:Blk w2 w.heap.size 219 (List.replicate 16 (u8v 0)):=Blk.turn hM2 (Blk.alloc (Blk.newAt w _ _ _ rfl) _) Zo;have hfn:=hB3.free n;obtain ⟨vo,hvo⟩:∃ v,w2.cell? ⟨w.heap.size+1,n,none⟩=some v:=⟨_,hB3.cell n (by simp;omega)⟩;haveI:=hB3.blt;have hB4:Blk (w2.setCell ⟨w.heap.size+1,n,none⟩ (u8v 128)) (w.heap.size+1) 219 ((fill l).map u8v):=(by have:=hB3.set n (u8v 128);rwa [<- aaT,yi l n hl hn] at this)
  | (refine af R60 rfl _ rfl (w.heap.size+1) 0 rfl ((fill l).map u8v) hB4.rd ((by simp [cN l Zo])) ?_)
  | (refine aa R60 rfl _ _ rfl w.heap.size 0 rfl ((fill l).map u8v) rfl 219 _ ((hR2.other Zs _)) ((by simp [cN l Zo])) Zs (by first|exact aH _|(simp;done)|(simp;(repeat' (first|rfl|constructor)))) ?_;intro w3 hB5 hM5))
 have hB6:Blk w3 w.heap.size 219 ((fill l).map u8v):=by simpa [cN l Zo] using hB5
 refine aaa (aL Tryz.results185 R60 _ _ w.heap.size 0 ((fill l).map u8v) rfl hB6.rd ((by simp [cN l Zo]))) rfl ?_;have hx2:Ext w w2:=E9 (b:=(w.alloc _).alloc _) eX (hM2.below Zs (by simp;omega));have hx3:Ext w (w2.setCell ⟨w.heap.size+1,n,none⟩ (Zz Zu 128)):=hx2.setCell Zs _;exact ⟨rfl,E9 hx3 (hM5.below (aad _) hx3.size)⟩
end Go.Proofs.P9

/- The walks of layer 5, part three: CMAC of bytes. -/
namespace Go.Proofs.P9
open Go.RowKit Go.Sec Go.Oct Go.Aes BigFrame
theorem _root_.z11q46{p:Prop}(h:p:=by
 have e:(kc g wh pt).drop 17=pt.map u8v:=by
  unfold kc;rw [q10q,aaK,aa0 (by simp [hwh]),aaF (by simp [hwh])];rfl
 rwa [e] at this):p:=h
theorem vY (g:Nat) (ks wh pt b:E7)(a:E8)(n cap:Nat) (w:World)(hC:Blk w g 231 (ks.map u8v)) (hks:ks.length=176) (hwh:wh.length=16) (hpt:pt.length=16) (hb:Sl w a n b) (hnc:n<=cap) (hn:n<=1000000) :
  Calls Tryz.prog 178 #[.agg (kc g wh pt).toArray, Zy a n cap] w λ e w'=>e = .returned (.agg ((qf ks wh pt b).map u8v).toArray)/\Ext w w':=by
 have har2:=λ W a len cap=>run_arrayAt (P:=Tryz.prog) W 219 5 16 a len cap Tryz.underlying219;obtain ⟨nb,hnb⟩:∃ nb,Hid (nb=(n-1) / 16):=⟨_,FC rfl⟩;have hgl:=hC.lt;have hM:=FC (show qf ks wh pt b=enc ks (bN (bN (cbc ks b nb) (mS wh pt (b.drop (16*nb))).1) (mS wh pt (b.drop (16*nb))).2) by unfold qf;rw [hb.len,<- hnb.out]);have hkcl:(kc g wh pt).length=33:=by simp [kc,hwh,hpt]
 go_enter Tryz.func178,Tryz.ntmps178
 go_wp2
 go_loopw [1,6] (λ v1 _ wr=>∃ (k m:Nat) (ak:E8)(ck:Nat),k<=nb/\Hid (m+16*k=n)/\v1 = Zy ak m ck/\m<=ck/\Sl w ak m (b.drop (16*k))/\Blk wr w.heap.size 223 (kc g wh pt)/\Blk wr (w.heap.size+1) 219 (List.replicate 16 (u8v 0))/\Blk wr (w.heap.size+1+1) 219 ((cbc ks b k).map u8v)/\Blk wr g 231 (ks.map u8v)/\Ext w wr) (λ v1 _ _=>match v1 with | Zy _ m _=>m|_=>0)
 case atStart =>
  exact ⟨0,n,a,cap,aak _,FC rfl,rfl,hnc,hb,bK,bK,bK,bK,eX⟩
 case round =>
  obtain ⟨k,m,ak,ck,hk,hmk,rfl,hmc,hSl,hK,hR,hV,hCr,hx⟩:=hrel;have hmk':=hmk.out;have hnb':=hnb.out;have hk0:=hK.cell? 0 rfl;by_cases hlt:k<nb
  ·have hm16:(16:Int)<(m:Int):=by omega
   have hm17:16<m:=Zo;have hmI:(16:Int)<=(ck:Int):=Zo;have hm18:16<=m:=Zo;obtain ⟨b0,o0,rfl,hb0,_⟩:=hSl.at 0 Zo;have hC1:=FC (show cbc ks b (k+1)=enc ks (bN (cbc ks b k) ((b.drop (16*k)).take 16)) from rfl);have hcl:=gN ks b k;have htl:((b.drop (16*k)).take 16).length=16:=by rw [aat,hSl.len];omega
   have hrd:=((hSl.ext hx).take 16 Zo).by';generalize (b.drop (16*k)).take 16=x at *;generalize cbc ks b k=v at *;clear hmk' hnb';have hSd:=hSl.drop ck 16 hmc;rw [abd] at hSd;unfold dX at hSd;rw [aae Zo] at hSd;simp only [Option.map_some,abG,bX] at hSd
   go_wp2_with (first
    | (refine af R60 rfl _ rfl b0 o0 rfl (x.map u8v) hrd ((by simpa using htl)) ?_)
    | (refine ag R60 rfl rfl _ _ rfl rfl rfl rfl (by simp [Act.put]) (x.map u8v) rfl Zs ((by simpa using htl)) (aH _) ?_;intro xx hBx _)
    | fail)
   have hxx:Ext w (wr.ext xx):=hx.ext xx;have hs1:=hxx.size;have hwb:=hV.lt;have hKx:=hK.ext xx;have hRx:=hR.ext xx;have hVx:=hV.ext xx;have hCx:=hCr.ext xx;generalize wr.ext xx=W at *;refine (gi (w.heap.size+1+1) 219 v x wr.heap.size 0 W hVx hcl htl hBx.rd Zo).mono ?_;rintro e w2 ⟨rfl,hV2,hM2⟩;have hK2:=hKx.turn hM2 Zo;have hR2:=hRx.turn hM2 Zo;have hC2:=hCx.turn hM2 Zo;have hx2:Ext w w2:=E9 hxx (hM2.below Zo hs1);have hk2:=hK2.cell? 0 rfl;clear hKx hRx hVx hCx hBx hM2 hk0 hK hR hV hCr;go_wp2_with fail;refine (nS (w.heap.size+1+1) g 0 219 _ ks w2 hV2 (by simp [bN]) hks hC2.rd Zo).mono ?_;rintro e w3 ⟨rfl,hV3,hM3⟩;have hK3:=hK2.turn hM3 Zo;have hR3:=hR2.turn hM3 Zo;have hC3:=hC2.turn hM3 Zo;have hx3:Ext w w3:=E9 hx2 (hM3.below Zo hx2.size);clear hK2 hR2 hC2 hk2 hM3;go_wp2;go_roundw
   case rel =>
    refine ⟨k+1,m-16,some ⟨b0,o0+16,none⟩,ck-16,Zo,FC (by have:=hmk.out;omega),rfl,Zo,?_,hK3,hR3,?_,hC3,hx3⟩
    ·rw [show 16*(k+1)=16*k+16 by omega];exact hSd
    ·rw [hC1.out];exact hV3
   case measure=>show m-16<m;omega
  ·obtain rfl:k=nb:=by omega
   have hm16:¬ (16:Int)<(m:Int):=Zo;have hmle:m<=16:=Zo;have hcl:=gN ks b k;have hr:=hSl.len;generalize cbc ks b k=v at *;generalize b.drop (16*k)=r at *;clear hmk' hnb' hmk hnb hlt hk;have hKr:Rd wr (some ⟨w.heap.size,1,none⟩) (wh.map u8v):=by
    have:=(hK.rdAt 1).head 16;simpa [kc,hwh] using this
   have hKp:Rd wr (some ⟨w.heap.size,17,none⟩) (pt.map u8v):=by
    have:=hK.rdAt 17;exact z11q46
   go_wp2;refine R2.ae 6 [[],[],[1],[],[],[0,3,4],[0,1,2,3,4,5]] [] (λ h=>(h rfl).elim) Zk Zk Zk Zk Zk ?_;simp only [q8q,q9q,q10q,q11q,q12q,q13q];(repeat (refine R2.av ?_;(try simp only [Act.put,q0q,q1q,q2q])));(refine R2.ao R60 _ rfl (λ _=>rfl) w.heap.size 1 (λ _=>by simp [go_sem]) (wh.map u8v) hKr ((by simpa using hwh)) ?_);(refine R2.cJ _ (List.replicate 16 (u8v 0)) Tryz.zeroValue219 rfl rfl rfl ?_);(refine R2.cJ _ (List.replicate 16 (u8v 0)) Tryz.zeroValue219 rfl rfl rfl ?_);(refine R2.pZ R60 rfl _ _ rfl ((List.replicate 16 (0:UInt8)).map u8v) rfl (aH _) (λ us w' hx hf=>⟨rfl,?_⟩) ?_;(have h3:=hf _ (aaI _ (aac _ (aab _))) rfl;obtain ⟨g7,e7,_,hB7⟩:=h3;exact ⟨g7,_,(by show Value.pointer (us _ 0).1=_;rw [e7]),hB7⟩));(refine R2.ef ?_;intro us x hx hf hd);obtain ⟨⟨g7,e7,h7,hB7⟩,g8,e8,h8,hB8⟩:=hf;have hne:g7≠g8:=by
    have:=hd 3 Zs 4 Zs Zd;rw [e7,e8] at this;intro e;exact this (by rw [e])
   clear hd;rw [e7,e8];clear e7 e8 hx;have hxW:=hx.ext x;have hs0:=hx.size;have hl0:=hV.lt;have hC4:=hCr.ext x;have hK4:=hK.ext x;have hR4:=hR.ext x;have hV4:=hV.ext x;generalize wr.ext x=W at *;refine aa R60 rfl _ _ rfl g8 0 rfl (wh.map u8v) rfl 219 _ hB8 (by simpa using hwh) Zs (aH _) ?_;intro w4 hB4 hM4;have hBw:Blk w4 g8 219 (wh.map u8v):=by simpa using hB4
   have hB7':=hB7.turn hM4 hne;have hC5:=hC4.turn hM4 Zo;have hK5:=hK4.turn hM4 Zo;have hR5:=hR4.turn hM4 Zo;have hV5:=hV4.turn hM4 Zo;have hxw4:Ext w w4:=E9 hxW (hM4.below Zo hxW.size);have hs4:=hxw4.size;have hl5:=hV5.lt;clear hB7 hC4 hK4 hR4 hV4 hB4 hM4 hB8 hCr hK hR hV hKr hKp hxW;have hk0:=hK5.cell? 0 rfl;have hKp:Rd w4 (some ⟨w.heap.size,17,none⟩) (pt.map u8v):=by
    have:=hK5.rdAt 17;exact z11q46
   by_cases h16:m=16
   case' pos =>
    subst h16;have HL:=FC (show mS wh pt r=(r,wh) by unfold mS;rw [aaj hr]);have hsl:wh.length=16:=hwh;have hql:r.length=16:=hr;obtain ⟨b0,o0,rfl,hb0,_⟩:=hSl.at 0 Zo;have hrr:=(hSl.ext hxw4).by'
    go_wp2_with (first
     | (refine af R60 rfl _ rfl b0 o0 rfl (r.map u8v) hrr ((by simpa using hr)) ?_)
     | (refine aa R60 rfl _ _ rfl g7 0 rfl (r.map u8v) rfl 219 _ hB7' ((by simpa using hr)) Zs (by first|exact aH _|(simp;done)|(simp;(repeat' (first|rfl|constructor)))) ?_;intro w5 hB5 hM5)
     | fail)
    have hq:Blk w5 g7 219 (r.map u8v):=by simpa [hr] using hB5
    have hsb:=hBw.turn hM5 (Ne.symm hne);have hC6:=hC5.turn hM5 Zo;have hK6:=hK5.turn hM5 Zo;have hR6:=hR5.turn hM5 Zo;have hV6:=hV5.turn hM5 Zo;have hxw6:Ext w w5:=E9 hxw4 (hM5.below Zo hxw4.size)
   case' neg =>
    have hm15:m<16:=Zo;have HL:=FC (show mS wh pt r=(fill r,pt) by unfold mS;rw [aae Zo]);have hmI:((m:Int) == 16)=false:=by rw [aar];omega
    have hsl:pt.length=16:=hpt;have hql:(fill r).length=16:=cN r Zo;go_wp2;refine R4.fQ 5 [[],[0],[],[2],[0,1],[0,1,2,3,4]] ([g7]) Zk Zk Zk Zk ?_;simp only [q8q,q9q,q10q,q11q,q12q,q13q];(repeat (apply R4.eB;(case h=>(intro us w' hx hf;refine ⟨rfl,?_⟩;simp [go_sem,execOp, *];(try simp (disch:=omega) only [q17q,q18q,q19q]);rfl));(try simp only [Act.put,q0q,q1q,q2q])));(refine R4.ai (λ _ => .agg ((fill r).map u8v).toArray) (λ _ _=>True) ⟨(λ _ h=>by cases h),λ _ _ _ _ _=>trivial⟩ (λ us w' hx hf=>⟨rfl,?_⟩) ?_;(unfold gives;simp [go_sem,execOp];refine (pK ak m ck r _ (hSl.ext (E9 hxw4 (hx.mut.below Zo hxw4.size))) hm15).mono ?_;rintro e w1 ⟨rfl,hx1⟩;first|exact ⟨rfl,hx1⟩|simpa using hx1));(repeat (apply R4.eB;(case h=>(intro us w' hx hf;refine ⟨rfl,?_⟩;simp [go_sem,execOp, *];(try simp (disch:=omega) only [q17q,q18q,q19q]);rfl));(try simp only [Act.put,q0q,q1q,q2q])));(refine R4.ao R60 (.tmp 32) rfl rfl w.heap.size 17 (by simp;omega) (λ _=>rfl) (pt.map u8v) hKp (by simpa using hpt) ?_);(refine R4.tJ R60 rfl _ _ rfl rfl g7 0 Zs Zs 219 _ hB7' Zs (λ _=>(fill r).map u8v) (λ _=>⟨by simpa using hql,aH _⟩) (λ _ _=>True) (λ _ _ _ h _=>h) (λ us w' hx hf=>⟨rfl,λ _=>(none,0),rfl,trivial⟩) ?_);(refine R4.fN ?_;intro us w' hx hf hd;(try simp only [Act.put,q0q,q1q,q2q,wpList_none]);(try simp only [q3q,q4q,abt,aa7,forall_eq,q5q,q6q,q7q,false_or,true_and,and_true] at hf);(try simp only [Nat.reduceAdd,aaA] at hf ⊢));clear hd;have hM5:=hx.mut;have hq1:Blk w' g7 219 ((fill r).map u8v):=by simpa using hf
    have hsb1:=hBw.turn hM5 (Ne.symm hne);have hC51:=hC5.turn hM5 Zo;have hK51:=hK5.turn hM5 Zo;have hR51:=hR5.turn hM5 Zo;have hV51:=hV5.turn hM5 Zo;have hxw5:Ext w w':=E9 hxw4 (hM5.below Zo hxw4.size);have hs5:=hxw5.size;clear hf hx hM5 hC5 hK5 hR5 hV5 hBw hB7' hk0 hKp hxw4;refine aa R60 rfl _ _ rfl g8 0 rfl (pt.map u8v) rfl 219 _ hsb1 (by simpa using hpt) (by simp [hwh]) (aH _) ?_;intro w5 hB5 hM6;have hsb:Blk w5 g8 219 (pt.map u8v):=by
     have e:(wh.map u8v).drop 16=[]:=aaF (by simp [hwh]);rw [aaA,e] at hB5;simpa using hB5
    have hq:=hq1.turn hM6 hne;have hC6:=hC51.turn hM6 Zo;have hK6:=hK51.turn hM6 Zo;have hR6:=hR51.turn hM6 Zo;have hV6:=hV51.turn hM6 Zo;have hxw6:Ext w w5:=E9 hxw5 (hM6.below Zo hxw5.size);clear hq1 hsb1 hC51 hK51 hR51 hV51 hB5 hM6;go_wp2_with fail
   all_goals
    have hs6:=hxw6.size;have hk6:=hK6.cell? 0 rfl;refine (gi (w.heap.size+1+1) 219 v _ g7 0 w5 hV6 hcl hql hq.rd Zo).mono ?_;rintro e w6 ⟨rfl,hV7,hM7⟩;have hs7:=hsb.turn hM7 Zo;have hC7:=hC6.turn hM7 Zo;have hK7:=hK6.turn hM7 Zo;have hR7:=hR6.turn hM7 Zo;have hxw7:Ext w w6:=E9 hxw6 (hM7.below Zo hxw6.size);clear hM7 hq hsb hC6 hK6 hR6 hV6 hk6;go_wp2_with fail;refine (gi (w.heap.size+1+1) 219 _ _ g8 0 w6 hV7 (by simp [bN]) hsl hs7.rd Zo).mono ?_;rintro e w7 ⟨rfl,hV8,hM8⟩;have hC8:=hC7.turn hM8 Zo;have hK8:=hK7.turn hM8 Zo;have hR8:=hR7.turn hM8 Zo;have hxw8:Ext w w7:=E9 hxw7 (hM8.below Zo hxw7.size);have hk8:=hK8.cell? 0 rfl;clear hM8 hs7 hC7 hK7 hR7 hV7;go_wp2_with fail;refine (nS (w.heap.size+1+1) g 0 219 _ ks w7 hV8 (by simp [bN]) hks hC8.rd Zo).mono ?_;rintro e w8 ⟨rfl,hV9,hM9⟩;have hR9:=hR8.turn hM9 Zo;have hxw9:Ext w w8:=E9 hxw8 (hM9.below Zo hxw8.size);clear hM9 hC8 hK8 hR8 hV8 hk8;rw [HL.out] at hM;rw [<- hM.out] at hV9;have hml:=nB ks wh pt b
    go_wp2_with (first
     | (refine af R60 rfl _ rfl (w.heap.size+1+1) 0 rfl ((qf ks wh pt b).map u8v) hV9.rd ((by simpa using hml)) ?_)
     | (refine aa R60 rfl _ _ rfl (w.heap.size+1) 0 rfl ((qf ks wh pt b).map u8v) rfl 219 _ hR9 ((by simpa using hml)) Zs (by first|exact aH _|(simp;done)|(simp;(repeat' (first|rfl|constructor)))) ?_;intro w9 hB9 hM10))
    have hR10:Blk w9 (w.heap.size+1) 219 ((qf ks wh pt b).map u8v):=by simpa using hB9
    refine aaa (aL Tryz.results178 R60 _ _ (w.heap.size+1) 0 ((qf ks wh pt b).map u8v) rfl hR10.rd ((by simpa using hml))) rfl ?_;exact ⟨rfl,E9 hxw9 (hM10.below Zo hxw9.size)⟩
end Go.Proofs.P9

/- The walks of layer 5, part four: Cmac, Subkeys, the sanity check. -/
namespace Go.Proofs.P9
open Go.RowKit Go.Sec Go.Oct Go.Aes BigFrame
theorem qv (g:Nat) (k1 k2:E7)(h1:k1.length=16) (h2:k2.length=16):(kc g k1 k2).length=33:=by simp [kc,h1,h2]
theorem yQ (g:Nat) (k1 k2:E7):∀ u∈kc g k1 k2,u.oneCell'=true:=by
 exact z11q93
def EO:E7:=[50,98,55,101,49,53,49,54,50,56,97,101,100,50,97,54,97,98,102,55,49,53,56,56,48,57,99,102,52,102,51,99]
def EX:E7:=[43,126,21,22,40,174,210,166,171,247,21,136,9,207,79,60]
def EP:E7:=[54,98,99,49,98,101,101,50,50,101,52,48,57,102,57,54,101,57,51,100,55,101,49,49,55,51,57,51,49,55,50,97]
def ET:E7:=[107,193,190,226,46,64,159,150,233,61,126,17,115,147,23,42]
def EC:E7:=[98,98,49,100,54,57,50,57,101,57,53,57,51,55,50,56,55,102,97,51,55,100,49,50,57,98,55,53,54,55,52,54]
def El:E7:=[187,29,105,41,233,89,55,40,127,163,125,18,155,117,103,70]
def EJ:E7:=[48,55,48,97,49,54,98,52,54,98,52,100,52,49,52,52,102,55,57,98,100,100,57,100,100,48,52,97,50,56,55,99]
def EB:E7:=[7,10,22,180,107,77,65,68,247,155,221,157,208,74,40,124]
end Go.Proofs.P9

/- The laws of layer 5 that need no document: CmacOneBlock. -/
namespace Go.Proofs.P9
open Go.RowKit Go.Sec Go.Oct Go.Aes Go.Sha BigFrame
end Go.Proofs.P9

/- The document's layer 5: Xor; Subkeys of the program. -/
namespace Go.Proofs.P9
open Go.RowKit Go.Sec Go.Oct Go.Aes Go.Sha BigFrame
def dA (a b:E7):E7:=(List.range a.length).map (jN a b)
theorem ia (a b:E7):(dA a b).length=a.length:=by simp [dA]
theorem fk (a b:E7)(h:a.length=16):dA a b=bN a b:=by unfold dA bN;rw [h]
theorem zn (a b:E7)(k:Nat) (hk:k<=a.length) (hb:k=a.length\/b.length<=k):dy (jN a b) a k=dA a b:=by
 apply abE
 ·rw [cD _ _ _ hk,ia]
 ·intro i h1 h2;rw [ia] at h2;have e:(dA a b)[i]?=some (jN a b i):=by simp [dA,h2]
  have e2:(dy (jN a b) a k)[i]?=some (jN a b i):=by
   by_cases hik:i<k
   ·unfold dy;rw [List.getElem?_append_left (by simpa using hik)];simp [hik]
   ·rw [oa _ _ _ _ Zo h2];have:at' b i=0:=by
     have:b.length<=i:=Zo;simp [at',this]
    unfold jN;rw [this,bE _ _ h2];simp
  rw [List.getElem?_eq_getElem h1] at e2;rw [List.getElem?_eq_getElem (by rw [ia];exact h2)] at e;injection e with e
  injection e2 with e2
  rw [e,e2]
theorem eC (a b:E8)(n ca m cb:Nat) (l k:E7)(w:World)(hl:Sl w a n l) (hk:Sl w b m k) (hn:n<=1000000) (hm:m<=1000000) :
  Calls Tryz.prog 159 #[Zy a n ca, Zy b m cb] w (bZ n (dA l k) w):=by
 have hll:=hl.len;have hkl:=hk.len
 go_enter Tryz.func159,Tryz.ntmps159
 go_wp2_with fail;(with_reducible refine (aR _ _ _ _ _ (gV hl _) Zo n (by simp [bP,hll]) Zo).mono ?_);rintro e w1 ⟨a1,c1,rfl,hO1,hx1⟩;rw [bP] at hO1;have hx1':Ext w w1:=Ext.trans (FA _ _) hx1;have hO1:=hO1.mono (base':=w.heap.size) Zs;go_wp2
 go_loopw [6] (λ v6 wr=>∃ i:Nat,i<=n/\i<=m/\v6 = Zz Zx i/\Own wr w.heap.size a1 n c1 (dy (jN l k) l i)/\Ext w wr) (λ v6 _=>n-(intOf v6).toNat)
 case atStart=>exact ⟨0,Zo,Zo,rfl,by rw [dL];exact hO1,hx1'⟩
 case round =>
  obtain ⟨i,hin,him,rfl,hO,hx⟩:=hrel;by_cases hc:i<n/\i<m
  ·obtain ⟨h1,h2⟩:=hc;obtain ⟨g,rfl,hg,hgb,hcell,hfr,hset⟩:=hO.at i h1;obtain ⟨b0,o0,rfl,hb0,hcb⟩:=(hk.ext hx).at i h2;have hv:(dy (jN l k) l i).getD i 0=at' l i:=by
    have:=oa (jN l k) l i i (aad _) Zo;simp [List.getD,this,bE l i Zo]
   rw [hv] at hcell;have hvb:k[i]'Zo=at' k i:=by rw [bE k i Zo]
   rw [hvb] at hcb;have hU:=iJ (jN l k) l i Zo;have hxf:jN l k i=at' l i ^^^ at' k i:=rfl;rw [hxf] at hU;have HU:=FC hU;have hxw:=hx;clear hv hvb hset hU hxf;have i0:(0:Int)<=(i:Int):=Zo;have i1:(i:Int)<(n:Int):=Zo;have i2:(i:Int)<(m:Int):=Zo;go_wp2;refine R2.ae 12 [[],[],[],[],[2,3],[2,3,4],[],[],[6,7],[6,7,8],[2,3,4,5,6,7,8,9],[0,1,2,3,4,5,6,7,8,9,10],[0,1,2,3,4,5,6,7,8,9,10,11]] [] (λ h=>(h rfl).elim) Zk Zk Zk Zk Zk ?_;simp only [q8q,q9q,q10q,q11q,q12q,q13q];(repeat (refine R2.av ?_;(try simp only [Act.put,q0q,q1q,q2q])));(refine R2.aU ?_;intro us x hx hf);go_wp2;go_roundw
   case rel =>
    refine ⟨i+1,Zo,Zo,Zg,?_,Ext.setCell (hxw.ext _) hg _⟩;rw [<- HU.out];exact (hO.ext (FE _ _)).put i h1 _
   case measure=>simp [intOf];omega
  ·have hend:=FC (zn l k i Zo Zo);have hc2:¬ ((i:Int)<(n:Int)/\(i:Int)<(m:Int)):=Zo;by_cases h1:i<n
   case' pos=>have h2:¬ (i:Int)<(m:Int):=Zo
   all_goals
    go_wp2;go_ret;rw [hend.out] at hO;exact ⟨_,_,rfl,hO,hx⟩
end Go.Proofs.P9

/- The document's layer 5: Double. -/
namespace Go.Proofs.P9
open Go.RowKit Go.Sec Go.Oct Go.Aes Go.Sha BigFrame
theorem mH (w:World):(Instr.makeSlice 33 (Zz Zx 16) (Zz Zx 16)).run Tryz.prog w = .ok (Zy (some ⟨w.heap.size,0,none⟩) 16 16) (w.alloc (.cells (bJ (Zz Zu 0) 16) 5)) :=
 dc U 16 16 Zo Zo w
theorem dE (w:World):Sl (w.alloc (.cells (bJ (Zz Zu 0) 16) 5)) (some ⟨w.heap.size,0,none⟩) 16 dj:=(bY w 16).sl rfl
theorem zL (l:E7)(h:l.length=16):twG l 15=at' l 15 <<< 1:=by
 unfold twG;have:at' l 16=0:=by simp [at',h]
 rw [show 15+1=16 from rfl,this];simp
theorem yK (x:UInt8):x >>> 7=0\/x >>> 7=1:=by
 have:=lO (λ x=>decide (x >>> 7=0\/x >>> 7=1)) (by decide +kernel) x;simpa using this
theorem CS (l:E7)(h:at' l 0 >>> 7=1):((List.range 16).map (twG l)).set 15 (twG l 15 ^^^ 135)=tw l:=by
 rw [<- zI l,h];rfl
theorem CV (l:E7)(h:at' l 0 >>> 7=0):(List.range 16).map (twG l)=tw l:=by
 rw [<- zI l,h];apply abE
 ·simp
 ·intro i h1 h2;rw [List.getElem_set];split
  ·rename_i e;subst e;simp
  ·simp
theorem ru {w:World} {g base n:Nat} {l:E7} (h:Blk w g 5 (l.map u8v)) (hn:l.length=n) (hb:base<=g) (hm:n<=1000000000):Own w base (some ⟨g,0,none⟩) n n l:=by
 subst hn;exact Own.of_blk h hb (by simp only [maxLen];omega)
theorem fL (a:E8)(c:Nat) (l:E7)(w:World)(h:Sl w a 16 l) :
  Calls Tryz.prog 160 #[Zy a 16 c] w (bZ 16 (tw l) w):=by
 have hmk:=mH;have hl:=h.len;obtain ⟨b0,o0,rfl,hb0,c00⟩:=h.at 0 Zo;rw [<- bE l 0 Zo] at c00;have hz:=bY w 16;obtain ⟨zs,hzs⟩:∃ zs,Hid (zs=List.replicate 16 (0:UInt8)):=⟨_,FC rfl⟩;have hzl:zs.length=16:=by rw [hzs.out];simp
 rw [<- hzs.out] at hz;have hx0:Ext w (w.alloc (.cells (bJ (Zz Zu 0) 16) 5)):=eX
 go_enter Tryz.func160,Tryz.ntmps160
 go_wp2_with fail;generalize w.alloc _=W at *
 go_loopw [4] (λ v4 wr=>∃ i:Nat,i<=16/\v4 = Zz Zx i/\Blk wr w.heap.size 5 ((dy (twG l) zs i).map u8v)/\Ext w wr) (λ v4 _=>16-(intOf v4).toNat)
 case atStart=>exact ⟨0,Zo,rfl,by rw [dL];exact hz,hx0⟩
 case round =>
  clear hz hx0;obtain ⟨i,hi,rfl,hB,hx⟩:=hrel;by_cases hlt:i<16
  ·obtain ⟨_,_,e1,_,c1⟩:=(h.ext hx).at i hlt;injection e1 with e1
   injection e1 with e1 e2
   subst e1 e2;rw [<- bE l i Zo] at c1;have i0:(0:Int)<=(i:Int):=Zo;have i1:(i:Int)<16:=Zo;obtain ⟨vo,hvo⟩:∃ v,wr.cell? ⟨w.heap.size,i,none⟩=some v:=⟨_,hB.cell i (by rw [aaC,cD _ _ _ Zo];omega)⟩;have hf:=hB.free i;haveI:=hB.blt;haveI:BlkLt b0 wr:=⟨aai hb0.lt hx.size⟩;have hne:b0≠w.heap.size:=by have:=hb0.lt;omega
   by_cases h15:i<15
   ·have i2:(i:Int)<15:=by omega
    have i3:(0:Int)<=(i:Int)+1:=Zo;have i4:(i:Int)+1<16:=Zo;obtain ⟨_,_,e1,_,c2⟩:=(h.ext hx).at (i+1) Zo;injection e1 with e1
    injection e1 with e1 e2
    subst e1 e2;rw [<- bE l (i+1) Zo] at c2;have hG:=FC (show twG l i=(at' l i <<< 1) ||| (at' l (i+1) >>> 7) from rfl);have hB1:=hB.set i (u8v (at' l i <<< 1));have hxs:=Ext.setCell hx (p:=⟨w.heap.size,i,none⟩) (aad _) (u8v (at' l i <<< 1));have hvo2:=hB1.cell i (by rw [FI,aaC,cD _ _ _ Zo];omega);have c22:(wr.setCell ⟨w.heap.size,i,none⟩ (u8v (at' l i <<< 1))).cell? ⟨b0,o0+(i+1),none⟩=some (u8v (at' l (i+1))):=by
     rw [World.cell?_setCell_other]
     ·exact c2
     ·intro e;injection e with e _;exact hne e.symm
    have hf2:=hB1.free i;have hBl2:=hB1.blt;haveI:BlkLt b0 (wr.setCell ⟨w.heap.size,i,none⟩ (u8v (at' l i <<< 1))):=inferInstance;have hv2:(wr.setCell ⟨w.heap.size,i,none⟩ (u8v (at' l i <<< 1))).cell? ⟨w.heap.size,i,none⟩=some (u8v (at' l i <<< 1)):=by rw [hvo2];simp
    clear hvo2;go_wp2_with fail;clear hvo hf c1 hB;generalize wr.setCell ⟨w.heap.size,i,none⟩ (u8v (at' l i <<< 1))=W2 at *;generalize at' l i <<< 1=y at *;refine R2.ae 14 [[],[],[],[],[2,3],[2,3,4],[],[],[7],[6,7,8],[6,7,8,9],[6,7,8,9,10],[2,3,4,5,6,7,8,9,10,11],[0,1,2,3,4,5,6,7,8,9,10,11,12],[0,1,2,3,4,5,6,7,8,9,10,11,12,13]] [] (λ h=>(h rfl).elim) Zk Zk Zk Zk Zk ?_;simp only [q8q,q9q,q10q,q11q,q12q,q13q];(repeat (refine R2.av ?_;(try simp only [Act.put,q0q,q1q,q2q])));(refine R2.aU ?_;intro us x hx hf);have hB3:=hB1.ext x;have hB4:=hB3.set i (u8v (y ||| at' l (i+1) >>> 7));have e3:((List.map u8v (dy (twG l) zs i)).set i (u8v y)).set i (u8v (y ||| at' l (i+1) >>> 7))=(dy (twG l) zs (i+1)).map u8v:=by
     rw [List.set_set,<- aaT,<- hG.out,iJ _ _ _ Zo]
    rw [e3] at hB4;have hxx:=hxs.ext x;have hvo:=hB3.cell i (by rw [FI,aaC,cD _ _ _ Zo];omega);have hf:=hB3.free i;haveI:=hB3.blt;clear hB1 hB3 hv2 hf2;generalize W2.ext x=W3 at *;go_wp2_with fail;go_roundw
    case rel=>exact ⟨i+1,Zo,Zg,hB4,Ext.setCell hxx Zs _⟩
    case measure=>simp [intOf];omega
   ·obtain rfl:i=15:=Zo;(try simp only [Nat.reduceAdd,Nat.reduceMul,Nat.reduceDiv,Nat.reduceSub,aan]);have hB1:=hB.set 15 (u8v (at' l 15 <<< 1));have e3:((List.map u8v (dy (twG l) zs 15)).set 15 (u8v (at' l 15 <<< 1)))=(dy (twG l) zs 16).map u8v:=by
     rw [<- aaT,<- zL l hl,iJ _ _ _ Zo]
    rw [e3] at hB1;clear e3;go_wp2_with fail;go_roundw
    case rel=>exact ⟨16,Zo,Zg,hB1,Ext.setCell hx Zs _⟩
    case measure=>simp [intOf]
  ·obtain rfl:i=16:=Zo;(try simp only [Nat.reduceAdd,Nat.reduceMul,Nat.reduceDiv,Nat.reduceSub,aan]);rw [fH _ _ _ hzl] at hB;haveI:BlkLt b0 wr:=⟨aai hb0.lt hx.size⟩;haveI:=hB.blt;have c0:wr.cell? ⟨b0,o0,none⟩=some (u8v (at' l 0)):=(hx.cell (p:=⟨b0,o0,none⟩) hb0.lt).trans c00;have hhi:=FC (CS l);have hlo:=FC (CV l);clear c00;rcases yK (at' l 0) with h7|h7
   ·have hv7:n8 (at' l 0 >>> 7)=0:=by rw [h7];rfl
    have hB2:Blk wr w.heap.size 5 ((tw l).map u8v):=by rw [<- hlo.out h7];exact hB
    clear h7;go_wp2_with fail;go_ret;exact ⟨_,_,rfl,ru hB2 (bt l) (aad _) Zo,hx⟩
   ·have hv7:n8 (at' l 0 >>> 7)=1:=by rw [h7];rfl
    have hv:=hB.cell? 15 (v:=u8v (twG l 15)) Zs;have hf:=hB.free 15;have hB2:=hB.set 15 (u8v (twG l 15 ^^^ 135));rw [<- aaT,hhi.out h7] at hB2;clear h7;go_wp2_with fail;go_ret;exact ⟨_,_,rfl,ru hB2 (bt l) (aad _) Zo,Ext.setCell hx Zs _⟩
end Go.Proofs.P9

/- The walks of the reference's prepared key: Prepare. -/
namespace Go.Proofs.P9
open Go.RowKit Go.Sec Go.Oct Go.Aes BigFrame
theorem R84:RowT Tryz.prog 197 688:=⟨⟨_,Tryz.underlying197,rfl⟩,Zk,⟨_,Tryz.zeroValue197,Zk⟩⟩
theorem AL:List.foldl (λ (cs:Array Value) (x:Value × Nat)=>cs.setIfInBounds (176+x.snd) x.fst) Tryz.zeroCells197 (List.map u8v box).zipIdx=((tw0 0).map u8v).toArray:=Zk
theorem nF (a:E8)(c:Nat) (ky:E7)(w:World)(h:Sl w a 16 ky) :
  Calls Tryz.prog 138 #[Zy a 16 c] w λ e w'=>e = .returned (.agg ((pre (expand ky)).map u8v).toArray)/\Ext w w':=by
 obtain ⟨bx,hbe⟩:∃ bx,Hid (bx=box):=⟨_,FC rfl⟩;have htab:=Ad;have hb84:=AL;have hbl:bx.length=256:=by rw [hbe.out];exact dZ
 rw [<- hbe.out] at htab hb84;clear hbe;obtain ⟨m0,hm0⟩:∃ m0,Hid (m0=tw0 0):=⟨_,FC rfl⟩;rw [<- hm0.out] at hb84;have hm0l:m0.length=688:=by rw [hm0.out,ov _ Zo]
 obtain ⟨zs,hzl,hzs⟩:∃ zs:List Value,zs.length=688/\zs=Tryz.zeroCells197.toList:=⟨_,Zk,rfl⟩;have hR0:=Blk.new w Tryz.zeroCells197 197;rw [<- hzs] at hR0
 go_enter Tryz.func138,Tryz.ntmps138
 go_wp2_with fail;refine (htab _).mono ?_;rintro e w1 ⟨rfl,hx1⟩;have hR1:=hR0.extB hx1;have hx1:=(FA w (.cells Tryz.zeroCells197 197)).trans hx1
 go_wp2_with (first
  | (refine ag R84 rfl rfl _ _ rfl rfl rfl rfl (by simp [Act.put]) (m0.map u8v) rfl Zs ((by simpa using hm0l)) (aH _) ?_;intro x hBx _)
  | fail)
 have hx2:=hx1.ext x;have hR2:=hR1.ext x;have hwl:=hR1.lt;generalize w1.ext x=W at *;generalize w1.heap.size=g at *;clear hR1 hR0;rw [hm0.out] at hBx
 go_loopw [4] (λ v4 wr=>∃ k:Nat,k<=256/\v4 = Zz Zx k/\Blk wr g 197 ((tw0 k).map u8v)/\Blk wr w.heap.size 197 zs/\Ext w wr) (λ v4 _=>256-(intOf v4).toNat)
 case atStart=>exact ⟨0,Zo,rfl,hBx,hR2,hx2⟩
 case round =>
  obtain ⟨k,hk,rfl,hB,hR,hx⟩:=hrel;by_cases hlt:k<256
  ·have hT:∀ W,Calls Tryz.prog 157 #[Zz Zu (k:Int), Zz Zu 2] W λ e w'=>e = .returned (Zz Zu (n8 (dbl (UInt8.ofNat k))))/\Ext W w':=λ W=>by
    have:=je (UInt8.ofNat k) 2 W;rw [mul_two,<- Ax k hlt] at this;exact this
   have HS:=FC (AI k hlt);generalize dbl (UInt8.ofNat k)=y at *;have hk0:(0:Int)<=(k:Int):=Zo;have hk1:(k:Int)<256:=Zo;have hkw:IntKind.u8.wrap (k:Int)=(k:Int):=by rw [abb];omega
   go_wp2_with fail;refine (hT _).mono ?_;rintro e w3 ⟨rfl,hx3⟩;have hB3:=hB.extB hx3;have hR3:=hR.extB hx3;have hxw:=hx.trans hx3;obtain ⟨vo,hvo⟩:∃ v,w3.cell? ⟨g,432+k,none⟩=some v:=⟨_,hB3.cell (432+k) (by rw [aaC,ov _ hk];omega)⟩;have hf:=hB3.free (432+k);haveI:=hB3.blt;have hB4:=hB3.set (432+k) (u8v y);rw [<- aaT,HS.out] at hB4;have hne:w.heap.size≠g:=Zo;clear hT hB hR hx3 hx;go_wp2_with fail;go_roundw
   case rel=>exact ⟨k+1,Zo,Zg,hB4,hR3.other (by simpa using hne) _,Ext.setCell hxw (by simp;omega) _⟩
   case measure=>simp [intOf];omega
  ·obtain rfl:k=256:=by omega
   rw [Ai] at hB;have hkl:=h.len;have HK:=FC (zU ky hkl);have hpl:=eI [] Zs;generalize pre []=p0 at *;have hS:=h.ext hx
   go_wp2_with (first
    | (refine jy rfl (.tmp 22) (.tmp 23) _ _ rfl 5 Tryz.underlying33 Zk g 0 _ _ _ _ _ ky rfl rfl 197 _ hB hS 16 Zo ((by simp;omega)) ?_;intro w4 hB4 hM4)
    | fail)
   have hB5:Blk w4 g 197 ((pre ky).map u8v):=by
    have e:(p0.map u8v).take 0++(ky.take 16).map u8v++(p0.map u8v).drop (0+16)=(pre ky).map u8v:=by
     rw [<- HK.out,q9q,q5q,aaK,List.map_drop,aah Zo]
    rw [<- e];exact hB4
   have hR4:=hR.turn hM4 Zo;have hx4:Ext w w4:=E9 hx (hM4.below Zo hx.size);clear hM4 hB4 hS hB hR hx HK hpl hbl hm0 hm0l
   go_loopw [5,6,7,8] (λ v5 v6 _ _ wr=>∃ n:Nat,n<=40/\v6 = Zz Zx (4*(n:Int)+16)/\v5 = Zz Zu (n8 (con ((n+3) / 4)))/\Blk wr g 197 ((pre (words ky n)).map u8v)/\Blk wr w.heap.size 197 zs/\Ext w wr) (λ _ v6 _ _ _=>176-(intOf v6).toNat)
   case atStart=>exact ⟨0,Zo,rfl,rfl,hB5,hR4,hx4⟩
   case round =>
    obtain ⟨n,hn,rfl,rfl,hB,hR,hx⟩:=hrel;have hwl:=dd ky n hkl;by_cases hlt:n<40
    ·have HW:=FC (vS (words ky n) (n+4) Zo Zo);have HS:=FC (show words ky (n+1)=words ky n++word (words ky n) (n+4) from rfl);generalize words ky n=ws at *;have c0:=hB.cell? (4*n+12) (v:=u8v (at' ws (4*n+12))) (by rw [List.getElem?_map,mw _ _ Zo];rfl);have c1:=hB.cell? (4*n+13) (v:=u8v (at' ws (4*n+13))) (by rw [List.getElem?_map,mw _ _ Zo];rfl);have c2:=hB.cell? (4*n+14) (v:=u8v (at' ws (4*n+14))) (by rw [List.getElem?_map,mw _ _ Zo];rfl);have c3:=hB.cell? (4*n+15) (v:=u8v (at' ws (4*n+15))) (by rw [List.getElem?_map,mw _ _ Zo];rfl);have b0:(4*(n:Int)+16-4).toNat=4*n+12:=Zo;have b1:(4*(n:Int)+16-3).toNat=4*n+13:=Zo;have b2:(4*(n:Int)+16-2).toNat=4*n+14:=Zo;have b3:(4*(n:Int)+16-1).toNat=4*n+15:=Zo;have d0:(0:Int)<=(n:Int):=Zo;have d1:(n:Int)<40:=Zo;have a0:(4:Int)<=4*(n:Int)+16:=Zo;have a1:(3:Int)<=4*(n:Int)+16:=Zo;have a2:(2:Int)<=4*(n:Int)+16:=Zo;have a3:(1:Int)<=4*(n:Int)+16:=Zo;have f0:4*(n:Int)+16-4<176:=Zo;have f1:4*(n:Int)+16-3<176:=Zo;have f2:4*(n:Int)+16-2<176:=Zo;have f3:4*(n:Int)+16-1<176:=Zo;haveI:=hB.blt;have hxw:=hx;go_wp2;refine R2.ae 22 [[],[0],[],[0,1,2],[0,1,2,3],[],[5],[],[5,6,7],[5,6,7,8],[],[10],[],[10,11,12],[10,11,12,13],[],[15],[],[15,16,17],[15,16,17,18],[0,1,2,3,4,5,6,7,8,9,10,11,12,13,14,15,16,17,18,19],[],[0,1,2,3,4,5,6,7,8,9,10,11,12,13,14,15,16,17,18,19,20,21]] [] (λ h=>(h rfl).elim) Zk Zk Zk Zk Zk ?_;simp only [q8q,q9q,q10q,q11q,q12q,q13q];(repeat (refine R2.av ?_;(try simp only [Act.put,q0q,q1q,q2q])));(refine R2.cJ _ (List.replicate 4 (u8v 0)) Tryz.zeroValue207 rfl rfl rfl ?_);(refine R2.ef ?_;intro us x hx hf hd);obtain ⟨g7,e7,h7,hB7⟩:=hf;rw [e7];have hxr:=hxw.trans hx;have hBr:=hB.extB hx;have hRr:=hR.extB hx;have hg7:g<g7:=by have:=hB.lt;omega
     have hw7:w.heap.size<g7:=Zo;clear e7 hd;generalize wr.ext x=W2 at *;clear hB hR hx c0 c1 c2 c3 b0 b1 b2 b3 a0 a1 a2 a3 f0 f1 f2 f3 h7;(refine aa R99 rfl _ _ rfl g7 0 rfl ([at' ws (4*n+12),at' ws (4*n+13),at' ws (4*n+14),at' ws (4*n+15)].map u8v) rfl _ _ hB7 rfl Zs (aH _) ?_;intro W3 hB8 hM8);have hBt:Blk W3 g7 207 ([at' ws (4*n+12),at' ws (4*n+13),at' ws (4*n+14),at' ws (4*n+15)].map u8v):=by simpa using hB8
     have hB3:=hBr.turn hM8 Zo;have hR3:=hRr.turn hM8 Zo;have hx3:Ext w W3:=E9 hxr (hM8.below Zo hxr.size);clear hB8 hM8 hBr hRr hxr hB7;obtain ⟨t,ht⟩:∃ t,Hid (t=pV ws (n+4)):=⟨_,FC rfl⟩;have htl:t.length=4:=by rw [ht.out];exact mP _ _
     obtain ⟨x1,hx1'⟩:∃ x1,Hid (x1=con ((n+3) / 4)):=⟨_,FC rfl⟩;rw [<- hx1'.out];by_cases h0:n % 4=0
     case' pos =>
      have hmod:((4*(n:Int)+16) % 16 == 0)=true:=by rw [aa5];omega
      have hx4:=FC (show con ((n+1+3) / 4)=dbl x1 by
       rw [hx1'.out,show (n+1+3) / 4=(n+3) / 4+1 by omega];rfl)
      have ht2:=FC (show t=[sub (at' ws (4*n+13)) ^^^ x1,sub (at' ws (4*n+14)),sub (at' ws (4*n+15)),sub (at' ws (4*n+12))] by
       rw [ht.out,hx1'.out];unfold pV;rw [aaj Zo];rw [show 4*(n+4)-4=4*n+12 from Zo,show 4*(n+4)-3=4*n+13 from Zo,show 4*(n+4)-2=4*n+14 from Zo,show 4*(n+4)-1=4*n+15 from Zo,show (n+4) / 4-1=(n+3) / 4 by omega])
      have c0:=hBt.cell? 0 rfl;have c1:=hBt.cell? 1 rfl;have c2:=hBt.cell? 2 rfl;have c3:=hBt.cell? 3 rfl;have hq:∀ y,W3.cell? ⟨g,176+y.toNat,none⟩=some (Zz Zu (n8 (sub y))):=λ y=>hB3.cell? _ (by rw [List.getElem?_map,vK _ Zo];rfl);have q0:=hq (at' ws (4*n+12));have q1:=hq (at' ws (4*n+13));have q2:=hq (at' ws (4*n+14));have q3:=hq (at' ws (4*n+15));clear hq;haveI:=hB3.blt;haveI:=hBt.blt;have hT:∀ W,Calls Tryz.prog 157 #[Zz Zu (n8 x1), Zz Zu 2] W λ e w'=>e = .returned (Zz Zu (n8 (dbl x1)))/\Ext W w':=λ W=>by
       have:=je x1 2 W;rw [mul_two] at this;exact this
      generalize dbl x1=x2 at *;go_wp2;refine R2.ae 23 [[],[0],[],[0,1,2],[0,1,2,3],[],[0,1,2,3,4,5],[],[7],[],[7,8,9],[7,8,9,10],[],[12],[],[12,13,14],[12,13,14,15],[],[17],[],[17,18,19],[17,18,19,20],[0,1,2,3,4,5,6,7,8,9,10,11,12,13,14,15,16,17,18,19,20,21],[0,1,2,3,4,5,6,7,8,9,10,11,12,13,14,15,16,17,18,19,20,21,22]] [] (λ h=>(h rfl).elim) Zk Zk Zk Zk Zk ?_;simp only [q8q,q9q,q10q,q11q,q12q,q13q];(repeat (refine R2.av ?_;(try simp only [Act.put,q0q,q1q,q2q])));(refine R2.aU ?_;intro us x hx hf);have hBx:=hBt.ext x;have hB9:=hB3.ext x;have hR9:=hR3.ext x;have hx9:=hx3.ext x;generalize W3.ext x=W4 at *;clear hBt hB3 hR3 hx3 c0 c1 c2 c3 q0 q1 q2 q3 hx;(refine aa R99 rfl _ _ rfl g7 0 rfl ([sub (at' ws (4*n+13)) ^^^ x1,sub (at' ws (4*n+14)),sub (at' ws (4*n+15)),sub (at' ws (4*n+12))].map u8v) rfl _ _ hBx rfl Zs (aH _) ?_;intro W5 hB8 hM8);have hBt:Blk W5 g7 207 (t.map u8v):=by rw [ht2.out];simpa using hB8
      have hB3:=hB9.turn hM8 Zo;have hR3:=hR9.turn hM8 Zo;have hx3:Ext w W5:=E9 hx9 (hM8.below Zo hx9.size);clear hB8 hM8 hB9 hR9 hx9 hBx ht2;go_wp2_with fail;refine (hT _).mono ?_;rintro e W6 ⟨rfl,hx6⟩;have hBt:=hBt.extB hx6;have hB3:=hB3.extB hx6;have hR3:=hR3.extB hx6;have hx3:=hx3.trans hx6;clear hT hx6;go_wp2_with fail;generalize W6=W3 at *
     case' neg =>
      have hmod:((4*(n:Int)+16) % 16 == 0)=false:=by rw [aar];omega
      have hx4:=FC (show con ((n+1+3) / 4)=x1 by
       rw [hx1'.out,show (n+1+3) / 4=(n+3) / 4 by omega])
      have ht2:=FC (show t=[at' ws (4*n+12),at' ws (4*n+13),at' ws (4*n+14),at' ws (4*n+15)] by
       rw [ht.out];unfold pV;rw [aae Zo];rw [show 4*(n+4)-4=4*n+12 from Zo,show 4*(n+4)-3=4*n+13 from Zo,show 4*(n+4)-2=4*n+14 from Zo,show 4*(n+4)-1=4*n+15 by omega])
      rw [<- ht2.out] at hBt;clear ht2;go_wp2_with fail;generalize x1=x2 at *
     all_goals
      have hF:∀ r,r<4->Hid (fJ ws t (n+4) r=at' ws (4*n+r) ^^^ at' t r):=λ r hr=>FC (by
       unfold fJ;rw [show 4*(n+4)-16+r=4*n+r by omega])
      go_loopw [8] (λ v8 wi=>∃ r:Nat,r<=4/\v8 = Zz Zx r/\Blk wi g 197 ((pre (ws++(List.range r).map (fJ ws t (n+4)))).map u8v)/\Blk wi g7 207 (t.map u8v)/\Blk wi w.heap.size 197 zs/\Ext w wi) (λ v8 _=>4-(intOf v8).toNat)
      case atStart=>exact ⟨0,Zo,rfl,by simpa using hB3,hBt,hR3,hx3⟩
      case round =>
       obtain ⟨r,hr,rfl,hBi,hBu,hRi,hxi⟩:=hrel;by_cases hr4:r<4
       ·have hFr:=hF r hr4;have hL:(ws++(List.range r).map (fJ ws t (n+4))).length=4*n+16+r:=by simp;omega
        have hv:at' (ws++(List.range r).map (fJ ws t (n+4))) (4*n+r)=at' ws (4*n+r):=by
         rw [bE _ _ Zo,bE _ _ Zo,abf Zo]
        have c0:=hBi.cell? (4*n+r) (v:=u8v (at' ws (4*n+r))) (by rw [List.getElem?_map,mw _ _ Zo,hv];rfl);have c1:=hBu.cell? r (v:=u8v (at' t r)) (by rw [List.getElem?_map,bE _ _ Zo,List.getElem?_eq_getElem Zo];rfl);have HS2:=FC (zQ (ws++(List.range r).map (fJ ws t (n+4))) (fJ ws t (n+4) r) (4*n+16+r) hL.symm Zo);have r0:(0:Int)<=4*(n:Int)+(r:Int):=Zo;have r1:4*(n:Int)+(r:Int)<176:=Zo;have r2:(4*(n:Int)+(r:Int)).toNat=4*n+r:=Zo;have r3:(0:Int)<=4*(n:Int)+16+(r:Int):=Zo;have r4:4*(n:Int)+16+(r:Int)<176:=Zo;have r5:(4*(n:Int)+16+(r:Int)).toNat=4*n+16+r:=Zo;have r6:(r:Int)<4:=Zo;have r7:(0:Int)<=(r:Int):=Zo;haveI:=hBi.blt;haveI:=hBu.blt;clear hv hF;have hxv:=hxi;go_wp2;refine R2.ae 16 [[],[],[0,1],[],[3],[],[3,4,5],[],[3,4,5,6,7],[3,4,5,6,7,8],[],[10],[10,11],[3,4,5,6,7,8,9,10,11,12],[],[0,1,2,3,4,5,6,7,8,9,10,11,12,13,14],[0,1,2,3,4,5,6,7,8,9,10,11,12,13,14,15]] [] (λ h=>(h rfl).elim) Zk Zk Zk Zk Zk ?_;simp only [q8q,q9q,q10q,q11q,q12q,q13q];(repeat (refine R2.av ?_;(try simp only [Act.put,q0q,q1q,q2q])));(refine R2.aU ?_;intro us x hx hf);have hBj:=hBi.ext x;have hBv:=hBu.ext x;have hRj:=hRi.ext x;have hxj:=hxv.ext x;generalize wr.ext x=W7 at *;clear hBi hBu hRi hx c0 c1;obtain ⟨vo,hvo⟩:∃ v,W7.cell? ⟨g,4*n+16+r,none⟩=some v:=⟨_,hBj.cell (4*n+16+r) (by rw [aaC,eI _ Zo];omega)⟩;have hf:=hBj.free (4*n+16+r);haveI:=hBj.blt;have hBk:=hBj.set (4*n+16+r) (u8v (fJ ws t (n+4) r));rw [<- aaT,HS2.out,hFr.out,<- hFr.out,aam,show (List.range r).map (fJ ws t (n+4))++[fJ ws t (n+4) r]=(List.range (r+1)).map (fJ ws t (n+4)) by rw [aaZ,aaK];rfl,hFr.out] at hBk;go_wp2_with fail;go_roundw
        case rel=>exact ⟨r+1,Zo,Zg,hBk,hBv.other (by simp;omega) _,hRj.other (by simp;omega) _,Ext.setCell hxj (by simp;omega) _⟩
        case measure=>simp [intOf];omega
       ·obtain rfl:r=4:=by omega
        clear hF;rw [ht.out,<- HW.out,<- HS.out] at hBi;go_wp2_with fail;go_roundw
        case rel=>exact ⟨n+1,Zo,Zg,by rw [hx4.out],hBi,hRi,hxi⟩
        case measure=>simp [intOf];omega
    ·obtain rfl:n=40:=by omega
     have HE:=FC (show expand ky=words ky 40 from rfl);have hpl:=eI (words ky 40) Zo;rw [<- HE.out] at hB hpl;obtain ⟨pf,hpf⟩:∃ pf,Hid (pf=pre (expand ky)):=⟨_,FC rfl⟩;rw [<- hpf.out] at hB hpl;clear HE;haveI:=hB.blt;have hzd:zs.drop 688=[]:=List.drop_eq_nil_of_le Zo
     go_wp2_with (first
      | (refine af R84 rfl _ rfl g 0 rfl (pf.map u8v) hB.rd ((by simpa using hpl)) ?_)
      | (refine aa R84 rfl _ _ rfl w.heap.size 0 rfl (pf.map u8v) rfl _ _ hR (by simpa using hpl) Zo (aH _) ?_;intro ws hBs hM)
      | fail)
     have hBf:Blk ws w.heap.size 197 (pf.map u8v):=by simpa [hpl,hzd] using hBs
     refine aaa (aL Tryz.results138 R84 _ _ w.heap.size 0 (pf.map u8v) rfl hBf.rd ((by simpa using hpl))) rfl ?_;exact ⟨by rw [hpf.out],E9 hx (hM.below (aad _) hx.size)⟩
end Go.Proofs.P9
