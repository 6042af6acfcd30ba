/- Lemmas of this claim, several texts joined. -/
import Derived.Test.YtmdahnkcnagkjaaGreatZ11
set_option maxRecDepth 100000
open Go.Value renaming int -> Zz,slice -> Zy
open Go.IntKind renaming i64 -> Zx
open List renaming setIfInBounds_toArray -> q0q, set_cons_succ -> q1q, set_cons_zero -> q2q, nil_append -> q5q, take_succ_cons -> q8q, take_zero -> q9q, drop_succ_cons -> q10q, drop_zero -> q11q, take_nil -> q12q, drop_nil -> q13q
set_option maxHeartbeats 8000000
set_option linter.unusedVariables false
set_option linter.unusedSimpArgs false
/- The walks of the reference's prepared key: Encrypt. -/
namespace Go.Proofs.P9
open Go.RowKit Go.Sec Go.Oct Go.Aes BigFrame
theorem _root_.z19q30{p:Prop}(h:p:=by
 obtain rfl:q=4:=Zo;(try simp only [Nat.reduceAdd,Nat.reduceMul,Nat.reduceDiv,Nat.reduceSub,aan]);go_wp2_with fail;go_roundw
 case rel=>exact ⟨c+1,Zo,Zg,hM,hS,hT,hx⟩
 case measure=>simp [intOf];omega):p:=h
theorem tP (a:E8)(c:Nat) (ks l:E7)(hks:ks.length=176) (w:World)(h:Sl w a 16 l) (hc:16<=c) :
  Calls Tryz.prog 139 #[.agg ((pre ks).map u8v).toArray, Zy a 16 c] w λ e w'=>bZ 16 (enc ks l) w e w':=by
 have hll:=h.len;have hpl:=eI ks Zo;have hpa:=λ j (hj:j<176)=>mw ks j Zo;have hpb:=λ y=>vK ks Zo y;have hpt:=λ y=>AD ks Zo y;generalize pre ks=pk at *;have hM0:=(Blk.new w (List.map u8v pk).toArray 197).alloc (.cells #[Value.int IntKind.u8 0,Value.int IntKind.u8 0,Value.int IntKind.u8 0,Value.int IntKind.u8 0,Value.int IntKind.u8 0,Value.int IntKind.u8 0,Value.int IntKind.u8 0,Value.int IntKind.u8 0,Value.int IntKind.u8 0,Value.int IntKind.u8 0,Value.int IntKind.u8 0,Value.int IntKind.u8 0,Value.int IntKind.u8 0,Value.int IntKind.u8 0,Value.int IntKind.u8 0,Value.int IntKind.u8 0] 208);have hS0:=Blk.new (w.alloc (.cells (List.map u8v pk).toArray 197)) #[Value.int IntKind.u8 0,Value.int IntKind.u8 0,Value.int IntKind.u8 0,Value.int IntKind.u8 0,Value.int IntKind.u8 0,Value.int IntKind.u8 0,Value.int IntKind.u8 0,Value.int IntKind.u8 0,Value.int IntKind.u8 0,Value.int IntKind.u8 0,Value.int IntKind.u8 0,Value.int IntKind.u8 0,Value.int IntKind.u8 0,Value.int IntKind.u8 0,Value.int IntKind.u8 0,Value.int IntKind.u8 0] 208;rw [aa8] at hS0;have hx0:Ext w ((w.alloc (.cells (List.map u8v pk).toArray 197)).alloc (.cells #[Value.int IntKind.u8 0,Value.int IntKind.u8 0,Value.int IntKind.u8 0,Value.int IntKind.u8 0,Value.int IntKind.u8 0,Value.int IntKind.u8 0,Value.int IntKind.u8 0,Value.int IntKind.u8 0,Value.int IntKind.u8 0,Value.int IntKind.u8 0,Value.int IntKind.u8 0,Value.int IntKind.u8 0,Value.int IntKind.u8 0,Value.int IntKind.u8 0,Value.int IntKind.u8 0,Value.int IntKind.u8 0] 208)):=eX
 go_enter Tryz.func139,Tryz.ntmps139
 go_wp2_with fail;generalize (w.alloc _).alloc _=W at *;obtain ⟨zr,hzl,hzr⟩:∃ zr:E7,zr.length=16/\Hid (zr=List.replicate 16 0):=⟨_,Zs,FC rfl⟩;replace hS0:Blk W (w.heap.size+1) 208 ((dy (yn ks l) zr 0).map u8v):=by rw [dL,hzr.out];exact hS0
 replace hM0:Blk W w.heap.size 197 (pk.map u8v):=hM0
 go_loopw [6] (λ v6 wr=>∃ i:Nat,i<=16/\v6 = Zz Zx i/\Blk wr w.heap.size 197 (pk.map u8v)/\Blk wr (w.heap.size+1) 208 ((dy (yn ks l) zr i).map u8v)/\Ext w wr) (λ v6 _=>16-(intOf v6).toNat)
 case atStart=>exact ⟨0,Zo,rfl,hM0,hS0,hx0⟩
 case round =>
  obtain ⟨i,hi,rfl,hM,hS,hx⟩:=hrel;by_cases hlt:i<16
  ·have hHF:=FC (show yn ks l i=at' l i ^^^ at' ks i from rfl);have hb:=(h.ext hx).by';obtain ⟨b0,o0,rfl,hb0,c0⟩:=(h.ext hx).at i hlt;rw [<- bE l i Zo] at c0;have c1:=hM.cell? i (v:=u8v (at' ks i)) (by rw [List.getElem?_map,hpa i Zo];rfl);have i0:(0:Int)<=(i:Int):=Zo;have i1:(i:Int)<16:=Zo;have i2:(i:Int)<176:=Zo;haveI:=hM.blt;haveI:=hS.blt;haveI:=hb0;have hxw:=hx;clear hb;go_wp2;refine R2.ae 11 [[],[],[],[1,2],[1,2,3],[],[],[5,6],[5,6,7],[1,2,3,4,5,6,7,8],[0,1,2,3,4,5,6,7,8,9],[0,1,2,3,4,5,6,7,8,9,10]] [] (λ h=>(h rfl).elim) Zk Zk Zk Zk Zk ?_;simp only [q8q,q9q,q10q,q11q,q12q,q13q];(repeat (refine R2.av ?_;(try simp only [Act.put,q0q,q1q,q2q])));(refine R2.aU ?_;intro us x hx hf);have hM2:=hM.ext x;have hS2:=hS.ext x;have hx2:=hxw.ext x;generalize wr.ext x=W2 at *;obtain ⟨vo,hvo⟩:∃ v,W2.cell? ⟨w.heap.size+1,i,none⟩=some v:=⟨_,hS2.cell i (by rw [aaC,cD _ _ _ Zo];omega)⟩;have hf:=hS2.free i;haveI:=hS2.blt;have hB:=hS2.upd Zo;rw [hHF.out] at hB;clear hM hS hx c0 c1;go_wp2_with fail;go_roundw
   case rel=>exact ⟨i+1,Zo,Zg,hM2.other Zs _,hB,Ext.setCell hx2 Zs _⟩
   case measure=>simp [intOf];omega
  ·obtain rfl:i=16:=Zo;(try simp only [Nat.reduceAdd,Nat.reduceMul,Nat.reduceDiv,Nat.reduceSub,aan]);rw [fH _ _ _ hzl,fst_eq ks l hks] at hS;clear hM0 hS0 hx0;go_wp2_with fail
   go_loopw [7,8,9,10,11,12,13,14] (λ v7 _ _ _ _ _ _ _ wo=>∃ r:Nat,r<=10/\v7 = Zz Zx ((r:Int)+1)/\Blk wo w.heap.size 197 (pk.map u8v)/\Blk wo (w.heap.size+1) 208 ((rounds ks l r).map u8v)/\Ext w wo) (λ v7 _ _ _ _ _ _ _ _=>11-(intOf v7).toNat)
   case atStart=>exact ⟨0,Zo,rfl,hM,hS,hx⟩
   case round =>
    obtain ⟨r,hr,rfl,hM,hS,hx⟩:=hrel;by_cases hlt:r<10
    ·have hsl:=dN ks l r;have HN:=FC (Bv ks l hks r Zo);have HL:=dN ks l (r+1);generalize hs1:rounds ks l (r+1)=s' at *;have hs1:=FC hs1;generalize rounds ks l r=s at *;have r0:(r:Int)+1<=10:=Zo;have hTn:=Blk.new wr #[Value.int IntKind.u8 0,Value.int IntKind.u8 0,Value.int IntKind.u8 0,Value.int IntKind.u8 0,Value.int IntKind.u8 0,Value.int IntKind.u8 0,Value.int IntKind.u8 0,Value.int IntKind.u8 0,Value.int IntKind.u8 0,Value.int IntKind.u8 0,Value.int IntKind.u8 0,Value.int IntKind.u8 0,Value.int IntKind.u8 0,Value.int IntKind.u8 0,Value.int IntKind.u8 0,Value.int IntKind.u8 0] 208;have hMa:=hM.alloc (.cells #[Value.int IntKind.u8 0,Value.int IntKind.u8 0,Value.int IntKind.u8 0,Value.int IntKind.u8 0,Value.int IntKind.u8 0,Value.int IntKind.u8 0,Value.int IntKind.u8 0,Value.int IntKind.u8 0,Value.int IntKind.u8 0,Value.int IntKind.u8 0,Value.int IntKind.u8 0,Value.int IntKind.u8 0,Value.int IntKind.u8 0,Value.int IntKind.u8 0,Value.int IntKind.u8 0,Value.int IntKind.u8 0] 208);have hSa:=hS.alloc (.cells #[Value.int IntKind.u8 0,Value.int IntKind.u8 0,Value.int IntKind.u8 0,Value.int IntKind.u8 0,Value.int IntKind.u8 0,Value.int IntKind.u8 0,Value.int IntKind.u8 0,Value.int IntKind.u8 0,Value.int IntKind.u8 0,Value.int IntKind.u8 0,Value.int IntKind.u8 0,Value.int IntKind.u8 0,Value.int IntKind.u8 0,Value.int IntKind.u8 0,Value.int IntKind.u8 0,Value.int IntKind.u8 0] 208);have hxa:Ext w (wr.alloc (.cells #[Value.int IntKind.u8 0,Value.int IntKind.u8 0,Value.int IntKind.u8 0,Value.int IntKind.u8 0,Value.int IntKind.u8 0,Value.int IntKind.u8 0,Value.int IntKind.u8 0,Value.int IntKind.u8 0,Value.int IntKind.u8 0,Value.int IntKind.u8 0,Value.int IntKind.u8 0,Value.int IntKind.u8 0,Value.int IntKind.u8 0,Value.int IntKind.u8 0,Value.int IntKind.u8 0,Value.int IntKind.u8 0] 208)):=hx.alloc _;have hsz:=hx.size;have hml:=hM.lt;have hsl':=hS.lt;go_wp2_with fail;generalize wr.alloc _=W at *;generalize wr.heap.size=g8 at *;replace hTn:Blk W g8 208 ((dy (rY s) zr (4*0)).map u8v):=by rw [Nat.mul_zero,dL,hzr.out];exact hTn
     clear hM hS hx
     go_loopw [9,10] (λ v9 _ wi=>∃ c:Nat,c<=4/\v9 = Zz Zx c/\Blk wi w.heap.size 197 (pk.map u8v)/\Blk wi (w.heap.size+1) 208 (s.map u8v)/\Blk wi g8 208 ((dy (rY s) zr (4*c)).map u8v)/\Ext w wi) (λ v9 _ _=>4-(intOf v9).toNat)
     case atStart=>exact ⟨0,Zo,rfl,hMa,hSa,hTn,hxa⟩
     case round =>
      obtain ⟨c,hc,rfl,hMc,hSc,hTc,hxc⟩:=hrel;by_cases hc4:c<4
      ·have hcI:(c:Int)<4:=by omega
       go_wp2_with fail
       go_loopw [10] (λ v10 wi=>∃ q:Nat,q<=4/\v10 = Zz Zx q/\Blk wi w.heap.size 197 (pk.map u8v)/\Blk wi (w.heap.size+1) 208 (s.map u8v)/\Blk wi g8 208 ((dy (rY s) zr (4*c+q)).map u8v)/\Ext w wi) (λ v10 _=>4-(intOf v10).toNat)
       case atStart=>exact ⟨0,Zo,rfl,hMc,hSc,hTc,hxc⟩
       case round =>
        clear hMc hSc hTc hxc;obtain ⟨q,hq,rfl,hM,hS,hT,hx⟩:=hrel;by_cases hq4:q<4
        ·have hRF:=FC (show rY s (4*c+q)=sub (at' s (q+4*((c+q) % 4))) by
          unfold rY;rw [show (4*c+q+4*((4*c+q) % 4)) % 16=q+4*((c+q) % 4) by omega])
         have c0:=hS.cell? (q+4*((c+q) % 4)) (v:=u8v (at' s (q+4*((c+q) % 4)))) (by rw [List.getElem?_map,List.getElem?_eq_getElem Zo,bE _ _ Zo];rfl);have c1:=hM.cell? (176+(at' s (q+4*((c+q) % 4))).toNat) (v:=u8v (sub (at' s (q+4*((c+q) % 4))))) (by rw [List.getElem?_map,hpb];rfl);generalize at' s (q+4*((c+q) % 4))=y at *;have q0:(0:Int)<=(q:Int):=Zo;have q1:(q:Int)<4:=Zo;have b0:(0:Int)<=(q:Int)+4*(((c:Int)+(q:Int)) % 4):=Zo;have b1:(q:Int)+4*(((c:Int)+(q:Int)) % 4)<16:=Zo;have b2:((q:Int)+4*(((c:Int)+(q:Int)) % 4)).toNat=q+4*((c+q) % 4):=Zo;have b3:(0:Int)<=(q:Int)+4*(c:Int):=Zo;have b4:(q:Int)+4*(c:Int)<16:=Zo;have b5:((q:Int)+4*(c:Int)).toNat=4*c+q:=Zo;haveI:=hM.blt;haveI:=hS.blt;haveI:=hT.blt;obtain ⟨vo,hvo⟩:∃ v,wr.cell? ⟨g8,4*c+q,none⟩=some v:=⟨_,hT.cell (4*c+q) (by rw [aaC,cD _ _ _ Zo];omega)⟩;have hf:=hT.free (4*c+q);have hB:=hT.upd Zo;rw [hRF.out] at hB;go_wp2_with fail;go_roundw
         case rel=>exact ⟨q+1,Zo,Zg,hM.other (by simp;omega) _,hS.other (by simp;omega) _,hB,Ext.setCell hx (by simp;omega) _⟩
         case measure=>simp [intOf];omega
        ·exact z19q30
      ·obtain rfl:c=4:=Zo;(try simp only [Nat.reduceAdd,Nat.reduceMul,Nat.reduceDiv,Nat.reduceSub,aan]);rw [fH _ _ _ hzl,show (List.range (4*4)).map (rY s)=rep s from rfl] at hTc;have htl:(rep s).length=16:=by simp [rep]
       generalize rep s=t at *;have hSc':Blk wr (w.heap.size+1) 208 ((dy (rW ks t (r+1)) s (4*0)).map u8v):=by rw [Nat.mul_zero,dL];exact hSc
       clear hMa hSa hTn hxa hSc;go_wp2_with fail
       go_loopw [11,12,13,14] (λ v11 _ _ _ wi=>∃ c:Nat,c<=4/\v11 = Zz Zx c/\Blk wi w.heap.size 197 (pk.map u8v)/\Blk wi (w.heap.size+1) 208 ((dy (rW ks t (r+1)) s (4*c)).map u8v)/\Blk wi g8 208 (t.map u8v)/\Ext w wi) (λ v11 _ _ _ _=>4-(intOf v11).toNat)
       case atStart=>exact ⟨0,Zo,rfl,hMc,hSc',hTc,hxc⟩
       case round =>
        clear hMc hSc' hTc hxc;obtain ⟨c,hc,rfl,hM,hS,hT,hx⟩:=hrel;by_cases hc4:c<4
        ·have ht:∀ j,j<16->wr.cell? ⟨g8,j,none⟩=some (u8v (at' t j)):=λ j hj=>hT.cell? j (by rw [List.getElem?_map,List.getElem?_eq_getElem Zo,bE _ _ Zo];rfl);have c0:=ht (4*c) Zo;have c1:=ht (4*c+1) Zo;have c2:=ht (4*c+2) Zo;have c3:=ht (4*c+3) Zo;have b0:(0:Int)<=(c:Int):=Zo;have b1:(c:Int)<4:=Zo;have d1:4*(c:Int)+1<16:=Zo;have d2:4*(c:Int)+2<16:=Zo;have d3:4*(c:Int)+3<16:=Zo;have d4:4*(c:Int)<16:=Zo;have d5:(4*(c:Int)).toNat=4*c:=Zo;have d6:(4*(c:Int)+1).toNat=4*c+1:=Zo;have d7:(4*(c:Int)+2).toNat=4*c+2:=Zo;have d8:(4*(c:Int)+3).toNat=4*c+3:=Zo;have d9:(0:Int)<=4*(c:Int):=Zo;have e1:(0:Int)<=4*(c:Int)+1:=Zo;have e2:(0:Int)<=4*(c:Int)+2:=Zo;have e3:(0:Int)<=4*(c:Int)+3:=Zo;haveI:=hT.blt;have hxw:=hx;clear ht;go_wp2;refine R2.ae 21 [[],[0],[0,1],[0,1,2],[],[4],[4,5],[4,5,6],[4,5,6,7],[],[9],[9,10],[9,10,11],[9,10,11,12],[],[14],[14,15],[14,15,16],[14,15,16,17],[0,1,2,3,4,5,6,7,8,9,10,11,12,13,14,15,16,17,18],[],[0,1,2,3,4,5,6,7,8,9,10,11,12,13,14,15,16,17,18,19,20]] [] (λ h=>(h rfl).elim) Zk Zk Zk Zk Zk ?_;simp only [q8q,q9q,q10q,q11q,q12q,q13q];(repeat (refine R2.av ?_;(try simp only [Act.put,q0q,q1q,q2q])));(refine R2.cJ _ (List.replicate 4 (u8v 0)) Tryz.zeroValue207 rfl rfl rfl ?_);(refine R2.ef ?_;intro us x hx hf hd);obtain ⟨g7,e7,h7,hB7⟩:=hf;rw [e7];have hxr:=hxw.trans hx;have hMr:=hM.extB hx;have hSr:=hS.extB hx;have hTr:=hT.extB hx;have hg7:g8<g7:=by have:=hT.lt;omega
         have hw7:w.heap.size<g7:=by have:=hM.lt;omega
         have hw8:w.heap.size+1<g7:=by have:=hS.lt;omega
         clear e7 hd;generalize wr.ext x=W2 at *;clear hM hS hT hx c0 c1 c2 c3 d6 d7 d8 d5 d1 d2 d3 d4 d9 e1 e2 e3 h7;(refine aa R99 rfl _ _ rfl g7 0 rfl ([at' t (4*c),at' t (4*c+1),at' t (4*c+2),at' t (4*c+3)].map u8v) rfl _ _ hB7 rfl Zs (aH _) ?_;intro W3 hB8 hM8);have hA3:Blk W3 g7 207 ([at' t (4*c),at' t (4*c+1),at' t (4*c+2),at' t (4*c+3)].map u8v):=by simpa using hB8
         have hM3:=hMr.turn hM8 Zo;have hS3:=hSr.turn hM8 Zo;have hT3:=hTr.turn hM8 Zo;have hx3:Ext w W3:=E9 hxr (hM8.below Zo hxr.size);clear hB8 hM8 hMr hSr hTr hxr hB7;have hcell:∀ (W:World),Blk W g7 207 ([at' t (4*c),at' t (4*c+1),at' t (4*c+2),at' t (4*c+3)].map u8v)->∀ j,j<4->W.cell? ⟨g7,j,none⟩=some (u8v (at' t (4*c+j))):=λ W hA j hj=>by
          have:j=0\/j=1\/j=2\/j=3:=Zo;rcases this with rfl|rfl|rfl|rfl <;> exact hA.cell? _ rfl
         generalize [at' t (4*c),at' t (4*c+1),at' t (4*c+2),at' t (4*c+3)]=al at *;go_wp2_with fail
         go_loopw [13,14] (λ v13 _ wi=>∃ q:Nat,q<=4/\v13 = Zz Zx q/\Blk wi w.heap.size 197 (pk.map u8v)/\Blk wi (w.heap.size+1) 208 ((dy (rW ks t (r+1)) s (4*c+q)).map u8v)/\Blk wi g8 208 (t.map u8v)/\Blk wi g7 207 (al.map u8v)/\Ext w wi) (λ v13 _ _=>4-(intOf v13).toNat)
         case atStart=>exact ⟨0,Zo,rfl,hM3,hS3,hT3,hA3,hx3⟩
         case round =>
          clear hM3 hS3 hT3 hA3 hx3;obtain ⟨q,hq,rfl,hM,hS,hT,hA,hx⟩:=hrel;by_cases hq4:q<4
          ·have ha:=hcell _ hA;have hmr:=yO t c q hq4;have k0:=hM.cell? (16*(r+1)+(4*c+q)) (v:=u8v (at' ks (16*(r+1)+(4*c+q)))) (by rw [List.getElem?_map,hpa _ Zo];rfl);have q0:(0:Int)<=(q:Int):=Zo;have q1:(q:Int)<4:=Zo;have j0:(0:Int)<=16*((r:Int)+1)+(q:Int)+4*(c:Int):=Zo;have j1:16*((r:Int)+1)+(q:Int)+4*(c:Int)<176:=Zo;have j2:(16*((r:Int)+1)+(q:Int)+4*(c:Int)).toNat=16*(r+1)+(4*c+q):=Zo;have j3:(0:Int)<=(q:Int)+4*(c:Int):=Zo;have j4:(q:Int)+4*(c:Int)<16:=Zo;have j5:((q:Int)+4*(c:Int)).toNat=4*c+q:=Zo;have a0:=ha q hq4;clear hcell;by_cases h10:r+1<10
           ·have r1:(r:Int)+1<10:=by omega
            have hNX:=FC (show rW ks t (r+1) (4*c+q)=dbl (at' t (4*c+q)) ^^^ dbl (at' t (4*c+(q+1) % 4)) ^^^ at' t (4*c+(q+1) % 4) ^^^ at' t (4*c+(q+2) % 4) ^^^ at' t (4*c+(q+3) % 4) ^^^ at' ks (16*(r+1)+(4*c+q)) by
             unfold rW;rw [aaj h10,abi (4*c) q,hmr,abi (4*c) q])
            have a1:=ha ((q+1) % 4) Zo;have a2:=ha ((q+2) % 4) Zo;have a3:=ha ((q+3) % 4) Zo;have t0:=hM.cell? (432+(at' t (4*c+q)).toNat) (v:=u8v (dbl (at' t (4*c+q)))) (by rw [List.getElem?_map,hpt];rfl);have t1:=hM.cell? (432+(at' t (4*c+(q+1) % 4)).toNat) (v:=u8v (dbl (at' t (4*c+(q+1) % 4)))) (by rw [List.getElem?_map,hpt];rfl);have f1:(0:Int)<=((q:Int)+1) % 4:=Zo;have f2:((q:Int)+1) % 4<4:=Zo;have f3:(((q:Int)+1) % 4).toNat=(q+1) % 4:=Zo;have f4:(0:Int)<=((q:Int)+2) % 4:=Zo;have f5:((q:Int)+2) % 4<4:=Zo;have f6:(((q:Int)+2) % 4).toNat=(q+2) % 4:=Zo;have f7:(0:Int)<=((q:Int)+3) % 4:=Zo;have f8:((q:Int)+3) % 4<4:=Zo;have f9:(((q:Int)+3) % 4).toNat=(q+3) % 4:=Zo;clear ha hmr;generalize at' ks (16*(r+1)+(4*c+q))=kk at *;generalize at' t (4*c+q)=y0 at *;generalize at' t (4*c+(q+1) % 4)=y1 at *;generalize at' t (4*c+(q+2) % 4)=y2 at *;generalize at' t (4*c+(q+3) % 4)=y3 at *;haveI:=hM.blt;haveI:=hA.blt;have hxw:=hx;go_wp2;refine R2.ae 34 [[],[0],[0,1],[],[0,1,2,3],[0,1,2,3,4],[],[6],[6,7],[6,7,8],[6,7,8,9],[],[6,7,8,9,10,11],[6,7,8,9,10,11,12],[0,1,2,3,4,5,6,7,8,9,10,11,12,13],[],[15],[15,16],[15,16,17],[15,16,17,18],[0,1,2,3,4,5,6,7,8,9,10,11,12,13,14,15,16,17,18,19],[],[21],[21,22],[21,22,23],[21,22,23,24],[0,1,2,3,4,5,6,7,8,9,10,11,12,13,14,15,16,17,18,19,20,21,22,23,24,25],[],[27],[27,28],[27,28,29],[27,28,29,30],[0,1,2,3,4,5,6,7,8,9,10,11,12,13,14,15,16,17,18,19,20,21,22,23,24,25,26,27,28,29,30,31],[0,1,2,3,4,5,6,7,8,9,10,11,12,13,14,15,16,17,18,19,20,21,22,23,24,25,26,27,28,29,30,31,32]] [] (λ h=>(h rfl).elim) Zk Zk Zk Zk Zk ?_;simp only [q8q,q9q,q10q,q11q,q12q,q13q];(repeat (refine R2.av ?_;(try simp only [Act.put,q0q,q1q,q2q])));(refine R2.aU ?_;intro us x hx hf);have hM2:=hM.ext x;have hS2:=hS.ext x;have hT2:=hT.ext x;have hA2:=hA.ext x;have hx2:=hxw.ext x;have k2:(wr.ext x).cell? ⟨w.heap.size,16*(r+1)+(4*c+q),none⟩=some (u8v kk):=by rw [yv];exact k0
            clear a0 a1 a2 a3 t0 t1 k0 hM hS hT hA hx f3 f6 f9;generalize wr.ext x=W2 at *;obtain ⟨vo,hvo⟩:∃ v,W2.cell? ⟨w.heap.size+1,4*c+q,none⟩=some v:=⟨_,hS2.cell (4*c+q) (by rw [aaC,cD _ _ _ Zo];omega)⟩;have hf:=hS2.free (4*c+q);have hB:=hS2.upd Zo;rw [hNX.out] at hB;haveI:=hM2.blt;haveI:=hS2.blt;go_wp2_with fail;go_roundw
            case rel=>exact ⟨q+1,Zo,Zg,hM2.other Zs _,by rw [<- aaY];exact hB,hT2.other (by simp;omega) _,hA2.other (by simp;omega) _,Ext.setCell hx2 Zs _⟩
            case measure=>simp [intOf];omega
           ·have r1:¬ (r:Int)+1<10:=by omega
            have hNX:=FC (show rW ks t (r+1) (4*c+q)=at' t (4*c+q) ^^^ at' ks (16*(r+1)+(4*c+q)) by
             unfold rW;rw [aae h10])
            generalize at' ks (16*(r+1)+(4*c+q))=kk at *;generalize at' t (4*c+q)=y0 at *;clear ha hmr;obtain ⟨vo,hvo⟩:∃ v,wr.cell? ⟨w.heap.size+1,4*c+q,none⟩=some v:=⟨_,hS.cell (4*c+q) (by rw [aaC,cD _ _ _ Zo];omega)⟩;have hf:=hS.free (4*c+q);have hB:=hS.upd Zo;rw [hNX.out] at hB;haveI:=hM.blt;haveI:=hS.blt;haveI:=hA.blt;go_wp2_with fail;go_roundw
            case rel=>exact ⟨q+1,Zo,Zg,hM.other Zs _,by rw [<- aaY];exact hB,hT.other (by simp;omega) _,hA.other (by simp;omega) _,Ext.setCell hx Zs _⟩
            case measure=>simp [intOf];omega
          ·exact z19q30
        ·obtain rfl:c=4:=Zo;(try simp only [Nat.reduceAdd,Nat.reduceMul,Nat.reduceDiv,Nat.reduceSub,aan]);rw [fH _ _ _ Zo,HN.out] at hS;go_wp2_with fail;go_roundw
         case rel=>exact ⟨r+1,Zo,Zg,hM,by rw [hs1.out];exact hS,hx⟩
         case measure=>simp [intOf];omega
    ·obtain rfl:r=10:=Zo;(try simp only [Nat.reduceAdd,Nat.reduceMul,Nat.reduceDiv,Nat.reduceSub,aan]);have HE:=FC (show enc ks l=rounds ks l 10 from rfl);have hsl:=dN ks l 10;rw [<- HE.out] at hS hsl;obtain ⟨o,hgo⟩:∃ o,Hid (o=enc ks l):=⟨_,FC rfl⟩;rw [<- hgo.out] at hS hsl;clear HE;have r0:¬ (10:Int)+1<=10:=Zo;have hmm:=hx.size
     go_wp2_with (at_builtin;refine aB U rfl _ _ rfl w.heap.size _ 0 0 [] rfl _ 16 _ _ rfl ((fy _).mono hmm) ((hS.sl hsl).ext eX) Zo (by simp;omega) ?_;intro sa2 sc2 w2 hO2 hg2 hB2)
     go_ret;simp only [aaA,q5q] at hO2;exact ⟨_,_,rfl,by rw [<- hgo.out];exact hO2,E9 (b:=wr.alloc _) (by exact hx.alloc _) hB2⟩
end Go.Proofs.P9
