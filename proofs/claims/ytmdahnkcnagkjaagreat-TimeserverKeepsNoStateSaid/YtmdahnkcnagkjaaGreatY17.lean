/- Lemmas of this claim, several texts joined. -/
import Derived.Test.YtmdahnkcnagkjaaGreatY1
import Derived.Test.YtmdahnkcnagkjaaGreatY3
import Derived.Test.YtmdahnkcnagkjaaGreatY9
import Derived.Test.YtmdahnkcnagkjaaGreatY10
set_option maxRecDepth 100000
open Go.Value renaming int -> Zz
open Go.IntKind renaming i64 -> Zx,u8 -> Zu
set_option maxHeartbeats 8000000
set_option linter.unusedVariables false
set_option linter.unusedSimpArgs false
/- The walks of the reference's prepared key: the table of Sub. -/
namespace Go.Proofs.YtmdahnkcnagkjaaGreat
open Go.RowKit Go.Sec Go.Oct Go.Aes BigFrame
theorem R82:RowT Tryz.prog 195 256:=⟨⟨_,Tryz.underlying195,rfl⟩,Zk,⟨_,Tryz.zeroValue195,Zk⟩⟩
theorem AD (w:World):Calls Tryz.prog 156 #[] w λ e w'=>e = .returned (.agg (box.map u8v).toArray)/\Ext w w':=by
 have hz:(Tryz.zeroCells195.setIfInBounds 0 (Value.int IntKind.u8 99)).toList=(dW 0).2.2.map u8v:=Zk
 go_enter Tryz.func156,Tryz.ntmps156
 go_wp2_with fail;have hB0:=Blk.new (w.alloc (.cells Tryz.zeroCells195 195)) (Tryz.zeroCells195.setIfInBounds 0 (Value.int IntKind.u8 99)) 195;rw [hz,abf] at hB0;have hR0:=(Blk.new w Tryz.zeroCells195 195).alloc (.cells (Tryz.zeroCells195.setIfInBounds 0 (Value.int IntKind.u8 99)) 195);have hE0:Ext w ((w.alloc (.cells Tryz.zeroCells195 195)).alloc (.cells (Tryz.zeroCells195.setIfInBounds 0 (Value.int IntKind.u8 99)) 195)):=eX;obtain ⟨zs,hzl,hzs⟩:∃ zs:List Value,zs.length=256/\zs=Tryz.zeroCells195.toList:=⟨_,Zk,rfl⟩;rw [<- hzs] at hR0;clear hzs hz;generalize (w.alloc (.cells Tryz.zeroCells195 195)).alloc (.cells (Tryz.zeroCells195.setIfInBounds 0 (Value.int IntKind.u8 99)) 195)=W at *
 go_loopw [2,3,4] (λ v2 v3 v4 wr=>∃ k:Nat,k<=255/\v2 = Zz Zu (n8 (dW k).1)/\v3 = Zz Zu (n8 (dW k).2.1)/\v4 = Zz Zx k/\Blk wr (w.heap.size+1) 195 ((dW k).2.2.map u8v)/\Blk wr w.heap.size 195 zs/\Ext w wr) (λ _ _ v4 _=>255-(intOf v4).toNat)
 case atStart=>exact ⟨0,Zo,rfl,rfl,rfl,hB0,hR0,hE0⟩
 case round =>
  obtain ⟨k,hk,rfl,rfl,rfl,hB,hR,hx⟩:=hrel;have hbl:=rz k;by_cases hlt:k<255
  ·have h1:=Lib.hid (show (dW (k+1)).1=mul (dW k).1 3 from rfl);have h2:=Lib.hid (show (dW (k+1)).2.1=mul (dW k).2.1 246 from rfl);have h3:=Lib.hid (show (dW (k+1)).2.2=(dW k).2.2.set (dW k).1.toNat (aff (dW k).2.1) from rfl);generalize (dW k).2.2=l at *;generalize (dW k).2.1=q at *;generalize (dW k).1=p at *;have hA:=Lib.hid (show aff q=q ^^^ lft q 1 ^^^ lft q 2 ^^^ lft q 3 ^^^ lft q 4 ^^^ 99 from rfl);have l1:∀ W,Calls Tryz.prog 170 #[Zz Zu (n8 q), Zz Zx 1] W λ e w'=>e = .returned (Zz Zu (n8 (lft q 1)))/\Ext W w':=λ W=>lz q 1 Zo Zo W;have l2:∀ W,Calls Tryz.prog 170 #[Zz Zu (n8 q), Zz Zx 2] W λ e w'=>e = .returned (Zz Zu (n8 (lft q 2)))/\Ext W w':=λ W=>lz q 2 Zo Zo W;have l3:∀ W,Calls Tryz.prog 170 #[Zz Zu (n8 q), Zz Zx 3] W λ e w'=>e = .returned (Zz Zu (n8 (lft q 3)))/\Ext W w':=λ W=>lz q 3 Zo Zo W;have l4:∀ W,Calls Tryz.prog 170 #[Zz Zu (n8 q), Zz Zx 4] W λ e w'=>e = .returned (Zz Zu (n8 (lft q 4)))/\Ext W w':=λ W=>lz q 4 Zo Zo W;have t3:∀ W,Calls Tryz.prog 157 #[Zz Zu (n8 p), Zz Zu 3] W λ e w'=>e = .returned (Zz Zu (n8 (mul p 3)))/\Ext W w':=λ W=>jo p 3 W;have t4:∀ W,Calls Tryz.prog 157 #[Zz Zu (n8 q), Zz Zu 246] W λ e w'=>e = .returned (Zz Zu (n8 (mul q 246)))/\Ext W w':=λ W=>jo q 246 W;have hpl:=p.toNat_lt;have hpl':p.toNat<256:=hpl;go_wp2_with fail;(with_reducible refine (l1 _).mono ?_);rintro e w1 ⟨rfl,hxq⟩;obtain ⟨xq,rfl⟩:=hxq.out;clear hxq;go_wp2_with fail;(with_reducible refine (l2 _).mono ?_);rintro e w1 ⟨rfl,hxq⟩;obtain ⟨xq,rfl⟩:=hxq.out;clear hxq;go_wp2_with fail;(with_reducible refine (l3 _).mono ?_);rintro e w1 ⟨rfl,hxq⟩;obtain ⟨xq,rfl⟩:=hxq.out;clear hxq;go_wp2_with fail;refine (l4 _).mono ?_;rintro e W5 ⟨rfl,hx5⟩;have hx5:Ext wr W5:=(Ext.of_ext _ _).trans ((Ext.of_ext _ _).trans ((Ext.of_ext _ _).trans hx5));have hB5:=hB.extB hx5;have hR5:=hR.extB hx5;have hxw:=hx.trans hx5;obtain ⟨vo,hvo⟩:∃ v,W5.cell? ⟨w.heap.size+1,p.toNat,none⟩=some v:=⟨_,hB5.cell p.toNat (by rw [aaJ,hbl];exact hpl')⟩;have hf:=hB5.free p.toNat;haveI:=hB5.blt;have hB6:=hB5.set p.toNat (u8v (aff q));rw [<- aa0,<- h3.out,hA.out] at hB6;have hR6:=hR5.other (a:=⟨w.heap.size+1,p.toNat,none⟩) Zs (u8v (q ^^^ lft q 1 ^^^ lft q 2 ^^^ lft q 3 ^^^ lft q 4 ^^^ 99));have hx6:Ext w (W5.setCell ⟨w.heap.size+1,p.toNat,none⟩ (u8v (q ^^^ lft q 1 ^^^ lft q 2 ^^^ lft q 3 ^^^ lft q 4 ^^^ 99))):=Ext.setCell hxw Zs _;clear l1 l2 l3 l4 hx5 hA hB;go_wp2_with fail;generalize W5.setCell ⟨w.heap.size+1,p.toNat,none⟩ (u8v (q ^^^ lft q 1 ^^^ lft q 2 ^^^ lft q 3 ^^^ lft q 4 ^^^ 99))=W6 at *;refine (t3 _).mono ?_;rintro e W7 ⟨rfl,hx7⟩;go_wp2_with fail;refine (t4 _).mono ?_;rintro e W8 ⟨rfl,hx8⟩;go_wp2_with fail;go_roundw
   case rel=>exact ⟨k+1,Zo,by rw [h1.out],by rw [h2.out],Zg,(hB6.extB hx7).extB hx8,(hR6.extB hx7).extB hx8,(hx6.trans hx7).trans hx8⟩
   case measure=>simp [intOf];omega
  ·obtain rfl:k=255:=by omega
   rw [xE] at hB;clear hbl;obtain ⟨bx,hbe⟩:∃ bx,Hid (bx=box):=⟨_,Lib.hid rfl⟩;have hbx:bx.length=256:=by rw [hbe.out];exact dZ
   rw [<- hbe.out] at hB;have hzd:zs.drop 256=[]:=List.drop_eq_nil_of_le Zo;haveI:=hB.blt
   go_wp2_with (first
    | (refine af R82 rfl _ rfl (w.heap.size+1) 0 rfl (bx.map u8v) hB.rd ((by simpa using hbx)) ?_)
    | (refine aa R82 rfl _ _ rfl w.heap.size 0 rfl (bx.map u8v) rfl _ _ hR (by simpa using hbx) Zo (aK _) ?_;intro ws hBs hM)
    | fail)
   have hBf:Blk ws w.heap.size 195 (bx.map u8v):=by simpa [hbx,hzd] using hBs
   refine aab (aX Tryz.results156 R82 _ _ w.heap.size 0 (bx.map u8v) rfl hBf.rd ((by simpa using hbx))) rfl ?_;exact ⟨by rw [hbe.out],Below.trans hx (hM.below (aae _) hx.size)⟩
end Go.Proofs.YtmdahnkcnagkjaaGreat
