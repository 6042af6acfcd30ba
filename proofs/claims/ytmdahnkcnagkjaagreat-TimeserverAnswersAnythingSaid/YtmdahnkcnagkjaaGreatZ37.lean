/- Lemmas of this claim, several texts joined. -/
import Derived.Test.YtmdahnkcnagkjaaGreatZ27
import Derived.Test.YtmdahnkcnagkjaaGreatZ35
set_option maxRecDepth 100000
open Go.Value renaming int -> Zz,slice -> Zy
open Go.IntKind renaming i64 -> Zx,u64 -> Zw,u32 -> Zv,u8 -> Zu
open List renaming setIfInBounds_toArray -> q0q, set_cons_succ -> q1q, set_cons_zero -> q2q, mem_cons -> q3q, not_mem_nil -> q4q, mem_append -> q7q, take_succ_cons -> q8q, take_zero -> q9q, drop_succ_cons -> q10q, drop_zero -> q11q, take_nil -> q12q, drop_nil -> q13q
set_option maxHeartbeats 8000000
set_option linter.unusedVariables false
set_option linter.unusedSimpArgs false
/- The walks of layer 16: next, Decode. -/
namespace Go.Pkt
open Go.Sec Go.RowKit Go.Oct
theorem lO {p:UInt8->Prop} (h:∀ k<256,p (UInt8.ofNat k)) (x:UInt8):p x:=by
 have:=h x.toNat x.toNat_lt
 rwa [UInt8.ofNat_toNat] at this
theorem DM (x:UInt8):bits .and .i64 (n8 x) 7=((x.toNat % 8:Nat):Int):=lO (p:=λ x=>bits .and .i64 (n8 x) 7=((x.toNat % 8:Nat):Int)) (by decide +kernel) x
theorem CY (x:UInt8):bits .and .i64 (n8 x / 8) 7=((x.toNat / 8 % 8:Nat):Int):=lO (p:=λ x=>bits .and .i64 (n8 x / 8) 7=((x.toNat / 8 % 8:Nat):Int)) (by decide +kernel) x
theorem C9 (x:UInt8):n8 x / 64=((x.toNat / 64:Nat):Int):=by unfold n8;omega
theorem Cz (x:UInt8):IntKind.i8.wrap (n8 x)=sgn x:=lO (p:=λ x=>IntKind.i8.wrap (n8 x)=sgn x) (by decide +kernel) x
theorem vi (x:UInt8):wrap64 (sgn x)=sgn x:=lO (p:=λ x=>wrap64 (sgn x)=sgn x) (by decide +kernel) x
@[go_sem] theorem Bo (x:UInt64):IntKind.u32.wrap (n64 x)=n32 x.toUInt32:=by
 unfold n32 n64;rw [IntKind.wrap_u32,UInt64.toNat_toUInt32];omega
@[go_sem] theorem Cm (x:UInt64):n64 x % 4294967296=n32 x.toUInt32:=by
 unfold n32 n64;rw [UInt64.toNat_toUInt32];omega
theorem CJ (b:E7)(o:Nat) (h:o<b.length):n64 (en b o 1)=n8 (b.getD o 0):=by
 have e:(b.drop o).take 1=[b.getD o 0]:=by
  rw [List.drop_eq_getElem_cons h,FF,List.getElem?_eq_getElem h];rfl
 unfold en;rw [e];unfold cR uA n64 n8;simp
end Go.Pkt
namespace Go.Proofs.P9
open Go.RowKit Go.Sec Go.Oct Go.Pkt BigFrame
theorem br {P:Program} {f:FuncId} {vs:Array Value} {w:World} {Q:Ending->World->Prop} (h:∀ W,W=w->Calls P f vs W Q):Calls P f vs w Q:=h w rfl
def iP (b:E7)(g o:Nat) (w:World):Prop:=∃ A C,b.length-o<=C/\Blk w g 169 [Zy A (b.length-o) C]/\Sl w A (b.length-o) (b.drop o)
theorem iP.mut {b:E7} {g o k:Nat} {w w':World} {t:TypeId} {vs:List Value} (h:iP b g o w) (hB:Blk w k t vs) (hne:∀ v∈vs,∀ x,v ≠ Zz Zu x) (hM:Mut k w w') (hk:g≠k):iP b g o w':=by
 obtain ⟨A,C,h1,h2,h3⟩:=h;exact ⟨A,C,h1,Blk.turn hM h2 hk,Sl.mut h3 hB hne hM⟩
theorem mu (g o k:Nat) {kI:Int} (hkI:kI=(k:Int)) (b:E7)(w:World)(hR:iP b g o w) (hk:o+k<=b.length) (h8:k<=8) :
  Calls Tryz.prog 111 #[.pointer (some ⟨g,0,none⟩), Zz Zx kI] w λ e w'=>e = .returned (Zz Zw (n64 (en b o k)))/\iP b g (o+k) w'/\Mut g w w':=by
 subst hkI;obtain ⟨A,C,h1,hB,hS⟩:=hR;have hN:k<=b.length-o:=Zo;have hSk:=hS.take k hN;have hSd:=hS.drop C k h1;rw [abd] at hSd;obtain ⟨N,hNe⟩:∃ N,b.length-o=N:=⟨_,rfl⟩;have hM2:b.length-(o+k)=N-k:=Zo;rw [hNe] at h1 hB hS hN hSd;have hg:=λ W H=>eE A k C ((b.drop o).take k) W H Zo h8;haveI:=hB.blt;have f0:=hB.cell? 0 rfl;have z0:=hB.free 0;have i0:(0:Int)<=(k:Int):=Zo;have i1:(k:Int)<=(N:Int):=Zo;have i2:(k:Int)<=(C:Int):=Zo
 go_enter Tryz.func111,Tryz.ntmps111
 go_wp2_with (first
  | (go_at_call 120;refine (hg _ (hSk.ext eX)).mono ?_;rintro e w1 ⟨rfl,hxq⟩;obtain ⟨xq,rfl⟩:=hxq.out;clear hxq)
  | fail)
 go_ret;have hx:Ext w (w.ext xq):=FE _ _;have hM:Mut g (w.ext xq) ((w.ext xq).setCell ⟨g,0,none⟩ (Zy (dX A C k 1) (N-k) (C-k))):=(Mut.refl _ _).setCell 0 _;refine ⟨rfl,⟨dX A C k 1,C-k,Zo,?_,?_⟩,(Mut.of_ext hx).trans hM⟩
 ·rw [hM2];exact (hB.extB hx).set 0 _
 ·rw [hM2];exact Sl.mut (hSd.ext hx) (hB.extB hx) Zs hM
def hdC (b:E7)(s p q:Value)(k j:Nat):List Value:=[Zz Zx (rdH b).leap, Zz Zx (rdH b).ver, Zz Zx (rdH b).mode,s,p,q] ++
 (([Zz Zv (n32 (rdH b).rd), Zz Zv (n32 (rdH b).rp), Zz Zv (n32 (rdH b).id)].take k++List.replicate (3-k) (Zz Zv 0))++([Zz Zw (n64 (rdH b).ref), Zz Zw (n64 (rdH b).org), Zz Zw (n64 (rdH b).rcv), Zz Zw (n64 (rdH b).tx)].take j++List.replicate (4-j) (Zz Zw 0)))
theorem jD (b:E7)(s p q:Int) (k j:Nat):∀ v∈hdC b (Zz Zx s) (Zz Zx p) (Zz Zx q) k j,∀ x,v ≠ Zz Zu x:=by
 intro v hv x e;subst e;unfold hdC at hv;simp only [q7q] at hv;rcases hv with hv|(hv|hv)|(hv|hv)
 ·simp at hv
 ·have:=aaN hv;simp at this
 ·have:=abB hv;injection this with h;cases h
 ·have:=aaN hv;simp at this
 ·have:=abB hv;injection this with h;cases h
def iE (r:(Hdr × E7) × Int) (w:World)(e:Ending) (w':World):Prop :=
 ∃ a c,e = .returned (.tuple #[.agg #[Zz Zx r.1.1.leap, Zz Zx r.1.1.ver, Zz Zx r.1.1.mode, Zz Zx r.1.1.strat, Zz Zx r.1.1.poll, Zz Zx r.1.1.prec, Zz Zv (n32 r.1.1.rd), Zz Zv (n32 r.1.1.rp), Zz Zv (n32 r.1.1.id), Zz Zw (n64 r.1.1.ref), Zz Zw (n64 r.1.1.org), Zz Zw (n64 r.1.1.rcv), Zz Zw (n64 r.1.1.tx)], Zy a r.1.2.length c, Zz Zx r.2])/\Sl w' a r.1.2.length r.1.2/\r.1.2.length<=c/\Ext w w'
theorem iE.err (w w':World)(e:Int) (hx:Ext w w'):iE ((gW,[]),e) w (.returned (.tuple #[.agg #[Zz Zx 0, Zz Zx 0, Zz Zx 0, Zz Zx 0, Zz Zx 0, Zz Zx 0, Zz Zv 0, Zz Zv 0, Zz Zv 0, Zz Zw 0, Zz Zw 0, Zz Zw 0, Zz Zw 0], Zy none 0 0, Zz Zx e])) w' :=
 ⟨none,0,rfl,Sl.nil _ _,aad _,hx⟩
theorem _root_.z37q0{p:Prop}(h:p:=by
 clear hR2 hH2 hE2;obtain ⟨k,hk,rfl,hR,hH,hE⟩:=hrel;obtain rfl|rfl|rfl|rfl:k=0\/k=1\/k=2\/k=3:=Zo
 ·simp only [Nat.reduceAdd,Nat.reduceMul,aan] at hR ⊢
  go_wp2_with (first
   | (refine aW 173 172 3 Tryz.underlying173 (.inr ⟨_,Tryz.underlying172⟩) Zk rfl _ _ rfl _ 0 _ rfl rfl Zo rfl ?_)
   | fail)
  (with_reducible refine (hn4 _ _ _ hR Zo).mono ?_);rintro e w5 ⟨rfl,hR5,hM⟩;have hH5:=Blk.turn hM hH Zo;have hE5:=E9 hE (hM.below Zo hE.size);haveI:=hH5.blt;have z:=hH5.free (6+0);have ff:=hH5.cell? (6+0) rfl;simp only [Nat.reduceAdd] at z ff;go_wp2_with fail;have hM6:=(Mut.refl w.heap.size w5).setCell (6+0) (Zz Zv (n32 (en b (4+4*0) 4).toUInt32));go_roundw
  case rel=>exact ⟨0+1,Zo,Zg,hR5.mut hH5 (jD _ _ _ _ _ _) hM6 Zo,hH5.set (6+0) _,E9 hE5 (hM6.below Zo hE5.size)⟩
  case measure=>simp [intOf]
 ·simp only [Nat.reduceAdd,Nat.reduceMul,aan] at hR ⊢
  go_wp2_with (first
   | (refine aW 173 172 3 Tryz.underlying173 (.inr ⟨_,Tryz.underlying172⟩) Zk rfl _ _ rfl _ 1 _ rfl rfl Zo rfl ?_)
   | fail)
  (with_reducible refine (hn4 _ _ _ hR Zo).mono ?_);rintro e w5 ⟨rfl,hR5,hM⟩;have hH5:=Blk.turn hM hH Zo;have hE5:=E9 hE (hM.below Zo hE.size);haveI:=hH5.blt;have z:=hH5.free (6+1);have ff:=hH5.cell? (6+1) rfl;simp only [Nat.reduceAdd] at z ff;go_wp2_with fail;have hM6:=(Mut.refl w.heap.size w5).setCell (6+1) (Zz Zv (n32 (en b (4+4*1) 4).toUInt32));go_roundw
  case rel=>exact ⟨1+1,Zo,Zg,hR5.mut hH5 (jD _ _ _ _ _ _) hM6 Zo,hH5.set (6+1) _,E9 hE5 (hM6.below Zo hE5.size)⟩
  case measure=>simp [intOf]
 ·simp only [Nat.reduceAdd,Nat.reduceMul,aan] at hR ⊢
  go_wp2_with (first
   | (refine aW 173 172 3 Tryz.underlying173 (.inr ⟨_,Tryz.underlying172⟩) Zk rfl _ _ rfl _ 2 _ rfl rfl Zo rfl ?_)
   | fail)
  (with_reducible refine (hn4 _ _ _ hR Zo).mono ?_);rintro e w5 ⟨rfl,hR5,hM⟩;have hH5:=Blk.turn hM hH Zo;have hE5:=E9 hE (hM.below Zo hE.size);haveI:=hH5.blt;have z:=hH5.free (6+2);have ff:=hH5.cell? (6+2) rfl;simp only [Nat.reduceAdd] at z ff;go_wp2_with fail;have hM6:=(Mut.refl w.heap.size w5).setCell (6+2) (Zz Zv (n32 (en b (4+4*2) 4).toUInt32));go_roundw
  case rel=>exact ⟨2+1,Zo,Zg,hR5.mut hH5 (jD _ _ _ _ _ _) hM6 Zo,hH5.set (6+2) _,E9 hE5 (hM6.below Zo hE5.size)⟩
  case measure=>simp [intOf]
 ·simp only [Nat.reduceAdd,Nat.reduceMul,aan] at hR ⊢;go_wp2_with fail
  go_loopw [11,78] (λ _ v78 wr=>∃ k:Nat,k<=4/\v78 = Zz Zx k/\iP b (w.heap.size+1) (16+8*k) wr/\Blk wr w.heap.size 64 (hdC b (Zz Zx (rdH b).strat) (Zz Zx (rdH b).poll) (Zz Zx (rdH b).prec) 3 k)/\Ext w wr) (λ _ v78 _=>4-(intOf v78).toNat)
  case atStart=>exact ⟨0,Zo,rfl,hR,hH,hE⟩
  case round =>
   clear hR hH hE;obtain ⟨k,hk,rfl,hR,hH,hE⟩:=hrel;obtain rfl|rfl|rfl|rfl|rfl:k=0\/k=1\/k=2\/k=3\/k=4:=Zo
   ·simp only [Nat.reduceAdd,Nat.reduceMul,aan] at hR ⊢
    go_wp2_with (first
     | (refine aW 175 174 4 Tryz.underlying175 (.inr ⟨_,Tryz.underlying174⟩) Zk rfl _ _ rfl _ 0 _ rfl rfl Zo rfl ?_)
     | fail)
    (with_reducible refine (hn8 _ _ _ hR Zo).mono ?_);rintro e w5 ⟨rfl,hR5,hM⟩;have hH5:=Blk.turn hM hH Zo;have hE5:=E9 hE (hM.below Zo hE.size);haveI:=hH5.blt;have z:=hH5.free (9+0);have ff:=hH5.cell? (9+0) rfl;simp only [Nat.reduceAdd] at z ff;go_wp2_with fail;have hM6:=(Mut.refl w.heap.size w5).setCell (9+0) (Zz Zw (n64 (en b (16+8*0) 8)));go_roundw
    case rel=>exact ⟨0+1,Zo,Zg,hR5.mut hH5 (jD _ _ _ _ _ _) hM6 Zo,hH5.set (9+0) _,E9 hE5 (hM6.below Zo hE5.size)⟩
    case measure=>simp [intOf]
   ·simp only [Nat.reduceAdd,Nat.reduceMul,aan] at hR ⊢
    go_wp2_with (first
     | (refine aW 175 174 4 Tryz.underlying175 (.inr ⟨_,Tryz.underlying174⟩) Zk rfl _ _ rfl _ 1 _ rfl rfl Zo rfl ?_)
     | fail)
    (with_reducible refine (hn8 _ _ _ hR Zo).mono ?_);rintro e w5 ⟨rfl,hR5,hM⟩;have hH5:=Blk.turn hM hH Zo;have hE5:=E9 hE (hM.below Zo hE.size);haveI:=hH5.blt;have z:=hH5.free (9+1);have ff:=hH5.cell? (9+1) rfl;simp only [Nat.reduceAdd] at z ff;go_wp2_with fail;have hM6:=(Mut.refl w.heap.size w5).setCell (9+1) (Zz Zw (n64 (en b (16+8*1) 8)));go_roundw
    case rel=>exact ⟨1+1,Zo,Zg,hR5.mut hH5 (jD _ _ _ _ _ _) hM6 Zo,hH5.set (9+1) _,E9 hE5 (hM6.below Zo hE5.size)⟩
    case measure=>simp [intOf]
   ·simp only [Nat.reduceAdd,Nat.reduceMul,aan] at hR ⊢
    go_wp2_with (first
     | (refine aW 175 174 4 Tryz.underlying175 (.inr ⟨_,Tryz.underlying174⟩) Zk rfl _ _ rfl _ 2 _ rfl rfl Zo rfl ?_)
     | fail)
    (with_reducible refine (hn8 _ _ _ hR Zo).mono ?_);rintro e w5 ⟨rfl,hR5,hM⟩;have hH5:=Blk.turn hM hH Zo;have hE5:=E9 hE (hM.below Zo hE.size);haveI:=hH5.blt;have z:=hH5.free (9+2);have ff:=hH5.cell? (9+2) rfl;simp only [Nat.reduceAdd] at z ff;go_wp2_with fail;have hM6:=(Mut.refl w.heap.size w5).setCell (9+2) (Zz Zw (n64 (en b (16+8*2) 8)));go_roundw
    case rel=>exact ⟨2+1,Zo,Zg,hR5.mut hH5 (jD _ _ _ _ _ _) hM6 Zo,hH5.set (9+2) _,E9 hE5 (hM6.below Zo hE5.size)⟩
    case measure=>simp [intOf]
   ·simp only [Nat.reduceAdd,Nat.reduceMul,aan] at hR ⊢
    go_wp2_with (first
     | (refine aW 175 174 4 Tryz.underlying175 (.inr ⟨_,Tryz.underlying174⟩) Zk rfl _ _ rfl _ 3 _ rfl rfl Zo rfl ?_)
     | fail)
    (with_reducible refine (hn8 _ _ _ hR Zo).mono ?_);rintro e w5 ⟨rfl,hR5,hM⟩;have hH5:=Blk.turn hM hH Zo;have hE5:=E9 hE (hM.below Zo hE.size);haveI:=hH5.blt;have z:=hH5.free (9+3);have ff:=hH5.cell? (9+3) rfl;simp only [Nat.reduceAdd] at z ff;go_wp2_with fail;have hM6:=(Mut.refl w.heap.size w5).setCell (9+3) (Zz Zw (n64 (en b (16+8*3) 8)));go_roundw
    case rel=>exact ⟨3+1,Zo,Zg,hR5.mut hH5 (jD _ _ _ _ _ _) hM6 Zo,hH5.set (9+3) _,E9 hE5 (hM6.below Zo hE5.size)⟩
    case measure=>simp [intOf]
   ·simp only [Nat.reduceAdd,Nat.reduceMul,aan] at hR ⊢;obtain ⟨A,C,g1,hB,hS⟩:=hR;have hH:Blk wr w.heap.size 64 [Zz Zx (rdH b).leap, Zz Zx (rdH b).ver, Zz Zx (rdH b).mode, Zz Zx (rdH b).strat, Zz Zx (rdH b).poll, Zz Zx (rdH b).prec, Zz Zv (n32 (rdH b).rd), Zz Zv (n32 (rdH b).rp), Zz Zv (n32 (rdH b).id), Zz Zw (n64 (rdH b).ref), Zz Zw (n64 (rdH b).org), Zz Zw (n64 (rdH b).rcv), Zz Zw (n64 (rdH b).tx)]:=hH;obtain ⟨N,hN⟩:∃ N,b.length-48=N:=⟨_,rfl⟩;rw [hN] at g1 hB hS;have hdl:(b.drop 48).length=N:=by rw [aaJ,hN]
    haveI:=hB.blt;have fR:=hB.cell? 0 rfl;go_wp2_with fail;refine R2.ae 3 [[],[],[1],[0,1,2],[0,1,2,3],[0,1,2,3,4]] [] (λ h=>(h rfl).elim) Zk Zk Zk Zk Zk ?_;simp only [q8q,q9q,q10q,q11q,q12q,q13q];(refine R2.ao aJ _ rfl (λ _=>rfl) w.heap.size 0 (λ _=>by simp [go_sem]) ([Zz Zx (rdH b).leap, Zz Zx (rdH b).ver, Zz Zx (rdH b).mode, Zz Zx (rdH b).strat, Zz Zx (rdH b).poll, Zz Zx (rdH b).prec, Zz Zv (n32 (rdH b).rd), Zz Zv (n32 (rdH b).rp), Zz Zv (n32 (rdH b).id), Zz Zw (n64 (rdH b).ref), Zz Zw (n64 (rdH b).org), Zz Zw (n64 (rdH b).rcv), Zz Zw (n64 (rdH b).tx)]) hH.rd rfl ?_);(repeat (refine R2.av ?_;(try simp only [Act.put,q0q,q1q,q2q])));(refine R2.ai (λ p => .slice (p 0).1 N (p 0).2) (λ p w''=>Own w'' 0 (p 0).1 N (p 0).2 (b.drop 48)) (λ p w w' h hx=>h.ext hx) (λ us w' hx hf=>⟨rfl,?_⟩) ?_;(unfold gives;simp [go_sem,execOp];exact az (aak _) (ei A N C (b.drop 48) _ (hS.ext hx) Zo)));(refine R2.aU ?_;intro us x hx hf);obtain ⟨a5,ha5⟩:∃ a,(us 2 0).1=a:=⟨_,rfl⟩;obtain ⟨c5,hc5⟩:∃ a,(us 2 0).2=a:=⟨_,rfl⟩;have hO:=hf;rw [ha5,hc5] at hO ⊢;clear ha5 hc5 hf fR;have hxx:Ext wr (wr.ext x):=FE _ _;have hHx:=hH.extB hxx;have hEx:=hE.trans hxx
    go_wp2_with (first
     | (refine aa aJ rfl _ _ rfl w.heap.size 0 rfl ([Zz Zx (rdH b).leap, Zz Zx (rdH b).ver, Zz Zx (rdH b).mode, Zz Zx (rdH b).strat, Zz Zx (rdH b).poll, Zz Zx (rdH b).prec, Zz Zv (n32 (rdH b).rd), Zz Zv (n32 (rdH b).rp), Zz Zv (n32 (rdH b).id), Zz Zw (n64 (rdH b).ref), Zz Zw (n64 (rdH b).org), Zz Zw (n64 (rdH b).rcv), Zz Zw (n64 (rdH b).tx)]) rfl 64 _ hHx rfl Zs oC ?_;intro V hV hMV)
     | fail)
    refine aaa (aD Tryz.results76 aJ _ _ w.heap.size 0 ([Zz Zx (rdH b).leap, Zz Zx (rdH b).ver, Zz Zx (rdH b).mode, Zz Zx (rdH b).strat, Zz Zx (rdH b).poll, Zz Zx (rdH b).prec, Zz Zv (n32 (rdH b).rd), Zz Zv (n32 (rdH b).rp), Zz Zv (n32 (rdH b).id), Zz Zw (n64 (rdH b).ref), Zz Zw (n64 (rdH b).org), Zz Zw (n64 (rdH b).rcv), Zz Zw (n64 (rdH b).tx)]) rfl hV.rd rfl (Zy a5 N c5) (Zz Zx 0) rfl rfl) rfl ?_;have hOV:=Sl.mut (vs:=hdC b (Zz Zx (rdH b).strat) (Zz Zx (rdH b).poll) (Zz Zx (rdH b).prec) 3 4) hO.sl hHx (jD _ _ _ _ _ _) hMV;rw [er];exact ⟨a5,c5,by rw [hdl],by rw [hdl];exact hOV,by rw [hdl];exact hO.le.1,E9 hEx (hMV.below Zo hEx.size)⟩):p:=h
theorem s7 (a:E8)(n c:Nat) (b:E7)(w:World)(hS:Sl w a n b) (hc:n<=c) (hn:n<=1000000) :
  Calls Tryz.prog 76 #[Zy a n c] w (iE (bH b) w):=by
 have hl:=hS.len;by_cases h1:n<48
 ·have er:bH b=((gW,[]),1):=aaj Zo;rw [er];have i1:(n:Int)<48:=Zo;clear hl
  go_enter Tryz.func76,Tryz.ntmps76
  go_wp2_with (first
   | (refine aa aJ rfl _ _ rfl w.heap.size 0 rfl ([Zz Zx 0, Zz Zx 0, Zz Zx 0, Zz Zx 0, Zz Zx 0, Zz Zx 0, Zz Zv 0, Zz Zv 0, Zz Zv 0, Zz Zw 0, Zz Zw 0, Zz Zw 0, Zz Zw 0]) rfl 64 _ bK rfl Zs (by first|exact aH _|(simp;done)|(simp;(repeat' (first|rfl|constructor)))) ?_;intro V hV hMV)
   | fail)
  refine aaa (aD Tryz.results76 aJ _ _ w.heap.size 0 ([Zz Zx 0, Zz Zx 0, Zz Zx 0, Zz Zx 0, Zz Zx 0, Zz Zx 0, Zz Zv 0, Zz Zv 0, Zz Zv 0, Zz Zw 0, Zz Zw 0, Zz Zw 0, Zz Zw 0]) rfl hV.rd rfl (Zy none 0 0) (Zz Zx 1) rfl rfl) rfl ?_;exact iE.err _ _ _ (E9 (b:=w.alloc _) eX (hMV.below Zo Zs))
 ·have i1:¬ (n:Int)<48:=by omega
  by_cases h2:1280<n
  ·have er:bH b=((gW,[]),2):=by unfold bH;rw [aae Zo,aaj Zo]
   rw [er];have i2:(1280:Int)<(n:Int):=Zo;clear hl
   go_enter Tryz.func76,Tryz.ntmps76
   go_wp2_with (first
    | (refine aa aJ rfl _ _ rfl w.heap.size 0 rfl ([Zz Zx 0, Zz Zx 0, Zz Zx 0, Zz Zx 0, Zz Zx 0, Zz Zx 0, Zz Zv 0, Zz Zv 0, Zz Zv 0, Zz Zw 0, Zz Zw 0, Zz Zw 0, Zz Zw 0]) rfl 64 _ bK rfl Zs (by first|exact aH _|(simp;done)|(simp;(repeat' (first|rfl|constructor)))) ?_;intro V hV hMV)
    | fail)
   refine aaa (aD Tryz.results76 aJ _ _ w.heap.size 0 ([Zz Zx 0, Zz Zx 0, Zz Zx 0, Zz Zx 0, Zz Zx 0, Zz Zx 0, Zz Zv 0, Zz Zv 0, Zz Zv 0, Zz Zw 0, Zz Zw 0, Zz Zw 0, Zz Zw 0]) rfl hV.rd rfl (Zy none 0 0) (Zz Zx 2) rfl rfl) rfl ?_;exact iE.err _ _ _ (E9 (b:=w.alloc _) eX (hMV.below Zo Zs))
  ·have i2:¬ (1280:Int)<(n:Int):=by omega
   obtain ⟨r,hr⟩:∃ r,bH b=r:=⟨_,rfl⟩;have hr1:(rdH b).ver=4\/(rdH b).ver=3->r=((rdH b,b.drop 48),0):=λ h=>by rw [<- hr];unfold bH;rw [aae Zo,aae Zo,aaj h]
   have hr2:¬ ((rdH b).ver=4\/(rdH b).ver=3)->r=((gW,[]),3):=λ h=>by rw [<- hr];unfold bH;rw [aae Zo,aae Zo,aae h]
   rw [hr];clear hr;obtain ⟨f,hf⟩:∃ f:Nat->UInt8,∀ o,b.getD o 0=f o:=⟨_,λ _=>rfl⟩;have hn1:∀ g o W,iP b g o W->o<b.length->Calls Tryz.prog 111 #[.pointer (some ⟨g,0,none⟩), Zz Zx 1] W λ e w'=>e = .returned (Zz Zw (n8 (f o)))/\iP b g (o+1) w'/\Mut g W w':=λ g o W H h=>by
    have:=mu g o 1 (show (1:Int)=((1:Nat):Int) from rfl) b W H h Zo
    rwa [CJ b o h,hf] at this
   have hn4:=λ g o W (H:iP b g o W) (h:o+4<=b.length)=>mu g o 4 (show (4:Int)=((4:Nat):Int) from rfl) b W H h Zo;have hn8:=λ g o W (H:iP b g o W) (h:o+8<=b.length)=>mu g o 8 (show (8:Int)=((8:Nat):Int) from rfl) b W H h Zo
   go_enter Tryz.func76,Tryz.ntmps76
   go_wp2_with fail;refine br ?_;intro W hW;have hE:Ext w W:=by rw [hW];exact eX
   have hH:Blk W w.heap.size 64 [Zz Zx 0, Zz Zx 0, Zz Zx 0, Zz Zx 0, Zz Zx 0, Zz Zx 0, Zz Zv 0, Zz Zv 0, Zz Zv 0, Zz Zw 0, Zz Zw 0, Zz Zw 0, Zz Zw 0]:=by rw [hW];exact bK
   have hR:iP b (w.heap.size+1) 0 W:=⟨a,c,Zo,by rw [hW,hl];exact bK,by rw [hl];exact hS.ext hE⟩;clear hW;have e1:n8 (f 0) / 64=(rdH b).leap:=by rw [<- hf];exact C9 _
   have e2:bits .and .i64 (n8 (f 0) / 8) 7=(rdH b).ver:=by rw [<- hf];exact CY _
   have e3:bits .and .i64 (n8 (f 0)) 7=(rdH b).mode:=by rw [<- hf];exact DM _
   have e4:=FC (show n8 (f 1)=(rdH b).strat by rw [<- hf];rfl);have e5:=Cz (f 2);have e6:=Cz (f 3);have e7:wrap64 (sgn (f 2))=(rdH b).poll:=by rw [<- hf];exact vi _
   have e8:wrap64 (sgn (f 3))=(rdH b).prec:=by rw [<- hf];exact vi _
   clear hf;(with_reducible refine (hn1 _ _ _ hR Zo).mono ?_);rintro e w1 ⟨rfl,hR,hM⟩;have hR:iP b (w.heap.size+1) 1 w1:=hR;have hH:=Blk.turn hM hH Zo;have hE:=E9 hE (hM.below Zo hE.size);clear hM;haveI:=hH.blt;have z0:=hH.free 0;have z1:=hH.free 1;have z2:=hH.free 2;have f0:=hH.cell? 0 rfl;have f1:=hH.cell? 1 rfl;have f2:=hH.cell? 2 rfl;by_cases v4:(rdH b).ver=4
   ·have q4:((rdH b).ver != 4)=false:=by rw [v4];rfl
    have er:=hr1 (.inl v4);clear v4 hr1 hr2;go_wp2_with fail;clear z0 z1 z2 f0 f1 f2;refine br ?_;intro W1 hW1;have hH1:Blk W1 w.heap.size 64 [Zz Zx (rdH b).leap, Zz Zx (rdH b).ver, Zz Zx (rdH b).mode, Zz Zx 0, Zz Zx 0, Zz Zx 0, Zz Zv 0, Zz Zv 0, Zz Zv 0, Zz Zw 0, Zz Zw 0, Zz Zw 0, Zz Zw 0]:=by rw [hW1];exact ((hH.set 0 _).set 1 _).set 2 _
    have hM1:Mut w.heap.size w1 W1:=by rw [hW1];exact (by repeat (with_reducible first|exact Mut.refl _ _|assumption|apply Mut.ext|apply Mut.drew|apply Mut.alloc|apply Mut.setCell))
    have hR1:=hR.mut hH Zs hM1 Zo;have hE1:=E9 hE (hM1.below Zo hE.size);clear hW1 hM1 hR hE hH;(with_reducible refine (hn1 _ _ _ hR1 Zo).mono ?_);rintro e w2 ⟨rfl,hR,hM⟩;have hR:iP b (w.heap.size+1) 2 w2:=hR;have hH:=Blk.turn hM hH1 Zo;have hE:=E9 hE1 (hM.below Zo hE1.size);clear hM hR1 hH1 hE1;go_wp2_with fail;(with_reducible refine (hn1 _ _ _ hR Zo).mono ?_);rintro e w3 ⟨rfl,hR3,hM⟩;have hR3:iP b (w.heap.size+1) 3 w3:=hR3;have hH3:=Blk.turn hM hH Zo;have hE3:=E9 hE (hM.below Zo hE.size);clear hM hR hH hE;go_wp2_with fail;(with_reducible refine (hn1 _ _ _ hR3 Zo).mono ?_);rintro e w4 ⟨rfl,hR,hM⟩;have hR:iP b (w.heap.size+1) 4 w4:=hR;have hH:=Blk.turn hM hH3 Zo;have hE:=E9 hE3 (hM.below Zo hE3.size);clear hM hR3 hH3 hE3;haveI:=hH.blt;have z3:=hH.free 3;have z4:=hH.free 4;have z5:=hH.free 5;have f3:=hH.cell? 3 rfl;have f4:=hH.cell? 4 rfl;have f5:=hH.cell? 5 rfl;go_wp2_with fail;clear z3 z4 z5 f3 f4 f5;refine cU ?_;intro W2 hW2;have hH2:Blk W2 w.heap.size 64 (hdC b (Zz Zx (rdH b).strat) (Zz Zx (rdH b).poll) (Zz Zx (rdH b).prec) 0 0):=by rw [hW2,<- e4.out];exact ((hH.set 3 _).set 4 _).set 5 _
    have hM2:Mut w.heap.size w4 W2:=by rw [hW2];exact (by repeat (with_reducible first|exact Mut.refl _ _|assumption|apply Mut.ext|apply Mut.drew|apply Mut.alloc|apply Mut.setCell))
    have hR2:=hR.mut hH Zs hM2 Zo;have hE2:=E9 hE (hM2.below Zo hE.size);clear hW2 hM2 hR hE hH hn1 e1 e2 e3 e4 e5 e6 e7 e8
    go_loopw [9,64] (λ _ v64 wr=>∃ k:Nat,k<=3/\v64 = Zz Zx k/\iP b (w.heap.size+1) (4+4*k) wr/\Blk wr w.heap.size 64 (hdC b (Zz Zx (rdH b).strat) (Zz Zx (rdH b).poll) (Zz Zx (rdH b).prec) k 0)/\Ext w wr) (λ _ v64 _=>3-(intOf v64).toNat)
    case atStart=>exact ⟨0,Zo,rfl,hR2,hH2,hE2⟩
    case round =>
     exact z37q0
   ·have q4:((rdH b).ver != 4)=true:=by rw [aao];exact v4
    by_cases v3:(rdH b).ver=3
    ·have q3:((rdH b).ver != 3)=false:=by rw [v3];rfl
     have er:=hr1 (.inr v3);clear v3 v4 hr1 hr2;go_wp2_with fail;clear z0 z1 z2 f0 f1 f2;refine br ?_;intro W1 hW1;have hH1:Blk W1 w.heap.size 64 [Zz Zx (rdH b).leap, Zz Zx (rdH b).ver, Zz Zx (rdH b).mode, Zz Zx 0, Zz Zx 0, Zz Zx 0, Zz Zv 0, Zz Zv 0, Zz Zv 0, Zz Zw 0, Zz Zw 0, Zz Zw 0, Zz Zw 0]:=by rw [hW1];exact ((hH.set 0 _).set 1 _).set 2 _
     have hM1:Mut w.heap.size w1 W1:=by rw [hW1];exact (by repeat (with_reducible first|exact Mut.refl _ _|assumption|apply Mut.ext|apply Mut.drew|apply Mut.alloc|apply Mut.setCell))
     have hR1:=hR.mut hH Zs hM1 Zo;have hE1:=E9 hE (hM1.below Zo hE.size);clear hW1 hM1 hR hE hH;(with_reducible refine (hn1 _ _ _ hR1 Zo).mono ?_);rintro e w2 ⟨rfl,hR,hM⟩;have hR:iP b (w.heap.size+1) 2 w2:=hR;have hH:=Blk.turn hM hH1 Zo;have hE:=E9 hE1 (hM.below Zo hE1.size);clear hM hR1 hH1 hE1;go_wp2_with fail;(with_reducible refine (hn1 _ _ _ hR Zo).mono ?_);rintro e w3 ⟨rfl,hR3,hM⟩;have hR3:iP b (w.heap.size+1) 3 w3:=hR3;have hH3:=Blk.turn hM hH Zo;have hE3:=E9 hE (hM.below Zo hE.size);clear hM hR hH hE;go_wp2_with fail;(with_reducible refine (hn1 _ _ _ hR3 Zo).mono ?_);rintro e w4 ⟨rfl,hR,hM⟩;have hR:iP b (w.heap.size+1) 4 w4:=hR;have hH:=Blk.turn hM hH3 Zo;have hE:=E9 hE3 (hM.below Zo hE3.size);clear hM hR3 hH3 hE3;haveI:=hH.blt;have z3:=hH.free 3;have z4:=hH.free 4;have z5:=hH.free 5;have f3:=hH.cell? 3 rfl;have f4:=hH.cell? 4 rfl;have f5:=hH.cell? 5 rfl;go_wp2_with fail;clear z3 z4 z5 f3 f4 f5;refine cU ?_;intro W2 hW2;have hH2:Blk W2 w.heap.size 64 (hdC b (Zz Zx (rdH b).strat) (Zz Zx (rdH b).poll) (Zz Zx (rdH b).prec) 0 0):=by rw [hW2,<- e4.out];exact ((hH.set 3 _).set 4 _).set 5 _
     have hM2:Mut w.heap.size w4 W2:=by rw [hW2];exact (by repeat (with_reducible first|exact Mut.refl _ _|assumption|apply Mut.ext|apply Mut.drew|apply Mut.alloc|apply Mut.setCell))
     have hR2:=hR.mut hH Zs hM2 Zo;have hE2:=E9 hE (hM2.below Zo hE.size);clear hW2 hM2 hR hE hH hn1 e1 e2 e3 e4 e5 e6 e7 e8
     go_loopw [9,64] (λ _ v64 wr=>∃ k:Nat,k<=3/\v64 = Zz Zx k/\iP b (w.heap.size+1) (4+4*k) wr/\Blk wr w.heap.size 64 (hdC b (Zz Zx (rdH b).strat) (Zz Zx (rdH b).poll) (Zz Zx (rdH b).prec) k 0)/\Ext w wr) (λ _ v64 _=>3-(intOf v64).toNat)
     case atStart=>exact ⟨0,Zo,rfl,hR2,hH2,hE2⟩
     case round =>
      exact z37q0
    ·have q3:((rdH b).ver != 3)=true:=by rw [aao];exact v3
     have er:=hr2 (λ h=>h.elim v4 v3);clear v3 v4 hr1 hr2
     go_wp2_with (first
      | (refine aa aJ rfl _ _ rfl w.heap.size 0 rfl ([Zz Zx 0, Zz Zx 0, Zz Zx 0, Zz Zx 0, Zz Zx 0, Zz Zx 0, Zz Zv 0, Zz Zv 0, Zz Zv 0, Zz Zw 0, Zz Zw 0, Zz Zw 0, Zz Zw 0]) rfl 64 _ ((((hH.set 0 (Zz Zx (rdH b).leap)).set 1 (Zz Zx (rdH b).ver)).set 2 (Zz Zx (rdH b).mode))) rfl Zs (by first|exact aH _|(simp;done)|(simp;(repeat' (first|rfl|constructor)))) ?_;intro V hV hMV)
      | fail)
     refine aaa (aD Tryz.results76 aJ _ _ w.heap.size 0 ([Zz Zx 0, Zz Zx 0, Zz Zx 0, Zz Zx 0, Zz Zx 0, Zz Zx 0, Zz Zv 0, Zz Zv 0, Zz Zv 0, Zz Zw 0, Zz Zw 0, Zz Zw 0, Zz Zw 0]) rfl hV.rd rfl (Zy none 0 0) (Zz Zx 3) rfl rfl) rfl ?_;rw [er];have hM3:Mut w.heap.size w1 (((w1.setCell ⟨w.heap.size,0,none⟩ (Zz Zx (rdH b).leap)).setCell ⟨w.heap.size,1,none⟩ (Zz Zx (rdH b).ver)).setCell ⟨w.heap.size,2,none⟩ (Zz Zx (rdH b).mode)):=(by repeat (with_reducible first|exact Mut.refl _ _|assumption|apply Mut.ext|apply Mut.drew|apply Mut.alloc|apply Mut.setCell));exact iE.err _ _ _ (E9 hE ((hM3.trans hMV).below Zo hE.size))
end Go.Proofs.P9

/- The walks of layer 16 of the document: Valid, Encode, signed, Reply. -/
namespace Go.Sec
open Go.RowKit
theorem DU {w:World} {a1 a2 a3 a4 a5 a6 a7 a8:E8} {n1 n2 n3 n4 n5 n6 n7 n8 c1 c2 c3 c4 c5 c6 c7 c8:Nat} {l1 l2 l3 l4 l5 l6 l7 l8:E7} (h1:Sl w a1 n1 l1) (h2:Sl w a2 n2 l2) (h3:Sl w a3 n3 l3) (h4:Sl w a4 n4 l4) (h5:Sl w a5 n5 l5) (h6:Sl w a6 n6 l6) (h7:Sl w a7 n7 l7) (h8:Sl w a8 n8 l8) (t:TypeId) :
  Bss (w.alloc (.cells #[Zy a1 n1 c1, Zy a2 n2 c2, Zy a3 n3 c3, Zy a4 n4 c4, Zy a5 n5 c5, Zy a6 n6 c6, Zy a7 n7 c7, Zy a8 n8 c8] t)) (some ⟨w.heap.size,0,none⟩) 8 [l1,l2,l3,l4,l5,l6,l7,l8]:=by
 have hx:=FA w (.cells #[Zy a1 n1 c1, Zy a2 n2 c2, Zy a3 n3 c3, Zy a4 n4 c4, Zy a5 n5 c5, Zy a6 n6 c6, Zy a7 n7 c7, Zy a8 n8 c8] t);refine ⟨rfl, .inr ⟨_,0,rfl,Zs,λ k hk=>?_⟩⟩
 match k,hk with
 | 0,_=>exact ⟨a1,n1,c1,by simp [go_sem],h1.ext hx⟩
 | 1,_=>exact ⟨a2,n2,c2,by simp [go_sem],h2.ext hx⟩
 | 2,_=>exact ⟨a3,n3,c3,by simp [go_sem],h3.ext hx⟩
 | 3,_=>exact ⟨a4,n4,c4,by simp [go_sem],h4.ext hx⟩
 | 4,_=>exact ⟨a5,n5,c5,by simp [go_sem],h5.ext hx⟩
 | 5,_=>exact ⟨a6,n6,c6,by simp [go_sem],h6.ext hx⟩
 | 6,_=>exact ⟨a7,n7,c7,by simp [go_sem],h7.ext hx⟩
 | 7,_=>exact ⟨a8,n8,c8,by simp [go_sem],h8.ext hx⟩
end Go.Sec
namespace Go.Proofs.P9
open Go.RowKit Go.Sec Go.Oct Go.Pkt BigFrame
theorem _root_.z37q50{p:Prop}(h:p:=by
 have e:=FC (hno (λ k=>by unfold okH at k;omega));clear hok hno
 go_enter Tryz.func72,Tryz.ntmps72
 go_wp2_with fail;go_ret;exact ⟨by rw [e.out];rfl,eX⟩):p:=h
theorem mQ (h:Hdr) (w:World) :
  Calls Tryz.prog 72 #[.agg #[Zz Zx h.leap, Zz Zx h.ver, Zz Zx h.mode, Zz Zx h.strat, Zz Zx h.poll, Zz Zx h.prec, Zz Zv (n32 h.rd), Zz Zv (n32 h.rp), Zz Zv (n32 h.id), Zz Zw (n64 h.ref), Zz Zw (n64 h.org), Zz Zw (n64 h.rcv), Zz Zw (n64 h.tx)]] w λ e w'=>e = .returned (Zz Zx (cH h).2)/\Ext w w':=by
 obtain ⟨r,hr⟩:∃ r,(cH h).2=r:=⟨_,rfl⟩;rw [hr];have hok:okH h->r=0:=λ k=>by rw [<- hr];unfold cH;rw [aaj k]
 have hno:¬ okH h->r=4:=λ k=>by rw [<- hr];unfold cH;rw [aae k]
 clear hr;by_cases c1:h.leap<0
 ·exact z37q50
 by_cases c2:3<h.leap
 ·exact z37q50
 by_cases v3:h.ver=3
 ·have i3:(h.ver != 3)=false:=by rw [aaf];exact v3
  by_cases c5:h.mode<0
  ·exact z37q50
  by_cases c6:7<h.mode
  ·exact z37q50
  by_cases c7:h.strat<0
  ·exact z37q50
  by_cases c8:255<h.strat
  ·exact z37q50
  by_cases c9:h.poll < -128
  ·exact z37q50
  by_cases c10:127<h.poll
  ·exact z37q50
  by_cases c11:h.prec < -128
  ·exact z37q50
  by_cases c12:127<h.prec
  ·exact z37q50
  have e:=FC (hok (by unfold okH;omega));clear hok hno
  go_enter Tryz.func72,Tryz.ntmps72
  go_wp2_with fail;go_ret;exact ⟨by rw [e.out];rfl,eX⟩
 ·have i3:(h.ver != 3)=true:=by rw [aao];exact v3
  by_cases v4:h.ver=4
  ·have i4:(h.ver != 4)=false:=by rw [aaf];exact v4
   by_cases c5:h.mode<0
   ·exact z37q50
   by_cases c6:7<h.mode
   ·exact z37q50
   by_cases c7:h.strat<0
   ·exact z37q50
   by_cases c8:255<h.strat
   ·exact z37q50
   by_cases c9:h.poll < -128
   ·exact z37q50
   by_cases c10:127<h.poll
   ·exact z37q50
   by_cases c11:h.prec < -128
   ·exact z37q50
   by_cases c12:127<h.prec
   ·exact z37q50
   have e:=FC (hok (by unfold okH;omega));clear hok hno
   go_enter Tryz.func72,Tryz.ntmps72
   go_wp2_with fail;go_ret;exact ⟨by rw [e.out];rfl,eX⟩
  ·have i4:(h.ver != 4)=true:=by rw [aao];exact v4
   have e:=FC (hno (λ k=>by unfold okH at k;omega));clear hok hno
   go_enter Tryz.func72,Tryz.ntmps72
   go_wp2_with fail;go_ret;exact ⟨by rw [e.out];rfl,eX⟩
theorem Bu {h:Hdr} (hk:okH h):IntKind.u8.wrap (bits .or .i64 (bits .or .i64 (IntKind.i64.wrap (h.leap*64)) (IntKind.i64.wrap (h.ver*8))) h.mode)=n8 (b8 (h.leap*64+h.ver*8+h.mode)):=by
 have D:∀ a∈[(0:Int),1,2,3],∀ b∈[(3:Int),4],∀ c∈[(0:Int),1,2,3,4,5,6,7],IntKind.u8.wrap (bits .or .i64 (bits .or .i64 (IntKind.i64.wrap (a*64)) (IntKind.i64.wrap (b*8))) c)=n8 (b8 (a*64+b*8+c)):=by decide +kernel
 exact z27q48
theorem oO (x:Int):IntKind.u8.wrap x=n8 (b8 x):=(abb _).trans (lA _).symm
theorem xH (w:World)(t:TypeId)(fr:Nat × Nat) (a b c d:UInt8):Sl (w.alloc (.cells #[Zz Zu (n8 a), Zz Zu (n8 b), Zz Zu (n8 c), Zz Zu (n8 d)] t fr)) (some ⟨w.heap.size,0,none⟩) 4 [a,b,c,d]:=⟨rfl,iK w #[Zz Zu (n8 a), Zz Zu (n8 b), Zz Zu (n8 c), Zz Zu (n8 d)] t fr⟩
theorem jf (h:Hdr) (w:World) :
  Calls Tryz.prog 32 #[.agg #[Zz Zx h.leap, Zz Zx h.ver, Zz Zx h.mode, Zz Zx h.strat, Zz Zx h.poll, Zz Zx h.prec, Zz Zv (n32 h.rd), Zz Zv (n32 h.rp), Zz Zv (n32 h.id), Zz Zw (n64 h.ref), Zz Zw (n64 h.org), Zz Zw (n64 h.rcv), Zz Zw (n64 h.tx)]] w (bD (cH h).1.length (cH h).1 (Zz Zx (cH h).2) w):=by
 have hv:=λ W=>mQ h W;have hp4:∀ (x:UInt64) W,Calls Tryz.prog 56 #[Zz Zw (n64 x), Zz Zx 4] W (bZ 4 (aF 4 x) W):=λ x W=>km x 4 W Zo;have hp8:∀ (x:UInt64) W,Calls Tryz.prog 56 #[Zz Zw (n64 x), Zz Zx 8] W (bZ 8 (aF 8 x) W):=λ x W=>km x 8 W Zo;by_cases hk:okH h
 ·have er:cH h=(dg h,0):=aaj hk;rw [er] at hv ⊢;have hl:=dB h;show Calls _ _ _ _ (bD (dg h).length _ _ _);rw [hl];have hJ:aV [iW h,aF 4 h.rd.toUInt64,aF 4 h.rp.toUInt64,aF 4 h.id.toUInt64,aF 8 h.ref,aF 8 h.org,aF 8 h.rcv,aF 8 h.tx]=dg h:=by simp [aV,dg,pA]
  have hJl:=hJ ▸ hl;replace hJ:=FC hJ;have g0:=Bu hk;have g1:=oO h.strat;have g2:=oO h.poll;have g3:=oO h.prec
  go_enter Tryz.func32,Tryz.ntmps32
  go_wp2_with (first
   | (refine af aJ rfl _ rfl w.heap.size 0 rfl _ ((Blk.new w #[Zz Zx h.leap, Zz Zx h.ver, Zz Zx h.mode, Zz Zx h.strat, Zz Zx h.poll, Zz Zx h.prec, Zz Zv (n32 h.rd), Zz Zv (n32 h.rp), Zz Zv (n32 h.id), Zz Zw (n64 h.ref), Zz Zw (n64 h.org), Zz Zw (n64 h.rcv), Zz Zw (n64 h.tx)] 64).rd) rfl ?_)
   | (go_at_call 72;refine (hv _).mono ?_;rintro e w1 ⟨rfl,hxq⟩;obtain ⟨xq,rfl⟩:=hxq.out;clear hxq)
   | fail)
  refine cU ?_;intro W hW;have hE:Ext w W:=by rw [hW];exact eX
  have hB:Blk W w.heap.size 64 [Zz Zx h.leap, Zz Zx h.ver, Zz Zx h.mode, Zz Zx h.strat, Zz Zx h.poll, Zz Zx h.prec, Zz Zv (n32 h.rd), Zz Zv (n32 h.rp), Zz Zv (n32 h.id), Zz Zw (n64 h.ref), Zz Zw (n64 h.org), Zz Zw (n64 h.rcv), Zz Zw (n64 h.tx)]:=by rw [hW];exact bK
  clear hW hv er hk;haveI:=hB.blt;have f0:=hB.cell? 0 rfl;have f1:=hB.cell? 1 rfl;have f2:=hB.cell? 2 rfl;have f3:=hB.cell? 3 rfl;have f4:=hB.cell? 4 rfl;have f5:=hB.cell? 5 rfl;have f6:=hB.cell? 6 rfl;have f7:=hB.cell? 7 rfl;have f8:=hB.cell? 8 rfl;have f9:=hB.cell? 9 rfl;have f10:=hB.cell? 10 rfl;have f11:=hB.cell? 11 rfl;have f12:=hB.cell? 12 rfl;refine R2.ae 45 [[],[0],[0,1],[],[3],[3,4],[0,1,2,3,4,5],[],[7],[0,1,2,3,4,5,6,7,8],[0,1,2,3,4,5,6,7,8,9],[],[11],[11,12],[],[14],[14,15],[],[17],[17,18],[0,1,2,3,4,5,6,7,8,9,10,11,12,13,14,15,16,17,18,19],[],[21],[21,22],[21,22,23],[],[25],[25,26],[21,22,23,24,25,26,27],[],[29],[29,30],[21,22,23,24,25,26,27,28,29,30,31],[],[33],[21,22,23,24,25,26,27,28,29,30,31,32,33,34],[],[36],[21,22,23,24,25,26,27,28,29,30,31,32,33,34,35,36,37],[],[39],[21,22,23,24,25,26,27,28,29,30,31,32,33,34,35,36,37,38,39,40],[],[42],[21,22,23,24,25,26,27,28,29,30,31,32,33,34,35,36,37,38,39,40,41,42,43],[0,1,2,3,4,5,6,7,8,9,10,11,12,13,14,15,16,17,18,19,20,21,22,23,24,25,26,27,28,29,30,31,32,33,34,35,36,37,38,39,40,41,42,43,44],[0,1,2,3,4,5,6,7,8,9,10,11,12,13,14,15,16,17,18,19,20,21,22,23,24,25,26,27,28,29,30,31,32,33,34,35,36,37,38,39,40,41,42,43,44,45],[0,1,2,3,4,5,6,7,8,9,10,11,12,13,14,15,16,17,18,19,20,21,22,23,24,25,26,27,28,29,30,31,32,33,34,35,36,37,38,39,40,41,42,43,44,45,46],[0,1,2,3,4,5,6,7,8,9,10,11,12,13,14,15,16,17,18,19,20,21,22,23,24,25,26,27,28,29,30,31,32,33,34,35,36,37,38,39,40,41,42,43,44,45,46,47]] [] (λ h=>(h rfl).elim) Zk Zk Zk Zk Zk ?_;simp only [q8q,q9q,q10q,q11q,q12q,q13q];(repeat (refine R2.av ?_;(try simp only [Act.put,q0q,q1q,q2q])));(refine R2.ai (λ p => .slice (p 0).1 4 4) (λ p w''=>Sl w'' (p 0).1 4 (iW h)) (λ p w w' h hx=>by first|exact h.ext hx|exact ⟨h.1.ext hx,h.2.ext hx⟩|exact ⟨h.1.ext hx,h.2⟩|exact ⟨h.1.ext hx,h.2.1.ext hx,h.2.2.ext hx⟩) (λ us w' hx hf=>⟨rfl,?_⟩) ?_;(unfold gives;simp [go_sem,execOp];exact ⟨λ _=>(some ⟨w'.heap.size,0,none⟩,0),rfl,FA _ _,xH _ _ _ _ _ _ _⟩));(repeat (refine R2.av ?_;(try simp only [Act.put,q0q,q1q,q2q])));(refine R2.ai (λ p => .slice (p 0).1 4 (p 0).2) (λ p w''=>Own w'' 0 (p 0).1 4 (p 0).2 (aF 4 h.rd.toUInt64)) (λ p w w' h hx=>h.ext hx) (λ us w' hx hf=>⟨rfl,?_⟩) ?_;(unfold gives;simp [go_sem,execOp];exact az (aak _) (hp4 _ _)));(repeat (refine R2.av ?_;(try simp only [Act.put,q0q,q1q,q2q])));(refine R2.ai (λ p => .slice (p 0).1 4 (p 0).2) (λ p w''=>Own w'' 0 (p 0).1 4 (p 0).2 (aF 4 h.rp.toUInt64)) (λ p w w' h hx=>h.ext hx) (λ us w' hx hf=>⟨rfl,?_⟩) ?_;(unfold gives;simp [go_sem,execOp];exact az (aak _) (hp4 _ _)));(repeat (refine R2.av ?_;(try simp only [Act.put,q0q,q1q,q2q])));(refine R2.ai (λ p => .slice (p 0).1 4 (p 0).2) (λ p w''=>Own w'' 0 (p 0).1 4 (p 0).2 (aF 4 h.id.toUInt64)) (λ p w w' h hx=>h.ext hx) (λ us w' hx hf=>⟨rfl,?_⟩) ?_;(unfold gives;simp [go_sem,execOp];exact az (aak _) (hp4 _ _)));(repeat (refine R2.av ?_;(try simp only [Act.put,q0q,q1q,q2q])));(refine R2.ai (λ p => .slice (p 0).1 8 (p 0).2) (λ p w''=>Own w'' 0 (p 0).1 8 (p 0).2 (aF 8 h.ref)) (λ p w w' h hx=>h.ext hx) (λ us w' hx hf=>⟨rfl,?_⟩) ?_;(unfold gives;simp [go_sem,execOp];exact az (aak _) (hp8 _ _)));(repeat (refine R2.av ?_;(try simp only [Act.put,q0q,q1q,q2q])));(refine R2.ai (λ p => .slice (p 0).1 8 (p 0).2) (λ p w''=>Own w'' 0 (p 0).1 8 (p 0).2 (aF 8 h.org)) (λ p w w' h hx=>h.ext hx) (λ us w' hx hf=>⟨rfl,?_⟩) ?_;(unfold gives;simp [go_sem,execOp];exact az (aak _) (hp8 _ _)));(repeat (refine R2.av ?_;(try simp only [Act.put,q0q,q1q,q2q])));(refine R2.ai (λ p => .slice (p 0).1 8 (p 0).2) (λ p w''=>Own w'' 0 (p 0).1 8 (p 0).2 (aF 8 h.rcv)) (λ p w w' h hx=>h.ext hx) (λ us w' hx hf=>⟨rfl,?_⟩) ?_;(unfold gives;simp [go_sem,execOp];exact az (aak _) (hp8 _ _)));(repeat (refine R2.av ?_;(try simp only [Act.put,q0q,q1q,q2q])));(refine R2.ai (λ p => .slice (p 0).1 8 (p 0).2) (λ p w''=>Own w'' 0 (p 0).1 8 (p 0).2 (aF 8 h.tx)) (λ p w w' h hx=>h.ext hx) (λ us w' hx hf=>⟨rfl,?_⟩) ?_;(unfold gives;simp [go_sem,execOp];exact az (aak _) (hp8 _ _)));(refine R2.aU ?_;intro us x hx hf);obtain ⟨hO0,hO1,hO2,hO3,hO4,hO5,hO6,hO7⟩:=hf;obtain ⟨p0,hp0⟩:∃ a,(us 20 0).1=a:=⟨_,rfl⟩;rw [hp0] at hO0 ⊢;obtain ⟨p1,hp1⟩:∃ a,(us 24 0).1=a:=⟨_,rfl⟩;obtain ⟨q1,hq1⟩:∃ a,(us 24 0).2=a:=⟨_,rfl⟩;rw [hp1,hq1] at hO1 ⊢;obtain ⟨p2,hp2⟩:∃ a,(us 28 0).1=a:=⟨_,rfl⟩;obtain ⟨q2,hq2⟩:∃ a,(us 28 0).2=a:=⟨_,rfl⟩;rw [hp2,hq2] at hO2 ⊢;obtain ⟨p3,hp3⟩:∃ a,(us 32 0).1=a:=⟨_,rfl⟩;obtain ⟨q3,hq3⟩:∃ a,(us 32 0).2=a:=⟨_,rfl⟩;rw [hp3,hq3] at hO3 ⊢;obtain ⟨p4,hp4⟩:∃ a,(us 35 0).1=a:=⟨_,rfl⟩;obtain ⟨q4,hq4⟩:∃ a,(us 35 0).2=a:=⟨_,rfl⟩;rw [hp4,hq4] at hO4 ⊢;obtain ⟨p5,hp5⟩:∃ a,(us 38 0).1=a:=⟨_,rfl⟩;obtain ⟨q5,hq5⟩:∃ a,(us 38 0).2=a:=⟨_,rfl⟩;rw [hp5,hq5] at hO5 ⊢;obtain ⟨p6,hp6⟩:∃ a,(us 41 0).1=a:=⟨_,rfl⟩;obtain ⟨q6,hq6⟩:∃ a,(us 41 0).2=a:=⟨_,rfl⟩;rw [hp6,hq6] at hO6 ⊢;obtain ⟨p7,hp7⟩:∃ a,(us 44 0).1=a:=⟨_,rfl⟩;obtain ⟨q7,hq7⟩:∃ a,(us 44 0).2=a:=⟨_,rfl⟩;rw [hp7,hq7] at hO7 ⊢;clear g0 g1 g2 g3 f0 f1 f2 f3 f4 f5 f6 f7 f8 f9 f10 f11 f12 hp4 hp8;have hx5:Ext W (W.ext x):=FE _ _;generalize W.ext x=W5 at *;go_wp2_with fail;(with_reducible refine (aR _ _ _ _ _ (DU hO0 hO1.sl hO2.sl hO3.sl hO4.sl hO5.sl hO6.sl hO7.sl _) Zo 48 hJl Zo).mono ?_);rintro e w9 ⟨a9,c9,rfl,hO9,hx9⟩;rw [hJ.out] at hO9;go_wp2_with fail;go_ret2;exact ⟨a9,c9,rfl,hO9.sl,hO9.le.1,(hE.trans hx5).trans ((FA _ _).trans hx9)⟩
 ·have er:cH h=([],4):=aae hk;rw [er] at hv ⊢
  go_enter Tryz.func32,Tryz.ntmps32
  go_wp2_with (first
   | (refine af aJ rfl _ rfl w.heap.size 0 rfl _ ((Blk.new w #[Zz Zx h.leap, Zz Zx h.ver, Zz Zx h.mode, Zz Zx h.strat, Zz Zx h.poll, Zz Zx h.prec, Zz Zv (n32 h.rd), Zz Zv (n32 h.rp), Zz Zv (n32 h.id), Zz Zw (n64 h.ref), Zz Zw (n64 h.org), Zz Zw (n64 h.rcv), Zz Zw (n64 h.tx)] 64).rd) rfl ?_)
   | (go_at_call 72;refine (hv _).mono ?_;rintro e w1 ⟨rfl,hxq⟩;obtain ⟨xq,rfl⟩:=hxq.out;clear hxq)
   | fail)
  go_ret2;exact aC _ _ _ eX
end Go.Proofs.P9

/- packet.Reply and the document's Reply. -/
namespace Go.Proofs.P9
open Go.RowKit Go.Sec Go.Oct Go.Pkt Go.Tsrv BigFrame
theorem ry {h:Hdr} (k:okH h):(cH h).2=0:=by unfold cH;rw [aaj k]
theorem rk {h:Hdr} (k:¬ okH h):(cH h).2=4:=by unfold cH;rw [aae k]
def xa (q:Hdr) (s:Int) (r t:UInt64):Hdr:=⟨0,q.ver,4,s,q.poll, -20,0,0,0,0,q.tx,r,t⟩
theorem zN {q:Hdr} {s:Int} {r t:UInt64} (k:okH q) (h0:0<=s) (h1:s<=255):okH (xa q s r t):=by
 unfold okH xa at *;simp only;omega
theorem AQ {q:Hdr} {s:Int} {r t:UInt64} (h:s<0\/255<s):¬ okH (xa q s r t):=by
 unfold okH xa;simp only;omega
def CI (R:Hdr × Int) (w:World)(e:Ending) (w':World):Prop:=e = .returned (.tuple #[.agg #[Zz Zx R.1.leap, Zz Zx R.1.ver, Zz Zx R.1.mode, Zz Zx R.1.strat, Zz Zx R.1.poll, Zz Zx R.1.prec, Zz Zv (n32 R.1.rd), Zz Zv (n32 R.1.rp), Zz Zv (n32 R.1.id), Zz Zw (n64 R.1.ref), Zz Zw (n64 R.1.org), Zz Zw (n64 R.1.rcv), Zz Zw (n64 R.1.tx)], Zz Zx R.2])/\Ext w w'
theorem lx (q:Hdr) (s:Int) (r t:UInt64) (w:World) :
  Calls Tryz.prog 46 #[.agg #[Zz Zx q.leap, Zz Zx q.ver, Zz Zx q.mode, Zz Zx q.strat, Zz Zx q.poll, Zz Zx q.prec, Zz Zv (n32 q.rd), Zz Zv (n32 q.rp), Zz Zv (n32 q.id), Zz Zw (n64 q.ref), Zz Zw (n64 q.org), Zz Zw (n64 q.rcv), Zz Zw (n64 q.tx)], Zz Zx s, Zz Zw (n64 r), Zz Zw (n64 t)] w (CI (iY q s r t) w):=by
 have hv:=λ W=>mQ q W;obtain ⟨R,hR⟩:∃ R,iY q s r t=R:=⟨_,rfl⟩;rw [hR];unfold iY at hR;by_cases h1:okH q
 ·rw [ry h1] at hv;by_cases h2:q.mode=3
  ·have i2:(q.mode != 3)=false:=by rw [aaf];exact h2
   by_cases h3:s<0
   ·rw [aae (by simpa using h1),aae (by simpa using h2),aaj (.inl h3)] at hR;have hR:=FC hR.symm;clear h1 h2
    go_enter Tryz.func46,Tryz.ntmps46
    go_wp2_with fail;refine br ?_;intro W hW;have hB0:Blk W w.heap.size 64 [Zz Zx q.leap, Zz Zx q.ver, Zz Zx q.mode, Zz Zx q.strat, Zz Zx q.poll, Zz Zx q.prec, Zz Zv (n32 q.rd), Zz Zv (n32 q.rp), Zz Zv (n32 q.id), Zz Zw (n64 q.ref), Zz Zw (n64 q.org), Zz Zw (n64 q.rcv), Zz Zw (n64 q.tx)]:=by rw [hW];exact bK
    have hB:Blk W (w.heap.size+1) 64 [Zz Zx 0, Zz Zx 0, Zz Zx 0, Zz Zx 0, Zz Zx 0, Zz Zx 0, Zz Zv 0, Zz Zv 0, Zz Zv 0, Zz Zw 0, Zz Zw 0, Zz Zw 0, Zz Zw 0]:=by rw [hW];exact bK
    have hE:Ext w W:=by rw [hW];exact eX
    clear hW;(with_reducible refine (hv _).mono ?_);rintro e W2 ⟨rfl,hx⟩;have hB0:=hB0.extB hx;have hB:=hB.extB hx;have hE:=hE.trans hx;clear hx hv;haveI:=hB0.blt;have f1:=hB0.cell? 1 rfl;have f2:=hB0.cell? 2 rfl;have f4:=hB0.cell? 4 rfl;have f12:=hB0.cell? 12 rfl
    go_wp2_with (first
     | (refine aa aJ rfl _ _ rfl (w.heap.size+1) 0 rfl _ rfl 64 _ hB rfl Zs oC ?_;intro V hV hMV)
     | fail)
    refine aaa (aj Tryz.results46 aJ _ _ (w.heap.size+1) 0 _ rfl hV.rd rfl _ rfl) rfl ?_;refine ⟨?_,E9 hE (hMV.below Zo hE.size)⟩;rw [hR.out];rfl
   ·by_cases h4:255<s
    ·rw [aae (by simpa using h1),aae (by simpa using h2),aaj (.inr h4)] at hR;have hR:=FC hR.symm;clear h1 h2
     go_enter Tryz.func46,Tryz.ntmps46
     go_wp2_with fail;refine br ?_;intro W hW;have hB0:Blk W w.heap.size 64 [Zz Zx q.leap, Zz Zx q.ver, Zz Zx q.mode, Zz Zx q.strat, Zz Zx q.poll, Zz Zx q.prec, Zz Zv (n32 q.rd), Zz Zv (n32 q.rp), Zz Zv (n32 q.id), Zz Zw (n64 q.ref), Zz Zw (n64 q.org), Zz Zw (n64 q.rcv), Zz Zw (n64 q.tx)]:=by rw [hW];exact bK
     have hB:Blk W (w.heap.size+1) 64 [Zz Zx 0, Zz Zx 0, Zz Zx 0, Zz Zx 0, Zz Zx 0, Zz Zx 0, Zz Zv 0, Zz Zv 0, Zz Zv 0, Zz Zw 0, Zz Zw 0, Zz Zw 0, Zz Zw 0]:=by rw [hW];exact bK
     have hE:Ext w W:=by rw [hW];exact eX
     clear hW;(with_reducible refine (hv _).mono ?_);rintro e W2 ⟨rfl,hx⟩;have hB0:=hB0.extB hx;have hB:=hB.extB hx;have hE:=hE.trans hx;clear hx hv;haveI:=hB0.blt;have f1:=hB0.cell? 1 rfl;have f2:=hB0.cell? 2 rfl;have f4:=hB0.cell? 4 rfl;have f12:=hB0.cell? 12 rfl
     go_wp2_with (first
      | (refine aa aJ rfl _ _ rfl (w.heap.size+1) 0 rfl _ rfl 64 _ hB rfl Zs oC ?_;intro V hV hMV)
      | fail)
     refine aaa (aj Tryz.results46 aJ _ _ (w.heap.size+1) 0 _ rfl hV.rd rfl _ rfl) rfl ?_;refine ⟨?_,E9 hE (hMV.below Zo hE.size)⟩;rw [hR.out];rfl
    ·rw [aae (by simpa using h1),aae (by simpa using h2),aae Zo] at hR;have hR:=FC hR.symm;clear h1 h2
     go_enter Tryz.func46,Tryz.ntmps46
     go_wp2_with fail;refine br ?_;intro W hW;have hB0:Blk W w.heap.size 64 [Zz Zx q.leap, Zz Zx q.ver, Zz Zx q.mode, Zz Zx q.strat, Zz Zx q.poll, Zz Zx q.prec, Zz Zv (n32 q.rd), Zz Zv (n32 q.rp), Zz Zv (n32 q.id), Zz Zw (n64 q.ref), Zz Zw (n64 q.org), Zz Zw (n64 q.rcv), Zz Zw (n64 q.tx)]:=by rw [hW];exact bK
     have hB:Blk W (w.heap.size+1) 64 [Zz Zx 0, Zz Zx 0, Zz Zx 0, Zz Zx 0, Zz Zx 0, Zz Zx 0, Zz Zv 0, Zz Zv 0, Zz Zv 0, Zz Zw 0, Zz Zw 0, Zz Zw 0, Zz Zw 0]:=by rw [hW];exact bK
     have hE:Ext w W:=by rw [hW];exact eX
     clear hW;(with_reducible refine (hv _).mono ?_);rintro e W2 ⟨rfl,hx⟩;have hB0:=hB0.extB hx;have hB:=hB.extB hx;have hE:=hE.trans hx;clear hx hv;haveI:=hB0.blt;have f1:=hB0.cell? 1 rfl;have f2:=hB0.cell? 2 rfl;have f4:=hB0.cell? 4 rfl;have f12:=hB0.cell? 12 rfl
     go_wp2_with (first
      | (refine aa aJ rfl _ _ rfl (w.heap.size+1) 0 rfl _ rfl 64 _ hB rfl Zs oC ?_;intro V hV hMV)
      | fail)
     refine aaa (aj Tryz.results46 aJ _ _ (w.heap.size+1) 0 _ rfl hV.rd rfl (Zz Zx 0) rfl) rfl ?_;refine ⟨?_,E9 hE (hMV.below Zo hE.size)⟩;rw [hR.out];rfl
  ·have i2:(q.mode != 3)=true:=by rw [aao];exact h2
   rw [aae (by simpa using h1),aaj h2] at hR;have hR:=FC hR.symm;clear h1 h2
   go_enter Tryz.func46,Tryz.ntmps46
   go_wp2_with fail;refine br ?_;intro W hW;have hB0:Blk W w.heap.size 64 [Zz Zx q.leap, Zz Zx q.ver, Zz Zx q.mode, Zz Zx q.strat, Zz Zx q.poll, Zz Zx q.prec, Zz Zv (n32 q.rd), Zz Zv (n32 q.rp), Zz Zv (n32 q.id), Zz Zw (n64 q.ref), Zz Zw (n64 q.org), Zz Zw (n64 q.rcv), Zz Zw (n64 q.tx)]:=by rw [hW];exact bK
   have hB:Blk W (w.heap.size+1) 64 [Zz Zx 0, Zz Zx 0, Zz Zx 0, Zz Zx 0, Zz Zx 0, Zz Zx 0, Zz Zv 0, Zz Zv 0, Zz Zv 0, Zz Zw 0, Zz Zw 0, Zz Zw 0, Zz Zw 0]:=by rw [hW];exact bK
   have hE:Ext w W:=by rw [hW];exact eX
   clear hW;(with_reducible refine (hv _).mono ?_);rintro e W2 ⟨rfl,hx⟩;have hB0:=hB0.extB hx;have hB:=hB.extB hx;have hE:=hE.trans hx;clear hx hv;haveI:=hB0.blt;have f1:=hB0.cell? 1 rfl;have f2:=hB0.cell? 2 rfl;have f4:=hB0.cell? 4 rfl;have f12:=hB0.cell? 12 rfl
   go_wp2_with (first
    | (refine aa aJ rfl _ _ rfl (w.heap.size+1) 0 rfl _ rfl 64 _ hB rfl Zs oC ?_;intro V hV hMV)
    | fail)
   refine aaa (aj Tryz.results46 aJ _ _ (w.heap.size+1) 0 _ rfl hV.rd rfl _ rfl) rfl ?_;refine ⟨?_,E9 hE (hMV.below Zo hE.size)⟩;rw [hR.out];rfl
 ·rw [rk h1] at hv;rw [aaj h1] at hR;have hR:=FC hR.symm;clear h1
  go_enter Tryz.func46,Tryz.ntmps46
  go_wp2_with fail;refine br ?_;intro W hW;have hB0:Blk W w.heap.size 64 [Zz Zx q.leap, Zz Zx q.ver, Zz Zx q.mode, Zz Zx q.strat, Zz Zx q.poll, Zz Zx q.prec, Zz Zv (n32 q.rd), Zz Zv (n32 q.rp), Zz Zv (n32 q.id), Zz Zw (n64 q.ref), Zz Zw (n64 q.org), Zz Zw (n64 q.rcv), Zz Zw (n64 q.tx)]:=by rw [hW];exact bK
  have hB:Blk W (w.heap.size+1) 64 [Zz Zx 0, Zz Zx 0, Zz Zx 0, Zz Zx 0, Zz Zx 0, Zz Zx 0, Zz Zv 0, Zz Zv 0, Zz Zv 0, Zz Zw 0, Zz Zw 0, Zz Zw 0, Zz Zw 0]:=by rw [hW];exact bK
  have hE:Ext w W:=by rw [hW];exact eX
  clear hW;(with_reducible refine (hv _).mono ?_);rintro e W2 ⟨rfl,hx⟩;have hB0:=hB0.extB hx;have hB:=hB.extB hx;have hE:=hE.trans hx;clear hx hv;haveI:=hB0.blt;have f1:=hB0.cell? 1 rfl;have f2:=hB0.cell? 2 rfl;have f4:=hB0.cell? 4 rfl;have f12:=hB0.cell? 12 rfl
  go_wp2_with (first
   | (refine aa aJ rfl _ _ rfl (w.heap.size+1) 0 rfl _ rfl 64 _ hB rfl Zs oC ?_;intro V hV hMV)
   | fail)
  refine aaa (aj Tryz.results46 aJ _ _ (w.heap.size+1) 0 _ rfl hV.rd rfl _ rfl) rfl ?_;refine ⟨?_,E9 hE (hMV.below Zo hE.size)⟩;rw [hR.out];rfl
theorem vv (q:Hdr) (s:Int) (r t:UInt64) (w:World) :
  Calls Tryz.prog 143 #[.agg #[Zz Zx q.leap, Zz Zx q.ver, Zz Zx q.mode, Zz Zx q.strat, Zz Zx q.poll, Zz Zx q.prec, Zz Zv (n32 q.rd), Zz Zv (n32 q.rp), Zz Zv (n32 q.id), Zz Zw (n64 q.ref), Zz Zw (n64 q.org), Zz Zw (n64 q.rcv), Zz Zw (n64 q.tx)], Zz Zx s, Zz Zw (n64 r), Zz Zw (n64 t)] w (CI (iY q s r t) w):=by
 have hv:=λ W=>kY q W;have hvT:∀ W,Calls Tryz.prog 161 #[.agg #[Zz Zx 0, Zz Zx q.ver, Zz Zx 4, Zz Zx s, Zz Zx q.poll, Zz Zx (-20), Zz Zv 0, Zz Zv 0, Zz Zv 0, Zz Zw 0, Zz Zw (n64 q.tx), Zz Zw (n64 r), Zz Zw (n64 t)]] W λ e w'=>e = .returned (Zz Zx (cH (xa q s r t)).2)/\Ext W w':=λ W=>kY (xa q s r t) W;obtain ⟨R,hR⟩:∃ R,iY q s r t=R:=⟨_,rfl⟩;rw [hR];unfold iY at hR;by_cases h1:okH q
 ·rw [ry h1] at hv;by_cases h2:q.mode=3
  ·have i2:(q.mode != 3)=false:=by rw [aaf];exact h2
   rw [aae (by simpa using h1),aae (by simpa using h2)] at hR;by_cases h3:s<0\/255<s
   ·rw [aaj h3] at hR;rw [rk (AQ h3)] at hvT;have hR:=FC hR.symm;clear h1 h2 h3
    go_enter Tryz.func143,Tryz.ntmps143
    go_wp2_with fail;refine br ?_;intro W hW;have hB0:Blk W w.heap.size 64 [Zz Zx q.leap, Zz Zx q.ver, Zz Zx q.mode, Zz Zx q.strat, Zz Zx q.poll, Zz Zx q.prec, Zz Zv (n32 q.rd), Zz Zv (n32 q.rp), Zz Zv (n32 q.id), Zz Zw (n64 q.ref), Zz Zw (n64 q.org), Zz Zw (n64 q.rcv), Zz Zw (n64 q.tx)]:=by rw [hW];exact bK
    have hB:Blk W (w.heap.size+1) 64 [Zz Zx 0, Zz Zx 0, Zz Zx 0, Zz Zx 0, Zz Zx 0, Zz Zx 0, Zz Zv 0, Zz Zv 0, Zz Zv 0, Zz Zw 0, Zz Zw 0, Zz Zw 0, Zz Zw 0]:=by rw [hW];exact bK
    have hE:Ext w W:=by rw [hW];exact eX
    clear hW;(with_reducible refine (hv _).mono ?_);rintro e W2 ⟨rfl,hx⟩;have hB0:=hB0.extB hx;have hB:=hB.extB hx;have hE:=hE.trans hx;clear hx hv;haveI:=hB0.blt;have f1:=hB0.cell? 1 rfl;have f2:=hB0.cell? 2 rfl;have f4:=hB0.cell? 4 rfl;have f12:=hB0.cell? 12 rfl
    go_wp2_with (first
     | (refine ag aJ rfl rfl _ _ rfl rfl rfl rfl (by simp [Act.put]) _ rfl Zs rfl oC ?_;intro x hz _)
     | (refine af aJ rfl _ rfl W2.heap.size 0 rfl _ hz.rd rfl ?_)
     | fail)
    have hx:=FE W2 x;have hB:=hB.extB hx;have hE:=hE.trans hx;clear hz hx;generalize W2.ext x=W3 at *;(with_reducible refine (hvT _).mono ?_);rintro e W4 ⟨rfl,hx⟩;have hB:=hB.extB hx;have hE:=hE.trans hx
    go_wp2_with (first
     | (refine aa aJ rfl _ _ rfl (w.heap.size+1) 0 rfl _ rfl 64 _ hB rfl Zs oC ?_;intro V hV hMV)
     | fail)
    refine aaa (aj Tryz.results143 aJ _ _ (w.heap.size+1) 0 _ rfl hV.rd rfl _ rfl) rfl ?_;refine ⟨?_,E9 hE (hMV.below Zo hE.size)⟩;rw [hR.out];rfl
   ·rw [aae h3] at hR;rw [ry (zN h1 Zo Zo)] at hvT;have hR:=FC hR.symm;clear h1 h2 h3
    go_enter Tryz.func143,Tryz.ntmps143
    go_wp2_with fail;refine br ?_;intro W hW;have hB0:Blk W w.heap.size 64 [Zz Zx q.leap, Zz Zx q.ver, Zz Zx q.mode, Zz Zx q.strat, Zz Zx q.poll, Zz Zx q.prec, Zz Zv (n32 q.rd), Zz Zv (n32 q.rp), Zz Zv (n32 q.id), Zz Zw (n64 q.ref), Zz Zw (n64 q.org), Zz Zw (n64 q.rcv), Zz Zw (n64 q.tx)]:=by rw [hW];exact bK
    have hB:Blk W (w.heap.size+1) 64 [Zz Zx 0, Zz Zx 0, Zz Zx 0, Zz Zx 0, Zz Zx 0, Zz Zx 0, Zz Zv 0, Zz Zv 0, Zz Zv 0, Zz Zw 0, Zz Zw 0, Zz Zw 0, Zz Zw 0]:=by rw [hW];exact bK
    have hE:Ext w W:=by rw [hW];exact eX
    clear hW;(with_reducible refine (hv _).mono ?_);rintro e W2 ⟨rfl,hx⟩;have hB0:=hB0.extB hx;have hB:=hB.extB hx;have hE:=hE.trans hx;clear hx hv;haveI:=hB0.blt;have f1:=hB0.cell? 1 rfl;have f2:=hB0.cell? 2 rfl;have f4:=hB0.cell? 4 rfl;have f12:=hB0.cell? 12 rfl
    go_wp2_with (first
     | (refine ag aJ rfl rfl _ _ rfl rfl rfl rfl (by simp [Act.put]) _ rfl Zs rfl oC ?_;intro x hz _)
     | (refine af aJ rfl _ rfl W2.heap.size 0 rfl _ hz.rd rfl ?_)
     | fail)
    have hx:=FE W2 x;have hB:=hB.extB hx;have hE:=hE.trans hx;obtain ⟨gz,hgz⟩:∃ g,g=W2.heap.size:=⟨_,rfl⟩;rw [<- hgz] at hz ⊢;clear hx hgz;generalize W2.ext x=W3 at *;(with_reducible refine (hvT _).mono ?_);rintro e W4 ⟨rfl,hx⟩;have hB:=hB.extB hx;have hz:=hz.extB hx;have hE:=hE.trans hx;haveI:=hz.blt
    go_wp2_with (first
     | (refine af aJ rfl _ rfl gz 0 rfl _ hz.rd rfl ?_)
     | (refine aa aJ rfl _ _ rfl (w.heap.size+1) 0 rfl _ rfl 64 _ hB rfl Zs oC ?_;intro V hV hMV)
     | fail)
    refine aaa (aj Tryz.results143 aJ _ _ (w.heap.size+1) 0 _ rfl hV.rd rfl _ rfl) rfl ?_;refine ⟨?_,E9 hE (hMV.below Zo hE.size)⟩;rw [hR.out];rfl
  ·have i2:(q.mode != 3)=true:=by rw [aao];exact h2
   rw [aae (by simpa using h1),aaj h2] at hR;have hR:=FC hR.symm;clear h1 h2 hvT
   go_enter Tryz.func143,Tryz.ntmps143
   go_wp2_with fail;refine br ?_;intro W hW;have hB0:Blk W w.heap.size 64 [Zz Zx q.leap, Zz Zx q.ver, Zz Zx q.mode, Zz Zx q.strat, Zz Zx q.poll, Zz Zx q.prec, Zz Zv (n32 q.rd), Zz Zv (n32 q.rp), Zz Zv (n32 q.id), Zz Zw (n64 q.ref), Zz Zw (n64 q.org), Zz Zw (n64 q.rcv), Zz Zw (n64 q.tx)]:=by rw [hW];exact bK
   have hB:Blk W (w.heap.size+1) 64 [Zz Zx 0, Zz Zx 0, Zz Zx 0, Zz Zx 0, Zz Zx 0, Zz Zx 0, Zz Zv 0, Zz Zv 0, Zz Zv 0, Zz Zw 0, Zz Zw 0, Zz Zw 0, Zz Zw 0]:=by rw [hW];exact bK
   have hE:Ext w W:=by rw [hW];exact eX
   clear hW;(with_reducible refine (hv _).mono ?_);rintro e W2 ⟨rfl,hx⟩;have hB0:=hB0.extB hx;have hB:=hB.extB hx;have hE:=hE.trans hx;clear hx hv;haveI:=hB0.blt;have f1:=hB0.cell? 1 rfl;have f2:=hB0.cell? 2 rfl;have f4:=hB0.cell? 4 rfl;have f12:=hB0.cell? 12 rfl
   go_wp2_with (first
    | (refine ag aJ rfl rfl _ _ rfl rfl rfl rfl (by simp [Act.put]) _ rfl Zs rfl oC ?_;intro x hz _)
    | ((refine aa aJ rfl _ _ rfl (w.heap.size+1) 0 rfl _ rfl 64 _ ((hB.extB eX)) rfl Zs oC ?_;intro V hV hMV))
    | fail)
   refine aaa (aj Tryz.results143 aJ _ _ (w.heap.size+1) 0 _ rfl hV.rd rfl _ rfl) rfl ?_;have hE:=hE.ext x;refine ⟨?_,E9 hE (hMV.below Zo hE.size)⟩;rw [hR.out];rfl
 ·rw [rk h1] at hv;rw [aaj h1] at hR;have hR:=FC hR.symm;clear h1 hvT
  go_enter Tryz.func143,Tryz.ntmps143
  go_wp2_with fail;refine br ?_;intro W hW;have hB0:Blk W w.heap.size 64 [Zz Zx q.leap, Zz Zx q.ver, Zz Zx q.mode, Zz Zx q.strat, Zz Zx q.poll, Zz Zx q.prec, Zz Zv (n32 q.rd), Zz Zv (n32 q.rp), Zz Zv (n32 q.id), Zz Zw (n64 q.ref), Zz Zw (n64 q.org), Zz Zw (n64 q.rcv), Zz Zw (n64 q.tx)]:=by rw [hW];exact bK
  have hB:Blk W (w.heap.size+1) 64 [Zz Zx 0, Zz Zx 0, Zz Zx 0, Zz Zx 0, Zz Zx 0, Zz Zx 0, Zz Zv 0, Zz Zv 0, Zz Zv 0, Zz Zw 0, Zz Zw 0, Zz Zw 0, Zz Zw 0]:=by rw [hW];exact bK
  have hE:Ext w W:=by rw [hW];exact eX
  clear hW;(with_reducible refine (hv _).mono ?_);rintro e W2 ⟨rfl,hx⟩;have hB0:=hB0.extB hx;have hB:=hB.extB hx;have hE:=hE.trans hx;clear hx hv;haveI:=hB0.blt;have f1:=hB0.cell? 1 rfl;have f2:=hB0.cell? 2 rfl;have f4:=hB0.cell? 4 rfl;have f12:=hB0.cell? 12 rfl
  go_wp2_with (first
   | (refine aa aJ rfl _ _ rfl (w.heap.size+1) 0 rfl _ rfl 64 _ hB rfl Zs oC ?_;intro V hV hMV)
   | fail)
  refine aaa (aj Tryz.results143 aJ _ _ (w.heap.size+1) 0 _ rfl hV.rd rfl _ rfl) rfl ?_;refine ⟨?_,E9 hE (hMV.below Zo hE.size)⟩;rw [hR.out];rfl
end Go.Proofs.P9

/- The walks of layer 25: the names of refusals. -/
namespace Go.Tsrv
def Ez:Value := .string ⟨#[68,69,78,89]⟩
def Ei:Value := .string ⟨#[82,83,84,82]⟩
def EF:Value := .string ⟨#[82,65,84,69]⟩
def EA:Value := .string ⟨#[78,84,83,78]⟩
end Go.Tsrv
namespace Go.Proofs.P9
open Go.RowKit Go.Sec Go.Oct Go.Tsrv BigFrame
theorem qN (w:World) :
  Calls Tryz.prog 150 #[] w λ e w'=>e = .returned (Zy (some ⟨w.heap.size,0,none⟩) 4 4)/\w'=w.alloc (.cells #[.string ⟨#[68,69,78,89]⟩, .string ⟨#[82,83,84,82]⟩, .string ⟨#[82,65,84,69]⟩, .string ⟨#[78,84,83,78]⟩] 9):=by
 go_enter Tryz.func150,Tryz.ntmps150
 go_wp2;go_ret;exact ⟨rfl,rfl⟩
theorem o8 (w:World) :
  Calls Tryz.prog 134 #[] w λ e w'=>e = .returned (Zy (some ⟨w.heap.size,0,none⟩) 4 4)/\w'=w.alloc (.cells #[.string ⟨#[68,69,78,89]⟩, .string ⟨#[82,83,84,82]⟩, .string ⟨#[82,65,84,69]⟩, .string ⟨#[78,84,83,78]⟩] 9):=by
 go_enter Tryz.func134,Tryz.ntmps134
 go_wp2;go_ret;exact ⟨rfl,rfl⟩
structure Cds (g:Nat) (w:World):Prop where
 lt:BlkLt g w
 c0:w.cell? ⟨g,0,none⟩=some (.string ⟨#[68,69,78,89]⟩)
 c1:w.cell? ⟨g,1,none⟩=some (.string ⟨#[82,83,84,82]⟩)
 c2:w.cell? ⟨g,2,none⟩=some (.string ⟨#[82,65,84,69]⟩)
 c3:w.cell? ⟨g,3,none⟩=some (.string ⟨#[78,84,83,78]⟩)
theorem Cds.ext {g:Nat} {w w':World} (h:Cds g w) (hx:Ext w w'):Cds g w' :=
 have f:∀ k v,w.cell? ⟨g,k,none⟩=some v->w'.cell? ⟨g,k,none⟩=some v:=λ k v e=>(hx.cell (p:=⟨g,k,none⟩) h.lt.lt).trans e
 ⟨⟨aai h.lt.lt hx.size⟩,f _ _ h.c0,f _ _ h.c1,f _ _ h.c2,f _ _ h.c3⟩
theorem Cds.new (w:World):Cds w.heap.size (w.alloc (.cells #[.string ⟨#[68,69,78,89]⟩, .string ⟨#[82,83,84,82]⟩, .string ⟨#[82,65,84,69]⟩, .string ⟨#[78,84,83,78]⟩] 9)) :=
 ⟨inferInstance,by simp [go_sem],by simp [go_sem],by simp [go_sem],by simp [go_sem]⟩
theorem u5 (g:Nat) (w:World)(h:Cds g w) :
  Calls Tryz.prog 167 #[Zy (some ⟨g,0,none⟩) 4 4, .string ⟨#[78,84,83,78]⟩] w λ e w'=>e = .returned (Zz Zx 3)/\Ext w w':=by
 go_enter Tryz.func167,Tryz.ntmps167
 go_wp2_with fail
 go_loopw [5,8] (λ _ v8 wr=>∃ i:Nat,i<=3/\v8 = Zz Zx i/\Ext w wr) (λ _ v8 _=>4-(intOf v8).toNat)
 case atStart=>exact ⟨0,Zo,rfl,FD _⟩
 case round =>
  obtain ⟨i,hi,rfl,hx⟩:=hrel;obtain ⟨hl,c0,c1,c2,c3⟩:=h.ext hx;haveI:=hl;obtain rfl|rfl|rfl|rfl:i=0\/i=1\/i=2\/i=3:=Zo
  all_goals go_wp2_with fail
  ·exact ⟨⟨1,Zo,rfl,hx⟩,by simp [intOf]⟩
  ·exact ⟨⟨2,Zo,rfl,hx⟩,by simp [intOf]⟩
  ·exact ⟨⟨3,Zo,rfl,hx⟩,by simp [intOf]⟩
  ·go_ret;exact ⟨rfl,hx⟩
theorem pW (g:Nat) (w:World)(h:Cds g w) :
  Calls Tryz.prog 149 #[Zy (some ⟨g,0,none⟩) 4 4, .string ⟨#[78,84,83,78]⟩] w λ e w'=>e = .returned (.bool true)/\Ext w w':=by
 go_enter Tryz.func149,Tryz.ntmps149
 go_wp2_with fail;(with_reducible refine (u5 g _ h).mono ?_);rintro e w1 ⟨rfl,hx⟩;go_wp2_with fail;go_ret;exact ⟨rfl,hx⟩
theorem uT (w:World) :
  Calls Tryz.prog 126 #[.string ⟨#[78,84,83,78]⟩] w λ e w'=>e = .returned (.tuple #[Zz Zv 1314149198, Zz Zx 0])/\Ext w w':=by
 have hcv:=fC U hu8 hst;have hnum:n64 (cR [78,84,83,78])=1314149198:=Zd
 go_enter Tryz.func126,Tryz.ntmps126
 go_wp2_with fail;(with_reducible refine (qN _).mono ?_);rintro e w1 ⟨rfl,rfl⟩;go_wp2_with fail;(with_reducible refine (pW _ _ (Cds.new w)).mono ?_);rintro e w2 ⟨rfl,hx2⟩;have hE2:=(FA w _).trans hx2;clear hx2;go_wp2_with fail;have hS:Sl (w2.ext (eH w2 ⟨#[78,84,83,78]⟩)) (some ⟨w2.heap.size,0,none⟩) 4 [78,84,83,78]:=nP w2 [78,84,83,78];refine (eE _ _ _ [78,84,83,78] _ hS (by unfold uJ;exact grownCap_ge _ _ _ _) Zo).mono ?_;rw [hnum];rintro e w3 ⟨rfl,hx3⟩;have hE3:=(hE2.ext _).trans hx3;go_wp2_with fail;go_ret2;exact ⟨rfl,hE3⟩
theorem ud (w:World) :
  Calls Tryz.prog 86 #[.string ⟨#[78,84,83,78]⟩] w λ e w'=>e = .returned (.tuple #[Zz Zv 1314149198, Zz Zx 0])/\Ext w w':=by
 have hcv:=fC U hu8 hst;have hnum:n64 (cR [78,84,83,78])=1314149198:=Zd
 go_enter Tryz.func86,Tryz.ntmps86
 go_wp2_with fail;(with_reducible refine (o8 _).mono ?_);rintro e w1 ⟨rfl,rfl⟩;have h:=Cds.new w;have hE1:=FA w (.cells #[.string ⟨#[68,69,78,89]⟩, .string ⟨#[82,83,84,82]⟩, .string ⟨#[82,65,84,69]⟩, .string ⟨#[78,84,83,78]⟩] 9);generalize w.alloc (.cells #[.string ⟨#[68,69,78,89]⟩, .string ⟨#[82,83,84,82]⟩, .string ⟨#[82,65,84,69]⟩, .string ⟨#[78,84,83,78]⟩] 9)=W1 at *;obtain ⟨g,hg⟩:∃ g,g=w.heap.size:=⟨_,rfl⟩;rw [<- hg] at h ⊢;clear hg;go_wp2_with fail
 go_loopw [5] (λ v5 wr=>∃ i:Nat,i<=3/\v5 = Zz Zx i/\Ext W1 wr) (λ v5 _=>4-(intOf v5).toNat)
 case atStart=>exact ⟨0,Zo,rfl,FD _⟩
 case round =>
  obtain ⟨i,hi,rfl,hx⟩:=hrel;obtain ⟨hl,c0,c1,c2,c3⟩:=h.ext hx;haveI:=hl;obtain rfl|rfl|rfl|rfl:i=0\/i=1\/i=2\/i=3:=Zo
  all_goals go_wp2_with fail
  ·exact ⟨⟨1,Zo,rfl,hx⟩,by simp [intOf]⟩
  ·exact ⟨⟨2,Zo,rfl,hx⟩,by simp [intOf]⟩
  ·exact ⟨⟨3,Zo,rfl,hx⟩,by simp [intOf]⟩
  ·have hS:Sl (wr.ext (eH wr ⟨#[78,84,83,78]⟩)) (some ⟨wr.heap.size,0,none⟩) 4 [78,84,83,78]:=nP wr [78,84,83,78];refine (fb _ _ _ [78,84,83,78] _ hS Zo).mono ?_;rw [hnum];rintro e w3 ⟨rfl,hx3⟩;have hE3:=((hE1.trans hx).ext _).trans hx3;go_wp2_with fail;go_ret2;exact ⟨rfl,hE3⟩
theorem vf (g:Nat) (w:World)(h:Cds g w) :
  Calls Tryz.prog 167 #[Zy (some ⟨g,0,none⟩) 4 4, .string ⟨#[82,65,84,69]⟩] w λ e w'=>e = .returned (Zz Zx 2)/\Ext w w':=by
 go_enter Tryz.func167,Tryz.ntmps167
 go_wp2_with fail
 go_loopw [5,8] (λ _ v8 wr=>∃ i:Nat,i<=2/\v8 = Zz Zx i/\Ext w wr) (λ _ v8 _=>4-(intOf v8).toNat)
 case atStart=>exact ⟨0,Zo,rfl,FD _⟩
 case round =>
  obtain ⟨i,hi,rfl,hx⟩:=hrel;obtain ⟨hl,c0,c1,c2,c3⟩:=h.ext hx;haveI:=hl;obtain rfl|rfl|rfl:i=0\/i=1\/i=2:=Zo
  all_goals go_wp2_with fail
  ·exact ⟨⟨1,Zo,rfl,hx⟩,by simp [intOf]⟩
  ·exact ⟨⟨2,Zo,rfl,hx⟩,by simp [intOf]⟩
  ·go_ret;exact ⟨rfl,hx⟩
theorem qg (g:Nat) (w:World)(h:Cds g w) :
  Calls Tryz.prog 149 #[Zy (some ⟨g,0,none⟩) 4 4, .string ⟨#[82,65,84,69]⟩] w λ e w'=>e = .returned (.bool true)/\Ext w w':=by
 go_enter Tryz.func149,Tryz.ntmps149
 go_wp2_with fail;(with_reducible refine (vf g _ h).mono ?_);rintro e w1 ⟨rfl,hx⟩;go_wp2_with fail;go_ret;exact ⟨rfl,hx⟩
theorem uF (w:World) :
  Calls Tryz.prog 126 #[.string ⟨#[82,65,84,69]⟩] w λ e w'=>e = .returned (.tuple #[Zz Zv 1380013125, Zz Zx 0])/\Ext w w':=by
 have hcv:=fC U hu8 hst;have hnum:n64 (cR [82,65,84,69])=1380013125:=Zd
 go_enter Tryz.func126,Tryz.ntmps126
 go_wp2_with fail;(with_reducible refine (qN _).mono ?_);rintro e w1 ⟨rfl,rfl⟩;go_wp2_with fail;(with_reducible refine (qg _ _ (Cds.new w)).mono ?_);rintro e w2 ⟨rfl,hx2⟩;have hE2:=(FA w _).trans hx2;clear hx2;go_wp2_with fail;have hS:Sl (w2.ext (eH w2 ⟨#[82,65,84,69]⟩)) (some ⟨w2.heap.size,0,none⟩) 4 [82,65,84,69]:=nP w2 [82,65,84,69];refine (eE _ _ _ [82,65,84,69] _ hS (by unfold uJ;exact grownCap_ge _ _ _ _) Zo).mono ?_;rw [hnum];rintro e w3 ⟨rfl,hx3⟩;have hE3:=(hE2.ext _).trans hx3;go_wp2_with fail;go_ret2;exact ⟨rfl,hE3⟩
theorem uz (w:World) :
  Calls Tryz.prog 86 #[.string ⟨#[82,65,84,69]⟩] w λ e w'=>e = .returned (.tuple #[Zz Zv 1380013125, Zz Zx 0])/\Ext w w':=by
 have hcv:=fC U hu8 hst;have hnum:n64 (cR [82,65,84,69])=1380013125:=Zd
 go_enter Tryz.func86,Tryz.ntmps86
 go_wp2_with fail;(with_reducible refine (o8 _).mono ?_);rintro e w1 ⟨rfl,rfl⟩;have h:=Cds.new w;have hE1:=FA w (.cells #[.string ⟨#[68,69,78,89]⟩, .string ⟨#[82,83,84,82]⟩, .string ⟨#[82,65,84,69]⟩, .string ⟨#[78,84,83,78]⟩] 9);generalize w.alloc (.cells #[.string ⟨#[68,69,78,89]⟩, .string ⟨#[82,83,84,82]⟩, .string ⟨#[82,65,84,69]⟩, .string ⟨#[78,84,83,78]⟩] 9)=W1 at *;obtain ⟨g,hg⟩:∃ g,g=w.heap.size:=⟨_,rfl⟩;rw [<- hg] at h ⊢;clear hg;go_wp2_with fail
 go_loopw [5] (λ v5 wr=>∃ i:Nat,i<=2/\v5 = Zz Zx i/\Ext W1 wr) (λ v5 _=>4-(intOf v5).toNat)
 case atStart=>exact ⟨0,Zo,rfl,FD _⟩
 case round =>
  obtain ⟨i,hi,rfl,hx⟩:=hrel;obtain ⟨hl,c0,c1,c2,c3⟩:=h.ext hx;haveI:=hl;obtain rfl|rfl|rfl:i=0\/i=1\/i=2:=Zo
  all_goals go_wp2_with fail
  ·exact ⟨⟨1,Zo,rfl,hx⟩,by simp [intOf]⟩
  ·exact ⟨⟨2,Zo,rfl,hx⟩,by simp [intOf]⟩
  ·have hS:Sl (wr.ext (eH wr ⟨#[82,65,84,69]⟩)) (some ⟨wr.heap.size,0,none⟩) 4 [82,65,84,69]:=nP wr [82,65,84,69];refine (fb _ _ _ [82,65,84,69] _ hS Zo).mono ?_;rw [hnum];rintro e w3 ⟨rfl,hx3⟩;have hE3:=((hE1.trans hx).ext _).trans hx3;go_wp2_with fail;go_ret2;exact ⟨rfl,hE3⟩
end Go.Proofs.P9
