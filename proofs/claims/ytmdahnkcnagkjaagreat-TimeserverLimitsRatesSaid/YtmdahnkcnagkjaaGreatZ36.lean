/- Lemmas of this claim, several texts joined. -/
import Derived.Test.YtmdahnkcnagkjaaGreatZ9
import Derived.Test.YtmdahnkcnagkjaaGreatZ10
import Derived.Test.YtmdahnkcnagkjaaGreatZ19
import Derived.Test.YtmdahnkcnagkjaaGreatZ24
import Derived.Test.YtmdahnkcnagkjaaGreatZ26
import Derived.Test.YtmdahnkcnagkjaaGreatZ34
set_option maxRecDepth 100000
open List renaming setIfInBounds_toArray → q0q, set_cons_succ → q1q, set_cons_zero → q2q, mem_cons → q3q, not_mem_nil → q4q, nil_append → q5q, cons_append → q6q, mem_append → q7q, take_succ_cons → q8q, take_zero → q9q, drop_succ_cons → q10q, drop_zero → q11q, take_nil → q12q, drop_nil → q13q
set_option maxHeartbeats 8000000
set_option linter.unusedVariables false
set_option linter.unusedSimpArgs false
/- The walks of layer 16: next, Decode. -/
namespace Go.Pkt
open Go.Sec Go.RowKit Go.Oct
theorem kQ {p:UInt8→Prop} (h:∀ k<256,p (UInt8.ofNat k)) (x:UInt8):p x:=by
 have:=h x.toNat x.toNat_lt
 rwa [UInt8.ofNat_toNat] at this
theorem CZ (x:UInt8):bits .and .i64 (n8 x) 7=((x.toNat % 8:Nat):Int):=kQ (p:=fun x=>bits .and .i64 (n8 x) 7=((x.toNat % 8:Nat):Int)) (by decide +kernel) x
theorem Ci (x:UInt8):bits .and .i64 (n8 x / 8) 7=((x.toNat / 8 % 8:Nat):Int):=kQ (p:=fun x=>bits .and .i64 (n8 x / 8) 7=((x.toNat / 8 % 8:Nat):Int)) (by decide +kernel) x
theorem BO (x:UInt8):n8 x / 64=((x.toNat / 64:Nat):Int):=by unfold n8;omega
theorem Cy (x:UInt8):IntKind.i8.wrap (n8 x)=sgn x:=kQ (p:=fun x=>IntKind.i8.wrap (n8 x)=sgn x) (by decide +kernel) x
theorem s9 (x:UInt8):wrap64 (sgn x)=sgn x:=kQ (p:=fun x=>wrap64 (sgn x)=sgn x) (by decide +kernel) x
@[go_sem] theorem Bi (x:UInt64):IntKind.u32.wrap (n64 x)=n32 x.toUInt32:=by
 unfold n32 n64;rw [IntKind.wrap_u32,UInt64.toNat_toUInt32];omega
@[go_sem] theorem Bs (x:UInt64):n64 x % 4294967296=n32 x.toUInt32:=by
 unfold n32 n64;rw [UInt64.toNat_toUInt32];omega
theorem BF (b:List UInt8)(o:Nat) (h:o<b.length):n64 (dZ b o 1)=n8 (b.getD o 0):=by
 have e:(b.drop o).take 1=[b.getD o 0]:=by
  rw [List.drop_eq_getElem_cons h,List.getD_eq_getElem?_getD,List.getElem?_eq_getElem h];rfl
 unfold dZ
 rw [e]
 unfold dr tu n64 n8
 simp
end Go.Pkt
namespace Go.Proofs.YtmdahnkcnagkjaaGreat
open Go.RowKit Go.Sec Go.Oct Go.Pkt BigFrame
theorem bN {P:Program} {f:FuncId} {vs:Array Value} {w:World} {Q:Ending→World→Prop} (h:∀ W,W=w→Calls P f vs W Q):Calls P f vs w Q:=h w rfl
def iC (b:List UInt8)(g o:Nat) (w:World):Prop:=∃ A C,b.length-o≤C∧Blk w g 169 [.slice A (b.length-o) C]∧Sl w A (b.length-o) (b.drop o)
theorem iC.mut {b:List UInt8} {g o k:Nat} {w w':World} {t:TypeId} {vs:List Value} (h:iC b g o w) (hB:Blk w k t vs) (hne:∀ v∈vs,∀ x,v ≠ .int .u8 x) (hM:Mut k w w') (hk:g≠k):iC b g o w':=by
 obtain ⟨A,C,h1,h2,h3⟩:=h
 exact ⟨A,C,h1,Blk.turn hM h2 hk,Sl.mut h3 hB hne hM⟩
theorem lP (g o k:Nat) {kI:Int} (hkI:kI=(k:Int)) (b:List UInt8)(w:World)(hR:iC b g o w) (hk:o+k≤b.length) (h8:k≤8) :
  Calls Tryz.prog 111 #[.pointer (some ⟨g,0,none⟩), .int .i64 kI] w fun e w'=>e = .returned (.int .u64 (n64 (dZ b o k)))∧iC b g (o+k) w'∧Mut g w w':=by
 subst hkI
 obtain ⟨A,C,h1,hB,hS⟩:=hR
 have hN:k≤b.length-o:=by omega
 have hSk:=hS.take k hN
 have hSd:=hS.drop C k h1
 rw [abd] at hSd
 obtain ⟨N,hNe⟩:∃ N,b.length-o=N:=⟨_,rfl⟩
 have hM2:b.length-(o+k)=N-k:=by omega
 rw [hNe] at h1 hB hS hN hSd
 have hg:=fun W H=>ei A k C ((b.drop o).take k) W H (by omega) h8
 haveI:=hB.blt
 have f0:=hB.cell? 0 rfl
 have z0:=hB.free 0
 have i0:(0:Int)≤(k:Int):=by omega
 have i1:(k:Int)≤(N:Int):=by omega
 have i2:(k:Int)≤(C:Int):=by omega
 go_enter Tryz.func111,Tryz.ntmps111
 go_wp2_with (first
  | (go_at_call 120;refine (hg _ (hSk.ext eX)).mono ?_;rintro e w1 ⟨rfl,hxq⟩;obtain ⟨xq,rfl⟩:=hxq.out;clear hxq)
  | fail)
 go_ret
 have hx:Ext w (w.ext xq):=Ext.of_ext _ _
 have hM:Mut g (w.ext xq) ((w.ext xq).setCell ⟨g,0,none⟩ (.slice (dU A C k 1) (N-k) (C-k))):=(Mut.refl _ _).setCell 0 _
 refine ⟨rfl,⟨dU A C k 1,C-k,by omega,?_,?_⟩,(Mut.of_ext hx).trans hM⟩
 ·rw [hM2];exact (hB.extB hx).set 0 _
 ·rw [hM2];exact Sl.mut (hSd.ext hx) (hB.extB hx) (by simp) hM
def hdC (b:List UInt8)(s p q:Value)(k j:Nat):List Value:=[.int .i64 (rdH b).leap, .int .i64 (rdH b).ver, .int .i64 (rdH b).mode,s,p,q] ++
 (([.int .u32 (n32 (rdH b).rd), .int .u32 (n32 (rdH b).rp), .int .u32 (n32 (rdH b).id)].take k++List.replicate (3-k) (.int .u32 0))++([.int .u64 (n64 (rdH b).ref), .int .u64 (n64 (rdH b).org), .int .u64 (n64 (rdH b).rcv), .int .u64 (n64 (rdH b).tx)].take j++List.replicate (4-j) (.int .u64 0)))
theorem jl (b:List UInt8)(s p q:Int) (k j:Nat):∀ v∈hdC b (.int .i64 s) (.int .i64 p) (.int .i64 q) k j,∀ x,v ≠ .int .u8 x:=by
 intro v hv x e
 subst e
 unfold hdC at hv
 simp only [q7q] at hv
 rcases hv with hv|(hv|hv)|(hv|hv)
 ·simp at hv
 ·have:=aa4 hv;simp at this
 ·have:=abA hv;injection this with h;cases h
 ·have:=aa4 hv;simp at this
 ·have:=abA hv;injection this with h;cases h
def fU (r:(Hdr × List UInt8) × Int) (w:World)(e:Ending) (w':World):Prop :=
 ∃ a c,e = .returned (.tuple #[.agg #[.int .i64 r.1.1.leap, .int .i64 r.1.1.ver, .int .i64 r.1.1.mode, .int .i64 r.1.1.strat, .int .i64 r.1.1.poll, .int .i64 r.1.1.prec, .int .u32 (n32 r.1.1.rd), .int .u32 (n32 r.1.1.rp), .int .u32 (n32 r.1.1.id), .int .u64 (n64 r.1.1.ref), .int .u64 (n64 r.1.1.org), .int .u64 (n64 r.1.1.rcv), .int .u64 (n64 r.1.1.tx)], .slice a r.1.2.length c, .int .i64 r.2])∧Sl w' a r.1.2.length r.1.2∧r.1.2.length≤c∧Ext w w'
theorem fU.err (w w':World)(e:Int) (hx:Ext w w'):fU ((gM,[]),e) w (.returned (.tuple #[.agg #[.int .i64 0, .int .i64 0, .int .i64 0, .int .i64 0, .int .i64 0, .int .i64 0, .int .u32 0, .int .u32 0, .int .u32 0, .int .u64 0, .int .u64 0, .int .u64 0, .int .u64 0], .slice none 0 0, .int .i64 e])) w' :=
 ⟨none,0,rfl,Sl.nil _ _,aag _,hx⟩
theorem _root_.z36q0{p:Prop}(h:p:=by
 clear hR2 hH2 hE2
 obtain ⟨k,hk,rfl,hR,hH,hE⟩:=hrel
 obtain rfl|rfl|rfl|rfl:k=0∨k=1∨k=2∨k=3:=by omega
 ·simp only [Nat.reduceAdd,Nat.reduceMul,aat] at hR ⊢
  go_wp2_with (first
   | (refine aR 173 172 3 Tryz.underlying173 (.inr ⟨_,Tryz.underlying172⟩) (by kernel_rfl) rfl _ _ rfl _ 0 _ rfl rfl (by omega) rfl ?_)
   | fail)
  (with_reducible refine (hn4 _ _ _ hR (by omega)).mono ?_)
  rintro e w5 ⟨rfl,hR5,hM⟩
  have hH5:=Blk.turn hM hH (by omega)
  have hE5:=Below.trans hE (hM.below (by omega) hE.size)
  haveI:=hH5.blt
  have z:=hH5.free (6+0)
  have ff:=hH5.cell? (6+0) rfl
  simp only [Nat.reduceAdd] at z ff
  go_wp2_with fail
  have hM6:=(Mut.refl w.heap.size w5).setCell (6+0) (.int .u32 (n32 (dZ b (4+4*0) 4).toUInt32))
  go_roundw
  case rel=>exact ⟨0+1,by omega,by go_num,hR5.mut hH5 (jl _ _ _ _ _ _) hM6 (by omega),hH5.set (6+0) _,Below.trans hE5 (hM6.below (by omega) hE5.size)⟩
  case measure=>simp [intOf]
 ·simp only [Nat.reduceAdd,Nat.reduceMul,aat] at hR ⊢
  go_wp2_with (first
   | (refine aR 173 172 3 Tryz.underlying173 (.inr ⟨_,Tryz.underlying172⟩) (by kernel_rfl) rfl _ _ rfl _ 1 _ rfl rfl (by omega) rfl ?_)
   | fail)
  (with_reducible refine (hn4 _ _ _ hR (by omega)).mono ?_)
  rintro e w5 ⟨rfl,hR5,hM⟩
  have hH5:=Blk.turn hM hH (by omega)
  have hE5:=Below.trans hE (hM.below (by omega) hE.size)
  haveI:=hH5.blt
  have z:=hH5.free (6+1)
  have ff:=hH5.cell? (6+1) rfl
  simp only [Nat.reduceAdd] at z ff
  go_wp2_with fail
  have hM6:=(Mut.refl w.heap.size w5).setCell (6+1) (.int .u32 (n32 (dZ b (4+4*1) 4).toUInt32))
  go_roundw
  case rel=>exact ⟨1+1,by omega,by go_num,hR5.mut hH5 (jl _ _ _ _ _ _) hM6 (by omega),hH5.set (6+1) _,Below.trans hE5 (hM6.below (by omega) hE5.size)⟩
  case measure=>simp [intOf]
 ·simp only [Nat.reduceAdd,Nat.reduceMul,aat] at hR ⊢
  go_wp2_with (first
   | (refine aR 173 172 3 Tryz.underlying173 (.inr ⟨_,Tryz.underlying172⟩) (by kernel_rfl) rfl _ _ rfl _ 2 _ rfl rfl (by omega) rfl ?_)
   | fail)
  (with_reducible refine (hn4 _ _ _ hR (by omega)).mono ?_)
  rintro e w5 ⟨rfl,hR5,hM⟩
  have hH5:=Blk.turn hM hH (by omega)
  have hE5:=Below.trans hE (hM.below (by omega) hE.size)
  haveI:=hH5.blt
  have z:=hH5.free (6+2)
  have ff:=hH5.cell? (6+2) rfl
  simp only [Nat.reduceAdd] at z ff
  go_wp2_with fail
  have hM6:=(Mut.refl w.heap.size w5).setCell (6+2) (.int .u32 (n32 (dZ b (4+4*2) 4).toUInt32))
  go_roundw
  case rel=>exact ⟨2+1,by omega,by go_num,hR5.mut hH5 (jl _ _ _ _ _ _) hM6 (by omega),hH5.set (6+2) _,Below.trans hE5 (hM6.below (by omega) hE5.size)⟩
  case measure=>simp [intOf]
 ·simp only [Nat.reduceAdd,Nat.reduceMul,aat] at hR ⊢
  go_wp2_with fail
  go_loopw [11,78] (fun _ v78 wr=>∃ k:Nat,k≤4∧v78 = .int .i64 k∧iC b (w.heap.size+1) (16+8*k) wr∧Blk wr w.heap.size 64 (hdC b (.int .i64 (rdH b).strat) (.int .i64 (rdH b).poll) (.int .i64 (rdH b).prec) 3 k)∧Ext w wr) (fun _ v78 _=>4-(intOf v78).toNat)
  case atStart=>exact ⟨0,by omega,rfl,hR,hH,hE⟩
  case round =>
   clear hR hH hE
   obtain ⟨k,hk,rfl,hR,hH,hE⟩:=hrel
   obtain rfl|rfl|rfl|rfl|rfl:k=0∨k=1∨k=2∨k=3∨k=4:=by omega
   ·simp only [Nat.reduceAdd,Nat.reduceMul,aat] at hR ⊢
    go_wp2_with (first
     | (refine aR 175 174 4 Tryz.underlying175 (.inr ⟨_,Tryz.underlying174⟩) (by kernel_rfl) rfl _ _ rfl _ 0 _ rfl rfl (by omega) rfl ?_)
     | fail)
    (with_reducible refine (hn8 _ _ _ hR (by omega)).mono ?_)
    rintro e w5 ⟨rfl,hR5,hM⟩
    have hH5:=Blk.turn hM hH (by omega)
    have hE5:=Below.trans hE (hM.below (by omega) hE.size)
    haveI:=hH5.blt
    have z:=hH5.free (9+0)
    have ff:=hH5.cell? (9+0) rfl
    simp only [Nat.reduceAdd] at z ff
    go_wp2_with fail
    have hM6:=(Mut.refl w.heap.size w5).setCell (9+0) (.int .u64 (n64 (dZ b (16+8*0) 8)))
    go_roundw
    case rel=>exact ⟨0+1,by omega,by go_num,hR5.mut hH5 (jl _ _ _ _ _ _) hM6 (by omega),hH5.set (9+0) _,Below.trans hE5 (hM6.below (by omega) hE5.size)⟩
    case measure=>simp [intOf]
   ·simp only [Nat.reduceAdd,Nat.reduceMul,aat] at hR ⊢
    go_wp2_with (first
     | (refine aR 175 174 4 Tryz.underlying175 (.inr ⟨_,Tryz.underlying174⟩) (by kernel_rfl) rfl _ _ rfl _ 1 _ rfl rfl (by omega) rfl ?_)
     | fail)
    (with_reducible refine (hn8 _ _ _ hR (by omega)).mono ?_)
    rintro e w5 ⟨rfl,hR5,hM⟩
    have hH5:=Blk.turn hM hH (by omega)
    have hE5:=Below.trans hE (hM.below (by omega) hE.size)
    haveI:=hH5.blt
    have z:=hH5.free (9+1)
    have ff:=hH5.cell? (9+1) rfl
    simp only [Nat.reduceAdd] at z ff
    go_wp2_with fail
    have hM6:=(Mut.refl w.heap.size w5).setCell (9+1) (.int .u64 (n64 (dZ b (16+8*1) 8)))
    go_roundw
    case rel=>exact ⟨1+1,by omega,by go_num,hR5.mut hH5 (jl _ _ _ _ _ _) hM6 (by omega),hH5.set (9+1) _,Below.trans hE5 (hM6.below (by omega) hE5.size)⟩
    case measure=>simp [intOf]
   ·simp only [Nat.reduceAdd,Nat.reduceMul,aat] at hR ⊢
    go_wp2_with (first
     | (refine aR 175 174 4 Tryz.underlying175 (.inr ⟨_,Tryz.underlying174⟩) (by kernel_rfl) rfl _ _ rfl _ 2 _ rfl rfl (by omega) rfl ?_)
     | fail)
    (with_reducible refine (hn8 _ _ _ hR (by omega)).mono ?_)
    rintro e w5 ⟨rfl,hR5,hM⟩
    have hH5:=Blk.turn hM hH (by omega)
    have hE5:=Below.trans hE (hM.below (by omega) hE.size)
    haveI:=hH5.blt
    have z:=hH5.free (9+2)
    have ff:=hH5.cell? (9+2) rfl
    simp only [Nat.reduceAdd] at z ff
    go_wp2_with fail
    have hM6:=(Mut.refl w.heap.size w5).setCell (9+2) (.int .u64 (n64 (dZ b (16+8*2) 8)))
    go_roundw
    case rel=>exact ⟨2+1,by omega,by go_num,hR5.mut hH5 (jl _ _ _ _ _ _) hM6 (by omega),hH5.set (9+2) _,Below.trans hE5 (hM6.below (by omega) hE5.size)⟩
    case measure=>simp [intOf]
   ·simp only [Nat.reduceAdd,Nat.reduceMul,aat] at hR ⊢
    go_wp2_with (first
     | (refine aR 175 174 4 Tryz.underlying175 (.inr ⟨_,Tryz.underlying174⟩) (by kernel_rfl) rfl _ _ rfl _ 3 _ rfl rfl (by omega) rfl ?_)
     | fail)
    (with_reducible refine (hn8 _ _ _ hR (by omega)).mono ?_)
    rintro e w5 ⟨rfl,hR5,hM⟩
    have hH5:=Blk.turn hM hH (by omega)
    have hE5:=Below.trans hE (hM.below (by omega) hE.size)
    haveI:=hH5.blt
    have z:=hH5.free (9+3)
    have ff:=hH5.cell? (9+3) rfl
    simp only [Nat.reduceAdd] at z ff
    go_wp2_with fail
    have hM6:=(Mut.refl w.heap.size w5).setCell (9+3) (.int .u64 (n64 (dZ b (16+8*3) 8)))
    go_roundw
    case rel=>exact ⟨3+1,by omega,by go_num,hR5.mut hH5 (jl _ _ _ _ _ _) hM6 (by omega),hH5.set (9+3) _,Below.trans hE5 (hM6.below (by omega) hE5.size)⟩
    case measure=>simp [intOf]
   ·simp only [Nat.reduceAdd,Nat.reduceMul,aat] at hR ⊢
    obtain ⟨A,C,g1,hB,hS⟩:=hR
    have hH:Blk wr w.heap.size 64 [.int .i64 (rdH b).leap, .int .i64 (rdH b).ver, .int .i64 (rdH b).mode, .int .i64 (rdH b).strat, .int .i64 (rdH b).poll, .int .i64 (rdH b).prec, .int .u32 (n32 (rdH b).rd), .int .u32 (n32 (rdH b).rp), .int .u32 (n32 (rdH b).id), .int .u64 (n64 (rdH b).ref), .int .u64 (n64 (rdH b).org), .int .u64 (n64 (rdH b).rcv), .int .u64 (n64 (rdH b).tx)]:=hH
    obtain ⟨N,hN⟩:∃ N,b.length-48=N:=⟨_,rfl⟩
    rw [hN] at g1 hB hS
    have hdl:(b.drop 48).length=N:=by rw [aaR,hN]
    haveI:=hB.blt
    have fR:=hB.cell? 0 rfl
    go_wp2_with fail
    refine ae 3 [[],[],[1],[0,1,2],[0,1,2,3],[0,1,2,3,4]] (by kernel_rfl) (by kernel_rfl) (by kernel_rfl) (by kernel_rfl) ?_;simp only [q8q,q9q,q10q,q11q,q12q,q13q]
    (refine aw (bc) _ rfl (fun _=>rfl) (w.heap.size) (0) (fun _=>by simp [go_sem]) ([.int .i64 (rdH b).leap, .int .i64 (rdH b).ver, .int .i64 (rdH b).mode, .int .i64 (rdH b).strat, .int .i64 (rdH b).poll, .int .i64 (rdH b).prec, .int .u32 (n32 (rdH b).rd), .int .u32 (n32 (rdH b).rp), .int .u32 (n32 (rdH b).id), .int .u64 (n64 (rdH b).ref), .int .u64 (n64 (rdH b).org), .int .u64 (n64 (rdH b).rcv), .int .u64 (n64 (rdH b).tx)]) (hH.rd) (rfl) ?_)
    (repeat (refine aA ?_;(try simp only [Act.put,q0q,q1q,q2q])))
    (refine aj (fun p => .slice (p 0).1 (N) (p 0).2) (fun p w''=>Own w'' 0 (p 0).1 (N) (p 0).2 (b.drop 48)) (fun p w w' h hx=>h.ext hx) (fun us w' hx hf=>⟨rfl,?_⟩) ?_;(unfold gives;simp [go_sem,execOp];exact az (aan _) (ed A N C (b.drop 48) _ (hS.ext hx) (by omega))))
    (refine aT ?_;intro us x hx hf;(try simp only [Act.put,q0q,q1q,q2q,ag]);(try simp only [q3q,q4q,aao,aaa,aal,q5q,q6q,q7q,aap,aaq,aar] at hf);(try simp only [Nat.reduceAdd,aad] at hf ⊢))
    obtain ⟨a5,ha5⟩:∃ a,(us 2 0).1=a:=⟨_,rfl⟩
    obtain ⟨c5,hc5⟩:∃ a,(us 2 0).2=a:=⟨_,rfl⟩
    have hO:=hf
    rw [ha5,hc5] at hO ⊢
    clear ha5 hc5 hf fR
    have hxx:Ext wr (wr.ext x):=Ext.of_ext _ _
    have hHx:=hH.extB hxx
    have hEx:=hE.trans hxx
    go_wp2_with (first
     | (refine aa (bc) rfl _ _ rfl (w.heap.size) (0) rfl ([.int .i64 (rdH b).leap, .int .i64 (rdH b).ver, .int .i64 (rdH b).mode, .int .i64 (rdH b).strat, .int .i64 (rdH b).poll, .int .i64 (rdH b).prec, .int .u32 (n32 (rdH b).rd), .int .u32 (n32 (rdH b).rp), .int .u32 (n32 (rdH b).id), .int .u64 (n64 (rdH b).ref), .int .u64 (n64 (rdH b).org), .int .u64 (n64 (rdH b).rcv), .int .u64 (n64 (rdH b).tx)]) rfl (64) _ (hHx) (rfl) (by simp) (oC) ?_;intro V hV hMV)
     | fail)
    refine aac (aD Tryz.results76 (bc) _ _ (w.heap.size) (0) ([.int .i64 (rdH b).leap, .int .i64 (rdH b).ver, .int .i64 (rdH b).mode, .int .i64 (rdH b).strat, .int .i64 (rdH b).poll, .int .i64 (rdH b).prec, .int .u32 (n32 (rdH b).rd), .int .u32 (n32 (rdH b).rp), .int .u32 (n32 (rdH b).id), .int .u64 (n64 (rdH b).ref), .int .u64 (n64 (rdH b).org), .int .u64 (n64 (rdH b).rcv), .int .u64 (n64 (rdH b).tx)]) rfl (hV.rd) (rfl) (.slice a5 N c5) (.int .i64 0) rfl rfl) rfl ?_
    have hOV:=Sl.mut (vs:=hdC b (.int .i64 (rdH b).strat) (.int .i64 (rdH b).poll) (.int .i64 (rdH b).prec) 3 4) hO.sl hHx (jl _ _ _ _ _ _) hMV
    rw [er]
    exact ⟨a5,c5,by rw [hdl],by rw [hdl];exact hOV,by rw [hdl];exact hO.le.1,Below.trans hEx (hMV.below (by omega) hEx.size)⟩):p:=h
theorem se (a:Option Addr)(n c:Nat) (b:List UInt8)(w:World)(hS:Sl w a n b) (hc:n≤c) (hn:n≤1000000) :
  Calls Tryz.prog 76 #[.slice a n c] w (fU (bO b) w):=by
 have hl:=hS.len
 by_cases h1:n<48
 ·have er:bO b=((gM,[]),1):=aam (by omega)
  rw [er]
  have i1:(n:Int)<48:=by omega
  clear hl
  go_enter Tryz.func76,Tryz.ntmps76
  go_wp2_with (first
   | (refine aa (bc) rfl _ _ rfl (w.heap.size) (0) rfl ([.int .i64 0, .int .i64 0, .int .i64 0, .int .i64 0, .int .i64 0, .int .i64 0, .int .u32 0, .int .u32 0, .int .u32 0, .int .u64 0, .int .u64 0, .int .u64 0, .int .u64 0]) rfl (64) _ (bK) (rfl) (by simp) (by first|exact aK _|(simp;done)|(simp;(repeat' (first|rfl|constructor)))) ?_;intro V hV hMV)
   | fail)
  refine aac (aD Tryz.results76 (bc) _ _ (w.heap.size) (0) ([.int .i64 0, .int .i64 0, .int .i64 0, .int .i64 0, .int .i64 0, .int .i64 0, .int .u32 0, .int .u32 0, .int .u32 0, .int .u64 0, .int .u64 0, .int .u64 0, .int .u64 0]) rfl (hV.rd) (rfl) (.slice none 0 0) (.int .i64 1) rfl rfl) rfl ?_
  exact fU.err _ _ _ (Below.trans (b:=w.alloc _) eX (hMV.below (by omega) (by simp)))
 ·have i1:¬ (n:Int)<48:=by omega
  by_cases h2:1280<n
  ·have er:bO b=((gM,[]),2):=by unfold bO;rw [aaf (by omega),aam (by omega)]
   rw [er]
   have i2:(1280:Int)<(n:Int):=by omega
   clear hl
   go_enter Tryz.func76,Tryz.ntmps76
   go_wp2_with (first
    | (refine aa (bc) rfl _ _ rfl (w.heap.size) (0) rfl ([.int .i64 0, .int .i64 0, .int .i64 0, .int .i64 0, .int .i64 0, .int .i64 0, .int .u32 0, .int .u32 0, .int .u32 0, .int .u64 0, .int .u64 0, .int .u64 0, .int .u64 0]) rfl (64) _ (bK) (rfl) (by simp) (by first|exact aK _|(simp;done)|(simp;(repeat' (first|rfl|constructor)))) ?_;intro V hV hMV)
    | fail)
   refine aac (aD Tryz.results76 (bc) _ _ (w.heap.size) (0) ([.int .i64 0, .int .i64 0, .int .i64 0, .int .i64 0, .int .i64 0, .int .i64 0, .int .u32 0, .int .u32 0, .int .u32 0, .int .u64 0, .int .u64 0, .int .u64 0, .int .u64 0]) rfl (hV.rd) (rfl) (.slice none 0 0) (.int .i64 2) rfl rfl) rfl ?_
   exact fU.err _ _ _ (Below.trans (b:=w.alloc _) eX (hMV.below (by omega) (by simp)))
  ·have i2:¬ (1280:Int)<(n:Int):=by omega
   obtain ⟨r,hr⟩:∃ r,bO b=r:=⟨_,rfl⟩
   have hr1:(rdH b).ver=4∨(rdH b).ver=3→r=((rdH b,b.drop 48),0):=fun h=>by rw [← hr];unfold bO;rw [aaf (by omega),aaf (by omega),aam h]
   have hr2:¬ ((rdH b).ver=4∨(rdH b).ver=3)→r=((gM,[]),3):=fun h=>by rw [← hr];unfold bO;rw [aaf (by omega),aaf (by omega),aaf h]
   rw [hr]
   clear hr
   obtain ⟨f,hf⟩:∃ f:Nat→UInt8,∀ o,b.getD o 0=f o:=⟨_,fun _=>rfl⟩
   have hn1:∀ g o W,iC b g o W→o<b.length→Calls Tryz.prog 111 #[.pointer (some ⟨g,0,none⟩), .int .i64 1] W fun e w'=>e = .returned (.int .u64 (n8 (f o)))∧iC b g (o+1) w'∧Mut g W w':=fun g o W H h=>by
    have:=lP g o 1 (show (1:Int)=((1:Nat):Int) from rfl) b W H h (by omega)
    rwa [BF b o h,hf] at this
   have hn4:=fun g o W (H:iC b g o W) (h:o+4≤b.length)=>lP g o 4 (show (4:Int)=((4:Nat):Int) from rfl) b W H h (by omega)
   have hn8:=fun g o W (H:iC b g o W) (h:o+8≤b.length)=>lP g o 8 (show (8:Int)=((8:Nat):Int) from rfl) b W H h (by omega)
   go_enter Tryz.func76,Tryz.ntmps76
   go_wp2_with fail
   refine bN ?_
   intro W hW
   have hE:Ext w W:=by rw [hW];exact eX
   have hH:Blk W w.heap.size 64 [.int .i64 0, .int .i64 0, .int .i64 0, .int .i64 0, .int .i64 0, .int .i64 0, .int .u32 0, .int .u32 0, .int .u32 0, .int .u64 0, .int .u64 0, .int .u64 0, .int .u64 0]:=by rw [hW];exact bK
   have hR:iC b (w.heap.size+1) 0 W:=⟨a,c,by omega,by rw [hW,hl];exact bK,by rw [hl];exact hS.ext hE⟩
   clear hW
   have e1:n8 (f 0) / 64=(rdH b).leap:=by rw [← hf];exact BO _
   have e2:bits .and .i64 (n8 (f 0) / 8) 7=(rdH b).ver:=by rw [← hf];exact Ci _
   have e3:bits .and .i64 (n8 (f 0)) 7=(rdH b).mode:=by rw [← hf];exact CZ _
   have e4:=Lib.hid (show n8 (f 1)=(rdH b).strat by rw [← hf];rfl)
   have e5:=Cy (f 2)
   have e6:=Cy (f 3)
   have e7:wrap64 (sgn (f 2))=(rdH b).poll:=by rw [← hf];exact s9 _
   have e8:wrap64 (sgn (f 3))=(rdH b).prec:=by rw [← hf];exact s9 _
   clear hf
   (with_reducible refine (hn1 _ _ _ hR (by omega)).mono ?_)
   rintro e w1 ⟨rfl,hR,hM⟩
   have hR:iC b (w.heap.size+1) 1 w1:=hR
   have hH:=Blk.turn hM hH (by omega)
   have hE:=Below.trans hE (hM.below (by omega) hE.size)
   clear hM
   haveI:=hH.blt
   have z0:=hH.free 0
   have z1:=hH.free 1
   have z2:=hH.free 2
   have f0:=hH.cell? 0 rfl
   have f1:=hH.cell? 1 rfl
   have f2:=hH.cell? 2 rfl
   by_cases v4:(rdH b).ver=4
   ·have q4:((rdH b).ver != 4)=false:=by rw [v4];rfl
    have er:=hr1 (.inl v4)
    clear v4 hr1 hr2
    go_wp2_with fail
    clear z0 z1 z2 f0 f1 f2
    refine bN ?_
    intro W1 hW1
    have hH1:Blk W1 w.heap.size 64 [.int .i64 (rdH b).leap, .int .i64 (rdH b).ver, .int .i64 (rdH b).mode, .int .i64 0, .int .i64 0, .int .i64 0, .int .u32 0, .int .u32 0, .int .u32 0, .int .u64 0, .int .u64 0, .int .u64 0, .int .u64 0]:=by rw [hW1];exact ((hH.set 0 _).set 1 _).set 2 _
    have hM1:Mut w.heap.size w1 W1:=by rw [hW1];exact (by repeat (with_reducible first|exact Mut.refl _ _|assumption|apply Mut.ext|apply Mut.drew|apply Mut.alloc|apply Mut.setCell))
    have hR1:=hR.mut hH (by simp) hM1 (by omega)
    have hE1:=Below.trans hE (hM1.below (by omega) hE.size)
    clear hW1 hM1 hR hE hH
    (with_reducible refine (hn1 _ _ _ hR1 (by omega)).mono ?_)
    rintro e w2 ⟨rfl,hR,hM⟩
    have hR:iC b (w.heap.size+1) 2 w2:=hR
    have hH:=Blk.turn hM hH1 (by omega)
    have hE:=Below.trans hE1 (hM.below (by omega) hE1.size)
    clear hM hR1 hH1 hE1
    go_wp2_with fail
    (with_reducible refine (hn1 _ _ _ hR (by omega)).mono ?_)
    rintro e w3 ⟨rfl,hR3,hM⟩
    have hR3:iC b (w.heap.size+1) 3 w3:=hR3
    have hH3:=Blk.turn hM hH (by omega)
    have hE3:=Below.trans hE (hM.below (by omega) hE.size)
    clear hM hR hH hE
    go_wp2_with fail
    (with_reducible refine (hn1 _ _ _ hR3 (by omega)).mono ?_)
    rintro e w4 ⟨rfl,hR,hM⟩
    have hR:iC b (w.heap.size+1) 4 w4:=hR
    have hH:=Blk.turn hM hH3 (by omega)
    have hE:=Below.trans hE3 (hM.below (by omega) hE3.size)
    clear hM hR3 hH3 hE3
    haveI:=hH.blt
    have z3:=hH.free 3
    have z4:=hH.free 4
    have z5:=hH.free 5
    have f3:=hH.cell? 3 rfl
    have f4:=hH.cell? 4 rfl
    have f5:=hH.cell? 5 rfl
    go_wp2_with fail
    clear z3 z4 z5 f3 f4 f5
    refine dg ?_
    intro W2 hW2
    have hH2:Blk W2 w.heap.size 64 (hdC b (.int .i64 (rdH b).strat) (.int .i64 (rdH b).poll) (.int .i64 (rdH b).prec) 0 0):=by rw [hW2,← e4.out];exact ((hH.set 3 _).set 4 _).set 5 _
    have hM2:Mut w.heap.size w4 W2:=by rw [hW2];exact (by repeat (with_reducible first|exact Mut.refl _ _|assumption|apply Mut.ext|apply Mut.drew|apply Mut.alloc|apply Mut.setCell))
    have hR2:=hR.mut hH (by simp) hM2 (by omega)
    have hE2:=Below.trans hE (hM2.below (by omega) hE.size)
    clear hW2 hM2 hR hE hH hn1 e1 e2 e3 e4 e5 e6 e7 e8
    go_loopw [9,64] (fun _ v64 wr=>∃ k:Nat,k≤3∧v64 = .int .i64 k∧iC b (w.heap.size+1) (4+4*k) wr∧Blk wr w.heap.size 64 (hdC b (.int .i64 (rdH b).strat) (.int .i64 (rdH b).poll) (.int .i64 (rdH b).prec) k 0)∧Ext w wr) (fun _ v64 _=>3-(intOf v64).toNat)
    case atStart=>exact ⟨0,by omega,rfl,hR2,hH2,hE2⟩
    case round =>
     exact z36q0
   ·have q4:((rdH b).ver != 4)=true:=by rw [aaw];exact v4
    by_cases v3:(rdH b).ver=3
    ·have q3:((rdH b).ver != 3)=false:=by rw [v3];rfl
     have er:=hr1 (.inr v3)
     clear v3 v4 hr1 hr2
     go_wp2_with fail
     clear z0 z1 z2 f0 f1 f2
     refine bN ?_
     intro W1 hW1
     have hH1:Blk W1 w.heap.size 64 [.int .i64 (rdH b).leap, .int .i64 (rdH b).ver, .int .i64 (rdH b).mode, .int .i64 0, .int .i64 0, .int .i64 0, .int .u32 0, .int .u32 0, .int .u32 0, .int .u64 0, .int .u64 0, .int .u64 0, .int .u64 0]:=by rw [hW1];exact ((hH.set 0 _).set 1 _).set 2 _
     have hM1:Mut w.heap.size w1 W1:=by rw [hW1];exact (by repeat (with_reducible first|exact Mut.refl _ _|assumption|apply Mut.ext|apply Mut.drew|apply Mut.alloc|apply Mut.setCell))
     have hR1:=hR.mut hH (by simp) hM1 (by omega)
     have hE1:=Below.trans hE (hM1.below (by omega) hE.size)
     clear hW1 hM1 hR hE hH
     (with_reducible refine (hn1 _ _ _ hR1 (by omega)).mono ?_)
     rintro e w2 ⟨rfl,hR,hM⟩
     have hR:iC b (w.heap.size+1) 2 w2:=hR
     have hH:=Blk.turn hM hH1 (by omega)
     have hE:=Below.trans hE1 (hM.below (by omega) hE1.size)
     clear hM hR1 hH1 hE1
     go_wp2_with fail
     (with_reducible refine (hn1 _ _ _ hR (by omega)).mono ?_)
     rintro e w3 ⟨rfl,hR3,hM⟩
     have hR3:iC b (w.heap.size+1) 3 w3:=hR3
     have hH3:=Blk.turn hM hH (by omega)
     have hE3:=Below.trans hE (hM.below (by omega) hE.size)
     clear hM hR hH hE
     go_wp2_with fail
     (with_reducible refine (hn1 _ _ _ hR3 (by omega)).mono ?_)
     rintro e w4 ⟨rfl,hR,hM⟩
     have hR:iC b (w.heap.size+1) 4 w4:=hR
     have hH:=Blk.turn hM hH3 (by omega)
     have hE:=Below.trans hE3 (hM.below (by omega) hE3.size)
     clear hM hR3 hH3 hE3
     haveI:=hH.blt
     have z3:=hH.free 3
     have z4:=hH.free 4
     have z5:=hH.free 5
     have f3:=hH.cell? 3 rfl
     have f4:=hH.cell? 4 rfl
     have f5:=hH.cell? 5 rfl
     go_wp2_with fail
     clear z3 z4 z5 f3 f4 f5
     refine dg ?_
     intro W2 hW2
     have hH2:Blk W2 w.heap.size 64 (hdC b (.int .i64 (rdH b).strat) (.int .i64 (rdH b).poll) (.int .i64 (rdH b).prec) 0 0):=by rw [hW2,← e4.out];exact ((hH.set 3 _).set 4 _).set 5 _
     have hM2:Mut w.heap.size w4 W2:=by rw [hW2];exact (by repeat (with_reducible first|exact Mut.refl _ _|assumption|apply Mut.ext|apply Mut.drew|apply Mut.alloc|apply Mut.setCell))
     have hR2:=hR.mut hH (by simp) hM2 (by omega)
     have hE2:=Below.trans hE (hM2.below (by omega) hE.size)
     clear hW2 hM2 hR hE hH hn1 e1 e2 e3 e4 e5 e6 e7 e8
     go_loopw [9,64] (fun _ v64 wr=>∃ k:Nat,k≤3∧v64 = .int .i64 k∧iC b (w.heap.size+1) (4+4*k) wr∧Blk wr w.heap.size 64 (hdC b (.int .i64 (rdH b).strat) (.int .i64 (rdH b).poll) (.int .i64 (rdH b).prec) k 0)∧Ext w wr) (fun _ v64 _=>3-(intOf v64).toNat)
     case atStart=>exact ⟨0,by omega,rfl,hR2,hH2,hE2⟩
     case round =>
      exact z36q0
    ·have q3:((rdH b).ver != 3)=true:=by rw [aaw];exact v3
     have er:=hr2 (fun h=>h.elim v4 v3)
     clear v3 v4 hr1 hr2
     go_wp2_with (first
      | (refine aa (bc) rfl _ _ rfl (w.heap.size) (0) rfl ([.int .i64 0, .int .i64 0, .int .i64 0, .int .i64 0, .int .i64 0, .int .i64 0, .int .u32 0, .int .u32 0, .int .u32 0, .int .u64 0, .int .u64 0, .int .u64 0, .int .u64 0]) rfl (64) _ ((((hH.set 0 (.int .i64 (rdH b).leap)).set 1 (.int .i64 (rdH b).ver)).set 2 (.int .i64 (rdH b).mode))) (rfl) (by simp) (by first|exact aK _|(simp;done)|(simp;(repeat' (first|rfl|constructor)))) ?_;intro V hV hMV)
      | fail)
     refine aac (aD Tryz.results76 (bc) _ _ (w.heap.size) (0) ([.int .i64 0, .int .i64 0, .int .i64 0, .int .i64 0, .int .i64 0, .int .i64 0, .int .u32 0, .int .u32 0, .int .u32 0, .int .u64 0, .int .u64 0, .int .u64 0, .int .u64 0]) rfl (hV.rd) (rfl) (.slice none 0 0) (.int .i64 3) rfl rfl) rfl ?_
     rw [er]
     have hM3:Mut w.heap.size w1 (((w1.setCell ⟨w.heap.size,0,none⟩ (.int .i64 (rdH b).leap)).setCell ⟨w.heap.size,1,none⟩ (.int .i64 (rdH b).ver)).setCell ⟨w.heap.size,2,none⟩ (.int .i64 (rdH b).mode)):=(by repeat (with_reducible first|exact Mut.refl _ _|assumption|apply Mut.ext|apply Mut.drew|apply Mut.alloc|apply Mut.setCell))
     exact fU.err _ _ _ (Below.trans hE ((hM3.trans hMV).below (by omega) hE.size))
end Go.Proofs.YtmdahnkcnagkjaaGreat

/- The walks of layer 16 of the document: Valid, Encode, signed, Reply. -/
namespace Go.Sec
open Go.RowKit
theorem C9 {w:World} {a1 a2 a3 a4 a5 a6 a7 a8:Option Addr} {n1 n2 n3 n4 n5 n6 n7 n8 c1 c2 c3 c4 c5 c6 c7 c8:Nat} {l1 l2 l3 l4 l5 l6 l7 l8:List UInt8} (h1:Sl w a1 n1 l1) (h2:Sl w a2 n2 l2) (h3:Sl w a3 n3 l3) (h4:Sl w a4 n4 l4) (h5:Sl w a5 n5 l5) (h6:Sl w a6 n6 l6) (h7:Sl w a7 n7 l7) (h8:Sl w a8 n8 l8) (t:TypeId) :
  Bss (w.alloc (.cells #[.slice a1 n1 c1, .slice a2 n2 c2, .slice a3 n3 c3, .slice a4 n4 c4, .slice a5 n5 c5, .slice a6 n6 c6, .slice a7 n7 c7, .slice a8 n8 c8] t)) (some ⟨w.heap.size,0,none⟩) 8 [l1,l2,l3,l4,l5,l6,l7,l8]:=by
 have hx:=Ext.of_alloc w (.cells #[.slice a1 n1 c1, .slice a2 n2 c2, .slice a3 n3 c3, .slice a4 n4 c4, .slice a5 n5 c5, .slice a6 n6 c6, .slice a7 n7 c7, .slice a8 n8 c8] t)
 refine ⟨rfl, .inr ⟨_,0,rfl,by simp,fun k hk=>?_⟩⟩
 match k,hk with
 | 0,_=>exact ⟨a1,n1,c1,by simp [go_sem],h1.ext hx⟩
 | 1,_=>exact ⟨a2,n2,c2,by simp [go_sem],h2.ext hx⟩
 | 2,_=>exact ⟨a3,n3,c3,by simp [go_sem],h3.ext hx⟩
 | 3,_=>exact ⟨a4,n4,c4,by simp [go_sem],h4.ext hx⟩
 | 4,_=>exact ⟨a5,n5,c5,by simp [go_sem],h5.ext hx⟩
 | 5,_=>exact ⟨a6,n6,c6,by simp [go_sem],h6.ext hx⟩
 | 6,_=>exact ⟨a7,n7,c7,by simp [go_sem],h7.ext hx⟩
 | 7,_=>exact ⟨a8,n8,c8,by simp [go_sem],h8.ext hx⟩
end Go.Sec
namespace Go.Proofs.YtmdahnkcnagkjaaGreat
open Go.RowKit Go.Sec Go.Oct Go.Pkt BigFrame
theorem _root_.z36q51{p:Prop}(h:p:=by
 have e:=Lib.hid (hno (fun k=>by unfold okH at k;omega))
 clear hok hno
 go_enter Tryz.func72,Tryz.ntmps72
 go_wp2_with fail
 go_ret
 exact ⟨by rw [e.out];rfl,eX⟩):p:=h
theorem my (h:Hdr) (w:World) :
  Calls Tryz.prog 72 #[.agg #[.int .i64 h.leap, .int .i64 h.ver, .int .i64 h.mode, .int .i64 h.strat, .int .i64 h.poll, .int .i64 h.prec, .int .u32 (n32 h.rd), .int .u32 (n32 h.rp), .int .u32 (n32 h.id), .int .u64 (n64 h.ref), .int .u64 (n64 h.org), .int .u64 (n64 h.rcv), .int .u64 (n64 h.tx)]] w fun e w'=>e = .returned (.int .i64 (cP h).2)∧Ext w w':=by
 obtain ⟨r,hr⟩:∃ r,(cP h).2=r:=⟨_,rfl⟩
 rw [hr]
 have hok:okH h→r=0:=fun k=>by rw [← hr];unfold cP;rw [aam k]
 have hno:¬ okH h→r=4:=fun k=>by rw [← hr];unfold cP;rw [aaf k]
 clear hr
 by_cases c1:h.leap<0
 ·exact z36q51
 by_cases c2:3<h.leap
 ·exact z36q51
 by_cases v3:h.ver=3
 ·have i3:(h.ver != 3)=false:=by rw [aai];exact v3
  by_cases c5:h.mode<0
  ·exact z36q51
  by_cases c6:7<h.mode
  ·exact z36q51
  by_cases c7:h.strat<0
  ·exact z36q51
  by_cases c8:255<h.strat
  ·exact z36q51
  by_cases c9:h.poll < -128
  ·exact z36q51
  by_cases c10:127<h.poll
  ·exact z36q51
  by_cases c11:h.prec < -128
  ·exact z36q51
  by_cases c12:127<h.prec
  ·exact z36q51
  have e:=Lib.hid (hok (by unfold okH;omega))
  clear hok hno
  go_enter Tryz.func72,Tryz.ntmps72
  go_wp2_with fail
  go_ret
  exact ⟨by rw [e.out];rfl,eX⟩
 ·have i3:(h.ver != 3)=true:=by rw [aaw];exact v3
  by_cases v4:h.ver=4
  ·have i4:(h.ver != 4)=false:=by rw [aai];exact v4
   by_cases c5:h.mode<0
   ·exact z36q51
   by_cases c6:7<h.mode
   ·exact z36q51
   by_cases c7:h.strat<0
   ·exact z36q51
   by_cases c8:255<h.strat
   ·exact z36q51
   by_cases c9:h.poll < -128
   ·exact z36q51
   by_cases c10:127<h.poll
   ·exact z36q51
   by_cases c11:h.prec < -128
   ·exact z36q51
   by_cases c12:127<h.prec
   ·exact z36q51
   have e:=Lib.hid (hok (by unfold okH;omega))
   clear hok hno
   go_enter Tryz.func72,Tryz.ntmps72
   go_wp2_with fail
   go_ret
   exact ⟨by rw [e.out];rfl,eX⟩
  ·have i4:(h.ver != 4)=true:=by rw [aaw];exact v4
   have e:=Lib.hid (hno (fun k=>by unfold okH at k;omega))
   clear hok hno
   go_enter Tryz.func72,Tryz.ntmps72
   go_wp2_with fail
   go_ret
   exact ⟨by rw [e.out];rfl,eX⟩
theorem A7 {h:Hdr} (hk:okH h):IntKind.u8.wrap (bits .or .i64 (bits .or .i64 (IntKind.i64.wrap (h.leap*64)) (IntKind.i64.wrap (h.ver*8))) h.mode)=n8 (b8 (h.leap*64+h.ver*8+h.mode)):=by
 have D:∀ a∈[(0:Int),1,2,3],∀ b∈[(3:Int),4],∀ c∈[(0:Int),1,2,3,4,5,6,7],IntKind.u8.wrap (bits .or .i64 (bits .or .i64 (IntKind.i64.wrap (a*64)) (IntKind.i64.wrap (b*8))) c)=n8 (b8 (a*64+b*8+c)):=by decide +kernel
 exact z26q49
theorem nA (x:Int):IntKind.u8.wrap x=n8 (b8 x):=(abb _).trans (mr _).symm
theorem wI (w:World)(t:TypeId)(fr:Nat × Nat) (a b c d:UInt8):Sl (w.alloc (.cells #[.int .u8 (n8 a), .int .u8 (n8 b), .int .u8 (n8 c), .int .u8 (n8 d)] t fr)) (some ⟨w.heap.size,0,none⟩) 4 [a,b,c,d]:=⟨rfl,iB w #[.int .u8 (n8 a), .int .u8 (n8 b), .int .u8 (n8 c), .int .u8 (n8 d)] t fr⟩
theorem kX (h:Hdr) (w:World) :
  Calls Tryz.prog 32 #[.agg #[.int .i64 h.leap, .int .i64 h.ver, .int .i64 h.mode, .int .i64 h.strat, .int .i64 h.poll, .int .i64 h.prec, .int .u32 (n32 h.rd), .int .u32 (n32 h.rp), .int .u32 (n32 h.id), .int .u64 (n64 h.ref), .int .u64 (n64 h.org), .int .u64 (n64 h.rcv), .int .u64 (n64 h.tx)]] w (bQ (cP h).1.length (cP h).1 (.int .i64 (cP h).2) w):=by
 have hv:=fun W=>my h W
 have hp4:∀ (x:UInt64) W,Calls Tryz.prog 56 #[.int .u64 (n64 x), .int .i64 4] W (cf 4 (aF 4 x) W):=fun x W=>jI x 4 W (by omega)
 have hp8:∀ (x:UInt64) W,Calls Tryz.prog 56 #[.int .u64 (n64 x), .int .i64 8] W (cf 8 (aF 8 x) W):=fun x W=>jI x 8 W (by omega)
 by_cases hk:okH h
 ·have er:cP h=(bY h,0):=aam hk
  rw [er] at hv ⊢
  have hl:=cU h
  show Calls _ _ _ _ (bQ (bY h).length _ _ _)
  rw [hl]
  have hJ:aV [iG h,aF 4 h.rd.toUInt64,aF 4 h.rp.toUInt64,aF 4 h.id.toUInt64,aF 8 h.ref,aF 8 h.org,aF 8 h.rcv,aF 8 h.tx]=bY h:=by simp [aV,bY,oG]
  have hJl:=hJ ▸ hl
  replace hJ:=Lib.hid hJ
  have g0:=A7 hk
  have g1:=nA h.strat
  have g2:=nA h.poll
  have g3:=nA h.prec
  go_enter Tryz.func32,Tryz.ntmps32
  go_wp2_with (first
   | (refine af (bc) rfl _ rfl (w.heap.size) (0) rfl _ ((Blk.new w #[.int .i64 h.leap, .int .i64 h.ver, .int .i64 h.mode, .int .i64 h.strat, .int .i64 h.poll, .int .i64 h.prec, .int .u32 (n32 h.rd), .int .u32 (n32 h.rp), .int .u32 (n32 h.id), .int .u64 (n64 h.ref), .int .u64 (n64 h.org), .int .u64 (n64 h.rcv), .int .u64 (n64 h.tx)] 64).rd) (rfl) ?_)
   | (go_at_call 72;refine (hv _).mono ?_;rintro e w1 ⟨rfl,hxq⟩;obtain ⟨xq,rfl⟩:=hxq.out;clear hxq)
   | fail)
  refine dg ?_
  intro W hW
  have hE:Ext w W:=by rw [hW];exact eX
  have hB:Blk W w.heap.size 64 [.int .i64 h.leap, .int .i64 h.ver, .int .i64 h.mode, .int .i64 h.strat, .int .i64 h.poll, .int .i64 h.prec, .int .u32 (n32 h.rd), .int .u32 (n32 h.rp), .int .u32 (n32 h.id), .int .u64 (n64 h.ref), .int .u64 (n64 h.org), .int .u64 (n64 h.rcv), .int .u64 (n64 h.tx)]:=by rw [hW];exact bK
  clear hW hv er hk
  haveI:=hB.blt
  have f0:=hB.cell? 0 rfl
  have f1:=hB.cell? 1 rfl
  have f2:=hB.cell? 2 rfl
  have f3:=hB.cell? 3 rfl
  have f4:=hB.cell? 4 rfl
  have f5:=hB.cell? 5 rfl
  have f6:=hB.cell? 6 rfl
  have f7:=hB.cell? 7 rfl
  have f8:=hB.cell? 8 rfl
  have f9:=hB.cell? 9 rfl
  have f10:=hB.cell? 10 rfl
  have f11:=hB.cell? 11 rfl
  have f12:=hB.cell? 12 rfl
  refine ae 45 [[],[0],[0,1],[],[3],[3,4],[0,1,2,3,4,5],[],[7],[0,1,2,3,4,5,6,7,8],[0,1,2,3,4,5,6,7,8,9],[],[11],[11,12],[],[14],[14,15],[],[17],[17,18],[0,1,2,3,4,5,6,7,8,9,10,11,12,13,14,15,16,17,18,19],[],[21],[21,22],[21,22,23],[],[25],[25,26],[21,22,23,24,25,26,27],[],[29],[29,30],[21,22,23,24,25,26,27,28,29,30,31],[],[33],[21,22,23,24,25,26,27,28,29,30,31,32,33,34],[],[36],[21,22,23,24,25,26,27,28,29,30,31,32,33,34,35,36,37],[],[39],[21,22,23,24,25,26,27,28,29,30,31,32,33,34,35,36,37,38,39,40],[],[42],[21,22,23,24,25,26,27,28,29,30,31,32,33,34,35,36,37,38,39,40,41,42,43],[0,1,2,3,4,5,6,7,8,9,10,11,12,13,14,15,16,17,18,19,20,21,22,23,24,25,26,27,28,29,30,31,32,33,34,35,36,37,38,39,40,41,42,43,44],[0,1,2,3,4,5,6,7,8,9,10,11,12,13,14,15,16,17,18,19,20,21,22,23,24,25,26,27,28,29,30,31,32,33,34,35,36,37,38,39,40,41,42,43,44,45],[0,1,2,3,4,5,6,7,8,9,10,11,12,13,14,15,16,17,18,19,20,21,22,23,24,25,26,27,28,29,30,31,32,33,34,35,36,37,38,39,40,41,42,43,44,45,46],[0,1,2,3,4,5,6,7,8,9,10,11,12,13,14,15,16,17,18,19,20,21,22,23,24,25,26,27,28,29,30,31,32,33,34,35,36,37,38,39,40,41,42,43,44,45,46,47]] (by kernel_rfl) (by kernel_rfl) (by kernel_rfl) (by kernel_rfl) ?_;simp only [q8q,q9q,q10q,q11q,q12q,q13q]
  (repeat (refine aA ?_;(try simp only [Act.put,q0q,q1q,q2q])))
  (refine aj (fun p => .slice (p 0).1 4 4) (fun p w''=>Sl w'' (p 0).1 4 (iG h)) (fun p w w' h hx=>by first|exact h.ext hx|exact ⟨h.1.ext hx,h.2.ext hx⟩|exact ⟨h.1.ext hx,h.2⟩|exact ⟨h.1.ext hx,h.2.1.ext hx,h.2.2.ext hx⟩) (fun us w' hx hf=>⟨rfl,?_⟩) ?_;(unfold gives;simp [go_sem,execOp];exact ⟨fun _=>(some ⟨w'.heap.size,0,none⟩,0),rfl,Ext.of_alloc _ _,wI _ _ _ _ _ _ _⟩))
  (repeat (refine aA ?_;(try simp only [Act.put,q0q,q1q,q2q])))
  (refine aj (fun p => .slice (p 0).1 (4) (p 0).2) (fun p w''=>Own w'' 0 (p 0).1 (4) (p 0).2 (aF 4 h.rd.toUInt64)) (fun p w w' h hx=>h.ext hx) (fun us w' hx hf=>⟨rfl,?_⟩) ?_;(unfold gives;simp [go_sem,execOp];exact az (aan _) (hp4 _ _)))
  (repeat (refine aA ?_;(try simp only [Act.put,q0q,q1q,q2q])))
  (refine aj (fun p => .slice (p 0).1 (4) (p 0).2) (fun p w''=>Own w'' 0 (p 0).1 (4) (p 0).2 (aF 4 h.rp.toUInt64)) (fun p w w' h hx=>h.ext hx) (fun us w' hx hf=>⟨rfl,?_⟩) ?_;(unfold gives;simp [go_sem,execOp];exact az (aan _) (hp4 _ _)))
  (repeat (refine aA ?_;(try simp only [Act.put,q0q,q1q,q2q])))
  (refine aj (fun p => .slice (p 0).1 (4) (p 0).2) (fun p w''=>Own w'' 0 (p 0).1 (4) (p 0).2 (aF 4 h.id.toUInt64)) (fun p w w' h hx=>h.ext hx) (fun us w' hx hf=>⟨rfl,?_⟩) ?_;(unfold gives;simp [go_sem,execOp];exact az (aan _) (hp4 _ _)))
  (repeat (refine aA ?_;(try simp only [Act.put,q0q,q1q,q2q])))
  (refine aj (fun p => .slice (p 0).1 (8) (p 0).2) (fun p w''=>Own w'' 0 (p 0).1 (8) (p 0).2 (aF 8 h.ref)) (fun p w w' h hx=>h.ext hx) (fun us w' hx hf=>⟨rfl,?_⟩) ?_;(unfold gives;simp [go_sem,execOp];exact az (aan _) (hp8 _ _)))
  (repeat (refine aA ?_;(try simp only [Act.put,q0q,q1q,q2q])))
  (refine aj (fun p => .slice (p 0).1 (8) (p 0).2) (fun p w''=>Own w'' 0 (p 0).1 (8) (p 0).2 (aF 8 h.org)) (fun p w w' h hx=>h.ext hx) (fun us w' hx hf=>⟨rfl,?_⟩) ?_;(unfold gives;simp [go_sem,execOp];exact az (aan _) (hp8 _ _)))
  (repeat (refine aA ?_;(try simp only [Act.put,q0q,q1q,q2q])))
  (refine aj (fun p => .slice (p 0).1 (8) (p 0).2) (fun p w''=>Own w'' 0 (p 0).1 (8) (p 0).2 (aF 8 h.rcv)) (fun p w w' h hx=>h.ext hx) (fun us w' hx hf=>⟨rfl,?_⟩) ?_;(unfold gives;simp [go_sem,execOp];exact az (aan _) (hp8 _ _)))
  (repeat (refine aA ?_;(try simp only [Act.put,q0q,q1q,q2q])))
  (refine aj (fun p => .slice (p 0).1 (8) (p 0).2) (fun p w''=>Own w'' 0 (p 0).1 (8) (p 0).2 (aF 8 h.tx)) (fun p w w' h hx=>h.ext hx) (fun us w' hx hf=>⟨rfl,?_⟩) ?_;(unfold gives;simp [go_sem,execOp];exact az (aan _) (hp8 _ _)))
  (refine aT ?_;intro us x hx hf;(try simp only [Act.put,q0q,q1q,q2q,ag]);(try simp only [q3q,q4q,aao,aaa,aal,q5q,q6q,q7q,aap,aaq,aar] at hf);(try simp only [Nat.reduceAdd,aad] at hf ⊢))
  obtain ⟨hO0,hO1,hO2,hO3,hO4,hO5,hO6,hO7⟩:=hf
  obtain ⟨p0,hp0⟩:∃ a,(us 20 0).1=a:=⟨_,rfl⟩
  rw [hp0] at hO0 ⊢
  obtain ⟨p1,hp1⟩:∃ a,(us 24 0).1=a:=⟨_,rfl⟩
  obtain ⟨q1,hq1⟩:∃ a,(us 24 0).2=a:=⟨_,rfl⟩
  rw [hp1,hq1] at hO1 ⊢
  obtain ⟨p2,hp2⟩:∃ a,(us 28 0).1=a:=⟨_,rfl⟩
  obtain ⟨q2,hq2⟩:∃ a,(us 28 0).2=a:=⟨_,rfl⟩
  rw [hp2,hq2] at hO2 ⊢
  obtain ⟨p3,hp3⟩:∃ a,(us 32 0).1=a:=⟨_,rfl⟩
  obtain ⟨q3,hq3⟩:∃ a,(us 32 0).2=a:=⟨_,rfl⟩
  rw [hp3,hq3] at hO3 ⊢
  obtain ⟨p4,hp4⟩:∃ a,(us 35 0).1=a:=⟨_,rfl⟩
  obtain ⟨q4,hq4⟩:∃ a,(us 35 0).2=a:=⟨_,rfl⟩
  rw [hp4,hq4] at hO4 ⊢
  obtain ⟨p5,hp5⟩:∃ a,(us 38 0).1=a:=⟨_,rfl⟩
  obtain ⟨q5,hq5⟩:∃ a,(us 38 0).2=a:=⟨_,rfl⟩
  rw [hp5,hq5] at hO5 ⊢
  obtain ⟨p6,hp6⟩:∃ a,(us 41 0).1=a:=⟨_,rfl⟩
  obtain ⟨q6,hq6⟩:∃ a,(us 41 0).2=a:=⟨_,rfl⟩
  rw [hp6,hq6] at hO6 ⊢
  obtain ⟨p7,hp7⟩:∃ a,(us 44 0).1=a:=⟨_,rfl⟩
  obtain ⟨q7,hq7⟩:∃ a,(us 44 0).2=a:=⟨_,rfl⟩
  rw [hp7,hq7] at hO7 ⊢
  clear g0 g1 g2 g3 f0 f1 f2 f3 f4 f5 f6 f7 f8 f9 f10 f11 f12 hp4 hp8
  have hx5:Ext W (W.ext x):=Ext.of_ext _ _
  generalize W.ext x=W5 at *
  go_wp2_with fail
  (with_reducible refine (bf _ _ _ _ _ (C9 hO0 hO1.sl hO2.sl hO3.sl hO4.sl hO5.sl hO6.sl hO7.sl _) (by omega) 48 hJl (by omega)).mono ?_)
  rintro e w9 ⟨a9,c9,rfl,hO9,hx9⟩
  rw [hJ.out] at hO9
  go_wp2_with fail
  go_ret2
  exact ⟨a9,c9,rfl,hO9.sl,hO9.le.1,(hE.trans hx5).trans ((Ext.of_alloc _ _).trans hx9)⟩
 ·have er:cP h=([],4):=aaf hk
  rw [er] at hv ⊢
  go_enter Tryz.func32,Tryz.ntmps32
  go_wp2_with (first
   | (refine af (bc) rfl _ rfl (w.heap.size) (0) rfl _ ((Blk.new w #[.int .i64 h.leap, .int .i64 h.ver, .int .i64 h.mode, .int .i64 h.strat, .int .i64 h.poll, .int .i64 h.prec, .int .u32 (n32 h.rd), .int .u32 (n32 h.rp), .int .u32 (n32 h.id), .int .u64 (n64 h.ref), .int .u64 (n64 h.org), .int .u64 (n64 h.rcv), .int .u64 (n64 h.tx)] 64).rd) (rfl) ?_)
   | (go_at_call 72;refine (hv _).mono ?_;rintro e w1 ⟨rfl,hxq⟩;obtain ⟨xq,rfl⟩:=hxq.out;clear hxq)
   | fail)
  go_ret2
  exact aG _ _ _ eX
end Go.Proofs.YtmdahnkcnagkjaaGreat

/- packet.Reply and the document's Reply. -/
namespace Go.Proofs.YtmdahnkcnagkjaaGreat
open Go.RowKit Go.Sec Go.Oct Go.Pkt Go.Tsrv BigFrame
theorem qX {h:Hdr} (k:okH h):(cP h).2=0:=by unfold cP;rw [aam k]
theorem rk {h:Hdr} (k:¬ okH h):(cP h).2=4:=by unfold cP;rw [aaf k]
def vA (q:Hdr) (s:Int) (r t:UInt64):Hdr:=⟨0,q.ver,4,s,q.poll, -20,0,0,0,0,q.tx,r,t⟩
theorem zD {q:Hdr} {s:Int} {r t:UInt64} (k:okH q) (h0:0≤s) (h1:s≤255):okH (vA q s r t):=by
 unfold okH vA at *
 simp only
 omega
theorem zL {q:Hdr} {s:Int} {r t:UInt64} (h:s<0∨255<s):¬ okH (vA q s r t):=by
 unfold okH vA
 simp only
 omega
def BI (R:Hdr × Int) (w:World)(e:Ending) (w':World):Prop:=e = .returned (.tuple #[.agg #[.int .i64 R.1.leap, .int .i64 R.1.ver, .int .i64 R.1.mode, .int .i64 R.1.strat, .int .i64 R.1.poll, .int .i64 R.1.prec, .int .u32 (n32 R.1.rd), .int .u32 (n32 R.1.rp), .int .u32 (n32 R.1.id), .int .u64 (n64 R.1.ref), .int .u64 (n64 R.1.org), .int .u64 (n64 R.1.rcv), .int .u64 (n64 R.1.tx)], .int .i64 R.2])∧Ext w w'
theorem AJ (q:Hdr) (s:Int) (r t:UInt64) (w:World) :
  Calls Tryz.prog 46 #[.agg #[.int .i64 q.leap, .int .i64 q.ver, .int .i64 q.mode, .int .i64 q.strat, .int .i64 q.poll, .int .i64 q.prec, .int .u32 (n32 q.rd), .int .u32 (n32 q.rp), .int .u32 (n32 q.id), .int .u64 (n64 q.ref), .int .u64 (n64 q.org), .int .u64 (n64 q.rcv), .int .u64 (n64 q.tx)], .int .i64 s, .int .u64 (n64 r), .int .u64 (n64 t)] w (BI (jr q s r t) w):=by
 have hv:=fun W=>my q W
 obtain ⟨R,hR⟩:∃ R,jr q s r t=R:=⟨_,rfl⟩
 rw [hR]
 unfold jr at hR
 by_cases h1:okH q
 ·rw [qX h1] at hv
  by_cases h2:q.mode=3
  ·have i2:(q.mode != 3)=false:=by rw [aai];exact h2
   by_cases h3:s<0
   ·rw [aaf (by simpa using h1),aaf (by simpa using h2),aam (.inl h3)] at hR
    have hR:=Lib.hid hR.symm
    clear h1 h2
    go_enter Tryz.func46,Tryz.ntmps46
    go_wp2_with fail
    refine bN ?_
    intro W hW
    have hB0:Blk W w.heap.size 64 [.int .i64 q.leap, .int .i64 q.ver, .int .i64 q.mode, .int .i64 q.strat, .int .i64 q.poll, .int .i64 q.prec, .int .u32 (n32 q.rd), .int .u32 (n32 q.rp), .int .u32 (n32 q.id), .int .u64 (n64 q.ref), .int .u64 (n64 q.org), .int .u64 (n64 q.rcv), .int .u64 (n64 q.tx)]:=by rw [hW];exact bK
    have hB:Blk W (w.heap.size+1) 64 [.int .i64 0, .int .i64 0, .int .i64 0, .int .i64 0, .int .i64 0, .int .i64 0, .int .u32 0, .int .u32 0, .int .u32 0, .int .u64 0, .int .u64 0, .int .u64 0, .int .u64 0]:=by rw [hW];exact bK
    have hE:Ext w W:=by rw [hW];exact eX
    clear hW
    (with_reducible refine (hv _).mono ?_);rintro e W2 ⟨rfl,hx⟩
    have hB0:=hB0.extB hx
    have hB:=hB.extB hx
    have hE:=hE.trans hx
    clear hx hv
    haveI:=hB0.blt
    have f1:=hB0.cell? 1 rfl
    have f2:=hB0.cell? 2 rfl
    have f4:=hB0.cell? 4 rfl
    have f12:=hB0.cell? 12 rfl
    go_wp2_with (first
     | (refine aa (bc) rfl _ _ rfl (w.heap.size+1) (0) rfl _ rfl (64) _ (hB) (rfl) (by simp) (oC) ?_;intro V hV hMV)
     | fail)
    refine aac (ao Tryz.results46 (bc) _ _ (w.heap.size+1) (0) _ rfl (hV.rd) (rfl) (_) rfl) rfl ?_
    refine ⟨?_,Below.trans hE (hMV.below (by omega) hE.size)⟩
    rw [hR.out];rfl
   ·by_cases h4:255<s
    ·rw [aaf (by simpa using h1),aaf (by simpa using h2),aam (.inr h4)] at hR
     have hR:=Lib.hid hR.symm
     clear h1 h2
     go_enter Tryz.func46,Tryz.ntmps46
     go_wp2_with fail
     refine bN ?_
     intro W hW
     have hB0:Blk W w.heap.size 64 [.int .i64 q.leap, .int .i64 q.ver, .int .i64 q.mode, .int .i64 q.strat, .int .i64 q.poll, .int .i64 q.prec, .int .u32 (n32 q.rd), .int .u32 (n32 q.rp), .int .u32 (n32 q.id), .int .u64 (n64 q.ref), .int .u64 (n64 q.org), .int .u64 (n64 q.rcv), .int .u64 (n64 q.tx)]:=by rw [hW];exact bK
     have hB:Blk W (w.heap.size+1) 64 [.int .i64 0, .int .i64 0, .int .i64 0, .int .i64 0, .int .i64 0, .int .i64 0, .int .u32 0, .int .u32 0, .int .u32 0, .int .u64 0, .int .u64 0, .int .u64 0, .int .u64 0]:=by rw [hW];exact bK
     have hE:Ext w W:=by rw [hW];exact eX
     clear hW
     (with_reducible refine (hv _).mono ?_);rintro e W2 ⟨rfl,hx⟩
     have hB0:=hB0.extB hx
     have hB:=hB.extB hx
     have hE:=hE.trans hx
     clear hx hv
     haveI:=hB0.blt
     have f1:=hB0.cell? 1 rfl
     have f2:=hB0.cell? 2 rfl
     have f4:=hB0.cell? 4 rfl
     have f12:=hB0.cell? 12 rfl
     go_wp2_with (first
      | (refine aa (bc) rfl _ _ rfl (w.heap.size+1) (0) rfl _ rfl (64) _ (hB) (rfl) (by simp) (oC) ?_;intro V hV hMV)
      | fail)
     refine aac (ao Tryz.results46 (bc) _ _ (w.heap.size+1) (0) _ rfl (hV.rd) (rfl) (_) rfl) rfl ?_
     refine ⟨?_,Below.trans hE (hMV.below (by omega) hE.size)⟩
     rw [hR.out];rfl
    ·rw [aaf (by simpa using h1),aaf (by simpa using h2),aaf (by omega)] at hR
     have hR:=Lib.hid hR.symm
     clear h1 h2
     go_enter Tryz.func46,Tryz.ntmps46
     go_wp2_with fail
     refine bN ?_
     intro W hW
     have hB0:Blk W w.heap.size 64 [.int .i64 q.leap, .int .i64 q.ver, .int .i64 q.mode, .int .i64 q.strat, .int .i64 q.poll, .int .i64 q.prec, .int .u32 (n32 q.rd), .int .u32 (n32 q.rp), .int .u32 (n32 q.id), .int .u64 (n64 q.ref), .int .u64 (n64 q.org), .int .u64 (n64 q.rcv), .int .u64 (n64 q.tx)]:=by rw [hW];exact bK
     have hB:Blk W (w.heap.size+1) 64 [.int .i64 0, .int .i64 0, .int .i64 0, .int .i64 0, .int .i64 0, .int .i64 0, .int .u32 0, .int .u32 0, .int .u32 0, .int .u64 0, .int .u64 0, .int .u64 0, .int .u64 0]:=by rw [hW];exact bK
     have hE:Ext w W:=by rw [hW];exact eX
     clear hW
     (with_reducible refine (hv _).mono ?_);rintro e W2 ⟨rfl,hx⟩
     have hB0:=hB0.extB hx
     have hB:=hB.extB hx
     have hE:=hE.trans hx
     clear hx hv
     haveI:=hB0.blt
     have f1:=hB0.cell? 1 rfl
     have f2:=hB0.cell? 2 rfl
     have f4:=hB0.cell? 4 rfl
     have f12:=hB0.cell? 12 rfl
     go_wp2_with (first
      | (refine aa (bc) rfl _ _ rfl (w.heap.size+1) (0) rfl _ rfl (64) _ (hB) (rfl) (by simp) (oC) ?_;intro V hV hMV)
      | fail)
     refine aac (ao Tryz.results46 (bc) _ _ (w.heap.size+1) (0) _ rfl (hV.rd) (rfl) (.int .i64 0) rfl) rfl ?_
     refine ⟨?_,Below.trans hE (hMV.below (by omega) hE.size)⟩
     rw [hR.out];rfl
  ·have i2:(q.mode != 3)=true:=by rw [aaw];exact h2
   rw [aaf (by simpa using h1),aam h2] at hR
   have hR:=Lib.hid hR.symm
   clear h1 h2
   go_enter Tryz.func46,Tryz.ntmps46
   go_wp2_with fail
   refine bN ?_
   intro W hW
   have hB0:Blk W w.heap.size 64 [.int .i64 q.leap, .int .i64 q.ver, .int .i64 q.mode, .int .i64 q.strat, .int .i64 q.poll, .int .i64 q.prec, .int .u32 (n32 q.rd), .int .u32 (n32 q.rp), .int .u32 (n32 q.id), .int .u64 (n64 q.ref), .int .u64 (n64 q.org), .int .u64 (n64 q.rcv), .int .u64 (n64 q.tx)]:=by rw [hW];exact bK
   have hB:Blk W (w.heap.size+1) 64 [.int .i64 0, .int .i64 0, .int .i64 0, .int .i64 0, .int .i64 0, .int .i64 0, .int .u32 0, .int .u32 0, .int .u32 0, .int .u64 0, .int .u64 0, .int .u64 0, .int .u64 0]:=by rw [hW];exact bK
   have hE:Ext w W:=by rw [hW];exact eX
   clear hW
   (with_reducible refine (hv _).mono ?_);rintro e W2 ⟨rfl,hx⟩
   have hB0:=hB0.extB hx
   have hB:=hB.extB hx
   have hE:=hE.trans hx
   clear hx hv
   haveI:=hB0.blt
   have f1:=hB0.cell? 1 rfl
   have f2:=hB0.cell? 2 rfl
   have f4:=hB0.cell? 4 rfl
   have f12:=hB0.cell? 12 rfl
   go_wp2_with (first
    | (refine aa (bc) rfl _ _ rfl (w.heap.size+1) (0) rfl _ rfl (64) _ (hB) (rfl) (by simp) (oC) ?_;intro V hV hMV)
    | fail)
   refine aac (ao Tryz.results46 (bc) _ _ (w.heap.size+1) (0) _ rfl (hV.rd) (rfl) (_) rfl) rfl ?_
   refine ⟨?_,Below.trans hE (hMV.below (by omega) hE.size)⟩
   rw [hR.out];rfl
 ·rw [rk h1] at hv
  rw [aam h1] at hR
  have hR:=Lib.hid hR.symm
  clear h1
  go_enter Tryz.func46,Tryz.ntmps46
  go_wp2_with fail
  refine bN ?_
  intro W hW
  have hB0:Blk W w.heap.size 64 [.int .i64 q.leap, .int .i64 q.ver, .int .i64 q.mode, .int .i64 q.strat, .int .i64 q.poll, .int .i64 q.prec, .int .u32 (n32 q.rd), .int .u32 (n32 q.rp), .int .u32 (n32 q.id), .int .u64 (n64 q.ref), .int .u64 (n64 q.org), .int .u64 (n64 q.rcv), .int .u64 (n64 q.tx)]:=by rw [hW];exact bK
  have hB:Blk W (w.heap.size+1) 64 [.int .i64 0, .int .i64 0, .int .i64 0, .int .i64 0, .int .i64 0, .int .i64 0, .int .u32 0, .int .u32 0, .int .u32 0, .int .u64 0, .int .u64 0, .int .u64 0, .int .u64 0]:=by rw [hW];exact bK
  have hE:Ext w W:=by rw [hW];exact eX
  clear hW
  (with_reducible refine (hv _).mono ?_);rintro e W2 ⟨rfl,hx⟩
  have hB0:=hB0.extB hx
  have hB:=hB.extB hx
  have hE:=hE.trans hx
  clear hx hv
  haveI:=hB0.blt
  have f1:=hB0.cell? 1 rfl
  have f2:=hB0.cell? 2 rfl
  have f4:=hB0.cell? 4 rfl
  have f12:=hB0.cell? 12 rfl
  go_wp2_with (first
   | (refine aa (bc) rfl _ _ rfl (w.heap.size+1) (0) rfl _ rfl (64) _ (hB) (rfl) (by simp) (oC) ?_;intro V hV hMV)
   | fail)
  refine aac (ao Tryz.results46 (bc) _ _ (w.heap.size+1) (0) _ rfl (hV.rd) (rfl) (_) rfl) rfl ?_
  refine ⟨?_,Below.trans hE (hMV.below (by omega) hE.size)⟩
  rw [hR.out];rfl
theorem tt (q:Hdr) (s:Int) (r t:UInt64) (w:World) :
  Calls Tryz.prog 143 #[.agg #[.int .i64 q.leap, .int .i64 q.ver, .int .i64 q.mode, .int .i64 q.strat, .int .i64 q.poll, .int .i64 q.prec, .int .u32 (n32 q.rd), .int .u32 (n32 q.rp), .int .u32 (n32 q.id), .int .u64 (n64 q.ref), .int .u64 (n64 q.org), .int .u64 (n64 q.rcv), .int .u64 (n64 q.tx)], .int .i64 s, .int .u64 (n64 r), .int .u64 (n64 t)] w (BI (jr q s r t) w):=by
 have hv:=fun W=>kx q W
 have hvT:∀ W,Calls Tryz.prog 161 #[.agg #[.int .i64 0, .int .i64 q.ver, .int .i64 4, .int .i64 s, .int .i64 q.poll, .int .i64 (-20), .int .u32 0, .int .u32 0, .int .u32 0, .int .u64 0, .int .u64 (n64 q.tx), .int .u64 (n64 r), .int .u64 (n64 t)]] W fun e w'=>e = .returned (.int .i64 (cP (vA q s r t)).2)∧Ext W w':=fun W=>kx (vA q s r t) W
 obtain ⟨R,hR⟩:∃ R,jr q s r t=R:=⟨_,rfl⟩
 rw [hR]
 unfold jr at hR
 by_cases h1:okH q
 ·rw [qX h1] at hv
  by_cases h2:q.mode=3
  ·have i2:(q.mode != 3)=false:=by rw [aai];exact h2
   rw [aaf (by simpa using h1),aaf (by simpa using h2)] at hR
   by_cases h3:s<0∨255<s
   ·rw [aam h3] at hR
    rw [rk (zL h3)] at hvT
    have hR:=Lib.hid hR.symm
    clear h1 h2 h3
    go_enter Tryz.func143,Tryz.ntmps143
    go_wp2_with fail
    refine bN ?_
    intro W hW
    have hB0:Blk W w.heap.size 64 [.int .i64 q.leap, .int .i64 q.ver, .int .i64 q.mode, .int .i64 q.strat, .int .i64 q.poll, .int .i64 q.prec, .int .u32 (n32 q.rd), .int .u32 (n32 q.rp), .int .u32 (n32 q.id), .int .u64 (n64 q.ref), .int .u64 (n64 q.org), .int .u64 (n64 q.rcv), .int .u64 (n64 q.tx)]:=by rw [hW];exact bK
    have hB:Blk W (w.heap.size+1) 64 [.int .i64 0, .int .i64 0, .int .i64 0, .int .i64 0, .int .i64 0, .int .i64 0, .int .u32 0, .int .u32 0, .int .u32 0, .int .u64 0, .int .u64 0, .int .u64 0, .int .u64 0]:=by rw [hW];exact bK
    have hE:Ext w W:=by rw [hW];exact eX
    clear hW
    (with_reducible refine (hv _).mono ?_);rintro e W2 ⟨rfl,hx⟩
    have hB0:=hB0.extB hx
    have hB:=hB.extB hx
    have hE:=hE.trans hx
    clear hx hv
    haveI:=hB0.blt
    have f1:=hB0.cell? 1 rfl
    have f2:=hB0.cell? 2 rfl
    have f4:=hB0.cell? 4 rfl
    have f12:=hB0.cell? 12 rfl
    go_wp2_with (first
     | (refine ai (bc) rfl rfl _ _ rfl rfl rfl rfl (by simp [Act.put]) _ rfl (by simp) (rfl) (oC) ?_;intro x hz _)
     | (refine af (bc) rfl _ rfl (W2.heap.size) (0) rfl _ (hz.rd) (rfl) ?_)
     | fail)
    have hx:=Ext.of_ext W2 x
    have hB:=hB.extB hx
    have hE:=hE.trans hx
    clear hz hx
    generalize W2.ext x=W3 at *
    (with_reducible refine (hvT _).mono ?_);rintro e W4 ⟨rfl,hx⟩
    have hB:=hB.extB hx
    have hE:=hE.trans hx
    go_wp2_with (first
     | (refine aa (bc) rfl _ _ rfl (w.heap.size+1) (0) rfl _ rfl (64) _ (hB) (rfl) (by simp) (oC) ?_;intro V hV hMV)
     | fail)
    refine aac (ao Tryz.results143 (bc) _ _ (w.heap.size+1) (0) _ rfl (hV.rd) (rfl) (_) rfl) rfl ?_
    refine ⟨?_,Below.trans hE (hMV.below (by omega) hE.size)⟩
    rw [hR.out];rfl
   ·rw [aaf h3] at hR
    rw [qX (zD h1 (by omega) (by omega))] at hvT
    have hR:=Lib.hid hR.symm
    clear h1 h2 h3
    go_enter Tryz.func143,Tryz.ntmps143
    go_wp2_with fail
    refine bN ?_
    intro W hW
    have hB0:Blk W w.heap.size 64 [.int .i64 q.leap, .int .i64 q.ver, .int .i64 q.mode, .int .i64 q.strat, .int .i64 q.poll, .int .i64 q.prec, .int .u32 (n32 q.rd), .int .u32 (n32 q.rp), .int .u32 (n32 q.id), .int .u64 (n64 q.ref), .int .u64 (n64 q.org), .int .u64 (n64 q.rcv), .int .u64 (n64 q.tx)]:=by rw [hW];exact bK
    have hB:Blk W (w.heap.size+1) 64 [.int .i64 0, .int .i64 0, .int .i64 0, .int .i64 0, .int .i64 0, .int .i64 0, .int .u32 0, .int .u32 0, .int .u32 0, .int .u64 0, .int .u64 0, .int .u64 0, .int .u64 0]:=by rw [hW];exact bK
    have hE:Ext w W:=by rw [hW];exact eX
    clear hW
    (with_reducible refine (hv _).mono ?_);rintro e W2 ⟨rfl,hx⟩
    have hB0:=hB0.extB hx
    have hB:=hB.extB hx
    have hE:=hE.trans hx
    clear hx hv
    haveI:=hB0.blt
    have f1:=hB0.cell? 1 rfl
    have f2:=hB0.cell? 2 rfl
    have f4:=hB0.cell? 4 rfl
    have f12:=hB0.cell? 12 rfl
    go_wp2_with (first
     | (refine ai (bc) rfl rfl _ _ rfl rfl rfl rfl (by simp [Act.put]) _ rfl (by simp) (rfl) (oC) ?_;intro x hz _)
     | (refine af (bc) rfl _ rfl (W2.heap.size) (0) rfl _ (hz.rd) (rfl) ?_)
     | fail)
    have hx:=Ext.of_ext W2 x
    have hB:=hB.extB hx
    have hE:=hE.trans hx
    obtain ⟨gz,hgz⟩:∃ g,g=W2.heap.size:=⟨_,rfl⟩
    rw [← hgz] at hz ⊢
    clear hx hgz
    generalize W2.ext x=W3 at *
    (with_reducible refine (hvT _).mono ?_);rintro e W4 ⟨rfl,hx⟩
    have hB:=hB.extB hx
    have hz:=hz.extB hx
    have hE:=hE.trans hx
    haveI:=hz.blt
    go_wp2_with (first
     | (refine af (bc) rfl _ rfl (gz) (0) rfl _ (hz.rd) (rfl) ?_)
     | (refine aa (bc) rfl _ _ rfl (w.heap.size+1) (0) rfl _ rfl (64) _ (hB) (rfl) (by simp) (oC) ?_;intro V hV hMV)
     | fail)
    refine aac (ao Tryz.results143 (bc) _ _ (w.heap.size+1) (0) _ rfl (hV.rd) (rfl) (_) rfl) rfl ?_
    refine ⟨?_,Below.trans hE (hMV.below (by omega) hE.size)⟩
    rw [hR.out];rfl
  ·have i2:(q.mode != 3)=true:=by rw [aaw];exact h2
   rw [aaf (by simpa using h1),aam h2] at hR
   have hR:=Lib.hid hR.symm
   clear h1 h2 hvT
   go_enter Tryz.func143,Tryz.ntmps143
   go_wp2_with fail
   refine bN ?_
   intro W hW
   have hB0:Blk W w.heap.size 64 [.int .i64 q.leap, .int .i64 q.ver, .int .i64 q.mode, .int .i64 q.strat, .int .i64 q.poll, .int .i64 q.prec, .int .u32 (n32 q.rd), .int .u32 (n32 q.rp), .int .u32 (n32 q.id), .int .u64 (n64 q.ref), .int .u64 (n64 q.org), .int .u64 (n64 q.rcv), .int .u64 (n64 q.tx)]:=by rw [hW];exact bK
   have hB:Blk W (w.heap.size+1) 64 [.int .i64 0, .int .i64 0, .int .i64 0, .int .i64 0, .int .i64 0, .int .i64 0, .int .u32 0, .int .u32 0, .int .u32 0, .int .u64 0, .int .u64 0, .int .u64 0, .int .u64 0]:=by rw [hW];exact bK
   have hE:Ext w W:=by rw [hW];exact eX
   clear hW
   (with_reducible refine (hv _).mono ?_);rintro e W2 ⟨rfl,hx⟩
   have hB0:=hB0.extB hx
   have hB:=hB.extB hx
   have hE:=hE.trans hx
   clear hx hv
   haveI:=hB0.blt
   have f1:=hB0.cell? 1 rfl
   have f2:=hB0.cell? 2 rfl
   have f4:=hB0.cell? 4 rfl
   have f12:=hB0.cell? 12 rfl
   go_wp2_with (first
    | (refine ai (bc) rfl rfl _ _ rfl rfl rfl rfl (by simp [Act.put]) _ rfl (by simp) (rfl) (oC) ?_;intro x hz _)
    | ((refine aa (bc) rfl _ _ rfl (w.heap.size+1) (0) rfl _ rfl (64) _ ((hB.extB eX)) (rfl) (by simp) (oC) ?_;intro V hV hMV))
    | fail)
   refine aac (ao Tryz.results143 (bc) _ _ (w.heap.size+1) (0) _ rfl (hV.rd) (rfl) (_) rfl) rfl ?_
   have hE:=hE.ext x
   refine ⟨?_,Below.trans hE (hMV.below (by omega) hE.size)⟩
   rw [hR.out];rfl
 ·rw [rk h1] at hv
  rw [aam h1] at hR
  have hR:=Lib.hid hR.symm
  clear h1 hvT
  go_enter Tryz.func143,Tryz.ntmps143
  go_wp2_with fail
  refine bN ?_
  intro W hW
  have hB0:Blk W w.heap.size 64 [.int .i64 q.leap, .int .i64 q.ver, .int .i64 q.mode, .int .i64 q.strat, .int .i64 q.poll, .int .i64 q.prec, .int .u32 (n32 q.rd), .int .u32 (n32 q.rp), .int .u32 (n32 q.id), .int .u64 (n64 q.ref), .int .u64 (n64 q.org), .int .u64 (n64 q.rcv), .int .u64 (n64 q.tx)]:=by rw [hW];exact bK
  have hB:Blk W (w.heap.size+1) 64 [.int .i64 0, .int .i64 0, .int .i64 0, .int .i64 0, .int .i64 0, .int .i64 0, .int .u32 0, .int .u32 0, .int .u32 0, .int .u64 0, .int .u64 0, .int .u64 0, .int .u64 0]:=by rw [hW];exact bK
  have hE:Ext w W:=by rw [hW];exact eX
  clear hW
  (with_reducible refine (hv _).mono ?_);rintro e W2 ⟨rfl,hx⟩
  have hB0:=hB0.extB hx
  have hB:=hB.extB hx
  have hE:=hE.trans hx
  clear hx hv
  haveI:=hB0.blt
  have f1:=hB0.cell? 1 rfl
  have f2:=hB0.cell? 2 rfl
  have f4:=hB0.cell? 4 rfl
  have f12:=hB0.cell? 12 rfl
  go_wp2_with (first
   | (refine aa (bc) rfl _ _ rfl (w.heap.size+1) (0) rfl _ rfl (64) _ (hB) (rfl) (by simp) (oC) ?_;intro V hV hMV)
   | fail)
  refine aac (ao Tryz.results143 (bc) _ _ (w.heap.size+1) (0) _ rfl (hV.rd) (rfl) (_) rfl) rfl ?_
  refine ⟨?_,Below.trans hE (hMV.below (by omega) hE.size)⟩
  rw [hR.out];rfl
end Go.Proofs.YtmdahnkcnagkjaaGreat

/- The walks of layer 25: the names of refusals. -/
namespace Go.Tsrv
def DV:Value := .string ⟨#[68,69,78,89]⟩
def DR:Value := .string ⟨#[82,83,84,82]⟩
def DF:Value := .string ⟨#[82,65,84,69]⟩
def DI:Value := .string ⟨#[78,84,83,78]⟩
end Go.Tsrv
namespace Go.Proofs.YtmdahnkcnagkjaaGreat
open Go.RowKit Go.Sec Go.Oct Go.Tsrv BigFrame
theorem pU (w:World) :
  Calls Tryz.prog 150 #[] w fun e w'=>e = .returned (.slice (some ⟨w.heap.size,0,none⟩) 4 4)∧w'=w.alloc (.cells #[.string ⟨#[68,69,78,89]⟩, .string ⟨#[82,83,84,82]⟩, .string ⟨#[82,65,84,69]⟩, .string ⟨#[78,84,83,78]⟩] 9):=by
 go_enter Tryz.func150,Tryz.ntmps150
 go_wp2
 go_ret
 exact ⟨rfl,rfl⟩
structure Cds (g:Nat) (w:World):Prop where
 lt:BlkLt g w
 c0:w.cell? ⟨g,0,none⟩=some (.string ⟨#[68,69,78,89]⟩)
 c1:w.cell? ⟨g,1,none⟩=some (.string ⟨#[82,83,84,82]⟩)
 c2:w.cell? ⟨g,2,none⟩=some (.string ⟨#[82,65,84,69]⟩)
 c3:w.cell? ⟨g,3,none⟩=some (.string ⟨#[78,84,83,78]⟩)
theorem Cds.ext {g:Nat} {w w':World} (h:Cds g w) (hx:Ext w w'):Cds g w' :=
 have f:∀ k v,w.cell? ⟨g,k,none⟩=some v→w'.cell? ⟨g,k,none⟩=some v:=fun k v e=>(hx.cell (p:=⟨g,k,none⟩) h.lt.lt).trans e
 ⟨⟨aak h.lt.lt hx.size⟩,f _ _ h.c0,f _ _ h.c1,f _ _ h.c2,f _ _ h.c3⟩
theorem Cds.new (w:World):Cds w.heap.size (w.alloc (.cells #[.string ⟨#[68,69,78,89]⟩, .string ⟨#[82,83,84,82]⟩, .string ⟨#[82,65,84,69]⟩, .string ⟨#[78,84,83,78]⟩] 9)) :=
 ⟨inferInstance,by simp [go_sem],by simp [go_sem],by simp [go_sem],by simp [go_sem]⟩
theorem tJ (g:Nat) (w:World)(h:Cds g w) :
  Calls Tryz.prog 167 #[.slice (some ⟨g,0,none⟩) 4 4, .string ⟨#[78,84,83,78]⟩] w fun e w'=>e = .returned (.int .i64 3)∧Ext w w':=by
 go_enter Tryz.func167,Tryz.ntmps167
 go_wp2_with fail
 go_loopw [5,8] (fun _ v8 wr=>∃ i:Nat,i≤3∧v8 = .int .i64 i∧Ext w wr) (fun _ v8 _=>4-(intOf v8).toNat)
 case atStart=>exact ⟨0,by omega,rfl,Ext.refl _⟩
 case round =>
  obtain ⟨i,hi,rfl,hx⟩:=hrel
  obtain ⟨hl,c0,c1,c2,c3⟩:=h.ext hx
  haveI:=hl
  obtain rfl|rfl|rfl|rfl:i=0∨i=1∨i=2∨i=3:=by omega
  all_goals go_wp2_with fail
  ·exact ⟨⟨1,by omega,rfl,hx⟩,by simp [intOf]⟩
  ·exact ⟨⟨2,by omega,rfl,hx⟩,by simp [intOf]⟩
  ·exact ⟨⟨3,by omega,rfl,hx⟩,by simp [intOf]⟩
  ·go_ret
   exact ⟨rfl,hx⟩
theorem o8 (g:Nat) (w:World)(h:Cds g w) :
  Calls Tryz.prog 149 #[.slice (some ⟨g,0,none⟩) 4 4, .string ⟨#[78,84,83,78]⟩] w fun e w'=>e = .returned (.bool true)∧Ext w w':=by
 go_enter Tryz.func149,Tryz.ntmps149
 go_wp2_with fail
 (with_reducible refine (tJ g _ h).mono ?_);rintro e w1 ⟨rfl,hx⟩
 go_wp2_with fail
 go_ret
 exact ⟨rfl,hx⟩
theorem tO (w:World) :
  Calls Tryz.prog 126 #[.string ⟨#[78,84,83,78]⟩] w fun e w'=>e = .returned (.tuple #[.int .u32 1314149198, .int .i64 0])∧Ext w w':=by
 have hcv:=kf U hu8 hst
 have hnum:n64 (dr [78,84,83,78])=1314149198:=by decide
 go_enter Tryz.func126,Tryz.ntmps126
 go_wp2_with fail
 (with_reducible refine (pU _).mono ?_);rintro e w1 ⟨rfl,rfl⟩
 go_wp2_with fail
 (with_reducible refine (o8 _ _ (Cds.new w)).mono ?_);rintro e w2 ⟨rfl,hx2⟩
 have hE2:=(Ext.of_alloc w _).trans hx2
 clear hx2
 go_wp2_with fail
 have hS:Sl (w2.ext (fw w2 ⟨#[78,84,83,78]⟩)) (some ⟨w2.heap.size,0,none⟩) 4 [78,84,83,78]:=uN w2 [78,84,83,78]
 refine (ei _ _ _ [78,84,83,78] _ hS (by unfold tH;exact grownCap_ge _ _ _ _) (by omega)).mono ?_
 rw [hnum]
 rintro e w3 ⟨rfl,hx3⟩
 have hE3:=(hE2.ext _).trans hx3
 go_wp2_with fail
 go_ret2
 exact ⟨rfl,hE3⟩
theorem uA (g:Nat) (w:World)(h:Cds g w) :
  Calls Tryz.prog 167 #[.slice (some ⟨g,0,none⟩) 4 4, .string ⟨#[82,65,84,69]⟩] w fun e w'=>e = .returned (.int .i64 2)∧Ext w w':=by
 go_enter Tryz.func167,Tryz.ntmps167
 go_wp2_with fail
 go_loopw [5,8] (fun _ v8 wr=>∃ i:Nat,i≤2∧v8 = .int .i64 i∧Ext w wr) (fun _ v8 _=>4-(intOf v8).toNat)
 case atStart=>exact ⟨0,by omega,rfl,Ext.refl _⟩
 case round =>
  obtain ⟨i,hi,rfl,hx⟩:=hrel
  obtain ⟨hl,c0,c1,c2,c3⟩:=h.ext hx
  haveI:=hl
  obtain rfl|rfl|rfl:i=0∨i=1∨i=2:=by omega
  all_goals go_wp2_with fail
  ·exact ⟨⟨1,by omega,rfl,hx⟩,by simp [intOf]⟩
  ·exact ⟨⟨2,by omega,rfl,hx⟩,by simp [intOf]⟩
  ·go_ret
   exact ⟨rfl,hx⟩
theorem oV (g:Nat) (w:World)(h:Cds g w) :
  Calls Tryz.prog 149 #[.slice (some ⟨g,0,none⟩) 4 4, .string ⟨#[82,65,84,69]⟩] w fun e w'=>e = .returned (.bool true)∧Ext w w':=by
 go_enter Tryz.func149,Tryz.ntmps149
 go_wp2_with fail
 (with_reducible refine (uA g _ h).mono ?_);rintro e w1 ⟨rfl,hx⟩
 go_wp2_with fail
 go_ret
 exact ⟨rfl,hx⟩
theorem tM (w:World) :
  Calls Tryz.prog 126 #[.string ⟨#[82,65,84,69]⟩] w fun e w'=>e = .returned (.tuple #[.int .u32 1380013125, .int .i64 0])∧Ext w w':=by
 have hcv:=kf U hu8 hst
 have hnum:n64 (dr [82,65,84,69])=1380013125:=by decide
 go_enter Tryz.func126,Tryz.ntmps126
 go_wp2_with fail
 (with_reducible refine (pU _).mono ?_);rintro e w1 ⟨rfl,rfl⟩
 go_wp2_with fail
 (with_reducible refine (oV _ _ (Cds.new w)).mono ?_);rintro e w2 ⟨rfl,hx2⟩
 have hE2:=(Ext.of_alloc w _).trans hx2
 clear hx2
 go_wp2_with fail
 have hS:Sl (w2.ext (fw w2 ⟨#[82,65,84,69]⟩)) (some ⟨w2.heap.size,0,none⟩) 4 [82,65,84,69]:=uN w2 [82,65,84,69]
 refine (ei _ _ _ [82,65,84,69] _ hS (by unfold tH;exact grownCap_ge _ _ _ _) (by omega)).mono ?_
 rw [hnum]
 rintro e w3 ⟨rfl,hx3⟩
 have hE3:=(hE2.ext _).trans hx3
 go_wp2_with fail
 go_ret2
 exact ⟨rfl,hE3⟩
end Go.Proofs.YtmdahnkcnagkjaaGreat
