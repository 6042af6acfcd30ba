/- Lemmas of this claim, several texts joined. -/
import Derived.Test.YtdmifbfgeeldnaaGreatZ4
import Derived.Test.YtdmifbfgeeldnaaGreatZ6
import Derived.Test.YtdmifbfgeeldnaaGreatZ10
import Derived.Test.YtdmifbfgeeldnaaGreatZ14
import Derived.Test.YtdmifbfgeeldnaaGreatZ19
import Derived.Test.YtdmifbfgeeldnaaGreatZ24
import Derived.Test.YtdmifbfgeeldnaaGreatZ26
set_option maxRecDepth 100000
open List renaming setIfInBounds_toArray → q0q, set_cons_succ → q1q, set_cons_zero → q2q, mem_cons → q3q, not_mem_nil → q4q, nil_append → q5q, cons_append → q6q, mem_append → q7q, take_succ_cons → q8q, take_zero → q9q, drop_succ_cons → q10q, drop_zero → q11q, take_nil → q12q, drop_nil → q13q, getElem_toArray → q14q, getElem_cons_succ → q15q, getElem_cons_zero → q16q
open Go.IntWalk renaming i64_in → q17q, rem_in → q18q, wrap64_in → q19q
set_option linter.unusedVariables false
set_option linter.unusedSimpArgs false
/- The walks of layer 16: Ask, Encode. -/
namespace Go.Proofs.YtdmifbfgeeldnaaGreat
open Go.RowKit Go.Sec Go.Oct Go.Pkt BigFrame
theorem pask_any (t:UInt64) (w:World) :
  Calls Tryz.prog 55 #[.int .u64 (n64 t)] w fun e w'=>e = .returned (.agg #[.int .i64 0, .int .i64 4, .int .i64 3, .int .i64 0, .int .i64 6, .int .i64 0, .int .u32 0, .int .u32 0, .int .u32 0, .int .u64 0, .int .u64 0, .int .u64 0, .int .u64 (n64 t)])∧Ext w w':=by
 go_enter Tryz.func55,Tryz.ntmps55
 go_wp2
 refine bodyPost_ret (results_arr Tryz.results55 (RH13) _ _ (w.heap.size) (0) ([.int .i64 0, .int .i64 4, .int .i64 3, .int .i64 0, .int .i64 6, .int .i64 0, .int .u32 0, .int .u32 0, .int .u32 0, .int .u64 0, .int .u64 0, .int .u64 0, .int .u64 (n64 t)]) rfl ((Blk.new _ _ _).rd) (rfl)) rfl ?_
 exact ⟨rfl,eX⟩
def T3 (h:Hdr) (k:Nat):List UInt8:=headB h++joinL ([putL 4 h.rd.toUInt64,putL 4 h.rp.toUInt64,putL 4 h.id.toUInt64].take k)
def T4 (h:Hdr) (k:Nat):List UInt8:=headB h++(putL 4 h.rd.toUInt64++(putL 4 h.rp.toUInt64++(putL 4 h.id.toUInt64++joinL ([putL 8 h.ref,putL 8 h.org,putL 8 h.rcv,putL 8 h.tx].take k))))
theorem head0 {h:Hdr} (hk:okH h):bits .or .i64 (bits .or .i64 (wrap64 (h.leap*64)) (wrap64 (h.ver*8))) h.mode % 256=n8 (b8 (h.leap*64+h.ver*8+h.mode)):=by
 have D:∀ a∈[(0:Int),1,2,3],∀ b∈[(3:Int),4],∀ c∈[(0:Int),1,2,3,4,5,6,7],bits .or .i64 (bits .or .i64 (wrap64 (a*64)) (wrap64 (b*8))) c % 256=n8 (b8 (a*64+b*8+c)):=by decide +kernel
 obtain ⟨h1,h2,h3,_⟩:=hk
 exact D _ (by simp only [q3q,q4q,or_false];omega) _ (by simp only [q3q,q4q,or_false];omega) _ (by simp only [q3q,q4q,or_false];omega)
set_option maxHeartbeats 4000000 in
theorem pencode_any (h:Hdr) (w:World) :
  Calls Tryz.prog 104 #[.agg #[.int .i64 h.leap, .int .i64 h.ver, .int .i64 h.mode, .int .i64 h.strat, .int .i64 h.poll, .int .i64 h.prec, .int .u32 (n32 h.rd), .int .u32 (n32 h.rp), .int .u32 (n32 h.id), .int .u64 (n64 h.ref), .int .u64 (n64 h.org), .int .u64 (n64 h.rcv), .int .u64 (n64 h.tx)]] w (Read2 (encH h).1.length (encH h).1 (.int .i64 (encH h).2) w):=by
 have hv:=fun W=>pvalid_any h W
 have hp4:=fun x W=>oput_any x 4 rfl (show (4:Int)=((4:Nat):Int) from rfl) W (by omega)
 have hp8:=fun x W=>oput_any x 8 rfl (show (8:Int)=((8:Nat):Int) from rfl) W (by omega)
 by_cases hk:okH h
 ·have er:encH h=(hdrB h,0):=if_pos hk
  rw [er] at hv ⊢
  have hl:=hdrB_length h
  show Calls _ _ _ _ (Read2 (hdrB h).length _ _ _)
  rw [hl]
  go_enter Tryz.func104,Tryz.ntmps104
  go_wp2_with (first
   | (go_at_call 127;refine (hv _).mono ?_;rintro e w1 ⟨rfl,hxq⟩;obtain ⟨xq,rfl⟩:=hxq.out;clear hxq)
   | fail)
  rw [head0 hk,← n8_b8 h.strat,← n8_b8 h.poll,← n8_b8 h.prec]
  refine nameW ?_
  intro W hW
  have hE:Ext w W:=by rw [hW];exact eX
  have hB:Blk W w.heap.size 27 [.int .i64 h.leap, .int .i64 h.ver, .int .i64 h.mode, .int .i64 h.strat, .int .i64 h.poll, .int .i64 h.prec, .int .u32 (n32 h.rd), .int .u32 (n32 h.rp), .int .u32 (n32 h.id), .int .u64 (n64 h.ref), .int .u64 (n64 h.org), .int .u64 (n64 h.rcv), .int .u64 (n64 h.tx)]:=by rw [hW];exact bK
  have hO:=Own.of_blk (w:=W) (l:=headB h) (base:=w.heap.size) (by rw [hW];exact Blk.new _ _ _) (Below.size (B:=w.heap.size) eX) (by rw [show (headB h).length=4 from rfl];decide)
  have hO:Own W w.heap.size _ 4 4 (headB h):=hO
  clear hW hv er hk
  go_loopw [5,7,43] (fun v5 _ v43 wr=>∃ (k:Nat) (sa:Option Addr)(sc:Nat),k≤3∧v43 = .int .i64 k∧v5 = .slice sa (4+4*k) sc∧Own wr w.heap.size sa (4+4*k) sc (T3 h k)∧Blk wr w.heap.size 27 [.int .i64 h.leap, .int .i64 h.ver, .int .i64 h.mode, .int .i64 h.strat, .int .i64 h.poll, .int .i64 h.prec, .int .u32 (n32 h.rd), .int .u32 (n32 h.rp), .int .u32 (n32 h.id), .int .u64 (n64 h.ref), .int .u64 (n64 h.org), .int .u64 (n64 h.rcv), .int .u64 (n64 h.tx)]∧Ext w wr) (fun _ _ v43 _=>3-(intOf v43).toNat)
  case atStart=>exact ⟨0,_,_,by omega,rfl,rfl,hO,hB,hE⟩
  case round =>
   clear hO hB hE
   obtain ⟨k,sa,sc,hk,rfl,rfl,hO,hB,hE⟩:=hrel
   obtain rfl|rfl|rfl|rfl:k=0∨k=1∨k=2∨k=3:=by omega
   ·have HT:=Lib.hid (show T3 h (0+1)=T3 h 0++putL 4 h.rd.toUInt64 by simp [T3,joinL])
    simp only [Nat.reduceAdd,Nat.reduceMul,Int.cast_ofNat_Int] at hO ⊢
    go_wp2_with (first
     | (refine wpList_idx_arr 151 24 3 Tryz.underlying151 (.inl ⟨_,Tryz.underlying24⟩) (by kernel_rfl) rfl _ _ rfl _ 0 _ rfl rfl (by omega) rfl ?_)
     | fail)
    (with_reducible refine (hp4 _ _).mono ?_)
    rintro e w1 ⟨a1,c1,rfl,hO1,hx1⟩
    go_wp2_with (at_builtin;refine wpList_append_by U rfl _ _ rfl w.heap.size sa _ sc _ rfl a1 4 c1 _ rfl (hO.ext hx1) hO1.sl (by omega) (hE.trans hx1).size ?_;intro sa2 sc2 w2 hO2 hg2 hB2)
    go_roundw
    case rel=>exact ⟨0+1,sa2,sc2,by omega,by go_num,rfl,by rw [HT.out];exact hO2,(hB.extB hx1).grown hg2 (own_type (hO.ext hx1).2 (hB.extB hx1) (by decide)),Below.trans (hE.trans hx1) hB2⟩
    case measure=>simp [intOf]
   ·have HT:=Lib.hid (show T3 h (1+1)=T3 h 1++putL 4 h.rp.toUInt64 by simp [T3,joinL])
    simp only [Nat.reduceAdd,Nat.reduceMul,Int.cast_ofNat_Int] at hO ⊢
    go_wp2_with (first
     | (refine wpList_idx_arr 151 24 3 Tryz.underlying151 (.inl ⟨_,Tryz.underlying24⟩) (by kernel_rfl) rfl _ _ rfl _ 1 _ rfl rfl (by omega) rfl ?_)
     | fail)
    (with_reducible refine (hp4 _ _).mono ?_)
    rintro e w1 ⟨a1,c1,rfl,hO1,hx1⟩
    go_wp2_with (at_builtin;refine wpList_append_by U rfl _ _ rfl w.heap.size sa _ sc _ rfl a1 4 c1 _ rfl (hO.ext hx1) hO1.sl (by omega) (hE.trans hx1).size ?_;intro sa2 sc2 w2 hO2 hg2 hB2)
    go_roundw
    case rel=>exact ⟨1+1,sa2,sc2,by omega,by go_num,rfl,by rw [HT.out];exact hO2,(hB.extB hx1).grown hg2 (own_type (hO.ext hx1).2 (hB.extB hx1) (by decide)),Below.trans (hE.trans hx1) hB2⟩
    case measure=>simp [intOf]
   ·have HT:=Lib.hid (show T3 h (2+1)=T3 h 2++putL 4 h.id.toUInt64 by simp [T3,joinL])
    simp only [Nat.reduceAdd,Nat.reduceMul,Int.cast_ofNat_Int] at hO ⊢
    go_wp2_with (first
     | (refine wpList_idx_arr 151 24 3 Tryz.underlying151 (.inl ⟨_,Tryz.underlying24⟩) (by kernel_rfl) rfl _ _ rfl _ 2 _ rfl rfl (by omega) rfl ?_)
     | fail)
    (with_reducible refine (hp4 _ _).mono ?_)
    rintro e w1 ⟨a1,c1,rfl,hO1,hx1⟩
    go_wp2_with (at_builtin;refine wpList_append_by U rfl _ _ rfl w.heap.size sa _ sc _ rfl a1 4 c1 _ rfl (hO.ext hx1) hO1.sl (by omega) (hE.trans hx1).size ?_;intro sa2 sc2 w2 hO2 hg2 hB2)
    go_roundw
    case rel=>exact ⟨2+1,sa2,sc2,by omega,by go_num,rfl,by rw [HT.out];exact hO2,(hB.extB hx1).grown hg2 (own_type (hO.ext hx1).2 (hB.extB hx1) (by decide)),Below.trans (hE.trans hx1) hB2⟩
    case measure=>simp [intOf]
   ·simp only [Nat.reduceAdd,Nat.reduceMul,Int.cast_ofNat_Int] at hO ⊢
    have hO:Own wr w.heap.size sa 16 sc (T4 h 0):=by have:=hO;unfold T4;simpa [T3,joinL] using this
    haveI:=hB.blt
    have f9:=hB.cell? 9 rfl
    have f10:=hB.cell? 10 rfl
    have f11:=hB.cell? 11 rfl
    have f12:=hB.cell? 12 rfl
    go_wp2_with fail
    clear f9 f10 f11 f12
    go_loopw [5,9,61] (fun v5 _ v61 wr=>∃ (k:Nat) (sa:Option Addr)(sc:Nat),k≤4∧v61 = .int .i64 k∧v5 = .slice sa (16+8*k) sc∧Own wr w.heap.size sa (16+8*k) sc (T4 h k)∧Ext w wr) (fun _ _ v61 _=>4-(intOf v61).toNat)
    case atStart=>exact ⟨0,_,_,by omega,rfl,rfl,hO,hE⟩
    case round =>
     clear hO hB hE
     obtain ⟨k,sa,sc,hk,rfl,rfl,hO,hE⟩:=hrel
     obtain rfl|rfl|rfl|rfl|rfl:k=0∨k=1∨k=2∨k=3∨k=4:=by omega
     ·have HT:=Lib.hid (show T4 h (0+1)=T4 h 0++putL 8 h.ref by simp [T4,joinL])
      simp only [Nat.reduceAdd,Nat.reduceMul,Int.cast_ofNat_Int] at hO ⊢
      go_wp2_with (first
       | (refine wpList_idx_arr 152 25 4 Tryz.underlying152 (.inl ⟨_,Tryz.underlying25⟩) (by kernel_rfl) rfl _ _ rfl _ 0 _ rfl rfl (by omega) rfl ?_)
       | fail)
      (with_reducible refine (hp8 _ _).mono ?_)
      rintro e w1 ⟨a1,c1,rfl,hO1,hx1⟩
      go_wp2_with (at_builtin;refine wpList_append_by U rfl _ _ rfl w.heap.size sa _ sc _ rfl a1 8 c1 _ rfl (hO.ext hx1) hO1.sl (by omega) (hE.trans hx1).size ?_;intro sa2 sc2 w2 hO2 hg2 hB2)
      go_roundw
      case rel=>exact ⟨0+1,sa2,sc2,by omega,by go_num,rfl,by rw [HT.out];exact hO2,Below.trans (hE.trans hx1) hB2⟩
      case measure=>simp [intOf]
     ·have HT:=Lib.hid (show T4 h (1+1)=T4 h 1++putL 8 h.org by simp [T4,joinL])
      simp only [Nat.reduceAdd,Nat.reduceMul,Int.cast_ofNat_Int] at hO ⊢
      go_wp2_with (first
       | (refine wpList_idx_arr 152 25 4 Tryz.underlying152 (.inl ⟨_,Tryz.underlying25⟩) (by kernel_rfl) rfl _ _ rfl _ 1 _ rfl rfl (by omega) rfl ?_)
       | fail)
      (with_reducible refine (hp8 _ _).mono ?_)
      rintro e w1 ⟨a1,c1,rfl,hO1,hx1⟩
      go_wp2_with (at_builtin;refine wpList_append_by U rfl _ _ rfl w.heap.size sa _ sc _ rfl a1 8 c1 _ rfl (hO.ext hx1) hO1.sl (by omega) (hE.trans hx1).size ?_;intro sa2 sc2 w2 hO2 hg2 hB2)
      go_roundw
      case rel=>exact ⟨1+1,sa2,sc2,by omega,by go_num,rfl,by rw [HT.out];exact hO2,Below.trans (hE.trans hx1) hB2⟩
      case measure=>simp [intOf]
     ·have HT:=Lib.hid (show T4 h (2+1)=T4 h 2++putL 8 h.rcv by simp [T4,joinL])
      simp only [Nat.reduceAdd,Nat.reduceMul,Int.cast_ofNat_Int] at hO ⊢
      go_wp2_with (first
       | (refine wpList_idx_arr 152 25 4 Tryz.underlying152 (.inl ⟨_,Tryz.underlying25⟩) (by kernel_rfl) rfl _ _ rfl _ 2 _ rfl rfl (by omega) rfl ?_)
       | fail)
      (with_reducible refine (hp8 _ _).mono ?_)
      rintro e w1 ⟨a1,c1,rfl,hO1,hx1⟩
      go_wp2_with (at_builtin;refine wpList_append_by U rfl _ _ rfl w.heap.size sa _ sc _ rfl a1 8 c1 _ rfl (hO.ext hx1) hO1.sl (by omega) (hE.trans hx1).size ?_;intro sa2 sc2 w2 hO2 hg2 hB2)
      go_roundw
      case rel=>exact ⟨2+1,sa2,sc2,by omega,by go_num,rfl,by rw [HT.out];exact hO2,Below.trans (hE.trans hx1) hB2⟩
      case measure=>simp [intOf]
     ·have HT:=Lib.hid (show T4 h (3+1)=T4 h 3++putL 8 h.tx by simp [T4,joinL])
      simp only [Nat.reduceAdd,Nat.reduceMul,Int.cast_ofNat_Int] at hO ⊢
      go_wp2_with (first
       | (refine wpList_idx_arr 152 25 4 Tryz.underlying152 (.inl ⟨_,Tryz.underlying25⟩) (by kernel_rfl) rfl _ _ rfl _ 3 _ rfl rfl (by omega) rfl ?_)
       | fail)
      (with_reducible refine (hp8 _ _).mono ?_)
      rintro e w1 ⟨a1,c1,rfl,hO1,hx1⟩
      go_wp2_with (at_builtin;refine wpList_append_by U rfl _ _ rfl w.heap.size sa _ sc _ rfl a1 8 c1 _ rfl (hO.ext hx1) hO1.sl (by omega) (hE.trans hx1).size ?_;intro sa2 sc2 w2 hO2 hg2 hB2)
      go_roundw
      case rel=>exact ⟨3+1,sa2,sc2,by omega,by go_num,rfl,by rw [HT.out];exact hO2,Below.trans (hE.trans hx1) hB2⟩
      case measure=>simp [intOf]
     ·simp only [Nat.reduceAdd,Nat.reduceMul,Int.cast_ofNat_Int] at hO ⊢
      have hT:T4 h 4=hdrB h:=by simp [T4,hdrB,wordsB,joinL]
      rw [hT] at hO
      go_wp2_with fail
      go_ret2
      exact ⟨_,_,rfl,hO.sl,hO.le.1,hE⟩
 ·have er:encH h=([],4):=if_neg hk
  rw [er] at hv ⊢
  go_enter Tryz.func104,Tryz.ntmps104
  go_wp2_with (first
   | (go_at_call 127;refine (hv _).mono ?_;rintro e w1 ⟨rfl,hxq⟩;obtain ⟨xq,rfl⟩:=hxq.out;clear hxq)
   | fail)
  go_ret2
  exact read2_err _ _ _ eX
end Go.Proofs.YtdmifbfgeeldnaaGreat

/- The walks of layer 16: next, Decode. -/
namespace Go.Pkt
open Go.Sec Go.RowKit Go.Oct
theorem all8 {p:UInt8→Prop} (h:∀ k<256,p (UInt8.ofNat k)) (x:UInt8):p x:=by
 have:=h x.toNat x.toNat_lt
 rwa [UInt8.ofNat_toNat] at this
theorem and7 (x:UInt8):bits .and .i64 (n8 x) 7=((x.toNat % 8:Nat):Int):=all8 (p:=fun x=>bits .and .i64 (n8 x) 7=((x.toNat % 8:Nat):Int)) (by decide +kernel) x
theorem and7b (x:UInt8):bits .and .i64 (n8 x / 8) 7=((x.toNat / 8 % 8:Nat):Int):=all8 (p:=fun x=>bits .and .i64 (n8 x / 8) 7=((x.toNat / 8 % 8:Nat):Int)) (by decide +kernel) x
theorem div64 (x:UInt8):n8 x / 64=((x.toNat / 64:Nat):Int):=by unfold n8;omega
theorem sgn8 (x:UInt8):IntKind.i8.wrap (n8 x)=sgn x:=all8 (p:=fun x=>IntKind.i8.wrap (n8 x)=sgn x) (by decide +kernel) x
theorem sgn64' (x:UInt8):wrap64 (sgn x)=sgn x:=all8 (p:=fun x=>wrap64 (sgn x)=sgn x) (by decide +kernel) x
@[go_sem] theorem wrap32_n64 (x:UInt64):IntKind.u32.wrap (n64 x)=n32 x.toUInt32:=by
 unfold n32 n64;rw [IntKind.wrap_u32,UInt64.toNat_toUInt32];omega
@[go_sem] theorem mod32_n64 (x:UInt64):n64 x % 4294967296=n32 x.toUInt32:=by
 unfold n32 n64;rw [UInt64.toNat_toUInt32];omega
theorem getU1 (b:List UInt8)(o:Nat) (h:o<b.length):n64 (getU b o 1)=n8 (b.getD o 0):=by
 have e:(b.drop o).take 1=[b.getD o 0]:=by
  rw [List.drop_eq_getElem_cons h,List.getD_eq_getElem?_getD,List.getElem?_eq_getElem h];rfl
 unfold getU
 rw [e]
 unfold getL getS n64 n8
 simp
end Go.Pkt
namespace Go.Proofs.YtdmifbfgeeldnaaGreat
open Go.RowKit Go.Sec Go.Oct Go.Pkt BigFrame
theorem nameCl {P:Program} {f:FuncId} {vs:Array Value} {w:World} {Q:Ending→World→Prop} (h:∀ W,W=w→Calls P f vs W Q):Calls P f vs w Q:=h w rfl
def RdAt (b:List UInt8)(g o:Nat) (w:World):Prop:=∃ A C,b.length-o≤C∧Blk w g 131 [.slice A (b.length-o) C]∧Sl w A (b.length-o) (b.drop o)
theorem RdAt.mut {b:List UInt8} {g o k:Nat} {w w':World} {t:TypeId} {vs:List Value} (h:RdAt b g o w) (hB:Blk w k t vs) (hne:∀ v∈vs,∀ x,v ≠ .int .u8 x) (hM:Mut k w w') (hk:g≠k):RdAt b g o w':=by
 obtain ⟨A,C,h1,h2,h3⟩:=h
 exact ⟨A,C,h1,Blk.turn hM h2 hk,Sl.mut h3 hB hne hM⟩
theorem pnext_any (g o k:Nat) {kI:Int} (hkI:kI=(k:Int)) (b:List UInt8)(w:World)(hR:RdAt b g o w) (hk:o+k≤b.length) (h8:k≤8) :
  Calls Tryz.prog 109 #[.pointer (some ⟨g,0,none⟩), .int .i64 kI] w fun e w'=>e = .returned (.int .u64 (n64 (getU b o k)))∧RdAt b g (o+k) w'∧Mut g w w':=by
 subst hkI
 obtain ⟨A,C,h1,hB,hS⟩:=hR
 have hN:k≤b.length-o:=by omega
 have hSk:=hS.take k hN
 have hSd:=hS.drop C k h1
 rw [List.drop_drop] at hSd
 obtain ⟨N,hNe⟩:∃ N,b.length-o=N:=⟨_,rfl⟩
 have hM2:b.length-(o+k)=N-k:=by omega
 rw [hNe] at h1 hB hS hN hSd
 have hg:=fun W H=>oget_any A k C ((b.drop o).take k) W H (by omega) h8
 haveI:=hB.blt
 have f0:=hB.cell? 0 rfl
 have z0:=hB.free 0
 have i0:(0:Int)≤(k:Int):=by omega
 have i1:(k:Int)≤(N:Int):=by omega
 have i2:(k:Int)≤(C:Int):=by omega
 go_enter Tryz.func109,Tryz.ntmps109
 go_wp2_with (first
  | (go_at_call 93;refine (hg _ (hSk.ext eX)).mono ?_;rintro e w1 ⟨rfl,hxq⟩;obtain ⟨xq,rfl⟩:=hxq.out;clear hxq)
  | fail)
 go_ret
 have hx:Ext w (w.ext xq):=Ext.of_ext _ _
 have hM:Mut g (w.ext xq) ((w.ext xq).setCell ⟨g,0,none⟩ (.slice (sAdr A C k 1) (N-k) (C-k))):=(Mut.refl _ _).setCell 0 _
 refine ⟨rfl,⟨sAdr A C k 1,C-k,by omega,?_,?_⟩,(Mut.of_ext hx).trans hM⟩
 ·rw [hM2];exact (hB.extB hx).set 0 _
 ·rw [hM2];exact Sl.mut (hSd.ext hx) (hB.extB hx) (by simp) hM
def hdC (b:List UInt8)(s p q:Value)(k j:Nat):List Value:=[.int .i64 (rdH b).leap, .int .i64 (rdH b).ver, .int .i64 (rdH b).mode,s,p,q] ++
 (([.int .u32 (n32 (rdH b).rd), .int .u32 (n32 (rdH b).rp), .int .u32 (n32 (rdH b).id)].take k++List.replicate (3-k) (.int .u32 0))++([.int .u64 (n64 (rdH b).ref), .int .u64 (n64 (rdH b).org), .int .u64 (n64 (rdH b).rcv), .int .u64 (n64 (rdH b).tx)].take j++List.replicate (4-j) (.int .u64 0)))
theorem hdC_no (b:List UInt8)(s p q:Int) (k j:Nat):∀ v∈hdC b (.int .i64 s) (.int .i64 p) (.int .i64 q) k j,∀ x,v ≠ .int .u8 x:=by
 intro v hv x e
 subst e
 unfold hdC at hv
 simp only [q7q] at hv
 rcases hv with hv|(hv|hv)|(hv|hv)
 ·simp at hv
 ·have:=List.mem_of_mem_take hv;simp at this
 ·have:=List.eq_of_mem_replicate hv;injection this with h;cases h
 ·have:=List.mem_of_mem_take hv;simp at this
 ·have:=List.eq_of_mem_replicate hv;injection this with h;cases h
def DecOut (r:(Hdr × List UInt8) × Int) (w:World)(e:Ending) (w':World):Prop :=
 ∃ a c,e = .returned (.tuple #[.agg #[.int .i64 r.1.1.leap, .int .i64 r.1.1.ver, .int .i64 r.1.1.mode, .int .i64 r.1.1.strat, .int .i64 r.1.1.poll, .int .i64 r.1.1.prec, .int .u32 (n32 r.1.1.rd), .int .u32 (n32 r.1.1.rp), .int .u32 (n32 r.1.1.id), .int .u64 (n64 r.1.1.ref), .int .u64 (n64 r.1.1.org), .int .u64 (n64 r.1.1.rcv), .int .u64 (n64 r.1.1.tx)], .slice a r.1.2.length c, .int .i64 r.2])∧Sl w' a r.1.2.length r.1.2∧r.1.2.length≤c∧Ext w w'
theorem DecOut.err (w w':World)(e:Int) (hx:Ext w w'):DecOut ((zeroH,[]),e) w (.returned (.tuple #[.agg #[.int .i64 0, .int .i64 0, .int .i64 0, .int .i64 0, .int .i64 0, .int .i64 0, .int .u32 0, .int .u32 0, .int .u32 0, .int .u64 0, .int .u64 0, .int .u64 0, .int .u64 0], .slice none 0 0, .int .i64 e])) w' :=
 ⟨none,0,rfl,Sl.nil _ _,Nat.le_refl _,hx⟩
theorem _root_.z31q0{p:Prop}(h:p:=by
 clear hR2 hH2 hE2
 obtain ⟨k,hk,rfl,hR,hH,hE⟩:=hrel
 obtain rfl|rfl|rfl|rfl:k=0∨k=1∨k=2∨k=3:=by omega
 ·simp only [Nat.reduceAdd,Nat.reduceMul,Int.cast_ofNat_Int] at hR ⊢
  go_wp2_with (first
   | (refine wpList_idx_arr 135 134 3 Tryz.underlying135 (.inr ⟨_,Tryz.underlying134⟩) (by kernel_rfl) rfl _ _ rfl _ 0 _ rfl rfl (by omega) rfl ?_)
   | fail)
  (with_reducible refine (hn4 _ _ _ hR (by omega)).mono ?_)
  rintro e w5 ⟨rfl,hR5,hM⟩
  have hH5:=Blk.turn hM hH (by omega)
  have hE5:=Below.trans hE (hM.below (by omega) hE.size)
  haveI:=hH5.blt
  have z:=hH5.free (6+0)
  have ff:=hH5.cell? (6+0) rfl
  simp only [Nat.reduceAdd] at z ff
  go_wp2_with fail
  have hM6:=(Mut.refl w.heap.size w5).setCell (6+0) (.int .u32 (n32 (getU b (4+4*0) 4).toUInt32))
  go_roundw
  case rel=>exact ⟨0+1,by omega,by go_num,hR5.mut hH5 (hdC_no _ _ _ _ _ _) hM6 (by omega),hH5.set (6+0) _,Below.trans hE5 (hM6.below (by omega) hE5.size)⟩
  case measure=>simp [intOf]
 ·simp only [Nat.reduceAdd,Nat.reduceMul,Int.cast_ofNat_Int] at hR ⊢
  go_wp2_with (first
   | (refine wpList_idx_arr 135 134 3 Tryz.underlying135 (.inr ⟨_,Tryz.underlying134⟩) (by kernel_rfl) rfl _ _ rfl _ 1 _ rfl rfl (by omega) rfl ?_)
   | fail)
  (with_reducible refine (hn4 _ _ _ hR (by omega)).mono ?_)
  rintro e w5 ⟨rfl,hR5,hM⟩
  have hH5:=Blk.turn hM hH (by omega)
  have hE5:=Below.trans hE (hM.below (by omega) hE.size)
  haveI:=hH5.blt
  have z:=hH5.free (6+1)
  have ff:=hH5.cell? (6+1) rfl
  simp only [Nat.reduceAdd] at z ff
  go_wp2_with fail
  have hM6:=(Mut.refl w.heap.size w5).setCell (6+1) (.int .u32 (n32 (getU b (4+4*1) 4).toUInt32))
  go_roundw
  case rel=>exact ⟨1+1,by omega,by go_num,hR5.mut hH5 (hdC_no _ _ _ _ _ _) hM6 (by omega),hH5.set (6+1) _,Below.trans hE5 (hM6.below (by omega) hE5.size)⟩
  case measure=>simp [intOf]
 ·simp only [Nat.reduceAdd,Nat.reduceMul,Int.cast_ofNat_Int] at hR ⊢
  go_wp2_with (first
   | (refine wpList_idx_arr 135 134 3 Tryz.underlying135 (.inr ⟨_,Tryz.underlying134⟩) (by kernel_rfl) rfl _ _ rfl _ 2 _ rfl rfl (by omega) rfl ?_)
   | fail)
  (with_reducible refine (hn4 _ _ _ hR (by omega)).mono ?_)
  rintro e w5 ⟨rfl,hR5,hM⟩
  have hH5:=Blk.turn hM hH (by omega)
  have hE5:=Below.trans hE (hM.below (by omega) hE.size)
  haveI:=hH5.blt
  have z:=hH5.free (6+2)
  have ff:=hH5.cell? (6+2) rfl
  simp only [Nat.reduceAdd] at z ff
  go_wp2_with fail
  have hM6:=(Mut.refl w.heap.size w5).setCell (6+2) (.int .u32 (n32 (getU b (4+4*2) 4).toUInt32))
  go_roundw
  case rel=>exact ⟨2+1,by omega,by go_num,hR5.mut hH5 (hdC_no _ _ _ _ _ _) hM6 (by omega),hH5.set (6+2) _,Below.trans hE5 (hM6.below (by omega) hE5.size)⟩
  case measure=>simp [intOf]
 ·simp only [Nat.reduceAdd,Nat.reduceMul,Int.cast_ofNat_Int] at hR ⊢
  go_wp2_with fail
  go_loopw [11,78] (fun _ v78 wr=>∃ k:Nat,k≤4∧v78 = .int .i64 k∧RdAt b (w.heap.size+1) (16+8*k) wr∧Blk wr w.heap.size 27 (hdC b (.int .i64 (rdH b).strat) (.int .i64 (rdH b).poll) (.int .i64 (rdH b).prec) 3 k)∧Ext w wr) (fun _ v78 _=>4-(intOf v78).toNat)
  case atStart=>exact ⟨0,by omega,rfl,hR,hH,hE⟩
  case round =>
   clear hR hH hE
   obtain ⟨k,hk,rfl,hR,hH,hE⟩:=hrel
   obtain rfl|rfl|rfl|rfl|rfl:k=0∨k=1∨k=2∨k=3∨k=4:=by omega
   ·simp only [Nat.reduceAdd,Nat.reduceMul,Int.cast_ofNat_Int] at hR ⊢
    go_wp2_with (first
     | (refine wpList_idx_arr 137 136 4 Tryz.underlying137 (.inr ⟨_,Tryz.underlying136⟩) (by kernel_rfl) rfl _ _ rfl _ 0 _ rfl rfl (by omega) rfl ?_)
     | fail)
    (with_reducible refine (hn8 _ _ _ hR (by omega)).mono ?_)
    rintro e w5 ⟨rfl,hR5,hM⟩
    have hH5:=Blk.turn hM hH (by omega)
    have hE5:=Below.trans hE (hM.below (by omega) hE.size)
    haveI:=hH5.blt
    have z:=hH5.free (9+0)
    have ff:=hH5.cell? (9+0) rfl
    simp only [Nat.reduceAdd] at z ff
    go_wp2_with fail
    have hM6:=(Mut.refl w.heap.size w5).setCell (9+0) (.int .u64 (n64 (getU b (16+8*0) 8)))
    go_roundw
    case rel=>exact ⟨0+1,by omega,by go_num,hR5.mut hH5 (hdC_no _ _ _ _ _ _) hM6 (by omega),hH5.set (9+0) _,Below.trans hE5 (hM6.below (by omega) hE5.size)⟩
    case measure=>simp [intOf]
   ·simp only [Nat.reduceAdd,Nat.reduceMul,Int.cast_ofNat_Int] at hR ⊢
    go_wp2_with (first
     | (refine wpList_idx_arr 137 136 4 Tryz.underlying137 (.inr ⟨_,Tryz.underlying136⟩) (by kernel_rfl) rfl _ _ rfl _ 1 _ rfl rfl (by omega) rfl ?_)
     | fail)
    (with_reducible refine (hn8 _ _ _ hR (by omega)).mono ?_)
    rintro e w5 ⟨rfl,hR5,hM⟩
    have hH5:=Blk.turn hM hH (by omega)
    have hE5:=Below.trans hE (hM.below (by omega) hE.size)
    haveI:=hH5.blt
    have z:=hH5.free (9+1)
    have ff:=hH5.cell? (9+1) rfl
    simp only [Nat.reduceAdd] at z ff
    go_wp2_with fail
    have hM6:=(Mut.refl w.heap.size w5).setCell (9+1) (.int .u64 (n64 (getU b (16+8*1) 8)))
    go_roundw
    case rel=>exact ⟨1+1,by omega,by go_num,hR5.mut hH5 (hdC_no _ _ _ _ _ _) hM6 (by omega),hH5.set (9+1) _,Below.trans hE5 (hM6.below (by omega) hE5.size)⟩
    case measure=>simp [intOf]
   ·simp only [Nat.reduceAdd,Nat.reduceMul,Int.cast_ofNat_Int] at hR ⊢
    go_wp2_with (first
     | (refine wpList_idx_arr 137 136 4 Tryz.underlying137 (.inr ⟨_,Tryz.underlying136⟩) (by kernel_rfl) rfl _ _ rfl _ 2 _ rfl rfl (by omega) rfl ?_)
     | fail)
    (with_reducible refine (hn8 _ _ _ hR (by omega)).mono ?_)
    rintro e w5 ⟨rfl,hR5,hM⟩
    have hH5:=Blk.turn hM hH (by omega)
    have hE5:=Below.trans hE (hM.below (by omega) hE.size)
    haveI:=hH5.blt
    have z:=hH5.free (9+2)
    have ff:=hH5.cell? (9+2) rfl
    simp only [Nat.reduceAdd] at z ff
    go_wp2_with fail
    have hM6:=(Mut.refl w.heap.size w5).setCell (9+2) (.int .u64 (n64 (getU b (16+8*2) 8)))
    go_roundw
    case rel=>exact ⟨2+1,by omega,by go_num,hR5.mut hH5 (hdC_no _ _ _ _ _ _) hM6 (by omega),hH5.set (9+2) _,Below.trans hE5 (hM6.below (by omega) hE5.size)⟩
    case measure=>simp [intOf]
   ·simp only [Nat.reduceAdd,Nat.reduceMul,Int.cast_ofNat_Int] at hR ⊢
    go_wp2_with (first
     | (refine wpList_idx_arr 137 136 4 Tryz.underlying137 (.inr ⟨_,Tryz.underlying136⟩) (by kernel_rfl) rfl _ _ rfl _ 3 _ rfl rfl (by omega) rfl ?_)
     | fail)
    (with_reducible refine (hn8 _ _ _ hR (by omega)).mono ?_)
    rintro e w5 ⟨rfl,hR5,hM⟩
    have hH5:=Blk.turn hM hH (by omega)
    have hE5:=Below.trans hE (hM.below (by omega) hE.size)
    haveI:=hH5.blt
    have z:=hH5.free (9+3)
    have ff:=hH5.cell? (9+3) rfl
    simp only [Nat.reduceAdd] at z ff
    go_wp2_with fail
    have hM6:=(Mut.refl w.heap.size w5).setCell (9+3) (.int .u64 (n64 (getU b (16+8*3) 8)))
    go_roundw
    case rel=>exact ⟨3+1,by omega,by go_num,hR5.mut hH5 (hdC_no _ _ _ _ _ _) hM6 (by omega),hH5.set (9+3) _,Below.trans hE5 (hM6.below (by omega) hE5.size)⟩
    case measure=>simp [intOf]
   ·simp only [Nat.reduceAdd,Nat.reduceMul,Int.cast_ofNat_Int] at hR ⊢
    obtain ⟨A,C,g1,hB,hS⟩:=hR
    have hH:Blk wr w.heap.size 27 [.int .i64 (rdH b).leap, .int .i64 (rdH b).ver, .int .i64 (rdH b).mode, .int .i64 (rdH b).strat, .int .i64 (rdH b).poll, .int .i64 (rdH b).prec, .int .u32 (n32 (rdH b).rd), .int .u32 (n32 (rdH b).rp), .int .u32 (n32 (rdH b).id), .int .u64 (n64 (rdH b).ref), .int .u64 (n64 (rdH b).org), .int .u64 (n64 (rdH b).rcv), .int .u64 (n64 (rdH b).tx)]:=hH
    obtain ⟨N,hN⟩:∃ N,b.length-48=N:=⟨_,rfl⟩
    rw [hN] at g1 hB hS
    have hdl:(b.drop 48).length=N:=by rw [List.length_drop,hN]
    haveI:=hB.blt
    have fR:=hB.cell? 0 rfl
    go_wp2_with fail
    refine wp_region_vague 3 [[],[],[1],[0,1,2],[0,1,2,3],[0,1,2,3,4]] (by kernel_rfl) (by kernel_rfl) (by kernel_rfl) (by kernel_rfl) ?_;simp only [q8q,q9q,q10q,q11q,q12q,q13q]
    (refine VD_load_arr (RH13) _ rfl (fun _=>rfl) (w.heap.size) (0) (fun _=>by simp [go_sem]) ([.int .i64 (rdH b).leap, .int .i64 (rdH b).ver, .int .i64 (rdH b).mode, .int .i64 (rdH b).strat, .int .i64 (rdH b).poll, .int .i64 (rdH b).prec, .int .u32 (n32 (rdH b).rd), .int .u32 (n32 (rdH b).rp), .int .u32 (n32 (rdH b).id), .int .u64 (n64 (rdH b).ref), .int .u64 (n64 (rdH b).org), .int .u64 (n64 (rdH b).rcv), .int .u64 (n64 (rdH b).tx)]) (hH.rd) (rfl) ?_)
    (repeat (refine VD_a ?_;(try simp only [Act.put,q0q,q1q,q2q])))
    (refine VD_vag (fun p => .slice (p 0).1 (N) (p 0).2) (fun p w''=>Own w'' 0 (p 0).1 (N) (p 0).2 (b.drop 48)) (fun p w w' h hx=>h.ext hx) (fun us w' hx hf=>⟨rfl,?_⟩) ?_;(unfold gives;simp [go_sem,execOp];exact vag_fresh (Nat.zero_le _) (clone_any A N C (b.drop 48) _ (hS.ext hx) (by omega))))
    (refine VD_z ?_;intro us x hx hf;(try simp only [Act.put,q0q,q1q,q2q,wpList_none]);(try simp only [q3q,q4q,or_false,forall_eq_or_imp,forall_eq,q5q,q6q,q7q,false_or,true_and,and_true] at hf);(try simp only [Nat.reduceAdd,Nat.zero_add] at hf ⊢))
    obtain ⟨a5,ha5⟩:∃ a,(us 2 0).1=a:=⟨_,rfl⟩
    obtain ⟨c5,hc5⟩:∃ a,(us 2 0).2=a:=⟨_,rfl⟩
    have hO:=hf
    rw [ha5,hc5] at hO ⊢
    clear ha5 hc5 hf fR
    have hxx:Ext wr (wr.ext x):=Ext.of_ext _ _
    have hHx:=hH.extB hxx
    have hEx:=hE.trans hxx
    go_wp2_with (first
     | (refine wpList_store_arr (RH13) rfl _ _ rfl (w.heap.size) (0) rfl ([.int .i64 (rdH b).leap, .int .i64 (rdH b).ver, .int .i64 (rdH b).mode, .int .i64 (rdH b).strat, .int .i64 (rdH b).poll, .int .i64 (rdH b).prec, .int .u32 (n32 (rdH b).rd), .int .u32 (n32 (rdH b).rp), .int .u32 (n32 (rdH b).id), .int .u64 (n64 (rdH b).ref), .int .u64 (n64 (rdH b).org), .int .u64 (n64 (rdH b).rcv), .int .u64 (n64 (rdH b).tx)]) rfl (27) _ (hHx) (rfl) (by simp) (oC) ?_;intro V hV hMV)
     | fail)
    refine bodyPost_ret (results_arr_tmp2 Tryz.results65 (RH13) _ _ (w.heap.size) (0) ([.int .i64 (rdH b).leap, .int .i64 (rdH b).ver, .int .i64 (rdH b).mode, .int .i64 (rdH b).strat, .int .i64 (rdH b).poll, .int .i64 (rdH b).prec, .int .u32 (n32 (rdH b).rd), .int .u32 (n32 (rdH b).rp), .int .u32 (n32 (rdH b).id), .int .u64 (n64 (rdH b).ref), .int .u64 (n64 (rdH b).org), .int .u64 (n64 (rdH b).rcv), .int .u64 (n64 (rdH b).tx)]) rfl (hV.rd) (rfl) (.slice a5 N c5) (.int .i64 0) rfl rfl) rfl ?_
    have hOV:=Sl.mut (vs:=hdC b (.int .i64 (rdH b).strat) (.int .i64 (rdH b).poll) (.int .i64 (rdH b).prec) 3 4) hO.sl hHx (hdC_no _ _ _ _ _ _) hMV
    rw [er]
    exact ⟨a5,c5,by rw [hdl],by rw [hdl];exact hOV,by rw [hdl];exact hO.le.1,Below.trans hEx (hMV.below (by omega) hEx.size)⟩):p:=h
set_option maxHeartbeats 8000000 in
theorem pdecode_any (a:Option Addr)(n c:Nat) (b:List UInt8)(w:World)(hS:Sl w a n b) (hc:n≤c) (hn:n≤1000000) :
  Calls Tryz.prog 65 #[.slice a n c] w (DecOut (decH b) w):=by
 have hl:=hS.len
 by_cases h1:n<48
 ·have er:decH b=((zeroH,[]),1):=if_pos (by omega)
  rw [er]
  have i1:(n:Int)<48:=by omega
  clear hl
  go_enter Tryz.func65,Tryz.ntmps65
  go_wp2_with (first
   | (refine wpList_store_arr (RH13) rfl _ _ rfl (w.heap.size) (0) rfl ([.int .i64 0, .int .i64 0, .int .i64 0, .int .i64 0, .int .i64 0, .int .i64 0, .int .u32 0, .int .u32 0, .int .u32 0, .int .u64 0, .int .u64 0, .int .u64 0, .int .u64 0]) rfl (27) _ (bK) (rfl) (by simp) (by first|exact one_u8 _|(simp;done)|(simp;(repeat' (first|rfl|constructor)))) ?_;intro V hV hMV)
   | fail)
  refine bodyPost_ret (results_arr_tmp2 Tryz.results65 (RH13) _ _ (w.heap.size) (0) ([.int .i64 0, .int .i64 0, .int .i64 0, .int .i64 0, .int .i64 0, .int .i64 0, .int .u32 0, .int .u32 0, .int .u32 0, .int .u64 0, .int .u64 0, .int .u64 0, .int .u64 0]) rfl (hV.rd) (rfl) (.slice none 0 0) (.int .i64 1) rfl rfl) rfl ?_
  exact DecOut.err _ _ _ (Below.trans (b:=w.alloc _) eX (hMV.below (by omega) (by simp)))
 ·have i1:¬ (n:Int)<48:=by omega
  by_cases h2:1280<n
  ·have er:decH b=((zeroH,[]),2):=by unfold decH;rw [if_neg (by omega),if_pos (by omega)]
   rw [er]
   have i2:(1280:Int)<(n:Int):=by omega
   clear hl
   go_enter Tryz.func65,Tryz.ntmps65
   go_wp2_with (first
    | (refine wpList_store_arr (RH13) rfl _ _ rfl (w.heap.size) (0) rfl ([.int .i64 0, .int .i64 0, .int .i64 0, .int .i64 0, .int .i64 0, .int .i64 0, .int .u32 0, .int .u32 0, .int .u32 0, .int .u64 0, .int .u64 0, .int .u64 0, .int .u64 0]) rfl (27) _ (bK) (rfl) (by simp) (by first|exact one_u8 _|(simp;done)|(simp;(repeat' (first|rfl|constructor)))) ?_;intro V hV hMV)
    | fail)
   refine bodyPost_ret (results_arr_tmp2 Tryz.results65 (RH13) _ _ (w.heap.size) (0) ([.int .i64 0, .int .i64 0, .int .i64 0, .int .i64 0, .int .i64 0, .int .i64 0, .int .u32 0, .int .u32 0, .int .u32 0, .int .u64 0, .int .u64 0, .int .u64 0, .int .u64 0]) rfl (hV.rd) (rfl) (.slice none 0 0) (.int .i64 2) rfl rfl) rfl ?_
   exact DecOut.err _ _ _ (Below.trans (b:=w.alloc _) eX (hMV.below (by omega) (by simp)))
  ·have i2:¬ (1280:Int)<(n:Int):=by omega
   obtain ⟨r,hr⟩:∃ r,decH b=r:=⟨_,rfl⟩
   have hr1:(rdH b).ver=4∨(rdH b).ver=3→r=((rdH b,b.drop 48),0):=fun h=>by rw [← hr];unfold decH;rw [if_neg (by omega),if_neg (by omega),if_pos h]
   have hr2:¬ ((rdH b).ver=4∨(rdH b).ver=3)→r=((zeroH,[]),3):=fun h=>by rw [← hr];unfold decH;rw [if_neg (by omega),if_neg (by omega),if_neg h]
   rw [hr]
   clear hr
   obtain ⟨f,hf⟩:∃ f:Nat→UInt8,∀ o,b.getD o 0=f o:=⟨_,fun _=>rfl⟩
   have hn1:∀ g o W,RdAt b g o W→o<b.length→Calls Tryz.prog 109 #[.pointer (some ⟨g,0,none⟩), .int .i64 1] W fun e w'=>e = .returned (.int .u64 (n8 (f o)))∧RdAt b g (o+1) w'∧Mut g W w':=fun g o W H h=>by
    have:=pnext_any g o 1 (show (1:Int)=((1:Nat):Int) from rfl) b W H h (by omega)
    rwa [getU1 b o h,hf] at this
   have hn4:=fun g o W (H:RdAt b g o W) (h:o+4≤b.length)=>pnext_any g o 4 (show (4:Int)=((4:Nat):Int) from rfl) b W H h (by omega)
   have hn8:=fun g o W (H:RdAt b g o W) (h:o+8≤b.length)=>pnext_any g o 8 (show (8:Int)=((8:Nat):Int) from rfl) b W H h (by omega)
   go_enter Tryz.func65,Tryz.ntmps65
   go_wp2_with fail
   refine nameCl ?_
   intro W hW
   have hE:Ext w W:=by rw [hW];exact eX
   have hH:Blk W w.heap.size 27 [.int .i64 0, .int .i64 0, .int .i64 0, .int .i64 0, .int .i64 0, .int .i64 0, .int .u32 0, .int .u32 0, .int .u32 0, .int .u64 0, .int .u64 0, .int .u64 0, .int .u64 0]:=by rw [hW];exact bK
   have hR:RdAt b (w.heap.size+1) 0 W:=⟨a,c,by omega,by rw [hW,hl];exact bK,by rw [hl];exact hS.ext hE⟩
   clear hW
   have e1:n8 (f 0) / 64=(rdH b).leap:=by rw [← hf];exact div64 _
   have e2:bits .and .i64 (n8 (f 0) / 8) 7=(rdH b).ver:=by rw [← hf];exact and7b _
   have e3:bits .and .i64 (n8 (f 0)) 7=(rdH b).mode:=by rw [← hf];exact and7 _
   have e4:=Lib.hid (show n8 (f 1)=(rdH b).strat by rw [← hf];rfl)
   have e5:=sgn8 (f 2)
   have e6:=sgn8 (f 3)
   have e7:wrap64 (sgn (f 2))=(rdH b).poll:=by rw [← hf];exact sgn64' _
   have e8:wrap64 (sgn (f 3))=(rdH b).prec:=by rw [← hf];exact sgn64' _
   clear hf
   (with_reducible refine (hn1 _ _ _ hR (by omega)).mono ?_)
   rintro e w1 ⟨rfl,hR,hM⟩
   have hR:RdAt b (w.heap.size+1) 1 w1:=hR
   have hH:=Blk.turn hM hH (by omega)
   have hE:=Below.trans hE (hM.below (by omega) hE.size)
   clear hM
   haveI:=hH.blt
   have z0:=hH.free 0
   have z1:=hH.free 1
   have z2:=hH.free 2
   have f0:=hH.cell? 0 rfl
   have f1:=hH.cell? 1 rfl
   have f2:=hH.cell? 2 rfl
   by_cases v4:(rdH b).ver=4
   ·have q4:((rdH b).ver != 4)=false:=by rw [v4];rfl
    have er:=hr1 (.inl v4)
    clear v4 hr1 hr2
    go_wp2_with fail
    clear z0 z1 z2 f0 f1 f2
    refine nameCl ?_
    intro W1 hW1
    have hH1:Blk W1 w.heap.size 27 [.int .i64 (rdH b).leap, .int .i64 (rdH b).ver, .int .i64 (rdH b).mode, .int .i64 0, .int .i64 0, .int .i64 0, .int .u32 0, .int .u32 0, .int .u32 0, .int .u64 0, .int .u64 0, .int .u64 0, .int .u64 0]:=by rw [hW1];exact ((hH.set 0 _).set 1 _).set 2 _
    have hM1:Mut w.heap.size w1 W1:=by rw [hW1];exact (by repeat (with_reducible first|exact Mut.refl _ _|assumption|apply Mut.ext|apply Mut.drew|apply Mut.alloc|apply Mut.setCell))
    have hR1:=hR.mut hH (by simp) hM1 (by omega)
    have hE1:=Below.trans hE (hM1.below (by omega) hE.size)
    clear hW1 hM1 hR hE hH
    (with_reducible refine (hn1 _ _ _ hR1 (by omega)).mono ?_)
    rintro e w2 ⟨rfl,hR,hM⟩
    have hR:RdAt b (w.heap.size+1) 2 w2:=hR
    have hH:=Blk.turn hM hH1 (by omega)
    have hE:=Below.trans hE1 (hM.below (by omega) hE1.size)
    clear hM hR1 hH1 hE1
    go_wp2_with fail
    (with_reducible refine (hn1 _ _ _ hR (by omega)).mono ?_)
    rintro e w3 ⟨rfl,hR3,hM⟩
    have hR3:RdAt b (w.heap.size+1) 3 w3:=hR3
    have hH3:=Blk.turn hM hH (by omega)
    have hE3:=Below.trans hE (hM.below (by omega) hE.size)
    clear hM hR hH hE
    go_wp2_with fail
    (with_reducible refine (hn1 _ _ _ hR3 (by omega)).mono ?_)
    rintro e w4 ⟨rfl,hR,hM⟩
    have hR:RdAt b (w.heap.size+1) 4 w4:=hR
    have hH:=Blk.turn hM hH3 (by omega)
    have hE:=Below.trans hE3 (hM.below (by omega) hE3.size)
    clear hM hR3 hH3 hE3
    haveI:=hH.blt
    have z3:=hH.free 3
    have z4:=hH.free 4
    have z5:=hH.free 5
    have f3:=hH.cell? 3 rfl
    have f4:=hH.cell? 4 rfl
    have f5:=hH.cell? 5 rfl
    go_wp2_with fail
    clear z3 z4 z5 f3 f4 f5
    refine nameW ?_
    intro W2 hW2
    have hH2:Blk W2 w.heap.size 27 (hdC b (.int .i64 (rdH b).strat) (.int .i64 (rdH b).poll) (.int .i64 (rdH b).prec) 0 0):=by rw [hW2,← e4.out];exact ((hH.set 3 _).set 4 _).set 5 _
    have hM2:Mut w.heap.size w4 W2:=by rw [hW2];exact (by repeat (with_reducible first|exact Mut.refl _ _|assumption|apply Mut.ext|apply Mut.drew|apply Mut.alloc|apply Mut.setCell))
    have hR2:=hR.mut hH (by simp) hM2 (by omega)
    have hE2:=Below.trans hE (hM2.below (by omega) hE.size)
    clear hW2 hM2 hR hE hH hn1 e1 e2 e3 e4 e5 e6 e7 e8
    go_loopw [9,64] (fun _ v64 wr=>∃ k:Nat,k≤3∧v64 = .int .i64 k∧RdAt b (w.heap.size+1) (4+4*k) wr∧Blk wr w.heap.size 27 (hdC b (.int .i64 (rdH b).strat) (.int .i64 (rdH b).poll) (.int .i64 (rdH b).prec) k 0)∧Ext w wr) (fun _ v64 _=>3-(intOf v64).toNat)
    case atStart=>exact ⟨0,by omega,rfl,hR2,hH2,hE2⟩
    case round =>
     exact z31q0
   ·have q4:((rdH b).ver != 4)=true:=by rw [bne_iff_ne];exact v4
    by_cases v3:(rdH b).ver=3
    ·have q3:((rdH b).ver != 3)=false:=by rw [v3];rfl
     have er:=hr1 (.inr v3)
     clear v3 v4 hr1 hr2
     go_wp2_with fail
     clear z0 z1 z2 f0 f1 f2
     refine nameCl ?_
     intro W1 hW1
     have hH1:Blk W1 w.heap.size 27 [.int .i64 (rdH b).leap, .int .i64 (rdH b).ver, .int .i64 (rdH b).mode, .int .i64 0, .int .i64 0, .int .i64 0, .int .u32 0, .int .u32 0, .int .u32 0, .int .u64 0, .int .u64 0, .int .u64 0, .int .u64 0]:=by rw [hW1];exact ((hH.set 0 _).set 1 _).set 2 _
     have hM1:Mut w.heap.size w1 W1:=by rw [hW1];exact (by repeat (with_reducible first|exact Mut.refl _ _|assumption|apply Mut.ext|apply Mut.drew|apply Mut.alloc|apply Mut.setCell))
     have hR1:=hR.mut hH (by simp) hM1 (by omega)
     have hE1:=Below.trans hE (hM1.below (by omega) hE.size)
     clear hW1 hM1 hR hE hH
     (with_reducible refine (hn1 _ _ _ hR1 (by omega)).mono ?_)
     rintro e w2 ⟨rfl,hR,hM⟩
     have hR:RdAt b (w.heap.size+1) 2 w2:=hR
     have hH:=Blk.turn hM hH1 (by omega)
     have hE:=Below.trans hE1 (hM.below (by omega) hE1.size)
     clear hM hR1 hH1 hE1
     go_wp2_with fail
     (with_reducible refine (hn1 _ _ _ hR (by omega)).mono ?_)
     rintro e w3 ⟨rfl,hR3,hM⟩
     have hR3:RdAt b (w.heap.size+1) 3 w3:=hR3
     have hH3:=Blk.turn hM hH (by omega)
     have hE3:=Below.trans hE (hM.below (by omega) hE.size)
     clear hM hR hH hE
     go_wp2_with fail
     (with_reducible refine (hn1 _ _ _ hR3 (by omega)).mono ?_)
     rintro e w4 ⟨rfl,hR,hM⟩
     have hR:RdAt b (w.heap.size+1) 4 w4:=hR
     have hH:=Blk.turn hM hH3 (by omega)
     have hE:=Below.trans hE3 (hM.below (by omega) hE3.size)
     clear hM hR3 hH3 hE3
     haveI:=hH.blt
     have z3:=hH.free 3
     have z4:=hH.free 4
     have z5:=hH.free 5
     have f3:=hH.cell? 3 rfl
     have f4:=hH.cell? 4 rfl
     have f5:=hH.cell? 5 rfl
     go_wp2_with fail
     clear z3 z4 z5 f3 f4 f5
     refine nameW ?_
     intro W2 hW2
     have hH2:Blk W2 w.heap.size 27 (hdC b (.int .i64 (rdH b).strat) (.int .i64 (rdH b).poll) (.int .i64 (rdH b).prec) 0 0):=by rw [hW2,← e4.out];exact ((hH.set 3 _).set 4 _).set 5 _
     have hM2:Mut w.heap.size w4 W2:=by rw [hW2];exact (by repeat (with_reducible first|exact Mut.refl _ _|assumption|apply Mut.ext|apply Mut.drew|apply Mut.alloc|apply Mut.setCell))
     have hR2:=hR.mut hH (by simp) hM2 (by omega)
     have hE2:=Below.trans hE (hM2.below (by omega) hE.size)
     clear hW2 hM2 hR hE hH hn1 e1 e2 e3 e4 e5 e6 e7 e8
     go_loopw [9,64] (fun _ v64 wr=>∃ k:Nat,k≤3∧v64 = .int .i64 k∧RdAt b (w.heap.size+1) (4+4*k) wr∧Blk wr w.heap.size 27 (hdC b (.int .i64 (rdH b).strat) (.int .i64 (rdH b).poll) (.int .i64 (rdH b).prec) k 0)∧Ext w wr) (fun _ v64 _=>3-(intOf v64).toNat)
     case atStart=>exact ⟨0,by omega,rfl,hR2,hH2,hE2⟩
     case round =>
      exact z31q0
    ·have q3:((rdH b).ver != 3)=true:=by rw [bne_iff_ne];exact v3
     have er:=hr2 (fun h=>h.elim v4 v3)
     clear v3 v4 hr1 hr2
     go_wp2_with (first
      | (refine wpList_store_arr (RH13) rfl _ _ rfl (w.heap.size) (0) rfl ([.int .i64 0, .int .i64 0, .int .i64 0, .int .i64 0, .int .i64 0, .int .i64 0, .int .u32 0, .int .u32 0, .int .u32 0, .int .u64 0, .int .u64 0, .int .u64 0, .int .u64 0]) rfl (27) _ ((((hH.set 0 (.int .i64 (rdH b).leap)).set 1 (.int .i64 (rdH b).ver)).set 2 (.int .i64 (rdH b).mode))) (rfl) (by simp) (by first|exact one_u8 _|(simp;done)|(simp;(repeat' (first|rfl|constructor)))) ?_;intro V hV hMV)
      | fail)
     refine bodyPost_ret (results_arr_tmp2 Tryz.results65 (RH13) _ _ (w.heap.size) (0) ([.int .i64 0, .int .i64 0, .int .i64 0, .int .i64 0, .int .i64 0, .int .i64 0, .int .u32 0, .int .u32 0, .int .u32 0, .int .u64 0, .int .u64 0, .int .u64 0, .int .u64 0]) rfl (hV.rd) (rfl) (.slice none 0 0) (.int .i64 3) rfl rfl) rfl ?_
     rw [er]
     have hM3:Mut w.heap.size w1 (((w1.setCell ⟨w.heap.size,0,none⟩ (.int .i64 (rdH b).leap)).setCell ⟨w.heap.size,1,none⟩ (.int .i64 (rdH b).ver)).setCell ⟨w.heap.size,2,none⟩ (.int .i64 (rdH b).mode)):=(by repeat (with_reducible first|exact Mut.refl _ _|assumption|apply Mut.ext|apply Mut.drew|apply Mut.alloc|apply Mut.setCell))
     exact DecOut.err _ _ _ (Below.trans hE ((hM3.trans hMV).below (by omega) hE.size))
end Go.Proofs.YtdmifbfgeeldnaaGreat

/- The walks of layer 16 of the document: Valid, Encode, signed, Reply. -/
namespace Go.Sec
open Go.RowKit
end Go.Sec
namespace Go.Proofs.YtdmifbfgeeldnaaGreat
open Go.RowKit Go.Sec Go.Oct Go.Pkt BigFrame
theorem _root_.z31q48{p:Prop}(h:p:=by
 have e:=Lib.hid (hno (fun k=>by unfold okH at k;omega))
 clear hok hno
 go_enter Tryz.func77,Tryz.ntmps77
 go_wp2_with fail
 go_ret
 exact ⟨by rw [e.out];rfl,eX⟩):p:=h
set_option maxHeartbeats 4000000 in
theorem rhvalid_any (h:Hdr) (w:World) :
  Calls Tryz.prog 77 #[.agg #[.int .i64 h.leap, .int .i64 h.ver, .int .i64 h.mode, .int .i64 h.strat, .int .i64 h.poll, .int .i64 h.prec, .int .u32 (n32 h.rd), .int .u32 (n32 h.rp), .int .u32 (n32 h.id), .int .u64 (n64 h.ref), .int .u64 (n64 h.org), .int .u64 (n64 h.rcv), .int .u64 (n64 h.tx)]] w fun e w'=>e = .returned (.int .i64 (encH h).2)∧Ext w w':=by
 obtain ⟨r,hr⟩:∃ r,(encH h).2=r:=⟨_,rfl⟩
 rw [hr]
 have hok:okH h→r=0:=fun k=>by rw [← hr];unfold encH;rw [if_pos k]
 have hno:¬ okH h→r=4:=fun k=>by rw [← hr];unfold encH;rw [if_neg k]
 clear hr
 by_cases c1:h.leap<0
 ·exact z31q48
 by_cases c2:3<h.leap
 ·exact z31q48
 by_cases v3:h.ver=3
 ·have i3:(h.ver != 3)=false:=by rw [bne_eq_false_iff_eq];exact v3
  by_cases c5:h.mode<0
  ·exact z31q48
  by_cases c6:7<h.mode
  ·exact z31q48
  by_cases c7:h.strat<0
  ·exact z31q48
  by_cases c8:255<h.strat
  ·exact z31q48
  by_cases c9:h.poll < -128
  ·exact z31q48
  by_cases c10:127<h.poll
  ·exact z31q48
  by_cases c11:h.prec < -128
  ·exact z31q48
  by_cases c12:127<h.prec
  ·exact z31q48
  have e:=Lib.hid (hok (by unfold okH;omega))
  clear hok hno
  go_enter Tryz.func77,Tryz.ntmps77
  go_wp2_with fail
  go_ret
  exact ⟨by rw [e.out];rfl,eX⟩
 ·have i3:(h.ver != 3)=true:=by rw [bne_iff_ne];exact v3
  by_cases v4:h.ver=4
  ·have i4:(h.ver != 4)=false:=by rw [bne_eq_false_iff_eq];exact v4
   by_cases c5:h.mode<0
   ·exact z31q48
   by_cases c6:7<h.mode
   ·exact z31q48
   by_cases c7:h.strat<0
   ·exact z31q48
   by_cases c8:255<h.strat
   ·exact z31q48
   by_cases c9:h.poll < -128
   ·exact z31q48
   by_cases c10:127<h.poll
   ·exact z31q48
   by_cases c11:h.prec < -128
   ·exact z31q48
   by_cases c12:127<h.prec
   ·exact z31q48
   have e:=Lib.hid (hok (by unfold okH;omega))
   clear hok hno
   go_enter Tryz.func77,Tryz.ntmps77
   go_wp2_with fail
   go_ret
   exact ⟨by rw [e.out];rfl,eX⟩
  ·have i4:(h.ver != 4)=true:=by rw [bne_iff_ne];exact v4
   have e:=Lib.hid (hno (fun k=>by unfold okH at k;omega))
   clear hok hno
   go_enter Tryz.func77,Tryz.ntmps77
   go_wp2_with fail
   go_ret
   exact ⟨by rw [e.out];rfl,eX⟩
end Go.Proofs.YtdmifbfgeeldnaaGreat

/- Layer 6: check, copies of lists, the stream of a tag. -/
namespace Go.Proofs.YtdmifbfgeeldnaaGreat
open Go.RowKit Go.Sec Go.Oct Go.Aes BigFrame
theorem long1_any (a:Option Addr)(n c:Nat) (l:List UInt8)(w:World)(h:Sl w a n l) :
  Calls Tryz.prog 123 #[.slice a n c] w fun e w'=>e = .returned (.bool (decide (65519<l.length)))∧Ext w w':=by
 have hl:=h.len
 by_cases hn:65519<n
 ·have hI:(65519:Int)<(n:Int):=by omega
  have e:=Lib.hid (show decide (65519<l.length)=true by simp;omega)
  clear hl
  go_enter Tryz.func123,Tryz.ntmps123
  go_wp2
  go_ret
  exact ⟨by rw [e.out];rfl,Ext.refl _⟩
 ·have hI:¬ (65519:Int)<(n:Int):=by omega
  have e:=Lib.hid (show decide (65519<l.length)=false by simp;omega)
  clear hl
  go_enter Tryz.func123,Tryz.ntmps123
  go_wp2
  go_ret
  exact ⟨by rw [e.out];rfl,Ext.refl _⟩
def IdxLong (A:List (List UInt8)) (w:World)(e:Ending) (w':World):Prop:=∃ r:Int,e = .returned (.int .i64 r)∧(0≤r ↔ longA A=true)∧Ext w w'
set_option maxHeartbeats 4000000 in
theorem indexLong_any (a:Option Addr)(n c:Nat) (A:List (List UInt8)) (w:World)(h:Bsc w a n A) (hn:n≤1000000) :
  Calls Tryz.prog 131 #[.slice a n c, .func (.func 123) #[] #[]] w (IdxLong A w):=by
 have hl:=h.len
 go_enter Tryz.func131,Tryz.ntmps131
 go_wp2_with fail
 go_loopw [8] (fun v8 wr=>∃ i:Nat,i≤n∧v8 = .int .i64 i∧Hid (longA (A.take i)=false)∧Ext w wr) (fun v8 _=>n-(intOf v8).toNat)
 case atStart=>exact ⟨0,by omega,rfl,Lib.hid rfl,Ext.refl _⟩
 case round =>
  obtain ⟨i,hi,rfl,hm,hx⟩:=hrel
  obtain ⟨x,rfl⟩:=hx.out
  by_cases hlt:i<n
  ·obtain ⟨b0,o0,a',n',c',rfl,hb0,hcell,hc',hS⟩:=(h.ext hx).at i hlt
   have i0:(0:Int)≤(i:Int):=by omega
   have i1:(i:Int)<(n:Int):=by omega
   have hsu:=Lib.hid (show longA (A.take (i+1))=decide (65519<(A[i]'(by omega)).length) by
    rw [List.take_succ_eq_append_getElem (by omega)]
    unfold longA
    rw [List.any_append]
    have:=hm.out
    unfold longA at this
    rw [this];simp)
   have htr:=Lib.hid (show longA (A.take (i+1))=true→longA A=true from fun h=>by
    unfold longA at h ⊢
    obtain ⟨x,hx,hp⟩:=List.any_eq_true.1 h
    exact List.any_eq_true.2 ⟨x,List.mem_of_mem_take hx,hp⟩)
   go_wp2_with fail
   refine (long1_any _ _ _ _ _ hS).mono ?_;rintro e w1 ⟨rfl,hx1⟩
   obtain ⟨x1,rfl⟩:=hx1.out
   cases hb:decide (65519<(A[i]'(by omega)).length)
   ·have hm2:=Lib.hid (show longA (A.take (i+1))=false by rw [hsu.out,hb])
    clear hb
    go_wp2_with fail
    go_roundw
    case rel=>exact ⟨i+1,by omega,by go_num,hm2,eX⟩
    case measure=>simp [intOf];omega
   ·have hm2:=Lib.hid (show longA A=true from htr.out (by rw [hsu.out,hb]))
    clear hb
    go_wp2_with fail
    go_ret
    exact ⟨i,rfl,by rw [hm2.out];simp,eX⟩
  ·obtain rfl:i=n:=by omega
   have hlo:=Lib.hid (show longA A=false by have:=hm.out;rwa [List.take_of_length_le (by omega)] at this)
   go_wp2_with fail
   go_ret
   exact ⟨-1,rfl,by rw [hlo.out];simp,eX⟩
theorem containsLong_any (a:Option Addr)(n c:Nat) (A:List (List UInt8)) (w:World)(h:Bsc w a n A) (hn:n≤1000000) :
  Calls Tryz.prog 116 #[.slice a n c, .func (.func 123) #[] #[]] w fun e w'=>e = .returned (.bool (longA A))∧Ext w w':=by
 go_enter Tryz.func116,Tryz.ntmps116
 go_wp2_with fail
 refine (indexLong_any _ _ _ _ _ h hn).mono ?_;rintro e w1 ⟨r,rfl,hr,hx1⟩
 have hd:=Lib.hid (show decide (0≤r)=longA A by rw [Bool.eq_iff_iff];simpa using hr)
 clear hr
 go_wp2_with fail
 go_ret
 exact ⟨by rw [← hd.out];rfl,hx1⟩
theorem ne32 {n:Nat} (h:n≠32):((n:Int) != 32)=true:=by rw [bne_iff_ne];omega
set_option maxHeartbeats 4000000 in
theorem check_any (a b:Option Addr)(n c m d:Nat) (ky:List UInt8)(A:List (List UInt8)) (w:World)(hk:Sl w a n ky) (hA:Bsc w b m A) (hm:m≤1000000) :
  Calls Tryz.prog 95 #[.slice a n c, .slice b m d] w fun e w'=>e = .returned (.int .i64 (checkA ky A))∧Ext w w':=by
 have hkl:=hk.len
 have hAl:=hA.len
 by_cases h1:n=32
 ·by_cases h2:16<m
  ·have e:=Lib.hid (show checkA ky A=8 by unfold checkA;rw [if_neg (by omega),if_pos (by omega)])
   have hI:((n:Int) != 32)=false:=by rw [bne_eq_false_iff_eq];omega
   have hI2:(16:Int)<(m:Int):=by omega
   clear hkl h1
   go_enter Tryz.func95,Tryz.ntmps95
   go_wp2_with fail
   go_ret
   exact ⟨by rw [e.out];rfl,Ext.refl _⟩
  ·cases hb:longA A
   all_goals
    have e:=Lib.hid (show checkA ky A=if longA A then 2 else 0 by unfold checkA;rw [if_neg (by omega),if_neg (by omega)])
    rw [hb] at e
    have hI:((n:Int) != 32)=false:=by rw [bne_eq_false_iff_eq];omega
    have hI2:¬ (16:Int)<(m:Int):=by omega
    have hc:=fun w h=>containsLong_any b m d A w h hm
    rw [hb] at hc
    clear hkl h1 hb
    go_enter Tryz.func95,Tryz.ntmps95
    go_wp2_with (first|(go_at_call 116;(with_reducible refine (hc ?_ ?hq35).mono ?_);(case hq35=>exact sC);rintro e w1 ⟨rfl,hxq⟩;obtain ⟨xq,rfl⟩:=hxq.out;clear hxq)|fail)
    go_ret
    exact ⟨by rw [e.out];rfl,eX⟩
 ·have e:=Lib.hid (show checkA ky A=5 by unfold checkA;rw [if_pos (by omega)])
  have hI:=ne32 h1
  clear hkl h1
  go_enter Tryz.func95,Tryz.ntmps95
  go_wp2_with fail
  go_ret
  exact ⟨by rw [e.out];rfl,Ext.refl _⟩
set_option maxHeartbeats 2000000 in
theorem cloneB_any (base:Nat) (a:Option Addr)(n c:Nat) (A:List (List UInt8)) (w:World)(h:RdB w base a n A) (hbase:base≤w.heap.size) (hn:n≤1000000) :
  Calls Tryz.prog 126 #[.slice a n c] w fun e w'=>∃ a' c',e = .returned (.slice a' n c')∧OwnB w' base a' n c' A∧Ext w w':=by
 have hnil:=fun W (a:Option Addr)(n c:Nat)=>Lib.run_eql_slice_nil (P:=Tryz.prog) W 52 33 a n c 0 0 Tryz.underlying52
 cases a with
 | none =>
  obtain rfl:n=0:=by
   obtain ⟨_,xs,h2,h3,_⟩:=h
   rcases h3 with h3|⟨_,_,h3,_⟩
   ·subst h3;simpa using h2.symm
   ·cases h3
  obtain rfl:A=[]:=List.eq_nil_of_length_eq_zero h.1
  go_enter Tryz.func126,Tryz.ntmps126
  go_wp2
  go_ret
  exact ⟨_,_,rfl,OwnB.nil _ _,eX⟩
 | some ad =>
  go_enter Tryz.func126,Tryz.ntmps126
  go_wp2_with (at_builtin;refine wpList_append_bs V8 rfl _ _ rfl base _ 0 0 [] rfl _ n c A rfl ((OwnB.empty _).mono0 hbase) (h.ext (Ext.of_alloc _ _)) (by omega) (by simp;omega) ?_;intro sa2 sc2 w2 hO2 hg2 hB2)
  go_ret
  simp only [Nat.zero_add,q5q] at hO2
  refine ⟨_,_,rfl,hO2,?_⟩
  have hx0:Ext w (w.alloc (.cells #[] 33)):=eX
  exact Below.grown hx0 hg2 (by simp) (fun g hg=>by have e:w.heap.size=g:=Option.some.inj hg;omega)
theorem _root_.z31q88{p:Prop}(h:p:=by
 unfold sAdr at this
 rw [if_neg (by omega)] at this
 simpa [addr_add] using this):p:=h
set_option maxHeartbeats 4000000 in
theorem astream_any (a b c:Option Addr)(ca cb cc n:Nat) (ky t l:List UInt8)(w:World)(hk:Sl w a 32 ky) (hca:32≤ca) (ht:Sl w b 16 t) (hl:Sl w c n l) (hn:n≤65535) :
  Calls Tryz.prog 96 #[.slice a 32 ca, .slice b 16 cb, .slice c n cc] w (Read2 n (stream (ky.drop 16) (ctrOf t) l) (.int .i64 0) w):=by
 have htl:=ht.len
 obtain ⟨b0,o0,rfl,hb0,_⟩:=hk.at 0 (by omega)
 have hk2:Sl w (some ⟨b0,o0+16,none⟩) 16 (ky.drop 16):=by
  have:=hk.drop ca 16 hca
  exact z31q88
 have hC:=Lib.hid (show ctrOf t=(t.set 8 (at' t 8 &&& 127)).set 12 (at' t 12 &&& 127) from rfl)
 have h12:(t.set 8 (at' t 8 &&& 127)).getD 12 0=at' t 12:=by simp [at',List.getD,List.getElem?_set]
 have q:(16:Int)≤(ca:Int):=by omega
 go_enter Tryz.func96,Tryz.ntmps96
 go_wp2_with fail;(with_reducible refine (clone_any _ 16 _ t _ ht (by omega)).mono ?_);rintro e w1 ⟨a1,c1,rfl,hO1,hx1⟩
 obtain ⟨g,rfl,hg,hgb,hcell8,hfr8,_⟩:=hO1.at 8 (by omega)
 obtain ⟨_,e1,_,_,hcell12,hfr12,_⟩:=hO1.at 12 (by omega)
 injection e1 with e1
 injection e1 with e1 _
 subst e1
 have hle:=hO1.le
 have hO2:=hO1.put 8 (by omega) (at' t 8 &&& 127)
 have hO3:=hO2.put 12 (by omega) (at' t 12 &&& 127)
 rw [← hC.out] at hO3
 have hx3:Ext w ((w1.setCell ⟨g,8,none⟩ (.int .u8 (n8 (at' t 8 &&& 127)))).setCell ⟨g,12,none⟩ (.int .u8 (n8 (at' t 12 &&& 127)))):=Ext.setCell (Ext.setCell hx1 hg _) hg _
 rw [show t.getD 8 0=at' t 8 from rfl] at hcell8
 rw [show t.getD 12 0=at' t 12 from rfl] at hcell12
 clear h12 hO1 hO2
 go_wp2_with fail
 (refine (stream_any _ _ _ _ _ _ n (ky.drop 16) (ctrOf t) l _ (hk2.ext hx3) (by omega) hO3.sl hle.1 (hl.ext hx3) hn).mono ?_;rintro e _ ⟨_,_,rfl,hS,hc,hx⟩)
 go_wp2_with fail
 go_ret2
 exact ⟨_,_,rfl,hS,hc,hx3.trans hx⟩
end Go.Proofs.YtdmifbfgeeldnaaGreat

/- Layer 6 of the program: Tag, Seal, Open. -/
namespace Go.Proofs.YtdmifbfgeeldnaaGreat
open Go.RowKit Go.Sec Go.Oct Go.Aes BigFrame
theorem ne0 {e:Int} (h:e≠0):(e != 0)=true:=by rw [bne_iff_ne];exact h
theorem _root_.z31q63{p:Prop}(h:p:=by
 intro x hx
 rcases List.mem_append.1 hx with h|h
 ·have:=hmx x h;omega
 ·simp only [List.mem_singleton] at h;subst h;omega):p:=h
set_option maxHeartbeats 4000000 in
theorem tag_any (a b c:Option Addr)(n ca m cb k cc:Nat) (ky:List UInt8)(A:List (List UInt8)) (p:List UInt8)(w:World)(hk:Sl w a n ky) (hca:n≤ca) (hA:Bsc w b m A) (hm:m≤1000000) (hp:Sl w c k p) (hkc:k≤cc) :
  Calls Tryz.prog 97 #[.slice a n ca, .slice b m cb, .slice c k cc] w (Read2 (tagE ky A p).1.length (tagE ky A p).1 (.int .i64 (tagE ky A p).2) w):=by
 have hc:=fun w h1 h2=>check_any a b n ca m cb ky A w h1 h2 hm
 have hpl:=hp.len
 by_cases h0:checkA ky A=0
 ·rw [h0] at hc
  obtain ⟨h32,h16,hmx⟩:=checkA_ok h0
  rw [hk.len] at h32
  rw [hA.len] at h16
  subst h32
  by_cases hl:65519<k
  ·have e:tagE ky A p=([],2):=by unfold tagE;rw [if_neg (by rw [h0];simp),if_pos (by omega)]
   rw [e]
   have hI:(65519:Int)<(k:Int):=by omega
   clear e h0 hmx hpl
   go_enter Tryz.func97,Tryz.ntmps97
   go_wp2_with (first|(go_at_call 95;(with_reducible refine (hc ?_ ?hq60 ?hq61).mono ?_);(case hq60=>exact sS);(case hq61=>exact sC);rintro e w1 ⟨rfl,hxq⟩;obtain ⟨xq,rfl⟩:=hxq.out;clear hxq)|fail)
   go_ret2
   exact read2_err _ _ _ eX
  ·rw [tagE_ok h0 (by omega)]
   show Calls _ _ _ _ (Read2 (s2v _ _).length _ _ _)
   rw [s2v_length]
   have hmax:∀ x∈A++[p],x.length≤65535:=by
    exact z31q63
   have hI:decide ((65519:Int)<(k:Int))=false:=by simp;omega
   have q:(16:Int)≤(ca:Int):=by omega
   clear h0 hmx hpl
   go_enter Tryz.func97,Tryz.ntmps97
   go_wp2_with (first|(go_at_call 95;(with_reducible refine (hc ?_ ?hq62 ?hq63).mono ?_);(case hq62=>exact sS);(case hq63=>exact sC);rintro e w1 ⟨rfl,hxq⟩;obtain ⟨xq,rfl⟩:=hxq.out;clear hxq)|fail)
   have hxW:Ext w (w.ext xq):=eX
   generalize w.ext xq=W at *
   have hkW:=(hk.ext hxW).take 16 (by omega)
   have hRB:=(hA.ext hxW).rdB
   have hpW:=hp.ext hxW
   have hSE:∀ w',Ext (W) w'→(Ext (W)) w':=(fun _ h=>h);have hExt0:Ext (W) (W).drew:=Ext.drew (Ext.refl _);refine wp_region_held_drew (S:=Ext (W)) (by kernel_rfl) (hSE _ hExt0) (fun hHeld=>?_)
   refine wpAnyH_take (i:=0) (v:=?v47) rfl (by kernel_rfl) (by kernel_rfl) (by kernel_rfl) (fun _ _ _ h=>h) (Or.inl ⟨by rfl,?hy47⟩) hHeld ?_;(case hy47=>(intro w' hx;simp [go_sem,execOp, *];(try simp (disch:=omega) only [q17q,q18q,q19q]);rfl));(try simp only [q14q,q15q,q16q,Act.put,q0q,q1q,q2q])
   refine wpAnyH_take (i:=1) (v:=?v48) rfl (by kernel_rfl) (by kernel_rfl) (by kernel_rfl) (fun _ _ _ h=>h) (Or.inl ⟨by rfl,?hy48⟩) hHeld ?_;(case hy48=>(intro w' hx;simp [go_sem,execOp, *];(try simp (disch:=omega) only [q17q,q18q,q19q]);rfl));(try simp only [q14q,q15q,q16q,Act.put,q0q,q1q,q2q])
   refine wpAnyH_take (i:=2) (v:=?v49) rfl (by kernel_rfl) (by kernel_rfl) (by kernel_rfl) (fun _ _ _ h=>h) (Or.inl ⟨by rfl,?hy49⟩) hHeld ?_;(case hy49=>(intro w' hx;simp [go_sem,execOp, *];(try simp (disch:=omega) only [q17q,q18q,q19q]);rfl));(try simp only [q14q,q15q,q16q,Act.put,q0q,q1q,q2q])
   refine wpAnyH_take (i:=4) (v:=?v50) rfl (by kernel_rfl) (by kernel_rfl) (by kernel_rfl) (fun _ _ _ h=>h) (Or.inl ⟨by rfl,?hy50⟩) hHeld ?_;(case hy50=>(intro w' hx;simp [go_sem,execOp, *];(try simp (disch:=omega) only [q17q,q18q,q19q]);rfl));(try simp only [q14q,q15q,q16q,Act.put,q0q,q1q,q2q])
   refine R5.any_late2 6 8 [[],[0],[],[2],[],[4],[2,3,4,5],[0,1,2,3,4,5,6],[0,1,2,3,4,5,6,7],[0,1,2,3,4,5,6,7],[0,1,2,3,4,5,6,7,8,9],[0,1,2,3,4,5,6,7,8,9,10]] [0,1,2,4] #[true,true,true,true,true,true,true,true,false,false,false,false] 4 hExt0 hSE (by kernel_rfl) (by kernel_rfl) (by kernel_rfl) (by kernel_rfl) (by kernel_rfl) (by kernel_rfl) ?_;simp only [q8q,q9q,q10q,q11q,q12q,q13q,Nat.reduceSub]
   refine R5.VD_taken rfl ?_
   refine R5.VD_taken rfl ?_
   refine R5.VD_taken rfl ?_
   (refine R5.VD_vag rfl (fun p => .slice (p 0).1 m (p 0).2) (fun p w''=>OwnB w'' W.heap.size (p 0).1 m (p 0).2 A) (fun p w w' h hx=>h.ext hx) (fun us w' hx hf=>⟨rfl,?_⟩) ?_;(unfold gives;simp [go_sem,execOp];exact R5.vag_rows (cloneB_any W.heap.size _ _ _ _ _ (hRB.ext hx) hx.size (by omega))))
   refine R5.VD_taken rfl ?_
   (refine R5.VD_vag rfl (fun p => .slice (p 0).1 1 1) (fun p w''=>Rd w'' (p 0).1 [.slice c k cc]) (fun p w w' h hx=>h.ext hx) (fun us w' hx hf=>⟨rfl,?_⟩) ?_;(unfold gives;simp [go_sem,execOp];exact ⟨fun _=>(some ⟨w'.heap.size,0,none⟩,0),rfl,Ext.of_alloc _ _,(Blk.new _ _ _).rd⟩))
   (refine R5.VD_nil ?_;intro us w' hx hf;obtain ⟨x,rfl⟩:=hx.out;(try simp only [Act.put,q0q,q1q,q2q,wpList_none]);(try simp only [q3q,q4q,or_false,forall_eq_or_imp,forall_eq,q5q,q6q,q7q,false_or,true_and,and_true] at hf);(try simp only [Nat.reduceAdd,Nat.zero_add] at hf ⊢))
   obtain ⟨hO1,hR2⟩:=hf
   (refine R5.chain_append_bs hSE V8 rfl rfl _ _ rfl (W.heap.size) _ m _ (A) rfl _ 1 1 ([p]) rfl (hO1) (RdB.one hR2 (hpW.ext hx) hkc (hpW.inB _)) (by omega) (hx.size) (Nat.le_refl _) (hx) ?_;intro sa2 sc2 w2 hOa hg2 hB2 hx2)
   have hBs:=hOa.bsc
   have hle:=hOa.le
   have hk2:=hkW.ext hx2
   (refine R5.chain_cons rfl rfl ?_;unfold gives;simp [go_sem,execOp];(with_reducible refine (vector_any ?_ ?_ ?_ ?_ ?_ (ky.take 16) (A++[p]) ?_ ?hq55 ?hq56 ?hq57 ?hq58 ?hq59 hmax).mono ?_);(case hq55=>exact sS);(case hq57=>exact sC);(case hq56=>omega);(case hq58=>omega);(case hq59=>omega);rintro e _ ⟨_,_,rfl,hS,hc,hx⟩;obtain ⟨_,rfl⟩:=hx.out;clear hx;refine ⟨_,rfl,hSE _ eX,?_⟩;(try simp only [q14q,q15q,q16q,Act.put,q0q,q1q,q2q]))
   (refine R5.chain_nil ?_)
   refine wpAnyH_take (i:=8) (v:=?v51) rfl (by kernel_rfl) (by kernel_rfl) (by kernel_rfl) (fun _ _ _ h=>h) (Or.inl ⟨by rfl,?hy51⟩) (hSE _ eX) ?_;(case hy51=>(intro w' hx;simp [go_sem,execOp, *];(try simp (disch:=omega) only [q17q,q18q,q19q]);rfl));(try simp only [q14q,q15q,q16q,Act.put,q0q,q1q,q2q])
   refine wpAnyH_take (i:=9) (v:=?v52) rfl (by kernel_rfl) (by kernel_rfl) (by kernel_rfl) (fun _ _ _ h=>h) (Or.inl ⟨by rfl,?hy52⟩) (hSE _ eX) ?_;(case hy52=>(intro w' hx;simp [go_sem,execOp, *];(try simp (disch:=omega) only [q17q,q18q,q19q]);rfl));(try simp only [q14q,q15q,q16q,Act.put,q0q,q1q,q2q])
   refine wpAnyH_take (i:=10) (v:=?v53) rfl (by kernel_rfl) (by kernel_rfl) (by kernel_rfl) (fun _ _ _ h=>h) (Or.inl ⟨by rfl,?hy53⟩) (hSE _ eX) ?_;(case hy53=>(intro w' hx;simp [go_sem,execOp, *];(try simp (disch:=omega) only [q17q,q18q,q19q]);rfl));(try simp only [q14q,q15q,q16q,Act.put,q0q,q1q,q2q])
   refine wpAnyH_take (i:=11) (v:=?v54) rfl (by kernel_rfl) (by kernel_rfl) (by kernel_rfl) (fun _ _ _ h=>h) (Or.inl ⟨by rfl,?hy54⟩) (hSE _ eX) ?_;(case hy54=>(intro w' hx;simp [go_sem,execOp, *];(try simp (disch:=omega) only [q17q,q18q,q19q]);rfl));(try simp only [q14q,q15q,q16q,Act.put,q0q,q1q,q2q])
   refine wpAnyH_done (by kernel_rfl) ?_ _
   go_wp2
   go_ret2
   exact ⟨_,_,rfl,hS,hc,hxW.trans eX⟩
 ·have e:tagE ky A p=([],checkA ky A):=by unfold tagE;rw [if_pos h0]
  rw [e]
  have hI:=ne0 h0
  generalize checkA ky A=v at *
  clear e h0
  go_enter Tryz.func97,Tryz.ntmps97
  go_wp2_with (first|(go_at_call 95;(with_reducible refine (hc ?_ ?hq64 ?hq65).mono ?_);(case hq64=>exact sS);(case hq65=>exact sC);rintro e w1 ⟨rfl,hxq⟩;obtain ⟨xq,rfl⟩:=hxq.out;clear hxq)|fail)
  go_ret2
  exact read2_err _ _ _ eX
set_option maxHeartbeats 4000000 in
theorem seal_any (a b c:Option Addr)(n ca m cb k cc:Nat) (ky:List UInt8)(A:List (List UInt8)) (p:List UInt8)(w:World)(hk:Sl w a n ky) (hca:n≤ca) (hA:Bsc w b m A) (hm:m≤1000000) (hp:Sl w c k p) (hkc:k≤cc) :
  Calls Tryz.prog 62 #[.slice a n ca, .slice b m cb, .slice c k cc] w (Read2 (sealE ky A p).1.length (sealE ky A p).1 (.int .i64 (sealE ky A p).2) w):=by
 have ht:=fun w h1 h3 h5=>tag_any a b c n ca m cb k cc ky A p w h1 hca h3 hm h5 hkc
 by_cases h0:(tagE ky A p).2=0
 ·obtain ⟨h16,hck,hpl⟩:=tagE_len h0
  obtain ⟨h32,_,_⟩:=checkA_ok hck
  rw [hk.len] at h32
  rw [hp.len] at hpl
  subst h32
  have e:=Lib.hid (show sealE ky A p=((tagE ky A p).1++stream (ky.drop 16) (ctrOf (tagE ky A p).1) p,0) by unfold sealE;rw [if_neg (by simpa using h0)])
  rw [h0,h16] at ht
  have hsl:=stream_length (ky.drop 16) (ctrOf (tagE ky A p).1) p
  rw [hp.len] at hsl
  have hst:=fun a1 c1 w h1 h2 h3 h4=>astream_any a a1 c ca c1 cc k ky (tagE ky A p).1 p w h1 h2 h3 h4 (by omega)
  generalize stream (ky.drop 16) (ctrOf (tagE ky A p).1) p=st at *
  generalize (tagE ky A p).1=tg at *
  rw [e.out]
  have hll:(tg++st).length=16+k:=by rw [List.length_append,h16,hsl]
  show Calls _ _ _ _ (Read2 (tg++st).length _ _ _)
  rw [hll]
  clear h0 hck
  have hj:joinL [tg,st]=tg++st:=by simp [joinL]
  have hjl:(joinL [tg,st]).length=16+k:=by rw [hj,hll]
  have HJ:=Lib.hid hj
  clear hj
  go_enter Tryz.func62,Tryz.ntmps62
  go_wp2_with (first
   | (go_at_call 97;(with_reducible refine (ht ?_ ?hq66 ?hq67 ?hq68).mono ?_);(case hq66=>exact sS);(case hq67=>exact sC);(case hq68=>exact sS);rintro e _ ⟨_,_,rfl,hS,hc,hx⟩;obtain ⟨_,rfl⟩:=hx.out;clear hx)
   | (go_at_call 96;(with_reducible refine (hst ?_ ?_ ?_ ?hq69 ?hq70 ?hq71 ?hq72).mono ?_);(case hq69=>exact sS);(case hq71=>exact sS);(case hq72=>exact sS);(case hq70=>omega);rintro e _ ⟨_,_,rfl,hS,hc,hx⟩;obtain ⟨_,rfl⟩:=hx.out;clear hx)
   | fail)
  (with_reducible refine (ojoin_any _ _ _ [tg,st] _ (bss2 ?h1 ?h2 _) (by omega) (16+k) hjl (by omega)).mono ?_)
  case h1=>exact (by (repeat' (first|with_reducible assumption|(with_reducible exact zeros16 _)|(with_reducible exact sl_new1 _ _ _)|(with_reducible first|apply Sl.upE|apply Sl.upA|apply Sl.upD))))
  case h2=>exact (by (repeat' (first|with_reducible assumption|(with_reducible exact zeros16 _)|(with_reducible exact sl_new1 _ _ _)|(with_reducible first|apply Sl.upE|apply Sl.upA|apply Sl.upD))))
  rintro e _ ⟨_,_,rfl,hO,hx⟩
  obtain ⟨_,rfl⟩:=hx.out
  clear hx
  go_wp2
  rw [HJ.out] at hO
  go_ret2
  exact ⟨_,_,rfl,hO.sl,hO.le.1,eX⟩
 ·have e:sealE ky A p=([],(tagE ky A p).2):=by unfold sealE;rw [if_pos h0]
  rw [e]
  have hI:=ne0 h0
  generalize (tagE ky A p).2=v at *
  generalize (tagE ky A p).1=tg at *
  clear e h0
  go_enter Tryz.func62,Tryz.ntmps62
  go_wp2_with (first|(go_at_call 97;(with_reducible refine (ht ?_ ?hq73 ?hq74 ?hq75).mono ?_);(case hq73=>exact sS);(case hq74=>exact sC);(case hq75=>exact sS);rintro e _ ⟨_,_,rfl,hS,hc,hx⟩;obtain ⟨_,rfl⟩:=hx.out;clear hx)|fail)
  go_ret2
  exact read2_err _ _ _ eX
set_option maxHeartbeats 4000000 in
theorem open_any (a b c:Option Addr)(n ca m cb k cc:Nat) (ky:List UInt8)(A:List (List UInt8)) (s:List UInt8)(w:World)(hk:Sl w a n ky) (hca:n≤ca) (hA:Bsc w b m A) (hm:m≤1000000) (hs:Sl w c k s) (hkc:k≤cc) :
  Calls Tryz.prog 49 #[.slice a n ca, .slice b m cb, .slice c k cc] w (Read2 (openE ky A s).1.length (openE ky A s).1 (.int .i64 (openE ky A s).2) w):=by
 have hc:=fun w h1 h2=>check_any a b n ca m cb ky A w h1 h2 hm
 have hsl:=hs.len
 by_cases h0:checkA ky A=0
 ·obtain ⟨h32,_,_⟩:=checkA_ok h0
  rw [hk.len] at h32
  subst h32
  by_cases hl:65535<k
  ·have e:openE ky A s=([],2):=by unfold openE;rw [if_neg (by rw [h0];simp),if_pos (by omega)]
   rw [e]
   rw [h0] at hc
   have hI:(65535:Int)<(k:Int):=by omega
   clear e h0 hsl
   go_enter Tryz.func49,Tryz.ntmps49
   go_wp2_with (first|(go_at_call 95;(with_reducible refine (hc ?_ ?hq92 ?hq93).mono ?_);(case hq92=>exact sS);(case hq93=>exact sC);rintro e w1 ⟨rfl,hxq⟩;obtain ⟨xq,rfl⟩:=hxq.out;clear hxq)|fail)
   go_ret2
   exact read2_err _ _ _ eX
  ·by_cases h16:k<16
   ·have e:openE ky A s=([],1):=by unfold openE;rw [if_neg (by rw [h0];simp),if_neg (by omega),if_pos (by omega)]
    rw [e]
    rw [h0] at hc
    have hI:¬ (65535:Int)<(k:Int):=by omega
    have hcut:=fun w=>cut_no c k cc 16 w (.inr (by omega))
    clear e h0 hsl
    go_enter Tryz.func49,Tryz.ntmps49
    go_wp2_with (first|(go_at_call 95;(with_reducible refine (hc ?_ ?hq94 ?hq95).mono ?_);(case hq94=>exact sS);(case hq95=>exact sC);rintro e w1 ⟨rfl,hxq⟩;obtain ⟨xq,rfl⟩:=hxq.out;clear hxq)|(go_at_call 92;refine (hcut _).mono ?_;rintro e w1 ⟨rfl,hxq⟩;obtain ⟨xq,rfl⟩:=hxq.out;clear hxq)|fail)
    go_ret2
    exact read2_err _ _ _ eX
   ·have e:=Lib.hid (show openE ky A s=if (tagE ky A (plainOf ky s)).1=s.take 16 then (plainOf ky s,0) else ([],6) by unfold openE;rw [if_neg (by rw [h0];simp),if_neg (by omega),if_neg (by omega)])
    have htg:tagE ky A (plainOf ky s)=(s2v (ky.take 16) (A++[plainOf ky s]),0):=tagE_ok h0 (by rw [plainOf_length];omega)
    have ht:=fun c cc w h1 h3 h5 h6=>tag_any a b c 32 ca m cb (k-16) cc ky A (plainOf ky s) w h1 hca h3 hm h5 h6
    have hts:(s.take 16).length=16:=by simp;omega
    have hpo:plainOf ky s=stream (ky.drop 16) (ctrOf (s.take 16)) (s.drop 16):=rfl
    have hst:=fun a1 c1 a2 c2 w h1 h2 h3 h4=>astream_any a a1 a2 ca c1 c2 (k-16) ky (s.take 16) (s.drop 16) w h1 h2 h3 h4 (by omega)
    rw [← hpo] at hst
    rw [htg] at ht
    rw [htg] at e
    have hpl:(plainOf ky s).length=k-16:=by rw [plainOf_length];omega
    have htl:=s2v_length (ky.take 16) (A++[plainOf ky s])
    rw [h0] at hc
    have hI:¬ (65535:Int)<(k:Int):=by omega
    have hcut:=fun w h=>cut_ok c k cc s 16 w h (by omega) (by omega) hkc
    simp only [Int.cast_ofNat_Int] at hcut
    simp only at ht e
    rw [htl] at ht
    generalize s2v (ky.take 16) (A++[plainOf ky s])=tg at *
    generalize plainOf ky s=pl at *
    generalize s.take 16=s0 at *
    generalize s.drop 16=s1 at *
    clear htg h0 hpo hsl
    rw [e.out]
    by_cases he:tg=s0
    ·rw [if_pos he]
     show Calls _ _ _ _ (Read2 pl.length _ _ _)
     rw [hpl]
     have hb:(tg == s0)=true:=by simpa using he
     clear he
     clear e
     go_enter Tryz.func49,Tryz.ntmps49
     go_wp2_with (first|(go_at_call 95;(with_reducible refine (hc ?_ ?hq96 ?hq97).mono ?_);(case hq96=>exact sS);(case hq97=>exact sC);rintro e w1 ⟨rfl,hxq⟩;obtain ⟨xq,rfl⟩:=hxq.out;clear hxq)|fail)
     refine (hcut _ (by (repeat' (first|with_reducible assumption|(with_reducible exact zeros16 _)|(with_reducible exact sl_new1 _ _ _)|(with_reducible first|apply Sl.upE|apply Sl.upA|apply Sl.upD))))).mono ?_
     rintro e _ ⟨_,_,_,_,rfl,hO1,hO2,hx⟩
     obtain ⟨_,rfl⟩:=hx.out
     have hl1:=hO1.le
     have hl2:=hO2.le
     have hS1:=hO1.sl
     have hS2:=hO2.sl
     clear hO1 hO2 hx
     go_wp2_with (first
      | (go_at_call 96;(with_reducible refine (hst ?_ ?_ ?_ ?_ ?_ ?hq76 ?hq77 ?hq78 ?hq79).mono ?_);(case hq76=>exact sS);(case hq78=>exact sS);(case hq79=>exact sS);(case hq77=>omega);rintro e _ ⟨_,_,rfl,hS,hc,hx⟩;obtain ⟨_,rfl⟩:=hx.out;clear hx)
      | (go_at_call 97;(with_reducible refine (ht ?_ ?_ ?_ ?hq80 ?hq81 ?hq82 ?hq83).mono ?_);(case hq80=>exact sS);(case hq81=>exact sC);(case hq82=>exact sS);(case hq83=>omega);rintro e _ ⟨_,_,rfl,hS,hc,hx⟩;obtain ⟨_,rfl⟩:=hx.out;clear hx)
      | (go_at_call 71;(with_reducible refine (osame_any ?_ ?_ ?_ ?_ ?_ ?_ tg s0 ?_ ?hq98 ?hq99).mono ?_);(case hq98=>exact sS);(case hq99=>exact sS);rintro e w1 ⟨rfl,hxq⟩;obtain ⟨xq,rfl⟩:=hxq.out;clear hxq)
      | fail)
     go_ret2
     exact ⟨_,_,rfl,(by (repeat' (first|with_reducible assumption|(with_reducible exact zeros16 _)|(with_reducible exact sl_new1 _ _ _)|(with_reducible first|apply Sl.upE|apply Sl.upA|apply Sl.upD)))),by omega,eX⟩
    ·rw [if_neg he]
     have hb:(tg == s0)=false:=by simpa using he
     clear he
     clear e
     go_enter Tryz.func49,Tryz.ntmps49
     go_wp2_with (first|(go_at_call 95;(with_reducible refine (hc ?_ ?hq100 ?hq101).mono ?_);(case hq100=>exact sS);(case hq101=>exact sC);rintro e w1 ⟨rfl,hxq⟩;obtain ⟨xq,rfl⟩:=hxq.out;clear hxq)|fail)
     refine (hcut _ (by (repeat' (first|with_reducible assumption|(with_reducible exact zeros16 _)|(with_reducible exact sl_new1 _ _ _)|(with_reducible first|apply Sl.upE|apply Sl.upA|apply Sl.upD))))).mono ?_
     rintro e _ ⟨_,_,_,_,rfl,hO1,hO2,hx⟩
     obtain ⟨_,rfl⟩:=hx.out
     have hl1:=hO1.le
     have hl2:=hO2.le
     have hS1:=hO1.sl
     have hS2:=hO2.sl
     clear hO1 hO2 hx
     go_wp2_with (first
      | (go_at_call 96;(with_reducible refine (hst ?_ ?_ ?_ ?_ ?_ ?hq84 ?hq85 ?hq86 ?hq87).mono ?_);(case hq84=>exact sS);(case hq86=>exact sS);(case hq87=>exact sS);(case hq85=>omega);rintro e _ ⟨_,_,rfl,hS,hc,hx⟩;obtain ⟨_,rfl⟩:=hx.out;clear hx)
      | (go_at_call 97;(with_reducible refine (ht ?_ ?_ ?_ ?hq88 ?hq89 ?hq90 ?hq91).mono ?_);(case hq88=>exact sS);(case hq89=>exact sC);(case hq90=>exact sS);(case hq91=>omega);rintro e _ ⟨_,_,rfl,hS,hc,hx⟩;obtain ⟨_,rfl⟩:=hx.out;clear hx)
      | (go_at_call 71;(with_reducible refine (osame_any ?_ ?_ ?_ ?_ ?_ ?_ tg s0 ?_ ?hq102 ?hq103).mono ?_);(case hq102=>exact sS);(case hq103=>exact sS);rintro e w1 ⟨rfl,hxq⟩;obtain ⟨xq,rfl⟩:=hxq.out;clear hxq)
      | fail)
     go_ret2
     exact read2_err _ _ _ eX
 ·have e:openE ky A s=([],checkA ky A):=by unfold openE;rw [if_pos h0]
  rw [e]
  have hI:=ne0 h0
  generalize checkA ky A=v at *
  clear e h0
  go_enter Tryz.func49,Tryz.ntmps49
  go_wp2_with (first|(go_at_call 95;(with_reducible refine (hc ?_ ?hq104 ?hq105).mono ?_);(case hq104=>exact sS);(case hq105=>exact sC);rintro e w1 ⟨rfl,hxq⟩;obtain ⟨xq,rfl⟩:=hxq.out;clear hxq)|fail)
  go_ret2
  exact read2_err _ _ _ eX
end Go.Proofs.YtdmifbfgeeldnaaGreat

/- Layer 6 of the document: check, counter, Tag. -/
namespace Go.Aes
def checkR (ky:List UInt8)(A:List (List UInt8)) (p:Int):Int:=if checkA ky A≠0 then checkA ky A else if 65519<p then 2 else 0
theorem checkR_nat (ky:List UInt8)(A:List (List UInt8)) (k:Nat):checkR ky A k=if checkA ky A≠0 then checkA ky A else if 65519<k then 2 else 0:=by
 unfold checkR
 by_cases h:checkA ky A≠0
 ·rw [if_pos h,if_pos h]
 ·rw [if_neg h,if_neg h]
  by_cases h2:65519<k
  ·rw [if_pos (by omega),if_pos h2]
  ·rw [if_neg (by omega),if_neg h2]
theorem tagE_err {ky:List UInt8} {A:List (List UInt8)} {p:List UInt8} (h:¬ (checkA ky A=0∧p.length≤65519)):tagE ky A p=([],checkR ky A p.length)∧checkR ky A p.length≠0:=by
 rw [checkR_nat]
 unfold tagE
 by_cases h1:checkA ky A≠0
 ·rw [if_pos h1,if_pos h1];exact ⟨rfl,h1⟩
 ·have h2:65519<p.length:=by
   rcases Nat.lt_or_ge 65519 p.length with h3|h3
   ·exact h3
   ·exact absurd ⟨by simpa using h1,h3⟩ h
  rw [if_neg h1,if_neg h1,if_pos h2,if_pos h2];exact ⟨rfl,by decide⟩
end Go.Aes
namespace Go.Proofs.YtdmifbfgeeldnaaGreat
open Go.RowKit Go.Sec Go.Oct Go.Aes BigFrame
theorem _root_.z31q66{p:Prop}(h:p:=by
 clear hkl h1
 go_enter Tryz.func102,Tryz.ntmps102
 go_wp2_with fail
 go_ret
 exact ⟨by rw [e.out];rfl,Ext.refl _⟩):p:=h
set_option maxHeartbeats 4000000 in
theorem rcheck_any (a b:Option Addr)(n c m d:Nat) (ky:List UInt8)(A:List (List UInt8)) (p:Int) (w:World)(hk:Sl w a n ky) (hA:Bsc w b m A) (hm:m≤1000000) :
  Calls Tryz.prog 102 #[.slice a n c, .slice b m d, .int .i64 p] w fun e w'=>e = .returned (.int .i64 (checkR ky A p))∧Ext w w':=by
 have hkl:=hk.len
 have hAl:=hA.len
 by_cases h1:n=32
 ·by_cases h2:16<m
  ·have e:=Lib.hid (show checkR ky A p=8 by
    have:checkA ky A=8:=by unfold checkA;rw [if_neg (by omega),if_pos (by omega)]
    unfold checkR;rw [this];rfl)
   have hI:((n:Int) != 32)=false:=by rw [bne_eq_false_iff_eq];omega
   have hI2:(16:Int)<(m:Int):=by omega
   exact z31q66
  ·have e:=Lib.hid (show checkA ky A=if longA A then 2 else 0 by unfold checkA;rw [if_neg (by omega),if_neg (by omega)])
   have hI:((n:Int) != 32)=false:=by rw [bne_eq_false_iff_eq];omega
   have hI2:¬ (16:Int)<(m:Int):=by omega
   clear hkl h1
   go_enter Tryz.func102,Tryz.ntmps102
   go_wp2_with fail
   go_loopw [7] (fun v7 wr=>∃ i:Nat,i≤m∧v7 = .int .i64 i∧Hid (longA (A.take i)=false)∧Ext w wr) (fun v7 _=>m-(intOf v7).toNat)
   case atStart=>exact ⟨0,by omega,rfl,Lib.hid rfl,Ext.refl _⟩
   case round =>
    obtain ⟨i,hi,rfl,hm',hx⟩:=hrel
    obtain ⟨x,rfl⟩:=hx.out
    by_cases hlt:i<m
    ·obtain ⟨b0,o0,a',n',c',rfl,hb0,hcell,hc',hS⟩:=(hA.ext hx).at i hlt
     have i0:(0:Int)≤(i:Int):=by omega
     have i1:(i:Int)<(m:Int):=by omega
     have hsu:=Lib.hid (show longA (A.take (i+1))=decide (65519<n') by
      rw [List.take_succ_eq_append_getElem (by omega),← hS.len]
      unfold longA
      rw [List.any_append]
      have:=hm'.out
      unfold longA at this
      rw [this];simp)
     have htr:=Lib.hid (show longA (A.take (i+1))=true→longA A=true from fun h=>by
      unfold longA at h ⊢
      obtain ⟨x,hx,hp⟩:=List.any_eq_true.1 h
      exact List.any_eq_true.2 ⟨x,List.mem_of_mem_take hx,hp⟩)
     by_cases hn':65519<n'
     ·have hI3:(65519:Int)<(n':Int):=by omega
      have hm2:=Lib.hid (show checkR ky A p=2 by
       have:checkA ky A=2:=by rw [e.out,htr.out (by rw [hsu.out];simpa using hn')];rfl
       unfold checkR;rw [this];rfl)
      go_wp2_with fail
      go_ret
      exact ⟨by rw [hm2.out];rfl,eX⟩
     ·have hI3:¬ (65519:Int)<(n':Int):=by omega
      have hm2:=Lib.hid (show longA (A.take (i+1))=false by rw [hsu.out];simpa using hn')
      go_wp2_with fail
      go_roundw
      case rel=>exact ⟨i+1,by omega,by go_num,hm2,eX⟩
      case measure=>simp [intOf];omega
    ·obtain rfl:i=m:=by omega
     have hlo:=Lib.hid (show longA A=false by have:=hm'.out;rwa [List.take_of_length_le (by omega)] at this)
     have e2:=Lib.hid (show checkR ky A p=if 65519<p then 2 else 0 by
      have:checkA ky A=0:=by rw [e.out,hlo.out];rfl
      unfold checkR;rw [this];rfl)
     by_cases hp:65519<p
     ·go_wp2_with fail
      go_ret
      exact ⟨by rw [e2.out,if_pos hp];rfl,eX⟩
     ·go_wp2_with fail
      go_ret
      exact ⟨by rw [e2.out,if_neg (by omega)];rfl,eX⟩
 ·have e:=Lib.hid (show checkR ky A p=5 by
   have:checkA ky A=5:=by unfold checkA;rw [if_pos (by omega)]
   unfold checkR;rw [this];rfl)
  have hI:=ne32 h1
  exact z31q66
set_option maxHeartbeats 4000000 in
theorem counter_any (a:Option Addr)(c:Nat) (t:List UInt8)(w:World)(h:Sl w a 16 t) :
  Calls Tryz.prog 86 #[.slice a 16 c] w (Fresh 16 (ctrOf t) w):=by
 have htl:=h.len
 have hC:=Lib.hid (show ctrOf t=(t.set 8 (at' t 8 &&& 127)).set 12 (at' t 12 &&& 127) from rfl)
 go_enter Tryz.func86,Tryz.ntmps86
 go_wp2_with fail;(with_reducible refine (join_any _ _ _ _ _ (bss1 h _) (by omega) 16 (by simp [joinL1,htl]) (by omega)).mono ?_);rintro e w1 ⟨a1,c1,rfl,hO1,hx1⟩
 rw [joinL1] at hO1
 have hO1:=hO1.mono (base':=w.heap.size) (by simp)
 have hx1:Ext w w1:=Ext.trans (Ext.of_alloc _ _) hx1
 obtain ⟨g,rfl,hg,hgb,hcell8,hfr8,_⟩:=hO1.at 8 (by omega)
 obtain ⟨_,e1,_,_,hcell12,hfr12,_⟩:=hO1.at 12 (by omega)
 injection e1 with e1
 injection e1 with e1 _
 subst e1
 have hle:=hO1.le
 have hO2:=hO1.put 8 (by omega) (at' t 8 &&& 127)
 have hO3:=hO2.put 12 (by omega) (at' t 12 &&& 127)
 rw [← hC.out] at hO3
 have hx3:Ext w ((w1.setCell ⟨g,8,none⟩ (.int .u8 (n8 (at' t 8 &&& 127)))).setCell ⟨g,12,none⟩ (.int .u8 (n8 (at' t 12 &&& 127)))):=Ext.setCell (Ext.setCell hx1 hg _) hg _
 rw [show t.getD 8 0=at' t 8 from rfl] at hcell8
 rw [show t.getD 12 0=at' t 12 from rfl] at hcell12
 clear hO1 hO2
 go_wp2_with fail
 go_region
 go_wp2
 go_ret
 exact ⟨_,_,rfl,hO3.ext (Ext.drew (Ext.refl _)),hx3.drew⟩
set_option maxHeartbeats 4000000 in
theorem rtag_any (a b c:Option Addr)(n ca m cb k cc:Nat) (ky:List UInt8)(A:List (List UInt8)) (p:List UInt8)(w:World)(hk:Sl w a n ky) (hca:n≤ca) (hA:Bsc w b m A) (hm:m≤1000000) (hp:Sl w c k p) (hkc:k≤cc) :
  Calls Tryz.prog 84 #[.slice a n ca, .slice b m cb, .slice c k cc] w (Read2 (tagE ky A p).1.length (tagE ky A p).1 (.int .i64 (tagE ky A p).2) w):=by
 have hc:=fun w h1 h2=>rcheck_any a b n ca m cb ky A (k:Int) w h1 h2 hm
 have hpl:=hp.len
 have hcr:=checkR_nat ky A k
 by_cases h0:checkA ky A=0∧k≤65519
 ·obtain ⟨h0,hl⟩:=h0
  have h00:checkR ky A k=0:=by rw [hcr,if_neg (by rw [h0];simp),if_neg (by omega)]
  rw [h00] at hc
  obtain ⟨h32,h16,hmx⟩:=checkA_ok h0
  rw [hk.len] at h32
  rw [hA.len] at h16
  subst h32
  rw [tagE_ok h0 (by omega)]
  show Calls _ _ _ _ (Read2 (s2v _ _).length _ _ _)
  rw [s2v_length]
  have hmax:∀ x∈A++[p],x.length≤65535:=by
   exact z31q63
  have q:(16:Int)≤(ca:Int):=by omega
  clear h0 h00 hcr hmx hpl
  go_enter Tryz.func84,Tryz.ntmps84
  go_wp2_with (first|(go_at_call 102;(with_reducible refine (hc ?_ ?hq117 ?hq118).mono ?_);(case hq117=>exact sS);(case hq118=>exact sC);rintro e w1 ⟨rfl,hxq⟩;obtain ⟨xq,rfl⟩:=hxq.out;clear hxq)|fail)
  have hxW:Ext w (w.ext xq):=eX
  generalize w.ext xq=W at *
  have hkW:=(hk.ext hxW).take 16 (by omega)
  have hRB:=(hA.ext hxW).rdB
  have hpW:=hp.ext hxW
  have hSE:∀ w',Ext (W) w'→(Ext (W)) w':=(fun _ h=>h);have hExt0:Ext (W) (W).drew:=Ext.drew (Ext.refl _);refine wp_region_held_drew (S:=Ext (W)) (by kernel_rfl) (hSE _ hExt0) (fun hHeld=>?_)
  refine wpAnyH_take (i:=0) (v:=?v106) rfl (by kernel_rfl) (by kernel_rfl) (by kernel_rfl) (fun _ _ _ h=>h) (Or.inl ⟨by rfl,?hy106⟩) hHeld ?_;(case hy106=>(intro w' hx;simp [go_sem,execOp, *];(try simp (disch:=omega) only [q17q,q18q,q19q]);rfl));(try simp only [q14q,q15q,q16q,Act.put,q0q,q1q,q2q])
  refine wpAnyH_take (i:=1) (v:=?v107) rfl (by kernel_rfl) (by kernel_rfl) (by kernel_rfl) (fun _ _ _ h=>h) (Or.inl ⟨by rfl,?hy107⟩) hHeld ?_;(case hy107=>(intro w' hx;simp [go_sem,execOp, *];(try simp (disch:=omega) only [q17q,q18q,q19q]);rfl));(try simp only [q14q,q15q,q16q,Act.put,q0q,q1q,q2q])
  refine wpAnyH_take (i:=3) (v:=?v108) rfl (by kernel_rfl) (by kernel_rfl) (by kernel_rfl) (fun _ _ _ h=>h) (Or.inl ⟨by rfl,?hy108⟩) hHeld ?_;(case hy108=>(intro w' hx;simp [go_sem,execOp, *];(try simp (disch:=omega) only [q17q,q18q,q19q]);rfl));(try simp only [q14q,q15q,q16q,Act.put,q0q,q1q,q2q])
  refine wpAnyH_take (i:=5) (v:=?v109) rfl (by kernel_rfl) (by kernel_rfl) (by kernel_rfl) (fun _ _ _ h=>h) (Or.inl ⟨by rfl,?hy109⟩) hHeld ?_;(case hy109=>(intro w' hx;simp [go_sem,execOp, *];(try simp (disch:=omega) only [q17q,q18q,q19q]);rfl));(try simp only [q14q,q15q,q16q,Act.put,q0q,q1q,q2q])
  refine R5.any_late2 7 9 [[],[0],[],[],[2,3],[],[5],[2,3,4,5,6],[0,1,2,3,4,5,6,7],[0,1,2,3,4,5,6,7,8],[0,1,2,3,4,5,6,7,8],[0,1,2,3,4,5,6,7,8,9,10],[0,1,2,3,4,5,6,7,8,9,10,11]] [0,1,3,5] #[true,true,true,true,true,true,true,true,true,false,false,false,false] 4 hExt0 hSE (by kernel_rfl) (by kernel_rfl) (by kernel_rfl) (by kernel_rfl) (by kernel_rfl) (by kernel_rfl) ?_;simp only [q8q,q9q,q10q,q11q,q12q,q13q,Nat.reduceSub]
  refine R5.VD_taken rfl ?_
  refine R5.VD_taken rfl ?_
  (refine R5.VD_vag rfl (fun p => .slice (p 0).1 0 0) (fun p w''=>∃ g,(p 0).1=some ⟨g,0,none⟩∧OwnB w'' W.heap.size (some ⟨g,0,none⟩) 0 0 []) (fun p w w' h hx=>(let ⟨g,h1,h2⟩:=h;⟨g,h1,h2.ext hx⟩)) (fun us w' hx hf=>⟨rfl,?_⟩) ?_;(unfold gives;simp [go_sem,execOp];exact ⟨fun _=>(some ⟨w'.heap.size,0,none⟩,0),rfl,Ext.of_alloc _ _,_,rfl,(OwnB.empty _).mono0 hx.size⟩))
  refine R5.VD_taken rfl ?_
  (refine R5.VD_vag rfl (fun p => .slice (p 0).1 m (p 0).2) (fun p w''=>OwnB w'' W.heap.size (p 0).1 m (p 0).2 A) (fun p w w' h hx=>h.ext hx) (fun us w' hx hf=>⟨rfl,?_⟩) ?_;(obtain ⟨g,hg,hE⟩:=(hf _ (List.mem_append_right _ (List.mem_singleton_self _)) rfl);obtain ⟨sa,sc,w'',hrun,hO,hx'⟩:=R5.append_empty_bs V8 w' 52 W.heap.size g hE _ m cb A (hRB.ext hx) (by omega) hx.size;exact R5.gives_append rfl (by show Value.slice (us 2 0).1 0 0=_;rw [hg]) rfl hrun ⟨fun _=>(sa,sc),rfl,hx',hO⟩))
  refine R5.VD_taken rfl ?_
  (refine R5.VD_vag rfl (fun p => .slice (p 0).1 1 1) (fun p w''=>Rd w'' (p 0).1 [.slice c k cc]) (fun p w w' h hx=>h.ext hx) (fun us w' hx hf=>⟨rfl,?_⟩) ?_;(unfold gives;simp [go_sem,execOp];exact ⟨fun _=>(some ⟨w'.heap.size,0,none⟩,0),rfl,Ext.of_alloc _ _,(Blk.new _ _ _).rd⟩))
  (refine R5.VD_nil ?_;intro us w' hx hf;obtain ⟨x,rfl⟩:=hx.out;(try simp only [Act.put,q0q,q1q,q2q,wpList_none]);(try simp only [q3q,q4q,or_false,forall_eq_or_imp,forall_eq,q5q,q6q,q7q,false_or,true_and,and_true] at hf);(try simp only [Nat.reduceAdd,Nat.zero_add] at hf ⊢))
  obtain ⟨-,hO1,hR2⟩:=hf
  (refine R5.chain_append_bs hSE V8 rfl rfl _ _ rfl (W.heap.size) _ m _ (A) rfl _ 1 1 ([p]) rfl (hO1) (RdB.one hR2 (hpW.ext hx) hkc (hpW.inB _)) (by omega) (hx.size) (Nat.le_refl _) (hx) ?_;intro sa2 sc2 w2 hOa hg2 hB2 hx2)
  have hBs:=hOa.bsc
  have hle:=hOa.le
  have hk2:=hkW.ext hx2
  (refine R5.chain_cons rfl rfl ?_;unfold gives;simp [go_sem,execOp];(with_reducible refine (rvector_any ?_ ?_ ?_ ?_ ?_ (ky.take 16) (A++[p]) ?_ ?hq114 ?hq115 ?hq116 hmax).mono ?_);(case hq114=>exact sS);(case hq115=>exact sC);(case hq116=>omega);rintro e _ ⟨_,_,rfl,hS,hc,hx⟩;obtain ⟨_,rfl⟩:=hx.out;clear hx;refine ⟨_,rfl,hSE _ eX,?_⟩;(try simp only [q14q,q15q,q16q,Act.put,q0q,q1q,q2q]))
  (refine R5.chain_nil ?_)
  refine wpAnyH_take (i:=9) (v:=?v110) rfl (by kernel_rfl) (by kernel_rfl) (by kernel_rfl) (fun _ _ _ h=>h) (Or.inl ⟨by rfl,?hy110⟩) (hSE _ eX) ?_;(case hy110=>(intro w' hx;simp [go_sem,execOp, *];(try simp (disch:=omega) only [q17q,q18q,q19q]);rfl));(try simp only [q14q,q15q,q16q,Act.put,q0q,q1q,q2q])
  refine wpAnyH_take (i:=10) (v:=?v111) rfl (by kernel_rfl) (by kernel_rfl) (by kernel_rfl) (fun _ _ _ h=>h) (Or.inl ⟨by rfl,?hy111⟩) (hSE _ eX) ?_;(case hy111=>(intro w' hx;simp [go_sem,execOp, *];(try simp (disch:=omega) only [q17q,q18q,q19q]);rfl));(try simp only [q14q,q15q,q16q,Act.put,q0q,q1q,q2q])
  refine wpAnyH_take (i:=11) (v:=?v112) rfl (by kernel_rfl) (by kernel_rfl) (by kernel_rfl) (fun _ _ _ h=>h) (Or.inl ⟨by rfl,?hy112⟩) (hSE _ eX) ?_;(case hy112=>(intro w' hx;simp [go_sem,execOp, *];(try simp (disch:=omega) only [q17q,q18q,q19q]);rfl));(try simp only [q14q,q15q,q16q,Act.put,q0q,q1q,q2q])
  refine wpAnyH_take (i:=12) (v:=?v113) rfl (by kernel_rfl) (by kernel_rfl) (by kernel_rfl) (fun _ _ _ h=>h) (Or.inl ⟨by rfl,?hy113⟩) (hSE _ eX) ?_;(case hy113=>(intro w' hx;simp [go_sem,execOp, *];(try simp (disch:=omega) only [q17q,q18q,q19q]);rfl));(try simp only [q14q,q15q,q16q,Act.put,q0q,q1q,q2q])
  refine wpAnyH_done (by kernel_rfl) ?_ _
  go_wp2
  go_ret2
  exact ⟨_,_,rfl,hS,hc,hxW.trans eX⟩
 ·obtain ⟨e,hne⟩:=tagE_err (p:=p) (by rw [hpl];exact h0)
  rw [hpl] at e hne
  rw [e]
  have hI:=ne0 hne
  clear hne
  generalize checkR ky A k=v at *
  clear e h0 hcr
  go_enter Tryz.func84,Tryz.ntmps84
  go_wp2_with (first|(go_at_call 102;(with_reducible refine (hc ?_ ?hq119 ?hq120).mono ?_);(case hq119=>exact sS);(case hq120=>exact sC);rintro e w1 ⟨rfl,hxq⟩;obtain ⟨xq,rfl⟩:=hxq.out;clear hxq)|fail)
  go_ret2
  exact read2_err _ _ _ eX
end Go.Proofs.YtdmifbfgeeldnaaGreat
