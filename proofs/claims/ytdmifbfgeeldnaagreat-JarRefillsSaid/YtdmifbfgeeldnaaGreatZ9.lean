/- Lemmas of this claim, several texts joined. -/
import Derived.Test.YtdmifbfgeeldnaaGreatZ1
import Derived.Test.YtdmifbfgeeldnaaGreatZ6
import Derived.Test.YtdmifbfgeeldnaaGreatZ7
import Derived.Test.YtdmifbfgeeldnaaGreatZ8
import Derived.Test.YtdmifbfgeeldnaaGreatZ15
set_option maxRecDepth 100000
open List renaming setIfInBounds_toArray → q0q, set_cons_succ → q1q, set_cons_zero → q2q, mem_cons → q3q, not_mem_nil → q4q, nil_append → q5q, cons_append → q6q, mem_append → q7q, take_succ_cons → q8q, take_zero → q9q, drop_succ_cons → q10q, drop_zero → q11q, take_nil → q12q, drop_nil → q13q
open Go.IntWalk renaming wrap64_in → q19q
set_option linter.unusedVariables false
set_option linter.unusedSimpArgs false
/- The walks of slices.Grow, slices.Concat, and what stands on them. -/
namespace Go.Proofs.YtdmifbfgeeldnaaGreat
open Go.RowKit Go.Sec Go.Oct BigFrame
theorem hint:Tryz.prog.underlying 3=some (.int .i64):=Tryz.underlying3
set_option maxHeartbeats 2000000 in
theorem grow_any (base:Nat) (a:Option Addr)(n c k:Nat) (l:List UInt8)(w:World)(hO:Own w base a n c l) (hb:base≤w.heap.size) (hk:k≤1000000000) (hn:n≤1000000000) :
  Calls Tryz.prog 129 #[.slice a n c, .int .i64 k] w fun e w'=>∃ a' c',e = .returned (.slice a' n c')∧Own w' base a' n c' l∧Ext w w':=by
 have hle:n≤c∧c≤9223372036854775807:=by
  rcases hO.2.2 with ⟨h1,h2⟩|⟨g,cap,cur,h1,_,_,h2,h3,_⟩
  ·injection h1;omega
  ·injection h1;simp only [maxLen] at h3;omega
 obtain ⟨hle,hc⟩:=hle
 by_cases hroom:k≤c-n
 ·have k0:(k:Int)≤(c:Int)-(n:Int):=by omega
  go_enter Tryz.func129,Tryz.ntmps129
  go_wp2
  go_ret
  exact ⟨_,_,rfl,hO,Ext.refl _⟩
 ·obtain ⟨m,hm⟩:∃ m:Nat,m=k-(c-n):=⟨_,rfl⟩
  have hm2:(k:Int)-((c:Int)-(n:Int))=(m:Int):=by omega
  have hm0:0<m:=by omega
  obtain ⟨c',x,hcn,hrun,hO'⟩:=run_append_zeros8 U hint w 33 base a n c l hO m hm0 (by omega) hb
  clear hm hroom
  go_enter Tryz.func129,Tryz.ntmps129
  go_wp2_with (at_builtin;refine Lib.wpList_append_run _ rfl _ _ _ _ rfl _ _ rfl rfl _ _ hrun ?_)
  go_ret
  exact ⟨_,_,rfl,hO',Ext.of_ext _ _⟩
set_option maxHeartbeats 2000000 in
theorem concat_any (a:Option Addr)(n c:Nat) (L:List (List UInt8)) (w:World)(hL:Bss w a n L) (hn:n≤100000) (N:Nat) (hN:(joinL L).length=N) (hmax:N≤1000000000) :
  Calls Tryz.prog 108 #[.slice a n c] w (Fresh N (joinL L) w):=by
 go_enter Tryz.func108,Tryz.ntmps108
 go_wp2
 go_loopw [3,5,11] (fun v3 _ v11 wr=>∃ (k m:Nat),k≤n∧m≤N∧v11 = .int .i64 k∧v3 = .int .i64 m∧Hid ((joinL (L.take k)).length=m)∧Ext w wr) (fun _ _ v11 _=>n-(intOf v11).toNat)
 case atStart=>exact ⟨0,0,Nat.zero_le _,Nat.zero_le _,rfl,rfl,Lib.hid rfl,Ext.refl _⟩
 case round =>
  obtain ⟨k,m,hk,hm,rfl,rfl,hl,hx⟩:=hrel
  by_cases hlt:k<n
  ·obtain ⟨b,off,a',n',c',rfl,hb,hc,hs⟩:=(hL.ext hx).at k hlt
   have hkl:k<L.length:=by rw [hL.len];exact hlt
   have HT:=Lib.hid (joinL_take L k hkl)
   have hle2:m+n'≤N:=by
    have:=joinL_le L (k+1)
    rw [HT.out,List.length_append,hs.len,hl.out] at this
    omega
   go_wp2
   go_roundw
   case rel=>exact ⟨k+1,m+n',by omega,hle2,by go_num,by go_num,Lib.hid (by rw [HT.out,List.length_append,hl.out,hs.len]),hx⟩
   case measure=>simp [intOf];omega
  ·obtain rfl:k=n:=by omega
   have hmN:m=N:=by rw [← hl.out,joinL_all L k hL.len,hN]
   subst hmN
   clear hl
   go_wp2_with fail
   refine (grow_any w.heap.size none 0 0 m [] _ (Own.nil _ _) hx.size (by omega) (by omega)).mono ?_
   rintro e w1 ⟨a1,c1,rfl,hO1,hx1⟩
   go_wp2_with fail
   go_loopw [6,8,27] (fun v6 _ v27 wr=>∃ (k' m':Nat) (sa:Option Addr)(sc:Nat),k'≤k∧m'≤m∧v27 = .int .i64 k'∧v6 = .slice sa m' sc∧Own wr w.heap.size sa m' sc (joinL (L.take k'))∧Ext w wr) (fun _ _ v27 _=>k-(intOf v27).toNat)
   case atStart=>exact ⟨0,0,a1,c1,Nat.zero_le _,Nat.zero_le _,rfl,rfl,hO1,hx.trans hx1⟩
   case round =>
    obtain ⟨k',m',sa,sc,hk',hm',rfl,rfl,hO,hx2⟩:=hrel
    by_cases hlt':k'<k
    ·obtain ⟨b,off,a',n',c',rfl,hb,hc,hs⟩:=(hL.ext hx2).at k' hlt'
     have hkl:k'<L.length:=by rw [hL.len];exact hlt'
     have HT:=Lib.hid (joinL_take L k' hkl)
     have hle2:m'+n'≤m:=by
      have:=joinL_le L (k'+1)
      rw [HT.out,List.length_append,hs.len,hO.1] at this
      omega
     go_wp2_with (at_builtin;refine wpList_append_by U rfl _ _ rfl w.heap.size sa _ sc _ rfl a' n' c' _ rfl hO hs (by omega) hx2.size ?_;intro sa2 sc2 w2 hO2 hg2 hB2)
     go_roundw
     case rel=>exact ⟨k'+1,_,sa2,sc2,by omega,hle2,by go_num,rfl,by rw [HT.out];exact hO2,Below.trans hx2 hB2⟩
     case measure=>simp [intOf];omega
    ·obtain rfl:k'=k:=by omega
     go_wp2
     go_ret
     rw [joinL_all L k' hL.len] at hO
     have:m'=m:=by rw [← hO.1,hN]
     subst this
     exact ⟨_,_,rfl,hO,hx2⟩
set_option maxHeartbeats 2000000 in
theorem ojoin_any (a:Option Addr)(n c:Nat) (L:List (List UInt8)) (w:World)(hL:Bss w a n L) (hn:n≤100000) (N:Nat) (hN:(joinL L).length=N) (hmax:N≤1000000000) :
  Calls Tryz.prog 64 #[.slice a n c] w (Fresh N (joinL L) w):=by
 go_enter Tryz.func64,Tryz.ntmps64
 go_wp2_with (go_at_call 108;refine (concat_any _ _ _ L _ (hL.ext eX) hn N hN hmax).mono ?_;rintro e w1 ⟨a1,c1,rfl,hO1,hx1⟩)
 go_ret
 exact ⟨_,_,rfl,hO1,hx1⟩
set_option maxHeartbeats 2000000 in
theorem pad_any (a:Option Addr)(n c:Nat) (l:List UInt8)(k:Nat) (w:World)(h:Sl w a n l) (hn:n≤1000000) (hk1:1≤k) (hk:k≤64) (N:Nat) (hN:N=n+(k-n % k) % k) :
  Calls Tryz.prog 87 #[.slice a n c, .int .i64 k] w (Fresh N (l++List.replicate (N-n) 0) w):=by
 have hb:=bss1 h 33 (c1:=c)
 have kk0:(1:Int)≤(k:Int):=by omega
 have kk1:(k:Int)≤64:=by omega
 have hNb:N<n+k:=by
  have:=Nat.mod_lt (k-n % k) (show 0<k by omega)
  omega
 go_enter Tryz.func87,Tryz.ntmps87
 go_wp2_with fail
 refine (join_any _ 1 1 [l] _ hb (by omega) n (by rw [joinL1,h.len]) (by omega)).mono ?_
 rintro e w1 ⟨a1,c1,rfl,hO1,hx1⟩
 rw [joinL1] at hO1
 go_wp2_with fail
 go_loopw [5] (fun v5 wr=>∃ (m:Nat) (sa:Option Addr)(sc:Nat),n≤m∧m≤N∧v5 = .slice sa m sc∧Own wr w.heap.size sa m sc (l++List.replicate (m-n) 0)∧Ext w wr) (fun v5 _=>match v5 with | .slice _ m _=>N-m|_=>0)
 case atStart=>exact ⟨n,a1,c1,Nat.le_refl _,by omega,rfl,by simpa using hO1.mono (base':=w.heap.size) (by simp),(Ext.of_alloc _ _).trans hx1⟩
 case round =>
  obtain ⟨m,sa,sc,hm0,hm1,rfl,hO,hx⟩:=hrel
  by_cases hlt:m<N
  ·have hne:=pad_ne n k m hk1 hm0 (by omega)
   have hmod:((m:Int) % (k:Int) != 0)=true:=by rw [bne_iff_ne];omega
   have hNs:m+1-n=(m-n)+1:=by omega
   clear hne
   have HN:=Lib.hid hN
   have HS:=Lib.hid hNs
   clear hN hNs
   go_wp2_with (at_builtin;refine wpList_append_by U rfl _ _ rfl w.heap.size sa _ sc _ rfl _ 1 1 _ rfl (hO.ext eX) (sl_new1 _ 0 _) (by omega) (by simp;have:=hx.size;omega) ?_;intro sa2 sc2 w2 hO2 hg2 hB2)
   go_roundw
   case rel=>exact ⟨m+1,sa2,sc2,by omega,by omega,rfl,by rw [HS.out,List.replicate_succ',← List.append_assoc];exact hO2,Below.trans (b:=wr.alloc _) eX hB2⟩
   case measure=>show N-(m+1)<N-m;omega
  ·obtain rfl:m=N:=by omega
   have hz:=pad_zero n k hk1
   rw [← hN] at hz
   have hmod:((m:Int) % (k:Int) != 0)=false:=by rw [bne_eq_false_iff_eq];omega
   clear hN hz
   go_wp2
   go_ret
   exact ⟨_,_,rfl,hO,hx⟩
end Go.Proofs.YtdmifbfgeeldnaaGreat

/- The walks of AES-128, part three: the keys. -/
namespace Go.Proofs.YtdmifbfgeeldnaaGreat
open Go.RowKit Go.Sec Go.Oct Go.Aes BigFrame
theorem R99:RowT Tryz.prog 157 4:=⟨⟨_,Tryz.underlying157,rfl⟩,by kernel_rfl,⟨_,Tryz.zeroValue157,rfl⟩⟩
theorem drop4 (l:List UInt8)(i:Nat) (h:i+4≤l.length):(l.drop i).take 4=[at' l i,at' l (i+1),at' l (i+2),at' l (i+3)]:=by
 apply List.ext_getElem
 ·simp;omega
 ·intro j h1 h2
  simp at h2
  have:j=0∨j=1∨j=2∨j=3:=by omega
  rcases this with rfl|rfl|rfl|rfl <;> simp <;> rw [at_get _ _ (by omega)]
def tmp4 (ws:List UInt8)(i:Nat):List UInt8 :=
 if i % 4=0 then [sub (at' ws (4*i-3)) ^^^ con (i / 4-1),sub (at' ws (4*i-2)),sub (at' ws (4*i-1)),sub (at' ws (4*i-4))]
 else [at' ws (4*i-4),at' ws (4*i-3),at' ws (4*i-2),at' ws (4*i-1)]
def wordF (ws t:List UInt8)(i r:Nat):UInt8:=at' ws (4*i-16+r) ^^^ at' t r
theorem tmp4_length (ws:List UInt8)(i:Nat):(tmp4 ws i).length=4:=by unfold tmp4;split <;> rfl
theorem word_eq (ws:List UInt8)(i:Nat) (h4:4≤i) (h:4*i≤ws.length):word ws i=(List.range 4).map (wordF ws (tmp4 ws i) i):=by
 have e1:4*i-4+1=4*i-3:=by omega
 have e2:4*i-4+2=4*i-2:=by omega
 have e3:4*i-4+3=4*i-1:=by omega
 have e4:4*i-16+1=4*i-15:=by omega
 have e5:4*i-16+2=4*i-14:=by omega
 have e6:4*i-16+3=4*i-13:=by omega
 have ht:=drop4 ws (4*i-4) (by omega)
 rw [e1,e2,e3] at ht
 simp only [word,ht,tmp4,wordF,List.range_succ,List.range_zero,q5q,q6q,List.map_cons,List.map_nil,e4,e5,e6,Nat.add_zero]
 split <;> rfl
theorem index4 (t:List UInt8)(h:t.length=4) (r:Nat) (hr:r<4) (W:World):(Instr.index 157 (.agg (t.map u8v).toArray) (.int .i64 (r:Int))).run Tryz.prog W = .ok (.int .u8 (n8 (at' t r))) W:=by
 match t,h with
 | [x0,x1,x2,x3],_ =>
  have h:∀ (x0 x1 x2 x3:Value),(Instr.index 157 (.agg #[x0,x1,x2,x3]) (.int .i64 0)).run Tryz.prog W = .ok x0 W∧(Instr.index 157 (.agg #[x0,x1,x2,x3]) (.int .i64 1)).run Tryz.prog W = .ok x1 W∧(Instr.index 157 (.agg #[x0,x1,x2,x3]) (.int .i64 2)).run Tryz.prog W = .ok x2 W∧(Instr.index 157 (.agg #[x0,x1,x2,x3]) (.int .i64 3)).run Tryz.prog W = .ok x3 W:=fun _ _ _ _=>⟨by kernel_rfl,by kernel_rfl,by kernel_rfl,by kernel_rfl⟩
  obtain ⟨h0,h1,h2,h3⟩:=h (u8v x0) (u8v x1) (u8v x2) (u8v x3)
  have:r=0∨r=1∨r=2∨r=3:=by omega
  rcases this with rfl|rfl|rfl|rfl
  ·exact h0
  ·exact h1
  ·exact h2
  ·exact h3
set_option maxHeartbeats 4000000 in
theorem new_any (a:Option Addr)(c:Nat) (ky:List UInt8)(w:World)(h:Sl w a 16 ky) (hc:16≤c) :
  Calls Tryz.prog 137 #[.slice a 16 c] w fun e w'=>∃ g,e = .returned (.pointer (some ⟨g,0,none⟩))∧w.heap.size≤g∧Blk w' g 178 ((expand ky).map u8v)∧Ext w w':=by
 have har:=fun W a len cap=>run_arrayAt (P:=Tryz.prog) W 157 5 4 a len cap Tryz.underlying157
 have har2:=fun W a len cap=>run_arrayAt (P:=Tryz.prog) W 164 5 16 a len cap Tryz.underlying164
 go_enter Tryz.func137,Tryz.ntmps137
 go_wp2_with fail
 refine (clone_any _ 16 _ ky _ h (by omega)).mono ?_
 rintro e w1 ⟨a1,c1,rfl,hO1,hx1⟩
 go_wp2_with fail
 refine (grow_any w.heap.size a1 16 c1 160 ky _ hO1 hx1.size (by omega) (by omega)).mono ?_
 rintro e w2 ⟨a2,c2,rfl,hO2,hx2⟩
 go_wp2_with fail
 have hkl:=h.len
 go_loopw [3,4,5,6] (fun v3 v4 v5 _ wr=>∃ (k:Nat) (sa:Option Addr)(sc:Nat),k≤40∧v5 = .int .i64 ((k+4:Nat):Int)∧v4 = .int .u8 (n8 (con ((k+3) / 4)))∧v3 = .slice sa (16+4*k) sc∧Own wr w.heap.size sa (16+4*k) sc (words ky k)∧Ext w wr) (fun _ _ v5 _ _=>44-(intOf v5).toNat)
 case atStart=>exact ⟨0,a2,c2,by omega,rfl,rfl,rfl,hO2,hx1.trans hx2⟩
 case round =>
  obtain ⟨k,sa,sc,hk,rfl,rfl,rfl,hO,hx⟩:=hrel
  by_cases hlt:k<40
  ·obtain ⟨g,vs,rfl,hg,hB,hvl,hnc,hcm,htk⟩:=Blk.of_own hO.2 (by omega)
   have hwl:=words_length ky k hkl
   have HW:=Lib.hid (word_eq (words ky k) (k+4) (by omega) (by omega))
   have HS:=Lib.hid (show words ky (k+1)=words ky k++word (words ky k) (k+4) from rfl)
   have HT:=Lib.hid (drop4 (words ky k) (4*k+12) (by omega))
   generalize words ky k=ws at *
   have hR:Rd wr (some ⟨g,4*k+12,none⟩) ([at' ws (4*k+12),at' ws (4*k+13),at' ws (4*k+14),at' ws (4*k+15)].map u8v):=by
    have h1:=((hO.sl.drop (16+4*k) (4*k+12) (by omega)).take 4 (by omega)).by'
    rw [HT.out] at h1
    unfold sAdr at h1
    rw [if_neg (by omega)] at h1
    simp only [Option.map_some,Nat.mul_one,addr_add,Nat.zero_add] at h1
    exact h1
   have b0:(0:Int)≤4*((k:Int)+4)-4:=by omega
   have b1:4*((k:Int)+4)-4≤16+4*(k:Int):=by omega
   have b2:(4*((k:Int)+4)-4).toNat=4*k+12:=by omega
   have b3:sAdr (some ⟨g,0,none⟩) sc (4*k+12) 1=some ⟨g,4*k+12,none⟩:=by
    unfold sAdr
    rw [if_neg (by omega)]
    simp [addr_add]
   have b4:4≤(16+4*k)-(4*k+12):=by omega
   have kk0:(0:Int)≤(k:Int):=by omega
   have kk1:(k:Int)<40:=by omega
   obtain ⟨t,ht⟩:∃ t,Hid (t=tmp4 ws (k+4)):=⟨_,Lib.hid rfl⟩
   have htl:t.length=4:=by rw [ht.out];exact tmp4_length _ _
   have hix:=index4 t htl
   have hcon:∃ x1,Hid (x1=con ((k+3) / 4)):=⟨_,Lib.hid rfl⟩
   obtain ⟨x1,hx1'⟩:=hcon
   rw [← hx1'.out]
   have hbx:=box_any
   unfold box at hbx
   have hxw:=hx
   by_cases h0:k % 4=0
   case' pos =>
    have hmod:((k:Int) % 4 == 0)=true:=by rw [beq_iff_eq];omega
    have hx4:=Lib.hid (show con ((k+1+3) / 4)=dbl x1 by
     rw [hx1'.out,show (k+1+3) / 4=(k+3) / 4+1 by omega];rfl)
    have ht2:=Lib.hid (show t=[sub (at' ws (4*k+13)) ^^^ x1,sub (at' ws (4*k+14)),sub (at' ws (4*k+15)),sub (at' ws (4*k+12))] by
     rw [ht.out,hx1'.out];unfold tmp4;rw [if_pos (by omega)]
     rw [show 4*(k+4)-4=4*k+12 by omega,show 4*(k+4)-3=4*k+13 by omega,show 4*(k+4)-2=4*k+14 by omega,show 4*(k+4)-1=4*k+15 by omega,show (k+4) / 4-1=(k+3) / 4 by omega])
    go_wp2_with (first
     | (refine wpList_load_arr (R99) rfl _ rfl (g) ((4*k+12)) rfl ([at' ws (4*k+12),at' ws (4*k+13),at' ws (4*k+14),at' ws (4*k+15)].map u8v) (hR) (rfl) ?_)
     | (refine wpList_alloc_store (R99) rfl rfl _ _ rfl rfl rfl rfl (by simp [Act.put]) ([at' ws (4*k+12),at' ws (4*k+13),at' ws (4*k+14),at' ws (4*k+15)].map u8v) rfl (by simp) (rfl) (one_u8 _) ?_;intro xb hBx _))
    have c0:=hBx.cell? 0 rfl
    have c1:=hBx.cell? 1 rfl
    have c2:=hBx.cell? 2 rfl
    have c3:=hBx.cell? 3 rfl
    refine wp_region_vague 15 [[],[0],[0,1],[],[0,1,2,3],[],[5],[5,6],[],[8],[8,9],[],[11],[11,12],[0,1,2,3,4,5,6,7,8,9,10,11,12,13],[0,1,2,3,4,5,6,7,8,9,10,11,12,13,14]] (by kernel_rfl) (by kernel_rfl) (by kernel_rfl) (by kernel_rfl) ?_;simp only [q8q,q9q,q10q,q11q,q12q,q13q]
    (repeat (refine VD_a ?_;(try simp only [Act.put,q0q,q1q,q2q])))
    (refine VD_z ?_;intro us x hx hf;(try simp only [Act.put,q0q,q1q,q2q,wpList_none]);(try simp only [q3q,q4q,or_false,forall_eq_or_imp,forall_eq,q5q,q6q,q7q,false_or,true_and,and_true] at hf);(try simp only [Nat.reduceAdd,Nat.zero_add] at hf ⊢))
    (refine wpList_store_arr (R99) rfl _ _ rfl (wr.heap.size) (0) rfl ([sub (at' ws (4*k+13)) ^^^ x1,sub (at' ws (4*k+14)),sub (at' ws (4*k+15)),sub (at' ws (4*k+12))].map u8v) rfl (157) _ (hBx.ext _) (rfl) (by simp) (by first|exact one_u8 _|(simp;done)|(simp;(repeat' (first|rfl|constructor)))) ?_;intro ws2 hB2 hM2)
    have hB3:Blk ws2 wr.heap.size 157 (t.map u8v):=by rw [ht2.out];simpa using hB2
    have hxs:Ext wr ws2:=Below.trans (b:=wr.ext xb) (Ext.of_ext _ _) (((Mut.of_ext (Ext.of_ext _ _)).trans hM2).below (Nat.le_refl _) (Ext.of_ext wr xb).size)
    go_wp2_with (first
     | (refine wpList_load_arr (R99) rfl _ rfl (wr.heap.size) (0) rfl (t.map u8v) ((hB3.ext _).rd) ((by simp [htl])) ?_)
     | (go_at_call 146;refine (dbl_any x1 _).mono ?_;rintro e w1 ⟨rfl,hxq⟩;obtain ⟨xq,rfl⟩:=hxq.out;clear hxq))
    have hxo:=hxs.trans (Ext.of_ext ws2 xq)
   case' neg =>
    have hmod:((k:Int) % 4 == 0)=false:=by rw [beq_eq_false_iff_ne];omega
    have hx4:=Lib.hid (show con ((k+1+3) / 4)=x1 by
     rw [hx1'.out,show (k+1+3) / 4=(k+3) / 4 by omega])
    have ht2:=Lib.hid (show t=[at' ws (4*k+12),at' ws (4*k+13),at' ws (4*k+14),at' ws (4*k+15)] by
     rw [ht.out];unfold tmp4;rw [if_neg (by omega)]
     rw [show 4*(k+4)-4=4*k+12 by omega,show 4*(k+4)-3=4*k+13 by omega,show 4*(k+4)-2=4*k+14 by omega,show 4*(k+4)-1=4*k+15 by omega])
    go_wp2_with (first
     | (refine wpList_load_arr (R99) rfl _ rfl (wr.heap.size) (0) rfl (t.map u8v) ((by rw [ht2.out];exact hBx.rd)) ((by simp [htl])) ?_)
     | (refine wpList_load_arr (R99) rfl _ rfl (g) ((4*k+12)) rfl ([at' ws (4*k+12),at' ws (4*k+13),at' ws (4*k+14),at' ws (4*k+15)].map u8v) (hR) (rfl) ?_)
     | (refine wpList_alloc_store (R99) rfl rfl _ _ rfl rfl rfl rfl (by simp [Act.put]) ([at' ws (4*k+12),at' ws (4*k+13),at' ws (4*k+14),at' ws (4*k+15)].map u8v) rfl (by simp) (rfl) (one_u8 _) ?_;intro x hBx _))
    have hxo:=Ext.of_ext wr x
   all_goals
    clear hbx hmod
    have hF:∀ r,r<4→Hid (wordF ws t (k+4) r=at' ws (4*k+r) ^^^ at' t r):=fun r hr=>Lib.hid (by
     unfold wordF;rw [show 4*(k+4)-16+r=4*k+r by omega])
    obtain ⟨wq,rfl⟩:∃ wq:World,wq=wr:=⟨_,rfl⟩
    go_loopw [3,47] (fun v3 v47 wi=>∃ (r:Nat) (sa2:Option Addr)(sc2:Nat),r≤4∧v47 = .int .i64 r∧v3 = .slice sa2 (16+4*k+r) sc2∧Own wi w.heap.size sa2 (16+4*k+r) sc2 (ws++(List.range r).map (wordF ws t (k+4)))∧Ext w wi) (fun _ v47 _=>4-(intOf v47).toNat)
    case atStart=>exact ⟨0,some ⟨g,0,none⟩,sc,by omega,rfl,rfl,by simpa using hO.ext hxo,hxw.trans hxo⟩
    case round =>
     obtain ⟨r,sa2,sc2,hr,rfl,rfl,hOi,hxi⟩:=hrel
     by_cases hr4:r<4
     ·have hFr:=hF r hr4
      have hixr:=hix r hr4
      obtain ⟨bb,oo,rfl,hbb,hcell⟩:=hOi.sl.at (4*k+r) (by omega)
      have hval:(ws++(List.range r).map (wordF ws t (k+4)))[4*k+r]'(by simp;omega)=at' ws (4*k+r):=by
       rw [List.getElem_append_left (by omega),at_get _ _ (by omega)]
      rw [hval] at hcell
      have j0:(0:Int)≤4*((k:Int)+4)-16+(r:Int):=by omega
      have j1:4*((k:Int)+4)-16+(r:Int)<16+4*(k:Int)+(r:Int):=by omega
      have j2:(4*((k:Int)+4)-16+(r:Int)).toNat=4*k+r:=by omega
      have hr0:(r:Int)<4:=by omega
      clear hval hix hF
      go_wp2_with (at_builtin;refine wpList_append_by U rfl _ _ rfl w.heap.size (some ⟨bb,oo,none⟩) _ sc2 _ rfl _ 1 1 _ rfl (hOi.ext eX) (sl_new1 _ _ _) (by omega) (by simp;have:=hxi.size;omega) ?_;intro sa3 sc3 w3 hO3 hg3 hB3')
      go_roundw
      case rel =>
       refine ⟨r+1,sa3,sc3,by omega,by go_num,rfl,?_,Below.trans (b:=wr.alloc _) eX hB3'⟩
       rw [List.range_succ,List.map_append,← List.append_assoc,List.map_cons,List.map_nil,hFr.out]
       exact hO3
      case measure=>simp [intOf];omega
     ·obtain rfl:r=4:=by omega
      clear hix hF
      go_wp2
      go_roundw
      case rel =>
       refine ⟨k+1,sa2,sc2,by omega,by go_num,by rw [hx4.out],rfl,?_,hxi⟩
       rw [HS.out,HW.out,← ht.out]
       exact hOi
      case measure=>simp [intOf];omega
  ·obtain rfl:k=40:=by omega
   simp only [Nat.reduceMul,Nat.reduceAdd,Nat.reduceDiv,Int.cast_ofNat_Int]
   obtain ⟨g,vs,rfl,hg,hB,hvl,hnc,hcm,htk⟩:=Blk.of_own hO.2 (by omega)
   have hwl:(words ky 40).length=176:=words_length ky 40 hkl
   have hO:Own wr w.heap.size (some ⟨g,0,none⟩) 176 sc (words ky 40):=hO
   have hnc:176≤sc:=hnc
   clear htk
   have HE:=Lib.hid (show expand ky=words ky 40 from rfl)
   generalize words ky 40=ks at *
   have hz:Blk (wr.alloc (.cells Tryz.zeroCells178 178)) wr.heap.size 178 ((fillTo ks 176 0).map u8v):=by
    have:=Blk.new wr Tryz.zeroCells178 178
    rw [fillTo_zero]
    have e:Tryz.zeroCells178.toList=(List.replicate 176 (0:UInt8)).map u8v:=by kernel_rfl
    rwa [e] at this
   obtain ⟨wq,rfl⟩:∃ wq:World,wq=wr:=⟨_,rfl⟩
   go_wp2
   go_loopw [67] (fun v67 wi=>∃ r:Nat,r≤11∧v67 = .int .i64 r∧Blk wi wq.heap.size 178 ((fillTo ks 176 (16*r)).map u8v)∧Ext wq wi) (fun v67 _=>11-(intOf v67).toNat)
   case atStart=>exact ⟨0,by omega,rfl,hz,Ext.of_alloc _ _⟩
   case round =>
    obtain ⟨r,hr,rfl,hBr,hxr⟩:=hrel
    by_cases hr4:r<11
    ·have hR:=(((hO.ext hxr).sl.drop 176 (16*r) (by omega)).take 16 (by omega)).by'
     have b3:sAdr (some ⟨g,0,none⟩) 176 (16*r) 1=some ⟨g,16*r,none⟩:=by
      unfold sAdr
      rw [if_neg (by omega)]
      simp [addr_add]
     rw [b3] at hR
     have b4:sAdr (some ⟨g,0,none⟩) sc (16*r) 1=some ⟨g,16*r,none⟩:=by
      unfold sAdr
      rw [if_neg (by omega)]
      simp [addr_add]
     have b6:¬ sc=16*r:=by omega
     have b5:16≤176-16*r:=by omega
     have r0:(0:Int)≤(r:Int):=by omega
     have r1:(r:Int)<11:=by omega
     have r2:(16*(r:Int)).toNat=16*r:=by omega
     have r3:(16*(r:Int))≤176:=by omega
     have hal:Tryz.prog.arrayLen 176=11:=by kernel_rfl
     have hcl:((ks.drop (16*r)).take 16).length=16:=by simp;omega
     have hR2:Rd wr (some ⟨g,16*r,none⟩) (((ks.drop (16*r)).take 16).map u8v):=hR
     have HS:=Lib.hid (fillTo_step ks 176 (16*r) 16 hwl (by omega))
     have HL:=Lib.hid (fillTo_length ks 176 (16*r) hwl (by omega))
     obtain ⟨bs,hbs⟩:∃ bs,bs=(ks.drop (16*r)).take 16:=⟨_,rfl⟩
     rw [← hbs] at hR2 hcl HS
     clear hbs hR
     clear hB
     obtain ⟨fl,hfl⟩:∃ fl,Hid (fl=fillTo ks 176 (16*r)):=⟨_,Lib.hid rfl⟩
     rw [← hfl.out] at hBr HS HL
     go_wp2
     refine wp_region_vague 11 [[],[],[],[],[3],[2,3,4],[2,3,4,5],[2,3,4,5,6],[0],[0,8],[0,1,2,3,4,5,6,7,8,9],[0,1,2,3,4,5,6,7,8,9,10]] (by kernel_rfl) (by kernel_rfl) (by kernel_rfl) (by kernel_rfl) ?_;simp only [q8q,q9q,q10q,q11q,q12q,q13q]
     (repeat (refine VD_a ?_;(try simp only [Act.put,q0q,q1q,q2q])))
     (refine VD_load_arr (R60) _ rfl (fun _=>rfl) (g) (16*r) (fun _=>by simp [go_sem]) (bs.map u8v) (hR2) ((by simpa using hcl)) ?_)
     (repeat (refine VD_a ?_;(try simp only [Act.put,q0q,q1q,q2q])))
     (refine VD_z ?_;intro us x hx hf;(try simp only [Act.put,q0q,q1q,q2q,wpList_none]);(try simp only [q3q,q4q,or_false,forall_eq_or_imp,forall_eq,q5q,q6q,q7q,false_or,true_and,and_true] at hf);(try simp only [Nat.reduceAdd,Nat.zero_add] at hf ⊢))
     (refine wpList_store_arr R60 rfl _ _ rfl (wq.heap.size) (r*16) rfl (bs.map u8v) rfl _ _ (hBr.ext _) (by simpa using hcl) (by rw [List.length_map,HL.out];omega) (one_u8 _) ?_;intro ws2 hB2 hM2)
     go_wp2
     go_roundw
     case rel =>
      refine ⟨r+1,by omega,by go_num,?_,Below.trans (b:=wr.ext x) (hxr.trans (Ext.of_ext _ _)) (hM2.below (Nat.le_refl _) ((hxr.trans (Ext.of_ext wr x)).size))⟩
      rw [show 16*(r+1)=16*r+16 by omega,← HS.out,show 16*r=r*16 by omega]
      exact hB2
     case measure=>simp [intOf];omega
    ·obtain rfl:r=11:=by omega
     go_wp2
     go_ret
     rw [fillTo_all _ _ hwl,← HE.out] at hBr
     exact ⟨_,rfl,hx.size,hBr,hx.trans hxr⟩
end Go.Proofs.YtdmifbfgeeldnaaGreat

/- The walk of octets.Unhex. -/
namespace Go.Proofs.YtdmifbfgeeldnaaGreat
open Go.RowKit Go.Sec Go.Oct BigFrame
def hexV (c:UInt8):UInt8:=b8 (Lib.indexByte digits c)
end Go.Proofs.YtdmifbfgeeldnaaGreat

/- The walks of layer 4: products, the S-box, one block; the document's products and S-box; the sanity check. -/
namespace Go.Proofs.YtdmifbfgeeldnaaGreat
open Go.RowKit Go.Sec Go.Oct Go.Aes BigFrame
set_option maxHeartbeats 2000000 in
theorem rtimes_any (x y:UInt8) (w:World) :
  Calls Tryz.prog 136 #[.int .u8 (n8 x), .int .u8 (n8 y)] w fun e w'=>e = .returned (.int .u8 (n8 (mul x y)))∧Ext w w':=by
 go_enter Tryz.func136,Tryz.ntmps136
 go_wp2
 go_loopw [0,1,5,6] (fun v0 v1 v5 v6 wr=>∃ k:Nat,k≤8∧v0 = .int .u8 (n8 (dbls k x))∧v1 = .int .u8 (n8 (shrs k y))∧v5 = .int .u8 (n8 (mulSum x y k))∧v6 = .int .i64 k∧Ext w wr) (fun _ _ _ v6 _=>8-(intOf v6).toNat)
 case atStart=>exact ⟨0,by omega,rfl,rfl,rfl,rfl,Ext.refl _⟩
 case round =>
  obtain ⟨k,hk,rfl,rfl,rfl,rfl,hx⟩:=hrel
  by_cases hlt:k<8
  ·have HS:=Lib.hid (show mulSum x y (k+1)=mulSum x y k ^^^ tk y k (dbls k x) from rfl)
   have HR:=Lib.hid (show shrs (k+1) y=shrs k y >>> 1 from rfl)
   have HD:=Lib.hid (show dbls (k+1) x=dbl (dbls k x) from rfl)
   have HT:=Lib.hid (show tk y k (dbls k x)=if shrs k y &&& 1 == 1 then dbls k x else 0 from rfl)
   generalize dbls k x=xk at *
   generalize mulSum x y k=o at *
   generalize shrs k y=yk at *
   have HB:=Lib.hid (show dbl xk=if xk &&& 128 != 0 then (xk <<< 1) ^^^ 27 else xk <<< 1 from rfl)
   cases h1:(yk &&& 1 == 1) <;> cases h2:(xk &&& 128 != 0)
   all_goals
    go_wp2
    go_roundw
    case rel=>exact ⟨k+1,by omega,by rw [HD.out,HB.out,h2];rfl,by rw [HR.out],by rw [HS.out,HT.out,h1];simp,by go_num,hx⟩
    case measure=>simp [intOf];omega
  ·obtain rfl:k=8:=by omega
   have HE:=Lib.hid (mul_eq x y)
   go_wp2
   go_returns
   exact ⟨by rw [HE.out];rfl,hx⟩
set_option maxHeartbeats 2000000 in
theorem left_any (x:UInt8) (k:Nat) (h0:1≤k) (h1:k≤4) (w:World) :
  Calls Tryz.prog 145 #[.int .u8 (n8 x), .int .i64 k] w fun e w'=>e = .returned (.int .u8 (n8 (lft x k)))∧Ext w w':=by
 obtain rfl|rfl|rfl|rfl:k=1∨k=2∨k=3∨k=4:=by omega
 all_goals
  go_enter Tryz.func145,Tryz.ntmps145
  go_wp2
  go_returns
  exact ⟨rfl,Ext.refl _⟩
end Go.Proofs.YtdmifbfgeeldnaaGreat

namespace Go.Proofs.YtdmifbfgeeldnaaGreat
open Go.RowKit Go.Sec Go.Oct Go.Aes BigFrame
def k0:List UInt8:=[0,1,2,3,4,5,6,7,8,9,10,11,12,13,14,15]
def i0:List UInt8:=[0x00,0x11,0x22,0x33,0x44,0x55,0x66,0x77,0x88,0x99,0xaa,0xbb,0xcc,0xdd,0xee,0xff]
def o0:List UInt8:=[0x69,0xc4,0xe0,0xd8,0x6a,0x7b,0x04,0x30,0xd8,0xcd,0xb7,0x80,0x70,0xb4,0xc5,0x5a]
def s1:List UInt8:=[48,48,48,49,48,50,48,51,48,52,48,53,48,54,48,55,48,56,48,57,48,97,48,98,48,99,48,100,48,101,48,102]
def s2:List UInt8:=[48,48,49,49,50,50,51,51,52,52,53,53,54,54,55,55,56,56,57,57,97,97,98,98,99,99,100,100,101,101,102,102]
def s3:List UInt8:=[54,57,99,52,101,48,100,56,54,97,55,98,48,52,51,48,100,56,99,100,98,55,56,48,55,48,98,52,99,53,53,97]
theorem hv1:∀ k,(h:k<s1.length)→0≤Lib.indexByte digits s1[k]:=by decide +kernel
theorem hv2:∀ k,(h:k<s2.length)→0≤Lib.indexByte digits s2[k]:=by decide +kernel
end Go.Proofs.YtdmifbfgeeldnaaGreat

/- The document's SHA-256: the constants, the end, the whole. -/
namespace Go.Proofs.YtdmifbfgeeldnaaGreat
open Go.RowKit Go.Sec Go.Oct Go.Sha BigFrame
set_option maxHeartbeats 2000000 in
theorem consts_any (w:World):Calls Tryz.prog 89 #[] w fun e w'=>∃ a c,e = .returned (.slice a 64 c)∧Sw w' a 64 ks∧Ext w w':=by
 go_enter Tryz.func89,Tryz.ntmps89
 go_wp2
 go_ret
 exact ⟨_,_,rfl,⟨rfl,(Blk.new _ _ _).rd⟩,eX⟩
set_option maxHeartbeats 2000000 in
theorem first_any (w:World):Calls Tryz.prog 88 #[] w fun e w'=>∃ a c,e = .returned (.slice a 8 c)∧Sw w' a 8 h0∧Ext w w':=by
 go_enter Tryz.func88,Tryz.ntmps88
 go_wp2
 go_ret
 exact ⟨_,_,rfl,⟨rfl,(Blk.new _ _ _).rd⟩,eX⟩
theorem put_n (v:UInt64) (n:Nat) {vI nI:Int} (hv:vI=n64 v) (hn:nI=(n:Int)) (w:World)(h1:n≤64):Calls Tryz.prog 45 #[.int .u64 vI, .int .i64 nI] w (Fresh n (putL n v) w):=by
 subst hv hn
 exact put_any v n w h1
theorem count8 (count:Nat) (hc:count≤1152921504606846976):(count:Int)*8=n64 (UInt64.ofNat (count*8)):=by
 unfold n64
 rw [UInt64.toNat_ofNat']
 omega
set_option maxHeartbeats 4000000 in
theorem finish_any (a ar:Option Addr)(ch nr cr count:Nat) (h:List UInt32) (rest:List UInt8)(w:World)(Hh:Sw w a 8 h) (Hr:Sl w ar nr rest) (hn:nr≤1000000) (hc:count≤1152921504606846976) :
  Calls Tryz.prog 91 #[.slice a 8 ch, .slice ar nr cr, .int .i64 count] w (Fresh 32 (fin h rest count) w):=by
 have hc8:=Lib.hid (count8 count hc)
 go_enter Tryz.func91,Tryz.ntmps91
 go_wp2_with fail
 refine (consts_any _).mono ?_
 rintro e w1 ⟨ak,ck,rfl,Hk,hx1⟩
 go_wp2_with fail
 refine (join_any _ 1 1 [rest] _ (bss1 (Hr.ext hx1) _) (by omega) nr (by rw [joinL1,Hr.len]) (by omega)).mono ?_
 rintro e w2 ⟨a2,c2,rfl,hO2,hx2⟩
 rw [joinL1] at hO2
 have hx2':Ext w1 w2:=Ext.trans (Ext.alloc (Ext.refl _) _) hx2
 go_wp2_with (at_builtin;refine wpList_append_by U rfl _ _ rfl w1.heap.size a2 _ c2 _ rfl _ 1 1 _ rfl ((hO2.mono (by simp)).ext eX) (sl_new1 _ 128 _) (by omega) (by simp;have:=hx2'.size;omega) ?_;intro a3 c3 w3 hO3 hg3 hB3)
 have hx3:Ext w1 w3:=Below.trans (b:=w2.alloc _) (Ext.alloc hx2' _) hB3
 clear hB3 hg3
 go_loopw [8] (fun v8 wr=>∃ (m:Nat) (sa:Option Addr)(sc:Nat),m≤tailN nr∧v8 = .slice sa (nr+1+m) sc∧Own wr w1.heap.size sa (nr+1+m) sc (rest++[128]++List.replicate m 0)∧Ext w1 wr) (fun v8 _=>match v8 with | .slice _ m _=>nr+1+tailN nr-m|_=>0)
 case atStart=>exact ⟨0,a3,c3,by omega,rfl,by simpa using hO3,hx3⟩
 case round =>
  obtain ⟨m,sa,sc,hm,rfl,hO,hx⟩:=hrel
  have htl:=tailN_lt nr
  by_cases hlt:m<tailN nr
  ·have hne:=tail_go nr m hlt
   have hmod:(((nr:Int)+1+(m:Int)) % 64 != 56)=true:=by rw [bne_iff_ne];omega
   clear hne
   have htl2:=Lib.hid htl
   clear htl
   go_wp2_with (at_builtin;refine wpList_append_by U rfl _ _ rfl w1.heap.size sa _ sc _ rfl _ 1 1 _ rfl (hO.ext eX) (sl_new1 _ 0 _) (by have:=htl2.out;omega) (by simp;have:=hx.size;omega) ?_;intro sa2 sc2 w2 hO2 hg2 hB2)
   go_roundw
   case rel=>exact ⟨m+1,sa2,sc2,by omega,rfl,by rw [List.replicate_succ',← List.append_assoc];exact hO2,Below.trans (b:=wr.alloc _) eX hB2⟩
   case measure=>show _-(nr+1+m+1)<_-(nr+1+m);omega
  ·obtain ⟨q,hq⟩:∃ q,q=tailN nr:=⟨_,rfl⟩
   have hst:=tail_stop nr
   obtain rfl:m=q:=by omega
   rw [← hq] at htl hst
   have hmod:(((nr:Int)+1+(m:Int)) % 64 != 56)=false:=by rw [bne_eq_false_iff_eq];omega
   have HT:=Lib.hid (show tailB rest count=rest++[128]++List.replicate m 0++putL 8 (UInt64.ofNat (count*8)) by rw [hq,← Hr.len];rfl)
   have HL:nr+1+m+8=64*((nr+1+m+8) / 64):=by omega
   obtain ⟨nb,hnb⟩:∃ nb,nb=(nr+1+m+8) / 64:=⟨_,rfl⟩
   rw [← hnb] at HL
   have HL2:=Lib.hid HL
   have HF:=Lib.hid (show fin h rest count=outB (blocks h (tailB rest count) nb) by unfold fin;rw [tailB_length,Hr.len,← hq,hnb])
   have hnbB:nb≤1000000:=by omega
   clear hst hq HL hlt hm hnb
   go_wp2_with fail;(with_reducible refine (put_n (UInt64.ofNat (count*8)) 8 hc8.out (by omega) _ (by omega)).mono ?_);rintro e w4 ⟨a4,c4,rfl,hO4,hx4⟩
   go_wp2_with (at_builtin;refine wpList_append_by U rfl _ _ rfl w1.heap.size sa _ sc _ rfl _ 8 _ _ rfl (hO.ext hx4) hO4.sl (by omega) (by have:=hx.size;have:=hx4.size;omega) ?_;intro a5 c5 w5 hO5 hg5 hB5)
   rw [← HT.out] at hO5
   have hx5:Ext w1 w5:=Below.trans (b:=w4) (hx.trans hx4) hB5
   have hle5:=hO5.le
   rw [HL2.out] at hO5 hle5 ⊢
   obtain ⟨T,hT⟩:∃ T,T=tailB rest count:=⟨_,rfl⟩
   rw [← hT] at HF hO5
   clear HT hT HL2
   have Hh5:=Hh.ext (hx1.trans hx5)
   have Hk5:Sw w5 ak 64 ks:=Hk.ext hx5
   obtain ⟨wq,rfl⟩:∃ wq:World,wq=w5:=⟨_,rfl⟩
   go_wp2
   go_loopw [0,9] (fun v0 v9 wr=>∃ (k:Nat) (ah:Option Addr)(ch':Nat),k≤nb∧v9 = .int .i64 (64*(k:Int))∧v0 = .slice ah 8 ch'∧Sw wr ah 8 (blocks h T k)∧Ext wq wr) (fun _ v9 _=>64*nb-(intOf v9).toNat)
   case atStart=>exact ⟨0,a,ch,by omega,rfl,rfl,Hh5,Ext.refl _⟩
   case round =>
    obtain ⟨k,ah,ch',hk,rfl,rfl,Hhk,hxk⟩:=hrel
    by_cases hlt:k<nb
    ·have HB:=Lib.hid (show blocks h T (k+1)=block (blocks h T k) ((T.drop (64*k)).take 64) from rfl)
     have HS:=((hO5.ext hxk).sl.drop c5 (64*k) (by omega)).take 64 (by omega)
     go_wp2_with fail
     (with_reducible refine (rblock_any _ _ _ _ _ _ _ _ _ Hhk (Hk5.ext hxk) HS).mono ?_)
     rintro e w6 ⟨a6,c6,rfl,H6,hx6⟩
     go_wp2
     go_roundw
     case rel=>exact ⟨k+1,a6,c6,by omega,by go_num,rfl,by rw [HB.out];exact H6,hxk.trans hx6⟩
     case measure=>simp [intOf];omega
    ·obtain rfl:k=nb:=by omega
     have HO:=Lib.hid (show outB (blocks h T k)=outTo (blocks h T k) 8 from rfl)
     generalize blocks h T k=hs at *
     go_wp2
     obtain ⟨wp,rfl⟩:∃ wp:World,wp=wr:=⟨_,rfl⟩
     go_loopw [10,11] (fun v10 v11 wr=>∃ (i:Nat) (so:Option Addr)(co:Nat),i≤8∧v11 = .int .i64 i∧v10 = .slice so (4*i) co∧Own wr wp.heap.size so (4*i) co (outTo hs i)∧Ext wp wr) (fun _ v11 _=>8-(intOf v11).toNat)
     case atStart=>exact ⟨0,_,_,by omega,rfl,rfl,own_empty _,eX⟩
     case round =>
      obtain ⟨i,so,co,hi,rfl,rfl,hOo,hxo⟩:=hrel
      by_cases hlt2:i<8
      ·have HU:=Lib.hid (outTo_succ hs i)
       obtain ⟨b9,o9,rfl,hb9,hc0⟩:=(Hhk.ext hxo).at i (by omega)
       have i0:(0:Int)≤(i:Int):=by omega
       have i1:(i:Int)<8:=by omega
       obtain ⟨x,hxx⟩:∃ x,Hid (x=w' hs i):=⟨_,Lib.hid rfl⟩
       have hc9:wr.cell? ⟨b9,o9+i,none⟩=some (.int .u32 (n32 x)):=by rw [hxx.out];exact hc0
       clear hc0
       go_wp2_with fail;(with_reducible refine (put_n x.toUInt64 4 (by rfl) (by omega) _ (by omega)).mono ?_);rintro e w7 ⟨a7,c7,rfl,hO7,hx7⟩
       go_wp2_with (at_builtin;refine wpList_append_by U rfl _ _ rfl wp.heap.size so _ co _ rfl _ 4 _ _ rfl (hOo.ext hx7) hO7.sl (by omega) (by have:=hxo.size;have:=hx7.size;omega) ?_;intro a8 c8 w8 hO8 hg8 hB8)
       go_roundw
       case rel=>exact ⟨i+1,a8,c8,by omega,by go_num,rfl,by rw [HU.out,← hxx.out];exact hO8,Below.trans (b:=w7) (hxo.trans hx7) hB8⟩
       case measure=>simp [intOf];omega
      ·obtain rfl:i=8:=(by omega);(try simp only [Nat.reduceAdd,Nat.reduceMul,Nat.reduceDiv,Nat.reduceSub,Int.cast_ofNat_Int])
       go_wp2
       go_ret
       have hxa:=hx1.trans (hx5.trans (hxk.trans hxo))
       exact ⟨_,_,rfl,by rw [HF.out,HO.out];exact hOo.mono (hx1.trans (hx5.trans hxk)).size,hxa⟩
end Go.Proofs.YtdmifbfgeeldnaaGreat

/- The walks of the statements' own kit: numbers within bounds. -/
namespace Go.Proofs.YtdmifbfgeeldnaaGreat
open Go.RowKit Go.Sec Go.Oct BigFrame
theorem ret_i {k:IntKind} {a b:Int} (h:a=b):Ending.returned (.int k a) = .returned (.int k b):=by rw [h]
theorem tmod_facts (v m:Int) (hm:1≤m) : -m<v.tmod m∧v.tmod m<m∧(0≤v.tmod m→v % m=v.tmod m)∧(v.tmod m<0→v % m=v.tmod m+m):=by
 have h1:=Int.emod_nonneg v (show m≠0 by omega)
 have h2:=Int.emod_lt_of_pos v (show 0<m by omega)
 rw [Int.tmod_eq_emod]
 split
 ·omega
 ·have:(m.natAbs:Int)=m:=by omega
  rename_i h
  have h3:v % m≠0:=fun h0=>h (.inr (Int.dvd_of_emod_eq_zero h0))
  omega
set_option maxHeartbeats 2000000 in
theorem within_any (v m:Int) (w:World)(hm:1≤m) (hm2:m≤4611686018427387904) :
  Calls Tryz.prog 7 #[.int .i64 v, .int .i64 m] w fun e w'=>e = .returned (.int .i64 (v % m))∧Ext w w':=by
 have H:=Lib.hid (tmod_facts v m hm)
 have hm1:¬ m<1:=by omega
 have hm0:¬ m=0:=by omega
 have hw:IntKind.i64.wrap (v.tmod m)=v.tmod m:=by rw [IntKind.wrap_i64];have:=H.out;omega
 go_enter Tryz.func7,Tryz.ntmps7
 go_wp2
 all_goals go_returns
 ·obtain ⟨h1,h2,h3,h4⟩:=H.out
  exact ⟨ret_i (by rw [h4 ‹_›,q19q _ (by omega)]),Ext.refl _⟩
 ·obtain ⟨h1,h2,h3,h4⟩:=H.out
  exact ⟨ret_i (by rw [h3 ‹_›]),Ext.refl _⟩
end Go.Proofs.YtdmifbfgeeldnaaGreat

/- The document's SHA-256: the whole; the bytes of the statements' kit. -/
namespace Go.Proofs.YtdmifbfgeeldnaaGreat
open Go.RowKit Go.Sec Go.Oct Go.Sha BigFrame
set_option maxHeartbeats 4000000 in
theorem sum_any (a:Option Addr)(n c:Nat) (b:List UInt8)(w:World)(Hb:Sl w a n b) (hnc:n≤c) (hn:n≤1000000) :
  Calls Tryz.prog 44 #[.slice a n c] w (Fresh 32 (sha b) w):=by
 obtain ⟨nb,hnb⟩:∃ nb,nb=n / 64:=⟨_,rfl⟩
 have hlen:=Lib.hid Hb.len
 have h64:64*nb≤n:=by omega
 have hdiv:(n:Int) / 64=(nb:Int):=by omega
 have h1:nb≤1000000:=by omega
 have h2:(n:Int)-64*(nb:Int)≤63:=by omega
 have HF:=Lib.hid (show sha b=fin (blocks h0 b nb) (b.drop (64*nb)) n by unfold sha;rw [Hb.len,← hnb,Nat.mul_comm])
 have hdiv2:=Lib.hid hdiv
 clear hnb hdiv
 go_enter Tryz.func44,Tryz.ntmps44
 go_wp2_with fail
 refine (first_any _).mono ?_
 rintro e w1 ⟨ah,ch,rfl,Hh,hx1⟩
 go_wp2_with fail
 refine (consts_any _).mono ?_
 rintro e w2 ⟨ak,ck,rfl,Hk,hx2⟩
 have hdiv3:=hdiv2.out
 have hm:(nb:Int)*64=64*(nb:Int):=by omega
 go_wp2
 have Hh2:=Hh.ext hx2
 have Hb2:=Hb.ext (hx1.trans hx2)
 clear hdiv3 hm
 go_loopw [3,6] (fun v3 v6 wr=>∃ (k:Nat) (ah:Option Addr)(ch':Nat),k≤nb∧v6 = .int .i64 (64*(k:Int))∧v3 = .slice ah 8 ch'∧Sw wr ah 8 (blocks h0 b k)∧Ext w2 wr) (fun _ v6 _=>64*nb-(intOf v6).toNat)
 case atStart=>exact ⟨0,ah,ch,by omega,rfl,rfl,Hh2,Ext.refl _⟩
 case round =>
  obtain ⟨k,ah,ch',hk,rfl,rfl,Hhk,hxk⟩:=hrel
  by_cases hlt:k<nb
  ·have HB:=Lib.hid (show blocks h0 b (k+1)=block (blocks h0 b k) ((b.drop (64*k)).take 64) from rfl)
   have HS:=((Hb2.ext hxk).drop c (64*k) (by omega)).take 64 (by omega)
   go_wp2_with fail
   (with_reducible refine (rblock_any _ _ _ _ _ _ _ _ _ Hhk (Hk.ext hxk) HS).mono ?_)
   rintro e w6 ⟨a6,c6,rfl,H6,hx6⟩
   go_wp2
   go_roundw
   case rel=>exact ⟨k+1,a6,c6,by omega,by go_num,rfl,by rw [HB.out];exact H6,hxk.trans hx6⟩
   case measure=>simp [intOf];omega
  ·obtain rfl:k=nb:=by omega
   have HS:=(Hb2.ext hxk).drop c (64*k) (by omega)
   generalize blocks h0 b k=hs at *
   go_wp2_with fail;(with_reducible refine (finish_any _ _ _ _ _ _ hs _ _ Hhk HS (by omega) (by omega)).mono ?_);rintro e w7 ⟨a7,c7,rfl,hO7,hx7⟩
   go_wp2
   go_ret
   have hxa:=hx1.trans (hx2.trans hxk)
   exact ⟨_,_,rfl,by rw [HF.out];exact hO7.mono hxa.size,hxa.trans hx7⟩
set_option maxHeartbeats 4000000 in
theorem wbytes_any (s n:Nat) {sI nI:Int} (hs:sI=(s:Int)) (hn:nI=(n:Int)) (w:World)(hs2:s≤4611686018427387904) (hn2:n≤1000000) :
  Calls Tryz.prog 12 #[.int .i64 sI, .int .i64 nI] w (Fresh n (wbytes s n) w):=by
 subst hs hn
 obtain ⟨m,hm⟩:∃ m,m=(n+31) / 32:=⟨_,rfl⟩
 have HW:=Lib.hid (show wbytes s n=(wbTo s m).take n by rw [hm];rfl)
 have hm1:32*m<n+32:=by omega
 have hm2:n≤32*m:=by omega
 have hmx:max (n:Int) 0=(n:Int):=by omega
 have hsv:=Lib.hid (show (s:Int)=n64 (UInt64.ofNat s) by unfold n64;rw [UInt64.toNat_ofNat'];omega)
 clear hm
 go_enter Tryz.func12,Tryz.ntmps12
 go_wp2
 go_loopw [5,6] (fun v5 v6 wr=>∃ (k:Nat) (sa:Option Addr)(sc:Nat),k≤m∧v6 = .int .i64 k∧v5 = .slice sa (32*k) sc∧Own wr w.heap.size sa (32*k) sc (wbTo s k)∧Ext w wr) (fun _ v6 _=>m-(intOf v6).toNat)
 case atStart=>exact ⟨0,_,_,by omega,rfl,rfl,own_empty _,eX⟩
 case round =>
  obtain ⟨k,sa,sc,hk,rfl,rfl,hO,hx⟩:=hrel
  by_cases hlt:k<m
  ·have HS:=Lib.hid (wbTo_succ s k)
   have hkv:=Lib.hid (show (k:Int)=n64 (UInt64.ofNat k) by unfold n64;rw [UInt64.toNat_ofNat'];omega)
   go_wp2_with fail;(with_reducible refine (put_n (UInt64.ofNat s) 8 hsv.out (by omega) _ (by omega)).mono ?_);rintro e w1 ⟨a1,c1,rfl,hO1,hx1⟩
   go_wp2_with fail;(with_reducible refine (put_n (UInt64.ofNat k) 4 hkv.out (by omega) _ (by omega)).mono ?_);rintro e w2 ⟨a2,c2,rfl,hO2,hx2⟩
   go_wp2_with fail;(with_reducible refine (join_any _ _ _ _ _ (bss2 (hO1.sl.ext hx2) hO2.sl _) (by omega) 12 (by simp [joinL2,putL_length]) (by omega)).mono ?_);rintro e w3 ⟨a3,c3,rfl,hO3,hx3⟩
   rw [joinL2] at hO3
   have hle3:=hO3.le
   go_wp2_with fail;(with_reducible refine (sum_any _ _ _ _ _ hO3.sl hle3.1 (by omega)).mono ?_);rintro e w4 ⟨a4,c4,rfl,hO4,hx4⟩
   have hx':Ext wr w4:=Ext.trans (Ext.trans (Ext.alloc (hx1.trans hx2) _) hx3) hx4
   go_wp2_with (at_builtin;refine wpList_append_by U rfl _ _ rfl w.heap.size sa _ sc _ rfl _ 32 _ _ rfl (hO.ext hx') hO4.sl (by omega) (by have:=hx.size;have:=hx'.size;omega) ?_;intro a5 c5 w5 hO5 hg5 hB5)
   go_roundw
   case rel=>exact ⟨k+1,a5,c5,by omega,by go_num,rfl,by rw [HS.out];exact hO5,Below.trans (b:=w4) (hx.trans hx') hB5⟩
   case measure=>simp [intOf];omega
  ·obtain rfl:k=m:=by omega
   have hle:=hO.le
   go_wp2
   go_ret
   exact ⟨_,_,rfl,by rw [HW.out];exact hO.pre n hm2,hx⟩
def chg (l:List UInt8)(at' by':Int):List UInt8:=l.set (at' % (l.length:Int)).toNat (l.getD (at' % (l.length:Int)).toNat 0 ^^^ b8 (1+by' % 255))
set_option maxHeartbeats 4000000 in
theorem changed_any (a:Option Addr)(n c:Nat) (l:List UInt8)(at' by':Int) (w:World)(H:Sl w a n l) (hn:1≤n) (hn2:n≤1000000) :
  Calls Tryz.prog 14 #[.slice a n c, .int .i64 at', .int .i64 by'] w (Fresh n (chg l at' by') w):=by
 go_enter Tryz.func14,Tryz.ntmps14
 go_wp2_with fail;(with_reducible refine (join_any _ _ _ _ _ (bss1 H _) (by omega) n (by simp [joinL1,H.len]) (by omega)).mono ?_);rintro e w1 ⟨a1,c1,rfl,hO1,hx1⟩
 rw [joinL1] at hO1
 have hlt:=Int.emod_lt_of_pos at' (show (0:Int)<(n:Int) by omega)
 have hge:=Int.emod_nonneg at' (show (n:Int)≠0 by omega)
 obtain ⟨i,hi⟩:∃ i:Nat,at' % (n:Int)=(i:Int):=⟨(at' % (n:Int)).toNat,by omega⟩
 have hin:i<n:=by omega
 obtain ⟨bv,hbv⟩:∃ bv:Int,by' % 255=bv:=⟨_,rfl⟩
 have hb0:0≤bv:=by omega
 have hb1:bv<255:=by omega
 have HC:=Lib.hid (show chg l at' by'=l.set i (l.getD i 0 ^^^ b8 (1+bv)) by unfold chg;rw [H.len,hi,hbv];rfl)
 have hwr:=Lib.hid (show 1+bv=n8 (b8 (1+bv)) by rw [n8_b8];omega)
 clear hlt hge
 obtain ⟨g,rfl,hg,hgb,hcell,hfr,hset⟩:=hO1.at i hin
 have hw1:=Lib.hid (show ∀ W,Calls Tryz.prog 7 #[.int .i64 at', .int .i64 (n:Int)] W fun e w'=>e = .returned (.int .i64 (i:Int))∧Ext W w' from fun W=>by rw [← hi];exact within_any at' n W (by omega) (by omega))
 have hw2:=Lib.hid (show ∀ W,Calls Tryz.prog 7 #[.int .i64 by', .int .i64 255] W fun e w'=>e = .returned (.int .i64 bv)∧Ext W w' from fun W=>by rw [← hbv];exact within_any by' 255 W (by omega) (by omega))
 clear hi hbv
 have hin2:(i:Int)<(n:Int):=by omega
 go_wp2_with fail
 refine wp_region_vague 13 [[],[],[],[2],[1,2,3],[0,1,2,3,4],[0,1,2,3,4,5],[],[1,2,3,4,7],[1,2,3,4,7,8],[1,2,3,4,7,8,9],[0,1,2,3,4,5,6,7,8,9,10],[0,1,2,3,4,5,6,7,8,9,10,11],[0,1,2,3,4,5,6,7,8,9,10,11,12]] (by kernel_rfl) (by kernel_rfl) (by kernel_rfl) (by kernel_rfl) ?_;simp only [q8q,q9q,q10q,q11q,q12q,q13q]
 (repeat (refine VD_a ?_;(try simp only [Act.put,q0q,q1q,q2q])))
 (refine VD_vag (fun _ => .int .i64 (i:Int)) (fun _ _=>True) (fun _ _ _ _ _=>trivial) (fun us w' hx hf=>⟨rfl,?_⟩) ?_;(unfold gives;simp [go_sem,execOp];refine (hw1.out _).mono ?_;rintro e w1 ⟨rfl,hx1⟩;first|exact ⟨rfl,hx1⟩|simpa using hx1))
 (repeat (refine VD_a ?_;(try simp only [Act.put,q0q,q1q,q2q])))
 (refine VD_vag (fun _ => .int .i64 bv) (fun _ _=>True) (fun _ _ _ _ _=>trivial) (fun us w' hx hf=>⟨rfl,?_⟩) ?_;(unfold gives;simp [go_sem,execOp];refine (hw2.out _).mono ?_;rintro e w1 ⟨rfl,hx1⟩;first|exact ⟨rfl,hx1⟩|simpa using hx1))
 (repeat (refine VD_a ?_;(try simp only [Act.put,q0q,q1q,q2q])))
 (refine VD_z ?_;intro us x hx hf;(try simp only [Act.put,q0q,q1q,q2q,wpList_none]);(try simp only [q3q,q4q,or_false,forall_eq_or_imp,forall_eq,q5q,q6q,q7q,false_or,true_and,and_true] at hf);(try simp only [Nat.reduceAdd,Nat.zero_add] at hf ⊢))
 go_wp2
 go_ret
 have hv:bits .xor .u8 (n8 (l[i]?.getD 0)) (1+bv)=n8 (l.getD i 0 ^^^ b8 (1+bv)):=by
  rw [hwr.out,Go.Sec.u8_xor,← hwr.out];simp
 rw [hv]
 have hgw:w.heap.size≤g:=by simp at hg;omega
 refine ⟨_,_,rfl,?_,Ext.setCell (Ext.ext (Ext.trans (Ext.of_alloc _ _) hx1) _) hgw _⟩
 rw [HC.out]
 obtain ⟨g',he,_,_,_,_,hs⟩:=(hO1.ext (Ext.of_ext _ x)).at i hin
 injection he with he
 injection he with he
 subst he
 exact (hs _).mono (by simp)
end Go.Proofs.YtdmifbfgeeldnaaGreat

/- CipherPermutes: the walk of the law. -/
namespace Go.Proofs.YtdmifbfgeeldnaaGreat
open Go.RowKit Go.Sec Go.Oct Go.Aes Go.Sha BigFrame
theorem chg_length (l:List UInt8)(at' by':Int):(chg l at' by').length=l.length:=by simp [chg]
theorem b8_ne (by':Int):b8 (1+by' % 255)≠0:=by
 intro h
 have:=congrArg n8 h
 rw [n8_b8] at this
 have h0:n8 0=0:=rfl
 omega
theorem chg_ne (l:List UInt8)(at' by':Int) (hl:1≤l.length):chg l at' by'≠l:=by
 intro h
 have h1:=Int.emod_lt_of_pos at' (show (0:Int)<(l.length:Int) by omega)
 have h2:=Int.emod_nonneg at' (show (l.length:Int)≠0 by omega)
 have:=congrArg (fun m=>m.getD (at' % (l.length:Int)).toNat 0) h
 have hi:(at' % (l.length:Int)).toNat<l.length:=by omega
 unfold chg at this
 generalize (at' % (l.length:Int)).toNat=i at *
 simp [hi] at this
 exact b8_ne by' (by have h2:=congrArg (l[i] ^^^ ·) this;simpa [← UInt8.xor_assoc] using h2)
end Go.Proofs.YtdmifbfgeeldnaaGreat

/- The counter that follows: of the program and of the document. -/
namespace Go.Aes
def nxtFrom (l:List UInt8):Nat→List UInt8
 | 0=>l
 | k+1=>if at' l k+1=0 then nxtFrom (l.set k (at' l k+1)) k else l.set k (at' l k+1)
def nxt (l:List UInt8):List UInt8:=nxtFrom l 16
theorem nxtFrom_length (k:Nat):∀ l,(nxtFrom l k).length=l.length:=by
 induction k with
 | zero=>intro l;rfl
 | succ k ih =>
  intro l
  unfold nxtFrom
  split
  ·rw [ih];simp
  ·simp
theorem nxt_length (l:List UInt8):(nxt l).length=l.length:=nxtFrom_length _ _
end Go.Aes
namespace Go.Proofs.YtdmifbfgeeldnaaGreat
open Go.RowKit Go.Sec Go.Oct Go.Aes BigFrame
theorem wrap8_inc (x:UInt8):IntKind.u8.wrap (n8 x+1)=n8 (x+1):=by
 have:=wrap8_add x 1
 exact this
theorem _root_.z9q3{p:Prop}(h:p:=by
 obtain ⟨k,cur,hk,rfl,hO,hn,hx⟩:=hrel
 by_cases h0:0<k
 ·obtain ⟨j,rfl⟩:∃ j,k=j+1:=⟨k-1,by omega⟩
  have hj:j<16:=by omega
  obtain ⟨g,rfl,hg,hgb,hcell,hfr,_⟩:=hO.at j hj
  have hat:cur.getD j 0=at' cur j:=rfl
  rw [hat] at hcell
  have hS:=hO.put j hj (at' cur j+1)
  have hcell2:(wr.setCell ⟨g,j,none⟩ (.int .u8 (n8 (at' cur j+1)))).cell? ⟨g,j,none⟩=some (.int .u8 (n8 (at' cur j+1))):=World.cell?_setCell_same' _ _ _ (by rw [hcell];rfl)
  have hinc:=wrap8_inc (at' cur j)
  have hinc2:(n8 (at' cur j)+1) % 256=n8 (at' cur j+1):=by rw [← hinc,IntKind.wrap_u8]
  have hxs:=Ext.setCell hx (p:=⟨g,j,none⟩) hg (.int .u8 (n8 (at' cur j+1)))
  have hU:=Lib.hid (show nxtFrom cur (j+1)=if at' cur j+1=0 then nxtFrom (cur.set j (at' cur j+1)) j else cur.set j (at' cur j+1) from rfl)
  have j0:(0:Int)≤(j:Int):=by omega
  have j1:(j:Int)<16:=by omega
  generalize at' cur j+1=y at *
  clear hat hinc
  by_cases hz:y=0
  ·subst hz
   go_wp2
   go_roundw
   case rel=>exact ⟨j,cur.set j 0,by omega,by go_num,hS,Lib.hid (by rw [← hn.out,hU.out,if_pos rfl]),hxs⟩
   case measure=>simp [intOf] <;> omega
  ·have hz2:(y != 0)=true:=by simpa using hz
   go_wp2
   go_ret
   refine ⟨_,_,rfl,?_,hxs⟩
   rw [← hn.out,hU.out,if_neg hz]
   exact hS
 ·obtain rfl:k=0:=by omega
  go_wp2
  go_ret
  refine ⟨_,_,rfl,?_,hx⟩
  rw [← hn.out]
  exact hO):p:=h
set_option maxHeartbeats 2000000 in
theorem next_any (a:Option Addr)(c:Nat) (l:List UInt8)(w:World)(h:Sl w a 16 l) :
  Calls Tryz.prog 140 #[.slice a 16 c] w (Fresh 16 (nxt l) w):=by
 have hl:=h.len
 go_enter Tryz.func140,Tryz.ntmps140
 go_wp2_with fail;(with_reducible refine (clone_any _ 16 _ l _ h (by omega)).mono ?_);rintro e w1 ⟨a1,c1,rfl,hO1,hx1⟩
 go_wp2_with fail
 go_loopw [4] (fun v4 wr=>∃ (k:Nat) (cur:List UInt8),k≤16∧v4 = .int .i64 ((k:Int)-1)∧Own wr w.heap.size a1 16 c1 cur∧Hid (nxtFrom cur k=nxt l)∧Ext w wr) (fun v4 _=>(intOf v4+1).toNat)
 case atStart=>exact ⟨16,l,by omega,rfl,hO1,Lib.hid rfl,hx1⟩
 case round =>
  exact z9q3
set_option maxHeartbeats 2000000 in
theorem rnext_any (a:Option Addr)(c:Nat) (l:List UInt8)(w:World)(h:Sl w a 16 l) :
  Calls Tryz.prog 121 #[.slice a 16 c] w (Fresh 16 (nxt l) w):=by
 have hl:=h.len
 go_enter Tryz.func121,Tryz.ntmps121
 go_wp2_with fail;(with_reducible refine (join_any _ _ _ _ _ (bss1 h _) (by omega) 16 (by simp [joinL1,hl]) (by omega)).mono ?_);rintro e w1 ⟨a1,c1,rfl,hO1,hx1⟩
 rw [joinL1] at hO1
 have hO1:=hO1.mono (base':=w.heap.size) (by simp)
 have hx1:Ext w w1:=Ext.trans (Ext.of_alloc _ _) hx1
 go_wp2_with fail
 go_loopw [4] (fun v4 wr=>∃ (k:Nat) (cur:List UInt8),k≤16∧v4 = .int .i64 ((k:Int)-1)∧Own wr w.heap.size a1 16 c1 cur∧Hid (nxtFrom cur k=nxt l)∧Ext w wr) (fun v4 _=>(intOf v4+1).toNat)
 case atStart=>exact ⟨16,l,by omega,rfl,hO1,Lib.hid rfl,hx1⟩
 case round =>
  exact z9q3
end Go.Proofs.YtdmifbfgeeldnaaGreat

/- The walks of Put and Get. -/
namespace Go.Sec
open Go.RowKit Go.Oct
section words
variable (x y:UInt64)
theorem bv64:(BitVec.ofInt 64 (n64 x))=x.toBitVec:=by unfold n64;rw [BitVec.ofInt_natCast];exact BitVec.eq_of_toNat_eq (by simp)
theorem w64 (b:BitVec 64):IntKind.u64.wrap (b.toNat:Int)=(b.toNat:Int):=by
 have:=b.isLt
 rw [IntKind.wrap_u64];omega
@[go_sem] theorem u64_or:bits .or .u64 (n64 x) (n64 y)=n64 (x ||| y):=by
 show IntKind.u64.wrap ((BitVec.ofInt 64 (n64 x) ||| BitVec.ofInt 64 (n64 y)).toNat:Int)=_
 rw [bv64,bv64,w64];rfl
@[go_sem] theorem u64_wrap:IntKind.u64.wrap (n64 x)=n64 x:=w64 x.toBitVec
@[go_sem] theorem wrap64_n8 (b:UInt8):IntKind.u64.wrap (n8 b)=n64 b.toUInt64:=by
 have:=b.toNat_lt
 unfold n8 n64;rw [IntKind.wrap_u64,UInt8.toNat_toUInt64];omega
@[go_sem ↓ high] theorem shl64_lit (yk:IntKind) (k:Nat) (hk:k<64):Op.shift .shl .u64 (n64 x) yk (no_index (OfNat.ofNat k))=pure (u64v (x <<< OfNat.ofNat k)):=by
 rw [shift_shl_any _ _ _ _ (by exact Int.natCast_nonneg k)]
 have e:(x <<< (OfNat.ofNat k:UInt64)).toNat=x.toNat*2 ^ k % 18446744073709551616:=by
  show (x <<< UInt64.ofNat k).toNat=_
  rw [UInt64.toNat_shiftLeft,UInt64.toNat_ofNat',Nat.mod_eq_of_lt (show k<2 ^ 64 by omega),Nat.mod_eq_of_lt hk,Nat.shiftLeft_eq]
 unfold u64v n64
 rw [e,IntKind.wrap_u64]
 have h2:min ((OfNat.ofNat k:Int)).toNat IntKind.u64.bits=k:=by
  show min ((k:Int)).toNat 64=k
  rw [Int.toNat_natCast];omega
 rw [h2]
 congr 2
end words
end Go.Sec
namespace Go.Oct
theorem getL_take (l:List UInt8)(k:Nat) (h:k<l.length):getL (l.take (k+1))=(getL (l.take k) <<< 8) ||| (l.getD k 0).toUInt64:=by
 unfold getL
 rw [List.take_succ_eq_append_getElem h,List.foldl_append]
 simp [getS,h]
theorem put_rest (k:Nat) (l p:List UInt8)(h:putL k 0++l.drop k=p) (hz:l.take k=List.replicate k 0):l=p:=by
 rw [← h,putL_zero,← hz,List.take_append_drop]
end Go.Oct
namespace Go.Proofs.YtdmifbfgeeldnaaGreat
open Go.RowKit Go.Sec Go.Oct Go.Sha BigFrame
set_option maxHeartbeats 2000000 in
theorem oput_any (v:UInt64) (n:Nat) {vI nI:Int} (hv:vI=n64 v) (hn:nI=(n:Int)) (w:World)(h1:n≤64) :
  Calls Tryz.prog 106 #[.int .u64 vI, .int .i64 nI] w (Fresh n (putL n v) w):=by
 subst hv hn
 have hmk:=run_make_by U n n (Nat.le_refl _) (by omega)
 have hn64:¬ (64:Int)<(n:Int):=by omega
 go_enter Tryz.func106,Tryz.ntmps106
 go_wp2
 go_loopw [0,6] (fun v0 v6 wr=>∃ (k:Nat) (u:UInt64) (l:List UInt8),k≤n∧v6 = .int .i64 ((k:Int)-1)∧v0=u64v u∧Hid (l.length=n)∧Hid (putL k u++l.drop k=putL n v)∧Hid (l.take k=List.replicate k 0)∧Blk wr w.heap.size 5 (l.map u8v)∧Ext w wr) (fun _ v6 _=>(intOf v6+1).toNat)
 case atStart=>exact ⟨n,v,List.replicate n 0,Nat.le_refl _,rfl,rfl,Lib.hid (by simp),Lib.hid (by simp),Lib.hid (by simp),blk_zeros8 _ _,eX⟩
 case round =>
  obtain ⟨k,u,l,hk,rfl,rfl,hl,hp,hz,hB,hx⟩:=hrel
  have hO:=fun (hp':l=putL n v)=>hB.own (Nat.le_refl _) n (by simp [hl.out]) (by simp [hl.out,maxLen];omega)
  have fin:∀ (hp':l=putL n v),Fresh n (putL n v) w (.returned (.slice (some ⟨w.heap.size,0,none⟩) n n)) wr:=by
   intro hp'
   have hO:=hO hp'
   subst hp'
   refine ⟨_,_,rfl,⟨putL_length _ _,?_⟩,hx⟩
   rw [List.take_of_length_le (by simp [putL_length])] at hO
   simpa [putL_length] using hO
  clear hO
  by_cases h0:0<k
  ·by_cases hu:0<n64 u
   ·obtain ⟨j,rfl⟩:∃ j,k=j+1:=⟨k-1,by omega⟩
    have hjl:j<l.length:=by rw [hl.out];omega
    have hc:=hB.cell j (by simpa using hjl)
    have hf:=hB.free j
    haveI:=hB.blt
    clear fin
    go_wp2
    go_roundw
    case rel =>
     refine ⟨j,u >>> 8,l.set j u.toUInt8,by omega,by go_num,rfl,Lib.hid (by rw [List.length_set];exact hl.out),Lib.hid (put_step _ _ _ _ hjl hp.out),Lib.hid ?_,?_,Ext.setCell hx (by simp) _⟩
     ·rw [List.take_set_of_le (Nat.le_refl _)]
      have:=congrArg (fun l=>l.take j) hz.out
      simpa [List.take_take] using this
     ·have:=hB.set j (u8v u.toUInt8)
      rwa [← List.map_set] at this
    case measure=>simp [intOf] <;> omega
   ·have hu0:u=0:=by
     apply n64_inj.1
     have:=n64_ge u
     show n64 u=0
     omega
    have hF:=fin (put_rest k l _ (by rw [← hu0];exact hp.out) hz.out)
    clear fin hu0
    go_wp2
    go_ret
    exact hF
  ·obtain rfl:k=0:=by omega
   have hF:=fin (by have:=hp.out;simpa [putL] using this)
   clear fin
   go_wp2
   go_ret
   exact hF
theorem _root_.z9q19{p:Prop}(h:p:=by
 obtain ⟨k,hk,rfl,rfl,rfl⟩:=hrel
 by_cases hlt:k<n
 ·obtain ⟨b0,o0,rfl,hb0,hcell⟩:=h.atD k hlt
  have hkl:k<l.length:=by omega
  have HG:=Lib.hid (getL_take l k hkl)
  generalize getL (l.take k)=g at *
  go_wp2
  go_roundw
  case rel=>exact ⟨k+1,by omega,by go_num,by rw [HG.out];simp [hkl],trivial⟩
  case measure=>simp [intOf];omega
 ·obtain rfl:k=n:=by omega
  rw [List.take_of_length_le (by omega)]
  go_wp2
  go_ret
  exact ⟨rfl,Ext.refl _⟩):p:=h
set_option maxHeartbeats 2000000 in
theorem oget_any (a:Option Addr)(n c:Nat) (l:List UInt8)(w:World)(h:Sl w a n l) (hc:n≤c) (hn:n≤8) :
  Calls Tryz.prog 93 #[.slice a n c] w fun e w'=>e = .returned (.int .u64 (n64 (getL l)))∧Ext w w':=by
 have hl:=h.len
 have hmx:max (0:Int) ((n:Int)-8)=0:=by omega
 go_enter Tryz.func93,Tryz.ntmps93
 go_wp2
 go_loopw [3,5,13] (fun v3 _ v13 wr=>∃ k:Nat,k≤n∧v13 = .int .i64 k∧v3=u64v (getL (l.take k))∧wr=w) (fun _ _ v13 _=>n-(intOf v13).toNat)
 case atStart=>exact ⟨0,Nat.zero_le _,rfl,rfl,rfl⟩
 case round =>
  exact z9q19
set_option maxHeartbeats 2000000 in
theorem rget_any (a:Option Addr)(n c:Nat) (l:List UInt8)(w:World)(h:Sl w a n l) (hn:n≤1000000) :
  Calls Tryz.prog 100 #[.slice a n c] w fun e w'=>e = .returned (.int .u64 (n64 (getL l)))∧Ext w w':=by
 have hl:=h.len
 go_enter Tryz.func100,Tryz.ntmps100
 go_wp2
 go_loopw [3,4] (fun v3 v4 wr=>∃ k:Nat,k≤n∧v4 = .int .i64 k∧v3=u64v (getL (l.take k))∧wr=w) (fun _ v4 _=>n-(intOf v4).toNat)
 case atStart=>exact ⟨0,Nat.zero_le _,rfl,rfl,rfl⟩
 case round =>
  exact z9q19
end Go.Proofs.YtdmifbfgeeldnaaGreat

/- sectimeworld.Few. -/
namespace Go.Proofs.YtdmifbfgeeldnaaGreat
open Go.RowKit Go.Sec Go.Oct Go.Sha BigFrame
theorem nmod (v:Int) (m:Nat) (hm:0<m):∃ s:Nat,s<m∧v % (m:Int)=(s:Int) :=
 ⟨(v % (m:Int)).toNat,by have:=Int.emod_nonneg v (show (m:Int)≠0 by omega);have:=Int.emod_lt_of_pos v (show 0<(m:Int) by omega);omega,by have:=Int.emod_nonneg v (show (m:Int)≠0 by omega);omega⟩
end Go.Proofs.YtdmifbfgeeldnaaGreat
