/- Lemmas of this claim, several texts joined. -/
import Derived.Test.YtdmifbfgeeldnaaGreatZ4
import Derived.Test.YtdmifbfgeeldnaaGreatZ5
import Derived.Test.YtdmifbfgeeldnaaGreatZ6
import Derived.Test.YtdmifbfgeeldnaaGreatZ8
import Derived.Test.YtdmifbfgeeldnaaGreatZ9
import Derived.Test.YtdmifbfgeeldnaaGreatZ10
import Derived.Test.YtdmifbfgeeldnaaGreatZ19
import Derived.Test.YtdmifbfgeeldnaaGreatZ24
import Derived.Test.YtdmifbfgeeldnaaGreatZ25
import Derived.Test.YtdmifbfgeeldnaaGreatZ26
import Derived.Test.YtdmifbfgeeldnaaGreatZ27
import Derived.Test.YtdmifbfgeeldnaaGreatZ31
set_option maxRecDepth 100000
open List renaming setIfInBounds_toArray → q0q, set_cons_succ → q1q, set_cons_zero → q2q, mem_cons → q3q, not_mem_nil → q4q, nil_append → q5q, cons_append → q6q, mem_append → q7q, take_succ_cons → q8q, take_zero → q9q, drop_succ_cons → q10q, drop_zero → q11q, take_nil → q12q, drop_nil → q13q
set_option linter.unusedVariables false
set_option linter.unusedSimpArgs false
/- The walks of layer 17: size, Size, Find. -/
namespace Go.Proofs.YtdmifbfgeeldnaaGreat
open Go.RowKit Go.Sec Go.Oct Go.Pkt BigFrame
theorem RF2:RowT Tryz.prog 66 2:=⟨⟨_,Tryz.underlying66,rfl⟩,by kernel_rfl,⟨_,Tryz.zeroValue66,by kernel_rfl⟩⟩
theorem xsize_any (n:Nat) {nI:Int} (hn:nI=(n:Int)) (w:World)(h:n≤1000000000) :
  Calls Tryz.prog 128 #[.int .i64 nI] w fun e w'=>e = .returned (.int .i64 (szN n:Nat))∧Ext w w':=by
 subst hn
 have e:max (16:Int) ((4+(n:Int)+4-1) / 4*4)=(szN n:Nat):=by unfold szN;omega
 go_enter Tryz.func128,Tryz.ntmps128
 go_wp2
 go_ret
 exact ⟨by rw [← e];rfl,eX⟩
theorem xSize_any (f:Fld) (a:Option Addr)(c:Nat) (w:World)(h:f.2.length≤1000000000) :
  Calls Tryz.prog 105 #[.agg #[.int .i64 f.1, .slice a f.2.length c]] w fun e w'=>e = .returned (.tuple #[.int .i64 (sizE f).1, .int .i64 (sizE f).2])∧Ext w w':=by
 obtain ⟨t,l⟩:=f
 simp only at h ⊢
 have hs:=fun W=>xsize_any l.length rfl W h
 by_cases h1:t<0
 ·have er:=Lib.hid (show sizE (t,l)=(0,4) by unfold sizE;rw [if_pos (.inl h1)])
  go_enter Tryz.func105,Tryz.ntmps105
  go_wp2_with fail
  go_ret2
  exact ⟨by rw [er.out];rfl,eX⟩
 ·by_cases h2:65535<t
  ·have er:=Lib.hid (show sizE (t,l)=(0,4) by unfold sizE;rw [if_pos (.inr h2)])
   go_enter Tryz.func105,Tryz.ntmps105
   go_wp2_with fail
   go_ret2
   exact ⟨by rw [er.out];rfl,eX⟩
  ·by_cases h3:1232<szN l.length
   ·have er:=Lib.hid (show sizE (t,l)=(0,2) by unfold sizE;rw [if_neg (by simp;omega),if_pos h3])
    have i3:(1232:Int)<((szN l.length:Nat):Int):=by omega
    generalize szN l.length=z at *
    go_enter Tryz.func105,Tryz.ntmps105
    go_wp2_with (first
     | (go_at_call 128;refine (hs _).mono ?_;rintro e w1 ⟨rfl,hxq⟩;obtain ⟨xq,rfl⟩:=hxq.out;clear hxq)
     | fail)
    go_ret2
    exact ⟨by rw [er.out];rfl,eX⟩
   ·have er:=Lib.hid (show sizE (t,l)=(((szN l.length:Nat):Int),0) by unfold sizE;rw [if_neg (by simp;omega),if_neg h3])
    have i3:¬ (1232:Int)<((szN l.length:Nat):Int):=by omega
    generalize szN l.length=z at *
    go_enter Tryz.func105,Tryz.ntmps105
    go_wp2_with (first
     | (go_at_call 128;refine (hs _).mono ?_;rintro e w1 ⟨rfl,hxq⟩;obtain ⟨xq,rfl⟩:=hxq.out;clear hxq)
     | fail)
    go_ret2
    exact ⟨by rw [er.out];rfl,eX⟩
end Go.Proofs.YtdmifbfgeeldnaaGreat

/- The walks of layer 17: Find, the first field of a type. -/
namespace Go.Pkt
open Go.Sec Go.RowKit
theorem rd2 {w:World} {b o:Nat} {v u:Value} (hb:b<w.heap.size) (h1:w.cell? ⟨b,o,none⟩=some v) (h2:w.cell? ⟨b,o+1,none⟩=some u):Rd w (some ⟨b,o,none⟩) [v,u] :=
 .inr ⟨b,o,rfl,hb,fun k x hk=>by
  match k,hk with
  | 0,hk=>simp at hk;subst hk;exact h1
  | 1,hk=>simp at hk;subst hk;exact h2⟩
theorem getD_at {L:List Fld} {k:Nat} {x:Fld} (h:L[k]?=some x):L.getD k (0,[])=x:=by rw [List.getD_eq_getElem?_getD,h];rfl
end Go.Pkt
namespace Go.Proofs.YtdmifbfgeeldnaaGreat
open Go.RowKit Go.Sec Go.Oct Go.Pkt BigFrame
theorem pauth1_any (t:Int) (g:Option Addr)(m c:Nat) (w:World) :
  Calls Tryz.prog 47 #[.agg #[.int .i64 t, .slice g m c]] w fun e w'=>e = .returned (.bool (t == 1028))∧Ext w w':=by
 go_enter Tryz.func47,Tryz.ntmps47
 go_wp2
 go_ret
 exact ⟨rfl,eX⟩
def firstZ (k:Int) (L:List Fld):Int:=match firstI k L with|none => -1|some i=>i
set_option maxHeartbeats 4000000 in
theorem xfirst_any (a:Option Addr)(n c:Nat) (L:List Fld) (w:World)(hI:Ib w a n L) (hn:n≤1000000) :
  Calls Tryz.prog 46 #[.slice a n c, .func (.func 47) #[] #[]] w fun e w'=>e = .returned (.int .i64 (firstZ 1028 L))∧Ext w w':=by
 have hl:=hI.len
 go_enter Tryz.func46,Tryz.ntmps46
 go_wp2_with fail
 go_loopw [5,8] (fun _ v8 wr=>∃ i:Nat,i≤n∧v8 = .int .i64 i∧Hid (ixs 1028 L i=[])∧Ext w wr) (fun _ v8 _=>n-(intOf v8).toNat)
 case atStart=>exact ⟨0,by omega,rfl,Lib.hid rfl,Ext.refl _⟩
 case round =>
  obtain ⟨i,hi,rfl,hm,hx⟩:=hrel
  by_cases hlt:i<n
  ·obtain ⟨x,hxi⟩:∃ x,L[i]?=some x:=⟨_,List.getElem?_eq_getElem (by omega)⟩
   obtain ⟨b0,o0,g',c',rfl,hb0,hc0,hc1,hSk,hck⟩:=(hI.ext hx).at i hlt _ hxi
   have hrd:=rd2 hb0.lt hc0 hc1
   have i0:(0:Int)≤(i:Int):=by omega
   have i1:(i:Int)<(n:Int):=by omega
   have hat:=Lib.hid (getD_at hxi)
   have hlL:=Lib.hid (show i<L.length by omega)
   haveI:=hb0
   go_wp2_with (first
    | (refine wpList_load_arr (RF2) rfl _ rfl (b0) (o0+i*2) rfl ([.int .i64 x.1, .slice g' x.2.length c']) (hrd) (rfl) ?_)
    | fail)
   (with_reducible refine (pauth1_any _ _ _ _ _).mono ?_);rintro e w1 ⟨rfl,hx1⟩
   by_cases hid:x.1=1028
   ·have hb:(x.1 == 1028)=true:=by simpa using hid
    have HR:=Lib.hid (show firstZ 1028 L=(i:Int) by unfold firstZ;rw [firstI_some hlL.out hm.out (by rw [hat.out];exact hid)])
    clear hid
    go_wp2_with fail
    go_ret
    exact ⟨by rw [HR.out];rfl,hx.trans hx1⟩
   ·have hb:(x.1 == 1028)=false:=by simpa using hid
    have hm2:=Lib.hid (show ixs 1028 L (i+1)=[] by rw [ixs_no (by rw [hat.out];exact hid)];exact hm.out)
    clear hid
    go_wp2_with fail
    go_roundw
    case rel=>exact ⟨i+1,by omega,by go_num,hm2,hx.trans hx1⟩
    case measure=>simp [intOf];omega
  ·obtain rfl:i=n:=by omega
   have HR:=Lib.hid (show firstZ 1028 L = -1 by unfold firstZ;rw [firstI_none (by rw [hl];exact hm.out)])
   go_wp2_with fail
   go_ret
   exact ⟨by rw [HR.out];rfl,hx⟩
theorem infoI:(Tryz.prog.info? 3).map (fun i=>(i.zero,i.size,i.bytes))=some (some (.int .i64 0),1,8):=by kernel_rfl
def OwnZ (w:World)(base:Nat) (a:Option Addr)(n c:Nat) (l:List Nat):Prop:=l.length=n∧w.ownsRow base 3 1 (.slice a n c) n (l.map fun i:Nat=>Value.int .i64 i)
def NatsOut (l:List Nat) (w:World)(e:Ending) (w':World):Prop:=∃ a c,e = .returned (.slice a l.length c)∧OwnZ w' w.heap.size a l.length c l∧Ext w w'
set_option maxHeartbeats 4000000 in
theorem xfind_any (k:Int) (a:Option Addr)(n c:Nat) (L:List Fld) (w:World)(hI:Ib w a n L) (hn:n≤1000000) :
  Calls Tryz.prog 61 #[.slice a n c, .int .i64 k] w (NatsOut (ixs k L L.length) w):=by
 have hl:=hI.len
 obtain ⟨iI,hi1,hi2,hi3,hi4⟩:=info_parts infoI
 rw [hl]
 go_enter Tryz.func61,Tryz.ntmps61
 go_wp2_with fail
 go_loopw [5,6,7,10] (fun v5 _ _ v10 wr=>∃ (i:Nat) (sa:Option Addr)(sc:Nat),i≤n∧v10 = .int .i64 i∧v5 = .slice sa (ixs k L i).length sc∧OwnZ wr w.heap.size sa (ixs k L i).length sc (ixs k L i)∧Ext w wr) (fun _ _ _ v10 _=>n-(intOf v10).toNat)
 case atStart=>exact ⟨0,none,0,by omega,rfl,rfl,⟨rfl,World.ownsRow_nil _ _ _ _⟩,Ext.refl _⟩
 case round =>
  obtain ⟨i,sa,sc,hi,rfl,rfl,hO,hx⟩:=hrel
  by_cases hlt:i<n
  ·obtain ⟨x,hxi⟩:∃ x,L[i]?=some x:=⟨_,List.getElem?_eq_getElem (by omega)⟩
   obtain ⟨b0,o0,g',c',rfl,hb0,hc0,hc1,hSk,hck⟩:=(hI.ext hx).at i hlt _ hxi
   have hrd:=rd2 hb0.lt hc0 hc1
   have i0:(0:Int)≤(i:Int):=by omega
   have i1:(i:Int)<(n:Int):=by omega
   have hat:=Lib.hid (getD_at hxi)
   have hil:=ixs_length k L i
   haveI:=hb0
   by_cases hid:x.1=k
   ·have hb:(x.1 == k)=true:=by simpa using hid
    have hy:=Lib.hid (show ixs k L (i+1)=ixs k L i++[i] from ixs_yes (by rw [hat.out];exact hid))
    clear hid
    go_wp2_with (first
     | (refine wpList_load_arr (RF2) rfl _ rfl (b0) (o0+i*2) rfl ([.int .i64 x.1, .slice g' x.2.length c']) (hrd) (rfl) ?_)
     | (at_builtin;refine wpList_append_new rfl _ _ 76 rfl w.heap.size 3 iI (.int .i64 0) 1 8 Tryz.underlying76 hi1 hi2 hi3 hi4 rfl (by decide) _ _ _ (own_ext hO.2 eX) 1 1 rfl (by simp [go_sem]) rfl (by simp [Value.oneCell']) (by unfold maxLen;omega) (by omega) (Below.size (B:=w.heap.size) eX) ?_;intro sa2 sc2 w2 hO2 hB2)
     | fail)
    go_roundw
    case rel=>exact ⟨i+1,sa2,sc2,by omega,by go_num,by rw [hy.out,List.length_append];rfl,by rw [hy.out];exact ⟨by simp,by simpa using hO2⟩,Below.trans (hx.trans eX) hB2⟩
    case measure=>simp [intOf];omega
   ·have hb:(x.1 == k)=false:=by simpa using hid
    have hy:=Lib.hid (show ixs k L (i+1)=ixs k L i from ixs_no (by rw [hat.out];exact hid))
    clear hid
    go_wp2_with (first
     | (refine wpList_load_arr (RF2) rfl _ rfl (b0) (o0+i*2) rfl ([.int .i64 x.1, .slice g' x.2.length c']) (hrd) (rfl) ?_)
     | fail)
    go_roundw
    case rel=>exact ⟨i+1,sa,sc,by omega,by go_num,by rw [hy.out],by rw [hy.out];exact ⟨hO.1,own_ext hO.2 eX⟩,hx.trans eX⟩
    case measure=>simp [intOf];omega
  ·obtain rfl:i=n:=by omega
   go_wp2_with fail
   go_ret
   exact ⟨sa,sc,rfl,hO,hx⟩
end Go.Proofs.YtdmifbfgeeldnaaGreat

/- The walks of layer 22: cookie, has, paired. -/
namespace Go.Proofs.YtdmifbfgeeldnaaGreat
open Go.RowKit Go.Sec Go.Oct BigFrame
theorem jcookie_any (a:Option Addr)(n c:Nat) (l:List UInt8)(w:World)(h:Sl w a n l) :
  Calls Tryz.prog 72 #[.slice a n c] w fun e w'=>e = .returned (.bool (decide (l.length=104)))∧Ext w w':=by
 have hl:=h.len
 by_cases hn:n=104
 ·have hI:((n:Int) == 104)=true:=by rw [beq_iff_eq];omega
  have e:=Lib.hid (show decide (l.length=104)=true by simp;omega)
  clear hl hn
  go_enter Tryz.func72,Tryz.ntmps72
  go_wp2
  go_ret
  exact ⟨by rw [e.out];rfl,Ext.refl _⟩
 ·have hI:((n:Int) == 104)=false:=by rw [beq_eq_false_iff_ne];omega
  have e:=Lib.hid (show decide (l.length=104)=false by simp;omega)
  clear hl hn
  go_enter Tryz.func72,Tryz.ntmps72
  go_wp2
  go_ret
  exact ⟨by rw [e.out];rfl,Ext.refl _⟩
theorem has1_any (a b:Option Addr)(n c m d g:Nat) (l k:List UInt8)(w:World)(h:Sl w a n l) (hB:Blk w g 33 [.slice b m d]) (hk:Sl w b m k) :
  Calls Tryz.prog 117 #[.slice a n c, .pointer (some ⟨g,0,none⟩)] w fun e w'=>e = .returned (.bool (l == k))∧Ext w w':=by
 haveI:=hB.blt
 have f0:=hB.cell? 0 rfl
 have hs:=fun W H1 H2=>osame_any a b n c m d l k W H1 H2
 go_enter Tryz.func117,Tryz.ntmps117
 go_wp2_with (first
  | (go_at_call 71;refine (hs _ (h.ext eX) (hk.ext eX)).mono ?_;rintro e w1 ⟨rfl,hxq⟩;obtain ⟨xq,rfl⟩:=hxq.out;clear hxq)
  | fail)
 go_ret
 exact ⟨rfl,eX⟩
def IdxHas (L:List (List UInt8)) (k:List UInt8)(w:World)(e:Ending) (w':World):Prop:=∃ r:Int,e = .returned (.int .i64 r)∧(0≤r ↔ k∈L)∧Ext w w'
theorem _root_.z28q62{p:Prop}(h:p:=by
 go_wp2_with fail
 go_roundw
 case rel=>exact ⟨i+1,by omega,by go_num,hm2,hx.trans hx1⟩
 case measure=>simp [intOf];omega):p:=h
set_option maxHeartbeats 4000000 in
theorem indexHas_any (a b:Option Addr)(n c m d g:Nat) (L:List (List UInt8)) (k:List UInt8)(w:World)(h:Bsc w a n L) (hn:n≤1000000) (hB:Blk w g 33 [.slice b m d]) (hk:Sl w b m k) :
  Calls Tryz.prog 131 #[.slice a n c, .func (.func 117) #[] #[.pointer (some ⟨g,0,none⟩)]] w (IdxHas L k w):=by
 have hl:=h.len
 have ho:=fun a' n' c' x W H1 H2 H3=>has1_any a' b n' c' m d g x k W H1 H2 H3
 go_enter Tryz.func131,Tryz.ntmps131
 go_wp2_with fail
 go_loopw [8] (fun v8 wr=>∃ i:Nat,i≤n∧v8 = .int .i64 i∧Hid (k ∉ L.take i)∧Ext w wr) (fun v8 _=>n-(intOf v8).toNat)
 case atStart=>exact ⟨0,by omega,rfl,Lib.hid (by simp),Ext.refl _⟩
 case round =>
  obtain ⟨i,hi,rfl,hm,hx⟩:=hrel
  by_cases hlt:i<n
  ·obtain ⟨b0,o0,a',n',c',rfl,hb0,hcell,hc',hS⟩:=(h.ext hx).at i hlt
   have i0:(0:Int)≤(i:Int):=by omega
   have i1:(i:Int)<(n:Int):=by omega
   have hiL:i<L.length:=by omega
   have hts:=Lib.hid (show L.take (i+1)=L.take i++[L[i]] from List.take_succ_eq_append_getElem hiL)
   have hmem:=List.getElem_mem hiL
   generalize L[i]=X at *
   haveI:=hb0
   go_wp2_with fail
   (with_reducible refine (ho _ _ _ _ _ hS (hB.extB hx) (hk.ext hx)).mono ?_);rintro e w1 ⟨rfl,hx1⟩
   cases hb:(X == k)
   ·have hm2:=Lib.hid (show k ∉ L.take (i+1) by
     rw [hts.out]
     intro hh
     rcases List.mem_append.1 hh with h|h
     ·exact hm.out h
     ·rw [← List.mem_singleton.1 h] at hb;simp at hb)
    clear hb
    exact z28q62
   ·have hm2:=Lib.hid (show k∈L by rw [← eq_of_beq hb];exact hmem)
    clear hb
    go_wp2_with fail
    go_ret
    exact ⟨i,rfl,by simp [hm2.out],hx.trans hx1⟩
  ·obtain rfl:i=n:=by omega
   have hlo:=Lib.hid (show k ∉ L by have:=hm.out;rwa [List.take_of_length_le (by omega)] at this)
   go_wp2_with fail
   go_ret
   exact ⟨-1,rfl,by simp [hlo.out],hx⟩
theorem containsHas_any (a b:Option Addr)(n c m d g:Nat) (L:List (List UInt8)) (k:List UInt8)(w:World)(h:Bsc w a n L) (hn:n≤1000000) (hB:Blk w g 33 [.slice b m d]) (hk:Sl w b m k) :
  Calls Tryz.prog 116 #[.slice a n c, .func (.func 117) #[] #[.pointer (some ⟨g,0,none⟩)]] w fun e w'=>e = .returned (.bool (decide (k∈L)))∧Ext w w':=by
 go_enter Tryz.func116,Tryz.ntmps116
 go_wp2_with fail
 refine (indexHas_any _ _ _ _ _ _ _ _ _ _ h hn hB hk).mono ?_;rintro e w1 ⟨r,rfl,hr,hx1⟩
 have hd:=Lib.hid (show decide (0≤r)=decide (k∈L) by rw [decide_eq_decide];exact hr)
 clear hr
 go_wp2_with fail
 go_ret
 exact ⟨by rw [← hd.out];rfl,hx1⟩
theorem has_any (a b:Option Addr)(n c m d:Nat) (L:List (List UInt8)) (k:List UInt8)(w:World)(h:Bsc w a n L) (hn:n≤1000000) (hk:Sl w b m k) :
  Calls Tryz.prog 79 #[.slice a n c, .slice b m d] w fun e w'=>e = .returned (.bool (decide (k∈L)))∧Ext w w':=by
 have hc:=fun W g H1 H2 H3=>containsHas_any a b n c m d g L k W H1 hn H2 H3
 go_enter Tryz.func79,Tryz.ntmps79
 go_wp2_with fail
 have hx:=Ext.of_alloc w (.cells #[.slice b m d] 33)
 (with_reducible refine (hc _ _ (h.ext hx) (Blk.new w #[.slice b m d] 33) (hk.ext hx)).mono ?_)
 rintro e w1 ⟨rfl,hx1⟩
 go_wp2
 go_ret
 exact ⟨rfl,hx.trans hx1⟩
theorem paired_any (a b:Option Addr)(n c m d:Nat) (u v:List UInt8)(w:World)(h1:Sl w a n u) (h2:Sl w b m v) :
  Calls Tryz.prog 78 #[.agg #[.slice a n c, .slice b m d]] w fun e w'=>e = .returned (.bool (decide (u.length=32∧v.length=32)))∧Ext w w':=by
 have hl1:=h1.len
 have hl2:=h2.len
 by_cases hn:n=32
 ·have i1:((n:Int) == 32)=true:=by rw [beq_iff_eq];omega
  by_cases hm:m=32
  ·have i2:((m:Int) == 32)=true:=by rw [beq_iff_eq];omega
   have e:=Lib.hid (show decide (u.length=32∧v.length=32)=true by simp;omega)
   clear hl1 hl2 hn hm
   go_enter Tryz.func78,Tryz.ntmps78
   go_wp2
   go_ret
   exact ⟨by rw [e.out];rfl,eX⟩
  ·have i2:((m:Int) == 32)=false:=by rw [beq_eq_false_iff_ne];omega
   have e:=Lib.hid (show decide (u.length=32∧v.length=32)=false by simp;omega)
   clear hl1 hl2 hn hm
   go_enter Tryz.func78,Tryz.ntmps78
   go_wp2
   go_ret
   exact ⟨by rw [e.out];rfl,eX⟩
 ·have i1:((n:Int) == 32)=false:=by rw [beq_eq_false_iff_ne];omega
  have e:=Lib.hid (show decide (u.length=32∧v.length=32)=false by simp;omega)
  clear hl1 hl2 hn
  go_enter Tryz.func78,Tryz.ntmps78
  go_wp2
  go_ret
  exact ⟨by rw [e.out];rfl,eX⟩
end Go.Proofs.YtdmifbfgeeldnaaGreat

/- The walks of layer 22: copied, Valid. -/
namespace Go.Jar
structure Jar where
 up:List UInt8
 dn:List UInt8
 ck:List (List UInt8)
 last:List UInt8
 net:Int
 sent:Int
deriving DecidableEq
def zeroJ:Jar:=⟨[],[],[],[],0,0⟩
def headJ (j:Jar):Prop:=(j.up.length=32∧j.dn.length=32)∧j.ck.length≤8∧(j.last.length=0∨j.last.length=104)∧j.last ∉ j.ck∧0≤j.net∧0≤j.sent∧j.sent≤1099511627776
instance (j:Jar):Decidable (headJ j):=by unfold headJ;infer_instance
def validJ (j:Jar):Bool:=decide (headJ j) && (j.ck.all (fun b=>decide (b.length=104)) && decide j.ck.Nodup)
theorem validJ_head {j:Jar} (h:¬ headJ j):validJ j=false:=by unfold validJ;rw [decide_eq_false h];rfl
theorem validJ_bad {j:Jar} {k:Nat} (hk:k<j.ck.length) (h:(j.ck[k]).length≠104∨j.ck[k]∈j.ck.take k):validJ j=false:=by
 by_cases hv:validJ j=true
 ·exfalso
  unfold validJ at hv
  rw [Bool.and_eq_true,Bool.and_eq_true] at hv
  obtain ⟨_,h1,h2⟩:=hv
  rcases h with h|h
  ·have:=List.all_eq_true.1 h1 _ (List.getElem_mem hk)
   simp at this
   exact h this
  ·obtain ⟨i,hi,he⟩:=List.getElem_of_mem h
   rw [List.length_take] at hi
   rw [List.getElem_take] at he
   have:=List.pairwise_iff_getElem.1 (of_decide_eq_true h2) i k (by omega) hk (by omega)
   exact this he
 ·simpa using hv
theorem validJ_end {j:Jar} (h:headJ j) (h1:∀ b∈j.ck,b.length=104) (h2:j.ck.Nodup):validJ j=true:=by
 unfold validJ
 rw [decide_eq_true h,decide_eq_true h2,List.all_eq_true.2 (fun b hb=>by simpa using h1 b hb)]
 rfl
end Go.Jar
namespace Go.Proofs.YtdmifbfgeeldnaaGreat
open Go.RowKit Go.Sec Go.Oct Go.Jar BigFrame
set_option maxHeartbeats 4000000 in
theorem jcopied_any (a:Option Addr)(n c:Nat) (L:List (List UInt8)) (w:World)(h:Bsc w a n L) (hn:n≤100000) (hb:∀ x∈L,x.length≤1000000) :
  Calls Tryz.prog 130 #[.slice a n c] w fun e w'=>∃ b d,e = .returned (.slice b n d)∧OwnB w' w.heap.size b n d L∧Ext w w':=by
 have hl:=h.len
 go_enter Tryz.func130,Tryz.ntmps130
 go_wp2
 go_loopw [3,5,8] (fun v3 _ v8 wr=>∃ (k:Nat) (sa:Option Addr)(sc:Nat),k≤n∧v8 = .int .i64 k∧v3 = .slice sa k sc∧OwnB wr w.heap.size sa k sc (L.take k)∧Ext w wr) (fun _ _ v8 _=>n-(intOf v8).toNat)
 case atStart=>exact ⟨0,none,0,Nat.zero_le _,rfl,rfl,OwnB.nil _ _,Ext.refl _⟩
 case round =>
  obtain ⟨k,sa,sc,hk,rfl,rfl,hO,hE⟩:=hrel
  by_cases hlt:k<n
  ·have hk0:(0:Int)≤(k:Int):=by omega
   have hkn:(k:Int)<(n:Int):=by omega
   obtain ⟨b0,o0,a',n',c',rfl,hb0,hcell,hc',hS⟩:=(h.ext hE).at k hlt
   have hkL:k<L.length:=by omega
   have hts:L.take (k+1)=L.take k++[L[k]]:=List.take_succ_eq_append_getElem hkL
   have hbx:=hb _ (List.getElem_mem hkL)
   generalize L[k]=X at *
   have hXl:=hS.len
   haveI:=hb0
   go_wp2_with fail
   (with_reducible refine (clone_any _ _ _ X _ hS (by omega)).mono ?_)
   rintro e w1 ⟨a1,c1,rfl,hO1,hx1⟩
   have hO:=(hO.ext hx1).ext (Ext.of_alloc w1 (.cells #[.slice a1 n' c1] 33))
   have hE1:=(hE.trans hx1).alloc (.cells #[.slice a1 n' c1] 33)
   have hO1':=hO1.ext (Ext.of_alloc w1 (.cells #[.slice a1 n' c1] 33))
   go_wp2_with (first
    | (refine wpList_append_one V8 rfl _ _ rfl w.heap.size sa k sc _ rfl w1.heap.size rfl hO a1 n' c1 X (Blk.new w1 #[.slice a1 n' c1] 33).rd hO1'.sl hO1.le.1 (Own.inBlk hO1') (by omega) hE1.size ?_;intro sa' sc' w6 hO6 hg6 hb6)
    | fail)
   go_roundw
   case rel=>exact ⟨k+1,sa',sc',by omega,by go_num,rfl,by rw [hts];exact hO6,Below.trans hE1 hb6⟩
   case measure=>simp [intOf];omega
  ·obtain rfl:k=n:=by omega
   have hkn:¬ (k:Int)<(k:Int):=by omega
   rw [List.take_of_length_le (by omega)] at hO
   go_wp2_with fail
   go_ret
   exact ⟨_,_,rfl,hO,hE⟩
theorem _root_.z28q2{p:Prop}(h:p:=by
 clear hB hEW
 obtain ⟨k,hk,rfl,hno,hB,hE⟩:=hrel
 haveI:=hB.blt
 have f2:wr.cell? ⟨w.heap.size,2,none⟩=some (.slice a3 n3 c3):=hB.cell? 2 rfl
 by_cases hlt:k<n3
 ·have hk0:(0:Int)≤(k:Int):=by omega
  have hkn:(k:Int)<(n3:Int):=by omega
  have hkc:(k:Int)≤(c3:Int):=by omega
  have h3r:=h3.ext hE
  have h3k:=h3r.take k (by omega)
  obtain ⟨b0,o0,a',n',c',rfl,hb0,hcell,hc',hS⟩:=h3r.at k hlt
  have hkL:k<j.ck.length:=by omega
  have hts:=Lib.hid (show j.ck.take (k+1)=j.ck.take k++[j.ck[k]] from List.take_succ_eq_append_getElem hkL)
  have hbad:=Lib.hid (validJ_bad (j:=j) hkL)
  generalize j.ck[k]=X at *
  have hXl:=hS.len
  haveI:=hb0
  have gck:=fun V H=>jcookie_any a' n' c' X V H
  have ghs:=fun V H1 H2=>has_any (some ⟨b0,o0,none⟩) a' k c3 n' c' (j.ck.take k) X V H1 (by omega) H2
  by_cases q1:X.length=104
  ·simp only [q1,decide_true] at gck
   cases q2:decide (X∈j.ck.take k)
   ·have q2':=of_decide_eq_false q2
    simp only [q2] at ghs
    have hno2:=Lib.hid (show (∀ b∈j.ck.take (k+1),b.length=104)∧(j.ck.take (k+1)).Nodup by
     rw [hts.out]
     refine ⟨fun b hb=>?_,?_⟩
     ·rcases List.mem_append.1 hb with h|h
      ·exact hno.out.1 b h
      ·rw [List.mem_singleton.1 h];exact q1
     ·rw [List.nodup_append]
      refine ⟨hno.out.2,by simp,fun x hx y hy e=>?_⟩
      rw [List.mem_singleton.1 hy] at e
      exact q2' (e ▸ hx))
    clear q2 q2' q1 hXl
    go_wp2_with (first
     | (go_at_call 72;refine (gck _ (hS.ext eX)).mono ?_;rintro e w1 ⟨rfl,hxq⟩;obtain ⟨xq,rfl⟩:=hxq.out;clear hxq)
     | (go_at_call 79;refine (ghs _ (h3k.ext eX) (hS.ext eX)).mono ?_;rintro e w1 ⟨rfl,hxq⟩;obtain ⟨xq,rfl⟩:=hxq.out;clear hxq)
     | fail)
    go_roundw
    case rel=>exact ⟨k+1,by omega,by go_num,hno2,hB.extB eX,hE.trans eX⟩
    case measure=>simp [intOf];omega
   ·have hv:=Lib.hid (hbad.out (.inr (of_decide_eq_true q2)))
    simp only [q2] at ghs
    clear q2 q1 hXl
    go_wp2_with (first
     | (go_at_call 72;refine (gck _ (hS.ext eX)).mono ?_;rintro e w1 ⟨rfl,hxq⟩;obtain ⟨xq,rfl⟩:=hxq.out;clear hxq)
     | (go_at_call 79;refine (ghs _ (h3k.ext eX) (hS.ext eX)).mono ?_;rintro e w1 ⟨rfl,hxq⟩;obtain ⟨xq,rfl⟩:=hxq.out;clear hxq)
     | fail)
    go_ret
    exact ⟨by rw [hv.out];rfl,hE.trans eX⟩
  ·have hv:=Lib.hid (hbad.out (.inl q1))
   simp only [q1,decide_false] at gck
   clear q1 hXl
   go_wp2_with (first
    | (go_at_call 72;refine (gck _ (hS.ext eX)).mono ?_;rintro e w1 ⟨rfl,hxq⟩;obtain ⟨xq,rfl⟩:=hxq.out;clear hxq)
    | (go_at_call 79;refine (ghs _ (h3k.ext eX) (hS.ext eX)).mono ?_;rintro e w1 ⟨rfl,hxq⟩;obtain ⟨xq,rfl⟩:=hxq.out;clear hxq)
    | fail)
   go_ret
   exact ⟨by rw [hv.out];rfl,hE.trans eX⟩
 ·obtain rfl:k=n3:=by omega
  have hkn:¬ (k:Int)<(k:Int):=by omega
  have hv:=Lib.hid (show validJ j=true by
   have:=hno.out
   rw [List.take_of_length_le (by omega)] at this
   exact validJ_end hh this.1 this.2)
  go_wp2_with fail
  go_ret
  exact ⟨by rw [hv.out];rfl,hE⟩):p:=h
theorem _root_.z28q13{p:Prop}(h:p:=by
 have hv:=Lib.hid (validJ_head (j:=j) (fun h=>h.2.2.2.1 (of_decide_eq_true hm)))
 simp only [hm] at hhs
 clear hm
 go_enter Tryz.func35,Tryz.ntmps35
 go_wp2_with (first
  | (go_at_call 78;refine (hpa _ (h1.ext eX) (h2.ext eX)).mono ?_;rintro e w1 ⟨rfl,hxq⟩;obtain ⟨xq,rfl⟩:=hxq.out;clear hxq)
  | (go_at_call 72;refine (hck _ (h4.ext eX)).mono ?_;rintro e w1 ⟨rfl,hxq⟩;obtain ⟨xq,rfl⟩:=hxq.out;clear hxq)
  | (go_at_call 79;refine (hhs _ (h3.ext eX) (h4.ext eX)).mono ?_;rintro e w1 ⟨rfl,hxq⟩;obtain ⟨xq,rfl⟩:=hxq.out;clear hxq)
  | fail)
 go_ret
 exact ⟨by rw [hv.out];rfl,eX⟩):p:=h
theorem _root_.z28q14{p:Prop}(h:p:=by
 have hv:=Lib.hid (validJ_head (j:=j) (fun h=>by have:=h.2.2.2.2.2.1;omega))
 go_enter Tryz.func35,Tryz.ntmps35
 go_wp2_with (first
  | (go_at_call 78;refine (hpa _ (h1.ext eX) (h2.ext eX)).mono ?_;rintro e w1 ⟨rfl,hxq⟩;obtain ⟨xq,rfl⟩:=hxq.out;clear hxq)
  | (go_at_call 72;refine (hck _ (h4.ext eX)).mono ?_;rintro e w1 ⟨rfl,hxq⟩;obtain ⟨xq,rfl⟩:=hxq.out;clear hxq)
  | (go_at_call 79;refine (hhs _ (h3.ext eX) (h4.ext eX)).mono ?_;rintro e w1 ⟨rfl,hxq⟩;obtain ⟨xq,rfl⟩:=hxq.out;clear hxq)
  | fail)
 go_ret
 exact ⟨by rw [hv.out];rfl,eX⟩):p:=h
theorem _root_.z28q15{p:Prop}(h:p:=by
 have hv:=Lib.hid (validJ_head (j:=j) (fun h=>by have:=h.2.2.2.2.2.2;omega))
 go_enter Tryz.func35,Tryz.ntmps35
 go_wp2_with (first
  | (go_at_call 78;refine (hpa _ (h1.ext eX) (h2.ext eX)).mono ?_;rintro e w1 ⟨rfl,hxq⟩;obtain ⟨xq,rfl⟩:=hxq.out;clear hxq)
  | (go_at_call 72;refine (hck _ (h4.ext eX)).mono ?_;rintro e w1 ⟨rfl,hxq⟩;obtain ⟨xq,rfl⟩:=hxq.out;clear hxq)
  | (go_at_call 79;refine (hhs _ (h3.ext eX) (h4.ext eX)).mono ?_;rintro e w1 ⟨rfl,hxq⟩;obtain ⟨xq,rfl⟩:=hxq.out;clear hxq)
  | fail)
 go_ret
 exact ⟨by rw [hv.out];rfl,eX⟩):p:=h
theorem _root_.z28q16{p:Prop}(h:p:=by
 have hv:=Lib.hid (validJ_head (j:=j) (fun h=>by have:=h.2.2.2.2.1;omega))
 go_enter Tryz.func35,Tryz.ntmps35
 go_wp2_with (first
  | (go_at_call 78;refine (hpa _ (h1.ext eX) (h2.ext eX)).mono ?_;rintro e w1 ⟨rfl,hxq⟩;obtain ⟨xq,rfl⟩:=hxq.out;clear hxq)
  | (go_at_call 72;refine (hck _ (h4.ext eX)).mono ?_;rintro e w1 ⟨rfl,hxq⟩;obtain ⟨xq,rfl⟩:=hxq.out;clear hxq)
  | (go_at_call 79;refine (hhs _ (h3.ext eX) (h4.ext eX)).mono ?_;rintro e w1 ⟨rfl,hxq⟩;obtain ⟨xq,rfl⟩:=hxq.out;clear hxq)
  | fail)
 go_ret
 exact ⟨by rw [hv.out];rfl,eX⟩):p:=h
set_option maxHeartbeats 8000000 in
theorem jvalid_any (a1 a2 a3 a4:Option Addr)(n1 c1 n2 c2 n3 c3 n4 c4:Nat) (j:Jar) (w:World)(h1:Sl w a1 n1 j.up) (h2:Sl w a2 n2 j.dn) (h3:Bsc w a3 n3 j.ck) (hc3:n3≤c3) (hn3:n3≤1000000) (h4:Sl w a4 n4 j.last) :
  Calls Tryz.prog 35 #[.agg #[.slice a1 n1 c1, .slice a2 n2 c2, .slice a3 n3 c3, .slice a4 n4 c4, .int .i64 j.net, .int .i64 j.sent]] w fun e w'=>e = .returned (.bool (validJ j))∧Ext w w':=by
 have hpa:=fun W H1 H2=>paired_any a1 a2 n1 c1 n2 c2 j.up j.dn W H1 H2
 have hck:=fun W H=>jcookie_any a4 n4 c4 j.last W H
 have hhs:=fun W H1 H2=>has_any a3 a4 n3 c3 n4 c4 j.ck j.last W H1 hn3 H2
 have hl3:=h3.len
 have hl4:=h4.len
 cases hp:decide (j.up.length=32∧j.dn.length=32)
 ·have hv:=Lib.hid (validJ_head (j:=j) (fun h=>by have:=of_decide_eq_false hp;exact this h.1))
  simp only [hp] at hpa
  clear hp
  go_enter Tryz.func35,Tryz.ntmps35
  go_wp2_with (first
   | (go_at_call 78;refine (hpa _ (h1.ext eX) (h2.ext eX)).mono ?_;rintro e w1 ⟨rfl,hxq⟩;obtain ⟨xq,rfl⟩:=hxq.out;clear hxq)
   | (go_at_call 72;refine (hck _ (h4.ext eX)).mono ?_;rintro e w1 ⟨rfl,hxq⟩;obtain ⟨xq,rfl⟩:=hxq.out;clear hxq)
   | (go_at_call 79;refine (hhs _ (h3.ext eX) (h4.ext eX)).mono ?_;rintro e w1 ⟨rfl,hxq⟩;obtain ⟨xq,rfl⟩:=hxq.out;clear hxq)
   | fail)
  go_ret
  exact ⟨by rw [hv.out];rfl,eX⟩
 ·have hp':=of_decide_eq_true hp
  simp only [hp] at hpa
  clear hp
  by_cases n8:8<n3
  ·have hv:=Lib.hid (validJ_head (j:=j) (fun h=>by have:=h.2.1;omega))
   have i8:(8:Int)<(n3:Int):=by omega
   go_enter Tryz.func35,Tryz.ntmps35
   go_wp2_with (first
    | (go_at_call 78;refine (hpa _ (h1.ext eX) (h2.ext eX)).mono ?_;rintro e w1 ⟨rfl,hxq⟩;obtain ⟨xq,rfl⟩:=hxq.out;clear hxq)
    | (go_at_call 72;refine (hck _ (h4.ext eX)).mono ?_;rintro e w1 ⟨rfl,hxq⟩;obtain ⟨xq,rfl⟩:=hxq.out;clear hxq)
    | (go_at_call 79;refine (hhs _ (h3.ext eX) (h4.ext eX)).mono ?_;rintro e w1 ⟨rfl,hxq⟩;obtain ⟨xq,rfl⟩:=hxq.out;clear hxq)
    | fail)
   go_ret
   exact ⟨by rw [hv.out];rfl,eX⟩
  ·have i8:¬ (8:Int)<(n3:Int):=by omega
   by_cases z0:n4=0
   ·subst z0
    cases hm:decide (j.last∈j.ck)
    ·have hm':=of_decide_eq_false hm
     simp only [hm] at hhs
     clear hm
     by_cases m1:j.net<0
     ·exact z28q16
     ·by_cases m2:j.sent<0
      ·exact z28q14
      ·by_cases m3:1099511627776<j.sent
       ·exact z28q15
       ·have hh:headJ j:=⟨hp',by omega,by omega,hm',by omega,by omega,by omega⟩
        clear hp' hm'
        go_enter Tryz.func35,Tryz.ntmps35
        go_wp2_with (first
         | (go_at_call 78;refine (hpa _ (h1.ext eX) (h2.ext eX)).mono ?_;rintro e w1 ⟨rfl,hxq⟩;obtain ⟨xq,rfl⟩:=hxq.out;clear hxq)
         | (go_at_call 72;refine (hck _ (h4.ext eX)).mono ?_;rintro e w1 ⟨rfl,hxq⟩;obtain ⟨xq,rfl⟩:=hxq.out;clear hxq)
         | (go_at_call 79;refine (hhs _ (h3.ext eX) (h4.ext eX)).mono ?_;rintro e w1 ⟨rfl,hxq⟩;obtain ⟨xq,rfl⟩:=hxq.out;clear hxq)
         | fail)
        refine nameW ?_
        intro W hW
        have hEW:Ext w W:=by rw [hW];exact eX
        have hB:Blk W w.heap.size 54 [.slice a1 n1 c1, .slice a2 n2 c2, .slice a3 n3 c3, .slice a4 0 c4, .int .i64 j.net, .int .i64 j.sent]:=by rw [hW];exact bK
        clear hW hpa hck hhs
        haveI:=hB.blt
        have f2:W.cell? ⟨w.heap.size,2,none⟩=some (.slice a3 n3 c3):=hB.cell? 2 rfl
        go_wp2_with fail
        clear f2
        go_loopw [3,4,52] (fun _ _ v52 wr=>∃ k:Nat,k≤n3∧v52 = .int .i64 k∧Hid ((∀ b∈j.ck.take k,b.length=104)∧(j.ck.take k).Nodup)∧Blk wr w.heap.size 54 [.slice a1 n1 c1, .slice a2 n2 c2, .slice a3 n3 c3, .slice a4 0 c4, .int .i64 j.net, .int .i64 j.sent]∧Ext w wr) (fun _ _ v52 _=>n3-(intOf v52).toNat)
        case atStart=>exact ⟨0,Nat.zero_le _,rfl,Lib.hid ⟨by simp,by simp⟩,hB,hEW⟩
        case round =>
         exact z28q2
    ·exact z28q13
   ·have i0:(0:Int)<(n4:Int):=by omega
    have i00:0<n4:=by omega
    by_cases z1:n4=104
    ·have z2:j.last.length=104:=by omega
     simp only [z2,decide_true] at hck
     clear z0 i0 i00
     subst z1
     cases hm:decide (j.last∈j.ck)
     ·have hm':=of_decide_eq_false hm
      simp only [hm] at hhs
      clear hm
      by_cases m1:j.net<0
      ·exact z28q16
      ·by_cases m2:j.sent<0
       ·exact z28q14
       ·by_cases m3:1099511627776<j.sent
        ·exact z28q15
        ·have hh:headJ j:=⟨hp',by omega,by omega,hm',by omega,by omega,by omega⟩
         clear hp' hm'
         go_enter Tryz.func35,Tryz.ntmps35
         go_wp2_with (first
          | (go_at_call 78;refine (hpa _ (h1.ext eX) (h2.ext eX)).mono ?_;rintro e w1 ⟨rfl,hxq⟩;obtain ⟨xq,rfl⟩:=hxq.out;clear hxq)
          | (go_at_call 72;refine (hck _ (h4.ext eX)).mono ?_;rintro e w1 ⟨rfl,hxq⟩;obtain ⟨xq,rfl⟩:=hxq.out;clear hxq)
          | (go_at_call 79;refine (hhs _ (h3.ext eX) (h4.ext eX)).mono ?_;rintro e w1 ⟨rfl,hxq⟩;obtain ⟨xq,rfl⟩:=hxq.out;clear hxq)
          | fail)
         refine nameW ?_
         intro W hW
         have hEW:Ext w W:=by rw [hW];exact eX
         have hB:Blk W w.heap.size 54 [.slice a1 n1 c1, .slice a2 n2 c2, .slice a3 n3 c3, .slice a4 104 c4, .int .i64 j.net, .int .i64 j.sent]:=by rw [hW];exact bK
         clear hW hpa hck hhs
         haveI:=hB.blt
         have f2:W.cell? ⟨w.heap.size,2,none⟩=some (.slice a3 n3 c3):=hB.cell? 2 rfl
         go_wp2_with fail
         clear f2
         go_loopw [3,4,52] (fun _ _ v52 wr=>∃ k:Nat,k≤n3∧v52 = .int .i64 k∧Hid ((∀ b∈j.ck.take k,b.length=104)∧(j.ck.take k).Nodup)∧Blk wr w.heap.size 54 [.slice a1 n1 c1, .slice a2 n2 c2, .slice a3 n3 c3, .slice a4 104 c4, .int .i64 j.net, .int .i64 j.sent]∧Ext w wr) (fun _ _ v52 _=>n3-(intOf v52).toNat)
         case atStart=>exact ⟨0,Nat.zero_le _,rfl,Lib.hid ⟨by simp,by simp⟩,hB,hEW⟩
         case round =>
          exact z28q2
     ·exact z28q13
    ·have z2:¬ j.last.length=104:=by omega
     have hv:=Lib.hid (validJ_head (j:=j) (fun h=>by have:=h.2.2.1;omega))
     simp only [z2,decide_false] at hck
     go_enter Tryz.func35,Tryz.ntmps35
     go_wp2_with (first
      | (go_at_call 78;refine (hpa _ (h1.ext eX) (h2.ext eX)).mono ?_;rintro e w1 ⟨rfl,hxq⟩;obtain ⟨xq,rfl⟩:=hxq.out;clear hxq)
      | (go_at_call 72;refine (hck _ (h4.ext eX)).mono ?_;rintro e w1 ⟨rfl,hxq⟩;obtain ⟨xq,rfl⟩:=hxq.out;clear hxq)
      | (go_at_call 79;refine (hhs _ (h3.ext eX) (h4.ext eX)).mono ?_;rintro e w1 ⟨rfl,hxq⟩;obtain ⟨xq,rfl⟩:=hxq.out;clear hxq)
      | fail)
     go_ret
     exact ⟨by rw [hv.out];rfl,eX⟩
end Go.Proofs.YtdmifbfgeeldnaaGreat

/- The walks of layer 22: clone. -/
namespace Go.Sec
open Go.RowKit
theorem OwnB.blk {w:World} {base n c:Nat} {a:Option Addr} {L:List (List UInt8)} (h:OwnB w base a n c L) {b:Nat} {t:TypeId} {vs:List Value} (hB:Blk w b t vs) (ht:t≠33):(Value.slice a n c).ownBlock≠some b:=by
 obtain ⟨_,xs,h2,_⟩:=h
 exact own_type h2 hB ht
theorem _root_.z28q55{p:Prop}(h:p:=by
 refine .inr ⟨g',cap,cur,hv,hb,?_,r⟩
 rw [hM.block g' (Array.getElem?_eq_some_iff.1 hh).1 (fun e=>hno (by rw [hv];exact e))]
 exact hh):p:=h
theorem OwnB.mut {t:TypeId} {w w':World} {base n c g:Nat} {a:Option Addr} {L:List (List UInt8)} {vs:List Value} (h:OwnB w base a n c L) (hB:Blk w g t vs) (ht:t≠33) (hne:∀ v∈vs,∀ x,v ≠ .int .u8 x) (hM:Mut g w w'):OwnB w' base a n c L:=by
 have hno:=h.blk hB ht
 obtain ⟨h1,xs,h2,h3,h4⟩:=h
 refine ⟨h1,xs,⟨h2.1,?_⟩,h3,fun k hk=>?_⟩
 ·rcases h2.2 with h|⟨g',cap,cur,hv,hb,hh,r⟩
  ·exact .inl h
  ·exact z28q55
 ·obtain ⟨a',n',c',e1,e2,e3,e4⟩:=h4 k hk
  refine ⟨a',n',c',e1,e2,e3.mut hB hne hM,?_⟩
  rcases e4 with e4|e4
  ·exact .inl e4
  ·by_cases h0:n'=0
   ·exact .inl h0
   ·refine .inr fun b o e=>?_
    rcases e4 b o e with h|⟨t',vs',hB',ht'⟩
    ·exact .inl h
    ·refine .inr ⟨t',vs',Blk.turn hM hB' ?_,ht'⟩
     subst e
     exact sl_off_blk e3 (by omega) hB hne
def OwnBX (B0:Nat) (w:World)(a:Option Addr)(n c:Nat) (L:List (List UInt8)):Prop:=∃ B,B0≤B∧B≤w.heap.size∧OwnB w B a n c L
theorem OwnBX.ext {B0 n c:Nat} {w w':World} {a:Option Addr} {L:List (List UInt8)} (h:OwnBX B0 w a n c L) (hx:Ext w w'):OwnBX B0 w' a n c L:=by
 obtain ⟨B,h1,h2,h3⟩:=h
 exact ⟨B,h1,Nat.le_trans h2 hx.size,h3.ext hx⟩
theorem OwnBX.mut {t:TypeId} {B0 n c g:Nat} {w w':World} {a:Option Addr} {L:List (List UInt8)} {vs:List Value} (h:OwnBX B0 w a n c L) (hB:Blk w g t vs) (ht:t≠33) (hne:∀ v∈vs,∀ x,v ≠ .int .u8 x) (hM:Mut g w w'):OwnBX B0 w' a n c L:=by
 obtain ⟨B,h1,h2,h3⟩:=h
 exact ⟨B,h1,Nat.le_trans h2 hM.size,h3.mut hB ht hne hM⟩
theorem Own.mutT {t:TypeId} {w w':World} {base n c g:Nat} {a:Option Addr} {l:List UInt8} {vs:List Value} (h:Own w base a n c l) (hB:Blk w g t vs) (ht:t≠5) (hM:Mut g w w'):Own w' base a n c l:=by
 have hno:=own_type h.2 hB ht
 refine ⟨h.1,h.2.1,?_⟩
 rcases h.2.2 with h1|⟨g',cap,cur,hv,hb,hh,r⟩
 ·exact .inl h1
 ·exact z28q55
theorem Own.grownB {w w':World} {base base' n c m d:Nat} {a b:Option Addr} {l:List UInt8} {L:List (List UInt8)} (h:Own w base a n c l) (hO:OwnB w base' b m d L) (hg:w.grownBy w' (Value.slice b m d).ownBlock):Own w' base a n c l:=by
 refine ⟨h.1,h.2.1,?_⟩
 rcases h.2.2 with h1|⟨g',cap,cur,hv,hb,hh,r⟩
 ·exact .inl h1
 ·refine .inr ⟨g',cap,cur,hv,hb,?_,r⟩
  have hB:Blk w g' 5 cur.toList:=by unfold Blk;simpa using hh
  rw [hg.block g' (Array.getElem?_eq_some_iff.1 hh).1 (fun e=>hO.blk hB (by decide) e.symm)]
  exact hh
end Go.Sec
namespace Go.Proofs.YtdmifbfgeeldnaaGreat
open Go.RowKit Go.Sec Go.Oct Go.Jar BigFrame
theorem RJ6:RowT Tryz.prog 54 6:=⟨⟨_,Tryz.underlying54,rfl⟩,by kernel_rfl,⟨_,Tryz.zeroValue54,by kernel_rfl⟩⟩
theorem RPj:RowT Tryz.prog 51 2:=⟨⟨_,Tryz.underlying51,rfl⟩,by kernel_rfl,⟨_,Tryz.zeroValue51,by kernel_rfl⟩⟩
def JarO (j:Jar) (n1 n2 n3 n4:Nat) (w:World)(e:Ending) (w':World):Prop:=∃ b1 d1 b2 d2 b3 d3 b4 d4,e = .returned (.agg #[.slice b1 n1 d1, .slice b2 n2 d2, .slice b3 n3 d3, .slice b4 n4 d4, .int .i64 j.net, .int .i64 j.sent]) ∧
 Own w' 0 b1 n1 d1 j.up∧Own w' 0 b2 n2 d2 j.dn∧OwnBX w.heap.size w' b3 n3 d3 j.ck∧Own w' 0 b4 n4 d4 j.last∧Ext w w'
set_option maxHeartbeats 8000000 in
theorem jclone_any (a1 a2 a3 a4:Option Addr)(n1 c1 n2 c2 n3 c3 n4 c4:Nat) (j:Jar) (w:World)(h1:Sl w a1 n1 j.up) (m1:n1≤1000000) (h2:Sl w a2 n2 j.dn) (m2:n2≤1000000) (h3:Bsc w a3 n3 j.ck) (hn3:n3≤100000) (hb3:∀ x∈j.ck,x.length≤1000000) (h4:Sl w a4 n4 j.last) (m4:n4≤1000000) :
  Calls Tryz.prog 112 #[.agg #[.slice a1 n1 c1, .slice a2 n2 c2, .slice a3 n3 c3, .slice a4 n4 c4, .int .i64 j.net, .int .i64 j.sent]] w (JarO j n1 n2 n3 n4 w):=by
 go_enter Tryz.func112,Tryz.ntmps112
 go_wp2
 obtain ⟨W,hW⟩:∃ W,W=(w.alloc (.cells #[.slice a1 n1 c1, .slice a2 n2 c2, .slice a3 n3 c3, .slice a4 n4 c4, .int .i64 j.net, .int .i64 j.sent] 54)).alloc (.cells #[.slice none 0 0, .slice none 0 0, .slice none 0 0, .slice none 0 0, .int .i64 0, .int .i64 0] 54):=⟨_,rfl⟩
 have hEW:Ext w W:=by rw [hW];exact eX
 have hB:Blk W w.heap.size 54 [.slice a1 n1 c1, .slice a2 n2 c2, .slice a3 n3 c3, .slice a4 n4 c4, .int .i64 j.net, .int .i64 j.sent]:=by rw [hW];exact bK
 have hR:Blk W (w.heap.size+1) 54 [.slice none 0 0, .slice none 0 0, .slice none 0 0, .slice none 0 0, .int .i64 0, .int .i64 0]:=by rw [hW];exact bK
 rw [← hW]
 clear hW
 haveI:=hB.blt
 have f0:=hB.cell? 0 rfl
 have f1:W.cell? ⟨w.heap.size,1,none⟩=some (.slice a2 n2 c2):=hB.cell? 1 rfl
 have g1:=h1.ext hEW
 have g2:=h2.ext hEW
 refine wp_region_vague 9 [[],[0],[0,1],[0,1,2],[],[4],[4,5],[0,1,2,3,4,5,6],[0,1,2,3,4,5,6,7],[0,1,2,3,4,5,6,7,8],[0,1,2,3,4,5,6,7,8,9]] (by kernel_rfl) (by kernel_rfl) (by kernel_rfl) (by kernel_rfl) ?_;simp only [q8q,q9q,q10q,q11q,q12q,q13q]
 (repeat (refine VD_a ?_;(try simp only [Act.put,q0q,q1q,q2q])))
 (refine VD_vag (fun p => .slice (p 0).1 (n1) (p 0).2) (fun p w''=>Own w'' 0 (p 0).1 (n1) (p 0).2 (j.up)) (fun p w w' h hx=>h.ext hx) (fun us w' hx hf=>⟨rfl,?_⟩) ?_;(unfold gives;simp [go_sem,execOp];exact vag_fresh (Nat.zero_le _) (clone_any a1 n1 c1 j.up _ (g1.ext hx) (by omega))))
 (repeat (refine VD_a ?_;(try simp only [Act.put,q0q,q1q,q2q])))
 (refine VD_vag (fun p => .slice (p 0).1 (n2) (p 0).2) (fun p w''=>Own w'' 0 (p 0).1 (n2) (p 0).2 (j.dn)) (fun p w w' h hx=>h.ext hx) (fun us w' hx hf=>⟨rfl,?_⟩) ?_;(unfold gives;simp [go_sem,execOp];exact vag_fresh (Nat.zero_le _) (clone_any a2 n2 c2 j.dn _ (g2.ext hx) (by omega))))
 (repeat (refine VD_a ?_;(try simp only [Act.put,q0q,q1q,q2q])))
 (refine VD_z ?_;intro us x hx hf;(try simp only [Act.put,q0q,q1q,q2q,wpList_none]);(try simp only [q3q,q4q,or_false,forall_eq_or_imp,forall_eq,q5q,q6q,q7q,false_or,true_and,and_true] at hf);(try simp only [Nat.reduceAdd,Nat.zero_add] at hf ⊢))
 obtain ⟨hO1,hO2⟩:=hf
 obtain ⟨b1,hb1⟩:∃ a,(us 3 0).1=a:=⟨_,rfl⟩
 obtain ⟨d1,hd1⟩:∃ a,(us 3 0).2=a:=⟨_,rfl⟩
 obtain ⟨b2,hb2⟩:∃ a,(us 7 0).1=a:=⟨_,rfl⟩
 obtain ⟨d2,hd2⟩:∃ a,(us 7 0).2=a:=⟨_,rfl⟩
 rw [hb1,hd1] at hO1 ⊢
 rw [hb2,hd2] at hO2 ⊢
 clear hb1 hd1 hb2 hd2
 have hxx:Ext W (W.ext x):=Ext.of_ext _ _
 have hBx:=hB.extB hxx
 have hRx:=hR.extB hxx
 have hEx:=hEW.trans hxx
 have s1:=hO1
 have s2:=hO2
 haveI:=hBx.blt
 clear f0 f1 g1 g2 hO1 hO2
 go_wp2_with (first
  | (refine wpList_store_arr (RPj) rfl _ _ rfl (w.heap.size) (0) rfl ([.slice b1 n1 d1, .slice b2 n2 d2]) rfl (54) _ (hBx) (rfl) (by simp) (by first|exact one_u8 _|(simp;done)|(simp;(repeat' (first|rfl|constructor)))) ?_;intro V hV hMV)
  | fail)
 have hV:Blk V w.heap.size 54 [.slice b1 n1 d1, .slice b2 n2 d2, .slice a3 n3 c3, .slice a4 n4 c4, .int .i64 j.net, .int .i64 j.sent]:=hV
 have s1:=s1.mutT hBx (by decide) hMV
 have s2:=s2.mutT hBx (by decide) hMV
 have hRV:=Blk.turn hMV hRx (by omega)
 have hEV:Ext w V:=Below.trans hEx (hMV.below (Nat.le_refl _) hEx.size)
 have g3:=h3.ext hEV
 have g4:=h4.ext hEV
 clear hBx hRx hEx hMV hB hR hEW hxx
 haveI:=hV.blt
 have f2:V.cell? ⟨w.heap.size,1+1,none⟩=some (.slice a3 n3 c3):=hV.cell? 2 rfl
 have f2':V.cell? ⟨w.heap.size,2,none⟩=some (.slice a3 n3 c3):=hV.cell? 2 rfl
 have f3:V.cell? ⟨w.heap.size,3,none⟩=some (.slice a4 n4 c4):=hV.cell? 3 rfl
 refine wp_region_vague 7 [[],[0],[0,1],[],[3],[0,1,2,3,4],[0,1,2,3,4],[0,1,2,3,4,5,6],[0,1,2,3,4,5,6,7],[0,1,2,3,4,5,6,7,8]] (by kernel_rfl) (by kernel_rfl) (by kernel_rfl) (by kernel_rfl) ?_;simp only [q8q,q9q,q10q,q11q,q12q,q13q]
 (repeat (refine VD_a ?_;(try simp only [Act.put,q0q,q1q,q2q])))
 (refine VD_vag (fun p => .slice (p 0).1 n3 (p 0).2) (fun p w''=>OwnBX w.heap.size w'' (p 0).1 n3 (p 0).2 j.ck) (fun p w w' h hx=>by first|exact h.ext hx|exact ⟨h.1.ext hx,h.2.ext hx⟩|exact ⟨h.1.ext hx,h.2⟩|exact ⟨h.1.ext hx,h.2.1.ext hx,h.2.2.ext hx⟩) (fun us w' hx hf=>⟨rfl,?_⟩) ?_;(unfold gives;simp [go_sem,execOp];exact (jcopied_any a3 n3 c3 j.ck _ (g3.ext hx) hn3 hb3).mono fun _ _ ⟨b,d,he,hO,hx'⟩=>⟨_,he,fun _=>(b,d),rfl,hx',_,Nat.le_trans hEV.size hx.size,hx'.size,hO⟩))
 (repeat (refine VD_a ?_;(try simp only [Act.put,q0q,q1q,q2q])))
 (refine VD_vag (fun p => .slice (p 0).1 (n4) (p 0).2) (fun p w''=>Own w'' 0 (p 0).1 (n4) (p 0).2 (j.last)) (fun p w w' h hx=>h.ext hx) (fun us w' hx hf=>⟨rfl,?_⟩) ?_;(unfold gives;simp [go_sem,execOp];exact vag_fresh (Nat.zero_le _) (clone_any a4 n4 c4 j.last _ (g4.ext hx) (by omega))))
 (repeat (refine VD_a ?_;(try simp only [Act.put,q0q,q1q,q2q])))
 (refine VD_z ?_;intro us x hx hf;(try simp only [Act.put,q0q,q1q,q2q,wpList_none]);(try simp only [q3q,q4q,or_false,forall_eq_or_imp,forall_eq,q5q,q6q,q7q,false_or,true_and,and_true] at hf);(try simp only [Nat.reduceAdd,Nat.zero_add] at hf ⊢))
 obtain ⟨hO3,hO4⟩:=hf
 obtain ⟨b3,hb3'⟩:∃ a,(us 2 0).1=a:=⟨_,rfl⟩
 obtain ⟨d3,hd3⟩:∃ a,(us 2 0).2=a:=⟨_,rfl⟩
 obtain ⟨b4,hb4⟩:∃ a,(us 5 0).1=a:=⟨_,rfl⟩
 obtain ⟨d4,hd4⟩:∃ a,(us 5 0).2=a:=⟨_,rfl⟩
 rw [hb3',hd3] at hO3 ⊢
 rw [hb4,hd4] at hO4 ⊢
 clear hb3' hd3 hb4 hd4
 obtain ⟨X,hX⟩:∃ X,X=V.ext x:=⟨_,rfl⟩
 have hxx:Ext V X:=by rw [hX];exact Ext.of_ext _ _
 rw [← hX] at hO3 hO4 ⊢
 clear hX
 have hB:=hV.extB hxx
 have hR:=hRV.extB hxx
 have hE:=hEV.trans hxx
 have s1:=s1.ext hxx
 have s2:=s2.ext hxx
 have s4:=hO4
 haveI:=hB.blt
 have q2:=hB.cell? 2 rfl
 have q3:=hB.cell? 3 rfl
 have z2:=hB.free 2
 have z3:=hB.free 3
 clear f2 f2' f3 g3 g4 hV hRV hEV hxx hO4
 have hS:=(hB.set 2 (.slice b3 n3 d3)).set 3 (.slice b4 n4 d4)
 have hMS:Mut w.heap.size X ((X.setCell ⟨w.heap.size,2,none⟩ (.slice b3 n3 d3)).setCell ⟨w.heap.size,3,none⟩ (.slice b4 n4 d4)):=((Mut.refl _ _).setCell 2 _).setCell 3 _
 have hS:Blk ((X.setCell ⟨w.heap.size,2,none⟩ (.slice b3 n3 d3)).setCell ⟨w.heap.size,3,none⟩ (.slice b4 n4 d4)) w.heap.size 54 [.slice b1 n1 d1, .slice b2 n2 d2, .slice b3 n3 d3, .slice b4 n4 d4, .int .i64 j.net, .int .i64 j.sent]:=hS
 have hRS:=Blk.turn hMS hR (by omega)
 go_wp2_with (first
  | (refine wpList_load_arr (RJ6) rfl _ rfl (w.heap.size) (0) rfl ([.slice b1 n1 d1, .slice b2 n2 d2, .slice b3 n3 d3, .slice b4 n4 d4, .int .i64 j.net, .int .i64 j.sent]) ((hS.rd)) (rfl) ?_)
  | (refine wpList_store_arr (RJ6) rfl _ _ rfl (w.heap.size+1) (0) rfl ([.slice b1 n1 d1, .slice b2 n2 d2, .slice b3 n3 d3, .slice b4 n4 d4, .int .i64 j.net, .int .i64 j.sent]) rfl (54) _ (hRS) (rfl) (by simp) (oC) ?_;intro w9 hB9 hM9)
  | fail)
 refine bodyPost_ret (results_arr Tryz.results112 (RJ6) _ _ (w.heap.size+1) (0) ([.slice b1 n1 d1, .slice b2 n2 d2, .slice b3 n3 d3, .slice b4 n4 d4, .int .i64 j.net, .int .i64 j.sent]) rfl (hB9.rd) (rfl)) rfl ?_
 have hES:Ext w _:=Below.trans hE (hMS.below (Nat.le_refl _) hE.size)
 exact ⟨b1,d1,b2,d2,b3,d3,b4,d4,rfl,(s1.mutT hB (by decide) hMS).mutT hRS (by decide) hM9,(s2.mutT hB (by decide) hMS).mutT hRS (by decide) hM9,(hO3.mut hB (by decide) (by simp) hMS).mut hRS (by decide) (by simp) hM9,(s4.mutT hB (by decide) hMS).mutT hRS (by decide) hM9,Below.trans hES (hM9.below (by omega) hES.size)⟩
end Go.Proofs.YtdmifbfgeeldnaaGreat

/- The walks of layer 22: added. -/
namespace Go.Jar
def addOne (j:Jar) (b:List UInt8):Jar:=if j.ck.length<8∧b ∉ j.ck∧j.last≠b then { j with ck:=j.ck++[b] } else j
def addJ (j:Jar) (l:List (List UInt8)):Jar:=l.foldl addOne j
theorem addJ_snoc (j:Jar) (l:List (List UInt8)) (b:List UInt8):addJ j (l++[b])=addOne (addJ j l) b:=by simp [addJ]
theorem addOne_rest (j:Jar) (b:List UInt8):(addOne j b).up=j.up∧(addOne j b).dn=j.dn∧(addOne j b).last=j.last∧(addOne j b).net=j.net∧(addOne j b).sent=j.sent:=by
 unfold addOne;split <;> simp
theorem addJ_rest (j:Jar) (l:List (List UInt8)):(addJ j l).up=j.up∧(addJ j l).dn=j.dn∧(addJ j l).last=j.last∧(addJ j l).net=j.net∧(addJ j l).sent=j.sent:=by
 unfold addJ
 induction l generalizing j with
 | nil=>simp
 | cons b l ih =>
  obtain ⟨a1,a2,a3,a4,a5⟩:=ih (addOne j b)
  obtain ⟨b1,b2,b3,b4,b5⟩:=addOne_rest j b
  rw [List.foldl_cons]
  exact ⟨a1.trans b1,a2.trans b2,a3.trans b3,a4.trans b4,a5.trans b5⟩
end Go.Jar
namespace Go.Proofs.YtdmifbfgeeldnaaGreat
open Go.RowKit Go.Sec Go.Oct Go.Jar BigFrame
theorem jroom_any (a1 a2 a3 a4:Option Addr)(n1 c1 n2 c2 n3 c3 n4 c4:Nat) (x y:Int) (w:World)(hn:n3≤1000000) :
  Calls Tryz.prog 68 #[.agg #[.slice a1 n1 c1, .slice a2 n2 c2, .slice a3 n3 c3, .slice a4 n4 c4, .int .i64 x, .int .i64 y]] w fun e w'=>e = .returned (.int .i64 (8-(n3:Int)))∧Ext w w':=by
 go_enter Tryz.func68,Tryz.ntmps68
 go_wp2
 go_ret
 exact ⟨rfl,eX⟩
def NewB (l:List UInt8)(w:World)(a:Option Addr):Prop:=∃ g ga n cc,a=some ⟨g,0,none⟩∧Rd w a [.slice ga n cc]∧Own w 0 ga n cc l
theorem NewB.ext {l:List UInt8} {w w':World} {a:Option Addr} (h:NewB l w a) (hx:Ext w w'):NewB l w' a:=by
 obtain ⟨g,ga,n,cc,h1,h2,h3⟩:=h
 exact ⟨g,ga,n,cc,h1,h2.ext hx,h3.ext hx⟩
theorem NewB.mk {l:List UInt8} {w:World} {ga:Option Addr} {n cc:Nat} (h:Own w 0 ga n cc l) (T:TypeId):NewB l (w.alloc (.cells #[.slice ga n cc] T)) (some ⟨w.heap.size,0,none⟩) :=
 ⟨_,ga,n,cc,rfl,(Blk.new w #[.slice ga n cc] T).rd,h.ext (Ext.of_alloc _ _)⟩
set_option maxHeartbeats 8000000 in
theorem jadded_any (a1 a2 a3 a4 a:Option Addr)(n1 c1 n2 c2 n3 c3 n4 c4 n c:Nat) (j:Jar) (L:List (List UInt8)) (w:World)(h1:Sl w a1 n1 j.up) (m1:n1≤1000000) (h2:Sl w a2 n2 j.dn) (m2:n2≤1000000) (h3:Bsc w a3 n3 j.ck) (hn3:n3≤100000) (hb3:∀ x∈j.ck,x.length≤1000000) (h4:Sl w a4 n4 j.last) (m4:n4≤1000000)
  (hL:Bsc w a n L) (hnn:n≤100000) (hbL:∀ x∈L,x.length≤1000000) :
  Calls Tryz.prog 73 #[.agg #[.slice a1 n1 c1, .slice a2 n2 c2, .slice a3 n3 c3, .slice a4 n4 c4, .int .i64 j.net, .int .i64 j.sent], .slice a n c] w (JarO (addJ j L) n1 n2 (addJ j L).ck.length n4 w):=by
 have hLl:=hL.len
 have hl3:=h3.len
 have hcl:=fun W H1 H2 H3 H4=>jclone_any a1 a2 a3 a4 n1 c1 n2 c2 n3 c3 n4 c4 j W H1 m1 H2 m2 H3 hn3 hb3 H4 m4
 obtain ⟨r1,r2,r3,r4,r5⟩:=addJ_rest j L
 have hrest:=fun k=>(addJ_rest j (L.take k)).2.2.1
 unfold JarO
 rw [r1,r2,r3,r4,r5]
 clear r1 r2 r3 r4 r5
 go_enter Tryz.func73,Tryz.ntmps73
 go_wp2_with fail
 have hx0:Ext w ((w.alloc (.cells #[.slice a1 n1 c1, .slice a2 n2 c2, .slice a3 n3 c3, .slice a4 n4 c4, .int .i64 j.net, .int .i64 j.sent] 54)).alloc (.cells #[.slice none 0 0, .slice none 0 0, .slice none 0 0, .slice none 0 0, .int .i64 0, .int .i64 0] 54)):=eX
 have hR:Blk ((w.alloc (.cells #[.slice a1 n1 c1, .slice a2 n2 c2, .slice a3 n3 c3, .slice a4 n4 c4, .int .i64 j.net, .int .i64 j.sent] 54)).alloc (.cells #[.slice none 0 0, .slice none 0 0, .slice none 0 0, .slice none 0 0, .int .i64 0, .int .i64 0] 54)) (w.heap.size+1) 54 [.slice none 0 0, .slice none 0 0, .slice none 0 0, .slice none 0 0, .int .i64 0, .int .i64 0]:=bK
 (with_reducible refine (hcl _ (h1.ext hx0) (h2.ext hx0) (h3.ext hx0) (h4.ext hx0)).mono ?_)
 rintro e w1 ⟨b1,d1,b2,d2,b3,d3,b4,d4,rfl,o1,o2,⟨B,hB0,hBs,o3⟩,o4,hx1⟩
 have hE1:=hx0.trans hx1
 have hR:=hR.extB hx1
 rw [World.size_alloc,World.size_alloc] at hB0
 have hlt:=hR.lt
 clear hx0 hx1 hcl
 go_wp2_with (first
  | (refine wpList_alloc_store (RJ6) rfl rfl _ _ rfl rfl rfl rfl (by simp [Act.put]) ([.slice b1 n1 d1, .slice b2 n2 d2, .slice b3 n3 d3, .slice b4 n4 d4, .int .i64 j.net, .int .i64 j.sent]) rfl (by simp) (rfl) (oC) ?_;intro x hz _)
  | fail)
 obtain ⟨W,hW⟩:∃ W,W=w1.ext x:=⟨_,rfl⟩
 have hxW:Ext w1 W:=by rw [hW];exact eX
 rw [← hW] at hz ⊢
 obtain ⟨gO,hgO⟩:∃ g,g=w1.heap.size:=⟨_,rfl⟩
 rw [← hgO] at hz hlt ⊢
 have o1:=o1.ext hxW
 have o2:=o2.ext hxW
 have o3:=o3.ext hxW
 have o4:=o4.ext hxW
 have hR:=hR.extB hxW
 have hE:=hE1.trans hxW
 have hBs:=Nat.le_trans hBs hxW.size
 clear hW hxW hE1 hgO
 go_loopw [7,12] (fun _ v12 wr=>∃ (k:Nat) (sa:Option Addr)(sc:Nat) (J:Jar),k≤n∧v12 = .int .i64 k∧Hid (J=addJ j (L.take k))∧Blk wr gO 54 [.slice b1 n1 d1, .slice b2 n2 d2, .slice sa J.ck.length sc, .slice b4 n4 d4, .int .i64 j.net, .int .i64 j.sent]∧OwnB wr B sa J.ck.length sc J.ck∧B≤wr.heap.size∧Own wr 0 b1 n1 d1 j.up∧Own wr 0 b2 n2 d2 j.dn∧Own wr 0 b4 n4 d4 j.last∧Blk wr (w.heap.size+1) 54 [.slice none 0 0, .slice none 0 0, .slice none 0 0, .slice none 0 0, .int .i64 0, .int .i64 0]∧Ext w wr) (fun _ v12 _=>n-(intOf v12).toNat)
 case atStart=>exact ⟨0,b3,d3,j,Nat.zero_le _,rfl,Lib.hid (by rw [q9q];rfl),(by rw [hl3];exact hz),(by rw [hl3];exact o3),hBs,o1,o2,o4,hR,hE⟩
 case round =>
  clear hz o3 hBs o1 o2 o4 hR hE
  obtain ⟨k,sa,sc,J,hk,rfl,hJ,hz,o3,hBs,o1,o2,o4,hR,hE⟩:=hrel
  haveI:=hz.blt
  have f2:wr.cell? ⟨gO,2,none⟩=some (.slice sa J.ck.length sc):=hz.cell? 2 rfl
  have f3:wr.cell? ⟨gO,3,none⟩=some (.slice b4 n4 d4):=hz.cell? 3 rfl
  by_cases hlt2:k<n
  ·have hk0:(0:Int)≤(k:Int):=by omega
   have hkn:(k:Int)<(n:Int):=by omega
   obtain ⟨b0,o0,a',n',c',rfl,hb0,hcell,hc',hS⟩:=(hL.ext hE).at k hlt2
   have hkL:k<L.length:=by omega
   have hts:L.take (k+1)=L.take k++[L[k]]:=List.take_succ_eq_append_getElem hkL
   have hbx:=hbL _ (List.getElem_mem hkL)
   generalize L[k]=X at *
   have hXl:=hS.len
   haveI:=hb0
   have hsn:addJ j (L.take (k+1))=addOne J X:=by rw [hts,addJ_snoc,← hJ.out]
   have o3b:=o3.bsc
   have o4s:=o4.sl
   have ghs:=fun V (hh:J.ck.length≤1000000) H1 H2=>has_any sa a' J.ck.length sc n' c' J.ck X V H1 hh H2
   have gsm:=fun V H1 H2=>osame_any b4 a' n4 d4 n' c' j.last X V H1 H2
   by_cases q1:J.ck.length<8
   ·have q1i:(J.ck.length:Int)<8:=by omega
    cases q2:decide (X∈J.ck)
    ·have q2':=of_decide_eq_false q2
     simp only [q2] at ghs
     clear q2
     cases q3:(j.last == X)
     ·simp only [q3] at gsm
      have q3':J.last≠X:=by rw [hJ.out,hrest k];simpa using q3
      have hJ2:=Lib.hid (show ({ J with ck:=J.ck++[X] }:Jar)=addJ j (L.take (k+1)) by rw [hsn];unfold addOne;rw [if_pos ⟨q1,q2',q3'⟩])
      clear hsn hts q3 q3' q2'
      go_wp2_with (first
       | (go_at_call 79;refine (ghs _ (by omega) (o3b.ext eX) (hS.ext eX)).mono ?_;rintro e w1 ⟨rfl,hxq⟩;obtain ⟨xq,rfl⟩:=hxq.out;clear hxq)
       | (go_at_call 71;refine (gsm _ (o4s.ext eX) (hS.ext eX)).mono ?_;rintro e w1 ⟨rfl,hxq⟩;obtain ⟨xq,rfl⟩:=hxq.out;clear hxq)
       | fail)
      refine nameW ?_
      intro W3 hW3
      have hE3:Ext wr W3:=by rw [hW3];exact eX
      clear hW3
      have hz:=hz.extB hE3
      have o3:=o3.ext hE3
      have o1:=o1.ext hE3
      have o2:=o2.ext hE3
      have o4:=o4.ext hE3
      have hR:=hR.extB hE3
      have hE:=hE.trans hE3
      have hBs:=Nat.le_trans hBs hE3.size
      have hS:=hS.ext hE3
      haveI:=hz.blt
      have f2:W3.cell? ⟨gO,2,none⟩=some (.slice sa J.ck.length sc):=hz.cell? 2 rfl
      clear f3 hE3 o3b o4s gsm ghs
      refine wp_region_vague 5 [[],[0],[],[2],[2,3],[0,1,2,3,4],[0,1,2,3,4,5],[0,1,2,3,4,5,6]] (by kernel_rfl) (by kernel_rfl) (by kernel_rfl) (by kernel_rfl) ?_;simp only [q8q,q9q,q10q,q11q,q12q,q13q]
      (repeat (refine VD_a ?_;(try simp only [Act.put,q0q,q1q,q2q])))
      (refine VD_vag (fun p => .slice (p 0).1 (n') (p 0).2) (fun p w''=>Own w'' 0 (p 0).1 (n') (p 0).2 (X)) (fun p w w' h hx=>h.ext hx) (fun us w' hx hf=>⟨rfl,?_⟩) ?_;(unfold gives;simp [go_sem,execOp];exact vag_fresh (Nat.zero_le _) (clone_any a' n' c' X _ (hS.ext hx) (by omega))))
      (refine VD_vag (fun p => .slice (p 0).1 1 1) (fun p w''=>NewB X w'' (p 0).1) (fun p w w' h hx=>by first|exact h.ext hx|exact ⟨h.1.ext hx,h.2.ext hx⟩|exact ⟨h.1.ext hx,h.2⟩|exact ⟨h.1.ext hx,h.2.1.ext hx,h.2.2.ext hx⟩) (fun us w' hx hf=>⟨rfl,?_⟩) ?_;(unfold gives;simp [go_sem,execOp];exact ⟨fun _=>(some ⟨w'.heap.size,0,none⟩,0),rfl,Ext.of_alloc _ _,NewB.mk (hf _ (List.mem_append_right _ (List.mem_singleton_self _)) rfl) _⟩))
      (refine VD_z ?_;intro us x hx hf;(try simp only [Act.put,q0q,q1q,q2q,wpList_none]);(try simp only [q3q,q4q,or_false,forall_eq_or_imp,forall_eq,q5q,q6q,q7q,false_or,true_and,and_true] at hf);(try simp only [Nat.reduceAdd,Nat.zero_add] at hf ⊢))
      obtain ⟨_,hN⟩:=hf
      obtain ⟨aN,haN⟩:∃ a,(us 4 0).1=a:=⟨_,rfl⟩
      rw [haN] at hN ⊢
      clear haN
      obtain ⟨gn,ga,nn,cc,rfl,hRd,hOn⟩:=hN
      have hxx:Ext W3 (W3.ext x):=Ext.of_ext _ _
      have o3x:=o3.ext hxx
      have hzx:=hz.extB hxx
      have hRx:=hR.extB hxx
      have hEx:=hE.trans hxx
      have hBx:=Nat.le_trans hBs hxx.size
      have o1:=o1.ext hxx
      have o2:=o2.ext hxx
      have o4:=o4.ext hxx
      clear o3 hz hR hE hBs hxx f2
      refine wpList_append_one V8 rfl _ _ rfl B sa J.ck.length sc J.ck rfl gn rfl o3x ga nn cc X hRd hOn.sl hOn.le.1 (Own.inBlk hOn) (by omega) hBx ?_
      intro sa' sc' w6 hO6 hg6 hb6
      have hz6:=hzx.grown hg6 (o3x.blk hzx (by decide))
      have hR6:=hRx.grown hg6 (o3x.blk hRx (by decide))
      have o1:=o1.grownB o3x hg6
      have o2:=o2.grownB o3x hg6
      have o4:=o4.grownB o3x hg6
      have hE6:Ext w w6:=Below.trans hEx (hb6.mono (by omega))
      have hB6:=Nat.le_trans hBx hb6.size
      haveI:=hz6.blt
      have q2:=hz6.cell? 2 rfl
      have z2:=hz6.free 2
      go_wp2
      have hset:=hz6.set 2 (.slice sa' (J.ck.length+1) sc')
      have hM:Mut gO w6 (w6.setCell ⟨gO,2,none⟩ (.slice sa' (J.ck.length+1) sc')):=(Mut.refl _ _).setCell 2 _
      go_roundw
      case rel=>exact ⟨k+1,sa',sc',{ J with ck:=J.ck++[X] },by omega,by go_num,hJ2,(by rw [List.length_append];exact hset),(by rw [List.length_append];exact hO6.mut hz6 (by decide) (by simp) hM),Nat.le_trans hB6 hM.size,o1.mutT hz6 (by decide) hM,o2.mutT hz6 (by decide) hM,o4.mutT hz6 (by decide) hM,Blk.turn hM hR6 (by omega),Below.trans hE6 (hM.below (by omega) hE6.size)⟩
      case measure=>simp [intOf];omega
     ·simp only [q3] at gsm
      have q3':J.last=X:=by rw [hJ.out,hrest k];simpa using q3
      clear q3
      have hJ2:=Lib.hid (show J=addJ j (L.take (k+1)) by rw [hsn];unfold addOne;rw [if_neg (fun h=>h.2.2 q3')])
      clear hsn hts hXl
      go_wp2_with (first
       | (go_at_call 79;refine (ghs _ (by omega) (o3b.ext eX) (hS.ext eX)).mono ?_;rintro e w1 ⟨rfl,hxq⟩;obtain ⟨xq,rfl⟩:=hxq.out;clear hxq)
       | (go_at_call 71;refine (gsm _ (o4s.ext eX) (hS.ext eX)).mono ?_;rintro e w1 ⟨rfl,hxq⟩;obtain ⟨xq,rfl⟩:=hxq.out;clear hxq)
       | fail)
      go_roundw
      case rel=>exact ⟨k+1,sa,sc,J,by omega,by go_num,hJ2,hz.extB eX,o3.ext eX,Nat.le_trans hBs (show Ext wr _ from eX).size,o1.ext eX,o2.ext eX,o4.ext eX,hR.extB eX,hE.trans eX⟩
      case measure=>simp [intOf];omega
    ·have q2':=of_decide_eq_true q2
     simp only [q2] at ghs
     clear q2
     have hJ2:=Lib.hid (show J=addJ j (L.take (k+1)) by rw [hsn];unfold addOne;rw [if_neg (fun h=>h.2.1 q2')])
     clear hsn hts hXl
     go_wp2_with (first
      | (go_at_call 79;refine (ghs _ (by omega) (o3b.ext eX) (hS.ext eX)).mono ?_;rintro e w1 ⟨rfl,hxq⟩;obtain ⟨xq,rfl⟩:=hxq.out;clear hxq)
      | (go_at_call 71;refine (gsm _ (o4s.ext eX) (hS.ext eX)).mono ?_;rintro e w1 ⟨rfl,hxq⟩;obtain ⟨xq,rfl⟩:=hxq.out;clear hxq)
      | fail)
     go_roundw
     case rel=>exact ⟨k+1,sa,sc,J,by omega,by go_num,hJ2,hz.extB eX,o3.ext eX,Nat.le_trans hBs (show Ext wr _ from eX).size,o1.ext eX,o2.ext eX,o4.ext eX,hR.extB eX,hE.trans eX⟩
     case measure=>simp [intOf];omega
   ·have q1i:¬ (J.ck.length:Int)<8:=by omega
    have hJ2:=Lib.hid (show J=addJ j (L.take (k+1)) by rw [hsn];unfold addOne;rw [if_neg (fun h=>q1 h.1)])
    clear hsn hts hXl
    go_wp2_with (first
     | (go_at_call 79;refine (ghs _ (by omega) (o3b.ext eX) (hS.ext eX)).mono ?_;rintro e w1 ⟨rfl,hxq⟩;obtain ⟨xq,rfl⟩:=hxq.out;clear hxq)
     | (go_at_call 71;refine (gsm _ (o4s.ext eX) (hS.ext eX)).mono ?_;rintro e w1 ⟨rfl,hxq⟩;obtain ⟨xq,rfl⟩:=hxq.out;clear hxq)
     | fail)
    go_roundw
    case rel=>exact ⟨k+1,sa,sc,J,by omega,by go_num,hJ2,hz.extB eX,o3.ext eX,Nat.le_trans hBs (show Ext wr _ from eX).size,o1.ext eX,o2.ext eX,o4.ext eX,hR.extB eX,hE.trans eX⟩
    case measure=>simp [intOf];omega
  ·obtain rfl:k=n:=by omega
   have hkn:¬ (k:Int)<(k:Int):=by omega
   rw [List.take_of_length_le (by omega)] at hJ
   have hJe:=hJ.out
   go_wp2_with (first
    | (refine wpList_load_arr (RJ6) rfl _ rfl (gO) (0) rfl ([.slice b1 n1 d1, .slice b2 n2 d2, .slice sa J.ck.length sc, .slice b4 n4 d4, .int .i64 j.net, .int .i64 j.sent]) (((hz.extB eX).rd)) (rfl) ?_)
    | (refine wpList_store_arr (RJ6) rfl _ _ rfl (w.heap.size+1) (0) rfl ([.slice b1 n1 d1, .slice b2 n2 d2, .slice sa J.ck.length sc, .slice b4 n4 d4, .int .i64 j.net, .int .i64 j.sent]) rfl (54) _ ((hR.extB eX)) (rfl) (by simp) (oC) ?_;intro w9 hB9 hM9)
    | fail)
   refine bodyPost_ret (results_arr Tryz.results73 (RJ6) _ _ (w.heap.size+1) (0) ([.slice b1 n1 d1, .slice b2 n2 d2, .slice sa J.ck.length sc, .slice b4 n4 d4, .int .i64 j.net, .int .i64 j.sent]) rfl (hB9.rd) (rfl)) rfl ?_
   rw [← hJe]
   have hEz:Ext w w9:=Below.trans hE (hM9.below (by omega) hE.size)
   exact ⟨b1,d1,b2,d2,sa,sc,b4,d4,rfl,o1.mutT hR (by decide) hM9,o2.mutT hR (by decide) hM9,⟨B,by omega,Nat.le_trans hBs hM9.size,o3.mut hR (by decide) (by simp) hM9⟩,o4.mutT hR (by decide) hM9,hEz⟩
end Go.Proofs.YtdmifbfgeeldnaaGreat

/- The walks of layer 22: Put's test, Want, Again. -/
namespace Go.Jar
def allC (L:List (List UInt8)):Bool:=L.all fun b=>decide (b.length=104)
theorem allC_bad {L:List (List UInt8)} {b:List UInt8} (h:b∈L) (hb:b.length≠104):allC L=false:=by
 unfold allC
 rw [List.all_eq_false]
 exact ⟨b,h,by simpa using hb⟩
def wantJ (j:Jar):Int × Int:=if validJ j then (8-(j.ck.length:Int),0) else (0,3)
def againJ (j:Jar):List UInt8 × Int:=if validJ j then (if j.last.length=0 then ([],10) else (j.last,0)) else ([],3)
end Go.Jar
namespace Go.Proofs.YtdmifbfgeeldnaaGreat
open Go.RowKit Go.Sec Go.Oct Go.Jar BigFrame
def IdxPut (L:List (List UInt8)) (w:World)(e:Ending) (w':World):Prop:=∃ r:Int,e = .returned (.int .i64 r)∧(0≤r ↔ allC L=false)∧Ext w w'
set_option maxHeartbeats 4000000 in
theorem jwant_any (a1 a2 a3 a4:Option Addr)(n1 c1 n2 c2 n3 c3 n4 c4:Nat) (j:Jar) (w:World)(h1:Sl w a1 n1 j.up) (h2:Sl w a2 n2 j.dn) (h3:Bsc w a3 n3 j.ck) (hc3:n3≤c3) (hn3:n3≤1000000) (h4:Sl w a4 n4 j.last) :
  Calls Tryz.prog 33 #[.agg #[.slice a1 n1 c1, .slice a2 n2 c2, .slice a3 n3 c3, .slice a4 n4 c4, .int .i64 j.net, .int .i64 j.sent]] w fun e w'=>e = .returned (.tuple #[.int .i64 (wantJ j).1, .int .i64 (wantJ j).2])∧Ext w w':=by
 have hl3:=h3.len
 have hv:=fun W H1 H2 H3 H4=>jvalid_any a1 a2 a3 a4 n1 c1 n2 c2 n3 c3 n4 c4 j W H1 H2 H3 hc3 hn3 H4
 have hr:=fun W=>jroom_any a1 a2 a3 a4 n1 c1 n2 c2 n3 c3 n4 c4 j.net j.sent W hn3
 unfold wantJ
 rw [hl3]
 clear hl3
 go_enter Tryz.func33,Tryz.ntmps33
 cases q:validJ j
 ·simp only [q] at hv
  go_wp2_with (first
   | (go_at_call 35;refine (hv _ (h1.ext eX) (h2.ext eX) (h3.ext eX) (h4.ext eX)).mono ?_;rintro e w1 ⟨rfl,hxq⟩;obtain ⟨xq,rfl⟩:=hxq.out;clear hxq)
   | fail)
  refine bodyPost_ret (v := .tuple #[.int .i64 0, .int .i64 3]) (by simp [results,Tryz.results33,go_sem]) rfl ?_
  exact ⟨rfl,eX⟩
 ·simp only [q] at hv
  go_wp2_with (first
   | (go_at_call 35;refine (hv _ (h1.ext eX) (h2.ext eX) (h3.ext eX) (h4.ext eX)).mono ?_;rintro e w1 ⟨rfl,hxq⟩;obtain ⟨xq,rfl⟩:=hxq.out;clear hxq)
   | (go_at_call 68;refine (hr _).mono ?_;rintro e w1 ⟨rfl,hxq⟩;obtain ⟨xq,rfl⟩:=hxq.out;clear hxq)
   | fail)
  refine bodyPost_ret (v := .tuple #[.int .i64 (8-(n3:Int)), .int .i64 0]) (by simp [results,Tryz.results33,go_sem]) rfl ?_
  exact ⟨rfl,eX⟩
end Go.Proofs.YtdmifbfgeeldnaaGreat

/- The walks of layer 22: Put. -/
namespace Go.Jar
def putJ (j:Jar) (L:List (List UInt8)):Jar × Int:=if validJ j && allC L then (addJ j L,0) else (zeroJ,3)
end Go.Jar
namespace Go.Sec
open Go.RowKit
def Typ3 (w:World)(a:Option Addr):Prop:=∀ b o,a=some ⟨b,o,none⟩→∃ vs,Blk w b 33 vs
theorem Typ3.none (w:World):Typ3 w none:=fun _ _ h=>by cases h
theorem Typ3.ext {w w':World} {a:Option Addr} (h:Typ3 w a) (hx:Ext w w'):Typ3 w' a:=fun b o e=>(h b o e).imp fun _ h=>h.extB hx
theorem Typ3.ne {w:World} {a:Option Addr} {g:Nat} {T:TypeId} {us:List Value} (h:Typ3 w a) (hB:Blk w g T us) (hT:T≠33):∀ b o,a=some ⟨b,o,Option.none⟩→b≠g:=fun b o e hbg=>by
 obtain ⟨vs,hv⟩:=h b o e
 subst hbg
 unfold Blk at hv hB
 rw [hv] at hB
 injection hB with hB
 injection hB with _ hB
 exact hT hB.symm
theorem Typ3.mut {w w':World} {a:Option Addr} {g:Nat} {T:TypeId} {us:List Value} (h:Typ3 w a) (hB:Blk w g T us) (hT:T≠33) (hM:Mut g w w'):Typ3 w' a:=fun b o e=>(h b o e).imp fun _ hv=>Blk.turn hM hv (h.ne hB hT b o e)
theorem OwnB.typ3 {w:World} {base n c:Nat} {a:Option Addr} {L:List (List UInt8)} (h:OwnB w base a n c L):Typ3 w a:=fun b o e=>by
 obtain ⟨_,xs,h2,_⟩:=h
 rcases h2.2 with ⟨h1,_⟩|⟨g,cap,cur,hv,hb,hg,_⟩
 ·injection h1 with h1;rw [h1] at e;cases e
 ·injection hv with h1;rw [h1] at e;injection e with e;injection e with e _
  subst e
  exact ⟨cur.toList,by unfold Blk;simpa using hg⟩
end Go.Sec
namespace Go.Proofs.YtdmifbfgeeldnaaGreat
open Go.RowKit Go.Sec Go.Oct Go.Jar BigFrame
theorem nameC {P:Program} {f:FuncId} {vs:Array Value} {w:World} {Q:Ending→World→Prop} (h:∀ W,W=w→Calls P f vs W Q):Calls P f vs w Q:=h w rfl
def JarE (r:Jar × Int) (w:World)(e:Ending) (w':World):Prop:=∃ b1 n1 d1 b2 n2 d2 b3 n3 d3 b4 n4 d4,e = .returned (.tuple #[.agg #[.slice b1 n1 d1, .slice b2 n2 d2, .slice b3 n3 d3, .slice b4 n4 d4, .int .i64 r.1.net, .int .i64 r.1.sent], .int .i64 r.2]) ∧
 Own w' 0 b1 n1 d1 r.1.up∧Own w' 0 b2 n2 d2 r.1.dn∧Bsc w' b3 n3 r.1.ck∧n3≤d3∧Typ3 w' b3∧Own w' 0 b4 n4 d4 r.1.last∧Ext w w'
theorem JarE.zero (w w':World)(e:Int) (hx:Ext w w'):JarE (zeroJ,e) w (.returned (.tuple #[.agg #[.slice none 0 0, .slice none 0 0, .slice none 0 0, .slice none 0 0, .int .i64 0, .int .i64 0], .int .i64 e])) w' :=
 ⟨none,0,0,none,0,0,none,0,0,none,0,0,rfl,Own.nil _ _,Own.nil _ _,Bsc.nil _ _,Nat.le_refl _,Typ3.none _,Own.nil _ _,hx⟩
end Go.Proofs.YtdmifbfgeeldnaaGreat

/- The walks of layer 22: Move. -/
namespace Go.Jar
def moveJ (j:Jar) (k:Int):Jar × Int:=if validJ j then (if k<0 then (zeroJ,4) else (if k=j.net then j else { j with last:=[],net:=k },0)) else (zeroJ,3)
end Go.Jar
namespace Go.Proofs.YtdmifbfgeeldnaaGreat
open Go.RowKit Go.Sec Go.Oct Go.Jar BigFrame
end Go.Proofs.YtdmifbfgeeldnaaGreat

/- The walks of layer 22: Take. -/
namespace Go.Jar
def takeJ (j:Jar):(Jar × List UInt8) × Int :=
 if validJ j then (if j.ck.length=0 then ((zeroJ,[]),10) else if j.sent=1099511627776 then ((zeroJ,[]),7) else (({ j with last:=j.ck.headD [],ck:=j.ck.tail,sent:=j.sent+1 },j.ck.headD []),0)) else ((zeroJ,[]),3)
end Go.Jar
namespace Go.Sec
open Go.RowKit
theorem Bsc.tail {w:World} {b o n:Nat} {y:List UInt8} {L:List (List UInt8)} (h:Bsc w (some ⟨b,o,none⟩) n (y :: L)):Bsc w (some ⟨b,o+1,none⟩) (n-1) L:=by
 have hl:=h.len
 rw [List.length_cons] at hl
 refine ⟨by omega,?_⟩
 rcases h.row with h0|⟨b',o',ha,hb,hc⟩
 ·omega
 ·injection ha with ha
  injection ha with e1 e2
  subst e1 e2
  refine .inr ⟨b,o+1,rfl,hb,fun k hk=>?_⟩
  obtain ⟨a',n',c',h1,h2,h3⟩:=hc (k+1) (by rw [List.length_cons];omega)
  exact ⟨a',n',c',by rw [show o+1+k=o+(k+1) by omega];exact h1,h2,h3⟩
theorem OwnB.base {w:World} {base b o n c:Nat} {a:Option Addr} {L:List (List UInt8)} (h:OwnB w base a n c L) (ha:a=some ⟨b,o,none⟩):base≤b:=by
 obtain ⟨_,xs,h2,_⟩:=h
 rcases h2.2 with ⟨h1,_⟩|⟨g,cap,cur,hv,hb,_⟩
 ·injection h1 with h1;rw [h1] at ha;cases ha
 ·injection hv with h1;rw [h1] at ha;injection ha with ha;injection ha with ha _;omega
theorem Bsc.mutNe {w w':World} {g n:Nat} {t:TypeId} {a:Option Addr} {L:List (List UInt8)} {vs:List Value} (h:Bsc w a n L) (hg:∀ b o,a=some ⟨b,o,none⟩→b≠g) (hB:Blk w g t vs) (hne:∀ v∈vs,∀ x,v ≠ .int .u8 x) (hM:Mut g w w'):Bsc w' a n L:=by
 refine ⟨h.len,h.row.imp id ?_⟩
 rintro ⟨b,off,ha,hb,hc⟩
 refine ⟨b,off,ha,Nat.lt_of_lt_of_le hb hM.size,fun k hk=>?_⟩
 obtain ⟨a',n',c',h1,h3,h2⟩:=hc k hk
 exact ⟨a',n',c',(World.cell?_of_block (hM.block b hb (fun e=>hg b off ha (by injection e)))).trans h1,h3,h2.mut hB hne hM⟩
end Go.Sec
namespace Go.Proofs.YtdmifbfgeeldnaaGreat
open Go.RowKit Go.Sec Go.Oct Go.Jar BigFrame
def TakeE (r:(Jar × List UInt8) × Int) (w:World)(e:Ending) (w':World):Prop:=∃ b1 n1 d1 b2 n2 d2 b3 n3 d3 b4 n4 d4 b5 n5 d5,e = .returned (.tuple #[.agg #[.slice b1 n1 d1, .slice b2 n2 d2, .slice b3 n3 d3, .slice b4 n4 d4, .int .i64 r.1.1.net, .int .i64 r.1.1.sent], .slice b5 n5 d5, .int .i64 r.2]) ∧
 Own w' 0 b1 n1 d1 r.1.1.up∧Own w' 0 b2 n2 d2 r.1.1.dn∧Bsc w' b3 n3 r.1.1.ck∧n3≤d3∧Sl w' b4 n4 r.1.1.last∧n4≤d4∧Own w' 0 b5 n5 d5 r.1.2∧(∀ b o,b3=some ⟨b,o,none⟩→w.heap.size≤b)∧Typ3 w' b3∧Ext w w'
theorem TakeE.zero (w w':World)(e:Int) (hx:Ext w w'):TakeE ((zeroJ,[]),e) w (.returned (.tuple #[.agg #[.slice none 0 0, .slice none 0 0, .slice none 0 0, .slice none 0 0, .int .i64 0, .int .i64 0], .slice none 0 0, .int .i64 e])) w' :=
 ⟨none,0,0,none,0,0,none,0,0,none,0,0,none,0,0,rfl,Own.nil _ _,Own.nil _ _,Bsc.nil _ _,Nat.le_refl _,Sl.nil _ _,Nat.le_refl _,Own.nil _ _,(fun _ _ h=>by cases h),Typ3.none _,hx⟩
theorem _root_.z28q78{p:Prop}(h:p:=by
 have:=q;unfold validJ at this;rw [Bool.and_eq_true] at this;exact of_decide_eq_true this.1):p:=h
set_option maxHeartbeats 2000000 in
theorem jtake_any (a1 a2 a3 a4:Option Addr)(n1 c1 n2 c2 n3 c3 n4 c4:Nat) (j:Jar) (w:World)(h1:Sl w a1 n1 j.up) (m1:n1≤1000000) (h2:Sl w a2 n2 j.dn) (m2:n2≤1000000) (h3:Bsc w a3 n3 j.ck) (hc3:n3≤c3) (hn3:n3≤100000) (hb3:∀ x∈j.ck,x.length≤1000000) (h4:Sl w a4 n4 j.last) (m4:n4≤1000000) (hs0:0≤j.sent∨validJ j=false) :
  Calls Tryz.prog 67 #[.agg #[.slice a1 n1 c1, .slice a2 n2 c2, .slice a3 n3 c3, .slice a4 n4 c4, .int .i64 j.net, .int .i64 j.sent]] w (TakeE (takeJ j) w):=by
 have hl3:=h3.len
 have hv:=fun W H1 H2 H3 H4=>jvalid_any a1 a2 a3 a4 n1 c1 n2 c2 n3 c3 n4 c4 j W H1 H2 H3 hc3 (by omega) H4
 have hcl:=fun W H1 H2 H3 H4=>jclone_any a1 a2 a3 a4 n1 c1 n2 c2 n3 c3 n4 c4 j W H1 m1 H2 m2 H3 hn3 hb3 H4 m4
 obtain ⟨r,hr⟩:∃ r,takeJ j=r:=⟨_,rfl⟩
 rw [hr]
 replace hr:=Lib.hid hr
 have hl3:=h3.len
 go_enter Tryz.func67,Tryz.ntmps67
 go_wp2_with fail
 refine nameC ?_
 intro W hW
 have hE:Ext w W:=by rw [hW];exact eX
 have hB:Blk W w.heap.size 54 [.slice a1 n1 c1, .slice a2 n2 c2, .slice a3 n3 c3, .slice a4 n4 c4, .int .i64 j.net, .int .i64 j.sent]:=by rw [hW];exact bK
 have hR:Blk W (w.heap.size+1) 54 [.slice none 0 0, .slice none 0 0, .slice none 0 0, .slice none 0 0, .int .i64 0, .int .i64 0]:=by rw [hW];exact bK
 clear hW
 (with_reducible refine (hv _ (h1.ext hE) (h2.ext hE) (h3.ext hE) (h4.ext hE)).mono ?_)
 rintro e w0 ⟨rfl,hx0⟩
 have hE:=hE.trans hx0
 have hB:=hB.extB hx0
 have hR:=hR.extB hx0
 clear hx0 hv
 haveI:=hB.blt
 haveI:=hR.blt
 have f1:=hB.cell? 2 rfl
 have f5:=hB.cell? 5 rfl
 cases q:validJ j
 ·have er:=Lib.hid (show r=((zeroJ,[]),3) by rw [← hr.out];unfold takeJ;rw [q];rfl)
  clear hs0 hr
  go_wp2_with (first
   | (refine wpList_store_arr (RJ6) rfl _ _ rfl (w.heap.size+1) (0) rfl ([.slice none 0 0, .slice none 0 0, .slice none 0 0, .slice none 0 0, .int .i64 0, .int .i64 0]) rfl (54) _ (hR) (rfl) (by simp) (oC) ?_;intro V hV hMV)
   | fail)
  refine bodyPost_ret (results_arr_tmp2 Tryz.results67 (RJ6) _ _ (w.heap.size+1) (0) ([.slice none 0 0, .slice none 0 0, .slice none 0 0, .slice none 0 0, .int .i64 0, .int .i64 0]) rfl (hV.rd) (rfl) (.slice none 0 0) (.int .i64 3) rfl rfl) rfl ?_
  rw [er.out]
  exact TakeE.zero _ _ _ (Below.trans hE (hMV.below (by omega) hE.size))
 ·have hhd:headJ j:=by
   exact z28q78
  obtain ⟨-, -, -, -, -,hsn0,hsn1⟩:=hhd
  by_cases q0:n3=0
  ·have er:=Lib.hid (show r=((zeroJ,[]),10) by rw [← hr.out];unfold takeJ;rw [q,if_pos rfl,if_pos (by omega)])
   have q0i:((n3:Int) == 0)=true:=by rw [beq_iff_eq];omega
   clear hs0 hr
   go_wp2_with (first
    | (refine wpList_store_arr (RJ6) rfl _ _ rfl (w.heap.size+1) (0) rfl ([.slice none 0 0, .slice none 0 0, .slice none 0 0, .slice none 0 0, .int .i64 0, .int .i64 0]) rfl (54) _ (hR) (rfl) (by simp) (oC) ?_;intro V hV hMV)
    | fail)
   refine bodyPost_ret (results_arr_tmp2 Tryz.results67 (RJ6) _ _ (w.heap.size+1) (0) ([.slice none 0 0, .slice none 0 0, .slice none 0 0, .slice none 0 0, .int .i64 0, .int .i64 0]) rfl (hV.rd) (rfl) (.slice none 0 0) (.int .i64 10) rfl rfl) rfl ?_
   rw [er.out]
   exact TakeE.zero _ _ _ (Below.trans hE (hMV.below (by omega) hE.size))
  ·have q0i:((n3:Int) == 0)=false:=by rw [beq_eq_false_iff_ne];omega
   by_cases qs:j.sent=1099511627776
   ·have er:=Lib.hid (show r=((zeroJ,[]),7) by rw [← hr.out];unfold takeJ;rw [q,if_pos rfl,if_neg (by omega),if_pos qs])
    clear hs0 q0 hr
    go_wp2_with (first
     | (refine wpList_store_arr (RJ6) rfl _ _ rfl (w.heap.size+1) (0) rfl ([.slice none 0 0, .slice none 0 0, .slice none 0 0, .slice none 0 0, .int .i64 0, .int .i64 0]) rfl (54) _ (hR) (rfl) (by simp) (oC) ?_;intro V hV hMV)
     | fail)
    refine bodyPost_ret (results_arr_tmp2 Tryz.results67 (RJ6) _ _ (w.heap.size+1) (0) ([.slice none 0 0, .slice none 0 0, .slice none 0 0, .slice none 0 0, .int .i64 0, .int .i64 0]) rfl (hV.rd) (rfl) (.slice none 0 0) (.int .i64 7) rfl rfl) rfl ?_
    rw [er.out]
    exact TakeE.zero _ _ _ (Below.trans hE (hMV.below (by omega) hE.size))
   ·have er:=Lib.hid (show r=(({ j with last:=j.ck.headD [],ck:=j.ck.tail,sent:=j.sent+1 },j.ck.headD []),0) by rw [← hr.out];unfold takeJ;rw [q,if_pos rfl,if_neg (by omega),if_neg qs])
    have qsi:(j.sent == 1099511627776)=false:=by rw [beq_eq_false_iff_ne];exact qs
    clear hs0 q0 hr
    go_wp2_with (first
     | (refine wpList_load_arr (RJ6) rfl _ rfl (w.heap.size) (0) rfl ([.slice a1 n1 c1, .slice a2 n2 c2, .slice a3 n3 c3, .slice a4 n4 c4, .int .i64 j.net, .int .i64 j.sent]) (hB.rd) (rfl) ?_)
     | fail)
    (with_reducible refine (hcl _ (h1.ext hE) (h2.ext hE) (h3.ext hE) (h4.ext hE)).mono ?_)
    rintro e w1 ⟨b1,d1,b2,d2,b3,d3,b4,d4,rfl,o1,o2,⟨B,hB0,hBs,o3⟩,o4,hx1⟩
    have hR:=hR.extB hx1
    have hE0:=hE
    have hE:=hE.trans hx1
    have hlt:=hR.lt
    clear hcl hx1 hB f1 f5
    go_wp2_with (first
     | (refine wpList_alloc_store (RJ6) rfl rfl _ _ rfl rfl rfl rfl (by simp [Act.put]) ([.slice b1 n1 d1, .slice b2 n2 d2, .slice b3 n3 d3, .slice b4 n4 d4, .int .i64 j.net, .int .i64 j.sent]) rfl (by simp) (rfl) (oC) ?_;intro x hz _)
     | fail)
    have hxx:Ext w1 (w1.ext x):=Ext.of_ext _ _
    have hR:=hR.extB hxx
    have hE:=hE.trans hxx
    have o1:=o1.ext hxx
    have o2:=o2.ext hxx
    have o3:=o3.ext hxx
    have o4:=o4.ext hxx
    have o3c:=o3.le
    obtain ⟨g5,hg5⟩:∃ g,g=w1.heap.size:=⟨_,rfl⟩
    rw [← hg5] at hz hlt ⊢
    clear hxx hg5
    generalize w1.ext x=W1 at *
    obtain ⟨y,L,hyL⟩:∃ y L,j.ck=y :: L:=by
     cases hj:j.ck with
     | nil=>rw [hj] at hl3;exact absurd hl3.symm (by simpa using fun h=>by simp [h] at q0i)
     | cons y L=>exact ⟨y,L,rfl⟩
    rw [hyL] at o3 hl3
    have hb3w:∀ b o,b3=some ⟨b,o,none⟩→w.heap.size≤b:=fun b o h=>by
     have hb:=o3.base h
     have:=hE0.size
     omega
    obtain ⟨b0,o0,a',n',c',rfl,hb0,hcell,hc',hS⟩:=o3.bsc.at 0 (by rw [List.length_cons] at hl3;omega)
    have hb0w:w.heap.size≤b0:=hb3w _ _ rfl
    clear hb3w hE0
    haveI:=hz.blt
    haveI:=hb0
    have f2:=hz.cell? 2 rfl
    have f3:=hz.cell? 3 rfl
    have f5:=hz.cell? 5 rfl
    have z5:=hz.free 5
    have z2:=hz.free 2
    have z3:=hz.free 3
    have n0:0<n3:=by rw [List.length_cons] at hl3;omega
    have n0i:(0:Int)<(n3:Int):=by omega
    have n1i:(1:Int)≤(n3:Int):=by omega
    have n1d:(1:Int)≤(d3:Int):=by omega
    have hcell0:W1.cell? ⟨b0,o0,none⟩=some (.slice a' n' c'):=by simpa using hcell
    have hsi:j.sent+1≤1099511627776:=by omega
    have hyl:y.length≤1000000:=hb3 y (by rw [hyL];exact List.mem_cons_self ..)
    have hS:Sl W1 a' n' y:=hS
    have hyn:=hS.len
    have hny:n'≤1000000:=by omega
    have hclo:=fun V H=>clone_any a' n' c' y V H (by omega)
    have erf:=er.out
    rw [hyL] at erf
    replace er:=Lib.hid erf
    by_cases hd:d3=1
    ·subst hd
     obtain rfl:n3=1:=by omega
     simp only [Act.put]
     go_region
     all_goals
      go_wp2_with fail
      refine nameW ?_
      intro V hV
      have hM:Mut g5 W1 V:=by rw [hV];exact ((((Mut.refl _ _).setCell 3 _).setCell 2 _).setCell 5 _).drew
      have hzV:Blk V g5 54 [.slice b1 n1 d1, .slice b2 n2 d2, .slice (some ⟨b0,o0,none⟩) 0 0, .slice a' n' c', .int .i64 j.net, .int .i64 (j.sent+1)]:=by
       rw [hV];exact (((hz.set 3 (.slice a' n' c')).set 2 (.slice (some ⟨b0,o0,none⟩) 0 0)).set 5 (.int .i64 (j.sent+1))).extB (Ext.drew (Ext.refl _))
      clear hV
      have hRV:=Blk.turn hM hR (by omega)
      have o1:=o1.mutT hz (by decide) hM
      have o2:=o2.mutT hz (by decide) hM
      have o3:=o3.mut hz (by decide) (by simp) hM
      have hS:=hS.mut hz (by simp) hM
      have hEV:Ext w V:=Below.trans hE (hM.below (by have:=hE.size;omega) hE.size)
      clear hM hR hE hz f2 f3 f5 z5 z2 z3 hcell hcell0 o4
      haveI:=hzV.blt
      have f3:=hzV.cell? 3 rfl
      refine wp_region_vague 4 [[],[],[1],[1,2],[0,1,2,3],[0,1,2,3,4],[0,1,2,3,4,5]] (by kernel_rfl) (by kernel_rfl) (by kernel_rfl) (by kernel_rfl) ?_;simp only [q8q,q9q,q10q,q11q,q12q,q13q]
      (refine VD_load_arr (RJ6) _ rfl (fun _=>rfl) (g5) (0) (fun _=>by simp [go_sem]) ([.slice b1 n1 d1, .slice b2 n2 d2, .slice (some ⟨b0,o0,none⟩) 0 0, .slice a' n' c', .int .i64 j.net, .int .i64 (j.sent+1)]) (hzV.rd) (rfl) ?_)
      (repeat (refine VD_a ?_;(try simp only [Act.put,q0q,q1q,q2q])))
      (refine VD_vag (fun p => .slice (p 0).1 (n') (p 0).2) (fun p w''=>Own w'' 0 (p 0).1 (n') (p 0).2 (y)) (fun p w w' h hx=>h.ext hx) (fun us w' hx hf=>⟨rfl,?_⟩) ?_;(unfold gives;simp [go_sem,execOp];exact vag_fresh (Nat.zero_le _) (hclo _ (hS.ext hx))))
      (refine VD_z ?_;intro us x hx hf;(try simp only [Act.put,q0q,q1q,q2q,wpList_none]);(try simp only [q3q,q4q,or_false,forall_eq_or_imp,forall_eq,q5q,q6q,q7q,false_or,true_and,and_true] at hf);(try simp only [Nat.reduceAdd,Nat.zero_add] at hf ⊢))
      obtain ⟨a9,ha9⟩:∃ a,(us 3 0).1=a:=⟨_,rfl⟩
      obtain ⟨c9,hc9⟩:∃ a,(us 3 0).2=a:=⟨_,rfl⟩
      rw [ha9,hc9] at hf ⊢
      clear ha9 hc9
      have hxx:Ext V (V.ext x):=Ext.of_ext _ _
      have o1:=o1.ext hxx
      have o2:=o2.ext hxx
      have o3:=o3.ext hxx
      have hS:=hS.ext hxx
      have hRV:=hRV.extB hxx
      have hEV:=hEV.trans hxx
      clear hzV f3 hxx
      generalize V.ext x=V2 at *
      haveI:=hRV.blt
      go_wp2_with (first
       | (refine wpList_store_arr (RJ6) rfl _ _ rfl (w.heap.size+1) (0) rfl ([.slice b1 n1 d1, .slice b2 n2 d2, .slice (some ⟨b0,o0,none⟩) 0 0, .slice a' n' c', .int .i64 j.net, .int .i64 (j.sent+1)]) rfl (54) _ (hRV) (rfl) (by simp) (oC) ?_;intro w9 hB9 hM9)
       | fail)
      refine bodyPost_ret (results_arr_tmp2 Tryz.results67 (RJ6) _ _ (w.heap.size+1) (0) ([.slice b1 n1 d1, .slice b2 n2 d2, .slice (some ⟨b0,o0,none⟩) 0 0, .slice a' n' c', .int .i64 j.net, .int .i64 (j.sent+1)]) rfl (hB9.rd) (rfl) (.slice a9 n' c9) (.int .i64 0) rfl rfl) rfl ?_
      rw [er.out]
      have hty:Typ3 w9 (some ⟨b0,o0,none⟩):=fun b o h=>(o3.mut hRV (by decide) (by simp) hM9).typ3 b o0 (by injection h with h;injection h with h _;rw [h])
      have o3:=(o3.mut hRV (by decide) (by simp) hM9).bsc
      exact ⟨b1,n1,d1,b2,n2,d2,(some ⟨b0,o0,none⟩),0,0,a',n',c',a9,n',c9,rfl,o1.mutT hRV (by decide) hM9,o2.mutT hRV (by decide) hM9,(by have hL:=List.length_eq_zero_iff.1 (show L.length=0 by rw [List.length_cons] at hl3;omega);subst hL;exact Bsc.nil _ _),by omega,hS.mut hRV (by simp) hM9,hc',(hf.mono (Nat.zero_le _)).mutT hRV (by decide) hM9,(fun b o h=>by injection h with h;injection h with h _;omega),hty,Below.trans hEV (hM9.below (by omega) hEV.size)⟩
    ·clear q0i
     simp only [Act.put]
     go_region
     all_goals
      go_wp2_with fail
      refine nameW ?_
      intro V hV
      have hM:Mut g5 W1 V:=by rw [hV];exact ((((Mut.refl _ _).setCell 3 _).setCell 2 _).setCell 5 _).drew
      have hzV:Blk V g5 54 [.slice b1 n1 d1, .slice b2 n2 d2, .slice (some ⟨b0,o0+1,none⟩) (n3-1) (d3-1), .slice a' n' c', .int .i64 j.net, .int .i64 (j.sent+1)]:=by
       rw [hV];exact (((hz.set 3 (.slice a' n' c')).set 2 (.slice (some ⟨b0,o0+1,none⟩) (n3-1) (d3-1))).set 5 (.int .i64 (j.sent+1))).extB (Ext.drew (Ext.refl _))
      clear hV
      have hRV:=Blk.turn hM hR (by omega)
      have o1:=o1.mutT hz (by decide) hM
      have o2:=o2.mutT hz (by decide) hM
      have o3:=o3.mut hz (by decide) (by simp) hM
      have hS:=hS.mut hz (by simp) hM
      have hEV:Ext w V:=Below.trans hE (hM.below (by have:=hE.size;omega) hE.size)
      clear hM hR hE hz f2 f3 f5 z5 z2 z3 hcell hcell0 o4
      haveI:=hzV.blt
      have f3:=hzV.cell? 3 rfl
      refine wp_region_vague 4 [[],[],[1],[1,2],[0,1,2,3],[0,1,2,3,4],[0,1,2,3,4,5]] (by kernel_rfl) (by kernel_rfl) (by kernel_rfl) (by kernel_rfl) ?_;simp only [q8q,q9q,q10q,q11q,q12q,q13q]
      (refine VD_load_arr (RJ6) _ rfl (fun _=>rfl) (g5) (0) (fun _=>by simp [go_sem]) ([.slice b1 n1 d1, .slice b2 n2 d2, .slice (some ⟨b0,o0+1,none⟩) (n3-1) (d3-1), .slice a' n' c', .int .i64 j.net, .int .i64 (j.sent+1)]) (hzV.rd) (rfl) ?_)
      (repeat (refine VD_a ?_;(try simp only [Act.put,q0q,q1q,q2q])))
      (refine VD_vag (fun p => .slice (p 0).1 (n') (p 0).2) (fun p w''=>Own w'' 0 (p 0).1 (n') (p 0).2 (y)) (fun p w w' h hx=>h.ext hx) (fun us w' hx hf=>⟨rfl,?_⟩) ?_;(unfold gives;simp [go_sem,execOp];exact vag_fresh (Nat.zero_le _) (hclo _ (hS.ext hx))))
      (refine VD_z ?_;intro us x hx hf;(try simp only [Act.put,q0q,q1q,q2q,wpList_none]);(try simp only [q3q,q4q,or_false,forall_eq_or_imp,forall_eq,q5q,q6q,q7q,false_or,true_and,and_true] at hf);(try simp only [Nat.reduceAdd,Nat.zero_add] at hf ⊢))
      obtain ⟨a9,ha9⟩:∃ a,(us 3 0).1=a:=⟨_,rfl⟩
      obtain ⟨c9,hc9⟩:∃ a,(us 3 0).2=a:=⟨_,rfl⟩
      rw [ha9,hc9] at hf ⊢
      clear ha9 hc9
      have hxx:Ext V (V.ext x):=Ext.of_ext _ _
      have o1:=o1.ext hxx
      have o2:=o2.ext hxx
      have o3:=o3.ext hxx
      have hS:=hS.ext hxx
      have hRV:=hRV.extB hxx
      have hEV:=hEV.trans hxx
      clear hzV f3 hxx
      generalize V.ext x=V2 at *
      haveI:=hRV.blt
      go_wp2_with (first
       | (refine wpList_store_arr (RJ6) rfl _ _ rfl (w.heap.size+1) (0) rfl ([.slice b1 n1 d1, .slice b2 n2 d2, .slice (some ⟨b0,o0+1,none⟩) (n3-1) (d3-1), .slice a' n' c', .int .i64 j.net, .int .i64 (j.sent+1)]) rfl (54) _ (hRV) (rfl) (by simp) (oC) ?_;intro w9 hB9 hM9)
       | fail)
      refine bodyPost_ret (results_arr_tmp2 Tryz.results67 (RJ6) _ _ (w.heap.size+1) (0) ([.slice b1 n1 d1, .slice b2 n2 d2, .slice (some ⟨b0,o0+1,none⟩) (n3-1) (d3-1), .slice a' n' c', .int .i64 j.net, .int .i64 (j.sent+1)]) rfl (hB9.rd) (rfl) (.slice a9 n' c9) (.int .i64 0) rfl rfl) rfl ?_
      rw [er.out]
      have hty:Typ3 w9 (some ⟨b0,o0+1,none⟩):=fun b o h=>(o3.mut hRV (by decide) (by simp) hM9).typ3 b o0 (by injection h with h;injection h with h _;rw [h])
      have o3:=(o3.mut hRV (by decide) (by simp) hM9).bsc
      exact ⟨b1,n1,d1,b2,n2,d2,(some ⟨b0,o0+1,none⟩),(n3-1),(d3-1),a',n',c',a9,n',c9,rfl,o1.mutT hRV (by decide) hM9,o2.mutT hRV (by decide) hM9,o3.tail,by omega,hS.mut hRV (by simp) hM9,hc',(hf.mono (Nat.zero_le _)).mutT hRV (by decide) hM9,(fun b o h=>by injection h with h;injection h with h _;omega),hty,Below.trans hEV (hM9.below (by omega) hEV.size)⟩
end Go.Proofs.YtdmifbfgeeldnaaGreat
