/- Lemmas of this claim, several texts joined. -/
import Derived.Test.YtdmifbfgeeldnaaGreatRows
import Derived.Test.YtdmifbfgeeldnaaGreatZ1
import Derived.Test.YtdmifbfgeeldnaaGreatZ4
set_option maxRecDepth 100000
open List renaming nil_append → q5q
set_option linter.unusedVariables false
set_option linter.unusedSimpArgs false
/- The walks of the functions on octets. -/
namespace Go.Proofs.YtdmifbfgeeldnaaGreat
open Go.RowKit Go.Sec Go.Oct BigFrame
theorem info5:(Tryz.prog.info? 5).map (fun i=>(i.zero,i.size,i.bytes))=some (some (.int .u8 0),1,1):=by kernel_rfl
theorem U:U8 Tryz.prog:=⟨Tryz.underlying33,info_parts info5⟩
theorem hu8:Tryz.prog.underlying 5=some (.int .u8):=Tryz.underlying5
theorem hst:Tryz.prog.underlying 9=some .string:=Tryz.underlying9
set_option maxHeartbeats 1000000 in
theorem put_any (v:UInt64) (n:Nat) (w:World)(h1:n≤64) :
  Calls Tryz.prog 45 #[u64v v, .int .i64 n] w (Fresh n (putL n v) w):=by
 have hmk:=run_make_by U n n (Nat.le_refl _) (by omega)
 go_enter Tryz.func45,Tryz.ntmps45
 go_wp2
 go_loopw [0,6] (fun v0 v6 wr=>∃ (k:Nat) (u:UInt64) (l:List UInt8),k≤n∧v6 = .int .i64 ((k:Int)-1)∧v0=u64v u∧Hid (l.length=n)∧Hid (putL k u++l.drop k=putL n v)∧Blk wr w.heap.size 5 (l.map u8v)∧Ext w wr) (fun _ v6 _=>(intOf v6+1).toNat)
 case atStart=>exact ⟨n,v,List.replicate n 0,Nat.le_refl _,rfl,rfl,Lib.hid (by simp),Lib.hid (by simp),blk_zeros8 _ _,eX⟩
 case round =>
  obtain ⟨k,u,l,hk,rfl,rfl,hl,hp,hB,hx⟩:=hrel
  by_cases h0:0<k
  ·obtain ⟨j,rfl⟩:∃ j,k=j+1:=⟨k-1,by omega⟩
   have hjl:j<l.length:=by rw [hl.out];omega
   have hc:=hB.cell j (by simpa using hjl)
   have hf:=hB.free j
   haveI:=hB.blt
   go_wp2
   go_roundw
   case rel =>
    refine ⟨j,u >>> 8,l.set j u.toUInt8,by omega,by go_num,rfl,Lib.hid (by rw [List.length_set];exact hl.out),Lib.hid (put_step _ _ _ _ hjl hp.out),?_,Ext.setCell hx (by simp) _⟩
    have:=hB.set j (u8v u.toUInt8)
    rwa [← List.map_set] at this
   case measure=>simp [intOf] <;> omega
  ·obtain rfl:k=0:=by omega
   go_wp2
   go_ret
   have hO:=hB.own (Nat.le_refl _) n (by simp [hl.out]) (by simp [hl.out,maxLen];omega)
   have hp':l=putL n v:=by simpa [putL] using hp.out
   subst hp'
   refine ⟨_,_,rfl,⟨putL_length _ _,?_⟩,hx⟩
   rw [List.take_of_length_le (by simp [putL_length])] at hO
   simpa [putL_length] using hO
theorem own_empty (w:World):Own (w.alloc (.cells #[] 5)) w.heap.size (some ⟨w.heap.size,0,none⟩) 0 0 [] :=
 ⟨rfl,⟨rfl, .inr ⟨w.heap.size,0,#[],rfl,Nat.le_refl _,heap_alloc_new w _,by simp,by simp,rfl,rfl⟩⟩⟩
set_option maxHeartbeats 1000000 in
theorem join_any (a:Option Addr)(n c:Nat) (L:List (List UInt8)) (w:World)(hL:Bss w a n L) (hn:n≤100000) (N:Nat) (hN:(joinL L).length=N) (hmax:N≤1000000000) :
  Calls Tryz.prog 41 #[.slice a n c] w (Fresh N (joinL L) w):=by
 go_enter Tryz.func41,Tryz.ntmps41
 go_wp2
 go_loopw [3,4] (fun v3 v4 wr=>∃ (k:Nat) (m:Nat) (sa:Option Addr)(sc:Nat),k≤n∧m≤N∧v4 = .int .i64 k∧v3 = .slice sa m sc∧Own wr w.heap.size sa m sc (joinL (L.take k))∧Ext w wr) (fun _ v4 _=>n-(intOf v4).toNat)
 case atStart=>exact ⟨0,0,some ⟨w.heap.size,0,none⟩,0,Nat.zero_le _,Nat.zero_le _,rfl,rfl,own_empty _,eX⟩
 case round =>
  obtain ⟨k,m,sa,sc,hk,hm,rfl,rfl,hO,hx⟩:=hrel
  by_cases hlt:k<n
  ·obtain ⟨b,off,a',n',c',rfl,hb,hc,hs⟩:=(hL.ext hx).at k hlt
   have hkl:k<L.length:=by rw [hL.len];exact hlt
   have HT:=Lib.hid (joinL_take L k hkl)
   have hle2:m+n'≤N:=by
    have:=joinL_le L (k+1)
    rw [HT.out,List.length_append,hs.len,hO.1] at this
    omega
   go_wp2_with (at_builtin;refine wpList_append_by U rfl _ _ rfl w.heap.size sa _ sc _ rfl a' n' c' _ rfl hO hs (by omega) hx.size ?_;intro sa2 sc2 w2 hO2 hg2 hB2)
   go_roundw
   case rel=>exact ⟨k+1,_,sa2,sc2,by omega,hle2,by go_num,rfl,by rw [HT.out];exact hO2,Below.trans hx hB2⟩
   case measure=>simp [intOf];omega
  ·obtain rfl:k=n:=by omega
   go_wp2
   go_ret
   rw [joinL_all L k hL.len] at hO
   have:m=N:=by rw [← hO.1,hN]
   subst this
   exact ⟨_,_,rfl,hO,hx⟩
set_option maxHeartbeats 1000000 in
theorem clone_any (a:Option Addr)(n c:Nat) (l:List UInt8)(w:World)(hs:Sl w a n l) (hmax:n≤1000000000) :
  Calls Tryz.prog 110 #[.slice a n c] w (Fresh n l w):=by
 have hnil:=fun W (a:Option Addr)(n c:Nat)=>Lib.run_eql_slice_nil (P:=Tryz.prog) W 33 5 a n c 0 0 Tryz.underlying33
 cases a with
 | none =>
  obtain rfl:l=[]:=by
   rcases hs.by' with h|⟨_,_,h,_⟩
   ·simpa using h
   ·cases h
  obtain rfl:n=0:=hs.len.symm
  go_enter Tryz.func110,Tryz.ntmps110
  go_wp2
  go_ret
  exact ⟨_,_,rfl,Own.nil _ _,eX⟩
 | some ad =>
  go_enter Tryz.func110,Tryz.ntmps110
  go_wp2_with (at_builtin;refine wpList_append_by U rfl _ _ rfl w.heap.size _ 0 0 [] rfl _ n c _ rfl (own_empty _) (hs.ext eX) (by omega) (by simp) ?_;intro sa2 sc2 w2 hO2 hg2 hB2)
  go_ret
  simp only [Nat.zero_add,q5q] at hO2
  exact ⟨_,_,rfl,hO2,Below.trans (b:=w.alloc _) eX hB2⟩
end Go.Proofs.YtdmifbfgeeldnaaGreat
