/- Lemmas of this claim, several texts joined. -/
import Derived.WalkKit
import Derived.Handy
import Derived.WalkSpells
import Derived.WalkLawsBesides
import Derived.Lib.Hide
import Derived.Deep.RegionHeld3
import Derived.Deep.DeepCutAuto
import Derived.BigQuiet
set_option maxRecDepth 100000
set_option maxHeartbeats 8000000
set_option linter.unusedVariables false
set_option linter.unusedSimpArgs false
/- General laws for walks: what stays of the blocks below a bound, behind a call that only makes memory; a region that draws its order, all of whose operations leave such a world. -/
namespace Go.Sec
open Go.RowKit
abbrev Ext (w w':World):Prop:=Below w.heap.size w w'
theorem Ext.refl (w:World):Ext w w:=Below.refl _ _
theorem Ext.trans {a b c:World} (h:Ext a b) (k:Ext b c):Ext a c:=Below.trans h (Below.mono k h.size)
theorem Ext.alloc {a b:World} (h:Ext a b) (o:Obj):Ext a (b.alloc o):=Below.alloc h h.size o
theorem Ext.of_alloc (w:World)(o:Obj):Ext w (w.alloc o):=(Ext.refl w).alloc o
theorem Ext.drew {a b:World} (h:Ext a b):Ext a b.drew:=Below.drew h
theorem Ext.setCell {a b:World} (h:Ext a b) {p:Addr} (hp:a.heap.size≤p.block) (u:Value):Ext a (b.setCell p u):=Below.setCell h hp u
theorem Ext.keeps {W w1:World} (hb:Ext W w1) (N:Nat) (hN:N≤W.heap.size) :
  (∀ b o,b<N→w1.cell? ⟨b,o,none⟩=W.cell? ⟨b,o,none⟩)∧N≤w1.heap.size :=
 ⟨fun b o h=>hb.cell (p:=⟨b,o,none⟩) (Nat.lt_of_lt_of_le h hN),Nat.le_trans hN hb.size⟩
theorem Ext.box {W w1:World} (hb:Ext W w1) (N:Nat) (hN:N<W.heap.size) :
  (∀ o,w1.cell? ⟨N,o,none⟩=W.cell? ⟨N,o,none⟩)∧(∀ o,w1.frozen? ⟨N,o,none⟩=W.frozen? ⟨N,o,none⟩)∧N<w1.heap.size :=
 ⟨fun o=>hb.cell (p:=⟨N,o,none⟩) hN,fun o=>hb.frozen (p:=⟨N,o,none⟩) hN,Nat.lt_of_lt_of_le hN hb.size⟩
structure More where
 objs:Array Obj
 drawn:Nat
instance:Inhabited More:=⟨⟨#[],0⟩⟩
def _root_.Go.World.ext (w:World)(x:More):World:={ w with heap:=w.heap++x.objs,drawn:=x.drawn }
theorem jL (w:World)(x:More) (k:Nat) (h:k<w.heap.size):(w.ext x).heap[k]?=w.heap[k]?:=by
 simp [World.ext,Array.getElem?_append,h]
class BlkLt (n:Nat) (w:World):Prop where
 lt:n<w.heap.size
section
variable {n:Nat} {w:World} {x:More} {o:Obj}
instance (priority:=low) [h:BlkLt n w]:BlkLt n (w.alloc o):=⟨by have:=h.lt;simp;omega⟩
instance [h:BlkLt n w]:BlkLt n (w.ext x):=⟨by have:=h.lt;simp [World.ext];omega⟩
instance [h:BlkLt n w]:BlkLt n w.drew:=⟨h.lt⟩
instance {p:Addr} {v:Value} [h:BlkLt n w]:BlkLt n (w.setCell p v):=⟨by have:=h.lt;simp;omega⟩
instance:BlkLt w.heap.size (w.alloc o):=⟨by simp⟩
instance {o1:Obj}:BlkLt (w.heap.size+1) ((w.alloc o).alloc o1):=⟨by simp⟩
instance {o1 o2:Obj}:BlkLt (w.heap.size+2) (((w.alloc o).alloc o1).alloc o2):=⟨by simp⟩
instance {o1 o2 o3:Obj}:BlkLt (w.heap.size+3) ((((w.alloc o).alloc o1).alloc o2).alloc o3):=⟨by simp⟩
instance {o1 o2 o3 o4:Obj}:BlkLt (w.heap.size+4) (((((w.alloc o).alloc o1).alloc o2).alloc o3).alloc o4):=⟨by simp⟩
instance {o1 o2 o3 o4 o5:Obj}:BlkLt (w.heap.size+5) ((((((w.alloc o).alloc o1).alloc o2).alloc o3).alloc o4).alloc o5):=⟨by simp⟩
instance {o1 o2 o3 o4 o5 o6:Obj}:BlkLt (w.heap.size+6) (((((((w.alloc o).alloc o1).alloc o2).alloc o3).alloc o4).alloc o5).alloc o6):=⟨by simp⟩
@[go_sem] theorem AQ [h:BlkLt n w]:n<w.heap.size:=h.lt
@[go_sem] theorem AW [h:BlkLt n w] (k:Nat):n<w.heap.size+k:=by have:=h.lt;omega
@[go_sem] theorem CV [h:BlkLt n w]:n≤w.heap.size:=by have:=h.lt;omega
@[go_sem] theorem AY [h:BlkLt n w] (k:Nat):n≤w.heap.size+k:=by have:=h.lt;omega
@[go_sem] theorem Dr [h:BlkLt n w]:¬ n=w.heap.size:=by have:=h.lt;omega
@[go_sem] theorem A3 [h:BlkLt n w] (k:Nat):¬ n=w.heap.size+k:=by have:=h.lt;omega
@[go_sem] theorem Di [h:BlkLt n w]:¬ w.heap.size=n:=by have:=h.lt;omega
@[go_sem] theorem Bk [h:BlkLt n w] (k:Nat):¬ w.heap.size+k=n:=by have:=h.lt;omega
@[go_sem] theorem xw [h:BlkLt n w] (k:Nat):(w.ext x).cell? ⟨n,k,none⟩=w.cell? ⟨n,k,none⟩ :=
 World.cell?_of_block (w:=w) (jL w x n h.lt)
@[go_sem] theorem Bg [h:BlkLt n w] (k:Nat):(w.ext x).frozen? ⟨n,k,none⟩=w.frozen? ⟨n,k,none⟩ :=
 World.frozen?_of_block (w:=w) (jL w x n h.lt)
end
theorem Ext.of_ext (w:World)(x:More):Ext w (w.ext x) :=
 ⟨rfl,rfl,rfl,by simp [World.ext],fun k hk=>jL w x k hk⟩
theorem Ext.ext {a b:World} (h:Ext a b) (x:More):Ext a (b.ext x):=h.trans (Ext.of_ext b x)
theorem Ext.out {w w':World} (h:Ext w w'):∃ x,w'=w.ext x:=by
 refine ⟨⟨w'.heap.extract w.heap.size w'.heap.size,w'.drawn⟩,?_⟩
 obtain ⟨h1,h2,h3,h4,h5⟩:=h
 cases w with
 | mk heap tape drawn os output =>
 cases w' with
 | mk heap' tape' drawn' os' output' =>
 simp only at h1 h2 h3 h4 h5
 subst h1 h2 h3
 simp only [World.ext,World.mk.injEq,and_true]
 apply Array.ext_getElem?
 intro k
 rw [Array.getElem?_append]
 split
 ·exact h5 k ‹_›
 ·rename_i hk
  rw [Array.getElem?_extract]
  split
  ·congr 1;omega
  ·rw [Array.getElem?_eq_none];omega
theorem iL {w w':World} {base:Nat} {e:TypeId} {size:Nat} {v:Value} {n:Nat} {xs:List Value} (h:w.ownsRow base e size v n xs) (hx:Ext w w'):w'.ownsRow base e size v n xs:=by
 obtain ⟨h1,h2⟩:=h
 refine ⟨h1,?_⟩
 rcases h2 with h2|⟨g,cap,cur,hv,hg,hh,r⟩
 ·exact Or.inl h2
 ·exact Or.inr ⟨g,cap,cur,hv,hg,by rw [hx.block g (Array.getElem?_eq_some_iff.1 hh).1];exact hh,r⟩
theorem eG {w w':World} {base:Nat} {e:TypeId} {size:Nat} {v:Value} {n:Nat} {xs:List Value} (h:w.ownsRow base e size v n xs) (hg:w.grownBy w' v.ownBlock) (hb:base≤w.heap.size):Below base w w' :=
 (Below.refl _ _).grown hg hb (fun k hk=>(h.lt k hk).1)
theorem eV {w:World} {base:Nat} {e:TypeId} {size:Nat} {v:Value} {n:Nat} {xs:List Value} (h:w.ownsRow base e size v n xs):∃ sa sc,v = .slice sa n sc:=by
 rcases h.2 with ⟨rfl,rfl⟩|⟨g,cap,cur,rfl,_⟩
 ·exact ⟨_,_,rfl⟩
 ·exact ⟨_,_,rfl⟩
theorem kT {P:Program} {ops:Array Oper} {rest:List Oper} {o:Oper} {a:Act} {Q:Exit→Act→World→Prop} {W0:World} {cs:Array Value} {e0:TypeId} (hgd:o.guard=none) (s x:Operand) (t:TypeId)
  (ho:o.op = .call { callee := .builtin .append,args:=#[s,x],argTypes:=#[t,t] })
  (base:Nat) (e:TypeId)(i:TypeInfo) (z:Value)(size bytes:Nat) (ht:P.underlying t=some (.slice e)) (hi:P.info? e=some i) (hz:i.zero=some z)
  (hsize:i.size=size) (hby:i.bytes=bytes) (hzs:z.cells.size=size) (hsz:0<size)
  (v:Value)(n:Nat) (xs:List Value)(hown:W0.ownsRow base e size v n xs) (m c:Nat) (hs:a.eval s=v)
  (hx:a.eval x = .slice (some ⟨W0.heap.size,0,none⟩) m c) (hl:cs.toList.length=m*size) (h1:∀ u∈cs.toList,u.oneCell'=true)
  (h63:n+m≤maxLen) (hbytes:(n+m)*bytes≤140737488355328) (hbase:base≤W0.heap.size)
  (h:∀ sa sc w',w'.ownsRow base e size (.slice sa (n+m) sc) (n+m) (xs++cs.toList)→Below base (W0.alloc (.cells cs e0)) w'→wpList P ops Q rest (a.put o.dst (.slice sa (n+m) sc)) w') :
  wpList P ops Q (o :: rest) a (W0.alloc (.cells cs e0)):=by
 have hb:base≤(W0.alloc (.cells cs e0)).heap.size:=by simp;omega
 refine wpList_append_own _ hgd s x t ho base e i z size bytes ht hi hz hsize hby hzs hsz v n xs hs (hown.alloc _) ⟨W0.heap.size,0,none⟩ m c cs.toList hx hl ?_ h1 h63 hbytes hb ?_
 ·intro j u hu
  have hadd:(⟨W0.heap.size,0,none⟩:Addr).add j=⟨W0.heap.size,j,none⟩:=by unfold Addr.add;split <;> simp_all
  rw [hadd]
  simpa using hu
 ·intro v' w' hown' hg _
  obtain ⟨sa,sc,rfl⟩:=eV hown'
  exact h sa sc w' hown' (eG (hown.alloc _) hg hb)
end Go.Sec
namespace Go.Sec
open Go.RowKit
theorem eX {w w' : World} (h : Ext w w' := by repeat (first | (with_reducible first | exact Go.Sec.Ext.refl _ | assumption | apply Go.Sec.Ext.alloc | apply Go.Sec.Ext.ext | apply Go.Sec.Ext.drew | refine Go.Sec.Ext.setCell ?_ ?_ _) | (focus (simp [go_sem]; done)))) : Ext w w' := h
theorem sS {p : Prop} (h : p := by repeat' (first | with_reducible assumption | (with_reducible exact dB _) | (with_reducible exact bF _ _ _) | (with_reducible first | apply Sl.upE | apply Sl.upA | apply Sl.upD))) : p := h
theorem sC {p : Prop} (h : p := by repeat' (first | with_reducible assumption | (refine sg ?_ ?_ ?_ ?_ _; (· (repeat' (first | with_reducible assumption | (with_reducible exact dB _) | (with_reducible exact bF _ _ _) | (with_reducible first | apply Sl.upE | apply Sl.upA | apply Sl.upD)))); (· omega); (· (repeat' (first | with_reducible assumption | (with_reducible exact dB _) | (with_reducible exact bF _ _ _) | (with_reducible first | apply Sl.upE | apply Sl.upA | apply Sl.upD)))); (· omega)) | (with_reducible first | apply Bsc.upE | apply Bsc.upA | apply Bsc.upD))) : p := h
theorem oC {p : Prop} (h : p := by simp; repeat' (first | rfl | constructor)) : p := h
end Go.Sec
namespace Go
abbrev aaa := @forall_eq_or_imp
abbrev aab := @List.mem_singleton_self
abbrev aac := @Go.bodyPost_ret
abbrev aad := @Nat.zero_add
abbrev aae := @List.mem_append_right
abbrev aaf := @if_neg
abbrev aag := @Nat.le_refl
abbrev aah := @List.length_append
abbrev aai := @bne_eq_false_iff_eq
abbrev aaj := @List.take_of_length_le
abbrev aak := @Nat.lt_of_lt_of_le
abbrev aal := @forall_eq
abbrev aam := @if_pos
abbrev aan := @Nat.zero_le
abbrev aao := @or_false
abbrev aap := @false_or
abbrev aaq := @true_and
abbrev aar := @and_true
abbrev aas := @List.append_assoc
abbrev aat := @Int.cast_ofNat_Int
abbrev aau := @Nat.le_trans
abbrev aav := @List.eq_nil_of_length_eq_zero
abbrev aaw := @bne_iff_ne
abbrev aax := @List.take_succ_eq_append_getElem
abbrev aay := @List.take_append_of_le_length
abbrev aaz := @decide_eq_true
abbrev aaA := @Bool.and_eq_true
abbrev aaB := @List.mem_singleton
abbrev aaC := @List.all_eq_true
abbrev aaD := @List.length_take
abbrev aaE := @Go.wpAnyH_take
abbrev aaF := @decide_eq_false
abbrev aaG := @Bool.false_eq_true
abbrev aaH := @Go.Result.andThen_ok
abbrev aaI := @List.length_map
abbrev aaJ := @beq_eq_false_iff_ne
abbrev aaK := @List.drop_of_length_le
abbrev aaL := @Go.IntKind.wrap_u64
abbrev aaM := @List.getElem_mem
abbrev aaN := @UInt64.toNat_ofNat'
abbrev aaO := @List.map_append
abbrev aaP := @List.length_replicate
abbrev aaQ := @Go.Region.noSelect_spec
abbrev aaR := @List.length_drop
abbrev aaS := @List.length_cons
abbrev aaT := @List.mem_append_left
abbrev aaU := @List.mem_range
abbrev aaV := @Go.Sem.run_bind
abbrev aaW := @Go.Sem.run_pure
abbrev aaX := @List.map_set
abbrev aaY := @Nat.add_assoc
abbrev aaZ := @Nat.mod_eq_of_lt
abbrev aa0 := @of_decide_eq_true
abbrev aa1 := @List.range_succ
abbrev aa2 := @List.drop_append_of_le_length
abbrev aa3 := @List.mem_map
abbrev aa4 := @List.mem_of_mem_take
abbrev aa5 := @List.map_cons
abbrev aa6 := @List.mem_cons_self
abbrev aa7 := @beq_iff_eq
abbrev aa8 := @Go.World.size_alloc
abbrev aa9 := @decide_eq_true_eq
abbrev aba := @List.mem_append
abbrev abb := @Go.IntKind.wrap_u8
abbrev abd := @List.drop_drop
abbrev abe := @Go.IntKind.wrap_i64
abbrev abf := @Go.wp_region_held_drew
abbrev abg := @Nat.lt_or_ge
abbrev abh := @List.getElem_append_left
abbrev abi := @if_true
abbrev abj := @Nat.add_comm
abbrev abk := @if_false
abbrev abl := @List.map_nil
abbrev abm := @Bool.eq_iff_iff
abbrev abn := @List.map_toArray
abbrev abo := @Int.toNat_natCast
abbrev abp := @Go.getD_set_ne
abbrev abq := @List.map_congr_left
abbrev abr := @List.getElem_map
abbrev abt := @Int.natCast_nonneg
abbrev abu := @Nat.add_zero
abbrev abv := @decide_eq_true_iff
abbrev abw := @List.replicate_succ'
abbrev abx := @Bool.or_eq_true
abbrev aby := @Go.World.ownsRow_nil
abbrev abz := @List.take_add_one
abbrev abA := @List.eq_of_mem_replicate
abbrev abB := @Nat.le_of_not_lt
abbrev abC := @List.ext_getElem
abbrev abD := @Go.run_underlying
abbrev abE := @Nat.mul_one
end Go
