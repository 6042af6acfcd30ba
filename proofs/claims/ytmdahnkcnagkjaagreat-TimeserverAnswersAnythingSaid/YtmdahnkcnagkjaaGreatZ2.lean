/- Lemmas of this claim, several texts joined. -/
import Derived.WalkKit
import Derived.Handy
import Derived.WalkSpells
import Derived.WalkLawsBesides
import Derived.Lib.Hide
import Derived.Deep.RegionHeld3
import Derived.Deep.DeepCutAuto
import Derived.BigQuiet
set_option maxRecDepth 100000
open Go.Value renaming slice -> Zy
set_option maxHeartbeats 8000000
set_option linter.unusedVariables false
set_option linter.unusedSimpArgs false
/- General laws for walks: what stays of the blocks below a bound, behind a call that only makes memory; a region that draws its order, all of whose operations leave such a world. -/
namespace Go.Sec
open Go.RowKit
abbrev Ext (w w':World):Prop:=Below w.heap.size w w'
theorem Ext.refl (w:World):Ext w w:=Below.refl _ _
theorem Ext.trans {a b c:World} (h:Ext a b) (k:Ext b c):Ext a c:=Below.trans h (Below.mono k h.size)
theorem Ext.alloc {a b:World} (h:Ext a b) (o:Obj):Ext a (b.alloc o):=Below.alloc h h.size o
theorem Ext.of_alloc (w:World)(o:Obj):Ext w (w.alloc o):=(Ext.refl w).alloc o
theorem Ext.drew {a b:World} (h:Ext a b):Ext a b.drew:=Below.drew h
theorem Ext.setCell {a b:World} (h:Ext a b) {p:Addr} (hp:a.heap.size<=p.block) (u:Value):Ext a (b.setCell p u):=Below.setCell h hp u
theorem Ext.keeps {W w1:World} (hb:Ext W w1) (N:Nat) (hN:N<=W.heap.size) :
  (∀ b o,b<N->w1.cell? ⟨b,o,none⟩=W.cell? ⟨b,o,none⟩)/\N<=w1.heap.size :=
 ⟨λ b o h=>hb.cell (p:=⟨b,o,none⟩) (Nat.lt_of_lt_of_le h hN),Nat.le_trans hN hb.size⟩
theorem Ext.box {W w1:World} (hb:Ext W w1) (N:Nat) (hN:N<W.heap.size) :
  (∀ o,w1.cell? ⟨N,o,none⟩=W.cell? ⟨N,o,none⟩)/\(∀ o,w1.frozen? ⟨N,o,none⟩=W.frozen? ⟨N,o,none⟩)/\N<w1.heap.size :=
 ⟨λ o=>hb.cell (p:=⟨N,o,none⟩) hN,λ o=>hb.frozen (p:=⟨N,o,none⟩) hN,Nat.lt_of_lt_of_le hN hb.size⟩
structure More where
 objs:Array Obj
 drawn:Nat
instance:Inhabited More:=⟨⟨#[],0⟩⟩
def _root_.Go.World.ext (w:World)(x:More):World:={ w with heap:=w.heap++x.objs,drawn:=x.drawn }
theorem ka (w:World)(x:More) (k:Nat) (h:k<w.heap.size):(w.ext x).heap[k]?=w.heap[k]?:=by
 simp [World.ext,Array.getElem?_append,h]
class BlkLt (n:Nat) (w:World):Prop where
 lt:n<w.heap.size
section
variable {n:Nat} {w:World} {x:More} {o:Obj}
instance (priority:=low) [h:BlkLt n w]:BlkLt n (w.alloc o):=⟨by have:=h.lt;simp;omega⟩
instance [h:BlkLt n w]:BlkLt n (w.ext x):=⟨by have:=h.lt;simp [World.ext];omega⟩
instance [h:BlkLt n w]:BlkLt n w.drew:=⟨h.lt⟩
instance {p:Addr} {v:Value} [h:BlkLt n w]:BlkLt n (w.setCell p v):=⟨by have:=h.lt;simp;omega⟩
instance:BlkLt w.heap.size (w.alloc o):=⟨by simp⟩
instance {o1:Obj}:BlkLt (w.heap.size+1) ((w.alloc o).alloc o1):=⟨by simp⟩
instance {o1 o2:Obj}:BlkLt (w.heap.size+2) (((w.alloc o).alloc o1).alloc o2):=⟨by simp⟩
instance {o1 o2 o3:Obj}:BlkLt (w.heap.size+3) ((((w.alloc o).alloc o1).alloc o2).alloc o3):=⟨by simp⟩
instance {o1 o2 o3 o4:Obj}:BlkLt (w.heap.size+4) (((((w.alloc o).alloc o1).alloc o2).alloc o3).alloc o4):=⟨by simp⟩
instance {o1 o2 o3 o4 o5:Obj}:BlkLt (w.heap.size+5) ((((((w.alloc o).alloc o1).alloc o2).alloc o3).alloc o4).alloc o5):=⟨by simp⟩
instance {o1 o2 o3 o4 o5 o6:Obj}:BlkLt (w.heap.size+6) (((((((w.alloc o).alloc o1).alloc o2).alloc o3).alloc o4).alloc o5).alloc o6):=⟨by simp⟩
@[go_sem] theorem BZ [h:BlkLt n w]:n<w.heap.size:=h.lt
@[go_sem] theorem BH [h:BlkLt n w] (k:Nat):n<w.heap.size+k:=by have:=h.lt;omega
@[go_sem] theorem Ed [h:BlkLt n w]:n<=w.heap.size:=by have:=h.lt;omega
@[go_sem] theorem Bm [h:BlkLt n w] (k:Nat):n<=w.heap.size+k:=by have:=h.lt;omega
@[go_sem] theorem D1 [h:BlkLt n w]:¬ n=w.heap.size:=by have:=h.lt;omega
@[go_sem] theorem BI [h:BlkLt n w] (k:Nat):¬ n=w.heap.size+k:=by have:=h.lt;omega
@[go_sem] theorem DW [h:BlkLt n w]:¬ w.heap.size=n:=by have:=h.lt;omega
@[go_sem] theorem BU [h:BlkLt n w] (k:Nat):¬ w.heap.size+k=n:=by have:=h.lt;omega
@[go_sem] theorem yv [h:BlkLt n w] (k:Nat):(w.ext x).cell? ⟨n,k,none⟩=w.cell? ⟨n,k,none⟩ :=
 World.cell?_of_block (w:=w) (ka w x n h.lt)
@[go_sem] theorem BX [h:BlkLt n w] (k:Nat):(w.ext x).frozen? ⟨n,k,none⟩=w.frozen? ⟨n,k,none⟩ :=
 World.frozen?_of_block (w:=w) (ka w x n h.lt)
end
theorem Ext.of_ext (w:World)(x:More):Ext w (w.ext x) :=
 ⟨rfl,rfl,rfl,by simp [World.ext],λ k hk=>ka w x k hk⟩
theorem Ext.ext {a b:World} (h:Ext a b) (x:More):Ext a (b.ext x):=h.trans (Ext.of_ext b x)
theorem Ext.out {w w':World} (h:Ext w w'):∃ x,w'=w.ext x:=by
 refine ⟨⟨w'.heap.extract w.heap.size w'.heap.size,w'.drawn⟩,?_⟩;obtain ⟨h1,h2,h3,h4,h5⟩:=h;cases w with
 | mk heap tape drawn os output =>
 cases w' with
 | mk heap' tape' drawn' os' output' =>
 simp only at h1 h2 h3 h4 h5;subst h1 h2 h3;simp only [World.ext,World.mk.injEq,and_true];apply Array.ext_getElem?;intro k;rw [Array.getElem?_append];split
 ·exact h5 k ‹_›
 ·rename_i hk;rw [Array.getElem?_extract];split
  ·congr 1;omega
  ·rw [Array.getElem?_eq_none];omega
theorem jl {w w':World} {base:Nat} {e:TypeId} {size:Nat} {v:Value} {n:Nat} {xs:List Value} (h:w.ownsRow base e size v n xs) (hx:Ext w w'):w'.ownsRow base e size v n xs:=by
 obtain ⟨h1,h2⟩:=h;refine ⟨h1,?_⟩;rcases h2 with h2|⟨g,cap,cur,hv,hg,hh,r⟩
 ·exact Or.inl h2
 ·exact Or.inr ⟨g,cap,cur,hv,hg,by rw [hx.block g (Array.getElem?_eq_some_iff.1 hh).1];exact hh,r⟩
theorem eP {w w':World} {base:Nat} {e:TypeId} {size:Nat} {v:Value} {n:Nat} {xs:List Value} (h:w.ownsRow base e size v n xs) (hg:w.grownBy w' v.ownBlock) (hb:base<=w.heap.size):Below base w w' :=
 (Below.refl _ _).grown hg hb (λ k hk=>(h.lt k hk).1)
theorem eR {w:World} {base:Nat} {e:TypeId} {size:Nat} {v:Value} {n:Nat} {xs:List Value} (h:w.ownsRow base e size v n xs):∃ sa sc,v = Zy sa n sc:=by
 rcases h.2 with ⟨rfl,rfl⟩|⟨g,cap,cur,rfl,_⟩
 ·exact ⟨_,_,rfl⟩
 ·exact ⟨_,_,rfl⟩
theorem lK {P:Program} {ops:Array Oper} {rest:List Oper} {o:Oper} {a:Act} {Q:Exit->Act->World->Prop} {W0:World} {cs:Array Value} {e0:TypeId} (hgd:o.guard=none) (s x:Operand) (t:TypeId)
  (ho:o.op = .call { callee := .builtin .append,args:=#[s,x],argTypes:=#[t,t] })
  (base:Nat) (e:TypeId)(i:TypeInfo) (z:Value)(size bytes:Nat) (ht:P.underlying t=some (.slice e)) (hi:P.info? e=some i) (hz:i.zero=some z)
  (hsize:i.size=size) (hby:i.bytes=bytes) (hzs:z.cells.size=size) (hsz:0<size)
  (v:Value)(n:Nat) (xs:List Value)(hown:W0.ownsRow base e size v n xs) (m c:Nat) (hs:a.eval s=v)
  (hx:a.eval x = Zy (some ⟨W0.heap.size,0,none⟩) m c) (hl:cs.toList.length=m*size) (h1:∀ u∈cs.toList,u.oneCell'=true)
  (h63:n+m<=maxLen) (hbytes:(n+m)*bytes<=140737488355328) (hbase:base<=W0.heap.size)
  (h:∀ sa sc w',w'.ownsRow base e size (.slice sa (n+m) sc) (n+m) (xs++cs.toList)->Below base (W0.alloc (.cells cs e0)) w'->wpList P ops Q rest (a.put o.dst (.slice sa (n+m) sc)) w') :
  wpList P ops Q (o :: rest) a (W0.alloc (.cells cs e0)):=by
 have hb:base<=(W0.alloc (.cells cs e0)).heap.size:=by simp;omega
 refine wpList_append_own _ hgd s x t ho base e i z size bytes ht hi hz hsize hby hzs hsz v n xs hs (hown.alloc _) ⟨W0.heap.size,0,none⟩ m c cs.toList hx hl ?_ h1 h63 hbytes hb ?_
 ·intro j u hu;have hadd:(⟨W0.heap.size,0,none⟩:Addr).add j=⟨W0.heap.size,j,none⟩:=by unfold Addr.add;split <;> simp_all
  rw [hadd];simpa using hu
 ·intro v' w' hown' hg _;obtain ⟨sa,sc,rfl⟩:=eR hown';exact h sa sc w' hown' (eP (hown.alloc _) hg hb)
end Go.Sec
namespace Go.Sec
open Go.RowKit
theorem eX {w w' : World} (h : Ext w w' := by repeat (first | (with_reducible first | exact Go.Sec.Ext.refl _ | assumption | apply Go.Sec.Ext.alloc | apply Go.Sec.Ext.ext | apply Go.Sec.Ext.drew | refine Go.Sec.Ext.setCell ?_ ?_ _) | (focus (simp [go_sem]; done)))) : Ext w w' := h
theorem sS {p : Prop} (h : p := by repeat' (first | with_reducible assumption | (with_reducible exact dE _) | (with_reducible exact bI _ _ _) | (with_reducible first | apply Sl.upE | apply Sl.upA | apply Sl.upD))) : p := h
theorem sC {p : Prop} (h : p := by repeat' (first | with_reducible assumption | (refine sm ?_ ?_ ?_ ?_ _; (· (repeat' (first | with_reducible assumption | (with_reducible exact dE _) | (with_reducible exact bI _ _ _) | (with_reducible first | apply Sl.upE | apply Sl.upA | apply Sl.upD)))); (· omega); (· (repeat' (first | with_reducible assumption | (with_reducible exact dE _) | (with_reducible exact bI _ _ _) | (with_reducible first | apply Sl.upE | apply Sl.upA | apply Sl.upD)))); (· omega)) | (with_reducible first | apply Bsc.upE | apply Bsc.upA | apply Bsc.upD))) : p := h
theorem oC {p : Prop} (h : p := by simp; repeat' (first | rfl | constructor)) : p := h
end Go.Sec
namespace Go
theorem Zo{p:Prop}(h:p:=by omega):p:=h
theorem Zs{p:Prop}(h:p:=by simp):p:=h
theorem Zk{p:Prop}(h:p:=by kernel_rfl):p:=h
theorem Zd{p:Prop}(h:p:=by decide):p:=h
theorem Zg{p:Prop}(h:p:=by go_num):p:=h
end Go
namespace Go
abbrev aaa := @Go.bodyPost_ret
abbrev aab := @List.mem_singleton_self
abbrev aac := @List.mem_append_right
abbrev aad := @Nat.le_refl
abbrev aae := @if_neg
abbrev aaf := @bne_eq_false_iff_eq
abbrev aag := @List.length_append
abbrev aah := @List.take_of_length_le
abbrev aai := @Nat.lt_of_lt_of_le
abbrev aaj := @if_pos
abbrev aak := @Nat.zero_le
abbrev aal := @Nat.le_trans
abbrev aam := @List.append_assoc
abbrev aan := @Int.cast_ofNat_Int
abbrev aao := @bne_iff_ne
abbrev aap := @Go.wpAnyH_take
abbrev aaq := @List.eq_nil_of_length_eq_zero
abbrev aar := @beq_eq_false_iff_ne
abbrev aas := @List.take_succ_eq_append_getElem
abbrev aat := @List.length_take
abbrev aau := @List.mem_singleton
abbrev aav := @decide_eq_true
abbrev aaw := @List.all_eq_true
abbrev aax := @List.take_append_of_le_length
abbrev aay := @decide_eq_false
abbrev aaz := @Bool.and_eq_true
abbrev aaA := @Nat.zero_add
abbrev aaB := @List.getElem_mem
abbrev aaC := @List.length_map
abbrev aaD := @Bool.false_eq_true
abbrev aaE := @Go.Result.andThen_ok
abbrev aaF := @List.drop_of_length_le
abbrev aaG := @Go.IntKind.wrap_u64
abbrev aaH := @UInt64.toNat_ofNat'
abbrev aaI := @List.mem_append_left
abbrev aaJ := @List.length_drop
abbrev aaK := @List.map_append
abbrev aaL := @List.length_replicate
abbrev aaM := @List.length_cons
abbrev aaN := @List.mem_of_mem_take
abbrev aaO := @Go.IntKind.wrap_i64
abbrev aaP := @List.mem_append
abbrev aaQ := @Int.emod_lt_of_pos
abbrev aaR := @List.mem_range
abbrev aaS := @Go.wp_region_held_drew
abbrev aaT := @List.map_set
abbrev aaU := @Nat.mod_eq_of_lt
abbrev aaV := @of_decide_eq_true
abbrev aaW := @Go.Sem.run_bind
abbrev aaX := @Go.Sem.run_pure
abbrev aaY := @Nat.add_assoc
abbrev aaZ := @List.range_succ
abbrev aa0 := @List.drop_append_of_le_length
abbrev aa1 := @Go.Region.noSelect_spec
abbrev aa2 := @List.mem_map
abbrev aa3 := @List.map_cons
abbrev aa4 := @List.mem_cons_self
abbrev aa5 := @beq_iff_eq
abbrev aa6 := @Int.emod_nonneg
abbrev aa7 := @forall_eq_or_imp
abbrev aa8 := @Go.World.size_alloc
abbrev aa9 := @decide_eq_true_eq
abbrev aba := @if_true
abbrev abb := @Go.IntKind.wrap_u8
abbrev abd := @List.drop_drop
abbrev abe := @Nat.lt_or_ge
abbrev abf := @List.getElem_append_left
abbrev abg := @if_false
abbrev abh := @Go.wpAnyH_done
abbrev abi := @Nat.add_comm
abbrev abj := @List.map_nil
abbrev abk := @Bool.eq_iff_iff
abbrev abl := @List.map_toArray
abbrev abm := @Int.toNat_natCast
abbrev abn := @List.take_add_one
abbrev abo := @List.map_congr_left
abbrev abp := @List.getElem_map
abbrev abq := @Option.getD_some
abbrev abr := @List.mem_cons
abbrev abt := @or_false
abbrev abu := @Int.natCast_nonneg
abbrev abv := @Nat.add_zero
abbrev abw := @Bool.true_eq_false
abbrev abx := @Go.getD_set_ne
abbrev aby := @List.replicate_succ'
abbrev abz := @Bool.or_eq_true
abbrev abA := @Go.World.ownsRow_nil
abbrev abB := @List.eq_of_mem_replicate
abbrev abC := @List.all_eq_false
abbrev abD := @Nat.le_of_not_lt
abbrev abE := @List.ext_getElem
abbrev abF := @Go.run_underlying
abbrev abG := @Nat.mul_one
end Go
namespace Go
open Go.RowKit Go.Sec
abbrev E7:=List UInt8
abbrev E8:=Option Addr
abbrev E9:=@Below.trans
abbrev FA:=@Ext.of_alloc
abbrev FC:=@Lib.hid
abbrev FD:=@Ext.refl
abbrev FE:=@Ext.of_ext
abbrev FF:=@List.getD_eq_getElem?_getD
abbrev FG:=@Option.some.inj
abbrev FH:=@World.cell?_of_block
abbrev FI:=@List.length_set
end Go
