/- Lemmas of this claim, several texts joined. -/
import Derived.WalkKit
import Derived.Handy
import Derived.WalkSpells
import Derived.WalkLawsBesides
import Derived.Lib.Hide
import Derived.Deep.RegionHeld3
import Derived.Deep.DeepCutAuto
import Derived.BigQuiet
set_option maxRecDepth 100000
open Go.Value renaming slice -> Zy
set_option maxHeartbeats 8000000
set_option linter.unusedVariables false
set_option linter.unusedSimpArgs false
/- General laws for walks: what stays of the blocks below a bound, behind a call that only makes memory; a region that draws its order, all of whose operations leave such a world. -/
namespace Go.Sec
open Go.RowKit
abbrev Ext (w w':World):Prop:=Below w.heap.size w w'
theorem Ext.refl (w:World):Ext w w:=Below.refl _ _
theorem Ext.trans {a b c:World} (h:Ext a b) (k:Ext b c):Ext a c:=Below.trans h (Below.mono k h.size)
theorem Ext.alloc {a b:World} (h:Ext a b) (o:Obj):Ext a (b.alloc o):=Below.alloc h h.size o
theorem Ext.of_alloc (w:World)(o:Obj):Ext w (w.alloc o):=(Ext.refl w).alloc o
theorem Ext.drew {a b:World} (h:Ext a b):Ext a b.drew:=Below.drew h
theorem Ext.setCell {a b:World} (h:Ext a b) {p:Addr} (hp:a.heap.size<=p.block) (u:Value):Ext a (b.setCell p u):=Below.setCell h hp u
theorem Ext.keeps {W w1:World} (hb:Ext W w1) (N:Nat) (hN:N<=W.heap.size) :
  (∀ b o,b<N->w1.cell? ⟨b,o,none⟩=W.cell? ⟨b,o,none⟩)/\N<=w1.heap.size :=
 ⟨λ b o h=>hb.cell (p:=⟨b,o,none⟩) (Nat.lt_of_lt_of_le h hN),Nat.le_trans hN hb.size⟩
theorem Ext.box {W w1:World} (hb:Ext W w1) (N:Nat) (hN:N<W.heap.size) :
  (∀ o,w1.cell? ⟨N,o,none⟩=W.cell? ⟨N,o,none⟩)/\(∀ o,w1.frozen? ⟨N,o,none⟩=W.frozen? ⟨N,o,none⟩)/\N<w1.heap.size :=
 ⟨λ o=>hb.cell (p:=⟨N,o,none⟩) hN,λ o=>hb.frozen (p:=⟨N,o,none⟩) hN,Nat.lt_of_lt_of_le hN hb.size⟩
structure More where
 objs:Array Obj
 drawn:Nat
instance:Inhabited More:=⟨⟨#[],0⟩⟩
def _root_.Go.World.ext (w:World)(x:More):World:={ w with heap:=w.heap++x.objs,drawn:=x.drawn }
theorem kp (w:World)(x:More) (k:Nat) (h:k<w.heap.size):(w.ext x).heap[k]?=w.heap[k]?:=by
 simp [World.ext,Array.getElem?_append,h]
class BlkLt (n:Nat) (w:World):Prop where
 lt:n<w.heap.size
section
variable {n:Nat} {w:World} {x:More} {o:Obj}
instance (priority:=low) [h:BlkLt n w]:BlkLt n (w.alloc o):=⟨by have:=h.lt;simp;omega⟩
instance [h:BlkLt n w]:BlkLt n (w.ext x):=⟨by have:=h.lt;simp [World.ext];omega⟩
instance [h:BlkLt n w]:BlkLt n w.drew:=⟨h.lt⟩
instance {p:Addr} {v:Value} [h:BlkLt n w]:BlkLt n (w.setCell p v):=⟨by have:=h.lt;simp;omega⟩
instance:BlkLt w.heap.size (w.alloc o):=⟨by simp⟩
instance {o1:Obj}:BlkLt (w.heap.size+1) ((w.alloc o).alloc o1):=⟨by simp⟩
instance {o1 o2:Obj}:BlkLt (w.heap.size+2) (((w.alloc o).alloc o1).alloc o2):=⟨by simp⟩
instance {o1 o2 o3:Obj}:BlkLt (w.heap.size+3) ((((w.alloc o).alloc o1).alloc o2).alloc o3):=⟨by simp⟩
instance {o1 o2 o3 o4:Obj}:BlkLt (w.heap.size+4) (((((w.alloc o).alloc o1).alloc o2).alloc o3).alloc o4):=⟨by simp⟩
instance {o1 o2 o3 o4 o5:Obj}:BlkLt (w.heap.size+5) ((((((w.alloc o).alloc o1).alloc o2).alloc o3).alloc o4).alloc o5):=⟨by simp⟩
instance {o1 o2 o3 o4 o5 o6:Obj}:BlkLt (w.heap.size+6) (((((((w.alloc o).alloc o1).alloc o2).alloc o3).alloc o4).alloc o5).alloc o6):=⟨by simp⟩
@[go_sem] theorem A2 [h:BlkLt n w]:n<w.heap.size:=h.lt
@[go_sem] theorem Bv [h:BlkLt n w] (k:Nat):n<w.heap.size+k:=by have:=h.lt;omega
@[go_sem] theorem Dy [h:BlkLt n w]:n<=w.heap.size:=by have:=h.lt;omega
@[go_sem] theorem Bl [h:BlkLt n w] (k:Nat):n<=w.heap.size+k:=by have:=h.lt;omega
@[go_sem] theorem DK [h:BlkLt n w]:¬ n=w.heap.size:=by have:=h.lt;omega
@[go_sem] theorem Bc [h:BlkLt n w] (k:Nat):¬ n=w.heap.size+k:=by have:=h.lt;omega
@[go_sem] theorem DY [h:BlkLt n w]:¬ w.heap.size=n:=by have:=h.lt;omega
@[go_sem] theorem BG [h:BlkLt n w] (k:Nat):¬ w.heap.size+k=n:=by have:=h.lt;omega
@[go_sem] theorem xX [h:BlkLt n w] (k:Nat):(w.ext x).cell? ⟨n,k,none⟩=w.cell? ⟨n,k,none⟩ :=
 World.cell?_of_block (w:=w) (kp w x n h.lt)
@[go_sem] theorem Bp [h:BlkLt n w] (k:Nat):(w.ext x).frozen? ⟨n,k,none⟩=w.frozen? ⟨n,k,none⟩ :=
 World.frozen?_of_block (w:=w) (kp w x n h.lt)
end
theorem Ext.of_ext (w:World)(x:More):Ext w (w.ext x) :=
 ⟨rfl,rfl,rfl,by simp [World.ext],λ k hk=>kp w x k hk⟩
theorem Ext.ext {a b:World} (h:Ext a b) (x:More):Ext a (b.ext x):=h.trans (Ext.of_ext b x)
theorem Ext.out {w w':World} (h:Ext w w'):∃ x,w'=w.ext x:=by
 refine ⟨⟨w'.heap.extract w.heap.size w'.heap.size,w'.drawn⟩,?_⟩;obtain ⟨h1,h2,h3,h4,h5⟩:=h;cases w with
 | mk heap tape drawn os output =>
 cases w' with
 | mk heap' tape' drawn' os' output' =>
 simp only at h1 h2 h3 h4 h5;subst h1 h2 h3;simp only [World.ext,World.mk.injEq,and_true];apply Array.ext_getElem?;intro k;rw [Array.getElem?_append];split
 ·exact h5 k ‹_›
 ·rename_i hk;rw [Array.getElem?_extract];split
  ·congr 1;omega
  ·rw [Array.getElem?_eq_none];omega
theorem je {w w':World} {base:Nat} {e:TypeId} {size:Nat} {v:Value} {n:Nat} {xs:List Value} (h:w.ownsRow base e size v n xs) (hx:Ext w w'):w'.ownsRow base e size v n xs:=by
 obtain ⟨h1,h2⟩:=h;refine ⟨h1,?_⟩;rcases h2 with h2|⟨g,cap,cur,hv,hg,hh,r⟩
 ·exact Or.inl h2
 ·exact Or.inr ⟨g,cap,cur,hv,hg,by rw [hx.block g (Array.getElem?_eq_some_iff.1 hh).1];exact hh,r⟩
theorem eL {w w':World} {base:Nat} {e:TypeId} {size:Nat} {v:Value} {n:Nat} {xs:List Value} (h:w.ownsRow base e size v n xs) (hg:w.grownBy w' v.ownBlock) (hb:base<=w.heap.size):Below base w w' :=
 (Below.refl _ _).grown hg hb (λ k hk=>(h.lt k hk).1)
theorem eY {w:World} {base:Nat} {e:TypeId} {size:Nat} {v:Value} {n:Nat} {xs:List Value} (h:w.ownsRow base e size v n xs):∃ sa sc,v = Zy sa n sc:=by
 rcases h.2 with ⟨rfl,rfl⟩|⟨g,cap,cur,rfl,_⟩
 ·exact ⟨_,_,rfl⟩
 ·exact ⟨_,_,rfl⟩
theorem lV {P:Program} {ops:Array Oper} {rest:List Oper} {o:Oper} {a:Act} {Q:Exit->Act->World->Prop} {W0:World} {cs:Array Value} {e0:TypeId} (hgd:o.guard=none) (s x:Operand) (t:TypeId)
  (ho:o.op = .call { callee := .builtin .append,args:=#[s,x],argTypes:=#[t,t] })
  (base:Nat) (e:TypeId)(i:TypeInfo) (z:Value)(size bytes:Nat) (ht:P.underlying t=some (.slice e)) (hi:P.info? e=some i) (hz:i.zero=some z)
  (hsize:i.size=size) (hby:i.bytes=bytes) (hzs:z.cells.size=size) (hsz:0<size)
  (v:Value)(n:Nat) (xs:List Value)(hown:W0.ownsRow base e size v n xs) (m c:Nat) (hs:a.eval s=v)
  (hx:a.eval x = Zy (some ⟨W0.heap.size,0,none⟩) m c) (hl:cs.toList.length=m*size) (h1:∀ u∈cs.toList,u.oneCell'=true)
  (h63:n+m<=maxLen) (hbytes:(n+m)*bytes<=140737488355328) (hbase:base<=W0.heap.size)
  (h:∀ sa sc w',w'.ownsRow base e size (.slice sa (n+m) sc) (n+m) (xs++cs.toList)->Below base (W0.alloc (.cells cs e0)) w'->wpList P ops Q rest (a.put o.dst (.slice sa (n+m) sc)) w') :
  wpList P ops Q (o :: rest) a (W0.alloc (.cells cs e0)):=by
 have hb:base<=(W0.alloc (.cells cs e0)).heap.size:=by simp;omega
 refine wpList_append_own _ hgd s x t ho base e i z size bytes ht hi hz hsize hby hzs hsz v n xs hs (hown.alloc _) ⟨W0.heap.size,0,none⟩ m c cs.toList hx hl ?_ h1 h63 hbytes hb ?_
 ·intro j u hu;have hadd:(⟨W0.heap.size,0,none⟩:Addr).add j=⟨W0.heap.size,j,none⟩:=by unfold Addr.add;split <;> simp_all
  rw [hadd];simpa using hu
 ·intro v' w' hown' hg _;obtain ⟨sa,sc,rfl⟩:=eY hown';exact h sa sc w' hown' (eL (hown.alloc _) hg hb)
end Go.Sec
namespace Go.Sec
open Go.RowKit
theorem eX {w w' : World} (h : Ext w w' := by repeat (first | (with_reducible first | exact Go.Sec.Ext.refl _ | assumption | apply Go.Sec.Ext.alloc | apply Go.Sec.Ext.ext | apply Go.Sec.Ext.drew | refine Go.Sec.Ext.setCell ?_ ?_ _) | (focus (simp [go_sem]; done)))) : Ext w w' := h
theorem sS {p : Prop} (h : p := by repeat' (first | with_reducible assumption | (with_reducible exact dG _) | (with_reducible exact bO _ _ _) | (with_reducible first | apply Sl.upE | apply Sl.upA | apply Sl.upD))) : p := h
theorem sC {p : Prop} (h : p := by repeat' (first | with_reducible assumption | (refine s6 ?_ ?_ ?_ ?_ _; (· (repeat' (first | with_reducible assumption | (with_reducible exact dG _) | (with_reducible exact bO _ _ _) | (with_reducible first | apply Sl.upE | apply Sl.upA | apply Sl.upD)))); (· omega); (· (repeat' (first | with_reducible assumption | (with_reducible exact dG _) | (with_reducible exact bO _ _ _) | (with_reducible first | apply Sl.upE | apply Sl.upA | apply Sl.upD)))); (· omega)) | (with_reducible first | apply Bsc.upE | apply Bsc.upA | apply Bsc.upD))) : p := h
theorem oC {p : Prop} (h : p := by simp; repeat' (first | rfl | constructor)) : p := h
end Go.Sec
namespace Go
theorem Zo{p:Prop}(h:p:=by omega):p:=h
theorem Zs{p:Prop}(h:p:=by simp):p:=h
theorem Zk{p:Prop}(h:p:=by kernel_rfl):p:=h
theorem Zd{p:Prop}(h:p:=by decide):p:=h
theorem Zg{p:Prop}(h:p:=by go_num):p:=h
end Go
namespace Go
abbrev aaa := @List.mem_singleton_self
abbrev aab := @Go.bodyPost_ret
abbrev aac := @forall_eq_or_imp
abbrev aad := @List.mem_append_right
abbrev aae := @Nat.le_refl
abbrev aaf := @if_neg
abbrev aag := @Nat.zero_add
abbrev aah := @List.length_append
abbrev aai := @bne_eq_false_iff_eq
abbrev aaj := @Nat.lt_of_lt_of_le
abbrev aak := @List.take_of_length_le
abbrev aal := @if_pos
abbrev aam := @Nat.zero_le
abbrev aan := @forall_eq
abbrev aao := @List.append_assoc
abbrev aap := @Int.cast_ofNat_Int
abbrev aaq := @Nat.le_trans
abbrev aar := @or_false
abbrev aas := @Go.wpAnyH_take
abbrev aat := @false_or
abbrev aau := @true_and
abbrev aav := @and_true
abbrev aaw := @List.eq_nil_of_length_eq_zero
abbrev aax := @bne_iff_ne
abbrev aay := @Bool.and_eq_true
abbrev aaz := @beq_eq_false_iff_ne
abbrev aaA := @List.take_succ_eq_append_getElem
abbrev aaB := @List.mem_singleton
abbrev aaC := @decide_eq_true
abbrev aaD := @List.take_append_of_le_length
abbrev aaE := @List.all_eq_true
abbrev aaF := @List.length_take
abbrev aaG := @Bool.false_eq_true
abbrev aaH := @decide_eq_false
abbrev aaI := @Go.Result.andThen_ok
abbrev aaJ := @List.length_map
abbrev aaK := @List.drop_of_length_le
abbrev aaL := @Go.IntKind.wrap_u64
abbrev aaM := @List.length_cons
abbrev aaN := @List.getElem_mem
abbrev aaO := @UInt64.toNat_ofNat'
abbrev aaP := @List.map_append
abbrev aaQ := @List.length_replicate
abbrev aaR := @List.length_drop
abbrev aaS := @Go.Region.noSelect_spec
abbrev aaT := @Int.emod_lt_of_pos
abbrev aaU := @List.mem_append_left
abbrev aaV := @of_decide_eq_true
abbrev aaW := @List.mem_range
abbrev aaX := @Go.wp_region_held_drew
abbrev aaY := @Go.Sem.run_bind
abbrev aaZ := @Go.Sem.run_pure
abbrev aa0 := @List.map_set
abbrev aa1 := @Nat.add_assoc
abbrev aa2 := @Nat.mod_eq_of_lt
abbrev aa3 := @decide_eq_true_eq
abbrev aa4 := @List.mem_append
abbrev aa5 := @List.mem_cons_self
abbrev aa6 := @List.mem_map
abbrev aa7 := @List.range_succ
abbrev aa8 := @Int.emod_nonneg
abbrev aa9 := @List.drop_append_of_le_length
abbrev aba := @List.mem_of_mem_take
abbrev abb := @List.map_cons
abbrev abd := @beq_iff_eq
abbrev abe := @Go.IntKind.wrap_i64
abbrev abf := @Go.World.size_alloc
abbrev abg := @if_true
abbrev abh := @Go.IntKind.wrap_u8
abbrev abi := @List.drop_drop
abbrev abj := @Nat.lt_or_ge
abbrev abk := @List.getElem_append_left
abbrev abl := @Go.wpAnyH_done
abbrev abm := @Nat.add_comm
abbrev abn := @if_false
abbrev abo := @List.map_nil
abbrev abp := @Bool.eq_iff_iff
abbrev abq := @List.map_toArray
abbrev abr := @Int.toNat_natCast
abbrev abt := @Go.getD_set_ne
abbrev abu := @List.map_congr_left
abbrev abv := @List.mem_cons
abbrev abw := @Int.natCast_nonneg
abbrev abx := @Nat.add_zero
abbrev aby := @List.mem_take_iff_getElem
abbrev abz := @List.replicate_succ'
abbrev abA := @List.mem_cons_of_mem
abbrev abB := @Bool.or_eq_true
abbrev abC := @Go.World.ownsRow_nil
abbrev abD := @List.take_add_one
abbrev abE := @List.eq_of_mem_replicate
abbrev abF := @Nat.le_of_not_lt
abbrev abG := @List.getElem_map
abbrev abH := @List.ext_getElem
abbrev abI := @Option.getD_some
abbrev abJ := @Go.run_underlying
abbrev abK := @Nat.mul_one
end Go
