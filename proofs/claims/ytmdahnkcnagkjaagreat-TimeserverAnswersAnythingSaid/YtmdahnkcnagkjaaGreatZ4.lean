/- Lemmas of this claim, several texts joined. -/
import Derived.Laws.MakeOwn
import Derived.Laws.AppendOwn
import Derived.Laws.BitsAllLaws
import Derived.Laws.BitsLemmas
import Derived.Deep.AppendLies
import Derived.Lib.ConvBytes
import Derived.Laws.BytesArg
import Derived.Test.YtmdahnkcnagkjaaGreatZ3
set_option maxRecDepth 100000
open Go.Value renaming int -> Zz,slice -> Zy
open Go.IntKind renaming i64 -> Zx,u64 -> Zw,u32 -> Zv,u8 -> Zu
set_option maxHeartbeats 8000000
set_option linter.unusedVariables false
set_option linter.unusedSimpArgs false
/- General laws on rows of values in memory: what a slice reads as, what stays readable, how bytes reckon. -/
namespace Go.Sec
open Go.RowKit
def n8 (x:UInt8):Int:=(x.toNat:Int)
def n32 (x:UInt32):Int:=(x.toNat:Int)
def n64 (x:UInt64):Int:=(x.toNat:Int)
abbrev u8v (x:UInt8):Value := Zz Zu (n8 x)
abbrev kq (x:UInt32):Value := Zz Zv (n32 x)
abbrev rI (x:UInt64):Value := Zz Zw (n64 x)
abbrev nK (x:Int):Value := Zz Zx x
def Rd (w:World)(a:E8)(vs:List Value):Prop :=
 vs=[]\/∃ b off,a=some ⟨b,off,none⟩/\b<w.heap.size/\∀ (k:Nat) v,vs[k]?=some v->w.cell? ⟨b,off+k,none⟩=some v
abbrev By (w:World)(a:E8)(l:E7):Prop:=Rd w a (l.map u8v)
theorem Rd.nil (w:World)(a:E8):Rd w a [] := .inl rfl
theorem Rd.ext {w w':World} {a:E8} {vs:List Value} (h:Rd w a vs) (hx:Ext w w'):Rd w' a vs:=by
 rcases h with h|⟨b,off,ha,hb,hc⟩
 ·exact .inl h
 ·exact .inr ⟨b,off,ha,aai hb hx.size,λ k v hk=>(hx.cell (p:=⟨b,_,none⟩) hb).trans (hc k v hk)⟩
theorem Rd.at {w:World} {a:E8} {vs:List Value} (h:Rd w a vs) (k:Nat) (hk:k<vs.length) :
  ∃ b off,a=some ⟨b,off,none⟩/\BlkLt b w/\w.cell? ⟨b,off+k,none⟩=some vs[k]:=by
 rcases h with h|⟨b,off,ha,hb,hc⟩
 ·subst h;simp at hk
 ·exact ⟨b,off,ha,⟨hb⟩,hc k _ (List.getElem?_eq_getElem hk)⟩
theorem By.at {w:World} {a:E8} {l:E7} (h:By w a l) (k:Nat) (hk:k<l.length) :
  ∃ b off,a=some ⟨b,off,none⟩/\BlkLt b w/\w.cell? ⟨b,off+k,none⟩=some (Zz Zu (n8 l[k])):=by
 obtain ⟨b,off,ha,hb,hc⟩:=Rd.at h k (by simpa using hk);exact ⟨b,off,ha,hb,by simpa using hc⟩
def dX (a:E8)(m l s:Nat):E8:=if m=l then a else a.map (·.add (l*s))
@[go_sem] theorem Cp (a:E8)(m l s:Nat):(if m=l then a else a.map (λ x=>x.add (l*s)))=dX a m l s:=rfl
@[go_sem] theorem BM (a:E8)(m l:Nat):(if m=l then a else a.map (λ x=>x.add l))=dX a m l 1:=by simp [dX]
@[go_sem] theorem Cd (a:E8)(m s:Nat):dX a m 0 s=a:=by
 unfold dX;split
 ·rfl
 ·cases a <;> simp [Addr.add]
theorem bX (b o k:Nat):(⟨b,o,none⟩:Addr).add k=⟨b,o+k,none⟩:=by
 unfold Addr.add;split <;> simp_all
theorem Rd.part {w:World} {a:E8} {vs:List Value} (h:Rd w a vs) (m i:Nat) (hm:vs.length<=m):Rd w (dX a m i 1) (vs.drop i):=by
 rcases h with h|⟨b,off,rfl,hb,hc⟩
 ·subst h;exact .inl Zs
 ·unfold dX;split
  ·exact .inl (by simp;omega)
  ·simp only [Option.map_some,abG,bX];exact .inr ⟨b,off+i,rfl,hb,λ k v hk=>by
    rw [aaY];exact hc (i+k) v (by simpa using hk)⟩
theorem Rd.head {w:World} {a:E8} {vs:List Value} (h:Rd w a vs) (j:Nat):Rd w a (vs.take j):=by
 rcases h with h|⟨b,off,rfl,hb,hc⟩
 ·subst h;exact .inl Zs
 ·exact .inr ⟨b,off,rfl,hb,λ k v hk=>hc k v (by
   rw [List.getElem?_take] at hk;split at hk
   ·exact hk
   ·cases hk)⟩
theorem By.drop {w:World} {a:E8} {l:E7} (h:By w a l) (m i:Nat) (hm:l.length<=m):By w (dX a m i 1) (l.drop i):=by
 have:=Rd.part h m i (by simpa using hm)
 rwa [<- List.map_drop] at this
theorem By.take {w:World} {a:E8} {l:E7} (h:By w a l) (j:Nat):By w a (l.take j):=by
 have:=Rd.head h j
 rwa [<- List.map_take] at this
theorem Rd.of_own {w:World} {base:Nat} {e:TypeId} {a:E8} {n c:Nat} {vs:List Value} (h:w.ownsRow base e 1 (Zy a n c) n vs):Rd w a vs:=by
 have hc:=λ g=>h.cells (g:=g);rcases h.2 with ⟨h1,h2⟩|⟨g,cap,cur,hv,_,hg,_⟩
 ·have:=h.1;left;apply aaq;omega
 ·injection hv with h1 h2 h3
  subst h1;refine .inr ⟨g,0,rfl,(Array.getElem?_eq_some_iff.1 hg).1,λ k v hk=>?_⟩;have:=hc g rfl k v hk
  rwa [bX] at this
theorem xp {w:World} {base:Nat} {e:TypeId} {a:E8} {n c:Nat} {vs:List Value} (h:w.ownsRow base e 1 (Zy a n c) n vs) (hn:0<n) :
  ∃ g cur,a=some ⟨g,0,none⟩/\base<=g/\w.heap[g]?=some (.cells cur e (0,0))/\n<=c/\c<=maxLen/\cur.size=c/\cur.toList.take n=vs:=by
 rcases h.2 with ⟨h1,h2⟩|⟨g,cap,cur,hv,h2,h3,h4,h5,h6,h7⟩
 ·omega
 ·injection hv with e1 e2 e3
  subst e1 e3;exact ⟨g,cur,rfl,h2,h3,h4,h5,by simpa using h6,by simpa using h7⟩
def Blk (w:World)(g:Nat) (t:TypeId)(vs:List Value):Prop:=w.heap[g]?=some (.cells vs.toArray t (0,0))
section blk
variable {w w':World} {g:Nat} {t:TypeId} {vs:List Value}
theorem Blk.lt (h:Blk w g t vs):g<w.heap.size:=(Array.getElem?_eq_some_iff.1 h).1
theorem Blk.cell (h:Blk w g t vs) (k:Nat) (hk:k<vs.length):w.cell? ⟨g,k,none⟩=some vs[k]:=by
 rw [cell_of_row w g k _ t (0,0) h];simp [hk]
theorem Blk.cell? (h:Blk w g t vs) (k:Nat) {v:Value} (hk:vs[k]?=some v):w.cell? ⟨g,k,none⟩=some v:=by
 rw [cell_of_row w g k _ t (0,0) h];simpa using hk
theorem Blk.free (h:Blk w g t vs) (k:Nat):w.frozen? ⟨g,k,none⟩=false:=by
 unfold Blk at h;simp [World.frozen?,h]
theorem Blk.set (h:Blk w g t vs) (i:Nat) (v:Value):Blk (w.setCell ⟨g,i,none⟩ v) g t (vs.set i v):=by
 have:=heap_setCell_same w g i _ t v h;unfold Blk;rw [this];simp
theorem Blk.other (h:Blk w g t vs) {a:Addr} (ha:g≠a.block) (v:Value):Blk (w.setCell a v) g t vs:=(Below.heap_setCell w a v g ha).trans h
theorem Blk.ext (h:Blk w g t vs) (x:More):Blk (w.ext x) g t vs:=(ka w x g h.lt).trans h
theorem Blk.alloc (h:Blk w g t vs) (o:Obj):Blk (w.alloc o) g t vs:=(Below.heap_alloc w o g h.lt).trans h
theorem Blk.drew (h:Blk w g t vs):Blk w.drew g t vs:=h
theorem Blk.new (w:World)(cs:Array Value) (t:TypeId):Blk (w.alloc (.cells cs t)) w.heap.size t cs.toList:=by
 unfold Blk;rw [heap_alloc_new]
theorem Blk.extB (h:Blk w g t vs) (hx:Ext w w'):Blk w' g t vs:=(hx.block g h.lt).trans h
theorem Blk.rd (h:Blk w g t vs):Rd w (some ⟨g,0,none⟩) vs :=
 .inr ⟨g,0,rfl,h.lt,λ k v hk=>by rw [aaA];exact h.cell? k hk⟩
theorem Blk.rdAt (h:Blk w g t vs) (o:Nat):Rd w (some ⟨g,o,none⟩) (vs.drop o) :=
 .inr ⟨g,o,rfl,h.lt,λ k v hk=>h.cell? (o+k) (by simpa using hk)⟩
theorem Blk.blt (h:Blk w g t vs):BlkLt g w:=⟨h.lt⟩
theorem Blk.own (h:Blk w g t vs) {base:Nat} (hb:base<=g) (n:Nat) (hn:n<=vs.length) (hm:vs.length<=maxLen):w.ownsRow base t 1 (Zy (some ⟨g,0,none⟩) n vs.length) n (vs.take n) :=
 ⟨by simp;omega, .inr ⟨g,vs.length,vs.toArray,rfl,hb,h,hn,hm,Zs,Zs⟩⟩
end blk
theorem Blk.of_own {w:World} {base:Nat} {e:TypeId} {a:E8} {n c:Nat} {vs:List Value} (h:w.ownsRow base e 1 (Zy a n c) n vs) (hn:0<n) :
  ∃ g vs',a=some ⟨g,0,none⟩/\base<=g/\Blk w g e vs'/\vs'.length=c/\n<=c/\c<=maxLen/\vs'.take n=vs:=by
 obtain ⟨g,cur,h1,h2,h3,h4,h5,h6,h7⟩:=xp h hn;exact ⟨g,cur.toList,h1,h2,by unfold Blk;simpa using h3,by simpa using h6,h4,h5,h7⟩
def bJ (v:Value)(n:Nat):Array Value:=Array.replicate n v
theorem qi (v:Value)(n:Nat):madeCells #[v] n=bJ v n:=by
 unfold madeCells bJ;apply Array.ext
 ·simp
 ·intro i h1 h2;simp [Nat.mod_one]
theorem xQ {P:Program} (t e:TypeId)(i:TypeInfo) (z:Value)(ht:P.underlying t=some (.slice e)) (hi:P.info? e=some i) (hz:i.zero=some z) (hs:i.size=1) (hzc:z.cells=#[z])
  (bytes:Nat) (hb:i.bytes=bytes) (n c:Nat) (hnc:n<=c) (hbytes:bytes*c<=281474976710656) (h63:c<=9223372036854775807) (w:World) :
  (Instr.makeSlice t (Zz Zx (n:Int)) (Zz Zx (c:Int))).run P w = .ok (Zy (some ⟨w.heap.size,0,none⟩) n c) (w.alloc (.cells (bJ z c) e)):=by
 have hb2:(i.bytes:Int)*(c:Int)<=281474976710656:=by
  subst hb;have h:((i.bytes*c:Nat):Int)<=281474976710656:=Zo
  rwa [Int.natCast_mul] at h
 have hr:=run_make (P:=P) w t e i z ht hi hz .i64 .i64 n c Zo Zo hb2 Zo;simp only [abm,hs,abG,hzc,qi] at hr;exact hr
theorem wH (w:World)(v:Value)(n:Nat) (t:TypeId):Blk (w.alloc (.cells (bJ v n) t)) w.heap.size t (List.replicate n v):=by
 have:=Blk.new w (bJ v n) t;simpa [bJ] using this
theorem _root_.z4q70{p:Prop}(h:p:=by
 rcases hown.2 with ⟨h2,h3⟩|⟨g,cap,cur,h2,_,_,h3,_⟩
 ·omega
 ·injection h2 with e1 e2 e3;omega):p:=h
theorem _root_.z4q99{p:Prop}(h:p:=by
 cases A <;> simp [Builtin.firstCells,loadCells,loadCellsFrom]):p:=h
theorem jQ {P:Program} (w:World)(base:Nat) (t ty e:TypeId)(i:TypeInfo) (z:Value)(bytes:Nat) (ht:P.underlying t=some (.slice e)) (hi:P.info? e=some i) (hz:i.zero=some z)
  (hsize:i.size=1) (hby:i.bytes=bytes) (hzs:z.cells.size=1)
  (v:Value)(n:Nat) (xs:List Value)(hown:w.ownsRow base e 1 v n xs)
  (A:E8)(m c:Nat) (news:List Value)(hr:Rd w A news) (hl:news.length=m) (h1:∀ u∈news,u.oneCell'=true)
  (h63:n+m<=maxLen) (hbytes:(n+m)*bytes<=140737488355328) (hbase:base<=w.heap.size) :
  ∃ sa sc w',(Builtin.append_ #[t,t] ty #[v, Zy A m c]).run P w = .ok (Zy sa (n+m) sc) w'/\w'.ownsRow base e 1 (Zy sa (n+m) sc) (n+m) (xs++news)/\w.grownBy w' v.ownBlock:=by
 rcases hr with h0|⟨b,off,rfl,hb,hc⟩
 ·subst h0;simp at hl;subst hl;obtain ⟨sa,sc,rfl⟩:=eR hown;have hle:n<=sc:=by
   exact z4q70
  refine ⟨sa,sc,w,?_,by simpa using hown,World.grownBy.refl w _⟩;have hf:(Builtin.firstCells 1 0 (Zy A 0 c)).run P w = .ok #[] w:=by
   exact z4q99
  cases sa <;> simp [Builtin.append_,abF ht,sizeOf,typeInfo,hi,hsize,Builtin.lenOf,hle,hf,storeCells]
 ·obtain ⟨v',w',hrun,h2,h3,_⟩:=run_append_own (P:=P) w base t ty e i z 1 bytes ht hi hz hsize hby hzs Zd v n xs hown ⟨b,off,none⟩ m c news Zo (λ j u hu=>by
   rw [bX];exact hc j u hu) h1 h63 hbytes hbase
  obtain ⟨sa,sc,rfl⟩:=eR h2;exact ⟨sa,sc,w',hrun,h2,h3⟩
theorem ly {P:Program} {w:World} {ops:Array Oper} {rest:List Oper} {o:Oper} {a:Act} {Q:Exit->Act->World->Prop} (hgd:o.guard=none) (s x:Operand) (t:TypeId)
  (ho:o.op = .call { callee := .builtin .append,args:=#[s,x],argTypes:=#[t,t] })
  (base:Nat) (e:TypeId)(i:TypeInfo) (z:Value)(bytes:Nat) (ht:P.underlying t=some (.slice e)) (hi:P.info? e=some i) (hz:i.zero=some z)
  (hsize:i.size=1) (hby:i.bytes=bytes) (hzs:z.cells.size=1)
  (v:Value)(n:Nat) (xs:List Value)(hs:a.eval s=v) (hown:w.ownsRow base e 1 v n xs)
  (A:E8)(m c:Nat) (news:List Value)(hx:a.eval x = Zy A m c) (hr:Rd w A news) (hl:news.length=m) (h1:∀ u∈news,u.oneCell'=true)
  (h63:n+m<=maxLen) (hbytes:(n+m)*bytes<=140737488355328) (hbase:base<=w.heap.size)
  (h:∀ sa sc w',w'.ownsRow base e 1 (.slice sa (n+m) sc) (n+m) (xs++news)->w.grownBy w' v.ownBlock->Below base w w'->wpList P ops Q rest (a.put o.dst (.slice sa (n+m) sc)) w') :
  wpList P ops Q (o :: rest) a w:=by
 obtain ⟨sa,sc,w',hrun,h2,h3⟩:=jQ (P:=P) w base t o.type e i z bytes ht hi hz hsize hby hzs v n xs hown A m c news hr hl h1 h63 hbytes hbase;refine wpList_plain hgd λ K hK=>?_;have:=h sa sc w' h2 h3 (eP hown h3 hbase);unfold Oper.wp execOp;simp only [ho,resolve,invoke,builtin,aaW,aaX,aaE,abl,aa3,abj,hs,hx,hrun];exact hK _ _ this
theorem aH (l:E7):∀ u∈l.map u8v,u.oneCell'=true:=by
 intro u hu;obtain ⟨x,_,rfl⟩:=aa2.1 hu;rfl
structure Sl (w:World)(a:E8)(n:Nat) (l:E7):Prop where
 len:l.length=n
 by':By w a l
theorem Sl.ext {w w':World} {a:E8} {n:Nat} {l:E7} (h:Sl w a n l) (hx:Ext w w'):Sl w' a n l:=⟨h.len,h.by'.ext hx⟩
theorem Sl.at {w:World} {a:E8} {n:Nat} {l:E7} (h:Sl w a n l) (k:Nat) (hk:k<n) :
  ∃ b off,a=some ⟨b,off,none⟩/\BlkLt b w/\w.cell? ⟨b,off+k,none⟩=some (Zz Zu (n8 (l[k]'(by have:=h.len;omega)))):=h.by'.at k (by have:=h.len;omega)
theorem Sl.drop {w:World} {a:E8} {n:Nat} {l:E7} (h:Sl w a n l) (m i:Nat) (hm:n<=m):Sl w (dX a m i 1) (n-i) (l.drop i) :=
 ⟨by rw [aaJ,h.len],h.by'.drop m i (by rw [h.len];exact hm)⟩
theorem Sl.take {w:World} {a:E8} {n:Nat} {l:E7} (h:Sl w a n l) (j:Nat) (hj:j<=n):Sl w a j (l.take j) :=
 ⟨by rw [aat,h.len];omega,h.by'.take j⟩
theorem Sl.nil (w:World)(a:E8):Sl w a 0 []:=⟨rfl, .inl rfl⟩
structure Bss (w:World)(a:E8)(n:Nat) (L:List E7):Prop where
 len:L.length=n
 row:n=0\/∃ b off,a=some ⟨b,off,none⟩/\b<w.heap.size/\∀ k (h:k<L.length),∃ a' n' c',w.cell? ⟨b,off+k,none⟩=some (Zy a' n' c')/\Sl w a' n' L[k]
theorem Bss.ext {w w':World} {a:E8} {n:Nat} {L:List (E7)} (h:Bss w a n L) (hx:Ext w w'):Bss w' a n L:=by
 refine ⟨h.len,h.row.imp id ?_⟩;rintro ⟨b,off,ha,hb,hc⟩;refine ⟨b,off,ha,aai hb hx.size,λ k hk=>?_⟩;obtain ⟨a',n',c',h1,h2⟩:=hc k hk;exact ⟨a',n',c',(hx.cell (p:=⟨b,_,none⟩) hb).trans h1,h2.ext hx⟩
theorem Bss.at {w:World} {a:E8} {n:Nat} {L:List (E7)} (h:Bss w a n L) (k:Nat) (hk:k<n) :
  ∃ b off a' n' c',a=some ⟨b,off,none⟩/\BlkLt b w/\w.cell? ⟨b,off+k,none⟩=some (Zy a' n' c')/\Sl w a' n' (L[k]'(by have:=h.len;omega)):=by
 rcases h.row with h0|⟨b,off,ha,hb,hc⟩
 ·omega
 ·obtain ⟨a',n',c',h1,h2⟩:=hc k (by have:=h.len;omega);exact ⟨b,off,a',n',c',ha,⟨hb⟩,h1,h2⟩
theorem gV {w:World} {a1:E8} {n1 c1:Nat} {l1:E7} (h1:Sl w a1 n1 l1) (t:TypeId) :
  Bss (w.alloc (.cells #[Zy a1 n1 c1] t)) (some ⟨w.heap.size,0,none⟩) 1 [l1]:=by
 have hx:=FA w (.cells #[Zy a1 n1 c1] t);refine ⟨rfl, .inr ⟨_,0,rfl,Zs,λ k hk=>?_⟩⟩
 match k,hk with
 | 0,_=>exact ⟨a1,n1,c1,by simp [go_sem],h1.ext hx⟩
theorem oZ {w:World} {a1 a2:E8} {n1 n2 c1 c2:Nat} {l1 l2:E7} (h1:Sl w a1 n1 l1) (h2:Sl w a2 n2 l2) (t:TypeId) :
  Bss (w.alloc (.cells #[Zy a1 n1 c1, Zy a2 n2 c2] t)) (some ⟨w.heap.size,0,none⟩) 2 [l1,l2]:=by
 have hx:=FA w (.cells #[Zy a1 n1 c1, Zy a2 n2 c2] t);refine ⟨rfl, .inr ⟨_,0,rfl,Zs,λ k hk=>?_⟩⟩
 match k,hk with
 | 0,_=>exact ⟨a1,n1,c1,by simp [go_sem],h1.ext hx⟩
 | 1,_=>exact ⟨a2,n2,c2,by simp [go_sem],h2.ext hx⟩
theorem zP {w:World} {a1 a2 a3:E8} {n1 n2 n3 c1 c2 c3:Nat} {l1 l2 l3:E7} (h1:Sl w a1 n1 l1) (h2:Sl w a2 n2 l2) (h3:Sl w a3 n3 l3) (t:TypeId) :
  Bss (w.alloc (.cells #[Zy a1 n1 c1, Zy a2 n2 c2, Zy a3 n3 c3] t)) (some ⟨w.heap.size,0,none⟩) 3 [l1,l2,l3]:=by
 have hx:=FA w (.cells #[Zy a1 n1 c1, Zy a2 n2 c2, Zy a3 n3 c3] t);refine ⟨rfl, .inr ⟨_,0,rfl,Zs,λ k hk=>?_⟩⟩
 match k,hk with
 | 0,_=>exact ⟨a1,n1,c1,by simp [go_sem],h1.ext hx⟩
 | 1,_=>exact ⟨a2,n2,c2,by simp [go_sem],h2.ext hx⟩
 | 2,_=>exact ⟨a3,n3,c3,by simp [go_sem],h3.ext hx⟩
theorem AF {w:World} {a1 a2 a3 a4:E8} {n1 n2 n3 n4 c1 c2 c3 c4:Nat} {l1 l2 l3 l4:E7} (h1:Sl w a1 n1 l1) (h2:Sl w a2 n2 l2) (h3:Sl w a3 n3 l3) (h4:Sl w a4 n4 l4) (t:TypeId) :
  Bss (w.alloc (.cells #[Zy a1 n1 c1, Zy a2 n2 c2, Zy a3 n3 c3, Zy a4 n4 c4] t)) (some ⟨w.heap.size,0,none⟩) 4 [l1,l2,l3,l4]:=by
 have hx:=FA w (.cells #[Zy a1 n1 c1, Zy a2 n2 c2, Zy a3 n3 c3, Zy a4 n4 c4] t);refine ⟨rfl, .inr ⟨_,0,rfl,Zs,λ k hk=>?_⟩⟩
 match k,hk with
 | 0,_=>exact ⟨a1,n1,c1,by simp [go_sem],h1.ext hx⟩
 | 1,_=>exact ⟨a2,n2,c2,by simp [go_sem],h2.ext hx⟩
 | 2,_=>exact ⟨a3,n3,c3,by simp [go_sem],h3.ext hx⟩
 | 3,_=>exact ⟨a4,n4,c4,by simp [go_sem],h4.ext hx⟩
theorem oI {w:World} {B B' e size n:Nat} {v:Value} {xs:List Value} (h:w.ownsRow B' e size v n xs) (hB:B<=B'):w.ownsRow B e size v n xs :=
 ⟨h.1,h.2.imp id λ ⟨g,cap,cur,h1,h2,h3⟩=>⟨g,cap,cur,h1,aal hB h2,h3⟩⟩
def Own (w:World)(base:Nat) (a:E8)(n c:Nat) (l:E7):Prop:=l.length=n/\w.ownsRow base 5 1 (Zy a n c) n (l.map u8v)
theorem Own.sl {w:World} {base:Nat} {a:E8} {n c:Nat} {l:E7} (h:Own w base a n c l):Sl w a n l:=⟨h.1,Rd.of_own h.2⟩
theorem Own.ext {w w':World} {base:Nat} {a:E8} {n c:Nat} {l:E7} (h:Own w base a n c l) (hx:Ext w w'):Own w' base a n c l:=⟨h.1,jl h.2 hx⟩
theorem Own.mono {w:World} {base base':Nat} {a:E8} {n c:Nat} {l:E7} (h:Own w base a n c l) (hb:base'<=base):Own w base' a n c l:=⟨h.1,oI h.2 hb⟩
theorem Own.nil (w:World)(base:Nat):Own w base none 0 0 []:=⟨rfl,abA _ _ _ _⟩
theorem Own.of_blk {w:World} {g base:Nat} {l:E7} (h:Blk w g 5 (l.map u8v)) (hb:base<=g) (hm:l.length<=maxLen):Own w base (some ⟨g,0,none⟩) l.length l.length l:=by
 refine ⟨rfl,?_⟩;have:=h.own hb l.length Zs (by simpa using hm);rw [aah Zs] at this;simpa using this
def bZ (n:Nat) (l:E7)(w:World)(e:Ending) (w':World):Prop :=
 ∃ a c,e = .returned (Zy a n c)/\Own w' w.heap.size a n c l/\Ext w w'
structure U8 (P:Program):Prop where
 sl:P.underlying 33=some (.slice 5)
 info:∃ i,P.info? 5=some i/\i.zero=some (Zz Zu 0)/\i.size=1/\i.bytes=1
theorem Own.app {w:World} {base n m sc:Nat} {sa:E8} {l l':E7} (h1:l.length=n) (h2:l'.length=m) (h:w.ownsRow base 5 1 (Zy sa (n+m) sc) (n+m) (l.map u8v++l'.map u8v)):Own w base sa (n+m) sc (l++l') :=
 ⟨by simp [h1,h2],by rw [aaK];exact h⟩
theorem kA {P:Program} (U:U8 P) (w:World)(ty:TypeId)(base:Nat) (sa0:E8)(n c0:Nat) (l:E7)(hown:Own w base sa0 n c0 l)
  (A:E8)(m c:Nat) (l':E7)(hsl:Sl w A m l') (hlen:n+m<=140737488355328) (hbase:base<=w.heap.size) :
  ∃ sa sc w',(Builtin.append_ #[33,33] ty #[Zy sa0 n c0, Zy A m c]).run P w = .ok (Zy sa (n+m) sc) w'/\Own w' base sa (n+m) sc (l++l')/\w.grownBy w' (Value.slice sa0 n c0).ownBlock/\Below base w w':=by
 obtain ⟨i,hi,hz,hs,hb⟩:=U.info;obtain ⟨sa,sc,w',h1,h2,h3⟩:=jQ (P:=P) w base 33 ty 5 i _ 1 U.sl hi hz hs hb rfl _ n _ hown.2 A m c _ hsl.by' (by rw [aaC];exact hsl.len) (aH _) (by simp only [maxLen];omega) Zo hbase;exact ⟨sa,sc,w',h1,Own.app hown.1 hsl.len h2,h3,eP hown.2 h3 hbase⟩
theorem aB {P:Program} (U:U8 P) {w:World} {ops:Array Oper} {rest:List Oper} {o:Oper} {a:Act} {Q:Exit->Act->World->Prop} (hgd:o.guard=none) (s x:Operand)
  (ho:o.op = .call { callee := .builtin .append,args:=#[s,x],argTypes:=#[33,33] })
  (base:Nat) (sa0:E8)(n c0:Nat) (l:E7)(hs:a.eval s = Zy sa0 n c0) (A:E8)(m c:Nat) (l':E7)(hx:a.eval x = Zy A m c)
  (hown:Own w base sa0 n c0 l) (hsl:Sl w A m l') (hlen:n+m<=140737488355328) (hbase:base<=w.heap.size)
  (h:∀ sa sc w',Own w' base sa (n+m) sc (l++l')->w.grownBy w' (Value.slice sa0 n c0).ownBlock->Below base w w'->wpList P ops Q rest (a.put o.dst (.slice sa (n+m) sc)) w') :
  wpList P ops Q (o :: rest) a w:=by
 obtain ⟨sa,sc,w',hrun,h2,h3,h4⟩:=kA U w o.type base sa0 n c0 l hown A m c l' hsl hlen hbase;refine wpList_plain hgd λ K hK=>?_;have:=h sa sc w' h2 h3 h4;unfold Oper.wp execOp;simp only [ho,resolve,invoke,builtin,aaW,aaX,aaE,abl,aa3,abj,hs,hx,hrun];exact hK _ _ this
theorem bI (w:World)(x:UInt8) (t:TypeId):Sl (w.alloc (.cells #[Zz Zu (n8 x)] t)) (some ⟨w.heap.size,0,none⟩) 1 [x]:=⟨rfl,(Blk.new w #[Zz Zu (n8 x)] t).rd⟩
theorem dc {P:Program} (U:U8 P) (n c:Nat) (hnc:n<=c) (hc:c<=281474976710656) (w:World) :
  (Instr.makeSlice 33 (Zz Zx (n:Int)) (Zz Zx (c:Int))).run P w = .ok (Zy (some ⟨w.heap.size,0,none⟩) n c) (w.alloc (.cells (bJ (Zz Zu 0) c) 5)):=by
 obtain ⟨i,hi,hz,hs,hb⟩:=U.info;exact xQ 33 5 i _ U.sl hi hz hs rfl 1 hb n c hnc Zo Zo w
theorem bY (w:World)(n:Nat):Blk (w.alloc (.cells (bJ (Zz Zu 0) n) 5)) w.heap.size 5 ((List.replicate n (0:UInt8)).map u8v):=by
 rw [List.map_replicate];exact wH _ _ _ _
section bytes
variable (x y:UInt8)
@[go_sem] theorem A2:n8 x<256:=by have:=x.toNat_lt;unfold n8;omega
@[go_sem] theorem tS:0<=n8 x:=by unfold n8;omega
@[go_sem] theorem Ea:¬ n8 x<0:=by have:=tS x;omega
@[go_sem] theorem yE:(n8 x).toNat=x.toNat:=by unfold n8;simp
theorem oF {x y:UInt8}:n8 x=n8 y ↔ x=y:=by unfold n8;rw [<- UInt8.toNat_inj];omega
theorem bv8:(BitVec.ofInt 8 (n8 x))=x.toBitVec:=by unfold n8;rw [BitVec.ofInt_natCast];exact BitVec.eq_of_toNat_eq Zs
theorem w8 (b:BitVec 8):IntKind.u8.wrap (b.toNat:Int)=(b.toNat:Int):=by
 have:=b.isLt;rw [abb];omega
@[go_sem] theorem u8_and:bits .and .u8 (n8 x) (n8 y)=n8 (x &&& y):=by
 show IntKind.u8.wrap ((BitVec.ofInt 8 (n8 x) &&& BitVec.ofInt 8 (n8 y)).toNat:Int)=_;rw [bv8,bv8,w8];rfl
@[go_sem] theorem u8_or:bits .or .u8 (n8 x) (n8 y)=n8 (x ||| y):=by
 show IntKind.u8.wrap ((BitVec.ofInt 8 (n8 x) ||| BitVec.ofInt 8 (n8 y)).toNat:Int)=_;rw [bv8,bv8,w8];rfl
@[go_sem] theorem u8_xor:bits .xor .u8 (n8 x) (n8 y)=n8 (x ^^^ y):=by
 show IntKind.u8.wrap ((BitVec.ofInt 8 (n8 x) ^^^ BitVec.ofInt 8 (n8 y)).toNat:Int)=_;rw [bv8,bv8,w8];rfl
theorem Ax (n:Nat) (h:n<256):(n:Int)=n8 (UInt8.ofNat n):=by
 unfold n8;rw [UInt8.toNat_ofNat'];omega
@[go_sem] theorem Bg (n:Nat) (h:n<256):bits .and .u8 (n8 x) (no_index (OfNat.ofNat n))=n8 (x &&& OfNat.ofNat n):=by
 rw [<- u8_and x (OfNat.ofNat n)];congr 1;exact Ax n h
@[go_sem] theorem BJ (n:Nat) (h:n<256):bits .xor .u8 (n8 x) (no_index (OfNat.ofNat n))=n8 (x ^^^ OfNat.ofNat n):=by
 rw [<- u8_xor x (OfNat.ofNat n)];congr 1;exact Ax n h
@[go_sem] theorem Cl (n:Nat) (h:n<256):bits .or .u8 (n8 x) (no_index (OfNat.ofNat n))=n8 (x ||| OfNat.ofNat n):=by
 rw [<- u8_or x (OfNat.ofNat n)];congr 1;exact Ax n h
@[go_sem] theorem B8:bits .and .u8 (n8 x) 1=n8 (x &&& 1):=u8_and x 1
@[go_sem] theorem BN:bits .xor .u8 (n8 x) 1=n8 (x ^^^ 1):=u8_xor x 1
@[go_sem] theorem Dw:n8 x*2 % 256=n8 (x <<< 1):=by
 have:(x <<< 1).toNat=x.toNat*2 % 256:=by
  rw [UInt8.toNat_shiftLeft];simp [Nat.shiftLeft_eq]
 unfold n8;rw [this];omega
theorem AO (k:Nat) (hk:k<8):n8 x / ((2 ^ k:Nat):Int)=n8 (x >>> UInt8.ofNat k):=by
 have:(x >>> UInt8.ofNat k).toNat=x.toNat / 2 ^ k:=by
  rw [UInt8.toNat_shiftRight,UInt8.toNat_ofNat',aaU (show k<2 ^ 8 from Zo),aaU hk,Nat.shiftRight_eq_div_pow]
 unfold n8;rw [this];simp
@[go_sem] theorem Dx:n8 x / 2=n8 (x >>> 1):=AO x 1 Zd
@[go_sem] theorem Dn:n8 x / 16=n8 (x >>> 4):=AO x 4 Zd
@[go_sem] theorem Dt:n8 x / 128=n8 (x >>> 7):=AO x 7 Zd
@[go_sem] theorem Bp:(n8 x != 0)=(x != 0):=by
 rw [abk];simp only [aao,ne_eq];rw [<- oF];rfl
@[go_sem] theorem DQ:(n8 x == 0)=(x == 0):=by
 rw [abk];simp only [aa5];rw [<- oF];rfl
@[go_sem] theorem DF:(n8 x == 1)=(x == 1):=by
 rw [abk];simp only [aa5];rw [<- oF];rfl
@[go_sem] theorem EK:(n8 x == n8 y)=(x == y):=by
 rw [abk];simp only [aa5];rw [oF]
@[go_sem] theorem Ey:(n8 x != n8 y)=(x != y):=by
 rw [abk];simp only [aao,ne_eq];rw [oF]
@[go_sem] theorem DA:IntKind.u8.wrap (n8 x)=n8 x:=w8 x.toBitVec
@[go_sem] theorem DX:decide (0<n8 x)=(x != 0):=by
 rw [<- Bp,abk];simp only [aa9,aao,ne_eq];have:=tS x;omega
@[go_sem] theorem CF:IntKind.i64.wrap (n8 x)=n8 x:=by
 have:=tS x;have:=A2 x;rw [aaO];omega
@[go_sem] theorem Cn:wrap64 (n8 x)=n8 x:=by
 have:=tS x;have:=A2 x;unfold wrap64;omega
@[go_sem ↓ high] theorem Dj (yk:IntKind) (k:Nat) (hk:k<8):Op.shift .shl .u8 (n8 x) yk (no_index (OfNat.ofNat k))=pure (u8v (x <<< OfNat.ofNat k)):=by
 rw [shift_shl_any _ _ _ _ (by exact abu k)];have e:(x <<< (OfNat.ofNat k:UInt8)).toNat=x.toNat*2 ^ k % 256:=by
  show (x <<< UInt8.ofNat k).toNat=_;rw [UInt8.toNat_shiftLeft,UInt8.toNat_ofNat',aaU (show k<2 ^ 8 from Zo),aaU hk,Nat.shiftLeft_eq]
 unfold u8v n8;rw [e,abb];have h2:min ((OfNat.ofNat k:Int)).toNat IntKind.u8.bits=k:=by
  show min ((k:Int)).toNat 8=k;rw [abm];omega
 rw [h2]
 congr 2
@[go_sem ↓ high] theorem Di (yk:IntKind) (k:Nat) (hk:k<8):Op.shift .shr .u8 (n8 x) yk (no_index (OfNat.ofNat k))=pure (u8v (x >>> OfNat.ofNat k)):=by
 rw [shift_shr_any _ _ _ _ (by exact abu k)];have h2:min ((OfNat.ofNat k:Int)).toNat IntKind.u8.bits=k:=by
  show min ((k:Int)).toNat 8=k;rw [abm];omega
 rw [h2];have:=AO x k hk;unfold u8v
 congr 2
end bytes
def b8 (n:Int):UInt8:=UInt8.ofNat (n % 256).toNat
theorem lA (n:Int):n8 (b8 n)=n % 256:=by
 unfold n8 b8;rw [UInt8.toNat_ofNat'];omega
theorem AU (n:Int):IntKind.u8.wrap n=n8 (b8 n):=by rw [lA,abb]
@[go_sem] theorem xV (x y:UInt8):IntKind.u8.wrap (n8 x+n8 y)=n8 (x+y):=by
 unfold n8;rw [abb,UInt8.toNat_add];omega
section words
variable (x y:UInt64)
@[go_sem] theorem B7:0<=n64 x:=by unfold n64;omega
@[go_sem] theorem Ci:(n64 x).toNat=x.toNat:=by unfold n64;simp
theorem z7 {x y:UInt64}:n64 x=n64 y ↔ x=y:=by unfold n64;rw [<- UInt64.toNat_inj];omega
@[go_sem] theorem Cj:IntKind.u8.wrap (n64 x)=n8 x.toUInt8:=by
 unfold n8 n64;rw [abb,UInt64.toNat_toUInt8];omega
@[go_sem] theorem C0:n64 x % 256=n8 x.toUInt8:=by
 unfold n8 n64;rw [UInt64.toNat_toUInt8];omega
theorem Cw (k:Nat) (hk:k<64):n64 x / ((2 ^ k:Nat):Int)=n64 (x >>> UInt64.ofNat k):=by
 have:(x >>> UInt64.ofNat k).toNat=x.toNat / 2 ^ k:=by
  rw [UInt64.toNat_shiftRight,aaH,aaU (show k<2 ^ 64 from Zo),aaU hk,Nat.shiftRight_eq_div_pow]
 unfold n64;rw [this];simp
@[go_sem ↓ high] theorem Ct (yk:IntKind) (k:Nat) (hk:k<64):Op.shift .shr .u64 (n64 x) yk (no_index (OfNat.ofNat k))=pure (rI (x >>> OfNat.ofNat k)):=by
 rw [shift_shr_any _ _ _ _ (by exact abu k)];have h2:min ((OfNat.ofNat k:Int)).toNat IntKind.u64.bits=k:=by
  show min ((k:Int)).toNat 64=k;rw [abm];omega
 rw [h2];have:=Cw x k hk;unfold rI
 congr 2
end words
/-! ### Bytes and strings -/
theorem jr {P:Program} (U:U8 P) (hu8:P.underlying 5=some (.int .u8)) (hst:P.underlying 9=some .string) (w:World)(a:E8)(n c:Nat) (l:E7)(h:Sl w a n l) :
  (convert 33 9 (Zy a n c)).run P w = .ok (.string ⟨l.toArray⟩) w:=by
 have hmap:(l.map n8).map (λ n=>UInt8.ofNat n.toNat)=l:=by
  rw [List.map_map];have:((λ n:Int=>UInt8.ofNat n.toNat) ∘ n8)=id:=by
   funext x
   simp only [Function.comp,yE,id];exact UInt8.ofNat_toNat
  rw [this,List.map_id]
 rcases h.by' with h0|⟨b,off,rfl,hb,hc⟩
 ·have h1:l=[]:=by simpa using h0
  subst h1;obtain rfl:n=0:=h.len.symm;rw [run_convert_bytes_string w _ _ _ _ _ _ U.sl hu8 hst];cases a with
  | none=>simp [Conv.bytesToString];rfl
  | some ad =>
   rw [run_bytesToString w ad 0 c [] (by simp [loadCells,loadCellsFrom])];rfl
 ·have:=run_convert_bytes_arg (P:=P) w 33 5 U.sl hu8 b off n c (l.map n8) (by simp [h.len]) (λ i hi=>by
   have hi':i<l.length:=by rw [h.len];exact hi
   have:=hc i (u8v l[i]) (by simp [hi']);rw [this];simp [List.getD,hi']) 9 hst
  rw [this];unfold strOfNums;rw [hmap]
def uJ (w:World)(s:ByteArray):Nat:=grownCap w s.size 0 5
def eH (w:World)(s:ByteArray):More:=⟨#[.cells (Lib.bytesCells w 5 s) 5 ((Lib.bytesCells w 5 s).size,(Lib.bytesCells w 5 s).size+1)],w.drawn+1⟩
theorem qz (w:World)(s:ByteArray):Lib.bytesWorld w 5 s=w.ext (eH w s):=by
 unfold Lib.bytesWorld World.ext eH;simp [World.freeze,World.alloc,World.drew, -World.alloc_eq, -World.drew_eq];apply Array.ext_getElem?;intro k;rw [Array.getElem?_modify];by_cases hk:w.heap.size=k
 ·subst hk;simp
 ·simp [hk,Array.getElem?_push,Ne.symm hk]
theorem fC {P:Program} (U:U8 P) (hu8:P.underlying 5=some (.int .u8)) (hst:P.underlying 9=some .string) (s:ByteArray) (w:World) :
  (convert 9 33 (.string s)).run P w = .ok (Zy (some ⟨w.heap.size,0,none⟩) s.size (uJ w s)) (w.ext (eH w s)):=by
 rw [<- qz];exact Lib.run_convert_string_bytes w _ _ _ s hst U.sl hu8
instance {w:World} {s:ByteArray}:BlkLt w.heap.size (w.ext (eH w s)):=⟨by simp [World.ext,eH]⟩
theorem BT (w:World)(s:ByteArray):Sl (w.ext (eH w s)) (some ⟨w.heap.size,0,none⟩) s.size s.data.toList:=by
 refine ⟨rfl, .inr ⟨w.heap.size,0,rfl,BlkLt.lt,λ k v hk=>?_⟩⟩;have hb:(w.ext (eH w s)).heap[w.heap.size]?=some (.cells (Lib.bytesCells w 5 s) 5 ((Lib.bytesCells w 5 s).size,(Lib.bytesCells w 5 s).size+1)):=by
  rw [<- qz];exact Lib.bytesWorld_at_new w _ s
 rw [aaA,cell_of_row _ _ _ _ _ _ hb];unfold Lib.bytesCells;rw [List.getElem?_map] at hk;have hk':k<s.data.size:=by
  rcases abe k s.data.size with h|h
  ·exact h
  ·rw [List.getElem?_eq_none (by simpa using h)] at hk;cases hk
 rw [Array.getElem?_append_left (by simpa using hk')];simp at hk ⊢;simpa [hk',u8v,n8] using hk
theorem Rd.setCell {w:World} {b off:Nat} {vs:List Value} (h:Rd w (some ⟨b,off,none⟩) vs) {p:Addr} (hp:b≠p.block) (v:Value):Rd (w.setCell p v) (some ⟨b,off,none⟩) vs:=by
 rcases h with h|⟨b',off',ha,hb,hc⟩
 ·exact .inl h
 ·injection ha with ha
  injection ha with e1 e2
  subst e1 e2;exact .inr ⟨b,off,rfl,by simpa using hb,λ k u hk=>by
   rw [World.cell?_setCell_other (w:=w) (h:=λ e=>hp (by rw [e]))];exact hc k u hk⟩
theorem nZ {P:Program} (t:TypeId)(l:E7)(x:UInt8) (h:P.underlying t=some .string) (hx:x.toNat<l.length) (w:World) :
  (Instr.index t (.string ⟨l.toArray⟩) (Zz Zu (n8 x))).run P w = .ok (Zz Zu (n8 (l.getD x.toNat 0))) w:=by
 have hs:(⟨l.toArray⟩:ByteArray).size=l.length:=by simp [ByteArray.size]
 rw [run_index_string (w:=w) t _ .u8 _ h];have h0:=tS x;have h1:n8 x=(x.toNat:Int):=rfl;rw [dif_pos ⟨h0,by rw [hs];omega⟩]
 congr 2
 unfold n8
 congr 1
 simp [List.getD,hx];rfl
theorem az {P:Program} {f:FuncId} {args:Array Value} {w:World} {n base:Nat} {l:E7} (hb:base<=w.heap.size) (h:Calls P f args w (bZ n l w)) :
  Calls P f args w λ e w'=>∃ v,e = .returned v/\∃ p:Par,v = .slice (p 0).1 n (p 0).2/\Ext w w'/\Own w' base (p 0).1 n (p 0).2 l :=
 h.mono λ _ _ ⟨a,c,he,hO,hx⟩=>⟨_,he,λ _=>(a,c),rfl,hx,hO.mono hb⟩
/-! ### Calls that write into one block -/
abbrev Mut (g:Nat) (w w':World):Prop:=w.grownBy w' (some g)
section turn
variable {g:Nat} {a b c:World}
theorem Mut.refl (g:Nat) (w:World):Mut g w w:=World.grownBy.refl w _
theorem Mut.trans (h:Mut g a b) (k:Mut g b c):Mut g a c :=
 ⟨k.os.trans h.os,k.tape.trans h.tape,k.output.trans h.output,aal h.size k.size,λ i hi hne=>(k.block i (aai hi h.size) hne).trans (h.block i hi hne)⟩
theorem Mut.of_ext (h:Ext a b):Mut g a b:=⟨h.os,h.tape,h.output,h.size,λ i hi _=>h.block i hi⟩
theorem Mut.ext (h:Mut g a b) (x:More):Mut g a (b.ext x):=h.trans (.of_ext (FE b x))
theorem Mut.alloc (h:Mut g a b) (o:Obj):Mut g a (b.alloc o):=h.trans (.of_ext (FA b o))
theorem Mut.drew (h:Mut g a b):Mut g a b.drew:=h.trans (.of_ext (FD b).drew)
theorem Mut.setCell (h:Mut g a b) (k:Nat) (v:Value):Mut g a (b.setCell ⟨g,k,none⟩ v) :=
 h.trans ⟨rfl,rfl,rfl,Zs,λ i _ hne=>Below.heap_setCell b _ v i (λ e=>hne (by rw [e]))⟩
theorem Mut.below (h:Mut g a b) {B:Nat} (hB:B<=g) (hs:B<=a.heap.size):Below B a b:=⟨h.os,h.tape,h.output,h.size,λ k hk=>h.block k Zo (λ e=>by injection e;omega)⟩
theorem Rd.turn (h:Mut g a b) {k off:Nat} {vs:List Value} (hr:Rd a (some ⟨k,off,none⟩) vs) (hk:k≠g):Rd b (some ⟨k,off,none⟩) vs:=by
 rcases hr with hr|⟨b',off',ha,hb,hc⟩
 ·exact .inl hr
 ·injection ha with ha
  injection ha with e1 e2
  subst e1 e2;exact .inr ⟨k,off,rfl,aai hb h.size,λ j u hj=>by
   rw [FH (w:=a) (h.block k hb (λ e=>hk (by injection e)))];exact hc j u hj⟩
theorem Blk.turn (h:Mut g a b) {k:Nat} {t:TypeId} {vs:List Value} (hr:Blk a k t vs) (hk:k≠g):Blk b k t vs:=(h.block k hr.lt (λ e=>hk (by injection e))).trans hr
end turn
theorem Rd.lt {w:World} {k off:Nat} {vs:List Value} (h:Rd w (some ⟨k,off,none⟩) vs) (h0:0<vs.length):k<w.heap.size:=by
 rcases h with h|⟨b,off',ha,hb,_⟩
 ·subst h;simp at h0
 ·injection ha with ha
  injection ha with e1 e2
  subst e1;exact hb
def dy (f:Nat->UInt8) (l:E7)(k:Nat):E7:=(List.range k).map f++l.drop k
theorem dL (f:Nat->UInt8) (l:E7):dy f l 0=l:=by simp [dy]
theorem cD (f:Nat->UInt8) (l:E7)(k:Nat) (h:k<=l.length):(dy f l k).length=l.length:=by simp [dy];omega
theorem fH (f:Nat->UInt8) (l:E7)(k:Nat) (h:l.length=k):dy f l k=(List.range k).map f:=by simp [dy,h]
theorem oa (f:Nat->UInt8) (l:E7)(k j:Nat) (h:k<=j) (hj:j<l.length):(dy f l k)[j]?=some l[j]:=by
 unfold dy;rw [List.getElem?_append_right (by simpa using h)];simp [hj,show k+(j-k)=j by omega]
theorem iJ (f:Nat->UInt8) (l:E7)(k:Nat) (h:k<l.length):(dy f l k).set k (f k)=dy f l (k+1):=by
 apply List.ext_getElem?;intro i;rw [List.getElem?_set];by_cases hi:k=i
 ·subst hi;have hl:=cD f l k Zo;have h2:k<(dy f l k).length:=Zo;rw [aaj rfl,aaj h2];unfold dy;rw [List.getElem?_append_left Zs];simp
 ·simp only [hi,abg];unfold dy;by_cases hlt:i<k
  ·rw [List.getElem?_append_left (by simpa using hlt),List.getElem?_append_left (by simp;omega)];simp [hlt,show i<k+1 by omega]
  ·rw [List.getElem?_append_right (by simp;omega),List.getElem?_append_right (by simp;omega)];simp [show k+(i-k)=k+1+(i-(k+1)) by omega]
theorem Blk.upd {w:World} {g k:Nat} {T:TypeId} {f:Nat->UInt8} {l:E7} (h:Blk w g T ((dy f l k).map u8v)) (hk:k<l.length):Blk (w.setCell ⟨g,k,none⟩ (Zz Zu (n8 (f k)))) g T ((dy f l (k+1)).map u8v):=by
 have:=h.set k (u8v (f k))
 rwa [<- aaT,iJ _ _ _ hk] at this
theorem Blk.at_upTo {wr:World} {g:Nat} {T:TypeId} {f:Nat->UInt8} {l:E7} {k:Nat} (h:Blk wr g T ((dy f l k).map u8v)) (j:Nat) (hk:k<=j) (hj:j<l.length):wr.cell? ⟨g,j,none⟩=some (Zz Zu (n8 (l.getD j 0))) :=
 h.cell? j (by rw [List.getElem?_map,oa f l k j hk hj];simp [hj])
end Go.Sec

/- Bytes lie in no block of other things. -/
namespace Go.Sec
open Go.RowKit
theorem uH {w:World} {b o n g:Nat} {l:E7} {t:TypeId} {vs:List Value} (h:Sl w (some ⟨b,o,none⟩) n l) (hn:0<n) (hB:Blk w g t vs) (hv:∀ v∈vs,∀ x,v ≠ Zz Zu x):b≠g:=λ e=>by
 subst e;obtain ⟨b',o',e1,_,hc⟩:=h.at 0 hn;injection e1 with e1
 injection e1 with e1 e2
 subst e1 e2;rw [cell_of_row w _ _ _ t (0,0) hB] at hc;have:(Zz Zu (n8 (l[0]'(by have:=h.len;omega))))∈vs:=List.mem_of_getElem? (by simpa using hc);exact hv _ this _ rfl
end Go.Sec

/- An element of an array that is a value. -/
namespace Go.Sec
open Go.RowKit
theorem tR {P:Program} (t e:TypeId)(n:Nat) (k:Nat) (cs:Array Value) (v:Value)(w:World)(ht:P.underlying t=some (.array n e)) (he:(∃ kd,P.underlying e=some (.int kd))\/∃ x,P.underlying e=some (.pointer x)) (hi:(P.info? e).map (·.size)=some 1) (hk:k<n) (hv:cs[k]?=some v) :
  (Instr.index t (.agg cs) (Zz Zx k)).run P w = .ok v w:=by
 cases hI:P.info? e with
 | none=>rw [hI] at hi;cases hi
 | some i =>
 rw [hI] at hi;have hs:i.size=1:=by simpa using hi
 have hkn:(0:Int)<=(k:Int)/\(k:Int)<(n:Int):=Zo;rcases he with ⟨kd,he⟩|⟨x,he⟩ <;>
 simp [Instr.index,abF ht,asIntOf,hkn,part,isAgg,abF he,sizeOf,typeInfo,go_sem,hk,hI,hs,hv]
theorem aW {P:Program} {ops:Array Oper} {rest:List Oper} {o:Oper} {a:Act} {Q:Exit->Act->World->Prop} {w:World} (t e:TypeId)(n:Nat) (ht:P.underlying t=some (.array n e)) (he:(∃ kd,P.underlying e=some (.int kd))\/∃ x,P.underlying e=some (.pointer x)) (hi:(P.info? e).map (·.size)=some 1)
  (hgd:o.guard=none) (x i:Operand) (ho:o.op = .index t x i) (cs:Array Value) (k:Nat) (v:Value)(hx:a.eval x = .agg cs) (hk':a.eval i = .int .i64 k) (hk:k<n) (hv:cs[k]?=some v) (h:wpList P ops Q rest (a.put o.dst v) w):wpList P ops Q (o :: rest) a w:=by
 refine wpList_plain hgd λ K hK=>?_;unfold Oper.wp execOp;simp only [ho,hx,hk',aaW,aaX,aaE,tR t e n k cs v w ht he hi hk hv];exact hK _ _ h
end Go.Sec
