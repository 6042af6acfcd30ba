/- Lemmas of this claim, several texts joined. -/
set_option maxRecDepth 100000
open List renaming set_cons_zero -> q2q, nil_append -> q5q, cons_append -> q6q
set_option maxHeartbeats 8000000
set_option linter.unusedVariables false
set_option linter.unusedSimpArgs false
/- SHA-256 as plain functions. No program. -/
namespace Go.Sha
def ks:List UInt32:=[
 0x428a2f98,0x71374491,0xb5c0fbcf,0xe9b5dba5,0x3956c25b,0x59f111f1,0x923f82a4,0xab1c5ed5,
 0xd807aa98,0x12835b01,0x243185be,0x550c7dc3,0x72be5d74,0x80deb1fe,0x9bdc06a7,0xc19bf174,
 0xe49b69c1,0xefbe4786,0x0fc19dc6,0x240ca1cc,0x2de92c6f,0x4a7484aa,0x5cb0a9dc,0x76f988da,
 0x983e5152,0xa831c66d,0xb00327c8,0xbf597fc7,0xc6e00bf3,0xd5a79147,0x06ca6351,0x14292967,
 0x27b70a85,0x2e1b2138,0x4d2c6dfc,0x53380d13,0x650a7354,0x766a0abb,0x81c2c92e,0x92722c85,
 0xa2bfe8a1,0xa81a664b,0xc24b8b70,0xc76c51a3,0xd192e819,0xd6990624,0xf40e3585,0x106aa070,
 0x19a4c116,0x1e376c08,0x2748774c,0x34b0bcb5,0x391c0cb3,0x4ed8aa4a,0x5b9cca4f,0x682e6ff3,
 0x748f82ee,0x78a5636f,0x84c87814,0x8cc70208,0x90befffa,0xa4506ceb,0xbef9a3f7,0xc67178f2]
def h0:List UInt32:=[0x6a09e667,0xbb67ae85,0x3c6ef372,0xa54ff53a,0x510e527f,0x9b05688c,0x1f83d9ab,0x5be0cd19]
def turn (x:UInt32) (n:Nat):UInt32:=(x >>> UInt32.ofNat n) ||| (x <<< UInt32.ofNat (32-n))
def b' (l:List UInt8)(i:Nat):UInt8:=l.getD i 0
def w' (l:List UInt32) (i:Nat):UInt32:=l.getD i 0
def inW (b:List UInt8)(t:Nat):UInt32:=(b' b (4*t)).toUInt32 <<< 24 ||| (b' b (4*t+1)).toUInt32 <<< 16 ||| (b' b (4*t+2)).toUInt32 <<< 8 ||| (b' b (4*t+3)).toUInt32
def s0 (x:UInt32):UInt32:=turn x 7 ^^^ turn x 18 ^^^ (x >>> 3)
def s1 (y:UInt32):UInt32:=turn y 17 ^^^ turn y 19 ^^^ (y >>> 10)
def te (l:List UInt32) (t:Nat):UInt32:=s1 (w' l (t-2))+w' l (t-7)+s0 (w' l (t-15))+w' l (t-16)
def sched (b:List UInt8):Nat->List UInt32
 | 0=>(List.range 16).map (inW b)
 | n+1=>sched b n++[te (sched b n) (n+16)]
def t1 (v:List UInt32) (k w:UInt32):UInt32:=w' v 7+(turn (w' v 4) 6 ^^^ turn (w' v 4) 11 ^^^ turn (w' v 4) 25)+((w' v 4 &&& w' v 5) ^^^ (~~~ w' v 4 &&& w' v 6))+k+w
def t2 (v:List UInt32):UInt32:=(turn (w' v 0) 2 ^^^ turn (w' v 0) 13 ^^^ turn (w' v 0) 22)+((w' v 0 &&& w' v 1) ^^^ (w' v 0 &&& w' v 2) ^^^ (w' v 1 &&& w' v 2))
def round (W:List UInt32) (v:List UInt32) (t:Nat):List UInt32 :=
 [t1 v (w' ks t) (w' W t)+t2 v,w' v 0,w' v 1,w' v 2,w' v 3+t1 v (w' ks t) (w' W t),w' v 4,w' v 5,w' v 6]
def rounds (W v:List UInt32):Nat->List UInt32
 | 0=>v
 | t+1=>round W (rounds W v t) t
def block (h:List UInt32) (b:List UInt8):List UInt32:=(List.range 8).map λ i=>w' h i+w' (rounds (sched b 48) h 64) i
def blocks (h:List UInt32) (b:List UInt8):Nat->List UInt32
 | 0=>h
 | n+1=>block (blocks h b n) ((b.drop (64*n)).take 64)
def D9 (x:UInt32):List UInt8:=[(x >>> 24).toUInt8,(x >>> 16).toUInt8,(x >>> 8).toUInt8,x.toUInt8]
def DE (n:Nat):List UInt8:=(List.range 8).map λ i=>UInt8.ofNat (n / 256 ^ (7-i))
def tail (rest:List UInt8)(count:Nat):List UInt8 :=
 let b:=rest++[128]
 b++List.replicate ((120-b.length % 64) % 64) 0++DE (count*8)
def out (h:List UInt32):List UInt8:=((List.range 8).map λ i=>D9 (w' h i)).flatten
def finish (h:List UInt32) (rest:List UInt8)(count:Nat):List UInt8:=out (blocks h (tail rest count) ((tail rest count).length / 64))
def sum (b:List UInt8):List UInt8:=finish (blocks h0 b (b.length / 64)) (b.drop (b.length / 64*64)) b.length
/- "abc" -/
example:sum [97,98,99]=[0xba,0x78,0x16,0xbf,0x8f,0x01,0xcf,0xea,0x41,0x41,0x40,0xde,0x5d,0xae,0x22,0x23,0xb0,0x03,0x61,0xa3,0x96,0x17,0x7a,0x9c,0xb4,0x10,0xff,0x61,0xf2,0x00,0x15,0xad]:=by decide +kernel
end Go.Sha

/- Octets as plain functions. -/
namespace Go.Oct
def aF:Nat->UInt64->List UInt8
 | 0,_=>[]
 | n+1,v=>aF n (v >>> 8)++[v.toUInt8]
theorem aw (n:Nat) (v:UInt64):(aF n v).length=n:=by
 induction n generalizing v with
 | zero=>rfl
 | succ n ih=>simp [aF,ih]
theorem wW (n:Nat):aF n 0=List.replicate n 0:=by
 induction n with
 | zero=>rfl
 | succ n ih =>
  rw [aF,show ((0:UInt64) >>> 8)=0 from rfl,ih,List.replicate_succ'];rfl
theorem drop_set {α:Type} (l:List α) (j:Nat) (x:α) (h:j<l.length):(l.set j x).drop j=x :: l.drop (j+1):=by
 induction l generalizing j with
 | nil=>simp at h
 | cons y r ih =>
  cases j with
  | zero=>rfl
  | succ j=>simpa using ih j (by simpa using h)
theorem tc (j:Nat) (u:UInt64) (l out:List UInt8)(hj:j<l.length) (h:aF (j+1) u++l.drop (j+1)=out):aF j (u >>> 8)++(l.set j u.toUInt8).drop j=out:=by
 rw [<- h,aF,drop_set _ _ _ hj];simp
def aV (L:List (List UInt8)):List UInt8:=L.flatten
theorem kP (L:List (List UInt8)) (k:Nat) (h:k<L.length):aV (L.take (k+1))=aV (L.take k)++L[k]:=by
 unfold aV;rw [List.take_succ_eq_append_getElem h,List.flatten_append];simp [-List.take_append_getElem]
theorem nV (L:List (List UInt8)) (k:Nat):(aV (L.take k)).length<=(aV L).length:=by
 unfold aV
 conv=>rhs;rw [<- List.take_append_drop k L,List.flatten_append,List.length_append]
 omega
theorem mD (L:List (List UInt8)) (n:Nat) (h:L.length=n):aV (L.take n)=aV L:=by rw [List.take_of_length_le (by omega)]
theorem bP (a:List UInt8):aV [a]=a:=by simp [aV]
theorem gL (a b:List UInt8):aV [a,b]=a++b:=by simp [aV]
theorem jR (a b c:List UInt8):aV [a,b,c]=a++(b++c):=by simp [aV]
theorem mB (a b c d:List UInt8):aV [a,b,c,d]=a++(b++(c++d)):=by simp [aV]
def Bd (len n:Nat):Nat:=if 1<=n/\n<=64 then (n-len % n) % n else 0
def gD (l:List UInt8)(n:Nat):List UInt8:=l++List.replicate (Bd l.length n) 0
theorem zE (n k:Nat) (hk:1<=k):(n+(k-n % k) % k) % k=0:=by
 have h1:=Nat.div_add_mod n k;have h2:=Nat.mod_lt n (show 0<k by omega);by_cases h0:n % k=0
 ·rw [h0,Nat.sub_zero,Nat.mod_self,Nat.add_zero,h0]
 ·rw [Nat.mod_eq_of_lt (show k-n % k<k by omega)];have:n+(k-n % k)=k*(n / k+1):=by rw [Nat.mul_add,Nat.mul_one];omega
  rw [this,Nat.mul_mod_right]
theorem BL (n k m:Nat) (hk:1<=k) (h1:n<=m) (h2:m<n+(k-n % k) % k):m % k≠0:=by
 have h3:=Nat.div_add_mod n k;have h4:=Nat.mod_lt n (show 0<k by omega);by_cases h0:n % k=0
 ·rw [h0,Nat.sub_zero,Nat.mod_self] at h2;omega
 ·rw [Nat.mod_eq_of_lt (show k-n % k<k by omega)] at h2;obtain ⟨j,rfl⟩:∃ j,m=n+j:=⟨m-n,by omega⟩;have e:n+j=(n % k+j)+k*(n / k):=by omega
  rw [e,Nat.add_mul_mod_self_left,Nat.mod_eq_of_lt (by omega)];omega
def digits:List UInt8:=[48,49,50,51,52,53,54,55,56,57,97,98,99,100,101,102]
def dig (x:UInt8):UInt8:=digits.getD x.toNat 0
def DY:List UInt8->List UInt8
 | []=>[]
 | x :: r=>dig (x >>> 4) :: dig (x &&& 15) :: DY r
def wB (out:List UInt8)(k:Nat) (d:UInt8):List UInt8:=out.set (k / 2) ((out.getD (k / 2) 0) <<< 4 ||| d)
def zM (val:UInt8->UInt8) (s:List UInt8):Nat->List UInt8
 | 0=>List.replicate (s.length / 2) 0
 | k+1=>wB (zM val s k) k (val (s.getD k 0))
end Go.Oct

/- SHA-256 of bytes, as plain functions. No program. -/
namespace Go.Sha
open Go.Oct
def jG (n:Nat):Nat:=(120-(n+1) % 64) % 64
def nq (rest:List UInt8)(count:Nat):List UInt8:=rest++[128]++List.replicate (jG rest.length) 0++aF 8 (UInt64.ofNat (count*8))
def ph (h:List UInt32) (k:Nat):List UInt8:=((List.range k).map λ i=>aF 4 (w' h i).toUInt64).flatten
def Cb (h:List UInt32):List UInt8:=ph h 8
def fin (h:List UInt32) (rest:List UInt8)(count:Nat):List UInt8:=Cb (blocks h (nq rest count) ((nq rest count).length / 64))
def sha (b:List UInt8):List UInt8:=fin (blocks h0 b (b.length / 64)) (b.drop (b.length / 64*64)) b.length
theorem zD (n:Nat):jG n<64:=Nat.mod_lt _ (by omega)
theorem xE (n:Nat):(n+1+jG n) % 64=56:=by unfold jG;omega
theorem Au (n m:Nat) (h:m<jG n):(n+1+m) % 64≠56:=by unfold jG at h;omega
theorem rm (rest:List UInt8)(count:Nat):(nq rest count).length=rest.length+1+jG rest.length+8:=by simp [nq,aw];omega
theorem og (h:List UInt32) (k:Nat):ph h (k+1)=ph h k++aF 4 (w' h k).toUInt64:=by
 simp [ph,List.range_succ]
theorem sh (h:List UInt32) (k:Nat):(ph h k).length=4*k:=by
 induction k with
 | zero=>rfl
 | succ k ih=>rw [og,List.length_append,ih,aw];omega
theorem vh (h:List UInt32) (rest:List UInt8)(count:Nat):(fin h rest count).length=32:=sh _ 8
theorem jg (b:List UInt8):(sha b).length=32:=vh _ _ _
def wbF (s i:Nat):List UInt8:=sha (aF 8 (UInt64.ofNat s)++aF 4 (UInt64.ofNat i))
def D6 (s k:Nat):List UInt8:=((List.range k).map (wbF s)).flatten
def gE (s n:Nat):List UInt8:=(D6 s ((n+31) / 32)).take n
/- "abc" -/
example:sha [97,98,99]=[0xba,0x78,0x16,0xbf,0x8f,0x01,0xcf,0xea,0x41,0x41,0x40,0xde,0x5d,0xae,0x22,0x23,0xb0,0x03,0x61,0xa3,0x96,0x17,0x7a,0x9c,0xb4,0x10,0xff,0x61,0xf2,0x00,0x15,0xad]:=by decide +kernel
end Go.Sha

/- HMAC and HKDF as plain functions. No program. -/
namespace Go.Sha
def keyOf (key:List UInt8):List UInt8:=if 64<key.length then sha key else key
def mixed (key:List UInt8)(x:UInt8):List UInt8:=(List.range 64).map λ i=>b' (keyOf key) i ^^^ x
def kN (key b:List UInt8):List UInt8:=sha (mixed key 92++sha (mixed key 54++b))
def tK (key info:List UInt8):Nat->List UInt8
 | 0=>[]
 | i+1=>kN key (tK key info i++info++[UInt8.ofNat (i+1)])
def sE (key info:List UInt8):Nat->List UInt8
 | 0=>[]
 | i+1=>sE key info i++tK key info (i+1)
def eh (key info:List UInt8)(n:Nat):List UInt8:=(sE key info ((n+31) / 32)).take n
def Bn (pre name ctx:List UInt8):List UInt8:=pre++[0]++name++[0]++sha ctx
theorem r9 (key:List UInt8):(keyOf key).length<=64:=by
 unfold keyOf;split
 ·rw [jg];omega
 ·omega
theorem ta (key b:List UInt8):(kN key b).length=32:=jg _
theorem wY (key info:List UInt8)(i:Nat) (h:0<i):(tK key info i).length=32:=by
 cases i with
 | zero=>omega
 | succ i=>exact ta _ _
theorem sU (key info:List UInt8)(i:Nat):(sE key info i).length=32*i:=by
 induction i with
 | zero=>rfl
 | succ i ih=>rw [sE,List.length_append,ih,wY _ _ _ (by omega)];omega
theorem ot (key info:List UInt8)(n:Nat):(eh key info n).length=n:=by
 unfold eh;rw [List.length_take,sU];omega
/- RFC 4231, test case 2 -/
example:kN [74,101,102,101] [119,104,97,116,32,100,111,32,121,97,32,119,97,110,116,32,102,111,114,32,110,111,116,104,105,110,103,63]=[0x5b,0xdc,0xc1,0x46,0xbf,0x60,0x75,0x4e,0x6a,0x04,0x24,0x26,0x08,0x95,0x75,0xc7,0x5a,0x00,0x3f,0x08,0x9d,0x27,0x39,0x83,0x9d,0xec,0x58,0xb9,0x64,0xec,0x38,0x43]:=by decide +kernel
end Go.Sha

/- AES-128 as plain functions on bytes. -/
namespace Go.Aes
def box:List UInt8:=[
 99,124,119,123,242,107,111,197,48,1,103,43,254,215,171,118,
 202,130,201,125,250,89,71,240,173,212,162,175,156,164,114,192,
 183,253,147,38,54,63,247,204,52,165,229,241,113,216,49,21,
 4,199,35,195,24,150,5,154,7,18,128,226,235,39,178,117,
 9,131,44,26,27,110,90,160,82,59,214,179,41,227,47,132,
 83,209,0,237,32,252,177,91,106,203,190,57,74,76,88,207,
 208,239,170,251,67,77,51,133,69,249,2,127,80,60,159,168,
 81,163,64,143,146,157,56,245,188,182,218,33,16,255,243,210,
 205,12,19,236,95,151,68,23,196,167,126,61,100,93,25,115,
 96,129,79,220,34,42,144,136,70,238,184,20,222,94,11,219,
 224,50,58,10,73,6,36,92,194,211,172,98,145,149,228,121,
 231,200,55,109,141,213,78,169,108,86,244,234,101,122,174,8,
 186,120,37,46,28,166,180,198,232,221,116,31,75,189,139,138,
 112,62,181,102,72,3,246,14,97,53,87,185,134,193,29,158,
 225,248,152,17,105,217,142,148,155,30,135,233,206,85,40,223,
 140,161,137,13,191,230,66,104,65,153,45,15,176,84,187,22]
def sub (x:UInt8):UInt8:=box.getD x.toNat 0
def dbl (x:UInt8):UInt8:=if x &&& 128 != 0 then (x <<< 1) ^^^ 27 else x <<< 1
def at' (l:List UInt8)(i:Nat):UInt8:=l.getD i 0
def jN (l m:List UInt8)(i:Nat):UInt8:=at' l i ^^^ at' m i
def bN (l m:List UInt8):List UInt8:=(List.range 16).map (jN l m)
def rY (l:List UInt8)(i:Nat):UInt8:=sub (at' l ((i+4*(i % 4)) % 16))
def rep (l:List UInt8):List UInt8:=(List.range 16).map (rY l)
def jA (l:List UInt8)(i:Nat):UInt8 :=
 at' l i ^^^ (at' l (i / 4*4) ^^^ at' l (i / 4*4+1) ^^^ at' l (i / 4*4+2) ^^^ at' l (i / 4*4+3)) ^^^ dbl (at' l i ^^^ at' l (i / 4*4+(i % 4+1) % 4))
def mix (l:List UInt8):List UInt8:=(List.range 16).map (jA l)
def key (ks:List UInt8)(r:Nat):List UInt8:=(ks.drop (16*r)).take 16
def rounds (ks l:List UInt8):Nat->List UInt8
 | 0=>bN l (key ks 0)
 | r+1=>bN (if r+1<10 then mix (rep (rounds ks l r)) else rep (rounds ks l r)) (key ks (r+1))
def enc (ks l:List UInt8):List UInt8:=rounds ks l 10
def con:Nat->UInt8
 | 0=>1
 | n+1=>dbl (con n)
def word (ws:List UInt8)(i:Nat):List UInt8 :=
 let t:=(ws.drop (4*i-4)).take 4
 let t:=if i % 4=0 then [sub (at' t 1) ^^^ con (i / 4-1),sub (at' t 2),sub (at' t 3),sub (at' t 0)] else t
 [at' ws (4*i-16) ^^^ at' t 0,at' ws (4*i-15) ^^^ at' t 1,at' ws (4*i-14) ^^^ at' t 2,at' ws (4*i-13) ^^^ at' t 3]
def words (key:List UInt8):Nat->List UInt8
 | 0=>key
 | n+1=>words key n++word (words key n) (n+4)
def expand (key:List UInt8):List UInt8:=words key 40
def block (key l:List UInt8):List UInt8:=enc (expand key) l
theorem bE (l:List UInt8)(i:Nat) (h:i<l.length):at' l i=l[i]:=by simp [at',h]
theorem dN (ks l:List UInt8)(r:Nat):(rounds ks l r).length=16:=by
 cases r <;> simp [rounds,bN]
theorem tF (ws:List UInt8)(i:Nat):(word ws i).length=4:=rfl
theorem dd (key:List UInt8)(n:Nat) (h:key.length=16):(words key n).length=16+4*n:=by
 induction n with
 | zero=>simpa [words] using h
 | succ n ih=>simp only [words,List.length_append,tF,ih];omega
theorem kL (ks:List UInt8)(r:Nat) (h:ks.length=176) (hr:r<=10):(key ks r).length=16:=by
 simp [key,h];omega
theorem A1 (l:List UInt8)(c:Nat):jA l (4*c)=at' l (4*c) ^^^ (at' l (4*c) ^^^ at' l (4*c+1) ^^^ at' l (4*c+2) ^^^ at' l (4*c+3)) ^^^ dbl (at' l (4*c) ^^^ at' l (4*c+1)):=by
 have h1:(4*c) / 4*4=4*c:=by omega
 have h2:((4*c) % 4+1) % 4=1:=by omega
 simp only [jA,h1,h2]
theorem A8 (l:List UInt8)(c:Nat):jA l (4*c+1)=at' l (4*c+1) ^^^ (at' l (4*c) ^^^ at' l (4*c+1) ^^^ at' l (4*c+2) ^^^ at' l (4*c+3)) ^^^ dbl (at' l (4*c+1) ^^^ at' l (4*c+2)):=by
 have h1:(4*c+1) / 4*4=4*c:=by omega
 have h2:((4*c+1) % 4+1) % 4=2:=by omega
 simp only [jA,h1,h2]
theorem Ba (l:List UInt8)(c:Nat):jA l (4*c+2)=at' l (4*c+2) ^^^ (at' l (4*c) ^^^ at' l (4*c+1) ^^^ at' l (4*c+2) ^^^ at' l (4*c+3)) ^^^ dbl (at' l (4*c+2) ^^^ at' l (4*c+3)):=by
 have h1:(4*c+2) / 4*4=4*c:=by omega
 have h2:((4*c+2) % 4+1) % 4=3:=by omega
 simp only [jA,h1,h2]
theorem A5 (l:List UInt8)(c:Nat):jA l (4*c+3)=at' l (4*c+3) ^^^ (at' l (4*c) ^^^ at' l (4*c+1) ^^^ at' l (4*c+2) ^^^ at' l (4*c+3)) ^^^ dbl (at' l (4*c+3) ^^^ at' l (4*c)):=by
 have h1:(4*c+3) / 4*4=4*c:=by omega
 have h2:((4*c+3) % 4+1) % 4=0:=by omega
 simp only [jA,h1,h2];simp
example:block [0,1,2,3,4,5,6,7,8,9,10,11,12,13,14,15] [0x00,0x11,0x22,0x33,0x44,0x55,0x66,0x77,0x88,0x99,0xaa,0xbb,0xcc,0xdd,0xee,0xff]=[0x69,0xc4,0xe0,0xd8,0x6a,0x7b,0x04,0x30,0xd8,0xcd,0xb7,0x80,0x70,0xb4,0xc5,0x5a]:=by decide +kernel
end Go.Aes

/- The field of AES: products of bytes, and the S-box as the document makes it. No program. -/
namespace Go.Aes
def vQ (s:UInt8 × UInt8 × UInt8):UInt8 × UInt8 × UInt8:=(if s.2.2 &&& 1 == 1 then s.1 ^^^ s.2.1 else s.1,dbl s.2.1,s.2.2 >>> 1)
def vV (x y:UInt8):Nat->UInt8 × UInt8 × UInt8
 | 0=>(0,x,y)
 | k+1=>vQ (vV x y k)
def mul (x y:UInt8):UInt8:=(vV x y 8).1
def iV:Nat->UInt8->UInt8
 | 0,x=>x
 | k+1,x=>iV k x >>> 1
def tk (y:UInt8) (k:Nat) (x:UInt8):UInt8:=if (iV k y) &&& 1 == 1 then x else 0
def dJ:Nat->UInt8->UInt8
 | 0,x=>x
 | k+1,x=>dbl (dJ k x)
theorem tL (a b:UInt8):a ^^^ b=b ^^^ a:=UInt8.xor_comm a b
theorem kJ (a b c:UInt8):a ^^^ (b ^^^ c)=b ^^^ (a ^^^ c):=by rw [<- UInt8.xor_assoc,UInt8.xor_comm a b,UInt8.xor_assoc]
theorem sV (a b:UInt8):a ^^^ (a ^^^ b)=b:=by rw [<- UInt8.xor_assoc,UInt8.xor_self,UInt8.zero_xor]
theorem uB (x:UInt8):dbl x=(x <<< 1) ^^^ (if x &&& 128 != 0 then 27 else 0):=by unfold dbl;split <;> simp
theorem lO (p:UInt8->Bool) (h:((List.range 256).all λ n=>p (UInt8.ofNat n))=true) (x:UInt8):p x=true:=by
 rw [List.all_eq_true] at h;have:=h x.toNat (List.mem_range.2 x.toNat_lt)
 rwa [UInt8.ofNat_toNat] at this
theorem wa (a b c:UInt8):(a ^^^ b) &&& c=(a &&& c) ^^^ (b &&& c):=UInt8.toBitVec_inj.1 (by ext i;simp [Bool.and_xor_distrib_right])
theorem zH (x y:UInt8):((x ^^^ y) &&& 128 != 0)=((x &&& 128 != 0) ^^ (y &&& 128 != 0)):=by
 rw [wa];have h:∀ x:UInt8,x &&& 128=0\/x &&& 128=128:=λ x=>by
  have:=lO (λ x=>x &&& 128 == 0 || x &&& 128 == 128) (by decide +kernel) x;simpa using this
 rcases h x with h1|h1 <;> rcases h y with h'|h' <;> rw [h1,h'] <;> rfl
theorem kb (x y:UInt8):dbl (x ^^^ y)=dbl x ^^^ dbl y:=by
 rw [uB,uB,uB,zH,UInt8.shiftLeft_xor];cases (x &&& 128 != 0) <;> cases (y &&& 128 != 0) <;> simp [UInt8.xor_assoc,tL,kJ,sV]
theorem oD:dbl 0=0:=rfl
theorem yp (k:Nat) (x y:UInt8):iV k (x ^^^ y)=iV k x ^^^ iV k y:=by
 induction k with
 | zero=>rfl
 | succ k ih=>simp only [iV,ih,UInt8.shiftRight_xor]
theorem Af (x y:UInt8) (k:Nat):((iV k (x ^^^ y)) &&& 1 == 1)=(((iV k x) &&& 1 == 1) ^^ ((iV k y) &&& 1 == 1)):=by
 rw [yp,wa];have h:∀ x:UInt8,x &&& 1=0\/x &&& 1=1:=λ x=>by
  have:=lO (λ x=>x &&& 1 == 0 || x &&& 1 == 1) (by decide +kernel) x;simpa using this
 rcases h (iV k x) with h1|h1 <;> rcases h (iV k y) with h'|h' <;> rw [h1,h'] <;> rfl
theorem Bq (y:UInt8) (k:Nat) (a b:UInt8):tk y k (a ^^^ b)=tk y k a ^^^ tk y k b:=by unfold tk;split <;> simp
theorem Bf (y z:UInt8) (k:Nat) (a:UInt8):tk (y ^^^ z) k a=tk y k a ^^^ tk z k a:=by
 unfold tk;rw [Af];cases ((iV k y) &&& 1 == 1) <;> cases ((iV k z) &&& 1 == 1) <;> simp
theorem tj (k:Nat) (a b:UInt8):dJ k (a ^^^ b)=dJ k a ^^^ dJ k b:=by
 induction k with
 | zero=>rfl
 | succ k ih=>simp only [dJ,ih,kb]
theorem sy (k:Nat) (a:UInt8):dJ k (dbl a)=dbl (dJ k a):=by
 induction k with
 | zero=>rfl
 | succ k ih=>simp only [dJ,ih]
def cM (x y:UInt8):Nat->UInt8
 | 0=>0
 | k+1=>cM x y k ^^^ tk y k (dJ k x)
theorem yA (x y:UInt8) (k:Nat):vV x y k=(cM x y k,dJ k x,iV k y):=by
 induction k with
 | zero=>rfl
 | succ k ih =>
  simp only [vV,ih,vQ,cM,dJ,iV,tk];split <;> simp
theorem ts (k:Nat) (a b y:UInt8):cM (a ^^^ b) y k=cM a y k ^^^ cM b y k:=by
 induction k with
 | zero=>simp [cM,oD]
 | succ k ih=>simp only [cM,ih,tj,Bq];simp only [UInt8.xor_assoc,kJ]
theorem rP (k:Nat) (x a b:UInt8):cM x (a ^^^ b) k=cM x a k ^^^ cM x b k:=by
 induction k with
 | zero=>simp [cM,oD]
 | succ k ih=>simp only [cM,ih,Bf];simp only [UInt8.xor_assoc,kJ]
theorem mul_eq (x y:UInt8):mul x y=cM x y 8:=by unfold mul;rw [yA]
theorem mul_left (a b y:UInt8):mul (a ^^^ b) y=mul a y ^^^ mul b y:=by simp only [mul_eq,ts]
theorem mul_right (x a b:UInt8):mul x (a ^^^ b)=mul x a ^^^ mul x b:=by simp only [mul_eq,rP]
theorem one_mul (x:UInt8):mul 1 x=x:=by
 have:=lO (λ x=>mul 1 x == x) (by decide +kernel) x;simpa using this
theorem Bb (y:UInt8) (k:Nat) (x:UInt8):tk y k (dbl x)=dbl (tk y k x):=by unfold tk;split <;> rfl
theorem tZ (k:Nat) (x y:UInt8):cM (dbl x) y k=dbl (cM x y k):=by
 induction k with
 | zero=>simp [cM,oD]
 | succ k ih=>simp only [cM,ih,sy,Bb,kb]
theorem AR (x y:UInt8):mul (dbl x) y=dbl (mul x y):=by simp only [mul_eq,tZ]
theorem jX (k:Nat) (x y:UInt8):mul (dJ k x) y=dJ k (mul x y):=by
 induction k with
 | zero=>rfl
 | succ k ih=>simp only [dJ,AR,ih]
structure Adds (f:UInt8->UInt8):Prop where
 add:∀ a b,f (a ^^^ b)=f a ^^^ f b
theorem Adds.zero {f:UInt8->UInt8} (h:Adds f):f 0=0:=by
 have:=h.add 0 0;rw [UInt8.xor_self,UInt8.xor_self] at this;exact this
theorem Adds.tk {f:UInt8->UInt8} (h:Adds f) (y:UInt8) (k:Nat) (x:UInt8):f (tk y k x)=Aes.tk y k (f x):=by unfold Aes.tk;split <;> simp [h.zero]
theorem Adds.ext {f g:UInt8->UInt8} (hf:Adds f) (hg:Adds g) (h:∀ k,f (dJ k 1)=g (dJ k 1)) (x:UInt8):f x=g x:=by
 rw [<- one_mul x,mul_eq];generalize 8=n
 induction n with
 | zero=>simp [cM,hf.zero,hg.zero]
 | succ n ih=>simp only [cM,hf.add,hg.add,ih,hf.tk,hg.tk,h]
theorem yY (y:UInt8):Adds (λ x=>mul x y):=⟨λ a b=>mul_left a b y⟩
theorem yh (x:UInt8):Adds (mul x):=⟨λ a b=>mul_right x a b⟩
theorem mul_one (x:UInt8):mul x 1=x:=by
 have:=lO (λ x=>mul x 1 == x) (by decide +kernel) x;simpa using this
theorem mul_comm (x y:UInt8):mul x y=mul y x:=by
 refine Adds.ext (f:=λ x=>mul x y) (g:=mul y) (yY y) (yh y) (λ k=>?_) x;show mul (dJ k 1) y=mul y (dJ k 1);rw [jX,one_mul];refine Adds.ext (f:=dJ k) (g:=λ y=>mul y (dJ k 1)) ⟨tj k⟩ (yY _) (λ j=>?_) y;show dJ k (dJ j 1)=mul (dJ j 1) (dJ k 1);rw [jX,one_mul];have:∀ i j (x:UInt8),dJ i (dJ j x)=dJ j (dJ i x):=by
  intro i j x
  induction i with
  | zero=>rfl
  | succ i ih=>simp only [dJ,ih,sy]
 exact this k j 1
theorem mul_assoc (x y z:UInt8):mul x (mul y z)=mul (mul x y) z:=by
 refine Adds.ext (f:=λ z=>mul x (mul y z)) (g:=mul (mul x y)) ⟨λ a b=>by simp only [mul_right]⟩ (yh _) (λ k=>?_) z;show mul x (mul y (dJ k 1))=mul (mul x y) (dJ k 1);rw [mul_comm y,mul_comm (mul x y),jX,jX,one_mul,one_mul,mul_comm,jX,mul_comm y]
def pw (x:UInt8):Nat->UInt8
 | 0=>1
 | k+1=>mul (pw x k) x
def inv (x:UInt8):UInt8 :=
 let a2:=mul x x
 let a3:=mul a2 x
 let a6:=mul a3 a3
 let a7:=mul a6 x
 let a14:=mul a7 a7
 let a15:=mul a14 x
 let a30:=mul a15 a15
 let a31:=mul a30 x
 let a62:=mul a31 a31
 let a63:=mul a62 x
 let a126:=mul a63 a63
 let a127:=mul a126 x
 mul a127 a127
def lft (x:UInt8) (k:Nat):UInt8:=(x <<< UInt8.ofNat k) ||| (x >>> UInt8.ofNat (8-k))
def aff (y:UInt8):UInt8:=y ^^^ lft y 1 ^^^ lft y 2 ^^^ lft y 3 ^^^ lft y 4 ^^^ 99
def unbox:List UInt8:=(List.range 256).map λ n=>UInt8.ofNat ((box.idxOf? (UInt8.ofNat n)).getD 0)
end Go.Aes

/- AES as a permutation: different blocks have different encryptions. No program. -/
namespace Go.Aes
def mc (a b c d:UInt8):UInt8:=a ^^^ (a ^^^ b ^^^ c ^^^ d) ^^^ dbl (a ^^^ b)
def back (a b c d:UInt8):UInt8:=dbl (dbl (dbl (a ^^^ b ^^^ c ^^^ d))) ^^^ dbl (dbl (a ^^^ c)) ^^^ dbl (a ^^^ b) ^^^ (b ^^^ c ^^^ d)
theorem gM (ks l:List UInt8):(enc ks l).length=16:=dN _ _ _
end Go.Aes

/- CMAC and S2V as plain functions on bytes. No program. -/
namespace Go.Aes
def twG (l:List UInt8)(i:Nat):UInt8:=(at' l i <<< 1) ||| (at' l (i+1) >>> 7)
def twF (l:List UInt8)(i:Nat):UInt8:=if i=15 then twG l 15 ^^^ ((at' l 0 >>> 7)*135) else twG l i
def tw (l:List UInt8):List UInt8:=(List.range 16).map (twF l)
theorem bt (l:List UInt8):(tw l).length=16:=by simp [tw]
def dn (f:Nat->UInt8) (k:Nat):List UInt8:=List.replicate k 0++((List.range 16).map f).drop k
theorem xr (f:Nat->UInt8) (k:Nat) (h:k<=16):(dn f k).length=16:=by simp [dn];omega
theorem Ah (f:Nat->UInt8):dn f 16=List.replicate 16 0:=by simp [dn]
theorem Av (f:Nat->UInt8):dn f 0=(List.range 16).map f:=by simp [dn]
theorem Ca (f:Nat->UInt8) (k:Nat) (h:k<16):(dn f (k+1)).set k (f k)=dn f k:=by
 unfold dn;rw [List.set_append_left _ _ (by simp),List.replicate_succ',List.set_append_right _ _ (by simp),List.append_assoc]
 congr 1
 have h2:k<((List.range 16).map f).length:=by simpa using h
 have e:=List.drop_eq_getElem_cons h2;rw [e];simp
theorem zI (l:List UInt8):((List.range 16).map (twG l)).set 15 (twG l 15 ^^^ ((at' l 0 >>> 7)*135))=tw l:=rfl
def dj:List UInt8:=List.replicate 16 0
def fill (l:List UInt8):List UInt8:=l++[128]++List.replicate (15-l.length) 0
theorem cN (l:List UInt8)(h:l.length<16):(fill l).length=16:=by simp [fill];omega
def cbc (ks b:List UInt8):Nat->List UInt8
 | 0=>dj
 | k+1=>enc ks (bN (cbc ks b k) ((b.drop (16*k)).take 16))
theorem gN (ks b:List UInt8)(k:Nat):(cbc ks b k).length=16:=by
 cases k with
 | zero=>simp [cbc,dj]
 | succ k=>exact gM _ _
def mS (whole part r:List UInt8):List UInt8 × List UInt8:=if r.length=16 then (r,whole) else (fill r,part)
def qf (ks whole part b:List UInt8):List UInt8 :=
 let n:=(b.length-1) / 16
 let x:=mS whole part (b.drop (16*n))
 enc ks (bN (bN (cbc ks b n) x.1) x.2)
theorem nB (ks whole part b:List UInt8):(qf ks whole part b).length=16:=gM _ _
def fa (ks:List UInt8):List UInt8:=tw (enc ks dj)
def fj (ks:List UInt8):List UInt8:=tw (fa ks)
def mac (ks b:List UInt8):List UInt8:=qf ks (fa ks) (fj ks) b
theorem gH (ks b:List UInt8):(mac ks b).length=16:=nB _ _ _ _
def DI (key b:List UInt8):List UInt8:=mac (expand key) b
/- RFC 4493, examples 1 and 2 -/
def ck:List UInt8:=[0x2b,0x7e,0x15,0x16,0x28,0xae,0xd2,0xa6,0xab,0xf7,0x15,0x88,0x09,0xcf,0x4f,0x3c]
def cm:List UInt8:=[0x6b,0xc1,0xbe,0xe2,0x2e,0x40,0x9f,0x96,0xe9,0x3d,0x7e,0x11,0x73,0x93,0x17,0x2a]
def co1:List UInt8:=[0xbb,0x1d,0x69,0x29,0xe9,0x59,0x37,0x28,0x7f,0xa3,0x7d,0x12,0x9b,0x75,0x67,0x46]
def co2:List UInt8:=[0x07,0x0a,0x16,0xb4,0x6b,0x4d,0x41,0x44,0xf7,0x9b,0xdd,0x9d,0xd0,0x4a,0x28,0x7c]
end Go.Aes

/- CMAC: messages of one block, and Double as a linear function. No program. -/
namespace Go.Aes
end Go.Aes

/- S2V as a plain function. No program. -/
namespace Go.Aes
def sH:List UInt8:=List.replicate 15 0++[1]
def jh (ks:List UInt8)(L:List (List UInt8)):List UInt8:=L.foldl (λ d b=>bN (tw d) (mac ks b)) (mac ks dj)
def iF (d s:List UInt8):List UInt8:=if 16<=s.length then s.take (s.length-16)++bN (s.drop (s.length-16)) d else bN (tw d) (fill s)
def me (ks:List UInt8)(L:List (List UInt8)):List UInt8:=mac ks (if L=[] then sH else iF (jh ks (L.take (L.length-1))) (L.getD (L.length-1) []))
def s2v (key:List UInt8)(L:List (List UInt8)):List UInt8:=me (expand key) L
theorem jC (ks:List UInt8)(L:List (List UInt8)):(jh ks L).length=16:=by
 unfold jh;rcases List.eq_nil_or_concat L with h|⟨I,b,h⟩
 ·subst h;exact gH _ _
 ·subst h;simp [List.foldl_append,bN]
theorem xP (ks:List UInt8)(L:List (List UInt8)):jh ks (L.take 0)=mac ks dj:=rfl
theorem qC (ks:List UInt8)(L:List (List UInt8)) (i:Nat) (h:i<L.length):jh ks (L.take (i+1))=bN (tw (jh ks (L.take i))) (mac ks (L[i]'h)):=by
 unfold jh;rw [List.take_succ_eq_append_getElem h,List.foldl_append];rfl
theorem nD (ks:List UInt8)(L:List (List UInt8)):(me ks L).length=16:=gH _ _
theorem dG (key:List UInt8)(L:List (List UInt8)):(s2v key L).length=16:=gH _ _
theorem tN (ks:List UInt8):me ks []=mac ks sH:=rfl
theorem qo (ks:List UInt8)(L:List (List UInt8)) (m:Nat) (h:L.length=m+1):me ks L=mac ks (iF (jh ks (L.take m)) (L[m]'(by omega))):=by
 unfold me;have e:L.length-1=m:=by omega
 rw [if_neg (by rintro rfl;simp at h),e]
 congr 2
 rw [List.getD_eq_getElem?_getD,List.getElem?_eq_getElem (by omega),Option.getD_some]
end Go.Aes

/- The tables of the reference's prepared key. No program. -/
namespace Go.Aes
def dW:Nat->UInt8 × UInt8 × List UInt8
 | 0=>(1,1,(List.replicate 256 0).set 0 99)
 | k+1=>(mul (dW k).1 3,mul (dW k).2.1 246,(dW k).2.2.set (dW k).1.toNat (aff (dW k).2.1))
theorem xM:(dW 255).2.2=box:=by decide +kernel
theorem rO (k:Nat):(dW k).2.2.length=256:=by
 induction k with
 | zero=>show ((List.replicate 256 (0:UInt8)).set 0 99).length=256;rw [List.length_set,List.length_replicate]
 | succ k ih=>rw [dW,List.length_set];exact ih
theorem dZ:box.length=256:=by decide +kernel
def twt:List UInt8:=(List.range 256).map λ n=>dbl (UInt8.ofNat n)
theorem eK:twt.length=256:=by simp [twt]
theorem mul_two (x:UInt8):mul x 2=dbl x:=by
 have:=lO (λ x=>mul x 2 == dbl x) (by decide +kernel) x;simpa using this
theorem BS (x:UInt8):at' box x.toNat=sub x:=rfl
theorem Bc (x:UInt8):at' twt x.toNat=dbl x:=by
 rw [bE _ _ (by rw [eK];exact x.toNat_lt)];simp [twt]
theorem yO (l:List UInt8)(c r:Nat) (hr:r<4):jA l (r+4*c) =
  dbl (at' l (4*c+r)) ^^^ dbl (at' l (4*c+(r+1) % 4)) ^^^ at' l (4*c+(r+1) % 4) ^^^ at' l (4*c+(r+2) % 4) ^^^ at' l (4*c+(r+3) % 4):=by
 have h:r=0\/r=1\/r=2\/r=3:=by omega
 rw [Nat.add_comm r];rcases h with rfl|rfl|rfl|rfl
 ·show jA l (4*c)=_;rw [A1,kb];simp only [Nat.reduceMod,Nat.reduceAdd,Nat.add_zero];generalize at' l (4*c)=a,at' l (4*c+1)=b,at' l (4*c+2)=d,at' l (4*c+3)=e;simp only [UInt8.xor_assoc,tL,kJ,sV]
 ·rw [A8,kb];simp only [Nat.reduceMod,Nat.reduceAdd,Nat.add_zero];generalize at' l (4*c)=a,at' l (4*c+1)=b,at' l (4*c+2)=d,at' l (4*c+3)=e;simp only [UInt8.xor_assoc,tL,kJ,sV]
 ·rw [Ba,kb];simp only [Nat.reduceMod,Nat.reduceAdd,Nat.add_zero];generalize at' l (4*c)=a,at' l (4*c+1)=b,at' l (4*c+2)=d,at' l (4*c+3)=e;simp only [UInt8.xor_assoc,tL,kJ,sV]
 ·rw [A5,kb];simp only [Nat.reduceMod,Nat.reduceAdd,Nat.add_zero];generalize at' l (4*c)=a,at' l (4*c+1)=b,at' l (4*c+2)=d,at' l (4*c+3)=e;simp only [UInt8.xor_assoc,tL,kJ,sV]
end Go.Aes

/- The cells of the reference's prepared key. No program. -/
namespace Go.Aes
def tw0 (k:Nat):List UInt8:=List.replicate 176 0++(box++(twt.take k++List.replicate (256-k) 0))
def pre (ws:List UInt8):List UInt8:=ws++(List.replicate (176-ws.length) 0++(box++twt))
theorem ov (k:Nat) (h:k<=256):(tw0 k).length=688:=by
 simp only [tw0,List.length_append,List.length_replicate,dZ,List.length_take,eK];omega
theorem eI (ws:List UInt8)(h:ws.length<=176):(pre ws).length=688:=by
 simp only [pre,List.length_append,List.length_replicate,dZ,eK];omega
theorem vL {α:Type} (A B:List α) (n:Nat) (z v:α) (i:Nat) (hi:i=A.length):(A++(List.replicate (n+1) z++B)).set i v=(A++[v])++(List.replicate n z++B):=by
 subst hi;rw [List.set_append_right _ _ (Nat.le_refl _),Nat.sub_self,List.replicate_succ,q6q,q2q];simp
theorem AI (k:Nat) (h:k<256):(tw0 k).set (432+k) (dbl (UInt8.ofNat k))=tw0 (k+1):=by
 have e1:tw0 k=(List.replicate 176 0++(box++twt.take k))++(List.replicate ((255-k)+1) 0++[]):=by
  simp only [tw0,List.append_assoc,List.append_nil];rw [show 256-k=255-k+1 by omega]
 have hl:(List.replicate 176 (0:UInt8)++(box++twt.take k)).length=432+k:=by
  simp only [List.length_append,List.length_replicate,dZ,List.length_take,eK];omega
 rw [e1,vL _ _ _ _ _ _ hl.symm];have e2:twt.take (k+1)=twt.take k++[dbl (UInt8.ofNat k)]:=by
  rw [List.take_add_one]
  congr 1
  rw [List.getElem?_eq_getElem (by rw [eK];exact h)];simp [twt]
 simp only [tw0,e2,List.append_assoc,List.append_nil];rw [show 256-(k+1)=255-k by omega]
theorem Ai:tw0 256=pre []:=by
 simp only [tw0,pre,List.length_nil,Nat.sub_self,List.replicate_zero,List.append_nil,q5q,Nat.sub_zero];rw [List.take_of_length_le (by rw [eK];exact Nat.le_refl _)]
theorem zU (ky:List UInt8)(h:ky.length=16):ky++(pre []).drop 16=pre ky:=by
 simp only [pre,h,List.length_nil,q5q];rw [List.drop_append_of_le_length (by rw [List.length_replicate];omega),List.drop_replicate]
theorem zQ (ws:List UInt8)(v:UInt8) (i:Nat) (hi:i=ws.length) (h:ws.length<176):(pre ws).set i v=pre (ws++[v]):=by
 unfold pre;rw [show 176-ws.length=(175-ws.length)+1 by omega,vL _ _ _ _ _ _ hi];rw [List.length_append,show 176-(ws.length+[v].length)=175-ws.length by simp]
theorem mw (ws:List UInt8)(j:Nat) (h:j<ws.length):(pre ws)[j]?=some (at' ws j):=by
 unfold pre;rw [List.getElem?_append_left h,List.getElem?_eq_getElem h,bE _ _ h]
theorem vK (ws:List UInt8)(h:ws.length<=176) (x:UInt8):(pre ws)[176+x.toNat]?=some (sub x):=by
 have hx:=x.toNat_lt;have hl:(ws++List.replicate (176-ws.length) (0:UInt8)).length=176:=by simp;omega
 unfold pre;rw [<- List.append_assoc,List.getElem?_append_right (by omega),hl,Nat.add_sub_cancel_left,List.getElem?_append_left (by rw [dZ];exact hx),<- BS,List.getElem?_eq_getElem (by rw [dZ];exact hx),bE]
theorem AD (ws:List UInt8)(h:ws.length<=176) (x:UInt8):(pre ws)[432+x.toNat]?=some (dbl x):=by
 have hx:=x.toNat_lt;have hl:((ws++List.replicate (176-ws.length) (0:UInt8))++box).length=432:=by simp [dZ];omega
 unfold pre;rw [<- List.append_assoc,<- List.append_assoc,List.getElem?_append_right (by omega),hl,Nat.add_sub_cancel_left,<- Bc,List.getElem?_eq_getElem (by rw [eK];exact hx),bE]
end Go.Aes

/- The reference's rounds as the rounds of AES. No program. -/
namespace Go.Aes
theorem oq (f:Nat->UInt8) (i:Nat) (h:i<16):at' ((List.range 16).map f) i=f i:=by
 rw [bE _ _ (by simpa using h)];simp
theorem yg (ks:List UInt8)(r i:Nat) (hks:ks.length=176) (hr:r<=10) (hi:i<16):at' (key ks r) i=at' ks (16*r+i):=by
 have hl:=kL ks r hks hr;rw [bE _ _ (by omega),bE _ _ (by omega)];simp [key]
def yn (ks l:List UInt8)(i:Nat):UInt8:=at' l i ^^^ at' ks i
def rW (ks t:List UInt8)(r i:Nat):UInt8:=(if r<10 then jA t i else at' t i) ^^^ at' ks (16*r+i)
theorem fst_eq (ks l:List UInt8)(hks:ks.length=176):(List.range 16).map (yn ks l)=rounds ks l 0:=by
 unfold rounds bN;apply List.map_congr_left;intro i hi;have:=List.mem_range.1 hi;unfold yn jN;rw [yg ks 0 i hks (by omega) this];simp
theorem Bv (ks l:List UInt8)(hks:ks.length=176) (r:Nat) (hr:r+1<=10):(List.range 16).map (rW ks (rep (rounds ks l r)) (r+1))=rounds ks l (r+1):=by
 rw [rounds];unfold bN;apply List.map_congr_left;intro i hi;have hi:=List.mem_range.1 hi;unfold rW jN;rw [yg ks (r+1) i hks hr hi];split
 ·rw [mix,oq _ _ hi]
 ·rfl
end Go.Aes

/- Numbers out of bytes. No program. -/
namespace Go.Oct
def uA (v:UInt64) (x:UInt8):UInt64:=(v <<< 8) ||| x.toUInt64
def cR (l:List UInt8):UInt64:=l.foldl uA 0
def bR (l:List UInt8):Nat:=l.foldl (λ v x=>v*256+x.toNat) 0
theorem yc (v:UInt64) (x:UInt8) (h:v.toNat<72057594037927936):(uA v x).toNat=v.toNat*256+x.toNat:=by
 have hx:=x.toNat_lt;have e1:(v <<< 8).toNat=v.toNat*256:=by
  rw [UInt64.toNat_shiftLeft,show (8:UInt64).toNat % 64=8 from rfl,Nat.shiftLeft_eq,Nat.mod_eq_of_lt (by omega)]
 unfold uA;rw [UInt64.toNat_or,e1,UInt8.toNat_toUInt64];have:=(Nat.two_pow_add_eq_or_of_lt (i:=8) (show x.toNat<2 ^ 8 by omega) v.toNat).symm;rw [show v.toNat*256=2 ^ 8*v.toNat by omega,this]
theorem qx:∀ (l:List UInt8)(k:Nat) (v:UInt64),v.toNat<256 ^ k->l.length+k<=8->(l.foldl uA v).toNat=l.foldl (λ v x=>v*256+x.toNat) v.toNat
 | [],_,_,_,_=>rfl
 | x :: l,k,v,hv,hl=>by
  simp only [List.length_cons] at hl;have hx:=x.toNat_lt;have hk:(256:Nat) ^ k<=256 ^ 7:=Nat.pow_le_pow_right (by omega) (by omega)
  have hs:=yc v x (by have:(256:Nat) ^ 7=72057594037927936:=by decide
                      omega)
  rw [List.foldl_cons,List.foldl_cons,qx l (k+1) (uA v x) (by rw [hs,Nat.pow_succ];omega) (by omega),hs]
theorem fK (l:List UInt8)(h:l.length<=8):(cR l).toNat=bR l:=qx l 0 0 (by decide) (by omega)
theorem xj (l:List UInt8)(x:UInt8):bR (l++[x])=bR l*256+x.toNat:=by unfold bR;rw [List.foldl_append];rfl
theorem jZ:∀ (l:List UInt8)(v:Nat),l.foldl (λ v x=>v*256+x.toNat) v=v*256 ^ l.length+bR l
 | [],v=>by simp [bR]
 | x :: l,v=>by
  have e:bR (x :: l)=(0*256+x.toNat)*256 ^ l.length+bR l:=by
   show (x :: l).foldl _ 0=_;rw [List.foldl_cons,jZ l]
  rw [List.foldl_cons,jZ l,e,List.length_cons,Nat.pow_succ,Nat.add_mul];have:v*256*256 ^ l.length=v*(256 ^ l.length*256):=by rw [Nat.mul_assoc,Nat.mul_comm 256]
  rw [this,Nat.zero_mul,Nat.zero_add,Nat.add_assoc]
theorem ki (l:List UInt8):bR l<256 ^ l.length:=by
 induction l with
 | nil=>decide
 | cons x l ih =>
  have hx:=x.toNat_lt;unfold bR;rw [List.foldl_cons,jZ,List.length_cons,Nat.pow_succ];have:(0*256+x.toNat)*256 ^ l.length<=255*256 ^ l.length:=Nat.mul_le_mul_right _ (by omega);omega
theorem lz (n:Nat) (v:UInt64):bR (aF n v)=v.toNat % 256 ^ n:=by
 induction n generalizing v with
 | zero=>simp [aF,bR,Nat.mod_one]
 | succ n ih =>
  rw [aF,xj,ih,Nat.pow_succ,Nat.mul_comm (256 ^ n) 256,Nat.mod_mul];have e:(v >>> 8).toNat=v.toNat / 256:=by rw [UInt64.toNat_shiftRight,Nat.shiftRight_eq_div_pow];rfl
  rw [e,UInt64.toNat_toUInt8];omega
theorem tO (n k:Nat) (h:n<=8) (hk:k<256 ^ n):(cR (aF n (UInt64.ofNat k))).toNat=k:=by
 have:(256:Nat) ^ n<=256 ^ 8:=Nat.pow_le_pow_right (by omega) h;have e8:(256:Nat) ^ 8=18446744073709551616:=by decide
 rw [fK _ (by rw [aw];exact h),lz,UInt64.toNat_ofNat',Nat.mod_eq_of_lt (show k<2 ^ 64 by omega),Nat.mod_eq_of_lt hk]
theorem _root_.z1q89{p:Prop}(h:p:=by
 have:=Nat.mul_le_mul_right (256 ^ m.length) h1;rw [Nat.succ_mul] at this;omega):p:=h
theorem yJ:∀ (l m:List UInt8),l.length=m.length->bR l=bR m->l=m:=by
 intro l
 induction l with
 | nil=>intro m h _;exact (List.eq_nil_of_length_eq_zero h.symm).symm
 | cons x l ih =>
  intro m h e;cases m with
  | nil=>simp at h
  | cons y m =>
   have hl:l.length=m.length:=by simpa using h
   have e1:∀ (z:UInt8) (k:List UInt8),bR (z :: k)=z.toNat*256 ^ k.length+bR k:=λ z k=>by
    show (z :: k).foldl _ 0=_;rw [List.foldl_cons,jZ k,Nat.zero_mul,Nat.zero_add]
   rw [e1,e1,hl] at e;have b1:=ki l;have b2:=ki m;rw [hl] at b1;have hxy:x.toNat=y.toNat:=by
    rcases Nat.lt_trichotomy x.toNat y.toNat with h1|h1|h1
    ·exact z1q89
    ·exact h1
    ·exact z1q89
   rw [hxy] at e;rw [UInt8.toNat_inj.1 hxy,ih m hl (by omega)]
end Go.Oct

/- SHA-256 of many small messages at once, in one number with a lane of 64 bits for each. No program. -/
namespace Go.Lane
open Go.Sha Go.Oct
def fV:Nat->(Nat->Nat)->Nat
 | 0,_=>0
 | n+1,f=>2 ^ 64*fV n (λ k=>f (k+1))+f 0
def pack (n:Nat) (f:Nat->UInt32):Nat:=fV n λ k=>(f k).toNat
def mi (n:Nat):Nat:=(2 ^ (64*n)-1) / (2 ^ 64-1)
def mask (n:Nat):Nat:=mi n*(2 ^ 32-1)
def iota (n a:Nat):Nat:=((a+n)*2 ^ (64*n)+1-2 ^ (64*n)-mi n-a) / (2 ^ 64-1)
theorem xd (n c:Nat):∀ f:Nat->Nat,fV n f*c=fV n λ k=>f k*c:=by
 induction n with
 | zero=>intro f;simp [fV]
 | succ n ih =>
  intro f;have:=ih (λ k=>f (k+1));simp only [fV];rw [<- this,Nat.add_mul,Nat.mul_assoc]
theorem uo (n:Nat):2 ^ (64*(n+1))=2 ^ 64*2 ^ (64*n):=by rw [Nat.mul_add,Nat.mul_one,Nat.pow_add,Nat.mul_comm]
theorem zR (n:Nat):mi n=fV n λ _=>1:=by
 have h:∀ n,fV n (λ _=>1)*(2 ^ 64-1)+1=2 ^ (64*n):=by
  intro n
  induction n with
  | zero=>rfl
  | succ n ih =>
   rw [fV,uo,<- ih];have hB:(2:Nat) ^ 64=(2 ^ 64-1)+1:=by decide
   generalize (2:Nat) ^ 64-1=C at hB ⊢;generalize (2:Nat) ^ 64=B at hB ⊢;rw [Nat.add_mul,Nat.one_mul,Nat.mul_assoc,Nat.add_assoc,<- hB,Nat.mul_add,Nat.mul_one]
 have:=h n;unfold mi;rw [<- this,Nat.add_sub_cancel,Nat.mul_div_cancel _ (by omega)]
theorem ones_mul (n c:Nat):mi n*c=fV n λ _=>c:=by rw [zR,xd];simp
theorem At (n:Nat):mask n=fV n λ _=>2 ^ 32-1:=ones_mul n _
theorem wR {x y:Nat} (hx:x<2 ^ 64) (hy:y<2 ^ 64) (a b:Nat):(2 ^ 64*a+x) &&& (2 ^ 64*b+y)=2 ^ 64*(a &&& b)+(x &&& y):=by
 apply Nat.eq_of_testBit_eq;intro i;have hxy:x &&& y<2 ^ 64:=Nat.and_lt_two_pow _ hy;rw [Nat.testBit_and,Nat.testBit_two_pow_mul_add _ hx,Nat.testBit_two_pow_mul_add _ hy,Nat.testBit_two_pow_mul_add _ hxy];split <;> simp [Nat.testBit_and]
theorem vp (x:Nat):x &&& (2 ^ 32-1)=x % 2 ^ 32:=Nat.and_two_pow_sub_one_eq_mod x 32
theorem Cg (n r:Nat) (hr:r<=32):∀ f:Nat->Nat,(∀ k,f k<2 ^ 64)->(fV n f >>> r) &&& mask n=fV n λ k=>f k / 2 ^ r % 2 ^ 32:=by
 have e64:(2:Nat) ^ 64=2 ^ r*2 ^ (64-r):=by rw [<- Nat.pow_add];congr 1;omega
 have e32:(2:Nat) ^ (64-r)=2 ^ 32*2 ^ (32-r):=by rw [<- Nat.pow_add];congr 1;omega
 have hp:0<(2:Nat) ^ r:=Nat.pow_pos (by omega);rw [At]
 induction n with
 | zero=>intro f _;simp [fV]
 | succ n ih =>
  intro f hf;have ih:=ih (λ k=>f (k+1)) (λ k=>hf (k+1));rw [Nat.shiftRight_eq_div_pow] at ih ⊢;simp only [fV];have h0:=hf 0;generalize fV n (λ k=>f (k+1))=P at ih ⊢;generalize hx:f 0=x at h0 ⊢;have e1:(2 ^ 64*P+x) / 2 ^ r=2 ^ (64-r)*P+x / 2 ^ r:=by
   rw [e64,Nat.mul_assoc,Nat.mul_add_div hp]
  have hy0:x / 2 ^ r<2 ^ (64-r):=by
   rw [Nat.div_lt_iff_lt_mul hp,Nat.mul_comm,<- e64];exact h0
  have e2:2 ^ (64-r)*P+x / 2 ^ r=2 ^ 64*(P / 2 ^ r)+(2 ^ (64-r)*(P % 2 ^ r)+x / 2 ^ r):=by
   have h:=Nat.div_add_mod P (2 ^ r)
   calc 2 ^ (64-r)*P+x / 2 ^ r=2 ^ (64-r)*(2 ^ r*(P / 2 ^ r)+P % 2 ^ r)+x / 2 ^ r:=by rw [h]
    _=_:=by rw [Nat.mul_add,<- Nat.mul_assoc,Nat.mul_comm (2 ^ (64-r)) (2 ^ r),<- e64,Nat.add_assoc]
  have hy:2 ^ (64-r)*(P % 2 ^ r)+x / 2 ^ r<2 ^ 64:=by
   have h1:P % 2 ^ r+1<=2 ^ r:=Nat.mod_lt _ hp;have h2:=Nat.mul_le_mul_left (2 ^ (64-r)) h1;rw [Nat.mul_add,Nat.mul_one,Nat.mul_comm _ (2 ^ r),<- e64] at h2;omega
  have e3:(2 ^ (64-r)*(P % 2 ^ r)+x / 2 ^ r) % 2 ^ 32=x / 2 ^ r % 2 ^ 32:=by
   rw [e32,Nat.mul_assoc,Nat.mul_add_mod]
  rw [e1,e2,wR hy (by decide),ih,vp,e3]
variable {n:Nat}
theorem AN (x:UInt32) (r:Nat) (hr:r<32):(x >>> UInt32.ofNat r).toNat=x.toNat / 2 ^ r:=by
 rw [UInt32.toNat_shiftRight,UInt32.toNat_ofNat',Nat.shiftRight_eq_div_pow]
 congr 2
 show r % 2 ^ 32 % 32=r;omega
theorem sL (x:UInt32) (r:Nat) (h0:0<r) (hr:r<32):(turn x r).toNat=x.toNat*(2 ^ 32+1) / 2 ^ r % 2 ^ 32:=by
 have e32:(2:Nat) ^ 32=2 ^ r*2 ^ (32-r):=by rw [<- Nat.pow_add];congr 1;omega
 have hp:0<(2:Nat) ^ r:=Nat.pow_pos (by omega);have hx:=x.toNat_lt;unfold turn;rw [UInt32.toNat_or,AN _ _ hr,UInt32.toNat_shiftLeft,UInt32.toNat_ofNat'];have e1:(32-r) % 2 ^ 32 % 32=32-r:=by omega
 rw [e1,Nat.shiftLeft_eq];generalize x.toNat=y at hx ⊢;have e2:y*2 ^ (32-r) % 2 ^ 32=2 ^ (32-r)*(y % 2 ^ r):=by
  rw [e32,Nat.mul_comm y,Nat.mul_comm (2 ^ r),Nat.mul_mod_mul_left]
 have hd:y / 2 ^ r<2 ^ (32-r):=by rw [Nat.div_lt_iff_lt_mul hp,Nat.mul_comm,<- e32];exact hx
 rw [e2,Nat.or_comm,<- Nat.two_pow_add_eq_or_of_lt hd];have e3:y*(2 ^ 32+1) / 2 ^ r=y*2 ^ (32-r)+y / 2 ^ r:=by
  rw [Nat.mul_add,Nat.mul_one,e32,<- Nat.mul_assoc,Nat.mul_comm y,Nat.mul_assoc,Nat.mul_add_div hp]
 have e4:y*2 ^ (32-r)=2 ^ 32*(y / 2 ^ r)+2 ^ (32-r)*(y % 2 ^ r):=by
  have h:=Nat.div_add_mod y (2 ^ r)
  calc y*2 ^ (32-r)=2 ^ (32-r)*(2 ^ r*(y / 2 ^ r)+y % 2 ^ r):=by rw [h,Nat.mul_comm]
   _=_:=by rw [Nat.mul_add,<- Nat.mul_assoc,Nat.mul_comm (2 ^ (32-r)) (2 ^ r),<- e32]
 have hy:2 ^ (32-r)*(y % 2 ^ r)+y / 2 ^ r<2 ^ 32:=by
  have h1:y % 2 ^ r+1<=2 ^ r:=Nat.mod_lt _ hp;have h2:=Nat.mul_le_mul_left (2 ^ (32-r)) h1;rw [Nat.mul_add,Nat.mul_one,Nat.mul_comm _ (2 ^ r),<- e32] at h2;omega
 rw [e3,e4,Nat.add_assoc,Nat.mul_add_mod,Nat.mod_eq_of_lt hy]
def qa (n X r:Nat):Nat:=((X*(2 ^ 32+1)) >>> r) &&& mask n
/-! ### the function of SHA-256 in lanes -/
def wN (l:List Nat) (i:Nat):Nat:=l.getD i 0
structure RL (n:Nat) (X:List Nat) (F:Nat->List UInt32):Prop where
 len:∀ k,(F k).length=X.length
 at':∀ i,wN X i=pack n λ k=>w' (F k) i
def s0N (n x:Nat):Nat:=qa n x 7 ^^^ qa n x 18 ^^^ ((x >>> 3) &&& mask n)
def s1N (n y:Nat):Nat:=qa n y 17 ^^^ qa n y 19 ^^^ ((y >>> 10) &&& mask n)
def pM (n x y:Nat):Nat:=(x+y) &&& mask n
def C1 (n:Nat) (l:List Nat) (t:Nat):Nat:=pM n (pM n (pM n (s1N n (wN l (t-2))) (wN l (t-7))) (s0N n (wN l (t-15)))) (wN l (t-16))
def uD (n:Nat) (W:List Nat):Nat->List Nat
 | 0=>W
 | k+1=>uD n W k++[C1 n (uD n W k) (k+16)]
def t1N (n:Nat) (v:List Nat) (k w:Nat):Nat:=pM n (pM n (pM n (pM n (wN v 7) (qa n (wN v 4) 6 ^^^ qa n (wN v 4) 11 ^^^ qa n (wN v 4) 25)) ((wN v 4 &&& wN v 5) ^^^ ((mask n-wN v 4) &&& wN v 6))) k) w
def t2N (n:Nat) (v:List Nat):Nat:=pM n (qa n (wN v 0) 2 ^^^ qa n (wN v 0) 13 ^^^ qa n (wN v 0) 22) ((wN v 0 &&& wN v 1) ^^^ (wN v 0 &&& wN v 2) ^^^ (wN v 1 &&& wN v 2))
def BC (n:Nat) (W v:List Nat) (t:Nat):List Nat :=
 [pM n (t1N n v (mi n*(w' ks t).toNat) (wN W t)) (t2N n v),wN v 0,wN v 1,wN v 2,pM n (wN v 3) (t1N n v (mi n*(w' ks t).toNat) (wN W t)),wN v 4,wN v 5,wN v 6]
def vX (n:Nat) (W v:List Nat):Nat->List Nat
 | 0=>v
 | t+1=>BC n W (vX n W v t) t
def CL (n:Nat) (W:List Nat):Nat:=pM n (mi n*(w' h0 0).toNat) (wN (vX n (uD n W 48) (h0.map λ c=>mi n*c.toNat) 64) 0)
/-! ### that lanes differ -/
def D8 (n X Y:Nat):Bool:=(((X ^^^ Y)+mask n) &&& (mi n*2 ^ 32)) == mi n*2 ^ 32
def CA (n:Nat):List Nat->Bool
 | []=>true
 | x :: l=>(l.all λ y=>D8 n x y) && CA n l
def CD (n off:Nat):List Nat:=[0,iota n off,0,mi n*2147483648,0,0,0,0,0,0,0,0,0,0,0,mi n*96]
def Du (n off:Nat):Nat:=CL n (CD n off)
def EZ (s:Nat):List UInt8:=nq (aF 8 (UInt64.ofNat s)++aF 4 (UInt64.ofNat 0)) 12
end Go.Lane

/- The cookies that the statements about jars draw differ. No program. -/
namespace Go.Lane
open Go.Sha
def EG:List Nat:=((List.range 8).map λ i=>1000003*(i+1))++(List.range 11).map λ i=>9000000*(i+1)
end Go.Lane
