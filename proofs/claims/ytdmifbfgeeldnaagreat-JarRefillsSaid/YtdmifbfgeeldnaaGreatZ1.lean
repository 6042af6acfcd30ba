/- Lemmas of this claim, several texts joined. -/
set_option maxRecDepth 100000
open List renaming set_cons_zero → q2q, nil_append → q5q, cons_append → q6q, drop_zero → q11q
set_option linter.unusedVariables false
set_option linter.unusedSimpArgs false
/- Octets as plain functions. -/
namespace Go.Oct
def putL:Nat→UInt64→List UInt8
 | 0,_=>[]
 | n+1,v=>putL n (v >>> 8)++[v.toUInt8]
theorem putL_length (n:Nat) (v:UInt64):(putL n v).length=n:=by
 induction n generalizing v with
 | zero=>rfl
 | succ n ih=>simp [putL,ih]
theorem putL_zero (n:Nat):putL n 0=List.replicate n 0:=by
 induction n with
 | zero=>rfl
 | succ n ih =>
  rw [putL,show ((0:UInt64) >>> 8)=0 from rfl,ih,List.replicate_succ']
  rfl
theorem drop_set {α:Type} (l:List α) (j:Nat) (x:α) (h:j<l.length):(l.set j x).drop j=x :: l.drop (j+1):=by
 induction l generalizing j with
 | nil=>simp at h
 | cons y r ih =>
  cases j with
  | zero=>rfl
  | succ j=>simpa using ih j (by simpa using h)
theorem put_step (j:Nat) (u:UInt64) (l out:List UInt8)(hj:j<l.length) (h:putL (j+1) u++l.drop (j+1)=out):putL j (u >>> 8)++(l.set j u.toUInt8).drop j=out:=by
 rw [← h,putL,drop_set _ _ _ hj];simp
def joinL (L:List (List UInt8)):List UInt8:=L.flatten
theorem joinL_take (L:List (List UInt8)) (k:Nat) (h:k<L.length):joinL (L.take (k+1))=joinL (L.take k)++L[k]:=by
 unfold joinL;rw [List.take_succ_eq_append_getElem h,List.flatten_append];simp [-List.take_append_getElem]
theorem joinL_le (L:List (List UInt8)) (k:Nat):(joinL (L.take k)).length≤(joinL L).length:=by
 unfold joinL
 conv=>rhs;rw [← List.take_append_drop k L,List.flatten_append,List.length_append]
 omega
theorem joinL_all (L:List (List UInt8)) (n:Nat) (h:L.length=n):joinL (L.take n)=joinL L:=by rw [List.take_of_length_le (by omega)]
theorem joinL1 (a:List UInt8):joinL [a]=a:=by simp [joinL]
theorem joinL2 (a b:List UInt8):joinL [a,b]=a++b:=by simp [joinL]
theorem joinL3 (a b c:List UInt8):joinL [a,b,c]=a++(b++c):=by simp [joinL]
theorem joinL4 (a b c d:List UInt8):joinL [a,b,c,d]=a++(b++(c++d)):=by simp [joinL]
def padN (len n:Nat):Nat:=if 1≤n∧n≤64 then (n-len % n) % n else 0
def padL (l:List UInt8)(n:Nat):List UInt8:=l++List.replicate (padN l.length n) 0
theorem pad_zero (n k:Nat) (hk:1≤k):(n+(k-n % k) % k) % k=0:=by
 have h1:=Nat.div_add_mod n k
 have h2:=Nat.mod_lt n (show 0<k by omega)
 by_cases h0:n % k=0
 ·rw [h0,Nat.sub_zero,Nat.mod_self,Nat.add_zero,h0]
 ·rw [Nat.mod_eq_of_lt (show k-n % k<k by omega)]
  have:n+(k-n % k)=k*(n / k+1):=by rw [Nat.mul_add,Nat.mul_one];omega
  rw [this,Nat.mul_mod_right]
theorem pad_ne (n k m:Nat) (hk:1≤k) (h1:n≤m) (h2:m<n+(k-n % k) % k):m % k≠0:=by
 have h3:=Nat.div_add_mod n k
 have h4:=Nat.mod_lt n (show 0<k by omega)
 by_cases h0:n % k=0
 ·rw [h0,Nat.sub_zero,Nat.mod_self] at h2;omega
 ·rw [Nat.mod_eq_of_lt (show k-n % k<k by omega)] at h2
  obtain ⟨j,rfl⟩:∃ j,m=n+j:=⟨m-n,by omega⟩
  have e:n+j=(n % k+j)+k*(n / k):=by omega
  rw [e,Nat.add_mul_mod_self_left,Nat.mod_eq_of_lt (by omega)]
  omega
def digits:List UInt8:=[48,49,50,51,52,53,54,55,56,57,97,98,99,100,101,102]
def dig (x:UInt8):UInt8:=digits.getD x.toNat 0
def hexL:List UInt8→List UInt8
 | []=>[]
 | x :: r=>dig (x >>> 4) :: dig (x &&& 15) :: hexL r
def unhexStep (out:List UInt8)(k:Nat) (d:UInt8):List UInt8:=out.set (k / 2) ((out.getD (k / 2) 0) <<< 4 ||| d)
def unhexTo (val:UInt8→UInt8) (s:List UInt8):Nat→List UInt8
 | 0=>List.replicate (s.length / 2) 0
 | k+1=>unhexStep (unhexTo val s k) k (val (s.getD k 0))
end Go.Oct

/- Numbers out of bytes. No program. -/
namespace Go.Oct
def getS (v:UInt64) (x:UInt8):UInt64:=(v <<< 8) ||| x.toUInt64
def getL (l:List UInt8):UInt64:=l.foldl getS 0
def getN (l:List UInt8):Nat:=l.foldl (fun v x=>v*256+x.toNat) 0
theorem getS_nat (v:UInt64) (x:UInt8) (h:v.toNat<72057594037927936):(getS v x).toNat=v.toNat*256+x.toNat:=by
 have hx:=x.toNat_lt
 have e1:(v <<< 8).toNat=v.toNat*256:=by
  rw [UInt64.toNat_shiftLeft,show (8:UInt64).toNat % 64=8 from rfl,Nat.shiftLeft_eq,Nat.mod_eq_of_lt (by omega)]
 unfold getS
 rw [UInt64.toNat_or,e1,UInt8.toNat_toUInt64]
 have:=(Nat.two_pow_add_eq_or_of_lt (i:=8) (show x.toNat<2 ^ 8 by omega) v.toNat).symm
 rw [show v.toNat*256=2 ^ 8*v.toNat by omega,this]
theorem getL_from:∀ (l:List UInt8)(k:Nat) (v:UInt64),v.toNat<256 ^ k→l.length+k≤8→(l.foldl getS v).toNat=l.foldl (fun v x=>v*256+x.toNat) v.toNat
 | [],_,_,_,_=>rfl
 | x :: l,k,v,hv,hl=>by
  simp only [List.length_cons] at hl
  have hx:=x.toNat_lt
  have hk:(256:Nat) ^ k≤256 ^ 7:=Nat.pow_le_pow_right (by omega) (by omega)
  have hs:=getS_nat v x (by have:(256:Nat) ^ 7=72057594037927936:=by decide
                            omega)
  rw [List.foldl_cons,List.foldl_cons,getL_from l (k+1) (getS v x) (by rw [hs,Nat.pow_succ];omega) (by omega),hs]
theorem getL_nat (l:List UInt8)(h:l.length≤8):(getL l).toNat=getN l:=getL_from l 0 0 (by decide) (by omega)
theorem getN_snoc (l:List UInt8)(x:UInt8):getN (l++[x])=getN l*256+x.toNat:=by unfold getN;rw [List.foldl_append];rfl
theorem getN_from:∀ (l:List UInt8)(v:Nat),l.foldl (fun v x=>v*256+x.toNat) v=v*256 ^ l.length+getN l
 | [],v=>by simp [getN]
 | x :: l,v=>by
  have e:getN (x :: l)=(0*256+x.toNat)*256 ^ l.length+getN l:=by
   show (x :: l).foldl _ 0=_
   rw [List.foldl_cons,getN_from l]
  rw [List.foldl_cons,getN_from l,e,List.length_cons,Nat.pow_succ,Nat.add_mul]
  have:v*256*256 ^ l.length=v*(256 ^ l.length*256):=by rw [Nat.mul_assoc,Nat.mul_comm 256]
  rw [this,Nat.zero_mul,Nat.zero_add,Nat.add_assoc]
theorem getN_lt (l:List UInt8):getN l<256 ^ l.length:=by
 induction l with
 | nil=>decide
 | cons x l ih =>
  have hx:=x.toNat_lt
  unfold getN
  rw [List.foldl_cons,getN_from,List.length_cons,Nat.pow_succ]
  have:(0*256+x.toNat)*256 ^ l.length≤255*256 ^ l.length:=Nat.mul_le_mul_right _ (by omega)
  omega
theorem getN_put (n:Nat) (v:UInt64):getN (putL n v)=v.toNat % 256 ^ n:=by
 induction n generalizing v with
 | zero=>simp [putL,getN,Nat.mod_one]
 | succ n ih =>
  rw [putL,getN_snoc,ih,Nat.pow_succ,Nat.mul_comm (256 ^ n) 256,Nat.mod_mul]
  have e:(v >>> 8).toNat=v.toNat / 256:=by rw [UInt64.toNat_shiftRight,Nat.shiftRight_eq_div_pow];rfl
  rw [e,UInt64.toNat_toUInt8];omega
end Go.Oct

/- AES-128 as plain functions on bytes. -/
namespace Go.Aes
def box:List UInt8:=[
 99,124,119,123,242,107,111,197,48,1,103,43,254,215,171,118,
 202,130,201,125,250,89,71,240,173,212,162,175,156,164,114,192,
 183,253,147,38,54,63,247,204,52,165,229,241,113,216,49,21,
 4,199,35,195,24,150,5,154,7,18,128,226,235,39,178,117,
 9,131,44,26,27,110,90,160,82,59,214,179,41,227,47,132,
 83,209,0,237,32,252,177,91,106,203,190,57,74,76,88,207,
 208,239,170,251,67,77,51,133,69,249,2,127,80,60,159,168,
 81,163,64,143,146,157,56,245,188,182,218,33,16,255,243,210,
 205,12,19,236,95,151,68,23,196,167,126,61,100,93,25,115,
 96,129,79,220,34,42,144,136,70,238,184,20,222,94,11,219,
 224,50,58,10,73,6,36,92,194,211,172,98,145,149,228,121,
 231,200,55,109,141,213,78,169,108,86,244,234,101,122,174,8,
 186,120,37,46,28,166,180,198,232,221,116,31,75,189,139,138,
 112,62,181,102,72,3,246,14,97,53,87,185,134,193,29,158,
 225,248,152,17,105,217,142,148,155,30,135,233,206,85,40,223,
 140,161,137,13,191,230,66,104,65,153,45,15,176,84,187,22]
def sub (x:UInt8):UInt8:=box.getD x.toNat 0
def dbl (x:UInt8):UInt8:=if x &&& 128 != 0 then (x <<< 1) ^^^ 27 else x <<< 1
def at' (l:List UInt8)(i:Nat):UInt8:=l.getD i 0
def xorF (l m:List UInt8)(i:Nat):UInt8:=at' l i ^^^ at' m i
def xor16 (l m:List UInt8):List UInt8:=(List.range 16).map (xorF l m)
def repF (l:List UInt8)(i:Nat):UInt8:=sub (at' l ((i+4*(i % 4)) % 16))
def rep (l:List UInt8):List UInt8:=(List.range 16).map (repF l)
def mixF (l:List UInt8)(i:Nat):UInt8 :=
 at' l i ^^^ (at' l (i / 4*4) ^^^ at' l (i / 4*4+1) ^^^ at' l (i / 4*4+2) ^^^ at' l (i / 4*4+3)) ^^^ dbl (at' l i ^^^ at' l (i / 4*4+(i % 4+1) % 4))
def mix (l:List UInt8):List UInt8:=(List.range 16).map (mixF l)
def key (ks:List UInt8)(r:Nat):List UInt8:=(ks.drop (16*r)).take 16
def rounds (ks l:List UInt8):Nat→List UInt8
 | 0=>xor16 l (key ks 0)
 | r+1=>xor16 (if r+1<10 then mix (rep (rounds ks l r)) else rep (rounds ks l r)) (key ks (r+1))
def enc (ks l:List UInt8):List UInt8:=rounds ks l 10
def con:Nat→UInt8
 | 0=>1
 | n+1=>dbl (con n)
def word (ws:List UInt8)(i:Nat):List UInt8 :=
 let t:=(ws.drop (4*i-4)).take 4
 let t:=if i % 4=0 then [sub (at' t 1) ^^^ con (i / 4-1),sub (at' t 2),sub (at' t 3),sub (at' t 0)] else t
 [at' ws (4*i-16) ^^^ at' t 0,at' ws (4*i-15) ^^^ at' t 1,at' ws (4*i-14) ^^^ at' t 2,at' ws (4*i-13) ^^^ at' t 3]
def words (key:List UInt8):Nat→List UInt8
 | 0=>key
 | n+1=>words key n++word (words key n) (n+4)
def expand (key:List UInt8):List UInt8:=words key 40
def block (key l:List UInt8):List UInt8:=enc (expand key) l
theorem at_get (l:List UInt8)(i:Nat) (h:i<l.length):at' l i=l[i]:=by simp [at',h]
theorem rounds_length (ks l:List UInt8)(r:Nat):(rounds ks l r).length=16:=by
 cases r <;> simp [rounds,xor16]
theorem word_length (ws:List UInt8)(i:Nat):(word ws i).length=4:=rfl
theorem words_length (key:List UInt8)(n:Nat) (h:key.length=16):(words key n).length=16+4*n:=by
 induction n with
 | zero=>simpa [words] using h
 | succ n ih=>simp only [words,List.length_append,word_length,ih];omega
theorem key_length (ks:List UInt8)(r:Nat) (h:ks.length=176) (hr:r≤10):(key ks r).length=16:=by
 simp [key,h];omega
theorem mixF0 (l:List UInt8)(c:Nat):mixF l (4*c)=at' l (4*c) ^^^ (at' l (4*c) ^^^ at' l (4*c+1) ^^^ at' l (4*c+2) ^^^ at' l (4*c+3)) ^^^ dbl (at' l (4*c) ^^^ at' l (4*c+1)):=by
 have h1:(4*c) / 4*4=4*c:=by omega
 have h2:((4*c) % 4+1) % 4=1:=by omega
 simp only [mixF,h1,h2]
theorem mixF1 (l:List UInt8)(c:Nat):mixF l (4*c+1)=at' l (4*c+1) ^^^ (at' l (4*c) ^^^ at' l (4*c+1) ^^^ at' l (4*c+2) ^^^ at' l (4*c+3)) ^^^ dbl (at' l (4*c+1) ^^^ at' l (4*c+2)):=by
 have h1:(4*c+1) / 4*4=4*c:=by omega
 have h2:((4*c+1) % 4+1) % 4=2:=by omega
 simp only [mixF,h1,h2]
theorem mixF2 (l:List UInt8)(c:Nat):mixF l (4*c+2)=at' l (4*c+2) ^^^ (at' l (4*c) ^^^ at' l (4*c+1) ^^^ at' l (4*c+2) ^^^ at' l (4*c+3)) ^^^ dbl (at' l (4*c+2) ^^^ at' l (4*c+3)):=by
 have h1:(4*c+2) / 4*4=4*c:=by omega
 have h2:((4*c+2) % 4+1) % 4=3:=by omega
 simp only [mixF,h1,h2]
theorem mixF3 (l:List UInt8)(c:Nat):mixF l (4*c+3)=at' l (4*c+3) ^^^ (at' l (4*c) ^^^ at' l (4*c+1) ^^^ at' l (4*c+2) ^^^ at' l (4*c+3)) ^^^ dbl (at' l (4*c+3) ^^^ at' l (4*c)):=by
 have h1:(4*c+3) / 4*4=4*c:=by omega
 have h2:((4*c+3) % 4+1) % 4=0:=by omega
 simp only [mixF,h1,h2];simp
example:block [0,1,2,3,4,5,6,7,8,9,10,11,12,13,14,15] [0x00,0x11,0x22,0x33,0x44,0x55,0x66,0x77,0x88,0x99,0xaa,0xbb,0xcc,0xdd,0xee,0xff]=[0x69,0xc4,0xe0,0xd8,0x6a,0x7b,0x04,0x30,0xd8,0xcd,0xb7,0x80,0x70,0xb4,0xc5,0x5a]:=by decide +kernel
end Go.Aes

/- The field of AES: products of bytes, and the S-box as the document makes it. No program. -/
namespace Go.Aes
def mulStep (s:UInt8 × UInt8 × UInt8):UInt8 × UInt8 × UInt8:=(if s.2.2 &&& 1 == 1 then s.1 ^^^ s.2.1 else s.1,dbl s.2.1,s.2.2 >>> 1)
def mulSt (x y:UInt8):Nat→UInt8 × UInt8 × UInt8
 | 0=>(0,x,y)
 | k+1=>mulStep (mulSt x y k)
def mul (x y:UInt8):UInt8:=(mulSt x y 8).1
def shrs:Nat→UInt8→UInt8
 | 0,x=>x
 | k+1,x=>shrs k x >>> 1
def tk (y:UInt8) (k:Nat) (x:UInt8):UInt8:=if (shrs k y) &&& 1 == 1 then x else 0
def dbls:Nat→UInt8→UInt8
 | 0,x=>x
 | k+1,x=>dbl (dbls k x)
theorem xor_c (a b:UInt8):a ^^^ b=b ^^^ a:=UInt8.xor_comm a b
theorem xor_lc (a b c:UInt8):a ^^^ (b ^^^ c)=b ^^^ (a ^^^ c):=by rw [← UInt8.xor_assoc,UInt8.xor_comm a b,UInt8.xor_assoc]
theorem xor_s (a b:UInt8):a ^^^ (a ^^^ b)=b:=by rw [← UInt8.xor_assoc,UInt8.xor_self,UInt8.zero_xor]
theorem dbl_eq (x:UInt8):dbl x=(x <<< 1) ^^^ (if x &&& 128 != 0 then 27 else 0):=by unfold dbl;split <;> simp
theorem all8 (p:UInt8→Bool) (h:((List.range 256).all fun n=>p (UInt8.ofNat n))=true) (x:UInt8):p x=true:=by
 rw [List.all_eq_true] at h
 have:=h x.toNat (List.mem_range.2 x.toNat_lt)
 rwa [UInt8.ofNat_toNat] at this
theorem and_xor (a b c:UInt8):(a ^^^ b) &&& c=(a &&& c) ^^^ (b &&& c):=UInt8.toBitVec_inj.1 (by ext i;simp [Bool.and_xor_distrib_right])
theorem high_xor (x y:UInt8):((x ^^^ y) &&& 128 != 0)=((x &&& 128 != 0) ^^ (y &&& 128 != 0)):=by
 rw [and_xor]
 have h:∀ x:UInt8,x &&& 128=0∨x &&& 128=128:=fun x=>by
  have:=all8 (fun x=>x &&& 128 == 0 || x &&& 128 == 128) (by decide +kernel) x
  simpa using this
 rcases h x with h1|h1 <;> rcases h y with h'|h' <;> rw [h1,h'] <;> rfl
theorem dbl_xor (x y:UInt8):dbl (x ^^^ y)=dbl x ^^^ dbl y:=by
 rw [dbl_eq,dbl_eq,dbl_eq,high_xor,UInt8.shiftLeft_xor]
 cases (x &&& 128 != 0) <;> cases (y &&& 128 != 0) <;> simp [UInt8.xor_assoc,xor_c,xor_lc,xor_s]
theorem dbl_zero:dbl 0=0:=rfl
theorem shrs_xor (k:Nat) (x y:UInt8):shrs k (x ^^^ y)=shrs k x ^^^ shrs k y:=by
 induction k with
 | zero=>rfl
 | succ k ih=>simp only [shrs,ih,UInt8.shiftRight_xor]
theorem bit_xor (x y:UInt8) (k:Nat):((shrs k (x ^^^ y)) &&& 1 == 1)=(((shrs k x) &&& 1 == 1) ^^ ((shrs k y) &&& 1 == 1)):=by
 rw [shrs_xor,and_xor]
 have h:∀ x:UInt8,x &&& 1=0∨x &&& 1=1:=fun x=>by
  have:=all8 (fun x=>x &&& 1 == 0 || x &&& 1 == 1) (by decide +kernel) x
  simpa using this
 rcases h (shrs k x) with h1|h1 <;> rcases h (shrs k y) with h'|h' <;> rw [h1,h'] <;> rfl
theorem tk_xor (y:UInt8) (k:Nat) (a b:UInt8):tk y k (a ^^^ b)=tk y k a ^^^ tk y k b:=by unfold tk;split <;> simp
theorem xor_tk (y z:UInt8) (k:Nat) (a:UInt8):tk (y ^^^ z) k a=tk y k a ^^^ tk z k a:=by
 unfold tk;rw [bit_xor]
 cases ((shrs k y) &&& 1 == 1) <;> cases ((shrs k z) &&& 1 == 1) <;> simp
theorem dbls_xor (k:Nat) (a b:UInt8):dbls k (a ^^^ b)=dbls k a ^^^ dbls k b:=by
 induction k with
 | zero=>rfl
 | succ k ih=>simp only [dbls,ih,dbl_xor]
theorem dbls_dbl (k:Nat) (a:UInt8):dbls k (dbl a)=dbl (dbls k a):=by
 induction k with
 | zero=>rfl
 | succ k ih=>simp only [dbls,ih]
def mulSum (x y:UInt8):Nat→UInt8
 | 0=>0
 | k+1=>mulSum x y k ^^^ tk y k (dbls k x)
theorem mulSt_eq (x y:UInt8) (k:Nat):mulSt x y k=(mulSum x y k,dbls k x,shrs k y):=by
 induction k with
 | zero=>rfl
 | succ k ih =>
  simp only [mulSt,ih,mulStep,mulSum,dbls,shrs,tk]
  split <;> simp
theorem mulSum_left (k:Nat) (a b y:UInt8):mulSum (a ^^^ b) y k=mulSum a y k ^^^ mulSum b y k:=by
 induction k with
 | zero=>simp [mulSum,dbl_zero]
 | succ k ih=>simp only [mulSum,ih,dbls_xor,tk_xor];simp only [UInt8.xor_assoc,xor_lc]
theorem mulSum_right (k:Nat) (x a b:UInt8):mulSum x (a ^^^ b) k=mulSum x a k ^^^ mulSum x b k:=by
 induction k with
 | zero=>simp [mulSum,dbl_zero]
 | succ k ih=>simp only [mulSum,ih,xor_tk];simp only [UInt8.xor_assoc,xor_lc]
theorem mul_eq (x y:UInt8):mul x y=mulSum x y 8:=by unfold mul;rw [mulSt_eq]
theorem mul_left (a b y:UInt8):mul (a ^^^ b) y=mul a y ^^^ mul b y:=by simp only [mul_eq,mulSum_left]
theorem mul_right (x a b:UInt8):mul x (a ^^^ b)=mul x a ^^^ mul x b:=by simp only [mul_eq,mulSum_right]
theorem one_mul (x:UInt8):mul 1 x=x:=by
 have:=all8 (fun x=>mul 1 x == x) (by decide +kernel) x
 simpa using this
theorem tk_dbl (y:UInt8) (k:Nat) (x:UInt8):tk y k (dbl x)=dbl (tk y k x):=by unfold tk;split <;> rfl
theorem mulSum_dbl (k:Nat) (x y:UInt8):mulSum (dbl x) y k=dbl (mulSum x y k):=by
 induction k with
 | zero=>simp [mulSum,dbl_zero]
 | succ k ih=>simp only [mulSum,ih,dbls_dbl,tk_dbl,dbl_xor]
theorem mul_dbl (x y:UInt8):mul (dbl x) y=dbl (mul x y):=by simp only [mul_eq,mulSum_dbl]
theorem mul_dbls (k:Nat) (x y:UInt8):mul (dbls k x) y=dbls k (mul x y):=by
 induction k with
 | zero=>rfl
 | succ k ih=>simp only [dbls,mul_dbl,ih]
structure Adds (f:UInt8→UInt8):Prop where
 add:∀ a b,f (a ^^^ b)=f a ^^^ f b
theorem Adds.zero {f:UInt8→UInt8} (h:Adds f):f 0=0:=by
 have:=h.add 0 0
 rw [UInt8.xor_self,UInt8.xor_self] at this
 exact this
theorem Adds.tk {f:UInt8→UInt8} (h:Adds f) (y:UInt8) (k:Nat) (x:UInt8):f (tk y k x)=Aes.tk y k (f x):=by unfold Aes.tk;split <;> simp [h.zero]
theorem Adds.ext {f g:UInt8→UInt8} (hf:Adds f) (hg:Adds g) (h:∀ k,f (dbls k 1)=g (dbls k 1)) (x:UInt8):f x=g x:=by
 rw [← one_mul x,mul_eq]
 generalize 8=n
 induction n with
 | zero=>simp [mulSum,hf.zero,hg.zero]
 | succ n ih=>simp only [mulSum,hf.add,hg.add,ih,hf.tk,hg.tk,h]
theorem adds_l (y:UInt8):Adds (fun x=>mul x y):=⟨fun a b=>mul_left a b y⟩
theorem adds_r (x:UInt8):Adds (mul x):=⟨fun a b=>mul_right x a b⟩
theorem mul_one (x:UInt8):mul x 1=x:=by
 have:=all8 (fun x=>mul x 1 == x) (by decide +kernel) x
 simpa using this
theorem mul_comm (x y:UInt8):mul x y=mul y x:=by
 refine Adds.ext (f:=fun x=>mul x y) (g:=mul y) (adds_l y) (adds_r y) (fun k=>?_) x
 show mul (dbls k 1) y=mul y (dbls k 1)
 rw [mul_dbls,one_mul]
 refine Adds.ext (f:=dbls k) (g:=fun y=>mul y (dbls k 1)) ⟨dbls_xor k⟩ (adds_l _) (fun j=>?_) y
 show dbls k (dbls j 1)=mul (dbls j 1) (dbls k 1)
 rw [mul_dbls,one_mul]
 have:∀ i j (x:UInt8),dbls i (dbls j x)=dbls j (dbls i x):=by
  intro i j x
  induction i with
  | zero=>rfl
  | succ i ih=>simp only [dbls,ih,dbls_dbl]
 exact this k j 1
theorem mul_assoc (x y z:UInt8):mul x (mul y z)=mul (mul x y) z:=by
 refine Adds.ext (f:=fun z=>mul x (mul y z)) (g:=mul (mul x y)) ⟨fun a b=>by simp only [mul_right]⟩ (adds_r _) (fun k=>?_) z
 show mul x (mul y (dbls k 1))=mul (mul x y) (dbls k 1)
 rw [mul_comm y,mul_comm (mul x y),mul_dbls,mul_dbls,one_mul,one_mul,mul_comm,mul_dbls,mul_comm y]
def pw (x:UInt8):Nat→UInt8
 | 0=>1
 | k+1=>mul (pw x k) x
def inv (x:UInt8):UInt8 :=
 let a2:=mul x x
 let a3:=mul a2 x
 let a6:=mul a3 a3
 let a7:=mul a6 x
 let a14:=mul a7 a7
 let a15:=mul a14 x
 let a30:=mul a15 a15
 let a31:=mul a30 x
 let a62:=mul a31 a31
 let a63:=mul a62 x
 let a126:=mul a63 a63
 let a127:=mul a126 x
 mul a127 a127
def lft (x:UInt8) (k:Nat):UInt8:=(x <<< UInt8.ofNat k) ||| (x >>> UInt8.ofNat (8-k))
def aff (y:UInt8):UInt8:=y ^^^ lft y 1 ^^^ lft y 2 ^^^ lft y 3 ^^^ lft y 4 ^^^ 99
def unbox:List UInt8:=(List.range 256).map fun n=>UInt8.ofNat ((box.idxOf? (UInt8.ofNat n)).getD 0)
end Go.Aes

/- AES as a permutation: different blocks have different encryptions. No program. -/
namespace Go.Aes
def mc (a b c d:UInt8):UInt8:=a ^^^ (a ^^^ b ^^^ c ^^^ d) ^^^ dbl (a ^^^ b)
def back (a b c d:UInt8):UInt8:=dbl (dbl (dbl (a ^^^ b ^^^ c ^^^ d))) ^^^ dbl (dbl (a ^^^ c)) ^^^ dbl (a ^^^ b) ^^^ (b ^^^ c ^^^ d)
theorem enc_length (ks l:List UInt8):(enc ks l).length=16:=rounds_length _ _ _
end Go.Aes

/- CMAC and S2V as plain functions on bytes. No program. -/
namespace Go.Aes
def twG (l:List UInt8)(i:Nat):UInt8:=(at' l i <<< 1) ||| (at' l (i+1) >>> 7)
def twF (l:List UInt8)(i:Nat):UInt8:=if i=15 then twG l 15 ^^^ ((at' l 0 >>> 7)*135) else twG l i
def tw (l:List UInt8):List UInt8:=(List.range 16).map (twF l)
theorem tw_length (l:List UInt8):(tw l).length=16:=by simp [tw]
def dn (f:Nat→UInt8) (k:Nat):List UInt8:=List.replicate k 0++((List.range 16).map f).drop k
theorem dn_length (f:Nat→UInt8) (k:Nat) (h:k≤16):(dn f k).length=16:=by simp [dn];omega
theorem dn_full (f:Nat→UInt8):dn f 16=List.replicate 16 0:=by simp [dn]
theorem dn_zero (f:Nat→UInt8):dn f 0=(List.range 16).map f:=by simp [dn]
theorem dn_set (f:Nat→UInt8) (k:Nat) (h:k<16):(dn f (k+1)).set k (f k)=dn f k:=by
 unfold dn
 rw [List.set_append_left _ _ (by simp),List.replicate_succ',List.set_append_right _ _ (by simp),List.append_assoc]
 congr 1
 have h2:k<((List.range 16).map f).length:=by simpa using h
 have e:=List.drop_eq_getElem_cons h2
 rw [e]
 simp
theorem tw_eq (l:List UInt8):((List.range 16).map (twG l)).set 15 (twG l 15 ^^^ ((at' l 0 >>> 7)*135))=tw l:=rfl
def zero16:List UInt8:=List.replicate 16 0
def fill (l:List UInt8):List UInt8:=l++[128]++List.replicate (15-l.length) 0
theorem fill_length (l:List UInt8)(h:l.length<16):(fill l).length=16:=by simp [fill];omega
def cbc (ks b:List UInt8):Nat→List UInt8
 | 0=>zero16
 | k+1=>enc ks (xor16 (cbc ks b k) ((b.drop (16*k)).take 16))
theorem cbc_length (ks b:List UInt8)(k:Nat):(cbc ks b k).length=16:=by
 cases k with
 | zero=>simp [cbc,zero16]
 | succ k=>exact enc_length _ _
def last2 (whole part r:List UInt8):List UInt8 × List UInt8:=if r.length=16 then (r,whole) else (fill r,part)
def macW (ks whole part b:List UInt8):List UInt8 :=
 let n:=(b.length-1) / 16
 let x:=last2 whole part (b.drop (16*n))
 enc ks (xor16 (xor16 (cbc ks b n) x.1) x.2)
theorem macW_length (ks whole part b:List UInt8):(macW ks whole part b).length=16:=enc_length _ _
def sub1 (ks:List UInt8):List UInt8:=tw (enc ks zero16)
def sub2 (ks:List UInt8):List UInt8:=tw (sub1 ks)
def mac (ks b:List UInt8):List UInt8:=macW ks (sub1 ks) (sub2 ks) b
theorem mac_length (ks b:List UInt8):(mac ks b).length=16:=macW_length _ _ _ _
def cmac (key b:List UInt8):List UInt8:=mac (expand key) b
/- RFC 4493, examples 1 and 2 -/
def ck:List UInt8:=[0x2b,0x7e,0x15,0x16,0x28,0xae,0xd2,0xa6,0xab,0xf7,0x15,0x88,0x09,0xcf,0x4f,0x3c]
def cm:List UInt8:=[0x6b,0xc1,0xbe,0xe2,0x2e,0x40,0x9f,0x96,0xe9,0x3d,0x7e,0x11,0x73,0x93,0x17,0x2a]
def co1:List UInt8:=[0xbb,0x1d,0x69,0x29,0xe9,0x59,0x37,0x28,0x7f,0xa3,0x7d,0x12,0x9b,0x75,0x67,0x46]
def co2:List UInt8:=[0x07,0x0a,0x16,0xb4,0x6b,0x4d,0x41,0x44,0xf7,0x9b,0xdd,0x9d,0xd0,0x4a,0x28,0x7c]
end Go.Aes

/- CMAC: messages of one block, and Double as a linear function. No program. -/
namespace Go.Aes
end Go.Aes

/- S2V as a plain function. No program. -/
namespace Go.Aes
def one16:List UInt8:=List.replicate 15 0++[1]
def s2vD (ks:List UInt8)(L:List (List UInt8)):List UInt8:=L.foldl (fun d b=>xor16 (tw d) (mac ks b)) (mac ks zero16)
def s2vEnd (d s:List UInt8):List UInt8:=if 16≤s.length then s.take (s.length-16)++xor16 (s.drop (s.length-16)) d else xor16 (tw d) (fill s)
def s2vK (ks:List UInt8)(L:List (List UInt8)):List UInt8:=mac ks (if L=[] then one16 else s2vEnd (s2vD ks (L.take (L.length-1))) (L.getD (L.length-1) []))
def s2v (key:List UInt8)(L:List (List UInt8)):List UInt8:=s2vK (expand key) L
theorem s2vD_length (ks:List UInt8)(L:List (List UInt8)):(s2vD ks L).length=16:=by
 unfold s2vD
 rcases List.eq_nil_or_concat L with h|⟨I,b,h⟩
 ·subst h;exact mac_length _ _
 ·subst h;simp [List.foldl_append,xor16]
theorem s2vD_zero (ks:List UInt8)(L:List (List UInt8)):s2vD ks (L.take 0)=mac ks zero16:=rfl
theorem s2vD_succ (ks:List UInt8)(L:List (List UInt8)) (i:Nat) (h:i<L.length):s2vD ks (L.take (i+1))=xor16 (tw (s2vD ks (L.take i))) (mac ks (L[i]'h)):=by
 unfold s2vD
 rw [List.take_succ_eq_append_getElem h,List.foldl_append]
 rfl
theorem s2vK_length (ks:List UInt8)(L:List (List UInt8)):(s2vK ks L).length=16:=mac_length _ _
theorem s2v_length (key:List UInt8)(L:List (List UInt8)):(s2v key L).length=16:=mac_length _ _
theorem s2vK_nil (ks:List UInt8):s2vK ks []=mac ks one16:=rfl
theorem s2vK_last (ks:List UInt8)(L:List (List UInt8)) (m:Nat) (h:L.length=m+1):s2vK ks L=mac ks (s2vEnd (s2vD ks (L.take m)) (L[m]'(by omega))):=by
 unfold s2vK
 have e:L.length-1=m:=by omega
 rw [if_neg (by rintro rfl;simp at h),e]
 congr 2
 rw [List.getD_eq_getElem?_getD,List.getElem?_eq_getElem (by omega),Option.getD_some]
end Go.Aes

/- SHA-256 as plain functions. No program. -/
namespace Go.Sha
def ks:List UInt32:=[
 0x428a2f98,0x71374491,0xb5c0fbcf,0xe9b5dba5,0x3956c25b,0x59f111f1,0x923f82a4,0xab1c5ed5,
 0xd807aa98,0x12835b01,0x243185be,0x550c7dc3,0x72be5d74,0x80deb1fe,0x9bdc06a7,0xc19bf174,
 0xe49b69c1,0xefbe4786,0x0fc19dc6,0x240ca1cc,0x2de92c6f,0x4a7484aa,0x5cb0a9dc,0x76f988da,
 0x983e5152,0xa831c66d,0xb00327c8,0xbf597fc7,0xc6e00bf3,0xd5a79147,0x06ca6351,0x14292967,
 0x27b70a85,0x2e1b2138,0x4d2c6dfc,0x53380d13,0x650a7354,0x766a0abb,0x81c2c92e,0x92722c85,
 0xa2bfe8a1,0xa81a664b,0xc24b8b70,0xc76c51a3,0xd192e819,0xd6990624,0xf40e3585,0x106aa070,
 0x19a4c116,0x1e376c08,0x2748774c,0x34b0bcb5,0x391c0cb3,0x4ed8aa4a,0x5b9cca4f,0x682e6ff3,
 0x748f82ee,0x78a5636f,0x84c87814,0x8cc70208,0x90befffa,0xa4506ceb,0xbef9a3f7,0xc67178f2]
def h0:List UInt32:=[0x6a09e667,0xbb67ae85,0x3c6ef372,0xa54ff53a,0x510e527f,0x9b05688c,0x1f83d9ab,0x5be0cd19]
def turn (x:UInt32) (n:Nat):UInt32:=(x >>> UInt32.ofNat n) ||| (x <<< UInt32.ofNat (32-n))
def b' (l:List UInt8)(i:Nat):UInt8:=l.getD i 0
def w' (l:List UInt32) (i:Nat):UInt32:=l.getD i 0
def inW (b:List UInt8)(t:Nat):UInt32:=(b' b (4*t)).toUInt32 <<< 24 ||| (b' b (4*t+1)).toUInt32 <<< 16 ||| (b' b (4*t+2)).toUInt32 <<< 8 ||| (b' b (4*t+3)).toUInt32
def s0 (x:UInt32):UInt32:=turn x 7 ^^^ turn x 18 ^^^ (x >>> 3)
def s1 (y:UInt32):UInt32:=turn y 17 ^^^ turn y 19 ^^^ (y >>> 10)
def nextW (l:List UInt32) (t:Nat):UInt32:=s1 (w' l (t-2))+w' l (t-7)+s0 (w' l (t-15))+w' l (t-16)
def sched (b:List UInt8):Nat→List UInt32
 | 0=>(List.range 16).map (inW b)
 | n+1=>sched b n++[nextW (sched b n) (n+16)]
def t1 (v:List UInt32) (k w:UInt32):UInt32:=w' v 7+(turn (w' v 4) 6 ^^^ turn (w' v 4) 11 ^^^ turn (w' v 4) 25)+((w' v 4 &&& w' v 5) ^^^ (~~~ w' v 4 &&& w' v 6))+k+w
def t2 (v:List UInt32):UInt32:=(turn (w' v 0) 2 ^^^ turn (w' v 0) 13 ^^^ turn (w' v 0) 22)+((w' v 0 &&& w' v 1) ^^^ (w' v 0 &&& w' v 2) ^^^ (w' v 1 &&& w' v 2))
def round (W:List UInt32) (v:List UInt32) (t:Nat):List UInt32 :=
 [t1 v (w' ks t) (w' W t)+t2 v,w' v 0,w' v 1,w' v 2,w' v 3+t1 v (w' ks t) (w' W t),w' v 4,w' v 5,w' v 6]
def rounds (W v:List UInt32):Nat→List UInt32
 | 0=>v
 | t+1=>round W (rounds W v t) t
def block (h:List UInt32) (b:List UInt8):List UInt32:=(List.range 8).map fun i=>w' h i+w' (rounds (sched b 48) h 64) i
def blocks (h:List UInt32) (b:List UInt8):Nat→List UInt32
 | 0=>h
 | n+1=>block (blocks h b n) ((b.drop (64*n)).take 64)
def put4 (x:UInt32):List UInt8:=[(x >>> 24).toUInt8,(x >>> 16).toUInt8,(x >>> 8).toUInt8,x.toUInt8]
def put8 (n:Nat):List UInt8:=(List.range 8).map fun i=>UInt8.ofNat (n / 256 ^ (7-i))
def tail (rest:List UInt8)(count:Nat):List UInt8 :=
 let b:=rest++[128]
 b++List.replicate ((120-b.length % 64) % 64) 0++put8 (count*8)
def out (h:List UInt32):List UInt8:=((List.range 8).map fun i=>put4 (w' h i)).flatten
def finish (h:List UInt32) (rest:List UInt8)(count:Nat):List UInt8:=out (blocks h (tail rest count) ((tail rest count).length / 64))
def sum (b:List UInt8):List UInt8:=finish (blocks h0 b (b.length / 64)) (b.drop (b.length / 64*64)) b.length
/- "abc" -/
example:sum [97,98,99]=[0xba,0x78,0x16,0xbf,0x8f,0x01,0xcf,0xea,0x41,0x41,0x40,0xde,0x5d,0xae,0x22,0x23,0xb0,0x03,0x61,0xa3,0x96,0x17,0x7a,0x9c,0xb4,0x10,0xff,0x61,0xf2,0x00,0x15,0xad]:=by decide +kernel
end Go.Sha

/- SHA-256 of bytes, as plain functions. No program. -/
namespace Go.Sha
open Go.Oct
def tailN (n:Nat):Nat:=(120-(n+1) % 64) % 64
def tailB (rest:List UInt8)(count:Nat):List UInt8:=rest++[128]++List.replicate (tailN rest.length) 0++putL 8 (UInt64.ofNat (count*8))
def outTo (h:List UInt32) (k:Nat):List UInt8:=((List.range k).map fun i=>putL 4 (w' h i).toUInt64).flatten
def outB (h:List UInt32):List UInt8:=outTo h 8
def fin (h:List UInt32) (rest:List UInt8)(count:Nat):List UInt8:=outB (blocks h (tailB rest count) ((tailB rest count).length / 64))
def sha (b:List UInt8):List UInt8:=fin (blocks h0 b (b.length / 64)) (b.drop (b.length / 64*64)) b.length
theorem tailN_lt (n:Nat):tailN n<64:=Nat.mod_lt _ (by omega)
theorem tail_stop (n:Nat):(n+1+tailN n) % 64=56:=by unfold tailN;omega
theorem tail_go (n m:Nat) (h:m<tailN n):(n+1+m) % 64≠56:=by unfold tailN at h;omega
theorem tailB_length (rest:List UInt8)(count:Nat):(tailB rest count).length=rest.length+1+tailN rest.length+8:=by simp [tailB,putL_length];omega
theorem outTo_succ (h:List UInt32) (k:Nat):outTo h (k+1)=outTo h k++putL 4 (w' h k).toUInt64:=by
 simp [outTo,List.range_succ]
theorem outTo_length (h:List UInt32) (k:Nat):(outTo h k).length=4*k:=by
 induction k with
 | zero=>rfl
 | succ k ih=>rw [outTo_succ,List.length_append,ih,putL_length];omega
theorem fin_length (h:List UInt32) (rest:List UInt8)(count:Nat):(fin h rest count).length=32:=outTo_length _ 8
theorem sha_length (b:List UInt8):(sha b).length=32:=fin_length _ _ _
def wbF (s i:Nat):List UInt8:=sha (putL 8 (UInt64.ofNat s)++putL 4 (UInt64.ofNat i))
def wbTo (s k:Nat):List UInt8:=((List.range k).map (wbF s)).flatten
def wbytes (s n:Nat):List UInt8:=(wbTo s ((n+31) / 32)).take n
theorem wbTo_succ (s k:Nat):wbTo s (k+1)=wbTo s k++wbF s k:=by simp [wbTo,List.range_succ]
theorem wbTo_length (s k:Nat):(wbTo s k).length=32*k:=by
 induction k with
 | zero=>rfl
 | succ k ih=>rw [wbTo_succ,List.length_append,ih,wbF,sha_length];omega
theorem wbytes_length (s n:Nat):(wbytes s n).length=n:=by
 unfold wbytes;rw [List.length_take,wbTo_length];omega
/- "abc" -/
example:sha [97,98,99]=[0xba,0x78,0x16,0xbf,0x8f,0x01,0xcf,0xea,0x41,0x41,0x40,0xde,0x5d,0xae,0x22,0x23,0xb0,0x03,0x61,0xa3,0x96,0x17,0x7a,0x9c,0xb4,0x10,0xff,0x61,0xf2,0x00,0x15,0xad]:=by decide +kernel
end Go.Sha

/- The tables of the reference's prepared key. No program. -/
namespace Go.Aes
def boxSt:Nat→UInt8 × UInt8 × List UInt8
 | 0=>(1,1,(List.replicate 256 0).set 0 99)
 | k+1=>(mul (boxSt k).1 3,mul (boxSt k).2.1 246,(boxSt k).2.2.set (boxSt k).1.toNat (aff (boxSt k).2.1))
theorem boxSt_end:(boxSt 255).2.2=box:=by decide +kernel
theorem boxSt_length (k:Nat):(boxSt k).2.2.length=256:=by
 induction k with
 | zero=>show ((List.replicate 256 (0:UInt8)).set 0 99).length=256;rw [List.length_set,List.length_replicate]
 | succ k ih=>rw [boxSt,List.length_set];exact ih
theorem box_length:box.length=256:=by decide +kernel
def twt:List UInt8:=(List.range 256).map fun n=>dbl (UInt8.ofNat n)
theorem twt_length:twt.length=256:=by simp [twt]
theorem mul_two (x:UInt8):mul x 2=dbl x:=by
 have:=all8 (fun x=>mul x 2 == dbl x) (by decide +kernel) x
 simpa using this
theorem at_box (x:UInt8):at' box x.toNat=sub x:=rfl
theorem at_twt (x:UInt8):at' twt x.toNat=dbl x:=by
 rw [at_get _ _ (by rw [twt_length];exact x.toNat_lt)]
 simp [twt]
theorem mixF_ref (l:List UInt8)(c r:Nat) (hr:r<4):mixF l (r+4*c) =
  dbl (at' l (4*c+r)) ^^^ dbl (at' l (4*c+(r+1) % 4)) ^^^ at' l (4*c+(r+1) % 4) ^^^ at' l (4*c+(r+2) % 4) ^^^ at' l (4*c+(r+3) % 4):=by
 have h:r=0∨r=1∨r=2∨r=3:=by omega
 rw [Nat.add_comm r]
 rcases h with rfl|rfl|rfl|rfl
 ·show mixF l (4*c)=_
  rw [mixF0,dbl_xor]
  simp only [Nat.reduceMod,Nat.reduceAdd,Nat.add_zero]
  generalize at' l (4*c)=a,at' l (4*c+1)=b,at' l (4*c+2)=d,at' l (4*c+3)=e
  simp only [UInt8.xor_assoc,xor_c,xor_lc,xor_s]
 ·rw [mixF1,dbl_xor]
  simp only [Nat.reduceMod,Nat.reduceAdd,Nat.add_zero]
  generalize at' l (4*c)=a,at' l (4*c+1)=b,at' l (4*c+2)=d,at' l (4*c+3)=e
  simp only [UInt8.xor_assoc,xor_c,xor_lc,xor_s]
 ·rw [mixF2,dbl_xor]
  simp only [Nat.reduceMod,Nat.reduceAdd,Nat.add_zero]
  generalize at' l (4*c)=a,at' l (4*c+1)=b,at' l (4*c+2)=d,at' l (4*c+3)=e
  simp only [UInt8.xor_assoc,xor_c,xor_lc,xor_s]
 ·rw [mixF3,dbl_xor]
  simp only [Nat.reduceMod,Nat.reduceAdd,Nat.add_zero]
  generalize at' l (4*c)=a,at' l (4*c+1)=b,at' l (4*c+2)=d,at' l (4*c+3)=e
  simp only [UInt8.xor_assoc,xor_c,xor_lc,xor_s]
end Go.Aes

/- The cells of the reference's prepared key. No program. -/
namespace Go.Aes
def tw0 (k:Nat):List UInt8:=List.replicate 176 0++(box++(twt.take k++List.replicate (256-k) 0))
def pre (ws:List UInt8):List UInt8:=ws++(List.replicate (176-ws.length) 0++(box++twt))
theorem tw0_length (k:Nat) (h:k≤256):(tw0 k).length=688:=by
 simp only [tw0,List.length_append,List.length_replicate,box_length,List.length_take,twt_length];omega
theorem pre_length (ws:List UInt8)(h:ws.length≤176):(pre ws).length=688:=by
 simp only [pre,List.length_append,List.length_replicate,box_length,twt_length];omega
theorem set_mid {α:Type} (A B:List α) (n:Nat) (z v:α) (i:Nat) (hi:i=A.length):(A++(List.replicate (n+1) z++B)).set i v=(A++[v])++(List.replicate n z++B):=by
 subst hi
 rw [List.set_append_right _ _ (Nat.le_refl _),Nat.sub_self,List.replicate_succ,q6q,q2q]
 simp
theorem tw0_set (k:Nat) (h:k<256):(tw0 k).set (432+k) (dbl (UInt8.ofNat k))=tw0 (k+1):=by
 have e1:tw0 k=(List.replicate 176 0++(box++twt.take k))++(List.replicate ((255-k)+1) 0++[]):=by
  simp only [tw0,List.append_assoc,List.append_nil]
  rw [show 256-k=255-k+1 by omega]
 have hl:(List.replicate 176 (0:UInt8)++(box++twt.take k)).length=432+k:=by
  simp only [List.length_append,List.length_replicate,box_length,List.length_take,twt_length];omega
 rw [e1,set_mid _ _ _ _ _ _ hl.symm]
 have e2:twt.take (k+1)=twt.take k++[dbl (UInt8.ofNat k)]:=by
  rw [List.take_add_one]
  congr 1
  rw [List.getElem?_eq_getElem (by rw [twt_length];exact h)]
  simp [twt]
 simp only [tw0,e2,List.append_assoc,List.append_nil]
 rw [show 256-(k+1)=255-k by omega]
theorem tw0_all:tw0 256=pre []:=by
 simp only [tw0,pre,List.length_nil,Nat.sub_self,List.replicate_zero,List.append_nil,q5q,Nat.sub_zero]
 rw [List.take_of_length_le (by rw [twt_length];exact Nat.le_refl _)]
theorem pre_key (ky:List UInt8)(h:ky.length=16):ky++(pre []).drop 16=pre ky:=by
 simp only [pre,h,List.length_nil,q5q]
 rw [List.drop_append_of_le_length (by rw [List.length_replicate];omega),List.drop_replicate]
theorem pre_set (ws:List UInt8)(v:UInt8) (i:Nat) (hi:i=ws.length) (h:ws.length<176):(pre ws).set i v=pre (ws++[v]):=by
 unfold pre
 rw [show 176-ws.length=(175-ws.length)+1 by omega,set_mid _ _ _ _ _ _ hi]
 rw [List.length_append,show 176-(ws.length+[v].length)=175-ws.length by simp]
theorem pre_at (ws:List UInt8)(j:Nat) (h:j<ws.length):(pre ws)[j]?=some (at' ws j):=by
 unfold pre
 rw [List.getElem?_append_left h,List.getElem?_eq_getElem h,at_get _ _ h]
theorem pre_box (ws:List UInt8)(h:ws.length≤176) (x:UInt8):(pre ws)[176+x.toNat]?=some (sub x):=by
 have hx:=x.toNat_lt
 have hl:(ws++List.replicate (176-ws.length) (0:UInt8)).length=176:=by simp;omega
 unfold pre
 rw [← List.append_assoc,List.getElem?_append_right (by omega),hl,Nat.add_sub_cancel_left,List.getElem?_append_left (by rw [box_length];exact hx),← at_box,List.getElem?_eq_getElem (by rw [box_length];exact hx),at_get]
theorem pre_twt (ws:List UInt8)(h:ws.length≤176) (x:UInt8):(pre ws)[432+x.toNat]?=some (dbl x):=by
 have hx:=x.toNat_lt
 have hl:((ws++List.replicate (176-ws.length) (0:UInt8))++box).length=432:=by simp [box_length];omega
 unfold pre
 rw [← List.append_assoc,← List.append_assoc,List.getElem?_append_right (by omega),hl,Nat.add_sub_cancel_left,← at_twt,List.getElem?_eq_getElem (by rw [twt_length];exact hx),at_get]
end Go.Aes

/- The reference's rounds as the rounds of AES. No program. -/
namespace Go.Aes
theorem at_map16 (f:Nat→UInt8) (i:Nat) (h:i<16):at' ((List.range 16).map f) i=f i:=by
 rw [at_get _ _ (by simpa using h)];simp
theorem at_key (ks:List UInt8)(r i:Nat) (hks:ks.length=176) (hr:r≤10) (hi:i<16):at' (key ks r) i=at' ks (16*r+i):=by
 have hl:=key_length ks r hks hr
 rw [at_get _ _ (by omega),at_get _ _ (by omega)]
 simp [key]
def fst' (ks l:List UInt8)(i:Nat):UInt8:=at' l i ^^^ at' ks i
def nxt' (ks t:List UInt8)(r i:Nat):UInt8:=(if r<10 then mixF t i else at' t i) ^^^ at' ks (16*r+i)
theorem fst_eq (ks l:List UInt8)(hks:ks.length=176):(List.range 16).map (fst' ks l)=rounds ks l 0:=by
 unfold rounds xor16
 apply List.map_congr_left
 intro i hi
 have:=List.mem_range.1 hi
 unfold fst' xorF
 rw [at_key ks 0 i hks (by omega) this]
 simp
theorem nxt_eq (ks l:List UInt8)(hks:ks.length=176) (r:Nat) (hr:r+1≤10):(List.range 16).map (nxt' ks (rep (rounds ks l r)) (r+1))=rounds ks l (r+1):=by
 rw [rounds]
 unfold xor16
 apply List.map_congr_left
 intro i hi
 have hi:=List.mem_range.1 hi
 unfold nxt' xorF
 rw [at_key ks (r+1) i hks hr hi]
 split
 ·rw [mix,at_map16 _ _ hi]
 ·rfl
end Go.Aes

/- SHA-256 of many small messages at once, in one number with a lane of 64 bits for each. No program. -/
namespace Go.Lane
open Go.Sha Go.Oct
def packN:Nat→(Nat→Nat)→Nat
 | 0,_=>0
 | n+1,f=>2 ^ 64*packN n (fun k=>f (k+1))+f 0
def pack (n:Nat) (f:Nat→UInt32):Nat:=packN n fun k=>(f k).toNat
def ones (n:Nat):Nat:=(2 ^ (64*n)-1) / (2 ^ 64-1)
def mask (n:Nat):Nat:=ones n*(2 ^ 32-1)
def iota (n a:Nat):Nat:=((a+n)*2 ^ (64*n)+1-2 ^ (64*n)-ones n-a) / (2 ^ 64-1)
theorem packN_congr {f g:Nat→Nat}:∀ {n:Nat},(∀ k,k<n→f k=g k)→packN n f=packN n g:=by
 intro n
 induction n generalizing f g with
 | zero=>intro _;rfl
 | succ n ih =>
  intro h
  rw [packN,packN,ih (f:=fun k=>f (k+1)) (g:=fun k=>g (k+1)) (fun k hk=>h (k+1) (by omega)),h 0 (by omega)]
theorem packN_add (n:Nat):∀ f g:Nat→Nat,packN n f+packN n g=packN n fun k=>f k+g k:=by
 induction n with
 | zero=>intro f g;rfl
 | succ n ih =>
  intro f g
  have:=ih (fun k=>f (k+1)) (fun k=>g (k+1))
  simp only [packN]
  omega
theorem packN_mul (n c:Nat):∀ f:Nat→Nat,packN n f*c=packN n fun k=>f k*c:=by
 induction n with
 | zero=>intro f;simp [packN]
 | succ n ih =>
  intro f
  have:=ih (fun k=>f (k+1))
  simp only [packN]
  rw [← this,Nat.add_mul,Nat.mul_assoc]
theorem pow64_succ (n:Nat):2 ^ (64*(n+1))=2 ^ 64*2 ^ (64*n):=by rw [Nat.mul_add,Nat.mul_one,Nat.pow_add,Nat.mul_comm]
theorem ones_eq (n:Nat):ones n=packN n fun _=>1:=by
 have h:∀ n,packN n (fun _=>1)*(2 ^ 64-1)+1=2 ^ (64*n):=by
  intro n
  induction n with
  | zero=>rfl
  | succ n ih =>
   rw [packN,pow64_succ,← ih]
   have hB:(2:Nat) ^ 64=(2 ^ 64-1)+1:=by decide
   generalize (2:Nat) ^ 64-1=C at hB ⊢
   generalize (2:Nat) ^ 64=B at hB ⊢
   rw [Nat.add_mul,Nat.one_mul,Nat.mul_assoc,Nat.add_assoc,← hB,Nat.mul_add,Nat.mul_one]
 have:=h n
 unfold ones
 rw [← this,Nat.add_sub_cancel,Nat.mul_div_cancel _ (by omega)]
theorem iota_eq (n a:Nat):iota n a=packN n fun k=>k+a:=by
 have h:∀ n a,packN n (fun k=>k+a)*(2 ^ 64-1)+packN n (fun _=>1)+a+2 ^ (64*n)=(a+n)*2 ^ (64*n)+1:=by
  intro n
  induction n with
  | zero=>intro a;simp [packN]
  | succ n ih =>
   intro a
   have ih:=ih (a+1)
   have e:(fun k=>k+(a+1))=fun k=>k+1+a:=by funext k;omega
   rw [e] at ih
   rw [packN,packN,pow64_succ]
   generalize packN n (fun k=>k+1+a)=P at ih ⊢
   generalize packN n (fun _=>1)=O at ih ⊢
   generalize 2 ^ (64*n)=T at ih ⊢
   have hB:(2:Nat) ^ 64=(2 ^ 64-1)+1:=by decide
   generalize (2:Nat) ^ 64-1=C at hB ih ⊢
   generalize (2:Nat) ^ 64=B at hB ⊢
   have e1:(a+1+n)*T=a*T+T+n*T:=by rw [Nat.add_mul,Nat.add_mul,Nat.one_mul]
   have e2:(a+(n+1))*(B*T)=B*(a*T+T+n*T):=by rw [← e1,Nat.mul_left_comm];congr 2;omega
   rw [e1] at ih
   rw [e2]
   have e3:a*T+T+n*T=P*C+O+T+a:=by omega
   have e4:(B*P+a)*C=B*(P*C)+a*C:=by rw [Nat.add_mul,Nat.mul_assoc]
   have e5:B*a=a*C+a:=by rw [hB,Nat.add_mul,Nat.one_mul,Nat.mul_comm]
   rw [e3,Nat.zero_add,e4]
   simp only [Nat.mul_add]
   omega
 have:=h n a
 unfold iota
 rw [ones_eq,← this]
 have e:packN n (fun k=>k+a)*(2 ^ 64-1)+packN n (fun _=>1)+a+2 ^ (64*n)-2 ^ (64*n)-packN n (fun _=>1)-a=packN n (fun k=>k+a)*(2 ^ 64-1):=by omega
 rw [e,Nat.mul_div_cancel _ (by omega)]
theorem ones_mul (n c:Nat):ones n*c=packN n fun _=>c:=by rw [ones_eq,packN_mul];simp
theorem mask_eq (n:Nat):mask n=packN n fun _=>2 ^ 32-1:=ones_mul n _
theorem split_and {x y:Nat} (hx:x<2 ^ 64) (hy:y<2 ^ 64) (a b:Nat):(2 ^ 64*a+x) &&& (2 ^ 64*b+y)=2 ^ 64*(a &&& b)+(x &&& y):=by
 apply Nat.eq_of_testBit_eq
 intro i
 have hxy:x &&& y<2 ^ 64:=Nat.and_lt_two_pow _ hy
 rw [Nat.testBit_and,Nat.testBit_two_pow_mul_add _ hx,Nat.testBit_two_pow_mul_add _ hy,Nat.testBit_two_pow_mul_add _ hxy]
 split <;> simp [Nat.testBit_and]
theorem split_xor {x y:Nat} (hx:x<2 ^ 64) (hy:y<2 ^ 64) (a b:Nat):(2 ^ 64*a+x) ^^^ (2 ^ 64*b+y)=2 ^ 64*(a ^^^ b)+(x ^^^ y):=by
 apply Nat.eq_of_testBit_eq
 intro i
 have hxy:x ^^^ y<2 ^ 64:=Nat.xor_lt_two_pow hx hy
 rw [Nat.testBit_xor,Nat.testBit_two_pow_mul_add _ hx,Nat.testBit_two_pow_mul_add _ hy,Nat.testBit_two_pow_mul_add _ hxy]
 split <;> simp [Nat.testBit_xor]
theorem packN_and (n:Nat):∀ f g:Nat→Nat,(∀ k,f k<2 ^ 64)→(∀ k,g k<2 ^ 64)→packN n f &&& packN n g=packN n fun k=>f k &&& g k:=by
 induction n with
 | zero=>intro f g _ _;simp [packN]
 | succ n ih =>
  intro f g hf hg
  simp only [packN]
  rw [split_and (hf 0) (hg 0),ih _ _ (fun k=>hf (k+1)) (fun k=>hg (k+1))]
theorem packN_xor (n:Nat):∀ f g:Nat→Nat,(∀ k,f k<2 ^ 64)→(∀ k,g k<2 ^ 64)→packN n f ^^^ packN n g=packN n fun k=>f k ^^^ g k:=by
 induction n with
 | zero=>intro f g _ _;simp [packN]
 | succ n ih =>
  intro f g hf hg
  simp only [packN]
  rw [split_xor (hf 0) (hg 0),ih _ _ (fun k=>hf (k+1)) (fun k=>hg (k+1))]
theorem and_mask32 (x:Nat):x &&& (2 ^ 32-1)=x % 2 ^ 32:=Nat.and_two_pow_sub_one_eq_mod x 32
theorem packN_low (n:Nat) (f:Nat→Nat) (hf:∀ k,f k<2 ^ 64):packN n f &&& mask n=packN n fun k=>f k % 2 ^ 32:=by
 rw [mask_eq]
 rw [packN_and n f _ hf (fun _=>by decide)]
 simp only [and_mask32]
theorem packN_shr (n r:Nat) (hr:r≤32):∀ f:Nat→Nat,(∀ k,f k<2 ^ 64)→(packN n f >>> r) &&& mask n=packN n fun k=>f k / 2 ^ r % 2 ^ 32:=by
 have e64:(2:Nat) ^ 64=2 ^ r*2 ^ (64-r):=by rw [← Nat.pow_add];congr 1;omega
 have e32:(2:Nat) ^ (64-r)=2 ^ 32*2 ^ (32-r):=by rw [← Nat.pow_add];congr 1;omega
 have hp:0<(2:Nat) ^ r:=Nat.pow_pos (by omega)
 rw [mask_eq]
 induction n with
 | zero=>intro f _;simp [packN]
 | succ n ih =>
  intro f hf
  have ih:=ih (fun k=>f (k+1)) (fun k=>hf (k+1))
  rw [Nat.shiftRight_eq_div_pow] at ih ⊢
  simp only [packN]
  have h0:=hf 0
  generalize packN n (fun k=>f (k+1))=P at ih ⊢
  generalize hx:f 0=x at h0 ⊢
  have e1:(2 ^ 64*P+x) / 2 ^ r=2 ^ (64-r)*P+x / 2 ^ r:=by
   rw [e64,Nat.mul_assoc,Nat.mul_add_div hp]
  have hy0:x / 2 ^ r<2 ^ (64-r):=by
   rw [Nat.div_lt_iff_lt_mul hp,Nat.mul_comm,← e64];exact h0
  have e2:2 ^ (64-r)*P+x / 2 ^ r=2 ^ 64*(P / 2 ^ r)+(2 ^ (64-r)*(P % 2 ^ r)+x / 2 ^ r):=by
   have h:=Nat.div_add_mod P (2 ^ r)
   calc 2 ^ (64-r)*P+x / 2 ^ r=2 ^ (64-r)*(2 ^ r*(P / 2 ^ r)+P % 2 ^ r)+x / 2 ^ r:=by rw [h]
    _=_:=by rw [Nat.mul_add,← Nat.mul_assoc,Nat.mul_comm (2 ^ (64-r)) (2 ^ r),← e64,Nat.add_assoc]
  have hy:2 ^ (64-r)*(P % 2 ^ r)+x / 2 ^ r<2 ^ 64:=by
   have h1:P % 2 ^ r+1≤2 ^ r:=Nat.mod_lt _ hp
   have h2:=Nat.mul_le_mul_left (2 ^ (64-r)) h1
   rw [Nat.mul_add,Nat.mul_one,Nat.mul_comm _ (2 ^ r),← e64] at h2
   omega
  have e3:(2 ^ (64-r)*(P % 2 ^ r)+x / 2 ^ r) % 2 ^ 32=x / 2 ^ r % 2 ^ 32:=by
   rw [e32,Nat.mul_assoc,Nat.mul_add_mod]
  rw [e1,e2,split_and hy (by decide),ih,and_mask32,e3]
variable {n:Nat}
theorem lt64 (x:UInt32):x.toNat<2 ^ 64:=Nat.lt_of_lt_of_le x.toNat_lt (by decide)
theorem pack_xor (f g:Nat→UInt32):pack n f ^^^ pack n g=pack n fun k=>f k ^^^ g k:=by
 unfold pack
 rw [packN_xor n _ _ (fun k=>lt64 _) (fun k=>lt64 _)]
 simp only [UInt32.toNat_xor]
theorem pack_and (f g:Nat→UInt32):pack n f &&& pack n g=pack n fun k=>f k &&& g k:=by
 unfold pack
 rw [packN_and n _ _ (fun k=>lt64 _) (fun k=>lt64 _)]
 simp only [UInt32.toNat_and]
theorem pack_add (f g:Nat→UInt32):(pack n f+pack n g) &&& mask n=pack n fun k=>f k+g k:=by
 unfold pack
 rw [packN_add,packN_low n _ (fun k=>by have:=(f k).toNat_lt;have:=(g k).toNat_lt;omega)]
 simp only [UInt32.toNat_add]
theorem pack_not (f:Nat→UInt32):mask n-pack n f=pack n fun k => ~~~ f k:=by
 have h:pack n (fun k => ~~~ f k)+pack n f=mask n:=by
  rw [mask_eq]
  unfold pack
  rw [packN_add]
  apply packN_congr
  intro k _
  rw [UInt32.toNat_not]
  have:=(f k).toNat_lt
  simp only [UInt32.size]
  omega
 omega
theorem pack_const (c:UInt32):ones n*c.toNat=pack n fun _=>c:=ones_mul n _
theorem shr_nat (x:UInt32) (r:Nat) (hr:r<32):(x >>> UInt32.ofNat r).toNat=x.toNat / 2 ^ r:=by
 rw [UInt32.toNat_shiftRight,UInt32.toNat_ofNat',Nat.shiftRight_eq_div_pow]
 congr 2
 show r % 2 ^ 32 % 32=r
 omega
theorem pack_shr (f:Nat→UInt32) (r:Nat) (hr:r<32):(pack n f >>> r) &&& mask n=pack n fun k=>f k >>> UInt32.ofNat r:=by
 unfold pack
 rw [packN_shr n r (by omega) _ (fun k=>lt64 _)]
 apply packN_congr
 intro k _
 rw [shr_nat _ _ hr,Nat.mod_eq_of_lt]
 exact Nat.lt_of_le_of_lt (Nat.div_le_self _ _) (f k).toNat_lt
theorem turn_nat (x:UInt32) (r:Nat) (h0:0<r) (hr:r<32):(turn x r).toNat=x.toNat*(2 ^ 32+1) / 2 ^ r % 2 ^ 32:=by
 have e32:(2:Nat) ^ 32=2 ^ r*2 ^ (32-r):=by rw [← Nat.pow_add];congr 1;omega
 have hp:0<(2:Nat) ^ r:=Nat.pow_pos (by omega)
 have hx:=x.toNat_lt
 unfold turn
 rw [UInt32.toNat_or,shr_nat _ _ hr,UInt32.toNat_shiftLeft,UInt32.toNat_ofNat']
 have e1:(32-r) % 2 ^ 32 % 32=32-r:=by omega
 rw [e1,Nat.shiftLeft_eq]
 generalize x.toNat=y at hx ⊢
 have e2:y*2 ^ (32-r) % 2 ^ 32=2 ^ (32-r)*(y % 2 ^ r):=by
  rw [e32,Nat.mul_comm y,Nat.mul_comm (2 ^ r),Nat.mul_mod_mul_left]
 have hd:y / 2 ^ r<2 ^ (32-r):=by rw [Nat.div_lt_iff_lt_mul hp,Nat.mul_comm,← e32];exact hx
 rw [e2,Nat.or_comm,← Nat.two_pow_add_eq_or_of_lt hd]
 have e3:y*(2 ^ 32+1) / 2 ^ r=y*2 ^ (32-r)+y / 2 ^ r:=by
  rw [Nat.mul_add,Nat.mul_one,e32,← Nat.mul_assoc,Nat.mul_comm y,Nat.mul_assoc,Nat.mul_add_div hp]
 have e4:y*2 ^ (32-r)=2 ^ 32*(y / 2 ^ r)+2 ^ (32-r)*(y % 2 ^ r):=by
  have h:=Nat.div_add_mod y (2 ^ r)
  calc y*2 ^ (32-r)=2 ^ (32-r)*(2 ^ r*(y / 2 ^ r)+y % 2 ^ r):=by rw [h,Nat.mul_comm]
   _=_:=by rw [Nat.mul_add,← Nat.mul_assoc,Nat.mul_comm (2 ^ (32-r)) (2 ^ r),← e32]
 have hy:2 ^ (32-r)*(y % 2 ^ r)+y / 2 ^ r<2 ^ 32:=by
  have h1:y % 2 ^ r+1≤2 ^ r:=Nat.mod_lt _ hp
  have h2:=Nat.mul_le_mul_left (2 ^ (32-r)) h1
  rw [Nat.mul_add,Nat.mul_one,Nat.mul_comm _ (2 ^ r),← e32] at h2
  omega
 rw [e3,e4,Nat.add_assoc,Nat.mul_add_mod,Nat.mod_eq_of_lt hy]
def rotN (n X r:Nat):Nat:=((X*(2 ^ 32+1)) >>> r) &&& mask n
theorem pack_turn (f:Nat→UInt32) (r:Nat) (h0:0<r) (hr:r<32):rotN n (pack n f) r=pack n fun k=>turn (f k) r:=by
 unfold pack rotN
 rw [packN_mul,packN_shr n r (by omega) _ (fun k=>by have:=(f k).toNat_lt;omega)]
 apply packN_congr
 intro k _
 rw [turn_nat _ _ h0 hr]
/-! ### the function of SHA-256 in lanes -/
def wN (l:List Nat) (i:Nat):Nat:=l.getD i 0
structure RL (n:Nat) (X:List Nat) (F:Nat→List UInt32):Prop where
 len:∀ k,(F k).length=X.length
 at':∀ i,wN X i=pack n fun k=>w' (F k) i
theorem pack_zero:pack n (fun _=>0)=0:=by have:=pack_const (n:=n) 0;simpa using this.symm
theorem RL.nil:RL n [] fun _=>[]:=⟨fun _=>rfl,fun _=>pack_zero.symm⟩
theorem RL.cons {x:Nat} {X:List Nat} {f:Nat→UInt32} {F:Nat→List UInt32} (hx:x=pack n f) (h:RL n X F):RL n (x :: X) fun k=>f k :: F k:=by
 refine ⟨fun k=>by simp [h.len],fun i=>?_⟩
 cases i with
 | zero=>exact hx
 | succ i=>exact h.at' i
theorem RL.snoc {x:Nat} {X:List Nat} {f:Nat→UInt32} {F:Nat→List UInt32} (hx:x=pack n f) (h:RL n X F):RL n (X++[x]) fun k=>F k++[f k]:=by
 refine ⟨fun k=>by simp [h.len],fun i=>?_⟩
 have hw:∀ k,w' (F k++[f k]) i=if i<X.length then w' (F k) i else if i=X.length then f k else 0:=fun k=>by
  have:=h.len k
  unfold w'
  rw [List.getD_eq_getElem?_getD,List.getD_eq_getElem?_getD]
  split
  ·rw [List.getElem?_append_left (by omega)]
  ·rw [List.getElem?_append_right (by omega),this]
   split
   ·subst_vars;simp
   ·rw [List.getElem?_eq_none (by simp;omega)];rfl
 simp only [hw]
 unfold wN
 rw [List.getD_eq_getElem?_getD]
 split
 ·rw [List.getElem?_append_left (by assumption),← List.getD_eq_getElem?_getD];exact h.at' i
 ·rw [List.getElem?_append_right (by omega)]
  split
  ·subst_vars;simp
  ·rw [List.getElem?_eq_none (by simp;omega)];exact pack_zero.symm
def s0N (n x:Nat):Nat:=rotN n x 7 ^^^ rotN n x 18 ^^^ ((x >>> 3) &&& mask n)
def s1N (n y:Nat):Nat:=rotN n y 17 ^^^ rotN n y 19 ^^^ ((y >>> 10) &&& mask n)
def addN (n x y:Nat):Nat:=(x+y) &&& mask n
def nextN (n:Nat) (l:List Nat) (t:Nat):Nat:=addN n (addN n (addN n (s1N n (wN l (t-2))) (wN l (t-7))) (s0N n (wN l (t-15)))) (wN l (t-16))
def schedN (n:Nat) (W:List Nat):Nat→List Nat
 | 0=>W
 | k+1=>schedN n W k++[nextN n (schedN n W k) (k+16)]
def t1N (n:Nat) (v:List Nat) (k w:Nat):Nat:=addN n (addN n (addN n (addN n (wN v 7) (rotN n (wN v 4) 6 ^^^ rotN n (wN v 4) 11 ^^^ rotN n (wN v 4) 25)) ((wN v 4 &&& wN v 5) ^^^ ((mask n-wN v 4) &&& wN v 6))) k) w
def t2N (n:Nat) (v:List Nat):Nat:=addN n (rotN n (wN v 0) 2 ^^^ rotN n (wN v 0) 13 ^^^ rotN n (wN v 0) 22) ((wN v 0 &&& wN v 1) ^^^ (wN v 0 &&& wN v 2) ^^^ (wN v 1 &&& wN v 2))
def roundN (n:Nat) (W v:List Nat) (t:Nat):List Nat :=
 [addN n (t1N n v (ones n*(w' ks t).toNat) (wN W t)) (t2N n v),wN v 0,wN v 1,wN v 2,addN n (wN v 3) (t1N n v (ones n*(w' ks t).toNat) (wN W t)),wN v 4,wN v 5,wN v 6]
def roundsN (n:Nat) (W v:List Nat):Nat→List Nat
 | 0=>v
 | t+1=>roundN n W (roundsN n W v t) t
theorem addN_pack {x y:Nat} {f g:Nat→UInt32} (hx:x=pack n f) (hy:y=pack n g):addN n x y=pack n fun k=>f k+g k:=by subst hx hy;exact pack_add f g
theorem next_pack {X:List Nat} {F:Nat→List UInt32} (h:RL n X F) (t:Nat):nextN n X t=pack n fun k=>nextW (F k) t:=by
 unfold nextN nextW
 refine addN_pack (addN_pack (addN_pack ?_ (h.at' _)) ?_) (h.at' _)
 ·unfold s1N s1
  rw [h.at',pack_turn _ _ (by omega) (by omega),pack_turn _ _ (by omega) (by omega),pack_shr _ _ (by omega),pack_xor,pack_xor]
  rfl
 ·unfold s0N s0
  rw [h.at',pack_turn _ _ (by omega) (by omega),pack_turn _ _ (by omega) (by omega),pack_shr _ _ (by omega),pack_xor,pack_xor]
  rfl
theorem sched_pack {X:List Nat} {m:Nat→List UInt8} (h:RL n X fun k=>(List.range 16).map (inW (m k))):∀ t,RL n (schedN n X t) fun k=>sched (m k) t:=by
 intro t
 induction t with
 | zero=>exact h
 | succ t ih=>exact RL.snoc (next_pack ih _) ih
theorem _root_.z1q53{p:Prop}(h:p:=by
 rw [hv.at',pack_turn _ _ (by omega) (by omega),pack_turn _ _ (by omega) (by omega),pack_turn _ _ (by omega) (by omega),pack_xor,pack_xor]):p:=h
theorem round_pack {W v:List Nat} {F V:Nat→List UInt32} (hW:RL n W F) (hv:RL n v V) (t:Nat):RL n (roundN n W v t) fun k=>round (F k) (V k) t:=by
 have h1:t1N n v (ones n*(w' ks t).toNat) (wN W t)=pack n fun k=>t1 (V k) (w' ks t) (w' (F k) t):=by
  unfold t1N t1
  refine addN_pack (addN_pack (addN_pack (addN_pack (hv.at' _) ?_) ?_) (pack_const _)) (hW.at' _)
  ·exact z1q53
  ·rw [hv.at',hv.at',hv.at',pack_not,pack_and,pack_and,pack_xor]
 have h2:t2N n v=pack n fun k=>t2 (V k):=by
  unfold t2N t2
  refine addN_pack ?_ ?_
  ·exact z1q53
  ·rw [hv.at',hv.at',hv.at',pack_and,pack_and,pack_and,pack_xor,pack_xor]
 unfold roundN round
 exact RL.cons (addN_pack h1 h2) (RL.cons (hv.at' _) (RL.cons (hv.at' _) (RL.cons (hv.at' _) (RL.cons (addN_pack (hv.at' _) h1) (RL.cons (hv.at' _) (RL.cons (hv.at' _) (RL.cons (hv.at' _) RL.nil)))))))
theorem rounds_pack {W v:List Nat} {F V:Nat→List UInt32} (hW:RL n W F) (hv:RL n v V):∀ t,RL n (roundsN n W v t) fun k=>rounds (F k) (V k) t:=by
 intro t
 induction t with
 | zero=>exact hv
 | succ t ih=>exact round_pack hW ih t
def headN (n:Nat) (W:List Nat):Nat:=addN n (ones n*(w' h0 0).toNat) (wN (roundsN n (schedN n W 48) (h0.map fun c=>ones n*c.toNat) 64) 0)
theorem head_pack {X:List Nat} {m:Nat→List UInt8} (h:RL n X fun k=>(List.range 16).map (inW (m k))):headN n X=pack n fun k=>w' (block h0 (m k)) 0:=by
 have hv:RL n (h0.map fun c=>ones n*c.toNat) fun _=>h0 :=
  RL.cons (pack_const _) (RL.cons (pack_const _) (RL.cons (pack_const _) (RL.cons (pack_const _) (RL.cons (pack_const _) (RL.cons (pack_const _) (RL.cons (pack_const _) (RL.cons (pack_const _) RL.nil)))))))
 exact addN_pack (pack_const _) ((rounds_pack (sched_pack h 48) hv 64).at' 0)
/-! ### that lanes differ -/
def neqN (n X Y:Nat):Bool:=(((X ^^^ Y)+mask n) &&& (ones n*2 ^ 32)) == ones n*2 ^ 32
theorem packN_inj:∀ {n:Nat} {f g:Nat→Nat},(∀ k,f k<2 ^ 64)→(∀ k,g k<2 ^ 64)→packN n f=packN n g→∀ k,k<n→f k=g k:=by
 intro n
 induction n with
 | zero=>intro f g _ _ _ k hk;omega
 | succ n ih =>
  intro f g hf hg h k hk
  simp only [packN] at h
  have h0:=hf 0
  have h1:=hg 0
  have e:f 0=g 0∧packN n (fun k=>f (k+1))=packN n (fun k=>g (k+1)):=by omega
  cases k with
  | zero=>exact e.1
  | succ k=>exact ih (f:=fun k=>f (k+1)) (g:=fun k=>g (k+1)) (fun k=>hf (k+1)) (fun k=>hg (k+1)) e.2 k (by omega)
theorem neq_pack {f g:Nat→UInt32} (h:neqN n (pack n f) (pack n g)=true):∀ k,k<n→f k≠g k:=by
 intro k hk e
 have h:=beq_iff_eq.1 h
 have hb:∀ k,(f k ^^^ g k).toNat+(2 ^ 32-1)<2 ^ 64:=fun k=>by have:=(f k ^^^ g k).toNat_lt;omega
 rw [pack_xor,mask_eq,ones_mul] at h
 unfold pack at h
 rw [packN_add,packN_and n _ _ hb (fun _=>by decide)] at h
 have h:=packN_inj (fun k=>Nat.and_lt_two_pow _ (by decide)) (fun _=>by decide) h k hk
 rw [e,UInt32.xor_self] at h
 revert h
 decide
def allNe (n:Nat):List Nat→Bool
 | []=>true
 | x :: l=>(l.all fun y=>neqN n x y) && allNe n l
def seedN (n off:Nat):List Nat:=[0,iota n off,0,ones n*2147483648,0,0,0,0,0,0,0,0,0,0,0,ones n*96]
def headOff (n off:Nat):Nat:=headN n (seedN n off)
def msgB (s:Nat):List UInt8:=tailB (putL 8 (UInt64.ofNat s)++putL 4 (UInt64.ofNat 0)) 12
theorem or4 {a b c d:Nat} (hb:b<256) (hc:c<256) (hd:d<256):(2 ^ 24*a ||| 2 ^ 16*b ||| 2 ^ 8*c ||| d)=2 ^ 24*a+2 ^ 16*b+2 ^ 8*c+d:=by
 have h1:=Nat.two_pow_add_eq_or_of_lt (i:=24) (b:=2 ^ 16*b) (by omega) a
 rw [← h1]
 have h2:=Nat.two_pow_add_eq_or_of_lt (i:=16) (b:=2 ^ 8*c) (by omega) (2 ^ 8*a+b)
 have e2:2 ^ 16*(2 ^ 8*a+b)=2 ^ 24*a+2 ^ 16*b:=by omega
 rw [e2] at h2
 rw [← h2]
 have h3:=Nat.two_pow_add_eq_or_of_lt (i:=8) (b:=d) (by omega) (2 ^ 16*a+2 ^ 8*b+c)
 have e3:2 ^ 8*(2 ^ 16*a+2 ^ 8*b+c)=2 ^ 24*a+2 ^ 16*b+2 ^ 8*c:=by omega
 rw [e3] at h3
 rw [← h3]
theorem bt3 (x:Nat):x / 256 / 256 / 256 % 256*16777216 % 4294967296=16777216*(x / 256 / 256 / 256 % 256):=by omega
theorem bt2 (x:Nat):x / 256 / 256 % 256*65536 % 4294967296=65536*(x / 256 / 256 % 256):=by omega
theorem bt1 (x:Nat):x / 256 % 256*256 % 4294967296=256*(x / 256 % 256):=by omega
theorem bt (x:Nat):16777216*(x / 256 / 256 / 256 % 256)+65536*(x / 256 / 256 % 256)+256*(x / 256 % 256)+x % 256=x % 4294967296:=by omega
theorem word4 (v:UInt64):((v >>> 8 >>> 8 >>> 8).toUInt8.toUInt32 <<< 24 ||| (v >>> 8 >>> 8).toUInt8.toUInt32 <<< 16 ||| (v >>> 8).toUInt8.toUInt32 <<< 8 ||| v.toUInt8.toUInt32)=v.toUInt32:=by
 apply UInt32.toNat_inj.1
 have hv:=v.toNat_lt
 simp only [UInt32.toNat_or,UInt32.toNat_shiftLeft,UInt8.toNat_toUInt32,UInt64.toNat_toUInt8,UInt64.toNat_shiftRight,UInt64.toNat_toUInt32,Nat.shiftRight_eq_div_pow,Nat.shiftLeft_eq]
 have r8:(8:UInt64).toNat % 64=8:=rfl
 have s8:(8:UInt32).toNat % 32=8:=rfl
 have s16:(16:UInt32).toNat % 32=16:=rfl
 have s24:(24:UInt32).toNat % 32=24:=rfl
 rw [r8,s8,s16,s24]
 generalize v.toNat=x at *
 have h4:∀ {a b c d:Nat},b<256→c<256→d<256→(16777216*a ||| 65536*b ||| 256*c ||| d)=16777216*a+65536*b+256*c+d:=fun hb hc hd=>or4 hb hc hd
 clear hv
 simp only [Nat.reducePow]
 rw [bt3,bt2,bt1,h4 (by omega) (by omega) (by omega)]
 exact bt x
theorem msg_words {s:Nat} (hs:s<2 ^ 32):(List.range 16).map (inW (msgB s))=[0,UInt32.ofNat s,0,2147483648,0,0,0,0,0,0,0,0,0,0,0,96]:=by
 have hv:(UInt64.ofNat s).toUInt32=UInt32.ofNat s:=by
  apply UInt32.toNat_inj.1
  rw [UInt64.toNat_toUInt32,UInt64.toNat_ofNat',UInt32.toNat_ofNat']
  omega
 have hz:(UInt64.ofNat s >>> 8 >>> 8 >>> 8 >>> 8)=0:=by
  apply UInt64.toNat_inj.1
  have r8:(8:UInt64).toNat % 64=8:=rfl
  simp only [UInt64.toNat_shiftRight,UInt64.toNat_ofNat',Nat.shiftRight_eq_div_pow,r8]
  have z:(0:UInt64).toNat=0:=rfl
  rw [z]
  omega
 have hw:=word4 (UInt64.ofNat s)
 rw [hv] at hw
 have hm:msgB s=(0:UInt8) :: 0 :: 0 :: 0 :: (UInt64.ofNat s >>> 8 >>> 8 >>> 8).toUInt8 :: (UInt64.ofNat s >>> 8 >>> 8).toUInt8 :: (UInt64.ofNat s >>> 8).toUInt8 :: (UInt64.ofNat s).toUInt8 ::
   (putL 4 0++128 :: (List.replicate 43 0++putL 8 96)):=by
  have l12:(putL 8 (UInt64.ofNat s)++putL 4 (UInt64.ofNat 0)).length=12:=by simp [putL_length]
  have e8:putL 8 (UInt64.ofNat s)=[(0:UInt8),0,0,0,(UInt64.ofNat s >>> 8 >>> 8 >>> 8).toUInt8,(UInt64.ofNat s >>> 8 >>> 8).toUInt8,(UInt64.ofNat s >>> 8).toUInt8,(UInt64.ofNat s).toUInt8]:=by
   simp only [putL,hz,q5q,q6q]
   congr 1
  unfold msgB tailB
  rw [l12,e8,show tailN 12=43 from rfl]
  simp only [q5q,q6q,List.append_assoc]
  rfl
 have h1:inW (msgB s) 1=UInt32.ofNat s:=by rw [hm];exact hw
 have hr:∀ t,2≤t→inW (msgB s) t=inW (putL 4 0++128 :: (List.replicate 43 0++putL 8 96)) (t-2):=by
  intro t ht
  obtain ⟨u,rfl⟩:∃ u,t=u+2:=⟨t-2,by omega⟩
  rw [hm]
  have e:∀ j,4*(u+2)+j=(4*u+j)+8:=fun j=>by omega
  unfold inW b'
  have e0:=e 0
  simp only [Nat.add_zero] at e0
  rw [e 1,e 2,e 3,e0,Nat.add_sub_cancel]
  rfl
 have h0':inW (msgB s) 0=0:=by rw [hm];simp [inW,b']
 show [inW (msgB s) 0,inW (msgB s) 1,inW (msgB s) 2,inW (msgB s) 3,inW (msgB s) 4,inW (msgB s) 5,inW (msgB s) 6,inW (msgB s) 7,inW (msgB s) 8,inW (msgB s) 9,inW (msgB s) 10,inW (msgB s) 11,inW (msgB s) 12,inW (msgB s) 13,inW (msgB s) 14,inW (msgB s) 15]=_
 rw [h0',h1,hr 2 (by omega),hr 3 (by omega),hr 4 (by omega),hr 5 (by omega),hr 6 (by omega),hr 7 (by omega),hr 8 (by omega),hr 9 (by omega),hr 10 (by omega),hr 11 (by omega),hr 12 (by omega),hr 13 (by omega),hr 14 (by omega),hr 15 (by omega)]
 congr 2
theorem seed_rl {off:Nat} (h:off+n≤2 ^ 32):RL n (seedN n off) fun k=>(List.range 16).map (inW (msgB (k+off))):=by
 refine ⟨fun k=>by simp [seedN],fun i=>?_⟩
 have e:pack n (fun k=>w' ((List.range 16).map (inW (msgB (k+off)))) i)=pack n (fun k=>w' [0,UInt32.ofNat (k+off),0,2147483648,0,0,0,0,0,0,0,0,0,0,0,96] i) :=
  packN_congr fun k hk=>by show UInt32.toNat (w' ((List.range 16).map (inW (msgB (k+off)))) i)=_;rw [msg_words (by omega)]
 rw [e]
 have hi:iota n off=pack n fun k=>UInt32.ofNat (k+off):=by
  rw [iota_eq]
  refine packN_congr fun k hk=>?_
  rw [UInt32.toNat_ofNat',Nat.mod_eq_of_lt]
  omega
 have z:=(pack_zero (n:=n)).symm
 have c1:=pack_const (n:=n) 2147483648
 have c2:=pack_const (n:=n) 96
 exact (RL.cons z (RL.cons hi (RL.cons z (RL.cons c1 (RL.cons z (RL.cons z (RL.cons z (RL.cons z (RL.cons z (RL.cons z (RL.cons z (RL.cons z (RL.cons z (RL.cons z (RL.cons z (RL.cons c2 RL.nil)))))))))))))))).at' i
theorem putL4_inj {x y:UInt32} (h:putL 4 x.toUInt64=putL 4 y.toUInt64):x=y:=by
 simp only [putL,q5q,q6q,List.cons.injEq,and_true] at h
 obtain ⟨h1,h2,h3,h4⟩:=h
 have hx:=word4 x.toUInt64
 have hy:=word4 y.toUInt64
 rw [h1,h2,h3,h4,hy] at hx
 simpa using hx.symm
theorem sha_head (s:Nat):(wbF s 0).take 4=putL 4 (w' (block h0 (msgB s)) 0).toUInt64:=by
 have l:(putL 8 (UInt64.ofNat s)++putL 4 (UInt64.ofNat 0)).length=12:=by simp [putL_length]
 unfold wbF sha
 rw [l]
 show (fin h0 (putL 8 (UInt64.ofNat s)++putL 4 (UInt64.ofNat 0)) 12).take 4=_
 unfold fin outB
 have lt:(tailB (putL 8 (UInt64.ofNat s)++putL 4 (UInt64.ofNat 0)) 12).length=64:=by rw [tailB_length,l];rfl
 rw [lt]
 have eb:blocks h0 (tailB (putL 8 (UInt64.ofNat s)++putL 4 (UInt64.ofNat 0)) 12) (64 / 64)=block h0 (msgB s):=by
  show block h0 (((tailB (putL 8 (UInt64.ofNat s)++putL 4 (UInt64.ofNat 0)) 12).drop 0).take 64)=_
  rw [q11q,List.take_of_length_le (by omega)]
  rfl
 rw [eb]
 have e8:outTo (block h0 (msgB s)) 8=putL 4 (w' (block h0 (msgB s)) 0).toUInt64++((List.range 7).map fun i=>putL 4 (w' (block h0 (msgB s)) (i+1)).toUInt64).flatten:=rfl
 rw [e8]
 exact List.take_left' (putL_length _ _)
theorem head_ne {a b:Nat} (ha:a+n≤2 ^ 32) (hb:b+n≤2 ^ 32) (h:neqN n (headOff n a) (headOff n b)=true):∀ s,s<n→wbF (s+a) 0≠wbF (s+b) 0:=by
 intro s hs e
 have h1:headOff n a=pack n fun k=>w' (block h0 (msgB (k+a))) 0:=head_pack (seed_rl ha)
 have h2:headOff n b=pack n fun k=>w' (block h0 (msgB (k+b))) 0:=head_pack (seed_rl hb)
 rw [h1,h2] at h
 refine neq_pack h s hs (putL4_inj ?_)
 rw [← sha_head,← sha_head,e]
theorem wbytes_head {s m:Nat} (hm:32≤m):(wbytes s m).take 32=wbF s 0:=by
 obtain ⟨k,hk⟩:∃ k,(m+31) / 32=k+1:=⟨(m+31) / 32-1,by omega⟩
 unfold wbytes
 rw [hk,List.take_take,Nat.min_eq_left hm]
 have e:wbTo s (k+1)=wbF s 0++((List.range k).map fun i=>wbF s (i+1)).flatten:=by
  unfold wbTo
  rw [List.range_succ_eq_map]
  simp [List.map_map,Function.comp_def]
 rw [e]
 exact List.take_left' (sha_length _)
theorem wbytes_ne {a b m:Nat} (h:wbF a 0≠wbF b 0) (hm:32≤m):wbytes a m≠wbytes b m:=by
 intro e
 apply h
 rw [← wbytes_head (s:=a) hm,← wbytes_head (s:=b) hm,e]
theorem all_ne {m:Nat} (hm:32≤m):∀ {offs:List Nat},(∀ o∈offs,o+n≤2 ^ 32)→allNe n (offs.map (headOff n))=true→∀ s,s<n→offs.Pairwise fun a b=>wbytes (s+a) m≠wbytes (s+b) m:=by
 intro offs
 induction offs with
 | nil=>intro _ _ s _;exact List.Pairwise.nil
 | cons o offs ih =>
  intro hb h s hs
  rw [List.map_cons,allNe,Bool.and_eq_true] at h
  refine List.Pairwise.cons (fun b hbm=>?_) (ih (fun o ho=>hb o (List.mem_cons_of_mem _ ho)) h.2 s hs)
  have:=List.all_eq_true.1 h.1 _ (List.mem_map_of_mem hbm)
  exact wbytes_ne (head_ne (hb _ (List.mem_cons_self ..)) (hb _ (List.mem_cons_of_mem _ hbm)) this s hs) hm
end Go.Lane

/- The cookies that the statements about jars draw differ. No program. -/
namespace Go.Lane
open Go.Sha
def offsK:List Nat:=((List.range 8).map fun i=>1000003*(i+1))++(List.range 11).map fun i=>9000000*(i+1)
theorem offsK_ne:allNe 1024 (offsK.map (headOff 1024))=true:=by decide +kernel
theorem offsK_le:∀ o∈offsK,o+1024≤2 ^ 32:=by decide
theorem cookiesK {s:Nat} (hs:s<1024):offsK.Pairwise fun a b=>wbytes (s+a) 104≠wbytes (s+b) 104:=all_ne (by decide) offsK_le offsK_ne s hs
end Go.Lane
