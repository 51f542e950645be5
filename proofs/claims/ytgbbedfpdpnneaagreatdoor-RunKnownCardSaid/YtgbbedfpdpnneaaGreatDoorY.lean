/-
  What the functions of the given program reckon, each by a contract, up to the law. It is no claim by itself; each contract bears its own conditions.
-/
import Derived.Test.YtgbbedfpdpnneaaGreatDoorN
set_option linter.unusedVariables false
set_option linter.unusedSimpArgs false
set_option maxRecDepth 100000
namespace Go.Scr
open Go.Proofs
open IntWalk renaming i64_in → Za
open Int renaming toNat_natCast → Zb, fdiv_eq_ediv_of_nonneg → Z1, natCast_pow → Z9, le_refl → Jh, tmod_eq_emod_of_nonneg → Jk, natCast_emod → Jt, natCast_ediv → Ju, natCast_mul → Jx, lt_tmod_of_pos → J2, le_of_lt → Kc, tmod_lt_of_pos → Kg, emod_lt_of_pos → Kh, pow_pos → Ki, emod_nonneg → Kw
open BitVec renaming ofInt → Zc, ofInt_natCast → J9
open List renaming getD_eq_getElem?_getD → Zd, length_append → Ze, getElem?_eq_getElem → Zf, getElem?_eq_none → Zg, length_reverse → Zi, length_replicate → Zj, replicate → Zk, length_zipWith → Zo, take_length → Zq, take_succ_eq_append_getElem → Zr, length_cons → Zs, length_set → Zu, length_take → Zv, length_nil → Zw, length_drop → Zx, length_map → Zy, range_succ → Zz, ext_getElem? → Z3, getElem?_append_right → Z7, append_nil → Z8, getElem?_append_left → Ja, getElem?_replicate → Jd, getElem?_map → Je, append_assoc → Jf, nil_append → Jp, getElem?_set → Jr, getElem_reverse → Js, getElem?_range → Jv, flatten_append → Jw, getElem?_take → J0, getElem?_drop → J1, foldl_append → J4, eq_nil_of_length_eq_zero → J8, replicate_succ → Kb, mem_singleton → Kf, map_take → Kj, map_drop → Kk, getElem_mem → Kn, take_of_length_le → Ks, drop_eq_nil_of_le → Kt, mem_append → Kv, take_append_drop → Kx, getElem?_reverse → Ky, take_zero → K2
open Nat renaming mod_eq_of_lt → Zh, zero_add → Zl, mul_one → Zm, le_refl → Zp, shiftRight_eq_div_pow → Z0, mod_lt → Z4, pow_le_pow_right → Z5, zero_le → Z6, lt_or_ge → Jg, xor_lt_two_pow → Jj, testBit_eq_decide_div_mod_eq → Jl, and_two_pow_sub_one_eq_mod → Jn, div_le_self → Jo, le_div_iff_mul_le → Jq, mod_eq_sub_mod → Jy, and_lt_two_pow → Jz, or_lt_two_pow → J3, shiftLeft_eq → J6, sub_succ_lt_self → J7, le_antisymm → Ka, shiftRight_add → Kd, and_one_is_mod → Ke, testBit_mod_two_pow → Kl, div_eq_of_lt → Km, testBit_lt_two_pow → Kq, div_div_eq_div_mul → Kr, pow_pos → K1
open UInt32 renaming ofNat → Zn, toNat_toUInt64 → Z2, toNat_shiftRight → Jc, toNat_ofNat' → Jm, toNat_and → J5, toNat_shiftLeft → Kp, toNat_toUInt8 → Kz
open UInt8 renaming ofNat → Zt, toNat_ofNat' → Jb, toNat_lt → Ji, toNat_shiftRight → Ko, toNat_inj → Ku
open Go.IntKind renaming i64 → I6, u8 → U8, u32 → U3, u64 → U6
def bv (l:Bs):List Value:=l.map fun x=> .int .u8 x.toNat
abbrev bz (l:Bs):V:= .z l.length (bv l)
def iv (l:List Int):List Value:=l.map fun x=> .int .i64 x
abbrev iz (l:List Int):V:= .z l.length (iv l)
def wv (l:List UInt32):List Value:=l.map fun x=> .int .u32 x.toNat
abbrev wz (l:List UInt32):V:= .z l.length (wv l)
abbrev i64 (n:Int):V:= .s (.int .i64 n)
abbrev u8 (x:UInt8):V:= .s (.int .u8 x.toNat)
abbrev u32 (x:UInt32):V:= .s (.int .u32 x.toNat)
abbrev u64 (x:UInt64):V:= .s (.int .u64 x.toNat)
abbrev vi (k:IntKind) (n:Int):V:= .s (.int k n)
abbrev bool (b:Bool):V:= .s (.bool b)
theorem spl_i {b:Bool} {x y:Prop} (h1:b=true→x) (h2:b=false→y):spl b x y:=by cases b;exact h2 rfl;exact h1 rfl
theorem spl_t {b:Bool} {x y:Prop} (h:b=true) (h1:x):spl b x y:=by subst h;exact h1
theorem spl_f {b:Bool} {x y:Prop} (h:b=false) (h1:y):spl b x y:=by subst h;exact h1
theorem bv_len (l:Bs):(bv l).length=l.length:=by simp[bv]
theorem iv_len (l:List Int):(iv l).length=l.length:=by simp[iv]
theorem wv_len (l:List UInt32):(wv l).length=l.length:=by simp[wv]
theorem bv_get {l:Bs} {i:Nat} (h:i<l.length):(bv l)[i]? =some (.int .u8 (l[i]).toNat):=by simp[bv,h]
theorem iv_get {l:List Int} {i:Nat} (h:i<l.length):(iv l)[i]? =some (.int .i64 l[i]):=by simp[iv,h]
theorem wv_get {l:List UInt32} {i:Nat} (h:i<l.length):(wv l)[i]? =some (.int .u32 (l[i]).toNat):=by simp[wv,h]
theorem bv_sub (l:Bs) (i n:Nat):sub (bv l) i n=bv (sub l i n):=by simp[bv,sub,Kj,Kk]
theorem wv_sub (l:List UInt32) (i n:Nat):sub (wv l) i n=wv (sub l i n):=by simp[wv,sub,Kj,Kk]
theorem bv_set (l:Bs) (i:Nat) (x:UInt8):(bv l).set i (.int .u8 x.toNat)=bv (l.set i x):=by simp[bv,List.map_set]
theorem wv_set (l:List UInt32) (i:Nat) (x:UInt32):(wv l).set i (.int .u32 x.toNat)=wv (l.set i x):=by simp[wv,List.map_set]
theorem bv_app (a b:Bs):bv a++bv b=bv (a++b):=by simp[bv]
theorem iv_app (a b:List Int):iv a++iv b=iv (a++b):=by simp[iv]
theorem wv_app (a b:List UInt32):wv a++wv b=wv (a++b):=by simp[wv]
theorem bv_rep (n:Nat):Zk n (Value.int .u8 0)=bv (Zk n 0):=by simp[bv]
theorem wv_rep (n:Nat):Zk n (Value.int .u32 0)=wv (Zk n 0):=by simp[wv]
theorem wrap_u8 (n:Int):U8.wrap n=n%256:=by rw[IntKind.wrap_u8]
theorem wrap_u32 (n:Int):U3.wrap n=n%4294967296:=by rw[IntKind.wrap_u32]
theorem wrap_u64 (n:Int):U6.wrap n=n%18446744073709551616:=by simp[IntKind.wrap,IntKind.bits,IntKind.signed]
theorem bits_u8:U8.bits=8:=rfl
theorem bits_u32:U3.bits=32:=rfl
theorem bits_u64:U6.bits=64:=rfl
theorem bits_i64:I6.bits=64:=rfl
theorem bx_xor (n:Nat) {x y:Nat} (hx:x<2^n) (hy:y<2^n):(Zc n (x:Int)^^^Zc n (y:Int)).toNat=x^^^y:=by
 simp[J9,Zh hx,Zh hy]
theorem bx_and (n:Nat) {x y:Nat} (hx:x<2^n) (hy:y<2^n):(Zc n (x:Int)&&&Zc n (y:Int)).toNat=x&&&y:=by
 simp[J9,Zh hx,Zh hy]
theorem bx_or (n:Nat) {x y:Nat} (hx:x<2^n) (hy:y<2^n):(Zc n (x:Int)|||Zc n (y:Int)).toNat=x|||y:=by
 simp[J9,Zh hx,Zh hy]
theorem u8_xor (a b:UInt8):U8.wrap ((Zc U8.bits (a.toNat:Int)^^^Zc U8.bits (b.toNat:Int)).toNat:Int)=((a^^^b).toNat:Int):=by
 rw[wrap_u8,bx_xor U8.bits a.toNat_lt b.toNat_lt,UInt8.toNat_xor]
 have:=Jj (n:=8) a.toNat_lt b.toNat_lt
 omega
theorem u8_and (a b:UInt8):U8.wrap ((Zc U8.bits (a.toNat:Int)&&&Zc U8.bits (b.toNat:Int)).toNat:Int)=((a&&&b).toNat:Int):=by
 rw[wrap_u8,bx_and U8.bits a.toNat_lt b.toNat_lt,UInt8.toNat_and]
 have:=Jz (n:=8) a.toNat b.toNat_lt
 omega
theorem u8_or (a b:UInt8):U8.wrap ((Zc U8.bits (a.toNat:Int)|||Zc U8.bits (b.toNat:Int)).toNat:Int)=((a|||b).toNat:Int):=by
 rw[wrap_u8,bx_or U8.bits a.toNat_lt b.toNat_lt,UInt8.toNat_or]
 have:=J3 (n:=8) a.toNat_lt b.toNat_lt
 omega
theorem u8_add (a b:UInt8):U8.wrap ((a.toNat:Int)+b.toNat)=((a+b).toNat:Int):=by
 rw[wrap_u8,UInt8.toNat_add];omega
theorem u32_xor (a b:UInt32):U3.wrap ((Zc U3.bits (a.toNat:Int)^^^Zc U3.bits (b.toNat:Int)).toNat:Int)=((a^^^b).toNat:Int):=by
 rw[wrap_u32,bx_xor U3.bits a.toNat_lt b.toNat_lt,UInt32.toNat_xor]
 have:=Jj (n:=32) a.toNat_lt b.toNat_lt
 omega
theorem u32_and (a b:UInt32):U3.wrap ((Zc U3.bits (a.toNat:Int)&&&Zc U3.bits (b.toNat:Int)).toNat:Int)=((a&&&b).toNat:Int):=by
 rw[wrap_u32,bx_and U3.bits a.toNat_lt b.toNat_lt,J5]
 have:=Jz (n:=32) a.toNat b.toNat_lt
 omega
theorem u32_or (a b:UInt32):U3.wrap ((Zc U3.bits (a.toNat:Int)|||Zc U3.bits (b.toNat:Int)).toNat:Int)=((a|||b).toNat:Int):=by
 rw[wrap_u32,bx_or U3.bits a.toNat_lt b.toNat_lt,UInt32.toNat_or]
 have:=J3 (n:=32) a.toNat_lt b.toNat_lt
 omega
theorem u32_add (a b:UInt32):U3.wrap ((a.toNat:Int)+b.toNat)=((a+b).toNat:Int):=by
 rw[wrap_u32,UInt32.toNat_add];omega
theorem u32_sub (a b:UInt32):U3.wrap ((a.toNat:Int)-b.toNat)=((a-b).toNat:Int):=by
 have:=b.toNat_lt
 rw[wrap_u32,UInt32.toNat_sub];omega
theorem u64_or (a b:UInt64):U6.wrap ((Zc U6.bits (a.toNat:Int)|||Zc U6.bits (b.toNat:Int)).toNat:Int)=((a|||b).toNat:Int):=by
 rw[wrap_u64,bx_or U6.bits a.toNat_lt b.toNat_lt,UInt64.toNat_or]
 have:=J3 (n:=64) a.toNat_lt b.toNat_lt
 omega
theorem u8_shl (a:UInt8) (n:Int) (h0:0≤n) (h:n<8):U8.wrap ((a.toNat:Int)*2^(min n.toNat U8.bits))=((a<<<(Zt n.toNat)).toNat:Int):=by
 have hn:n.toNat<8:=by omega
 have hm:n.toNat<256:=by omega
 rw[wrap_u8,show min n.toNat U8.bits=n.toNat from by simp only[bits_u8];omega,UInt8.toNat_shiftLeft,J6,Jb,Zh (show n.toNat<2^8 from hm),Zh hn]
 rw[Jt,Jx,Z9];rfl
theorem u8_shr (a:UInt8) (n:Int) (h0:0≤n) (h:n<8):((a.toNat:Int).fdiv (2^(min n.toNat U8.bits)))=((a>>>(Zt n.toNat)).toNat:Int):=by
 have hn:n.toNat<8:=by omega
 have hm:n.toNat<256:=by omega
 rw[show min n.toNat U8.bits=n.toNat from by simp only[bits_u8];omega,Ko,Z0,Jb,Zh (show n.toNat<2^8 from hm),Zh hn,Z1 _ (Kc (Ki (by decide)))]
 rw[Ju,Z9];rfl
theorem u32_shl (a:UInt32) (n:Int) (h0:0≤n) (h:n<32):U3.wrap ((a.toNat:Int)*2^(min n.toNat U3.bits))=((a<<<(Zn n.toNat)).toNat:Int):=by
 have hn:n.toNat<32:=by omega
 have hm:n.toNat<4294967296:=by omega
 rw[wrap_u32,show min n.toNat U3.bits=n.toNat from by simp only[bits_u32];omega,Kp,J6,Jm,Zh (show n.toNat<2^32 from hm),Zh hn]
 rw[Jt,Jx,Z9];rfl
theorem u32_shr (a:UInt32) (n:Int) (h0:0≤n) (h:n<32):((a.toNat:Int).fdiv (2^(min n.toNat U3.bits)))=((a>>>(Zn n.toNat)).toNat:Int):=by
 have hn:n.toNat<32:=by omega
 have hm:n.toNat<4294967296:=by omega
 rw[show min n.toNat U3.bits=n.toNat from by simp only[bits_u32];omega,Jc,Z0,Jm,Zh (show n.toNat<2^32 from hm),Zh hn,Z1 _ (Kc (Ki (by decide)))]
 rw[Ju,Z9];rfl
theorem u32_shr_all (a:UInt32) (n:Int) (h:32≤n):((a.toNat:Int).fdiv (2^(min n.toNat U3.bits)))=0:=by
 rw[show min n.toNat U3.bits=32 from by simp only[bits_u32];omega,Z1 _ (by decide)]
 have:=a.toNat_lt
 exact Int.ediv_eq_zero_of_lt (by omega) (by omega)
theorem u64_shl (a:UInt64) (n:Int) (h0:0≤n) (h:n<64):U6.wrap ((a.toNat:Int)*2^(min n.toNat U6.bits))=((a<<<(UInt64.ofNat n.toNat)).toNat:Int):=by
 have hn:n.toNat<64:=by omega
 have hm:n.toNat<18446744073709551616:=by omega
 rw[wrap_u64,show min n.toNat U6.bits=n.toNat from by simp only[bits_u64];omega,UInt64.toNat_shiftLeft,J6,UInt64.toNat_ofNat',Zh (show n.toNat<2^64 from hm),Zh hn]
 rw[Jt,Jx,Z9];rfl
theorem u64_shr (a:UInt64) (n:Int) (h0:0≤n) (h:n<64):((a.toNat:Int).fdiv (2^(min n.toNat U6.bits)))=((a>>>(UInt64.ofNat n.toNat)).toNat:Int):=by
 have hn:n.toNat<64:=by omega
 have hm:n.toNat<18446744073709551616:=by omega
 rw[show min n.toNat U6.bits=n.toNat from by simp only[bits_u64];omega,UInt64.toNat_shiftRight,Z0,UInt64.toNat_ofNat',Zh (show n.toNat<2^64 from hm),Zh hn,Z1 _ (Kc (Ki (by decide)))]
 rw[Ju,Z9];rfl
theorem u32_mul (a b:UInt32):U3.wrap ((a.toNat:Int)*b.toNat)=((a*b).toNat:Int):=by
 rw[wrap_u32,UInt32.toNat_mul,Jt,Jx];rfl
theorem u8_u64 (a:UInt8):U6.wrap (a.toNat:Int)=((a.toUInt64).toNat:Int):=by
 have:=a.toNat_lt
 rw[wrap_u64,UInt8.toNat_toUInt64];omega
theorem u8_u32 (a:UInt8):U3.wrap (a.toNat:Int)=((a.toUInt32).toNat:Int):=by
 have:=a.toNat_lt
 rw[wrap_u32,UInt8.toNat_toUInt32];omega
theorem u8_i64 (a:UInt8):I6.wrap (a.toNat:Int)=(a.toNat:Int):=by
 have:=a.toNat_lt
 rw[IntKind.wrap_i64];omega
theorem u32_i64 (a:UInt32):I6.wrap (a.toNat:Int)=(a.toNat:Int):=by
 have:=a.toNat_lt
 rw[IntKind.wrap_i64];omega
theorem u32_u64 (a:UInt32):U6.wrap (a.toNat:Int)=((a.toUInt64).toNat:Int):=by
 have:=a.toNat_lt
 rw[wrap_u64,Z2];omega
theorem u64_u8 (a:UInt64):U8.wrap (a.toNat:Int)=((a.toUInt8).toNat:Int):=by
 rw[wrap_u8,UInt64.toNat_toUInt8];omega
theorem u64_u32 (a:UInt64):U3.wrap (a.toNat:Int)=((a.toUInt32).toNat:Int):=by
 rw[wrap_u32,UInt64.toNat_toUInt32];omega
theorem u32_u8 (a:UInt32):U8.wrap (a.toNat:Int)=((a.toUInt8).toNat:Int):=by
 rw[wrap_u8,Kz];omega
theorem nat_u8 (n:Nat):U8.wrap (n:Int)=((Zt n).toNat:Int):=by
 rw[wrap_u8,Jb];omega
theorem nat_u32 (n:Nat):U3.wrap (n:Int)=((Zn n).toNat:Int):=by
 rw[wrap_u32,Jm];omega
theorem nat_i64 (n:Nat) (h:n<9223372036854775808):I6.wrap (n:Int)=(n:Int):=by
 rw[IntKind.wrap_i64];omega
theorem sub_length {α:Type} {xs:List α} {i n:Nat}:(sub xs i n).length=min n (xs.length-i):=by simp[sub]
theorem spl_d {p:Prop} [Decidable p] {x y:Prop} (h1:p→x) (h2:¬p→y):spl (decide p) x y:=by
 by_cases h:p
 ·rw[decide_eq_true h];exact h1 h
 ·rw[decide_eq_false h];exact h2 h
theorem spl_eq {m n:Int} {x y:Prop} (h1:m=n→x) (h2:m≠n→y):spl (m==n) x y:=spl_i (fun h=>h1 (by simpa using h)) (fun h=>h2 (by simpa using h))
theorem spl_ne {m n:Int} {x y:Prop} (h1:m≠n→x) (h2:m=n→y):spl (m != n) x y:=spl_i (fun h=>h1 (by simpa using h)) (fun h=>h2 (by simpa using h))
def it {α:Type} (f:α→α):Nat→α→α
 |0,x=>x
 |n+1,x=>f (it f n x)
theorem it_next {α:Type} {f:α→α} {i:Nat} {x z:α} (h:z=it f i x):f z=it f (i+1) x:=by rw[h];rfl
theorem loopIt {β:Type} {m:Nat} {body:S→(X→S→Prop)→Prop} {s:S} {K:X→S→Prop} (f:β→β) (b0:β) (n:Nat) (I:Nat→β→D) (h0:Mt m s (I 0 b0)) (h:∀i z,i≤n→z=it f i b0→body (I i z).s fun e s'=>match e with
   | .normal=>∃y:Nat×β,(y.1≤n∧y.2=it f y.1 b0)∧n-y.1<n-i∧Mt m s' (I y.1 y.2)
   |e=>K e s'):LoopVC m body s K:=
 ⟨Nat×β,fun x=>I x.1 x.2,fun x=>x.1≤n∧x.2=it f x.1 b0,fun x=>n-x.1,⟨[],(0,b0),⟨Z6 _,rfl⟩,h0⟩,fun x hx=>h x.1 x.2 hx.1 hx.2⟩
theorem scopeIt {β:Type} {C:Ctx} {rt:Rt} {m:Nat} {c:Code} {s:S} {K:X→S→Prop} (l:Nat) {p q:Code} (hs:splitL c l=some (p,q)) (f:β→β) (b0:β) (n:Nat) (I:Nat→β→D) (h0:vc C rt m p s fun e s'=>match e with
   | .normal=>∃(l:List (Nat×Nat×B)) (y:Nat×β),(y.1≤n∧y.2=it f y.1 b0)∧nils l 0 s' fun s'=>Mt m s' (I y.1 y.2)
   | .goto l'=>l'=l∧∃y:Nat×β,(y.1≤n∧y.2=it f y.1 b0)∧Mt m s' (I y.1 y.2)
   |e=>K e s') (h:∀i z,i≤n→z=it f i b0→vc C rt m q (I i z).s fun e s'=>match e with
   | .goto l'=>l'=l∧∃y:Nat×β,(y.1≤n∧y.2=it f y.1 b0)∧n-y.1<n-i∧Mt m s' (I y.1 y.2)
   |e=>K e s'):scopeVC C rt m c s K:=
 ⟨l,Nat×β,fun x=>I x.1 x.2,fun x=>x.1≤n∧x.2=it f x.1 b0,fun x=>n-x.1,by rw[hs];exact⟨h0,fun x hx=>h x.1 x.2 hx.1 hx.2⟩⟩
theorem loopN {m:Nat} {body:S→(X→S→Prop)→Prop} {s:S} {K:X→S→Prop} (I:Nat→D) (n:Nat) (h0:Mt m s (I 0)) (h:∀i,i≤n→body (I i).s fun e s'=>match e with
   | .normal=>∃y,y≤n∧n-y<n-i∧Mt m s' (I y)
   |e=>K e s'):LoopVC m body s K:=
 ⟨Nat,I,fun i=>i≤n,fun i=>n-i,⟨[],0,Z6 _,h0⟩,h⟩
theorem loopNn {m:Nat} {body:S→(X→S→Prop)→Prop} {s:S} {K:X→S→Prop} (I:Nat→D) (n:Nat) (l:List (Nat×Nat×B)) (h0:nils l 0 s fun s=>Mt m s (I 0)) (h:∀i,i≤n→body (I i).s fun e s'=>match e with
   | .normal=>∃y,y≤n∧n-y<n-i∧Mt m s' (I y)
   |e=>K e s'):LoopVC m body s K:=
 ⟨Nat,I,fun i=>i≤n,fun i=>n-i,⟨l,0,Z6 _,h0⟩,h⟩
def loadL (l:Bs):UInt64:=l.foldl (fun n x=>n<<<8|||x.toUInt64) 0
def storeL (n:UInt64):Nat→Bs
 |0=>[]
 |k+1=>storeL (n>>>8) k++[n.toUInt8]
theorem storeL_len:∀(k:Nat) (n:UInt64),(storeL n k).length=k
 |0,_=>rfl
 |k+1,n=>by simp[storeL,storeL_len k]
def rol (v:UInt32) (k:Nat):UInt32:=v<<<Zn k|||v>>>Zn (32-k)
theorem rest_eq (n b:Int) (hb:0<b):(n.tmod b+b).tmod b=n%b:=by
 have h1: -b<n.tmod b:=J2 n hb
 rw[Jk (by omega),Int.add_emod_right,Int.tmod_def,Int.sub_mul_emod_self_left]
theorem c_rest {n b:Int} (hb:0<b) (hb2:b≤4611686018427387904) (hn: -9223372036854775808≤n∧n≤9223372036854775807):Con C N.words_rest [i64 n,i64 b] [] (.ret (i64 (n%b))) []:=by
 refine fd.words_rest.c ?_
 refine⟨by omega,by omega,?_⟩
 refine⟨_,rfl,[],q7i ?_,trivial⟩
 have h1: -b<n.tmod b:=J2 n hb
 have h2:n.tmod b<b:=Kg n hb
 rw[Za _ (by omega)]
 exact rest_eq n b hb
theorem loadL_step {l:Bs} {i:Nat} (h:i<l.length):loadL (l.take (i+1))=loadL (l.take i)<<<8|||(l[i]).toUInt64:=by
 unfold loadL
 rw[Zr h,J4]
 rfl
theorem c_load {n:Nat} {va:List Value} {l:Bs} (ha:va=bv l) (hn:l.length=n) (hm:n≤1073741824):Con C N.words_load [.z n va] [] (.ret (u64 (loadL l))) []:=by
 subst ha;subst hn
 refine fd.words_load.c ?_
 refine⟨0,Nat,fun i=>⟨[(0,bz l),(3,u64 (loadL (l.take i))),(4,i64 i)],[]⟩,fun i=>i≤l.length,fun i=>l.length-i,⟨[],0,Z6 _,[],⟨rfl,rfl,rfl,trivial⟩,trivial⟩,fun i hi=> ?_⟩
 refine spl_d (fun h=> ?_) (fun h=> ?_)
 ·have hlt:i<l.length:=(by omega)
  refine⟨by omega,by omega,by omega,_,bv_get (i:=i) hlt,?_⟩
  refine⟨rfl,i+1,hlt,J7 _ _ hlt,[],⟨rfl,congrArg (vi .u64) ?_,q7i (by simp(disch:=omega)only[Za];omega),trivial⟩,trivial⟩
  rw[u64_shl _ _ (by decide) (by decide),u8_u64,u64_or,loadL_step hlt]
  rfl
 ·obtain rfl:i=l.length:=Ka hi (by omega)
  refine⟨_,rfl,[],congrArg (vi .u64) ?_,trivial⟩
  rw[Zq]
theorem c_store {x:Int} {n:UInt64} {k:Int} {m:Nat} (hx:x=n.toNat) (hk:k=m) (hm:m≤1073741824):Con C N.words_store [vi .u64 x,i64 k] [] (.ret (.o 1 (.k 0) 0 m)) [.sc (bv (storeL n m))]:=by
 subst hk;subst hx
 refine fd.words_store.c ?_
 refine⟨0,Nat×UInt64×Bs,fun x=>⟨[(0,u64 x.2.1),(5,.o 1 (.k 0) 0 m),(6,i64 x.1)],[.sc (bv (Zk x.1 0++x.2.2))]⟩,fun x=>x.1≤m∧x.1+x.2.2.length=m∧storeL x.2.1 x.1++x.2.2=storeL n m,fun x=>x.1,
  ⟨by omega,by omega,by omega,[],(m,n,[]),⟨Zp _,by simp,by simp⟩,[.d 8 0],⟨rfl,rfl,rfl,trivial⟩,⟨_,rfl,q7s (by simp[bv])⟩,trivial⟩,?_⟩
 rintro ⟨i,v,l⟩ ⟨hi,hl,he⟩
 simp only at hi hl he
 refine spl_d (fun h=> ?_) (fun h=> ?_)
 ·have hp:0<i:=(by omega)
  have e1:I6.wrap ((i:Int)-1)=((i-1:Nat):Int):=by simp only[IntKind.wrap_i64];omega
  refine⟨(by simp(disch:=omega)only[Za];omega),(by simp(disch:=omega)only[Za];omega),(by simp only[storeL_len,bv_len,iv_len,wv_len,Ze,Zj,Zu,Zv,Zx,Zs,Zw,sub_length,Zi,Zy,Zo];omega),by omega,rfl,(i-1,v>>>8,v.toUInt8::l),⟨by omega,(by simp only[storeL_len,bv_len,iv_len,wv_len,Ze,Zj,Zu,Zv,Zx,Zs,Zw,sub_length,Zi,Zy,Zo];omega),?_⟩,(by simp(disch:=omega)only[Za];omega),[.k 0],⟨congrArg (vi .u64) ?_,rfl,q7i e1,trivial⟩,⟨_,rfl,q7s ?_⟩,trivial⟩
  ·obtain⟨j,rfl⟩:∃j,i=j+1:=⟨i-1,by omega⟩
   rw[←he]
   simp[storeL]
  ·exact u64_shr v 8 (by decide) (by decide)
  ·rw[e1,u64_u8,bv_set]
   congr 1
   obtain⟨j,rfl⟩:∃j,i=j+1:=⟨i-1,by omega⟩
   simp[List.replicate_succ']
 ·obtain rfl:i=0:=(by omega)
  refine⟨_,rfl,[.k 0],rfl,⟨_,rfl,q7s ?_⟩,trivial⟩
  rw[show l=storeL n m by simpa [storeL]using he];rfl
theorem c_turned {n:Nat} {va:List Value} {l:Bs} (ha:va=bv l) (hn:l.length=n) (hm:n≤1073741824):Con C N.words_turned [.z n va] [] (.ret (.o 1 (.k 0) 0 n)) [.sc (bv l.reverse)]:=by
 subst ha;subst hn
 refine fd.words_turned.c ?_
 refine⟨by omega,by omega,by omega,?_⟩
 refine⟨Nat,fun i=>⟨[(0,bz l),(3,.o 1 (.k 0) 0 i),(4,i64 (l.length-1-i))],[.sc (bv (l.reverse.take i))]⟩,fun i=>i≤l.length,fun i=>l.length-i,⟨[],0,Z6 _,[.d 7 0],⟨rfl,rfl,?_,trivial⟩,⟨_,rfl,rfl⟩,trivial⟩,fun i hi=> ?_⟩
 ·exact q7i (by simp(disch:=omega)only[Za];omega)
 refine spl_d (fun h=> ?_) (fun h=> ?_)
 ·have hlt:i<l.length:=(by omega)
  have e:((l.length:Int)-1-(i:Int)).toNat=l.length-1-i:=(by omega)
  refine⟨by omega,by omega,?_⟩
  refine⟨_,by rw[e];exact bv_get (i:=l.length-1-i) (by omega),?_⟩
  refine⟨(by simp only[storeL_len,bv_len,iv_len,wv_len,Ze,Zj,Zu,Zv,Zx,Zs,Zw,sub_length,Zi,Zy,Zo];omega),by omega,(by simp only[storeL_len,bv_len,iv_len,wv_len,Ze,Zj,Zu,Zv,Zx,Zs,Zw,sub_length,Zi,Zy,Zo];omega),i+1,by omega,(by simp(disch:=omega)only[Za];omega),[.d 21 0],⟨rfl,rfl,q7i (by simp(disch:=omega)only[Za];omega),trivial⟩,⟨_,rfl,q7s ?_⟩,trivial⟩
  have e2:l.reverse[i]'(by simpa using hlt)=l[l.length-1-i]:=by rw[Js]
  rw[Zr (by simpa using hlt),←bv_app,e2,bv_sub]
  simp[sub,bv,List.take_take]
 ·obtain rfl:i=l.length:=Ka hi (by omega)
  refine⟨_,rfl,[.k 0],rfl,⟨_,rfl,q7s ?_⟩,trivial⟩
  rw[←Zi,Zq]
theorem c_be32 {n:Nat} {va:List Value} {l:Bs} (ha:va=bv l) (hn:l.length=4) (hn':n=4):Con C N.words_Be32 [.z n va] [] (.ret (.t [u32 (loadL l).toUInt32,bool true])) []:=by
 subst hn'
 refine fd.words_Be32.c ?_
 refine⟨[],_,_,_,_,c_load ha hn (by omega),rfl,rfl,?_⟩
 refine⟨_,rfl,[],congrArg (fun n=>V.t [vi .u32 n,bool true]) ?_,trivial⟩
 exact u64_u32 _
theorem sub_all {α:Type} {l:List α} {n:Nat} (h:l.length=n):sub l 0 n=l:=by subst h;simp[sub]
theorem bv_all {l:Bs} {n:Nat} (h:l.length=n):sub (bv l) 0 n=bv l:=sub_all (by rw[bv_len,h])
theorem iv_all {l:List Int} {n:Nat} (h:l.length=n):sub (iv l) 0 n=iv l:=sub_all (by rw[iv_len,h])
theorem wv_all {l:List UInt32} {n:Nat} (h:l.length=n):sub (wv l) 0 n=wv l:=sub_all (by rw[wv_len,h])
theorem c_le32 {n:Nat} {va:List Value} {l:Bs} (ha:va=bv l) (hn:l.length=4) (hn':n=4):Con C N.words_Le32 [.z n va] [] (.ret (.t [u32 (loadL l.reverse).toUInt32,bool true])) []:=by
 subst hn'
 refine fd.words_Le32.c ?_
 refine⟨[],_,_,_,_,c_turned ha hn (by omega),rfl,rfl,?_⟩
 refine⟨[],_,_,_,_,c_be32 (l:=l.reverse) (bv_all (by simpa using hn)) (by simpa using hn) rfl,rfl,rfl,?_⟩
 exact⟨_,rfl,[],rfl,trivial⟩
theorem c_putBe32 {x:Int} {v:UInt32} (hx:x=v.toNat):Con C N.words_PutBe32 [vi .u32 x] [] (.ret (.o 1 (.k 0) 0 4)) [.sc (bv (storeL v.toUInt64 4))]:=by
 subst hx
 refine fd.words_PutBe32.c ?_
 refine⟨[],_,_,_,_,c_store (m:=4) (u32_u64 v) rfl (by omega),rfl,rfl,?_⟩
 exact⟨_,rfl,[.d 5 0],rfl,⟨_,rfl,rfl⟩,trivial⟩
theorem c_putLe32 {x:Int} {v:UInt32} (hx:x=v.toNat):Con C N.words_PutLe32 [vi .u32 x] [] (.ret (.o 1 (.k 0) 0 4)) [.sc (bv (storeL v.toUInt64 4).reverse)]:=by
 subst hx
 refine fd.words_PutLe32.c ?_
 refine⟨[],_,_,_,_,c_putBe32 rfl,rfl,rfl,?_⟩
 refine⟨[],_,_,_,_,c_turned (l:=storeL v.toUInt64 4) (bv_all (storeL_len _ _)) (storeL_len _ _) (by omega),rfl,rfl,?_⟩
 exact⟨_,rfl,[.d 5 0],rfl,⟨_,rfl,rfl⟩,trivial⟩
theorem c_putBe64 {x:Int} {v:UInt64} (hx:x=v.toNat):Con C N.words_PutBe64 [vi .u64 x] [] (.ret (.o 1 (.k 0) 0 8)) [.sc (bv (storeL v 8))]:=by
 refine fd.words_PutBe64.c ?_
 refine⟨[],_,_,_,_,c_store (m:=8) hx rfl (by omega),rfl,rfl,?_⟩
 exact⟨_,rfl,[.d 4 0],rfl,⟨_,rfl,rfl⟩,trivial⟩
theorem rol_go (v:UInt32) {k:Int} (h0:0≤k) (h1:k<32):
  U3.wrap ((Zc U3.bits (U3.wrap ((v.toNat:Int)*2^(min k.toNat U3.bits)))|||Zc U3.bits ((v.toNat:Int).fdiv (2^(min (32-k).toNat U3.bits)))).toNat:Int)=((rol v k.toNat).toNat:Int):=by
 rw[u32_shl _ _ h0 h1]
 unfold rol
 by_cases hz:k=0
 ·subst hz
  rw[u32_shr_all _ _ (by decide),show(0:Int)=((0:UInt32).toNat:Int) from rfl,u32_or]
  refine congrArg (fun z:UInt32=>(z.toNat:Int)) (UInt32.toNat_inj.1 ?_)
  show(v<<<Zn 0|||0).toNat=(v<<<Zn 0|||v>>>Zn (32-0)).toNat
  simp[UInt32.toNat_or,Kp,Jc]
 ·rw[u32_shr _ _ (by omega) (by omega),u32_or]
  congr 5
  omega
theorem c_rol32 {x n:Int} {v:UInt32} (hx:x=v.toNat) (hn: -9223372036854775808≤n∧n≤9223372036854775807):Con C N.words_Rol32 [vi .u32 x,i64 n] [] (.ret (u32 (rol v (n%32).toNat))) []:=by
 subst hx
 refine fd.words_Rol32.c ?_
 refine⟨[],_,_,_,_,c_rest (b:=32) (by decide) (by decide) hn,rfl,rfl,?_⟩
 have h0:0≤n%32:=(by omega)
 have h1:n%32<32:=(by omega)
 have e1:U6.wrap (n%32)=n%32:=by rw[wrap_u64];omega
 have e2:U6.wrap (32-U6.wrap (n%32))=32-n%32:=by rw[e1,wrap_u64];omega
 refine⟨?_,?_,_,rfl,[],congrArg (vi .u32) ?_,trivial⟩
 ·rw[e1];exact h0
 ·rw[e2];omega
 ·rw[e2,e1];exact rol_go v h0 h1
def xorL (a b:Bs):Bs:=List.zipWith (· ^^^ ·) a b
theorem xorL_len {a b:Bs} {n:Nat} (ha:a.length=n) (hb:b.length=n):(xorL a b).length=n:=by simp[xorL,ha,hb]
theorem xorL_step {a b:Bs} {i:Nat} (ha:i<a.length) (hb:i<b.length):xorL (a.take (i+1)) (b.take (i+1))=xorL (a.take i) (b.take i)++[a[i]^^^b[i]]:=by
 unfold xorL
 rw[Zr ha,Zr hb,List.zipWith_append (by simp;omega)]
 rfl
theorem set_app {α:Type} {l:List α} {x y:α} {n:Nat} {r:List α} (h:l.length=n):(l++y::r).set n x=l++x::r:=by
 subst h
 simp
theorem c_xor {n:Nat} {va vb:List Value} {a b:Bs} (ha:va=bv a) (hb:vb=bv b) (la:a.length=n) (lb:b.length=n) (hm:n≤1073741824):Con C N.words_Xor [.z n va,.z n vb] [] (.ret (.t [.o 1 (.k 0) 0 n,bool true])) [.sc (bv (xorL a b))]:=by
 subst ha;subst hb
 refine fd.words_Xor.c ?_
 refine spl_ne (fun h=>absurd rfl h) (fun _=> ?_)
 refine⟨by omega,by omega,by omega,?_⟩
 refine loopN (fun i=>⟨[(0,.z n (bv a)),(1,.z n (bv b)),(6,.o 1 (.k 0) 0 n),(17,i64 n),(18,i64 i)],[.sc (bv (xorL (a.take i) (b.take i)++Zk (n-i) 0))]⟩) n ⟨[.d 15 0],⟨rfl,rfl,rfl,rfl,rfl,trivial⟩,⟨_,rfl,q7s (by simp[bv,xorL])⟩,trivial⟩ fun i hi=> ?_
 refine spl_d (fun h=> ?_) (fun h=> ?_)
 ·have hlt:i<n:=(by omega)
  refine⟨by omega,by omega,_,bv_get (i:=i) (by omega),by omega,by omega,_,bv_get (i:=i) (by omega),by omega,by omega,?_,i+1,by omega,by omega,[.k 0],⟨rfl,rfl,rfl,rfl,q7i (by simp(disch:=omega)only[Za];omega),trivial⟩,⟨_,rfl,q7s ?_⟩,trivial⟩
  ·rw[bv_len];simp[xorL];omega
  ·rw[u8_xor,bv_set,xorL_step (by omega) (by omega),show n-i=(n-(i+1))+1 from (by omega),Kb]
   congr 1
   rw[set_app (by simp[xorL];omega)]
   simp
 ·obtain rfl:i=n:=(by omega)
  refine⟨_,rfl,[.k 0],rfl,⟨_,rfl,q7s ?_⟩,trivial⟩
  rw[←la]
  conv=>lhs;rw[Zq,la,←lb,Zq]
  simp
theorem c_r1_rest {n b:Int} (hb:0<b) (hb2:b≤4611686018427387904) (hn: -9223372036854775808≤n∧n≤9223372036854775807):Con C N.r1_rest [i64 n,i64 b] [] (.ret (i64 (n%b))) []:=by
 refine fd.r1_rest.c ?_
 refine⟨by omega,by omega,?_⟩
 refine⟨_,rfl,[],q7i ?_,trivial⟩
 have h1: -b<n.tmod b:=J2 n hb
 have h2:n.tmod b<b:=Kg n hb
 rw[Za _ (by omega)]
 exact rest_eq n b hb
theorem c_r1_rol32 {x n:Int} {v:UInt32} (hx:x=v.toNat) (hn: -9223372036854775808≤n∧n≤9223372036854775807):Con C N.r1_Rol32 [vi .u32 x,i64 n] [] (.ret (u32 (rol v (n%32).toNat))) []:=by
 subst hx
 refine fd.r1_Rol32.c ?_
 refine⟨[],_,_,_,_,c_r1_rest (b:=32) (by decide) (by decide) hn,rfl,rfl,?_⟩
 have h0:0≤n%32:=(by omega)
 have h1:n%32<32:=(by omega)
 have e1:U6.wrap (n%32)=n%32:=by rw[wrap_u64];omega
 have e2:U6.wrap (32-U6.wrap (n%32))=32-n%32:=by rw[e1,wrap_u64];omega
 refine⟨?_,?_,_,rfl,[],congrArg (vi .u32) ?_,trivial⟩
 ·rw[e1];exact h0
 ·rw[e2];omega
 ·rw[e2,e1];exact rol_go v h0 h1
theorem c_both {n:Nat} {va vb:List Value} {a b:Bs} (ha:va=bv a) (hb:vb=bv b) (la:a.length=n) (lb:b.length=n) (hm:n≤1073741824):Con C N.r1_Both [.z n va,.z n vb] [] (.ret (.o 1 (.k 0) 0 n)) [.sc (bv (xorL a b))]:=by
 subst ha;subst hb
 refine fd.r1_Both.c ?_
 refine⟨by omega,by omega,by omega,?_⟩
 refine loopN (fun i=>⟨[(0,.z n (bv a)),(1,.z n (bv b)),(5,.o 1 (.k 0) 0 n),(6,i64 i)],[.sc (bv (xorL (a.take i) (b.take i)++Zk (n-i) 0))]⟩) n ⟨[.d 9 0],⟨rfl,rfl,rfl,rfl,trivial⟩,⟨_,rfl,q7s (by simp[bv,xorL])⟩,trivial⟩ fun i hi=> ?_
 refine spl_d (fun h=> ?_) (fun h=> ?_)
 ·have hlt:i<n:=(by omega)
  refine⟨by omega,by omega,_,bv_get (i:=i) (by omega),by omega,by omega,_,bv_get (i:=i) (by omega),by omega,by omega,?_,i+1,by omega,by omega,[.k 0],⟨rfl,rfl,rfl,q7i (by simp(disch:=omega)only[Za];omega),trivial⟩,⟨_,rfl,q7s ?_⟩,trivial⟩
  ·rw[bv_len];simp[xorL];omega
  ·rw[u8_xor,bv_set,xorL_step (by omega) (by omega),show n-i=(n-(i+1))+1 from (by omega),Kb]
   congr 1
   rw[set_app (by simp[xorL];omega)]
   simp
 ·obtain rfl:i=n:=(by omega)
  refine⟨_,rfl,[.k 0],rfl,⟨_,rfl,q7s ?_⟩,trivial⟩
  rw[←la]
  conv=>lhs;rw[Zq,la,←lb,Zq]
  simp
theorem store4 (v:UInt32):storeL v.toUInt64 4=[(v>>>24).toUInt8,(v>>>16).toUInt8,(v>>>8).toUInt8,v.toUInt8]:=by
 have h:∀(x:UInt64) (y:UInt32),x.toNat=y.toNat→x.toUInt8=y.toUInt8:=fun x y e=>Ku.1 (by rw[UInt64.toNat_toUInt8,Kz,e])
 have e0:v.toUInt64.toNat=v.toNat:=Z2 v
 have s:∀x:UInt64,(x>>>8).toNat=x.toNat>>>8:=fun x=>by rw[UInt64.toNat_shiftRight];rfl
 simp only[storeL,Jp,List.cons_append]
 rw[h (v.toUInt64>>>8>>>8>>>8) (v>>>24),h (v.toUInt64>>>8>>>8) (v>>>16),h (v.toUInt64>>>8) (v>>>8),h v.toUInt64 v e0]
 ·rw[s,e0,Jc];rfl
 ·rw[s,s,e0,Jc,←Kd];rfl
 ·rw[s,s,s,e0,Jc,←Kd,←Kd];rfl
theorem c_r1_putBe32 {x:Int} {v:UInt32} (hx:x=v.toNat):Con C N.r1_PutBe32 [vi .u32 x] [] (.ret (.o 1 (.k 0) 0 4)) [.sc (bv (storeL v.toUInt64 4))]:=by
 subst hx
 refine fd.r1_PutBe32.c ?_
 refine⟨by omega,by omega,by omega,?_⟩
 refine⟨_,rfl,[.d 14 0],rfl,⟨_,rfl,q7s ?_⟩,trivial⟩
 rw[u32_shr _ _ (by decide) (by decide),u32_shr _ _ (by decide) (by decide),u32_shr _ _ (by decide) (by decide),u32_u8,u32_u8,u32_u8,u32_u8,store4]
 rfl
theorem c_r1_putLe32 {x:Int} {v:UInt32} (hx:x=v.toNat):Con C N.r1_PutLe32 [vi .u32 x] [] (.ret (.o 1 (.k 0) 0 4)) [.sc (bv (storeL v.toUInt64 4).reverse)]:=by
 subst hx
 refine fd.r1_PutLe32.c ?_
 refine⟨by omega,by omega,by omega,?_⟩
 refine⟨_,rfl,[.d 14 0],rfl,⟨_,rfl,q7s ?_⟩,trivial⟩
 rw[u32_shr _ _ (by decide) (by decide),u32_shr _ _ (by decide) (by decide),u32_shr _ _ (by decide) (by decide),u32_u8,u32_u8,u32_u8,u32_u8,store4]
 rfl
theorem store8 (v:UInt64):storeL v 8=storeL ((v>>>32).toUInt32).toUInt64 4++storeL (v.toUInt32).toUInt64 4:=by
 have h:∀(x y:UInt64),x.toNat%256=y.toNat%256→x.toUInt8=y.toUInt8:=fun x y e=>Ku.1 (by rw[UInt64.toNat_toUInt8,UInt64.toNat_toUInt8,e])
 have s:∀x:UInt64,(x>>>8).toNat=x.toNat/256:=fun x=>by rw[UInt64.toNat_shiftRight,Z0];rfl
 have s32:(v>>>32).toNat=v.toNat/4294967296:=by rw[UInt64.toNat_shiftRight,Z0];rfl
 have hv:=v.toNat_lt
 simp only[storeL,Jp,List.cons_append]
 congr 1
 ·exact h _ _ (by simp only[s,s32,Z2,UInt64.toNat_toUInt32];omega)
 congr 1
 ·exact h _ _ (by simp only[s,s32,Z2,UInt64.toNat_toUInt32];omega)
 congr 1
 ·exact h _ _ (by simp only[s,s32,Z2,UInt64.toNat_toUInt32];omega)
 congr 1
 ·exact h _ _ (by simp only[s,s32,Z2,UInt64.toNat_toUInt32];omega)
 congr 1
 ·exact h _ _ (by simp only[s,s32,Z2,UInt64.toNat_toUInt32];omega)
 congr 1
 ·exact h _ _ (by simp only[s,s32,Z2,UInt64.toNat_toUInt32];omega)
 congr 1
 ·exact h _ _ (by simp only[s,s32,Z2,UInt64.toNat_toUInt32];omega)
 congr 1
 exact h _ _ (by simp only[s,s32,Z2,UInt64.toNat_toUInt32];omega)
theorem c_r1_putBe64 {x:Int} {v:UInt64} (hx:x=v.toNat):Con C N.r1_PutBe64 [vi .u64 x] [] (.ret (.o 1 (.k 0) 0 8)) [.sc (bv (storeL v 8))]:=by
 subst hx
 refine fd.r1_PutBe64.c ?_
 refine⟨by omega,?_⟩
 refine⟨[],_,_,_,_,c_r1_putBe32 (v:=(v>>>32).toUInt32) (by rw[u64_shr _ _ (by decide) (by decide),u64_u32];rfl),rfl,rfl,?_⟩
 refine⟨[],_,_,_,_,c_r1_putBe32 (v:=v.toUInt32) (u64_u32 v),rfl,rfl,?_⟩
 refine⟨(by simp only[storeL_len,bv_len,iv_len,wv_len,Ze,Zj,Zu,Zv,Zx,Zs,Zw,sub_length,Zi,Zy,Zo];omega),by omega,(by simp only[storeL_len,bv_len,iv_len,wv_len,Ze,Zj,Zu,Zv,Zx,Zs,Zw,sub_length,Zi,Zy,Zo];omega),?_⟩
 refine⟨_,rfl,[.d 10 0],rfl,⟨_,rfl,q7s ?_⟩,trivial⟩
 rw[bv_all (storeL_len _ _),bv_all (storeL_len _ _),bv_app,store8]
theorem c_big {n:Nat} {va:List Value} {l:Bs} (ha:va=bv l) (hn:l.length=n) (hm:n≤1073741824):Con C N.r1_Big [.z n va] [] (.ret (u64 (loadL l))) []:=by
 subst ha;subst hn
 refine fd.r1_Big.c ?_
 refine loopN (fun i=>⟨[(0,bz l),(3,u64 (loadL (l.take i))),(4,i64 i)],[]⟩) l.length ⟨[],⟨rfl,rfl,rfl,trivial⟩,trivial⟩ fun i hi=> ?_
 refine spl_d (fun h=> ?_) (fun h=> ?_)
 ·have hlt:i<l.length:=(by omega)
  refine⟨by omega,by omega,by omega,_,bv_get (i:=i) hlt,i+1,hlt,J7 _ _ hlt,[],⟨rfl,congrArg (vi .u64) ?_,q7i (by simp(disch:=omega)only[Za];omega),trivial⟩,trivial⟩
  rw[u64_shl _ _ (by decide) (by decide),u8_u64,u64_or,loadL_step hlt]
  rfl
 ·obtain rfl:i=l.length:=Ka hi (by omega)
  refine⟨_,rfl,[],congrArg (vi .u64) ?_,trivial⟩
  rw[Zq]
theorem c_little {n:Nat} {va:List Value} {l:Bs} (ha:va=bv l) (hn:l.length=n) (hm:n≤1073741824):Con C N.r1_Little [.z n va] [] (.ret (u64 (loadL l.reverse))) []:=by
 subst ha;subst hn
 refine fd.r1_Little.c ?_
 refine loopN (fun i=>⟨[(0,bz l),(3,u64 (loadL (l.reverse.take i))),(4,i64 (l.length-i))],[]⟩) l.length ⟨[],⟨rfl,rfl,q7i (by simp),trivial⟩,trivial⟩ fun i hi=> ?_
 refine spl_d (fun h=> ?_) (fun h=> ?_)
 ·have hlt:i<l.length:=(by omega)
  have e:(I6.wrap ((l.length:Int)-i-1)).toNat=l.length-1-i:=by simp only[IntKind.wrap_i64];omega
  refine⟨by omega,(by simp(disch:=omega)only[Za];omega),by omega,?_⟩
  refine⟨_,by rw[e];exact bv_get (i:=l.length-1-i) (by omega),?_⟩
  refine⟨i+1,hlt,J7 _ _ hlt,[],⟨rfl,congrArg (vi .u64) ?_,q7i (by simp(disch:=omega)only[Za];omega),trivial⟩,trivial⟩
  rw[u64_shl _ _ (by decide) (by decide),u8_u64,u64_or,loadL_step (by simpa using hlt),Js]
  rfl
 ·obtain rfl:i=l.length:=Ka hi (by omega)
  refine⟨_,rfl,[],congrArg (vi .u64) ?_,trivial⟩
  rw[←Zi,Zq]
theorem wv_getD {k:List UInt32} {i:Nat} (h:i<k.length):(wv k)[i]? =some (.int .u32 (k.getD i 0).toNat):=by
 rw[wv_get h,Zd,Zf h];rfl
theorem bv_getD {k:Bs} {i:Nat} (h:i<k.length):(bv k)[i]? =some (.int .u8 (k.getD i 0).toNat):=by
 rw[bv_get h,Zd,Zf h];rfl
theorem iv_getD {k:List Int} {i:Nat} (h:i<k.length):(iv k)[i]? =some (.int .i64 (k.getD i 0)):=by
 rw[iv_get h,Zd,Zf h];rfl
theorem c_growB {n:Int} (h:0<n) (hm:n≤1073741824):Con C N.slices_Grow_byte [.s (.slice none 0 0),i64 n] [] (.ret (.o 1 (.k 0) 0 0)) [.sc (bv (Zk n.toNat 0))]:=by
 refine fd.slices_Grow_byte.c ?_
 refine spl_d (fun h=>absurd h (by omega)) (fun _=> ?_)
 have e1:I6.wrap (n-I6.wrap (0-((0:Nat):Int)))=n:=by simp only[IntKind.wrap_i64];omega
 refine spl_t (decide_eq_true (by rw[e1];exact h)) ?_
 refine⟨Jh 0,Zp 0,Zp 0,Zp 0,?_⟩
 refine⟨by rw[e1];exact h,by rw[e1];exact hm,_,rfl,?_⟩
 refine⟨Jh 0,Zp 0,Zp 0,Z6 _,?_⟩
 refine⟨_,rfl,[.d 22 0],rfl,⟨_,rfl,q7s ?_⟩,trivial⟩
 rw[e1]
 exact bv_rep _
theorem c_concatB {n:Nat} {ls:List (Bs)} {xs:List V} (hx:xs=ls.map fun l=>bz l) (hn:ls.length=n) (h0:0<ls.flatten.length) (hm:ls.flatten.length≤1073741824) (hn2:n≤1073741824):Con C N.slices_Concat_byte [.zz 1 n xs] [] (.ret (.o 1 (.k 0) 0 ls.flatten.length)) [.sc (bv ls.flatten)]:=by
 subst hx;subst hn
 have get:∀i,(h:i<ls.length)→(ls.map fun l=>bz l)[i]? =some (bz ls[i]):=fun i h=>by simp[h]
 have stepL:∀i,(h:i<ls.length)→(ls.take (i+1)).flatten=(ls.take i).flatten++ls[i]:=fun i h=>by rw[Zr h,Jw,List.flatten_cons,List.flatten_nil,Z8]
 have le:∀i,(ls.take i).flatten.length≤ls.flatten.length:=fun i=>by
  conv=>rhs;rw[←Kx i ls,Jw,Ze]
  omega
 refine fd.slices_Concat_byte.c ?_
 refine loopN (fun i=>⟨[(0,.zz 1 ls.length (ls.map fun l=>bz l)),(3,i64 (ls.take i).flatten.length),(9,.zz 1 ls.length (ls.map fun l=>bz l)),(10,i64 ls.length),(11,i64 i)],[]⟩) ls.length ⟨[],⟨rfl,rfl,rfl,rfl,rfl,trivial⟩,trivial⟩ fun i hi=> ?_
 refine spl_d (fun h=> ?_) (fun h=> ?_)
 ·have hlt:i<ls.length:=(by omega)
  have e:((i:Int)).toNat*1=i:=(by omega)
  have l1:=le (i+1)
  rw[stepL i hlt,Ze]at l1
  have e1:I6.wrap (((ls.take i).flatten.length:Int)+(ls[i].length:Nat))=((ls.take (i+1)).flatten.length:Nat):=by rw[stepL i hlt,Ze];simp only[IntKind.wrap_i64];omega
  refine⟨by omega,by omega,?_⟩
  refine⟨_,by rw[e];exact get i hlt,?_⟩
  refine spl_f (decide_eq_false (by rw[e1];omega)) ?_
  exact⟨i+1,by omega,by omega,[],⟨rfl,q7i e1,rfl,rfl,q7i (by simp(disch:=omega)only[Za];omega),trivial⟩,trivial⟩
 ·obtain rfl:i=ls.length:=(by omega)
  refine⟨[],_,_,_,_,c_growB (n:=ls.flatten.length) (by omega) (by omega),?_,rfl,?_⟩
  ·show[V.s (.slice none 0 0),i64 _]=_
   rw[Zq]
  refine⟨Nat×Bs,fun x=>⟨[(6,.o 1 (.k 0) 0 (ls.take x.1).flatten.length),(25,.zz 1 ls.length (ls.map fun l=>bz l)),(26,i64 ls.length),(27,i64 x.1)],[.sc (bv ((ls.take x.1).flatten++x.2))]⟩,fun x=>x.1≤ls.length∧(x.1=ls.length→x.2=[]),fun x=>ls.length-x.1,⟨[],(0,Zk ls.flatten.length 0),⟨Z6 _,fun h=> ?_⟩,[.d 24 0],⟨rfl,rfl,rfl,rfl,trivial⟩,⟨_,rfl,q7s ?_⟩,trivial⟩,?_⟩
  ·exfalso
   have:ls=[]:=J8 h.symm
   subst this
   simp at h0
  ·simp
  rintro ⟨i,z⟩ ⟨hi,hz⟩
  simp only at hi hz
  refine spl_d (fun h=> ?_) (fun h=> ?_)
  ·have hlt:i<ls.length:=(by omega)
   have e:((i:Int)).toNat*1=i:=(by omega)
   have l1:=le (i+1)
   rw[stepL i hlt,Ze]at l1
   refine⟨by omega,by omega,?_⟩
   refine⟨_,by rw[e];exact get i hlt,?_⟩
   refine⟨(by simp[storeL_len,bv_len,iv_len,wv_len,Ze,Zj,Zu,Zv,Zx,Zs,Zw,sub_length,Zi,Zy,Zo];done),(by simp(disch:=omega)only[Za];omega),(by simp only[storeL_len,bv_len,iv_len,wv_len,Ze,Zj,Zu,Zv,Zx,Zs,Zw,sub_length,Zi,Zy,Zo];omega),?_⟩
   refine⟨(i+1,[]),⟨by omega,fun _=>rfl⟩,(by simp(disch:=omega)only[Za];omega),[.d 33 0],⟨?_,rfl,rfl,q7i (by simp(disch:=omega)only[Za];omega),trivial⟩,⟨_,rfl,q7s ?_⟩,trivial⟩
   ·show V.o 1 (.k 0) 0 _=V.o 1 (.k 0) 0 _
    rw[stepL i hlt,Ze]
   ·rw[bv_sub,bv_app,stepL i hlt]
    simp[sub]
  ·obtain rfl:i=ls.length:=(by omega)
   refine⟨_,rfl,[.k 0],?_,⟨_,rfl,q7s ?_⟩,trivial⟩
   ·show V.o 1 (.k 0) 0 _=V.o 1 (.k 0) 0 _
    rw[Zq]
   ·rw[Zq,hz rfl,Z8]
theorem c_concatB' {n:Nat} {ls:List (Bs)} {t:Bs} {xs:List V} (ht:ls.flatten=t) (hx:xs=ls.map fun l=>bz l) (hn:ls.length=n) (h0:0<t.length) (hm:t.length≤1073741824) (hn2:n≤1073741824:=by first|decide|simp):Con C N.slices_Concat_byte [.zz 1 n xs] [] (.ret (.o 1 (.k 0) 0 t.length)) [.sc (bv t)]:=by
 subst ht
 exact c_concatB hx hn h0 hm hn2
def stir (v key:UInt32):UInt32:=((v<<<4^^^v>>>5)+v)^^^key
def golden:UInt32:=2654435769
def xEnc (k:List UInt32) (x:UInt32×UInt32×UInt32):UInt32×UInt32×UInt32:=
 let v:=x.1+stir x.2.1 (x.2.2+k.getD (x.2.2&&&3).toNat 0)
 let s:=x.2.2+golden
 (v,x.2.1+stir v (s+k.getD (s>>>11&&&3).toNat 0),s)
def xDec (k:List UInt32) (x:UInt32×UInt32×UInt32):UInt32×UInt32×UInt32:=
 let w:=x.2.1-stir x.1 (x.2.2+k.getD (x.2.2>>>11&&&3).toNat 0)
 let s:=x.2.2-golden
 (x.1-stir w (s+k.getD (s&&&3).toNat 0),w,s)
theorem and3_lt (x:UInt32):(x&&&3).toNat<4:=by
 rw[J5]
 exact Jz (n:=2) _ (by decide)
theorem u32_and3 (s:UInt32):U3.wrap ((Zc U3.bits (s.toNat:Int)&&&Zc U3.bits 3).toNat:Int)=((s&&&3).toNat:Int):=u32_and s 3
theorem u32_gold (s:UInt32):U3.wrap ((s.toNat:Int)+2654435769)=((s+golden).toNat:Int):=u32_add s golden
theorem u32_goldS (s:UInt32):U3.wrap ((s.toNat:Int)-2654435769)=((s-golden).toNat:Int):=u32_sub s golden
theorem c_stir {x y:Int} {v k:UInt32} (hx:x=v.toNat) (hy:y=k.toNat):Con C N.small_stir [vi .u32 x,vi .u32 y] [] (.ret (u32 (stir v k))) []:=by
 subst hx;subst hy
 refine fd.small_stir.c ?_
 refine⟨by omega,by omega,_,rfl,[],congrArg (vi .u32) ?_,trivial⟩
 rw[u32_shl _ _ (by decide) (by decide),u32_shr _ _ (by decide) (by decide),u32_xor,u32_add,u32_xor]
 rfl
abbrev smallV (k:List UInt32) (tag:Int):V:= .q [wz k,i64 tag] 0
theorem c_xtea_enc {tag x y:Int} {k:List UInt32} {v w:UInt32} (hk:k.length=4) (hx:x=v.toNat) (hy:y=w.toNat):Con C N.small_Small_xtea [smallV k tag,vi .u32 x,vi .u32 y,bool false] []
  (.ret (.t [u32 (it (xEnc k) 32 (v,w,0)).1,u32 (it (xEnc k) 32 (v,w,0)).2.1])) []:=by
 subst hx;subst hy
 refine fd.small_Small_xtea.c ?_
 refine scopeIt 0 rfl (xEnc k) (v,w,0) 32 (fun i z=>⟨[(0,smallV k tag),(1,u32 z.1),(2,u32 z.2.1),(3,bool false),(10,u32 z.2.2),(11,i64 i)],[]⟩) ⟨[],(0,(v,w,0)),⟨Z6 _,rfl⟩,[],⟨rfl,rfl,rfl,rfl,rfl,rfl,trivial⟩,trivial⟩ fun i z hi hz=> ?_
 refine spl_eq (fun h=> ?_) (fun h=> ?_)
 ·obtain rfl:i=32:=(by omega)
  rw[←hz]
  exact⟨_,rfl,[],rfl,trivial⟩
 ·have hlt:i<32:=(by omega)
  have e1:=u32_and3 z.2.2
  have b1:=and3_lt z.2.2
  refine⟨_,rfl,?_⟩
  refine⟨by rw[e1];omega,by rw[e1,hk];omega,?_⟩
  refine⟨_,by rw[e1,Zb];exact wv_getD (i:=(z.2.2&&&3).toNat) (by omega),?_⟩
  refine⟨[],_,_,_,_,c_stir rfl (by rw[u32_add]),rfl,rfl,?_⟩
  have b2:=and3_lt ((z.2.2+golden)>>>11)
  have e2:U3.wrap ((Zc U3.bits ((U3.wrap ((z.2.2.toNat:Int)+2654435769)).fdiv (2^(min (11:Int).toNat U3.bits)))&&&Zc U3.bits 3).toNat:Int)=(((z.2.2+golden)>>>11&&&3).toNat:Int):=by
   rw[u32_gold,u32_shr _ _ (by decide) (by decide)];exact u32_and3 _
  refine⟨_,rfl,by omega,?_⟩
  refine⟨by rw[e2];omega,by rw[e2,hk];omega,?_⟩
  refine⟨_,by rw[e2,Zb];exact wv_getD (i:=((z.2.2+golden)>>>11&&&3).toNat) (by omega),?_⟩
  refine⟨[],_,_,_,_,c_stir (u32_add _ _) (by rw[u32_gold,u32_add]),rfl,rfl,?_⟩
  refine⟨rfl,(i+1,xEnc k z),⟨hlt,it_next hz⟩,by omega,[],⟨rfl,congrArg (vi .u32) (u32_add _ _),congrArg (vi .u32) (u32_add _ _),rfl,congrArg (vi .u32) (u32_gold _),q7i (by simp(disch:=omega)only[Za];omega),trivial⟩,trivial⟩
theorem c_xtea_dec {tag x y:Int} {k:List UInt32} {v w:UInt32} (hk:k.length=4) (hx:x=v.toNat) (hy:y=w.toNat):Con C N.small_Small_xtea [smallV k tag,vi .u32 x,vi .u32 y,bool true] []
  (.ret (.t [u32 (it (xDec k) 32 (v,w,3337565984)).1,u32 (it (xDec k) 32 (v,w,3337565984)).2.1])) []:=by
 subst hx;subst hy
 refine fd.small_Small_xtea.c ?_
 refine scopeIt 0 rfl (xDec k) (v,w,3337565984) 32 (fun i z=>⟨[(0,smallV k tag),(1,u32 z.1),(2,u32 z.2.1),(3,bool true),(10,u32 z.2.2),(11,i64 i)],[]⟩) ⟨[],(0,(v,w,3337565984)),⟨Z6 _,rfl⟩,[],⟨rfl,rfl,rfl,rfl,rfl,rfl,trivial⟩,trivial⟩ fun i z hi hz=> ?_
 refine spl_eq (fun h=> ?_) (fun h=> ?_)
 ·obtain rfl:i=32:=(by omega)
  rw[←hz]
  exact⟨_,rfl,[],rfl,trivial⟩
 ·have hlt:i<32:=(by omega)
  have b1:=and3_lt (z.2.2>>>11)
  have e1:U3.wrap ((Zc U3.bits ((z.2.2.toNat:Int).fdiv (2^(min (11:Int).toNat U3.bits)))&&&Zc U3.bits 3).toNat:Int)=((z.2.2>>>11&&&3).toNat:Int):=by
   rw[u32_shr _ _ (by decide) (by decide)];exact u32_and3 _
  refine⟨_,rfl,by omega,?_⟩
  refine⟨by rw[e1];omega,by rw[e1,hk];omega,?_⟩
  refine⟨_,by rw[e1,Zb];exact wv_getD (i:=(z.2.2>>>11&&&3).toNat) (by omega),?_⟩
  refine⟨[],_,_,_,_,c_stir rfl (by rw[u32_add]),rfl,rfl,?_⟩
  have b2:=and3_lt (z.2.2-golden)
  have e2:U3.wrap ((Zc U3.bits (U3.wrap ((z.2.2.toNat:Int)-2654435769))&&&Zc U3.bits 3).toNat:Int)=(((z.2.2-golden)&&&3).toNat:Int):=by
   rw[u32_goldS];exact u32_and3 _
  refine⟨_,rfl,?_⟩
  refine⟨by rw[e2];omega,by rw[e2,hk];omega,?_⟩
  refine⟨_,by rw[e2,Zb];exact wv_getD (i:=((z.2.2-golden)&&&3).toNat) (by omega),?_⟩
  refine⟨[],_,_,_,_,c_stir (u32_sub _ _) (by rw[u32_goldS,u32_add]),rfl,rfl,?_⟩
  refine⟨rfl,(i+1,xDec k z),⟨hlt,it_next hz⟩,by omega,[],⟨rfl,congrArg (vi .u32) (u32_sub _ _),congrArg (vi .u32) (u32_sub _ _),rfl,congrArg (vi .u32) (u32_goldS _),q7i (by simp(disch:=omega)only[Za];omega),trivial⟩,trivial⟩
theorem and3_mod (x:UInt32):(x&&&3).toNat=x.toNat%4:=by
 rw[J5]
 exact Jn x.toNat 2
abbrev rSmallV (k:List UInt32) (tag:Int):V:= .q [i64 tag,wz k] 0
theorem c_lays {tag x y t:Int} {k:List UInt32} {w s a:UInt32} (hk:k.length=4) (hx:x=w.toNat) (hy:y=s.toNat) (ht:t=a.toNat):Con C N.r8_Small_lays [rSmallV k tag,vi .u32 x,vi .u32 y,vi .u32 t] [] (.ret (u32 (stir w (s+k.getD (a&&&3).toNat 0)))) []:=by
 subst hx;subst hy;subst ht
 refine fd.r8_Small_lays.c ?_
 have e:((a.toNat:Int).tmod 4)=((a&&&3).toNat:Int):=by
  rw[and3_mod,Jk (Int.natCast_nonneg _)];rfl
 have b:=and3_lt a
 refine⟨by omega,by omega,_,rfl,by decide,?_⟩
 refine⟨by rw[e];omega,by rw[e,hk];omega,?_⟩
 refine⟨_,by rw[e,Zb];exact wv_getD (i:=(a&&&3).toNat) (by omega),?_⟩
 refine⟨_,rfl,[],congrArg (vi .u32) ?_,trivial⟩
 rw[u32_shl _ _ (by decide) (by decide),u32_shr _ _ (by decide) (by decide),u32_xor,u32_add,u32_add,u32_xor]
 rfl
theorem c_r8_xtea_enc {tag x y:Int} {k:List UInt32} {v w:UInt32} (hk:k.length=4) (hx:x=v.toNat) (hy:y=w.toNat):Con C N.r8_Small_xtea [rSmallV k tag,vi .u32 x,vi .u32 y,bool false] []
  (.ret (.t [u32 (it (xEnc k) 32 (v,w,0)).1,u32 (it (xEnc k) 32 (v,w,0)).2.1])) []:=by
 subst hx;subst hy
 refine fd.r8_Small_xtea.c ?_
 refine loopIt (xEnc k) (v,w,0) 32 (fun i z=>⟨[(0,rSmallV k tag),(1,u32 z.1),(2,u32 z.2.1),(10,u32 z.2.2),(11,i64 i)],[]⟩) ⟨[],⟨rfl,rfl,rfl,rfl,rfl,trivial⟩,trivial⟩ fun i z hi hz=> ?_
 refine spl_d (fun h=> ?_) (fun h=> ?_)
 ·have hlt:i<32:=(by omega)
  refine⟨[],_,_,_,_,c_lays hk rfl rfl rfl,rfl,rfl,?_⟩
  refine⟨by omega,?_⟩
  refine⟨[],_,_,_,_,c_lays hk (u32_add _ _) (u32_gold _) (by rw[u32_gold,u32_shr _ _ (by decide) (by decide)]),rfl,rfl,?_⟩
  refine⟨(i+1,xEnc k z),⟨hlt,it_next hz⟩,by omega,[],⟨rfl,congrArg (vi .u32) (u32_add _ _),congrArg (vi .u32) (u32_add _ _),congrArg (vi .u32) (u32_gold _),q7i (by simp(disch:=omega)only[Za];omega),trivial⟩,trivial⟩
 ·obtain rfl:i=32:=(by omega)
  rw[←hz]
  exact⟨_,rfl,[],rfl,trivial⟩
theorem c_r8_xtea_dec {tag x y:Int} {k:List UInt32} {v w:UInt32} (hk:k.length=4) (hx:x=v.toNat) (hy:y=w.toNat):Con C N.r8_Small_xtea [rSmallV k tag,vi .u32 x,vi .u32 y,bool true] []
  (.ret (.t [u32 (it (xDec k) 32 (v,w,3337565984)).1,u32 (it (xDec k) 32 (v,w,3337565984)).2.1])) []:=by
 subst hx;subst hy
 refine fd.r8_Small_xtea.c ?_
 refine loopIt (· +golden) 0 32 (fun i z=>⟨[(0,rSmallV k tag),(1,u32 v),(2,u32 w),(10,u32 z),(12,i64 i)],[]⟩) ⟨[],⟨rfl,rfl,rfl,rfl,rfl,trivial⟩,trivial⟩ fun i z hi hz=> ?_
 refine spl_d (fun h=> ?_) (fun h=> ?_)
 ·have hlt:i<32:=(by omega)
  refine⟨(i+1,z+golden),⟨hlt,it_next hz⟩,by omega,[],⟨rfl,rfl,rfl,congrArg (vi .u32) (u32_gold _),q7i (by simp(disch:=omega)only[Za];omega),trivial⟩,trivial⟩
 obtain rfl:i=32:=(by omega)
 obtain rfl:z=3337565984:=by rw[hz];decide
 refine loopIt (xDec k) (v,w,3337565984) 32 (fun i z=>⟨[(0,rSmallV k tag),(1,u32 z.1),(2,u32 z.2.1),(10,u32 z.2.2),(13,i64 i)],[]⟩) ⟨[],⟨rfl,rfl,rfl,rfl,rfl,trivial⟩,trivial⟩ fun i z hi hz=> ?_
 refine spl_d (fun h=> ?_) (fun h=> ?_)
 ·have hlt:i<32:=(by omega)
  refine⟨by omega,?_⟩
  refine⟨[],_,_,_,_,c_lays hk rfl rfl (by rw[u32_shr _ _ (by decide) (by decide)]),rfl,rfl,?_⟩
  refine⟨[],_,_,_,_,c_lays hk (u32_sub _ _) (u32_goldS _) (u32_goldS _),rfl,rfl,?_⟩
  refine⟨(i+1,xDec k z),⟨hlt,it_next hz⟩,by omega,[],⟨rfl,congrArg (vi .u32) (u32_sub _ _),congrArg (vi .u32) (u32_sub _ _),congrArg (vi .u32) (u32_goldS _),q7i (by simp(disch:=omega)only[Za];omega),trivial⟩,trivial⟩
 ·obtain rfl:i=32:=(by omega)
  rw[←hz]
  exact⟨_,rfl,[],rfl,trivial⟩
def digN (c:UInt8):Nat:=if 65≤c.toNat then c.toNat-55 else c.toNat-48
def isDig (c:UInt8):Bool:=decide (48≤c.toNat∧c.toNat≤57∨65≤c.toNat∧c.toNat≤70)
theorem digN_lt {c:UInt8} (h:isDig c=true):digN c<16:=by
 unfold isDig at h
 unfold digN
 have:=of_decide_eq_true h
 split<;>omega
theorem c_sign32 {x:Int} {c:UInt8} (hx:x=c.toNat) (h:isDig c=true):Con C N.small_sign [vi .u8 x] [] (.ret (u32 (Zn (digN c)))) []:=by
 subst hx
 have h':=of_decide_eq_true h
 refine fd.small_sign.c ?_
 refine spl_d (fun h1=> ?_) (fun h1=> ?_)
 ·refine⟨_,rfl,[],congrArg (vi .u32) ?_,trivial⟩
  simp only[wrap_u8,wrap_u32,Jm,digN]
  split<;>omega
 ·refine⟨_,rfl,[],congrArg (vi .u32) ?_,trivial⟩
  simp only[wrap_u8,wrap_u32,Jm,digN]
  split<;>omega
theorem c_digit {x:Int} {c:UInt8} (hx:x=c.toNat) (h:isDig c=true):Con C N.r6_digit [vi .u8 x] [] (.ret (i64 (digN c))) []:=by
 subst hx
 have h':=of_decide_eq_true h
 refine fd.r6_digit.c ?_
 refine spl_d (fun h1=> ?_) (fun h1=> ?_)
 ·refine⟨_,rfl,[],q7i ?_,trivial⟩
  simp only[wrap_u8,IntKind.wrap_i64,digN]
  split<;>omega
 ·refine⟨_,rfl,[],q7i ?_,trivial⟩
  simp only[wrap_u8,IntKind.wrap_i64,digN]
  split<;>omega
def mRows:List (Bs):=[[67,52,54,50,65,53,66,57,69,56,68,55,48,51,70,49],[54,56,50,51,57,65,53,67,49,69,52,55,66,68,48,70],[66,51,53,56,50,70,65,68,69,49,55,52,67,57,54,48],[67,56,50,49,68,52,70,54,55,48,65,53,51,69,57,66],[55,70,53,65,56,49,54,68,48,57,51,69,66,52,50,67],[53,68,70,54,57,50,67,65,66,55,56,49,52,51,69,48],[56,69,50,53,54,57,49,67,70,52,66,48,68,65,51,55],[49,55,69,68,48,53,56,51,52,70,65,54,57,67,66,50]]
abbrev str (l:Bs):V:= .s (.string ⟨l.toArray⟩)
theorem c_mrows:Con C N.small_rows [] [] (.ret (.a (mRows.map str))) []:=by
 refine fd.small_rows.c ?_
 exact⟨by decide,_,rfl,rfl,_,rfl,[],rfl,trivial⟩
def mStep (x:UInt32) (i:Nat):UInt32:=Zn (digN ((mRows.getD i []).getD (x>>>Zn (4*i)&&&15).toNat 48))<<<Zn (4*i)
def mG (x k:UInt32):UInt32:=rol ((List.range 8).foldl (fun o i=>o|||mStep (x+k) i) 0) 11
theorem mRows_dig:∀i,i<8→∀j,j<16→isDig ((mRows.getD i []).getD j 48)=true:=by decide
theorem mRows_get (i:Nat) (h:i<8):(mRows.map str)[i]? =some (str (mRows.getD i [])):=by
 have:i<mRows.length:=h
 simp[this]
theorem and15_lt (x:UInt32):(x&&&15).toNat<16:=by
 rw[J5]
 exact Jz (n:=4) _ (by decide)
theorem mRows_len (i:Nat) (h:i<8):(mRows.getD i []).length=16:=by
 revert h;revert i;decide
theorem str_get {l:Bs} {j:Nat} (h:j<l.length):(ByteArray.mk l.toArray).data.toList[j]? =some (l.getD j 48):=by
 simp[List.getD,h]
theorem c_G {a b:Int} {x k:UInt32} (ha:a=x.toNat) (hb:b=k.toNat):Con C N.small_G [vi .u32 a,vi .u32 b] [] (.ret (u32 (mG x k))) []:=by
 subst ha;subst hb
 refine fd.small_G.c ?_
 refine⟨[],_,_,_,_,c_mrows,rfl,rfl,?_⟩
 refine loopN (fun i=>⟨[(0,u32 (x+k)),(5,u32 ((List.range i).foldl (fun o i=>o|||mStep (x+k) i) 0)),(11,.a (mRows.map str)),(12,i64 i)],[]⟩) 8 ⟨[],⟨congrArg (vi .u32) (u32_add _ _),rfl,rfl,rfl,trivial⟩,trivial⟩ fun i hi=> ?_
 refine spl_d (fun h=> ?_) (fun h=> ?_)
 ·have hlt:i<8:=(by omega)
  refine⟨by omega,by omega,_,by rw[Zb,Zm];exact mRows_get i hlt,?_⟩
  have e4:I6.wrap (4*(i:Int))=((4*i:Nat):Int):=by simp only[IntKind.wrap_i64];omega
  have e5:((x+k).toNat:Int).fdiv (2^(min (((4*i:Nat):Int)).toNat U3.bits))=(((x+k)>>>Zn (4*i)).toNat:Int):=by
   rw[u32_shr _ _ (by omega) (by omega),Zb]
  have e6:U3.wrap ((Zc U3.bits ((((x+k)>>>Zn (4*i)).toNat:Nat):Int)&&&Zc U3.bits 15).toNat:Int)=(((x+k)>>>Zn (4*i)&&&15).toNat:Int):=u32_and _ 15
  have b:=and15_lt ((x+k)>>>Zn (4*i))
  have hl:=mRows_len i hlt
  refine⟨by rw[e4];omega,by rw[e4,e5,e6];omega,?_,?_⟩
  ·rw[e4,e5,e6]
   show((((x+k)>>>Zn (4*i)&&&15).toNat:Nat):Int)<(((mRows.getD i []).toArray.size:Nat):Int)
   simp only[List.size_toArray,hl]
   omega
  refine⟨_,by rw[e4,e5,e6,Zb];exact str_get (by omega),?_⟩
  refine⟨[],_,_,_,_,c_sign32 rfl (mRows_dig i hlt _ b),rfl,rfl,?_⟩
  refine⟨by rw[e4];omega,?_⟩
  refine⟨i+1,hlt,by omega,[],⟨rfl,congrArg (vi .u32) ?_,rfl,q7i (by simp(disch:=omega)only[Za];omega),trivial⟩,trivial⟩
  rw[e4,u32_shl _ _ (by omega) (by omega),u32_or,Zz,J4,Zb]
  rfl
 ·obtain rfl:i=8:=(by omega)
  refine⟨[],_,_,_,_,c_rol32 rfl (by decide),rfl,rfl,?_⟩
  exact⟨_,rfl,[],rfl,trivial⟩
theorem c_growW {n:Int} (h:0<n) (hm:n≤1073741824):Con C N.slices_Grow_uint32 [.s (.slice none 0 0),i64 n] [] (.ret (.o 1 (.k 0) 0 0)) [.sc (wv (Zk n.toNat 0))]:=by
 refine fd.slices_Grow_uint32.c ?_
 refine spl_d (fun h=>absurd h (by omega)) (fun _=> ?_)
 have e1:I6.wrap (n-I6.wrap (0-((0:Nat):Int)))=n:=by simp only[IntKind.wrap_i64];omega
 refine spl_t (decide_eq_true (by rw[e1];exact h)) ?_
 refine⟨Jh 0,Zp 0,Zp 0,Zp 0,?_⟩
 refine⟨by rw[e1];exact h,by rw[e1];exact hm,_,rfl,?_⟩
 refine⟨Jh 0,Zp 0,Zp 0,Z6 _,?_⟩
 refine⟨_,rfl,[.d 22 0],rfl,⟨_,rfl,q7s ?_⟩,trivial⟩
 rw[e1]
 exact wv_rep _
theorem c_concatW {n:Nat} {ls:List (List UInt32)} {xs:List V} (hx:xs=ls.map fun l=>wz l) (hn:ls.length=n) (h0:0<ls.flatten.length) (hm:ls.flatten.length≤1073741824) (hn2:n≤1073741824):Con C N.slices_Concat_uint32 [.zz 1 n xs] [] (.ret (.o 1 (.k 0) 0 ls.flatten.length)) [.sc (wv ls.flatten)]:=by
 subst hx;subst hn
 have get:∀i,(h:i<ls.length)→(ls.map fun l=>wz l)[i]? =some (wz ls[i]):=fun i h=>by simp[h]
 have stepL:∀i,(h:i<ls.length)→(ls.take (i+1)).flatten=(ls.take i).flatten++ls[i]:=fun i h=>by rw[Zr h,Jw,List.flatten_cons,List.flatten_nil,Z8]
 have le:∀i,(ls.take i).flatten.length≤ls.flatten.length:=fun i=>by
  conv=>rhs;rw[←Kx i ls,Jw,Ze]
  omega
 refine fd.slices_Concat_uint32.c ?_
 refine loopN (fun i=>⟨[(0,.zz 1 ls.length (ls.map fun l=>wz l)),(3,i64 (ls.take i).flatten.length),(9,.zz 1 ls.length (ls.map fun l=>wz l)),(10,i64 ls.length),(11,i64 i)],[]⟩) ls.length ⟨[],⟨rfl,rfl,rfl,rfl,rfl,trivial⟩,trivial⟩ fun i hi=> ?_
 refine spl_d (fun h=> ?_) (fun h=> ?_)
 ·have hlt:i<ls.length:=(by omega)
  have e:((i:Int)).toNat*1=i:=(by omega)
  have l1:=le (i+1)
  rw[stepL i hlt,Ze]at l1
  have e1:I6.wrap (((ls.take i).flatten.length:Int)+(ls[i].length:Nat))=((ls.take (i+1)).flatten.length:Nat):=by rw[stepL i hlt,Ze];simp only[IntKind.wrap_i64];omega
  refine⟨by omega,by omega,?_⟩
  refine⟨_,by rw[e];exact get i hlt,?_⟩
  refine spl_f (decide_eq_false (by rw[e1];omega)) ?_
  exact⟨i+1,by omega,by omega,[],⟨rfl,q7i e1,rfl,rfl,q7i (by simp(disch:=omega)only[Za];omega),trivial⟩,trivial⟩
 ·obtain rfl:i=ls.length:=(by omega)
  refine⟨[],_,_,_,_,c_growW (n:=ls.flatten.length) (by omega) (by omega),?_,rfl,?_⟩
  ·show[V.s (.slice none 0 0),i64 _]=_
   rw[Zq]
  refine⟨Nat×List UInt32,fun x=>⟨[(6,.o 1 (.k 0) 0 (ls.take x.1).flatten.length),(25,.zz 1 ls.length (ls.map fun l=>wz l)),(26,i64 ls.length),(27,i64 x.1)],[.sc (wv ((ls.take x.1).flatten++x.2))]⟩,fun x=>x.1≤ls.length∧(x.1=ls.length→x.2=[]),fun x=>ls.length-x.1,⟨[],(0,Zk ls.flatten.length 0),⟨Z6 _,fun h=> ?_⟩,[.d 24 0],⟨rfl,rfl,rfl,rfl,trivial⟩,⟨_,rfl,q7s ?_⟩,trivial⟩,?_⟩
  ·exfalso
   have:ls=[]:=J8 h.symm
   subst this
   simp at h0
  ·simp
  rintro ⟨i,z⟩ ⟨hi,hz⟩
  simp only at hi hz
  refine spl_d (fun h=> ?_) (fun h=> ?_)
  ·have hlt:i<ls.length:=(by omega)
   have e:((i:Int)).toNat*1=i:=(by omega)
   have l1:=le (i+1)
   rw[stepL i hlt,Ze]at l1
   refine⟨by omega,by omega,?_⟩
   refine⟨_,by rw[e];exact get i hlt,?_⟩
   refine⟨(by simp[storeL_len,bv_len,iv_len,wv_len,Ze,Zj,Zu,Zv,Zx,Zs,Zw,sub_length,Zi,Zy,Zo];done),(by simp(disch:=omega)only[Za];omega),(by simp only[storeL_len,bv_len,iv_len,wv_len,Ze,Zj,Zu,Zv,Zx,Zs,Zw,sub_length,Zi,Zy,Zo];omega),?_⟩
   refine⟨(i+1,[]),⟨by omega,fun _=>rfl⟩,(by simp(disch:=omega)only[Za];omega),[.d 33 0],⟨?_,rfl,rfl,q7i (by simp(disch:=omega)only[Za];omega),trivial⟩,⟨_,rfl,q7s ?_⟩,trivial⟩
   ·show V.o 1 (.k 0) 0 _=V.o 1 (.k 0) 0 _
    rw[stepL i hlt,Ze]
   ·rw[wv_sub,wv_app,stepL i hlt]
    simp[sub]
  ·obtain rfl:i=ls.length:=(by omega)
   refine⟨_,rfl,[.k 0],?_,⟨_,rfl,q7s ?_⟩,trivial⟩
   ·show V.o 1 (.k 0) 0 _=V.o 1 (.k 0) 0 _
    rw[Zq]
   ·rw[Zq,hz rfl,Z8]
theorem c_concatW' {n:Nat} {ls:List (List UInt32)} {t:List UInt32} {xs:List V} (ht:ls.flatten=t) (hx:xs=ls.map fun l=>wz l) (hn:ls.length=n) (h0:0<t.length) (hm:t.length≤1073741824) (hn2:n≤1073741824:=by first|decide|simp):Con C N.slices_Concat_uint32 [.zz 1 n xs] [] (.ret (.o 1 (.k 0) 0 t.length)) [.sc (wv t)]:=by
 subst ht
 exact c_concatW hx hn h0 hm hn2
theorem c_cloneW {n:Nat} {va:List Value} {l:List UInt32} (ha:va=wv l) (hn:l.length=n) (h0:0<n) (hm:n≤1073741824):Con C N.slices_Clone_uint32 [.z n va] [] (.ret (.o 1 (.k 0) 0 n)) [.sc (wv l)]:=by
 subst ha
 refine fd.slices_Clone_uint32.c ?_
 refine .inl ⟨h0,(by simp only[storeL_len,bv_len,iv_len,wv_len,Ze,Zj,Zu,Zv,Zx,Zs,Zw,sub_length,Zi,Zy,Zo];omega),by omega,by omega,?_⟩
 refine⟨_,rfl,[.d 7 0],?_,⟨_,rfl,rfl⟩,trivial⟩
 show V.o 1 (.k 0) 0 (0+n)=_
 rw[Zl]
def revAt {α:Type} (l:List α) (i:Nat):List α:=l.mapIdx fun p x=>if p<i∨l.length-i≤p then l.reverse.getD p x else x
theorem revAt_len {α:Type} (l:List α) (i:Nat):(revAt l i).length=l.length:=by simp[revAt]
theorem revAt_zero {α:Type} (l:List α):revAt l 0=l:=by
 apply List.ext_getElem (by simp[revAt])
 intro j h1 h2
 simp[revAt]
 omega
theorem revAt_get {α:Type} (l:List α) (i j:Nat) (h:j<l.length):(revAt l i)[j]? =some (if j<i∨l.length-i≤j then l[l.length-1-j]else l[j]):=by
 have h2:j<(revAt l i).length:=by rw[revAt_len];exact h
 rw[Zf h2]
 simp only[revAt,List.getElem_mapIdx]
 split
 ·rw[Zd,Zf (by simpa using h),Option.getD_some,Js]
 ·rfl
theorem revAt_all {α:Type} (l:List α) (i:Nat) (h:l.length≤2*i+1):revAt l i=l.reverse:=by
 apply Z3
 intro j
 by_cases hj:j<l.length
 ·rw[revAt_get l i j hj,Ky hj]
  split
  ·rw[Zf (by omega)]
  ·rw[Zf (by omega)]
   congr 2
   omega
 ·rw[Zg (by rw[revAt_len];omega),Zg (by simp;omega)]
theorem revAt_step {α:Type} (l:List α) (i:Nat) (h:i<l.length-1-i):((revAt l i).set i (l[l.length-1-i]'(by omega))).set (l.length-1-i) (l[i]'(by omega))=revAt l (i+1):=by
 apply Z3
 intro j
 by_cases hj:j<l.length
 ·rw[revAt_get l (i+1) j hj,Jr,Jr,revAt_get l i j hj]
  simp only[Zu,revAt_len]
  by_cases h1:l.length-1-i=j
  ·subst h1
   rw[if_pos rfl,if_pos (by omega),if_pos (by omega)]
   congr 2
   omega
  ·rw[if_neg h1]
   by_cases h2:i=j
   ·subst h2
    rw[if_pos rfl,if_pos (by omega),if_pos (by omega)]
   ·rw[if_neg h2]
    congr 1
    by_cases h3:j<i∨l.length-i≤j
    ·rw[if_pos h3,if_pos (by omega)]
    ·rw[if_neg h3,if_neg (by omega)]
 ·rw[Zg (by simp[revAt_len];omega),Zg (by rw[revAt_len];omega)]
theorem wv_at {l:List UInt32} {j:Nat} {x:UInt32} (h:l[j]? =some x):(wv l)[j]? =some (.int .u32 x.toNat):=by simp[wv,h]
theorem revAt_mid {α:Type} (l:List α) (i j:Nat) (h:j<l.length) (h1:i≤j) (h2:j<l.length-i):(revAt l i)[j]? =some l[j]:=by
 rw[revAt_get l i j h,if_neg (by omega)]
theorem c_revW {n:Nat} {l:List UInt32} (hn:l.length=n) (h0:0<n) (hm:n≤1073741824):Con C N.slices_Reverse_uint32 [.o 1 (.k 0) 0 n] [.sc (wv l)] (.ret (.t [])) [.sc (wv l.reverse)]:=by
 subst hn
 refine fd.slices_Reverse_uint32.c ?_
 refine loopN (fun i=>⟨[(0,.o 1 (.k 0) 0 l.length),(2,i64 i),(3,i64 (l.length-1-i))],[.sc (wv (revAt l i))]⟩) l.length ⟨[.k 0],⟨rfl,rfl,q7i (by simp(disch:=omega)only[Za];omega),trivial⟩,⟨_,rfl,q7s (by rw[revAt_zero])⟩,trivial⟩ fun i hi=> ?_
 refine spl_d (fun h=> ?_) (fun h=> ?_)
 ·have hlt:i<l.length-1-i:=(by omega)
  have e1:0+((l.length:Int)-1-i).toNat*1=l.length-1-i:=(by omega)
  have e2:0+((i:Int)).toNat*1=i:=(by omega)
  refine⟨by omega,by omega,_,by rw[e1];exact wv_at (revAt_mid l i (l.length-1-i) (by omega) (by omega) (by omega)),?_⟩
  refine⟨by omega,by omega,_,by rw[e2];exact wv_at (revAt_mid l i i (by omega) (by omega) (by omega)),?_⟩
  refine⟨by omega,by omega,by rw[e2,wv_len,revAt_len];omega,by omega,by omega,by rw[e1,Zu,wv_len,revAt_len];omega,?_⟩
  refine⟨i+1,by omega,by omega,[.k 0],⟨rfl,q7i (by simp(disch:=omega)only[Za];omega),q7i (by simp(disch:=omega)only[Za];omega),trivial⟩,⟨_,rfl,q7s ?_⟩,trivial⟩
  rw[e1,e2,wv_set,wv_set,revAt_step l i hlt]
 ·refine⟨_,rfl,[.k 0],rfl,⟨_,rfl,q7s ?_⟩,trivial⟩
  rw[revAt_all l i (by omega)]
def mKeys (k:List UInt32):List UInt32:=k++k++k++k.reverse
def mRound (x:UInt32×UInt32) (k:UInt32):UInt32×UInt32:=(x.2,x.1^^^mG x.2 k)
def mTurn (ks:List UInt32) (v w:UInt32):UInt32×UInt32:=((ks.foldl mRound (v,w)).2,(ks.foldl mRound (v,w)).1)
theorem mKeys_flat (k:List UInt32):[k,k,k,k.reverse].flatten=mKeys k:=by simp[mKeys]
theorem foldl_take {α β:Type} (f:β→α→β) (l:List α) (b:β) (i:Nat) (h:i<l.length):(l.take (i+1)).foldl f b=f ((l.take i).foldl f b) l[i]:=by
 rw[Zr h,J4];rfl
theorem c_magma_f {tag x y:Int} {k:List UInt32} {v w:UInt32} (hk:k.length=8) (hx:x=v.toNat) (hy:y=w.toNat):Con C N.small_Small_magma [smallV k tag,vi .u32 x,vi .u32 y,bool false] []
  (.ret (.t [u32 (mTurn (mKeys k) v w).1,u32 (mTurn (mKeys k) v w).2])) []:=by
 subst hx;subst hy
 refine fd.small_Small_magma.c ?_
 refine⟨_,rfl,?_⟩
 refine⟨[],_,_,_,_,c_cloneW rfl rfl (by omega) (by omega),rfl,rfl,?_⟩
 refine⟨[.d 18 0],_,_,_,_,c_revW (l:=k) hk (by omega) (by omega),?_,rfl,?_⟩
 ·show[V.o 1 (.k 0) 0 k.length]=_
  rw[hk]
 refine⟨_,rfl,_,rfl,_,rfl,?_⟩
 refine⟨[],_,_,_,_,c_concatW' (ls:=[k,k,k,k.reverse]) (mKeys_flat k) ?_ rfl (by simp[mKeys];omega) (by simp[mKeys];omega),rfl,rfl,?_⟩
 ·show[V.z _ _,V.z _ _,V.z _ _,V.z _ _]=_
  rw[wv_all (by simp[hk])]
  simp[hk]
 have hm:(mKeys k).length=32:=by simp[mKeys,hk]
 generalize mKeys k=KS at hm ⊢
 refine loopN (fun i=>⟨[(1,u32 (((KS.take i).foldl mRound (v,w)).1)),(2,u32 (((KS.take i).foldl mRound (v,w)).2)),(39,.z 32 (wv KS)),(40,i64 32),(41,i64 i)],[]⟩) 32 ⟨[],⟨rfl,rfl,?_,?_,rfl,trivial⟩,trivial⟩ fun i hi=> ?_
 ·show V.z _ (sub _ _ _)=V.z _ _
  rw[wv_all rfl,hm]
 ·show i64 _=i64 _
  rw[hm];rfl
 refine spl_d (fun h=> ?_) (fun h=> ?_)
 ·have hlt:i<32:=(by omega)
  refine⟨by omega,by omega,_,wv_get (i:=i) (by omega),?_⟩
  refine⟨[],_,_,_,_,c_G rfl rfl,rfl,rfl,?_⟩
  refine⟨i+1,by omega,by omega,[],⟨?_,?_,rfl,rfl,q7i (by simp(disch:=omega)only[Za];omega),trivial⟩,trivial⟩
  ·rw[foldl_take _ _ _ _ (by omega)];rfl
  ·rw[foldl_take _ _ _ _ (by omega)];exact congrArg (vi .u32) (u32_xor _ _)
 ·obtain rfl:i=32:=(by omega)
  rw[←hm,Zq]
  exact⟨_,rfl,[],rfl,trivial⟩
theorem c_magma_t {tag x y:Int} {k:List UInt32} {v w:UInt32} (hk:k.length=8) (hx:x=v.toNat) (hy:y=w.toNat):Con C N.small_Small_magma [smallV k tag,vi .u32 x,vi .u32 y,bool true] []
  (.ret (.t [u32 (mTurn (mKeys k).reverse v w).1,u32 (mTurn (mKeys k).reverse v w).2])) []:=by
 subst hx;subst hy
 refine fd.small_Small_magma.c ?_
 refine⟨_,rfl,?_⟩
 refine⟨[],_,_,_,_,c_cloneW rfl rfl (by omega) (by omega),rfl,rfl,?_⟩
 refine⟨[.d 18 0],_,_,_,_,c_revW (l:=k) hk (by omega) (by omega),?_,rfl,?_⟩
 ·show[V.o 1 (.k 0) 0 k.length]=_
  rw[hk]
 refine⟨_,rfl,_,rfl,_,rfl,?_⟩
 refine⟨[],_,_,_,_,c_concatW' (ls:=[k,k,k,k.reverse]) (mKeys_flat k) ?_ rfl (by simp[mKeys];omega) (by simp[mKeys];omega),rfl,rfl,?_⟩
 ·show[V.z _ _,V.z _ _,V.z _ _,V.z _ _]=_
  rw[wv_all (by simp[hk])]
  simp[hk]
 have hm:(mKeys k).length=32:=by simp[mKeys,hk]
 generalize mKeys k=K0 at hm ⊢
 refine⟨[.d 35 0],_,_,_,_,c_revW (l:=K0) hm (by omega) (by omega),?_,rfl,?_⟩
 ·show[V.o 1 (.k 0) 0 K0.length]=_
  rw[hm]
 have hm':K0.reverse.length=32:=by simp[hm]
 generalize hKS:K0.reverse=KS at hm' ⊢
 refine loopN (fun i=>⟨[(1,u32 (((KS.take i).foldl mRound (v,w)).1)),(2,u32 (((KS.take i).foldl mRound (v,w)).2)),(39,.z 32 (wv KS)),(40,i64 32),(41,i64 i)],[]⟩) 32 ⟨[],⟨rfl,rfl,?_,?_,rfl,trivial⟩,trivial⟩ fun i hi=> ?_
 ·show V.z _ (sub _ _ _)=V.z _ _
  rw[wv_all (by rw[hm,hm']),hm]
 ·show i64 _=i64 _
  rw[hm];rfl
 refine spl_d (fun h=> ?_) (fun h=> ?_)
 ·have hlt:i<32:=(by omega)
  refine⟨by omega,by omega,_,wv_get (i:=i) (by omega),?_⟩
  refine⟨[],_,_,_,_,c_G rfl rfl,rfl,rfl,?_⟩
  refine⟨i+1,by omega,by omega,[],⟨?_,?_,rfl,rfl,q7i (by simp(disch:=omega)only[Za];omega),trivial⟩,trivial⟩
  ·rw[foldl_take _ _ _ _ (by omega)];rfl
  ·rw[foldl_take _ _ _ _ (by omega)];exact congrArg (vi .u32) (u32_xor _ _)
 ·obtain rfl:i=32:=(by omega)
  rw[←hm',Zq]
  exact⟨_,rfl,[],rfl,trivial⟩
def beW (l:Bs):UInt32:=(loadL l).toUInt32
def leW (l:Bs):UInt32:=(loadL l.reverse).toUInt32
def wrds (f:Bs→UInt32) (b:Bs) (k:Nat):List UInt32:=(List.range k).map fun i=>f (sub b (4*i) 4)
theorem wrds_len (f b k):(wrds f b k).length=k:=by simp[wrds]
theorem wrds_succ (f b k):wrds f b (k+1)=wrds f b k++[f (sub b (4*k) 4)]:=by simp[wrds,Zz]
theorem sub_drop {α:Type} (l:List α) (a i n:Nat):sub (l.drop a) i n=sub l (a+i) n:=by simp[sub]
theorem bv_drop (l:Bs) (i:Nat):(bv l).drop i=bv (l.drop i):=by simp[bv,Kk]
theorem wv_one (x:UInt32):[Value.int .u32 x.toNat]=wv [x]:=rfl
theorem sub_end {α:Type} (l:List α) (i n:Nat) (h:n=l.length-i):sub l i n=l.drop i:=by subst h;simp[sub,Ks]
theorem wv_app1 {l:List UInt32} {n:Nat} {x:UInt32} (h:l.length=n):sub (wv l) 0 n++[Value.int .u32 x.toNat]=wv (l++[x]):=by
 rw[wv_all h,wv_one,wv_app]
theorem c_loaded_be {n m:Nat} {va:List Value} {b:Bs} (ha:va=bv b) (hn:b.length=n) (h4:n=4*m) (h0:0<m) (hm:n≤1073741824):Con C N.small_loaded [.z n va,bool false] [] (.ret (.o 1 (.k 0) 0 m)) [.sc (wv (wrds beW b m))]:=by
 subst ha;subst h4
 refine fd.small_loaded.c ?_
 refine loopNn (fun i=>⟨[(0,.z (4*(m-i)) (bv (b.drop (4*i)))),(1,bool false),(5,.o 1 (.k 0) 0 i)],[.sc (wv (wrds beW b i))]⟩) m [(5,1,.sc [])] ⟨[.d 900000 0],⟨rfl,rfl,rfl,trivial⟩,⟨_,rfl,rfl⟩,trivial⟩ fun i hi=> ?_
 refine spl_d (fun h=> ?_) (fun h=> ?_)
 ·have hlt:i<m:=(by omega)
  refine⟨by omega,by omega,by omega,by omega,by omega,?_⟩
  have e:sub (bv (b.drop (4*i))) 0 4=bv (sub b (4*i) 4):=by rw[bv_sub,sub_drop];rfl
  have el:(sub b (4*i) 4).length=4:=by rw[sub_length];omega
  refine⟨[],_,_,_,_,c_be32 e el rfl,rfl,rfl,?_⟩
  refine⟨Zp _,by omega,by rw[wv_len,wrds_len];omega,?_⟩
  refine⟨by omega,by omega,by omega,by omega,?_⟩
  refine⟨i+1,by omega,by omega,[.d 29 0],⟨?_,rfl,rfl,trivial⟩,⟨_,rfl,q7s ?_⟩,trivial⟩
  ·show V.z (4*(m-i)-4) (sub _ 4 (4*(m-i)-4))=_
   rw[bv_sub,sub_drop,sub_end _ _ _ (by omega)]
   rw[show 4*(m-i)-4=4*(m-(i+1)) by omega,show 4*i+4=4*(i+1) by omega]
  ·rw[wrds_succ];exact wv_app1 (by rw[wrds_len];omega)
 ·obtain rfl:i=m:=(by omega)
  exact⟨_,rfl,[.k 0],rfl,⟨_,rfl,rfl⟩,trivial⟩
theorem c_loaded_le {n m:Nat} {va:List Value} {b:Bs} (ha:va=bv b) (hn:b.length=n) (h4:n=4*m) (h0:0<m) (hm:n≤1073741824):Con C N.small_loaded [.z n va,bool true] [] (.ret (.o 1 (.k 0) 0 m)) [.sc (wv (wrds leW b m))]:=by
 subst ha;subst h4
 refine fd.small_loaded.c ?_
 refine loopNn (fun i=>⟨[(0,.z (4*(m-i)) (bv (b.drop (4*i)))),(1,bool true),(5,.o 1 (.k 0) 0 i)],[.sc (wv (wrds leW b i))]⟩) m [(5,1,.sc [])] ⟨[.d 900000 0],⟨rfl,rfl,rfl,trivial⟩,⟨_,rfl,rfl⟩,trivial⟩ fun i hi=> ?_
 refine spl_d (fun h=> ?_) (fun h=> ?_)
 ·have hlt:i<m:=(by omega)
  refine⟨by omega,by omega,by omega,by omega,by omega,?_⟩
  have e:sub (bv (b.drop (4*i))) 0 4=bv (sub b (4*i) 4):=by rw[bv_sub,sub_drop];rfl
  have el:(sub b (4*i) 4).length=4:=by rw[sub_length];omega
  refine⟨[],_,_,_,_,c_be32 e el rfl,rfl,rfl,?_⟩
  refine⟨by omega,by omega,by omega,by omega,by omega,?_⟩
  refine⟨[],_,_,_,_,c_le32 e el rfl,rfl,rfl,?_⟩
  refine⟨Zp _,by omega,by rw[wv_len,wrds_len];omega,?_⟩
  refine⟨by omega,by omega,by omega,by omega,?_⟩
  refine⟨i+1,by omega,by omega,[.d 29 0],⟨?_,rfl,rfl,trivial⟩,⟨_,rfl,q7s ?_⟩,trivial⟩
  ·show V.z (4*(m-i)-4) (sub _ 4 (4*(m-i)-4))=_
   rw[bv_sub,sub_drop,sub_end _ _ _ (by omega)]
   rw[show 4*(m-i)-4=4*(m-(i+1)) by omega,show 4*i+4=4*(i+1) by omega]
  ·rw[wrds_succ];exact wv_app1 (by rw[wrds_len];omega)
 ·obtain rfl:i=m:=(by omega)
  exact⟨_,rfl,[.k 0],rfl,⟨_,rfl,rfl⟩,trivial⟩
theorem c_r8_big {n m:Nat} {va:List Value} {b:Bs} (ha:va=bv b) (hn:b.length=n) (h4:n=4*m) (h0:0<m) (hm:n≤1073741824):Con C N.r8_big [.z n va] [] (.ret (.o 1 (.k 0) 0 m)) [.sc (wv (wrds beW b m))]:=by
 subst ha;subst h4
 refine fd.r8_big.c ?_
 refine loopNn (fun i=>⟨[(0,.z (4*m) (bv b)),(3,.o 1 (.k 0) 0 i),(4,i64 (4*i:Nat))],[.sc (wv (wrds beW b i))]⟩) m [(3,1,.sc [])] ⟨[.d 900000 0],⟨rfl,rfl,rfl,trivial⟩,⟨_,rfl,rfl⟩,trivial⟩ fun i hi=> ?_
 refine spl_d (fun h=> ?_) (fun h=> ?_)
 ·have hlt:i<m:=(by omega)
  refine⟨(by simp(disch:=omega)only[Za];omega),by omega,(by simp(disch:=omega)only[Za];omega),by omega,(by simp(disch:=omega)only[Za];omega),?_⟩
  have e:(I6.wrap (((4*i:Nat):Int)+4)).toNat-(((4*i:Nat):Int)).toNat=4:=by simp only[IntKind.wrap_i64];omega
  rw[e,Zb]
  have el:(sub b (4*i) 4).length=4:=by rw[sub_length];omega
  refine⟨[],_,_,_,_,c_big (l:=sub b (4*i) 4) (bv_sub _ _ _) el (by decide),rfl,rfl,?_⟩
  refine⟨Zp _,by omega,by rw[wv_len,wrds_len];omega,?_⟩
  refine⟨i+1,by omega,by omega,[.d 20 0],⟨rfl,rfl,q7i (by simp(disch:=omega)only[Za];omega),trivial⟩,⟨_,rfl,q7s ?_⟩,trivial⟩
  rw[wrds_succ,u64_u32];exact wv_app1 (by rw[wrds_len];omega)
 ·obtain rfl:i=m:=(by omega)
  exact⟨_,rfl,[.k 0],rfl,⟨_,rfl,rfl⟩,trivial⟩
theorem c_r8_little {n m:Nat} {va:List Value} {b:Bs} (ha:va=bv b) (hn:b.length=n) (h4:n=4*m) (h0:0<m) (hm:n≤1073741824):Con C N.r8_little [.z n va] [] (.ret (.o 1 (.k 0) 0 m)) [.sc (wv (wrds leW b m))]:=by
 subst ha;subst h4
 refine fd.r8_little.c ?_
 refine loopNn (fun i=>⟨[(0,.z (4*m) (bv b)),(3,.o 1 (.k 0) 0 i),(4,i64 (4*i:Nat))],[.sc (wv (wrds leW b i))]⟩) m [(3,1,.sc [])] ⟨[.d 900000 0],⟨rfl,rfl,rfl,trivial⟩,⟨_,rfl,rfl⟩,trivial⟩ fun i hi=> ?_
 refine spl_d (fun h=> ?_) (fun h=> ?_)
 ·have hlt:i<m:=(by omega)
  refine⟨(by simp(disch:=omega)only[Za];omega),by omega,(by simp(disch:=omega)only[Za];omega),by omega,(by simp(disch:=omega)only[Za];omega),?_⟩
  have e:(I6.wrap (((4*i:Nat):Int)+4)).toNat-(((4*i:Nat):Int)).toNat=4:=by simp only[IntKind.wrap_i64];omega
  rw[e,Zb]
  have el:(sub b (4*i) 4).length=4:=by rw[sub_length];omega
  refine⟨[],_,_,_,_,c_little (l:=sub b (4*i) 4) (bv_sub _ _ _) el (by decide),rfl,rfl,?_⟩
  refine⟨Zp _,by omega,by rw[wv_len,wrds_len];omega,?_⟩
  refine⟨i+1,by omega,by omega,[.d 20 0],⟨rfl,rfl,q7i (by simp(disch:=omega)only[Za];omega),trivial⟩,⟨_,rfl,q7s ?_⟩,trivial⟩
  rw[wrds_succ,u64_u32];exact wv_app1 (by rw[wrds_len];omega)
 ·obtain rfl:i=m:=(by omega)
  exact⟨_,rfl,[.k 0],rfl,⟨_,rfl,rfl⟩,trivial⟩
theorem u32_rem (a b:UInt32):((a.toNat:Int).tmod (b.toNat:Int))=((a%b).toNat:Int):=by
 rw[UInt32.toNat_mod,←Int.ofNat_tmod]
theorem u32_rem32 (a:UInt32):((a.toNat:Int).tmod 32)=((a%32).toNat:Int):=u32_rem a 32
theorem mod32_lt (a:UInt32):(a%32).toNat<32:=by
 rw[UInt32.toNat_mod];exact Z4 _ (by decide)
theorem nat_rem (a b:Nat):((a:Int).tmod (b:Int))=((a%b:Nat):Int):=by rw[←Int.ofNat_tmod]
theorem scopeN {C:Ctx} {rt:Rt} {m:Nat} {c:Code} {s:S} {K:X→S→Prop} (l:Nat) {p q:Code} (hs:splitL c l=some (p,q)) (n:Nat) (I:Nat→D) (h0:vc C rt m p s fun e s'=>match e with
   | .normal=>∃(l:List (Nat×Nat×B)) (y:Nat),y<n∧nils l 0 s' fun s'=>Mt m s' (I y)
   | .goto l'=>l'=l∧∃y:Nat,y<n∧Mt m s' (I y)
   |e=>K e s') (h:∀i,i<n→vc C rt m q (I i).s fun e s'=>match e with
   | .goto l'=>l'=l∧∃y:Nat,y<n∧n-y<n-i∧Mt m s' (I y)
   |e=>K e s'):scopeVC C rt m c s K:=
 ⟨l,Nat,I,fun x=>x<n,fun x=>n-x,by rw[hs];exact⟨h0,h⟩⟩
def euler:UInt32:=3084996963
def gWords (n:Nat):List UInt32:=(List.range n).map fun i=>euler+Zn i*golden
theorem gWords_len (n):(gWords n).length=n:=by simp[gWords]
theorem gWords_succ (n):gWords (n+1)=gWords n++[euler+Zn n*golden]:=by simp[gWords,Zz]
theorem gWords_get (n i) (h:i<n):(gWords n)[i]? =some (euler+Zn i*golden):=by simp[gWords,h]
theorem gold_mul (n:Nat):euler+Zn n*golden+golden=euler+Zn (n+1)*golden:=by
 rw[UInt32.add_assoc,UInt32.ofNat_add,UInt32.add_mul,show Zn 1*golden=golden by decide]
abbrev GS:=List UInt32×List UInt32×UInt32×UInt32
def gA (i:Nat) (x:GS):UInt32:=rol (x.1.getD (i%26) 0+x.2.2.1+x.2.2.2) 3
def gB (i:Nat) (x:GS):UInt32:=rol (x.2.1.getD (i%4) 0+gA i x+x.2.2.2) ((gA i x+x.2.2.2)%32).toNat
def gStep (x:GS) (i:Nat):GS:=(x.1.set (i%26) (gA i x),x.2.1.set (i%4) (gB i x),gA i x,gB i x)
def gAll (l:List UInt32) (n:Nat):GS:=(List.range n).foldl gStep (gWords 26,l,0,0)
theorem gAll_succ (l n):gAll l (n+1)=gStep (gAll l n) n:=by simp[gAll,Zz]
theorem gAll_len (l n):(gAll l n).1.length=26∧(gAll l n).2.1.length=l.length:=by
 induction n with
 |zero=>exact⟨gWords_len 26,rfl⟩
 |succ n ih=>rw[gAll_succ];simp[gStep,ih]
theorem c_rol32' {x n:Int} {v:UInt32} {k:Nat} (hx:x=v.toNat) (hn:n%32=k) (hb: -9223372036854775808≤n∧n≤9223372036854775807):Con C N.words_Rol32 [vi .u32 x,i64 n] [] (.ret (u32 (rol v k))) []:=by
 have h:=c_rol32 hx hb
 rw[hn]at h
 exact h
theorem c_r1_rol32' {x n:Int} {v:UInt32} {k:Nat} (hx:x=v.toNat) (hn:n%32=k) (hb: -9223372036854775808≤n∧n≤9223372036854775807):Con C N.r1_Rol32 [vi .u32 x,i64 n] [] (.ret (u32 (rol v k))) []:=by
 have h:=c_r1_rol32 hx hb
 rw[hn]at h
 exact h
theorem c_grow {l:List UInt32} (hl:l.length=4):Con C N.small_grow [.o 1 (.k 0) 0 4] [.sc (wv l)] (.ret (.o 1 (.k 1) 0 26)) [.sc (wv (gAll l 78).2.1),.sc (wv (gAll l 78).1)]:=by
 refine fd.small_grow.c ?_
 refine scopeN 0 rfl 78 (fun i=>⟨[(0,.o 1 (.k 0) 0 4),(3,.o 1 (.k 1) 0 26),(4,u32 (gAll l i).2.2.1),(5,u32 (gAll l i).2.2.2),(6,i64 i)],[.sc (wv (gAll l i).2.1),.sc (wv (gAll l i).1)]⟩) ?_ fun i hi=> ?_
 ·refine loopN (fun i=>⟨[(0,.o 1 (.k 0) 0 4),(3,.o 1 (.k 1) 0 (i+1))],[.sc (wv l),.sc (wv (gWords (i+1)))]⟩) 25 ⟨[.k 0,.d 9 0],⟨rfl,rfl,trivial⟩,⟨_,rfl,rfl⟩,⟨_,rfl,rfl⟩,trivial⟩ fun i hi=> ?_
  refine spl_d (fun h=> ?_) (fun h=> ?_)
  ·have e:(I6.wrap (((i+1:Nat):Int)-1))=(i:Int):=by simp only[IntKind.wrap_i64];omega
   refine⟨by rw[e];omega,by rw[e];omega,?_⟩
   refine⟨_,by rw[e,Zb,Zm,Zl];exact wv_at (gWords_get (i+1) i (by omega)),?_⟩
   refine⟨Zp _,by omega,by rw[wv_len,gWords_len];omega,?_⟩
   refine⟨i+1,by omega,by omega,[.k 0,.d 22 0],⟨rfl,rfl,trivial⟩,⟨_,rfl,rfl⟩,⟨_,rfl,q7s ?_⟩,trivial⟩
   rw[gWords_succ (i+1),←gold_mul,u32_gold]
   exact wv_app1 (by rw[gWords_len];omega)
  ·obtain rfl:i=25:=(by omega)
   exact⟨[],0,by omega,[.k 0,.k 1],⟨rfl,rfl,rfl,rfl,rfl,trivial⟩,⟨_,rfl,rfl⟩,⟨_,rfl,rfl⟩,trivial⟩
 ·obtain⟨l1,l2⟩:=gAll_len l i
  have e1:((i:Int).tmod 26)=((i%26:Nat):Int):=nat_rem i 26
  have e2:((i:Int).tmod ((4:Nat):Int))=((i%4:Nat):Int):=nat_rem i 4
  have b1:i%26<26:=Z4 _ (by omega)
  have b2:i%4<4:=Z4 _ (by omega)
  refine⟨by decide,by decide,?_⟩
  refine⟨by rw[e1];omega,by rw[e1];omega,?_⟩
  refine⟨_,by rw[e1,Zb,Zm,Zl];exact wv_getD (by omega),?_⟩
  refine⟨[],_,_,_,_,c_rol32' (v:=(gAll l i).1.getD (i%26) 0+(gAll l i).2.2.1+(gAll l i).2.2.2) (k:=3) (by rw[u32_add,u32_add]) (by decide) (by decide),rfl,rfl,?_⟩
  refine⟨by rw[e1];omega,by rw[e1];omega,by rw[e1,wv_len];omega,?_⟩
  refine⟨by rw[e2];omega,by rw[e2];omega,?_⟩
  refine⟨_,by rw[e2,Zb,Zm,Zl];exact wv_getD (by omega),?_⟩
  refine⟨by decide,?_⟩
  have e3:((U3.wrap (((gA i (gAll l i)).toNat:Int)+((gAll l i).2.2.2.toNat:Int))).tmod 32)=(((gA i (gAll l i)+(gAll l i).2.2.2)%32).toNat:Int):=by rw[u32_add,u32_rem32]
  have b3:=mod32_lt (gA i (gAll l i)+(gAll l i).2.2.2)
  refine⟨[],_,_,_,_,c_rol32' (v:=(gAll l i).2.1.getD (i%4) 0+gA i (gAll l i)+(gAll l i).2.2.2) (k:=((gA i (gAll l i)+(gAll l i).2.2.2)%32).toNat) (by rw[u32_add];exact u32_add _ _) (by erw [e3];rw[u32_i64];omega) (by erw [e3];rw[u32_i64];omega),rfl,rfl,?_⟩
  refine⟨by rw[e2];omega,by rw[e2];omega,by rw[e2,wv_len];omega,?_⟩
  refine spl_d (fun h=> ?_) (fun h=> ?_)
  ·refine⟨rfl,i+1,by simp only[IntKind.wrap_i64]at h;omega,by omega,[.k 0,.k 1],⟨rfl,rfl,?_,?_,q7i (by simp(disch:=omega)only[Za];omega),trivial⟩,⟨_,rfl,q7s ?_⟩,⟨_,rfl,q7s ?_⟩,trivial⟩
   ·rw[gAll_succ];rfl
   ·rw[gAll_succ];rfl
   ·rw[e2,Zb,Zm,Zl,wv_set,gAll_succ];rfl
   ·rw[e1,Zb,Zm,Zl,wv_set,gAll_succ];rfl
  ·have e78:78=i+1:=by simp only[IntKind.wrap_i64]at h;omega
   refine⟨_,rfl,[.k 0,.k 1],rfl,⟨_,rfl,q7s ?_⟩,⟨_,rfl,q7s ?_⟩,trivial⟩
   ·rw[e2,Zb,Zm,Zl,wv_set,e78,gAll_succ];rfl
   ·rw[e1,Zb,Zm,Zl,wv_set,e78,gAll_succ];rfl
theorem wv_set_get {l:List UInt32} {i:Nat} {x:UInt32} (h:i<l.length):(wv (l.set i x))[i]? =some (.int .u32 x.toNat):=wv_at (by simp[h])
theorem c_r8_stretched {va:List Value} {key:Bs} (ha:va=bv key) (hk:key.length=16):Con C N.r8_stretched [.z 16 va] [] (.ret (.o 1 (.k 0) 0 26)) [.sc (wv (gAll (wrds leW key 4) 78).1)]:=by
 refine fd.r8_stretched.c ?_
 refine⟨[],_,_,_,_,c_r8_little (m:=4) ha hk rfl (by decide) (by decide),rfl,rfl,?_⟩
 have hl:(wrds leW key 4).length=4:=wrds_len _ _ _
 generalize wrds leW key 4=l at hl ⊢
 refine loopNn (fun i=>⟨[(3,.o 1 (.k 0) 0 4),(4,.o 1 (.k 1) 0 i),(5,i64 i)],[.sc (wv l),.sc (wv (gWords i))]⟩) 26 [(4,1,.sc [])] ⟨[.d 10 0,.d 900000 0],⟨rfl,rfl,rfl,trivial⟩,⟨_,rfl,rfl⟩,⟨_,rfl,rfl⟩,trivial⟩ fun i hi=> ?_
 refine spl_d (fun h=> ?_) (fun h=> ?_)
 ·have hlt:i<26:=(by omega)
  refine⟨Zp _,by omega,by rw[wv_len,gWords_len];omega,?_⟩
  refine⟨i+1,by omega,by omega,[.k 0,.d 21 0],⟨rfl,rfl,q7i (by simp(disch:=omega)only[Za];omega),trivial⟩,⟨_,rfl,rfl⟩,⟨_,rfl,q7s ?_⟩,trivial⟩
  have e:U3.wrap ((3084996963:Int)+U3.wrap (U3.wrap (i:Int)*2654435769))=((euler+Zn i*golden).toNat:Int):=by
   rw[nat_u32 i,show(2654435769:Int)=((golden).toNat:Int) from rfl,u32_mul,show(3084996963:Int)=((euler).toNat:Int) from rfl,u32_add]
  rw[gWords_succ,e]
  exact wv_app1 (by rw[gWords_len,Zm])
 obtain rfl:i=26:=(by omega)
 refine loopN (fun i=>⟨[(3,.o 1 (.k 0) 0 4),(4,.o 1 (.k 1) 0 26),(6,u32 (gAll l i).2.2.1),(7,u32 (gAll l i).2.2.2),(8,i64 i)],[.sc (wv (gAll l i).2.1),.sc (wv (gAll l i).1)]⟩) 78 ⟨[.k 0,.k 1],⟨rfl,rfl,rfl,rfl,rfl,trivial⟩,⟨_,rfl,rfl⟩,⟨_,rfl,rfl⟩,trivial⟩ fun i hi=> ?_
 refine spl_d (fun h=> ?_) (fun h=> ?_)
 ·have hlt:i<78:=(by omega)
  obtain⟨l1,l2⟩:=gAll_len l i
  have e1:((i:Int).tmod 26)=((i%26:Nat):Int):=nat_rem i 26
  have e2:((i:Int).tmod 4)=((i%4:Nat):Int):=nat_rem i 4
  have b1:i%26<26:=Z4 _ (by omega)
  have b2:i%4<4:=Z4 _ (by omega)
  refine⟨by decide,by decide,by rw[e1];omega,by rw[e1];omega,?_⟩
  refine⟨_,by rw[e1,Zb,Zm,Zl];exact wv_getD (by omega),?_⟩
  refine⟨[],_,_,_,_,c_r1_rol32' (v:=(gAll l i).1.getD (i%26) 0+(gAll l i).2.2.1+(gAll l i).2.2.2) (k:=3) (by rw[u32_add,u32_add]) (by decide) (by decide),rfl,rfl,?_⟩
  refine⟨by rw[e1];omega,by rw[e1];omega,by rw[e1,wv_len];omega,?_⟩
  refine⟨by decide,by rw[e1];omega,by rw[e1];omega,?_⟩
  refine⟨_,by rw[e1,Zb,Zm,Zl,wv_set];exact wv_set_get (by omega),?_⟩
  refine⟨by decide,by decide,by rw[e2];omega,by rw[e2];omega,?_⟩
  refine⟨_,by rw[e2,Zb,Zm,Zl];exact wv_getD (by omega),?_⟩
  refine⟨by decide,?_⟩
  have e3:((U3.wrap (((gA i (gAll l i)).toNat:Int)+((gAll l i).2.2.2.toNat:Int))).tmod 32)=(((gA i (gAll l i)+(gAll l i).2.2.2)%32).toNat:Int):=by rw[u32_add,u32_rem32]
  have b3:=mod32_lt (gA i (gAll l i)+(gAll l i).2.2.2)
  refine⟨[],_,_,_,_,c_r1_rol32' (v:=(gAll l i).2.1.getD (i%4) 0+gA i (gAll l i)+(gAll l i).2.2.2) (k:=((gA i (gAll l i)+(gAll l i).2.2.2)%32).toNat) (by rw[u32_add];exact u32_add _ _) (by erw [e3];rw[u32_i64];omega) (by erw [e3];rw[u32_i64];omega),rfl,rfl,?_⟩
  refine⟨by rw[e2];omega,by rw[e2];omega,by rw[e2,wv_len];omega,?_⟩
  refine⟨by decide,by rw[e2];omega,by rw[e2];omega,?_⟩
  refine⟨_,by rw[e2,Zb,Zm,Zl,wv_set];exact wv_set_get (by omega),?_⟩
  refine⟨i+1,by omega,by omega,[.k 0,.k 1],⟨rfl,rfl,?_,?_,q7i (by simp(disch:=omega)only[Za];omega),trivial⟩,⟨_,rfl,q7s ?_⟩,⟨_,rfl,q7s ?_⟩,trivial⟩
  ·rw[gAll_succ];rfl
  ·rw[gAll_succ];rfl
  ·rw[e2,Zb,Zm,Zl,wv_set,gAll_succ];rfl
  ·rw[e1,Zb,Zm,Zl,wv_set,gAll_succ];rfl
 ·have e78:i=78:=(by omega)
  rw[e78]
  exact⟨_,rfl,[.k 1],rfl,⟨_,rfl,rfl⟩,trivial⟩
abbrev W2:=UInt32×UInt32
def rA (s:List UInt32) (r:Nat) (x:W2):UInt32:=rol (x.1^^^x.2) (x.2%32).toNat+s.getD (2*r+2) 0
def rStep (s:List UInt32) (x:W2) (r:Nat):W2:=(rA s r x,rol (x.2^^^rA s r x) (rA s r x%32).toNat+s.getD (2*r+3) 0)
def rB (s:List UInt32) (r:Nat) (x:W2):UInt32:=rol (x.2-s.getD (2*r+3) 0) ((32-(x.1%32).toNat)%32)^^^x.1
def rBack (s:List UInt32) (x:W2) (r:Nat):W2:=(rol (x.1-s.getD (2*r+2) 0) ((32-(rB s r x%32).toNat)%32)^^^rB s r x,rB s r x)
def rEncN (s:List UInt32) (p:W2) (n:Nat):W2:=(List.range n).foldl (rStep s) (p.1+s.getD 0 0,p.2+s.getD 1 0)
def rDecN (s:List UInt32) (p:W2) (n:Nat):W2:=(List.range n).foldl (fun x r=>rBack s x (11-r)) p
theorem rEncN_succ (s p n):rEncN s p (n+1)=rStep s (rEncN s p n) n:=by simp[rEncN,Zz]
theorem rDecN_succ (s p n):rDecN s p (n+1)=rBack s (rDecN s p n) (11-n):=by simp[rDecN,Zz]
theorem c_rc5_enc {tag x y:Int} {k:List UInt32} {v w:UInt32} (hk:k.length=26) (hx:x=v.toNat) (hy:y=w.toNat):Con C N.small_Small_rc5 [smallV k tag,vi .u32 x,vi .u32 y,bool false] []
  (.ret (.t [u32 (rEncN k (v,w) 12).1,u32 (rEncN k (v,w) 12).2])) []:=by
 subst hx;subst hy
 refine fd.small_Small_rc5.c ?_
 refine⟨_,rfl,?_⟩
 refine⟨by decide,by omega,?_⟩
 refine⟨_,wv_getD (i:=0) (by omega),?_⟩
 refine⟨by decide,by omega,?_⟩
 refine⟨_,wv_getD (i:=1) (by omega),?_⟩
 refine loopN (fun i=>⟨[(1,u32 (rEncN k (v,w) i).1),(2,u32 (rEncN k (v,w) i).2),(10,wz k),(11,i64 (2*i+2:Nat))],[]⟩) 12 ⟨[],⟨congrArg (vi .u32) (u32_add _ _),congrArg (vi .u32) (u32_add _ _),rfl,rfl,trivial⟩,trivial⟩ fun i hi=> ?_
 refine spl_d (fun h=> ?_) (fun h=> ?_)
 ·have hlt:i<12:=(by omega)
  have b1:=mod32_lt (rEncN k (v,w) i).2
  have b2:=mod32_lt (rA k i (rEncN k (v,w) i))
  refine⟨by decide,?_⟩
  refine⟨[],_,_,_,_,c_rol32' (v:=(rEncN k (v,w) i).1^^^(rEncN k (v,w) i).2) (k:=((rEncN k (v,w) i).2%32).toNat) (u32_xor _ _) (by rw[u32_rem32,u32_i64];omega) (by rw[u32_rem32,u32_i64];omega),rfl,rfl,?_⟩
  refine⟨by omega,by omega,?_⟩
  refine⟨_,wv_getD (i:=2*i+2) (by omega),by decide,?_⟩
  have e3:U3.wrap (((rol ((rEncN k (v,w) i).1^^^(rEncN k (v,w) i).2) ((rEncN k (v,w) i).2%32).toNat).toNat:Int)+((k.getD (2*i+2) 0).toNat:Int))=((rA k i (rEncN k (v,w) i)).toNat:Int):=u32_add _ _
  have e4:(I6.wrap (((2*i+2:Nat):Int)+1)).toNat=2*i+3:=(by simp(disch:=omega)only[Za];omega)
  refine⟨[],_,_,_,_,c_rol32' (v:=(rEncN k (v,w) i).2^^^rA k i (rEncN k (v,w) i)) (k:=(rA k i (rEncN k (v,w) i)%32).toNat) (by rw[e3,u32_xor]) (by rw[e3,u32_rem32,u32_i64];omega) (by rw[e3,u32_rem32,u32_i64];omega),rfl,rfl,?_⟩
  refine⟨by omega,by omega,?_⟩
  refine⟨_,by rw[e4];exact wv_getD (i:=2*i+3) (by omega),?_⟩
  refine⟨i+1,by omega,by omega,[],⟨?_,?_,rfl,q7i (by simp(disch:=omega)only[Za];omega),trivial⟩,trivial⟩
  ·rw[rEncN_succ];exact congrArg (vi .u32) e3
  ·rw[rEncN_succ];exact congrArg (vi .u32) (u32_add _ _)
 ·obtain rfl:i=12:=(by omega)
  exact⟨_,rfl,[],rfl,trivial⟩
theorem c_rc5_dec {tag x y:Int} {k:List UInt32} {v w:UInt32} (hk:k.length=26) (hx:x=v.toNat) (hy:y=w.toNat):Con C N.small_Small_rc5 [smallV k tag,vi .u32 x,vi .u32 y,bool true] []
  (.ret (.t [u32 ((rDecN k (v,w) 12).1-k.getD 0 0),u32 ((rDecN k (v,w) 12).2-k.getD 1 0)])) []:=by
 subst hx;subst hy
 refine fd.small_Small_rc5.c ?_
 refine⟨_,rfl,?_⟩
 refine loopN (fun i=>⟨[(1,u32 (rDecN k (v,w) i).1),(2,u32 (rDecN k (v,w) i).2),(10,wz k),(12,i64 (24-2*i))],[]⟩) 12 ⟨[],⟨rfl,rfl,rfl,rfl,trivial⟩,trivial⟩ fun i hi=> ?_
 refine spl_d (fun h=> ?_) (fun h=> ?_)
 ·have hlt:i<12:=(by omega)
  have b1:=mod32_lt (rDecN k (v,w) i).1
  have b2:=mod32_lt (rB k (11-i) (rDecN k (v,w) i))
  have e4:(I6.wrap ((24:Int)-2*i+1)).toNat=2*(11-i)+3:=(by simp(disch:=omega)only[Za];omega)
  have e5:((24:Int)-2*i).toNat=2*(11-i)+2:=(by omega)
  refine⟨by omega,by omega,?_⟩
  refine⟨_,by rw[e4];exact wv_getD (i:=2*(11-i)+3) (by omega),?_⟩
  refine⟨by decide,?_⟩
  refine⟨[],_,_,_,_,c_rol32' (v:=(rDecN k (v,w) i).2-k.getD (2*(11-i)+3) 0) (k:=(32-((rDecN k (v,w) i).1%32).toNat)%32) (u32_sub _ _) (by rw[u32_rem32,u32_i64];simp only[IntKind.wrap_i64];omega) (by rw[u32_rem32,u32_i64];simp only[IntKind.wrap_i64];omega),rfl,rfl,?_⟩
  have e3:U3.wrap ((Zc U3.bits ((rol ((rDecN k (v,w) i).2-k.getD (2*(11-i)+3) 0) ((32-((rDecN k (v,w) i).1%32).toNat)%32)).toNat:Int)^^^Zc U3.bits ((rDecN k (v,w) i).1.toNat:Int)).toNat:Int)=((rB k (11-i) (rDecN k (v,w) i)).toNat:Int):=u32_xor _ _
  refine⟨by omega,by omega,?_⟩
  refine⟨_,by rw[e5];exact wv_getD (i:=2*(11-i)+2) (by omega),?_⟩
  refine⟨by decide,?_⟩
  refine⟨[],_,_,_,_,c_rol32' (v:=(rDecN k (v,w) i).1-k.getD (2*(11-i)+2) 0) (k:=(32-(rB k (11-i) (rDecN k (v,w) i)%32).toNat)%32) (u32_sub _ _) (by rw[e3,u32_rem32,u32_i64];simp only[IntKind.wrap_i64];omega) (by rw[e3,u32_rem32,u32_i64];simp only[IntKind.wrap_i64];omega),rfl,rfl,?_⟩
  refine⟨i+1,by omega,by omega,[],⟨?_,?_,rfl,q7i (by simp(disch:=omega)only[Za];omega),trivial⟩,trivial⟩
  ·rw[rDecN_succ,e3];exact congrArg (vi .u32) (u32_xor _ _)
  ·rw[rDecN_succ];exact congrArg (vi .u32) e3
 ·obtain rfl:i=12:=(by omega)
  refine⟨by decide,by omega,?_⟩
  refine⟨_,wv_getD (i:=0) (by omega),?_⟩
  refine⟨by decide,by omega,?_⟩
  refine⟨_,wv_getD (i:=1) (by omega),?_⟩
  refine⟨_,rfl,[],?_,trivial⟩
  show V.t [vi .u32 _,vi .u32 _]=_
  rw[u32_sub,u32_sub]
theorem c_r8_rc5_enc {tag x y:Int} {k:List UInt32} {v w:UInt32} (hk:k.length=26) (hx:x=v.toNat) (hy:y=w.toNat):Con C N.r8_Small_rc5 [rSmallV k tag,vi .u32 x,vi .u32 y,bool false] []
  (.ret (.t [u32 (rEncN k (v,w) 12).1,u32 (rEncN k (v,w) 12).2])) []:=by
 subst hx;subst hy
 refine fd.r8_Small_rc5.c ?_
 refine⟨_,rfl,by decide,by omega,?_⟩
 refine⟨_,wv_getD (i:=0) (by omega),?_⟩
 refine⟨_,rfl,by decide,by omega,?_⟩
 refine⟨_,wv_getD (i:=1) (by omega),?_⟩
 refine loopN (fun i=>⟨[(0,rSmallV k tag),(1,u32 (rEncN k (v,w) i).1),(2,u32 (rEncN k (v,w) i).2),(10,i64 (i+1:Nat))],[]⟩) 12 ⟨[],⟨rfl,congrArg (vi .u32) (u32_add _ _),congrArg (vi .u32) (u32_add _ _),rfl,trivial⟩,trivial⟩ fun i hi=> ?_
 refine spl_d (fun h=> ?_) (fun h=> ?_)
 ·have hlt:i<12:=(by omega)
  have b1:=mod32_lt (rEncN k (v,w) i).2
  have b2:=mod32_lt (rA k i (rEncN k (v,w) i))
  have e4:(I6.wrap (2*((i+1:Nat):Int))).toNat=2*i+2:=(by simp(disch:=omega)only[Za];omega)
  have e5:(I6.wrap (I6.wrap (2*((i+1:Nat):Int))+1)).toNat=2*i+3:=(by simp(disch:=omega)only[Za];omega)
  refine⟨by decide,?_⟩
  refine⟨[],_,_,_,_,c_r1_rol32' (v:=(rEncN k (v,w) i).1^^^(rEncN k (v,w) i).2) (k:=((rEncN k (v,w) i).2%32).toNat) (u32_xor _ _) (by rw[u32_rem32,u32_i64];omega) (by rw[u32_rem32,u32_i64];omega),rfl,rfl,?_⟩
  refine⟨_,rfl,by omega,by omega,?_⟩
  refine⟨_,by rw[e4];exact wv_getD (i:=2*i+2) (by omega),?_⟩
  refine⟨by decide,?_⟩
  have e3:U3.wrap (((rol ((rEncN k (v,w) i).1^^^(rEncN k (v,w) i).2) ((rEncN k (v,w) i).2%32).toNat).toNat:Int)+((k.getD (2*i+2) 0).toNat:Int))=((rA k i (rEncN k (v,w) i)).toNat:Int):=u32_add _ _
  refine⟨[],_,_,_,_,c_r1_rol32' (v:=(rEncN k (v,w) i).2^^^rA k i (rEncN k (v,w) i)) (k:=(rA k i (rEncN k (v,w) i)%32).toNat) (by rw[e3,u32_xor]) (by rw[e3,u32_rem32,u32_i64];omega) (by rw[e3,u32_rem32,u32_i64];omega),rfl,rfl,?_⟩
  refine⟨_,rfl,by omega,by omega,?_⟩
  refine⟨_,by rw[e5];exact wv_getD (i:=2*i+3) (by omega),?_⟩
  refine⟨i+1,by omega,by omega,[],⟨rfl,?_,?_,q7i (by simp(disch:=omega)only[Za];omega),trivial⟩,trivial⟩
  ·rw[rEncN_succ];exact congrArg (vi .u32) e3
  ·rw[rEncN_succ];exact congrArg (vi .u32) (u32_add _ _)
 ·obtain rfl:i=12:=(by omega)
  exact⟨_,rfl,[],rfl,trivial⟩
theorem c_r8_rc5_dec {tag x y:Int} {k:List UInt32} {v w:UInt32} (hk:k.length=26) (hx:x=v.toNat) (hy:y=w.toNat):Con C N.r8_Small_rc5 [rSmallV k tag,vi .u32 x,vi .u32 y,bool true] []
  (.ret (.t [u32 ((rDecN k (v,w) 12).1-k.getD 0 0),u32 ((rDecN k (v,w) 12).2-k.getD 1 0)])) []:=by
 subst hx;subst hy
 refine fd.r8_Small_rc5.c ?_
 refine loopN (fun i=>⟨[(0,rSmallV k tag),(1,u32 (rDecN k (v,w) i).1),(2,u32 (rDecN k (v,w) i).2),(11,i64 (12-i))],[]⟩) 12 ⟨[],⟨rfl,rfl,rfl,rfl,trivial⟩,trivial⟩ fun i hi=> ?_
 refine spl_d (fun h=> ?_) (fun h=> ?_)
 ·have hlt:i<12:=(by omega)
  have b1:=mod32_lt (rDecN k (v,w) i).1
  have b2:=mod32_lt (rB k (11-i) (rDecN k (v,w) i))
  have e4:(I6.wrap (I6.wrap (2*((12:Int)-i))+1)).toNat=2*(11-i)+3:=(by simp(disch:=omega)only[Za];omega)
  have e5:(I6.wrap (2*((12:Int)-i))).toNat=2*(11-i)+2:=(by simp(disch:=omega)only[Za];omega)
  refine⟨_,rfl,by omega,by omega,?_⟩
  refine⟨_,by rw[e4];exact wv_getD (i:=2*(11-i)+3) (by omega),?_⟩
  refine⟨by decide,?_⟩
  refine⟨[],_,_,_,_,c_r1_rol32' (v:=(rDecN k (v,w) i).2-k.getD (2*(11-i)+3) 0) (k:=(32-((rDecN k (v,w) i).1%32).toNat)%32) (u32_sub _ _) (by rw[u32_rem32,u32_i64];simp only[IntKind.wrap_i64];omega) (by rw[u32_rem32,u32_i64];simp only[IntKind.wrap_i64];omega),rfl,rfl,?_⟩
  have e3:U3.wrap ((Zc U3.bits ((rol ((rDecN k (v,w) i).2-k.getD (2*(11-i)+3) 0) ((32-((rDecN k (v,w) i).1%32).toNat)%32)).toNat:Int)^^^Zc U3.bits ((rDecN k (v,w) i).1.toNat:Int)).toNat:Int)=((rB k (11-i) (rDecN k (v,w) i)).toNat:Int):=u32_xor _ _
  refine⟨_,rfl,by omega,by omega,?_⟩
  refine⟨_,by rw[e5];exact wv_getD (i:=2*(11-i)+2) (by omega),?_⟩
  refine⟨by decide,?_⟩
  refine⟨[],_,_,_,_,c_r1_rol32' (v:=(rDecN k (v,w) i).1-k.getD (2*(11-i)+2) 0) (k:=(32-(rB k (11-i) (rDecN k (v,w) i)%32).toNat)%32) (u32_sub _ _) (by rw[e3,u32_rem32,u32_i64];simp only[IntKind.wrap_i64];omega) (by rw[e3,u32_rem32,u32_i64];simp only[IntKind.wrap_i64];omega),rfl,rfl,?_⟩
  refine⟨i+1,by omega,by omega,[],⟨rfl,?_,?_,q7i (by simp(disch:=omega)only[Za];omega),trivial⟩,trivial⟩
  ·rw[rDecN_succ,e3];exact congrArg (vi .u32) (u32_xor _ _)
  ·rw[rDecN_succ];exact congrArg (vi .u32) e3
 ·obtain rfl:i=12:=(by omega)
  refine⟨_,rfl,by decide,by omega,?_⟩
  refine⟨_,wv_getD (i:=0) (by omega),?_⟩
  refine⟨_,rfl,by decide,by omega,?_⟩
  refine⟨_,wv_getD (i:=1) (by omega),?_⟩
  refine⟨_,rfl,[],?_,trivial⟩
  show V.t [vi .u32 _,vi .u32 _]=_
  rw[u32_sub,u32_sub]
theorem c_At {l:Bs} {x:V} {j:Nat} {i:Int} (hx:x=str l) (hi:i=j) (hj:j<l.length) (hd:isDig (l.getD j 48)=true):Con C N.r6_At [x,i64 i] [] (.ret (i64 (digN (l.getD j 48)))) []:=by
 subst hx;subst hi
 refine fd.r6_At.c ?_
 refine⟨by omega,?_,?_⟩
 ·show((j:Int))<(((l.toArray).size:Nat):Int)
  simp only[List.size_toArray]
  omega
 refine⟨_,by rw[Zb];exact str_get hj,?_⟩
 refine⟨[],_,_,_,_,c_digit rfl hd,rfl,rfl,?_⟩
 exact⟨_,rfl,[],rfl,trivial⟩
theorem c_r8_row {j:Nat} {i:Int} (hi:i=j) (hj:j<8):Con C N.r8_row [i64 i] [] (.ret (str (mRows.getD j []))) []:=by
 subst hi
 refine fd.r8_row.c ?_
 refine⟨by omega,by omega,?_⟩
 refine⟨.string ⟨(mRows.getD j []).toArray⟩,?_,?_⟩
 ·rw[Zb,Zm,Zl]
  show(mRows.map fun l=>Value.string ⟨l.toArray⟩)[j]? =_
  have:j<mRows.length:=hj
  simp[this]
 ·exact⟨_,rfl,[],rfl,trivial⟩
theorem c_r8_G {a b:Int} {x k:UInt32} (ha:a=x.toNat) (hb:b=k.toNat):Con C N.r8_G [vi .u32 a,vi .u32 b] [] (.ret (u32 (mG x k))) []:=by
 subst ha;subst hb
 refine fd.r8_G.c ?_
 refine loopN (fun i=>⟨[(0,u32 (x+k)),(5,u32 ((List.range i).foldl (fun o i=>o|||mStep (x+k) i) 0)),(6,i64 i)],[]⟩) 8 ⟨[],⟨congrArg (vi .u32) (u32_add _ _),rfl,rfl,trivial⟩,trivial⟩ fun i hi=> ?_
 refine spl_d (fun h=> ?_) (fun h=> ?_)
 ·have hlt:i<8:=(by omega)
  have e4:U6.wrap (I6.wrap (4*(i:Int)))=((4*i:Nat):Int):=by simp only[IntKind.wrap_i64,wrap_u64];omega
  have e5:((x+k).toNat:Int).fdiv (2^(min (((4*i:Nat):Int)).toNat U3.bits))=(((x+k)>>>Zn (4*i)).toNat:Int):=by
   rw[u32_shr _ _ (by omega) (by omega),Zb]
  have e6:U3.wrap ((Zc U3.bits ((((x+k)>>>Zn (4*i)).toNat:Nat):Int)&&&Zc U3.bits 15).toNat:Int)=(((x+k)>>>Zn (4*i)&&&15).toNat:Int):=u32_and _ 15
  have b:=and15_lt ((x+k)>>>Zn (4*i))
  have hl:=mRows_len i hlt
  refine⟨[],_,_,_,_,c_r8_row (j:=i) rfl hlt,rfl,rfl,?_⟩
  refine⟨by rw[e4];omega,?_⟩
  refine⟨[],_,_,_,_,c_At (j:=((x+k)>>>Zn (4*i)&&&15).toNat) rfl (by rw[e4,e5,e6,u32_i64]) (by omega) (mRows_dig i hlt _ b),rfl,rfl,?_⟩
  refine⟨by rw[e4];omega,?_⟩
  refine⟨i+1,hlt,by omega,[],⟨rfl,congrArg (vi .u32) ?_,q7i (by simp(disch:=omega)only[Za];omega),trivial⟩,trivial⟩
  rw[e4,nat_u32 (digN _),u32_shl _ _ (by omega) (by omega),u32_or,Zz,J4,Zb]
  rfl
 ·obtain rfl:i=8:=(by omega)
  refine⟨[],_,_,_,_,c_r1_rol32' (k:=11) rfl (by decide) (by decide),rfl,rfl,?_⟩
  exact⟨_,rfl,[],rfl,trivial⟩
theorem mKeys_get {k:List UInt32} (hk:k.length=8) {n:Nat} (hn:n<32):(mKeys k)[n]? =some (k.getD (if 24≤n then 31-n else n%8) 0):=by
 unfold mKeys
 have g:∀j,j<8→k[j]? =some (k.getD j 0):=fun j hj=>by rw[Zd,Zf (by omega)];rfl
 by_cases h1:n<8
 ·rw[Jf,Jf,Ja (by omega),if_neg (by omega),g n h1,Zh h1]
 by_cases h2:n<16
 ·rw[Jf,Jf,Z7 (by omega),Ja (by omega),if_neg (by omega),g _ (by omega),hk]
  congr 2;omega
 by_cases h3:n<24
 ·rw[Ja (by simp;omega),Z7 (by simp;omega),if_neg (by omega),g _ (by simp;omega)]
  congr 2;simp;omega
 ·rw[Z7 (by simp;omega),if_pos (by omega),Ky (by simp;omega),g _ (by simp;omega)]
  congr 2;simp;omega
theorem c_r8_magma_f {tag x y:Int} {k:List UInt32} {v w:UInt32} (hk:k.length=8) (hx:x=v.toNat) (hy:y=w.toNat):Con C N.r8_Small_magma [rSmallV k tag,vi .u32 x,vi .u32 y,bool false] []
  (.ret (.t [u32 (mTurn (mKeys k) v w).1,u32 (mTurn (mKeys k) v w).2])) []:=by
 subst hx;subst hy
 refine fd.r8_Small_magma.c ?_
 have hm:(mKeys k).length=32:=by simp[mKeys,hk]
 refine loopN (fun i=>⟨[(0,rSmallV k tag),(1,u32 ((((mKeys k).take i).foldl mRound (v,w)).1)),(2,u32 ((((mKeys k).take i).foldl mRound (v,w)).2)),(3,bool false),(10,i64 i)],[]⟩) 32 ⟨[],⟨rfl,rfl,rfl,rfl,rfl,trivial⟩,trivial⟩ fun i hi=> ?_
 refine spl_d (fun h=> ?_) (fun h=> ?_)
 ·have hlt:i<32:=(by omega)
  have eg:=mKeys_get hk hlt
  have gi:(mKeys k)[i]'(by omega)=k.getD (if 24≤i then 31-i else i%8) 0:=by
   rw[Zf (by omega)]at eg;exact Option.some.inj eg
  have e8:((i:Int).tmod 8)=((i%8:Nat):Int):=nat_rem i 8
  refine⟨by decide,?_⟩
  refine spl_d (fun h24=> ?_) (fun h24=> ?_)
  ·have e:(I6.wrap (31-(i:Int))).toNat=31-i:=(by simp(disch:=omega)only[Za];omega)
   refine⟨_,rfl,(by simp(disch:=omega)only[Za];omega),by omega,?_⟩
   refine⟨_,by rw[e];exact wv_getD (i:=31-i) (by omega),?_⟩
   refine⟨[],_,_,_,_,c_r8_G rfl rfl,rfl,rfl,?_⟩
   refine⟨i+1,by omega,by omega,[],⟨rfl,?_,?_,rfl,q7i (by simp(disch:=omega)only[Za];omega),trivial⟩,trivial⟩
   ·rw[foldl_take _ _ _ _ (by omega)];rfl
   ·rw[foldl_take _ _ _ _ (by omega),gi,if_pos (by omega)];exact congrArg (vi .u32) (u32_xor _ _)
  ·refine⟨_,rfl,by rw[e8];omega,by rw[e8];omega,?_⟩
   refine⟨_,by rw[e8,Zb];exact wv_getD (i:=i%8) (by omega),?_⟩
   refine⟨[],_,_,_,_,c_r8_G rfl rfl,rfl,rfl,?_⟩
   refine⟨i+1,by omega,by omega,[],⟨rfl,?_,?_,rfl,q7i (by simp(disch:=omega)only[Za];omega),trivial⟩,trivial⟩
   ·rw[foldl_take _ _ _ _ (by omega)];rfl
   ·rw[foldl_take _ _ _ _ (by omega),gi,if_neg (by omega)];exact congrArg (vi .u32) (u32_xor _ _)
 ·obtain rfl:i=32:=(by omega)
  rw[←hm,Zq]
  exact⟨_,rfl,[],rfl,trivial⟩
theorem c_r8_magma_t {tag x y:Int} {k:List UInt32} {v w:UInt32} (hk:k.length=8) (hx:x=v.toNat) (hy:y=w.toNat):Con C N.r8_Small_magma [rSmallV k tag,vi .u32 x,vi .u32 y,bool true] []
  (.ret (.t [u32 (mTurn (mKeys k).reverse v w).1,u32 (mTurn (mKeys k).reverse v w).2])) []:=by
 subst hx;subst hy
 refine fd.r8_Small_magma.c ?_
 have hm:(mKeys k).reverse.length=32:=by simp[mKeys,hk]
 refine loopN (fun i=>⟨[(0,rSmallV k tag),(1,u32 ((((mKeys k).reverse.take i).foldl mRound (v,w)).1)),(2,u32 ((((mKeys k).reverse.take i).foldl mRound (v,w)).2)),(3,bool true),(10,i64 i)],[]⟩) 32 ⟨[],⟨rfl,rfl,rfl,rfl,rfl,trivial⟩,trivial⟩ fun i hi=> ?_
 refine spl_d (fun h=> ?_) (fun h=> ?_)
 ·have hlt:i<32:=(by omega)
  have eg:=mKeys_get hk (n:=31-i) (by omega)
  have gi:(mKeys k).reverse[i]'(by omega)=k.getD (if 24≤31-i then 31-(31-i)else (31-i)%8) 0:=by
   rw[Zf (by simp at hm;omega)]at eg
   rw[Js,←Option.some.inj eg]
   congr 1
   simp at hm;omega
  have e8:((I6.wrap (31-(i:Int))).tmod 8)=(((31-i)%8:Nat):Int):=by
   rw[show I6.wrap (31-(i:Int))=((31-i:Nat):Int) from (by simp(disch:=omega)only[Za];omega)];exact nat_rem _ 8
  have e31:I6.wrap (31-(i:Int))=((31-i:Nat):Int):=(by simp(disch:=omega)only[Za];omega)
  refine⟨by decide,?_⟩
  refine spl_d (fun h24=> ?_) (fun h24=> ?_)
  ·have e:(I6.wrap (31-I6.wrap (31-(i:Int)))).toNat=31-(31-i):=(by simp(disch:=omega)only[Za];omega)
   rw[e31]at h24
   refine⟨_,rfl,(by simp(disch:=omega)only[Za];omega),by omega,?_⟩
   refine⟨_,by rw[e];exact wv_getD (i:=31-(31-i)) (by omega),?_⟩
   refine⟨[],_,_,_,_,c_r8_G rfl rfl,rfl,rfl,?_⟩
   refine⟨i+1,by omega,by omega,[],⟨rfl,?_,?_,rfl,q7i (by simp(disch:=omega)only[Za];omega),trivial⟩,trivial⟩
   ·rw[foldl_take _ _ _ _ (by omega)];rfl
   ·rw[foldl_take _ _ _ _ (by omega),gi,if_pos (by omega)];exact congrArg (vi .u32) (u32_xor _ _)
  ·rw[e31]at h24
   refine⟨_,rfl,by rw[e8];omega,by rw[e8];omega,?_⟩
   refine⟨_,by rw[e8,Zb];exact wv_getD (i:=(31-i)%8) (by omega),?_⟩
   refine⟨[],_,_,_,_,c_r8_G rfl rfl,rfl,rfl,?_⟩
   refine⟨i+1,by omega,by omega,[],⟨rfl,?_,?_,rfl,q7i (by simp(disch:=omega)only[Za];omega),trivial⟩,trivial⟩
   ·rw[foldl_take _ _ _ _ (by omega)];rfl
   ·rw[foldl_take _ _ _ _ (by omega),gi,if_neg (by omega)];exact congrArg (vi .u32) (u32_xor _ _)
 ·obtain rfl:i=32:=(by omega)
  rw[←hm,Zq]
  exact⟨_,rfl,[],rfl,trivial⟩
def putB (v:UInt32):Bs:=storeL v.toUInt64 4
def putL (v:UInt32):Bs:=(storeL v.toUInt64 4).reverse
theorem putB_len (v):(putB v).length=4:=storeL_len _ _
theorem putL_len (v):(putL v).length=4:=by simp[putL,storeL_len]
abbrev nilv:V:= .s (.slice none 0 0)
abbrev okBlk (n:Nat):Oc:= .ret (.t [.o 1 (.k 0) 0 n,i64 0])
abbrev badBlk:Oc:= .ret (.t [nilv,i64 1])
theorem c_stored_f {x y:Int} {v w:UInt32} (hx:x=v.toNat) (hy:y=w.toNat):Con C N.small_stored [vi .u32 x,vi .u32 y,bool false] [] (.ret (.o 1 (.k 0) 0 8)) [.sc (bv (putB v++putB w))]:=by
 subst hx;subst hy
 refine fd.small_stored.c ?_
 refine⟨[],_,_,_,_,c_putBe32 rfl,rfl,rfl,?_⟩
 refine⟨[],_,_,_,_,c_putBe32 rfl,rfl,rfl,?_⟩
 refine⟨[],_,_,_,_,c_concatB' (ls:=[putB v,putB w]) (t:=putB v++putB w) (by simp) ?_ rfl (by simp[putB_len]) (by simp[putB_len]),rfl,rfl,?_⟩
 ·show[V.z _ _,V.z _ _]=_
  rw[bv_all (storeL_len _ _),bv_all (storeL_len _ _)]
  simp[putB,storeL_len]
 refine⟨_,rfl,[.d 19 0],?_,⟨_,rfl,rfl⟩,trivial⟩
 show V.o 1 (.k 0) 0 _=_
 rw[Ze,putB_len,putB_len]
theorem c_stored_t {x y:Int} {v w:UInt32} (hx:x=v.toNat) (hy:y=w.toNat):Con C N.small_stored [vi .u32 x,vi .u32 y,bool true] [] (.ret (.o 1 (.k 0) 0 8)) [.sc (bv (putL v++putL w))]:=by
 subst hx;subst hy
 refine fd.small_stored.c ?_
 refine⟨[],_,_,_,_,c_putLe32 rfl,rfl,rfl,?_⟩
 refine⟨[],_,_,_,_,c_putLe32 rfl,rfl,rfl,?_⟩
 refine⟨[],_,_,_,_,c_concatB' (ls:=[putL v,putL w]) (t:=putL v++putL w) (by simp) ?_ rfl (by simp[putL_len]) (by simp[putL_len]),rfl,rfl,?_⟩
 ·show[V.z _ _,V.z _ _]=_
  rw[show (storeL v.toUInt64 4).reverse=putL v from rfl,show(storeL w.toUInt64 4).reverse=putL w from rfl,bv_all (putL_len _),bv_all (putL_len _)]
  simp[putL,storeL_len]
 refine⟨_,rfl,[.d 13 0],?_,⟨_,rfl,rfl⟩,trivial⟩
 show V.o 1 (.k 0) 0 _=_
 rw[Ze,putL_len,putL_len]
theorem c_blk_x {va:List Value} {k:List UInt32} {b:Bs} {back:Bool} {r:W2} (ha:va=bv b) (hb:b.length=8) (hf:Con C N.small_Small_xtea [smallV k 4,u32 (beW (sub b 0 4)),u32 (beW (sub b 4 4)),bool back] [] (.ret (.t [u32 r.1,u32 r.2])) []):Con C N.small_Small_Block [smallV k 4,.z 8 va,bool back] [] (okBlk 8) [.sc (bv (putB r.1++putB r.2))]:=by
 refine fd.small_Small_Block.c ?_
 refine⟨_,rfl,?_⟩
 refine⟨[],_,_,_,_,c_loaded_be (m:=2) ha hb rfl (by decide) (by decide),rfl,rfl,?_⟩
 refine⟨by decide,by decide,_,rfl,by decide,by decide,_,rfl,_,rfl,?_⟩
 refine⟨[],_,_,_,_,hf,rfl,rfl,?_⟩
 refine⟨[],_,_,_,_,c_stored_f rfl rfl,rfl,rfl,?_⟩
 exact⟨_,rfl,[.d 66 0],rfl,⟨_,rfl,rfl⟩,trivial⟩
theorem c_blk_m {va:List Value} {k:List UInt32} {b:Bs} {back:Bool} {r:W2} (ha:va=bv b) (hb:b.length=8) (hf:Con C N.small_Small_magma [smallV k 5,u32 (beW (sub b 0 4)),u32 (beW (sub b 4 4)),bool back] [] (.ret (.t [u32 r.1,u32 r.2])) []):Con C N.small_Small_Block [smallV k 5,.z 8 va,bool back] [] (okBlk 8) [.sc (bv (putB r.1++putB r.2))]:=by
 refine fd.small_Small_Block.c ?_
 refine⟨_,rfl,?_⟩
 refine⟨[],_,_,_,_,c_loaded_be (m:=2) ha hb rfl (by decide) (by decide),rfl,rfl,?_⟩
 refine⟨by decide,by decide,_,rfl,by decide,by decide,_,rfl,_,rfl,?_⟩
 refine⟨[],_,_,_,_,hf,rfl,rfl,?_⟩
 refine⟨[],_,_,_,_,c_stored_f rfl rfl,rfl,rfl,?_⟩
 exact⟨_,rfl,[.d 66 0],rfl,⟨_,rfl,rfl⟩,trivial⟩
theorem c_blk_r {va:List Value} {k:List UInt32} {b:Bs} {back:Bool} {r:W2} (ha:va=bv b) (hb:b.length=8) (hf:Con C N.small_Small_rc5 [smallV k 8,u32 (leW (sub b 0 4)),u32 (leW (sub b 4 4)),bool back] [] (.ret (.t [u32 r.1,u32 r.2])) []):Con C N.small_Small_Block [smallV k 8,.z 8 va,bool back] [] (okBlk 8) [.sc (bv (putL r.1++putL r.2))]:=by
 refine fd.small_Small_Block.c ?_
 refine⟨_,rfl,?_⟩
 refine⟨[],_,_,_,_,c_loaded_le (m:=2) ha hb rfl (by decide) (by decide),rfl,rfl,?_⟩
 refine⟨by decide,by decide,_,rfl,by decide,by decide,_,rfl,_,rfl,?_⟩
 refine⟨[],_,_,_,_,hf,rfl,rfl,?_⟩
 refine⟨[],_,_,_,_,c_stored_t rfl rfl,rfl,rfl,?_⟩
 exact⟨_,rfl,[.d 66 0],rfl,⟨_,rfl,rfl⟩,trivial⟩
theorem c_blk_bad {va:List Value} {k:List UInt32} {tag:Int} {n:Nat} {back:Bool} (hn:n≠8):Con C N.small_Small_Block [smallV k tag,.z n va,bool back] [] badBlk []:=by
 refine fd.small_Small_Block.c ?_
 refine spl_ne (fun h=> ?_) (fun h=>absurd (by omega) hn)
 exact⟨_,rfl,[],rfl,trivial⟩
theorem c_r8_blk_x {va:List Value} {k:List UInt32} {b:Bs} {back:Bool} {r:W2} (ha:va=bv b) (hb:b.length=8) (hf:Con C N.r8_Small_xtea [rSmallV k 4,u32 (beW (sub b 0 4)),u32 (beW (sub b 4 4)),bool back] [] (.ret (.t [u32 r.1,u32 r.2])) []):Con C N.r8_Small_Block [rSmallV k 4,.z 8 va,bool back] [] (okBlk 8) [.sc (bv (putB r.1++putB r.2))]:=by
 refine fd.r8_Small_Block.c ?_
 refine⟨_,rfl,?_⟩
 refine⟨[],_,_,_,_,c_r8_big (m:=2) ha hb rfl (by decide) (by decide),rfl,rfl,?_⟩
 refine⟨by decide,by decide,_,rfl,by decide,by decide,_,rfl,_,rfl,?_⟩
 refine⟨[],_,_,_,_,hf,rfl,rfl,?_⟩
 refine⟨[],_,_,_,_,c_r1_putBe32 rfl,rfl,rfl,?_⟩
 refine⟨[],_,_,_,_,c_r1_putBe32 rfl,rfl,rfl,?_⟩
 refine⟨by simp[storeL_len,bv_len,iv_len,wv_len,Ze,Zj,Zu,Zv,Zx,Zs,Zw,sub_length,Zi,Zy,Zo],by decide,by simp[storeL_len,bv_len,iv_len,wv_len,Ze,Zj,Zu,Zv,Zx,Zs,Zw,sub_length,Zi,Zy,Zo],?_⟩
 refine⟨_,rfl,[.d 74 0],rfl,⟨_,rfl,q7s ?_⟩,trivial⟩
 rw[bv_all (storeL_len _ _),bv_all (storeL_len _ _),bv_app];rfl
theorem c_r8_blk_m {va:List Value} {k:List UInt32} {b:Bs} {back:Bool} {r:W2} (ha:va=bv b) (hb:b.length=8) (hf:Con C N.r8_Small_magma [rSmallV k 5,u32 (beW (sub b 0 4)),u32 (beW (sub b 4 4)),bool back] [] (.ret (.t [u32 r.1,u32 r.2])) []):Con C N.r8_Small_Block [rSmallV k 5,.z 8 va,bool back] [] (okBlk 8) [.sc (bv (putB r.1++putB r.2))]:=by
 refine fd.r8_Small_Block.c ?_
 refine⟨_,rfl,?_⟩
 refine⟨[],_,_,_,_,c_r8_big (m:=2) ha hb rfl (by decide) (by decide),rfl,rfl,?_⟩
 refine⟨by decide,by decide,_,rfl,by decide,by decide,_,rfl,_,rfl,?_⟩
 refine⟨[],_,_,_,_,hf,rfl,rfl,?_⟩
 refine⟨[],_,_,_,_,c_r1_putBe32 rfl,rfl,rfl,?_⟩
 refine⟨[],_,_,_,_,c_r1_putBe32 rfl,rfl,rfl,?_⟩
 refine⟨by simp[storeL_len,bv_len,iv_len,wv_len,Ze,Zj,Zu,Zv,Zx,Zs,Zw,sub_length,Zi,Zy,Zo],by decide,by simp[storeL_len,bv_len,iv_len,wv_len,Ze,Zj,Zu,Zv,Zx,Zs,Zw,sub_length,Zi,Zy,Zo],?_⟩
 refine⟨_,rfl,[.d 74 0],rfl,⟨_,rfl,q7s ?_⟩,trivial⟩
 rw[bv_all (storeL_len _ _),bv_all (storeL_len _ _),bv_app];rfl
theorem c_r8_blk_r {va:List Value} {k:List UInt32} {b:Bs} {back:Bool} {r:W2} (ha:va=bv b) (hb:b.length=8) (hf:Con C N.r8_Small_rc5 [rSmallV k 8,u32 (leW (sub b 0 4)),u32 (leW (sub b 4 4)),bool back] [] (.ret (.t [u32 r.1,u32 r.2])) []):Con C N.r8_Small_Block [rSmallV k 8,.z 8 va,bool back] [] (okBlk 8) [.sc (bv (putL r.1++putL r.2))]:=by
 refine fd.r8_Small_Block.c ?_
 refine⟨_,rfl,?_⟩
 refine⟨[],_,_,_,_,c_r8_little (m:=2) ha hb rfl (by decide) (by decide),rfl,rfl,?_⟩
 refine⟨by decide,by decide,_,rfl,by decide,by decide,_,rfl,?_⟩
 refine⟨[],_,_,_,_,hf,rfl,rfl,?_⟩
 refine⟨[],_,_,_,_,c_r1_putLe32 rfl,rfl,rfl,?_⟩
 refine⟨[],_,_,_,_,c_r1_putLe32 rfl,rfl,rfl,?_⟩
 refine⟨by simp[storeL_len,bv_len,iv_len,wv_len,Ze,Zj,Zu,Zv,Zx,Zs,Zw,sub_length,Zi,Zy,Zo],by decide,by simp[storeL_len,bv_len,iv_len,wv_len,Ze,Zj,Zu,Zv,Zx,Zs,Zw,sub_length,Zi,Zy,Zo],?_⟩
 refine⟨_,rfl,[.d 40 0],rfl,⟨_,rfl,q7s ?_⟩,trivial⟩
 rw[show (storeL r.1.toUInt64 4).reverse=putL r.1 from rfl,show(storeL r.2.toUInt64 4).reverse=putL r.2 from rfl,bv_all (putL_len _),bv_all (putL_len _),bv_app]
theorem c_r8_blk_bad {va:List Value} {k:List UInt32} {tag:Int} {n:Nat} {back:Bool} (hn:n≠8):Con C N.r8_Small_Block [rSmallV k tag,.z n va,bool back] [] badBlk []:=by
 refine fd.r8_Small_Block.c ?_
 refine spl_ne (fun h=> ?_) (fun h=>absurd (by omega) hn)
 exact⟨_,rfl,[],rfl,trivial⟩
theorem c_small_new_x {va:List Value} {key:Bs} (ha:va=bv key) (hk:key.length=16):Con C N.small_New [i64 4,.z 16 va] [] (.ret (.t [smallV (wrds beW key 4) 4,i64 0])) []:=by
 refine fd.small_New.c ?_
 refine⟨[],_,_,_,_,c_loaded_be (m:=4) ha hk rfl (by decide) (by decide),rfl,rfl,?_⟩
 refine⟨_,rfl,[],?_,trivial⟩
 show V.t [.q [.z 4 (sub _ 0 4),i64 4] 0,i64 0]=V.t [.q [.z _ _,i64 4] 0,i64 0]
 rw[wv_all (wrds_len _ _ _),wrds_len]
theorem c_small_new_m {va:List Value} {key:Bs} (ha:va=bv key) (hk:key.length=32):Con C N.small_New [i64 5,.z 32 va] [] (.ret (.t [smallV (wrds beW key 8) 5,i64 0])) []:=by
 refine fd.small_New.c ?_
 refine⟨[],_,_,_,_,c_loaded_be (m:=8) ha hk rfl (by decide) (by decide),rfl,rfl,?_⟩
 refine⟨_,rfl,[],?_,trivial⟩
 show V.t [.q [.z 8 (sub _ 0 8),i64 5] 0,i64 0]=V.t [.q [.z _ _,i64 5] 0,i64 0]
 rw[wv_all (wrds_len _ _ _),wrds_len]
theorem c_small_new_r {va:List Value} {key:Bs} (ha:va=bv key) (hk:key.length=16):Con C N.small_New [i64 8,.z 16 va] [] (.ret (.t [smallV (gAll (wrds leW key 4) 78).1 8,i64 0])) []:=by
 refine fd.small_New.c ?_
 refine⟨[],_,_,_,_,c_loaded_le (m:=4) ha hk rfl (by decide) (by decide),rfl,rfl,?_⟩
 refine⟨[.d 21 0],_,_,_,_,c_grow (wrds_len leW key 4),rfl,rfl,?_⟩
 refine⟨_,rfl,[],?_,trivial⟩
 have h:=(gAll_len (wrds leW key 4) 78).1
 show V.t [.q [.z 26 (sub _ 0 26),i64 8] 0,i64 0]=V.t [.q [.z _ _,i64 8] 0,i64 0]
 rw[wv_all h,h]
theorem c_r8_new_x {va:List Value} {key:Bs} (ha:va=bv key) (hk:key.length=16):Con C N.r8_New [i64 4,.z 16 va] [] (.ret (.t [rSmallV (wrds beW key 4) 4,i64 0])) []:=by
 refine fd.r8_New.c ?_
 refine⟨[],_,_,_,_,c_r8_big (m:=4) ha hk rfl (by decide) (by decide),rfl,rfl,?_⟩
 refine⟨_,rfl,[],?_,trivial⟩
 show V.t [.q [i64 4,.z 4 (sub _ 0 4)] 0,i64 0]=V.t [.q [i64 4,.z _ _] 0,i64 0]
 rw[wv_all (wrds_len _ _ _),wrds_len]
theorem c_r8_new_m {va:List Value} {key:Bs} (ha:va=bv key) (hk:key.length=32):Con C N.r8_New [i64 5,.z 32 va] [] (.ret (.t [rSmallV (wrds beW key 8) 5,i64 0])) []:=by
 refine fd.r8_New.c ?_
 refine⟨[],_,_,_,_,c_r8_big (m:=8) ha hk rfl (by decide) (by decide),rfl,rfl,?_⟩
 refine⟨_,rfl,[],?_,trivial⟩
 show V.t [.q [i64 5,.z 8 (sub _ 0 8)] 0,i64 0]=V.t [.q [i64 5,.z _ _] 0,i64 0]
 rw[wv_all (wrds_len _ _ _),wrds_len]
theorem c_r8_new_r {va:List Value} {key:Bs} (ha:va=bv key) (hk:key.length=16):Con C N.r8_New [i64 8,.z 16 va] [] (.ret (.t [rSmallV (gAll (wrds leW key 4) 78).1 8,i64 0])) []:=by
 refine fd.r8_New.c ?_
 refine⟨[],_,_,_,_,c_r8_stretched ha hk,rfl,rfl,?_⟩
 refine⟨_,rfl,[],?_,trivial⟩
 have h:=(gAll_len (wrds leW key 4) 78).1
 show V.t [.q [i64 8,.z 26 (sub _ 0 26)] 0,i64 0]=V.t [.q [i64 8,.z _ _] 0,i64 0]
 rw[wv_all h,h]
def cSize (t:Int):Int:=if t=1∨t=2∨t=3∨t=4∨t=5∨t=8 then 8 else if t=6∨t=7 then 16 else 0
def cLens (t:Int):List Int:=if t=1 then [8]else if t=2 then [16,24]else if t=3∨t=4∨t=8 then [16]else if t=5 then [32]else if t=6∨t=7 then [16,24,32]else []
def okTag (t:Int):Prop:=t=1∨t=2∨t=3∨t=4∨t=5∨t=6∨t=7∨t=8
theorem c_size {t:Int} (h:okTag t):Con C N.cipher_Size [i64 t] [] (.ret (i64 (cSize t))) []:=by
 rcases h with rfl|rfl|rfl|rfl|rfl|rfl|rfl|rfl<;>exact fd.cipher_Size.c ⟨_,rfl,[],rfl,trivial⟩
theorem c_r11_size {t:Int} (h:okTag t):Con C N.r11_Size [i64 t] [] (.ret (i64 (cSize t))) []:=by
 rcases h with rfl|rfl|rfl|rfl|rfl|rfl|rfl|rfl<;>exact fd.r11_Size.c ⟨_,rfl,[],rfl,trivial⟩
theorem c_size_no {t:Int} (h:¬okTag t):Con C N.cipher_Size [i64 t] [] (.ret (i64 0)) []:=by
 unfold okTag at h
 refine fd.cipher_Size.c ?_
 refine spl_f (by simp only[beq_eq_false_iff_ne,ne_eq];omega) (spl_f (by simp only[beq_eq_false_iff_ne,ne_eq];omega) (spl_f (by simp only[beq_eq_false_iff_ne,ne_eq];omega) (spl_f (by simp only[beq_eq_false_iff_ne,ne_eq];omega) (spl_f (by simp only[beq_eq_false_iff_ne,ne_eq];omega) (spl_f (by simp only[beq_eq_false_iff_ne,ne_eq];omega) (spl_f (by simp only[beq_eq_false_iff_ne,ne_eq];omega) (spl_f (by simp only[beq_eq_false_iff_ne,ne_eq];omega) ?_)))))))
 exact⟨_,rfl,[],rfl,trivial⟩
theorem c_lens {t:Int} (h:okTag t):Con C N.cipher_Lengths [i64 t] [] (.ret (.o 1 (.k 0) 0 (cLens t).length)) [.sc (iv (cLens t))]:=by
 rcases h with rfl|rfl|rfl|rfl|rfl|rfl|rfl|rfl
 ·exact fd.cipher_Lengths.c ⟨_,rfl,[.d 6 0],rfl,⟨_,rfl,rfl⟩,trivial⟩
 ·exact fd.cipher_Lengths.c ⟨_,rfl,[.d 9 0],rfl,⟨_,rfl,rfl⟩,trivial⟩
 ·exact fd.cipher_Lengths.c ⟨_,rfl,[.d 14 0],rfl,⟨_,rfl,rfl⟩,trivial⟩
 ·exact fd.cipher_Lengths.c ⟨_,rfl,[.d 14 0],rfl,⟨_,rfl,rfl⟩,trivial⟩
 ·exact fd.cipher_Lengths.c ⟨_,rfl,[.d 17 0],rfl,⟨_,rfl,rfl⟩,trivial⟩
 ·exact fd.cipher_Lengths.c ⟨_,rfl,[.d 21 0],rfl,⟨_,rfl,rfl⟩,trivial⟩
 ·exact fd.cipher_Lengths.c ⟨_,rfl,[.d 21 0],rfl,⟨_,rfl,rfl⟩,trivial⟩
 ·exact fd.cipher_Lengths.c ⟨_,rfl,[.d 14 0],rfl,⟨_,rfl,rfl⟩,trivial⟩
theorem c_r11_lens {t:Int} (h:okTag t):Con C N.r11_Lengths [i64 t] [] (.ret (.o 1 (.k 0) 0 (cLens t).length)) [.sc (iv (cLens t))]:=by
 rcases h with rfl|rfl|rfl|rfl|rfl|rfl|rfl|rfl
 ·exact fd.r11_Lengths.c ⟨_,rfl,[.d 6 0],rfl,⟨_,rfl,rfl⟩,trivial⟩
 ·exact fd.r11_Lengths.c ⟨_,rfl,[.d 9 0],rfl,⟨_,rfl,rfl⟩,trivial⟩
 ·exact fd.r11_Lengths.c ⟨_,rfl,[.d 14 0],rfl,⟨_,rfl,rfl⟩,trivial⟩
 ·exact fd.r11_Lengths.c ⟨_,rfl,[.d 14 0],rfl,⟨_,rfl,rfl⟩,trivial⟩
 ·exact fd.r11_Lengths.c ⟨_,rfl,[.d 17 0],rfl,⟨_,rfl,rfl⟩,trivial⟩
 ·exact fd.r11_Lengths.c ⟨_,rfl,[.d 21 0],rfl,⟨_,rfl,rfl⟩,trivial⟩
 ·exact fd.r11_Lengths.c ⟨_,rfl,[.d 21 0],rfl,⟨_,rfl,rfl⟩,trivial⟩
 ·exact fd.r11_Lengths.c ⟨_,rfl,[.d 14 0],rfl,⟨_,rfl,rfl⟩,trivial⟩
theorem c_r11_lens_no {t:Int} (h:¬okTag t):Con C N.r11_Lengths [i64 t] [] (.ret nilv) []:=by
 unfold okTag at h
 refine fd.r11_Lengths.c ?_
 refine spl_f (by simp only[beq_eq_false_iff_ne,ne_eq];omega) (spl_f (by simp only[beq_eq_false_iff_ne,ne_eq];omega) (spl_f (by simp only[beq_eq_false_iff_ne,ne_eq];omega) (spl_f (by simp only[beq_eq_false_iff_ne,ne_eq];omega) (spl_f (by simp only[beq_eq_false_iff_ne,ne_eq];omega) (spl_f (by simp only[beq_eq_false_iff_ne,ne_eq];omega) (spl_f (by simp only[beq_eq_false_iff_ne,ne_eq];omega) (spl_f (by simp only[beq_eq_false_iff_ne,ne_eq];omega) ?_)))))))
 exact⟨_,rfl,[],rfl,trivial⟩
def fidx (x:Int):List Int→Nat
 |[]=>0
 |y::r=>if y=x then 0 else fidx x r+1
theorem fidx_at {x:Int}:∀{l:List Int} {i:Nat},x∉l.take i→l[i]? =some x→fidx x l=i
 |[],i,_,h=>by simp at h
 |y::r,0,_,h=>by simp at h;simp[fidx,h]
 |y::r,i+1,hn,h=>by
  simp at hn h
  have h1:¬y=x:=fun e=>hn.1 e.symm
  simp only[fidx,if_neg h1]
  rw[fidx_at (i:=i) hn.2 h]
def gidx (x:Int) (l:List Int):Int:=if x∈l then fidx x l else -1
theorem c_index {n:Nat} {va:List Value} {l:List Int} {x:Int} (ha:va=iv l) (hn:l.length=n) (hm:n≤1073741824):Con C N.slices_Index_int [.z n va,i64 x] [] (.ret (i64 (gidx x l))) []:=by
 subst ha;subst hn
 refine fd.slices_Index_int.c ?_
 refine⟨Nat,fun i=>⟨[(0,iz l),(1,i64 x),(7,i64 l.length),(8,i64 i)],[]⟩,fun i=>i≤l.length∧x∉l.take i,fun i=>l.length-i,⟨[],0,⟨Z6 _,by simp⟩,[],⟨rfl,rfl,rfl,rfl,trivial⟩,trivial⟩,fun i hi=> ?_⟩
 obtain⟨hi,hx⟩:=hi
 refine spl_d (fun h=> ?_) (fun h=> ?_)
 ·have hlt:i<l.length:=(by omega)
  refine⟨by omega,by omega,?_⟩
  refine⟨_,by rw[Zb];exact iv_get hlt,?_⟩
  refine spl_eq (fun h=> ?_) (fun h=> ?_)
  ·refine⟨_,rfl,[],q7i ?_,trivial⟩
   have h1:x∈l:=by rw[h];exact Kn hlt
   rw[gidx,if_pos h1,fidx_at hx (by rw[Zf hlt,h])]
  ·refine⟨i+1,⟨by omega,?_⟩,(by simp(disch:=omega)only[Za];omega),[],⟨rfl,rfl,rfl,q7i (by simp(disch:=omega)only[Za];omega),trivial⟩,trivial⟩
   rw[Zr hlt]
   simp only[Kv,Kf,not_or]
   exact⟨hx,h⟩
 ·obtain rfl:i=l.length:=(by omega)
  refine⟨_,rfl,[],q7i ?_,trivial⟩
  rw[Zq]at hx
  rw[gidx,if_neg hx]
theorem c_contains {n:Nat} {va:List Value} {l:List Int} {x:Int} (ha:va=iv l) (hn:l.length=n) (hm:n≤1073741824):Con C N.slices_Contains_int [.z n va,i64 x] [] (.ret (bool (decide (x∈l)))) []:=by
 refine fd.slices_Contains_int.c ?_
 refine⟨[],_,_,_,_,c_index ha hn hm,rfl,rfl,?_⟩
 refine⟨_,rfl,[],congrArg bool ?_,trivial⟩
 unfold gidx
 by_cases h:x∈l
 ·rw[if_pos h,decide_eq_true h];exact decide_eq_true (Int.natCast_nonneg _)
 ·rw[if_neg h,decide_eq_false h];rfl
abbrev cipV (t:Int) (k:Nat) (xs:List V):V:= .q [i64 t,.f (.func k) [.q xs 0] []] 0
theorem cLens_len (t):(cLens t).length≤3:=by
 unfold cLens
 repeat' split
 all_goals simp
theorem c_new_small {t:Int} {n:Nat} {va:List Value} {xs:List V} (ht:t=4∨t=5∨t=8) (hv:(n:Int)∈cLens t) (hm:n≤1000) (hs:Con C N.small_New [i64 t,.z n va] [] (.ret (.t [.q xs 0,i64 0])) []):
  Con C N.cipher_New [i64 t,.z n va] [] (.ret (.t [cipV t N.small_Small_Block xs,i64 0])) []:=by
 refine fd.cipher_New.c ?_
 have hl:=cLens_len t
 rcases ht with rfl|rfl|rfl
 ·refine⟨0,Unit,(fun _=>⟨[(6,.p (.k 0) 0),(7,i64 0)],[.mx [i64 4,.f (.func N.small_Small_Block) [.q xs 0] []]]⟩),fun _=>True,fun _=>0,?_,fun _ h=> ?_⟩
  ·refine⟨[],_,_,_,_,c_size (by simp[okTag]),rfl,rfl,?_⟩
   refine⟨[],_,_,_,_,c_lens (by simp[okTag]),rfl,rfl,?_⟩
   refine⟨[],_,_,_,_,c_contains (x:=n) (iv_all rfl) rfl (by omega),rfl,rfl,?_⟩
   refine spl_f (by rw[decide_eq_true hv];rfl) ?_
   refine⟨[],_,_,_,_,hs,rfl,rfl,?_⟩
   refine⟨Zp _,?_⟩
   exact⟨[],(),trivial,[.d 20 0],⟨rfl,rfl,trivial⟩,⟨_,rfl,rfl⟩,trivial⟩
  ·exact⟨_,rfl,[],rfl,trivial⟩
 ·refine⟨0,Unit,(fun _=>⟨[(6,.p (.k 0) 0),(7,i64 0)],[.mx [i64 5,.f (.func N.small_Small_Block) [.q xs 0] []]]⟩),fun _=>True,fun _=>0,?_,fun _ h=> ?_⟩
  ·refine⟨[],_,_,_,_,c_size (by simp[okTag]),rfl,rfl,?_⟩
   refine⟨[],_,_,_,_,c_lens (by simp[okTag]),rfl,rfl,?_⟩
   refine⟨[],_,_,_,_,c_contains (x:=n) (iv_all rfl) rfl (by omega),rfl,rfl,?_⟩
   refine spl_f (by rw[decide_eq_true hv];rfl) ?_
   refine⟨[],_,_,_,_,hs,rfl,rfl,?_⟩
   refine⟨Zp _,?_⟩
   exact⟨[],(),trivial,[.d 20 0],⟨rfl,rfl,trivial⟩,⟨_,rfl,rfl⟩,trivial⟩
  ·exact⟨_,rfl,[],rfl,trivial⟩
 ·refine⟨0,Unit,(fun _=>⟨[(6,.p (.k 0) 0),(7,i64 0)],[.mx [i64 8,.f (.func N.small_Small_Block) [.q xs 0] []]]⟩),fun _=>True,fun _=>0,?_,fun _ h=> ?_⟩
  ·refine⟨[],_,_,_,_,c_size (by simp[okTag]),rfl,rfl,?_⟩
   refine⟨[],_,_,_,_,c_lens (by simp[okTag]),rfl,rfl,?_⟩
   refine⟨[],_,_,_,_,c_contains (x:=n) (iv_all rfl) rfl (by omega),rfl,rfl,?_⟩
   refine spl_f (by rw[decide_eq_true hv];rfl) ?_
   refine⟨[],_,_,_,_,hs,rfl,rfl,?_⟩
   refine⟨Zp _,?_⟩
   exact⟨[],(),trivial,[.d 20 0],⟨rfl,rfl,trivial⟩,⟨_,rfl,rfl⟩,trivial⟩
  ·exact⟨_,rfl,[],rfl,trivial⟩
theorem c_new_badtag {t:Int} {n:Nat} {va:List Value} (ht:¬okTag t):Con C N.cipher_New [i64 t,.z n va] [] (.ret (.t [.s (.pointer none),i64 2])) []:=by
 refine fd.cipher_New.c ?_
 refine⟨0,Unit,fun _=>⟨[],[]⟩,fun _=>False,fun _=>0,?_,fun _ h=>h.elim⟩
 refine⟨[],_,_,_,_,c_size_no ht,rfl,rfl,?_⟩
 exact⟨_,rfl,[],rfl,trivial⟩
theorem c_new_badkey {t:Int} {n:Nat} {va:List Value} (ht:okTag t) (hm:n≤1073741824) (hv:(n:Int)∉cLens t):Con C N.cipher_New [i64 t,.z n va] [] (.ret (.t [.s (.pointer none),i64 4])) []:=by
 refine fd.cipher_New.c ?_
 have hl:=cLens_len t
 refine⟨0,Unit,fun _=>⟨[(7,i64 4)],[]⟩,fun _=>True,fun _=>0,?_,fun _ h=> ?_⟩
 ·refine⟨[],_,_,_,_,c_size ht,rfl,rfl,?_⟩
  refine spl_f ?_ ?_
  ·rcases ht with rfl|rfl|rfl|rfl|rfl|rfl|rfl|rfl<;>rfl
  refine⟨[],_,_,_,_,c_lens ht,rfl,rfl,?_⟩
  refine⟨[],_,_,_,_,c_contains (x:=n) (iv_all rfl) rfl (by omega),rfl,rfl,?_⟩
  refine spl_t (by rw[decide_eq_false hv];rfl) ?_
  exact⟨rfl,(),trivial,[],⟨rfl,trivial⟩,trivial⟩
 ·exact⟨_,rfl,[],rfl,trivial⟩
theorem c_enc_ok {t:Int} {k n:Nat} {xs:List V} {va:List Value} {l:List Value} (h:Con C k [.q xs 0,.z n va,bool false] [] (okBlk n) [.sc l]):Con C N.cipher_Cipher_Enc [cipV t k xs,.z n va] [] (okBlk n) [.sc l]:=by
 refine fd.cipher_Cipher_Enc.c ?_
 refine⟨_,rfl,?_⟩
 refine⟨[],_,_,_,_,h,rfl,rfl,?_⟩
 exact⟨_,rfl,[.d 11 0],rfl,⟨_,rfl,rfl⟩,trivial⟩
theorem c_dec_ok {t:Int} {k n:Nat} {xs:List V} {va:List Value} {l:List Value} (h:Con C k [.q xs 0,.z n va,bool true] [] (okBlk n) [.sc l]):Con C N.cipher_Cipher_Dec [cipV t k xs,.z n va] [] (okBlk n) [.sc l]:=by
 refine fd.cipher_Cipher_Dec.c ?_
 refine⟨_,rfl,?_⟩
 refine⟨[],_,_,_,_,h,rfl,rfl,?_⟩
 exact⟨_,rfl,[.d 11 0],rfl,⟨_,rfl,rfl⟩,trivial⟩
theorem c_csize {t:Int} {k:Nat} {xs:List V} (ht:okTag t):Con C N.cipher_Cipher_Size [cipV t k xs] [] (.ret (i64 (cSize t))) []:=by
 refine fd.cipher_Cipher_Size.c ?_
 refine⟨_,rfl,?_⟩
 refine⟨[],_,_,_,_,c_size ht,rfl,rfl,?_⟩
 exact⟨_,rfl,[],rfl,trivial⟩
theorem c_within {a n:Int} (hn:0<n) (hn2:n≤4611686018427387904) (ha: -9223372036854775808≤a∧a≤9223372036854775807):Con C N.law11_within [i64 a,i64 n] [] (.ret (i64 (a%n))) []:=by
 refine fd.law11_within.c ?_
 have h1: -n<a.tmod n:=J2 a hn
 have h2:a.tmod n<n:=Kg a hn
 refine⟨by omega,?_⟩
 refine spl_d (fun h=> ?_) (fun h=> ?_)
 ·refine⟨_,rfl,[],q7i ?_,trivial⟩
  rw[Za _ (by omega)]
  rw[←rest_eq a n hn,Jk (a:=a.tmod n+n) (by omega),Int.emod_eq_of_lt (by omega) (by omega)]
 ·refine⟨_,rfl,[],q7i ?_,trivial⟩
  rw[←rest_eq a n hn,Jk (a:=a.tmod n+n) (by omega),Int.add_emod_right,Int.emod_eq_of_lt (by omega) (by omega)]
def tagOf (n:Int):Int:=1+n%8
theorem tagOf_ok (n:Int):okTag (tagOf n):=by unfold okTag tagOf;omega
theorem c_tag {n:Int} (ha: -9223372036854775808≤n∧n≤9223372036854775807):Con C N.law11_Tag [i64 n] [] (.ret (i64 (tagOf n))) []:=by
 refine fd.law11_Tag.c ?_
 refine⟨[],_,_,_,_,c_within (n:=8) (by decide) (by decide) ha,rfl,rfl,?_⟩
 refine⟨_,rfl,[],q7i ?_,trivial⟩
 unfold tagOf
 simp only[IntKind.wrap_i64];omega
def padd (b:Bs) (n j:Nat):Bs:=(List.range n).map fun p=>if p<b.length then b.getD p 0 else if p<b.length+j then Zt (p*37)else 0
def bytesN (n:Nat) (b:Bs):Bs:=padd b n n
theorem padd_len (b n j):(padd b n j).length=n:=by simp[padd]
theorem bytesN_len (n b):(bytesN n b).length=n:=padd_len b n n
theorem padd_at (b:Bs) (n j p:Nat) (h:p<n):(padd b n j)[p]? =some (if p<b.length then b.getD p 0 else if p<b.length+j then Zt (p*37)else 0):=by simp[padd,h]
theorem padd_set (b:Bs) (n j:Nat) (h:b.length+j<n):(padd b n j).set (b.length+j) (Zt ((b.length+j)*37))=padd b n (j+1):=by
 apply Z3
 intro p
 by_cases hp:p<n
 ·rw[padd_at _ _ _ _ hp,Jr,padd_at _ _ _ _ hp]
  by_cases h1:b.length+j=p
  ·subst h1
   rw[if_pos rfl,padd_len,if_pos hp,if_neg (by omega),if_pos (by omega)]
  ·rw[if_neg h1]
   by_cases h2:p<b.length
   ·rw[if_pos h2,if_pos h2]
   ·rw[if_neg h2,if_neg h2]
    by_cases h3:p<b.length+j
    ·rw[if_pos h3,if_pos (by omega)]
    ·rw[if_neg h3,if_neg (by omega)]
 ·rw[Zg (by simp[padd_len];omega),Zg (by rw[padd_len];omega)]
theorem padd_zero (b:Bs) (n:Nat):b.take (min b.length n)++(Zk n (0:UInt8)).drop (min b.length n)=padd b n 0:=by
 apply Z3
 intro p
 by_cases hp:p<n
 ·rw[padd_at _ _ _ _ hp]
  by_cases h2:p<b.length
  ·rw[Ja (by simp;omega),J0,if_pos (by omega),if_pos h2,Zf h2,Zd,Zf h2];rfl
  ·rw[if_neg h2,if_neg (by omega),Z7 (by simp;omega),J1,Zv,Jd,if_pos (by omega)]
 ·rw[Zg (by simp;omega),Zg (by rw[padd_len];omega)]
theorem padd_full (b:Bs) (n j:Nat) (h:n≤b.length+j):padd b n j=bytesN n b:=by
 apply Z3
 intro p
 unfold bytesN
 by_cases hp:p<n
 ·rw[padd_at _ _ _ _ hp,padd_at _ _ _ _ hp]
  by_cases h2:p<b.length
  ·rw[if_pos h2,if_pos h2]
  ·rw[if_neg h2,if_neg h2,if_pos (by omega),if_pos (by omega)]
 ·rw[Zg (by rw[padd_len];omega),Zg (by rw[padd_len];omega)]
theorem c_bytes {n m:Nat} {va:List Value} {b:Bs} (ha:va=bv b) (hb:b.length=m) (hn:n≤1073741824):Con C N.law11_Bytes [i64 n,.z m va] [] (.ret (.o 1 (.k 0) 0 n)) [.sc (bv (bytesN n b))]:=by
 subst ha;subst hb
 refine fd.law11_Bytes.c ?_
 refine⟨by omega,Jh _,by omega,?_⟩
 refine⟨bv_len _,by simp,?_⟩
 refine⟨Nat,fun j=>⟨[(0,i64 n),(5,.o 1 (.k 0) 0 n),(6,i64 (b.length+j:Nat))],[.sc (bv (padd b n j))]⟩,fun j=>j=0∨b.length+j≤n,fun j=>n-(b.length+j),⟨[],0,.inl rfl,[.d 8 0],⟨rfl,rfl,rfl,trivial⟩,⟨_,rfl,q7s ?_⟩,trivial⟩,fun j hj=> ?_⟩
 ·show[]++(bv b).take (min b.length n)++(Zk n (Value.int .u8 0)).drop (0+min b.length n)=_
  rw[Jp,Zl,←padd_zero,bv_rep,bv_drop,←bv_app]
  congr 1
  simp[bv,Kj]
 refine spl_d (fun h=> ?_) (fun h=> ?_)
 ·have hlt:b.length+j<n:=(by omega)
  refine⟨by omega,by omega,by rw[bv_len,padd_len];omega,?_⟩
  refine⟨j+1,.inr (by omega),(by simp(disch:=omega)only[Za];omega),[.k 0],⟨rfl,rfl,q7i (by simp(disch:=omega)only[Za];omega),trivial⟩,⟨_,rfl,q7s ?_⟩,trivial⟩
  have e:U8.wrap (I6.wrap (((b.length+j:Nat):Int)*37))=((Zt ((b.length+j)*37)).toNat:Int):=by
   rw[←nat_u8,Za _ (by omega)];rfl
  rw[e,Zb,Zm,Zl,bv_set,padd_set _ _ _ hlt]
 ·refine⟨_,rfl,[.k 0],rfl,⟨_,rfl,q7s ?_⟩,trivial⟩
  rw[padd_full _ _ _ (by omega)]
def kLen (t n:Int):Nat:=((cLens t).getD (n%((cLens t).length:Int)).toNat 0).toNat
def keyOf (t n:Int) (k:Bs):Bs:=bytesN (kLen t n) k
theorem kLen_ok {t:Int} (h:okTag t) (n:Int):(kLen t n:Int)∈cLens t∧kLen t n≤32∧(cLens t)[(n%((cLens t).length:Int)).toNat]? =some (kLen t n:Int)∧0≤n%((cLens t).length:Int)∧n%((cLens t).length:Int)<(cLens t).length:=by
 have g:∀(l:List Int),0<l.length→(∀x∈l,0≤x∧x≤32)→∀n:Int,((((l.getD (n%(l.length:Int)).toNat 0).toNat:Nat):Int)∈l∧(l.getD (n%(l.length:Int)).toNat 0).toNat≤32∧l[(n%(l.length:Int)).toNat]? =some (((l.getD (n%(l.length:Int)).toNat 0).toNat:Nat):Int)∧0≤n%(l.length:Int)∧n%(l.length:Int)<l.length):=by
  intro l hl hb n
  have h0:=Kw n (b:=l.length) (by omega)
  have h1:=Kh n (b:=l.length) (by omega)
  have hlt:(n%(l.length:Int)).toNat<l.length:=by omega
  rw[Zd,Zf hlt]
  have hm:=Kn hlt
  obtain⟨b0,b1⟩:=hb _ hm
  have e:(((l[(n%(l.length:Int)).toNat]).toNat:Nat):Int)=l[(n%(l.length:Int)).toNat]:=Int.toNat_of_nonneg b0
  refine⟨?_,?_,?_,h0,h1⟩
  ·show(((l[(n%(l.length:Int)).toNat]).toNat:Nat):Int)∈l
   rw[e];exact hm
  ·show(l[(n%(l.length:Int)).toNat]).toNat≤32
   omega
  ·show some _=some (((l[(n%(l.length:Int)).toNat]).toNat:Nat):Int)
   rw[e]
 rcases h with rfl|rfl|rfl|rfl|rfl|rfl|rfl|rfl<;>exact g _ (by decide) (by decide) n
theorem keyOf_len (t n k):(keyOf t n k).length=kLen t n:=bytesN_len _ _
theorem ba_loop (bs:ByteArray):∀(n i:Nat) (r:Bs),bs.size-i=n→ByteArray.toList.loop bs i r=r.reverse++bs.data.toList.drop i:=by
 intro n
 induction n with
 |zero=>
  intro i r h
  rw[ByteArray.toList.loop,if_neg (by omega)]
  have:bs.data.toList.length=bs.size:=by cases bs;rfl
  rw[Kt (by omega),Z8]
 |succ n ih=>
  intro i r h
  rw[ByteArray.toList.loop,if_pos (by omega),ih (i+1) _ (by omega)]
  have hl:bs.data.toList.length=bs.size:=by cases bs;rfl
  rw[List.drop_eq_getElem_cons (i:=i) (by omega)]
  have:bs.get! i=bs.data.toList[i]'(by omega):=by
   cases bs with
   |mk d=>
    show d[i]! =_
    have e0:d.toList.length=d.size:=by simp
    have e:(ByteArray.mk d).size=d.size:=rfl
    have:i<d.size:=by omega
    rw[getElem!_pos d i this];simp
  rw[this,List.reverse_cons,Jf]
  rfl
theorem ba_toList (bs:ByteArray):bs.toList=bs.data.toList:=by
 have:=ba_loop bs _ 0 [] rfl
 show ByteArray.toList.loop bs 0 []=_
 simpa using this
abbrev bs (l:Bs):ByteArray:=⟨l.toArray⟩
theorem bs_toList (l:Bs):(bs l).toList=l:=by rw[ba_toList]
theorem str_beq (a b:Bs):((bs a).toList==(bs b).toList)=decide (a=b):=by
 rw[bs_toList,bs_toList]
 by_cases h:a=b
 ·simp[h]
 ·simp[h]
theorem i64_nand {x y:Nat} (hx:x<9223372036854775808) (hy:y<9223372036854775808):I6.wrap ((Zc I6.bits (x:Int)&&&Zc I6.bits (y:Int)).toNat:Int)=((x&&&y:Nat):Int):=by
 rw[bx_and I6.bits (by simp only[bits_i64];omega) (by simp only[bits_i64];omega)]
 have:=Nat.and_le_left (n:=x) (m:=y)
 rw[nat_i64 _ (by omega)]
theorem i64_nxor {x y:Nat} (n:Nat) (hn:n≤62) (hx:x<2^n) (hy:y<2^n):I6.wrap ((Zc I6.bits (x:Int)^^^Zc I6.bits (y:Int)).toNat:Int)=((x^^^y:Nat):Int):=by
 have hp:2^n≤2^62:=Z5 (by decide) hn
 rw[bx_xor I6.bits (by simp only[bits_i64];omega) (by simp only[bits_i64];omega)]
 have:=Jj hx hy
 rw[nat_i64 _ (by omega)]
theorem i64_nor {x y:Nat} (n:Nat) (hn:n≤62) (hx:x<2^n) (hy:y<2^n):I6.wrap ((Zc I6.bits (x:Int)|||Zc I6.bits (y:Int)).toNat:Int)=((x|||y:Nat):Int):=by
 have hp:2^n≤2^62:=Z5 (by decide) hn
 rw[bx_or I6.bits (by simp only[bits_i64];omega) (by simp only[bits_i64];omega)]
 have:=J3 hx hy
 rw[nat_i64 _ (by omega)]
theorem i64_half (x:Nat):((x:Int).fdiv (2^(min (1:Int).toNat I6.bits)))=((x/2:Nat):Int):=by
 rw[Z1 _ (by decide)];rfl
theorem i64_twice {x:Nat} (h:x<4611686018427387904):I6.wrap ((x:Int)*2^(min (1:Int).toNat I6.bits))=((2*x:Nat):Int):=by
 have:(x:Int)*2^(min (1:Int).toNat I6.bits)=((2*x:Nat):Int):=by
  show(x:Int)*2^1=_
  omega
 rw[this,nat_i64 _ (by omega)]
def xt (m x:Nat):Nat:=if 256≤2*x then (2*x^^^m)%256 else 2*x
def fX (m a:Nat):Nat→Nat
 |0=>a
 |k+1=>xt m (fX m a k)
def fS (m a b:Nat):Nat→Nat
 |0=>0
 |k+1=>if b.testBit k then fS m a b k^^^fX m a k else fS m a b k
def fMul (m:Nat) (a b:UInt8):UInt8:=Zt (fS m a.toNat b.toNat 8)
theorem fX_lt {m a:Nat} (ha:a<256):∀k,fX m a k<256
 |0=>ha
 |k+1=>by
  have:=fX_lt (m:=m) ha k
  unfold fX xt
  split<;>omega
theorem fS_lt {m a b:Nat} (ha:a<256):∀k,fS m a b k<256
 |0=>by simp[fS]
 |k+1=>by
  have h1:=fS_lt (m:=m) (b:=b) ha k
  have h2:=fX_lt (m:=m) ha k
  unfold fS
  split
  ·exact Jj (n:=8) h1 h2
  ·exact h1
theorem fS_end {m a b:Nat}:∀(d i:Nat),b>>>i=0→fS m a b (i+d)=fS m a b i
 |0,i,_=>rfl
 |d+1,i,h=>by
  show(if b.testBit (i+d)=true then fS m a b (i+d)^^^fX m a (i+d)else fS m a b (i+d))=_
  have:b.testBit (i+d)=false:=by
   have:(b>>>i).testBit d=false:=by rw[h];exact Nat.zero_testBit d
   rwa [Nat.testBit_shiftRight]at this
  rw[this,if_neg (by decide)]
  exact fS_end d i h
theorem xor_top {y m:Nat} (h1:256≤y) (h2:y<512) (h3:256≤m) (h4:m<512):(y^^^m)%256=y^^^m:=by
 apply Nat.eq_of_testBit_eq
 intro j
 rw[show (256:Nat)=2^8 by decide,Kl]
 by_cases hj:j<8
 ·simp[hj]
 ·have top:∀z,256≤z→z<512→z.testBit j=decide (j=8):=by
   intro z a b
   by_cases h8:j=8
   ·subst h8
    rw[Jl]
    rw[decide_eq_true rfl]
    exact decide_eq_true (by omega)
   ·rw[decide_eq_false h8]
    exact Kq (Nat.lt_of_lt_of_le b (Z5 (n:=2) (i:=9) (by decide) (by omega)))
  rw[Nat.testBit_xor,top y h1 h2,top m h3 h4]
  simp
theorem bit_and (b i:Nat):((b>>>i&&&1:Nat)>0)↔b.testBit i=true:=by
 rw[Ke,Jl,Z0]
 simp;omega
theorem c_fmul {x y:Int} {a b:UInt8} {m:Nat} (hx:x=a.toNat) (hy:y=b.toNat) (h1:256≤m) (h2:m<512):Con C N.field_Mul [vi .u8 x,vi .u8 y,i64 m] [] (.ret (u8 (fMul m a b))) []:=by
 subst hx;subst hy
 have hb:=b.toNat_lt
 have ha:=a.toNat_lt
 refine fd.field_Mul.c ?_
 refine scopeN 0 rfl 9 (fun i=>⟨[(2,i64 m),(7,i64 (fS m a.toNat b.toNat i)),(8,i64 (fX m a.toNat i)),(9,i64 (b.toNat>>>i:Nat))],[]⟩) ⟨[],0,by decide,[],⟨rfl,rfl,q7i (u8_i64 a),q7i (u8_i64 b),trivial⟩,trivial⟩ fun i hi=> ?_
 have hX:=fX_lt (m:=m) ha i
 have hS:=fS_lt (m:=m) (b:=b.toNat) ha i
 refine spl_eq (fun h=> ?_) (fun h=> ?_)
 ·refine⟨_,rfl,[],congrArg (vi .u8) ?_,trivial⟩
  rw[nat_u8,fMul]
  have:=fS_end (m:=m) (a:=a.toNat) (b:=b.toNat) (8-i) i (by omega)
  rw[show i+(8-i)=8 by omega]at this
  rw[this]
 ·have hi8:i<8:=by
   rcases Jg i 8 with h8|h8
   ·exact h8
   ·obtain rfl:i=8:=(by omega)
    rw[Z0,Km hb]at h
    exact absurd rfl h
  have hyl:b.toNat>>>i<9223372036854775808:=by rw[Z0];exact Nat.lt_of_le_of_lt (Jo _ _) (by omega)
  have e1:I6.wrap ((Zc I6.bits ((b.toNat>>>i:Nat):Int)&&&Zc I6.bits 1).toNat:Int)=((b.toNat>>>i&&&1:Nat):Int):=i64_nand (y:=1) hyl (by decide)
  have e2:I6.wrap ((fX m a.toNat i:Int)*2^(min (1:Int).toNat I6.bits))=((2*fX m a.toNat i:Nat):Int):=i64_twice (by omega)
  have e3:((b.toNat>>>i:Nat):Int).fdiv (2^(min (1:Int).toNat I6.bits))=((b.toNat>>>(i+1):Nat):Int):=by
   rw[i64_half,Nat.shiftRight_succ]
  have e4:I6.wrap ((Zc I6.bits ((2*fX m a.toNat i:Nat):Int)^^^Zc I6.bits (m:Int)).toNat:Int)=((2*fX m a.toNat i^^^m:Nat):Int):=i64_nxor 9 (by decide) (by omega) (by omega)
  have hx9:=Jj (n:=9) (x:=2*fX m a.toNat i) (y:=m) (by omega) (by omega)
  have e5:I6.wrap ((Zc I6.bits ((2*fX m a.toNat i^^^m:Nat):Int)&&&Zc I6.bits 255).toNat:Int)=(((2*fX m a.toNat i^^^m)%256:Nat):Int):=by
   have h:=i64_nand (x:=2*fX m a.toNat i^^^m) (y:=255) (by omega) (by decide)
   rw[show (255:Nat)=2^8-1 by decide,Jn]at h
   exact h
  have e6:2*fX m a.toNat i<256→I6.wrap ((Zc I6.bits ((2*fX m a.toNat i:Nat):Int)&&&Zc I6.bits 255).toNat:Int)=((2*fX m a.toNat i:Nat):Int):=by
   intro hl
   have h:=i64_nand (x:=2*fX m a.toNat i) (y:=255) (by omega) (by decide)
   rw[show (255:Nat)=2^8-1 by decide,Jn,Zh hl]at h
   exact h
  have hS1:fS m a.toNat b.toNat (i+1)=if b.toNat.testBit i then fS m a.toNat b.toNat i^^^fX m a.toNat i else fS m a.toNat b.toNat i:=rfl
  have hX1:fX m a.toNat (i+1)=xt m (fX m a.toNat i):=rfl
  refine spl_d (fun hb1=> ?_) (fun hb1=> ?_)
  ·have ht:b.toNat.testBit i=true:=(bit_and _ _).1 (by rw[e1]at hb1;omega)
   refine⟨by decide,by decide,?_⟩
   refine spl_d (fun hg=> ?_) (fun hg=> ?_)
   ·rw[e2]at hg
    refine⟨rfl,i+1,by omega,by omega,[],⟨rfl,q7i ?_,q7i ?_,q7i e3,trivial⟩,trivial⟩
    ·rw[hS1,ht];exact i64_nxor 8 (by decide) hS hX
    ·rw[e2,e4,e5,hX1,xt,if_pos (by omega)]
   ·rw[e2]at hg
    refine⟨rfl,i+1,by omega,by omega,[],⟨rfl,q7i ?_,q7i ?_,q7i e3,trivial⟩,trivial⟩
    ·rw[hS1,ht];exact i64_nxor 8 (by decide) hS hX
    ·rw[e2,e6 (by omega),hX1,xt,if_neg (by omega)]
  ·have ht:b.toNat.testBit i=false:=by
    cases hc:b.toNat.testBit i
    ·rfl
    ·exact absurd (by rw[e1];have:=(bit_and b.toNat i).2 hc;omega) hb1
   refine⟨by decide,by decide,?_⟩
   refine spl_d (fun hg=> ?_) (fun hg=> ?_)
   ·rw[e2]at hg
    refine⟨rfl,i+1,by omega,by omega,[],⟨rfl,q7i ?_,q7i ?_,q7i e3,trivial⟩,trivial⟩
    ·rw[hS1,ht];rfl
    ·rw[e2,e4,e5,hX1,xt,if_pos (by omega)]
   ·rw[e2]at hg
    refine⟨rfl,i+1,by omega,by omega,[],⟨rfl,q7i ?_,q7i ?_,q7i e3,trivial⟩,trivial⟩
    ·rw[hS1,ht];rfl
    ·rw[e2,e6 (by omega),hX1,xt,if_neg (by omega)]
theorem u8_bit (b:UInt8) {i:Nat} (hi:i<8):(U8.wrap ((Zc U8.bits ((b.toNat:Int).fdiv (2^(min ((i:Int)).toNat U8.bits)))&&&Zc U8.bits 1).toNat:Int))=(if b.toNat.testBit i then 1 else 0):=by
 rw[u8_shr b i (by omega) (by omega),show(1:Int)=((1:UInt8).toNat:Int) from rfl,u8_and,UInt8.toNat_and,Ko,Jb,Zb,Zh (show i<2^8 by omega),Zh hi]
 show(((b.toNat>>>i&&&1:Nat)):Int)=_
 rw[Ke,Jl,Z0]
 by_cases h:b.toNat/2^i%2=1
 ·simp[h]
 ·have:b.toNat/2^i%2=0:=by omega
  simp[this]
theorem c_r3_mul {x y:Int} {a b:UInt8} {m:Nat} (hx:x=a.toNat) (hy:y=b.toNat) (h1:256≤m) (h2:m<512):Con C N.r3_Mul [vi .u8 x,vi .u8 y,i64 m] [] (.ret (u8 (fMul m a b))) []:=by
 subst hx;subst hy
 have ha:=a.toNat_lt
 refine fd.r3_Mul.c ?_
 refine loopN (fun i=>⟨[(1,u8 b),(2,i64 m),(7,i64 (fS m a.toNat b.toNat i)),(8,i64 (fX m a.toNat i)),(9,vi .u64 i)],[]⟩) 8 ⟨[],⟨rfl,rfl,rfl,q7i (u8_i64 a),rfl,trivial⟩,trivial⟩ fun i hi=> ?_
 have hX:=fX_lt (m:=m) ha i
 have hS:=fS_lt (m:=m) (b:=b.toNat) ha i
 refine spl_d (fun h=> ?_) (fun h=> ?_)
 ·have hlt:i<8:=(by omega)
  have e2:I6.wrap ((fX m a.toNat i:Int)*2^(min (1:Int).toNat I6.bits))=((2*fX m a.toNat i:Nat):Int):=i64_twice (by omega)
  have e4:I6.wrap ((Zc I6.bits ((2*fX m a.toNat i:Nat):Int)^^^Zc I6.bits (m:Int)).toNat:Int)=((2*fX m a.toNat i^^^m:Nat):Int):=i64_nxor 9 (by decide) (by omega) (by omega)
  have e9:U6.wrap ((i:Int)+1)=((i+1:Nat):Int):=by rw[wrap_u64];omega
  have hS1:fS m a.toNat b.toNat (i+1)=if b.toNat.testBit i then fS m a.toNat b.toNat i^^^fX m a.toNat i else fS m a.toNat b.toNat i:=rfl
  have hX1:fX m a.toNat (i+1)=xt m (fX m a.toNat i):=rfl
  have eb:=u8_bit b hlt
  refine⟨by omega,?_⟩
  refine spl_eq (fun hb1=> ?_) (fun hb1=> ?_)
  ·have ht:b.toNat.testBit i=true:=by
    cases hc:b.toNat.testBit i
    ·rw[eb,hc]at hb1;exact absurd hb1 (by decide)
    ·rfl
   refine⟨by decide,?_⟩
   refine spl_d (fun hg=> ?_) (fun hg=> ?_)
   ·rw[e2]at hg
    refine⟨i+1,by omega,by omega,[],⟨rfl,rfl,q7i ?_,q7i ?_,congrArg (vi .u64) e9,trivial⟩,trivial⟩
    ·rw[hS1,ht];exact i64_nxor 8 (by decide) hS hX
    ·rw[e2,e4,hX1,xt,if_pos (by omega),xor_top (by omega) (by omega) h1 h2]
   ·rw[e2]at hg
    refine⟨i+1,by omega,by omega,[],⟨rfl,rfl,q7i ?_,q7i ?_,congrArg (vi .u64) e9,trivial⟩,trivial⟩
    ·rw[hS1,ht];exact i64_nxor 8 (by decide) hS hX
    ·rw[e2,hX1,xt,if_neg (by omega)]
  ·have ht:b.toNat.testBit i=false:=by
    cases hc:b.toNat.testBit i
    ·rfl
    ·rw[eb,hc]at hb1;exact absurd rfl hb1
   refine⟨by decide,?_⟩
   refine spl_d (fun hg=> ?_) (fun hg=> ?_)
   ·rw[e2]at hg
    refine⟨i+1,by omega,by omega,[],⟨rfl,rfl,q7i ?_,q7i ?_,congrArg (vi .u64) e9,trivial⟩,trivial⟩
    ·rw[hS1,ht];rfl
    ·rw[e2,e4,hX1,xt,if_pos (by omega),xor_top (by omega) (by omega) h1 h2]
   ·rw[e2]at hg
    refine⟨i+1,by omega,by omega,[],⟨rfl,rfl,q7i ?_,q7i ?_,congrArg (vi .u64) e9,trivial⟩,trivial⟩
    ·rw[hS1,ht];rfl
    ·rw[e2,hX1,xt,if_neg (by omega)]
 ·obtain rfl:i=8:=(by omega)
  exact⟨_,rfl,[],congrArg (vi .u8) (nat_u8 _),trivial⟩
abbrev PS:=UInt8×UInt8×Nat
def pStep (m:Nat) (x:PS):PS:=(if x.2.2%2=1 then fMul m x.1 x.2.1 else x.1,fMul m x.2.1 x.2.1,x.2.2/2)
def fPow (m:Nat) (a:UInt8) (n:Nat):UInt8:=(it (pStep m) 8 (1,a,n)).1
theorem pStep_n (m:Nat) (k:Nat) (x:PS):(it (pStep m) k x).2.2=x.2.2/2^k:=by
 induction k with
 |zero=>simp[it]
 |succ k ih=>show(it (pStep m) k x).2.2/2=_;rw[ih,Kr,Nat.pow_succ]
theorem c_fpow {x:Int} {a:UInt8} {m n:Nat} (hx:x=a.toNat) (hn1:128≤n) (hn2:n<256) (h1:256≤m) (h2:m<512):Con C N.field_Pow [vi .u8 x,i64 n,i64 m] [] (.ret (u8 (fPow m a n))) []:=by
 subst hx
 refine fd.field_Pow.c ?_
 refine scopeIt 0 rfl (pStep m) (1,a,n) 8 (fun i z=>⟨[(0,u8 z.2.1),(1,i64 z.2.2),(2,i64 m),(7,u8 z.1)],[]⟩) ⟨[],(0,(1,a,n)),⟨Z6 _,rfl⟩,[],⟨rfl,rfl,rfl,rfl,trivial⟩,trivial⟩ fun i z hi hz=> ?_
 have hn:z.2.2=n/2^i:=by rw[hz,pStep_n]
 have hle:z.2.2≤n:=by rw[hn];exact Jo _ _
 refine spl_d (fun h=> ?_) (fun h=> ?_)
 ·have hi8:i=8:=by
   rcases Jg i 8 with h8|h8
   ·have:2^i≤2^7:=Z5 (by decide) (by omega)
    have hp:0<2^i:=K1 (by decide)
    have:1≤n/2^i:=(Jq hp).2 (by omega)
    omega
   ·omega
  subst hi8
  refine⟨_,rfl,[],?_,trivial⟩
  show u8 z.1=u8 _
  rw[hz];rfl
 ·have hi8:i<8:=by
   rcases Jg i 8 with h8|h8
   ·exact h8
   ·obtain rfl:i=8:=(by omega)
    rw[hn,Km hn2]at h;exact absurd (Jh _) h
  have e1:I6.wrap ((Zc I6.bits ((z.2.2:Nat):Int)&&&Zc I6.bits 1).toNat:Int)=((z.2.2%2:Nat):Int):=by
   have h:=i64_nand (x:=z.2.2) (y:=1) (by omega) (by decide)
   rw[Ke]at h;exact h
  refine spl_d (fun hb=> ?_) (fun hb=> ?_)
  ·rw[e1]at hb
   refine⟨[],_,_,_,_,c_fmul rfl rfl h1 h2,rfl,rfl,?_⟩
   refine⟨[],_,_,_,_,c_fmul rfl rfl h1 h2,rfl,rfl,?_⟩
   refine⟨by decide,?_⟩
   refine⟨rfl,(i+1,pStep m z),⟨hi8,it_next hz⟩,by omega,[],⟨rfl,q7i (i64_half _),rfl,?_,trivial⟩,trivial⟩
   show u8 _=u8 (if _ then _ else _)
   rw[if_pos (by omega)]
  ·rw[e1]at hb
   refine⟨[],_,_,_,_,c_fmul rfl rfl h1 h2,rfl,rfl,?_⟩
   refine⟨by decide,?_⟩
   refine⟨rfl,(i+1,pStep m z),⟨hi8,it_next hz⟩,by omega,[],⟨rfl,q7i (i64_half _),rfl,?_,trivial⟩,trivial⟩
   show u8 _=u8 (if _ then _ else _)
   rw[if_neg (by omega)]
theorem c_r3_pow {x:Int} {a:UInt8} {m n:Nat} (hx:x=a.toNat) (hn1:128≤n) (hn2:n<256) (h1:256≤m) (h2:m<512):Con C N.r3_Pow [vi .u8 x,i64 n,i64 m] [] (.ret (u8 (fPow m a n))) []:=by
 subst hx
 refine fd.r3_Pow.c ?_
 refine loopIt (pStep m) (1,a,n) 8 (fun i z=>⟨[(0,u8 z.2.1),(1,i64 z.2.2),(2,i64 m),(7,u8 z.1)],[]⟩) ⟨[],⟨rfl,rfl,rfl,rfl,trivial⟩,trivial⟩ fun i z hi hz=> ?_
 have hn:z.2.2=n/2^i:=by rw[hz,pStep_n]
 have hle:z.2.2≤n:=by rw[hn];exact Jo _ _
 refine spl_d (fun h=> ?_) (fun h=> ?_)
 ·have hi8:i<8:=by
   rcases Jg i 8 with h8|h8
   ·exact h8
   ·obtain rfl:i=8:=(by omega)
    rw[hn,Km hn2]at h;exact absurd h (by decide)
  have e1:((z.2.2:Nat):Int).tmod 2=((z.2.2%2:Nat):Int):=nat_rem _ 2
  have e2:I6.wrap (((z.2.2:Nat):Int).tdiv 2)=((z.2.2/2:Nat):Int):=by
   rw[show ((z.2.2:Nat):Int).tdiv 2=((z.2.2/2:Nat):Int) from rfl,nat_i64 _ (by omega)]
  refine⟨by decide,?_⟩
  refine spl_eq (fun hb=> ?_) (fun hb=> ?_)
  ·rw[e1]at hb
   refine⟨[],_,_,_,_,c_r3_mul rfl rfl h1 h2,rfl,rfl,?_⟩
   refine⟨[],_,_,_,_,c_r3_mul rfl rfl h1 h2,rfl,rfl,?_⟩
   refine⟨by decide,?_⟩
   refine⟨(i+1,pStep m z),⟨hi8,it_next hz⟩,by omega,[],⟨rfl,q7i e2,rfl,?_,trivial⟩,trivial⟩
   show u8 _=u8 (if _ then _ else _)
   rw[if_pos (by omega)]
  ·rw[e1]at hb
   refine⟨[],_,_,_,_,c_r3_mul rfl rfl h1 h2,rfl,rfl,?_⟩
   refine⟨by decide,?_⟩
   refine⟨(i+1,pStep m z),⟨hi8,it_next hz⟩,by omega,[],⟨rfl,q7i e2,rfl,?_,trivial⟩,trivial⟩
   show u8 _=u8 (if _ then _ else _)
   rw[if_neg (by omega)]
 ·have hi8:i=8:=by
   rcases Jg i 8 with h8|h8
   ·have:2^i≤2^7:=Z5 (by decide) (by omega)
    have hp:0<2^i:=K1 (by decide)
    have:1≤n/2^i:=(Jq hp).2 (by omega)
    omega
   ·omega
  subst hi8
  refine⟨_,rfl,[],?_,trivial⟩
  show u8 z.1=u8 _
  rw[hz];rfl
def popL:Bs:=[0,1,1,2,1,2,2,3,1,2,2,3,2,3,3,4,1,2,2,3,2,3,3,4,2,3,3,4,3,4,4,5,1,2,2,3,2,3,3,4,2,3,3,4,3,4,4,5,2,3,3,4,3,4,4,5,3,4,4,5,4,5,5,6,1,2,2,3,2,3,3,4,2,3,3,4,3,4,4,5,2,3,3,4,3,4,4,5,3,4,4,5,4,5,5,6,2,3,3,4,3,4,4,5,3,4,4,5,4,5,5,6,3,4,4,5,4,5,5,6,4,5,5,6,5,6,6,7,1,2,2,3,2,3,3,4,2,3,3,4,3,4,4,5,2,3,3,4,3,4,4,5,3,4,4,5,4,5,5,6,2,3,3,4,3,4,4,5,3,4,4,5,4,5,5,6,3,4,4,5,4,5,5,6,4,5,5,6,5,6,6,7,2,3,3,4,3,4,4,5,3,4,4,5,4,5,5,6,3,4,4,5,4,5,5,6,4,5,5,6,5,6,6,7,3,4,4,5,4,5,5,6,4,5,5,6,5,6,6,7,4,5,5,6,5,6,6,7,5,6,6,7,6,7,7,8]
def par (n:Nat):Nat→Bool
 |0=>false
 |k+1=>xor (par n k) (n.testBit k)
theorem pop_par:∀j:Nat,j<256→(popL.getD j 0).toNat%2=if par j 8 then 1 else 0:=by decide +kernel
theorem popL_len:popL.length=256:=by decide +kernel
theorem c_ones {x:Int} {y:UInt8} (hx:x=y.toNat):Con C N.bits_OnesCount8 [vi .u8 x] [] (.ret (i64 (popL.getD y.toNat 0).toNat)) []:=by
 subst hx
 have hy:=y.toNat_lt
 refine fd.bits_OnesCount8.c ?_
 refine⟨by omega,?_,?_⟩
 ·show((y.toNat:Nat):Int)<((256:Nat):Int)
  omega
 refine⟨popL.getD y.toNat 0,?_,?_⟩
 ·rw[Zb]
  show popL[y.toNat]? =_
  rw[Zf (by rw[popL_len];omega),Zd,Zf (by rw[popL_len];omega)];rfl
 refine⟨_,rfl,[],q7i ?_,trivial⟩
 exact u8_i64 _
def aStep (rs:Bs) (x:UInt8) (c:UInt8) (i:Nat):UInt8:=if par ((x&&&rs.getD i 0).toNat) 8 then c^^^((1:UInt8)<<<Zt i)else c
def aff (rs:Bs) (x c:UInt8) (n:Nat):UInt8:=(List.range n).foldl (aStep rs x) c
theorem aff_succ (rs x c n):aff rs x c (n+1)=aStep rs x (aff rs x c n) n:=by simp[aff,Zz]
theorem ones8_get:∀i,i<8→ones8[i]? =some (.int .u8 ((((1:UInt8)<<<Zt i).toNat:Nat):Int)):=by
 intro i hi
 rcases i with _|_|_|_|_|_|_|_|i
 all_goals first|rfl|omega
theorem at8 {r0 r1 r2 r3 r4 r5 r6 r7:UInt8} {i:Nat} (hi:i<8):([u8 r0,u8 r1,u8 r2,u8 r3,u8 r4,u8 r5,u8 r6,u8 r7]:List V)[i]? =some (u8 ([r0,r1,r2,r3,r4,r5,r6,r7].getD i 0)):=by
 rcases i with _|_|_|_|_|_|_|_|i
 all_goals first|rfl|omega
theorem c_affine {x z:Int} {a c r0 r1 r2 r3 r4 r5 r6 r7:UInt8} (hx:x=a.toNat) (hz:z=c.toNat):Con C N.box_Affine [vi .u8 x,.a [u8 r0,u8 r1,u8 r2,u8 r3,u8 r4,u8 r5,u8 r6,u8 r7],vi .u8 z] [] (.ret (u8 (aff [r0,r1,r2,r3,r4,r5,r6,r7] a c 8))) []:=by
 subst hx;subst hz
 refine fd.box_Affine.c ?_
 refine⟨_,rfl,rfl,?_⟩
 refine loopN (fun i=>⟨[(0,u8 a),(2,u8 (aff [r0,r1,r2,r3,r4,r5,r6,r7] a c i)),(9,.a [u8 r0,u8 r1,u8 r2,u8 r3,u8 r4,u8 r5,u8 r6,u8 r7]),(10,i64 i)],[]⟩) 8 ⟨[],⟨rfl,rfl,rfl,rfl,trivial⟩,trivial⟩ fun i hi=> ?_
 refine spl_d (fun h=> ?_) (fun h=> ?_)
 ·have hlt:i<8:=(by omega)
  refine⟨by omega,by omega,?_⟩
  refine⟨_,by rw[Zb,Zm];exact at8 hlt,?_⟩
  refine⟨[],_,_,_,_,c_ones (u8_and _ _),rfl,rfl,?_⟩
  refine⟨by decide,?_⟩
  have hp:=pop_par (a&&&[r0,r1,r2,r3,r4,r5,r6,r7].getD i 0).toNat (Ji _)
  have e1:(((popL.getD (a&&&[r0,r1,r2,r3,r4,r5,r6,r7].getD i 0).toNat 0).toNat:Nat):Int).tmod 2=((if par (a&&&[r0,r1,r2,r3,r4,r5,r6,r7].getD i 0).toNat 8 then 1 else 0:Nat):Int):=by
   rw[←hp];exact nat_rem _ 2
  refine spl_d (fun hb=> ?_) (fun hb=> ?_)
  ·rw[e1]at hb
   have ht:par (a&&&[r0,r1,r2,r3,r4,r5,r6,r7].getD i 0).toNat 8=true:=by
    cases hc:par (a&&&[r0,r1,r2,r3,r4,r5,r6,r7].getD i 0).toNat 8
    ·rw[hc]at hb;exact absurd hb (by decide)
    ·rfl
   refine⟨by omega,by omega,?_⟩
   refine⟨_,by rw[Zb,Zm,Zl];exact ones8_get i hlt,?_⟩
   refine⟨i+1,by omega,by omega,[],⟨rfl,congrArg (vi .u8) ?_,rfl,q7i (by simp(disch:=omega)only[Za];omega),trivial⟩,trivial⟩
   rw[u8_xor,aff_succ,aStep,if_pos ht]
  ·rw[e1]at hb
   have ht:par (a&&&[r0,r1,r2,r3,r4,r5,r6,r7].getD i 0).toNat 8=false:=by
    cases hc:par (a&&&[r0,r1,r2,r3,r4,r5,r6,r7].getD i 0).toNat 8
    ·rfl
    ·rw[hc]at hb;exact absurd (by decide) hb
   refine⟨i+1,by omega,by omega,[],⟨rfl,?_,rfl,q7i (by simp(disch:=omega)only[Za];omega),trivial⟩,trivial⟩
   show u8 _=u8 _
   rw[aff_succ,aStep,ht,if_neg (by decide)]
 ·obtain rfl:i=8:=(by omega)
  exact⟨_,rfl,[],rfl,trivial⟩
theorem u8_shl_xor (c y:UInt8) (i k:Nat) (hi:i<8) (hk:k<8):U8.wrap ((Zc U8.bits (c.toNat:Int)^^^Zc U8.bits (U8.wrap (U8.wrap ((Zc U8.bits ((y.toNat:Int).fdiv (2^(min ((k:Int)).toNat U8.bits)))&&&Zc U8.bits 1).toNat:Int)*2^(min (U6.wrap (i:Int)).toNat U8.bits)))).toNat:Int)
  =(((if y.toNat.testBit k then c^^^((1:UInt8)<<<Zt i)else c).toNat:Nat):Int):=by
 rw[u8_bit y hk,show U6.wrap (i:Int)=(i:Int) by rw[wrap_u64];omega]
 cases hc:y.toNat.testBit k
 ·rw[if_neg (by decide),if_neg (by decide),Int.zero_mul,show U8.wrap 0=((0:UInt8).toNat:Int) from rfl,u8_xor,UInt8.xor_zero]
 ·rw[if_pos rfl,if_pos rfl,show(1:Int)=((1:UInt8).toNat:Int) from rfl,u8_shl 1 i (by omega) (by omega),u8_xor,Zb]
theorem c_r4_affine {x z:Int} {a c r0 r1 r2 r3 r4 r5 r6 r7:UInt8} (hx:x=a.toNat) (hz:z=c.toNat):Con C N.r4_Affine [vi .u8 x,.a [u8 r0,u8 r1,u8 r2,u8 r3,u8 r4,u8 r5,u8 r6,u8 r7],vi .u8 z] [] (.ret (u8 (aff [r0,r1,r2,r3,r4,r5,r6,r7] a c 8))) []:=by
 subst hx;subst hz
 refine fd.r4_Affine.c ?_
 refine loopN (fun i=>⟨[(0,u8 a),(2,u8 (aff [r0,r1,r2,r3,r4,r5,r6,r7] a c i)),(4,.p (.k 0) 0),(7,i64 i)],[.mx [u8 r0,u8 r1,u8 r2,u8 r3,u8 r4,u8 r5,u8 r6,u8 r7]]⟩) 8 ⟨[.d 4 0],⟨rfl,rfl,rfl,rfl,trivial⟩,⟨_,rfl,rfl⟩,trivial⟩ fun i hi=> ?_
 refine spl_d (fun h=> ?_) (fun h=> ?_)
 ·have hlt:i<8:=(by omega)
  refine⟨by omega,by omega,?_⟩
  refine⟨_,by rw[Zb,Zm,Zl];exact at8 hlt,?_⟩
  generalize hc0:aff [r0,r1,r2,r3,r4,r5,r6,r7] a c i=c0
  generalize hg:[r0,r1,r2,r3,r4,r5,r6,r7].getD i 0=r
  have eb:U8.wrap ((Zc U8.bits (r.toNat:Int)&&&Zc U8.bits (a.toNat:Int)).toNat:Int)=((a&&&r).toNat:Int):=by
   rw[u8_and,UInt8.and_comm]
  refine loopN (fun k=>⟨[(0,u8 a),(2,u8 (if par (a&&&r).toNat k then c0^^^((1:UInt8)<<<Zt i)else c0)),(4,.p (.k 0) 0),(7,i64 i),(8,u8 (a&&&r)),(9,vi .u64 k)],[.mx [u8 r0,u8 r1,u8 r2,u8 r3,u8 r4,u8 r5,u8 r6,u8 r7]]⟩) 8 ⟨[.k 0],⟨rfl,rfl,rfl,rfl,congrArg (vi .u8) eb,rfl,trivial⟩,⟨_,rfl,rfl⟩,trivial⟩ fun k hk=> ?_
  refine spl_d (fun h=> ?_) (fun h=> ?_)
  ·have hkl:k<8:=(by omega)
   refine⟨by omega,?_⟩
   refine⟨by rw[wrap_u64];omega,?_⟩
   refine⟨k+1,by omega,by omega,[.k 0],⟨rfl,congrArg (vi .u8) ?_,rfl,rfl,rfl,congrArg (vi .u64) (by rw[wrap_u64];omega),trivial⟩,⟨_,rfl,rfl⟩,trivial⟩
   rw[u8_shl_xor _ _ _ _ hlt hkl]
   show(((if _ then _ else _:UInt8).toNat:Nat):Int)=(((if xor (par (a&&&r).toNat k) ((a&&&r).toNat.testBit k)=true then _ else _:UInt8).toNat:Nat):Int)
   cases par (a&&&r).toNat k<;>cases (a&&&r).toNat.testBit k<;>simp[UInt8.xor_assoc]
  ·obtain rfl:k=8:=(by omega)
   refine⟨i+1,by omega,by omega,[.k 0],⟨rfl,?_,rfl,q7i (by simp(disch:=omega)only[Za];omega),trivial⟩,⟨_,rfl,rfl⟩,trivial⟩
   show u8 _=u8 _
   rw[aff_succ,aStep,hc0,hg]
 ·obtain rfl:i=8:=(by omega)
  exact⟨_,rfl,[],rfl,trivial⟩
def mkBox (e:Nat) (m:Nat) (rs:Bs) (c:UInt8) (n:Nat):Bs:=(List.range n).map fun x=>aff rs (fPow m (Zt x) e) c 8
theorem mkBox_len (e m rs c n):(mkBox e m rs c n).length=n:=by simp[mkBox]
theorem mkBox_succ (e m rs c n):mkBox e m rs c (n+1)=mkBox e m rs c n++[aff rs (fPow m (Zt n) e) c 8]:=by simp[mkBox,Zz]
theorem fill_step {l:Bs} {n k:Nat} {x:UInt8} (hl:l.length=k) (h:k<n):(bv (l++Zk (n-k) 0)).set k (.int .u8 x.toNat)=bv (l++[x]++Zk (n-(k+1)) 0):=by
 rw[bv_set,show n-k=(n-(k+1))+1 by omega,Kb,set_app hl]
 simp
theorem c_make {e m:Nat} {z:Int} {c r0 r1 r2 r3 r4 r5 r6 r7:UInt8} (hz:z=c.toNat) (h1:256≤m) (h2:m<512) (he:128≤e) (he2:e<256):Con C N.box_Make [i64 e,i64 m,.a [u8 r0,u8 r1,u8 r2,u8 r3,u8 r4,u8 r5,u8 r6,u8 r7],vi .u8 z] [] (.ret (.o 1 (.k 0) 0 256)) [.sc (bv (mkBox e m [r0,r1,r2,r3,r4,r5,r6,r7] c 256))]:=by
 subst hz
 refine fd.box_Make.c ?_
 refine⟨by decide,by decide,by decide,?_⟩
 refine loopN (fun i=>⟨[(0,i64 e),(1,i64 m),(3,u8 c),(6,.p (.k 0) 0),(9,.o 1 (.k 1) 0 256),(13,i64 256),(14,i64 i)],[.mx [u8 r0,u8 r1,u8 r2,u8 r3,u8 r4,u8 r5,u8 r6,u8 r7],.sc (bv (mkBox e m [r0,r1,r2,r3,r4,r5,r6,r7] c i++Zk (256-i) 0))]⟩) 256 ⟨[.d 6 0,.d 11 0],⟨rfl,rfl,rfl,rfl,rfl,rfl,rfl,trivial⟩,⟨_,rfl,rfl⟩,⟨_,rfl,q7s (by rw[show mkBox e m [r0,r1,r2,r3,r4,r5,r6,r7] c 0=[] from rfl,Jp];exact bv_rep 256)⟩,trivial⟩ fun i hi=> ?_
 refine spl_d (fun h=> ?_) (fun h=> ?_)
 ·have hlt:i<256:=(by omega)
  refine⟨[],_,_,_,_,c_fpow (a:=Zt i) (nat_u8 i) he he2 h1 h2,rfl,rfl,?_⟩
  refine⟨_,rfl,rfl,?_⟩
  refine⟨[],_,_,_,_,c_affine rfl rfl,rfl,rfl,?_⟩
  refine⟨by omega,by omega,by rw[bv_len];simp[mkBox_len];omega,?_⟩
  refine⟨i+1,by omega,by omega,[.k 0,.k 1],⟨rfl,rfl,rfl,rfl,rfl,rfl,q7i (by simp(disch:=omega)only[Za];omega),trivial⟩,⟨_,rfl,rfl⟩,⟨_,rfl,q7s ?_⟩,trivial⟩
  rw[Zb,Zm,Zl,fill_step (mkBox_len _ _ _ _ _) hlt,mkBox_succ]
 ·obtain rfl:i=256:=(by omega)
  refine⟨_,rfl,[.k 1],rfl,⟨_,rfl,q7s ?_⟩,trivial⟩
  simp
theorem c_r4_make {e m:Nat} {z:Int} {c r0 r1 r2 r3 r4 r5 r6 r7:UInt8} (hz:z=c.toNat) (h1:256≤m) (h2:m<512) (he:128≤e) (he2:e<256):Con C N.r4_Make [i64 e,i64 m,.a [u8 r0,u8 r1,u8 r2,u8 r3,u8 r4,u8 r5,u8 r6,u8 r7],vi .u8 z] [] (.ret (.o 1 (.k 0) 0 256)) [.sc (bv (mkBox e m [r0,r1,r2,r3,r4,r5,r6,r7] c 256))]:=by
 subst hz
 refine fd.r4_Make.c ?_
 refine⟨by decide,by decide,by decide,?_⟩
 refine loopN (fun i=>⟨[(0,i64 e),(1,i64 m),(3,u8 c),(6,.p (.k 0) 0),(9,.o 1 (.k 1) 0 256),(10,i64 i)],[.mx [u8 r0,u8 r1,u8 r2,u8 r3,u8 r4,u8 r5,u8 r6,u8 r7],.sc (bv (mkBox e m [r0,r1,r2,r3,r4,r5,r6,r7] c i++Zk (256-i) 0))]⟩) 256 ⟨[.d 6 0,.d 11 0],⟨rfl,rfl,rfl,rfl,rfl,rfl,trivial⟩,⟨_,rfl,rfl⟩,⟨_,rfl,q7s (by rw[show mkBox e m [r0,r1,r2,r3,r4,r5,r6,r7] c 0=[] from rfl,Jp];exact bv_rep 256)⟩,trivial⟩ fun i hi=> ?_
 refine spl_d (fun h=> ?_) (fun h=> ?_)
 ·have hlt:i<256:=(by omega)
  refine⟨[],_,_,_,_,c_r3_pow (a:=Zt i) (nat_u8 i) he he2 h1 h2,rfl,rfl,?_⟩
  refine⟨_,rfl,rfl,?_⟩
  refine⟨[],_,_,_,_,c_r4_affine rfl rfl,rfl,rfl,?_⟩
  refine⟨by omega,by omega,by rw[bv_len];simp[mkBox_len];omega,?_⟩
  refine⟨i+1,by omega,by omega,[.k 0,.k 1],⟨rfl,rfl,rfl,rfl,rfl,q7i (by simp(disch:=omega)only[Za];omega),trivial⟩,⟨_,rfl,rfl⟩,⟨_,rfl,q7s ?_⟩,trivial⟩
  rw[Zb,Zm,Zl,fill_step (mkBox_len _ _ _ _ _) hlt,mkBox_succ]
 ·obtain rfl:i=256:=(by omega)
  refine⟨_,rfl,[.k 1],rfl,⟨_,rfl,q7s ?_⟩,trivial⟩
  simp
def bl (l:List Bool):List V:=l.map fun b=> .s (.bool b)
def bvv (l:List Bool):List Value:=l.map fun b=> .bool b
theorem bl_len (l):(bl l).length=l.length:=by simp[bl]
theorem bvv_len (l):(bvv l).length=l.length:=by simp[bvv]
theorem bvv_bl (l):(bvv l).map V.s=bl l:=by simp[bl,bvv]
theorem bvv_set (l:List Bool) (i:Nat) (b:Bool):(bvv l).set i (.bool b)=bvv (l.set i b):=by simp[bvv,List.map_set]
theorem backL_bl (ids dst):∀l,backL ids dst (bl l)=bl l
 |[]=>rfl
 |b::r=>by show V.s (.bool b)::backL ids dst (bl r)=_;rw[backL_bl ids dst r];rfl
theorem lend_bl (H ids n) (l):(bl l).map (lend H ids (n+1))=bl l:=by
 induction l with
 |nil=>rfl
 |cons b r ih=>
  have ih':List.map (lend H ids (n+1)) (bl r)=bl r:=ih
  show V.s (.bool b)::List.map (lend H ids (n+1)) (bl r)=_
  rw[ih'];rfl
def seenL (t:Bs):List Bool:=(List.range 256).map fun j=>decide (Zt j∈t)
theorem seenL_len (t):(seenL t).length=256:=by simp[seenL]
theorem seenL_at (t) {j:Nat} (h:j<256):(seenL t)[j]? =some (decide (Zt j∈t)):=by simp[seenL,h]
theorem seenL_step {t:Bs} {i:Nat} (h:i<t.length):(seenL (t.take i)).set (t[i]).toNat true=seenL (t.take (i+1)):=by
 apply Z3
 intro j
 by_cases hj:j<256
 ·rw[Jr,seenL_at _ hj,seenL_at _ hj,seenL_len,Zr h]
  by_cases he:(t[i]).toNat=j
  ·rw[if_pos he,if_pos (Ji _)]
   subst he
   rw[UInt8.ofNat_toNat,decide_eq_true (List.mem_append_right _ (Kf.2 rfl))]
  ·rw[if_neg he]
   have:Zt j≠t[i]:=by
    intro hh
    apply he
    rw[←hh,Jb,Zh (show j<2^8 from hj)]
   congr 1
   apply decide_eq_decide.2
   simp only[Kv,Kf,this,or_false]
 ·rw[Zg (by simp[seenL_len];omega),Zg (by rw[seenL_len];omega)]
theorem seenL_nil:bvv (seenL [])=Zk 256 (Value.bool false):=by
 apply Z3
 intro j
 by_cases hj:j<256
 ·unfold bvv
  rw[Je,seenL_at _ hj,Jd,if_pos hj]
  rfl
 ·rw[Zg (by simp[bvv,seenL];omega),Zg (by simp;omega)]
theorem seenL_all {t:Bs} (h:∀j,j<256→Zt j∈t):seenL t=Zk 256 true:=by
 apply Z3
 intro j
 by_cases hj:j<256
 ·rw[seenL_at _ hj,decide_eq_true (h j hj),Jd,if_pos hj]
 ·rw[Zg (by rw[seenL_len];omega),Zg (by simp;omega)]
theorem c_seen {va:List Value} {t:Bs} {n:Nat} (ha:va=bv t) (ht:t.length=n) (hm:n≤1000000):Con C N.box_seen [.z n va] [] (.ret (.a (bl (seenL t)))) []:=by
 subst ha;subst ht
 refine fd.box_seen.c ?_
 refine loopN (fun i=>⟨[(2,.p (.k 0) 0),(5,bz t),(6,i64 t.length),(7,i64 i)],[.sc (bvv (seenL (t.take i)))]⟩) t.length ⟨[.d 2 0],⟨rfl,rfl,rfl,rfl,trivial⟩,⟨_,rfl,q7s ?_⟩,trivial⟩ fun i hi=> ?_
 ·rw[K2,seenL_nil];rfl
 refine spl_d (fun h=> ?_) (fun h=> ?_)
 ·have hlt:i<t.length:=(by omega)
  have hx:=Ji (t[i])
  refine⟨by omega,by omega,?_⟩
  refine⟨_,by rw[Zb];exact bv_get hlt,?_⟩
  refine⟨by omega,by omega,?_⟩
  refine⟨by rw[bvv_len,seenL_len];omega,?_⟩
  refine⟨i+1,by omega,by omega,[.k 0],⟨rfl,rfl,rfl,q7i (by simp(disch:=omega)only[Za];omega),trivial⟩,⟨_,rfl,q7s ?_⟩,trivial⟩
  rw[Zb,Zm,Zl,bvv_set,seenL_step hlt]
 ·obtain rfl:i=t.length:=(by omega)
  rw[Zq]
  refine⟨bvv (seenL t),?_,?_,?_⟩
  ·exact sub_all (by rw[bvv_len,seenL_len])
  ·rw[bvv_len,seenL_len]
  rw[bvv_bl]
  refine⟨by rw[bl_len,bvv_len];omega,?_⟩
  refine⟨bl (seenL t),?_,by rw[bl_len,seenL_len],?_⟩
  ·unfold lay
   split
   ·rename_i c hc
    have:=congrArg List.length hc
    rw[bl_len,seenL_len]at this
    simp at this
   ·rw[K2,Jp,Kt (by simp[bl_len,bvv_len]),Z8]
    simp[sub,bl_len,seenL_len,Ks]
  refine⟨_,rfl,[],?_,trivial⟩
  show V.a ((bl (seenL t)).map (lend _ [] 5))=_
  rw[lend_bl]
def wantL (n:Nat):List Bool:=(List.range 256).map fun j=>decide (j<n)
theorem wantL_len (n):(wantL n).length=256:=by simp[wantL]
theorem wantL_zero:bvv (wantL 0)=Zk 256 (Value.bool false):=by
 apply Z3
 intro j
 by_cases hj:j<256
 ·unfold bvv wantL
  rw[Je,Je,Jv hj,Jd,if_pos hj]
  simp
 ·rw[Zg (by simp[bvv,wantL];omega),Zg (by simp;omega)]
theorem wantL_step {i:Nat} (h:i<256):(wantL i).set i true=wantL (i+1):=by
 apply Z3
 intro j
 by_cases hj:j<256
 ·rw[Jr,wantL_len]
  by_cases he:i=j
  ·subst he;simp[wantL,h]
  ·rw[if_neg he];simp[wantL,hj];omega
 ·rw[Zg (by simp[wantL_len];omega),Zg (by rw[wantL_len];omega)]
theorem wantL_full:wantL 256=Zk 256 true:=by
 apply Z3
 intro j
 by_cases hj:j<256
 ·unfold wantL
  rw[Je,Jv hj,Jd,if_pos hj]
  simp[hj]
 ·rw[Zg (by rw[wantL_len];omega),Zg (by simp;omega)]
theorem c_is {va:List Value} {t:Bs} (ha:va=bv t) (ht:t.length=256) (hall:∀j,j<256→Zt j∈t):Con C N.box_Is [.z 256 va] [] (.ret (bool true)) []:=by
 subst ha
 refine fd.box_Is.c ?_
 refine loopN (fun i=>⟨[(0,.z 256 (bv t)),(3,.p (.k 0) 0),(9,i64 256),(10,i64 i)],[.sc (bvv (wantL i))]⟩) 256 ⟨[.d 3 0],⟨rfl,rfl,rfl,rfl,trivial⟩,⟨_,rfl,q7s wantL_zero.symm⟩,trivial⟩ fun i hi=> ?_
 refine spl_d (fun h=> ?_) (fun h=> ?_)
 ·have hlt:i<256:=(by omega)
  refine⟨by omega,by omega,by rw[bvv_len,wantL_len];omega,?_⟩
  refine⟨i+1,by omega,by omega,[.k 0],⟨rfl,rfl,rfl,q7i (by simp(disch:=omega)only[Za];omega),trivial⟩,⟨_,rfl,q7s ?_⟩,trivial⟩
  rw[Zb,Zm,Zl,bvv_set,wantL_step hlt]
 ·obtain rfl:i=256:=(by omega)
  refine⟨[],_,_,_,_,c_seen (t:=t) rfl ht (by decide),rfl,rfl,?_⟩
  refine⟨bvv (wantL 256),?_,by rw[bvv_len,wantL_len],?_⟩
  ·exact sub_all (by rw[bvv_len,wantL_len])
  refine⟨seenL t,wantL 256,?_,?_,seenL_len t,wantL_len _,?_⟩
  ·exact backL_bl _ _ _
  ·exact bvv_bl _
  refine⟨_,rfl,[],congrArg bool ?_,trivial⟩
  rw[seenL_all hall,wantL_full]
  exact decide_eq_true rfl
def backN (t:Bs) (n:Nat):Bs:=(List.range n).foldl (fun o i=>o.set (t.getD i 0).toNat (Zt i)) (Zk 256 0)
theorem backN_succ (t n):backN t (n+1)=(backN t n).set (t.getD n 0).toNat (Zt n):=by simp[backN,Zz]
theorem backN_len (t n):(backN t n).length=256:=by
 induction n with
 |zero=>simp[backN]
 |succ n ih=>rw[backN_succ,Zu,ih]
theorem c_back {va:List Value} {t:Bs} (ha:va=bv t) (ht:t.length=256) (hall:∀j,j<256→Zt j∈t):Con C N.box_Back [.z 256 va] [] (.ret (.t [.o 1 (.k 0) 0 256,bool true])) [.sc (bv (backN t 256))]:=by
 subst ha
 refine fd.box_Back.c ?_
 refine⟨[],_,_,_,_,c_is rfl ht hall,rfl,rfl,?_⟩
 refine⟨by omega,Jh _,by omega,?_⟩
 refine loopN (fun i=>⟨[(4,.o 1 (.k 0) 0 256),(13,.z 256 (bv t)),(14,i64 256),(15,i64 i)],[.sc (bv (backN t i))]⟩) 256 ⟨[.d 12 0],⟨rfl,rfl,rfl,rfl,trivial⟩,⟨_,rfl,q7s (bv_rep 256)⟩,trivial⟩ fun i hi=> ?_
 refine spl_d (fun h=> ?_) (fun h=> ?_)
 ·have hlt:i<256:=(by omega)
  have hx:=Ji (t.getD i 0)
  refine⟨by omega,by omega,?_⟩
  refine⟨_,by rw[Zb];exact bv_getD (by omega),?_⟩
  refine⟨by omega,by omega,by rw[bv_len,backN_len];omega,?_⟩
  refine⟨i+1,by omega,by omega,[.k 0],⟨rfl,rfl,rfl,q7i (by simp(disch:=omega)only[Za];omega),trivial⟩,⟨_,rfl,q7s ?_⟩,trivial⟩
  rw[Zb,Zm,Zl,nat_u8,bv_set,backN_succ]
 ·obtain rfl:i=256:=(by omega)
  exact⟨_,rfl,[.k 0],rfl,⟨_,rfl,rfl⟩,trivial⟩
theorem not_seen {t:Bs} (hnd:t.Nodup) {i:Nat} (h:i<t.length):t[i]∉t.take i:=by
 intro hm
 obtain⟨j,hj,he⟩:=List.getElem_of_mem hm
 simp at hj
 rw[List.getElem_take]at he
 have:=(List.getElem?_inj (i:=j) (j:=i) (by omega) hnd).1 (by rw[Zf (by omega),Zf h,he])
 omega
theorem c_r4_is {va:List Value} {t:Bs} (ha:va=bv t) (ht:t.length=256) (hnd:t.Nodup):Con C N.r4_Is [.z 256 va] [] (.ret (bool true)) []:=by
 subst ha
 refine fd.r4_Is.c ?_
 refine⟨by omega,Jh _,by omega,?_⟩
 refine loopN (fun i=>⟨[(0,.z 256 (bv t)),(3,.o 1 (.k 0) 0 256),(4,i64 i)],[.sc (bvv (seenL (t.take i)))]⟩) 256 ⟨[.d 5 0],⟨rfl,rfl,rfl,trivial⟩,⟨_,rfl,q7s (by rw[K2,seenL_nil];rfl)⟩,trivial⟩ fun i hi=> ?_
 refine spl_d (fun h=> ?_) (fun h=> ?_)
 ·have hlt:i<256:=(by omega)
  have hlt':i<t.length:=(by omega)
  have hx:=Ji (t[i])
  have hs:(bvv (seenL (t.take i)))[0+((t[i]).toNat:Int).toNat*1]? =some (.bool false):=by
   rw[Zb,Zm,Zl]
   have h1:=seenL_at (t.take i) hx
   rw[UInt8.ofNat_toNat,decide_eq_false (not_seen hnd hlt')]at h1
   simp[bvv,h1]
  refine⟨by omega,by omega,?_⟩
  refine⟨_,by rw[Zb];exact bv_get hlt',?_⟩
  refine spl_d (fun hg=>absurd hg (by rw[u8_i64];omega)) (fun _=> ?_)
  refine⟨by omega,by omega,?_⟩
  refine⟨_,by rw[Zb];exact bv_get hlt',?_⟩
  refine⟨by omega,by omega,?_⟩
  refine⟨_,hs,?_⟩
  refine⟨by omega,by omega,?_⟩
  refine⟨_,by rw[Zb];exact bv_get hlt',?_⟩
  refine⟨by omega,by omega,by rw[bvv_len,seenL_len];omega,?_⟩
  refine⟨i+1,by omega,by omega,[.k 0],⟨rfl,rfl,q7i (by simp(disch:=omega)only[Za];omega),trivial⟩,⟨_,rfl,q7s ?_⟩,trivial⟩
  rw[Zb,Zm,Zl,bvv_set,seenL_step hlt']
 ·obtain rfl:i=256:=(by omega)
  exact⟨_,rfl,[],rfl,trivial⟩
theorem c_r4_back {va:List Value} {t:Bs} (ha:va=bv t) (ht:t.length=256) (hnd:t.Nodup):Con C N.r4_Back [.z 256 va] [] (.ret (.t [.o 1 (.k 0) 0 256,bool true])) [.sc (bv (backN t 256))]:=by
 subst ha
 refine fd.r4_Back.c ?_
 refine⟨[],_,_,_,_,c_r4_is rfl ht hnd,rfl,rfl,?_⟩
 refine⟨by omega,Jh _,by omega,?_⟩
 refine loopN (fun i=>⟨[(0,.z 256 (bv t)),(4,.o 1 (.k 0) 0 256),(5,i64 i)],[.sc (bv (backN t i))]⟩) 256 ⟨[.d 11 0],⟨rfl,rfl,rfl,trivial⟩,⟨_,rfl,q7s (bv_rep 256)⟩,trivial⟩ fun i hi=> ?_
 refine spl_d (fun h=> ?_) (fun h=> ?_)
 ·have hlt:i<256:=(by omega)
  have hx:=Ji (t.getD i 0)
  refine⟨by omega,by omega,?_⟩
  refine⟨_,by rw[Zb];exact bv_getD (by omega),?_⟩
  refine⟨by omega,by omega,by rw[bv_len,backN_len];omega,?_⟩
  refine⟨i+1,by omega,by omega,[.k 0],⟨rfl,rfl,q7i (by simp(disch:=omega)only[Za];omega),trivial⟩,⟨_,rfl,q7s ?_⟩,trivial⟩
  rw[Zb,Zm,Zl,nat_u8,bv_set,backN_succ]
 ·obtain rfl:i=256:=(by omega)
  exact⟨_,rfl,[.k 0],rfl,⟨_,rfl,rfl⟩,trivial⟩
def tb (b:Bs) (j:Nat):Bool:=(b.getD (j/8) 0).toNat.testBit (7-j%8)
def byteOf (f:Nat→Bool):UInt8:=Zt (128*(f 0).toNat+64*(f 1).toNat+32*(f 2).toNat+16*(f 3).toNat+8*(f 4).toNat+4*(f 5).toNat+2*(f 6).toNat+(f 7).toNat)
theorem byteOf_aux:∀b0 b1 b2 b3 b4 b5 b6 b7:Bool,∀r:Fin 8,(Zt (128*b0.toNat+64*b1.toNat+32*b2.toNat+16*b3.toNat+8*b4.toNat+4*b5.toNat+2*b6.toNat+b7.toNat)).toNat.testBit (7-r.val)=[b0,b1,b2,b3,b4,b5,b6,b7].getD r.val false:=by decide +kernel
theorem byteOf_bit (f:Nat→Bool) {r:Nat} (hr:r<8):(byteOf f).toNat.testBit (7-r)=f r:=by
 have h:=byteOf_aux (f 0) (f 1) (f 2) (f 3) (f 4) (f 5) (f 6) (f 7) ⟨r,hr⟩
 have e:[f 0,f 1,f 2,f 3,f 4,f 5,f 6,f 7].getD r false=f r:=by
  rcases r with _|_|_|_|_|_|_|_|r
  all_goals first|rfl|omega
 rw[←e,←h];rfl
theorem u8_ext {a b:UInt8} (h:∀r,r<8→a.toNat.testBit (7-r)=b.toNat.testBit (7-r)):a=b:=by
 apply Ku.1
 apply Nat.eq_of_testBit_eq
 intro i
 by_cases hi:i<8
 ·have:=h (7-i) (by omega)
  rwa [show 7-(7-i)=i by omega]at this
 ·have hp:∀w:UInt8,w.toNat.testBit i=false:=fun w=>Kq (Nat.lt_of_lt_of_le w.toNat_lt (Z5 (by decide) (by omega)))
  rw[hp,hp]
def pack (n:Nat) (f:Nat→Bool):Bs:=(List.range n).map fun q=>byteOf fun r=>f (8*q+r)
theorem pack_len (n f):(pack n f).length=n:=by simp[pack]
theorem tb_pack {n:Nat} {f:Nat→Bool} {j:Nat} (h:j<8*n):tb (pack n f) j=f j:=by
 unfold tb pack
 have hq:j/8<n:=by omega
 rw[Zd,Je,Jv hq]
 show(byteOf fun r=>f (8*(j/8)+r)).toNat.testBit (7-j%8)=f j
 rw[byteOf_bit _ (Z4 _ (by decide))]
 congr 1
 omega
theorem tb_ext {a b:Bs} (hl:a.length=b.length) (h:∀j,j<8*a.length→tb a j=tb b j):a=b:=by
 apply List.ext_getElem hl
 intro i h1 h2
 apply u8_ext
 intro r hr
 have:=h (8*i+r) (by omega)
 unfold tb at this
 rw[show (8*i+r)/8=i by omega,show(8*i+r)%8=r by omega]at this
 rw[Zd,Zf h1,Zd,Zf h2]at this
 exact this
def turnB (b:Bs) (n:Nat):Bs:=pack b.length fun j=>tb b ((j+n)%(8*b.length))
theorem turnB_len (b n):(turnB b n).length=b.length:=pack_len _ _
theorem turnB_turnB (b:Bs) (n m:Nat) (h0:0<b.length):turnB (turnB b n) m=turnB b ((n+m)%(8*b.length)):=by
 apply tb_ext (by simp[turnB_len])
 intro j hj
 rw[turnB_len,turnB_len]at hj
 have hlt:(j+m)%(8*b.length)<8*b.length:=Z4 _ (by omega)
 unfold turnB
 rw[tb_pack (by rw[pack_len];exact hj),tb_pack (by rw[pack_len];exact hlt),tb_pack hj,pack_len]
 congr 1
 rw[Nat.mod_add_mod,Nat.add_mod_mod,Nat.add_assoc,Nat.add_comm m n]
def rotV (x y:UInt8) (r:Nat):UInt8:=Zt ((x.toNat*256+y.toNat)/2^(8-r))
theorem rotV_bit (x y:UInt8) {r j:Nat} (hr:r<8) (hj:j<8):(rotV x y r).toNat.testBit (7-j)=if j+r<8 then x.toNat.testBit (7-(j+r))else y.toNat.testBit (15-(j+r)):=by
 unfold rotV
 rw[Jb,Kl,Nat.testBit_div_two_pow,Nat.mul_comm,show 256=2^8 by decide,Nat.testBit_two_pow_mul_add _ y.toNat_lt]
 have h7:7-j<8:=by omega
 simp only[h7,decide_true,Bool.true_and]
 by_cases h:j+r<8
 ·rw[if_pos h,if_neg (by omega)]
  congr 1;omega
 ·rw[if_neg h,if_pos (by omega)]
  congr 1;omega
def turnAt (b:Bs) (n i:Nat):UInt8:=rotV (b.getD ((i+n/8)%b.length) 0) (b.getD ((i+n/8+1)%b.length) 0) (n%8)
theorem turnB_eq (b:Bs) (n:Nat) (hn:n<8*b.length):(List.range b.length).map (turnAt b n)=turnB b n:=by
 apply tb_ext (by simp[turnB_len])
 intro j hj
 simp only[Zy,List.length_range]at hj
 have hl:0<b.length:=by omega
 unfold turnB
 rw[tb_pack hj]
 have hq:j/8<b.length:=by omega
 unfold tb
 rw[Zd,Je,Jv hq]
 show(turnAt b n (j/8)).toNat.testBit (7-j%8)=_
 unfold turnAt
 rw[rotV_bit _ _ (Z4 _ (by decide)) (Z4 _ (by decide))]
 by_cases h:j%8+n%8<8
 ·rw[if_pos h]
  by_cases hw:j+n<8*b.length
  ·have e:(j+n)%(8*b.length)=j+n:=Zh hw
   rw[e,show(j+n)/8=j/8+n/8 by omega,Zh (show j/8+n/8<b.length by omega),show(j+n)%8=j%8+n%8 by omega]
  ·have e:(j+n)%(8*b.length)=j+n-8*b.length:=by rw[Jy (by omega),Zh (by omega)]
   have e2:(j/8+n/8)%b.length=j/8+n/8-b.length:=by rw[Jy (by omega),Zh (by omega)]
   rw[e,e2,show(j+n-8*b.length)/8=j/8+n/8-b.length by omega,show(j+n-8*b.length)%8=j%8+n%8 by omega]
 ·rw[if_neg h]
  by_cases hw:j+n<8*b.length
  ·have e:(j+n)%(8*b.length)=j+n:=Zh hw
   rw[e,show(j+n)/8=j/8+n/8+1 by omega,Zh (show j/8+n/8+1<b.length by omega),show 7-(j+n)%8=15-(j%8+n%8) by omega]
  ·have e:(j+n)%(8*b.length)=j+n-8*b.length:=by rw[Jy (by omega),Zh (by omega)]
   have e2:(j/8+n/8+1)%b.length=j/8+n/8+1-b.length:=by rw[Jy (by omega),Zh (by omega)]
   rw[e,e2,show(j+n-8*b.length)/8=j/8+n/8+1-b.length by omega,show 7-(j+n-8*b.length)%8=15-(j%8+n%8) by omega]
theorem or_add (a:Nat) {b i:Nat} (hb:b<2^i):a*2^i|||b=a*2^i+b:=by
 rw[←J6,Nat.shiftLeft_add_eq_or_of_lt hb]
theorem prog_rot (x y:UInt8) {r:Nat} (hr:r<8):U8.wrap ((U6.wrap ((Zc U6.bits (U6.wrap (U6.wrap (x.toNat:Int)*2^(min (8:Int).toNat U6.bits)))|||Zc U6.bits (U6.wrap (y.toNat:Int))).toNat:Int)).fdiv (2^(min (U6.wrap (8-U6.wrap (r:Int))).toNat U6.bits)))
  =((rotV x y r).toNat:Int):=by
 have hx:=x.toNat_lt
 have hy:=y.toNat_lt
 have e1:U6.wrap (x.toNat:Int)=((x.toNat:Nat):Int):=by rw[wrap_u64];omega
 have e2:U6.wrap (y.toNat:Int)=((y.toNat:Nat):Int):=by rw[wrap_u64];omega
 have e3:U6.wrap ((x.toNat:Int)*2^(min (8:Int).toNat U6.bits))=((x.toNat*256:Nat):Int):=by
  show U6.wrap ((x.toNat:Int)*2^8)=_
  rw[wrap_u64];omega
 have e4:U6.wrap (8-U6.wrap (r:Int))=((8-r:Nat):Int):=by rw[wrap_u64,wrap_u64];omega
 have e5:x.toNat*256|||y.toNat=x.toNat*256+y.toNat:=or_add (i:=8) x.toNat hy
 rw[e1,e2,e3,e4,bx_or U6.bits (by simp only[bits_u64];omega) (by simp only[bits_u64];omega),e5]
 have e6:U6.wrap ((x.toNat*256+y.toNat:Nat):Int)=((x.toNat*256+y.toNat:Nat):Int):=by rw[wrap_u64];omega
 rw[e6,Zb,show min (8-r) U6.bits=8-r by simp only[bits_u64];omega,Z1 _ (Kc (Ki (by decide)))]
 have e7:((x.toNat*256+y.toNat:Nat):Int)/2^(8-r)=(((x.toNat*256+y.toNat)/2^(8-r):Nat):Int):=by
  rw[Ju,Z9];rfl
 rw[e7,nat_u8];rfl
theorem rot_or:∀r,r<8→∀x y:Nat,x<256→y<256→(x*2^r%256|||y/2^(8-r))=(x*256+y)/2^(8-r)%256:=by
 intro r hr x y hx hy
 have key:∀(a p q:Nat),q<2^p→a*2^p|||q=a*2^p+q:=fun a p q h=>or_add a h
 rcases r with _|_|_|_|_|_|_|_|r
 ·rw[show y/2^(8-0)=0 by omega,Nat.or_zero];omega
 ·have h1:x*2^1%256=(x%128)*2^1:=by omega
  rw[h1,key _ 1 _ (by show _<2;omega)];omega
 ·have h1:x*2^2%256=(x%64)*2^2:=by omega
  rw[h1,key _ 2 _ (by show _<4;omega)];omega
 ·have h1:x*2^3%256=(x%32)*2^3:=by omega
  rw[h1,key _ 3 _ (by show _<8;omega)];omega
 ·have h1:x*2^4%256=(x%16)*2^4:=by omega
  rw[h1,key _ 4 _ (by show _<16;omega)];omega
 ·have h1:x*2^5%256=(x%8)*2^5:=by omega
  rw[h1,key _ 5 _ (by show _<32;omega)];omega
 ·have h1:x*2^6%256=(x%4)*2^6:=by omega
  rw[h1,key _ 6 _ (by show _<64;omega)];omega
 ·have h1:x*2^7%256=(x%2)*2^7:=by omega
  rw[h1,key _ 7 _ (by show _<128;omega)];omega
 ·omega
theorem ref_rot (x y:UInt8) {r:Nat} (hr:r<8):U8.wrap ((Zc U8.bits (U8.wrap ((x.toNat:Int)*2^(min (U6.wrap (r:Int)).toNat U8.bits)))|||Zc U8.bits ((y.toNat:Int).fdiv (2^(min (U6.wrap (I6.wrap (8-(r:Int)))).toNat U8.bits)))).toNat:Int)
  =((rotV x y r).toNat:Int):=by
 have hx:=x.toNat_lt
 have hy:=y.toNat_lt
 have e1:U6.wrap (r:Int)=((r:Nat):Int):=by rw[wrap_u64];omega
 have e4:U6.wrap (I6.wrap (8-(r:Int)))=((8-r:Nat):Int):=by rw[wrap_u64];simp only[IntKind.wrap_i64];omega
 rw[e1,e4,Zb,Zb,show min r U8.bits=r by simp only[bits_u8];omega,show min (8-r) U8.bits=8-r by simp only[bits_u8];omega,Z1 _ (Kc (Ki (by decide))),wrap_u8,wrap_u8]
 have e5:(x.toNat:Int)*2^r%256=((x.toNat*2^r%256:Nat):Int):=by rw[Jt,Jx,Z9];rfl
 have e6:(y.toNat:Int)/2^(8-r)=((y.toNat/2^(8-r):Nat):Int):=by rw[Ju,Z9];rfl
 have hd:y.toNat/2^(8-r)<256:=Nat.lt_of_le_of_lt (Jo _ _) hy
 rw[e5,e6,bx_or U8.bits (by simp only[bits_u8];omega) (by simp only[bits_u8];omega),rot_or r hr _ _ hx hy,rotV,Jb]
 omega
theorem fillT_step {f:Nat→UInt8} {n k:Nat} (h:k<n):(bv ((List.range k).map f++Zk (n-k) 0)).set k (.int .u8 (f k).toNat)=bv ((List.range (k+1)).map f++Zk (n-(k+1)) 0):=by
 rw[fill_step (by simp) h,Zz,List.map_append]
 simp
theorem c_turn {va:List Value} {b:Bs} {l:Nat} {n:Int} (ha:va=bv b) (hl:b.length=l) (h0:0<l) (hm:l≤1000000) (hn: -9223372036854775808≤n∧n≤9223372036854775807):Con C N.words_Turn [.z l va,i64 n] [] (.ret (.o 1 (.k 0) 0 l)) [.sc (bv (turnB b (n%(8*l)).toNat))]:=by
 subst ha;subst hl
 refine fd.words_Turn.c ?_
 refine spl_f (by simp only[beq_eq_false_iff_ne,ne_eq];omega) ?_
 have e8:I6.wrap (8*(b.length:Int))=((8*b.length:Nat):Int):=(by simp(disch:=omega)only[Za];omega)
 refine⟨[],_,_,_,_,c_rest (b:=(8*b.length:Nat)) (by omega) (by omega) hn,by rw[←e8];rfl,rfl,?_⟩
 obtain⟨m,hmm,hml⟩:∃m:Nat,n%(8*(b.length:Int))=m∧m<8*b.length:=by
  have h1:=Kw n (b:=8*(b.length:Int)) (by omega)
  have h2:=Kh n (b:=8*(b.length:Int)) (by omega)
  exact⟨(n%(8*(b.length:Int))).toNat,by omega,by omega⟩
 have hmm':n%((8*b.length:Nat):Int)=m:=by rw[←hmm];rfl
 rw[hmm,hmm',Zb]
 refine⟨by omega,Jh _,by omega,?_⟩
 refine loopN (fun i=>⟨[(0,bz b),(1,i64 m),(5,.o 1 (.k 0) 0 b.length),(22,i64 b.length),(23,i64 i)],[.sc (bv ((List.range i).map (turnAt b m)++Zk (b.length-i) 0))]⟩) b.length ⟨[.d 20 0],⟨rfl,rfl,rfl,rfl,rfl,trivial⟩,⟨_,rfl,q7s (by simp[bv])⟩,trivial⟩ fun i hi=> ?_
 refine spl_d (fun h=> ?_) (fun h=> ?_)
 ·have hlt:i<b.length:=(by omega)
  have q8:I6.wrap ((m:Int).tdiv 8)=((m/8:Nat):Int):=by
   rw[show ((m:Int).tdiv 8)=((m/8:Nat):Int) from rfl];simp only[IntKind.wrap_i64];omega
  have ea:I6.wrap ((i:Int)+I6.wrap ((m:Int).tdiv 8))=((i+m/8:Nat):Int):=by rw[q8];simp only[IntKind.wrap_i64];omega
  have eb:I6.wrap (I6.wrap ((i:Int)+I6.wrap ((m:Int).tdiv 8))+1)=((i+m/8+1:Nat):Int):=by rw[ea];simp only[IntKind.wrap_i64];omega
  have ec:(I6.wrap ((i:Int)+I6.wrap ((m:Int).tdiv 8))).tmod (b.length:Int)=(((i+m/8)%b.length:Nat):Int):=by rw[ea];exact nat_rem _ _
  have ed:(I6.wrap (I6.wrap ((i:Int)+I6.wrap ((m:Int).tdiv 8))+1)).tmod (b.length:Int)=(((i+m/8+1)%b.length:Nat):Int):=by rw[eb];exact nat_rem _ _
  have h1:(i+m/8)%b.length<b.length:=Z4 _ h0
  have h2:(i+m/8+1)%b.length<b.length:=Z4 _ h0
  refine⟨by decide,?_⟩
  refine⟨by omega,by rw[ec];omega,by rw[ec];omega,?_⟩
  refine⟨_,by rw[ec,Zb];exact bv_getD h1,?_⟩
  refine⟨by omega,by rw[ed];omega,by rw[ed];omega,?_⟩
  refine⟨_,by rw[ed,Zb];exact bv_getD h2,?_⟩
  refine⟨by decide,by decide,?_⟩
  have e9:((m:Int).tmod 8)=((m%8:Nat):Int):=nat_rem m 8
  refine⟨by rw[e9,wrap_u64,wrap_u64];omega,?_⟩
  refine⟨by omega,by omega,by rw[bv_len];simp;omega,?_⟩
  refine⟨i+1,by omega,by omega,[.k 0],⟨rfl,rfl,rfl,rfl,q7i (by simp(disch:=omega)only[Za];omega),trivial⟩,⟨_,rfl,q7s ?_⟩,trivial⟩
  rw[e9,prog_rot _ _ (Z4 _ (by decide)),Zb,Zm,Zl]
  exact fillT_step hlt
 ·obtain rfl:i=b.length:=(by omega)
  refine⟨_,rfl,[.k 0],rfl,⟨_,rfl,q7s ?_⟩,trivial⟩
  rw[Nat.sub_self,List.replicate_zero,Z8,turnB_eq b m hml]
theorem c_r1_turn {va:List Value} {b:Bs} {l:Nat} {n:Int} (ha:va=bv b) (hl:b.length=l) (h0:0<l) (hm:l≤1000000) (hn: -9223372036854775808≤n∧n≤9223372036854775807):Con C N.r1_Turn [.z l va,i64 n] [] (.ret (.o 1 (.k 0) 0 l)) [.sc (bv (turnB b (n%(8*l)).toNat))]:=by
 subst ha;subst hl
 refine fd.r1_Turn.c ?_
 refine⟨by omega,Jh _,by omega,?_⟩
 refine spl_f (by simp only[beq_eq_false_iff_ne,ne_eq];omega) ?_
 have e8:I6.wrap (8*(b.length:Int))=((8*b.length:Nat):Int):=(by simp(disch:=omega)only[Za];omega)
 refine⟨[],_,_,_,_,c_r1_rest (b:=(8*b.length:Nat)) (by omega) (by omega) hn,by rw[←e8];rfl,rfl,?_⟩
 obtain⟨m,hmm,hml⟩:∃m:Nat,n%(8*(b.length:Int))=m∧m<8*b.length:=by
  have h1:=Kw n (b:=8*(b.length:Int)) (by omega)
  have h2:=Kh n (b:=8*(b.length:Int)) (by omega)
  exact⟨(n%(8*(b.length:Int))).toNat,by omega,by omega⟩
 have hmm':n%((8*b.length:Nat):Int)=m:=by rw[←hmm];rfl
 rw[hmm,hmm',Zb]
 refine loopN (fun i=>⟨[(0,bz b),(5,.o 1 (.k 0) 0 b.length),(6,i64 m),(7,i64 i)],[.sc (bv ((List.range i).map (turnAt b m)++Zk (b.length-i) 0))]⟩) b.length ⟨[.d 12 0],⟨rfl,rfl,rfl,rfl,trivial⟩,⟨_,rfl,q7s (by simp[bv])⟩,trivial⟩ fun i hi=> ?_
 refine spl_d (fun h=> ?_) (fun h=> ?_)
 ·have hlt:i<b.length:=(by omega)
  have q8:I6.wrap ((m:Int).tdiv 8)=((m/8:Nat):Int):=by
   rw[show ((m:Int).tdiv 8)=((m/8:Nat):Int) from rfl];simp only[IntKind.wrap_i64];omega
  have ea:I6.wrap ((i:Int)+I6.wrap ((m:Int).tdiv 8))=((i+m/8:Nat):Int):=by rw[q8];simp only[IntKind.wrap_i64];omega
  have eb:I6.wrap (I6.wrap ((i:Int)+I6.wrap ((m:Int).tdiv 8))+1)=((i+m/8+1:Nat):Int):=by rw[ea];simp only[IntKind.wrap_i64];omega
  have ec:(I6.wrap ((i:Int)+I6.wrap ((m:Int).tdiv 8))).tmod (b.length:Int)=(((i+m/8)%b.length:Nat):Int):=by rw[ea];exact nat_rem _ _
  have ed:(I6.wrap (I6.wrap ((i:Int)+I6.wrap ((m:Int).tdiv 8))+1)).tmod (b.length:Int)=(((i+m/8+1)%b.length:Nat):Int):=by rw[eb];exact nat_rem _ _
  have h1:(i+m/8)%b.length<b.length:=Z4 _ h0
  have h2:(i+m/8+1)%b.length<b.length:=Z4 _ h0
  refine⟨by decide,by omega,by rw[ec];omega,by rw[ec];omega,?_⟩
  refine⟨_,by rw[ec,Zb];exact bv_getD h1,?_⟩
  refine⟨by decide,by omega,by rw[ed];omega,by rw[ed];omega,?_⟩
  refine⟨_,by rw[ed,Zb];exact bv_getD h2,?_⟩
  have e9:((m:Int).tmod 8)=((m%8:Nat):Int):=nat_rem m 8
  refine⟨by decide,by rw[e9,wrap_u64];omega,by decide,by rw[e9,wrap_u64];simp only[IntKind.wrap_i64];omega,?_⟩
  refine⟨by omega,by omega,by rw[bv_len];simp;omega,?_⟩
  refine⟨i+1,by omega,by omega,[.k 0],⟨rfl,rfl,rfl,q7i (by simp(disch:=omega)only[Za];omega),trivial⟩,⟨_,rfl,q7s ?_⟩,trivial⟩
  rw[e9,ref_rot _ _ (Z4 _ (by decide)),Zb,Zm,Zl]
  exact fillT_step hlt
 ·obtain rfl:i=b.length:=(by omega)
  refine⟨_,rfl,[.k 0],rfl,⟨_,rfl,q7s ?_⟩,trivial⟩
  rw[Nat.sub_self,List.replicate_zero,Z8,turnB_eq b m hml,Zb]
def nv (l:List Nat):List Value:=l.map fun(x:Nat)=>Value.int .i64 (x:Int)
abbrev nz (l:List Nat):V:= .z l.length (nv l)
theorem nv_len (l:List Nat):(nv l).length=l.length:=by simp[nv]
theorem nv_getD {k:List Nat} {i:Nat} (h:i<k.length):(nv k)[i]? =some (.int .i64 ((k.getD i 0:Nat):Int)):=by
 simp[nv,h,Zd]
theorem nv_sub (l:List Nat) (i n:Nat):sub (nv l) i n=nv (sub l i n):=by simp[nv,sub,Kj,Kk]
theorem nv_app (a b:List Nat):nv a++nv b=nv (a++b):=by simp[nv]
theorem nv_all {l:List Nat} {n:Nat} (h:l.length=n):sub (nv l) 0 n=nv l:=sub_all (by rw[nv_len,h])
theorem nv_app1 {l:List Nat} {n x:Nat} (h:l.length=n):sub (nv l) 0 n++[Value.int .i64 (x:Int)]=nv (l++[x]):=by
 rw[nv_all h];simp[nv]
def st16 (a:Nat):Nat:=if a=0 then 65536 else a
def mulI (a b:Nat):Nat:=st16 a*st16 b%65537%65536
def addI (a b:Nat):Nat:=(a+b)%65536
def negI (a:Nat):Nat:=(65536-a)%65536
theorem mulI_lt (a b):mulI a b<65536:=Z4 _ (by decide)
theorem addI_lt (a b):addI a b<65536:=Z4 _ (by decide)
theorem negI_lt (a):negI a<65536:=Z4 _ (by decide)
theorem st16_le {a} (h:a<65536):st16 a≤65536:=by unfold st16;split<;>omega
abbrev IS:=Nat×Nat×Nat
def iStep (x:IS):IS:=(if x.2.2%2=1 then mulI x.1 x.2.1 else x.1,mulI x.2.1 x.2.1,x.2.2/2)
def invI (a:Nat):Nat:=(it iStep 16 (1,a,65535)).1
theorem iStep_ok {a:Nat} (ha:a<65536) (k:Nat):(it iStep k (1,a,65535)).1<65536∧(it iStep k (1,a,65535)).2.1<65536∧(it iStep k (1,a,65535)).2.2=65535/2^k:=by
 induction k with
 |zero=>exact⟨by show 1<65536;decide,ha,by show 65535=65535/2^0;decide⟩
 |succ k ih=>
  obtain⟨h1,h2,h3⟩:=ih
  refine⟨?_,mulI_lt _ _,?_⟩
  ·show(if _ then _ else _)<65536
   split
   ·exact mulI_lt _ _
   ·exact h1
  ·show(it iStep k (1,a,65535)).2.2/2=_
   rw[h3,Kr,Nat.pow_succ]
theorem invI_lt {a:Nat} (ha:a<65536):invI a<65536:=(iStep_ok ha 16).1
theorem mul_go {x y:Nat} (hx:x≤65536) (hy:y≤65536):((I6.wrap ((x:Int)*(y:Int))).tmod 65537).tmod 65536=((x*y%65537%65536:Nat):Int):=by
 have h:x*y≤65536*65536:=Nat.mul_le_mul hx hy
 rw[show (x:Int)*(y:Int)=((x*y:Nat):Int) from rfl,nat_i64 _ (by omega)]
 rfl
theorem c_imul {a b:Nat} {x y:Int} (hx:x=a) (hy:y=b) (ha:a<65536) (hb:b<65536):Con C N.idea_Mul [i64 x,i64 y] [] (.ret (i64 (mulI a b))) []:=by
 subst hx;subst hy
 refine fd.idea_Mul.c ?_
 refine spl_eq (fun h=> ?_) (fun h=> ?_)
 ·refine spl_eq (fun h'=> ?_) (fun h'=> ?_)
  ·refine⟨by decide,by decide,_,rfl,[],q7i ?_,trivial⟩
   obtain rfl:a=0:=(by omega)
   obtain rfl:b=0:=(by omega)
   rfl
  ·refine⟨by decide,by decide,_,rfl,[],q7i ?_,trivial⟩
   obtain rfl:a=0:=(by omega)
   have e:mulI 0 b=65536*b%65537%65536:=by unfold mulI st16;rw[if_pos rfl,if_neg (by omega)]
   rw[e];exact mul_go (x:=65536) (y:=b) (by decide) (by omega)
 ·refine spl_eq (fun h'=> ?_) (fun h'=> ?_)
  ·refine⟨by decide,by decide,_,rfl,[],q7i ?_,trivial⟩
   obtain rfl:b=0:=(by omega)
   have e:mulI a 0=a*65536%65537%65536:=by unfold mulI st16;rw[if_neg (by omega),if_pos rfl]
   rw[e];exact mul_go (x:=a) (y:=65536) (by omega) (by decide)
  ·refine⟨by decide,by decide,_,rfl,[],q7i ?_,trivial⟩
   have e:mulI a b=a*b%65537%65536:=by unfold mulI st16;rw[if_neg (by omega),if_neg (by omega)]
   rw[e];exact mul_go (x:=a) (y:=b) (by omega) (by omega)
theorem c_iadd {a b:Nat} {x y:Int} (hx:x=a) (hy:y=b) (ha:a<65536) (hb:b<65536):Con C N.idea_add [i64 x,i64 y] [] (.ret (i64 (addI a b))) []:=by
 subst hx;subst hy
 refine fd.idea_add.c ?_
 refine⟨by decide,_,rfl,[],q7i ?_,trivial⟩
 rw[show (a:Int)+(b:Int)=((a+b:Nat):Int) from rfl,nat_i64 _ (by omega)];rfl
theorem c_ineg {a:Nat} {x:Int} (hx:x=a) (ha:a<65536):Con C N.idea_neg [i64 x] [] (.ret (i64 (negI a))) []:=by
 subst hx
 refine fd.idea_neg.c ?_
 refine⟨by decide,_,rfl,[],q7i ?_,trivial⟩
 rw[show (65536:Int)-(a:Int)=((65536-a:Nat):Int) by omega,nat_i64 _ (by omega)];rfl
theorem c_iinv {a:Nat} {x:Int} (hx:x=a) (ha:a<65536):Con C N.idea_Inv [i64 x] [] (.ret (i64 (invI a))) []:=by
 subst hx
 refine fd.idea_Inv.c ?_
 refine scopeIt 0 rfl iStep (1,a,65535) 16 (fun i z=>⟨[(0,i64 z.2.1),(3,i64 z.1),(4,i64 z.2.2)],[]⟩) ⟨[],(0,(1,a,65535)),⟨Z6 _,rfl⟩,[],⟨rfl,rfl,rfl,trivial⟩,trivial⟩ fun i z hi hz=> ?_
 obtain⟨b1,b2,b3⟩:=iStep_ok ha i
 rw[←hz]at b1 b2 b3
 refine spl_d (fun h=> ?_) (fun h=> ?_)
 ·have hi16:i<16:=by
   rcases Jg i 16 with h8|h8
   ·exact h8
   ·obtain rfl:i=16:=(by omega)
    rw[b3]at h;exact absurd h (by decide)
  have hle:z.2.2≤65535:=by rw[b3];exact Jo _ _
  have e1:((z.2.2:Nat):Int).tmod 2=((z.2.2%2:Nat):Int):=nat_rem _ 2
  have e2:I6.wrap (((z.2.2:Nat):Int).tdiv 2)=((z.2.2/2:Nat):Int):=by
   rw[show ((z.2.2:Nat):Int).tdiv 2=((z.2.2/2:Nat):Int) from rfl,nat_i64 _ (by omega)]
  refine⟨by decide,?_⟩
  refine spl_d (fun hb=> ?_) (fun hb=> ?_)
  ·rw[e1]at hb
   refine⟨[],_,_,_,_,c_imul rfl rfl b1 b2,rfl,rfl,?_⟩
   refine⟨[],_,_,_,_,c_imul rfl rfl b2 b2,rfl,rfl,?_⟩
   refine⟨by decide,?_⟩
   refine⟨rfl,(i+1,iStep z),⟨hi16,it_next hz⟩,by omega,[],⟨rfl,?_,q7i e2,trivial⟩,trivial⟩
   show i64 _=i64 ((if _ then _ else _:Nat):Int)
   rw[if_pos (by omega)]
  ·rw[e1]at hb
   refine⟨[],_,_,_,_,c_imul rfl rfl b2 b2,rfl,rfl,?_⟩
   refine⟨by decide,?_⟩
   refine⟨rfl,(i+1,iStep z),⟨hi16,it_next hz⟩,by omega,[],⟨rfl,?_,q7i e2,trivial⟩,trivial⟩
   show i64 _=i64 ((if _ then _ else _:Nat):Int)
   rw[if_neg (by omega)]
 ·have hi16:i=16:=by
   rcases Jg i 16 with h8|h8
   ·have:2^i≤2^15:=Z5 (by decide) (by omega)
    have hp:0<2^i:=K1 (by decide)
    have:1≤65535/2^i:=(Jq hp).2 (by omega)
    omega
   ·omega
  subst hi16
  refine⟨_,rfl,[],?_,trivial⟩
  show i64 z.1=i64 _
  rw[hz];rfl
def w16 (b:Bs) (i:Nat):Nat:=(b.getD (2*i) 0).toNat*256+(b.getD (2*i+1) 0).toNat
def loadI (b:Bs) (k:Nat):List Nat:=(List.range k).map (w16 b)
theorem loadI_len (b k):(loadI b k).length=k:=by simp[loadI]
theorem loadI_succ (b k):loadI b (k+1)=loadI b k++[w16 b k]:=by simp[loadI,Zz]
theorem w16_lt (b i):w16 b i<65536:=by
 unfold w16
 have h1:=Ji (b.getD (2*i) 0)
 have h2:=Ji (b.getD (2*i+1) 0)
 omega
theorem w16_go (x y:UInt8):I6.wrap ((Zc I6.bits (I6.wrap (I6.wrap (x.toNat:Int)*2^(min (8:Int).toNat I6.bits)))|||Zc I6.bits (I6.wrap (y.toNat:Int))).toNat:Int)=((x.toNat*256+y.toNat:Nat):Int):=by
 have hx:=x.toNat_lt
 have hy:=y.toNat_lt
 have e3:I6.wrap ((x.toNat:Int)*2^(min (8:Int).toNat I6.bits))=((x.toNat*256:Nat):Int):=by
  show I6.wrap ((x.toNat:Int)*2^8)=_
  simp only[IntKind.wrap_i64];omega
 rw[u8_i64,u8_i64,e3,i64_nor 16 (by decide) (by omega) (by omega),or_add (i:=8) x.toNat hy]
theorem c_iload {n k:Nat} {va:List Value} {b:Bs} (ha:va=bv b) (hn:b.length=n) (h2:n=2*k) (h0:0<k) (hm:n≤1000000):Con C N.idea_load [.z n va] [] (.ret (.o 1 (.k 0) 0 k)) [.sc (nv (loadI b k))]:=by
 subst ha;subst h2
 refine fd.idea_load.c ?_
 refine loopNn (fun i=>⟨[(0,.z (2*k) (bv b)),(3,.o 1 (.k 0) 0 i),(4,i64 (2*i:Nat))],[.sc (nv (loadI b i))]⟩) k [(3,1,.sc [])] ⟨[.d 900000 0],⟨rfl,rfl,rfl,trivial⟩,⟨_,rfl,rfl⟩,trivial⟩ fun i hi=> ?_
 refine spl_d (fun h=> ?_) (fun h=> ?_)
 ·have hlt:i<k:=by simp only[IntKind.wrap_i64]at h;omega
  have e1:(I6.wrap (((2*i:Nat):Int)+1)).toNat=2*i+1:=(by simp(disch:=omega)only[Za];omega)
  refine⟨by omega,by omega,?_⟩
  refine⟨_,by rw[Zb];exact bv_getD (i:=2*i) (by omega),?_⟩
  refine⟨by decide,by omega,by omega,?_⟩
  refine⟨_,by rw[e1];exact bv_getD (i:=2*i+1) (by omega),?_⟩
  refine⟨Zp _,by omega,by rw[nv_len,loadI_len];omega,?_⟩
  refine⟨i+1,by omega,by omega,[.d 27 0],⟨rfl,rfl,q7i (by simp(disch:=omega)only[Za];omega),trivial⟩,⟨_,rfl,q7s ?_⟩,trivial⟩
  rw[w16_go,loadI_succ]
  exact nv_app1 (by rw[loadI_len];omega)
 ·obtain rfl:i=k:=by simp only[IntKind.wrap_i64]at h;omega
  exact⟨_,rfl,[.k 0],rfl,⟨_,rfl,rfl⟩,trivial⟩
theorem c_cloneN {n:Nat} {va:List Value} (hv:va.length=n) (h0:0<n) (hm:n≤1073741824):Con C N.slices_Clone_int [.z n va] [] (.ret (.o 1 (.k 0) 0 n)) [.sc va]:=by
 refine fd.slices_Clone_int.c ?_
 refine .inl ⟨h0,by omega,by omega,by omega,?_⟩
 refine⟨_,rfl,[.d 7 0],?_,⟨_,rfl,rfl⟩,trivial⟩
 show V.o 1 (.k 0) 0 (0+n)=_
 rw[Zl]
def keysN (key:Bs) (j:Nat):List Nat:=((List.range j).map fun i=>loadI (turnB key (25*i%128)) 8).flatten
theorem keysN_succ (key j):keysN key (j+1)=keysN key j++loadI (turnB key (25*j%128)) 8:=by simp[keysN,Zz]
theorem keysN_len (key):∀j,(keysN key j).length=8*j
 |0=>rfl
 |j+1=>by rw[keysN_succ,Ze,keysN_len key j,loadI_len];omega
def keysI (key:Bs):List Nat:=(keysN key 7).take 52
theorem keysI_len (key):(keysI key).length=52:=by simp[keysI,keysN_len]
theorem c_ikeys {va:List Value} {key:Bs} (ha:va=bv key) (hk:key.length=16):Con C N.idea_Keys [.z 16 va] [] (.ret (.t [.o 1 (.k 0) 0 52,i64 0])) [.sc (nv (keysI key))]:=by
 subst ha
 refine fd.idea_Keys.c ?_
 refine loopNn (fun i=>⟨[(0,.z 16 (bv key)),(4,.o 1 (.k 0) 0 (8*i)),(5,i64 (25*i:Nat))],[.sc (nv (keysN key i))]⟩) 7 [(4,1,.sc [])] ⟨[.d 900000 0],⟨rfl,rfl,rfl,trivial⟩,⟨_,rfl,rfl⟩,trivial⟩ fun i hi=> ?_
 refine spl_d (fun h=> ?_) (fun h=> ?_)
 ·have hlt:i<7:=(by omega)
  refine⟨[],_,_,_,_,c_turn (b:=key) (n:=(25*i:Nat)) rfl hk (by decide) (by decide) (by omega),rfl,rfl,?_⟩
  refine⟨[],_,_,_,_,c_iload (b:=turnB key (25*i%128)) (k:=8) ?_ (by rw[turnB_len,hk]) rfl (by decide) (by decide),rfl,rfl,?_⟩
  ·show sub (bv (turnB key _)) 0 16=_
   rw[bv_all (by rw[turnB_len,hk])]
   congr 2
  refine⟨by rw[nv_len,loadI_len];decide,by omega,by rw[nv_len,keysN_len];omega,?_⟩
  refine⟨i+1,by omega,by omega,[.d 19 0],⟨rfl,rfl,q7i (by simp(disch:=omega)only[Za];omega),trivial⟩,⟨_,rfl,q7s ?_⟩,trivial⟩
  rw[Zm,nv_all (keysN_len key i),nv_all (loadI_len _ _),nv_app,keysN_succ]
 ·obtain rfl:i=7:=(by omega)
  refine⟨by decide,by decide,by decide,by decide,?_⟩
  refine⟨[],_,_,_,_,c_cloneN (n:=52) (va:=nv (keysI key)) (by rw[nv_len,keysI_len]) (by decide) (by decide),?_,rfl,?_⟩
  ·show[V.z 52 (sub (nv (keysN key 7)) 0 52)]=_
   rw[nv_sub];rfl
  exact⟨_,rfl,[.d 22 0],rfl,⟨_,rfl,rfl⟩,trivial⟩
def undP (k:List Nat) (i:Nat):List Nat:=
 (if 0<i∧i<8 then [invI (k.getD (6*i) 0),negI (k.getD (6*i+2) 0),negI (k.getD (6*i+1) 0),invI (k.getD (6*i+3) 0)]
  else [invI (k.getD (6*i) 0),negI (k.getD (6*i+1) 0),negI (k.getD (6*i+2) 0),invI (k.getD (6*i+3) 0)])++
 (if 0<i then [k.getD (6*i-2) 0,k.getD (6*i-1) 0]else [])
def undN (k:List Nat) (j:Nat):List Nat:=((List.range j).map fun r=>undP k (8-r)).flatten
theorem undN_succ (k j):undN k (j+1)=undN k j++undP k (8-j):=by simp[undN,Zz]
theorem undP_len (k i):(undP k i).length=if 0<i then 6 else 4:=by
 unfold undP
 by_cases h:0<i
 ·rw[if_pos h,if_pos h];split<;>rfl
 ·rw[if_neg h,if_neg h,if_neg (by omega)];rfl
theorem undN_len (k):∀j,j≤9→(undN k j).length=if j=9 then 52 else 6*j
 |0,_=>rfl
 |j+1,h=>by
  rw[undN_succ,Ze,undN_len k j (by omega),undP_len,if_neg (by omega)]
  by_cases h8:j=8
  ·subst h8;rfl
  ·rw[if_pos (by omega),if_neg (by omega)];omega
def undI (k:List Nat):List Nat:=undN k 9
theorem undI_len (k):(undI k).length=52:=undN_len k 9 (by decide)
theorem sub4_get {k:List Nat} {a j:Nat} (hj:j<4) (h:a+4≤k.length):(sub (nv k) a 4)[j]? =some (.int .i64 ((k.getD (a+j) 0:Nat):Int)):=by
 rw[nv_sub]
 have hl:(sub k a 4).length=4:=by rw[sub_length];omega
 have eg:(sub k a 4).getD j 0=k.getD (a+j) 0:=by
  simp only[sub,Zd,J0,hj,if_true,J1]
 rw[nv_getD (by omega),eg]
theorem sub2_eq {k:List Nat} {a:Nat} (h:a+2≤k.length):sub (nv k) a 2=nv [k.getD a 0,k.getD (a+1) 0]:=by
 rw[nv_sub]
 congr 1
 apply Z3
 intro j
 rcases j with _|_|j
 ·simp only[sub,Zd]
  rw[J0,if_pos (by decide),J1]
  simp[Zf (show a<k.length by omega)]
 ·simp only[sub,Zd]
  rw[J0,if_pos (by decide),J1]
  simp[Zf (show a+1<k.length by omega)]
 ·simp[sub];omega
theorem c_undone {n:Nat} {va:List Value} {k:List Nat} (ha:va=nv k) (hl:k.length=52) (hn:n=52) (hk:∀i,k.getD i 0<65536):Con C N.idea_undone [.z n va] [] (.ret (.o 1 (.k 0) 0 52)) [.sc (nv (undI k))]:=by
 subst ha;subst hn
 refine fd.idea_undone.c ?_
 refine loopNn (fun j=>⟨[(0,.z 52 (nv k)),(3,.o 1 (.k 0) 0 (if j=9 then 52 else 6*j)),(4,i64 (8-j))],[.sc (nv (undN k j))]⟩) 9 [(3,1,.sc [])] ⟨[.d 900000 0],⟨rfl,rfl,rfl,trivial⟩,⟨_,rfl,rfl⟩,trivial⟩ fun j hj=> ?_
 refine spl_d (fun h=> ?_) (fun h=> ?_)
 ·obtain⟨i,ei,hi8,hj8⟩:∃i:Nat,(8:Int)-j=i∧i≤8∧j=8-i:=⟨8-j,by omega,by omega,by omega⟩
  rw[ei,if_neg (show ¬j=9 by omega)]
  have e1:(I6.wrap (6*(i:Int))).toNat=6*i:=(by simp(disch:=omega)only[Za];omega)
  have e2:(I6.wrap (I6.wrap (6*(i:Int))+4)).toNat=6*i+4:=(by simp(disch:=omega)only[Za];omega)
  refine⟨by omega,(by simp(disch:=omega)only[Za];omega),by rw[e1,e2];omega,by rw[e2];omega,by rw[e2];omega,?_⟩
  rw[e1,e2,show 6*i+4-6*i=4 by omega]
  refine⟨by decide,by decide,?_⟩
  refine⟨_,sub4_get (j:=1) (by decide) (by omega),?_⟩
  refine⟨[],_,_,_,_,c_ineg rfl (hk _),rfl,rfl,?_⟩
  refine⟨by decide,by decide,?_⟩
  refine⟨_,sub4_get (j:=2) (by decide) (by omega),?_⟩
  refine⟨[],_,_,_,_,c_ineg rfl (hk _),rfl,rfl,?_⟩
  by_cases h0:0<i
  ·refine spl_t (decide_eq_true (by omega)) ?_
   by_cases h8:i<8
   ·refine spl_t (decide_eq_true (by omega)) ?_
    refine⟨by decide,by decide,?_⟩
    refine⟨_,sub4_get (j:=0) (by decide) (by omega),?_⟩
    refine⟨[],_,_,_,_,c_iinv rfl (hk _),rfl,rfl,?_⟩
    refine⟨by decide,by decide,?_⟩
    refine⟨_,sub4_get (j:=3) (by decide) (by omega),?_⟩
    refine⟨[],_,_,_,_,c_iinv rfl (hk _),rfl,rfl,?_⟩
    refine⟨Zp _,by omega,by rw[nv_len,undN_len _ _ (by omega),if_neg (by omega)];omega,?_⟩
    refine spl_t (decide_eq_true (by omega)) ?_
    have e3:(I6.wrap (I6.wrap (6*(i:Int))-2)).toNat=6*i-2:=(by simp(disch:=omega)only[Za];omega)
    refine⟨by omega,by omega,by rw[e3,e1];omega,by rw[e1];omega,by rw[e1];omega,?_⟩
    rw[e3,e1,show 6*i-(6*i-2)=2 by omega]
    refine⟨by rw[sub2_eq (by omega)];rfl,by omega,?_,?_⟩
    ·simp only[Ze,sub_length,nv_len,Zs,Zw,undN_len _ _ (show j≤9 by omega),if_neg (show ¬j=9 by omega)];omega
    refine⟨j+1,by omega,by omega,[.d 58 0],⟨rfl,?_,q7i (by simp(disch:=omega)only[Za];omega),trivial⟩,⟨_,rfl,q7s ?_⟩,trivial⟩
    ·show V.o 1 (.k 0) 0 (6*j+4+2)=V.o 1 (.k 0) 0 _
     rw[if_neg (by omega)];rfl
    ·rw[sub2_eq (by omega),show 6*i-2+1=6*i-1 by omega,undN_succ,←show i=8-j by omega]
     have eL:sub (nv (undN k j)) 0 (6*j*1)=nv (undN k j):=nv_all (by rw[undN_len _ _ (by omega),if_neg (by omega)];omega)
     rw[eL]
     have eq:undP k i=[invI (k.getD (6*i) 0),negI (k.getD (6*i+2) 0),negI (k.getD (6*i+1) 0),invI (k.getD (6*i+3) 0)]++[k.getD (6*i-2) 0,k.getD (6*i-1) 0]:=by unfold undP;rw[if_pos (show 0<i by omega),if_pos (by omega)]
     rw[eq]
     show sub (nv (undN k j)++nv [invI (k.getD (6*i) 0),negI (k.getD (6*i+2) 0),negI (k.getD (6*i+1) 0),invI (k.getD (6*i+3) 0)]) 0 ((6*j+4)*1)++sub (nv [k.getD (6*i-2) 0,k.getD (6*i-1) 0]) 0 2=_
     rw[nv_app,nv_all (by rw[Ze,undN_len _ _ (by omega),if_neg (by omega)];simp),show sub (nv [k.getD (6*i-2) 0,k.getD (6*i-1) 0]) 0 2=nv [k.getD (6*i-2) 0,k.getD (6*i-1) 0] from rfl,nv_app,Jf]
   ·refine spl_f (decide_eq_false (by omega)) ?_
    refine⟨by decide,by decide,?_⟩
    refine⟨_,sub4_get (j:=0) (by decide) (by omega),?_⟩
    refine⟨[],_,_,_,_,c_iinv rfl (hk _),rfl,rfl,?_⟩
    refine⟨by decide,by decide,?_⟩
    refine⟨_,sub4_get (j:=3) (by decide) (by omega),?_⟩
    refine⟨[],_,_,_,_,c_iinv rfl (hk _),rfl,rfl,?_⟩
    refine⟨Zp _,by omega,by rw[nv_len,undN_len _ _ (by omega),if_neg (by omega)];omega,?_⟩
    refine spl_t (decide_eq_true (by omega)) ?_
    have e3:(I6.wrap (I6.wrap (6*(i:Int))-2)).toNat=6*i-2:=(by simp(disch:=omega)only[Za];omega)
    refine⟨by omega,by omega,by rw[e3,e1];omega,by rw[e1];omega,by rw[e1];omega,?_⟩
    rw[e3,e1,show 6*i-(6*i-2)=2 by omega]
    refine⟨by rw[sub2_eq (by omega)];rfl,by omega,?_,?_⟩
    ·simp only[Ze,sub_length,nv_len,Zs,Zw,undN_len _ _ (show j≤9 by omega),if_neg (show ¬j=9 by omega)];omega
    refine⟨j+1,by omega,by omega,[.d 58 0],⟨rfl,?_,q7i (by simp(disch:=omega)only[Za];omega),trivial⟩,⟨_,rfl,q7s ?_⟩,trivial⟩
    ·show V.o 1 (.k 0) 0 (6*j+4+2)=V.o 1 (.k 0) 0 _
     rw[if_neg (by omega)];rfl
    ·rw[sub2_eq (by omega),show 6*i-2+1=6*i-1 by omega,undN_succ,←show i=8-j by omega]
     have eL:sub (nv (undN k j)) 0 (6*j*1)=nv (undN k j):=nv_all (by rw[undN_len _ _ (by omega),if_neg (by omega)];omega)
     rw[eL]
     have eq:undP k i=[invI (k.getD (6*i) 0),negI (k.getD (6*i+1) 0),negI (k.getD (6*i+2) 0),invI (k.getD (6*i+3) 0)]++[k.getD (6*i-2) 0,k.getD (6*i-1) 0]:=by unfold undP;rw[if_pos (show 0<i by omega),if_neg (by omega)]
     rw[eq]
     show sub (nv (undN k j)++nv [invI (k.getD (6*i) 0),negI (k.getD (6*i+1) 0),negI (k.getD (6*i+2) 0),invI (k.getD (6*i+3) 0)]) 0 ((6*j+4)*1)++sub (nv [k.getD (6*i-2) 0,k.getD (6*i-1) 0]) 0 2=_
     rw[nv_app,nv_all (by rw[Ze,undN_len _ _ (by omega),if_neg (by omega)];simp),show sub (nv [k.getD (6*i-2) 0,k.getD (6*i-1) 0]) 0 2=nv [k.getD (6*i-2) 0,k.getD (6*i-1) 0] from rfl,nv_app,Jf]
  ·refine spl_f (decide_eq_false (by omega)) ?_
   refine⟨by decide,by decide,?_⟩
   refine⟨_,sub4_get (j:=0) (by decide) (by omega),?_⟩
   refine⟨[],_,_,_,_,c_iinv rfl (hk _),rfl,rfl,?_⟩
   refine⟨by decide,by decide,?_⟩
   refine⟨_,sub4_get (j:=3) (by decide) (by omega),?_⟩
   refine⟨[],_,_,_,_,c_iinv rfl (hk _),rfl,rfl,?_⟩
   refine⟨Zp _,by omega,by rw[nv_len,undN_len _ _ (by omega),if_neg (by omega)];omega,?_⟩
   refine spl_f (decide_eq_false (by omega)) ?_
   refine⟨j+1,by omega,by omega,[.d 47 0],⟨rfl,?_,q7i (by simp(disch:=omega)only[Za];omega),trivial⟩,⟨_,rfl,q7s ?_⟩,trivial⟩
   ·show V.o 1 (.k 0) 0 (6*j+4)=V.o 1 (.k 0) 0 _
    rw[if_pos (by omega)];congr 1;omega
   ·rw[undN_succ,←show i=8-j by omega]
    have eq:undP k i=[invI (k.getD (6*i) 0),negI (k.getD (6*i+1) 0),negI (k.getD (6*i+2) 0),invI (k.getD (6*i+3) 0)]:=by unfold undP;rw[if_neg (show ¬0<i by omega),if_neg (by omega),Z8]
    rw[eq]
    show sub (nv (undN k j)) 0 (6*j*1)++nv [invI (k.getD (6*i) 0),negI (k.getD (6*i+1) 0),negI (k.getD (6*i+2) 0),invI (k.getD (6*i+3) 0)]=_
    rw[nv_all (by rw[undN_len _ _ (by omega),if_neg (by omega)];omega),nv_app]
 ·obtain rfl:j=9:=(by omega)
  exact⟨_,rfl,[.k 0],rfl,⟨_,rfl,rfl⟩,trivial⟩
abbrev Q4:=Nat×Nat×Nat×Nat
def okQ (x:Q4):Prop:=x.1<65536∧x.2.1<65536∧x.2.2.1<65536∧x.2.2.2<65536
def maF (k:List Nat) (o:Nat) (a c d e:Nat):Nat:=mulI (a^^^d) (k.getD (o+4) 0)
def maG (k:List Nat) (o:Nat) (a c d e:Nat):Nat:=mulI (addI (c^^^e) (maF k o a c d e)) (k.getD (o+5) 0)
def maH (k:List Nat) (o:Nat) (a c d e:Nat):Nat:=addI (maF k o a c d e) (maG k o a c d e)
def lay4 (k:List Nat) (o:Nat) (x:Q4):Q4:=(mulI x.1 (k.getD o 0),addI x.2.1 (k.getD (o+1) 0),addI x.2.2.1 (k.getD (o+2) 0),mulI x.2.2.2 (k.getD (o+3) 0))
def mix4 (k:List Nat) (o:Nat) (x:Q4):Q4:=
 (x.1^^^maG k o x.1 x.2.1 x.2.2.1 x.2.2.2,x.2.2.1^^^maG k o x.1 x.2.1 x.2.2.1 x.2.2.2,x.2.1^^^maH k o x.1 x.2.1 x.2.2.1 x.2.2.2,x.2.2.2^^^maH k o x.1 x.2.1 x.2.2.1 x.2.2.2)
def rnd (k:List Nat) (x:Q4) (r:Nat):Q4:=mix4 k (6*r) (lay4 k (6*r) x)
def rndN (k:List Nat) (x:Q4) (n:Nat):Q4:=(List.range n).foldl (rnd k) x
theorem rndN_succ (k x n):rndN k x (n+1)=rnd k (rndN k x n) n:=by simp[rndN,Zz]
def sw4 (x:Q4):Q4:=(x.1,x.2.2.1,x.2.1,x.2.2.2)
def turnI (k:List Nat) (x:Q4):Q4:=lay4 k 48 (sw4 (rndN k x 8))
theorem xor16 {a b:Nat} (ha:a<65536) (hb:b<65536):a^^^b<65536:=Jj (n:=16) ha hb
theorem lay4_ok (k o x):okQ (lay4 k o x):=⟨mulI_lt _ _,addI_lt _ _,addI_lt _ _,mulI_lt _ _⟩
theorem mix4_ok (k o) {x:Q4} (h:okQ x):okQ (mix4 k o x):=⟨xor16 h.1 (mulI_lt _ _),xor16 h.2.2.1 (mulI_lt _ _),xor16 h.2.1 (addI_lt _ _),xor16 h.2.2.2 (addI_lt _ _)⟩
theorem rndN_ok (k) {x:Q4} (h:okQ x):∀n,okQ (rndN k x n)
 |0=>h
 |n+1=>by rw[rndN_succ];exact mix4_ok _ _ (lay4_ok _ _ _)
theorem drop_get {k:List Nat} {a j:Nat} (h:a+j<k.length):(nv (k.drop a))[j]? =some (.int .i64 ((k.getD (a+j) 0:Nat):Int)):=by
 simp[nv,Zd,h]
theorem c_iturn {n:Nat} {va vb:List Value} {k:List Nat} {x:Q4} (ha:va=nv [x.1,x.2.1,x.2.2.1,x.2.2.2]) (hb:vb=nv k) (hl:k.length=52) (hn:n=52) (hk:∀i,k.getD i 0<65536) (hx:okQ x):
  Con C N.idea_turn [.z 4 va,.z n vb] [] (.ret (.o 1 (.k 0) 0 4)) [.sc (nv [(turnI k x).1,(turnI k x).2.1,(turnI k x).2.2.1,(turnI k x).2.2.2])]:=by
 subst ha;subst hb;subst hn
 refine fd.idea_turn.c ?_
 refine scopeN 0 rfl 9 (fun r=>⟨[(1,.z (52-6*r) (nv (k.drop (6*r)))),(5,i64 ((if r=8 then sw4 (rndN k x r)else rndN k x r)).1),(6,i64 ((if r=8 then sw4 (rndN k x r)else rndN k x r)).2.1),(7,i64 ((if r=8 then sw4 (rndN k x r)else rndN k x r)).2.2.1),(8,i64 ((if r=8 then sw4 (rndN k x r)else rndN k x r)).2.2.2)],[]⟩) ?_ fun r hr=> ?_
 ·refine⟨by decide,by decide,_,rfl,by decide,by decide,_,rfl,by decide,by decide,_,rfl,by decide,by decide,_,rfl,?_⟩
  exact⟨[],0,by decide,[],⟨rfl,rfl,rfl,rfl,rfl,trivial⟩,trivial⟩
 ·generalize hs:(if r=8 then sw4 (rndN k x r)else rndN k x r)=s
  have hso:okQ s:=by
   rw[←hs]
   split
   ·obtain⟨a,b,c,d⟩:=rndN_ok k hx r;exact⟨a,c,b,d⟩
   ·exact rndN_ok k hx r
  obtain⟨o1,o2,o3,o4⟩:=hso
  refine⟨by decide,by omega,?_⟩
  refine⟨_,drop_get (j:=0) (by omega),?_⟩
  refine⟨[],_,_,_,_,c_imul rfl rfl o1 (hk _),rfl,rfl,?_⟩
  refine⟨by decide,by omega,?_⟩
  refine⟨_,drop_get (j:=1) (by omega),?_⟩
  refine⟨[],_,_,_,_,c_iadd rfl rfl o2 (hk _),rfl,rfl,?_⟩
  refine⟨by decide,by omega,?_⟩
  refine⟨_,drop_get (j:=2) (by omega),?_⟩
  refine⟨[],_,_,_,_,c_iadd rfl rfl o3 (hk _),rfl,rfl,?_⟩
  refine⟨by decide,by omega,?_⟩
  refine⟨_,drop_get (j:=3) (by omega),?_⟩
  refine⟨[],_,_,_,_,c_imul rfl rfl o4 (hk _),rfl,rfl,?_⟩
  obtain⟨p1,p2,p3,p4⟩:=lay4_ok k (6*r) s
  have hF:=mulI_lt ((lay4 k (6*r) s).1^^^(lay4 k (6*r) s).2.2.1) (k.getD (6*r+4) 0)
  refine spl_d (fun h=> ?_) (fun h=> ?_)
  ·have hr8:r<8:=(by omega)
   refine⟨by decide,by omega,?_⟩
   refine⟨_,drop_get (j:=4) (by omega),?_⟩
   refine⟨[],_,_,_,_,c_imul (a:=(lay4 k (6*r) s).1^^^(lay4 k (6*r) s).2.2.1) (i64_nxor 16 (by decide) p1 p3) rfl (xor16 p1 p3) (hk _),rfl,rfl,?_⟩
   refine⟨[],_,_,_,_,c_iadd (a:=(lay4 k (6*r) s).2.1^^^(lay4 k (6*r) s).2.2.2) (i64_nxor 16 (by decide) p2 p4) rfl (xor16 p2 p4) hF,rfl,rfl,?_⟩
   refine⟨by decide,by omega,?_⟩
   refine⟨_,drop_get (j:=5) (by omega),?_⟩
   refine⟨[],_,_,_,_,c_imul rfl rfl (addI_lt _ _) (hk _),rfl,rfl,?_⟩
   refine⟨[],_,_,_,_,c_iadd rfl rfl hF (mulI_lt _ _),rfl,rfl,?_⟩
   refine⟨by decide,?_⟩
   have hg:=mulI_lt (addI ((lay4 k (6*r) s).2.1^^^(lay4 k (6*r) s).2.2.2) (mulI ((lay4 k (6*r) s).1^^^(lay4 k (6*r) s).2.2.1) (k.getD (6*r+4) 0))) (k.getD (6*r+5) 0)
   have hh:=addI_lt (mulI ((lay4 k (6*r) s).1^^^(lay4 k (6*r) s).2.2.1) (k.getD (6*r+4) 0)) (mulI (addI ((lay4 k (6*r) s).2.1^^^(lay4 k (6*r) s).2.2.2) (mulI ((lay4 k (6*r) s).1^^^(lay4 k (6*r) s).2.2.1) (k.getD (6*r+4) 0))) (k.getD (6*r+5) 0))
   have hst:s=rndN k x r:=by rw[←hs,if_neg (by omega)]
   have x1:=i64_nxor 16 (by decide) p1 hg
   have x2:=i64_nxor 16 (by decide) p3 hg
   have x3:=i64_nxor 16 (by decide) p2 hh
   have x4:=i64_nxor 16 (by decide) p4 hh
   have e6:(6:Int).toNat=6:=rfl
   refine⟨by show 6≤52-6*r;omega,Zp _,Zp _,?_⟩
   refine spl_eq (fun h4=> ?_) (fun h4=> ?_)
   ·have h4':52-6*r-6=4:=Int.ofNat.inj h4
    refine⟨rfl,r+1,by omega,by omega,[],⟨?_,q7i ?_,q7i ?_,q7i ?_,q7i ?_,trivial⟩,trivial⟩
    ·show V.z (52-6*r-6) (sub _ 6 (52-6*r-6))=_
     rw[nv_sub,sub_drop,sub_end _ _ _ (by omega),show 52-6*r-6=52-6*(r+1) by omega,show 6*r+6=6*(r+1) by omega]
    ·rw[if_pos (by omega),rndN_succ,←hst];exact x1
    ·rw[if_pos (by omega),rndN_succ,←hst];exact x3
    ·rw[if_pos (by omega),rndN_succ,←hst];exact x2
    ·rw[if_pos (by omega),rndN_succ,←hst];exact x4
   ·have h4':52-6*r-6≠4:=fun e=>h4 (congrArg Int.ofNat e)
    refine⟨rfl,r+1,by omega,by omega,[],⟨?_,q7i ?_,q7i ?_,q7i ?_,q7i ?_,trivial⟩,trivial⟩
    ·show V.z (52-6*r-6) (sub _ 6 (52-6*r-6))=_
     rw[nv_sub,sub_drop,sub_end _ _ _ (by omega),show 52-6*r-6=52-6*(r+1) by omega,show 6*r+6=6*(r+1) by omega]
    ·rw[if_neg (by omega),rndN_succ,←hst];exact x1
    ·rw[if_neg (by omega),rndN_succ,←hst];exact x2
    ·rw[if_neg (by omega),rndN_succ,←hst];exact x3
    ·rw[if_neg (by omega),rndN_succ,←hst];exact x4
  ·obtain rfl:r=8:=(by omega)
   have hst:s=sw4 (rndN k x 8):=by rw[←hs,if_pos rfl]
   refine⟨_,rfl,[.d 88 0],rfl,⟨_,rfl,q7s ?_⟩,trivial⟩
   show nv [(lay4 k 48 s).1,(lay4 k 48 s).2.1,(lay4 k 48 s).2.2.1,(lay4 k 48 s).2.2.2]=_
   rw[hst];rfl
abbrev ideaV (k:List Nat):V:= .q [nz k,nz (undI k)] 0
def okK (k:List Nat):Prop:=∀i,k.getD i 0<65536
theorem loadI_ok (b k):okK (loadI b k):=by
 intro i
 rw[Zd]
 unfold loadI
 rw[Je]
 cases h:(List.range k)[i]? with
 |none=>simp
 |some j=>exact w16_lt b j
theorem okK_iff (l:List Nat):okK l↔∀x∈l,x<65536:=by
 constructor
 ·intro h x hx
  obtain⟨i,hi,rfl⟩:=List.getElem_of_mem hx
  have:=h i
  rwa [Zd,Zf hi]at this
 ·intro h i
  rw[Zd]
  rcases Jg i l.length with hi|hi
  ·rw[Zf hi];exact h _ (Kn hi)
  ·rw[Zg hi];decide
theorem keysI_ok (key):okK (keysI key):=by
 rw[okK_iff]
 intro x hx
 have h1:=List.mem_of_mem_take hx
 unfold keysN at h1
 obtain⟨l,hl,hxl⟩:=List.mem_flatten.1 h1
 obtain⟨j,_,rfl⟩:=List.mem_map.1 hl
 exact(okK_iff _).1 (loadI_ok _ _) x hxl
theorem undI_ok {k} (h:okK k):okK (undI k):=by
 rw[okK_iff]
 intro x hx
 obtain⟨l,hl,hxl⟩:=List.mem_flatten.1 hx
 obtain⟨j,_,rfl⟩:=List.mem_map.1 hl
 unfold undP at hxl
 have hi:=fun i=>invI_lt (h i)
 rcases Kv.1 hxl with h1|h1
 ·split at h1<;>(simp only[List.mem_cons,List.not_mem_nil,or_false]at h1;rcases h1 with rfl|rfl|rfl|rfl)<;>first|exact hi _|exact negI_lt _
 ·split at h1
  ·simp only[List.mem_cons,List.not_mem_nil,or_false]at h1
   rcases h1 with rfl|rfl
   ·exact h _
   ·exact h _
  ·cases h1
theorem c_idea_new {va:List Value} {key:Bs} (ha:va=bv key) (hk:key.length=16):Con C N.idea_New [.z 16 va] [] (.ret (.t [ideaV (keysI key),i64 0])) []:=by
 refine fd.idea_New.c ?_
 refine⟨[],_,_,_,_,c_ikeys ha hk,rfl,rfl,?_⟩
 refine⟨[],_,_,_,_,c_undone (k:=keysI key) (n:=52) (nv_all (keysI_len key)) (keysI_len key) rfl (keysI_ok key),rfl,rfl,?_⟩
 refine⟨_,rfl,[],?_,trivial⟩
 show V.t [.q [.z 52 (sub _ 0 52),.z 52 (sub _ 0 52)] 0,i64 0]=V.t [.q [.z _ _,.z _ _] 0,i64 0]
 rw[nv_all (keysI_len key),nv_all (undI_len _),keysI_len,undI_len]
def ldQ (b:Bs):Q4:=(w16 b 0,w16 b 1,w16 b 2,w16 b 3)
def putN (x:Nat):Bs:=[Zt (x/256),Zt x]
def putQ (x:Q4):Bs:=putN x.1++putN x.2.1++putN x.2.2.1++putN x.2.2.2
theorem putN_go {x:Nat} (hx:x<65536):[Value.int .u8 (U8.wrap ((x:Int).fdiv (2^(min (8:Int).toNat I6.bits)))),Value.int .u8 (U8.wrap (x:Int))]=bv (putN x):=by
 have e:(x:Int).fdiv (2^(min (8:Int).toNat I6.bits))=((x/256:Nat):Int):=by
  rw[Z1 _ (by decide)];rfl
 rw[e,nat_u8,nat_u8];rfl
theorem putQ_len (x):(putQ x).length=8:=rfl
def putK (y:Q4) (i:Nat):Bs:=(([y.1,y.2.1,y.2.2.1,y.2.2.2]).take i).flatMap putN
theorem putK_len (y:Q4):∀i,i≤4→(putK y i).length=2*i:=by
 intro i hi
 rcases i with _|_|_|_|_|i
 all_goals first|rfl|omega
theorem putK_succ (y:Q4):∀i,i<4→putK y (i+1)=putK y i++putN (([y.1,y.2.1,y.2.2.1,y.2.2.2]).getD i 0):=by
 intro i hi
 rcases i with _|_|_|_|i
 all_goals first|rfl|omega
theorem c_idea_blk {va:List Value} {b:Bs} {k:List Nat} {back:Bool} (ha:va=bv b) (hb:b.length=8) (hl:k.length=52) (hk:okK k):Con C N.idea_Idea_Block [ideaV k,.z 8 va,bool back] [] (okBlk 8) [.sc (bv (putQ (turnI (if back then undI k else k) (ldQ b))))]:=by
 refine fd.idea_Idea_Block.c ?_
 refine⟨_,rfl,?_⟩
 have hq:okQ (ldQ b):=⟨w16_lt _ _,w16_lt _ _,w16_lt _ _,w16_lt _ _⟩
 have hz0:nz k= .z 52 (nv k):=by rw[←hl]
 have hz1:nz (undI k)= .z 52 (nv (undI k)):=by rw[←undI_len k]
 cases back
 ·refine⟨by decide,by decide,by decide,?_⟩
  refine⟨[],_,_,_,_,c_iload (k:=4) ha hb rfl (by decide) (by decide),rfl,rfl,?_⟩
  refine⟨[],_,_,_,_,c_iturn (k:=k) (x:=ldQ b) (n:=52) (va:=sub (nv (loadI b 4)) 0 4) (vb:=nv k) (nv_all (loadI_len _ _)) rfl hl rfl hk hq,?_,rfl,?_⟩
  ·show[V.z 4 (sub (nv (loadI b 4)) 0 4),nz k]=_
   rw[hz0]
  generalize hy:turnI k (ldQ b)=y
  have yo:okQ y:=by rw[←hy];exact lay4_ok _ _ _
  refine loopN (fun i=>⟨[(9,.o 1 (.k 0) 0 (2*i)),(28,.z 4 (nv [y.1,y.2.1,y.2.2.1,y.2.2.2])),(29,i64 4),(30,i64 i)],[.sc (bv (putK y i))]⟩) 4 ⟨[.d 24 0],⟨rfl,rfl,rfl,rfl,trivial⟩,⟨_,rfl,rfl⟩,trivial⟩ fun i hi=> ?_
  refine spl_d (fun h=> ?_) (fun h=> ?_)
  ·have hlt:i<4:=(by omega)
   have hv:([y.1,y.2.1,y.2.2.1,y.2.2.2]).getD i 0<65536:=by
    obtain⟨a,b',c,d⟩:=yo
    rcases i with _|_|_|_|i
    all_goals first|assumption|omega
   refine⟨by omega,by omega,?_⟩
   refine⟨_,by rw[Zb];exact nv_getD (k:=[y.1,y.2.1,y.2.2.1,y.2.2.2]) hlt,?_⟩
   refine⟨by decide,Zp _,by omega,by rw[bv_len,putK_len y i (by omega)];omega,?_⟩
   refine⟨i+1,by omega,by omega,[.d 41 0],⟨rfl,rfl,rfl,q7i (by simp(disch:=omega)only[Za];omega),trivial⟩,⟨_,rfl,q7s ?_⟩,trivial⟩
   rw[Zm,bv_all (putK_len y i (by omega)),putK_succ y i hlt,←bv_app]
   show bv (putK y i)++[Value.int .u8 _,Value.int .u8 _]=_
   rw[putN_go hv]
  ·obtain rfl:i=4:=(by omega)
   refine⟨_,rfl,[.k 0],rfl,⟨_,rfl,q7s ?_⟩,trivial⟩
   show bv (putK y 4)=bv (putQ (turnI k (ldQ b)))
   rw[hy];rfl
 ·refine⟨_,rfl,?_⟩
  refine⟨by decide,by decide,by decide,?_⟩
  refine⟨[],_,_,_,_,c_iload (k:=4) ha hb rfl (by decide) (by decide),rfl,rfl,?_⟩
  refine⟨[],_,_,_,_,c_iturn (k:=undI k) (x:=ldQ b) (n:=52) (va:=sub (nv (loadI b 4)) 0 4) (vb:=nv (undI k)) (nv_all (loadI_len _ _)) rfl (undI_len k) rfl (undI_ok hk) hq,?_,rfl,?_⟩
  ·show[V.z 4 (sub (nv (loadI b 4)) 0 4),nz (undI k)]=_
   rw[hz1]
  generalize hy:turnI (undI k) (ldQ b)=y
  have yo:okQ y:=by rw[←hy];exact lay4_ok _ _ _
  refine loopN (fun i=>⟨[(9,.o 1 (.k 0) 0 (2*i)),(28,.z 4 (nv [y.1,y.2.1,y.2.2.1,y.2.2.2])),(29,i64 4),(30,i64 i)],[.sc (bv (putK y i))]⟩) 4 ⟨[.d 24 0],⟨rfl,rfl,rfl,rfl,trivial⟩,⟨_,rfl,rfl⟩,trivial⟩ fun i hi=> ?_
  refine spl_d (fun h=> ?_) (fun h=> ?_)
  ·have hlt:i<4:=(by omega)
   have hv:([y.1,y.2.1,y.2.2.1,y.2.2.2]).getD i 0<65536:=by
    obtain⟨a,b',c,d⟩:=yo
    rcases i with _|_|_|_|i
    all_goals first|assumption|omega
   refine⟨by omega,by omega,?_⟩
   refine⟨_,by rw[Zb];exact nv_getD (k:=[y.1,y.2.1,y.2.2.1,y.2.2.2]) hlt,?_⟩
   refine⟨by decide,Zp _,by omega,by rw[bv_len,putK_len y i (by omega)];omega,?_⟩
   refine⟨i+1,by omega,by omega,[.d 41 0],⟨rfl,rfl,rfl,q7i (by simp(disch:=omega)only[Za];omega),trivial⟩,⟨_,rfl,q7s ?_⟩,trivial⟩
   rw[Zm,bv_all (putK_len y i (by omega)),putK_succ y i hlt,←bv_app]
   show bv (putK y i)++[Value.int .u8 _,Value.int .u8 _]=_
   rw[putN_go hv]
  ·obtain rfl:i=4:=(by omega)
   refine⟨_,rfl,[.k 0],rfl,⟨_,rfl,q7s ?_⟩,trivial⟩
   show bv (putK y 4)=bv (putQ (turnI (undI k) (ldQ b)))
   rw[hy];rfl
theorem c_idea_bad {va:List Value} {k:List Nat} {n:Nat} {back:Bool} (hn:n≠8):Con C N.idea_Idea_Block [ideaV k,.z n va,bool back] [] badBlk []:=by
 refine fd.idea_Idea_Block.c ?_
 refine spl_ne (fun h=> ?_) (fun h=>absurd (by omega) hn)
 exact⟨_,rfl,[],rfl,trivial⟩
theorem c_stood {a:Nat} {x:Int} (hx:x=a):Con C N.r7_stood [i64 x] [] (.ret (i64 (st16 a))) []:=by
 subst hx
 refine fd.r7_stood.c ?_
 refine spl_eq (fun h=> ?_) (fun h=> ?_)
 ·refine⟨_,rfl,[],q7i ?_,trivial⟩
  unfold st16;rw[if_pos (by omega)];rfl
 ·refine⟨_,rfl,[],q7i ?_,trivial⟩
  unfold st16;rw[if_neg (by omega)]
theorem c_r7_mul {a b:Nat} {x y:Int} (hx:x=a) (hy:y=b) (ha:a<65536) (hb:b<65536):Con C N.r7_Mul [i64 x,i64 y] [] (.ret (i64 (mulI a b))) []:=by
 refine fd.r7_Mul.c ?_
 refine⟨[],_,_,_,_,c_stood hx,rfl,rfl,?_⟩
 refine⟨[],_,_,_,_,c_stood hy,rfl,rfl,?_⟩
 refine⟨by decide,by decide,_,rfl,[],q7i ?_,trivial⟩
 exact mul_go (st16_le ha) (st16_le hb)
theorem c_r7_add {a b:Nat} {x y:Int} (hx:x=a) (hy:y=b) (ha:a<65536) (hb:b<65536):Con C N.r7_add [i64 x,i64 y] [] (.ret (i64 (addI a b))) []:=by
 subst hx;subst hy
 refine fd.r7_add.c ?_
 refine⟨by decide,_,rfl,[],q7i ?_,trivial⟩
 rw[show (a:Int)+(b:Int)=((a+b:Nat):Int) from rfl,nat_i64 _ (by omega)];rfl
def lessI (a b:Nat):Nat:=(a+65536-b)%65536
theorem lessI_eq {a b:Nat} (hb:b<65536):lessI a b=addI a (negI b):=by unfold lessI addI negI;omega
theorem c_r7_less {a b:Nat} {x y:Int} (hx:x=a) (hy:y=b) (ha:a<65536) (hb:b<65536):Con C N.r7_less [i64 x,i64 y] [] (.ret (i64 (lessI a b))) []:=by
 subst hx;subst hy
 refine fd.r7_less.c ?_
 refine⟨by decide,_,rfl,[],q7i ?_,trivial⟩
 have e:I6.wrap (I6.wrap ((a:Int)-b)+65536)=((a+65536-b:Nat):Int):=by simp(disch:=omega)only[Za];omega
 rw[e];rfl
theorem c_r7_inv {a:Nat} {x:Int} (hx:x=a) (ha:a<65536):Con C N.r7_Inv [i64 x] [] (.ret (i64 (invI a))) []:=by
 subst hx
 refine fd.r7_Inv.c ?_
 refine loopIt iStep (1,a,65535) 16 (fun i z=>⟨[(0,i64 z.2.1),(3,i64 z.1),(4,i64 z.2.2)],[]⟩) ⟨[],⟨rfl,rfl,rfl,trivial⟩,trivial⟩ fun i z hi hz=> ?_
 obtain⟨b1,b2,b3⟩:=iStep_ok ha i
 rw[←hz]at b1 b2 b3
 refine spl_d (fun h=> ?_) (fun h=> ?_)
 ·have hi16:i<16:=by
   rcases Jg i 16 with h8|h8
   ·exact h8
   ·obtain rfl:i=16:=(by omega)
    rw[b3]at h;exact absurd h (by decide)
  have hle:z.2.2≤65535:=by rw[b3];exact Jo _ _
  have e1:((z.2.2:Nat):Int).tmod 2=((z.2.2%2:Nat):Int):=nat_rem _ 2
  have e2:I6.wrap (((z.2.2:Nat):Int).tdiv 2)=((z.2.2/2:Nat):Int):=by
   rw[show ((z.2.2:Nat):Int).tdiv 2=((z.2.2/2:Nat):Int) from rfl,nat_i64 _ (by omega)]
  refine⟨by decide,?_⟩
  refine spl_eq (fun hb=> ?_) (fun hb=> ?_)
  ·rw[e1]at hb
   refine⟨[],_,_,_,_,c_r7_mul rfl rfl b1 b2,rfl,rfl,?_⟩
   refine⟨[],_,_,_,_,c_r7_mul rfl rfl b2 b2,rfl,rfl,?_⟩
   refine⟨by decide,?_⟩
   refine⟨(i+1,iStep z),⟨hi16,it_next hz⟩,by omega,[],⟨rfl,?_,q7i e2,trivial⟩,trivial⟩
   show i64 _=i64 ((if _ then _ else _:Nat):Int)
   rw[if_pos (by omega)]
  ·rw[e1]at hb
   refine⟨[],_,_,_,_,c_r7_mul rfl rfl b2 b2,rfl,rfl,?_⟩
   refine⟨by decide,?_⟩
   refine⟨(i+1,iStep z),⟨hi16,it_next hz⟩,by omega,[],⟨rfl,?_,q7i e2,trivial⟩,trivial⟩
   show i64 _=i64 ((if _ then _ else _:Nat):Int)
   rw[if_neg (by omega)]
 ·have hi16:i=16:=by
   rcases Jg i 16 with h8|h8
   ·have:2^i≤2^15:=Z5 (by decide) (by omega)
    have hp:0<2^i:=K1 (by decide)
    have:1≤65535/2^i:=(Jq hp).2 (by omega)
    omega
   ·omega
  subst hi16
  refine⟨_,rfl,[],?_,trivial⟩
  show i64 z.1=i64 _
  rw[hz];rfl
theorem c_inner {n o:Nat} {k:List Nat} {x0 x1 x2 x3:Int} {a c d e:Nat} (h0:x0=a) (h1:x1=c) (h2:x2=d) (h3:x3=e) (ha:a<65536) (hc:c<65536) (hd:d<65536) (he:e<65536) (ho:o+6≤k.length) (hn:n=k.length-o) (hk:okK k):
  Con C N.r7_inner [i64 x0,i64 x1,i64 x2,i64 x3,.z n (nv (k.drop o))] [] (.ret (.t [i64 (maH k o a c d e),i64 (maG k o a c d e)])) []:=by
 subst h0;subst h1;subst h2;subst h3
 refine fd.r7_inner.c ?_
 refine⟨by decide,by omega,?_⟩
 refine⟨_,drop_get (j:=4) (by omega),?_⟩
 refine⟨[],_,_,_,_,c_r7_mul (a:=a^^^d) (i64_nxor 16 (by decide) ha hd) rfl (xor16 ha hd) (hk _),rfl,rfl,?_⟩
 refine⟨[],_,_,_,_,c_r7_add (a:=c^^^e) (i64_nxor 16 (by decide) hc he) rfl (xor16 hc he) (mulI_lt _ _),rfl,rfl,?_⟩
 refine⟨by decide,by omega,?_⟩
 refine⟨_,drop_get (j:=5) (by omega),?_⟩
 refine⟨[],_,_,_,_,c_r7_mul rfl rfl (addI_lt _ _) (hk _),rfl,rfl,?_⟩
 refine⟨[],_,_,_,_,c_r7_add rfl rfl (mulI_lt _ _) (mulI_lt _ _),rfl,rfl,?_⟩
 exact⟨_,rfl,[],rfl,trivial⟩
abbrev qA (x:Q4):V:= .a [i64 x.1,i64 x.2.1,i64 x.2.2.1,i64 x.2.2.2]
theorem c_there {k:List Nat} {x:Q4} (hl:k.length=52) (hk:okK k) (hx:okQ x):Con C N.r7_there [qA x,.z 52 (nv k)] [] (.ret (qA (turnI k x))) []:=by
 refine fd.r7_there.c ?_
 refine loopN (fun r=>⟨[(1,.z (52-6*r) (nv (k.drop (6*r)))),(2,.p (.k 0) 0),(4,.p (.k 1) 0),(5,i64 r)],[.mx [i64 (rndN k x r).1,i64 (rndN k x r).2.1,i64 (rndN k x r).2.2.1,i64 (rndN k x r).2.2.2],.sc [.int .i64 0,.int .i64 0,.int .i64 0,.int .i64 0]]⟩) 8 ⟨[.d 2 0,.d 4 0],⟨rfl,rfl,rfl,rfl,trivial⟩,⟨_,rfl,rfl⟩,⟨_,rfl,rfl⟩,trivial⟩ fun r hr=> ?_
 obtain⟨o1,o2,o3,o4⟩:=rndN_ok k hx r
 generalize hs:rndN k x r=s at o1 o2 o3 o4 ⊢
 refine spl_d (fun h=> ?_) (fun h=> ?_)
 ·have hlt:r<8:=(by omega)
  refine⟨by decide,by decide,_,rfl,by decide,by omega,?_⟩
  refine⟨_,drop_get (j:=0) (by omega),?_⟩
  refine⟨[],_,_,_,_,c_r7_mul rfl rfl o1 (hk _),rfl,rfl,?_⟩
  refine⟨by decide,by decide,_,rfl,by decide,by omega,?_⟩
  refine⟨_,drop_get (j:=1) (by omega),?_⟩
  refine⟨[],_,_,_,_,c_r7_add rfl rfl o2 (hk _),rfl,rfl,?_⟩
  refine⟨by decide,by decide,_,rfl,by decide,by omega,?_⟩
  refine⟨_,drop_get (j:=2) (by omega),?_⟩
  refine⟨[],_,_,_,_,c_r7_add rfl rfl o3 (hk _),rfl,rfl,?_⟩
  refine⟨by decide,by decide,_,rfl,by decide,by omega,?_⟩
  refine⟨_,drop_get (j:=3) (by omega),?_⟩
  refine⟨[],_,_,_,_,c_r7_mul rfl rfl o4 (hk _),rfl,rfl,?_⟩
  obtain⟨p1,p2,p3,p4⟩:=lay4_ok k (6*r) s
  refine⟨[],_,_,_,_,c_inner (k:=k) (o:=6*r) rfl rfl rfl rfl p1 p2 p3 p4 (by omega) (by omega) hk,rfl,rfl,?_⟩
  have hg:maG k (6*r) (lay4 k (6*r) s).1 (lay4 k (6*r) s).2.1 (lay4 k (6*r) s).2.2.1 (lay4 k (6*r) s).2.2.2<65536:=mulI_lt _ _
  have hh:maH k (6*r) (lay4 k (6*r) s).1 (lay4 k (6*r) s).2.1 (lay4 k (6*r) s).2.2.1 (lay4 k (6*r) s).2.2.2<65536:=addI_lt _ _
  have x1:=i64_nxor 16 (by decide) p1 hg
  have x2:=i64_nxor 16 (by decide) p3 hg
  have x3:=i64_nxor 16 (by decide) p2 hh
  have x4:=i64_nxor 16 (by decide) p4 hh
  refine⟨Zp _,by decide,by show 6≤52-6*r;omega,Zp _,Zp _,?_⟩
  refine⟨r+1,by omega,by omega,[.k 0,.k 1],⟨?_,rfl,rfl,q7i (by simp(disch:=omega)only[Za];omega),trivial⟩,⟨_,rfl,?_⟩,⟨_,rfl,rfl⟩,trivial⟩
  ·show V.z (52-6*r-6) (sub _ 6 (52-6*r-6))=_
   rw[nv_sub,sub_drop,sub_end _ _ _ (by omega),show 52-6*r-6=52-6*(r+1) by omega,show 6*r+6=6*(r+1) by omega]
  ·show B.mx [vi .i64 _,vi .i64 _,vi .i64 _,vi .i64 _]=B.mx [vi .i64 _,vi .i64 _,vi .i64 _,vi .i64 _]
   rw[rndN_succ,hs]
   congr 2
   ·exact q7i x1
   congr 1
   ·exact q7i x2
   congr 1
   ·exact q7i x3
   congr 1
   exact q7i x4
 ·obtain rfl:r=8:=(by omega)
  refine⟨by decide,by decide,_,rfl,by decide,by omega,?_⟩
  refine⟨_,drop_get (j:=0) (by omega),?_⟩
  refine⟨[],_,_,_,_,c_r7_mul rfl rfl o1 (hk _),rfl,rfl,?_⟩
  refine⟨by decide,by decide,_,rfl,by decide,by omega,?_⟩
  refine⟨_,drop_get (j:=1) (by omega),?_⟩
  refine⟨[],_,_,_,_,c_r7_add rfl rfl o3 (hk _),rfl,rfl,?_⟩
  refine⟨by decide,by decide,_,rfl,by decide,by omega,?_⟩
  refine⟨_,drop_get (j:=2) (by omega),?_⟩
  refine⟨[],_,_,_,_,c_r7_add rfl rfl o2 (hk _),rfl,rfl,?_⟩
  refine⟨by decide,by decide,_,rfl,by decide,by omega,?_⟩
  refine⟨_,drop_get (j:=3) (by omega),?_⟩
  refine⟨[],_,_,_,_,c_r7_mul rfl rfl o4 (hk _),rfl,rfl,?_⟩
  refine⟨Zp _,?_⟩
  refine⟨_,rfl,rfl,?_⟩
  refine⟨_,rfl,[],?_,trivial⟩
  show qA (lay4 k 48 (sw4 s))=qA (turnI k x)
  rw[←hs];rfl
def bk0 (k:List Nat) (o:Nat) (x:Q4):Q4:=(mulI x.1 (invI (k.getD o 0)),lessI x.2.2.1 (k.getD (o+2) 0),lessI x.2.1 (k.getD (o+1) 0),mulI x.2.2.2 (invI (k.getD (o+3) 0)))
def bkM (k:List Nat) (o:Nat) (x:Q4):Q4:=(x.1^^^maG k o x.1 x.2.2.1 x.2.1 x.2.2.2,x.2.1^^^maG k o x.1 x.2.2.1 x.2.1 x.2.2.2,x.2.2.1^^^maH k o x.1 x.2.2.1 x.2.1 x.2.2.2,x.2.2.2^^^maH k o x.1 x.2.2.1 x.2.1 x.2.2.2)
def bkL (k:List Nat) (o:Nat) (x:Q4):Q4:=(mulI x.1 (invI (k.getD o 0)),lessI x.2.2.1 (k.getD (o+1) 0),lessI x.2.1 (k.getD (o+2) 0),mulI x.2.2.2 (invI (k.getD (o+3) 0)))
def bkR (k:List Nat) (x:Q4) (r:Nat):Q4:=bkL k (6*(7-r)) (bkM k (6*(7-r)) x)
def bkN (k:List Nat) (x:Q4) (n:Nat):Q4:=(List.range n).foldl (bkR k) (bk0 k 48 x)
theorem bkN_succ (k x n):bkN k x (n+1)=bkR k (bkN k x n) n:=by simp[bkN,Zz]
theorem lessI_lt (a b):lessI a b<65536:=Z4 _ (by decide)
theorem bkN_ok (k x):∀n,okQ (bkN k x n)
 |0=>⟨mulI_lt _ _,lessI_lt _ _,lessI_lt _ _,mulI_lt _ _⟩
 |n+1=>by rw[bkN_succ];exact⟨mulI_lt _ _,lessI_lt _ _,lessI_lt _ _,mulI_lt _ _⟩
theorem undN_get (k:List Nat):∀n,n≤9→∀r j,r<n→j<(undP k (8-r)).length→(undN k n).getD (6*r+j) 0=(undP k (8-r)).getD j 0:=by
 intro n
 induction n with
 |zero=>intro _ r j h;omega
 |succ n ih=>
  intro hn r j hr hj
  have hl:(undN k n).length=6*n:=by rw[undN_len k n (by omega),if_neg (by omega)]
  have hj6:j<6:=by rw[undP_len]at hj;split at hj<;>omega
  rw[undN_succ,Zd,Zd]
  by_cases h:r=n
  ·subst h
   rw[Z7 (by omega),hl,show 6*r+j-6*r=j by omega]
  ·rw[Ja (by omega),←Zd,ih (by omega) r j (by omega) hj,Zd]
theorem undI_get (k:List Nat) {r j:Nat} (hr:r<9) (hj:j<if r=8 then 4 else 6):(undI k).getD (6*r+j) 0=(undP k (8-r)).getD j 0:=by
 refine undN_get k 9 (by decide) r j hr ?_
 rw[undP_len]
 by_cases h:r=8
 ·rw[if_pos h]at hj;rw[if_neg (by omega)];exact hj
 ·rw[if_neg h]at hj;rw[if_pos (by omega)];exact hj
theorem bk_lay (k:List Nat) (hk:okK k) (x:Q4):∀r,r<8→bkN k x r=sw4 (lay4 (undI k) (6*r) (rndN (undI k) x r)):=by
 intro r
 induction r with
 |zero=>
  intro _
  have h:=fun j (hj:j<6)=>undI_get k (r:=0) (j:=j) (by decide) hj
  have h0:=h 0 (by decide);have h1:=h 1 (by decide);have h2:=h 2 (by decide);have h3:=h 3 (by decide)
  show bk0 k 48 x=sw4 (lay4 (undI k) (6*0) x)
  simp only[lay4,sw4,bk0,h0,h1,h2,h3,lessI_eq (hk _)]
  rfl
 |succ r ih=>
  intro hr
  have ih:=ih (by omega)
  have hp:=fun j (hj:j<6)=>undI_get k (r:=r) (j:=j) (by omega) (by rw[if_neg (by omega)];exact hj)
  have hq:=fun j (hj:j<6)=>undI_get k (r:=r+1) (j:=j) (by omega) (by rw[if_neg (by omega)];exact hj)
  have u4:(undI k).getD (6*r+4) 0=k.getD (6*(7-r)+4) 0:=by
   rw[hp 4 (by decide)]
   unfold undP
   rw[if_pos (show 0<8-r by omega)]
   have:6*(8-r)-2=6*(7-r)+4:=by omega
   split<;>(show k.getD (6*(8-r)-2) 0=_;rw[this])
  have u5:(undI k).getD (6*r+5) 0=k.getD (6*(7-r)+5) 0:=by
   rw[hp 5 (by decide)]
   unfold undP
   rw[if_pos (show 0<8-r by omega)]
   have:6*(8-r)-1=6*(7-r)+5:=by omega
   split<;>(show k.getD (6*(8-r)-1) 0=_;rw[this])
  have e8:8-(r+1)=7-r:=by omega
  have un:undP k (7-r)=[invI (k.getD (6*(7-r)) 0),negI (k.getD (6*(7-r)+2) 0),negI (k.getD (6*(7-r)+1) 0),invI (k.getD (6*(7-r)+3) 0)]++[k.getD (6*(7-r)-2) 0,k.getD (6*(7-r)-1) 0]:=by
   unfold undP;rw[if_pos (by omega),if_pos (by omega)]
  have v0:=hq 0 (by decide);have v1:=hq 1 (by decide);have v2:=hq 2 (by decide);have v3:=hq 3 (by decide)
  rw[e8,un]at v0 v1 v2 v3
  rw[bkN_succ,rndN_succ,ih]
  unfold rnd
  generalize lay4 (undI k) (6*r) (rndN (undI k) x r)=p
  have mM:bkM k (6*(7-r)) (sw4 p)=mix4 (undI k) (6*r) p:=by
   simp only[bkM,mix4,sw4,maG,maH,maF,u4,u5]
  unfold bkR
  rw[mM]
  generalize mix4 (undI k) (6*r) p=z
  simp only[bkL,lay4,sw4,v1,v2,v3,lessI_eq (hk _)]
  rw[show 6*(r+1)+0=6*(r+1) from rfl]at v0
  rw[v0]
  rfl
theorem bk_turn (k:List Nat) (hk:okK k) (x:Q4):bkN k x 8=turnI (undI k) x:=by
 have hp:=fun j (hj:j<6)=>undI_get k (r:=7) (j:=j) (by decide) hj
 have hq:=fun j (hj:j<4)=>undI_get k (r:=8) (j:=j) (by decide) hj
 have u4:(undI k).getD (6*7+4) 0=k.getD (6*(7-7)+4) 0:=hp 4 (by decide)
 have u5:(undI k).getD (6*7+5) 0=k.getD (6*(7-7)+5) 0:=hp 5 (by decide)
 have v0:=hq 0 (by decide);have v1:=hq 1 (by decide);have v2:=hq 2 (by decide);have v3:=hq 3 (by decide)
 show bkN k x (7+1)=lay4 (undI k) 48 (sw4 (rndN (undI k) x (7+1)))
 rw[bkN_succ k x 7,bk_lay k hk x 7 (by decide),rndN_succ (undI k) x 7]
 unfold rnd
 generalize lay4 (undI k) (6*7) (rndN (undI k) x 7)=p
 have mM:bkM k (6*(7-7)) (sw4 p)=mix4 (undI k) (6*7) p:=by
  simp only[bkM,mix4,sw4,maG,maH,maF,u4,u5]
 unfold bkR
 rw[mM]
 generalize mix4 (undI k) (6*7) p=z
 have w0:(undI k).getD 48 0=invI (k.getD 0 0):=v0
 have w1:(undI k).getD 49 0=negI (k.getD 1 0):=v1
 have w2:(undI k).getD 50 0=negI (k.getD 2 0):=v2
 have w3:(undI k).getD 51 0=invI (k.getD 3 0):=v3
 simp only[bkL,lay4,sw4,w0,w1,w2,w3,lessI_eq (hk _),Nat.sub_self,Nat.mul_zero,Zl]
end Go.Scr
