/-
  What the functions of the given program reckon, each by a contract, up to the law. It is no claim by itself; each contract bears its own conditions.
-/
import Derived.Test.YthhlfpbfdkogfaaGreatDoorN
set_option linter.unusedVariables false
set_option linter.unusedSimpArgs false
set_option maxRecDepth 100000
namespace Go.Scr
open Go.Proofs
open IntWalk renaming i64_in → Za
open Int renaming toNat_natCast → Zb, fdiv_eq_ediv_of_nonneg → Z1, natCast_pow → Z9, le_refl → Jh, tmod_eq_emod_of_nonneg → Jk, natCast_emod → Jt, natCast_ediv → Ju, natCast_mul → Jx, lt_tmod_of_pos → J2, le_of_lt → Kc, tmod_lt_of_pos → Kg, emod_lt_of_pos → Kh, pow_pos → Ki, emod_nonneg → Kw
open BitVec renaming ofInt → Zc, ofInt_natCast → J9
open List renaming getD_eq_getElem?_getD → Zd, length_append → Ze, getElem?_eq_getElem → Zf, getElem?_eq_none → Zg, length_reverse → Zi, length_replicate → Zj, replicate → Zk, length_zipWith → Zo, take_length → Zq, take_succ_eq_append_getElem → Zr, length_cons → Zs, length_set → Zu, length_take → Zv, length_nil → Zw, length_drop → Zx, length_map → Zy, range_succ → Zz, ext_getElem? → Z3, getElem?_append_right → Z7, append_nil → Z8, getElem?_append_left → Ja, getElem?_replicate → Jd, getElem?_map → Je, append_assoc → Jf, nil_append → Jp, getElem?_set → Jr, getElem_reverse → Js, getElem?_range → Jv, flatten_append → Jw, getElem?_take → J0, getElem?_drop → J1, foldl_append → J4, eq_nil_of_length_eq_zero → J8, replicate_succ → Kb, mem_singleton → Kf, map_take → Kj, map_drop → Kk, getElem_mem → Kn, take_of_length_le → Ks, drop_eq_nil_of_le → Kt, mem_append → Kv, take_append_drop → Kx, getElem?_reverse → Ky, take_zero → K2
open Nat renaming mod_eq_of_lt → Zh, zero_add → Zl, mul_one → Zm, le_refl → Zp, shiftRight_eq_div_pow → Z0, mod_lt → Z4, pow_le_pow_right → Z5, zero_le → Z6, lt_or_ge → Jg, xor_lt_two_pow → Jj, testBit_eq_decide_div_mod_eq → Jl, and_two_pow_sub_one_eq_mod → Jn, div_le_self → Jo, le_div_iff_mul_le → Jq, mod_eq_sub_mod → Jy, and_lt_two_pow → Jz, or_lt_two_pow → J3, shiftLeft_eq → J6, sub_succ_lt_self → J7, le_antisymm → Ka, shiftRight_add → Kd, and_one_is_mod → Ke, testBit_mod_two_pow → Kl, div_eq_of_lt → Km, testBit_lt_two_pow → Kq, div_div_eq_div_mul → Kr, pow_pos → K1
open UInt32 renaming ofNat → Zn, toNat_toUInt64 → Z2, toNat_shiftRight → Jc, toNat_ofNat' → Jm, toNat_and → J5, toNat_shiftLeft → Kp, toNat_toUInt8 → Kz
open UInt8 renaming ofNat → Zt, toNat_ofNat' → Jb, toNat_lt → Ji, toNat_shiftRight → Ko, toNat_inj → Ku
open Go.IntKind renaming i64 → I6, u8 → U8, u32 → U3, u64 → U6
def bv (l:Bs):List Value:=l.map fun x=> .int .u8 x.toNat
abbrev bz (l:Bs):V:= .z l.length (bv l)
def iv (l:List Int):List Value:=l.map fun x=> .int .i64 x
abbrev iz (l:List Int):V:= .z l.length (iv l)
def wv (l:List UInt32):List Value:=l.map fun x=> .int .u32 x.toNat
abbrev wz (l:List UInt32):V:= .z l.length (wv l)
abbrev i64 (n:Int):V:= .s (.int .i64 n)
abbrev u8 (x:UInt8):V:= .s (.int .u8 x.toNat)
abbrev u32 (x:UInt32):V:= .s (.int .u32 x.toNat)
abbrev u64 (x:UInt64):V:= .s (.int .u64 x.toNat)
abbrev vi (k:IntKind) (n:Int):V:= .s (.int k n)
abbrev bool (b:Bool):V:= .s (.bool b)
theorem iB {b:Bool} {x y:Prop} (h1:b=true->x) (h2:b=false->y):bW b x y:=by cases b;exact h2 rfl;exact h1 rfl
theorem eW {b:Bool} {x y:Prop} (h:b=true) (h1:x):bW b x y:=by subst h;exact h1
theorem D8 {b:Bool} {x y:Prop} (h:b=false) (h1:y):bW b x y:=by subst h;exact h1
theorem i9 (l:Bs):(bv l).length=l.length:=by simp[bv]
theorem L6 (l:List Int):(iv l).length=l.length:=by simp[iv]
theorem x8 (l:List UInt32):(wv l).length=l.length:=by simp[wv]
theorem bE {l:Bs} {i:Nat} (h:i<l.length):(bv l)[i]? =some (.int .u8 (l[i]).toNat):=by simp[bv,h]
theorem vD {l:List Int} {i:Nat} (h:i<l.length):(iv l)[i]? =some (.int .i64 l[i]):=by simp[iv,h]
theorem xn {l:List UInt32} {i:Nat} (h:i<l.length):(wv l)[i]? =some (.int .u32 (l[i]).toNat):=by simp[wv,h]
theorem m8 (l:Bs) (i n:Nat):sub (bv l) i n=bv (sub l i n):=by simp[bv,sub,Kj,Kk]
theorem a2X (l:List UInt32) (i n:Nat):sub (wv l) i n=wv (sub l i n):=by simp[wv,sub,Kj,Kk]
theorem K6 (l:Bs) (i:Nat) (x:UInt8):(bv l).set i (.int .u8 x.toNat)=bv (l.set i x):=by simp[bv,List.map_set]
theorem bw (l:List UInt32) (i:Nat) (x:UInt32):(wv l).set i (.int .u32 x.toNat)=wv (l.set i x):=by simp[wv,List.map_set]
theorem A5 (a b:Bs):bv a++bv b=bv (a++b):=by simp[bv]
theorem nU (a b:List Int):iv a++iv b=iv (a++b):=by simp[iv]
theorem mK (a b:List UInt32):wv a++wv b=wv (a++b):=by simp[wv]
theorem T5 (n:Nat):Zk n (Value.int .u8 0)=bv (Zk n 0):=by simp[bv]
theorem a2W (n:Nat):Zk n (Value.int .u32 0)=wv (Zk n 0):=by simp[wv]
theorem wrap_u8 (n:Int):U8.wrap n=n%256:=by rw[IntKind.wrap_u8]
theorem wrap_u32 (n:Int):U3.wrap n=n%4294967296:=by rw[IntKind.wrap_u32]
theorem F9 (n:Int):U6.wrap n=n%18446744073709551616:=by simp[IntKind.wrap,IntKind.bits,IntKind.signed]
theorem kd:U8.bits=8:=rfl
theorem tk:U3.bits=32:=rfl
theorem na:U6.bits=64:=rfl
theorem kb:I6.bits=64:=rfl
theorem tz (n:Nat) {x y:Nat} (hx:x<2^n) (hy:y<2^n):(Zc n (x:Int)^^^Zc n (y:Int)).toNat=x^^^y:=by
 simp[J9,Zh hx,Zh hy]
theorem tw (n:Nat) {x y:Nat} (hx:x<2^n) (hy:y<2^n):(Zc n (x:Int)&&&Zc n (y:Int)).toNat=x&&&y:=by
 simp[J9,Zh hx,Zh hy]
theorem kf (n:Nat) {x y:Nat} (hx:x<2^n) (hy:y<2^n):(Zc n (x:Int)|||Zc n (y:Int)).toNat=x|||y:=by
 simp[J9,Zh hx,Zh hy]
theorem n5 (a b:UInt8):U8.wrap ((Zc U8.bits (a.toNat:Int)^^^Zc U8.bits (b.toNat:Int)).toNat:Int)=((a^^^b).toNat:Int):=by
 rw[wrap_u8,tz U8.bits a.toNat_lt b.toNat_lt,UInt8.toNat_xor];have:=Jj (n:=8) a.toNat_lt b.toNat_lt;omega
theorem wZ (a b:UInt8):U8.wrap ((Zc U8.bits (a.toNat:Int)&&&Zc U8.bits (b.toNat:Int)).toNat:Int)=((a&&&b).toNat:Int):=by
 rw[wrap_u8,tw U8.bits a.toNat_lt b.toNat_lt,UInt8.toNat_and];have:=Jz (n:=8) a.toNat b.toNat_lt;omega
theorem sg (a b:UInt8):U8.wrap ((Zc U8.bits (a.toNat:Int)|||Zc U8.bits (b.toNat:Int)).toNat:Int)=((a|||b).toNat:Int):=by
 rw[wrap_u8,kf U8.bits a.toNat_lt b.toNat_lt,UInt8.toNat_or];have:=J3 (n:=8) a.toNat_lt b.toNat_lt;omega
theorem a2C (a b:UInt8):U8.wrap ((a.toNat:Int)+b.toNat)=((a+b).toNat:Int):=by
 rw[wrap_u8,UInt8.toNat_add];omega
theorem B5 (a b:UInt32):U3.wrap ((Zc U3.bits (a.toNat:Int)^^^Zc U3.bits (b.toNat:Int)).toNat:Int)=((a^^^b).toNat:Int):=by
 rw[wrap_u32,tz U3.bits a.toNat_lt b.toNat_lt,UInt32.toNat_xor];have:=Jj (n:=32) a.toNat_lt b.toNat_lt;omega
theorem wW (a b:UInt32):U3.wrap ((Zc U3.bits (a.toNat:Int)&&&Zc U3.bits (b.toNat:Int)).toNat:Int)=((a&&&b).toNat:Int):=by
 rw[wrap_u32,tw U3.bits a.toNat_lt b.toNat_lt,J5];have:=Jz (n:=32) a.toNat b.toNat_lt;omega
theorem se (a b:UInt32):U3.wrap ((Zc U3.bits (a.toNat:Int)|||Zc U3.bits (b.toNat:Int)).toNat:Int)=((a|||b).toNat:Int):=by
 rw[wrap_u32,kf U3.bits a.toNat_lt b.toNat_lt,UInt32.toNat_or];have:=J3 (n:=32) a.toNat_lt b.toNat_lt;omega
theorem x7 (a b:UInt32):U3.wrap ((a.toNat:Int)+b.toNat)=((a+b).toNat:Int):=by
 rw[wrap_u32,UInt32.toNat_add];omega
theorem aM (a b:UInt32):U3.wrap ((a.toNat:Int)-b.toNat)=((a-b).toNat:Int):=by
 have:=b.toNat_lt;rw[wrap_u32,UInt32.toNat_sub];omega
theorem wX (a b:UInt64):U6.wrap ((Zc U6.bits (a.toNat:Int)|||Zc U6.bits (b.toNat:Int)).toNat:Int)=((a|||b).toNat:Int):=by
 rw[F9,kf U6.bits a.toNat_lt b.toNat_lt,UInt64.toNat_or];have:=J3 (n:=64) a.toNat_lt b.toNat_lt;omega
theorem a2D (a:UInt8) (n:Int) (h0:0<=n) (h:n<8):U8.wrap ((a.toNat:Int)*2^(min n.toNat U8.bits))=((a<<<(Zt n.toNat)).toNat:Int):=by
 have hn:n.toNat<8:=by omega
 have hm:n.toNat<256:=by omega
 rw[wrap_u8,show min n.toNat U8.bits=n.toNat from by simp only[kd];omega,UInt8.toNat_shiftLeft,J6,Jb,Zh (show n.toNat<2^8 from hm),Zh hn];rw[Jt,Jx,Z9];rfl
theorem a2F (a:UInt8) (n:Int) (h0:0<=n) (h:n<8):((a.toNat:Int).fdiv (2^(min n.toNat U8.bits)))=((a>>>(Zt n.toNat)).toNat:Int):=by
 have hn:n.toNat<8:=by omega
 have hm:n.toNat<256:=by omega
 rw[show min n.toNat U8.bits=n.toNat from by simp only[kd];omega,Ko,Z0,Jb,Zh (show n.toNat<2^8 from hm),Zh hn,Z1 _ (Kc (Ki (by decide)))];rw[Ju,Z9];rfl
theorem mH (a:UInt32) (n:Int) (h0:0<=n) (h:n<32):U3.wrap ((a.toNat:Int)*2^(min n.toNat U3.bits))=((a<<<(Zn n.toNat)).toNat:Int):=by
 have hn:n.toNat<32:=by omega
 have hm:n.toNat<4294967296:=by omega
 rw[wrap_u32,show min n.toNat U3.bits=n.toNat from by simp only[tk];omega,Kp,J6,Jm,Zh (show n.toNat<2^32 from hm),Zh hn];rw[Jt,Jx,Z9];rfl
theorem aL (a:UInt32) (n:Int) (h0:0<=n) (h:n<32):((a.toNat:Int).fdiv (2^(min n.toNat U3.bits)))=((a>>>(Zn n.toNat)).toNat:Int):=by
 have hn:n.toNat<32:=by omega
 have hm:n.toNat<4294967296:=by omega
 rw[show min n.toNat U3.bits=n.toNat from by simp only[tk];omega,Jc,Z0,Jm,Zh (show n.toNat<2^32 from hm),Zh hn,Z1 _ (Kc (Ki (by decide)))];rw[Ju,Z9];rfl
theorem a2y (a:UInt32) (n:Int) (h:32<=n):((a.toNat:Int).fdiv (2^(min n.toNat U3.bits)))=0:=by
 rw[show min n.toNat U3.bits=32 from by simp only[tk];omega,Z1 _ (by decide)];have:=a.toNat_lt;exact Int.ediv_eq_zero_of_lt (by omega) (by omega)
theorem wY (a:UInt64) (n:Int) (h0:0<=n) (h:n<64):U6.wrap ((a.toNat:Int)*2^(min n.toNat U6.bits))=((a<<<(UInt64.ofNat n.toNat)).toNat:Int):=by
 have hn:n.toNat<64:=by omega
 have hm:n.toNat<18446744073709551616:=by omega
 rw[F9,show min n.toNat U6.bits=n.toNat from by simp only[na];omega,UInt64.toNat_shiftLeft,J6,UInt64.toNat_ofNat',Zh (show n.toNat<2^64 from hm),Zh hn];rw[Jt,Jx,Z9];rfl
theorem FR (a:UInt64) (n:Int) (h0:0<=n) (h:n<64):((a.toNat:Int).fdiv (2^(min n.toNat U6.bits)))=((a>>>(UInt64.ofNat n.toNat)).toNat:Int):=by
 have hn:n.toNat<64:=by omega
 have hm:n.toNat<18446744073709551616:=by omega
 rw[show min n.toNat U6.bits=n.toNat from by simp only[na];omega,UInt64.toNat_shiftRight,Z0,UInt64.toNat_ofNat',Zh (show n.toNat<2^64 from hm),Zh hn,Z1 _ (Kc (Ki (by decide)))];rw[Ju,Z9];rfl
theorem jJ (a b:UInt32):U3.wrap ((a.toNat:Int)*b.toNat)=((a*b).toNat:Int):=by
 rw[wrap_u32,UInt32.toNat_mul,Jt,Jx];rfl
theorem xd (a:UInt8):U6.wrap (a.toNat:Int)=((a.toUInt64).toNat:Int):=by
 have:=a.toNat_lt;rw[F9,UInt8.toNat_toUInt64];omega
theorem a2G (a:UInt8):U3.wrap (a.toNat:Int)=((a.toUInt32).toNat:Int):=by
 have:=a.toNat_lt;rw[wrap_u32,UInt8.toNat_toUInt32];omega
theorem eY (a:UInt8):I6.wrap (a.toNat:Int)=(a.toNat:Int):=by
 have:=a.toNat_lt;rw[IntKind.wrap_i64];omega
theorem R9 (a:UInt32):I6.wrap (a.toNat:Int)=(a.toNat:Int):=by
 have:=a.toNat_lt;rw[IntKind.wrap_i64];omega
theorem a2z (a:UInt32):U6.wrap (a.toNat:Int)=((a.toUInt64).toNat:Int):=by
 have:=a.toNat_lt;rw[F9,Z2];omega
theorem a2B (a:UInt64):U8.wrap (a.toNat:Int)=((a.toUInt8).toNat:Int):=by
 rw[wrap_u8,UInt64.toNat_toUInt8];omega
theorem mI (a:UInt64):U3.wrap (a.toNat:Int)=((a.toUInt32).toNat:Int):=by
 rw[wrap_u32,UInt64.toNat_toUInt32];omega
theorem iH (a:UInt32):U8.wrap (a.toNat:Int)=((a.toUInt8).toNat:Int):=by
 rw[wrap_u8,Kz];omega
theorem X5 (n:Nat):U8.wrap (n:Int)=((Zt n).toNat:Int):=by
 rw[wrap_u8,Jb];omega
theorem Cx (n:Nat):U3.wrap (n:Int)=((Zn n).toNat:Int):=by
 rw[wrap_u32,Jm];omega
theorem dG (n:Nat) (h:n<9223372036854775808):I6.wrap (n:Int)=(n:Int):=by
 rw[IntKind.wrap_i64];omega
theorem l4 {α:Type} {xs:List α} {i n:Nat}:(sub xs i n).length=min n (xs.length-i):=by simp[sub]
theorem d9 {p:Prop} [Decidable p] {x y:Prop} (h1:p->x) (h2:¬p->y):bW (decide p) x y:=by
 by_cases h:p
 ·rw[decide_eq_true h];exact h1 h
 ·rw[decide_eq_false h];exact h2 h
theorem j5 {m n:Int} {x y:Prop} (h1:m=n->x) (h2:m≠n->y):bW (m==n) x y:=iB (fun h=>h1 (by simpa using h)) (fun h=>h2 (by simpa using h))
theorem n7 {m n:Int} {x y:Prop} (h1:m≠n->x) (h2:m=n->y):bW (m != n) x y:=iB (fun h=>h1 (by simpa using h)) (fun h=>h2 (by simpa using h))
def it {α:Type} (f:α->α):Nat->α->α
 |0,x=>x
 |n+1,x=>f (it f n x)
theorem bM {α:Type} {f:α->α} {i:Nat} {x z:α} (h:z=it f i x):f z=it f (i+1) x:=by rw[h];rfl
theorem nZ {β:Type} {m:Nat} {body:S->(X->S->Prop)->Prop} {s:S} {K:X->S->Prop} (f:β->β) (b0:β) (n:Nat) (I:Nat->β->D) (h0:Mt m s (I 0 b0)) (h:∀i z,i<=n->z=it f i b0->body (I i z).s fun e s'=>match e with
   | .normal=>∃y:Nat×β,(y.1<=n/\y.2=it f y.1 b0)/\n-y.1<n-i/\Mt m s' (I y.1 y.2)
   |e=>K e s'):mQ m body s K:=
 ⟨Nat×β,fun x=>I x.1 x.2,fun x=>x.1<=n/\x.2=it f x.1 b0,fun x=>n-x.1,⟨[],(0,b0),⟨Z6 _,rfl⟩,h0⟩,fun x hx=>h x.1 x.2 hx.1 hx.2⟩
theorem rM {β:Type} {C:m6} {rt:Rt} {m:Nat} {c:Code} {s:S} {K:X->S->Prop} (l:Nat) {p q:Code} (hs:I3 c l=some (p,q)) (f:β->β) (b0:β) (n:Nat) (I:Nat->β->D) (h0:vc C rt m p s fun e s'=>match e with
   | .normal=>∃(l:List (Nat×Nat×B)) (y:Nat×β),(y.1<=n/\y.2=it f y.1 b0)/\ak l 0 s' fun s'=>Mt m s' (I y.1 y.2)
   | .goto l'=>l'=l/\∃y:Nat×β,(y.1<=n/\y.2=it f y.1 b0)/\Mt m s' (I y.1 y.2)
   |e=>K e s') (h:∀i z,i<=n->z=it f i b0->vc C rt m q (I i z).s fun e s'=>match e with
   | .goto l'=>l'=l/\∃y:Nat×β,(y.1<=n/\y.2=it f y.1 b0)/\n-y.1<n-i/\Mt m s' (I y.1 y.2)
   |e=>K e s'):jB C rt m c s K:=
 ⟨l,Nat×β,fun x=>I x.1 x.2,fun x=>x.1<=n/\x.2=it f x.1 b0,fun x=>n-x.1,by rw[hs];exact⟨h0,fun x hx=>h x.1 x.2 hx.1 hx.2⟩⟩
theorem m5 {m:Nat} {body:S->(X->S->Prop)->Prop} {s:S} {K:X->S->Prop} (I:Nat->D) (n:Nat) (h0:Mt m s (I 0)) (h:∀i,i<=n->body (I i).s fun e s'=>match e with
   | .normal=>∃y,y<=n/\n-y<n-i/\Mt m s' (I y)
   |e=>K e s'):mQ m body s K:=
 ⟨Nat,I,fun i=>i<=n,fun i=>n-i,⟨[],0,Z6 _,h0⟩,h⟩
theorem D6 {m:Nat} {body:S->(X->S->Prop)->Prop} {s:S} {K:X->S->Prop} (I:Nat->D) (n:Nat) (l:List (Nat×Nat×B)) (h0:ak l 0 s fun s=>Mt m s (I 0)) (h:∀i,i<=n->body (I i).s fun e s'=>match e with
   | .normal=>∃y,y<=n/\n-y<n-i/\Mt m s' (I y)
   |e=>K e s'):mQ m body s K:=
 ⟨Nat,I,fun i=>i<=n,fun i=>n-i,⟨l,0,Z6 _,h0⟩,h⟩
def P0 (l:Bs):UInt64:=l.foldl (fun n x=>n<<<8|||x.toUInt64) 0
def p8 (n:UInt64):Nat->Bs
 |0=>[]
 |k+1=>p8 (n>>>8) k++[n.toUInt8]
theorem y8:∀(k:Nat) (n:UInt64),(p8 n k).length=k
 |0,_=>rfl
 |k+1,n=>by simp[p8,y8 k]
def E7 (v:UInt32) (k:Nat):UInt32:=v<<<Zn k|||v>>>Zn (32-k)
theorem eV (n b:Int) (hb:0<b):(n.tmod b+b).tmod b=n%b:=by
 have h1: -b<n.tmod b:=J2 n hb;rw[Jk (by omega),Int.add_emod_right,Int.tmod_def,Int.sub_mul_emod_self_left]
theorem zy {n b:Int} (hb:0<b) (hb2:b<=4611686018427387904) (hn: -9223372036854775808<=n/\n<=9223372036854775807):a9 C 200 [i64 n,i64 b] [] (.ret (i64 (n%b))) []:=by
 refine Ur.c ?_;refine⟨by omega,by omega,?_⟩;refine⟨_,rfl,[],f6 ?_,tq⟩;have h1: -b<n.tmod b:=J2 n hb;have h2:n.tmod b<b:=Kg n hb;rw[Za _ (by omega)];exact eV n b hb
theorem vL {l:Bs} {i:Nat} (h:i<l.length):P0 (l.take (i+1))=P0 (l.take i)<<<8|||(l[i]).toUInt64:=by
 unfold P0;rw[Zr h,J4];rfl
theorem KQ {n:Nat} {va:List Value} {l:Bs} (ha:va=bv l) (hn:l.length=n) (hm:n<=1073741824):a9 C 242 [.z n va] [] (.ret (u64 (P0 l))) []:=by
 subst ha;subst hn;refine Uq.c ?_;refine⟨0,Nat,fun i=>⟨[(0,bz l),(3,u64 (P0 (l.take i))),(4,i64 i)],[]⟩,fun i=>i<=l.length,fun i=>l.length-i,⟨[],0,Z6 _,[],⟨rfl,rfl,rfl,tq⟩,tq⟩,fun i hi=> ?_⟩;refine d9 (fun h=> ?_) (fun h=> ?_)
 ·have d8:i<l.length:=(by omega);refine⟨by omega,by omega,by omega,_,bE (i:=i) d8,?_⟩;refine⟨rfl,i+1,d8,J7 _ _ d8,[],⟨rfl,congrArg (vi .u64) ?_,f6 (by simp(disch:=omega)only[Za];omega),tq⟩,tq⟩;rw[wY _ _ (by decide) (by decide),xd,wX,vL d8];rfl
 ·obtain rfl:i=l.length:=Ka hi (by omega);refine⟨_,rfl,[],congrArg (vi .u64) ?_,tq⟩;rw[Zq]
theorem zL {x:Int} {n:UInt64} {k:Int} {m:Nat} (hx:x=n.toNat) (hk:k=m) (hm:m<=1073741824):a9 C 243 [vi .u64 x,i64 k] [] (.ret (.o 1 (.k 0) 0 m)) [.sc (bv (p8 n m))]:=by
 subst hk;subst hx;refine Us.c ?_;refine⟨0,Nat×UInt64×Bs,fun x=>⟨[(0,u64 x.2.1),(5,.o 1 (.k 0) 0 m),(6,i64 x.1)],[.sc (bv (Zk x.1 0++x.2.2))]⟩,fun x=>x.1<=m/\x.1+x.2.2.length=m/\p8 x.2.1 x.1++x.2.2=p8 n m,fun x=>x.1,
  ⟨by omega,by omega,by omega,[],(m,n,[]),⟨Zp _,by simp,by simp⟩,[.d 8 0],⟨rfl,rfl,rfl,tq⟩,⟨_,rfl,g9 (by simp[bv])⟩,tq⟩,?_⟩
 rintro ⟨i,v,l⟩ ⟨hi,hl,he⟩;simp only at hi hl he;refine d9 (fun h=> ?_) (fun h=> ?_)
 ·have hp:0<i:=(by omega);have e1:I6.wrap ((i:Int)-1)=((i-1:Nat):Int):=by simp only[IntKind.wrap_i64];omega
  refine⟨(by simp(disch:=omega)only[Za];omega),(by simp(disch:=omega)only[Za];omega),(by simp only[y8,i9,L6,x8,Ze,Zj,Zu,Zv,Zx,Zs,Zw,l4,Zi,Zy,Zo];omega),by omega,rfl,(i-1,v>>>8,v.toUInt8::l),⟨by omega,(by simp only[y8,i9,L6,x8,Ze,Zj,Zu,Zv,Zx,Zs,Zw,l4,Zi,Zy,Zo];omega),?_⟩,(by simp(disch:=omega)only[Za];omega),[.k 0],⟨congrArg (vi .u64) ?_,rfl,f6 e1,tq⟩,⟨_,rfl,g9 ?_⟩,tq⟩
  ·obtain⟨j,rfl⟩:∃j,i=j+1:=⟨i-1,by omega⟩;rw[<-he];simp[p8]
  ·exact FR v 8 (by decide) (by decide)
  ·rw[e1,a2B,K6];congr 1;obtain⟨j,rfl⟩:∃j,i=j+1:=⟨i-1,by omega⟩;simp[List.replicate_succ']
 ·obtain rfl:i=0:=(by omega);refine⟨_,rfl,[.k 0],rfl,⟨_,rfl,g9 ?_⟩,tq⟩;rw[show l=p8 n m by simpa [p8]using he];rfl
theorem zT {n:Nat} {va:List Value} {l:Bs} (ha:va=bv l) (hn:l.length=n) (hm:n<=1073741824):a9 C 199 [.z n va] [] (.ret (.o 1 (.k 0) 0 n)) [.sc (bv l.reverse)]:=by
 subst ha;subst hn;refine Ut.c ?_;refine⟨by omega,by omega,by omega,?_⟩;refine⟨Nat,fun i=>⟨[(0,bz l),(3,.o 1 (.k 0) 0 i),(4,i64 (l.length-1-i))],[.sc (bv (l.reverse.take i))]⟩,fun i=>i<=l.length,fun i=>l.length-i,⟨[],0,Z6 _,[.d 7 0],⟨rfl,rfl,?_,tq⟩,⟨_,rfl,rfl⟩,tq⟩,fun i hi=> ?_⟩
 ·exact f6 (by simp(disch:=omega)only[Za];omega)
 refine d9 (fun h=> ?_) (fun h=> ?_)
 ·have d8:i<l.length:=(by omega);have e:((l.length:Int)-1-(i:Int)).toNat=l.length-1-i:=(by omega);refine⟨by omega,by omega,?_⟩;refine⟨_,by rw[e];exact bE (i:=l.length-1-i) (by omega),?_⟩;refine⟨(by simp only[y8,i9,L6,x8,Ze,Zj,Zu,Zv,Zx,Zs,Zw,l4,Zi,Zy,Zo];omega),by omega,(by simp only[y8,i9,L6,x8,Ze,Zj,Zu,Zv,Zx,Zs,Zw,l4,Zi,Zy,Zo];omega),i+1,by omega,(by simp(disch:=omega)only[Za];omega),[.d 21 0],⟨rfl,rfl,f6 (by simp(disch:=omega)only[Za];omega),tq⟩,⟨_,rfl,g9 ?_⟩,tq⟩;have e2:l.reverse[i]'(by simpa using d8)=l[l.length-1-i]:=by rw[Js]
  rw[Zr (by simpa using d8),<-A5,e2,m8];simp[sub,bv,List.take_take]
 ·obtain rfl:i=l.length:=Ka hi (by omega);refine⟨_,rfl,[.k 0],rfl,⟨_,rfl,g9 ?_⟩,tq⟩;rw[<-Zi,Zq]
theorem tE {n:Nat} {va:List Value} {l:Bs} (ha:va=bv l) (hn:l.length=4) (hn':n=4):a9 C 198 [.z n va] [] (.ret (.t [u32 (P0 l).toUInt32,bool true])) []:=by
 subst hn';refine Ug.c ?_;refine⟨[],_,_,_,_,KQ ha hn (by omega),rfl,rfl,?_⟩;refine⟨_,rfl,[],congrArg (fun n=>V.t [vi .u32 n,bool true]) ?_,tq⟩;exact mI _
theorem C2 {α:Type} {l:List α} {n:Nat} (h:l.length=n):sub l 0 n=l:=by subst h;simp[sub]
theorem g8 {l:Bs} {n:Nat} (h:l.length=n):sub (bv l) 0 n=bv l:=C2 (by rw[i9,h])
theorem X0 {l:List Int} {n:Nat} (h:l.length=n):sub (iv l) 0 n=iv l:=C2 (by rw[L6,h])
theorem C8 {l:List UInt32} {n:Nat} (h:l.length=n):sub (wv l) 0 n=wv l:=C2 (by rw[x8,h])
theorem dq {n:Nat} {va:List Value} {l:Bs} (ha:va=bv l) (hn:l.length=4) (hn':n=4):a9 C 135 [.z n va] [] (.ret (.t [u32 (P0 l.reverse).toUInt32,bool true])) []:=by
 subst hn';refine Ui.c ?_;refine⟨[],_,_,_,_,zT ha hn (by omega),rfl,rfl,?_⟩;refine⟨[],_,_,_,_,tE (l:=l.reverse) (g8 (by simpa using hn)) (by simpa using hn) rfl,rfl,rfl,?_⟩;exact⟨_,rfl,[],rfl,tq⟩
theorem tW {x:Int} {v:UInt32} (hx:x=v.toNat):a9 C 201 [vi .u32 x] [] (.ret (.o 1 (.k 0) 0 4)) [.sc (bv (p8 v.toUInt64 4))]:=by
 subst hx;refine Uj.c ?_;refine⟨[],_,_,_,_,zL (m:=4) (a2z v) rfl (by omega),rfl,rfl,?_⟩;exact⟨_,rfl,[.d 5 0],rfl,⟨_,rfl,rfl⟩,tq⟩
theorem kA {x:Int} {v:UInt32} (hx:x=v.toNat):a9 C 139 [vi .u32 x] [] (.ret (.o 1 (.k 0) 0 4)) [.sc (bv (p8 v.toUInt64 4).reverse)]:=by
 subst hx;refine Ul.c ?_;refine⟨[],_,_,_,_,tW rfl,rfl,rfl,?_⟩;refine⟨[],_,_,_,_,zT (l:=p8 v.toUInt64 4) (g8 (y8 _ _)) (y8 _ _) (by omega),rfl,rfl,?_⟩;exact⟨_,rfl,[.d 5 0],rfl,⟨_,rfl,rfl⟩,tq⟩
theorem kz {x:Int} {v:UInt64} (hx:x=v.toNat):a9 C 247 [vi .u64 x] [] (.ret (.o 1 (.k 0) 0 8)) [.sc (bv (p8 v 8))]:=by
 refine Uk.c ?_;refine⟨[],_,_,_,_,zL (m:=8) hx rfl (by omega),rfl,rfl,?_⟩;exact⟨_,rfl,[.d 4 0],rfl,⟨_,rfl,rfl⟩,tq⟩
theorem DH (v:UInt32) {k:Int} (h0:0<=k) (h1:k<32):
  U3.wrap ((Zc U3.bits (U3.wrap ((v.toNat:Int)*2^(min k.toNat U3.bits)))|||Zc U3.bits ((v.toNat:Int).fdiv (2^(min (32-k).toNat U3.bits)))).toNat:Int)=((E7 v k.toNat).toNat:Int):=by
 rw[mH _ _ h0 h1];unfold E7;by_cases hz:k=0
 ·subst hz;rw[a2y _ _ (by decide),show(0:Int)=((0:UInt32).toNat:Int) from rfl,se];refine congrArg (fun z:UInt32=>(z.toNat:Int)) (UInt32.toNat_inj.1 ?_);show(v<<<Zn 0|||0).toNat=(v<<<Zn 0|||v>>>Zn (32-0)).toNat;simp[UInt32.toNat_or,Kp,Jc]
 ·rw[aL _ _ (by omega) (by omega),se];congr 5;omega
theorem zB {x n:Int} {v:UInt32} (hx:x=v.toNat) (hn: -9223372036854775808<=n/\n<=9223372036854775807):a9 C 138 [vi .u32 x,i64 n] [] (.ret (u32 (E7 v (n%32).toNat))) []:=by
 subst hx;refine Um.c ?_;refine⟨[],_,_,_,_,zy (b:=32) (by decide) (by decide) hn,rfl,rfl,?_⟩;have h0:0<=n%32:=(by omega);have h1:n%32<32:=(by omega);have e1:U6.wrap (n%32)=n%32:=by rw[F9];omega
 have e2:U6.wrap (32-U6.wrap (n%32))=32-n%32:=by rw[e1,F9];omega
 refine⟨?_,?_,_,rfl,[],congrArg (vi .u32) ?_,tq⟩
 ·rw[e1];exact h0
 ·rw[e2];omega
 ·rw[e2,e1];exact DH v h0 h1
def j8 (a b:Bs):Bs:=List.zipWith (· ^^^ ·) a b
theorem B0 {a b:Bs} {n:Nat} (ha:a.length=n) (hb:b.length=n):(j8 a b).length=n:=by simp[j8,ha,hb]
theorem Gh {a b:Bs} {i:Nat} (ha:i<a.length) (hb:i<b.length):j8 (a.take (i+1)) (b.take (i+1))=j8 (a.take i) (b.take i)++[a[i]^^^b[i]]:=by
 unfold j8;rw[Zr ha,Zr hb,List.zipWith_append (by simp;omega)];rfl
theorem wC {α:Type} {l:List α} {x y:α} {n:Nat} {r:List α} (h:l.length=n):(l++y::r).set n x=l++x::r:=by
 subst h;simp
theorem M4 {n:Nat} {va vb:List Value} {a b:Bs} (ha:va=bv a) (hb:vb=bv b) (la:a.length=n) (lb:b.length=n) (hm:n<=1073741824):a9 C 144 [.z n va,.z n vb] [] (.ret (.t [.o 1 (.k 0) 0 n,bool true])) [.sc (bv (j8 a b))]:=by
 subst ha;subst hb;refine Up.c ?_;refine n7 (fun h=>absurd rfl h) (fun _=> ?_);refine⟨by omega,by omega,by omega,?_⟩;refine m5 (fun i=>⟨[(0,.z n (bv a)),(1,.z n (bv b)),(6,.o 1 (.k 0) 0 n),(17,i64 n),(18,i64 i)],[.sc (bv (j8 (a.take i) (b.take i)++Zk (n-i) 0))]⟩) n ⟨[.d 15 0],⟨rfl,rfl,rfl,rfl,rfl,tq⟩,⟨_,rfl,g9 (by simp[bv,j8])⟩,tq⟩ fun i hi=> ?_;refine d9 (fun h=> ?_) (fun h=> ?_)
 ·have d8:i<n:=(by omega);refine⟨by omega,by omega,_,bE (i:=i) (by omega),by omega,by omega,_,bE (i:=i) (by omega),by omega,by omega,?_,i+1,by omega,by omega,[.k 0],⟨rfl,rfl,rfl,rfl,f6 (by simp(disch:=omega)only[Za];omega),tq⟩,⟨_,rfl,g9 ?_⟩,tq⟩
  ·rw[i9];simp[j8];omega
  ·rw[n5,K6,Gh (by omega) (by omega),show n-i=(n-(i+1))+1 from (by omega),Kb];congr 1;rw[wC (by simp[j8];omega)];simp
 ·obtain rfl:i=n:=(by omega);refine⟨_,rfl,[.k 0],rfl,⟨_,rfl,g9 ?_⟩,tq⟩;rw[<-la]
  conv=>lhs;rw[Zq,la,<-lb,Zq]
  simp
theorem zn {n b:Int} (hb:0<b) (hb2:b<=4611686018427387904) (hn: -9223372036854775808<=n/\n<=9223372036854775807):a9 C 221 [i64 n,i64 b] [] (.ret (i64 (n%b))) []:=by
 refine Rq.c ?_;refine⟨by omega,by omega,?_⟩;refine⟨_,rfl,[],f6 ?_,tq⟩;have h1: -b<n.tmod b:=J2 n hb;have h2:n.tmod b<b:=Kg n hb;rw[Za _ (by omega)];exact eV n b hb
theorem LC {x n:Int} {v:UInt32} (hx:x=v.toNat) (hn: -9223372036854775808<=n/\n<=9223372036854775807):a9 C 169 [vi .u32 x,i64 n] [] (.ret (u32 (E7 v (n%32).toNat))) []:=by
 subst hx;refine Ro.c ?_;refine⟨[],_,_,_,_,zn (b:=32) (by decide) (by decide) hn,rfl,rfl,?_⟩;have h0:0<=n%32:=(by omega);have h1:n%32<32:=(by omega);have e1:U6.wrap (n%32)=n%32:=by rw[F9];omega
 have e2:U6.wrap (32-U6.wrap (n%32))=32-n%32:=by rw[e1,F9];omega
 refine⟨?_,?_,_,rfl,[],congrArg (vi .u32) ?_,tq⟩
 ·rw[e1];exact h0
 ·rw[e2];omega
 ·rw[e2,e1];exact DH v h0 h1
theorem H4 {n:Nat} {va vb:List Value} {a b:Bs} (ha:va=bv a) (hb:vb=bv b) (la:a.length=n) (lb:b.length=n) (hm:n<=1073741824):a9 C 72 [.z n va,.z n vb] [] (.ret (.o 1 (.k 0) 0 n)) [.sc (bv (j8 a b))]:=by
 subst ha;subst hb;refine Ri.c ?_;refine⟨by omega,by omega,by omega,?_⟩;refine m5 (fun i=>⟨[(0,.z n (bv a)),(1,.z n (bv b)),(5,.o 1 (.k 0) 0 n),(6,i64 i)],[.sc (bv (j8 (a.take i) (b.take i)++Zk (n-i) 0))]⟩) n ⟨[.d 9 0],⟨rfl,rfl,rfl,rfl,tq⟩,⟨_,rfl,g9 (by simp[bv,j8])⟩,tq⟩ fun i hi=> ?_;refine d9 (fun h=> ?_) (fun h=> ?_)
 ·have d8:i<n:=(by omega);refine⟨by omega,by omega,_,bE (i:=i) (by omega),by omega,by omega,_,bE (i:=i) (by omega),by omega,by omega,?_,i+1,by omega,by omega,[.k 0],⟨rfl,rfl,rfl,f6 (by simp(disch:=omega)only[Za];omega),tq⟩,⟨_,rfl,g9 ?_⟩,tq⟩
  ·rw[i9];simp[j8];omega
  ·rw[n5,K6,Gh (by omega) (by omega),show n-i=(n-(i+1))+1 from (by omega),Kb];congr 1;rw[wC (by simp[j8];omega)];simp
 ·obtain rfl:i=n:=(by omega);refine⟨_,rfl,[.k 0],rfl,⟨_,rfl,g9 ?_⟩,tq⟩;rw[<-la]
  conv=>lhs;rw[Zq,la,<-lb,Zq]
  simp
theorem DZ (v:UInt32):p8 v.toUInt64 4=[(v>>>24).toUInt8,(v>>>16).toUInt8,(v>>>8).toUInt8,v.toUInt8]:=by
 have h:∀(x:UInt64) (y:UInt32),x.toNat=y.toNat->x.toUInt8=y.toUInt8:=fun x y e=>Ku.1 (by rw[UInt64.toNat_toUInt8,Kz,e]);have e0:v.toUInt64.toNat=v.toNat:=Z2 v;have s:∀x:UInt64,(x>>>8).toNat=x.toNat>>>8:=fun x=>by rw[UInt64.toNat_shiftRight];rfl
 simp only[p8,Jp,List.cons_append];rw[h (v.toUInt64>>>8>>>8>>>8) (v>>>24),h (v.toUInt64>>>8>>>8) (v>>>16),h (v.toUInt64>>>8) (v>>>8),h v.toUInt64 v e0]
 ·rw[s,e0,Jc];rfl
 ·rw[s,s,e0,Jc,<-Kd];rfl
 ·rw[s,s,s,e0,Jc,<-Kd,<-Kd];rfl
theorem kB {x:Int} {v:UInt32} (hx:x=v.toNat):a9 C 219 [vi .u32 x] [] (.ret (.o 1 (.k 0) 0 4)) [.sc (bv (p8 v.toUInt64 4))]:=by
 subst hx;refine Rl.c ?_;refine⟨by omega,by omega,by omega,?_⟩;refine⟨_,rfl,[.d 14 0],rfl,⟨_,rfl,g9 ?_⟩,tq⟩;rw[aL _ _ (by decide) (by decide),aL _ _ (by decide) (by decide),aL _ _ (by decide) (by decide),iH,iH,iH,iH,DZ];rfl
theorem pB {x:Int} {v:UInt32} (hx:x=v.toNat):a9 C 213 [vi .u32 x] [] (.ret (.o 1 (.k 0) 0 4)) [.sc (bv (p8 v.toUInt64 4).reverse)]:=by
 subst hx;refine Rn.c ?_;refine⟨by omega,by omega,by omega,?_⟩;refine⟨_,rfl,[.d 14 0],rfl,⟨_,rfl,g9 ?_⟩,tq⟩;rw[aL _ _ (by decide) (by decide),aL _ _ (by decide) (by decide),aL _ _ (by decide) (by decide),iH,iH,iH,iH,DZ];rfl
theorem a0U (v:UInt64):p8 v 8=p8 ((v>>>32).toUInt32).toUInt64 4++p8 (v.toUInt32).toUInt64 4:=by
 have h:∀(x y:UInt64),x.toNat%256=y.toNat%256->x.toUInt8=y.toUInt8:=fun x y e=>Ku.1 (by rw[UInt64.toNat_toUInt8,UInt64.toNat_toUInt8,e]);have s:∀x:UInt64,(x>>>8).toNat=x.toNat/256:=fun x=>by rw[UInt64.toNat_shiftRight,Z0];rfl
 have s32:(v>>>32).toNat=v.toNat/4294967296:=by rw[UInt64.toNat_shiftRight,Z0];rfl
 have hv:=v.toNat_lt;simp only[p8,Jp,List.cons_append];congr 1
 ·exact h _ _ (by simp only[s,s32,Z2,UInt64.toNat_toUInt32];omega)
 congr 1
 ·exact h _ _ (by simp only[s,s32,Z2,UInt64.toNat_toUInt32];omega)
 congr 1
 ·exact h _ _ (by simp only[s,s32,Z2,UInt64.toNat_toUInt32];omega)
 congr 1
 ·exact h _ _ (by simp only[s,s32,Z2,UInt64.toNat_toUInt32];omega)
 congr 1
 ·exact h _ _ (by simp only[s,s32,Z2,UInt64.toNat_toUInt32];omega)
 congr 1
 ·exact h _ _ (by simp only[s,s32,Z2,UInt64.toNat_toUInt32];omega)
 congr 1
 ·exact h _ _ (by simp only[s,s32,Z2,UInt64.toNat_toUInt32];omega)
 congr 1;exact h _ _ (by simp only[s,s32,Z2,UInt64.toNat_toUInt32];omega)
theorem dX {x:Int} {v:UInt64} (hx:x=v.toNat):a9 C 228 [vi .u64 x] [] (.ret (.o 1 (.k 0) 0 8)) [.sc (bv (p8 v 8))]:=by
 subst hx;refine Rm.c ?_;refine⟨by omega,?_⟩;refine⟨[],_,_,_,_,kB (v:=(v>>>32).toUInt32) (by rw[FR _ _ (by decide) (by decide),mI];rfl),rfl,rfl,?_⟩;refine⟨[],_,_,_,_,kB (v:=v.toUInt32) (mI v),rfl,rfl,?_⟩;refine⟨(by simp only[y8,i9,L6,x8,Ze,Zj,Zu,Zv,Zx,Zs,Zw,l4,Zi,Zy,Zo];omega),by omega,(by simp only[y8,i9,L6,x8,Ze,Zj,Zu,Zv,Zx,Zs,Zw,l4,Zi,Zy,Zo];omega),?_⟩;refine⟨_,rfl,[.d 10 0],rfl,⟨_,rfl,g9 ?_⟩,tq⟩;rw[g8 (y8 _ _),g8 (y8 _ _),A5,a0U]
theorem HR {n:Nat} {va:List Value} {l:Bs} (ha:va=bv l) (hn:l.length=n) (hm:n<=1073741824):a9 C 175 [.z n va] [] (.ret (u64 (P0 l))) []:=by
 subst ha;subst hn;refine Rh.c ?_;refine m5 (fun i=>⟨[(0,bz l),(3,u64 (P0 (l.take i))),(4,i64 i)],[]⟩) l.length ⟨[],⟨rfl,rfl,rfl,tq⟩,tq⟩ fun i hi=> ?_;refine d9 (fun h=> ?_) (fun h=> ?_)
 ·have d8:i<l.length:=(by omega);refine⟨by omega,by omega,by omega,_,bE (i:=i) d8,i+1,d8,J7 _ _ d8,[],⟨rfl,congrArg (vi .u64) ?_,f6 (by simp(disch:=omega)only[Za];omega),tq⟩,tq⟩;rw[wY _ _ (by decide) (by decide),xd,wX,vL d8];rfl
 ·obtain rfl:i=l.length:=Ka hi (by omega);refine⟨_,rfl,[],congrArg (vi .u64) ?_,tq⟩;rw[Zq]
theorem fp {n:Nat} {va:List Value} {l:Bs} (ha:va=bv l) (hn:l.length=n) (hm:n<=1073741824):a9 C 166 [.z n va] [] (.ret (u64 (P0 l.reverse))) []:=by
 subst ha;subst hn;refine Rk.c ?_;refine m5 (fun i=>⟨[(0,bz l),(3,u64 (P0 (l.reverse.take i))),(4,i64 (l.length-i))],[]⟩) l.length ⟨[],⟨rfl,rfl,f6 (by simp),tq⟩,tq⟩ fun i hi=> ?_;refine d9 (fun h=> ?_) (fun h=> ?_)
 ·have d8:i<l.length:=(by omega);have e:(I6.wrap ((l.length:Int)-i-1)).toNat=l.length-1-i:=by simp only[IntKind.wrap_i64];omega
  refine⟨by omega,(by simp(disch:=omega)only[Za];omega),by omega,?_⟩;refine⟨_,by rw[e];exact bE (i:=l.length-1-i) (by omega),?_⟩;refine⟨i+1,d8,J7 _ _ d8,[],⟨rfl,congrArg (vi .u64) ?_,f6 (by simp(disch:=omega)only[Za];omega),tq⟩,tq⟩;rw[wY _ _ (by decide) (by decide),xd,wX,vL (by simpa using d8),Js];rfl
 ·obtain rfl:i=l.length:=Ka hi (by omega);refine⟨_,rfl,[],congrArg (vi .u64) ?_,tq⟩;rw[<-Zi,Zq]
theorem r8 {k:List UInt32} {i:Nat} (h:i<k.length):(wv k)[i]? =some (.int .u32 (k.getD i 0).toNat):=by
 rw[xn h,Zd,Zf h];rfl
theorem p5 {k:Bs} {i:Nat} (h:i<k.length):(bv k)[i]? =some (.int .u8 (k.getD i 0).toNat):=by
 rw[bE h,Zd,Zf h];rfl
theorem vE {k:List Int} {i:Nat} (h:i<k.length):(iv k)[i]? =some (.int .i64 (k.getD i 0)):=by
 rw[vD h,Zd,Zf h];rfl
theorem JO {n:Int} (h:0<n) (hm:n<=1073741824):a9 C 120 [.s (.slice none 0 0),i64 n] [] (.ret (.o 1 (.k 0) 0 0)) [.sc (bv (Zk n.toNat 0))]:=by
 refine AY.c ?_;refine d9 (fun h=>absurd h (by omega)) (fun _=> ?_);have e1:I6.wrap (n-I6.wrap (0-((0:Nat):Int)))=n:=by simp only[IntKind.wrap_i64];omega
 refine eW (decide_eq_true (by rw[e1];exact h)) ?_;refine⟨Jh 0,Zp 0,Zp 0,Zp 0,?_⟩;refine⟨by rw[e1];exact h,by rw[e1];exact hm,_,rfl,?_⟩;refine⟨Jh 0,Zp 0,Zp 0,Z6 _,?_⟩;refine⟨_,rfl,[.d 22 0],rfl,⟨_,rfl,g9 ?_⟩,tq⟩;rw[e1];exact T5 _
theorem Ic {n:Nat} {ls:List (Bs)} {xs:List V} (hx:xs=ls.map fun l=>bz l) (hn:ls.length=n) (h0:0<ls.flatten.length) (hm:ls.flatten.length<=1073741824) (hn2:n<=1073741824):a9 C 65 [.zz 1 n xs] [] (.ret (.o 1 (.k 0) 0 ls.flatten.length)) [.sc (bv ls.flatten)]:=by
 subst hx;subst hn;have get:∀i,(h:i<ls.length)->(ls.map fun l=>bz l)[i]? =some (bz ls[i]):=fun i h=>by simp[h]
 have stepL:∀i,(h:i<ls.length)->(ls.take (i+1)).flatten=(ls.take i).flatten++ls[i]:=fun i h=>by rw[Zr h,Jw,List.flatten_cons,List.flatten_nil,Z8]
 have le:∀i,(ls.take i).flatten.length<=ls.flatten.length:=fun i=>by
  conv=>rhs;rw[<-Kx i ls,Jw,Ze]
  omega
 refine AX.c ?_;refine m5 (fun i=>⟨[(0,.zz 1 ls.length (ls.map fun l=>bz l)),(3,i64 (ls.take i).flatten.length),(9,.zz 1 ls.length (ls.map fun l=>bz l)),(10,i64 ls.length),(11,i64 i)],[]⟩) ls.length ⟨[],⟨rfl,rfl,rfl,rfl,rfl,tq⟩,tq⟩ fun i hi=> ?_;refine d9 (fun h=> ?_) (fun h=> ?_)
 ·have d8:i<ls.length:=(by omega);have e:((i:Int)).toNat*1=i:=(by omega);have l1:=le (i+1);rw[stepL i d8,Ze]at l1;have e1:I6.wrap (((ls.take i).flatten.length:Int)+(ls[i].length:Nat))=((ls.take (i+1)).flatten.length:Nat):=by rw[stepL i d8,Ze];simp only[IntKind.wrap_i64];omega
  refine⟨by omega,by omega,?_⟩;refine⟨_,by rw[e];exact get i d8,?_⟩;refine D8 (decide_eq_false (by rw[e1];omega)) ?_;exact⟨i+1,by omega,by omega,[],⟨rfl,f6 e1,rfl,rfl,f6 (by simp(disch:=omega)only[Za];omega),tq⟩,tq⟩
 ·obtain rfl:i=ls.length:=(by omega);refine⟨[],_,_,_,_,JO (n:=ls.flatten.length) (by omega) (by omega),?_,rfl,?_⟩
  ·show[V.s (.slice none 0 0),i64 _]=_;rw[Zq]
  refine⟨Nat×Bs,fun x=>⟨[(6,.o 1 (.k 0) 0 (ls.take x.1).flatten.length),(25,.zz 1 ls.length (ls.map fun l=>bz l)),(26,i64 ls.length),(27,i64 x.1)],[.sc (bv ((ls.take x.1).flatten++x.2))]⟩,fun x=>x.1<=ls.length/\(x.1=ls.length->x.2=[]),fun x=>ls.length-x.1,⟨[],(0,Zk ls.flatten.length 0),⟨Z6 _,fun h=> ?_⟩,[.d 24 0],⟨rfl,rfl,rfl,rfl,tq⟩,⟨_,rfl,g9 ?_⟩,tq⟩,?_⟩
  ·exfalso;have:ls=[]:=J8 h.symm;subst this;simp at h0
  ·simp
  rintro ⟨i,z⟩ ⟨hi,hz⟩;simp only at hi hz;refine d9 (fun h=> ?_) (fun h=> ?_)
  ·have d8:i<ls.length:=(by omega);have e:((i:Int)).toNat*1=i:=(by omega);have l1:=le (i+1);rw[stepL i d8,Ze]at l1;refine⟨by omega,by omega,?_⟩;refine⟨_,by rw[e];exact get i d8,?_⟩;refine⟨(by simp[y8,i9,L6,x8,Ze,Zj,Zu,Zv,Zx,Zs,Zw,l4,Zi,Zy,Zo];done),(by simp(disch:=omega)only[Za];omega),(by simp only[y8,i9,L6,x8,Ze,Zj,Zu,Zv,Zx,Zs,Zw,l4,Zi,Zy,Zo];omega),?_⟩;refine⟨(i+1,[]),⟨by omega,fun _=>rfl⟩,(by simp(disch:=omega)only[Za];omega),[.d 33 0],⟨?_,rfl,rfl,f6 (by simp(disch:=omega)only[Za];omega),tq⟩,⟨_,rfl,g9 ?_⟩,tq⟩
   ·show V.o 1 (.k 0) 0 _=V.o 1 (.k 0) 0 _;rw[stepL i d8,Ze]
   ·rw[m8,A5,stepL i d8];simp[sub]
  ·obtain rfl:i=ls.length:=(by omega);refine⟨_,rfl,[.k 0],?_,⟨_,rfl,g9 ?_⟩,tq⟩
   ·show V.o 1 (.k 0) 0 _=V.o 1 (.k 0) 0 _;rw[Zq]
   ·rw[Zq,hz rfl,Z8]
theorem cw {n:Nat} {ls:List (Bs)} {t:Bs} {xs:List V} (ht:ls.flatten=t) (hx:xs=ls.map fun l=>bz l) (hn:ls.length=n) (h0:0<t.length) (hm:t.length<=1073741824) (hn2:n<=1073741824:=by first|decide|simp):a9 C 65 [.zz 1 n xs] [] (.ret (.o 1 (.k 0) 0 t.length)) [.sc (bv t)]:=by
 subst ht;exact Ic hx hn h0 hm hn2
def mz (v key:UInt32):UInt32:=((v<<<4^^^v>>>5)+v)^^^key
def H5:UInt32:=2654435769
def S4 (k:List UInt32) (x:UInt32×UInt32×UInt32):UInt32×UInt32×UInt32:=
 let v:=x.1+mz x.2.1 (x.2.2+k.getD (x.2.2&&&3).toNat 0)
 let s:=x.2.2+H5
 (v,x.2.1+mz v (s+k.getD (s>>>11&&&3).toNat 0),s)
def S3 (k:List UInt32) (x:UInt32×UInt32×UInt32):UInt32×UInt32×UInt32:=
 let w:=x.2.1-mz x.1 (x.2.2+k.getD (x.2.2>>>11&&&3).toNat 0)
 let s:=x.2.2-H5
 (x.1-mz w (s+k.getD (s&&&3).toNat 0),w,s)
theorem mX (x:UInt32):(x&&&3).toNat<4:=by
 rw[J5];exact Jz (n:=2) _ (by decide)
theorem sd (s:UInt32):U3.wrap ((Zc U3.bits (s.toNat:Int)&&&Zc U3.bits 3).toNat:Int)=((s&&&3).toNat:Int):=wW s 3
theorem iG (s:UInt32):U3.wrap ((s.toNat:Int)+2654435769)=((s+H5).toNat:Int):=x7 s H5
theorem mE (s:UInt32):U3.wrap ((s.toNat:Int)-2654435769)=((s-H5).toNat:Int):=aM s H5
theorem pH {x y:Int} {v k:UInt32} (hx:x=v.toNat) (hy:y=k.toNat):a9 C 206 [vi .u32 x,vi .u32 y] [] (.ret (u32 (mz v k))) []:=by
 subst hx;subst hy;refine TS.c ?_;refine⟨by omega,by omega,_,rfl,[],congrArg (vi .u32) ?_,tq⟩;rw[mH _ _ (by decide) (by decide),aL _ _ (by decide) (by decide),B5,x7,B5];rfl
abbrev U0 (k:List UInt32) (tag:Int):V:= .q [wz k,i64 tag] 0
theorem Nt {tag x y:Int} {k:List UInt32} {v w:UInt32} (hk:k.length=4) (hx:x=v.toNat) (hy:y=w.toNat):a9 C 149 [U0 k tag,vi .u32 x,vi .u32 y,bool false] []
  (.ret (.t [u32 (it (S4 k) 32 (v,w,0)).1,u32 (it (S4 k) 32 (v,w,0)).2.1])) []:=by
 subst hx;subst hy;refine Bb.c ?_;refine rM 0 rfl (S4 k) (v,w,0) 32 (fun i z=>⟨[(0,U0 k tag),(1,u32 z.1),(2,u32 z.2.1),(3,bool false),(10,u32 z.2.2),(11,i64 i)],[]⟩) ⟨[],(0,(v,w,0)),⟨Z6 _,rfl⟩,[],⟨rfl,rfl,rfl,rfl,rfl,rfl,tq⟩,tq⟩ fun i z hi hz=> ?_;refine j5 (fun h=> ?_) (fun h=> ?_)
 ·obtain rfl:i=32:=(by omega);rw[<-hz];exact⟨_,rfl,[],rfl,tq⟩
 ·have d8:i<32:=(by omega);have e1:=sd z.2.2;have b1:=mX z.2.2;refine⟨_,rfl,?_⟩;refine⟨by rw[e1];omega,by rw[e1,hk];omega,?_⟩;refine⟨_,by rw[e1,Zb];exact r8 (i:=(z.2.2&&&3).toNat) (by omega),?_⟩;refine⟨[],_,_,_,_,pH rfl (by rw[x7]),rfl,rfl,?_⟩;have b2:=mX ((z.2.2+H5)>>>11);have e2:U3.wrap ((Zc U3.bits ((U3.wrap ((z.2.2.toNat:Int)+2654435769)).fdiv (2^(min (11:Int).toNat U3.bits)))&&&Zc U3.bits 3).toNat:Int)=(((z.2.2+H5)>>>11&&&3).toNat:Int):=by
   rw[iG,aL _ _ (by decide) (by decide)];exact sd _
  refine⟨_,rfl,by omega,?_⟩;refine⟨by rw[e2];omega,by rw[e2,hk];omega,?_⟩;refine⟨_,by rw[e2,Zb];exact r8 (i:=((z.2.2+H5)>>>11&&&3).toNat) (by omega),?_⟩;refine⟨[],_,_,_,_,pH (x7 _ _) (by rw[iG,x7]),rfl,rfl,?_⟩;refine⟨rfl,(i+1,S4 k z),⟨d8,bM hz⟩,by omega,[],⟨rfl,congrArg (vi .u32) (x7 _ _),congrArg (vi .u32) (x7 _ _),rfl,congrArg (vi .u32) (iG _),f6 (by simp(disch:=omega)only[Za];omega),tq⟩,tq⟩
theorem Ns {tag x y:Int} {k:List UInt32} {v w:UInt32} (hk:k.length=4) (hx:x=v.toNat) (hy:y=w.toNat):a9 C 149 [U0 k tag,vi .u32 x,vi .u32 y,bool true] []
  (.ret (.t [u32 (it (S3 k) 32 (v,w,3337565984)).1,u32 (it (S3 k) 32 (v,w,3337565984)).2.1])) []:=by
 subst hx;subst hy;refine Bb.c ?_;refine rM 0 rfl (S3 k) (v,w,3337565984) 32 (fun i z=>⟨[(0,U0 k tag),(1,u32 z.1),(2,u32 z.2.1),(3,bool true),(10,u32 z.2.2),(11,i64 i)],[]⟩) ⟨[],(0,(v,w,3337565984)),⟨Z6 _,rfl⟩,[],⟨rfl,rfl,rfl,rfl,rfl,rfl,tq⟩,tq⟩ fun i z hi hz=> ?_;refine j5 (fun h=> ?_) (fun h=> ?_)
 ·obtain rfl:i=32:=(by omega);rw[<-hz];exact⟨_,rfl,[],rfl,tq⟩
 ·have d8:i<32:=(by omega);have b1:=mX (z.2.2>>>11);have e1:U3.wrap ((Zc U3.bits ((z.2.2.toNat:Int).fdiv (2^(min (11:Int).toNat U3.bits)))&&&Zc U3.bits 3).toNat:Int)=((z.2.2>>>11&&&3).toNat:Int):=by
   rw[aL _ _ (by decide) (by decide)];exact sd _
  refine⟨_,rfl,by omega,?_⟩;refine⟨by rw[e1];omega,by rw[e1,hk];omega,?_⟩;refine⟨_,by rw[e1,Zb];exact r8 (i:=(z.2.2>>>11&&&3).toNat) (by omega),?_⟩;refine⟨[],_,_,_,_,pH rfl (by rw[x7]),rfl,rfl,?_⟩;have b2:=mX (z.2.2-H5);have e2:U3.wrap ((Zc U3.bits (U3.wrap ((z.2.2.toNat:Int)-2654435769))&&&Zc U3.bits 3).toNat:Int)=(((z.2.2-H5)&&&3).toNat:Int):=by
   rw[mE];exact sd _
  refine⟨_,rfl,?_⟩;refine⟨by rw[e2];omega,by rw[e2,hk];omega,?_⟩;refine⟨_,by rw[e2,Zb];exact r8 (i:=((z.2.2-H5)&&&3).toNat) (by omega),?_⟩;refine⟨[],_,_,_,_,pH (aM _ _) (by rw[mE,x7]),rfl,rfl,?_⟩;refine⟨rfl,(i+1,S3 k z),⟨d8,bM hz⟩,by omega,[],⟨rfl,congrArg (vi .u32) (aM _ _),congrArg (vi .u32) (aM _ _),rfl,congrArg (vi .u32) (mE _),f6 (by simp(disch:=omega)only[Za];omega),tq⟩,tq⟩
theorem GF (x:UInt32):(x&&&3).toNat=x.toNat%4:=by
 rw[J5];exact Jn x.toNat 2
abbrev K3 (k:List UInt32) (tag:Int):V:= .q [i64 tag,wz k] 0
theorem pv {tag x y t:Int} {k:List UInt32} {w s a:UInt32} (hk:k.length=4) (hx:x=w.toNat) (hy:y=s.toNat) (ht:t=a.toNat):a9 C 260 [K3 k tag,vi .u32 x,vi .u32 y,vi .u32 t] [] (.ret (u32 (mz w (s+k.getD (a&&&3).toNat 0)))) []:=by
 subst hx;subst hy;subst ht;refine Sx.c ?_;have e:((a.toNat:Int).tmod 4)=((a&&&3).toNat:Int):=by
  rw[GF,Jk (Int.natCast_nonneg _)];rfl
 have b:=mX a;refine⟨by omega,by omega,_,rfl,by decide,?_⟩;refine⟨by rw[e];omega,by rw[e,hk];omega,?_⟩;refine⟨_,by rw[e,Zb];exact r8 (i:=(a&&&3).toNat) (by omega),?_⟩;refine⟨_,rfl,[],congrArg (vi .u32) ?_,tq⟩;rw[mH _ _ (by decide) (by decide),aL _ _ (by decide) (by decide),B5,x7,x7,B5];rfl
theorem Mj {tag x y:Int} {k:List UInt32} {v w:UInt32} (hk:k.length=4) (hx:x=v.toNat) (hy:y=w.toNat):a9 C 217 [K3 k tag,vi .u32 x,vi .u32 y,bool false] []
  (.ret (.t [u32 (it (S4 k) 32 (v,w,0)).1,u32 (it (S4 k) 32 (v,w,0)).2.1])) []:=by
 subst hx;subst hy;refine AT.c ?_;refine nZ (S4 k) (v,w,0) 32 (fun i z=>⟨[(0,K3 k tag),(1,u32 z.1),(2,u32 z.2.1),(10,u32 z.2.2),(11,i64 i)],[]⟩) ⟨[],⟨rfl,rfl,rfl,rfl,rfl,tq⟩,tq⟩ fun i z hi hz=> ?_;refine d9 (fun h=> ?_) (fun h=> ?_)
 ·have d8:i<32:=(by omega);refine⟨[],_,_,_,_,pv hk rfl rfl rfl,rfl,rfl,?_⟩;refine⟨by omega,?_⟩;refine⟨[],_,_,_,_,pv hk (x7 _ _) (iG _) (by rw[iG,aL _ _ (by decide) (by decide)]),rfl,rfl,?_⟩;refine⟨(i+1,S4 k z),⟨d8,bM hz⟩,by omega,[],⟨rfl,congrArg (vi .u32) (x7 _ _),congrArg (vi .u32) (x7 _ _),congrArg (vi .u32) (iG _),f6 (by simp(disch:=omega)only[Za];omega),tq⟩,tq⟩
 ·obtain rfl:i=32:=(by omega);rw[<-hz];exact⟨_,rfl,[],rfl,tq⟩
theorem Mi {tag x y:Int} {k:List UInt32} {v w:UInt32} (hk:k.length=4) (hx:x=v.toNat) (hy:y=w.toNat):a9 C 217 [K3 k tag,vi .u32 x,vi .u32 y,bool true] []
  (.ret (.t [u32 (it (S3 k) 32 (v,w,3337565984)).1,u32 (it (S3 k) 32 (v,w,3337565984)).2.1])) []:=by
 subst hx;subst hy;refine AT.c ?_;refine nZ (· +H5) 0 32 (fun i z=>⟨[(0,K3 k tag),(1,u32 v),(2,u32 w),(10,u32 z),(12,i64 i)],[]⟩) ⟨[],⟨rfl,rfl,rfl,rfl,rfl,tq⟩,tq⟩ fun i z hi hz=> ?_;refine d9 (fun h=> ?_) (fun h=> ?_)
 ·have d8:i<32:=(by omega);refine⟨(i+1,z+H5),⟨d8,bM hz⟩,by omega,[],⟨rfl,rfl,rfl,congrArg (vi .u32) (iG _),f6 (by simp(disch:=omega)only[Za];omega),tq⟩,tq⟩
 obtain rfl:i=32:=(by omega);obtain rfl:z=3337565984:=by rw[hz];decide
 refine nZ (S3 k) (v,w,3337565984) 32 (fun i z=>⟨[(0,K3 k tag),(1,u32 z.1),(2,u32 z.2.1),(10,u32 z.2.2),(13,i64 i)],[]⟩) ⟨[],⟨rfl,rfl,rfl,rfl,rfl,tq⟩,tq⟩ fun i z hi hz=> ?_;refine d9 (fun h=> ?_) (fun h=> ?_)
 ·have d8:i<32:=(by omega);refine⟨by omega,?_⟩;refine⟨[],_,_,_,_,pv hk rfl rfl (by rw[aL _ _ (by decide) (by decide)]),rfl,rfl,?_⟩;refine⟨[],_,_,_,_,pv hk (aM _ _) (mE _) (mE _),rfl,rfl,?_⟩;refine⟨(i+1,S3 k z),⟨d8,bM hz⟩,by omega,[],⟨rfl,congrArg (vi .u32) (aM _ _),congrArg (vi .u32) (aM _ _),congrArg (vi .u32) (mE _),f6 (by simp(disch:=omega)only[Za];omega),tq⟩,tq⟩
 ·obtain rfl:i=32:=(by omega);rw[<-hz];exact⟨_,rfl,[],rfl,tq⟩
def S8 (c:UInt8):Nat:=if 65<=c.toNat then c.toNat-55 else c.toNat-48
def eJ (c:UInt8):Bool:=decide (48<=c.toNat/\c.toNat<=57\/65<=c.toNat/\c.toNat<=70)
theorem uE {c:UInt8} (h:eJ c=true):S8 c<16:=by
 unfold eJ at h;unfold S8;have:=of_decide_eq_true h;split<;>omega
theorem MV {x:Int} {c:UInt8} (hx:x=c.toNat) (h:eJ c=true):a9 C 250 [vi .u8 x] [] (.ret (u32 (Zn (S8 c)))) []:=by
 subst hx;have h':=of_decide_eq_true h;refine Tz.c ?_;refine d9 (fun h1=> ?_) (fun h1=> ?_)
 ·refine⟨_,rfl,[],congrArg (vi .u32) ?_,tq⟩;simp only[wrap_u8,wrap_u32,Jm,S8];split<;>omega
 ·refine⟨_,rfl,[],congrArg (vi .u32) ?_,tq⟩;simp only[wrap_u8,wrap_u32,Jm,S8];split<;>omega
theorem JE {x:Int} {c:UInt8} (hx:x=c.toNat) (h:eJ c=true):a9 C 275 [vi .u8 x] [] (.ret (i64 (S8 c))) []:=by
 subst hx;have h':=of_decide_eq_true h;refine Sd.c ?_;refine d9 (fun h1=> ?_) (fun h1=> ?_)
 ·refine⟨_,rfl,[],f6 ?_,tq⟩;simp only[wrap_u8,IntKind.wrap_i64,S8];split<;>omega
 ·refine⟨_,rfl,[],f6 ?_,tq⟩;simp only[wrap_u8,IntKind.wrap_i64,S8];split<;>omega
def bO:List (Bs):=[[67,52,54,50,65,53,66,57,69,56,68,55,48,51,70,49],[54,56,50,51,57,65,53,67,49,69,52,55,66,68,48,70],[66,51,53,56,50,70,65,68,69,49,55,52,67,57,54,48],[67,56,50,49,68,52,70,54,55,48,65,53,51,69,57,66],[55,70,53,65,56,49,54,68,48,57,51,69,66,52,50,67],[53,68,70,54,57,50,67,65,66,55,56,49,52,51,69,48],[56,69,50,53,54,57,49,67,70,52,66,48,68,65,51,55],[49,55,69,68,48,53,56,51,52,70,65,54,57,67,66,50]]
abbrev L0 (l:Bs):V:= .s (.string ⟨l.toArray⟩)
theorem KW:a9 C 249 [] [] (.ret (.a (bO.map L0))) []:=by
 refine Ty.c ?_;exact⟨by decide,_,rfl,rfl,_,rfl,[],rfl,tq⟩
def vM (x:UInt32) (i:Nat):UInt32:=Zn (S8 ((bO.getD i []).getD (x>>>Zn (4*i)&&&15).toNat 48))<<<Zn (4*i)
def mG (x k:UInt32):UInt32:=E7 ((List.range 8).foldl (fun o i=>o|||vM (x+k) i) 0) 11
theorem Cd:∀i,i<8->∀j,j<16->eJ ((bO.getD i []).getD j 48)=true:=by decide
theorem VS (i:Nat) (h:i<8):(bO.map L0)[i]? =some (L0 (bO.getD i [])):=by
 have:i<bO.length:=h;simp[this]
theorem yf (x:UInt32):(x&&&15).toNat<16:=by
 rw[J5];exact Jz (n:=4) _ (by decide)
theorem Ce (i:Nat) (h:i<8):(bO.getD i []).length=16:=by
 revert h;revert i;decide
theorem oE {l:Bs} {j:Nat} (h:j<l.length):(ByteArray.mk l.toArray).data.toList[j]? =some (l.getD j 48):=by
 simp[List.getD,h]
theorem yE {a b:Int} {x k:UInt32} (ha:a=x.toNat) (hb:b=k.toNat):a9 C 208 [vi .u32 a,vi .u32 b] [] (.ret (u32 (mG x k))) []:=by
 subst ha;subst hb;refine Tw.c ?_;refine⟨[],_,_,_,_,KW,rfl,rfl,?_⟩;refine m5 (fun i=>⟨[(0,u32 (x+k)),(5,u32 ((List.range i).foldl (fun o i=>o|||vM (x+k) i) 0)),(11,.a (bO.map L0)),(12,i64 i)],[]⟩) 8 ⟨[],⟨congrArg (vi .u32) (x7 _ _),rfl,rfl,rfl,tq⟩,tq⟩ fun i hi=> ?_;refine d9 (fun h=> ?_) (fun h=> ?_)
 ·have d8:i<8:=(by omega);refine⟨by omega,by omega,_,by rw[Zb,Zm];exact VS i d8,?_⟩;have e4:I6.wrap (4*(i:Int))=((4*i:Nat):Int):=by simp only[IntKind.wrap_i64];omega
  have e5:((x+k).toNat:Int).fdiv (2^(min (((4*i:Nat):Int)).toNat U3.bits))=(((x+k)>>>Zn (4*i)).toNat:Int):=by
   rw[aL _ _ (by omega) (by omega),Zb]
  have e6:U3.wrap ((Zc U3.bits ((((x+k)>>>Zn (4*i)).toNat:Nat):Int)&&&Zc U3.bits 15).toNat:Int)=(((x+k)>>>Zn (4*i)&&&15).toNat:Int):=wW _ 15;have b:=yf ((x+k)>>>Zn (4*i));have hl:=Ce i d8;refine⟨by rw[e4];omega,by rw[e4,e5,e6];omega,?_,?_⟩
  ·rw[e4,e5,e6];show((((x+k)>>>Zn (4*i)&&&15).toNat:Nat):Int)<(((bO.getD i []).toArray.size:Nat):Int);simp only[List.size_toArray,hl];omega
  refine⟨_,by rw[e4,e5,e6,Zb];exact oE (by omega),?_⟩;refine⟨[],_,_,_,_,MV rfl (Cd i d8 _ b),rfl,rfl,?_⟩;refine⟨by rw[e4];omega,?_⟩;refine⟨i+1,d8,by omega,[],⟨rfl,congrArg (vi .u32) ?_,rfl,f6 (by simp(disch:=omega)only[Za];omega),tq⟩,tq⟩;rw[e4,mH _ _ (by omega) (by omega),se,Zz,J4,Zb];rfl
 ·obtain rfl:i=8:=(by omega);refine⟨[],_,_,_,_,zB rfl (by decide),rfl,rfl,?_⟩;exact⟨_,rfl,[],rfl,tq⟩
theorem JP {n:Int} (h:0<n) (hm:n<=1073741824):a9 C 248 [.s (.slice none 0 0),i64 n] [] (.ret (.o 1 (.k 0) 0 0)) [.sc (wv (Zk n.toNat 0))]:=by
 refine Tr.c ?_;refine d9 (fun h=>absurd h (by omega)) (fun _=> ?_);have e1:I6.wrap (n-I6.wrap (0-((0:Nat):Int)))=n:=by simp only[IntKind.wrap_i64];omega
 refine eW (decide_eq_true (by rw[e1];exact h)) ?_;refine⟨Jh 0,Zp 0,Zp 0,Zp 0,?_⟩;refine⟨by rw[e1];exact h,by rw[e1];exact hm,_,rfl,?_⟩;refine⟨Jh 0,Zp 0,Zp 0,Z6 _,?_⟩;refine⟨_,rfl,[.d 22 0],rfl,⟨_,rfl,g9 ?_⟩,tq⟩;rw[e1];exact a2W _
theorem Ie {n:Nat} {ls:List (List UInt32)} {xs:List V} (hx:xs=ls.map fun l=>wz l) (hn:ls.length=n) (h0:0<ls.flatten.length) (hm:ls.flatten.length<=1073741824) (hn2:n<=1073741824):a9 C 207 [.zz 1 n xs] [] (.ret (.o 1 (.k 0) 0 ls.flatten.length)) [.sc (wv ls.flatten)]:=by
 subst hx;subst hn;have get:∀i,(h:i<ls.length)->(ls.map fun l=>wz l)[i]? =some (wz ls[i]):=fun i h=>by simp[h]
 have stepL:∀i,(h:i<ls.length)->(ls.take (i+1)).flatten=(ls.take i).flatten++ls[i]:=fun i h=>by rw[Zr h,Jw,List.flatten_cons,List.flatten_nil,Z8]
 have le:∀i,(ls.take i).flatten.length<=ls.flatten.length:=fun i=>by
  conv=>rhs;rw[<-Kx i ls,Jw,Ze]
  omega
 refine Tp.c ?_;refine m5 (fun i=>⟨[(0,.zz 1 ls.length (ls.map fun l=>wz l)),(3,i64 (ls.take i).flatten.length),(9,.zz 1 ls.length (ls.map fun l=>wz l)),(10,i64 ls.length),(11,i64 i)],[]⟩) ls.length ⟨[],⟨rfl,rfl,rfl,rfl,rfl,tq⟩,tq⟩ fun i hi=> ?_;refine d9 (fun h=> ?_) (fun h=> ?_)
 ·have d8:i<ls.length:=(by omega);have e:((i:Int)).toNat*1=i:=(by omega);have l1:=le (i+1);rw[stepL i d8,Ze]at l1;have e1:I6.wrap (((ls.take i).flatten.length:Int)+(ls[i].length:Nat))=((ls.take (i+1)).flatten.length:Nat):=by rw[stepL i d8,Ze];simp only[IntKind.wrap_i64];omega
  refine⟨by omega,by omega,?_⟩;refine⟨_,by rw[e];exact get i d8,?_⟩;refine D8 (decide_eq_false (by rw[e1];omega)) ?_;exact⟨i+1,by omega,by omega,[],⟨rfl,f6 e1,rfl,rfl,f6 (by simp(disch:=omega)only[Za];omega),tq⟩,tq⟩
 ·obtain rfl:i=ls.length:=(by omega);refine⟨[],_,_,_,_,JP (n:=ls.flatten.length) (by omega) (by omega),?_,rfl,?_⟩
  ·show[V.s (.slice none 0 0),i64 _]=_;rw[Zq]
  refine⟨Nat×List UInt32,fun x=>⟨[(6,.o 1 (.k 0) 0 (ls.take x.1).flatten.length),(25,.zz 1 ls.length (ls.map fun l=>wz l)),(26,i64 ls.length),(27,i64 x.1)],[.sc (wv ((ls.take x.1).flatten++x.2))]⟩,fun x=>x.1<=ls.length/\(x.1=ls.length->x.2=[]),fun x=>ls.length-x.1,⟨[],(0,Zk ls.flatten.length 0),⟨Z6 _,fun h=> ?_⟩,[.d 24 0],⟨rfl,rfl,rfl,rfl,tq⟩,⟨_,rfl,g9 ?_⟩,tq⟩,?_⟩
  ·exfalso;have:ls=[]:=J8 h.symm;subst this;simp at h0
  ·simp
  rintro ⟨i,z⟩ ⟨hi,hz⟩;simp only at hi hz;refine d9 (fun h=> ?_) (fun h=> ?_)
  ·have d8:i<ls.length:=(by omega);have e:((i:Int)).toNat*1=i:=(by omega);have l1:=le (i+1);rw[stepL i d8,Ze]at l1;refine⟨by omega,by omega,?_⟩;refine⟨_,by rw[e];exact get i d8,?_⟩;refine⟨(by simp[y8,i9,L6,x8,Ze,Zj,Zu,Zv,Zx,Zs,Zw,l4,Zi,Zy,Zo];done),(by simp(disch:=omega)only[Za];omega),(by simp only[y8,i9,L6,x8,Ze,Zj,Zu,Zv,Zx,Zs,Zw,l4,Zi,Zy,Zo];omega),?_⟩;refine⟨(i+1,[]),⟨by omega,fun _=>rfl⟩,(by simp(disch:=omega)only[Za];omega),[.d 33 0],⟨?_,rfl,rfl,f6 (by simp(disch:=omega)only[Za];omega),tq⟩,⟨_,rfl,g9 ?_⟩,tq⟩
   ·show V.o 1 (.k 0) 0 _=V.o 1 (.k 0) 0 _;rw[stepL i d8,Ze]
   ·rw[a2X,mK,stepL i d8];simp[sub]
  ·obtain rfl:i=ls.length:=(by omega);refine⟨_,rfl,[.k 0],?_,⟨_,rfl,g9 ?_⟩,tq⟩
   ·show V.o 1 (.k 0) 0 _=V.o 1 (.k 0) 0 _;rw[Zq]
   ·rw[Zq,hz rfl,Z8]
theorem yL {n:Nat} {ls:List (List UInt32)} {t:List UInt32} {xs:List V} (ht:ls.flatten=t) (hx:xs=ls.map fun l=>wz l) (hn:ls.length=n) (h0:0<t.length) (hm:t.length<=1073741824) (hn2:n<=1073741824:=by first|decide|simp):a9 C 207 [.zz 1 n xs] [] (.ret (.o 1 (.k 0) 0 t.length)) [.sc (wv t)]:=by
 subst ht;exact Ie hx hn h0 hm hn2
theorem pr {n:Nat} {va:List Value} {l:List UInt32} (ha:va=wv l) (hn:l.length=n) (h0:0<n) (hm:n<=1073741824):a9 C 197 [.z n va] [] (.ret (.o 1 (.k 0) 0 n)) [.sc (wv l)]:=by
 subst ha;refine Tn.c ?_;refine .inl ⟨h0,(by simp only[y8,i9,L6,x8,Ze,Zj,Zu,Zv,Zx,Zs,Zw,l4,Zi,Zy,Zo];omega),by omega,by omega,?_⟩;refine⟨_,rfl,[.d 7 0],?_,⟨_,rfl,rfl⟩,tq⟩;show V.o 1 (.k 0) 0 (0+n)=_;rw[Zl]
def aq {α:Type} (l:List α) (i:Nat):List α:=l.mapIdx fun p x=>if p<i\/l.length-i<=p then l.reverse.getD p x else x
theorem fY {α:Type} (l:List α) (i:Nat):(aq l i).length=l.length:=by simp[aq]
theorem DC {α:Type} (l:List α):aq l 0=l:=by
 apply List.ext_getElem (by simp[aq]);intro j h1 h2;simp[aq];omega
theorem rH {α:Type} (l:List α) (i j:Nat) (h:j<l.length):(aq l i)[j]? =some (if j<i\/l.length-i<=j then l[l.length-1-j]else l[j]):=by
 have h2:j<(aq l i).length:=by rw[fY];exact h
 rw[Zf h2];simp only[aq,List.getElem_mapIdx];split
 ·rw[Zd,Zf (by simpa using h),Option.getD_some,Js]
 ·rfl
theorem DA {α:Type} (l:List α) (i:Nat) (h:l.length<=2*i+1):aq l i=l.reverse:=by
 apply Z3;intro j;by_cases hj:j<l.length
 ·rw[rH l i j hj,Ky hj];split
  ·rw[Zf (by omega)]
  ·rw[Zf (by omega)];congr 2;omega
 ·rw[Zg (by rw[fY];omega),Zg (by simp;omega)]
theorem DB {α:Type} (l:List α) (i:Nat) (h:i<l.length-1-i):((aq l i).set i (l[l.length-1-i]'(by omega))).set (l.length-1-i) (l[i]'(by omega))=aq l (i+1):=by
 apply Z3;intro j;by_cases hj:j<l.length
 ·rw[rH l (i+1) j hj,Jr,Jr,rH l i j hj];simp only[Zu,fY];by_cases h1:l.length-1-i=j
  ·subst h1;rw[if_pos rfl,if_pos (by omega),if_pos (by omega)];congr 2;omega
  ·rw[if_neg h1];by_cases h2:i=j
   ·subst h2;rw[if_pos rfl,if_pos (by omega),if_pos (by omega)]
   ·rw[if_neg h2];congr 1;by_cases h3:j<i\/l.length-i<=j
    ·rw[if_pos h3,if_pos (by omega)]
    ·rw[if_neg h3,if_neg (by omega)]
 ·rw[Zg (by simp[fY];omega),Zg (by rw[fY];omega)]
theorem su {l:List UInt32} {j:Nat} {x:UInt32} (h:l[j]? =some x):(wv l)[j]? =some (.int .u32 x.toNat):=by simp[wv,h]
theorem rI {α:Type} (l:List α) (i j:Nat) (h:j<l.length) (h1:i<=j) (h2:j<l.length-i):(aq l i)[j]? =some l[j]:=by
 rw[rH l i j h,if_neg (by omega)]
theorem kE {n:Nat} {l:List UInt32} (hn:l.length=n) (h0:0<n) (hm:n<=1073741824):a9 C 195 [.o 1 (.k 0) 0 n] [.sc (wv l)] (.ret (.t [])) [.sc (wv l.reverse)]:=by
 subst hn;refine Tv.c ?_;refine m5 (fun i=>⟨[(0,.o 1 (.k 0) 0 l.length),(2,i64 i),(3,i64 (l.length-1-i))],[.sc (wv (aq l i))]⟩) l.length ⟨[.k 0],⟨rfl,rfl,f6 (by simp(disch:=omega)only[Za];omega),tq⟩,⟨_,rfl,g9 (by rw[DC])⟩,tq⟩ fun i hi=> ?_;refine d9 (fun h=> ?_) (fun h=> ?_)
 ·have d8:i<l.length-1-i:=(by omega);have e1:0+((l.length:Int)-1-i).toNat*1=l.length-1-i:=(by omega);have e2:0+((i:Int)).toNat*1=i:=(by omega);refine⟨by omega,by omega,_,by rw[e1];exact su (rI l i (l.length-1-i) (by omega) (by omega) (by omega)),?_⟩;refine⟨by omega,by omega,_,by rw[e2];exact su (rI l i i (by omega) (by omega) (by omega)),?_⟩;refine⟨by omega,by omega,by rw[e2,x8,fY];omega,by omega,by omega,by rw[e1,Zu,x8,fY];omega,?_⟩;refine⟨i+1,by omega,by omega,[.k 0],⟨rfl,f6 (by simp(disch:=omega)only[Za];omega),f6 (by simp(disch:=omega)only[Za];omega),tq⟩,⟨_,rfl,g9 ?_⟩,tq⟩;rw[e1,e2,bw,bw,DB l i d8]
 ·refine⟨_,rfl,[.k 0],rfl,⟨_,rfl,g9 ?_⟩,tq⟩;rw[DA l i (by omega)]
def E6 (k:List UInt32):List UInt32:=k++k++k++k.reverse
def T9 (x:UInt32×UInt32) (k:UInt32):UInt32×UInt32:=(x.2,x.1^^^mG x.2 k)
def bP (ks:List UInt32) (v w:UInt32):UInt32×UInt32:=((ks.foldl T9 (v,w)).2,(ks.foldl T9 (v,w)).1)
theorem Cb (k:List UInt32):[k,k,k,k.reverse].flatten=E6 k:=by simp[E6]
theorem cC {α β:Type} (f:β->α->β) (l:List α) (b:β) (i:Nat) (h:i<l.length):(l.take (i+1)).foldl f b=f ((l.take i).foldl f b) l[i]:=by
 rw[Zr h,J4];rfl
theorem KT {tag x y:Int} {k:List UInt32} {v w:UInt32} (hk:k.length=8) (hx:x=v.toNat) (hy:y=w.toNat):a9 C 150 [U0 k tag,vi .u32 x,vi .u32 y,bool false] []
  (.ret (.t [u32 (bP (E6 k) v w).1,u32 (bP (E6 k) v w).2])) []:=by
 subst hx;subst hy;refine AZ.c ?_;refine⟨_,rfl,?_⟩;refine⟨[],_,_,_,_,pr rfl rfl (by omega) (by omega),rfl,rfl,?_⟩;refine⟨[.d 18 0],_,_,_,_,kE (l:=k) hk (by omega) (by omega),?_,rfl,?_⟩
 ·show[V.o 1 (.k 0) 0 k.length]=_;rw[hk]
 refine⟨_,rfl,_,rfl,_,rfl,?_⟩;refine⟨[],_,_,_,_,yL (ls:=[k,k,k,k.reverse]) (Cb k) ?_ rfl (by simp[E6];omega) (by simp[E6];omega),rfl,rfl,?_⟩
 ·show[V.z _ _,V.z _ _,V.z _ _,V.z _ _]=_;rw[C8 (by simp[hk])];simp[hk]
 have hm:(E6 k).length=32:=by simp[E6,hk]
 generalize E6 k=KS at hm ⊢;refine m5 (fun i=>⟨[(1,u32 (((KS.take i).foldl T9 (v,w)).1)),(2,u32 (((KS.take i).foldl T9 (v,w)).2)),(39,.z 32 (wv KS)),(40,i64 32),(41,i64 i)],[]⟩) 32 ⟨[],⟨rfl,rfl,?_,?_,rfl,tq⟩,tq⟩ fun i hi=> ?_
 ·show V.z _ (sub _ _ _)=V.z _ _;rw[C8 rfl,hm]
 ·show i64 _=i64 _;rw[hm];rfl
 refine d9 (fun h=> ?_) (fun h=> ?_)
 ·have d8:i<32:=(by omega);refine⟨by omega,by omega,_,xn (i:=i) (by omega),?_⟩;refine⟨[],_,_,_,_,yE rfl rfl,rfl,rfl,?_⟩;refine⟨i+1,by omega,by omega,[],⟨?_,?_,rfl,rfl,f6 (by simp(disch:=omega)only[Za];omega),tq⟩,tq⟩
  ·rw[cC _ _ _ _ (by omega)];rfl
  ·rw[cC _ _ _ _ (by omega)];exact congrArg (vi .u32) (B5 _ _)
 ·obtain rfl:i=32:=(by omega);rw[<-hm,Zq];exact⟨_,rfl,[],rfl,tq⟩
theorem KU {tag x y:Int} {k:List UInt32} {v w:UInt32} (hk:k.length=8) (hx:x=v.toNat) (hy:y=w.toNat):a9 C 150 [U0 k tag,vi .u32 x,vi .u32 y,bool true] []
  (.ret (.t [u32 (bP (E6 k).reverse v w).1,u32 (bP (E6 k).reverse v w).2])) []:=by
 subst hx;subst hy;refine AZ.c ?_;refine⟨_,rfl,?_⟩;refine⟨[],_,_,_,_,pr rfl rfl (by omega) (by omega),rfl,rfl,?_⟩;refine⟨[.d 18 0],_,_,_,_,kE (l:=k) hk (by omega) (by omega),?_,rfl,?_⟩
 ·show[V.o 1 (.k 0) 0 k.length]=_;rw[hk]
 refine⟨_,rfl,_,rfl,_,rfl,?_⟩;refine⟨[],_,_,_,_,yL (ls:=[k,k,k,k.reverse]) (Cb k) ?_ rfl (by simp[E6];omega) (by simp[E6];omega),rfl,rfl,?_⟩
 ·show[V.z _ _,V.z _ _,V.z _ _,V.z _ _]=_;rw[C8 (by simp[hk])];simp[hk]
 have hm:(E6 k).length=32:=by simp[E6,hk]
 generalize E6 k=K0 at hm ⊢;refine⟨[.d 35 0],_,_,_,_,kE (l:=K0) hm (by omega) (by omega),?_,rfl,?_⟩
 ·show[V.o 1 (.k 0) 0 K0.length]=_;rw[hm]
 have hm':K0.reverse.length=32:=by simp[hm]
 generalize hKS:K0.reverse=KS at hm' ⊢;refine m5 (fun i=>⟨[(1,u32 (((KS.take i).foldl T9 (v,w)).1)),(2,u32 (((KS.take i).foldl T9 (v,w)).2)),(39,.z 32 (wv KS)),(40,i64 32),(41,i64 i)],[]⟩) 32 ⟨[],⟨rfl,rfl,?_,?_,rfl,tq⟩,tq⟩ fun i hi=> ?_
 ·show V.z _ (sub _ _ _)=V.z _ _;rw[C8 (by rw[hm,hm']),hm]
 ·show i64 _=i64 _;rw[hm];rfl
 refine d9 (fun h=> ?_) (fun h=> ?_)
 ·have d8:i<32:=(by omega);refine⟨by omega,by omega,_,xn (i:=i) (by omega),?_⟩;refine⟨[],_,_,_,_,yE rfl rfl,rfl,rfl,?_⟩;refine⟨i+1,by omega,by omega,[],⟨?_,?_,rfl,rfl,f6 (by simp(disch:=omega)only[Za];omega),tq⟩,tq⟩
  ·rw[cC _ _ _ _ (by omega)];rfl
  ·rw[cC _ _ _ _ (by omega)];exact congrArg (vi .u32) (B5 _ _)
 ·obtain rfl:i=32:=(by omega);rw[<-hm',Zq];exact⟨_,rfl,[],rfl,tq⟩
def t3 (l:Bs):UInt32:=(P0 l).toUInt32
def r9 (l:Bs):UInt32:=(P0 l.reverse).toUInt32
def C7 (f:Bs->UInt32) (b:Bs) (k:Nat):List UInt32:=(List.range k).map fun i=>f (sub b (4*i) 4)
theorem T3 (f b k):(C7 f b k).length=k:=by simp[C7]
theorem ss (f b k):C7 f b (k+1)=C7 f b k++[f (sub b (4*k) 4)]:=by simp[C7,Zz]
theorem U1 {α:Type} (l:List α) (a i n:Nat):sub (l.drop a) i n=sub l (a+i) n:=by simp[sub]
theorem Hj (l:Bs) (i:Nat):(bv l).drop i=bv (l.drop i):=by simp[bv,Kk]
theorem a2V (x:UInt32):[Value.int .u32 x.toNat]=wv [x]:=rfl
theorem M0 {α:Type} (l:List α) (i n:Nat) (h:n=l.length-i):sub l i n=l.drop i:=by subst h;simp[sub,Ks]
theorem S2 {l:List UInt32} {n:Nat} {x:UInt32} (h:l.length=n):sub (wv l) 0 n++[Value.int .u32 x.toNat]=wv (l++[x]):=by
 rw[C8 h,a2V,mK]
theorem pw {n m:Nat} {va:List Value} {b:Bs} (ha:va=bv b) (hn:b.length=n) (h4:n=4*m) (h0:0<m) (hm:n<=1073741824):a9 C 147 [.z n va,bool false] [] (.ret (.o 1 (.k 0) 0 m)) [.sc (wv (C7 t3 b m))]:=by
 subst ha;subst h4;refine Bc.c ?_;refine D6 (fun i=>⟨[(0,.z (4*(m-i)) (bv (b.drop (4*i)))),(1,bool false),(5,.o 1 (.k 0) 0 i)],[.sc (wv (C7 t3 b i))]⟩) m [(5,1,.sc [])] ⟨[.d 900000 0],⟨rfl,rfl,rfl,tq⟩,⟨_,rfl,rfl⟩,tq⟩ fun i hi=> ?_;refine d9 (fun h=> ?_) (fun h=> ?_)
 ·have d8:i<m:=(by omega);refine⟨by omega,by omega,by omega,by omega,by omega,?_⟩;have e:sub (bv (b.drop (4*i))) 0 4=bv (sub b (4*i) 4):=by rw[m8,U1];rfl
  have el:(sub b (4*i) 4).length=4:=by rw[l4];omega
  refine⟨[],_,_,_,_,tE e el rfl,rfl,rfl,?_⟩;refine⟨Zp _,by omega,by rw[x8,T3];omega,?_⟩;refine⟨by omega,by omega,by omega,by omega,?_⟩;refine⟨i+1,by omega,by omega,[.d 29 0],⟨?_,rfl,rfl,tq⟩,⟨_,rfl,g9 ?_⟩,tq⟩
  ·show V.z (4*(m-i)-4) (sub _ 4 (4*(m-i)-4))=_;rw[m8,U1,M0 _ _ _ (by omega)];rw[show 4*(m-i)-4=4*(m-(i+1)) by omega,show 4*i+4=4*(i+1) by omega]
  ·rw[ss];exact S2 (by rw[T3];omega)
 ·obtain rfl:i=m:=(by omega);exact⟨_,rfl,[.k 0],rfl,⟨_,rfl,rfl⟩,tq⟩
theorem ze {n m:Nat} {va:List Value} {b:Bs} (ha:va=bv b) (hn:b.length=n) (h4:n=4*m) (h0:0<m) (hm:n<=1073741824):a9 C 147 [.z n va,bool true] [] (.ret (.o 1 (.k 0) 0 m)) [.sc (wv (C7 r9 b m))]:=by
 subst ha;subst h4;refine Bc.c ?_;refine D6 (fun i=>⟨[(0,.z (4*(m-i)) (bv (b.drop (4*i)))),(1,bool true),(5,.o 1 (.k 0) 0 i)],[.sc (wv (C7 r9 b i))]⟩) m [(5,1,.sc [])] ⟨[.d 900000 0],⟨rfl,rfl,rfl,tq⟩,⟨_,rfl,rfl⟩,tq⟩ fun i hi=> ?_;refine d9 (fun h=> ?_) (fun h=> ?_)
 ·have d8:i<m:=(by omega);refine⟨by omega,by omega,by omega,by omega,by omega,?_⟩;have e:sub (bv (b.drop (4*i))) 0 4=bv (sub b (4*i) 4):=by rw[m8,U1];rfl
  have el:(sub b (4*i) 4).length=4:=by rw[l4];omega
  refine⟨[],_,_,_,_,tE e el rfl,rfl,rfl,?_⟩;refine⟨by omega,by omega,by omega,by omega,by omega,?_⟩;refine⟨[],_,_,_,_,dq e el rfl,rfl,rfl,?_⟩;refine⟨Zp _,by omega,by rw[x8,T3];omega,?_⟩;refine⟨by omega,by omega,by omega,by omega,?_⟩;refine⟨i+1,by omega,by omega,[.d 29 0],⟨?_,rfl,rfl,tq⟩,⟨_,rfl,g9 ?_⟩,tq⟩
  ·show V.z (4*(m-i)-4) (sub _ 4 (4*(m-i)-4))=_;rw[m8,U1,M0 _ _ _ (by omega)];rw[show 4*(m-i)-4=4*(m-(i+1)) by omega,show 4*i+4=4*(i+1) by omega]
  ·rw[ss];exact S2 (by rw[T3];omega)
 ·obtain rfl:i=m:=(by omega);exact⟨_,rfl,[.k 0],rfl,⟨_,rfl,rfl⟩,tq⟩
theorem pG {n m:Nat} {va:List Value} {b:Bs} (ha:va=bv b) (hn:b.length=n) (h4:n=4*m) (h0:0<m) (hm:n<=1073741824):a9 C 115 [.z n va] [] (.ret (.o 1 (.k 0) 0 m)) [.sc (wv (C7 t3 b m))]:=by
 subst ha;subst h4;refine Sy.c ?_;refine D6 (fun i=>⟨[(0,.z (4*m) (bv b)),(3,.o 1 (.k 0) 0 i),(4,i64 (4*i:Nat))],[.sc (wv (C7 t3 b i))]⟩) m [(3,1,.sc [])] ⟨[.d 900000 0],⟨rfl,rfl,rfl,tq⟩,⟨_,rfl,rfl⟩,tq⟩ fun i hi=> ?_;refine d9 (fun h=> ?_) (fun h=> ?_)
 ·have d8:i<m:=(by omega);refine⟨(by simp(disch:=omega)only[Za];omega),by omega,(by simp(disch:=omega)only[Za];omega),by omega,(by simp(disch:=omega)only[Za];omega),?_⟩;have e:(I6.wrap (((4*i:Nat):Int)+4)).toNat-(((4*i:Nat):Int)).toNat=4:=by simp only[IntKind.wrap_i64];omega
  rw[e,Zb];have el:(sub b (4*i) 4).length=4:=by rw[l4];omega
  refine⟨[],_,_,_,_,HR (l:=sub b (4*i) 4) (m8 _ _ _) el (by decide),rfl,rfl,?_⟩;refine⟨Zp _,by omega,by rw[x8,T3];omega,?_⟩;refine⟨i+1,by omega,by omega,[.d 20 0],⟨rfl,rfl,f6 (by simp(disch:=omega)only[Za];omega),tq⟩,⟨_,rfl,g9 ?_⟩,tq⟩;rw[ss,mI];exact S2 (by rw[T3];omega)
 ·obtain rfl:i=m:=(by omega);exact⟨_,rfl,[.k 0],rfl,⟨_,rfl,rfl⟩,tq⟩
theorem zu {n m:Nat} {va:List Value} {b:Bs} (ha:va=bv b) (hn:b.length=n) (h4:n=4*m) (h0:0<m) (hm:n<=1073741824):a9 C 174 [.z n va] [] (.ret (.o 1 (.k 0) 0 m)) [.sc (wv (C7 r9 b m))]:=by
 subst ha;subst h4;refine Sz.c ?_;refine D6 (fun i=>⟨[(0,.z (4*m) (bv b)),(3,.o 1 (.k 0) 0 i),(4,i64 (4*i:Nat))],[.sc (wv (C7 r9 b i))]⟩) m [(3,1,.sc [])] ⟨[.d 900000 0],⟨rfl,rfl,rfl,tq⟩,⟨_,rfl,rfl⟩,tq⟩ fun i hi=> ?_;refine d9 (fun h=> ?_) (fun h=> ?_)
 ·have d8:i<m:=(by omega);refine⟨(by simp(disch:=omega)only[Za];omega),by omega,(by simp(disch:=omega)only[Za];omega),by omega,(by simp(disch:=omega)only[Za];omega),?_⟩;have e:(I6.wrap (((4*i:Nat):Int)+4)).toNat-(((4*i:Nat):Int)).toNat=4:=by simp only[IntKind.wrap_i64];omega
  rw[e,Zb];have el:(sub b (4*i) 4).length=4:=by rw[l4];omega
  refine⟨[],_,_,_,_,fp (l:=sub b (4*i) 4) (m8 _ _ _) el (by decide),rfl,rfl,?_⟩;refine⟨Zp _,by omega,by rw[x8,T3];omega,?_⟩;refine⟨i+1,by omega,by omega,[.d 20 0],⟨rfl,rfl,f6 (by simp(disch:=omega)only[Za];omega),tq⟩,⟨_,rfl,g9 ?_⟩,tq⟩;rw[ss,mI];exact S2 (by rw[T3];omega)
 ·obtain rfl:i=m:=(by omega);exact⟨_,rfl,[.k 0],rfl,⟨_,rfl,rfl⟩,tq⟩
theorem a2x (a b:UInt32):((a.toNat:Int).tmod (b.toNat:Int))=((a%b).toNat:Int):=by
 rw[UInt32.toNat_mod,<-Int.ofNat_tmod]
theorem V9 (a:UInt32):((a.toNat:Int).tmod 32)=((a%32).toNat:Int):=a2x a 32
theorem eO (a:UInt32):(a%32).toNat<32:=by
 rw[UInt32.toNat_mod];exact Z4 _ (by decide)
theorem aj (a b:Nat):((a:Int).tmod (b:Int))=((a%b:Nat):Int):=by rw[<-Int.ofNat_tmod]
theorem bd {C:m6} {rt:Rt} {m:Nat} {c:Code} {s:S} {K:X->S->Prop} (l:Nat) {p q:Code} (hs:I3 c l=some (p,q)) (n:Nat) (I:Nat->D) (h0:vc C rt m p s fun e s'=>match e with
   | .normal=>∃(l:List (Nat×Nat×B)) (y:Nat),y<n/\ak l 0 s' fun s'=>Mt m s' (I y)
   | .goto l'=>l'=l/\∃y:Nat,y<n/\Mt m s' (I y)
   |e=>K e s') (h:∀i,i<n->vc C rt m q (I i).s fun e s'=>match e with
   | .goto l'=>l'=l/\∃y:Nat,y<n/\n-y<n-i/\Mt m s' (I y)
   |e=>K e s'):jB C rt m c s K:=
 ⟨l,Nat,I,fun x=>x<n,fun x=>n-x,by rw[hs];exact⟨h0,h⟩⟩
def jj:UInt32:=3084996963
def eG (n:Nat):List UInt32:=(List.range n).map fun i=>jj+Zn i*H5
theorem nR (n):(eG n).length=n:=by simp[eG]
theorem Bu (n):eG (n+1)=eG n++[jj+Zn n*H5]:=by simp[eG,Zz]
theorem UZ (n i) (h:i<n):(eG n)[i]? =some (jj+Zn i*H5):=by simp[eG,h]
theorem Vd (n:Nat):jj+Zn n*H5+H5=jj+Zn (n+1)*H5:=by
 rw[UInt32.add_assoc,UInt32.ofNat_add,UInt32.add_mul,show Zn 1*H5=H5 by decide]
abbrev GS:=List UInt32×List UInt32×UInt32×UInt32
def gA (i:Nat) (x:GS):UInt32:=E7 (x.1.getD (i%26) 0+x.2.2.1+x.2.2.2) 3
def gB (i:Nat) (x:GS):UInt32:=E7 (x.2.1.getD (i%4) 0+gA i x+x.2.2.2) ((gA i x+x.2.2.2)%32).toNat
def vo (x:GS) (i:Nat):GS:=(x.1.set (i%26) (gA i x),x.2.1.set (i%4) (gB i x),gA i x,gB i x)
def z6 (l:List UInt32) (n:Nat):GS:=(List.range n).foldl vo (eG 26,l,0,0)
theorem dv (l n):z6 l (n+1)=vo (z6 l n) n:=by simp[z6,Zz]
theorem nQ (l n):(z6 l n).1.length=26/\(z6 l n).2.1.length=l.length:=by
 induction n with
 |zero=>exact⟨nR 26,rfl⟩
 |succ n ih=>rw[dv];simp[vo,ih]
theorem bG {x n:Int} {v:UInt32} {k:Nat} (hx:x=v.toNat) (hn:n%32=k) (hb: -9223372036854775808<=n/\n<=9223372036854775807):a9 C 138 [vi .u32 x,i64 n] [] (.ret (u32 (E7 v k))) []:=by
 have h:=zB hx hb;rw[hn]at h;exact h
theorem U4 {x n:Int} {v:UInt32} {k:Nat} (hx:x=v.toNat) (hn:n%32=k) (hb: -9223372036854775808<=n/\n<=9223372036854775807):a9 C 169 [vi .u32 x,i64 n] [] (.ret (u32 (E7 v k))) []:=by
 have h:=LC hx hb;rw[hn]at h;exact h
theorem JM {l:List UInt32} (hl:l.length=4):a9 C 148 [.o 1 (.k 0) 0 4] [.sc (wv l)] (.ret (.o 1 (.k 1) 0 26)) [.sc (wv (z6 l 78).2.1),.sc (wv (z6 l 78).1)]:=by
 refine Tx.c ?_;refine bd 0 rfl 78 (fun i=>⟨[(0,.o 1 (.k 0) 0 4),(3,.o 1 (.k 1) 0 26),(4,u32 (z6 l i).2.2.1),(5,u32 (z6 l i).2.2.2),(6,i64 i)],[.sc (wv (z6 l i).2.1),.sc (wv (z6 l i).1)]⟩) ?_ fun i hi=> ?_
 ·refine m5 (fun i=>⟨[(0,.o 1 (.k 0) 0 4),(3,.o 1 (.k 1) 0 (i+1))],[.sc (wv l),.sc (wv (eG (i+1)))]⟩) 25 ⟨[.k 0,.d 9 0],⟨rfl,rfl,tq⟩,⟨_,rfl,rfl⟩,⟨_,rfl,rfl⟩,tq⟩ fun i hi=> ?_;refine d9 (fun h=> ?_) (fun h=> ?_)
  ·have e:(I6.wrap (((i+1:Nat):Int)-1))=(i:Int):=by simp only[IntKind.wrap_i64];omega
   refine⟨by rw[e];omega,by rw[e];omega,?_⟩;refine⟨_,by rw[e,Zb,Zm,Zl];exact su (UZ (i+1) i (by omega)),?_⟩;refine⟨Zp _,by omega,by rw[x8,nR];omega,?_⟩;refine⟨i+1,by omega,by omega,[.k 0,.d 22 0],⟨rfl,rfl,tq⟩,⟨_,rfl,rfl⟩,⟨_,rfl,g9 ?_⟩,tq⟩;rw[Bu (i+1),<-Vd,iG];exact S2 (by rw[nR];omega)
  ·obtain rfl:i=25:=(by omega);exact⟨[],0,by omega,[.k 0,.k 1],⟨rfl,rfl,rfl,rfl,rfl,tq⟩,⟨_,rfl,rfl⟩,⟨_,rfl,rfl⟩,tq⟩
 ·obtain⟨l1,l2⟩:=nQ l i;have e1:((i:Int).tmod 26)=((i%26:Nat):Int):=aj i 26;have e2:((i:Int).tmod ((4:Nat):Int))=((i%4:Nat):Int):=aj i 4;have b1:i%26<26:=Z4 _ (by omega);have b2:i%4<4:=Z4 _ (by omega);refine⟨by decide,by decide,?_⟩;refine⟨by rw[e1];omega,by rw[e1];omega,?_⟩;refine⟨_,by rw[e1,Zb,Zm,Zl];exact r8 (by omega),?_⟩;refine⟨[],_,_,_,_,bG (v:=(z6 l i).1.getD (i%26) 0+(z6 l i).2.2.1+(z6 l i).2.2.2) (k:=3) (by rw[x7,x7]) (by decide) (by decide),rfl,rfl,?_⟩;refine⟨by rw[e1];omega,by rw[e1];omega,by rw[e1,x8];omega,?_⟩;refine⟨by rw[e2];omega,by rw[e2];omega,?_⟩;refine⟨_,by rw[e2,Zb,Zm,Zl];exact r8 (by omega),?_⟩;refine⟨by decide,?_⟩;have e3:((U3.wrap (((gA i (z6 l i)).toNat:Int)+((z6 l i).2.2.2.toNat:Int))).tmod 32)=(((gA i (z6 l i)+(z6 l i).2.2.2)%32).toNat:Int):=by rw[x7,V9]
  have b3:=eO (gA i (z6 l i)+(z6 l i).2.2.2);refine⟨[],_,_,_,_,bG (v:=(z6 l i).2.1.getD (i%4) 0+gA i (z6 l i)+(z6 l i).2.2.2) (k:=((gA i (z6 l i)+(z6 l i).2.2.2)%32).toNat) (by rw[x7];exact x7 _ _) (by erw [e3];rw[R9];omega) (by erw [e3];rw[R9];omega),rfl,rfl,?_⟩;refine⟨by rw[e2];omega,by rw[e2];omega,by rw[e2,x8];omega,?_⟩;refine d9 (fun h=> ?_) (fun h=> ?_)
  ·refine⟨rfl,i+1,by simp only[IntKind.wrap_i64]at h;omega,by omega,[.k 0,.k 1],⟨rfl,rfl,?_,?_,f6 (by simp(disch:=omega)only[Za];omega),tq⟩,⟨_,rfl,g9 ?_⟩,⟨_,rfl,g9 ?_⟩,tq⟩
   ·rw[dv];rfl
   ·rw[dv];rfl
   ·rw[e2,Zb,Zm,Zl,bw,dv];rfl
   ·rw[e1,Zb,Zm,Zl,bw,dv];rfl
  ·have e78:78=i+1:=by simp only[IntKind.wrap_i64]at h;omega
   refine⟨_,rfl,[.k 0,.k 1],rfl,⟨_,rfl,g9 ?_⟩,⟨_,rfl,g9 ?_⟩,tq⟩
   ·rw[e2,Zb,Zm,Zl,bw,e78,dv];rfl
   ·rw[e1,Zb,Zm,Zl,bw,e78,dv];rfl
theorem FZ {l:List UInt32} {i:Nat} {x:UInt32} (h:i<l.length):(wv (l.set i x))[i]? =some (.int .u32 x.toNat):=su (by simp[h])
theorem Mh {va:List Value} {key:Bs} (ha:va=bv key) (hk:key.length=16):a9 C 114 [.z 16 va] [] (.ret (.o 1 (.k 0) 0 26)) [.sc (wv (z6 (C7 r9 key 4) 78).1)]:=by
 refine Ta.c ?_;refine⟨[],_,_,_,_,zu (m:=4) ha hk rfl (by decide) (by decide),rfl,rfl,?_⟩;have hl:(C7 r9 key 4).length=4:=T3 _ _ _;generalize C7 r9 key 4=l at hl ⊢;refine D6 (fun i=>⟨[(3,.o 1 (.k 0) 0 4),(4,.o 1 (.k 1) 0 i),(5,i64 i)],[.sc (wv l),.sc (wv (eG i))]⟩) 26 [(4,1,.sc [])] ⟨[.d 10 0,.d 900000 0],⟨rfl,rfl,rfl,tq⟩,⟨_,rfl,rfl⟩,⟨_,rfl,rfl⟩,tq⟩ fun i hi=> ?_;refine d9 (fun h=> ?_) (fun h=> ?_)
 ·have d8:i<26:=(by omega);refine⟨Zp _,by omega,by rw[x8,nR];omega,?_⟩;refine⟨i+1,by omega,by omega,[.k 0,.d 21 0],⟨rfl,rfl,f6 (by simp(disch:=omega)only[Za];omega),tq⟩,⟨_,rfl,rfl⟩,⟨_,rfl,g9 ?_⟩,tq⟩;have e:U3.wrap ((3084996963:Int)+U3.wrap (U3.wrap (i:Int)*2654435769))=((jj+Zn i*H5).toNat:Int):=by
   rw[Cx i,show(2654435769:Int)=((H5).toNat:Int) from rfl,jJ,show(3084996963:Int)=((jj).toNat:Int) from rfl,x7]
  rw[Bu,e];exact S2 (by rw[nR,Zm])
 obtain rfl:i=26:=(by omega);refine m5 (fun i=>⟨[(3,.o 1 (.k 0) 0 4),(4,.o 1 (.k 1) 0 26),(6,u32 (z6 l i).2.2.1),(7,u32 (z6 l i).2.2.2),(8,i64 i)],[.sc (wv (z6 l i).2.1),.sc (wv (z6 l i).1)]⟩) 78 ⟨[.k 0,.k 1],⟨rfl,rfl,rfl,rfl,rfl,tq⟩,⟨_,rfl,rfl⟩,⟨_,rfl,rfl⟩,tq⟩ fun i hi=> ?_;refine d9 (fun h=> ?_) (fun h=> ?_)
 ·have d8:i<78:=(by omega);obtain⟨l1,l2⟩:=nQ l i;have e1:((i:Int).tmod 26)=((i%26:Nat):Int):=aj i 26;have e2:((i:Int).tmod 4)=((i%4:Nat):Int):=aj i 4;have b1:i%26<26:=Z4 _ (by omega);have b2:i%4<4:=Z4 _ (by omega);refine⟨by decide,by decide,by rw[e1];omega,by rw[e1];omega,?_⟩;refine⟨_,by rw[e1,Zb,Zm,Zl];exact r8 (by omega),?_⟩;refine⟨[],_,_,_,_,U4 (v:=(z6 l i).1.getD (i%26) 0+(z6 l i).2.2.1+(z6 l i).2.2.2) (k:=3) (by rw[x7,x7]) (by decide) (by decide),rfl,rfl,?_⟩;refine⟨by rw[e1];omega,by rw[e1];omega,by rw[e1,x8];omega,?_⟩;refine⟨by decide,by rw[e1];omega,by rw[e1];omega,?_⟩;refine⟨_,by rw[e1,Zb,Zm,Zl,bw];exact FZ (by omega),?_⟩;refine⟨by decide,by decide,by rw[e2];omega,by rw[e2];omega,?_⟩;refine⟨_,by rw[e2,Zb,Zm,Zl];exact r8 (by omega),?_⟩;refine⟨by decide,?_⟩;have e3:((U3.wrap (((gA i (z6 l i)).toNat:Int)+((z6 l i).2.2.2.toNat:Int))).tmod 32)=(((gA i (z6 l i)+(z6 l i).2.2.2)%32).toNat:Int):=by rw[x7,V9]
  have b3:=eO (gA i (z6 l i)+(z6 l i).2.2.2);refine⟨[],_,_,_,_,U4 (v:=(z6 l i).2.1.getD (i%4) 0+gA i (z6 l i)+(z6 l i).2.2.2) (k:=((gA i (z6 l i)+(z6 l i).2.2.2)%32).toNat) (by rw[x7];exact x7 _ _) (by erw [e3];rw[R9];omega) (by erw [e3];rw[R9];omega),rfl,rfl,?_⟩;refine⟨by rw[e2];omega,by rw[e2];omega,by rw[e2,x8];omega,?_⟩;refine⟨by decide,by rw[e2];omega,by rw[e2];omega,?_⟩;refine⟨_,by rw[e2,Zb,Zm,Zl,bw];exact FZ (by omega),?_⟩;refine⟨i+1,by omega,by omega,[.k 0,.k 1],⟨rfl,rfl,?_,?_,f6 (by simp(disch:=omega)only[Za];omega),tq⟩,⟨_,rfl,g9 ?_⟩,⟨_,rfl,g9 ?_⟩,tq⟩
  ·rw[dv];rfl
  ·rw[dv];rfl
  ·rw[e2,Zb,Zm,Zl,bw,dv];rfl
  ·rw[e1,Zb,Zm,Zl,bw,dv];rfl
 ·have e78:i=78:=(by omega);rw[e78];exact⟨_,rfl,[.k 1],rfl,⟨_,rfl,rfl⟩,tq⟩
abbrev W2:=UInt32×UInt32
def rA (s:List UInt32) (r:Nat) (x:W2):UInt32:=E7 (x.1^^^x.2) (x.2%32).toNat+s.getD (2*r+2) 0
def iy (s:List UInt32) (x:W2) (r:Nat):W2:=(rA s r x,E7 (x.2^^^rA s r x) (rA s r x%32).toNat+s.getD (2*r+3) 0)
def rB (s:List UInt32) (r:Nat) (x:W2):UInt32:=E7 (x.2-s.getD (2*r+3) 0) ((32-(x.1%32).toNat)%32)^^^x.1
def ix (s:List UInt32) (x:W2) (r:Nat):W2:=(E7 (x.1-s.getD (2*r+2) 0) ((32-(rB s r x%32).toNat)%32)^^^rB s r x,rB s r x)
def D7 (s:List UInt32) (p:W2) (n:Nat):W2:=(List.range n).foldl (iy s) (p.1+s.getD 0 0,p.2+s.getD 1 0)
def F7 (s:List UInt32) (p:W2) (n:Nat):W2:=(List.range n).foldl (fun x r=>ix s x (11-r)) p
theorem rE (s p n):D7 s p (n+1)=iy s (D7 s p n) n:=by simp[D7,Zz]
theorem rC (s p n):F7 s p (n+1)=ix s (F7 s p n) (11-n):=by simp[F7,Zz]
theorem Ms {tag x y:Int} {k:List UInt32} {v w:UInt32} (hk:k.length=26) (hx:x=v.toNat) (hy:y=w.toNat):a9 C 151 [U0 k tag,vi .u32 x,vi .u32 y,bool false] []
  (.ret (.t [u32 (D7 k (v,w) 12).1,u32 (D7 k (v,w) 12).2])) []:=by
 subst hx;subst hy;refine Ba.c ?_;refine⟨_,rfl,?_⟩;refine⟨by decide,by omega,?_⟩;refine⟨_,r8 (i:=0) (by omega),?_⟩;refine⟨by decide,by omega,?_⟩;refine⟨_,r8 (i:=1) (by omega),?_⟩;refine m5 (fun i=>⟨[(1,u32 (D7 k (v,w) i).1),(2,u32 (D7 k (v,w) i).2),(10,wz k),(11,i64 (2*i+2:Nat))],[]⟩) 12 ⟨[],⟨congrArg (vi .u32) (x7 _ _),congrArg (vi .u32) (x7 _ _),rfl,rfl,tq⟩,tq⟩ fun i hi=> ?_;refine d9 (fun h=> ?_) (fun h=> ?_)
 ·have d8:i<12:=(by omega);have b1:=eO (D7 k (v,w) i).2;have b2:=eO (rA k i (D7 k (v,w) i));refine⟨by decide,?_⟩;refine⟨[],_,_,_,_,bG (v:=(D7 k (v,w) i).1^^^(D7 k (v,w) i).2) (k:=((D7 k (v,w) i).2%32).toNat) (B5 _ _) (by rw[V9,R9];omega) (by rw[V9,R9];omega),rfl,rfl,?_⟩;refine⟨by omega,by omega,?_⟩;refine⟨_,r8 (i:=2*i+2) (by omega),by decide,?_⟩;have e3:U3.wrap (((E7 ((D7 k (v,w) i).1^^^(D7 k (v,w) i).2) ((D7 k (v,w) i).2%32).toNat).toNat:Int)+((k.getD (2*i+2) 0).toNat:Int))=((rA k i (D7 k (v,w) i)).toNat:Int):=x7 _ _;have e4:(I6.wrap (((2*i+2:Nat):Int)+1)).toNat=2*i+3:=(by simp(disch:=omega)only[Za];omega);refine⟨[],_,_,_,_,bG (v:=(D7 k (v,w) i).2^^^rA k i (D7 k (v,w) i)) (k:=(rA k i (D7 k (v,w) i)%32).toNat) (by rw[e3,B5]) (by rw[e3,V9,R9];omega) (by rw[e3,V9,R9];omega),rfl,rfl,?_⟩;refine⟨by omega,by omega,?_⟩;refine⟨_,by rw[e4];exact r8 (i:=2*i+3) (by omega),?_⟩;refine⟨i+1,by omega,by omega,[],⟨?_,?_,rfl,f6 (by simp(disch:=omega)only[Za];omega),tq⟩,tq⟩
  ·rw[rE];exact congrArg (vi .u32) e3
  ·rw[rE];exact congrArg (vi .u32) (x7 _ _)
 ·obtain rfl:i=12:=(by omega);exact⟨_,rfl,[],rfl,tq⟩
theorem Mr {tag x y:Int} {k:List UInt32} {v w:UInt32} (hk:k.length=26) (hx:x=v.toNat) (hy:y=w.toNat):a9 C 151 [U0 k tag,vi .u32 x,vi .u32 y,bool true] []
  (.ret (.t [u32 ((F7 k (v,w) 12).1-k.getD 0 0),u32 ((F7 k (v,w) 12).2-k.getD 1 0)])) []:=by
 subst hx;subst hy;refine Ba.c ?_;refine⟨_,rfl,?_⟩;refine m5 (fun i=>⟨[(1,u32 (F7 k (v,w) i).1),(2,u32 (F7 k (v,w) i).2),(10,wz k),(12,i64 (24-2*i))],[]⟩) 12 ⟨[],⟨rfl,rfl,rfl,rfl,tq⟩,tq⟩ fun i hi=> ?_;refine d9 (fun h=> ?_) (fun h=> ?_)
 ·have d8:i<12:=(by omega);have b1:=eO (F7 k (v,w) i).1;have b2:=eO (rB k (11-i) (F7 k (v,w) i));have e4:(I6.wrap ((24:Int)-2*i+1)).toNat=2*(11-i)+3:=(by simp(disch:=omega)only[Za];omega);have e5:((24:Int)-2*i).toNat=2*(11-i)+2:=(by omega);refine⟨by omega,by omega,?_⟩;refine⟨_,by rw[e4];exact r8 (i:=2*(11-i)+3) (by omega),?_⟩;refine⟨by decide,?_⟩;refine⟨[],_,_,_,_,bG (v:=(F7 k (v,w) i).2-k.getD (2*(11-i)+3) 0) (k:=(32-((F7 k (v,w) i).1%32).toNat)%32) (aM _ _) (by rw[V9,R9];simp only[IntKind.wrap_i64];omega) (by rw[V9,R9];simp only[IntKind.wrap_i64];omega),rfl,rfl,?_⟩;have e3:U3.wrap ((Zc U3.bits ((E7 ((F7 k (v,w) i).2-k.getD (2*(11-i)+3) 0) ((32-((F7 k (v,w) i).1%32).toNat)%32)).toNat:Int)^^^Zc U3.bits ((F7 k (v,w) i).1.toNat:Int)).toNat:Int)=((rB k (11-i) (F7 k (v,w) i)).toNat:Int):=B5 _ _;refine⟨by omega,by omega,?_⟩;refine⟨_,by rw[e5];exact r8 (i:=2*(11-i)+2) (by omega),?_⟩;refine⟨by decide,?_⟩;refine⟨[],_,_,_,_,bG (v:=(F7 k (v,w) i).1-k.getD (2*(11-i)+2) 0) (k:=(32-(rB k (11-i) (F7 k (v,w) i)%32).toNat)%32) (aM _ _) (by rw[e3,V9,R9];simp only[IntKind.wrap_i64];omega) (by rw[e3,V9,R9];simp only[IntKind.wrap_i64];omega),rfl,rfl,?_⟩;refine⟨i+1,by omega,by omega,[],⟨?_,?_,rfl,f6 (by simp(disch:=omega)only[Za];omega),tq⟩,tq⟩
  ·rw[rC,e3];exact congrArg (vi .u32) (B5 _ _)
  ·rw[rC];exact congrArg (vi .u32) e3
 ·obtain rfl:i=12:=(by omega);refine⟨by decide,by omega,?_⟩;refine⟨_,r8 (i:=0) (by omega),?_⟩;refine⟨by decide,by omega,?_⟩;refine⟨_,r8 (i:=1) (by omega),?_⟩;refine⟨_,rfl,[],?_,tq⟩;show V.t [vi .u32 _,vi .u32 _]=_;rw[aM,aM]
theorem Mf {tag x y:Int} {k:List UInt32} {v w:UInt32} (hk:k.length=26) (hx:x=v.toNat) (hy:y=w.toNat):a9 C 216 [K3 k tag,vi .u32 x,vi .u32 y,bool false] []
  (.ret (.t [u32 (D7 k (v,w) 12).1,u32 (D7 k (v,w) 12).2])) []:=by
 subst hx;subst hy;refine AS.c ?_;refine⟨_,rfl,by decide,by omega,?_⟩;refine⟨_,r8 (i:=0) (by omega),?_⟩;refine⟨_,rfl,by decide,by omega,?_⟩;refine⟨_,r8 (i:=1) (by omega),?_⟩;refine m5 (fun i=>⟨[(0,K3 k tag),(1,u32 (D7 k (v,w) i).1),(2,u32 (D7 k (v,w) i).2),(10,i64 (i+1:Nat))],[]⟩) 12 ⟨[],⟨rfl,congrArg (vi .u32) (x7 _ _),congrArg (vi .u32) (x7 _ _),rfl,tq⟩,tq⟩ fun i hi=> ?_;refine d9 (fun h=> ?_) (fun h=> ?_)
 ·have d8:i<12:=(by omega);have b1:=eO (D7 k (v,w) i).2;have b2:=eO (rA k i (D7 k (v,w) i));have e4:(I6.wrap (2*((i+1:Nat):Int))).toNat=2*i+2:=(by simp(disch:=omega)only[Za];omega);have e5:(I6.wrap (I6.wrap (2*((i+1:Nat):Int))+1)).toNat=2*i+3:=(by simp(disch:=omega)only[Za];omega);refine⟨by decide,?_⟩;refine⟨[],_,_,_,_,U4 (v:=(D7 k (v,w) i).1^^^(D7 k (v,w) i).2) (k:=((D7 k (v,w) i).2%32).toNat) (B5 _ _) (by rw[V9,R9];omega) (by rw[V9,R9];omega),rfl,rfl,?_⟩;refine⟨_,rfl,by omega,by omega,?_⟩;refine⟨_,by rw[e4];exact r8 (i:=2*i+2) (by omega),?_⟩;refine⟨by decide,?_⟩;have e3:U3.wrap (((E7 ((D7 k (v,w) i).1^^^(D7 k (v,w) i).2) ((D7 k (v,w) i).2%32).toNat).toNat:Int)+((k.getD (2*i+2) 0).toNat:Int))=((rA k i (D7 k (v,w) i)).toNat:Int):=x7 _ _;refine⟨[],_,_,_,_,U4 (v:=(D7 k (v,w) i).2^^^rA k i (D7 k (v,w) i)) (k:=(rA k i (D7 k (v,w) i)%32).toNat) (by rw[e3,B5]) (by rw[e3,V9,R9];omega) (by rw[e3,V9,R9];omega),rfl,rfl,?_⟩;refine⟨_,rfl,by omega,by omega,?_⟩;refine⟨_,by rw[e5];exact r8 (i:=2*i+3) (by omega),?_⟩;refine⟨i+1,by omega,by omega,[],⟨rfl,?_,?_,f6 (by simp(disch:=omega)only[Za];omega),tq⟩,tq⟩
  ·rw[rE];exact congrArg (vi .u32) e3
  ·rw[rE];exact congrArg (vi .u32) (x7 _ _)
 ·obtain rfl:i=12:=(by omega);exact⟨_,rfl,[],rfl,tq⟩
theorem Me {tag x y:Int} {k:List UInt32} {v w:UInt32} (hk:k.length=26) (hx:x=v.toNat) (hy:y=w.toNat):a9 C 216 [K3 k tag,vi .u32 x,vi .u32 y,bool true] []
  (.ret (.t [u32 ((F7 k (v,w) 12).1-k.getD 0 0),u32 ((F7 k (v,w) 12).2-k.getD 1 0)])) []:=by
 subst hx;subst hy;refine AS.c ?_;refine m5 (fun i=>⟨[(0,K3 k tag),(1,u32 (F7 k (v,w) i).1),(2,u32 (F7 k (v,w) i).2),(11,i64 (12-i))],[]⟩) 12 ⟨[],⟨rfl,rfl,rfl,rfl,tq⟩,tq⟩ fun i hi=> ?_;refine d9 (fun h=> ?_) (fun h=> ?_)
 ·have d8:i<12:=(by omega);have b1:=eO (F7 k (v,w) i).1;have b2:=eO (rB k (11-i) (F7 k (v,w) i));have e4:(I6.wrap (I6.wrap (2*((12:Int)-i))+1)).toNat=2*(11-i)+3:=(by simp(disch:=omega)only[Za];omega);have e5:(I6.wrap (2*((12:Int)-i))).toNat=2*(11-i)+2:=(by simp(disch:=omega)only[Za];omega);refine⟨_,rfl,by omega,by omega,?_⟩;refine⟨_,by rw[e4];exact r8 (i:=2*(11-i)+3) (by omega),?_⟩;refine⟨by decide,?_⟩;refine⟨[],_,_,_,_,U4 (v:=(F7 k (v,w) i).2-k.getD (2*(11-i)+3) 0) (k:=(32-((F7 k (v,w) i).1%32).toNat)%32) (aM _ _) (by rw[V9,R9];simp only[IntKind.wrap_i64];omega) (by rw[V9,R9];simp only[IntKind.wrap_i64];omega),rfl,rfl,?_⟩;have e3:U3.wrap ((Zc U3.bits ((E7 ((F7 k (v,w) i).2-k.getD (2*(11-i)+3) 0) ((32-((F7 k (v,w) i).1%32).toNat)%32)).toNat:Int)^^^Zc U3.bits ((F7 k (v,w) i).1.toNat:Int)).toNat:Int)=((rB k (11-i) (F7 k (v,w) i)).toNat:Int):=B5 _ _;refine⟨_,rfl,by omega,by omega,?_⟩;refine⟨_,by rw[e5];exact r8 (i:=2*(11-i)+2) (by omega),?_⟩;refine⟨by decide,?_⟩;refine⟨[],_,_,_,_,U4 (v:=(F7 k (v,w) i).1-k.getD (2*(11-i)+2) 0) (k:=(32-(rB k (11-i) (F7 k (v,w) i)%32).toNat)%32) (aM _ _) (by rw[e3,V9,R9];simp only[IntKind.wrap_i64];omega) (by rw[e3,V9,R9];simp only[IntKind.wrap_i64];omega),rfl,rfl,?_⟩;refine⟨i+1,by omega,by omega,[],⟨rfl,?_,?_,f6 (by simp(disch:=omega)only[Za];omega),tq⟩,tq⟩
  ·rw[rC,e3];exact congrArg (vi .u32) (B5 _ _)
  ·rw[rC];exact congrArg (vi .u32) e3
 ·obtain rfl:i=12:=(by omega);refine⟨_,rfl,by decide,by omega,?_⟩;refine⟨_,r8 (i:=0) (by omega),?_⟩;refine⟨_,rfl,by decide,by omega,?_⟩;refine⟨_,r8 (i:=1) (by omega),?_⟩;refine⟨_,rfl,[],?_,tq⟩;show V.t [vi .u32 _,vi .u32 _]=_;rw[aM,aM]
theorem pk {l:Bs} {x:V} {j:Nat} {i:Int} (hx:x=L0 l) (hi:i=j) (hj:j<l.length) (hd:eJ (l.getD j 48)=true):a9 C 269 [x,i64 i] [] (.ret (i64 (S8 (l.getD j 48)))) []:=by
 subst hx;subst hi;refine RY.c ?_;refine⟨by omega,?_,?_⟩
 ·show((j:Int))<(((l.toArray).size:Nat):Int);simp only[List.size_toArray];omega
 refine⟨_,by rw[Zb];exact oE hj,?_⟩;refine⟨[],_,_,_,_,JE rfl hd,rfl,rfl,?_⟩;exact⟨_,rfl,[],rfl,tq⟩
theorem Mg {j:Nat} {i:Int} (hi:i=j) (hj:j<8):a9 C 273 [i64 i] [] (.ret (L0 (bO.getD j []))) []:=by
 subst hi;refine SS.c ?_;refine⟨by omega,by omega,?_⟩;refine⟨.string ⟨(bO.getD j []).toArray⟩,?_,?_⟩
 ·rw[Zb,Zm,Zl];show(bO.map fun l=>Value.string ⟨l.toArray⟩)[j]? =_;have:j<bO.length:=hj;simp[this]
 ·exact⟨_,rfl,[],rfl,tq⟩
theorem pF {a b:Int} {x k:UInt32} (ha:a=x.toNat) (hb:b=k.toNat):a9 C 261 [vi .u32 a,vi .u32 b] [] (.ret (u32 (mG x k))) []:=by
 subst ha;subst hb;refine Sw.c ?_;refine m5 (fun i=>⟨[(0,u32 (x+k)),(5,u32 ((List.range i).foldl (fun o i=>o|||vM (x+k) i) 0)),(6,i64 i)],[]⟩) 8 ⟨[],⟨congrArg (vi .u32) (x7 _ _),rfl,rfl,tq⟩,tq⟩ fun i hi=> ?_;refine d9 (fun h=> ?_) (fun h=> ?_)
 ·have d8:i<8:=(by omega);have e4:U6.wrap (I6.wrap (4*(i:Int)))=((4*i:Nat):Int):=by simp only[IntKind.wrap_i64,F9];omega
  have e5:((x+k).toNat:Int).fdiv (2^(min (((4*i:Nat):Int)).toNat U3.bits))=(((x+k)>>>Zn (4*i)).toNat:Int):=by
   rw[aL _ _ (by omega) (by omega),Zb]
  have e6:U3.wrap ((Zc U3.bits ((((x+k)>>>Zn (4*i)).toNat:Nat):Int)&&&Zc U3.bits 15).toNat:Int)=(((x+k)>>>Zn (4*i)&&&15).toNat:Int):=wW _ 15;have b:=yf ((x+k)>>>Zn (4*i));have hl:=Ce i d8;refine⟨[],_,_,_,_,Mg (j:=i) rfl d8,rfl,rfl,?_⟩;refine⟨by rw[e4];omega,?_⟩;refine⟨[],_,_,_,_,pk (j:=((x+k)>>>Zn (4*i)&&&15).toNat) rfl (by rw[e4,e5,e6,R9]) (by omega) (Cd i d8 _ b),rfl,rfl,?_⟩;refine⟨by rw[e4];omega,?_⟩;refine⟨i+1,d8,by omega,[],⟨rfl,congrArg (vi .u32) ?_,f6 (by simp(disch:=omega)only[Za];omega),tq⟩,tq⟩;rw[e4,Cx (S8 _),mH _ _ (by omega) (by omega),se,Zz,J4,Zb];rfl
 ·obtain rfl:i=8:=(by omega);refine⟨[],_,_,_,_,U4 (k:=11) rfl (by decide) (by decide),rfl,rfl,?_⟩;exact⟨_,rfl,[],rfl,tq⟩
theorem Cc {k:List UInt32} (hk:k.length=8) {n:Nat} (hn:n<32):(E6 k)[n]? =some (k.getD (if 24<=n then 31-n else n%8) 0):=by
 unfold E6;have g:∀j,j<8->k[j]? =some (k.getD j 0):=fun j hj=>by rw[Zd,Zf (by omega)];rfl
 by_cases h1:n<8
 ·rw[Jf,Jf,Ja (by omega),if_neg (by omega),g n h1,Zh h1]
 by_cases h2:n<16
 ·rw[Jf,Jf,Z7 (by omega),Ja (by omega),if_neg (by omega),g _ (by omega),hk];congr 2;omega
 by_cases h3:n<24
 ·rw[Ja (by simp;omega),Z7 (by simp;omega),if_neg (by omega),g _ (by simp;omega)];congr 2;simp;omega
 ·rw[Z7 (by simp;omega),if_pos (by omega),Ky (by simp;omega),g _ (by simp;omega)];congr 2;simp;omega
theorem LZ {tag x y:Int} {k:List UInt32} {v w:UInt32} (hk:k.length=8) (hx:x=v.toNat) (hy:y=w.toNat):a9 C 218 [K3 k tag,vi .u32 x,vi .u32 y,bool false] []
  (.ret (.t [u32 (bP (E6 k) v w).1,u32 (bP (E6 k) v w).2])) []:=by
 subst hx;subst hy;refine AR.c ?_;have hm:(E6 k).length=32:=by simp[E6,hk]
 refine m5 (fun i=>⟨[(0,K3 k tag),(1,u32 ((((E6 k).take i).foldl T9 (v,w)).1)),(2,u32 ((((E6 k).take i).foldl T9 (v,w)).2)),(3,bool false),(10,i64 i)],[]⟩) 32 ⟨[],⟨rfl,rfl,rfl,rfl,rfl,tq⟩,tq⟩ fun i hi=> ?_;refine d9 (fun h=> ?_) (fun h=> ?_)
 ·have d8:i<32:=(by omega);have eg:=Cc hk d8;have gi:(E6 k)[i]'(by omega)=k.getD (if 24<=i then 31-i else i%8) 0:=by
   rw[Zf (by omega)]at eg;exact Option.some.inj eg
  have e8:((i:Int).tmod 8)=((i%8:Nat):Int):=aj i 8;refine⟨by decide,?_⟩;refine d9 (fun h24=> ?_) (fun h24=> ?_)
  ·have e:(I6.wrap (31-(i:Int))).toNat=31-i:=(by simp(disch:=omega)only[Za];omega);refine⟨_,rfl,(by simp(disch:=omega)only[Za];omega),by omega,?_⟩;refine⟨_,by rw[e];exact r8 (i:=31-i) (by omega),?_⟩;refine⟨[],_,_,_,_,pF rfl rfl,rfl,rfl,?_⟩;refine⟨i+1,by omega,by omega,[],⟨rfl,?_,?_,rfl,f6 (by simp(disch:=omega)only[Za];omega),tq⟩,tq⟩
   ·rw[cC _ _ _ _ (by omega)];rfl
   ·rw[cC _ _ _ _ (by omega),gi,if_pos (by omega)];exact congrArg (vi .u32) (B5 _ _)
  ·refine⟨_,rfl,by rw[e8];omega,by rw[e8];omega,?_⟩;refine⟨_,by rw[e8,Zb];exact r8 (i:=i%8) (by omega),?_⟩;refine⟨[],_,_,_,_,pF rfl rfl,rfl,rfl,?_⟩;refine⟨i+1,by omega,by omega,[],⟨rfl,?_,?_,rfl,f6 (by simp(disch:=omega)only[Za];omega),tq⟩,tq⟩
   ·rw[cC _ _ _ _ (by omega)];rfl
   ·rw[cC _ _ _ _ (by omega),gi,if_neg (by omega)];exact congrArg (vi .u32) (B5 _ _)
 ·obtain rfl:i=32:=(by omega);rw[<-hm,Zq];exact⟨_,rfl,[],rfl,tq⟩
theorem Ma {tag x y:Int} {k:List UInt32} {v w:UInt32} (hk:k.length=8) (hx:x=v.toNat) (hy:y=w.toNat):a9 C 218 [K3 k tag,vi .u32 x,vi .u32 y,bool true] []
  (.ret (.t [u32 (bP (E6 k).reverse v w).1,u32 (bP (E6 k).reverse v w).2])) []:=by
 subst hx;subst hy;refine AR.c ?_;have hm:(E6 k).reverse.length=32:=by simp[E6,hk]
 refine m5 (fun i=>⟨[(0,K3 k tag),(1,u32 ((((E6 k).reverse.take i).foldl T9 (v,w)).1)),(2,u32 ((((E6 k).reverse.take i).foldl T9 (v,w)).2)),(3,bool true),(10,i64 i)],[]⟩) 32 ⟨[],⟨rfl,rfl,rfl,rfl,rfl,tq⟩,tq⟩ fun i hi=> ?_;refine d9 (fun h=> ?_) (fun h=> ?_)
 ·have d8:i<32:=(by omega);have eg:=Cc hk (n:=31-i) (by omega);have gi:(E6 k).reverse[i]'(by omega)=k.getD (if 24<=31-i then 31-(31-i)else (31-i)%8) 0:=by
   rw[Zf (by simp at hm;omega)]at eg;rw[Js,<-Option.some.inj eg];congr 1;simp at hm;omega
  have e8:((I6.wrap (31-(i:Int))).tmod 8)=(((31-i)%8:Nat):Int):=by
   rw[show I6.wrap (31-(i:Int))=((31-i:Nat):Int) from (by simp(disch:=omega)only[Za];omega)];exact aj _ 8
  have e31:I6.wrap (31-(i:Int))=((31-i:Nat):Int):=(by simp(disch:=omega)only[Za];omega);refine⟨by decide,?_⟩;refine d9 (fun h24=> ?_) (fun h24=> ?_)
  ·have e:(I6.wrap (31-I6.wrap (31-(i:Int)))).toNat=31-(31-i):=(by simp(disch:=omega)only[Za];omega);rw[e31]at h24;refine⟨_,rfl,(by simp(disch:=omega)only[Za];omega),by omega,?_⟩;refine⟨_,by rw[e];exact r8 (i:=31-(31-i)) (by omega),?_⟩;refine⟨[],_,_,_,_,pF rfl rfl,rfl,rfl,?_⟩;refine⟨i+1,by omega,by omega,[],⟨rfl,?_,?_,rfl,f6 (by simp(disch:=omega)only[Za];omega),tq⟩,tq⟩
   ·rw[cC _ _ _ _ (by omega)];rfl
   ·rw[cC _ _ _ _ (by omega),gi,if_pos (by omega)];exact congrArg (vi .u32) (B5 _ _)
  ·rw[e31]at h24;refine⟨_,rfl,by rw[e8];omega,by rw[e8];omega,?_⟩;refine⟨_,by rw[e8,Zb];exact r8 (i:=(31-i)%8) (by omega),?_⟩;refine⟨[],_,_,_,_,pF rfl rfl,rfl,rfl,?_⟩;refine⟨i+1,by omega,by omega,[],⟨rfl,?_,?_,rfl,f6 (by simp(disch:=omega)only[Za];omega),tq⟩,tq⟩
   ·rw[cC _ _ _ _ (by omega)];rfl
   ·rw[cC _ _ _ _ (by omega),gi,if_neg (by omega)];exact congrArg (vi .u32) (B5 _ _)
 ·obtain rfl:i=32:=(by omega);rw[<-hm,Zq];exact⟨_,rfl,[],rfl,tq⟩
def P1 (v:UInt32):Bs:=p8 v.toUInt64 4
def q7 (v:UInt32):Bs:=(p8 v.toUInt64 4).reverse
theorem ir (v):(P1 v).length=4:=y8 _ _
theorem G3 (v):(q7 v).length=4:=by simp[q7,y8]
abbrev i6:V:= .s (.slice none 0 0)
abbrev C0 (n:Nat):Oc:= .ret (.t [.o 1 (.k 0) 0 n,i64 0])
abbrev U2:Oc:= .ret (.t [i6,i64 1])
theorem zM {x y:Int} {v w:UInt32} (hx:x=v.toNat) (hy:y=w.toNat):a9 C 152 [vi .u32 x,vi .u32 y,bool false] [] (.ret (.o 1 (.k 0) 0 8)) [.sc (bv (P1 v++P1 w))]:=by
 subst hx;subst hy;refine Bd.c ?_;refine⟨[],_,_,_,_,tW rfl,rfl,rfl,?_⟩;refine⟨[],_,_,_,_,tW rfl,rfl,rfl,?_⟩;refine⟨[],_,_,_,_,cw (ls:=[P1 v,P1 w]) (t:=P1 v++P1 w) (by simp) ?_ rfl (by simp[ir]) (by simp[ir]),rfl,rfl,?_⟩
 ·show[V.z _ _,V.z _ _]=_;rw[g8 (y8 _ _),g8 (y8 _ _)];simp[P1,y8]
 refine⟨_,rfl,[.d 19 0],?_,⟨_,rfl,rfl⟩,tq⟩;show V.o 1 (.k 0) 0 _=_;rw[Ze,ir,ir]
theorem Nb {x y:Int} {v w:UInt32} (hx:x=v.toNat) (hy:y=w.toNat):a9 C 152 [vi .u32 x,vi .u32 y,bool true] [] (.ret (.o 1 (.k 0) 0 8)) [.sc (bv (q7 v++q7 w))]:=by
 subst hx;subst hy;refine Bd.c ?_;refine⟨[],_,_,_,_,kA rfl,rfl,rfl,?_⟩;refine⟨[],_,_,_,_,kA rfl,rfl,rfl,?_⟩;refine⟨[],_,_,_,_,cw (ls:=[q7 v,q7 w]) (t:=q7 v++q7 w) (by simp) ?_ rfl (by simp[G3]) (by simp[G3]),rfl,rfl,?_⟩
 ·show[V.z _ _,V.z _ _]=_;rw[show (p8 v.toUInt64 4).reverse=q7 v from rfl,show(p8 w.toUInt64 4).reverse=q7 w from rfl,g8 (G3 _),g8 (G3 _)];simp[q7,y8]
 refine⟨_,rfl,[.d 13 0],?_,⟨_,rfl,rfl⟩,tq⟩;show V.o 1 (.k 0) 0 _=_;rw[Ze,G3,G3]
theorem HV {va:List Value} {k:List UInt32} {b:Bs} {back:Bool} {r:W2} (ha:va=bv b) (hb:b.length=8) (hf:a9 C 149 [U0 k 4,u32 (t3 (sub b 0 4)),u32 (t3 (sub b 4 4)),bool back] [] (.ret (.t [u32 r.1,u32 r.2])) []):a9 C 87 [U0 k 4,.z 8 va,bool back] [] (C0 8) [.sc (bv (P1 r.1++P1 r.2))]:=by
 refine qo.c ?_;refine⟨_,rfl,?_⟩;refine⟨[],_,_,_,_,pw (m:=2) ha hb rfl (by decide) (by decide),rfl,rfl,?_⟩;refine⟨by decide,by decide,_,rfl,by decide,by decide,_,rfl,_,rfl,?_⟩;refine⟨[],_,_,_,_,hf,rfl,rfl,?_⟩;refine⟨[],_,_,_,_,zM rfl rfl,rfl,rfl,?_⟩;exact⟨_,rfl,[.d 66 0],rfl,⟨_,rfl,rfl⟩,tq⟩
theorem HT {va:List Value} {k:List UInt32} {b:Bs} {back:Bool} {r:W2} (ha:va=bv b) (hb:b.length=8) (hf:a9 C 150 [U0 k 5,u32 (t3 (sub b 0 4)),u32 (t3 (sub b 4 4)),bool back] [] (.ret (.t [u32 r.1,u32 r.2])) []):a9 C 87 [U0 k 5,.z 8 va,bool back] [] (C0 8) [.sc (bv (P1 r.1++P1 r.2))]:=by
 refine qo.c ?_;refine⟨_,rfl,?_⟩;refine⟨[],_,_,_,_,pw (m:=2) ha hb rfl (by decide) (by decide),rfl,rfl,?_⟩;refine⟨by decide,by decide,_,rfl,by decide,by decide,_,rfl,_,rfl,?_⟩;refine⟨[],_,_,_,_,hf,rfl,rfl,?_⟩;refine⟨[],_,_,_,_,zM rfl rfl,rfl,rfl,?_⟩;exact⟨_,rfl,[.d 66 0],rfl,⟨_,rfl,rfl⟩,tq⟩
theorem HU {va:List Value} {k:List UInt32} {b:Bs} {back:Bool} {r:W2} (ha:va=bv b) (hb:b.length=8) (hf:a9 C 151 [U0 k 8,u32 (r9 (sub b 0 4)),u32 (r9 (sub b 4 4)),bool back] [] (.ret (.t [u32 r.1,u32 r.2])) []):a9 C 87 [U0 k 8,.z 8 va,bool back] [] (C0 8) [.sc (bv (q7 r.1++q7 r.2))]:=by
 refine qo.c ?_;refine⟨_,rfl,?_⟩;refine⟨[],_,_,_,_,ze (m:=2) ha hb rfl (by decide) (by decide),rfl,rfl,?_⟩;refine⟨by decide,by decide,_,rfl,by decide,by decide,_,rfl,_,rfl,?_⟩;refine⟨[],_,_,_,_,hf,rfl,rfl,?_⟩;refine⟨[],_,_,_,_,Nb rfl rfl,rfl,rfl,?_⟩;exact⟨_,rfl,[.d 66 0],rfl,⟨_,rfl,rfl⟩,tq⟩
theorem tF {va:List Value} {k:List UInt32} {tag:Int} {n:Nat} {back:Bool} (hn:n≠8):a9 C 87 [U0 k tag,.z n va,bool back] [] U2 []:=by
 refine qo.c ?_;refine n7 (fun h=> ?_) (fun h=>absurd (by omega) hn);exact⟨_,rfl,[],rfl,tq⟩
theorem LY {va:List Value} {k:List UInt32} {b:Bs} {back:Bool} {r:W2} (ha:va=bv b) (hb:b.length=8) (hf:a9 C 217 [K3 k 4,u32 (t3 (sub b 0 4)),u32 (t3 (sub b 4 4)),bool back] [] (.ret (.t [u32 r.1,u32 r.2])) []):a9 C 157 [K3 k 4,.z 8 va,bool back] [] (C0 8) [.sc (bv (P1 r.1++P1 r.2))]:=by
 refine ql.c ?_;refine⟨_,rfl,?_⟩;refine⟨[],_,_,_,_,pG (m:=2) ha hb rfl (by decide) (by decide),rfl,rfl,?_⟩;refine⟨by decide,by decide,_,rfl,by decide,by decide,_,rfl,_,rfl,?_⟩;refine⟨[],_,_,_,_,hf,rfl,rfl,?_⟩;refine⟨[],_,_,_,_,kB rfl,rfl,rfl,?_⟩;refine⟨[],_,_,_,_,kB rfl,rfl,rfl,?_⟩;refine⟨by simp[y8,i9,L6,x8,Ze,Zj,Zu,Zv,Zx,Zs,Zw,l4,Zi,Zy,Zo],by decide,by simp[y8,i9,L6,x8,Ze,Zj,Zu,Zv,Zx,Zs,Zw,l4,Zi,Zy,Zo],?_⟩;refine⟨_,rfl,[.d 74 0],rfl,⟨_,rfl,g9 ?_⟩,tq⟩;rw[g8 (y8 _ _),g8 (y8 _ _),A5];rfl
theorem LW {va:List Value} {k:List UInt32} {b:Bs} {back:Bool} {r:W2} (ha:va=bv b) (hb:b.length=8) (hf:a9 C 218 [K3 k 5,u32 (t3 (sub b 0 4)),u32 (t3 (sub b 4 4)),bool back] [] (.ret (.t [u32 r.1,u32 r.2])) []):a9 C 157 [K3 k 5,.z 8 va,bool back] [] (C0 8) [.sc (bv (P1 r.1++P1 r.2))]:=by
 refine ql.c ?_;refine⟨_,rfl,?_⟩;refine⟨[],_,_,_,_,pG (m:=2) ha hb rfl (by decide) (by decide),rfl,rfl,?_⟩;refine⟨by decide,by decide,_,rfl,by decide,by decide,_,rfl,_,rfl,?_⟩;refine⟨[],_,_,_,_,hf,rfl,rfl,?_⟩;refine⟨[],_,_,_,_,kB rfl,rfl,rfl,?_⟩;refine⟨[],_,_,_,_,kB rfl,rfl,rfl,?_⟩;refine⟨by simp[y8,i9,L6,x8,Ze,Zj,Zu,Zv,Zx,Zs,Zw,l4,Zi,Zy,Zo],by decide,by simp[y8,i9,L6,x8,Ze,Zj,Zu,Zv,Zx,Zs,Zw,l4,Zi,Zy,Zo],?_⟩;refine⟨_,rfl,[.d 74 0],rfl,⟨_,rfl,g9 ?_⟩,tq⟩;rw[g8 (y8 _ _),g8 (y8 _ _),A5];rfl
theorem LX {va:List Value} {k:List UInt32} {b:Bs} {back:Bool} {r:W2} (ha:va=bv b) (hb:b.length=8) (hf:a9 C 216 [K3 k 8,u32 (r9 (sub b 0 4)),u32 (r9 (sub b 4 4)),bool back] [] (.ret (.t [u32 r.1,u32 r.2])) []):a9 C 157 [K3 k 8,.z 8 va,bool back] [] (C0 8) [.sc (bv (q7 r.1++q7 r.2))]:=by
 refine ql.c ?_;refine⟨_,rfl,?_⟩;refine⟨[],_,_,_,_,zu (m:=2) ha hb rfl (by decide) (by decide),rfl,rfl,?_⟩;refine⟨by decide,by decide,_,rfl,by decide,by decide,_,rfl,?_⟩;refine⟨[],_,_,_,_,hf,rfl,rfl,?_⟩;refine⟨[],_,_,_,_,pB rfl,rfl,rfl,?_⟩;refine⟨[],_,_,_,_,pB rfl,rfl,rfl,?_⟩;refine⟨by simp[y8,i9,L6,x8,Ze,Zj,Zu,Zv,Zx,Zs,Zw,l4,Zi,Zy,Zo],by decide,by simp[y8,i9,L6,x8,Ze,Zj,Zu,Zv,Zx,Zs,Zw,l4,Zi,Zy,Zo],?_⟩;refine⟨_,rfl,[.d 40 0],rfl,⟨_,rfl,g9 ?_⟩,tq⟩;rw[show (p8 r.1.toUInt64 4).reverse=q7 r.1 from rfl,show(p8 r.2.toUInt64 4).reverse=q7 r.2 from rfl,g8 (G3 _),g8 (G3 _),A5]
theorem tZ {va:List Value} {k:List UInt32} {tag:Int} {n:Nat} {back:Bool} (hn:n≠8):a9 C 157 [K3 k tag,.z n va,bool back] [] U2 []:=by
 refine ql.c ?_;refine n7 (fun h=> ?_) (fun h=>absurd (by omega) hn);exact⟨_,rfl,[],rfl,tq⟩
theorem zH {va:List Value} {key:Bs} (ha:va=bv key) (hk:key.length=16):a9 C 86 [i64 4,.z 16 va] [] (.ret (.t [U0 (C7 t3 key 4) 4,i64 0])) []:=by
 refine vd.c ?_;refine⟨[],_,_,_,_,pw (m:=4) ha hk rfl (by decide) (by decide),rfl,rfl,?_⟩;refine⟨_,rfl,[],?_,tq⟩;show V.t [.q [.z 4 (sub _ 0 4),i64 4] 0,i64 0]=V.t [.q [.z _ _,i64 4] 0,i64 0];rw[C8 (T3 _ _ _),T3]
theorem zG {va:List Value} {key:Bs} (ha:va=bv key) (hk:key.length=32):a9 C 86 [i64 5,.z 32 va] [] (.ret (.t [U0 (C7 t3 key 8) 5,i64 0])) []:=by
 refine vd.c ?_;refine⟨[],_,_,_,_,pw (m:=8) ha hk rfl (by decide) (by decide),rfl,rfl,?_⟩;refine⟨_,rfl,[],?_,tq⟩;show V.t [.q [.z 8 (sub _ 0 8),i64 5] 0,i64 0]=V.t [.q [.z _ _,i64 5] 0,i64 0];rw[C8 (T3 _ _ _),T3]
theorem MX {va:List Value} {key:Bs} (ha:va=bv key) (hk:key.length=16):a9 C 86 [i64 8,.z 16 va] [] (.ret (.t [U0 (z6 (C7 r9 key 4) 78).1 8,i64 0])) []:=by
 refine vd.c ?_;refine⟨[],_,_,_,_,ze (m:=4) ha hk rfl (by decide) (by decide),rfl,rfl,?_⟩;refine⟨[.d 21 0],_,_,_,_,JM (T3 r9 key 4),rfl,rfl,?_⟩;refine⟨_,rfl,[],?_,tq⟩;have h:=(nQ (C7 r9 key 4) 78).1;show V.t [.q [.z 26 (sub _ 0 26),i64 8] 0,i64 0]=V.t [.q [.z _ _,i64 8] 0,i64 0];rw[C8 h,h]
theorem Md {va:List Value} {key:Bs} (ha:va=bv key) (hk:key.length=16):a9 C 58 [i64 4,.z 16 va] [] (.ret (.t [K3 (C7 t3 key 4) 4,i64 0])) []:=by
 refine uX.c ?_;refine⟨[],_,_,_,_,pG (m:=4) ha hk rfl (by decide) (by decide),rfl,rfl,?_⟩;refine⟨_,rfl,[],?_,tq⟩;show V.t [.q [i64 4,.z 4 (sub _ 0 4)] 0,i64 0]=V.t [.q [i64 4,.z _ _] 0,i64 0];rw[C8 (T3 _ _ _),T3]
theorem Mb {va:List Value} {key:Bs} (ha:va=bv key) (hk:key.length=32):a9 C 58 [i64 5,.z 32 va] [] (.ret (.t [K3 (C7 t3 key 8) 5,i64 0])) []:=by
 refine uX.c ?_;refine⟨[],_,_,_,_,pG (m:=8) ha hk rfl (by decide) (by decide),rfl,rfl,?_⟩;refine⟨_,rfl,[],?_,tq⟩;show V.t [.q [i64 5,.z 8 (sub _ 0 8)] 0,i64 0]=V.t [.q [i64 5,.z _ _] 0,i64 0];rw[C8 (T3 _ _ _),T3]
theorem Mc {va:List Value} {key:Bs} (ha:va=bv key) (hk:key.length=16):a9 C 58 [i64 8,.z 16 va] [] (.ret (.t [K3 (z6 (C7 r9 key 4) 78).1 8,i64 0])) []:=by
 refine uX.c ?_;refine⟨[],_,_,_,_,Mh ha hk,rfl,rfl,?_⟩;refine⟨_,rfl,[],?_,tq⟩;have h:=(nQ (C7 r9 key 4) 78).1;show V.t [.q [i64 8,.z 26 (sub _ 0 26)] 0,i64 0]=V.t [.q [i64 8,.z _ _] 0,i64 0];rw[C8 h,h]
def q9 (t:Int):Int:=if t=1\/t=2\/t=3\/t=4\/t=5\/t=8 then 8 else if t=6\/t=7 then 16 else 0
def p9 (t:Int):List Int:=if t=1 then [8]else if t=2 then [16,24]else if t=3\/t=4\/t=8 then [16]else if t=5 then [32]else if t=6\/t=7 then [16,24,32]else []
def y7 (t:Int):Prop:=t=1\/t=2\/t=3\/t=4\/t=5\/t=6\/t=7\/t=8
theorem dZ {t:Int} (h:y7 t):a9 C 50 [i64 t] [] (.ret (i64 (q9 t))) []:=by
 rcases h with rfl|rfl|rfl|rfl|rfl|rfl|rfl|rfl<;>exact AD.c ⟨_,rfl,[],rfl,tq⟩
theorem pz {t:Int} (h:y7 t):a9 C 23 [i64 t] [] (.ret (i64 (q9 t))) []:=by
 rcases h with rfl|rfl|rfl|rfl|rfl|rfl|rfl|rfl<;>exact Ra.c ⟨_,rfl,[],rfl,tq⟩
theorem MW {t:Int} (h:¬y7 t):a9 C 50 [i64 t] [] (.ret (i64 0)) []:=by
 unfold y7 at h;refine AD.c ?_;refine D8 (by simp only[beq_eq_false_iff_ne,ne_eq];omega) (D8 (by simp only[beq_eq_false_iff_ne,ne_eq];omega) (D8 (by simp only[beq_eq_false_iff_ne,ne_eq];omega) (D8 (by simp only[beq_eq_false_iff_ne,ne_eq];omega) (D8 (by simp only[beq_eq_false_iff_ne,ne_eq];omega) (D8 (by simp only[beq_eq_false_iff_ne,ne_eq];omega) (D8 (by simp only[beq_eq_false_iff_ne,ne_eq];omega) (D8 (by simp only[beq_eq_false_iff_ne,ne_eq];omega) ?_)))))));exact⟨_,rfl,[],rfl,tq⟩
theorem fo {t:Int} (h:y7 t):a9 C 24 [i64 t] [] (.ret (.o 1 (.k 0) 0 (p9 t).length)) [.sc (iv (p9 t))]:=by
 rcases h with rfl|rfl|rfl|rfl|rfl|rfl|rfl|rfl
 ·exact gM.c ⟨_,rfl,[.d 6 0],rfl,⟨_,rfl,rfl⟩,tq⟩
 ·exact gM.c ⟨_,rfl,[.d 9 0],rfl,⟨_,rfl,rfl⟩,tq⟩
 ·exact gM.c ⟨_,rfl,[.d 14 0],rfl,⟨_,rfl,rfl⟩,tq⟩
 ·exact gM.c ⟨_,rfl,[.d 14 0],rfl,⟨_,rfl,rfl⟩,tq⟩
 ·exact gM.c ⟨_,rfl,[.d 17 0],rfl,⟨_,rfl,rfl⟩,tq⟩
 ·exact gM.c ⟨_,rfl,[.d 21 0],rfl,⟨_,rfl,rfl⟩,tq⟩
 ·exact gM.c ⟨_,rfl,[.d 21 0],rfl,⟨_,rfl,rfl⟩,tq⟩
 ·exact gM.c ⟨_,rfl,[.d 14 0],rfl,⟨_,rfl,rfl⟩,tq⟩
theorem tY {t:Int} (h:y7 t):a9 C 53 [i64 t] [] (.ret (.o 1 (.k 0) 0 (p9 t).length)) [.sc (iv (p9 t))]:=by
 rcases h with rfl|rfl|rfl|rfl|rfl|rfl|rfl|rfl
 ·exact fC.c ⟨_,rfl,[.d 6 0],rfl,⟨_,rfl,rfl⟩,tq⟩
 ·exact fC.c ⟨_,rfl,[.d 9 0],rfl,⟨_,rfl,rfl⟩,tq⟩
 ·exact fC.c ⟨_,rfl,[.d 14 0],rfl,⟨_,rfl,rfl⟩,tq⟩
 ·exact fC.c ⟨_,rfl,[.d 14 0],rfl,⟨_,rfl,rfl⟩,tq⟩
 ·exact fC.c ⟨_,rfl,[.d 17 0],rfl,⟨_,rfl,rfl⟩,tq⟩
 ·exact fC.c ⟨_,rfl,[.d 21 0],rfl,⟨_,rfl,rfl⟩,tq⟩
 ·exact fC.c ⟨_,rfl,[.d 21 0],rfl,⟨_,rfl,rfl⟩,tq⟩
 ·exact fC.c ⟨_,rfl,[.d 14 0],rfl,⟨_,rfl,rfl⟩,tq⟩
theorem Lu {t:Int} (h:¬y7 t):a9 C 53 [i64 t] [] (.ret i6) []:=by
 unfold y7 at h;refine fC.c ?_;refine D8 (by simp only[beq_eq_false_iff_ne,ne_eq];omega) (D8 (by simp only[beq_eq_false_iff_ne,ne_eq];omega) (D8 (by simp only[beq_eq_false_iff_ne,ne_eq];omega) (D8 (by simp only[beq_eq_false_iff_ne,ne_eq];omega) (D8 (by simp only[beq_eq_false_iff_ne,ne_eq];omega) (D8 (by simp only[beq_eq_false_iff_ne,ne_eq];omega) (D8 (by simp only[beq_eq_false_iff_ne,ne_eq];omega) (D8 (by simp only[beq_eq_false_iff_ne,ne_eq];omega) ?_)))))));exact⟨_,rfl,[],rfl,tq⟩
def nJ (x:Int):List Int->Nat
 |[]=>0
 |y::r=>if y=x then 0 else nJ x r+1
theorem Bj {x:Int}:∀{l:List Int} {i:Nat},x∉l.take i->l[i]? =some x->nJ x l=i
 |[],i,_,h=>by simp at h
 |y::r,0,_,h=>by simp at h;simp[nJ,h]
 |y::r,i+1,hn,h=>by
  simp at hn h;have h1:¬y=x:=fun e=>hn.1 e.symm;simp only[nJ,if_neg h1];rw[Bj (i:=i) hn.2 h]
def qw (x:Int) (l:List Int):Int:=if x∈l then nJ x l else -1
theorem JU {n:Nat} {va:List Value} {l:List Int} {x:Int} (ha:va=iv l) (hn:l.length=n) (hm:n<=1073741824):a9 C 125 [.z n va,i64 x] [] (.ret (i64 (qw x l))) []:=by
 subst ha;subst hn;refine Tt.c ?_;refine⟨Nat,fun i=>⟨[(0,iz l),(1,i64 x),(7,i64 l.length),(8,i64 i)],[]⟩,fun i=>i<=l.length/\x∉l.take i,fun i=>l.length-i,⟨[],0,⟨Z6 _,by simp⟩,[],⟨rfl,rfl,rfl,rfl,tq⟩,tq⟩,fun i hi=> ?_⟩;obtain⟨hi,hx⟩:=hi;refine d9 (fun h=> ?_) (fun h=> ?_)
 ·have d8:i<l.length:=(by omega);refine⟨by omega,by omega,?_⟩;refine⟨_,by rw[Zb];exact vD d8,?_⟩;refine j5 (fun h=> ?_) (fun h=> ?_)
  ·refine⟨_,rfl,[],f6 ?_,tq⟩;have h1:x∈l:=by rw[h];exact Kn d8
   rw[qw,if_pos h1,Bj hx (by rw[Zf d8,h])]
  ·refine⟨i+1,⟨by omega,?_⟩,(by simp(disch:=omega)only[Za];omega),[],⟨rfl,rfl,rfl,f6 (by simp(disch:=omega)only[Za];omega),tq⟩,tq⟩;rw[Zr d8];simp only[Kv,Kf,not_or];exact⟨hx,h⟩
 ·obtain rfl:i=l.length:=(by omega);refine⟨_,rfl,[],f6 ?_,tq⟩;rw[Zq]at hx;rw[qw,if_neg hx]
theorem fj {n:Nat} {va:List Value} {l:List Int} {x:Int} (ha:va=iv l) (hn:l.length=n) (hm:n<=1073741824):a9 C 77 [.z n va,i64 x] [] (.ret (bool (decide (x∈l)))) []:=by
 refine Tq.c ?_;refine⟨[],_,_,_,_,JU ha hn hm,rfl,rfl,?_⟩;refine⟨_,rfl,[],congrArg bool ?_,tq⟩;unfold qw;by_cases h:x∈l
 ·rw[if_pos h,decide_eq_true h];exact decide_eq_true (Int.natCast_nonneg _)
 ·rw[if_neg h,decide_eq_false h];rfl
abbrev f7 (t:Int) (k:Nat) (xs:List V):V:= .q [i64 t,.f (.func k) [.q xs 0] []] 0
theorem kj (t):(p9 t).length<=3:=by
 unfold p9
 repeat' split
 all_goals simp
theorem KZ {t:Int} {n:Nat} {va:List Value} {xs:List V} (ht:t=4\/t=5\/t=8) (hv:(n:Int)∈p9 t) (hm:n<=1000) (hs:a9 C 86 [i64 t,.z n va] [] (.ret (.t [.q xs 0,i64 0])) []):
  a9 C 25 [i64 t,.z n va] [] (.ret (.t [f7 t 87 xs,i64 0])) []:=by
 refine gN.c ?_;have hl:=kj t;rcases ht with rfl|rfl|rfl
 ·refine⟨0,Unit,(fun _=>⟨[(6,.p (.k 0) 0),(7,i64 0)],[.mx [i64 4,.f (.func 87) [.q xs 0] []]]⟩),fun _=>True,fun _=>0,?_,fun _ h=> ?_⟩
  ·refine⟨[],_,_,_,_,dZ (by simp[y7]),rfl,rfl,?_⟩;refine⟨[],_,_,_,_,fo (by simp[y7]),rfl,rfl,?_⟩;refine⟨[],_,_,_,_,fj (x:=n) (X0 rfl) rfl (by omega),rfl,rfl,?_⟩;refine D8 (by rw[decide_eq_true hv];rfl) ?_;refine⟨[],_,_,_,_,hs,rfl,rfl,?_⟩;refine⟨Zp _,?_⟩;exact⟨[],(),tq,[.d 20 0],⟨rfl,rfl,tq⟩,⟨_,rfl,rfl⟩,tq⟩
  ·exact⟨_,rfl,[],rfl,tq⟩
 ·refine⟨0,Unit,(fun _=>⟨[(6,.p (.k 0) 0),(7,i64 0)],[.mx [i64 5,.f (.func 87) [.q xs 0] []]]⟩),fun _=>True,fun _=>0,?_,fun _ h=> ?_⟩
  ·refine⟨[],_,_,_,_,dZ (by simp[y7]),rfl,rfl,?_⟩;refine⟨[],_,_,_,_,fo (by simp[y7]),rfl,rfl,?_⟩;refine⟨[],_,_,_,_,fj (x:=n) (X0 rfl) rfl (by omega),rfl,rfl,?_⟩;refine D8 (by rw[decide_eq_true hv];rfl) ?_;refine⟨[],_,_,_,_,hs,rfl,rfl,?_⟩;refine⟨Zp _,?_⟩;exact⟨[],(),tq,[.d 20 0],⟨rfl,rfl,tq⟩,⟨_,rfl,rfl⟩,tq⟩
  ·exact⟨_,rfl,[],rfl,tq⟩
 ·refine⟨0,Unit,(fun _=>⟨[(6,.p (.k 0) 0),(7,i64 0)],[.mx [i64 8,.f (.func 87) [.q xs 0] []]]⟩),fun _=>True,fun _=>0,?_,fun _ h=> ?_⟩
  ·refine⟨[],_,_,_,_,dZ (by simp[y7]),rfl,rfl,?_⟩;refine⟨[],_,_,_,_,fo (by simp[y7]),rfl,rfl,?_⟩;refine⟨[],_,_,_,_,fj (x:=n) (X0 rfl) rfl (by omega),rfl,rfl,?_⟩;refine D8 (by rw[decide_eq_true hv];rfl) ?_;refine⟨[],_,_,_,_,hs,rfl,rfl,?_⟩;refine⟨Zp _,?_⟩;exact⟨[],(),tq,[.d 20 0],⟨rfl,rfl,tq⟩,⟨_,rfl,rfl⟩,tq⟩
  ·exact⟨_,rfl,[],rfl,tq⟩
theorem KY {t:Int} {n:Nat} {va:List Value} (ht:¬y7 t):a9 C 25 [i64 t,.z n va] [] (.ret (.t [.s (.pointer none),i64 2])) []:=by
 refine gN.c ?_;refine⟨0,Unit,fun _=>⟨[],[]⟩,fun _=>False,fun _=>0,?_,fun _ h=>h.elim⟩;refine⟨[],_,_,_,_,MW ht,rfl,rfl,?_⟩;exact⟨_,rfl,[],rfl,tq⟩
theorem KX {t:Int} {n:Nat} {va:List Value} (ht:y7 t) (hm:n<=1073741824) (hv:(n:Int)∉p9 t):a9 C 25 [i64 t,.z n va] [] (.ret (.t [.s (.pointer none),i64 4])) []:=by
 refine gN.c ?_;have hl:=kj t;refine⟨0,Unit,fun _=>⟨[(7,i64 4)],[]⟩,fun _=>True,fun _=>0,?_,fun _ h=> ?_⟩
 ·refine⟨[],_,_,_,_,dZ ht,rfl,rfl,?_⟩;refine D8 ?_ ?_
  ·rcases ht with rfl|rfl|rfl|rfl|rfl|rfl|rfl|rfl<;>rfl
  refine⟨[],_,_,_,_,fo ht,rfl,rfl,?_⟩;refine⟨[],_,_,_,_,fj (x:=n) (X0 rfl) rfl (by omega),rfl,rfl,?_⟩;refine eW (by rw[decide_eq_false hv];rfl) ?_;exact⟨rfl,(),tq,[],⟨rfl,tq⟩,tq⟩
 ·exact⟨_,rfl,[],rfl,tq⟩
theorem JH {t:Int} {k n:Nat} {xs:List V} {va:List Value} {l:List Value} (h:a9 C k [.q xs 0,.z n va,bool false] [] (C0 n) [.sc l]):a9 C 26 [f7 t k xs,.z n va] [] (C0 n) [.sc l]:=by
 refine Pt.c ?_;refine⟨_,rfl,?_⟩;refine⟨[],_,_,_,_,h,rfl,rfl,?_⟩;exact⟨_,rfl,[.d 11 0],rfl,⟨_,rfl,rfl⟩,tq⟩
theorem JB {t:Int} {k n:Nat} {xs:List V} {va:List Value} {l:List Value} (h:a9 C k [.q xs 0,.z n va,bool true] [] (C0 n) [.sc l]):a9 C 177 [f7 t k xs,.z n va] [] (C0 n) [.sc l]:=by
 refine Ps.c ?_;refine⟨_,rfl,?_⟩;refine⟨[],_,_,_,_,h,rfl,rfl,?_⟩;exact⟨_,rfl,[.d 11 0],rfl,⟨_,rfl,rfl⟩,tq⟩
theorem If {t:Int} {k:Nat} {xs:List V} (ht:y7 t):a9 C 63 [f7 t k xs] [] (.ret (i64 (q9 t))) []:=by
 refine Pu.c ?_;refine⟨_,rfl,?_⟩;refine⟨[],_,_,_,_,dZ ht,rfl,rfl,?_⟩;exact⟨_,rfl,[],rfl,tq⟩
theorem zV {a n:Int} (hn:0<n) (hn2:n<=4611686018427387904) (ha: -9223372036854775808<=a/\a<=9223372036854775807):a9 C 76 [i64 a,i64 n] [] (.ret (i64 (a%n))) []:=by
 refine Qe.c ?_;have h1: -n<a.tmod n:=J2 a hn;have h2:a.tmod n<n:=Kg a hn;refine⟨by omega,?_⟩;refine d9 (fun h=> ?_) (fun h=> ?_)
 ·refine⟨_,rfl,[],f6 ?_,tq⟩;rw[Za _ (by omega)];rw[<-eV a n hn,Jk (a:=a.tmod n+n) (by omega),Int.emod_eq_of_lt (by omega) (by omega)]
 ·refine⟨_,rfl,[],f6 ?_,tq⟩;rw[<-eV a n hn,Jk (a:=a.tmod n+n) (by omega),Int.add_emod_right,Int.emod_eq_of_lt (by omega) (by omega)]
def C3 (n:Int):Int:=1+n%8
theorem jG (n:Int):y7 (C3 n):=by unfold y7 C3;omega
theorem zO {n:Int} (ha: -9223372036854775808<=n/\n<=9223372036854775807):a9 C 20 [i64 n] [] (.ret (i64 (C3 n))) []:=by
 refine Qd.c ?_;refine⟨[],_,_,_,_,zV (n:=8) (by decide) (by decide) ha,rfl,rfl,?_⟩;refine⟨_,rfl,[],f6 ?_,tq⟩;unfold C3;simp only[IntKind.wrap_i64];omega
def eP (b:Bs) (n j:Nat):Bs:=(List.range n).map fun p=>if p<b.length then b.getD p 0 else if p<b.length+j then Zt (p*37)else 0
def ki (n:Nat) (b:Bs):Bs:=eP b n n
theorem ip (b n j):(eP b n j).length=n:=by simp[eP]
theorem ph (n b):(ki n b).length=n:=ip b n n
theorem ov (b:Bs) (n j p:Nat) (h:p<n):(eP b n j)[p]? =some (if p<b.length then b.getD p 0 else if p<b.length+j then Zt (p*37)else 0):=by simp[eP,h]
theorem WU (b:Bs) (n j:Nat) (h:b.length+j<n):(eP b n j).set (b.length+j) (Zt ((b.length+j)*37))=eP b n (j+1):=by
 apply Z3;intro p;by_cases hp:p<n
 ·rw[ov _ _ _ _ hp,Jr,ov _ _ _ _ hp];by_cases h1:b.length+j=p
  ·subst h1;rw[if_pos rfl,ip,if_pos hp,if_neg (by omega),if_pos (by omega)]
  ·rw[if_neg h1];by_cases h2:p<b.length
   ·rw[if_pos h2,if_pos h2]
   ·rw[if_neg h2,if_neg h2];by_cases h3:p<b.length+j
    ·rw[if_pos h3,if_pos (by omega)]
    ·rw[if_neg h3,if_neg (by omega)]
 ·rw[Zg (by simp[ip];omega),Zg (by rw[ip];omega)]
theorem WV (b:Bs) (n:Nat):b.take (min b.length n)++(Zk n (0:UInt8)).drop (min b.length n)=eP b n 0:=by
 apply Z3;intro p;by_cases hp:p<n
 ·rw[ov _ _ _ _ hp];by_cases h2:p<b.length
  ·rw[Ja (by simp;omega),J0,if_pos (by omega),if_pos h2,Zf h2,Zd,Zf h2];rfl
  ·rw[if_neg h2,if_neg (by omega),Z7 (by simp;omega),J1,Zv,Jd,if_pos (by omega)]
 ·rw[Zg (by simp;omega),Zg (by rw[ip];omega)]
theorem WT (b:Bs) (n j:Nat) (h:n<=b.length+j):eP b n j=ki n b:=by
 apply Z3;intro p;unfold ki;by_cases hp:p<n
 ·rw[ov _ _ _ _ hp,ov _ _ _ _ hp];by_cases h2:p<b.length
  ·rw[if_pos h2,if_pos h2]
  ·rw[if_neg h2,if_neg h2,if_pos (by omega),if_pos (by omega)]
 ·rw[Zg (by rw[ip];omega),Zg (by rw[ip];omega)]
theorem yJ {n m:Nat} {va:List Value} {b:Bs} (ha:va=bv b) (hb:b.length=m) (hn:n<=1073741824):a9 C 22 [i64 n,.z m va] [] (.ret (.o 1 (.k 0) 0 n)) [.sc (bv (ki n b))]:=by
 subst ha;subst hb;refine Qb.c ?_;refine⟨by omega,Jh _,by omega,?_⟩;refine⟨i9 _,by simp,?_⟩;refine⟨Nat,fun j=>⟨[(0,i64 n),(5,.o 1 (.k 0) 0 n),(6,i64 (b.length+j:Nat))],[.sc (bv (eP b n j))]⟩,fun j=>j=0\/b.length+j<=n,fun j=>n-(b.length+j),⟨[],0,.inl rfl,[.d 8 0],⟨rfl,rfl,rfl,tq⟩,⟨_,rfl,g9 ?_⟩,tq⟩,fun j hj=> ?_⟩
 ·show[]++(bv b).take (min b.length n)++(Zk n (Value.int .u8 0)).drop (0+min b.length n)=_;rw[Jp,Zl,<-WV,T5,Hj,<-A5];congr 1;simp[bv,Kj]
 refine d9 (fun h=> ?_) (fun h=> ?_)
 ·have d8:b.length+j<n:=(by omega);refine⟨by omega,by omega,by rw[i9,ip];omega,?_⟩;refine⟨j+1,.inr (by omega),(by simp(disch:=omega)only[Za];omega),[.k 0],⟨rfl,rfl,f6 (by simp(disch:=omega)only[Za];omega),tq⟩,⟨_,rfl,g9 ?_⟩,tq⟩;have e:U8.wrap (I6.wrap (((b.length+j:Nat):Int)*37))=((Zt ((b.length+j)*37)).toNat:Int):=by
   rw[<-X5,Za _ (by omega)];rfl
  rw[e,Zb,Zm,Zl,K6,WU _ _ _ d8]
 ·refine⟨_,rfl,[.k 0],rfl,⟨_,rfl,g9 ?_⟩,tq⟩;rw[WT _ _ _ (by omega)]
def cE (t n:Int):Nat:=((p9 t).getD (n%((p9 t).length:Int)).toNat 0).toNat
def aW (t n:Int) (k:Bs):Bs:=ki (cE t n) k
theorem vF {t:Int} (h:y7 t) (n:Int):(cE t n:Int)∈p9 t/\cE t n<=32/\(p9 t)[(n%((p9 t).length:Int)).toNat]? =some (cE t n:Int)/\0<=n%((p9 t).length:Int)/\n%((p9 t).length:Int)<(p9 t).length:=by
 have g:∀(l:List Int),0<l.length->(∀x∈l,0<=x/\x<=32)->∀n:Int,((((l.getD (n%(l.length:Int)).toNat 0).toNat:Nat):Int)∈l/\(l.getD (n%(l.length:Int)).toNat 0).toNat<=32/\l[(n%(l.length:Int)).toNat]? =some (((l.getD (n%(l.length:Int)).toNat 0).toNat:Nat):Int)/\0<=n%(l.length:Int)/\n%(l.length:Int)<l.length):=by
  intro l hl hb n;have h0:=Kw n (b:=l.length) (by omega);have h1:=Kh n (b:=l.length) (by omega);have d8:(n%(l.length:Int)).toNat<l.length:=by omega
  rw[Zd,Zf d8];have hm:=Kn d8;obtain⟨b0,b1⟩:=hb _ hm;have e:(((l[(n%(l.length:Int)).toNat]).toNat:Nat):Int)=l[(n%(l.length:Int)).toNat]:=Int.toNat_of_nonneg b0;refine⟨?_,?_,?_,h0,h1⟩
  ·show(((l[(n%(l.length:Int)).toNat]).toNat:Nat):Int)∈l;rw[e];exact hm
  ·show(l[(n%(l.length:Int)).toNat]).toNat<=32;omega
  ·show some _=some (((l[(n%(l.length:Int)).toNat]).toNat:Nat):Int);rw[e]
 rcases h with rfl|rfl|rfl|rfl|rfl|rfl|rfl|rfl<;>exact g _ (by decide) (by decide) n
theorem vG (t n k):(aW t n k).length=cE t n:=ph _ _
theorem GO (bs:ByteArray):∀(n i:Nat) (r:Bs),bs.size-i=n->ByteArray.toList.loop bs i r=r.reverse++bs.data.toList.drop i:=by
 intro n;induction n with
 |zero=>
  intro i r h;rw[ByteArray.toList.loop,if_neg (by omega)];have:bs.data.toList.length=bs.size:=by cases bs;rfl
  rw[Kt (by omega),Z8]
 |succ n ih=>
  intro i r h;rw[ByteArray.toList.loop,if_pos (by omega),ih (i+1) _ (by omega)];have hl:bs.data.toList.length=bs.size:=by cases bs;rfl
  rw[List.drop_eq_getElem_cons (i:=i) (by omega)];have:bs.get! i=bs.data.toList[i]'(by omega):=by
   cases bs with
   |mk d=>
    show d[i]! =_;have e0:d.toList.length=d.size:=by simp
    have e:(ByteArray.mk d).size=d.size:=rfl;have:i<d.size:=by omega
    rw[getElem!_pos d i this];simp
  rw[this,List.reverse_cons,Jf];rfl
theorem GP (bs:ByteArray):bs.toList=bs.data.toList:=by
 have:=GO bs _ 0 [] rfl;show ByteArray.toList.loop bs 0 []=_;simpa using this
abbrev bs (l:Bs):ByteArray:=⟨l.toArray⟩
theorem yz (l:Bs):(bs l).toList=l:=by rw[GP]
theorem a0W (a b:Bs):((bs a).toList==(bs b).toList)=decide (a=b):=by
 rw[yz,yz];by_cases h:a=b
 ·simp[h]
 ·simp[h]
theorem qy {x y:Nat} (hx:x<9223372036854775808) (hy:y<9223372036854775808):I6.wrap ((Zc I6.bits (x:Int)&&&Zc I6.bits (y:Int)).toNat:Int)=((x&&&y:Nat):Int):=by
 rw[tw I6.bits (by simp only[kb];omega) (by simp only[kb];omega)];have:=Nat.and_le_left (n:=x) (m:=y);rw[dG _ (by omega)]
theorem O8 {x y:Nat} (n:Nat) (hn:n<=62) (hx:x<2^n) (hy:y<2^n):I6.wrap ((Zc I6.bits (x:Int)^^^Zc I6.bits (y:Int)).toNat:Int)=((x^^^y:Nat):Int):=by
 have hp:2^n<=2^62:=Z5 (by decide) hn;rw[tz I6.bits (by simp only[kb];omega) (by simp only[kb];omega)];have:=Jj hx hy;rw[dG _ (by omega)]
theorem Vh {x y:Nat} (n:Nat) (hn:n<=62) (hx:x<2^n) (hy:y<2^n):I6.wrap ((Zc I6.bits (x:Int)|||Zc I6.bits (y:Int)).toNat:Int)=((x|||y:Nat):Int):=by
 have hp:2^n<=2^62:=Z5 (by decide) hn;rw[kf I6.bits (by simp only[kb];omega) (by simp only[kb];omega)];have:=J3 hx hy;rw[dG _ (by omega)]
theorem vv (x:Nat):((x:Int).fdiv (2^(min (1:Int).toNat I6.bits)))=((x/2:Nat):Int):=by
 rw[Z1 _ (by decide)];rfl
theorem Bx {x:Nat} (h:x<4611686018427387904):I6.wrap ((x:Int)*2^(min (1:Int).toNat I6.bits))=((2*x:Nat):Int):=by
 have:(x:Int)*2^(min (1:Int).toNat I6.bits)=((2*x:Nat):Int):=by
  show(x:Int)*2^1=_;omega
 rw[this,dG _ (by omega)]
def xt (m x:Nat):Nat:=if 256<=2*x then (2*x^^^m)%256 else 2*x
def fX (m a:Nat):Nat->Nat
 |0=>a
 |k+1=>xt m (fX m a k)
def fS (m a b:Nat):Nat->Nat
 |0=>0
 |k+1=>if b.testBit k then fS m a b k^^^fX m a k else fS m a b k
def jl (m:Nat) (a b:UInt8):UInt8:=Zt (fS m a.toNat b.toNat 8)
theorem qg {m a:Nat} (ha:a<256):∀k,fX m a k<256
 |0=>ha
 |k+1=>by
  have:=qg (m:=m) ha k;unfold fX xt;split<;>omega
theorem uI {m a b:Nat} (ha:a<256):∀k,fS m a b k<256
 |0=>by simp[fS]
 |k+1=>by
  have h1:=uI (m:=m) (b:=b) ha k;have h2:=qg (m:=m) ha k;unfold fS;split
  ·exact Jj (n:=8) h1 h2
  ·exact h1
theorem AC {m a b:Nat}:∀(d i:Nat),b>>>i=0->fS m a b (i+d)=fS m a b i
 |0,i,_=>rfl
 |d+1,i,h=>by
  show(if b.testBit (i+d)=true then fS m a b (i+d)^^^fX m a (i+d)else fS m a b (i+d))=_;have:b.testBit (i+d)=false:=by
   have:(b>>>i).testBit d=false:=by rw[h];exact Nat.zero_testBit d
   rwa [Nat.testBit_shiftRight]at this
  rw[this,if_neg (by decide)];exact AC d i h
theorem Gj {y m:Nat} (h1:256<=y) (h2:y<512) (h3:256<=m) (h4:m<512):(y^^^m)%256=y^^^m:=by
 apply Nat.eq_of_testBit_eq;intro j;rw[show (256:Nat)=2^8 by decide,Kl];by_cases hj:j<8
 ·simp[hj]
 ·have top:∀z,256<=z->z<512->z.testBit j=decide (j=8):=by
   intro z a b;by_cases h8:j=8
   ·subst h8;rw[Jl];rw[decide_eq_true rfl];exact decide_eq_true (by omega)
   ·rw[decide_eq_false h8];exact Kq (Nat.lt_of_lt_of_le b (Z5 (n:=2) (i:=9) (by decide) (by omega)))
  rw[Nat.testBit_xor,top y h1 h2,top m h3 h4];simp
theorem yu (b i:Nat):((b>>>i&&&1:Nat)>0)↔b.testBit i=true:=by
 rw[Ke,Jl,Z0];simp;omega
theorem nh {x y:Int} {a b:UInt8} {m:Nat} (hx:x=a.toNat) (hy:y=b.toNat) (h1:256<=m) (h2:m<512):a9 C 238 [vi .u8 x,vi .u8 y,i64 m] [] (.ret (u8 (jl m a b))) []:=by
 subst hx;subst hy;have hb:=b.toNat_lt;have ha:=a.toNat_lt;refine PO.c ?_;refine bd 0 rfl 9 (fun i=>⟨[(2,i64 m),(7,i64 (fS m a.toNat b.toNat i)),(8,i64 (fX m a.toNat i)),(9,i64 (b.toNat>>>i:Nat))],[]⟩) ⟨[],0,by decide,[],⟨rfl,rfl,f6 (eY a),f6 (eY b),tq⟩,tq⟩ fun i hi=> ?_;have hX:=qg (m:=m) ha i;have hS:=uI (m:=m) (b:=b.toNat) ha i;refine j5 (fun h=> ?_) (fun h=> ?_)
 ·refine⟨_,rfl,[],congrArg (vi .u8) ?_,tq⟩;rw[X5,jl];have:=AC (m:=m) (a:=a.toNat) (b:=b.toNat) (8-i) i (by omega);rw[show i+(8-i)=8 by omega]at this;rw[this]
 ·have hi8:i<8:=by
   rcases Jg i 8 with h8|h8
   ·exact h8
   ·obtain rfl:i=8:=(by omega);rw[Z0,Km hb]at h;exact absurd rfl h
  have hyl:b.toNat>>>i<9223372036854775808:=by rw[Z0];exact Nat.lt_of_le_of_lt (Jo _ _) (by omega)
  have e1:I6.wrap ((Zc I6.bits ((b.toNat>>>i:Nat):Int)&&&Zc I6.bits 1).toNat:Int)=((b.toNat>>>i&&&1:Nat):Int):=qy (y:=1) hyl (by decide);have e2:I6.wrap ((fX m a.toNat i:Int)*2^(min (1:Int).toNat I6.bits))=((2*fX m a.toNat i:Nat):Int):=Bx (by omega);have e3:((b.toNat>>>i:Nat):Int).fdiv (2^(min (1:Int).toNat I6.bits))=((b.toNat>>>(i+1):Nat):Int):=by
   rw[vv,Nat.shiftRight_succ]
  have e4:I6.wrap ((Zc I6.bits ((2*fX m a.toNat i:Nat):Int)^^^Zc I6.bits (m:Int)).toNat:Int)=((2*fX m a.toNat i^^^m:Nat):Int):=O8 9 (by decide) (by omega) (by omega);have hx9:=Jj (n:=9) (x:=2*fX m a.toNat i) (y:=m) (by omega) (by omega);have e5:I6.wrap ((Zc I6.bits ((2*fX m a.toNat i^^^m:Nat):Int)&&&Zc I6.bits 255).toNat:Int)=(((2*fX m a.toNat i^^^m)%256:Nat):Int):=by
   have h:=qy (x:=2*fX m a.toNat i^^^m) (y:=255) (by omega) (by decide);rw[show (255:Nat)=2^8-1 by decide,Jn]at h;exact h
  have e6:2*fX m a.toNat i<256->I6.wrap ((Zc I6.bits ((2*fX m a.toNat i:Nat):Int)&&&Zc I6.bits 255).toNat:Int)=((2*fX m a.toNat i:Nat):Int):=by
   intro hl;have h:=qy (x:=2*fX m a.toNat i) (y:=255) (by omega) (by decide);rw[show (255:Nat)=2^8-1 by decide,Jn,Zh hl]at h;exact h
  have hS1:fS m a.toNat b.toNat (i+1)=if b.toNat.testBit i then fS m a.toNat b.toNat i^^^fX m a.toNat i else fS m a.toNat b.toNat i:=rfl;have hX1:fX m a.toNat (i+1)=xt m (fX m a.toNat i):=rfl;refine d9 (fun hb1=> ?_) (fun hb1=> ?_)
  ·have ht:b.toNat.testBit i=true:=(yu _ _).1 (by rw[e1]at hb1;omega);refine⟨by decide,by decide,?_⟩;refine d9 (fun hg=> ?_) (fun hg=> ?_)
   ·rw[e2]at hg;refine⟨rfl,i+1,by omega,by omega,[],⟨rfl,f6 ?_,f6 ?_,f6 e3,tq⟩,tq⟩
    ·rw[hS1,ht];exact O8 8 (by decide) hS hX
    ·rw[e2,e4,e5,hX1,xt,if_pos (by omega)]
   ·rw[e2]at hg;refine⟨rfl,i+1,by omega,by omega,[],⟨rfl,f6 ?_,f6 ?_,f6 e3,tq⟩,tq⟩
    ·rw[hS1,ht];exact O8 8 (by decide) hS hX
    ·rw[e2,e6 (by omega),hX1,xt,if_neg (by omega)]
  ·have ht:b.toNat.testBit i=false:=by
    cases hc:b.toNat.testBit i
    ·rfl
    ·exact absurd (by rw[e1];have:=(yu b.toNat i).2 hc;omega) hb1
   refine⟨by decide,by decide,?_⟩;refine d9 (fun hg=> ?_) (fun hg=> ?_)
   ·rw[e2]at hg;refine⟨rfl,i+1,by omega,by omega,[],⟨rfl,f6 ?_,f6 ?_,f6 e3,tq⟩,tq⟩
    ·rw[hS1,ht];rfl
    ·rw[e2,e4,e5,hX1,xt,if_pos (by omega)]
   ·rw[e2]at hg;refine⟨rfl,i+1,by omega,by omega,[],⟨rfl,f6 ?_,f6 ?_,f6 e3,tq⟩,tq⟩
    ·rw[hS1,ht];rfl
    ·rw[e2,e6 (by omega),hX1,xt,if_neg (by omega)]
theorem FS (b:UInt8) {i:Nat} (hi:i<8):(U8.wrap ((Zc U8.bits ((b.toNat:Int).fdiv (2^(min ((i:Int)).toNat U8.bits)))&&&Zc U8.bits 1).toNat:Int))=(if b.toNat.testBit i then 1 else 0):=by
 rw[a2F b i (by omega) (by omega),show(1:Int)=((1:UInt8).toNat:Int) from rfl,wZ,UInt8.toNat_and,Ko,Jb,Zb,Zh (show i<2^8 by omega),Zh hi];show(((b.toNat>>>i&&&1:Nat)):Int)=_;rw[Ke,Jl,Z0];by_cases h:b.toNat/2^i%2=1
 ·simp[h]
 ·have:b.toNat/2^i%2=0:=by omega
  simp[this]
theorem jd {x y:Int} {a b:UInt8} {m:Nat} (hx:x=a.toNat) (hy:y=b.toNat) (h1:256<=m) (h2:m<512):a9 C 222 [vi .u8 x,vi .u8 y,i64 m] [] (.ret (u8 (jl m a b))) []:=by
 subst hx;subst hy;have ha:=a.toNat_lt;refine Rw.c ?_;refine m5 (fun i=>⟨[(1,u8 b),(2,i64 m),(7,i64 (fS m a.toNat b.toNat i)),(8,i64 (fX m a.toNat i)),(9,vi .u64 i)],[]⟩) 8 ⟨[],⟨rfl,rfl,rfl,f6 (eY a),rfl,tq⟩,tq⟩ fun i hi=> ?_;have hX:=qg (m:=m) ha i;have hS:=uI (m:=m) (b:=b.toNat) ha i;refine d9 (fun h=> ?_) (fun h=> ?_)
 ·have d8:i<8:=(by omega);have e2:I6.wrap ((fX m a.toNat i:Int)*2^(min (1:Int).toNat I6.bits))=((2*fX m a.toNat i:Nat):Int):=Bx (by omega);have e4:I6.wrap ((Zc I6.bits ((2*fX m a.toNat i:Nat):Int)^^^Zc I6.bits (m:Int)).toNat:Int)=((2*fX m a.toNat i^^^m:Nat):Int):=O8 9 (by decide) (by omega) (by omega);have e9:U6.wrap ((i:Int)+1)=((i+1:Nat):Int):=by rw[F9];omega
  have hS1:fS m a.toNat b.toNat (i+1)=if b.toNat.testBit i then fS m a.toNat b.toNat i^^^fX m a.toNat i else fS m a.toNat b.toNat i:=rfl;have hX1:fX m a.toNat (i+1)=xt m (fX m a.toNat i):=rfl;have eb:=FS b d8;refine⟨by omega,?_⟩;refine j5 (fun hb1=> ?_) (fun hb1=> ?_)
  ·have ht:b.toNat.testBit i=true:=by
    cases hc:b.toNat.testBit i
    ·rw[eb,hc]at hb1;exact absurd hb1 (by decide)
    ·rfl
   refine⟨by decide,?_⟩;refine d9 (fun hg=> ?_) (fun hg=> ?_)
   ·rw[e2]at hg;refine⟨i+1,by omega,by omega,[],⟨rfl,rfl,f6 ?_,f6 ?_,congrArg (vi .u64) e9,tq⟩,tq⟩
    ·rw[hS1,ht];exact O8 8 (by decide) hS hX
    ·rw[e2,e4,hX1,xt,if_pos (by omega),Gj (by omega) (by omega) h1 h2]
   ·rw[e2]at hg;refine⟨i+1,by omega,by omega,[],⟨rfl,rfl,f6 ?_,f6 ?_,congrArg (vi .u64) e9,tq⟩,tq⟩
    ·rw[hS1,ht];exact O8 8 (by decide) hS hX
    ·rw[e2,hX1,xt,if_neg (by omega)]
  ·have ht:b.toNat.testBit i=false:=by
    cases hc:b.toNat.testBit i
    ·rfl
    ·rw[eb,hc]at hb1;exact absurd rfl hb1
   refine⟨by decide,?_⟩;refine d9 (fun hg=> ?_) (fun hg=> ?_)
   ·rw[e2]at hg;refine⟨i+1,by omega,by omega,[],⟨rfl,rfl,f6 ?_,f6 ?_,congrArg (vi .u64) e9,tq⟩,tq⟩
    ·rw[hS1,ht];rfl
    ·rw[e2,e4,hX1,xt,if_pos (by omega),Gj (by omega) (by omega) h1 h2]
   ·rw[e2]at hg;refine⟨i+1,by omega,by omega,[],⟨rfl,rfl,f6 ?_,f6 ?_,congrArg (vi .u64) e9,tq⟩,tq⟩
    ·rw[hS1,ht];rfl
    ·rw[e2,hX1,xt,if_neg (by omega)]
 ·obtain rfl:i=8:=(by omega);exact⟨_,rfl,[],congrArg (vi .u8) (X5 _),tq⟩
abbrev PS:=UInt8×UInt8×Nat
def fQ (m:Nat) (x:PS):PS:=(if x.2.2%2=1 then jl m x.1 x.2.1 else x.1,jl m x.2.1 x.2.1,x.2.2/2)
def qe (m:Nat) (a:UInt8) (n:Nat):UInt8:=(it (fQ m) 8 (1,a,n)).1
theorem CY (m:Nat) (k:Nat) (x:PS):(it (fQ m) k x).2.2=x.2.2/2^k:=by
 induction k with
 |zero=>simp[it]
 |succ k ih=>show(it (fQ m) k x).2.2/2=_;rw[ih,Kr,Nat.pow_succ]
theorem JL {x:Int} {a:UInt8} {m n:Nat} (hx:x=a.toNat) (hn1:128<=n) (hn2:n<256) (h1:256<=m) (h2:m<512):a9 C 245 [vi .u8 x,i64 n,i64 m] [] (.ret (u8 (qe m a n))) []:=by
 subst hx;refine PQ.c ?_;refine rM 0 rfl (fQ m) (1,a,n) 8 (fun i z=>⟨[(0,u8 z.2.1),(1,i64 z.2.2),(2,i64 m),(7,u8 z.1)],[]⟩) ⟨[],(0,(1,a,n)),⟨Z6 _,rfl⟩,[],⟨rfl,rfl,rfl,rfl,tq⟩,tq⟩ fun i z hi hz=> ?_;have hn:z.2.2=n/2^i:=by rw[hz,CY]
 have hle:z.2.2<=n:=by rw[hn];exact Jo _ _
 refine d9 (fun h=> ?_) (fun h=> ?_)
 ·have hi8:i=8:=by
   rcases Jg i 8 with h8|h8
   ·have:2^i<=2^7:=Z5 (by decide) (by omega);have hp:0<2^i:=K1 (by decide);have:1<=n/2^i:=(Jq hp).2 (by omega);omega
   ·omega
  subst hi8;refine⟨_,rfl,[],?_,tq⟩;show u8 z.1=u8 _;rw[hz];rfl
 ·have hi8:i<8:=by
   rcases Jg i 8 with h8|h8
   ·exact h8
   ·obtain rfl:i=8:=(by omega);rw[hn,Km hn2]at h;exact absurd (Jh _) h
  have e1:I6.wrap ((Zc I6.bits ((z.2.2:Nat):Int)&&&Zc I6.bits 1).toNat:Int)=((z.2.2%2:Nat):Int):=by
   have h:=qy (x:=z.2.2) (y:=1) (by omega) (by decide);rw[Ke]at h;exact h
  refine d9 (fun hb=> ?_) (fun hb=> ?_)
  ·rw[e1]at hb;refine⟨[],_,_,_,_,nh rfl rfl h1 h2,rfl,rfl,?_⟩;refine⟨[],_,_,_,_,nh rfl rfl h1 h2,rfl,rfl,?_⟩;refine⟨by decide,?_⟩;refine⟨rfl,(i+1,fQ m z),⟨hi8,bM hz⟩,by omega,[],⟨rfl,f6 (vv _),rfl,?_,tq⟩,tq⟩;show u8 _=u8 (if _ then _ else _);rw[if_pos (by omega)]
  ·rw[e1]at hb;refine⟨[],_,_,_,_,nh rfl rfl h1 h2,rfl,rfl,?_⟩;refine⟨by decide,?_⟩;refine⟨rfl,(i+1,fQ m z),⟨hi8,bM hz⟩,by omega,[],⟨rfl,f6 (vv _),rfl,?_,tq⟩,tq⟩;show u8 _=u8 (if _ then _ else _);rw[if_neg (by omega)]
theorem LG {x:Int} {a:UInt8} {m n:Nat} (hx:x=a.toNat) (hn1:128<=n) (hn2:n<256) (h1:256<=m) (h2:m<512):a9 C 226 [vi .u8 x,i64 n,i64 m] [] (.ret (u8 (qe m a n))) []:=by
 subst hx;refine Rx.c ?_;refine nZ (fQ m) (1,a,n) 8 (fun i z=>⟨[(0,u8 z.2.1),(1,i64 z.2.2),(2,i64 m),(7,u8 z.1)],[]⟩) ⟨[],⟨rfl,rfl,rfl,rfl,tq⟩,tq⟩ fun i z hi hz=> ?_;have hn:z.2.2=n/2^i:=by rw[hz,CY]
 have hle:z.2.2<=n:=by rw[hn];exact Jo _ _
 refine d9 (fun h=> ?_) (fun h=> ?_)
 ·have hi8:i<8:=by
   rcases Jg i 8 with h8|h8
   ·exact h8
   ·obtain rfl:i=8:=(by omega);rw[hn,Km hn2]at h;exact absurd h (by decide)
  have e1:((z.2.2:Nat):Int).tmod 2=((z.2.2%2:Nat):Int):=aj _ 2;have e2:I6.wrap (((z.2.2:Nat):Int).tdiv 2)=((z.2.2/2:Nat):Int):=by
   rw[show ((z.2.2:Nat):Int).tdiv 2=((z.2.2/2:Nat):Int) from rfl,dG _ (by omega)]
  refine⟨by decide,?_⟩;refine j5 (fun hb=> ?_) (fun hb=> ?_)
  ·rw[e1]at hb;refine⟨[],_,_,_,_,jd rfl rfl h1 h2,rfl,rfl,?_⟩;refine⟨[],_,_,_,_,jd rfl rfl h1 h2,rfl,rfl,?_⟩;refine⟨by decide,?_⟩;refine⟨(i+1,fQ m z),⟨hi8,bM hz⟩,by omega,[],⟨rfl,f6 e2,rfl,?_,tq⟩,tq⟩;show u8 _=u8 (if _ then _ else _);rw[if_pos (by omega)]
  ·rw[e1]at hb;refine⟨[],_,_,_,_,jd rfl rfl h1 h2,rfl,rfl,?_⟩;refine⟨by decide,?_⟩;refine⟨(i+1,fQ m z),⟨hi8,bM hz⟩,by omega,[],⟨rfl,f6 e2,rfl,?_,tq⟩,tq⟩;show u8 _=u8 (if _ then _ else _);rw[if_neg (by omega)]
 ·have hi8:i=8:=by
   rcases Jg i 8 with h8|h8
   ·have:2^i<=2^7:=Z5 (by decide) (by omega);have hp:0<2^i:=K1 (by decide);have:1<=n/2^i:=(Jq hp).2 (by omega);omega
   ·omega
  subst hi8;refine⟨_,rfl,[],?_,tq⟩;show u8 z.1=u8 _;rw[hz];rfl
def mg:Bs:=[0,1,1,2,1,2,2,3,1,2,2,3,2,3,3,4,1,2,2,3,2,3,3,4,2,3,3,4,3,4,4,5,1,2,2,3,2,3,3,4,2,3,3,4,3,4,4,5,2,3,3,4,3,4,4,5,3,4,4,5,4,5,5,6,1,2,2,3,2,3,3,4,2,3,3,4,3,4,4,5,2,3,3,4,3,4,4,5,3,4,4,5,4,5,5,6,2,3,3,4,3,4,4,5,3,4,4,5,4,5,5,6,3,4,4,5,4,5,5,6,4,5,5,6,5,6,6,7,1,2,2,3,2,3,3,4,2,3,3,4,3,4,4,5,2,3,3,4,3,4,4,5,3,4,4,5,4,5,5,6,2,3,3,4,3,4,4,5,3,4,4,5,4,5,5,6,3,4,4,5,4,5,5,6,4,5,5,6,5,6,6,7,2,3,3,4,3,4,4,5,3,4,4,5,4,5,5,6,3,4,4,5,4,5,5,6,4,5,5,6,5,6,6,7,3,4,4,5,4,5,5,6,4,5,5,6,5,6,6,7,4,5,5,6,5,6,6,7,5,6,6,7,6,7,7,8]
def dI (n:Nat):Nat->Bool
 |0=>false
 |k+1=>xor (dI n k) (n.testBit k)
theorem Xe:∀j:Nat,j<256->(mg.getD j 0).toNat%2=if dI j 8 then 1 else 0:=by decide +kernel
theorem Dg:mg.length=256:=by decide +kernel
theorem La {x:Int} {y:UInt8} (hx:x=y.toNat):a9 C 266 [vi .u8 x] [] (.ret (i64 (mg.getD y.toNat 0).toNat)) []:=by
 subst hx;have hy:=y.toNat_lt;refine Pi.c ?_;refine⟨by omega,?_,?_⟩
 ·show((y.toNat:Nat):Int)<((256:Nat):Int);omega
 refine⟨mg.getD y.toNat 0,?_,?_⟩
 ·rw[Zb];show mg[y.toNat]? =_;rw[Zf (by rw[Dg];omega),Zd,Zf (by rw[Dg];omega)];rfl
 refine⟨_,rfl,[],f6 ?_,tq⟩;exact eY _
def mV (rs:Bs) (x:UInt8) (c:UInt8) (i:Nat):UInt8:=if dI ((x&&&rs.getD i 0).toNat) 8 then c^^^((1:UInt8)<<<Zt i)else c
def dM (rs:Bs) (x c:UInt8) (n:Nat):UInt8:=(List.range n).foldl (mV rs x) c
theorem sV (rs x c n):dM rs x c (n+1)=mV rs x (dM rs x c n) n:=by simp[dM,Zz]
theorem WN:∀i,i<8->ones8[i]? =some (.int .u8 ((((1:UInt8)<<<Zt i).toNat:Nat):Int)):=by
 intro i hi;rcases i with _|_|_|_|_|_|_|_|i;all_goals first|rfl|omega
theorem yl {r0 r1 r2 r3 r4 r5 r6 r7:UInt8} {i:Nat} (hi:i<8):([u8 r0,u8 r1,u8 r2,u8 r3,u8 r4,u8 r5,u8 r6,u8 r7]:List V)[i]? =some (u8 ([r0,r1,r2,r3,r4,r5,r6,r7].getD i 0)):=by
 rcases i with _|_|_|_|_|_|_|_|i;all_goals first|rfl|omega
theorem Ho {x z:Int} {a c r0 r1 r2 r3 r4 r5 r6 r7:UInt8} (hx:x=a.toNat) (hz:z=c.toNat):a9 C 244 [vi .u8 x,.a [u8 r0,u8 r1,u8 r2,u8 r3,u8 r4,u8 r5,u8 r6,u8 r7],vi .u8 z] [] (.ret (u8 (dM [r0,r1,r2,r3,r4,r5,r6,r7] a c 8))) []:=by
 subst hx;subst hz;refine Pk.c ?_;refine⟨_,rfl,rfl,?_⟩;refine m5 (fun i=>⟨[(0,u8 a),(2,u8 (dM [r0,r1,r2,r3,r4,r5,r6,r7] a c i)),(9,.a [u8 r0,u8 r1,u8 r2,u8 r3,u8 r4,u8 r5,u8 r6,u8 r7]),(10,i64 i)],[]⟩) 8 ⟨[],⟨rfl,rfl,rfl,rfl,tq⟩,tq⟩ fun i hi=> ?_;refine d9 (fun h=> ?_) (fun h=> ?_)
 ·have d8:i<8:=(by omega);refine⟨by omega,by omega,?_⟩;refine⟨_,by rw[Zb,Zm];exact yl d8,?_⟩;refine⟨[],_,_,_,_,La (wZ _ _),rfl,rfl,?_⟩;refine⟨by decide,?_⟩;have hp:=Xe (a&&&[r0,r1,r2,r3,r4,r5,r6,r7].getD i 0).toNat (Ji _);have e1:(((mg.getD (a&&&[r0,r1,r2,r3,r4,r5,r6,r7].getD i 0).toNat 0).toNat:Nat):Int).tmod 2=((if dI (a&&&[r0,r1,r2,r3,r4,r5,r6,r7].getD i 0).toNat 8 then 1 else 0:Nat):Int):=by
   rw[<-hp];exact aj _ 2
  refine d9 (fun hb=> ?_) (fun hb=> ?_)
  ·rw[e1]at hb;have ht:dI (a&&&[r0,r1,r2,r3,r4,r5,r6,r7].getD i 0).toNat 8=true:=by
    cases hc:dI (a&&&[r0,r1,r2,r3,r4,r5,r6,r7].getD i 0).toNat 8
    ·rw[hc]at hb;exact absurd hb (by decide)
    ·rfl
   refine⟨by omega,by omega,?_⟩;refine⟨_,by rw[Zb,Zm,Zl];exact WN i d8,?_⟩;refine⟨i+1,by omega,by omega,[],⟨rfl,congrArg (vi .u8) ?_,rfl,f6 (by simp(disch:=omega)only[Za];omega),tq⟩,tq⟩;rw[n5,sV,mV,if_pos ht]
  ·rw[e1]at hb;have ht:dI (a&&&[r0,r1,r2,r3,r4,r5,r6,r7].getD i 0).toNat 8=false:=by
    cases hc:dI (a&&&[r0,r1,r2,r3,r4,r5,r6,r7].getD i 0).toNat 8
    ·rfl
    ·rw[hc]at hb;exact absurd (by decide) hb
   refine⟨i+1,by omega,by omega,[],⟨rfl,?_,rfl,f6 (by simp(disch:=omega)only[Za];omega),tq⟩,tq⟩;show u8 _=u8 _;rw[sV,mV,ht,if_neg (by decide)]
 ·obtain rfl:i=8:=(by omega);exact⟨_,rfl,[],rfl,tq⟩
theorem a2E (c y:UInt8) (i k:Nat) (hi:i<8) (hk:k<8):U8.wrap ((Zc U8.bits (c.toNat:Int)^^^Zc U8.bits (U8.wrap (U8.wrap ((Zc U8.bits ((y.toNat:Int).fdiv (2^(min ((k:Int)).toNat U8.bits)))&&&Zc U8.bits 1).toNat:Int)*2^(min (U6.wrap (i:Int)).toNat U8.bits)))).toNat:Int)
  =(((if y.toNat.testBit k then c^^^((1:UInt8)<<<Zt i)else c).toNat:Nat):Int):=by
 rw[FS y hk,show U6.wrap (i:Int)=(i:Int) by rw[F9];omega];cases hc:y.toNat.testBit k
 ·rw[if_neg (by decide),if_neg (by decide),Int.zero_mul,show U8.wrap 0=((0:UInt8).toNat:Int) from rfl,n5,UInt8.xor_zero]
 ·rw[if_pos rfl,if_pos rfl,show(1:Int)=((1:UInt8).toNat:Int) from rfl,a2D 1 i (by omega) (by omega),n5,Zb]
theorem LH {x z:Int} {a c r0 r1 r2 r3 r4 r5 r6 r7:UInt8} (hx:x=a.toNat) (hz:z=c.toNat):a9 C 225 [vi .u8 x,.a [u8 r0,u8 r1,u8 r2,u8 r3,u8 r4,u8 r5,u8 r6,u8 r7],vi .u8 z] [] (.ret (u8 (dM [r0,r1,r2,r3,r4,r5,r6,r7] a c 8))) []:=by
 subst hx;subst hz;refine Ry.c ?_;refine m5 (fun i=>⟨[(0,u8 a),(2,u8 (dM [r0,r1,r2,r3,r4,r5,r6,r7] a c i)),(4,.p (.k 0) 0),(7,i64 i)],[.mx [u8 r0,u8 r1,u8 r2,u8 r3,u8 r4,u8 r5,u8 r6,u8 r7]]⟩) 8 ⟨[.d 4 0],⟨rfl,rfl,rfl,rfl,tq⟩,⟨_,rfl,rfl⟩,tq⟩ fun i hi=> ?_;refine d9 (fun h=> ?_) (fun h=> ?_)
 ·have d8:i<8:=(by omega);refine⟨by omega,by omega,?_⟩;refine⟨_,by rw[Zb,Zm,Zl];exact yl d8,?_⟩;generalize hc0:dM [r0,r1,r2,r3,r4,r5,r6,r7] a c i=c0;generalize hg:[r0,r1,r2,r3,r4,r5,r6,r7].getD i 0=r;have eb:U8.wrap ((Zc U8.bits (r.toNat:Int)&&&Zc U8.bits (a.toNat:Int)).toNat:Int)=((a&&&r).toNat:Int):=by
   rw[wZ,UInt8.and_comm]
  refine m5 (fun k=>⟨[(0,u8 a),(2,u8 (if dI (a&&&r).toNat k then c0^^^((1:UInt8)<<<Zt i)else c0)),(4,.p (.k 0) 0),(7,i64 i),(8,u8 (a&&&r)),(9,vi .u64 k)],[.mx [u8 r0,u8 r1,u8 r2,u8 r3,u8 r4,u8 r5,u8 r6,u8 r7]]⟩) 8 ⟨[.k 0],⟨rfl,rfl,rfl,rfl,congrArg (vi .u8) eb,rfl,tq⟩,⟨_,rfl,rfl⟩,tq⟩ fun k hk=> ?_;refine d9 (fun h=> ?_) (fun h=> ?_)
  ·have hkl:k<8:=(by omega);refine⟨by omega,?_⟩;refine⟨by rw[F9];omega,?_⟩;refine⟨k+1,by omega,by omega,[.k 0],⟨rfl,congrArg (vi .u8) ?_,rfl,rfl,rfl,congrArg (vi .u64) (by rw[F9];omega),tq⟩,⟨_,rfl,rfl⟩,tq⟩;rw[a2E _ _ _ _ d8 hkl];show(((if _ then _ else _:UInt8).toNat:Nat):Int)=(((if xor (dI (a&&&r).toNat k) ((a&&&r).toNat.testBit k)=true then _ else _:UInt8).toNat:Nat):Int);cases dI (a&&&r).toNat k<;>cases (a&&&r).toNat.testBit k<;>simp[UInt8.xor_assoc]
  ·obtain rfl:k=8:=(by omega);refine⟨i+1,by omega,by omega,[.k 0],⟨rfl,?_,rfl,f6 (by simp(disch:=omega)only[Za];omega),tq⟩,⟨_,rfl,rfl⟩,tq⟩;show u8 _=u8 _;rw[sV,mV,hc0,hg]
 ·obtain rfl:i=8:=(by omega);exact⟨_,rfl,[],rfl,tq⟩
def bQ (e:Nat) (m:Nat) (rs:Bs) (c:UInt8) (n:Nat):Bs:=(List.range n).map fun x=>dM rs (qe m (Zt x) e) c 8
theorem qO (e m rs c n):(bQ e m rs c n).length=n:=by simp[bQ]
theorem Cm (e m rs c n):bQ e m rs c (n+1)=bQ e m rs c n++[dM rs (qe m (Zt n) e) c 8]:=by simp[bQ,Zz]
theorem nK {l:Bs} {n k:Nat} {x:UInt8} (hl:l.length=k) (h:k<n):(bv (l++Zk (n-k) 0)).set k (.int .u8 x.toNat)=bv (l++[x]++Zk (n-(k+1)) 0):=by
 rw[K6,show n-k=(n-(k+1))+1 by omega,Kb,wC hl];simp
theorem zg {e m:Nat} {z:Int} {c r0 r1 r2 r3 r4 r5 r6 r7:UInt8} (hz:z=c.toNat) (h1:256<=m) (h2:m<512) (he:128<=e) (he2:e<256):a9 C 202 [i64 e,i64 m,.a [u8 r0,u8 r1,u8 r2,u8 r3,u8 r4,u8 r5,u8 r6,u8 r7],vi .u8 z] [] (.ret (.o 1 (.k 0) 0 256)) [.sc (bv (bQ e m [r0,r1,r2,r3,r4,r5,r6,r7] c 256))]:=by
 subst hz;refine Pn.c ?_;refine⟨by decide,by decide,by decide,?_⟩;refine m5 (fun i=>⟨[(0,i64 e),(1,i64 m),(3,u8 c),(6,.p (.k 0) 0),(9,.o 1 (.k 1) 0 256),(13,i64 256),(14,i64 i)],[.mx [u8 r0,u8 r1,u8 r2,u8 r3,u8 r4,u8 r5,u8 r6,u8 r7],.sc (bv (bQ e m [r0,r1,r2,r3,r4,r5,r6,r7] c i++Zk (256-i) 0))]⟩) 256 ⟨[.d 6 0,.d 11 0],⟨rfl,rfl,rfl,rfl,rfl,rfl,rfl,tq⟩,⟨_,rfl,rfl⟩,⟨_,rfl,g9 (by rw[show bQ e m [r0,r1,r2,r3,r4,r5,r6,r7] c 0=[] from rfl,Jp];exact T5 256)⟩,tq⟩ fun i hi=> ?_;refine d9 (fun h=> ?_) (fun h=> ?_)
 ·have d8:i<256:=(by omega);refine⟨[],_,_,_,_,JL (a:=Zt i) (X5 i) he he2 h1 h2,rfl,rfl,?_⟩;refine⟨_,rfl,rfl,?_⟩;refine⟨[],_,_,_,_,Ho rfl rfl,rfl,rfl,?_⟩;refine⟨by omega,by omega,by rw[i9];simp[qO];omega,?_⟩;refine⟨i+1,by omega,by omega,[.k 0,.k 1],⟨rfl,rfl,rfl,rfl,rfl,rfl,f6 (by simp(disch:=omega)only[Za];omega),tq⟩,⟨_,rfl,rfl⟩,⟨_,rfl,g9 ?_⟩,tq⟩;rw[Zb,Zm,Zl,nK (qO _ _ _ _ _) d8,Cm]
 ·obtain rfl:i=256:=(by omega);refine⟨_,rfl,[.k 1],rfl,⟨_,rfl,g9 ?_⟩,tq⟩;simp
theorem zq {e m:Nat} {z:Int} {c r0 r1 r2 r3 r4 r5 r6 r7:UInt8} (hz:z=c.toNat) (h1:256<=m) (h2:m<512) (he:128<=e) (he2:e<256):a9 C 170 [i64 e,i64 m,.a [u8 r0,u8 r1,u8 r2,u8 r3,u8 r4,u8 r5,u8 r6,u8 r7],vi .u8 z] [] (.ret (.o 1 (.k 0) 0 256)) [.sc (bv (bQ e m [r0,r1,r2,r3,r4,r5,r6,r7] c 256))]:=by
 subst hz;refine RX.c ?_;refine⟨by decide,by decide,by decide,?_⟩;refine m5 (fun i=>⟨[(0,i64 e),(1,i64 m),(3,u8 c),(6,.p (.k 0) 0),(9,.o 1 (.k 1) 0 256),(10,i64 i)],[.mx [u8 r0,u8 r1,u8 r2,u8 r3,u8 r4,u8 r5,u8 r6,u8 r7],.sc (bv (bQ e m [r0,r1,r2,r3,r4,r5,r6,r7] c i++Zk (256-i) 0))]⟩) 256 ⟨[.d 6 0,.d 11 0],⟨rfl,rfl,rfl,rfl,rfl,rfl,tq⟩,⟨_,rfl,rfl⟩,⟨_,rfl,g9 (by rw[show bQ e m [r0,r1,r2,r3,r4,r5,r6,r7] c 0=[] from rfl,Jp];exact T5 256)⟩,tq⟩ fun i hi=> ?_;refine d9 (fun h=> ?_) (fun h=> ?_)
 ·have d8:i<256:=(by omega);refine⟨[],_,_,_,_,LG (a:=Zt i) (X5 i) he he2 h1 h2,rfl,rfl,?_⟩;refine⟨_,rfl,rfl,?_⟩;refine⟨[],_,_,_,_,LH rfl rfl,rfl,rfl,?_⟩;refine⟨by omega,by omega,by rw[i9];simp[qO];omega,?_⟩;refine⟨i+1,by omega,by omega,[.k 0,.k 1],⟨rfl,rfl,rfl,rfl,rfl,f6 (by simp(disch:=omega)only[Za];omega),tq⟩,⟨_,rfl,rfl⟩,⟨_,rfl,g9 ?_⟩,tq⟩;rw[Zb,Zm,Zl,nK (qO _ _ _ _ _) d8,Cm]
 ·obtain rfl:i=256:=(by omega);refine⟨_,rfl,[.k 1],rfl,⟨_,rfl,g9 ?_⟩,tq⟩;simp
def bl (l:List Bool):List V:=l.map fun b=> .s (.bool b)
def S7 (l:List Bool):List Value:=l.map fun b=> .bool b
theorem nb (l):(bl l).length=l.length:=by simp[bl]
theorem fi (l):(S7 l).length=l.length:=by simp[S7]
theorem yA (l):(S7 l).map V.s=bl l:=by simp[bl,S7]
theorem tp (l:List Bool) (i:Nat) (b:Bool):(S7 l).set i (.bool b)=S7 (l.set i b):=by simp[S7,List.map_set]
theorem yn (b9 dst):∀l,bC b9 dst (bl l)=bl l
 |[]=>rfl
 |b::r=>by show V.s (.bool b)::bC b9 dst (bl r)=_;rw[yn b9 dst r];rfl
theorem VM (H b9 n) (l):(bl l).map (o5 H b9 (n+1))=bl l:=by
 induction l with
 |nil=>rfl
 |cons b r ih=>
  have ih':List.map (o5 H b9 (n+1)) (bl r)=bl r:=ih;show V.s (.bool b)::List.map (o5 H b9 (n+1)) (bl r)=_;rw[ih'];rfl
def Y3 (t:Bs):List Bool:=(List.range 256).map fun j=>decide (Zt j∈t)
theorem cR (t):(Y3 t).length=256:=by simp[Y3]
theorem oB (t) {j:Nat} (h:j<256):(Y3 t)[j]? =some (decide (Zt j∈t)):=by simp[Y3,h]
theorem DM {t:Bs} {i:Nat} (h:i<t.length):(Y3 (t.take i)).set (t[i]).toNat true=Y3 (t.take (i+1)):=by
 apply Z3;intro j;by_cases hj:j<256
 ·rw[Jr,oB _ hj,oB _ hj,cR,Zr h];by_cases he:(t[i]).toNat=j
  ·rw[if_pos he,if_pos (Ji _)];subst he;rw[UInt8.ofNat_toNat,decide_eq_true (List.mem_append_right _ (Kf.2 rfl))]
  ·rw[if_neg he];have:Zt j≠t[i]:=by
    intro hh;apply he;rw[<-hh,Jb,Zh (show j<2^8 from hj)]
   congr 1;apply decide_eq_decide.2;simp only[Kv,Kf,this,or_false]
 ·rw[Zg (by simp[cR];omega),Zg (by rw[cR];omega)]
theorem DL:S7 (Y3 [])=Zk 256 (Value.bool false):=by
 apply Z3;intro j;by_cases hj:j<256
 ·unfold S7;rw[Je,oB _ hj,Jd,if_pos hj];rfl
 ·rw[Zg (by simp[S7,Y3];omega),Zg (by simp;omega)]
theorem a0D {t:Bs} (h:∀j,j<256->Zt j∈t):Y3 t=Zk 256 true:=by
 apply Z3;intro j;by_cases hj:j<256
 ·rw[oB _ hj,decide_eq_true (h j hj),Jd,if_pos hj]
 ·rw[Zg (by rw[cR];omega),Zg (by simp;omega)]
theorem MT {va:List Value} {t:Bs} {n:Nat} (ha:va=bv t) (ht:t.length=n) (hm:n<=1000000):a9 C 267 [.z n va] [] (.ret (.a (bl (Y3 t)))) []:=by
 subst ha;subst ht;refine Po.c ?_;refine m5 (fun i=>⟨[(2,.p (.k 0) 0),(5,bz t),(6,i64 t.length),(7,i64 i)],[.sc (S7 (Y3 (t.take i)))]⟩) t.length ⟨[.d 2 0],⟨rfl,rfl,rfl,rfl,tq⟩,⟨_,rfl,g9 ?_⟩,tq⟩ fun i hi=> ?_
 ·rw[K2,DL];rfl
 refine d9 (fun h=> ?_) (fun h=> ?_)
 ·have d8:i<t.length:=(by omega);have hx:=Ji (t[i]);refine⟨by omega,by omega,?_⟩;refine⟨_,by rw[Zb];exact bE d8,?_⟩;refine⟨by omega,by omega,?_⟩;refine⟨by rw[fi,cR];omega,?_⟩;refine⟨i+1,by omega,by omega,[.k 0],⟨rfl,rfl,rfl,f6 (by simp(disch:=omega)only[Za];omega),tq⟩,⟨_,rfl,g9 ?_⟩,tq⟩;rw[Zb,Zm,Zl,tp,DM d8]
 ·obtain rfl:i=t.length:=(by omega);rw[Zq];refine⟨S7 (Y3 t),?_,?_,?_⟩
  ·exact C2 (by rw[fi,cR])
  ·rw[fi,cR]
  rw[yA];refine⟨by rw[nb,fi];omega,?_⟩;refine⟨bl (Y3 t),?_,by rw[nb,cR],?_⟩
  ·unfold lay;split
   ·rename_i c hc;have:=congrArg List.length hc;rw[nb,cR]at this;simp at this
   ·rw[K2,Jp,Kt (by simp[nb,fi]),Z8];simp[sub,nb,cR,Ks]
  refine⟨_,rfl,[],?_,tq⟩;show V.a ((bl (Y3 t)).map (o5 _ [] 5))=_;rw[VM]
def bu (n:Nat):List Bool:=(List.range 256).map fun j=>decide (j<n)
theorem iI (n):(bu n).length=256:=by simp[bu]
theorem a2S:S7 (bu 0)=Zk 256 (Value.bool false):=by
 apply Z3;intro j;by_cases hj:j<256
 ·unfold S7 bu;rw[Je,Je,Jv hj,Jd,if_pos hj];simp
 ·rw[Zg (by simp[S7,bu];omega),Zg (by simp;omega)]
theorem a2R {i:Nat} (h:i<256):(bu i).set i true=bu (i+1):=by
 apply Z3;intro j;by_cases hj:j<256
 ·rw[Jr,iI];by_cases he:i=j
  ·subst he;simp[bu,h]
  ·rw[if_neg he];simp[bu,hj];omega
 ·rw[Zg (by simp[iI];omega),Zg (by rw[iI];omega)]
theorem a2Q:bu 256=Zk 256 true:=by
 apply Z3;intro j;by_cases hj:j<256
 ·unfold bu;rw[Je,Jv hj,Jd,if_pos hj];simp[hj]
 ·rw[Zg (by rw[iI];omega),Zg (by simp;omega)]
theorem JW {va:List Value} {t:Bs} (ha:va=bv t) (ht:t.length=256) (hall:∀j,j<256->Zt j∈t):a9 C 246 [.z 256 va] [] (.ret (bool true)) []:=by
 subst ha;refine Pm.c ?_;refine m5 (fun i=>⟨[(0,.z 256 (bv t)),(3,.p (.k 0) 0),(9,i64 256),(10,i64 i)],[.sc (S7 (bu i))]⟩) 256 ⟨[.d 3 0],⟨rfl,rfl,rfl,rfl,tq⟩,⟨_,rfl,g9 a2S.symm⟩,tq⟩ fun i hi=> ?_;refine d9 (fun h=> ?_) (fun h=> ?_)
 ·have d8:i<256:=(by omega);refine⟨by omega,by omega,by rw[fi,iI];omega,?_⟩;refine⟨i+1,by omega,by omega,[.k 0],⟨rfl,rfl,rfl,f6 (by simp(disch:=omega)only[Za];omega),tq⟩,⟨_,rfl,g9 ?_⟩,tq⟩;rw[Zb,Zm,Zl,tp,a2R d8]
 ·obtain rfl:i=256:=(by omega);refine⟨[],_,_,_,_,MT (t:=t) rfl ht (by decide),rfl,rfl,?_⟩;refine⟨S7 (bu 256),?_,by rw[fi,iI],?_⟩
  ·exact C2 (by rw[fi,iI])
  refine⟨Y3 t,bu 256,?_,?_,cR t,iI _,?_⟩
  ·exact yn _ _ _
  ·exact yA _
  refine⟨_,rfl,[],congrArg bool ?_,tq⟩;rw[a0D hall,a2Q];exact decide_eq_true rfl
def dl (t:Bs) (n:Nat):Bs:=(List.range n).foldl (fun o i=>o.set (t.getD i 0).toNat (Zt i)) (Zk 256 0)
theorem tg (t n):dl t (n+1)=(dl t n).set (t.getD n 0).toNat (Zt n):=by simp[dl,Zz]
theorem yp (t n):(dl t n).length=256:=by
 induction n with
 |zero=>simp[dl]
 |succ n ih=>rw[tg,Zu,ih]
theorem yH {va:List Value} {t:Bs} (ha:va=bv t) (ht:t.length=256) (hall:∀j,j<256->Zt j∈t):a9 C 203 [.z 256 va] [] (.ret (.t [.o 1 (.k 0) 0 256,bool true])) [.sc (bv (dl t 256))]:=by
 subst ha;refine Pl.c ?_;refine⟨[],_,_,_,_,JW rfl ht hall,rfl,rfl,?_⟩;refine⟨by omega,Jh _,by omega,?_⟩;refine m5 (fun i=>⟨[(4,.o 1 (.k 0) 0 256),(13,.z 256 (bv t)),(14,i64 256),(15,i64 i)],[.sc (bv (dl t i))]⟩) 256 ⟨[.d 12 0],⟨rfl,rfl,rfl,rfl,tq⟩,⟨_,rfl,g9 (T5 256)⟩,tq⟩ fun i hi=> ?_;refine d9 (fun h=> ?_) (fun h=> ?_)
 ·have d8:i<256:=(by omega);have hx:=Ji (t.getD i 0);refine⟨by omega,by omega,?_⟩;refine⟨_,by rw[Zb];exact p5 (by omega),?_⟩;refine⟨by omega,by omega,by rw[i9,yp];omega,?_⟩;refine⟨i+1,by omega,by omega,[.k 0],⟨rfl,rfl,rfl,f6 (by simp(disch:=omega)only[Za];omega),tq⟩,⟨_,rfl,g9 ?_⟩,tq⟩;rw[Zb,Zm,Zl,X5,K6,tg]
 ·obtain rfl:i=256:=(by omega);exact⟨_,rfl,[.k 0],rfl,⟨_,rfl,rfl⟩,tq⟩
theorem Wo {t:Bs} (hnd:t.Nodup) {i:Nat} (h:i<t.length):t[i]∉t.take i:=by
 intro hm;obtain⟨j,hj,he⟩:=List.getElem_of_mem hm;simp at hj;rw[List.getElem_take]at he;have:=(List.getElem?_inj (i:=j) (j:=i) (by omega) hnd).1 (by rw[Zf (by omega),Zf h,he]);omega
theorem LI {va:List Value} {t:Bs} (ha:va=bv t) (ht:t.length=256) (hnd:t.Nodup):a9 C 227 [.z 256 va] [] (.ret (bool true)) []:=by
 subst ha;refine RU.c ?_;refine⟨by omega,Jh _,by omega,?_⟩;refine m5 (fun i=>⟨[(0,.z 256 (bv t)),(3,.o 1 (.k 0) 0 256),(4,i64 i)],[.sc (S7 (Y3 (t.take i)))]⟩) 256 ⟨[.d 5 0],⟨rfl,rfl,rfl,tq⟩,⟨_,rfl,g9 (by rw[K2,DL];rfl)⟩,tq⟩ fun i hi=> ?_;refine d9 (fun h=> ?_) (fun h=> ?_)
 ·have d8:i<256:=(by omega);have hlt':i<t.length:=(by omega);have hx:=Ji (t[i]);have hs:(S7 (Y3 (t.take i)))[0+((t[i]).toNat:Int).toNat*1]? =some (.bool false):=by
   rw[Zb,Zm,Zl];have h1:=oB (t.take i) hx;rw[UInt8.ofNat_toNat,decide_eq_false (Wo hnd hlt')]at h1;simp[S7,h1]
  refine⟨by omega,by omega,?_⟩;refine⟨_,by rw[Zb];exact bE hlt',?_⟩;refine d9 (fun hg=>absurd hg (by rw[eY];omega)) (fun _=> ?_);refine⟨by omega,by omega,?_⟩;refine⟨_,by rw[Zb];exact bE hlt',?_⟩;refine⟨by omega,by omega,?_⟩;refine⟨_,hs,?_⟩;refine⟨by omega,by omega,?_⟩;refine⟨_,by rw[Zb];exact bE hlt',?_⟩;refine⟨by omega,by omega,by rw[fi,cR];omega,?_⟩;refine⟨i+1,by omega,by omega,[.k 0],⟨rfl,rfl,f6 (by simp(disch:=omega)only[Za];omega),tq⟩,⟨_,rfl,g9 ?_⟩,tq⟩;rw[Zb,Zm,Zl,tp,DM hlt']
 ·obtain rfl:i=256:=(by omega);exact⟨_,rfl,[],rfl,tq⟩
theorem zp {va:List Value} {t:Bs} (ha:va=bv t) (ht:t.length=256) (hnd:t.Nodup):a9 C 171 [.z 256 va] [] (.ret (.t [.o 1 (.k 0) 0 256,bool true])) [.sc (bv (dl t 256))]:=by
 subst ha;refine Rz.c ?_;refine⟨[],_,_,_,_,LI rfl ht hnd,rfl,rfl,?_⟩;refine⟨by omega,Jh _,by omega,?_⟩;refine m5 (fun i=>⟨[(0,.z 256 (bv t)),(4,.o 1 (.k 0) 0 256),(5,i64 i)],[.sc (bv (dl t i))]⟩) 256 ⟨[.d 11 0],⟨rfl,rfl,rfl,tq⟩,⟨_,rfl,g9 (T5 256)⟩,tq⟩ fun i hi=> ?_;refine d9 (fun h=> ?_) (fun h=> ?_)
 ·have d8:i<256:=(by omega);have hx:=Ji (t.getD i 0);refine⟨by omega,by omega,?_⟩;refine⟨_,by rw[Zb];exact p5 (by omega),?_⟩;refine⟨by omega,by omega,by rw[i9,yp];omega,?_⟩;refine⟨i+1,by omega,by omega,[.k 0],⟨rfl,rfl,f6 (by simp(disch:=omega)only[Za];omega),tq⟩,⟨_,rfl,g9 ?_⟩,tq⟩;rw[Zb,Zm,Zl,X5,K6,tg]
 ·obtain rfl:i=256:=(by omega);exact⟨_,rfl,[.k 0],rfl,⟨_,rfl,rfl⟩,tq⟩
def tb (b:Bs) (j:Nat):Bool:=(b.getD (j/8) 0).toNat.testBit (7-j%8)
def dn (f:Nat->Bool):UInt8:=Zt (128*(f 0).toNat+64*(f 1).toNat+32*(f 2).toNat+16*(f 3).toNat+8*(f 4).toNat+4*(f 5).toNat+2*(f 6).toNat+(f 7).toNat)
theorem Hk:∀b0 b1 b2 b3 b4 b5 b6 b7:Bool,∀r:Fin 8,(Zt (128*b0.toNat+64*b1.toNat+32*b2.toNat+16*b3.toNat+8*b4.toNat+4*b5.toNat+2*b6.toNat+b7.toNat)).toNat.testBit (7-r.val)=[b0,b1,b2,b3,b4,b5,b6,b7].getD r.val false:=by decide +kernel
theorem ng (f:Nat->Bool) {r:Nat} (hr:r<8):(dn f).toNat.testBit (7-r)=f r:=by
 have h:=Hk (f 0) (f 1) (f 2) (f 3) (f 4) (f 5) (f 6) (f 7) ⟨r,hr⟩;have e:[f 0,f 1,f 2,f 3,f 4,f 5,f 6,f 7].getD r false=f r:=by
  rcases r with _|_|_|_|_|_|_|_|r;all_goals first|rfl|omega
 rw[<-e,<-h];rfl
theorem xc {a b:UInt8} (h:∀r,r<8->a.toNat.testBit (7-r)=b.toNat.testBit (7-r)):a=b:=by
 apply Ku.1;apply Nat.eq_of_testBit_eq;intro i;by_cases hi:i<8
 ·have:=h (7-i) (by omega)
  rwa [show 7-(7-i)=i by omega]at this
 ·have hp:∀w:UInt8,w.toNat.testBit i=false:=fun w=>Kq (Nat.lt_of_lt_of_le w.toNat_lt (Z5 (by decide) (by omega)));rw[hp,hp]
def aE (n:Nat) (f:Nat->Bool):Bs:=(List.range n).map fun q=>dn fun r=>f (8*q+r)
theorem fU (n f):(aE n f).length=n:=by simp[aE]
theorem gk {n:Nat} {f:Nat->Bool} {j:Nat} (h:j<8*n):tb (aE n f) j=f j:=by
 unfold tb aE;have hq:j/8<n:=by omega
 rw[Zd,Je,Jv hq];show(dn fun r=>f (8*(j/8)+r)).toNat.testBit (7-j%8)=f j;rw[ng _ (Z4 _ (by decide))];congr 1;omega
theorem oH {a b:Bs} (hl:a.length=b.length) (h:∀j,j<8*a.length->tb a j=tb b j):a=b:=by
 apply List.ext_getElem hl;intro i h1 h2;apply xc;intro r hr;have:=h (8*i+r) (by omega);unfold tb at this;rw[show (8*i+r)/8=i by omega,show(8*i+r)%8=r by omega]at this;rw[Zd,Zf h1,Zd,Zf h2]at this;exact this
def L1 (b:Bs) (n:Nat):Bs:=aE b.length fun j=>tb b ((j+n)%(8*b.length))
theorem H9 (b n):(L1 b n).length=b.length:=fU _ _
theorem a2q (b:Bs) (n m:Nat) (h0:0<b.length):L1 (L1 b n) m=L1 b ((n+m)%(8*b.length)):=by
 apply oH (by simp[H9]);intro j hj;rw[H9,H9]at hj;have d8:(j+m)%(8*b.length)<8*b.length:=Z4 _ (by omega);unfold L1;rw[gk (by rw[fU];exact hj),gk (by rw[fU];exact d8),gk hj,fU];congr 1;rw[Nat.mod_add_mod,Nat.add_mod_mod,Nat.add_assoc,Nat.add_comm m n]
def mu (x y:UInt8) (r:Nat):UInt8:=Zt ((x.toNat*256+y.toNat)/2^(8-r))
theorem XU (x y:UInt8) {r j:Nat} (hr:r<8) (hj:j<8):(mu x y r).toNat.testBit (7-j)=if j+r<8 then x.toNat.testBit (7-(j+r))else y.toNat.testBit (15-(j+r)):=by
 unfold mu;rw[Jb,Kl,Nat.testBit_div_two_pow,Nat.mul_comm,show 256=2^8 by decide,Nat.testBit_two_pow_mul_add _ y.toNat_lt];have h7:7-j<8:=by omega
 simp only[h7,decide_true,Bool.true_and];by_cases h:j+r<8
 ·rw[if_pos h,if_neg (by omega)];congr 1;omega
 ·rw[if_neg h,if_pos (by omega)];congr 1;omega
def oI (b:Bs) (n i:Nat):UInt8:=mu (b.getD ((i+n/8)%b.length) 0) (b.getD ((i+n/8+1)%b.length) 0) (n%8)
theorem FQ (b:Bs) (n:Nat) (hn:n<8*b.length):(List.range b.length).map (oI b n)=L1 b n:=by
 apply oH (by simp[H9]);intro j hj;simp only[Zy,List.length_range]at hj;have hl:0<b.length:=by omega
 unfold L1;rw[gk hj];have hq:j/8<b.length:=by omega
 unfold tb;rw[Zd,Je,Jv hq];show(oI b n (j/8)).toNat.testBit (7-j%8)=_;unfold oI;rw[XU _ _ (Z4 _ (by decide)) (Z4 _ (by decide))];by_cases h:j%8+n%8<8
 ·rw[if_pos h];by_cases hw:j+n<8*b.length
  ·have e:(j+n)%(8*b.length)=j+n:=Zh hw;rw[e,show(j+n)/8=j/8+n/8 by omega,Zh (show j/8+n/8<b.length by omega),show(j+n)%8=j%8+n%8 by omega]
  ·have e:(j+n)%(8*b.length)=j+n-8*b.length:=by rw[Jy (by omega),Zh (by omega)]
   have e2:(j/8+n/8)%b.length=j/8+n/8-b.length:=by rw[Jy (by omega),Zh (by omega)]
   rw[e,e2,show(j+n-8*b.length)/8=j/8+n/8-b.length by omega,show(j+n-8*b.length)%8=j%8+n%8 by omega]
 ·rw[if_neg h];by_cases hw:j+n<8*b.length
  ·have e:(j+n)%(8*b.length)=j+n:=Zh hw;rw[e,show(j+n)/8=j/8+n/8+1 by omega,Zh (show j/8+n/8+1<b.length by omega),show 7-(j+n)%8=15-(j%8+n%8) by omega]
  ·have e:(j+n)%(8*b.length)=j+n-8*b.length:=by rw[Jy (by omega),Zh (by omega)]
   have e2:(j/8+n/8+1)%b.length=j/8+n/8+1-b.length:=by rw[Jy (by omega),Zh (by omega)]
   rw[e,e2,show(j+n-8*b.length)/8=j/8+n/8+1-b.length by omega,show 7-(j+n-8*b.length)%8=15-(j%8+n%8) by omega]
theorem ri (a:Nat) {b i:Nat} (hb:b<2^i):a*2^i|||b=a*2^i+b:=by
 rw[<-J6,Nat.shiftLeft_add_eq_or_of_lt hb]
theorem Xf (x y:UInt8) {r:Nat} (hr:r<8):U8.wrap ((U6.wrap ((Zc U6.bits (U6.wrap (U6.wrap (x.toNat:Int)*2^(min (8:Int).toNat U6.bits)))|||Zc U6.bits (U6.wrap (y.toNat:Int))).toNat:Int)).fdiv (2^(min (U6.wrap (8-U6.wrap (r:Int))).toNat U6.bits)))
  =((mu x y r).toNat:Int):=by
 have hx:=x.toNat_lt;have hy:=y.toNat_lt;have e1:U6.wrap (x.toNat:Int)=((x.toNat:Nat):Int):=by rw[F9];omega
 have e2:U6.wrap (y.toNat:Int)=((y.toNat:Nat):Int):=by rw[F9];omega
 have e3:U6.wrap ((x.toNat:Int)*2^(min (8:Int).toNat U6.bits))=((x.toNat*256:Nat):Int):=by
  show U6.wrap ((x.toNat:Int)*2^8)=_;rw[F9];omega
 have e4:U6.wrap (8-U6.wrap (r:Int))=((8-r:Nat):Int):=by rw[F9,F9];omega
 have e5:x.toNat*256|||y.toNat=x.toNat*256+y.toNat:=ri (i:=8) x.toNat hy;rw[e1,e2,e3,e4,kf U6.bits (by simp only[na];omega) (by simp only[na];omega),e5];have e6:U6.wrap ((x.toNat*256+y.toNat:Nat):Int)=((x.toNat*256+y.toNat:Nat):Int):=by rw[F9];omega
 rw[e6,Zb,show min (8-r) U6.bits=8-r by simp only[na];omega,Z1 _ (Kc (Ki (by decide)))];have e7:((x.toNat*256+y.toNat:Nat):Int)/2^(8-r)=(((x.toNat*256+y.toNat)/2^(8-r):Nat):Int):=by
  rw[Ju,Z9];rfl
 rw[e7,X5];rfl
theorem XV:∀r,r<8->∀x y:Nat,x<256->y<256->(x*2^r%256|||y/2^(8-r))=(x*256+y)/2^(8-r)%256:=by
 intro r hr x y hx hy;have key:∀(a p q:Nat),q<2^p->a*2^p|||q=a*2^p+q:=fun a p q h=>ri a h;rcases r with _|_|_|_|_|_|_|_|r
 ·rw[show y/2^(8-0)=0 by omega,Nat.or_zero];omega
 ·have h1:x*2^1%256=(x%128)*2^1:=by omega
  rw[h1,key _ 1 _ (by show _<2;omega)];omega
 ·have h1:x*2^2%256=(x%64)*2^2:=by omega
  rw[h1,key _ 2 _ (by show _<4;omega)];omega
 ·have h1:x*2^3%256=(x%32)*2^3:=by omega
  rw[h1,key _ 3 _ (by show _<8;omega)];omega
 ·have h1:x*2^4%256=(x%16)*2^4:=by omega
  rw[h1,key _ 4 _ (by show _<16;omega)];omega
 ·have h1:x*2^5%256=(x%8)*2^5:=by omega
  rw[h1,key _ 5 _ (by show _<32;omega)];omega
 ·have h1:x*2^6%256=(x%4)*2^6:=by omega
  rw[h1,key _ 6 _ (by show _<64;omega)];omega
 ·have h1:x*2^7%256=(x%2)*2^7:=by omega
  rw[h1,key _ 7 _ (by show _<128;omega)];omega
 ·omega
theorem XM (x y:UInt8) {r:Nat} (hr:r<8):U8.wrap ((Zc U8.bits (U8.wrap ((x.toNat:Int)*2^(min (U6.wrap (r:Int)).toNat U8.bits)))|||Zc U8.bits ((y.toNat:Int).fdiv (2^(min (U6.wrap (I6.wrap (8-(r:Int)))).toNat U8.bits)))).toNat:Int)
  =((mu x y r).toNat:Int):=by
 have hx:=x.toNat_lt;have hy:=y.toNat_lt;have e1:U6.wrap (r:Int)=((r:Nat):Int):=by rw[F9];omega
 have e4:U6.wrap (I6.wrap (8-(r:Int)))=((8-r:Nat):Int):=by rw[F9];simp only[IntKind.wrap_i64];omega
 rw[e1,e4,Zb,Zb,show min r U8.bits=r by simp only[kd];omega,show min (8-r) U8.bits=8-r by simp only[kd];omega,Z1 _ (Kc (Ki (by decide))),wrap_u8,wrap_u8];have e5:(x.toNat:Int)*2^r%256=((x.toNat*2^r%256:Nat):Int):=by rw[Jt,Jx,Z9];rfl
 have e6:(y.toNat:Int)/2^(8-r)=((y.toNat/2^(8-r):Nat):Int):=by rw[Ju,Z9];rfl
 have hd:y.toNat/2^(8-r)<256:=Nat.lt_of_le_of_lt (Jo _ _) hy;rw[e5,e6,kf U8.bits (by simp only[kd];omega) (by simp only[kd];omega),XV r hr _ _ hx hy,mu,Jb];omega
theorem Bk {f:Nat->UInt8} {n k:Nat} (h:k<n):(bv ((List.range k).map f++Zk (n-k) 0)).set k (.int .u8 (f k).toNat)=bv ((List.range (k+1)).map f++Zk (n-(k+1)) 0):=by
 rw[nK (by simp) h,Zz,List.map_append];simp
theorem pJ {va:List Value} {b:Bs} {l:Nat} {n:Int} (ha:va=bv b) (hl:b.length=l) (h0:0<l) (hm:l<=1000000) (hn: -9223372036854775808<=n/\n<=9223372036854775807):a9 C 189 [.z l va,i64 n] [] (.ret (.o 1 (.k 0) 0 l)) [.sc (bv (L1 b (n%(8*l)).toNat))]:=by
 subst ha;subst hl;refine Uo.c ?_;refine D8 (by simp only[beq_eq_false_iff_ne,ne_eq];omega) ?_;have e8:I6.wrap (8*(b.length:Int))=((8*b.length:Nat):Int):=(by simp(disch:=omega)only[Za];omega);refine⟨[],_,_,_,_,zy (b:=(8*b.length:Nat)) (by omega) (by omega) hn,by rw[<-e8];rfl,rfl,?_⟩;obtain⟨m,hmm,hml⟩:∃m:Nat,n%(8*(b.length:Int))=m/\m<8*b.length:=by
  have h1:=Kw n (b:=8*(b.length:Int)) (by omega);have h2:=Kh n (b:=8*(b.length:Int)) (by omega);exact⟨(n%(8*(b.length:Int))).toNat,by omega,by omega⟩
 have hmm':n%((8*b.length:Nat):Int)=m:=by rw[<-hmm];rfl
 rw[hmm,hmm',Zb];refine⟨by omega,Jh _,by omega,?_⟩;refine m5 (fun i=>⟨[(0,bz b),(1,i64 m),(5,.o 1 (.k 0) 0 b.length),(22,i64 b.length),(23,i64 i)],[.sc (bv ((List.range i).map (oI b m)++Zk (b.length-i) 0))]⟩) b.length ⟨[.d 20 0],⟨rfl,rfl,rfl,rfl,rfl,tq⟩,⟨_,rfl,g9 (by simp[bv])⟩,tq⟩ fun i hi=> ?_;refine d9 (fun h=> ?_) (fun h=> ?_)
 ·have d8:i<b.length:=(by omega);have q8:I6.wrap ((m:Int).tdiv 8)=((m/8:Nat):Int):=by
   rw[show ((m:Int).tdiv 8)=((m/8:Nat):Int) from rfl];simp only[IntKind.wrap_i64];omega
  have ea:I6.wrap ((i:Int)+I6.wrap ((m:Int).tdiv 8))=((i+m/8:Nat):Int):=by rw[q8];simp only[IntKind.wrap_i64];omega
  have eb:I6.wrap (I6.wrap ((i:Int)+I6.wrap ((m:Int).tdiv 8))+1)=((i+m/8+1:Nat):Int):=by rw[ea];simp only[IntKind.wrap_i64];omega
  have ec:(I6.wrap ((i:Int)+I6.wrap ((m:Int).tdiv 8))).tmod (b.length:Int)=(((i+m/8)%b.length:Nat):Int):=by rw[ea];exact aj _ _
  have ed:(I6.wrap (I6.wrap ((i:Int)+I6.wrap ((m:Int).tdiv 8))+1)).tmod (b.length:Int)=(((i+m/8+1)%b.length:Nat):Int):=by rw[eb];exact aj _ _
  have h1:(i+m/8)%b.length<b.length:=Z4 _ h0;have h2:(i+m/8+1)%b.length<b.length:=Z4 _ h0;refine⟨by decide,?_⟩;refine⟨by omega,by rw[ec];omega,by rw[ec];omega,?_⟩;refine⟨_,by rw[ec,Zb];exact p5 h1,?_⟩;refine⟨by omega,by rw[ed];omega,by rw[ed];omega,?_⟩;refine⟨_,by rw[ed,Zb];exact p5 h2,?_⟩;refine⟨by decide,by decide,?_⟩;have e9:((m:Int).tmod 8)=((m%8:Nat):Int):=aj m 8;refine⟨by rw[e9,F9,F9];omega,?_⟩;refine⟨by omega,by omega,by rw[i9];simp;omega,?_⟩;refine⟨i+1,by omega,by omega,[.k 0],⟨rfl,rfl,rfl,rfl,f6 (by simp(disch:=omega)only[Za];omega),tq⟩,⟨_,rfl,g9 ?_⟩,tq⟩;rw[e9,Xf _ _ (Z4 _ (by decide)),Zb,Zm,Zl];exact Bk d8
 ·obtain rfl:i=b.length:=(by omega);refine⟨_,rfl,[.k 0],rfl,⟨_,rfl,g9 ?_⟩,tq⟩;rw[Nat.sub_self,List.replicate_zero,Z8,FQ b m hml]
theorem nj {va:List Value} {b:Bs} {l:Nat} {n:Int} (ha:va=bv b) (hl:b.length=l) (h0:0<l) (hm:l<=1000000) (hn: -9223372036854775808<=n/\n<=9223372036854775807):a9 C 165 [.z l va,i64 n] [] (.ret (.o 1 (.k 0) 0 l)) [.sc (bv (L1 b (n%(8*l)).toNat))]:=by
 subst ha;subst hl;refine Rp.c ?_;refine⟨by omega,Jh _,by omega,?_⟩;refine D8 (by simp only[beq_eq_false_iff_ne,ne_eq];omega) ?_;have e8:I6.wrap (8*(b.length:Int))=((8*b.length:Nat):Int):=(by simp(disch:=omega)only[Za];omega);refine⟨[],_,_,_,_,zn (b:=(8*b.length:Nat)) (by omega) (by omega) hn,by rw[<-e8];rfl,rfl,?_⟩;obtain⟨m,hmm,hml⟩:∃m:Nat,n%(8*(b.length:Int))=m/\m<8*b.length:=by
  have h1:=Kw n (b:=8*(b.length:Int)) (by omega);have h2:=Kh n (b:=8*(b.length:Int)) (by omega);exact⟨(n%(8*(b.length:Int))).toNat,by omega,by omega⟩
 have hmm':n%((8*b.length:Nat):Int)=m:=by rw[<-hmm];rfl
 rw[hmm,hmm',Zb];refine m5 (fun i=>⟨[(0,bz b),(5,.o 1 (.k 0) 0 b.length),(6,i64 m),(7,i64 i)],[.sc (bv ((List.range i).map (oI b m)++Zk (b.length-i) 0))]⟩) b.length ⟨[.d 12 0],⟨rfl,rfl,rfl,rfl,tq⟩,⟨_,rfl,g9 (by simp[bv])⟩,tq⟩ fun i hi=> ?_;refine d9 (fun h=> ?_) (fun h=> ?_)
 ·have d8:i<b.length:=(by omega);have q8:I6.wrap ((m:Int).tdiv 8)=((m/8:Nat):Int):=by
   rw[show ((m:Int).tdiv 8)=((m/8:Nat):Int) from rfl];simp only[IntKind.wrap_i64];omega
  have ea:I6.wrap ((i:Int)+I6.wrap ((m:Int).tdiv 8))=((i+m/8:Nat):Int):=by rw[q8];simp only[IntKind.wrap_i64];omega
  have eb:I6.wrap (I6.wrap ((i:Int)+I6.wrap ((m:Int).tdiv 8))+1)=((i+m/8+1:Nat):Int):=by rw[ea];simp only[IntKind.wrap_i64];omega
  have ec:(I6.wrap ((i:Int)+I6.wrap ((m:Int).tdiv 8))).tmod (b.length:Int)=(((i+m/8)%b.length:Nat):Int):=by rw[ea];exact aj _ _
  have ed:(I6.wrap (I6.wrap ((i:Int)+I6.wrap ((m:Int).tdiv 8))+1)).tmod (b.length:Int)=(((i+m/8+1)%b.length:Nat):Int):=by rw[eb];exact aj _ _
  have h1:(i+m/8)%b.length<b.length:=Z4 _ h0;have h2:(i+m/8+1)%b.length<b.length:=Z4 _ h0;refine⟨by decide,by omega,by rw[ec];omega,by rw[ec];omega,?_⟩;refine⟨_,by rw[ec,Zb];exact p5 h1,?_⟩;refine⟨by decide,by omega,by rw[ed];omega,by rw[ed];omega,?_⟩;refine⟨_,by rw[ed,Zb];exact p5 h2,?_⟩;have e9:((m:Int).tmod 8)=((m%8:Nat):Int):=aj m 8;refine⟨by decide,by rw[e9,F9];omega,by decide,by rw[e9,F9];simp only[IntKind.wrap_i64];omega,?_⟩;refine⟨by omega,by omega,by rw[i9];simp;omega,?_⟩;refine⟨i+1,by omega,by omega,[.k 0],⟨rfl,rfl,rfl,f6 (by simp(disch:=omega)only[Za];omega),tq⟩,⟨_,rfl,g9 ?_⟩,tq⟩;rw[e9,XM _ _ (Z4 _ (by decide)),Zb,Zm,Zl];exact Bk d8
 ·obtain rfl:i=b.length:=(by omega);refine⟨_,rfl,[.k 0],rfl,⟨_,rfl,g9 ?_⟩,tq⟩;rw[Nat.sub_self,List.replicate_zero,Z8,FQ b m hml,Zb]
def nv (l:List Nat):List Value:=l.map fun(x:Nat)=>Value.int .i64 (x:Int)
abbrev nz (l:List Nat):V:= .z l.length (nv l)
theorem K8 (l:List Nat):(nv l).length=l.length:=by simp[nv]
theorem X6 {k:List Nat} {i:Nat} (h:i<k.length):(nv k)[i]? =some (.int .i64 ((k.getD i 0:Nat):Int)):=by
 simp[nv,h,Zd]
theorem aZ (l:List Nat) (i n:Nat):sub (nv l) i n=nv (sub l i n):=by simp[nv,sub,Kj,Kk]
theorem fM (a b:List Nat):nv a++nv b=nv (a++b):=by simp[nv]
theorem G8 {l:List Nat} {n:Nat} (h:l.length=n):sub (nv l) 0 n=nv l:=C2 (by rw[K8,h])
theorem jv {l:List Nat} {n x:Nat} (h:l.length=n):sub (nv l) 0 n++[Value.int .i64 (x:Int)]=nv (l++[x]):=by
 rw[G8 h];simp[nv]
def C1 (a:Nat):Nat:=if a=0 then 65536 else a
def I7 (a b:Nat):Nat:=C1 a*C1 b%65537%65536
def av (a b:Nat):Nat:=(a+b)%65536
def N6 (a:Nat):Nat:=(65536-a)%65536
theorem I8 (a b):I7 a b<65536:=Z4 _ (by decide)
theorem dj (a b):av a b<65536:=Z4 _ (by decide)
theorem Wl (a):N6 a<65536:=Z4 _ (by decide)
theorem DT {a} (h:a<65536):C1 a<=65536:=by unfold C1;split<;>omega
abbrev IS:=Nat×Nat×Nat
def S9 (x:IS):IS:=(if x.2.2%2=1 then I7 x.1 x.2.1 else x.1,I7 x.2.1 x.2.1,x.2.2/2)
def G6 (a:Nat):Nat:=(it S9 16 (1,a,65535)).1
theorem qz {a:Nat} (ha:a<65536) (k:Nat):(it S9 k (1,a,65535)).1<65536/\(it S9 k (1,a,65535)).2.1<65536/\(it S9 k (1,a,65535)).2.2=65535/2^k:=by
 induction k with
 |zero=>exact⟨by show 1<65536;decide,ha,by show 65535=65535/2^0;decide⟩
 |succ k ih=>
  obtain⟨h1,h2,h3⟩:=ih;refine⟨?_,I8 _ _,?_⟩
  ·show(if _ then _ else _)<65536;split
   ·exact I8 _ _
   ·exact h1
  ·show(it S9 k (1,a,65535)).2.2/2=_;rw[h3,Kr,Nat.pow_succ]
theorem qC {a:Nat} (ha:a<65536):G6 a<65536:=(qz ha 16).1
theorem qV {x y:Nat} (hx:x<=65536) (hy:y<=65536):((I6.wrap ((x:Int)*(y:Int))).tmod 65537).tmod 65536=((x*y%65537%65536:Nat):Int):=by
 have h:x*y<=65536*65536:=Nat.mul_le_mul hx hy;rw[show (x:Int)*(y:Int)=((x*y:Nat):Int) from rfl,dG _ (by omega)];rfl
theorem iX {a b:Nat} {x y:Int} (hx:x=a) (hy:y=b) (ha:a<65536) (hb:b<65536):a9 C 192 [i64 x,i64 y] [] (.ret (i64 (I7 a b))) []:=by
 subst hx;subst hy;refine PU.c ?_;refine j5 (fun h=> ?_) (fun h=> ?_)
 ·refine j5 (fun h'=> ?_) (fun h'=> ?_)
  ·refine⟨by decide,by decide,_,rfl,[],f6 ?_,tq⟩;obtain rfl:a=0:=(by omega);obtain rfl:b=0:=(by omega);rfl
  ·refine⟨by decide,by decide,_,rfl,[],f6 ?_,tq⟩;obtain rfl:a=0:=(by omega);have e:I7 0 b=65536*b%65537%65536:=by unfold I7 C1;rw[if_pos rfl,if_neg (by omega)]
   rw[e];exact qV (x:=65536) (y:=b) (by decide) (by omega)
 ·refine j5 (fun h'=> ?_) (fun h'=> ?_)
  ·refine⟨by decide,by decide,_,rfl,[],f6 ?_,tq⟩;obtain rfl:b=0:=(by omega);have e:I7 a 0=a*65536%65537%65536:=by unfold I7 C1;rw[if_neg (by omega),if_pos rfl]
   rw[e];exact qV (x:=a) (y:=65536) (by omega) (by decide)
  ·refine⟨by decide,by decide,_,rfl,[],f6 ?_,tq⟩;have e:I7 a b=a*b%65537%65536:=by unfold I7 C1;rw[if_neg (by omega),if_neg (by omega)]
   rw[e];exact qV (x:=a) (y:=b) (by omega) (by omega)
theorem pu {a b:Nat} {x y:Int} (hx:x=a) (hy:y=b) (ha:a<65536) (hb:b<65536):a9 C 193 [i64 x,i64 y] [] (.ret (i64 (av a b))) []:=by
 subst hx;subst hy;refine PW.c ?_;refine⟨by decide,_,rfl,[],f6 ?_,tq⟩;rw[show (a:Int)+(b:Int)=((a+b:Nat):Int) from rfl,dG _ (by omega)];rfl
theorem za {a:Nat} {x:Int} (hx:x=a) (ha:a<65536):a9 C 190 [i64 x] [] (.ret (i64 (N6 a))) []:=by
 subst hx;refine PY.c ?_;refine⟨by decide,_,rfl,[],f6 ?_,tq⟩;rw[show (65536:Int)-(a:Int)=((65536-a:Nat):Int) by omega,dG _ (by omega)];rfl
theorem kt {a:Nat} {x:Int} (hx:x=a) (ha:a<65536):a9 C 191 [i64 x] [] (.ret (i64 (G6 a))) []:=by
 subst hx;refine PR.c ?_;refine rM 0 rfl S9 (1,a,65535) 16 (fun i z=>⟨[(0,i64 z.2.1),(3,i64 z.1),(4,i64 z.2.2)],[]⟩) ⟨[],(0,(1,a,65535)),⟨Z6 _,rfl⟩,[],⟨rfl,rfl,rfl,tq⟩,tq⟩ fun i z hi hz=> ?_;obtain⟨b1,b2,b3⟩:=qz ha i;rw[<-hz]at b1 b2 b3;refine d9 (fun h=> ?_) (fun h=> ?_)
 ·have hi16:i<16:=by
   rcases Jg i 16 with h8|h8
   ·exact h8
   ·obtain rfl:i=16:=(by omega);rw[b3]at h;exact absurd h (by decide)
  have hle:z.2.2<=65535:=by rw[b3];exact Jo _ _
  have e1:((z.2.2:Nat):Int).tmod 2=((z.2.2%2:Nat):Int):=aj _ 2;have e2:I6.wrap (((z.2.2:Nat):Int).tdiv 2)=((z.2.2/2:Nat):Int):=by
   rw[show ((z.2.2:Nat):Int).tdiv 2=((z.2.2/2:Nat):Int) from rfl,dG _ (by omega)]
  refine⟨by decide,?_⟩;refine d9 (fun hb=> ?_) (fun hb=> ?_)
  ·rw[e1]at hb;refine⟨[],_,_,_,_,iX rfl rfl b1 b2,rfl,rfl,?_⟩;refine⟨[],_,_,_,_,iX rfl rfl b2 b2,rfl,rfl,?_⟩;refine⟨by decide,?_⟩;refine⟨rfl,(i+1,S9 z),⟨hi16,bM hz⟩,by omega,[],⟨rfl,?_,f6 e2,tq⟩,tq⟩;show i64 _=i64 ((if _ then _ else _:Nat):Int);rw[if_pos (by omega)]
  ·rw[e1]at hb;refine⟨[],_,_,_,_,iX rfl rfl b2 b2,rfl,rfl,?_⟩;refine⟨by decide,?_⟩;refine⟨rfl,(i+1,S9 z),⟨hi16,bM hz⟩,by omega,[],⟨rfl,?_,f6 e2,tq⟩,tq⟩;show i64 _=i64 ((if _ then _ else _:Nat):Int);rw[if_neg (by omega)]
 ·have hi16:i=16:=by
   rcases Jg i 16 with h8|h8
   ·have:2^i<=2^15:=Z5 (by decide) (by omega);have hp:0<2^i:=K1 (by decide);have:1<=65535/2^i:=(Jq hp).2 (by omega);omega
   ·omega
  subst hi16;refine⟨_,rfl,[],?_,tq⟩;show i64 z.1=i64 _;rw[hz];rfl
def br (b:Bs) (i:Nat):Nat:=(b.getD (2*i) 0).toNat*256+(b.getD (2*i+1) 0).toNat
def V4 (b:Bs) (k:Nat):List Nat:=(List.range k).map (br b)
theorem fK (b k):(V4 b k).length=k:=by simp[V4]
theorem BZ (b k):V4 b (k+1)=V4 b k++[br b k]:=by simp[V4,Zz]
theorem cd (b i):br b i<65536:=by
 unfold br;have h1:=Ji (b.getD (2*i) 0);have h2:=Ji (b.getD (2*i+1) 0);omega
theorem xk (x y:UInt8):I6.wrap ((Zc I6.bits (I6.wrap (I6.wrap (x.toNat:Int)*2^(min (8:Int).toNat I6.bits)))|||Zc I6.bits (I6.wrap (y.toNat:Int))).toNat:Int)=((x.toNat*256+y.toNat:Nat):Int):=by
 have hx:=x.toNat_lt;have hy:=y.toNat_lt;have e3:I6.wrap ((x.toNat:Int)*2^(min (8:Int).toNat I6.bits))=((x.toNat*256:Nat):Int):=by
  show I6.wrap ((x.toNat:Int)*2^8)=_;simp only[IntKind.wrap_i64];omega
 rw[eY,eY,e3,Vh 16 (by decide) (by omega) (by omega),ri (i:=8) x.toNat hy]
theorem tP {n k:Nat} {va:List Value} {b:Bs} (ha:va=bv b) (hn:b.length=n) (h2:n=2*k) (h0:0<k) (hm:n<=1000000):a9 C 133 [.z n va] [] (.ret (.o 1 (.k 0) 0 k)) [.sc (nv (V4 b k))]:=by
 subst ha;subst h2;refine PX.c ?_;refine D6 (fun i=>⟨[(0,.z (2*k) (bv b)),(3,.o 1 (.k 0) 0 i),(4,i64 (2*i:Nat))],[.sc (nv (V4 b i))]⟩) k [(3,1,.sc [])] ⟨[.d 900000 0],⟨rfl,rfl,rfl,tq⟩,⟨_,rfl,rfl⟩,tq⟩ fun i hi=> ?_;refine d9 (fun h=> ?_) (fun h=> ?_)
 ·have d8:i<k:=by simp only[IntKind.wrap_i64]at h;omega
  have e1:(I6.wrap (((2*i:Nat):Int)+1)).toNat=2*i+1:=(by simp(disch:=omega)only[Za];omega);refine⟨by omega,by omega,?_⟩;refine⟨_,by rw[Zb];exact p5 (i:=2*i) (by omega),?_⟩;refine⟨by decide,by omega,by omega,?_⟩;refine⟨_,by rw[e1];exact p5 (i:=2*i+1) (by omega),?_⟩;refine⟨Zp _,by omega,by rw[K8,fK];omega,?_⟩;refine⟨i+1,by omega,by omega,[.d 27 0],⟨rfl,rfl,f6 (by simp(disch:=omega)only[Za];omega),tq⟩,⟨_,rfl,g9 ?_⟩,tq⟩;rw[xk,BZ];exact jv (by rw[fK];omega)
 ·obtain rfl:i=k:=by simp only[IntKind.wrap_i64]at h;omega
  exact⟨_,rfl,[.k 0],rfl,⟨_,rfl,rfl⟩,tq⟩
theorem tI {n:Nat} {va:List Value} (hv:va.length=n) (h0:0<n) (hm:n<=1073741824):a9 C 184 [.z n va] [] (.ret (.o 1 (.k 0) 0 n)) [.sc va]:=by
 refine Tl.c ?_;refine .inl ⟨h0,by omega,by omega,by omega,?_⟩;refine⟨_,rfl,[.d 7 0],?_,⟨_,rfl,rfl⟩,tq⟩;show V.o 1 (.k 0) 0 (0+n)=_;rw[Zl]
def dy (key:Bs) (j:Nat):List Nat:=((List.range j).map fun i=>V4 (L1 key (25*i%128)) 8).flatten
theorem qH (key j):dy key (j+1)=dy key j++V4 (L1 key (25*j%128)) 8:=by simp[dy,Zz]
theorem gU (key):∀j,(dy key j).length=8*j
 |0=>rfl
 |j+1=>by rw[qH,Ze,gU key j,fK];omega
def V2 (key:Bs):List Nat:=(dy key 7).take 52
theorem fI (key):(V2 key).length=52:=by simp[V2,gU]
theorem JS {va:List Value} {key:Bs} (ha:va=bv key) (hk:key.length=16):a9 C 130 [.z 16 va] [] (.ret (.t [.o 1 (.k 0) 0 52,i64 0])) [.sc (nv (V2 key))]:=by
 subst ha;refine PT.c ?_;refine D6 (fun i=>⟨[(0,.z 16 (bv key)),(4,.o 1 (.k 0) 0 (8*i)),(5,i64 (25*i:Nat))],[.sc (nv (dy key i))]⟩) 7 [(4,1,.sc [])] ⟨[.d 900000 0],⟨rfl,rfl,rfl,tq⟩,⟨_,rfl,rfl⟩,tq⟩ fun i hi=> ?_;refine d9 (fun h=> ?_) (fun h=> ?_)
 ·have d8:i<7:=(by omega);refine⟨[],_,_,_,_,pJ (b:=key) (n:=(25*i:Nat)) rfl hk (by decide) (by decide) (by omega),rfl,rfl,?_⟩;refine⟨[],_,_,_,_,tP (b:=L1 key (25*i%128)) (k:=8) ?_ (by rw[H9,hk]) rfl (by decide) (by decide),rfl,rfl,?_⟩
  ·show sub (bv (L1 key _)) 0 16=_;rw[g8 (by rw[H9,hk])];congr 2
  refine⟨by rw[K8,fK];decide,by omega,by rw[K8,gU];omega,?_⟩;refine⟨i+1,by omega,by omega,[.d 19 0],⟨rfl,rfl,f6 (by simp(disch:=omega)only[Za];omega),tq⟩,⟨_,rfl,g9 ?_⟩,tq⟩;rw[Zm,G8 (gU key i),G8 (fK _ _),fM,qH]
 ·obtain rfl:i=7:=(by omega);refine⟨by decide,by decide,by decide,by decide,?_⟩;refine⟨[],_,_,_,_,tI (n:=52) (va:=nv (V2 key)) (by rw[K8,fI]) (by decide) (by decide),?_,rfl,?_⟩
  ·show[V.z 52 (sub (nv (dy key 7)) 0 52)]=_;rw[aZ];rfl
  exact⟨_,rfl,[.d 22 0],rfl,⟨_,rfl,rfl⟩,tq⟩
def W0 (k:List Nat) (i:Nat):List Nat:=
 (if 0<i/\i<8 then [G6 (k.getD (6*i) 0),N6 (k.getD (6*i+2) 0),N6 (k.getD (6*i+1) 0),G6 (k.getD (6*i+3) 0)]
  else [G6 (k.getD (6*i) 0),N6 (k.getD (6*i+1) 0),N6 (k.getD (6*i+2) 0),G6 (k.getD (6*i+3) 0)])++
 (if 0<i then [k.getD (6*i-2) 0,k.getD (6*i-1) 0]else [])
def aO (k:List Nat) (j:Nat):List Nat:=((List.range j).map fun r=>W0 k (8-r)).flatten
theorem oL (k j):aO k (j+1)=aO k j++W0 k (8-j):=by simp[aO,Zz]
theorem xe (k i):(W0 k i).length=if 0<i then 6 else 4:=by
 unfold W0;by_cases h:0<i
 ·rw[if_pos h,if_pos h];split<;>rfl
 ·rw[if_neg h,if_neg h,if_neg (by omega)];rfl
theorem ca (k):∀j,j<=9->(aO k j).length=if j=9 then 52 else 6*j
 |0,_=>rfl
 |j+1,h=>by
  rw[oL,Ze,ca k j (by omega),xe,if_neg (by omega)];by_cases h8:j=8
  ·subst h8;rfl
  ·rw[if_pos (by omega),if_neg (by omega)];omega
def A9 (k:List Nat):List Nat:=aO k 9
theorem sh (k):(A9 k).length=52:=ca k 9 (by decide)
theorem iC {k:List Nat} {a j:Nat} (hj:j<4) (h:a+4<=k.length):(sub (nv k) a 4)[j]? =some (.int .i64 ((k.getD (a+j) 0:Nat):Int)):=by
 rw[aZ];have hl:(sub k a 4).length=4:=by rw[l4];omega
 have eg:(sub k a 4).getD j 0=k.getD (a+j) 0:=by
  simp only[sub,Zd,J0,hj,if_true,J1]
 rw[X6 (by omega),eg]
theorem rV {k:List Nat} {a:Nat} (h:a+2<=k.length):sub (nv k) a 2=nv [k.getD a 0,k.getD (a+1) 0]:=by
 rw[aZ];congr 1;apply Z3;intro j;rcases j with _|_|j
 ·simp only[sub,Zd];rw[J0,if_pos (by decide),J1];simp[Zf (show a<k.length by omega)]
 ·simp only[sub,Zd];rw[J0,if_pos (by decide),J1];simp[Zf (show a+1<k.length by omega)]
 ·simp[sub];omega
theorem Nq {n:Nat} {va:List Value} {k:List Nat} (ha:va=nv k) (hl:k.length=52) (hn:n=52) (hk:∀i,k.getD i 0<65536):a9 C 131 [.z n va] [] (.ret (.o 1 (.k 0) 0 52)) [.sc (nv (A9 k))]:=by
 subst ha;subst hn;refine Qa.c ?_;refine D6 (fun j=>⟨[(0,.z 52 (nv k)),(3,.o 1 (.k 0) 0 (if j=9 then 52 else 6*j)),(4,i64 (8-j))],[.sc (nv (aO k j))]⟩) 9 [(3,1,.sc [])] ⟨[.d 900000 0],⟨rfl,rfl,rfl,tq⟩,⟨_,rfl,rfl⟩,tq⟩ fun j hj=> ?_;refine d9 (fun h=> ?_) (fun h=> ?_)
 ·obtain⟨i,ei,hi8,hj8⟩:∃i:Nat,(8:Int)-j=i/\i<=8/\j=8-i:=⟨8-j,by omega,by omega,by omega⟩;rw[ei,if_neg (show ¬j=9 by omega)];have e1:(I6.wrap (6*(i:Int))).toNat=6*i:=(by simp(disch:=omega)only[Za];omega);have e2:(I6.wrap (I6.wrap (6*(i:Int))+4)).toNat=6*i+4:=(by simp(disch:=omega)only[Za];omega);refine⟨by omega,(by simp(disch:=omega)only[Za];omega),by rw[e1,e2];omega,by rw[e2];omega,by rw[e2];omega,?_⟩;rw[e1,e2,show 6*i+4-6*i=4 by omega];refine⟨by decide,by decide,?_⟩;refine⟨_,iC (j:=1) (by decide) (by omega),?_⟩;refine⟨[],_,_,_,_,za rfl (hk _),rfl,rfl,?_⟩;refine⟨by decide,by decide,?_⟩;refine⟨_,iC (j:=2) (by decide) (by omega),?_⟩;refine⟨[],_,_,_,_,za rfl (hk _),rfl,rfl,?_⟩;by_cases h0:0<i
  ·refine eW (decide_eq_true (by omega)) ?_;by_cases h8:i<8
   ·refine eW (decide_eq_true (by omega)) ?_;refine⟨by decide,by decide,?_⟩;refine⟨_,iC (j:=0) (by decide) (by omega),?_⟩;refine⟨[],_,_,_,_,kt rfl (hk _),rfl,rfl,?_⟩;refine⟨by decide,by decide,?_⟩;refine⟨_,iC (j:=3) (by decide) (by omega),?_⟩;refine⟨[],_,_,_,_,kt rfl (hk _),rfl,rfl,?_⟩;refine⟨Zp _,by omega,by rw[K8,ca _ _ (by omega),if_neg (by omega)];omega,?_⟩;refine eW (decide_eq_true (by omega)) ?_;have e3:(I6.wrap (I6.wrap (6*(i:Int))-2)).toNat=6*i-2:=(by simp(disch:=omega)only[Za];omega);refine⟨by omega,by omega,by rw[e3,e1];omega,by rw[e1];omega,by rw[e1];omega,?_⟩;rw[e3,e1,show 6*i-(6*i-2)=2 by omega];refine⟨by rw[rV (by omega)];rfl,by omega,?_,?_⟩
    ·simp only[Ze,l4,K8,Zs,Zw,ca _ _ (show j<=9 by omega),if_neg (show ¬j=9 by omega)];omega
    refine⟨j+1,by omega,by omega,[.d 58 0],⟨rfl,?_,f6 (by simp(disch:=omega)only[Za];omega),tq⟩,⟨_,rfl,g9 ?_⟩,tq⟩
    ·show V.o 1 (.k 0) 0 (6*j+4+2)=V.o 1 (.k 0) 0 _;rw[if_neg (by omega)];rfl
    ·rw[rV (by omega),show 6*i-2+1=6*i-1 by omega,oL,<-show i=8-j by omega];have eL:sub (nv (aO k j)) 0 (6*j*1)=nv (aO k j):=G8 (by rw[ca _ _ (by omega),if_neg (by omega)];omega);rw[eL];have eq:W0 k i=[G6 (k.getD (6*i) 0),N6 (k.getD (6*i+2) 0),N6 (k.getD (6*i+1) 0),G6 (k.getD (6*i+3) 0)]++[k.getD (6*i-2) 0,k.getD (6*i-1) 0]:=by unfold W0;rw[if_pos (show 0<i by omega),if_pos (by omega)]
     rw[eq];show sub (nv (aO k j)++nv [G6 (k.getD (6*i) 0),N6 (k.getD (6*i+2) 0),N6 (k.getD (6*i+1) 0),G6 (k.getD (6*i+3) 0)]) 0 ((6*j+4)*1)++sub (nv [k.getD (6*i-2) 0,k.getD (6*i-1) 0]) 0 2=_;rw[fM,G8 (by rw[Ze,ca _ _ (by omega),if_neg (by omega)];simp),show sub (nv [k.getD (6*i-2) 0,k.getD (6*i-1) 0]) 0 2=nv [k.getD (6*i-2) 0,k.getD (6*i-1) 0] from rfl,fM,Jf]
   ·refine D8 (decide_eq_false (by omega)) ?_;refine⟨by decide,by decide,?_⟩;refine⟨_,iC (j:=0) (by decide) (by omega),?_⟩;refine⟨[],_,_,_,_,kt rfl (hk _),rfl,rfl,?_⟩;refine⟨by decide,by decide,?_⟩;refine⟨_,iC (j:=3) (by decide) (by omega),?_⟩;refine⟨[],_,_,_,_,kt rfl (hk _),rfl,rfl,?_⟩;refine⟨Zp _,by omega,by rw[K8,ca _ _ (by omega),if_neg (by omega)];omega,?_⟩;refine eW (decide_eq_true (by omega)) ?_;have e3:(I6.wrap (I6.wrap (6*(i:Int))-2)).toNat=6*i-2:=(by simp(disch:=omega)only[Za];omega);refine⟨by omega,by omega,by rw[e3,e1];omega,by rw[e1];omega,by rw[e1];omega,?_⟩;rw[e3,e1,show 6*i-(6*i-2)=2 by omega];refine⟨by rw[rV (by omega)];rfl,by omega,?_,?_⟩
    ·simp only[Ze,l4,K8,Zs,Zw,ca _ _ (show j<=9 by omega),if_neg (show ¬j=9 by omega)];omega
    refine⟨j+1,by omega,by omega,[.d 58 0],⟨rfl,?_,f6 (by simp(disch:=omega)only[Za];omega),tq⟩,⟨_,rfl,g9 ?_⟩,tq⟩
    ·show V.o 1 (.k 0) 0 (6*j+4+2)=V.o 1 (.k 0) 0 _;rw[if_neg (by omega)];rfl
    ·rw[rV (by omega),show 6*i-2+1=6*i-1 by omega,oL,<-show i=8-j by omega];have eL:sub (nv (aO k j)) 0 (6*j*1)=nv (aO k j):=G8 (by rw[ca _ _ (by omega),if_neg (by omega)];omega);rw[eL];have eq:W0 k i=[G6 (k.getD (6*i) 0),N6 (k.getD (6*i+1) 0),N6 (k.getD (6*i+2) 0),G6 (k.getD (6*i+3) 0)]++[k.getD (6*i-2) 0,k.getD (6*i-1) 0]:=by unfold W0;rw[if_pos (show 0<i by omega),if_neg (by omega)]
     rw[eq];show sub (nv (aO k j)++nv [G6 (k.getD (6*i) 0),N6 (k.getD (6*i+1) 0),N6 (k.getD (6*i+2) 0),G6 (k.getD (6*i+3) 0)]) 0 ((6*j+4)*1)++sub (nv [k.getD (6*i-2) 0,k.getD (6*i-1) 0]) 0 2=_;rw[fM,G8 (by rw[Ze,ca _ _ (by omega),if_neg (by omega)];simp),show sub (nv [k.getD (6*i-2) 0,k.getD (6*i-1) 0]) 0 2=nv [k.getD (6*i-2) 0,k.getD (6*i-1) 0] from rfl,fM,Jf]
  ·refine D8 (decide_eq_false (by omega)) ?_;refine⟨by decide,by decide,?_⟩;refine⟨_,iC (j:=0) (by decide) (by omega),?_⟩;refine⟨[],_,_,_,_,kt rfl (hk _),rfl,rfl,?_⟩;refine⟨by decide,by decide,?_⟩;refine⟨_,iC (j:=3) (by decide) (by omega),?_⟩;refine⟨[],_,_,_,_,kt rfl (hk _),rfl,rfl,?_⟩;refine⟨Zp _,by omega,by rw[K8,ca _ _ (by omega),if_neg (by omega)];omega,?_⟩;refine D8 (decide_eq_false (by omega)) ?_;refine⟨j+1,by omega,by omega,[.d 47 0],⟨rfl,?_,f6 (by simp(disch:=omega)only[Za];omega),tq⟩,⟨_,rfl,g9 ?_⟩,tq⟩
   ·show V.o 1 (.k 0) 0 (6*j+4)=V.o 1 (.k 0) 0 _;rw[if_pos (by omega)];congr 1;omega
   ·rw[oL,<-show i=8-j by omega];have eq:W0 k i=[G6 (k.getD (6*i) 0),N6 (k.getD (6*i+1) 0),N6 (k.getD (6*i+2) 0),G6 (k.getD (6*i+3) 0)]:=by unfold W0;rw[if_neg (show ¬0<i by omega),if_neg (by omega),Z8]
    rw[eq];show sub (nv (aO k j)) 0 (6*j*1)++nv [G6 (k.getD (6*i) 0),N6 (k.getD (6*i+1) 0),N6 (k.getD (6*i+2) 0),G6 (k.getD (6*i+3) 0)]=_;rw[G8 (by rw[ca _ _ (by omega),if_neg (by omega)];omega),fM]
 ·obtain rfl:j=9:=(by omega);exact⟨_,rfl,[.k 0],rfl,⟨_,rfl,rfl⟩,tq⟩
abbrev Q4:=Nat×Nat×Nat×Nat
def I9 (x:Q4):Prop:=x.1<65536/\x.2.1<65536/\x.2.2.1<65536/\x.2.2.2<65536
def eK (k:List Nat) (o:Nat) (a c d e:Nat):Nat:=I7 (a^^^d) (k.getD (o+4) 0)
def ai (k:List Nat) (o:Nat) (a c d e:Nat):Nat:=I7 (av (c^^^e) (eK k o a c d e)) (k.getD (o+5) 0)
def aA (k:List Nat) (o:Nat) (a c d e:Nat):Nat:=av (eK k o a c d e) (ai k o a c d e)
def y6 (k:List Nat) (o:Nat) (x:Q4):Q4:=(I7 x.1 (k.getD o 0),av x.2.1 (k.getD (o+1) 0),av x.2.2.1 (k.getD (o+2) 0),I7 x.2.2.2 (k.getD (o+3) 0))
def aY (k:List Nat) (o:Nat) (x:Q4):Q4:=
 (x.1^^^ai k o x.1 x.2.1 x.2.2.1 x.2.2.2,x.2.2.1^^^ai k o x.1 x.2.1 x.2.2.1 x.2.2.2,x.2.1^^^aA k o x.1 x.2.1 x.2.2.1 x.2.2.2,x.2.2.2^^^aA k o x.1 x.2.1 x.2.2.1 x.2.2.2)
def mt (k:List Nat) (x:Q4) (r:Nat):Q4:=aY k (6*r) (y6 k (6*r) x)
def K9 (k:List Nat) (x:Q4) (n:Nat):Q4:=(List.range n).foldl (mt k) x
theorem cQ (k x n):K9 k x (n+1)=mt k (K9 k x n) n:=by simp[K9,Zz]
def H7 (x:Q4):Q4:=(x.1,x.2.2.1,x.2.1,x.2.2.2)
def K5 (k:List Nat) (x:Q4):Q4:=y6 k 48 (H7 (K9 k x 8))
theorem ar {a b:Nat} (ha:a<65536) (hb:b<65536):a^^^b<65536:=Jj (n:=16) ha hb
theorem fJ (k o x):I9 (y6 k o x):=⟨I8 _ _,dj _ _,dj _ _,I8 _ _⟩
theorem Ck (k o) {x:Q4} (h:I9 x):I9 (aY k o x):=⟨ar h.1 (I8 _ _),ar h.2.2.1 (I8 _ _),ar h.2.1 (dj _ _),ar h.2.2.2 (dj _ _)⟩
theorem rK (k) {x:Q4} (h:I9 x):∀n,I9 (K9 k x n)
 |0=>h
 |n+1=>by rw[cQ];exact Ck _ _ (fJ _ _ _)
theorem N3 {k:List Nat} {a j:Nat} (h:a+j<k.length):(nv (k.drop a))[j]? =some (.int .i64 ((k.getD (a+j) 0:Nat):Int)):=by
 simp[nv,Zd,h]
theorem zd {n:Nat} {va vb:List Value} {k:List Nat} {x:Q4} (ha:va=nv [x.1,x.2.1,x.2.2.1,x.2.2.2]) (hb:vb=nv k) (hl:k.length=52) (hn:n=52) (hk:∀i,k.getD i 0<65536) (hx:I9 x):
  a9 C 132 [.z 4 va,.z n vb] [] (.ret (.o 1 (.k 0) 0 4)) [.sc (nv [(K5 k x).1,(K5 k x).2.1,(K5 k x).2.2.1,(K5 k x).2.2.2])]:=by
 subst ha;subst hb;subst hn;refine PZ.c ?_;refine bd 0 rfl 9 (fun r=>⟨[(1,.z (52-6*r) (nv (k.drop (6*r)))),(5,i64 ((if r=8 then H7 (K9 k x r)else K9 k x r)).1),(6,i64 ((if r=8 then H7 (K9 k x r)else K9 k x r)).2.1),(7,i64 ((if r=8 then H7 (K9 k x r)else K9 k x r)).2.2.1),(8,i64 ((if r=8 then H7 (K9 k x r)else K9 k x r)).2.2.2)],[]⟩) ?_ fun r hr=> ?_
 ·refine⟨by decide,by decide,_,rfl,by decide,by decide,_,rfl,by decide,by decide,_,rfl,by decide,by decide,_,rfl,?_⟩;exact⟨[],0,by decide,[],⟨rfl,rfl,rfl,rfl,rfl,tq⟩,tq⟩
 ·generalize hs:(if r=8 then H7 (K9 k x r)else K9 k x r)=s;have hso:I9 s:=by
   rw[<-hs];split
   ·obtain⟨a,b,c,d⟩:=rK k hx r;exact⟨a,c,b,d⟩
   ·exact rK k hx r
  obtain⟨o1,o2,o3,o4⟩:=hso;refine⟨by decide,by omega,?_⟩;refine⟨_,N3 (j:=0) (by omega),?_⟩;refine⟨[],_,_,_,_,iX rfl rfl o1 (hk _),rfl,rfl,?_⟩;refine⟨by decide,by omega,?_⟩;refine⟨_,N3 (j:=1) (by omega),?_⟩;refine⟨[],_,_,_,_,pu rfl rfl o2 (hk _),rfl,rfl,?_⟩;refine⟨by decide,by omega,?_⟩;refine⟨_,N3 (j:=2) (by omega),?_⟩;refine⟨[],_,_,_,_,pu rfl rfl o3 (hk _),rfl,rfl,?_⟩;refine⟨by decide,by omega,?_⟩;refine⟨_,N3 (j:=3) (by omega),?_⟩;refine⟨[],_,_,_,_,iX rfl rfl o4 (hk _),rfl,rfl,?_⟩;obtain⟨p1,p2,p3,p4⟩:=fJ k (6*r) s;have hF:=I8 ((y6 k (6*r) s).1^^^(y6 k (6*r) s).2.2.1) (k.getD (6*r+4) 0);refine d9 (fun h=> ?_) (fun h=> ?_)
  ·have hr8:r<8:=(by omega);refine⟨by decide,by omega,?_⟩;refine⟨_,N3 (j:=4) (by omega),?_⟩;refine⟨[],_,_,_,_,iX (a:=(y6 k (6*r) s).1^^^(y6 k (6*r) s).2.2.1) (O8 16 (by decide) p1 p3) rfl (ar p1 p3) (hk _),rfl,rfl,?_⟩;refine⟨[],_,_,_,_,pu (a:=(y6 k (6*r) s).2.1^^^(y6 k (6*r) s).2.2.2) (O8 16 (by decide) p2 p4) rfl (ar p2 p4) hF,rfl,rfl,?_⟩;refine⟨by decide,by omega,?_⟩;refine⟨_,N3 (j:=5) (by omega),?_⟩;refine⟨[],_,_,_,_,iX rfl rfl (dj _ _) (hk _),rfl,rfl,?_⟩;refine⟨[],_,_,_,_,pu rfl rfl hF (I8 _ _),rfl,rfl,?_⟩;refine⟨by decide,?_⟩;have hg:=I8 (av ((y6 k (6*r) s).2.1^^^(y6 k (6*r) s).2.2.2) (I7 ((y6 k (6*r) s).1^^^(y6 k (6*r) s).2.2.1) (k.getD (6*r+4) 0))) (k.getD (6*r+5) 0);have hh:=dj (I7 ((y6 k (6*r) s).1^^^(y6 k (6*r) s).2.2.1) (k.getD (6*r+4) 0)) (I7 (av ((y6 k (6*r) s).2.1^^^(y6 k (6*r) s).2.2.2) (I7 ((y6 k (6*r) s).1^^^(y6 k (6*r) s).2.2.1) (k.getD (6*r+4) 0))) (k.getD (6*r+5) 0));have hst:s=K9 k x r:=by rw[<-hs,if_neg (by omega)]
   have x1:=O8 16 (by decide) p1 hg;have x2:=O8 16 (by decide) p3 hg;have x3:=O8 16 (by decide) p2 hh;have x4:=O8 16 (by decide) p4 hh;have e6:(6:Int).toNat=6:=rfl;refine⟨by show 6<=52-6*r;omega,Zp _,Zp _,?_⟩;refine j5 (fun h4=> ?_) (fun h4=> ?_)
   ·have h4':52-6*r-6=4:=Int.ofNat.inj h4;refine⟨rfl,r+1,by omega,by omega,[],⟨?_,f6 ?_,f6 ?_,f6 ?_,f6 ?_,tq⟩,tq⟩
    ·show V.z (52-6*r-6) (sub _ 6 (52-6*r-6))=_;rw[aZ,U1,M0 _ _ _ (by omega),show 52-6*r-6=52-6*(r+1) by omega,show 6*r+6=6*(r+1) by omega]
    ·rw[if_pos (by omega),cQ,<-hst];exact x1
    ·rw[if_pos (by omega),cQ,<-hst];exact x3
    ·rw[if_pos (by omega),cQ,<-hst];exact x2
    ·rw[if_pos (by omega),cQ,<-hst];exact x4
   ·have h4':52-6*r-6≠4:=fun e=>h4 (congrArg Int.ofNat e);refine⟨rfl,r+1,by omega,by omega,[],⟨?_,f6 ?_,f6 ?_,f6 ?_,f6 ?_,tq⟩,tq⟩
    ·show V.z (52-6*r-6) (sub _ 6 (52-6*r-6))=_;rw[aZ,U1,M0 _ _ _ (by omega),show 52-6*r-6=52-6*(r+1) by omega,show 6*r+6=6*(r+1) by omega]
    ·rw[if_neg (by omega),cQ,<-hst];exact x1
    ·rw[if_neg (by omega),cQ,<-hst];exact x2
    ·rw[if_neg (by omega),cQ,<-hst];exact x3
    ·rw[if_neg (by omega),cQ,<-hst];exact x4
  ·obtain rfl:r=8:=(by omega);have hst:s=H7 (K9 k x 8):=by rw[<-hs,if_pos rfl]
   refine⟨_,rfl,[.d 88 0],rfl,⟨_,rfl,g9 ?_⟩,tq⟩;show nv [(y6 k 48 s).1,(y6 k 48 s).2.1,(y6 k 48 s).2.2.1,(y6 k 48 s).2.2.2]=_;rw[hst];rfl
abbrev vw (k:List Nat):V:= .q [nz k,nz (A9 k)] 0
def V5 (k:List Nat):Prop:=∀i,k.getD i 0<65536
theorem VQ (b k):V5 (V4 b k):=by
 intro i;rw[Zd];unfold V4;rw[Je];cases h:(List.range k)[i]? with
 |none=>simp
 |some j=>exact cd b j
theorem vY (l:List Nat):V5 l↔∀x∈l,x<65536:=by
 constructor
 ·intro h x hx;obtain⟨i,hi,rfl⟩:=List.getElem_of_mem hx;have:=h i
  rwa [Zd,Zf hi]at this
 ·intro h i;rw[Zd];rcases Jg i l.length with hi|hi
  ·rw[Zf hi];exact h _ (Kn hi)
  ·rw[Zg hi];decide
theorem nW (key):V5 (V2 key):=by
 rw[vY];intro x hx;have h1:=List.mem_of_mem_take hx;unfold dy at h1;obtain⟨l,hl,hxl⟩:=List.mem_flatten.1 h1;obtain⟨j,_,rfl⟩:=List.mem_map.1 hl;exact(vY _).1 (VQ _ _) x hxl
theorem a2J {k} (h:V5 k):V5 (A9 k):=by
 rw[vY];intro x hx;obtain⟨l,hl,hxl⟩:=List.mem_flatten.1 hx;obtain⟨j,_,rfl⟩:=List.mem_map.1 hl;unfold W0 at hxl;have hi:=fun i=>qC (h i);rcases Kv.1 hxl with h1|h1
 ·split at h1<;>(simp only[List.mem_cons,List.not_mem_nil,or_false]at h1;rcases h1 with rfl|rfl|rfl|rfl)<;>first|exact hi _|exact Wl _
 ·split at h1
  ·simp only[List.mem_cons,List.not_mem_nil,or_false]at h1;rcases h1 with rfl|rfl
   ·exact h _
   ·exact h _
  ·cases h1
theorem yZ {va:List Value} {key:Bs} (ha:va=bv key) (hk:key.length=16):a9 C 80 [.z 16 va] [] (.ret (.t [vw (V2 key),i64 0])) []:=by
 refine PV.c ?_;refine⟨[],_,_,_,_,JS ha hk,rfl,rfl,?_⟩;refine⟨[],_,_,_,_,Nq (k:=V2 key) (n:=52) (G8 (fI key)) (fI key) rfl (nW key),rfl,rfl,?_⟩;refine⟨_,rfl,[],?_,tq⟩;show V.t [.q [.z 52 (sub _ 0 52),.z 52 (sub _ 0 52)] 0,i64 0]=V.t [.q [.z _ _,.z _ _] 0,i64 0];rw[G8 (fI key),G8 (sh _),fI,sh]
def N4 (b:Bs):Q4:=(br b 0,br b 1,br b 2,br b 3)
def bT (x:Nat):Bs:=[Zt (x/256),Zt x]
def ap (x:Q4):Bs:=bT x.1++bT x.2.1++bT x.2.2.1++bT x.2.2.2
theorem rz {x:Nat} (hx:x<65536):[Value.int .u8 (U8.wrap ((x:Int).fdiv (2^(min (8:Int).toNat I6.bits)))),Value.int .u8 (U8.wrap (x:Int))]=bv (bT x):=by
 have e:(x:Int).fdiv (2^(min (8:Int).toNat I6.bits))=((x/256:Nat):Int):=by
  rw[Z1 _ (by decide)];rfl
 rw[e,X5,X5];rfl
theorem Xi (x):(ap x).length=8:=rfl
def aG (y:Q4) (i:Nat):Bs:=(([y.1,y.2.1,y.2.2.1,y.2.2.2]).take i).flatMap bT
theorem iu (y:Q4):∀i,i<=4->(aG y i).length=2*i:=by
 intro i hi;rcases i with _|_|_|_|_|i;all_goals first|rfl|omega
theorem ry (y:Q4):∀i,i<4->aG y (i+1)=aG y i++bT (([y.1,y.2.1,y.2.2.1,y.2.2.2]).getD i 0):=by
 intro i hi;rcases i with _|_|_|_|i;all_goals first|rfl|omega
theorem JR {va:List Value} {b:Bs} {k:List Nat} {back:Bool} (ha:va=bv b) (hb:b.length=8) (hl:k.length=52) (hk:V5 k):a9 C 81 [vw k,.z 8 va,bool back] [] (C0 8) [.sc (bv (ap (K5 (if back then A9 k else k) (N4 b))))]:=by
 refine AH.c ?_;refine⟨_,rfl,?_⟩;have hq:I9 (N4 b):=⟨cd _ _,cd _ _,cd _ _,cd _ _⟩;have hz0:nz k= .z 52 (nv k):=by rw[<-hl]
 have hz1:nz (A9 k)= .z 52 (nv (A9 k)):=by rw[<-sh k]
 cases back
 ·refine⟨by decide,by decide,by decide,?_⟩;refine⟨[],_,_,_,_,tP (k:=4) ha hb rfl (by decide) (by decide),rfl,rfl,?_⟩;refine⟨[],_,_,_,_,zd (k:=k) (x:=N4 b) (n:=52) (va:=sub (nv (V4 b 4)) 0 4) (vb:=nv k) (G8 (fK _ _)) rfl hl rfl hk hq,?_,rfl,?_⟩
  ·show[V.z 4 (sub (nv (V4 b 4)) 0 4),nz k]=_;rw[hz0]
  generalize hy:K5 k (N4 b)=y;have yo:I9 y:=by rw[<-hy];exact fJ _ _ _
  refine m5 (fun i=>⟨[(9,.o 1 (.k 0) 0 (2*i)),(28,.z 4 (nv [y.1,y.2.1,y.2.2.1,y.2.2.2])),(29,i64 4),(30,i64 i)],[.sc (bv (aG y i))]⟩) 4 ⟨[.d 24 0],⟨rfl,rfl,rfl,rfl,tq⟩,⟨_,rfl,rfl⟩,tq⟩ fun i hi=> ?_;refine d9 (fun h=> ?_) (fun h=> ?_)
  ·have d8:i<4:=(by omega);have hv:([y.1,y.2.1,y.2.2.1,y.2.2.2]).getD i 0<65536:=by
    obtain⟨a,b',c,d⟩:=yo;rcases i with _|_|_|_|i;all_goals first|assumption|omega
   refine⟨by omega,by omega,?_⟩;refine⟨_,by rw[Zb];exact X6 (k:=[y.1,y.2.1,y.2.2.1,y.2.2.2]) d8,?_⟩;refine⟨by decide,Zp _,by omega,by rw[i9,iu y i (by omega)];omega,?_⟩;refine⟨i+1,by omega,by omega,[.d 41 0],⟨rfl,rfl,rfl,f6 (by simp(disch:=omega)only[Za];omega),tq⟩,⟨_,rfl,g9 ?_⟩,tq⟩;rw[Zm,g8 (iu y i (by omega)),ry y i d8,<-A5];show bv (aG y i)++[Value.int .u8 _,Value.int .u8 _]=_;rw[rz hv]
  ·obtain rfl:i=4:=(by omega);refine⟨_,rfl,[.k 0],rfl,⟨_,rfl,g9 ?_⟩,tq⟩;show bv (aG y 4)=bv (ap (K5 k (N4 b)));rw[hy];rfl
 ·refine⟨_,rfl,?_⟩;refine⟨by decide,by decide,by decide,?_⟩;refine⟨[],_,_,_,_,tP (k:=4) ha hb rfl (by decide) (by decide),rfl,rfl,?_⟩;refine⟨[],_,_,_,_,zd (k:=A9 k) (x:=N4 b) (n:=52) (va:=sub (nv (V4 b 4)) 0 4) (vb:=nv (A9 k)) (G8 (fK _ _)) rfl (sh k) rfl (a2J hk) hq,?_,rfl,?_⟩
  ·show[V.z 4 (sub (nv (V4 b 4)) 0 4),nz (A9 k)]=_;rw[hz1]
  generalize hy:K5 (A9 k) (N4 b)=y;have yo:I9 y:=by rw[<-hy];exact fJ _ _ _
  refine m5 (fun i=>⟨[(9,.o 1 (.k 0) 0 (2*i)),(28,.z 4 (nv [y.1,y.2.1,y.2.2.1,y.2.2.2])),(29,i64 4),(30,i64 i)],[.sc (bv (aG y i))]⟩) 4 ⟨[.d 24 0],⟨rfl,rfl,rfl,rfl,tq⟩,⟨_,rfl,rfl⟩,tq⟩ fun i hi=> ?_;refine d9 (fun h=> ?_) (fun h=> ?_)
  ·have d8:i<4:=(by omega);have hv:([y.1,y.2.1,y.2.2.1,y.2.2.2]).getD i 0<65536:=by
    obtain⟨a,b',c,d⟩:=yo;rcases i with _|_|_|_|i;all_goals first|assumption|omega
   refine⟨by omega,by omega,?_⟩;refine⟨_,by rw[Zb];exact X6 (k:=[y.1,y.2.1,y.2.2.1,y.2.2.2]) d8,?_⟩;refine⟨by decide,Zp _,by omega,by rw[i9,iu y i (by omega)];omega,?_⟩;refine⟨i+1,by omega,by omega,[.d 41 0],⟨rfl,rfl,rfl,f6 (by simp(disch:=omega)only[Za];omega),tq⟩,⟨_,rfl,g9 ?_⟩,tq⟩;rw[Zm,g8 (iu y i (by omega)),ry y i d8,<-A5];show bv (aG y i)++[Value.int .u8 _,Value.int .u8 _]=_;rw[rz hv]
  ·obtain rfl:i=4:=(by omega);refine⟨_,rfl,[.k 0],rfl,⟨_,rfl,g9 ?_⟩,tq⟩;show bv (aG y 4)=bv (ap (K5 (A9 k) (N4 b)));rw[hy];rfl
theorem JQ {va:List Value} {k:List Nat} {n:Nat} {back:Bool} (hn:n≠8):a9 C 81 [vw k,.z n va,bool back] [] U2 []:=by
 refine AH.c ?_;refine n7 (fun h=> ?_) (fun h=>absurd (by omega) hn);exact⟨_,rfl,[],rfl,tq⟩
theorem zK {a:Nat} {x:Int} (hx:x=a):a9 C 272 [i64 x] [] (.ret (i64 (C1 a))) []:=by
 subst hx;refine Su.c ?_;refine j5 (fun h=> ?_) (fun h=> ?_)
 ·refine⟨_,rfl,[],f6 ?_,tq⟩;unfold C1;rw[if_pos (by omega)];rfl
 ·refine⟨_,rfl,[],f6 ?_,tq⟩;unfold C1;rw[if_neg (by omega)]
theorem bF {a b:Nat} {x y:Int} (hx:x=a) (hy:y=b) (ha:a<65536) (hb:b<65536):a9 C 254 [i64 x,i64 y] [] (.ret (i64 (I7 a b))) []:=by
 refine Sl.c ?_;refine⟨[],_,_,_,_,zK hx,rfl,rfl,?_⟩;refine⟨[],_,_,_,_,zK hy,rfl,rfl,?_⟩;refine⟨by decide,by decide,_,rfl,[],f6 ?_,tq⟩;exact qV (DT ha) (DT hb)
theorem kC {a b:Nat} {x y:Int} (hx:x=a) (hy:y=b) (ha:a<65536) (hb:b<65536):a9 C 258 [i64 x,i64 y] [] (.ret (i64 (av a b))) []:=by
 subst hx;subst hy;refine Sp.c ?_;refine⟨by decide,_,rfl,[],f6 ?_,tq⟩;rw[show (a:Int)+(b:Int)=((a+b:Nat):Int) from rfl,dG _ (by omega)];rfl
def cJ (a b:Nat):Nat:=(a+65536-b)%65536
theorem vJ {a b:Nat} (hb:b<65536):cJ a b=av a (N6 b):=by unfold cJ av N6;omega
theorem pE {a b:Nat} {x y:Int} (hx:x=a) (hy:y=b) (ha:a<65536) (hb:b<65536):a9 C 256 [i64 x,i64 y] [] (.ret (i64 (cJ a b))) []:=by
 subst hx;subst hy;refine Ss.c ?_;refine⟨by decide,_,rfl,[],f6 ?_,tq⟩;have e:I6.wrap (I6.wrap ((a:Int)-b)+65536)=((a+65536-b:Nat):Int):=by simp(disch:=omega)only[Za];omega
 rw[e];rfl
theorem pD {a:Nat} {x:Int} (hx:x=a) (ha:a<65536):a9 C 255 [i64 x] [] (.ret (i64 (G6 a))) []:=by
 subst hx;refine Sj.c ?_;refine nZ S9 (1,a,65535) 16 (fun i z=>⟨[(0,i64 z.2.1),(3,i64 z.1),(4,i64 z.2.2)],[]⟩) ⟨[],⟨rfl,rfl,rfl,tq⟩,tq⟩ fun i z hi hz=> ?_;obtain⟨b1,b2,b3⟩:=qz ha i;rw[<-hz]at b1 b2 b3;refine d9 (fun h=> ?_) (fun h=> ?_)
 ·have hi16:i<16:=by
   rcases Jg i 16 with h8|h8
   ·exact h8
   ·obtain rfl:i=16:=(by omega);rw[b3]at h;exact absurd h (by decide)
  have hle:z.2.2<=65535:=by rw[b3];exact Jo _ _
  have e1:((z.2.2:Nat):Int).tmod 2=((z.2.2%2:Nat):Int):=aj _ 2;have e2:I6.wrap (((z.2.2:Nat):Int).tdiv 2)=((z.2.2/2:Nat):Int):=by
   rw[show ((z.2.2:Nat):Int).tdiv 2=((z.2.2/2:Nat):Int) from rfl,dG _ (by omega)]
  refine⟨by decide,?_⟩;refine j5 (fun hb=> ?_) (fun hb=> ?_)
  ·rw[e1]at hb;refine⟨[],_,_,_,_,bF rfl rfl b1 b2,rfl,rfl,?_⟩;refine⟨[],_,_,_,_,bF rfl rfl b2 b2,rfl,rfl,?_⟩;refine⟨by decide,?_⟩;refine⟨(i+1,S9 z),⟨hi16,bM hz⟩,by omega,[],⟨rfl,?_,f6 e2,tq⟩,tq⟩;show i64 _=i64 ((if _ then _ else _:Nat):Int);rw[if_pos (by omega)]
  ·rw[e1]at hb;refine⟨[],_,_,_,_,bF rfl rfl b2 b2,rfl,rfl,?_⟩;refine⟨by decide,?_⟩;refine⟨(i+1,S9 z),⟨hi16,bM hz⟩,by omega,[],⟨rfl,?_,f6 e2,tq⟩,tq⟩;show i64 _=i64 ((if _ then _ else _:Nat):Int);rw[if_neg (by omega)]
 ·have hi16:i=16:=by
   rcases Jg i 16 with h8|h8
   ·have:2^i<=2^15:=Z5 (by decide) (by omega);have hp:0<2^i:=K1 (by decide);have:1<=65535/2^i:=(Jq hp).2 (by omega);omega
   ·omega
  subst hi16;refine⟨_,rfl,[],?_,tq⟩;show i64 z.1=i64 _;rw[hz];rfl
theorem zb {n o:Nat} {k:List Nat} {x0 x1 x2 x3:Int} {a c d e:Nat} (h0:x0=a) (h1:x1=c) (h2:x2=d) (h3:x3=e) (ha:a<65536) (hc:c<65536) (hd:d<65536) (he:e<65536) (ho:o+6<=k.length) (hn:n=k.length-o) (hk:V5 k):
  a9 C 257 [i64 x0,i64 x1,i64 x2,i64 x3,.z n (nv (k.drop o))] [] (.ret (.t [i64 (aA k o a c d e),i64 (ai k o a c d e)])) []:=by
 subst h0;subst h1;subst h2;subst h3;refine Sr.c ?_;refine⟨by decide,by omega,?_⟩;refine⟨_,N3 (j:=4) (by omega),?_⟩;refine⟨[],_,_,_,_,bF (a:=a^^^d) (O8 16 (by decide) ha hd) rfl (ar ha hd) (hk _),rfl,rfl,?_⟩;refine⟨[],_,_,_,_,kC (a:=c^^^e) (O8 16 (by decide) hc he) rfl (ar hc he) (I8 _ _),rfl,rfl,?_⟩;refine⟨by decide,by omega,?_⟩;refine⟨_,N3 (j:=5) (by omega),?_⟩;refine⟨[],_,_,_,_,bF rfl rfl (dj _ _) (hk _),rfl,rfl,?_⟩;refine⟨[],_,_,_,_,kC rfl rfl (I8 _ _) (I8 _ _),rfl,rfl,?_⟩;exact⟨_,rfl,[],rfl,tq⟩
abbrev qA (x:Q4):V:= .a [i64 x.1,i64 x.2.1,i64 x.2.2.1,i64 x.2.2.2]
theorem Ni {k:List Nat} {x:Q4} (hl:k.length=52) (hk:V5 k) (hx:I9 x):a9 C 211 [qA x,.z 52 (nv k)] [] (.ret (qA (K5 k x))) []:=by
 refine Sv.c ?_;refine m5 (fun r=>⟨[(1,.z (52-6*r) (nv (k.drop (6*r)))),(2,.p (.k 0) 0),(4,.p (.k 1) 0),(5,i64 r)],[.mx [i64 (K9 k x r).1,i64 (K9 k x r).2.1,i64 (K9 k x r).2.2.1,i64 (K9 k x r).2.2.2],.sc [.int .i64 0,.int .i64 0,.int .i64 0,.int .i64 0]]⟩) 8 ⟨[.d 2 0,.d 4 0],⟨rfl,rfl,rfl,rfl,tq⟩,⟨_,rfl,rfl⟩,⟨_,rfl,rfl⟩,tq⟩ fun r hr=> ?_;obtain⟨o1,o2,o3,o4⟩:=rK k hx r;generalize hs:K9 k x r=s at o1 o2 o3 o4 ⊢;refine d9 (fun h=> ?_) (fun h=> ?_)
 ·have d8:r<8:=(by omega);refine⟨by decide,by decide,_,rfl,by decide,by omega,?_⟩;refine⟨_,N3 (j:=0) (by omega),?_⟩;refine⟨[],_,_,_,_,bF rfl rfl o1 (hk _),rfl,rfl,?_⟩;refine⟨by decide,by decide,_,rfl,by decide,by omega,?_⟩;refine⟨_,N3 (j:=1) (by omega),?_⟩;refine⟨[],_,_,_,_,kC rfl rfl o2 (hk _),rfl,rfl,?_⟩;refine⟨by decide,by decide,_,rfl,by decide,by omega,?_⟩;refine⟨_,N3 (j:=2) (by omega),?_⟩;refine⟨[],_,_,_,_,kC rfl rfl o3 (hk _),rfl,rfl,?_⟩;refine⟨by decide,by decide,_,rfl,by decide,by omega,?_⟩;refine⟨_,N3 (j:=3) (by omega),?_⟩;refine⟨[],_,_,_,_,bF rfl rfl o4 (hk _),rfl,rfl,?_⟩;obtain⟨p1,p2,p3,p4⟩:=fJ k (6*r) s;refine⟨[],_,_,_,_,zb (k:=k) (o:=6*r) rfl rfl rfl rfl p1 p2 p3 p4 (by omega) (by omega) hk,rfl,rfl,?_⟩;have hg:ai k (6*r) (y6 k (6*r) s).1 (y6 k (6*r) s).2.1 (y6 k (6*r) s).2.2.1 (y6 k (6*r) s).2.2.2<65536:=I8 _ _;have hh:aA k (6*r) (y6 k (6*r) s).1 (y6 k (6*r) s).2.1 (y6 k (6*r) s).2.2.1 (y6 k (6*r) s).2.2.2<65536:=dj _ _;have x1:=O8 16 (by decide) p1 hg;have x2:=O8 16 (by decide) p3 hg;have x3:=O8 16 (by decide) p2 hh;have x4:=O8 16 (by decide) p4 hh;refine⟨Zp _,by decide,by show 6<=52-6*r;omega,Zp _,Zp _,?_⟩;refine⟨r+1,by omega,by omega,[.k 0,.k 1],⟨?_,rfl,rfl,f6 (by simp(disch:=omega)only[Za];omega),tq⟩,⟨_,rfl,?_⟩,⟨_,rfl,rfl⟩,tq⟩
  ·show V.z (52-6*r-6) (sub _ 6 (52-6*r-6))=_;rw[aZ,U1,M0 _ _ _ (by omega),show 52-6*r-6=52-6*(r+1) by omega,show 6*r+6=6*(r+1) by omega]
  ·show B.mx [vi .i64 _,vi .i64 _,vi .i64 _,vi .i64 _]=B.mx [vi .i64 _,vi .i64 _,vi .i64 _,vi .i64 _];rw[cQ,hs];congr 2
   ·exact f6 x1
   congr 1
   ·exact f6 x2
   congr 1
   ·exact f6 x3
   congr 1;exact f6 x4
 ·obtain rfl:r=8:=(by omega);refine⟨by decide,by decide,_,rfl,by decide,by omega,?_⟩;refine⟨_,N3 (j:=0) (by omega),?_⟩;refine⟨[],_,_,_,_,bF rfl rfl o1 (hk _),rfl,rfl,?_⟩;refine⟨by decide,by decide,_,rfl,by decide,by omega,?_⟩;refine⟨_,N3 (j:=1) (by omega),?_⟩;refine⟨[],_,_,_,_,kC rfl rfl o3 (hk _),rfl,rfl,?_⟩;refine⟨by decide,by decide,_,rfl,by decide,by omega,?_⟩;refine⟨_,N3 (j:=2) (by omega),?_⟩;refine⟨[],_,_,_,_,kC rfl rfl o2 (hk _),rfl,rfl,?_⟩;refine⟨by decide,by decide,_,rfl,by decide,by omega,?_⟩;refine⟨_,N3 (j:=3) (by omega),?_⟩;refine⟨[],_,_,_,_,bF rfl rfl o4 (hk _),rfl,rfl,?_⟩;refine⟨Zp _,?_⟩;refine⟨_,rfl,rfl,?_⟩;refine⟨_,rfl,[],?_,tq⟩;show qA (y6 k 48 (H7 s))=qA (K5 k x);rw[<-hs];rfl
def dT (k:List Nat) (o:Nat) (x:Q4):Q4:=(I7 x.1 (G6 (k.getD o 0)),cJ x.2.2.1 (k.getD (o+2) 0),cJ x.2.1 (k.getD (o+1) 0),I7 x.2.2.2 (G6 (k.getD (o+3) 0)))
def aT (k:List Nat) (o:Nat) (x:Q4):Q4:=(x.1^^^ai k o x.1 x.2.2.1 x.2.1 x.2.2.2,x.2.1^^^ai k o x.1 x.2.2.1 x.2.1 x.2.2.2,x.2.2.1^^^aA k o x.1 x.2.2.1 x.2.1 x.2.2.2,x.2.2.2^^^aA k o x.1 x.2.2.1 x.2.1 x.2.2.2)
def cr (k:List Nat) (o:Nat) (x:Q4):Q4:=(I7 x.1 (G6 (k.getD o 0)),cJ x.2.2.1 (k.getD (o+1) 0),cJ x.2.1 (k.getD (o+2) 0),I7 x.2.2.2 (G6 (k.getD (o+3) 0)))
def ke (k:List Nat) (x:Q4) (r:Nat):Q4:=cr k (6*(7-r)) (aT k (6*(7-r)) x)
def Y8 (k:List Nat) (x:Q4) (n:Nat):Q4:=(List.range n).foldl (ke k) (dT k 48 x)
theorem pf (k x n):Y8 k x (n+1)=ke k (Y8 k x n) n:=by simp[Y8,Zz]
theorem hO (a b):cJ a b<65536:=Z4 _ (by decide)
theorem GX (k x):∀n,I9 (Y8 k x n)
 |0=>⟨I8 _ _,hO _ _,hO _ _,I8 _ _⟩
 |n+1=>by rw[pf];exact⟨I8 _ _,hO _ _,hO _ _,I8 _ _⟩
theorem a2K (k:List Nat):∀n,n<=9->∀r j,r<n->j<(W0 k (8-r)).length->(aO k n).getD (6*r+j) 0=(W0 k (8-r)).getD j 0:=by
 intro n;induction n with
 |zero=>intro _ r j h;omega
 |succ n ih=>
  intro hn r j hr hj;have hl:(aO k n).length=6*n:=by rw[ca k n (by omega),if_neg (by omega)]
  have hj6:j<6:=by rw[xe]at hj;split at hj<;>omega
  rw[oL,Zd,Zd];by_cases h:r=n
  ·subst h;rw[Z7 (by omega),hl,show 6*r+j-6*r=j by omega]
  ·rw[Ja (by omega),<-Zd,ih (by omega) r j (by omega) hj,Zd]
theorem oK (k:List Nat) {r j:Nat} (hr:r<9) (hj:j<if r=8 then 4 else 6):(A9 k).getD (6*r+j) 0=(W0 k (8-r)).getD j 0:=by
 refine a2K k 9 (by decide) r j hr ?_;rw[xe];by_cases h:r=8
 ·rw[if_pos h]at hj;rw[if_neg (by omega)];exact hj
 ·rw[if_neg h]at hj;rw[if_pos (by omega)];exact hj
theorem GY (k:List Nat) (hk:V5 k) (x:Q4):∀r,r<8->Y8 k x r=H7 (y6 (A9 k) (6*r) (K9 (A9 k) x r)):=by
 intro r;induction r with
 |zero=>
  intro _;have h:=fun j (hj:j<6)=>oK k (r:=0) (j:=j) (by decide) hj;have h0:=h 0 (by decide);have h1:=h 1 (by decide);have h2:=h 2 (by decide);have h3:=h 3 (by decide);show dT k 48 x=H7 (y6 (A9 k) (6*0) x);simp only[y6,H7,dT,h0,h1,h2,h3,vJ (hk _)];rfl
 |succ r ih=>
  intro hr;have ih:=ih (by omega);have hp:=fun j (hj:j<6)=>oK k (r:=r) (j:=j) (by omega) (by rw[if_neg (by omega)];exact hj);have hq:=fun j (hj:j<6)=>oK k (r:=r+1) (j:=j) (by omega) (by rw[if_neg (by omega)];exact hj);have u4:(A9 k).getD (6*r+4) 0=k.getD (6*(7-r)+4) 0:=by
   rw[hp 4 (by decide)];unfold W0;rw[if_pos (show 0<8-r by omega)];have:6*(8-r)-2=6*(7-r)+4:=by omega
   split<;>(show k.getD (6*(8-r)-2) 0=_;rw[this])
  have u5:(A9 k).getD (6*r+5) 0=k.getD (6*(7-r)+5) 0:=by
   rw[hp 5 (by decide)];unfold W0;rw[if_pos (show 0<8-r by omega)];have:6*(8-r)-1=6*(7-r)+5:=by omega
   split<;>(show k.getD (6*(8-r)-1) 0=_;rw[this])
  have e8:8-(r+1)=7-r:=by omega
  have un:W0 k (7-r)=[G6 (k.getD (6*(7-r)) 0),N6 (k.getD (6*(7-r)+2) 0),N6 (k.getD (6*(7-r)+1) 0),G6 (k.getD (6*(7-r)+3) 0)]++[k.getD (6*(7-r)-2) 0,k.getD (6*(7-r)-1) 0]:=by
   unfold W0;rw[if_pos (by omega),if_pos (by omega)]
  have v0:=hq 0 (by decide);have v1:=hq 1 (by decide);have v2:=hq 2 (by decide);have v3:=hq 3 (by decide);rw[e8,un]at v0 v1 v2 v3;rw[pf,cQ,ih];unfold mt;generalize y6 (A9 k) (6*r) (K9 (A9 k) x r)=p;have mM:aT k (6*(7-r)) (H7 p)=aY (A9 k) (6*r) p:=by
   simp only[aT,aY,H7,ai,aA,eK,u4,u5]
  unfold ke;rw[mM];generalize aY (A9 k) (6*r) p=z;simp only[cr,y6,H7,v1,v2,v3,vJ (hk _)];rw[show 6*(r+1)+0=6*(r+1) from rfl]at v0;rw[v0];rfl
theorem tl (k:List Nat) (hk:V5 k) (x:Q4):Y8 k x 8=K5 (A9 k) x:=by
 have hp:=fun j (hj:j<6)=>oK k (r:=7) (j:=j) (by decide) hj;have hq:=fun j (hj:j<4)=>oK k (r:=8) (j:=j) (by decide) hj;have u4:(A9 k).getD (6*7+4) 0=k.getD (6*(7-7)+4) 0:=hp 4 (by decide);have u5:(A9 k).getD (6*7+5) 0=k.getD (6*(7-7)+5) 0:=hp 5 (by decide);have v0:=hq 0 (by decide);have v1:=hq 1 (by decide);have v2:=hq 2 (by decide);have v3:=hq 3 (by decide);show Y8 k x (7+1)=y6 (A9 k) 48 (H7 (K9 (A9 k) x (7+1)));rw[pf k x 7,GY k hk x 7 (by decide),cQ (A9 k) x 7];unfold mt;generalize y6 (A9 k) (6*7) (K9 (A9 k) x 7)=p;have mM:aT k (6*(7-7)) (H7 p)=aY (A9 k) (6*7) p:=by
  simp only[aT,aY,H7,ai,aA,eK,u4,u5]
 unfold ke;rw[mM];generalize aY (A9 k) (6*7) p=z;have w0:(A9 k).getD 48 0=G6 (k.getD 0 0):=v0;have w1:(A9 k).getD 49 0=N6 (k.getD 1 0):=v1;have w2:(A9 k).getD 50 0=N6 (k.getD 2 0):=v2;have w3:(A9 k).getD 51 0=G6 (k.getD 3 0):=v3;simp only[cr,y6,H7,w0,w1,w2,w3,vJ (hk _),Nat.sub_self,Nat.mul_zero,Zl]
end Go.Scr
