/-
  What the functions of the given program reckon, each by a contract, up to the law. It is no claim by itself; each contract bears its own conditions.
-/
import Derived.Test.YthhlfpbfdkogfaaGreatDoorN
set_option linter.unusedVariables false
set_option linter.unusedSimpArgs false
set_option maxRecDepth 100000
namespace Go.Scr
open Go.Proofs
open IntWalk renaming i64_in → Za
open Int renaming toNat_natCast → Zb, fdiv_eq_ediv_of_nonneg → Z1, natCast_pow → Z9, le_refl → Jh, tmod_eq_emod_of_nonneg → Jk, natCast_emod → Jt, natCast_ediv → Ju, natCast_mul → Jx, lt_tmod_of_pos → J2, le_of_lt → Kc, tmod_lt_of_pos → Kg, emod_lt_of_pos → Kh, pow_pos → Ki, emod_nonneg → Kw
open BitVec renaming ofInt → Zc, ofInt_natCast → J9
open List renaming getD_eq_getElem?_getD → Zd, length_append → Ze, getElem?_eq_getElem → Zf, getElem?_eq_none → Zg, length_reverse → Zi, length_replicate → Zj, replicate → Zk, length_zipWith → Zo, take_length → Zq, take_succ_eq_append_getElem → Zr, length_cons → Zs, length_set → Zu, length_take → Zv, length_nil → Zw, length_drop → Zx, length_map → Zy, range_succ → Zz, ext_getElem? → Z3, getElem?_append_right → Z7, append_nil → Z8, getElem?_append_left → Ja, getElem?_replicate → Jd, getElem?_map → Je, append_assoc → Jf, nil_append → Jp, getElem?_set → Jr, getElem_reverse → Js, getElem?_range → Jv, flatten_append → Jw, getElem?_take → J0, getElem?_drop → J1, foldl_append → J4, eq_nil_of_length_eq_zero → J8, replicate_succ → Kb, mem_singleton → Kf, map_take → Kj, map_drop → Kk, getElem_mem → Kn, take_of_length_le → Ks, drop_eq_nil_of_le → Kt, mem_append → Kv, take_append_drop → Kx, getElem?_reverse → Ky, take_zero → K2
open Nat renaming mod_eq_of_lt → Zh, zero_add → Zl, mul_one → Zm, le_refl → Zp, shiftRight_eq_div_pow → Z0, mod_lt → Z4, pow_le_pow_right → Z5, zero_le → Z6, lt_or_ge → Jg, xor_lt_two_pow → Jj, testBit_eq_decide_div_mod_eq → Jl, and_two_pow_sub_one_eq_mod → Jn, div_le_self → Jo, le_div_iff_mul_le → Jq, mod_eq_sub_mod → Jy, and_lt_two_pow → Jz, or_lt_two_pow → J3, shiftLeft_eq → J6, sub_succ_lt_self → J7, le_antisymm → Ka, shiftRight_add → Kd, and_one_is_mod → Ke, testBit_mod_two_pow → Kl, div_eq_of_lt → Km, testBit_lt_two_pow → Kq, div_div_eq_div_mul → Kr, pow_pos → K1
open UInt32 renaming ofNat → Zn, toNat_toUInt64 → Z2, toNat_shiftRight → Jc, toNat_ofNat' → Jm, toNat_and → J5, toNat_shiftLeft → Kp, toNat_toUInt8 → Kz
open UInt8 renaming ofNat → Zt, toNat_ofNat' → Jb, toNat_lt → Ji, toNat_shiftRight → Ko, toNat_inj → Ku
open Go.IntKind renaming i64 → I6, u8 → U8, u32 → U3, u64 → U6
def bv (l:Bs):List Value:=l.map fun x=> .int .u8 x.toNat
abbrev bz (l:Bs):V:= .z l.length (bv l)
def iv (l:List Int):List Value:=l.map fun x=> .int .i64 x
abbrev iz (l:List Int):V:= .z l.length (iv l)
def wv (l:List UInt32):List Value:=l.map fun x=> .int .u32 x.toNat
abbrev wz (l:List UInt32):V:= .z l.length (wv l)
abbrev i64 (n:Int):V:= .s (.int .i64 n)
abbrev u8 (x:UInt8):V:= .s (.int .u8 x.toNat)
abbrev u32 (x:UInt32):V:= .s (.int .u32 x.toNat)
abbrev u64 (x:UInt64):V:= .s (.int .u64 x.toNat)
abbrev vi (k:IntKind) (n:Int):V:= .s (.int k n)
abbrev bool (b:Bool):V:= .s (.bool b)
theorem gg {b:Bool} {x y:Prop} (h1:b=true->x) (h2:b=false->y):aL b x y:=by cases b;exact h2 rfl;exact h1 rfl
theorem bC {b:Bool} {x y:Prop} (h:b=true) (h1:x):aL b x y:=by subst h;exact h1
theorem A1 {b:Bool} {x y:Prop} (h:b=false) (h1:y):aL b x y:=by subst h;exact h1
theorem f9 (l:Bs):(bv l).length=l.length:=by simp[bv]
theorem G9 (l:List Int):(iv l).length=l.length:=by simp[iv]
theorem p8 (l:List UInt32):(wv l).length=l.length:=by simp[wv]
theorem au {l:Bs} {i:Nat} (h:i<l.length):(bv l)[i]? =some (.int .u8 (l[i]).toNat):=by simp[bv,h]
theorem zr {l:List Int} {i:Nat} (h:i<l.length):(iv l)[i]? =some (.int .i64 l[i]):=by simp[iv,h]
theorem uV {l:List UInt32} {i:Nat} (h:i<l.length):(wv l)[i]? =some (.int .u32 (l[i]).toNat):=by simp[wv,h]
theorem k5 (l:Bs) (i n:Nat):sub (bv l) i n=bv (sub l i n):=by simp[bv,sub,Kj,Kk]
theorem a0e (l:List UInt32) (i n:Nat):sub (wv l) i n=wv (sub l i n):=by simp[wv,sub,Kj,Kk]
theorem K3 (l:Bs) (i:Nat) (x:UInt8):(bv l).set i (.int .u8 x.toNat)=bv (l.set i x):=by simp[bv,List.map_set]
theorem aj (l:List UInt32) (i:Nat) (x:UInt32):(wv l).set i (.int .u32 x.toNat)=wv (l.set i x):=by simp[wv,List.map_set]
theorem z5 (a b:Bs):bv a++bv b=bv (a++b):=by simp[bv]
theorem mh (a b:List Int):iv a++iv b=iv (a++b):=by simp[iv]
theorem kn (a b:List UInt32):wv a++wv b=wv (a++b):=by simp[wv]
theorem P4 (n:Nat):Zk n (Value.int .u8 0)=bv (Zk n 0):=by simp[bv]
theorem a0d (n:Nat):Zk n (Value.int .u32 0)=wv (Zk n 0):=by simp[wv]
theorem wrap_u8 (n:Int):U8.wrap n=n%256:=by rw[IntKind.wrap_u8]
theorem wrap_u32 (n:Int):U3.wrap n=n%4294967296:=by rw[IntKind.wrap_u32]
theorem B5 (n:Int):U6.wrap n=n%18446744073709551616:=by simp[IntKind.wrap,IntKind.bits,IntKind.signed]
theorem iT:U8.bits=8:=rfl
theorem ri:U3.bits=32:=rfl
theorem kI:U6.bits=64:=rfl
theorem iS:I6.bits=64:=rfl
theorem ru (n:Nat) {x y:Nat} (hx:x<2^n) (hy:y<2^n):(Zc n (x:Int)^^^Zc n (y:Int)).toNat=x^^^y:=by
 simp[J9,Zh hx,Zh hy]
theorem rq (n:Nat) {x y:Nat} (hx:x<2^n) (hy:y<2^n):(Zc n (x:Int)&&&Zc n (y:Int)).toNat=x&&&y:=by
 simp[J9,Zh hx,Zh hy]
theorem iV (n:Nat) {x y:Nat} (hx:x<2^n) (hy:y<2^n):(Zc n (x:Int)|||Zc n (y:Int)).toNat=x|||y:=by
 simp[J9,Zh hx,Zh hy]
theorem s6 (a b:UInt8):U8.wrap ((Zc U8.bits (a.toNat:Int)^^^Zc U8.bits (b.toNat:Int)).toNat:Int)=((a^^^b).toNat:Int):=by
 rw[wrap_u8,ru U8.bits a.toNat_lt b.toNat_lt,UInt8.toNat_xor];have:=Jj (n:=8) a.toNat_lt b.toNat_lt;omega
theorem uN (a b:UInt8):U8.wrap ((Zc U8.bits (a.toNat:Int)&&&Zc U8.bits (b.toNat:Int)).toNat:Int)=((a&&&b).toNat:Int):=by
 rw[wrap_u8,rq U8.bits a.toNat_lt b.toNat_lt,UInt8.toNat_and];have:=Jz (n:=8) a.toNat b.toNat_lt;omega
theorem qd (a b:UInt8):U8.wrap ((Zc U8.bits (a.toNat:Int)|||Zc U8.bits (b.toNat:Int)).toNat:Int)=((a|||b).toNat:Int):=by
 rw[wrap_u8,iV U8.bits a.toNat_lt b.toNat_lt,UInt8.toNat_or];have:=J3 (n:=8) a.toNat_lt b.toNat_lt;omega
theorem ZI (a b:UInt8):U8.wrap ((a.toNat:Int)+b.toNat)=((a+b).toNat:Int):=by
 rw[wrap_u8,UInt8.toNat_add];omega
theorem x5 (a b:UInt32):U3.wrap ((Zc U3.bits (a.toNat:Int)^^^Zc U3.bits (b.toNat:Int)).toNat:Int)=((a^^^b).toNat:Int):=by
 rw[wrap_u32,ru U3.bits a.toNat_lt b.toNat_lt,UInt32.toNat_xor];have:=Jj (n:=32) a.toNat_lt b.toNat_lt;omega
theorem uK (a b:UInt32):U3.wrap ((Zc U3.bits (a.toNat:Int)&&&Zc U3.bits (b.toNat:Int)).toNat:Int)=((a&&&b).toNat:Int):=by
 rw[wrap_u32,rq U3.bits a.toNat_lt b.toNat_lt,J5];have:=Jz (n:=32) a.toNat b.toNat_lt;omega
theorem qc (a b:UInt32):U3.wrap ((Zc U3.bits (a.toNat:Int)|||Zc U3.bits (b.toNat:Int)).toNat:Int)=((a|||b).toNat:Int):=by
 rw[wrap_u32,iV U3.bits a.toNat_lt b.toNat_lt,UInt32.toNat_or];have:=J3 (n:=32) a.toNat_lt b.toNat_lt;omega
theorem p7 (a b:UInt32):U3.wrap ((a.toNat:Int)+b.toNat)=((a+b).toNat:Int):=by
 rw[wrap_u32,UInt32.toNat_add];omega
theorem X4 (a b:UInt32):U3.wrap ((a.toNat:Int)-b.toNat)=((a-b).toNat:Int):=by
 have:=b.toNat_lt;rw[wrap_u32,UInt32.toNat_sub];omega
theorem uL (a b:UInt64):U6.wrap ((Zc U6.bits (a.toNat:Int)|||Zc U6.bits (b.toNat:Int)).toNat:Int)=((a|||b).toNat:Int):=by
 rw[B5,iV U6.bits a.toNat_lt b.toNat_lt,UInt64.toNat_or];have:=J3 (n:=64) a.toNat_lt b.toNat_lt;omega
theorem ZK (a:UInt8) (n:Int) (h0:0<=n) (h:n<8):U8.wrap ((a.toNat:Int)*2^(min n.toNat U8.bits))=((a<<<(Zt n.toNat)).toNat:Int):=by
 have hn:n.toNat<8:=by omega
 have hm:n.toNat<256:=by omega
 rw[wrap_u8,show min n.toNat U8.bits=n.toNat from by simp only[iT];omega,UInt8.toNat_shiftLeft,J6,Jb,Zh (show n.toNat<2^8 from hm),Zh hn];rw[Jt,Jx,Z9];rfl
theorem ZM (a:UInt8) (n:Int) (h0:0<=n) (h:n<8):((a.toNat:Int).fdiv (2^(min n.toNat U8.bits)))=((a>>>(Zt n.toNat)).toNat:Int):=by
 have hn:n.toNat<8:=by omega
 have hm:n.toNat<256:=by omega
 rw[show min n.toNat U8.bits=n.toNat from by simp only[iT];omega,Ko,Z0,Jb,Zh (show n.toNat<2^8 from hm),Zh hn,Z1 _ (Kc (Ki (by decide)))];rw[Ju,Z9];rfl
theorem ki (a:UInt32) (n:Int) (h0:0<=n) (h:n<32):U3.wrap ((a.toNat:Int)*2^(min n.toNat U3.bits))=((a<<<(Zn n.toNat)).toNat:Int):=by
 have hn:n.toNat<32:=by omega
 have hm:n.toNat<4294967296:=by omega
 rw[wrap_u32,show min n.toNat U3.bits=n.toNat from by simp only[ri];omega,Kp,J6,Jm,Zh (show n.toNat<2^32 from hm),Zh hn];rw[Jt,Jx,Z9];rfl
theorem X3 (a:UInt32) (n:Int) (h0:0<=n) (h:n<32):((a.toNat:Int).fdiv (2^(min n.toNat U3.bits)))=((a>>>(Zn n.toNat)).toNat:Int):=by
 have hn:n.toNat<32:=by omega
 have hm:n.toNat<4294967296:=by omega
 rw[show min n.toNat U3.bits=n.toNat from by simp only[ri];omega,Jc,Z0,Jm,Zh (show n.toNat<2^32 from hm),Zh hn,Z1 _ (Kc (Ki (by decide)))];rw[Ju,Z9];rfl
theorem ZE (a:UInt32) (n:Int) (h:32<=n):((a.toNat:Int).fdiv (2^(min n.toNat U3.bits)))=0:=by
 rw[show min n.toNat U3.bits=32 from by simp only[ri];omega,Z1 _ (by decide)];have:=a.toNat_lt;exact Int.ediv_eq_zero_of_lt (by omega) (by omega)
theorem uM (a:UInt64) (n:Int) (h0:0<=n) (h:n<64):U6.wrap ((a.toNat:Int)*2^(min n.toNat U6.bits))=((a<<<(UInt64.ofNat n.toNat)).toNat:Int):=by
 have hn:n.toNat<64:=by omega
 have hm:n.toNat<18446744073709551616:=by omega
 rw[B5,show min n.toNat U6.bits=n.toNat from by simp only[kI];omega,UInt64.toNat_shiftLeft,J6,UInt64.toNat_ofNat',Zh (show n.toNat<2^64 from hm),Zh hn];rw[Jt,Jx,Z9];rfl
theorem DB (a:UInt64) (n:Int) (h0:0<=n) (h:n<64):((a.toNat:Int).fdiv (2^(min n.toNat U6.bits)))=((a>>>(UInt64.ofNat n.toNat)).toNat:Int):=by
 have hn:n.toNat<64:=by omega
 have hm:n.toNat<18446744073709551616:=by omega
 rw[show min n.toNat U6.bits=n.toNat from by simp only[kI];omega,UInt64.toNat_shiftRight,Z0,UInt64.toNat_ofNat',Zh (show n.toNat<2^64 from hm),Zh hn,Z1 _ (Kc (Ki (by decide)))];rw[Ju,Z9];rfl
theorem iC (a b:UInt32):U3.wrap ((a.toNat:Int)*b.toNat)=((a*b).toNat:Int):=by
 rw[wrap_u32,UInt32.toNat_mul,Jt,Jx];rfl
theorem uP (a:UInt8):U6.wrap (a.toNat:Int)=((a.toUInt64).toNat:Int):=by
 have:=a.toNat_lt;rw[B5,UInt8.toNat_toUInt64];omega
theorem ZN (a:UInt8):U3.wrap (a.toNat:Int)=((a.toUInt32).toNat:Int):=by
 have:=a.toNat_lt;rw[wrap_u32,UInt8.toNat_toUInt32];omega
theorem gz (a:UInt8):I6.wrap (a.toNat:Int)=(a.toNat:Int):=by
 have:=a.toNat_lt;rw[IntKind.wrap_i64];omega
theorem N4 (a:UInt32):I6.wrap (a.toNat:Int)=(a.toNat:Int):=by
 have:=a.toNat_lt;rw[IntKind.wrap_i64];omega
theorem ZF (a:UInt32):U6.wrap (a.toNat:Int)=((a.toUInt64).toNat:Int):=by
 have:=a.toNat_lt;rw[B5,Z2];omega
theorem ZH (a:UInt64):U8.wrap (a.toNat:Int)=((a.toUInt8).toNat:Int):=by
 rw[wrap_u8,UInt64.toNat_toUInt8];omega
theorem kj (a:UInt64):U3.wrap (a.toNat:Int)=((a.toUInt32).toNat:Int):=by
 rw[wrap_u32,UInt64.toNat_toUInt32];omega
theorem gw (a:UInt32):U8.wrap (a.toNat:Int)=((a.toUInt8).toNat:Int):=by
 rw[wrap_u8,Kz];omega
theorem aG (n:Nat):U8.wrap (n:Int)=((Zt n).toNat:Int):=by
 rw[wrap_u8,Jb];omega
theorem Ai (n:Nat):U3.wrap (n:Int)=((Zn n).toNat:Int):=by
 rw[wrap_u32,Jm];omega
theorem cr (n:Nat) (h:n<9223372036854775808):I6.wrap (n:Int)=(n:Int):=by
 rw[IntKind.wrap_i64];omega
theorem j5 {α:Type} {xs:List α} {i n:Nat}:(sub xs i n).length=min n (xs.length-i):=by simp[sub]
theorem b8 {p:Prop} [Decidable p] {x y:Prop} (h1:p->x) (h2:¬p->y):aL (decide p) x y:=by
 by_cases h:p
 ·rw[decide_eq_true h];exact h1 h
 ·rw[decide_eq_false h];exact h2 h
theorem i9 {m n:Int} {x y:Prop} (h1:m=n->x) (h2:m≠n->y):aL (m==n) x y:=gg (fun h=>h1 (by simpa using h)) (fun h=>h2 (by simpa using h))
theorem n7 {m n:Int} {x y:Prop} (h1:m≠n->x) (h2:m=n->y):aL (m != n) x y:=gg (fun h=>h1 (by simpa using h)) (fun h=>h2 (by simpa using h))
def it {α:Type} (f:α->α):Nat->α->α
 |0,x=>x
 |n+1,x=>f (it f n x)
theorem aB {α:Type} {f:α->α} {i:Nat} {x z:α} (h:z=it f i x):f z=it f (i+1) x:=by rw[h];rfl
theorem mp {β:Type} {m:Nat} {body:S->(X->S->Prop)->Prop} {s:S} {K:X->S->Prop} (f:β->β) (b0:β) (n:Nat) (I:Nat->β->D) (h0:Mt m s (I 0 b0)) (h:∀i z,i<=n->z=it f i b0->body (I i z).s fun e s'=>match e with
   | .normal=>∃y:Nat×β,(y.1<=n/\y.2=it f y.1 b0)/\n-y.1<n-i/\Mt m s' (I y.1 y.2)
   |e=>K e s'):kz m body s K:=
 ⟨Nat×β,fun x=>I x.1 x.2,fun x=>x.1<=n/\x.2=it f x.1 b0,fun x=>n-x.1,⟨[],(0,b0),⟨Z6 _,rfl⟩,h0⟩,fun x hx=>h x.1 x.2 hx.1 hx.2⟩
theorem pO {β:Type} {C:j7} {rt:Rt} {m:Nat} {c:Code} {s:S} {K:X->S->Prop} (l:Nat) {p q:Code} (hs:G0 c l=some (p,q)) (f:β->β) (b0:β) (n:Nat) (I:Nat->β->D) (h0:vc C rt m p s fun e s'=>match e with
   | .normal=>∃(l:List (Nat×Nat×B)) (y:Nat×β),(y.1<=n/\y.2=it f y.1 b0)/\V9 l 0 s' fun s'=>Mt m s' (I y.1 y.2)
   | .goto l'=>l'=l/\∃y:Nat×β,(y.1<=n/\y.2=it f y.1 b0)/\Mt m s' (I y.1 y.2)
   |e=>K e s') (h:∀i z,i<=n->z=it f i b0->vc C rt m q (I i z).s fun e s'=>match e with
   | .goto l'=>l'=l/\∃y:Nat×β,(y.1<=n/\y.2=it f y.1 b0)/\n-y.1<n-i/\Mt m s' (I y.1 y.2)
   |e=>K e s'):jU C rt m c s K:=
 ⟨l,Nat×β,fun x=>I x.1 x.2,fun x=>x.1<=n/\x.2=it f x.1 b0,fun x=>n-x.1,by rw[hs];exact⟨h0,fun x hx=>h x.1 x.2 hx.1 hx.2⟩⟩
theorem j4 {m:Nat} {body:S->(X->S->Prop)->Prop} {s:S} {K:X->S->Prop} (I:Nat->D) (n:Nat) (h0:Mt m s (I 0)) (h:∀i,i<=n->body (I i).s fun e s'=>match e with
   | .normal=>∃y,y<=n/\n-y<n-i/\Mt m s' (I y)
   |e=>K e s'):kz m body s K:=
 ⟨Nat,I,fun i=>i<=n,fun i=>n-i,⟨[],0,Z6 _,h0⟩,h⟩
theorem A5 {m:Nat} {body:S->(X->S->Prop)->Prop} {s:S} {K:X->S->Prop} (I:Nat->D) (n:Nat) (l:List (Nat×Nat×B)) (h0:V9 l 0 s fun s=>Mt m s (I 0)) (h:∀i,i<=n->body (I i).s fun e s'=>match e with
   | .normal=>∃y,y<=n/\n-y<n-i/\Mt m s' (I y)
   |e=>K e s'):kz m body s K:=
 ⟨Nat,I,fun i=>i<=n,fun i=>n-i,⟨l,0,Z6 _,h0⟩,h⟩
def L6 (l:Bs):UInt64:=l.foldl (fun n x=>n<<<8|||x.toUInt64) 0
def m5 (n:UInt64):Nat->Bs
 |0=>[]
 |k+1=>m5 (n>>>8) k++[n.toUInt8]
theorem s3:∀(k:Nat) (n:UInt64),(m5 n k).length=k
 |0,_=>rfl
 |k+1,n=>by simp[m5,s3 k]
def A7 (v:UInt32) (k:Nat):UInt32:=v<<<Zn k|||v>>>Zn (32-k)
theorem jQ (n b:Int) (hb:0<b):(n.tmod b+b).tmod b=n%b:=by
 have h1: -b<n.tmod b:=J2 n hb;rw[Jk (by omega),Int.add_emod_right,Int.tmod_def,Int.sub_mul_emod_self_left]
theorem xj {n b:Int} (hb:0<b) (hb2:b<=4611686018427387904) (hn: -9223372036854775808<=n/\n<=9223372036854775807):a7 C 200 [i64 n,i64 b] [] (.ret (i64 (n%b))) []:=by
 refine PI.c ?_;refine⟨by omega,by omega,?_⟩;refine⟨_,rfl,[],c9 ?_,tq⟩;have h1: -b<n.tmod b:=J2 n hb;have h2:n.tmod b<b:=Kg n hb;rw[Za _ (by omega)];exact jQ n b hb
theorem tA {l:Bs} {i:Nat} (h:i<l.length):L6 (l.take (i+1))=L6 (l.take i)<<<8|||(l[i]).toUInt64:=by
 unfold L6;rw[Zr h,J4];rfl
theorem GE {n:Nat} {va:List Value} {l:Bs} (ha:va=bv l) (hn:l.length=n) (hm:n<=1073741824):a7 C 242 [.z n va] [] (.ret (u64 (L6 l))) []:=by
 subst ha;subst hn;refine Pz.c ?_;refine⟨0,Nat,fun i=>⟨[(0,bz l),(3,u64 (L6 (l.take i))),(4,i64 i)],[]⟩,fun i=>i<=l.length,fun i=>l.length-i,⟨[],0,Z6 _,[],⟨rfl,rfl,rfl,tq⟩,tq⟩,fun i hi=> ?_⟩;refine b8 (fun h=> ?_) (fun h=> ?_)
 ·have a8:i<l.length:=(by omega);refine⟨by omega,by omega,by omega,_,au (i:=i) a8,?_⟩;refine⟨rfl,i+1,a8,J7 _ _ a8,[],⟨rfl,congrArg (vi .u64) ?_,c9 (by simp(disch:=omega)only[Za];omega),tq⟩,tq⟩;rw[uM _ _ (by decide) (by decide),uP,uL,tA a8];rfl
 ·obtain rfl:i=l.length:=Ka hi (by omega);refine⟨_,rfl,[],congrArg (vi .u64) ?_,tq⟩;rw[Zq]
theorem xw {x:Int} {n:UInt64} {k:Int} {m:Nat} (hx:x=n.toNat) (hk:k=m) (hm:m<=1073741824):a7 C 243 [vi .u64 x,i64 k] [] (.ret (.o 1 (.k 0) 0 m)) [.sc (bv (m5 n m))]:=by
 subst hk;subst hx;refine PJ.c ?_;refine⟨0,Nat×UInt64×Bs,fun x=>⟨[(0,u64 x.2.1),(5,.o 1 (.k 0) 0 m),(6,i64 x.1)],[.sc (bv (Zk x.1 0++x.2.2))]⟩,fun x=>x.1<=m/\x.1+x.2.2.length=m/\m5 x.2.1 x.1++x.2.2=m5 n m,fun x=>x.1,
  ⟨by omega,by omega,by omega,[],(m,n,[]),⟨Zp _,by simp,by simp⟩,[.d 8 0],⟨rfl,rfl,rfl,tq⟩,⟨_,rfl,d8 (by simp[bv])⟩,tq⟩,?_⟩
 rintro ⟨i,v,l⟩ ⟨hi,hl,he⟩;simp only at hi hl he;refine b8 (fun h=> ?_) (fun h=> ?_)
 ·have hp:0<i:=(by omega);have e1:I6.wrap ((i:Int)-1)=((i-1:Nat):Int):=by simp only[IntKind.wrap_i64];omega
  refine⟨(by simp(disch:=omega)only[Za];omega),(by simp(disch:=omega)only[Za];omega),(by simp only[s3,f9,G9,p8,Ze,Zj,Zu,Zv,Zx,Zs,Zw,j5,Zi,Zy,Zo];omega),by omega,rfl,(i-1,v>>>8,v.toUInt8::l),⟨by omega,(by simp only[s3,f9,G9,p8,Ze,Zj,Zu,Zv,Zx,Zs,Zw,j5,Zi,Zy,Zo];omega),?_⟩,(by simp(disch:=omega)only[Za];omega),[.k 0],⟨congrArg (vi .u64) ?_,rfl,c9 e1,tq⟩,⟨_,rfl,d8 ?_⟩,tq⟩
  ·obtain⟨j,rfl⟩:∃j,i=j+1:=⟨i-1,by omega⟩;rw[<-he];simp[m5]
  ·exact DB v 8 (by decide) (by decide)
  ·rw[e1,ZH,K3];congr 1;obtain⟨j,rfl⟩:∃j,i=j+1:=⟨i-1,by omega⟩;simp[List.replicate_succ']
 ·obtain rfl:i=0:=(by omega);refine⟨_,rfl,[.k 0],rfl,⟨_,rfl,d8 ?_⟩,tq⟩;rw[show l=m5 n m by simpa [m5]using he];rfl
theorem xE {n:Nat} {va:List Value} {l:Bs} (ha:va=bv l) (hn:l.length=n) (hm:n<=1073741824):a7 C 199 [.z n va] [] (.ret (.o 1 (.k 0) 0 n)) [.sc (bv l.reverse)]:=by
 subst ha;subst hn;refine PK.c ?_;refine⟨by omega,by omega,by omega,?_⟩;refine⟨Nat,fun i=>⟨[(0,bz l),(3,.o 1 (.k 0) 0 i),(4,i64 (l.length-1-i))],[.sc (bv (l.reverse.take i))]⟩,fun i=>i<=l.length,fun i=>l.length-i,⟨[],0,Z6 _,[.d 7 0],⟨rfl,rfl,?_,tq⟩,⟨_,rfl,rfl⟩,tq⟩,fun i hi=> ?_⟩
 ·exact c9 (by simp(disch:=omega)only[Za];omega)
 refine b8 (fun h=> ?_) (fun h=> ?_)
 ·have a8:i<l.length:=(by omega);have e:((l.length:Int)-1-(i:Int)).toNat=l.length-1-i:=(by omega);refine⟨by omega,by omega,?_⟩;refine⟨_,by rw[e];exact au (i:=l.length-1-i) (by omega),?_⟩;refine⟨(by simp only[s3,f9,G9,p8,Ze,Zj,Zu,Zv,Zx,Zs,Zw,j5,Zi,Zy,Zo];omega),by omega,(by simp only[s3,f9,G9,p8,Ze,Zj,Zu,Zv,Zx,Zs,Zw,j5,Zi,Zy,Zo];omega),i+1,by omega,(by simp(disch:=omega)only[Za];omega),[.d 21 0],⟨rfl,rfl,c9 (by simp(disch:=omega)only[Za];omega),tq⟩,⟨_,rfl,d8 ?_⟩,tq⟩;have e2:l.reverse[i]'(by simpa using a8)=l[l.length-1-i]:=by rw[Js]
  rw[Zr (by simpa using a8),<-z5,e2,k5];simp[sub,bv,List.take_take]
 ·obtain rfl:i=l.length:=Ka hi (by omega);refine⟨_,rfl,[.k 0],rfl,⟨_,rfl,d8 ?_⟩,tq⟩;rw[<-Zi,Zq]
theorem rE {n:Nat} {va:List Value} {l:Bs} (ha:va=bv l) (hn:l.length=4) (hn':n=4):a7 C 198 [.z n va] [] (.ret (.t [u32 (L6 l).toUInt32,bool true])) []:=by
 subst hn';refine Pq.c ?_;refine⟨[],_,_,_,_,GE ha hn (by omega),rfl,rfl,?_⟩;refine⟨_,rfl,[],congrArg (fun n=>V.t [vi .u32 n,bool true]) ?_,tq⟩;exact kj _
theorem E0 {α:Type} {l:List α} {n:Nat} (h:l.length=n):sub l 0 n=l:=by subst h;simp[sub]
theorem b9 {l:Bs} {n:Nat} (h:l.length=n):sub (bv l) 0 n=bv l:=E0 (by rw[f9,h])
theorem S2 {l:List Int} {n:Nat} (h:l.length=n):sub (iv l) 0 n=iv l:=E0 (by rw[G9,h])
theorem y9 {l:List UInt32} {n:Nat} (h:l.length=n):sub (wv l) 0 n=wv l:=E0 (by rw[p8,h])
theorem bT {n:Nat} {va:List Value} {l:Bs} (ha:va=bv l) (hn:l.length=4) (hn':n=4):a7 C 135 [.z n va] [] (.ret (.t [u32 (L6 l.reverse).toUInt32,bool true])) []:=by
 subst hn';refine Ps.c ?_;refine⟨[],_,_,_,_,xE ha hn (by omega),rfl,rfl,?_⟩;refine⟨[],_,_,_,_,rE (l:=l.reverse) (b9 (by simpa using hn)) (by simpa using hn) rfl,rfl,rfl,?_⟩;exact⟨_,rfl,[],rfl,tq⟩
theorem rR {x:Int} {v:UInt32} (hx:x=v.toNat):a7 C 201 [vi .u32 x] [] (.ret (.o 1 (.k 0) 0 4)) [.sc (bv (m5 v.toUInt64 4))]:=by
 subst hx;refine Pt.c ?_;refine⟨[],_,_,_,_,xw (m:=4) (ZF v) rfl (by omega),rfl,rfl,?_⟩;exact⟨_,rfl,[.d 5 0],rfl,⟨_,rfl,rfl⟩,tq⟩
theorem jf {x:Int} {v:UInt32} (hx:x=v.toNat):a7 C 139 [vi .u32 x] [] (.ret (.o 1 (.k 0) 0 4)) [.sc (bv (m5 v.toUInt64 4).reverse)]:=by
 subst hx;refine Pv.c ?_;refine⟨[],_,_,_,_,rR rfl,rfl,rfl,?_⟩;refine⟨[],_,_,_,_,xE (l:=m5 v.toUInt64 4) (b9 (s3 _ _)) (s3 _ _) (by omega),rfl,rfl,?_⟩;exact⟨_,rfl,[.d 5 0],rfl,⟨_,rfl,rfl⟩,tq⟩
theorem je {x:Int} {v:UInt64} (hx:x=v.toNat):a7 C 247 [vi .u64 x] [] (.ret (.o 1 (.k 0) 0 8)) [.sc (bv (m5 v 8))]:=by
 refine Pu.c ?_;refine⟨[],_,_,_,_,xw (m:=8) hx rfl (by omega),rfl,rfl,?_⟩;exact⟨_,rfl,[.d 4 0],rfl,⟨_,rfl,rfl⟩,tq⟩
theorem Ba (v:UInt32) {k:Int} (h0:0<=k) (h1:k<32):
  U3.wrap ((Zc U3.bits (U3.wrap ((v.toNat:Int)*2^(min k.toNat U3.bits)))|||Zc U3.bits ((v.toNat:Int).fdiv (2^(min (32-k).toNat U3.bits)))).toNat:Int)=((A7 v k.toNat).toNat:Int):=by
 rw[ki _ _ h0 h1];unfold A7;by_cases hz:k=0
 ·subst hz;rw[ZE _ _ (by decide),show(0:Int)=((0:UInt32).toNat:Int) from rfl,qc];refine congrArg (fun z:UInt32=>(z.toNat:Int)) (UInt32.toNat_inj.1 ?_);show(v<<<Zn 0|||0).toNat=(v<<<Zn 0|||v>>>Zn (32-0)).toNat;simp[UInt32.toNat_or,Kp,Jc]
 ·rw[X3 _ _ (by omega) (by omega),qc];congr 5;omega
theorem xk {x n:Int} {v:UInt32} (hx:x=v.toNat) (hn: -9223372036854775808<=n/\n<=9223372036854775807):a7 C 138 [vi .u32 x,i64 n] [] (.ret (u32 (A7 v (n%32).toNat))) []:=by
 subst hx;refine Pw.c ?_;refine⟨[],_,_,_,_,xj (b:=32) (by decide) (by decide) hn,rfl,rfl,?_⟩;have h0:0<=n%32:=(by omega);have h1:n%32<32:=(by omega);have e1:U6.wrap (n%32)=n%32:=by rw[B5];omega
 have e2:U6.wrap (32-U6.wrap (n%32))=32-n%32:=by rw[e1,B5];omega
 refine⟨?_,?_,_,rfl,[],congrArg (vi .u32) ?_,tq⟩
 ·rw[e1];exact h0
 ·rw[e2];omega
 ·rw[e2,e1];exact Ba v h0 h1
def f6 (a b:Bs):Bs:=List.zipWith (· ^^^ ·) a b
theorem t9 {a b:Bs} {n:Nat} (ha:a.length=n) (hb:b.length=n):(f6 a b).length=n:=by simp[f6,ha,hb]
theorem DS {a b:Bs} {i:Nat} (ha:i<a.length) (hb:i<b.length):f6 (a.take (i+1)) (b.take (i+1))=f6 (a.take i) (b.take i)++[a[i]^^^b[i]]:=by
 unfold f6;rw[Zr ha,Zr hb,List.zipWith_append (by simp;omega)];rfl
theorem uq {α:Type} {l:List α} {x y:α} {n:Nat} {r:List α} (h:l.length=n):(l++y::r).set n x=l++x::r:=by
 subst h;simp
theorem H6 {n:Nat} {va vb:List Value} {a b:Bs} (ha:va=bv a) (hb:vb=bv b) (la:a.length=n) (lb:b.length=n) (hm:n<=1073741824):a7 C 144 [.z n va,.z n vb] [] (.ret (.t [.o 1 (.k 0) 0 n,bool true])) [.sc (bv (f6 a b))]:=by
 subst ha;subst hb;refine Py.c ?_;refine n7 (fun h=>absurd rfl h) (fun _=> ?_);refine⟨by omega,by omega,by omega,?_⟩;refine j4 (fun i=>⟨[(0,.z n (bv a)),(1,.z n (bv b)),(6,.o 1 (.k 0) 0 n),(17,i64 n),(18,i64 i)],[.sc (bv (f6 (a.take i) (b.take i)++Zk (n-i) 0))]⟩) n ⟨[.d 15 0],⟨rfl,rfl,rfl,rfl,rfl,tq⟩,⟨_,rfl,d8 (by simp[bv,f6])⟩,tq⟩ fun i hi=> ?_;refine b8 (fun h=> ?_) (fun h=> ?_)
 ·have a8:i<n:=(by omega);refine⟨by omega,by omega,_,au (i:=i) (by omega),by omega,by omega,_,au (i:=i) (by omega),by omega,by omega,?_,i+1,by omega,by omega,[.k 0],⟨rfl,rfl,rfl,rfl,c9 (by simp(disch:=omega)only[Za];omega),tq⟩,⟨_,rfl,d8 ?_⟩,tq⟩
  ·rw[f9];simp[f6];omega
  ·rw[s6,K3,DS (by omega) (by omega),show n-i=(n-(i+1))+1 from (by omega),Kb];congr 1;rw[uq (by simp[f6];omega)];simp
 ·obtain rfl:i=n:=(by omega);refine⟨_,rfl,[.k 0],rfl,⟨_,rfl,d8 ?_⟩,tq⟩;rw[<-la]
  conv=>lhs;rw[Zq,la,<-lb,Zq]
  simp
theorem wW {n b:Int} (hb:0<b) (hb2:b<=4611686018427387904) (hn: -9223372036854775808<=n/\n<=9223372036854775807):a7 C 221 [i64 n,i64 b] [] (.ret (i64 (n%b))) []:=by
 refine NL.c ?_;refine⟨by omega,by omega,?_⟩;refine⟨_,rfl,[],c9 ?_,tq⟩;have h1: -b<n.tmod b:=J2 n hb;have h2:n.tmod b<b:=Kg n hb;rw[Za _ (by omega)];exact jQ n b hb
theorem Hk {x n:Int} {v:UInt32} (hx:x=v.toNat) (hn: -9223372036854775808<=n/\n<=9223372036854775807):a7 C 169 [vi .u32 x,i64 n] [] (.ret (u32 (A7 v (n%32).toNat))) []:=by
 subst hx;refine Nz.c ?_;refine⟨[],_,_,_,_,wW (b:=32) (by decide) (by decide) hn,rfl,rfl,?_⟩;have h0:0<=n%32:=(by omega);have h1:n%32<32:=(by omega);have e1:U6.wrap (n%32)=n%32:=by rw[B5];omega
 have e2:U6.wrap (32-U6.wrap (n%32))=32-n%32:=by rw[e1,B5];omega
 refine⟨?_,?_,_,rfl,[],congrArg (vi .u32) ?_,tq⟩
 ·rw[e1];exact h0
 ·rw[e2];omega
 ·rw[e2,e1];exact Ba v h0 h1
theorem D5 {n:Nat} {va vb:List Value} {a b:Bs} (ha:va=bv a) (hb:vb=bv b) (la:a.length=n) (lb:b.length=n) (hm:n<=1073741824):a7 C 72 [.z n va,.z n vb] [] (.ret (.o 1 (.k 0) 0 n)) [.sc (bv (f6 a b))]:=by
 subst ha;subst hb;refine Nt.c ?_;refine⟨by omega,by omega,by omega,?_⟩;refine j4 (fun i=>⟨[(0,.z n (bv a)),(1,.z n (bv b)),(5,.o 1 (.k 0) 0 n),(6,i64 i)],[.sc (bv (f6 (a.take i) (b.take i)++Zk (n-i) 0))]⟩) n ⟨[.d 9 0],⟨rfl,rfl,rfl,rfl,tq⟩,⟨_,rfl,d8 (by simp[bv,f6])⟩,tq⟩ fun i hi=> ?_;refine b8 (fun h=> ?_) (fun h=> ?_)
 ·have a8:i<n:=(by omega);refine⟨by omega,by omega,_,au (i:=i) (by omega),by omega,by omega,_,au (i:=i) (by omega),by omega,by omega,?_,i+1,by omega,by omega,[.k 0],⟨rfl,rfl,rfl,c9 (by simp(disch:=omega)only[Za];omega),tq⟩,⟨_,rfl,d8 ?_⟩,tq⟩
  ·rw[f9];simp[f6];omega
  ·rw[s6,K3,DS (by omega) (by omega),show n-i=(n-(i+1))+1 from (by omega),Kb];congr 1;rw[uq (by simp[f6];omega)];simp
 ·obtain rfl:i=n:=(by omega);refine⟨_,rfl,[.k 0],rfl,⟨_,rfl,d8 ?_⟩,tq⟩;rw[<-la]
  conv=>lhs;rw[Zq,la,<-lb,Zq]
  simp
theorem BA (v:UInt32):m5 v.toUInt64 4=[(v>>>24).toUInt8,(v>>>16).toUInt8,(v>>>8).toUInt8,v.toUInt8]:=by
 have h:∀(x:UInt64) (y:UInt32),x.toNat=y.toNat->x.toUInt8=y.toUInt8:=fun x y e=>Ku.1 (by rw[UInt64.toNat_toUInt8,Kz,e]);have e0:v.toUInt64.toNat=v.toNat:=Z2 v;have s:∀x:UInt64,(x>>>8).toNat=x.toNat>>>8:=fun x=>by rw[UInt64.toNat_shiftRight];rfl
 simp only[m5,Jp,List.cons_append];rw[h (v.toUInt64>>>8>>>8>>>8) (v>>>24),h (v.toUInt64>>>8>>>8) (v>>>16),h (v.toUInt64>>>8) (v>>>8),h v.toUInt64 v e0]
 ·rw[s,e0,Jc];rfl
 ·rw[s,s,e0,Jc,<-Kd];rfl
 ·rw[s,s,s,e0,Jc,<-Kd,<-Kd];rfl
theorem jg {x:Int} {v:UInt32} (hx:x=v.toNat):a7 C 219 [vi .u32 x] [] (.ret (.o 1 (.k 0) 0 4)) [.sc (bv (m5 v.toUInt64 4))]:=by
 subst hx;refine Nv.c ?_;refine⟨by omega,by omega,by omega,?_⟩;refine⟨_,rfl,[.d 14 0],rfl,⟨_,rfl,d8 ?_⟩,tq⟩;rw[X3 _ _ (by decide) (by decide),X3 _ _ (by decide) (by decide),X3 _ _ (by decide) (by decide),gw,gw,gw,gw,BA];rfl
theorem nG {x:Int} {v:UInt32} (hx:x=v.toNat):a7 C 213 [vi .u32 x] [] (.ret (.o 1 (.k 0) 0 4)) [.sc (bv (m5 v.toUInt64 4).reverse)]:=by
 subst hx;refine Ny.c ?_;refine⟨by omega,by omega,by omega,?_⟩;refine⟨_,rfl,[.d 14 0],rfl,⟨_,rfl,d8 ?_⟩,tq⟩;rw[X3 _ _ (by decide) (by decide),X3 _ _ (by decide) (by decide),X3 _ _ (by decide) (by decide),gw,gw,gw,gw,BA];rfl
theorem Wy (v:UInt64):m5 v 8=m5 ((v>>>32).toUInt32).toUInt64 4++m5 (v.toUInt32).toUInt64 4:=by
 have h:∀(x y:UInt64),x.toNat%256=y.toNat%256->x.toUInt8=y.toUInt8:=fun x y e=>Ku.1 (by rw[UInt64.toNat_toUInt8,UInt64.toNat_toUInt8,e]);have s:∀x:UInt64,(x>>>8).toNat=x.toNat/256:=fun x=>by rw[UInt64.toNat_shiftRight,Z0];rfl
 have s32:(v>>>32).toNat=v.toNat/4294967296:=by rw[UInt64.toNat_shiftRight,Z0];rfl
 have hv:=v.toNat_lt;simp only[m5,Jp,List.cons_append];congr 1
 ·exact h _ _ (by simp only[s,s32,Z2,UInt64.toNat_toUInt32];omega)
 congr 1
 ·exact h _ _ (by simp only[s,s32,Z2,UInt64.toNat_toUInt32];omega)
 congr 1
 ·exact h _ _ (by simp only[s,s32,Z2,UInt64.toNat_toUInt32];omega)
 congr 1
 ·exact h _ _ (by simp only[s,s32,Z2,UInt64.toNat_toUInt32];omega)
 congr 1
 ·exact h _ _ (by simp only[s,s32,Z2,UInt64.toNat_toUInt32];omega)
 congr 1
 ·exact h _ _ (by simp only[s,s32,Z2,UInt64.toNat_toUInt32];omega)
 congr 1
 ·exact h _ _ (by simp only[s,s32,Z2,UInt64.toNat_toUInt32];omega)
 congr 1;exact h _ _ (by simp only[s,s32,Z2,UInt64.toNat_toUInt32];omega)
theorem cO {x:Int} {v:UInt64} (hx:x=v.toNat):a7 C 228 [vi .u64 x] [] (.ret (.o 1 (.k 0) 0 8)) [.sc (bv (m5 v 8))]:=by
 subst hx;refine Nw.c ?_;refine⟨by omega,?_⟩;refine⟨[],_,_,_,_,jg (v:=(v>>>32).toUInt32) (by rw[DB _ _ (by decide) (by decide),kj];rfl),rfl,rfl,?_⟩;refine⟨[],_,_,_,_,jg (v:=v.toUInt32) (kj v),rfl,rfl,?_⟩;refine⟨(by simp only[s3,f9,G9,p8,Ze,Zj,Zu,Zv,Zx,Zs,Zw,j5,Zi,Zy,Zo];omega),by omega,(by simp only[s3,f9,G9,p8,Ze,Zj,Zu,Zv,Zx,Zs,Zw,j5,Zi,Zy,Zo];omega),?_⟩;refine⟨_,rfl,[.d 10 0],rfl,⟨_,rfl,d8 ?_⟩,tq⟩;rw[b9 (s3 _ _),b9 (s3 _ _),z5,Wy]
theorem Ft {n:Nat} {va:List Value} {l:Bs} (ha:va=bv l) (hn:l.length=n) (hm:n<=1073741824):a7 C 175 [.z n va] [] (.ret (u64 (L6 l))) []:=by
 subst ha;subst hn;refine Ns.c ?_;refine j4 (fun i=>⟨[(0,bz l),(3,u64 (L6 (l.take i))),(4,i64 i)],[]⟩) l.length ⟨[],⟨rfl,rfl,rfl,tq⟩,tq⟩ fun i hi=> ?_;refine b8 (fun h=> ?_) (fun h=> ?_)
 ·have a8:i<l.length:=(by omega);refine⟨by omega,by omega,by omega,_,au (i:=i) a8,i+1,a8,J7 _ _ a8,[],⟨rfl,congrArg (vi .u64) ?_,c9 (by simp(disch:=omega)only[Za];omega),tq⟩,tq⟩;rw[uM _ _ (by decide) (by decide),uP,uL,tA a8];rfl
 ·obtain rfl:i=l.length:=Ka hi (by omega);refine⟨_,rfl,[],congrArg (vi .u64) ?_,tq⟩;rw[Zq]
theorem dC {n:Nat} {va:List Value} {l:Bs} (ha:va=bv l) (hn:l.length=n) (hm:n<=1073741824):a7 C 166 [.z n va] [] (.ret (u64 (L6 l.reverse))) []:=by
 subst ha;subst hn;refine Nu.c ?_;refine j4 (fun i=>⟨[(0,bz l),(3,u64 (L6 (l.reverse.take i))),(4,i64 (l.length-i))],[]⟩) l.length ⟨[],⟨rfl,rfl,c9 (by simp),tq⟩,tq⟩ fun i hi=> ?_;refine b8 (fun h=> ?_) (fun h=> ?_)
 ·have a8:i<l.length:=(by omega);have e:(I6.wrap ((l.length:Int)-i-1)).toNat=l.length-1-i:=by simp only[IntKind.wrap_i64];omega
  refine⟨by omega,(by simp(disch:=omega)only[Za];omega),by omega,?_⟩;refine⟨_,by rw[e];exact au (i:=l.length-1-i) (by omega),?_⟩;refine⟨i+1,a8,J7 _ _ a8,[],⟨rfl,congrArg (vi .u64) ?_,c9 (by simp(disch:=omega)only[Za];omega),tq⟩,tq⟩;rw[uM _ _ (by decide) (by decide),uP,uL,tA (by simpa using a8),Js];rfl
 ·obtain rfl:i=l.length:=Ka hi (by omega);refine⟨_,rfl,[],congrArg (vi .u64) ?_,tq⟩;rw[<-Zi,Zq]
theorem n8 {k:List UInt32} {i:Nat} (h:i<k.length):(wv k)[i]? =some (.int .u32 (k.getD i 0).toNat):=by
 rw[uV h,Zd,Zf h];rfl
theorem y7 {k:Bs} {i:Nat} (h:i<k.length):(bv k)[i]? =some (.int .u8 (k.getD i 0).toNat):=by
 rw[au h,Zd,Zf h];rfl
theorem tm {k:List Int} {i:Nat} (h:i<k.length):(iv k)[i]? =some (.int .i64 (k.getD i 0)):=by
 rw[zr h,Zd,Zf h];rfl
theorem Gr {n:Int} (h:0<n) (hm:n<=1073741824):a7 C 120 [.s (.slice none 0 0),i64 n] [] (.ret (.o 1 (.k 0) 0 0)) [.sc (bv (Zk n.toNat 0))]:=by
 refine yJ.c ?_;refine b8 (fun h=>absurd h (by omega)) (fun _=> ?_);have e1:I6.wrap (n-I6.wrap (0-((0:Nat):Int)))=n:=by simp only[IntKind.wrap_i64];omega
 refine bC (decide_eq_true (by rw[e1];exact h)) ?_;refine⟨Jh 0,Zp 0,Zp 0,Zp 0,?_⟩;refine⟨by rw[e1];exact h,by rw[e1];exact hm,_,rfl,?_⟩;refine⟨Jh 0,Zp 0,Zp 0,Z6 _,?_⟩;refine⟨_,rfl,[.d 22 0],rfl,⟨_,rfl,d8 ?_⟩,tq⟩;rw[e1];exact P4 _
theorem FD {n:Nat} {ls:List (Bs)} {xs:List V} (hx:xs=ls.map fun l=>bz l) (hn:ls.length=n) (h0:0<ls.flatten.length) (hm:ls.flatten.length<=1073741824) (hn2:n<=1073741824):a7 C 65 [.zz 1 n xs] [] (.ret (.o 1 (.k 0) 0 ls.flatten.length)) [.sc (bv ls.flatten)]:=by
 subst hx;subst hn;have get:∀i,(h:i<ls.length)->(ls.map fun l=>bz l)[i]? =some (bz ls[i]):=fun i h=>by simp[h]
 have stepL:∀i,(h:i<ls.length)->(ls.take (i+1)).flatten=(ls.take i).flatten++ls[i]:=fun i h=>by rw[Zr h,Jw,List.flatten_cons,List.flatten_nil,Z8]
 have le:∀i,(ls.take i).flatten.length<=ls.flatten.length:=fun i=>by
  conv=>rhs;rw[<-Kx i ls,Jw,Ze]
  omega
 refine yI.c ?_;refine j4 (fun i=>⟨[(0,.zz 1 ls.length (ls.map fun l=>bz l)),(3,i64 (ls.take i).flatten.length),(9,.zz 1 ls.length (ls.map fun l=>bz l)),(10,i64 ls.length),(11,i64 i)],[]⟩) ls.length ⟨[],⟨rfl,rfl,rfl,rfl,rfl,tq⟩,tq⟩ fun i hi=> ?_;refine b8 (fun h=> ?_) (fun h=> ?_)
 ·have a8:i<ls.length:=(by omega);have e:((i:Int)).toNat*1=i:=(by omega);have l1:=le (i+1);rw[stepL i a8,Ze]at l1;have e1:I6.wrap (((ls.take i).flatten.length:Int)+(ls[i].length:Nat))=((ls.take (i+1)).flatten.length:Nat):=by rw[stepL i a8,Ze];simp only[IntKind.wrap_i64];omega
  refine⟨by omega,by omega,?_⟩;refine⟨_,by rw[e];exact get i a8,?_⟩;refine A1 (decide_eq_false (by rw[e1];omega)) ?_;exact⟨i+1,by omega,by omega,[],⟨rfl,c9 e1,rfl,rfl,c9 (by simp(disch:=omega)only[Za];omega),tq⟩,tq⟩
 ·obtain rfl:i=ls.length:=(by omega);refine⟨[],_,_,_,_,Gr (n:=ls.flatten.length) (by omega) (by omega),?_,rfl,?_⟩
  ·show[V.s (.slice none 0 0),i64 _]=_;rw[Zq]
  refine⟨Nat×Bs,fun x=>⟨[(6,.o 1 (.k 0) 0 (ls.take x.1).flatten.length),(25,.zz 1 ls.length (ls.map fun l=>bz l)),(26,i64 ls.length),(27,i64 x.1)],[.sc (bv ((ls.take x.1).flatten++x.2))]⟩,fun x=>x.1<=ls.length/\(x.1=ls.length->x.2=[]),fun x=>ls.length-x.1,⟨[],(0,Zk ls.flatten.length 0),⟨Z6 _,fun h=> ?_⟩,[.d 24 0],⟨rfl,rfl,rfl,rfl,tq⟩,⟨_,rfl,d8 ?_⟩,tq⟩,?_⟩
  ·exfalso;have:ls=[]:=J8 h.symm;subst this;simp at h0
  ·simp
  rintro ⟨i,z⟩ ⟨hi,hz⟩;simp only at hi hz;refine b8 (fun h=> ?_) (fun h=> ?_)
  ·have a8:i<ls.length:=(by omega);have e:((i:Int)).toNat*1=i:=(by omega);have l1:=le (i+1);rw[stepL i a8,Ze]at l1;refine⟨by omega,by omega,?_⟩;refine⟨_,by rw[e];exact get i a8,?_⟩;refine⟨(by simp[s3,f9,G9,p8,Ze,Zj,Zu,Zv,Zx,Zs,Zw,j5,Zi,Zy,Zo];done),(by simp(disch:=omega)only[Za];omega),(by simp only[s3,f9,G9,p8,Ze,Zj,Zu,Zv,Zx,Zs,Zw,j5,Zi,Zy,Zo];omega),?_⟩;refine⟨(i+1,[]),⟨by omega,fun _=>rfl⟩,(by simp(disch:=omega)only[Za];omega),[.d 33 0],⟨?_,rfl,rfl,c9 (by simp(disch:=omega)only[Za];omega),tq⟩,⟨_,rfl,d8 ?_⟩,tq⟩
   ·show V.o 1 (.k 0) 0 _=V.o 1 (.k 0) 0 _;rw[stepL i a8,Ze]
   ·rw[k5,z5,stepL i a8];simp[sub]
  ·obtain rfl:i=ls.length:=(by omega);refine⟨_,rfl,[.k 0],?_,⟨_,rfl,d8 ?_⟩,tq⟩
   ·show V.o 1 (.k 0) 0 _=V.o 1 (.k 0) 0 _;rw[Zq]
   ·rw[Zq,hz rfl,Z8]
theorem R7 {n:Nat} {ls:List (Bs)} {t:Bs} {xs:List V} (ht:ls.flatten=t) (hx:xs=ls.map fun l=>bz l) (hn:ls.length=n) (h0:0<t.length) (hm:t.length<=1073741824) (hn2:n<=1073741824:=by first|decide|simp):a7 C 65 [.zz 1 n xs] [] (.ret (.o 1 (.k 0) 0 t.length)) [.sc (bv t)]:=by
 subst ht;exact FD hx hn h0 hm hn2
def ka (v key:UInt32):UInt32:=((v<<<4^^^v>>>5)+v)^^^key
def D7:UInt32:=2654435769
def N7 (k:List UInt32) (x:UInt32×UInt32×UInt32):UInt32×UInt32×UInt32:=
 let v:=x.1+ka x.2.1 (x.2.2+k.getD (x.2.2&&&3).toNat 0)
 let s:=x.2.2+D7
 (v,x.2.1+ka v (s+k.getD (s>>>11&&&3).toNat 0),s)
def N6 (k:List UInt32) (x:UInt32×UInt32×UInt32):UInt32×UInt32×UInt32:=
 let w:=x.2.1-ka x.1 (x.2.2+k.getD (x.2.2>>>11&&&3).toNat 0)
 let s:=x.2.2-D7
 (x.1-ka w (s+k.getD (s&&&3).toNat 0),w,s)
theorem kF (x:UInt32):(x&&&3).toNat<4:=by
 rw[J5];exact Jz (n:=2) _ (by decide)
theorem qb (s:UInt32):U3.wrap ((Zc U3.bits (s.toNat:Int)&&&Zc U3.bits 3).toNat:Int)=((s&&&3).toNat:Int):=uK s 3
theorem gu (s:UInt32):U3.wrap ((s.toNat:Int)+2654435769)=((s+D7).toNat:Int):=p7 s D7
theorem kg (s:UInt32):U3.wrap ((s.toNat:Int)-2654435769)=((s-D7).toNat:Int):=X4 s D7
theorem nN {x y:Int} {v k:UInt32} (hx:x=v.toNat) (hy:y=k.toNat):a7 C 206 [vi .u32 x,vi .u32 y] [] (.ret (u32 (ka v k))) []:=by
 subst hx;subst hy;refine Pe.c ?_;refine⟨by omega,by omega,_,rfl,[],congrArg (vi .u32) ?_,tq⟩;rw[ki _ _ (by decide) (by decide),X3 _ _ (by decide) (by decide),x5,p7,x5];rfl
abbrev P1 (k:List UInt32) (tag:Int):V:= .q [wz k,i64 tag] 0
theorem JG {tag x y:Int} {k:List UInt32} {v w:UInt32} (hk:k.length=4) (hx:x=v.toNat) (hy:y=w.toNat):a7 C 149 [P1 k tag,vi .u32 x,vi .u32 y,bool false] []
  (.ret (.t [u32 (it (N7 k) 32 (v,w,0)).1,u32 (it (N7 k) 32 (v,w,0)).2.1])) []:=by
 subst hx;subst hy;refine yM.c ?_;refine pO 0 rfl (N7 k) (v,w,0) 32 (fun i z=>⟨[(0,P1 k tag),(1,u32 z.1),(2,u32 z.2.1),(3,bool false),(10,u32 z.2.2),(11,i64 i)],[]⟩) ⟨[],(0,(v,w,0)),⟨Z6 _,rfl⟩,[],⟨rfl,rfl,rfl,rfl,rfl,rfl,tq⟩,tq⟩ fun i z hi hz=> ?_;refine i9 (fun h=> ?_) (fun h=> ?_)
 ·obtain rfl:i=32:=(by omega);rw[<-hz];exact⟨_,rfl,[],rfl,tq⟩
 ·have a8:i<32:=(by omega);have e1:=qb z.2.2;have b1:=kF z.2.2;refine⟨_,rfl,?_⟩;refine⟨by rw[e1];omega,by rw[e1,hk];omega,?_⟩;refine⟨_,by rw[e1,Zb];exact n8 (i:=(z.2.2&&&3).toNat) (by omega),?_⟩;refine⟨[],_,_,_,_,nN rfl (by rw[p7]),rfl,rfl,?_⟩;have b2:=kF ((z.2.2+D7)>>>11);have e2:U3.wrap ((Zc U3.bits ((U3.wrap ((z.2.2.toNat:Int)+2654435769)).fdiv (2^(min (11:Int).toNat U3.bits)))&&&Zc U3.bits 3).toNat:Int)=(((z.2.2+D7)>>>11&&&3).toNat:Int):=by
   rw[gu,X3 _ _ (by decide) (by decide)];exact qb _
  refine⟨_,rfl,by omega,?_⟩;refine⟨by rw[e2];omega,by rw[e2,hk];omega,?_⟩;refine⟨_,by rw[e2,Zb];exact n8 (i:=((z.2.2+D7)>>>11&&&3).toNat) (by omega),?_⟩;refine⟨[],_,_,_,_,nN (p7 _ _) (by rw[gu,p7]),rfl,rfl,?_⟩;refine⟨rfl,(i+1,N7 k z),⟨a8,aB hz⟩,by omega,[],⟨rfl,congrArg (vi .u32) (p7 _ _),congrArg (vi .u32) (p7 _ _),rfl,congrArg (vi .u32) (gu _),c9 (by simp(disch:=omega)only[Za];omega),tq⟩,tq⟩
theorem JF {tag x y:Int} {k:List UInt32} {v w:UInt32} (hk:k.length=4) (hx:x=v.toNat) (hy:y=w.toNat):a7 C 149 [P1 k tag,vi .u32 x,vi .u32 y,bool true] []
  (.ret (.t [u32 (it (N6 k) 32 (v,w,3337565984)).1,u32 (it (N6 k) 32 (v,w,3337565984)).2.1])) []:=by
 subst hx;subst hy;refine yM.c ?_;refine pO 0 rfl (N6 k) (v,w,3337565984) 32 (fun i z=>⟨[(0,P1 k tag),(1,u32 z.1),(2,u32 z.2.1),(3,bool true),(10,u32 z.2.2),(11,i64 i)],[]⟩) ⟨[],(0,(v,w,3337565984)),⟨Z6 _,rfl⟩,[],⟨rfl,rfl,rfl,rfl,rfl,rfl,tq⟩,tq⟩ fun i z hi hz=> ?_;refine i9 (fun h=> ?_) (fun h=> ?_)
 ·obtain rfl:i=32:=(by omega);rw[<-hz];exact⟨_,rfl,[],rfl,tq⟩
 ·have a8:i<32:=(by omega);have b1:=kF (z.2.2>>>11);have e1:U3.wrap ((Zc U3.bits ((z.2.2.toNat:Int).fdiv (2^(min (11:Int).toNat U3.bits)))&&&Zc U3.bits 3).toNat:Int)=((z.2.2>>>11&&&3).toNat:Int):=by
   rw[X3 _ _ (by decide) (by decide)];exact qb _
  refine⟨_,rfl,by omega,?_⟩;refine⟨by rw[e1];omega,by rw[e1,hk];omega,?_⟩;refine⟨_,by rw[e1,Zb];exact n8 (i:=(z.2.2>>>11&&&3).toNat) (by omega),?_⟩;refine⟨[],_,_,_,_,nN rfl (by rw[p7]),rfl,rfl,?_⟩;have b2:=kF (z.2.2-D7);have e2:U3.wrap ((Zc U3.bits (U3.wrap ((z.2.2.toNat:Int)-2654435769))&&&Zc U3.bits 3).toNat:Int)=(((z.2.2-D7)&&&3).toNat:Int):=by
   rw[kg];exact qb _
  refine⟨_,rfl,?_⟩;refine⟨by rw[e2];omega,by rw[e2,hk];omega,?_⟩;refine⟨_,by rw[e2,Zb];exact n8 (i:=((z.2.2-D7)&&&3).toNat) (by omega),?_⟩;refine⟨[],_,_,_,_,nN (X4 _ _) (by rw[kg,p7]),rfl,rfl,?_⟩;refine⟨rfl,(i+1,N6 k z),⟨a8,aB hz⟩,by omega,[],⟨rfl,congrArg (vi .u32) (X4 _ _),congrArg (vi .u32) (X4 _ _),rfl,congrArg (vi .u32) (kg _),c9 (by simp(disch:=omega)only[Za];omega),tq⟩,tq⟩
theorem Eo (x:UInt32):(x&&&3).toNat=x.toNat%4:=by
 rw[J5];exact Jn x.toNat 2
abbrev F9 (k:List UInt32) (tag:Int):V:= .q [i64 tag,wz k] 0
theorem nD {tag x y t:Int} {k:List UInt32} {w s a:UInt32} (hk:k.length=4) (hx:x=w.toNat) (hy:y=s.toNat) (ht:t=a.toNat):a7 C 260 [F9 k tag,vi .u32 x,vi .u32 y,vi .u32 t] [] (.ret (u32 (ka w (s+k.getD (a&&&3).toNat 0)))) []:=by
 subst hx;subst hy;subst ht;refine Oz.c ?_;have e:((a.toNat:Int).tmod 4)=((a&&&3).toNat:Int):=by
  rw[Eo,Jk (Int.natCast_nonneg _)];rfl
 have b:=kF a;refine⟨by omega,by omega,_,rfl,by decide,?_⟩;refine⟨by rw[e];omega,by rw[e,hk];omega,?_⟩;refine⟨_,by rw[e,Zb];exact n8 (i:=(a&&&3).toNat) (by omega),?_⟩;refine⟨_,rfl,[],congrArg (vi .u32) ?_,tq⟩;rw[ki _ _ (by decide) (by decide),X3 _ _ (by decide) (by decide),x5,p7,p7,x5];rfl
theorem Ia {tag x y:Int} {k:List UInt32} {v w:UInt32} (hk:k.length=4) (hx:x=v.toNat) (hy:y=w.toNat):a7 C 217 [F9 k tag,vi .u32 x,vi .u32 y,bool false] []
  (.ret (.t [u32 (it (N7 k) 32 (v,w,0)).1,u32 (it (N7 k) 32 (v,w,0)).2.1])) []:=by
 subst hx;subst hy;refine yE.c ?_;refine mp (N7 k) (v,w,0) 32 (fun i z=>⟨[(0,F9 k tag),(1,u32 z.1),(2,u32 z.2.1),(10,u32 z.2.2),(11,i64 i)],[]⟩) ⟨[],⟨rfl,rfl,rfl,rfl,rfl,tq⟩,tq⟩ fun i z hi hz=> ?_;refine b8 (fun h=> ?_) (fun h=> ?_)
 ·have a8:i<32:=(by omega);refine⟨[],_,_,_,_,nD hk rfl rfl rfl,rfl,rfl,?_⟩;refine⟨by omega,?_⟩;refine⟨[],_,_,_,_,nD hk (p7 _ _) (gu _) (by rw[gu,X3 _ _ (by decide) (by decide)]),rfl,rfl,?_⟩;refine⟨(i+1,N7 k z),⟨a8,aB hz⟩,by omega,[],⟨rfl,congrArg (vi .u32) (p7 _ _),congrArg (vi .u32) (p7 _ _),congrArg (vi .u32) (gu _),c9 (by simp(disch:=omega)only[Za];omega),tq⟩,tq⟩
 ·obtain rfl:i=32:=(by omega);rw[<-hz];exact⟨_,rfl,[],rfl,tq⟩
theorem HZ {tag x y:Int} {k:List UInt32} {v w:UInt32} (hk:k.length=4) (hx:x=v.toNat) (hy:y=w.toNat):a7 C 217 [F9 k tag,vi .u32 x,vi .u32 y,bool true] []
  (.ret (.t [u32 (it (N6 k) 32 (v,w,3337565984)).1,u32 (it (N6 k) 32 (v,w,3337565984)).2.1])) []:=by
 subst hx;subst hy;refine yE.c ?_;refine mp (· +D7) 0 32 (fun i z=>⟨[(0,F9 k tag),(1,u32 v),(2,u32 w),(10,u32 z),(12,i64 i)],[]⟩) ⟨[],⟨rfl,rfl,rfl,rfl,rfl,tq⟩,tq⟩ fun i z hi hz=> ?_;refine b8 (fun h=> ?_) (fun h=> ?_)
 ·have a8:i<32:=(by omega);refine⟨(i+1,z+D7),⟨a8,aB hz⟩,by omega,[],⟨rfl,rfl,rfl,congrArg (vi .u32) (gu _),c9 (by simp(disch:=omega)only[Za];omega),tq⟩,tq⟩
 obtain rfl:i=32:=(by omega);obtain rfl:z=3337565984:=by rw[hz];decide
 refine mp (N6 k) (v,w,3337565984) 32 (fun i z=>⟨[(0,F9 k tag),(1,u32 z.1),(2,u32 z.2.1),(10,u32 z.2.2),(13,i64 i)],[]⟩) ⟨[],⟨rfl,rfl,rfl,rfl,rfl,tq⟩,tq⟩ fun i z hi hz=> ?_;refine b8 (fun h=> ?_) (fun h=> ?_)
 ·have a8:i<32:=(by omega);refine⟨by omega,?_⟩;refine⟨[],_,_,_,_,nD hk rfl rfl (by rw[X3 _ _ (by decide) (by decide)]),rfl,rfl,?_⟩;refine⟨[],_,_,_,_,nD hk (X4 _ _) (kg _) (kg _),rfl,rfl,?_⟩;refine⟨(i+1,N6 k z),⟨a8,aB hz⟩,by omega,[],⟨rfl,congrArg (vi .u32) (X4 _ _),congrArg (vi .u32) (X4 _ _),congrArg (vi .u32) (kg _),c9 (by simp(disch:=omega)only[Za];omega),tq⟩,tq⟩
 ·obtain rfl:i=32:=(by omega);rw[<-hz];exact⟨_,rfl,[],rfl,tq⟩
def O1 (c:UInt8):Nat:=if 65<=c.toNat then c.toNat-55 else c.toNat-48
def dc (c:UInt8):Bool:=decide (48<=c.toNat/\c.toNat<=57\/65<=c.toNat/\c.toNat<=70)
theorem sy {c:UInt8} (h:dc c=true):O1 c<16:=by
 unfold dc at h;unfold O1;have:=of_decide_eq_true h;split<;>omega
theorem IG {x:Int} {c:UInt8} (hx:x=c.toNat) (h:dc c=true):a7 C 250 [vi .u8 x] [] (.ret (u32 (Zn (O1 c)))) []:=by
 subst hx;have h':=of_decide_eq_true h;refine Pd.c ?_;refine b8 (fun h1=> ?_) (fun h1=> ?_)
 ·refine⟨_,rfl,[],congrArg (vi .u32) ?_,tq⟩;simp only[wrap_u8,wrap_u32,Jm,O1];split<;>omega
 ·refine⟨_,rfl,[],congrArg (vi .u32) ?_,tq⟩;simp only[wrap_u8,wrap_u32,Jm,O1];split<;>omega
theorem Gh {x:Int} {c:UInt8} (hx:x=c.toNat) (h:dc c=true):a7 C 275 [vi .u8 x] [] (.ret (i64 (O1 c))) []:=by
 subst hx;have h':=of_decide_eq_true h;refine Oe.c ?_;refine b8 (fun h1=> ?_) (fun h1=> ?_)
 ·refine⟨_,rfl,[],c9 ?_,tq⟩;simp only[wrap_u8,IntKind.wrap_i64,O1];split<;>omega
 ·refine⟨_,rfl,[],c9 ?_,tq⟩;simp only[wrap_u8,IntKind.wrap_i64,O1];split<;>omega
def aD:List (Bs):=[[67,52,54,50,65,53,66,57,69,56,68,55,48,51,70,49],[54,56,50,51,57,65,53,67,49,69,52,55,66,68,48,70],[66,51,53,56,50,70,65,68,69,49,55,52,67,57,54,48],[67,56,50,49,68,52,70,54,55,48,65,53,51,69,57,66],[55,70,53,65,56,49,54,68,48,57,51,69,66,52,50,67],[53,68,70,54,57,50,67,65,66,55,56,49,52,51,69,48],[56,69,50,53,54,57,49,67,70,52,66,48,68,65,51,55],[49,55,69,68,48,53,56,51,52,70,65,54,57,67,66,50]]
abbrev G5 (l:Bs):V:= .s (.string ⟨l.toArray⟩)
theorem GI:a7 C 249 [] [] (.ret (.a (aD.map G5))) []:=by
 refine Pc.c ?_;exact⟨by decide,_,rfl,rfl,_,rfl,[],rfl,tq⟩
def tC (x:UInt32) (i:Nat):UInt32:=Zn (O1 ((aD.getD i []).getD (x>>>Zn (4*i)&&&15).toNat 48))<<<Zn (4*i)
def mG (x k:UInt32):UInt32:=A7 ((List.range 8).foldl (fun o i=>o|||tC (x+k) i) 0) 11
theorem zO:∀i,i<8->∀j,j<16->dc ((aD.getD i []).getD j 48)=true:=by decide
theorem Rr (i:Nat) (h:i<8):(aD.map G5)[i]? =some (G5 (aD.getD i [])):=by
 have:i<aD.length:=h;simp[this]
theorem vU (x:UInt32):(x&&&15).toNat<16:=by
 rw[J5];exact Jz (n:=4) _ (by decide)
theorem zQ (i:Nat) (h:i<8):(aD.getD i []).length=16:=by
 revert h;revert i;decide
theorem mI {l:Bs} {j:Nat} (h:j<l.length):(ByteArray.mk l.toArray).data.toList[j]? =some (l.getD j 48):=by
 simp[List.getD,h]
theorem wy {a b:Int} {x k:UInt32} (ha:a=x.toNat) (hb:b=k.toNat):a7 C 208 [vi .u32 a,vi .u32 b] [] (.ret (u32 (mG x k))) []:=by
 subst ha;subst hb;refine Pa.c ?_;refine⟨[],_,_,_,_,GI,rfl,rfl,?_⟩;refine j4 (fun i=>⟨[(0,u32 (x+k)),(5,u32 ((List.range i).foldl (fun o i=>o|||tC (x+k) i) 0)),(11,.a (aD.map G5)),(12,i64 i)],[]⟩) 8 ⟨[],⟨congrArg (vi .u32) (p7 _ _),rfl,rfl,rfl,tq⟩,tq⟩ fun i hi=> ?_;refine b8 (fun h=> ?_) (fun h=> ?_)
 ·have a8:i<8:=(by omega);refine⟨by omega,by omega,_,by rw[Zb,Zm];exact Rr i a8,?_⟩;have e4:I6.wrap (4*(i:Int))=((4*i:Nat):Int):=by simp only[IntKind.wrap_i64];omega
  have e5:((x+k).toNat:Int).fdiv (2^(min (((4*i:Nat):Int)).toNat U3.bits))=(((x+k)>>>Zn (4*i)).toNat:Int):=by
   rw[X3 _ _ (by omega) (by omega),Zb]
  have e6:U3.wrap ((Zc U3.bits ((((x+k)>>>Zn (4*i)).toNat:Nat):Int)&&&Zc U3.bits 15).toNat:Int)=(((x+k)>>>Zn (4*i)&&&15).toNat:Int):=uK _ 15;have b:=vU ((x+k)>>>Zn (4*i));have hl:=zQ i a8;refine⟨by rw[e4];omega,by rw[e4,e5,e6];omega,?_,?_⟩
  ·rw[e4,e5,e6];show((((x+k)>>>Zn (4*i)&&&15).toNat:Nat):Int)<(((aD.getD i []).toArray.size:Nat):Int);simp only[List.size_toArray,hl];omega
  refine⟨_,by rw[e4,e5,e6,Zb];exact mI (by omega),?_⟩;refine⟨[],_,_,_,_,IG rfl (zO i a8 _ b),rfl,rfl,?_⟩;refine⟨by rw[e4];omega,?_⟩;refine⟨i+1,a8,by omega,[],⟨rfl,congrArg (vi .u32) ?_,rfl,c9 (by simp(disch:=omega)only[Za];omega),tq⟩,tq⟩;rw[e4,ki _ _ (by omega) (by omega),qc,Zz,J4,Zb];rfl
 ·obtain rfl:i=8:=(by omega);refine⟨[],_,_,_,_,xk rfl (by decide),rfl,rfl,?_⟩;exact⟨_,rfl,[],rfl,tq⟩
theorem Gs {n:Int} (h:0<n) (hm:n<=1073741824):a7 C 248 [.s (.slice none 0 0),i64 n] [] (.ret (.o 1 (.k 0) 0 0)) [.sc (wv (Zk n.toNat 0))]:=by
 refine OW.c ?_;refine b8 (fun h=>absurd h (by omega)) (fun _=> ?_);have e1:I6.wrap (n-I6.wrap (0-((0:Nat):Int)))=n:=by simp only[IntKind.wrap_i64];omega
 refine bC (decide_eq_true (by rw[e1];exact h)) ?_;refine⟨Jh 0,Zp 0,Zp 0,Zp 0,?_⟩;refine⟨by rw[e1];exact h,by rw[e1];exact hm,_,rfl,?_⟩;refine⟨Jh 0,Zp 0,Zp 0,Z6 _,?_⟩;refine⟨_,rfl,[.d 22 0],rfl,⟨_,rfl,d8 ?_⟩,tq⟩;rw[e1];exact a0d _
theorem FE {n:Nat} {ls:List (List UInt32)} {xs:List V} (hx:xs=ls.map fun l=>wz l) (hn:ls.length=n) (h0:0<ls.flatten.length) (hm:ls.flatten.length<=1073741824) (hn2:n<=1073741824):a7 C 207 [.zz 1 n xs] [] (.ret (.o 1 (.k 0) 0 ls.flatten.length)) [.sc (wv ls.flatten)]:=by
 subst hx;subst hn;have get:∀i,(h:i<ls.length)->(ls.map fun l=>wz l)[i]? =some (wz ls[i]):=fun i h=>by simp[h]
 have stepL:∀i,(h:i<ls.length)->(ls.take (i+1)).flatten=(ls.take i).flatten++ls[i]:=fun i h=>by rw[Zr h,Jw,List.flatten_cons,List.flatten_nil,Z8]
 have le:∀i,(ls.take i).flatten.length<=ls.flatten.length:=fun i=>by
  conv=>rhs;rw[<-Kx i ls,Jw,Ze]
  omega
 refine OU.c ?_;refine j4 (fun i=>⟨[(0,.zz 1 ls.length (ls.map fun l=>wz l)),(3,i64 (ls.take i).flatten.length),(9,.zz 1 ls.length (ls.map fun l=>wz l)),(10,i64 ls.length),(11,i64 i)],[]⟩) ls.length ⟨[],⟨rfl,rfl,rfl,rfl,rfl,tq⟩,tq⟩ fun i hi=> ?_;refine b8 (fun h=> ?_) (fun h=> ?_)
 ·have a8:i<ls.length:=(by omega);have e:((i:Int)).toNat*1=i:=(by omega);have l1:=le (i+1);rw[stepL i a8,Ze]at l1;have e1:I6.wrap (((ls.take i).flatten.length:Int)+(ls[i].length:Nat))=((ls.take (i+1)).flatten.length:Nat):=by rw[stepL i a8,Ze];simp only[IntKind.wrap_i64];omega
  refine⟨by omega,by omega,?_⟩;refine⟨_,by rw[e];exact get i a8,?_⟩;refine A1 (decide_eq_false (by rw[e1];omega)) ?_;exact⟨i+1,by omega,by omega,[],⟨rfl,c9 e1,rfl,rfl,c9 (by simp(disch:=omega)only[Za];omega),tq⟩,tq⟩
 ·obtain rfl:i=ls.length:=(by omega);refine⟨[],_,_,_,_,Gs (n:=ls.flatten.length) (by omega) (by omega),?_,rfl,?_⟩
  ·show[V.s (.slice none 0 0),i64 _]=_;rw[Zq]
  refine⟨Nat×List UInt32,fun x=>⟨[(6,.o 1 (.k 0) 0 (ls.take x.1).flatten.length),(25,.zz 1 ls.length (ls.map fun l=>wz l)),(26,i64 ls.length),(27,i64 x.1)],[.sc (wv ((ls.take x.1).flatten++x.2))]⟩,fun x=>x.1<=ls.length/\(x.1=ls.length->x.2=[]),fun x=>ls.length-x.1,⟨[],(0,Zk ls.flatten.length 0),⟨Z6 _,fun h=> ?_⟩,[.d 24 0],⟨rfl,rfl,rfl,rfl,tq⟩,⟨_,rfl,d8 ?_⟩,tq⟩,?_⟩
  ·exfalso;have:ls=[]:=J8 h.symm;subst this;simp at h0
  ·simp
  rintro ⟨i,z⟩ ⟨hi,hz⟩;simp only at hi hz;refine b8 (fun h=> ?_) (fun h=> ?_)
  ·have a8:i<ls.length:=(by omega);have e:((i:Int)).toNat*1=i:=(by omega);have l1:=le (i+1);rw[stepL i a8,Ze]at l1;refine⟨by omega,by omega,?_⟩;refine⟨_,by rw[e];exact get i a8,?_⟩;refine⟨(by simp[s3,f9,G9,p8,Ze,Zj,Zu,Zv,Zx,Zs,Zw,j5,Zi,Zy,Zo];done),(by simp(disch:=omega)only[Za];omega),(by simp only[s3,f9,G9,p8,Ze,Zj,Zu,Zv,Zx,Zs,Zw,j5,Zi,Zy,Zo];omega),?_⟩;refine⟨(i+1,[]),⟨by omega,fun _=>rfl⟩,(by simp(disch:=omega)only[Za];omega),[.d 33 0],⟨?_,rfl,rfl,c9 (by simp(disch:=omega)only[Za];omega),tq⟩,⟨_,rfl,d8 ?_⟩,tq⟩
   ·show V.o 1 (.k 0) 0 _=V.o 1 (.k 0) 0 _;rw[stepL i a8,Ze]
   ·rw[a0e,kn,stepL i a8];simp[sub]
  ·obtain rfl:i=ls.length:=(by omega);refine⟨_,rfl,[.k 0],?_,⟨_,rfl,d8 ?_⟩,tq⟩
   ·show V.o 1 (.k 0) 0 _=V.o 1 (.k 0) 0 _;rw[Zq]
   ·rw[Zq,hz rfl,Z8]
theorem wE {n:Nat} {ls:List (List UInt32)} {t:List UInt32} {xs:List V} (ht:ls.flatten=t) (hx:xs=ls.map fun l=>wz l) (hn:ls.length=n) (h0:0<t.length) (hm:t.length<=1073741824) (hn2:n<=1073741824:=by first|decide|simp):a7 C 207 [.zz 1 n xs] [] (.ret (.o 1 (.k 0) 0 t.length)) [.sc (wv t)]:=by
 subst ht;exact FE hx hn h0 hm hn2
theorem nA {n:Nat} {va:List Value} {l:List UInt32} (ha:va=wv l) (hn:l.length=n) (h0:0<n) (hm:n<=1073741824):a7 C 197 [.z n va] [] (.ret (.o 1 (.k 0) 0 n)) [.sc (wv l)]:=by
 subst ha;refine OT.c ?_;refine .inl ⟨h0,(by simp only[s3,f9,G9,p8,Ze,Zj,Zu,Zv,Zx,Zs,Zw,j5,Zi,Zy,Zo];omega),by omega,by omega,?_⟩;refine⟨_,rfl,[.d 7 0],?_,⟨_,rfl,rfl⟩,tq⟩;show V.o 1 (.k 0) 0 (0+n)=_;rw[Zl]
def U5 {α:Type} (l:List α) (i:Nat):List α:=l.mapIdx fun p x=>if p<i\/l.length-i<=p then l.reverse.getD p x else x
theorem eG {α:Type} (l:List α) (i:Nat):(U5 l i).length=l.length:=by simp[U5]
theorem AY {α:Type} (l:List α):U5 l 0=l:=by
 apply List.ext_getElem (by simp[U5]);intro j h1 h2;simp[U5];omega
theorem pK {α:Type} (l:List α) (i j:Nat) (h:j<l.length):(U5 l i)[j]? =some (if j<i\/l.length-i<=j then l[l.length-1-j]else l[j]):=by
 have h2:j<(U5 l i).length:=by rw[eG];exact h
 rw[Zf h2];simp only[U5,List.getElem_mapIdx];split
 ·rw[Zd,Zf (by simpa using h),Option.getD_some,Js]
 ·rfl
theorem AW {α:Type} (l:List α) (i:Nat) (h:l.length<=2*i+1):U5 l i=l.reverse:=by
 apply Z3;intro j;by_cases hj:j<l.length
 ·rw[pK l i j hj,Ky hj];split
  ·rw[Zf (by omega)]
  ·rw[Zf (by omega)];congr 2;omega
 ·rw[Zg (by rw[eG];omega),Zg (by simp;omega)]
theorem AX {α:Type} (l:List α) (i:Nat) (h:i<l.length-1-i):((U5 l i).set i (l[l.length-1-i]'(by omega))).set (l.length-1-i) (l[i]'(by omega))=U5 l (i+1):=by
 apply Z3;intro j;by_cases hj:j<l.length
 ·rw[pK l (i+1) j hj,Jr,Jr,pK l i j hj];simp only[Zu,eG];by_cases h1:l.length-1-i=j
  ·subst h1;rw[if_pos rfl,if_pos (by omega),if_pos (by omega)];congr 2;omega
  ·rw[if_neg h1];by_cases h2:i=j
   ·subst h2;rw[if_pos rfl,if_pos (by omega),if_pos (by omega)]
   ·rw[if_neg h2];congr 1;by_cases h3:j<i\/l.length-i<=j
    ·rw[if_pos h3,if_pos (by omega)]
    ·rw[if_neg h3,if_neg (by omega)]
 ·rw[Zg (by simp[eG];omega),Zg (by rw[eG];omega)]
theorem qo {l:List UInt32} {j:Nat} {x:UInt32} (h:l[j]? =some x):(wv l)[j]? =some (.int .u32 x.toNat):=by simp[wv,h]
theorem pL {α:Type} (l:List α) (i j:Nat) (h:j<l.length) (h1:i<=j) (h2:j<l.length-i):(U5 l i)[j]? =some l[j]:=by
 rw[pK l i j h,if_neg (by omega)]
theorem ji {n:Nat} {l:List UInt32} (hn:l.length=n) (h0:0<n) (hm:n<=1073741824):a7 C 195 [.o 1 (.k 0) 0 n] [.sc (wv l)] (.ret (.t [])) [.sc (wv l.reverse)]:=by
 subst hn;refine OZ.c ?_;refine j4 (fun i=>⟨[(0,.o 1 (.k 0) 0 l.length),(2,i64 i),(3,i64 (l.length-1-i))],[.sc (wv (U5 l i))]⟩) l.length ⟨[.k 0],⟨rfl,rfl,c9 (by simp(disch:=omega)only[Za];omega),tq⟩,⟨_,rfl,d8 (by rw[AY])⟩,tq⟩ fun i hi=> ?_;refine b8 (fun h=> ?_) (fun h=> ?_)
 ·have a8:i<l.length-1-i:=(by omega);have e1:0+((l.length:Int)-1-i).toNat*1=l.length-1-i:=(by omega);have e2:0+((i:Int)).toNat*1=i:=(by omega);refine⟨by omega,by omega,_,by rw[e1];exact qo (pL l i (l.length-1-i) (by omega) (by omega) (by omega)),?_⟩;refine⟨by omega,by omega,_,by rw[e2];exact qo (pL l i i (by omega) (by omega) (by omega)),?_⟩;refine⟨by omega,by omega,by rw[e2,p8,eG];omega,by omega,by omega,by rw[e1,Zu,p8,eG];omega,?_⟩;refine⟨i+1,by omega,by omega,[.k 0],⟨rfl,c9 (by simp(disch:=omega)only[Za];omega),c9 (by simp(disch:=omega)only[Za];omega),tq⟩,⟨_,rfl,d8 ?_⟩,tq⟩;rw[e1,e2,aj,aj,AX l i a8]
 ·refine⟨_,rfl,[.k 0],rfl,⟨_,rfl,d8 ?_⟩,tq⟩;rw[AW l i (by omega)]
def A6 (k:List UInt32):List UInt32:=k++k++k++k.reverse
def O9 (x:UInt32×UInt32) (k:UInt32):UInt32×UInt32:=(x.2,x.1^^^mG x.2 k)
def aE (ks:List UInt32) (v w:UInt32):UInt32×UInt32:=((ks.foldl O9 (v,w)).2,(ks.foldl O9 (v,w)).1)
theorem zM (k:List UInt32):[k,k,k,k.reverse].flatten=A6 k:=by simp[A6]
theorem bj {α β:Type} (f:β->α->β) (l:List α) (b:β) (i:Nat) (h:i<l.length):(l.take (i+1)).foldl f b=f ((l.take i).foldl f b) l[i]:=by
 rw[Zr h,J4];rfl
theorem GF {tag x y:Int} {k:List UInt32} {v w:UInt32} (hk:k.length=8) (hx:x=v.toNat) (hy:y=w.toNat):a7 C 150 [P1 k tag,vi .u32 x,vi .u32 y,bool false] []
  (.ret (.t [u32 (aE (A6 k) v w).1,u32 (aE (A6 k) v w).2])) []:=by
 subst hx;subst hy;refine yK.c ?_;refine⟨_,rfl,?_⟩;refine⟨[],_,_,_,_,nA rfl rfl (by omega) (by omega),rfl,rfl,?_⟩;refine⟨[.d 18 0],_,_,_,_,ji (l:=k) hk (by omega) (by omega),?_,rfl,?_⟩
 ·show[V.o 1 (.k 0) 0 k.length]=_;rw[hk]
 refine⟨_,rfl,_,rfl,_,rfl,?_⟩;refine⟨[],_,_,_,_,wE (ls:=[k,k,k,k.reverse]) (zM k) ?_ rfl (by simp[A6];omega) (by simp[A6];omega),rfl,rfl,?_⟩
 ·show[V.z _ _,V.z _ _,V.z _ _,V.z _ _]=_;rw[y9 (by simp[hk])];simp[hk]
 have hm:(A6 k).length=32:=by simp[A6,hk]
 generalize A6 k=KS at hm ⊢;refine j4 (fun i=>⟨[(1,u32 (((KS.take i).foldl O9 (v,w)).1)),(2,u32 (((KS.take i).foldl O9 (v,w)).2)),(39,.z 32 (wv KS)),(40,i64 32),(41,i64 i)],[]⟩) 32 ⟨[],⟨rfl,rfl,?_,?_,rfl,tq⟩,tq⟩ fun i hi=> ?_
 ·show V.z _ (sub _ _ _)=V.z _ _;rw[y9 rfl,hm]
 ·show i64 _=i64 _;rw[hm];rfl
 refine b8 (fun h=> ?_) (fun h=> ?_)
 ·have a8:i<32:=(by omega);refine⟨by omega,by omega,_,uV (i:=i) (by omega),?_⟩;refine⟨[],_,_,_,_,wy rfl rfl,rfl,rfl,?_⟩;refine⟨i+1,by omega,by omega,[],⟨?_,?_,rfl,rfl,c9 (by simp(disch:=omega)only[Za];omega),tq⟩,tq⟩
  ·rw[bj _ _ _ _ (by omega)];rfl
  ·rw[bj _ _ _ _ (by omega)];exact congrArg (vi .u32) (x5 _ _)
 ·obtain rfl:i=32:=(by omega);rw[<-hm,Zq];exact⟨_,rfl,[],rfl,tq⟩
theorem GG {tag x y:Int} {k:List UInt32} {v w:UInt32} (hk:k.length=8) (hx:x=v.toNat) (hy:y=w.toNat):a7 C 150 [P1 k tag,vi .u32 x,vi .u32 y,bool true] []
  (.ret (.t [u32 (aE (A6 k).reverse v w).1,u32 (aE (A6 k).reverse v w).2])) []:=by
 subst hx;subst hy;refine yK.c ?_;refine⟨_,rfl,?_⟩;refine⟨[],_,_,_,_,nA rfl rfl (by omega) (by omega),rfl,rfl,?_⟩;refine⟨[.d 18 0],_,_,_,_,ji (l:=k) hk (by omega) (by omega),?_,rfl,?_⟩
 ·show[V.o 1 (.k 0) 0 k.length]=_;rw[hk]
 refine⟨_,rfl,_,rfl,_,rfl,?_⟩;refine⟨[],_,_,_,_,wE (ls:=[k,k,k,k.reverse]) (zM k) ?_ rfl (by simp[A6];omega) (by simp[A6];omega),rfl,rfl,?_⟩
 ·show[V.z _ _,V.z _ _,V.z _ _,V.z _ _]=_;rw[y9 (by simp[hk])];simp[hk]
 have hm:(A6 k).length=32:=by simp[A6,hk]
 generalize A6 k=K0 at hm ⊢;refine⟨[.d 35 0],_,_,_,_,ji (l:=K0) hm (by omega) (by omega),?_,rfl,?_⟩
 ·show[V.o 1 (.k 0) 0 K0.length]=_;rw[hm]
 have hm':K0.reverse.length=32:=by simp[hm]
 generalize hKS:K0.reverse=KS at hm' ⊢;refine j4 (fun i=>⟨[(1,u32 (((KS.take i).foldl O9 (v,w)).1)),(2,u32 (((KS.take i).foldl O9 (v,w)).2)),(39,.z 32 (wv KS)),(40,i64 32),(41,i64 i)],[]⟩) 32 ⟨[],⟨rfl,rfl,?_,?_,rfl,tq⟩,tq⟩ fun i hi=> ?_
 ·show V.z _ (sub _ _ _)=V.z _ _;rw[y9 (by rw[hm,hm']),hm]
 ·show i64 _=i64 _;rw[hm];rfl
 refine b8 (fun h=> ?_) (fun h=> ?_)
 ·have a8:i<32:=(by omega);refine⟨by omega,by omega,_,uV (i:=i) (by omega),?_⟩;refine⟨[],_,_,_,_,wy rfl rfl,rfl,rfl,?_⟩;refine⟨i+1,by omega,by omega,[],⟨?_,?_,rfl,rfl,c9 (by simp(disch:=omega)only[Za];omega),tq⟩,tq⟩
  ·rw[bj _ _ _ _ (by omega)];rfl
  ·rw[bj _ _ _ _ (by omega)];exact congrArg (vi .u32) (x5 _ _)
 ·obtain rfl:i=32:=(by omega);rw[<-hm',Zq];exact⟨_,rfl,[],rfl,tq⟩
def o7 (l:Bs):UInt32:=(L6 l).toUInt32
def o5 (l:Bs):UInt32:=(L6 l.reverse).toUInt32
def y8 (f:Bs->UInt32) (b:Bs) (k:Nat):List UInt32:=(List.range k).map fun i=>f (sub b (4*i) 4)
theorem O5 (f b k):(y8 f b k).length=k:=by simp[y8]
theorem qn (f b k):y8 f b (k+1)=y8 f b k++[f (sub b (4*k) 4)]:=by simp[y8,Zz]
theorem P2 {α:Type} (l:List α) (a i n:Nat):sub (l.drop a) i n=sub l (a+i) n:=by simp[sub]
theorem ET (l:Bs) (i:Nat):(bv l).drop i=bv (l.drop i):=by simp[bv,Kk]
theorem a0c (x:UInt32):[Value.int .u32 x.toNat]=wv [x]:=rfl
theorem G6 {α:Type} (l:List α) (i n:Nat) (h:n=l.length-i):sub l i n=l.drop i:=by subst h;simp[sub,Ks]
theorem N5 {l:List UInt32} {n:Nat} {x:UInt32} (h:l.length=n):sub (wv l) 0 n++[Value.int .u32 x.toNat]=wv (l++[x]):=by
 rw[y9 h,a0c,kn]
theorem nE {n m:Nat} {va:List Value} {b:Bs} (ha:va=bv b) (hn:b.length=n) (h4:n=4*m) (h0:0<m) (hm:n<=1073741824):a7 C 147 [.z n va,bool false] [] (.ret (.o 1 (.k 0) 0 m)) [.sc (wv (y8 o7 b m))]:=by
 subst ha;subst h4;refine yN.c ?_;refine A5 (fun i=>⟨[(0,.z (4*(m-i)) (bv (b.drop (4*i)))),(1,bool false),(5,.o 1 (.k 0) 0 i)],[.sc (wv (y8 o7 b i))]⟩) m [(5,1,.sc [])] ⟨[.d 900000 0],⟨rfl,rfl,rfl,tq⟩,⟨_,rfl,rfl⟩,tq⟩ fun i hi=> ?_;refine b8 (fun h=> ?_) (fun h=> ?_)
 ·have a8:i<m:=(by omega);refine⟨by omega,by omega,by omega,by omega,by omega,?_⟩;have e:sub (bv (b.drop (4*i))) 0 4=bv (sub b (4*i) 4):=by rw[k5,P2];rfl
  have el:(sub b (4*i) 4).length=4:=by rw[j5];omega
  refine⟨[],_,_,_,_,rE e el rfl,rfl,rfl,?_⟩;refine⟨Zp _,by omega,by rw[p8,O5];omega,?_⟩;refine⟨by omega,by omega,by omega,by omega,?_⟩;refine⟨i+1,by omega,by omega,[.d 29 0],⟨?_,rfl,rfl,tq⟩,⟨_,rfl,d8 ?_⟩,tq⟩
  ·show V.z (4*(m-i)-4) (sub _ 4 (4*(m-i)-4))=_;rw[k5,P2,G6 _ _ _ (by omega)];rw[show 4*(m-i)-4=4*(m-(i+1)) by omega,show 4*i+4=4*(i+1) by omega]
  ·rw[qn];exact N5 (by rw[O5];omega)
 ·obtain rfl:i=m:=(by omega);exact⟨_,rfl,[.k 0],rfl,⟨_,rfl,rfl⟩,tq⟩
theorem wQ {n m:Nat} {va:List Value} {b:Bs} (ha:va=bv b) (hn:b.length=n) (h4:n=4*m) (h0:0<m) (hm:n<=1073741824):a7 C 147 [.z n va,bool true] [] (.ret (.o 1 (.k 0) 0 m)) [.sc (wv (y8 o5 b m))]:=by
 subst ha;subst h4;refine yN.c ?_;refine A5 (fun i=>⟨[(0,.z (4*(m-i)) (bv (b.drop (4*i)))),(1,bool true),(5,.o 1 (.k 0) 0 i)],[.sc (wv (y8 o5 b i))]⟩) m [(5,1,.sc [])] ⟨[.d 900000 0],⟨rfl,rfl,rfl,tq⟩,⟨_,rfl,rfl⟩,tq⟩ fun i hi=> ?_;refine b8 (fun h=> ?_) (fun h=> ?_)
 ·have a8:i<m:=(by omega);refine⟨by omega,by omega,by omega,by omega,by omega,?_⟩;have e:sub (bv (b.drop (4*i))) 0 4=bv (sub b (4*i) 4):=by rw[k5,P2];rfl
  have el:(sub b (4*i) 4).length=4:=by rw[j5];omega
  refine⟨[],_,_,_,_,rE e el rfl,rfl,rfl,?_⟩;refine⟨by omega,by omega,by omega,by omega,by omega,?_⟩;refine⟨[],_,_,_,_,bT e el rfl,rfl,rfl,?_⟩;refine⟨Zp _,by omega,by rw[p8,O5];omega,?_⟩;refine⟨by omega,by omega,by omega,by omega,?_⟩;refine⟨i+1,by omega,by omega,[.d 29 0],⟨?_,rfl,rfl,tq⟩,⟨_,rfl,d8 ?_⟩,tq⟩
  ·show V.z (4*(m-i)-4) (sub _ 4 (4*(m-i)-4))=_;rw[k5,P2,G6 _ _ _ (by omega)];rw[show 4*(m-i)-4=4*(m-(i+1)) by omega,show 4*i+4=4*(i+1) by omega]
  ·rw[qn];exact N5 (by rw[O5];omega)
 ·obtain rfl:i=m:=(by omega);exact⟨_,rfl,[.k 0],rfl,⟨_,rfl,rfl⟩,tq⟩
theorem nL {n m:Nat} {va:List Value} {b:Bs} (ha:va=bv b) (hn:b.length=n) (h4:n=4*m) (h0:0<m) (hm:n<=1073741824):a7 C 115 [.z n va] [] (.ret (.o 1 (.k 0) 0 m)) [.sc (wv (y8 o7 b m))]:=by
 subst ha;subst h4;refine OA.c ?_;refine A5 (fun i=>⟨[(0,.z (4*m) (bv b)),(3,.o 1 (.k 0) 0 i),(4,i64 (4*i:Nat))],[.sc (wv (y8 o7 b i))]⟩) m [(3,1,.sc [])] ⟨[.d 900000 0],⟨rfl,rfl,rfl,tq⟩,⟨_,rfl,rfl⟩,tq⟩ fun i hi=> ?_;refine b8 (fun h=> ?_) (fun h=> ?_)
 ·have a8:i<m:=(by omega);refine⟨(by simp(disch:=omega)only[Za];omega),by omega,(by simp(disch:=omega)only[Za];omega),by omega,(by simp(disch:=omega)only[Za];omega),?_⟩;have e:(I6.wrap (((4*i:Nat):Int)+4)).toNat-(((4*i:Nat):Int)).toNat=4:=by simp only[IntKind.wrap_i64];omega
  rw[e,Zb];have el:(sub b (4*i) 4).length=4:=by rw[j5];omega
  refine⟨[],_,_,_,_,Ft (l:=sub b (4*i) 4) (k5 _ _ _) el (by decide),rfl,rfl,?_⟩;refine⟨Zp _,by omega,by rw[p8,O5];omega,?_⟩;refine⟨i+1,by omega,by omega,[.d 20 0],⟨rfl,rfl,c9 (by simp(disch:=omega)only[Za];omega),tq⟩,⟨_,rfl,d8 ?_⟩,tq⟩;rw[qn,kj];exact N5 (by rw[O5];omega)
 ·obtain rfl:i=m:=(by omega);exact⟨_,rfl,[.k 0],rfl,⟨_,rfl,rfl⟩,tq⟩
theorem xe {n m:Nat} {va:List Value} {b:Bs} (ha:va=bv b) (hn:b.length=n) (h4:n=4*m) (h0:0<m) (hm:n<=1073741824):a7 C 174 [.z n va] [] (.ret (.o 1 (.k 0) 0 m)) [.sc (wv (y8 o5 b m))]:=by
 subst ha;subst h4;refine OB.c ?_;refine A5 (fun i=>⟨[(0,.z (4*m) (bv b)),(3,.o 1 (.k 0) 0 i),(4,i64 (4*i:Nat))],[.sc (wv (y8 o5 b i))]⟩) m [(3,1,.sc [])] ⟨[.d 900000 0],⟨rfl,rfl,rfl,tq⟩,⟨_,rfl,rfl⟩,tq⟩ fun i hi=> ?_;refine b8 (fun h=> ?_) (fun h=> ?_)
 ·have a8:i<m:=(by omega);refine⟨(by simp(disch:=omega)only[Za];omega),by omega,(by simp(disch:=omega)only[Za];omega),by omega,(by simp(disch:=omega)only[Za];omega),?_⟩;have e:(I6.wrap (((4*i:Nat):Int)+4)).toNat-(((4*i:Nat):Int)).toNat=4:=by simp only[IntKind.wrap_i64];omega
  rw[e,Zb];have el:(sub b (4*i) 4).length=4:=by rw[j5];omega
  refine⟨[],_,_,_,_,dC (l:=sub b (4*i) 4) (k5 _ _ _) el (by decide),rfl,rfl,?_⟩;refine⟨Zp _,by omega,by rw[p8,O5];omega,?_⟩;refine⟨i+1,by omega,by omega,[.d 20 0],⟨rfl,rfl,c9 (by simp(disch:=omega)only[Za];omega),tq⟩,⟨_,rfl,d8 ?_⟩,tq⟩;rw[qn,kj];exact N5 (by rw[O5];omega)
 ·obtain rfl:i=m:=(by omega);exact⟨_,rfl,[.k 0],rfl,⟨_,rfl,rfl⟩,tq⟩
theorem ZD (a b:UInt32):((a.toNat:Int).tmod (b.toNat:Int))=((a%b).toNat:Int):=by
 rw[UInt32.toNat_mod,<-Int.ofNat_tmod]
theorem R4 (a:UInt32):((a.toNat:Int).tmod 32)=((a%32).toNat:Int):=ZD a 32
theorem dj (a:UInt32):(a%32).toNat<32:=by
 rw[UInt32.toNat_mod];exact Z4 _ (by decide)
theorem U2 (a b:Nat):((a:Int).tmod (b:Int))=((a%b:Nat):Int):=by rw[<-Int.ofNat_tmod]
theorem Y7 {C:j7} {rt:Rt} {m:Nat} {c:Code} {s:S} {K:X->S->Prop} (l:Nat) {p q:Code} (hs:G0 c l=some (p,q)) (n:Nat) (I:Nat->D) (h0:vc C rt m p s fun e s'=>match e with
   | .normal=>∃(l:List (Nat×Nat×B)) (y:Nat),y<n/\V9 l 0 s' fun s'=>Mt m s' (I y)
   | .goto l'=>l'=l/\∃y:Nat,y<n/\Mt m s' (I y)
   |e=>K e s') (h:∀i,i<n->vc C rt m q (I i).s fun e s'=>match e with
   | .goto l'=>l'=l/\∃y:Nat,y<n/\n-y<n-i/\Mt m s' (I y)
   |e=>K e s'):jU C rt m c s K:=
 ⟨l,Nat,I,fun x=>x<n,fun x=>n-x,by rw[hs];exact⟨h0,h⟩⟩
def gY:UInt32:=3084996963
def db (n:Nat):List UInt32:=(List.range n).map fun i=>gY+Zn i*D7
theorem me (n):(db n).length=n:=by simp[db]
theorem ze (n):db (n+1)=db n++[gY+Zn n*D7]:=by simp[db,Zz]
theorem Qd (n i) (h:i<n):(db n)[i]? =some (gY+Zn i*D7):=by simp[db,h]
theorem Qg (n:Nat):gY+Zn n*D7+D7=gY+Zn (n+1)*D7:=by
 rw[UInt32.add_assoc,UInt32.ofNat_add,UInt32.add_mul,show Zn 1*D7=D7 by decide]
abbrev GS:=List UInt32×List UInt32×UInt32×UInt32
def gA (i:Nat) (x:GS):UInt32:=A7 (x.1.getD (i%26) 0+x.2.2.1+x.2.2.2) 3
def gB (i:Nat) (x:GS):UInt32:=A7 (x.2.1.getD (i%4) 0+gA i x+x.2.2.2) ((gA i x+x.2.2.2)%32).toNat
def sU (x:GS) (i:Nat):GS:=(x.1.set (i%26) (gA i x),x.2.1.set (i%4) (gB i x),gA i x,gB i x)
def t3 (l:List UInt32) (n:Nat):GS:=(List.range n).foldl sU (db 26,l,0,0)
theorem bZ (l n):t3 l (n+1)=sU (t3 l n) n:=by simp[t3,Zz]
theorem mc (l n):(t3 l n).1.length=26/\(t3 l n).2.1.length=l.length:=by
 induction n with
 |zero=>exact⟨me 26,rfl⟩
 |succ n ih=>rw[bZ];simp[sU,ih]
theorem ax {x n:Int} {v:UInt32} {k:Nat} (hx:x=v.toNat) (hn:n%32=k) (hb: -9223372036854775808<=n/\n<=9223372036854775807):a7 C 138 [vi .u32 x,i64 n] [] (.ret (u32 (A7 v k))) []:=by
 have h:=xk hx hb;rw[hn]at h;exact h
theorem P5 {x n:Int} {v:UInt32} {k:Nat} (hx:x=v.toNat) (hn:n%32=k) (hb: -9223372036854775808<=n/\n<=9223372036854775807):a7 C 169 [vi .u32 x,i64 n] [] (.ret (u32 (A7 v k))) []:=by
 have h:=Hk hx hb;rw[hn]at h;exact h
theorem Gp {l:List UInt32} (hl:l.length=4):a7 C 148 [.o 1 (.k 0) 0 4] [.sc (wv l)] (.ret (.o 1 (.k 1) 0 26)) [.sc (wv (t3 l 78).2.1),.sc (wv (t3 l 78).1)]:=by
 refine Pb.c ?_;refine Y7 0 rfl 78 (fun i=>⟨[(0,.o 1 (.k 0) 0 4),(3,.o 1 (.k 1) 0 26),(4,u32 (t3 l i).2.2.1),(5,u32 (t3 l i).2.2.2),(6,i64 i)],[.sc (wv (t3 l i).2.1),.sc (wv (t3 l i).1)]⟩) ?_ fun i hi=> ?_
 ·refine j4 (fun i=>⟨[(0,.o 1 (.k 0) 0 4),(3,.o 1 (.k 1) 0 (i+1))],[.sc (wv l),.sc (wv (db (i+1)))]⟩) 25 ⟨[.k 0,.d 9 0],⟨rfl,rfl,tq⟩,⟨_,rfl,rfl⟩,⟨_,rfl,rfl⟩,tq⟩ fun i hi=> ?_;refine b8 (fun h=> ?_) (fun h=> ?_)
  ·have e:(I6.wrap (((i+1:Nat):Int)-1))=(i:Int):=by simp only[IntKind.wrap_i64];omega
   refine⟨by rw[e];omega,by rw[e];omega,?_⟩;refine⟨_,by rw[e,Zb,Zm,Zl];exact qo (Qd (i+1) i (by omega)),?_⟩;refine⟨Zp _,by omega,by rw[p8,me];omega,?_⟩;refine⟨i+1,by omega,by omega,[.k 0,.d 22 0],⟨rfl,rfl,tq⟩,⟨_,rfl,rfl⟩,⟨_,rfl,d8 ?_⟩,tq⟩;rw[ze (i+1),<-Qg,gu];exact N5 (by rw[me];omega)
  ·obtain rfl:i=25:=(by omega);exact⟨[],0,by omega,[.k 0,.k 1],⟨rfl,rfl,rfl,rfl,rfl,tq⟩,⟨_,rfl,rfl⟩,⟨_,rfl,rfl⟩,tq⟩
 ·obtain⟨l1,l2⟩:=mc l i;have e1:((i:Int).tmod 26)=((i%26:Nat):Int):=U2 i 26;have e2:((i:Int).tmod ((4:Nat):Int))=((i%4:Nat):Int):=U2 i 4;have b1:i%26<26:=Z4 _ (by omega);have b2:i%4<4:=Z4 _ (by omega);refine⟨by decide,by decide,?_⟩;refine⟨by rw[e1];omega,by rw[e1];omega,?_⟩;refine⟨_,by rw[e1,Zb,Zm,Zl];exact n8 (by omega),?_⟩;refine⟨[],_,_,_,_,ax (v:=(t3 l i).1.getD (i%26) 0+(t3 l i).2.2.1+(t3 l i).2.2.2) (k:=3) (by rw[p7,p7]) (by decide) (by decide),rfl,rfl,?_⟩;refine⟨by rw[e1];omega,by rw[e1];omega,by rw[e1,p8];omega,?_⟩;refine⟨by rw[e2];omega,by rw[e2];omega,?_⟩;refine⟨_,by rw[e2,Zb,Zm,Zl];exact n8 (by omega),?_⟩;refine⟨by decide,?_⟩;have e3:((U3.wrap (((gA i (t3 l i)).toNat:Int)+((t3 l i).2.2.2.toNat:Int))).tmod 32)=(((gA i (t3 l i)+(t3 l i).2.2.2)%32).toNat:Int):=by rw[p7,R4]
  have b3:=dj (gA i (t3 l i)+(t3 l i).2.2.2);refine⟨[],_,_,_,_,ax (v:=(t3 l i).2.1.getD (i%4) 0+gA i (t3 l i)+(t3 l i).2.2.2) (k:=((gA i (t3 l i)+(t3 l i).2.2.2)%32).toNat) (by rw[p7];exact p7 _ _) (by erw [e3];rw[N4];omega) (by erw [e3];rw[N4];omega),rfl,rfl,?_⟩;refine⟨by rw[e2];omega,by rw[e2];omega,by rw[e2,p8];omega,?_⟩;refine b8 (fun h=> ?_) (fun h=> ?_)
  ·refine⟨rfl,i+1,by simp only[IntKind.wrap_i64]at h;omega,by omega,[.k 0,.k 1],⟨rfl,rfl,?_,?_,c9 (by simp(disch:=omega)only[Za];omega),tq⟩,⟨_,rfl,d8 ?_⟩,⟨_,rfl,d8 ?_⟩,tq⟩
   ·rw[bZ];rfl
   ·rw[bZ];rfl
   ·rw[e2,Zb,Zm,Zl,aj,bZ];rfl
   ·rw[e1,Zb,Zm,Zl,aj,bZ];rfl
  ·have e78:78=i+1:=by simp only[IntKind.wrap_i64]at h;omega
   refine⟨_,rfl,[.k 0,.k 1],rfl,⟨_,rfl,d8 ?_⟩,⟨_,rfl,d8 ?_⟩,tq⟩
   ·rw[e2,Zb,Zm,Zl,aj,e78,bZ];rfl
   ·rw[e1,Zb,Zm,Zl,aj,e78,bZ];rfl
theorem DK {l:List UInt32} {i:Nat} {x:UInt32} (h:i<l.length):(wv (l.set i x))[i]? =some (.int .u32 x.toNat):=qo (by simp[h])
theorem HY {va:List Value} {key:Bs} (ha:va=bv key) (hk:key.length=16):a7 C 114 [.z 16 va] [] (.ret (.o 1 (.k 0) 0 26)) [.sc (wv (t3 (y8 o5 key 4) 78).1)]:=by
 refine OD.c ?_;refine⟨[],_,_,_,_,xe (m:=4) ha hk rfl (by decide) (by decide),rfl,rfl,?_⟩;have hl:(y8 o5 key 4).length=4:=O5 _ _ _;generalize y8 o5 key 4=l at hl ⊢;refine A5 (fun i=>⟨[(3,.o 1 (.k 0) 0 4),(4,.o 1 (.k 1) 0 i),(5,i64 i)],[.sc (wv l),.sc (wv (db i))]⟩) 26 [(4,1,.sc [])] ⟨[.d 10 0,.d 900000 0],⟨rfl,rfl,rfl,tq⟩,⟨_,rfl,rfl⟩,⟨_,rfl,rfl⟩,tq⟩ fun i hi=> ?_;refine b8 (fun h=> ?_) (fun h=> ?_)
 ·have a8:i<26:=(by omega);refine⟨Zp _,by omega,by rw[p8,me];omega,?_⟩;refine⟨i+1,by omega,by omega,[.k 0,.d 21 0],⟨rfl,rfl,c9 (by simp(disch:=omega)only[Za];omega),tq⟩,⟨_,rfl,rfl⟩,⟨_,rfl,d8 ?_⟩,tq⟩;have e:U3.wrap ((3084996963:Int)+U3.wrap (U3.wrap (i:Int)*2654435769))=((gY+Zn i*D7).toNat:Int):=by
   rw[Ai i,show(2654435769:Int)=((D7).toNat:Int) from rfl,iC,show(3084996963:Int)=((gY).toNat:Int) from rfl,p7]
  rw[ze,e];exact N5 (by rw[me,Zm])
 obtain rfl:i=26:=(by omega);refine j4 (fun i=>⟨[(3,.o 1 (.k 0) 0 4),(4,.o 1 (.k 1) 0 26),(6,u32 (t3 l i).2.2.1),(7,u32 (t3 l i).2.2.2),(8,i64 i)],[.sc (wv (t3 l i).2.1),.sc (wv (t3 l i).1)]⟩) 78 ⟨[.k 0,.k 1],⟨rfl,rfl,rfl,rfl,rfl,tq⟩,⟨_,rfl,rfl⟩,⟨_,rfl,rfl⟩,tq⟩ fun i hi=> ?_;refine b8 (fun h=> ?_) (fun h=> ?_)
 ·have a8:i<78:=(by omega);obtain⟨l1,l2⟩:=mc l i;have e1:((i:Int).tmod 26)=((i%26:Nat):Int):=U2 i 26;have e2:((i:Int).tmod 4)=((i%4:Nat):Int):=U2 i 4;have b1:i%26<26:=Z4 _ (by omega);have b2:i%4<4:=Z4 _ (by omega);refine⟨by decide,by decide,by rw[e1];omega,by rw[e1];omega,?_⟩;refine⟨_,by rw[e1,Zb,Zm,Zl];exact n8 (by omega),?_⟩;refine⟨[],_,_,_,_,P5 (v:=(t3 l i).1.getD (i%26) 0+(t3 l i).2.2.1+(t3 l i).2.2.2) (k:=3) (by rw[p7,p7]) (by decide) (by decide),rfl,rfl,?_⟩;refine⟨by rw[e1];omega,by rw[e1];omega,by rw[e1,p8];omega,?_⟩;refine⟨by decide,by rw[e1];omega,by rw[e1];omega,?_⟩;refine⟨_,by rw[e1,Zb,Zm,Zl,aj];exact DK (by omega),?_⟩;refine⟨by decide,by decide,by rw[e2];omega,by rw[e2];omega,?_⟩;refine⟨_,by rw[e2,Zb,Zm,Zl];exact n8 (by omega),?_⟩;refine⟨by decide,?_⟩;have e3:((U3.wrap (((gA i (t3 l i)).toNat:Int)+((t3 l i).2.2.2.toNat:Int))).tmod 32)=(((gA i (t3 l i)+(t3 l i).2.2.2)%32).toNat:Int):=by rw[p7,R4]
  have b3:=dj (gA i (t3 l i)+(t3 l i).2.2.2);refine⟨[],_,_,_,_,P5 (v:=(t3 l i).2.1.getD (i%4) 0+gA i (t3 l i)+(t3 l i).2.2.2) (k:=((gA i (t3 l i)+(t3 l i).2.2.2)%32).toNat) (by rw[p7];exact p7 _ _) (by erw [e3];rw[N4];omega) (by erw [e3];rw[N4];omega),rfl,rfl,?_⟩;refine⟨by rw[e2];omega,by rw[e2];omega,by rw[e2,p8];omega,?_⟩;refine⟨by decide,by rw[e2];omega,by rw[e2];omega,?_⟩;refine⟨_,by rw[e2,Zb,Zm,Zl,aj];exact DK (by omega),?_⟩;refine⟨i+1,by omega,by omega,[.k 0,.k 1],⟨rfl,rfl,?_,?_,c9 (by simp(disch:=omega)only[Za];omega),tq⟩,⟨_,rfl,d8 ?_⟩,⟨_,rfl,d8 ?_⟩,tq⟩
  ·rw[bZ];rfl
  ·rw[bZ];rfl
  ·rw[e2,Zb,Zm,Zl,aj,bZ];rfl
  ·rw[e1,Zb,Zm,Zl,aj,bZ];rfl
 ·have e78:i=78:=(by omega);rw[e78];exact⟨_,rfl,[.k 1],rfl,⟨_,rfl,rfl⟩,tq⟩
abbrev W2:=UInt32×UInt32
def rA (s:List UInt32) (r:Nat) (x:W2):UInt32:=A7 (x.1^^^x.2) (x.2%32).toNat+s.getD (2*r+2) 0
def gd (s:List UInt32) (x:W2) (r:Nat):W2:=(rA s r x,A7 (x.2^^^rA s r x) (rA s r x%32).toNat+s.getD (2*r+3) 0)
def rB (s:List UInt32) (r:Nat) (x:W2):UInt32:=A7 (x.2-s.getD (2*r+3) 0) ((32-(x.1%32).toNat)%32)^^^x.1
def ga (s:List UInt32) (x:W2) (r:Nat):W2:=(A7 (x.1-s.getD (2*r+2) 0) ((32-(rB s r x%32).toNat)%32)^^^rB s r x,rB s r x)
def z9 (s:List UInt32) (p:W2) (n:Nat):W2:=(List.range n).foldl (gd s) (p.1+s.getD 0 0,p.2+s.getD 1 0)
def B4 (s:List UInt32) (p:W2) (n:Nat):W2:=(List.range n).foldl (fun x r=>ga s x (11-r)) p
theorem pI (s p n):z9 s p (n+1)=gd s (z9 s p n) n:=by simp[z9,Zz]
theorem pH (s p n):B4 s p (n+1)=ga s (B4 s p n) (11-n):=by simp[B4,Zz]
theorem Il {tag x y:Int} {k:List UInt32} {v w:UInt32} (hk:k.length=26) (hx:x=v.toNat) (hy:y=w.toNat):a7 C 151 [P1 k tag,vi .u32 x,vi .u32 y,bool false] []
  (.ret (.t [u32 (z9 k (v,w) 12).1,u32 (z9 k (v,w) 12).2])) []:=by
 subst hx;subst hy;refine yL.c ?_;refine⟨_,rfl,?_⟩;refine⟨by decide,by omega,?_⟩;refine⟨_,n8 (i:=0) (by omega),?_⟩;refine⟨by decide,by omega,?_⟩;refine⟨_,n8 (i:=1) (by omega),?_⟩;refine j4 (fun i=>⟨[(1,u32 (z9 k (v,w) i).1),(2,u32 (z9 k (v,w) i).2),(10,wz k),(11,i64 (2*i+2:Nat))],[]⟩) 12 ⟨[],⟨congrArg (vi .u32) (p7 _ _),congrArg (vi .u32) (p7 _ _),rfl,rfl,tq⟩,tq⟩ fun i hi=> ?_;refine b8 (fun h=> ?_) (fun h=> ?_)
 ·have a8:i<12:=(by omega);have b1:=dj (z9 k (v,w) i).2;have b2:=dj (rA k i (z9 k (v,w) i));refine⟨by decide,?_⟩;refine⟨[],_,_,_,_,ax (v:=(z9 k (v,w) i).1^^^(z9 k (v,w) i).2) (k:=((z9 k (v,w) i).2%32).toNat) (x5 _ _) (by rw[R4,N4];omega) (by rw[R4,N4];omega),rfl,rfl,?_⟩;refine⟨by omega,by omega,?_⟩;refine⟨_,n8 (i:=2*i+2) (by omega),by decide,?_⟩;have e3:U3.wrap (((A7 ((z9 k (v,w) i).1^^^(z9 k (v,w) i).2) ((z9 k (v,w) i).2%32).toNat).toNat:Int)+((k.getD (2*i+2) 0).toNat:Int))=((rA k i (z9 k (v,w) i)).toNat:Int):=p7 _ _;have e4:(I6.wrap (((2*i+2:Nat):Int)+1)).toNat=2*i+3:=(by simp(disch:=omega)only[Za];omega);refine⟨[],_,_,_,_,ax (v:=(z9 k (v,w) i).2^^^rA k i (z9 k (v,w) i)) (k:=(rA k i (z9 k (v,w) i)%32).toNat) (by rw[e3,x5]) (by rw[e3,R4,N4];omega) (by rw[e3,R4,N4];omega),rfl,rfl,?_⟩;refine⟨by omega,by omega,?_⟩;refine⟨_,by rw[e4];exact n8 (i:=2*i+3) (by omega),?_⟩;refine⟨i+1,by omega,by omega,[],⟨?_,?_,rfl,c9 (by simp(disch:=omega)only[Za];omega),tq⟩,tq⟩
  ·rw[pI];exact congrArg (vi .u32) e3
  ·rw[pI];exact congrArg (vi .u32) (p7 _ _)
 ·obtain rfl:i=12:=(by omega);exact⟨_,rfl,[],rfl,tq⟩
theorem Ij {tag x y:Int} {k:List UInt32} {v w:UInt32} (hk:k.length=26) (hx:x=v.toNat) (hy:y=w.toNat):a7 C 151 [P1 k tag,vi .u32 x,vi .u32 y,bool true] []
  (.ret (.t [u32 ((B4 k (v,w) 12).1-k.getD 0 0),u32 ((B4 k (v,w) 12).2-k.getD 1 0)])) []:=by
 subst hx;subst hy;refine yL.c ?_;refine⟨_,rfl,?_⟩;refine j4 (fun i=>⟨[(1,u32 (B4 k (v,w) i).1),(2,u32 (B4 k (v,w) i).2),(10,wz k),(12,i64 (24-2*i))],[]⟩) 12 ⟨[],⟨rfl,rfl,rfl,rfl,tq⟩,tq⟩ fun i hi=> ?_;refine b8 (fun h=> ?_) (fun h=> ?_)
 ·have a8:i<12:=(by omega);have b1:=dj (B4 k (v,w) i).1;have b2:=dj (rB k (11-i) (B4 k (v,w) i));have e4:(I6.wrap ((24:Int)-2*i+1)).toNat=2*(11-i)+3:=(by simp(disch:=omega)only[Za];omega);have e5:((24:Int)-2*i).toNat=2*(11-i)+2:=(by omega);refine⟨by omega,by omega,?_⟩;refine⟨_,by rw[e4];exact n8 (i:=2*(11-i)+3) (by omega),?_⟩;refine⟨by decide,?_⟩;refine⟨[],_,_,_,_,ax (v:=(B4 k (v,w) i).2-k.getD (2*(11-i)+3) 0) (k:=(32-((B4 k (v,w) i).1%32).toNat)%32) (X4 _ _) (by rw[R4,N4];simp only[IntKind.wrap_i64];omega) (by rw[R4,N4];simp only[IntKind.wrap_i64];omega),rfl,rfl,?_⟩;have e3:U3.wrap ((Zc U3.bits ((A7 ((B4 k (v,w) i).2-k.getD (2*(11-i)+3) 0) ((32-((B4 k (v,w) i).1%32).toNat)%32)).toNat:Int)^^^Zc U3.bits ((B4 k (v,w) i).1.toNat:Int)).toNat:Int)=((rB k (11-i) (B4 k (v,w) i)).toNat:Int):=x5 _ _;refine⟨by omega,by omega,?_⟩;refine⟨_,by rw[e5];exact n8 (i:=2*(11-i)+2) (by omega),?_⟩;refine⟨by decide,?_⟩;refine⟨[],_,_,_,_,ax (v:=(B4 k (v,w) i).1-k.getD (2*(11-i)+2) 0) (k:=(32-(rB k (11-i) (B4 k (v,w) i)%32).toNat)%32) (X4 _ _) (by rw[e3,R4,N4];simp only[IntKind.wrap_i64];omega) (by rw[e3,R4,N4];simp only[IntKind.wrap_i64];omega),rfl,rfl,?_⟩;refine⟨i+1,by omega,by omega,[],⟨?_,?_,rfl,c9 (by simp(disch:=omega)only[Za];omega),tq⟩,tq⟩
  ·rw[pH,e3];exact congrArg (vi .u32) (x5 _ _)
  ·rw[pH];exact congrArg (vi .u32) e3
 ·obtain rfl:i=12:=(by omega);refine⟨by decide,by omega,?_⟩;refine⟨_,n8 (i:=0) (by omega),?_⟩;refine⟨by decide,by omega,?_⟩;refine⟨_,n8 (i:=1) (by omega),?_⟩;refine⟨_,rfl,[],?_,tq⟩;show V.t [vi .u32 _,vi .u32 _]=_;rw[X4,X4]
theorem HW {tag x y:Int} {k:List UInt32} {v w:UInt32} (hk:k.length=26) (hx:x=v.toNat) (hy:y=w.toNat):a7 C 216 [F9 k tag,vi .u32 x,vi .u32 y,bool false] []
  (.ret (.t [u32 (z9 k (v,w) 12).1,u32 (z9 k (v,w) 12).2])) []:=by
 subst hx;subst hy;refine yD.c ?_;refine⟨_,rfl,by decide,by omega,?_⟩;refine⟨_,n8 (i:=0) (by omega),?_⟩;refine⟨_,rfl,by decide,by omega,?_⟩;refine⟨_,n8 (i:=1) (by omega),?_⟩;refine j4 (fun i=>⟨[(0,F9 k tag),(1,u32 (z9 k (v,w) i).1),(2,u32 (z9 k (v,w) i).2),(10,i64 (i+1:Nat))],[]⟩) 12 ⟨[],⟨rfl,congrArg (vi .u32) (p7 _ _),congrArg (vi .u32) (p7 _ _),rfl,tq⟩,tq⟩ fun i hi=> ?_;refine b8 (fun h=> ?_) (fun h=> ?_)
 ·have a8:i<12:=(by omega);have b1:=dj (z9 k (v,w) i).2;have b2:=dj (rA k i (z9 k (v,w) i));have e4:(I6.wrap (2*((i+1:Nat):Int))).toNat=2*i+2:=(by simp(disch:=omega)only[Za];omega);have e5:(I6.wrap (I6.wrap (2*((i+1:Nat):Int))+1)).toNat=2*i+3:=(by simp(disch:=omega)only[Za];omega);refine⟨by decide,?_⟩;refine⟨[],_,_,_,_,P5 (v:=(z9 k (v,w) i).1^^^(z9 k (v,w) i).2) (k:=((z9 k (v,w) i).2%32).toNat) (x5 _ _) (by rw[R4,N4];omega) (by rw[R4,N4];omega),rfl,rfl,?_⟩;refine⟨_,rfl,by omega,by omega,?_⟩;refine⟨_,by rw[e4];exact n8 (i:=2*i+2) (by omega),?_⟩;refine⟨by decide,?_⟩;have e3:U3.wrap (((A7 ((z9 k (v,w) i).1^^^(z9 k (v,w) i).2) ((z9 k (v,w) i).2%32).toNat).toNat:Int)+((k.getD (2*i+2) 0).toNat:Int))=((rA k i (z9 k (v,w) i)).toNat:Int):=p7 _ _;refine⟨[],_,_,_,_,P5 (v:=(z9 k (v,w) i).2^^^rA k i (z9 k (v,w) i)) (k:=(rA k i (z9 k (v,w) i)%32).toNat) (by rw[e3,x5]) (by rw[e3,R4,N4];omega) (by rw[e3,R4,N4];omega),rfl,rfl,?_⟩;refine⟨_,rfl,by omega,by omega,?_⟩;refine⟨_,by rw[e5];exact n8 (i:=2*i+3) (by omega),?_⟩;refine⟨i+1,by omega,by omega,[],⟨rfl,?_,?_,c9 (by simp(disch:=omega)only[Za];omega),tq⟩,tq⟩
  ·rw[pI];exact congrArg (vi .u32) e3
  ·rw[pI];exact congrArg (vi .u32) (p7 _ _)
 ·obtain rfl:i=12:=(by omega);exact⟨_,rfl,[],rfl,tq⟩
theorem HV {tag x y:Int} {k:List UInt32} {v w:UInt32} (hk:k.length=26) (hx:x=v.toNat) (hy:y=w.toNat):a7 C 216 [F9 k tag,vi .u32 x,vi .u32 y,bool true] []
  (.ret (.t [u32 ((B4 k (v,w) 12).1-k.getD 0 0),u32 ((B4 k (v,w) 12).2-k.getD 1 0)])) []:=by
 subst hx;subst hy;refine yD.c ?_;refine j4 (fun i=>⟨[(0,F9 k tag),(1,u32 (B4 k (v,w) i).1),(2,u32 (B4 k (v,w) i).2),(11,i64 (12-i))],[]⟩) 12 ⟨[],⟨rfl,rfl,rfl,rfl,tq⟩,tq⟩ fun i hi=> ?_;refine b8 (fun h=> ?_) (fun h=> ?_)
 ·have a8:i<12:=(by omega);have b1:=dj (B4 k (v,w) i).1;have b2:=dj (rB k (11-i) (B4 k (v,w) i));have e4:(I6.wrap (I6.wrap (2*((12:Int)-i))+1)).toNat=2*(11-i)+3:=(by simp(disch:=omega)only[Za];omega);have e5:(I6.wrap (2*((12:Int)-i))).toNat=2*(11-i)+2:=(by simp(disch:=omega)only[Za];omega);refine⟨_,rfl,by omega,by omega,?_⟩;refine⟨_,by rw[e4];exact n8 (i:=2*(11-i)+3) (by omega),?_⟩;refine⟨by decide,?_⟩;refine⟨[],_,_,_,_,P5 (v:=(B4 k (v,w) i).2-k.getD (2*(11-i)+3) 0) (k:=(32-((B4 k (v,w) i).1%32).toNat)%32) (X4 _ _) (by rw[R4,N4];simp only[IntKind.wrap_i64];omega) (by rw[R4,N4];simp only[IntKind.wrap_i64];omega),rfl,rfl,?_⟩;have e3:U3.wrap ((Zc U3.bits ((A7 ((B4 k (v,w) i).2-k.getD (2*(11-i)+3) 0) ((32-((B4 k (v,w) i).1%32).toNat)%32)).toNat:Int)^^^Zc U3.bits ((B4 k (v,w) i).1.toNat:Int)).toNat:Int)=((rB k (11-i) (B4 k (v,w) i)).toNat:Int):=x5 _ _;refine⟨_,rfl,by omega,by omega,?_⟩;refine⟨_,by rw[e5];exact n8 (i:=2*(11-i)+2) (by omega),?_⟩;refine⟨by decide,?_⟩;refine⟨[],_,_,_,_,P5 (v:=(B4 k (v,w) i).1-k.getD (2*(11-i)+2) 0) (k:=(32-(rB k (11-i) (B4 k (v,w) i)%32).toNat)%32) (X4 _ _) (by rw[e3,R4,N4];simp only[IntKind.wrap_i64];omega) (by rw[e3,R4,N4];simp only[IntKind.wrap_i64];omega),rfl,rfl,?_⟩;refine⟨i+1,by omega,by omega,[],⟨rfl,?_,?_,c9 (by simp(disch:=omega)only[Za];omega),tq⟩,tq⟩
  ·rw[pH,e3];exact congrArg (vi .u32) (x5 _ _)
  ·rw[pH];exact congrArg (vi .u32) e3
 ·obtain rfl:i=12:=(by omega);refine⟨_,rfl,by decide,by omega,?_⟩;refine⟨_,n8 (i:=0) (by omega),?_⟩;refine⟨_,rfl,by decide,by omega,?_⟩;refine⟨_,n8 (i:=1) (by omega),?_⟩;refine⟨_,rfl,[],?_,tq⟩;show V.t [vi .u32 _,vi .u32 _]=_;rw[X4,X4]
theorem nq {l:Bs} {x:V} {j:Nat} {i:Int} (hx:x=G5 l) (hi:i=j) (hj:j<l.length) (hd:dc (l.getD j 48)=true):a7 C 269 [x,i64 i] [] (.ret (i64 (O1 (l.getD j 48)))) []:=by
 subst hx;subst hi;refine NX.c ?_;refine⟨by omega,?_,?_⟩
 ·show((j:Int))<(((l.toArray).size:Nat):Int);simp only[List.size_toArray];omega
 refine⟨_,by rw[Zb];exact mI hj,?_⟩;refine⟨[],_,_,_,_,Gh rfl hd,rfl,rfl,?_⟩;exact⟨_,rfl,[],rfl,tq⟩
theorem HX {j:Nat} {i:Int} (hi:i=j) (hj:j<8):a7 C 273 [i64 i] [] (.ret (G5 (aD.getD j []))) []:=by
 subst hi;refine OC.c ?_;refine⟨by omega,by omega,?_⟩;refine⟨.string ⟨(aD.getD j []).toArray⟩,?_,?_⟩
 ·rw[Zb,Zm,Zl];show(aD.map fun l=>Value.string ⟨l.toArray⟩)[j]? =_;have:j<aD.length:=hj;simp[this]
 ·exact⟨_,rfl,[],rfl,tq⟩
theorem nK {a b:Int} {x k:UInt32} (ha:a=x.toNat) (hb:b=k.toNat):a7 C 261 [vi .u32 a,vi .u32 b] [] (.ret (u32 (mG x k))) []:=by
 subst ha;subst hb;refine Oy.c ?_;refine j4 (fun i=>⟨[(0,u32 (x+k)),(5,u32 ((List.range i).foldl (fun o i=>o|||tC (x+k) i) 0)),(6,i64 i)],[]⟩) 8 ⟨[],⟨congrArg (vi .u32) (p7 _ _),rfl,rfl,tq⟩,tq⟩ fun i hi=> ?_;refine b8 (fun h=> ?_) (fun h=> ?_)
 ·have a8:i<8:=(by omega);have e4:U6.wrap (I6.wrap (4*(i:Int)))=((4*i:Nat):Int):=by simp only[IntKind.wrap_i64,B5];omega
  have e5:((x+k).toNat:Int).fdiv (2^(min (((4*i:Nat):Int)).toNat U3.bits))=(((x+k)>>>Zn (4*i)).toNat:Int):=by
   rw[X3 _ _ (by omega) (by omega),Zb]
  have e6:U3.wrap ((Zc U3.bits ((((x+k)>>>Zn (4*i)).toNat:Nat):Int)&&&Zc U3.bits 15).toNat:Int)=(((x+k)>>>Zn (4*i)&&&15).toNat:Int):=uK _ 15;have b:=vU ((x+k)>>>Zn (4*i));have hl:=zQ i a8;refine⟨[],_,_,_,_,HX (j:=i) rfl a8,rfl,rfl,?_⟩;refine⟨by rw[e4];omega,?_⟩;refine⟨[],_,_,_,_,nq (j:=((x+k)>>>Zn (4*i)&&&15).toNat) rfl (by rw[e4,e5,e6,N4]) (by omega) (zO i a8 _ b),rfl,rfl,?_⟩;refine⟨by rw[e4];omega,?_⟩;refine⟨i+1,a8,by omega,[],⟨rfl,congrArg (vi .u32) ?_,c9 (by simp(disch:=omega)only[Za];omega),tq⟩,tq⟩;rw[e4,Ai (O1 _),ki _ _ (by omega) (by omega),qc,Zz,J4,Zb];rfl
 ·obtain rfl:i=8:=(by omega);refine⟨[],_,_,_,_,P5 (k:=11) rfl (by decide) (by decide),rfl,rfl,?_⟩;exact⟨_,rfl,[],rfl,tq⟩
theorem zN {k:List UInt32} (hk:k.length=8) {n:Nat} (hn:n<32):(A6 k)[n]? =some (k.getD (if 24<=n then 31-n else n%8) 0):=by
 unfold A6;have g:∀j,j<8->k[j]? =some (k.getD j 0):=fun j hj=>by rw[Zd,Zf (by omega)];rfl
 by_cases h1:n<8
 ·rw[Jf,Jf,Ja (by omega),if_neg (by omega),g n h1,Zh h1]
 by_cases h2:n<16
 ·rw[Jf,Jf,Z7 (by omega),Ja (by omega),if_neg (by omega),g _ (by omega),hk];congr 2;omega
 by_cases h3:n<24
 ·rw[Ja (by simp;omega),Z7 (by simp;omega),if_neg (by omega),g _ (by simp;omega)];congr 2;simp;omega
 ·rw[Z7 (by simp;omega),if_pos (by omega),Ky (by simp;omega),g _ (by simp;omega)];congr 2;simp;omega
theorem HQ {tag x y:Int} {k:List UInt32} {v w:UInt32} (hk:k.length=8) (hx:x=v.toNat) (hy:y=w.toNat):a7 C 218 [F9 k tag,vi .u32 x,vi .u32 y,bool false] []
  (.ret (.t [u32 (aE (A6 k) v w).1,u32 (aE (A6 k) v w).2])) []:=by
 subst hx;subst hy;refine yC.c ?_;have hm:(A6 k).length=32:=by simp[A6,hk]
 refine j4 (fun i=>⟨[(0,F9 k tag),(1,u32 ((((A6 k).take i).foldl O9 (v,w)).1)),(2,u32 ((((A6 k).take i).foldl O9 (v,w)).2)),(3,bool false),(10,i64 i)],[]⟩) 32 ⟨[],⟨rfl,rfl,rfl,rfl,rfl,tq⟩,tq⟩ fun i hi=> ?_;refine b8 (fun h=> ?_) (fun h=> ?_)
 ·have a8:i<32:=(by omega);have eg:=zN hk a8;have gi:(A6 k)[i]'(by omega)=k.getD (if 24<=i then 31-i else i%8) 0:=by
   rw[Zf (by omega)]at eg;exact Option.some.inj eg
  have e8:((i:Int).tmod 8)=((i%8:Nat):Int):=U2 i 8;refine⟨by decide,?_⟩;refine b8 (fun h24=> ?_) (fun h24=> ?_)
  ·have e:(I6.wrap (31-(i:Int))).toNat=31-i:=(by simp(disch:=omega)only[Za];omega);refine⟨_,rfl,(by simp(disch:=omega)only[Za];omega),by omega,?_⟩;refine⟨_,by rw[e];exact n8 (i:=31-i) (by omega),?_⟩;refine⟨[],_,_,_,_,nK rfl rfl,rfl,rfl,?_⟩;refine⟨i+1,by omega,by omega,[],⟨rfl,?_,?_,rfl,c9 (by simp(disch:=omega)only[Za];omega),tq⟩,tq⟩
   ·rw[bj _ _ _ _ (by omega)];rfl
   ·rw[bj _ _ _ _ (by omega),gi,if_pos (by omega)];exact congrArg (vi .u32) (x5 _ _)
  ·refine⟨_,rfl,by rw[e8];omega,by rw[e8];omega,?_⟩;refine⟨_,by rw[e8,Zb];exact n8 (i:=i%8) (by omega),?_⟩;refine⟨[],_,_,_,_,nK rfl rfl,rfl,rfl,?_⟩;refine⟨i+1,by omega,by omega,[],⟨rfl,?_,?_,rfl,c9 (by simp(disch:=omega)only[Za];omega),tq⟩,tq⟩
   ·rw[bj _ _ _ _ (by omega)];rfl
   ·rw[bj _ _ _ _ (by omega),gi,if_neg (by omega)];exact congrArg (vi .u32) (x5 _ _)
 ·obtain rfl:i=32:=(by omega);rw[<-hm,Zq];exact⟨_,rfl,[],rfl,tq⟩
theorem HR {tag x y:Int} {k:List UInt32} {v w:UInt32} (hk:k.length=8) (hx:x=v.toNat) (hy:y=w.toNat):a7 C 218 [F9 k tag,vi .u32 x,vi .u32 y,bool true] []
  (.ret (.t [u32 (aE (A6 k).reverse v w).1,u32 (aE (A6 k).reverse v w).2])) []:=by
 subst hx;subst hy;refine yC.c ?_;have hm:(A6 k).reverse.length=32:=by simp[A6,hk]
 refine j4 (fun i=>⟨[(0,F9 k tag),(1,u32 ((((A6 k).reverse.take i).foldl O9 (v,w)).1)),(2,u32 ((((A6 k).reverse.take i).foldl O9 (v,w)).2)),(3,bool true),(10,i64 i)],[]⟩) 32 ⟨[],⟨rfl,rfl,rfl,rfl,rfl,tq⟩,tq⟩ fun i hi=> ?_;refine b8 (fun h=> ?_) (fun h=> ?_)
 ·have a8:i<32:=(by omega);have eg:=zN hk (n:=31-i) (by omega);have gi:(A6 k).reverse[i]'(by omega)=k.getD (if 24<=31-i then 31-(31-i)else (31-i)%8) 0:=by
   rw[Zf (by simp at hm;omega)]at eg;rw[Js,<-Option.some.inj eg];congr 1;simp at hm;omega
  have e8:((I6.wrap (31-(i:Int))).tmod 8)=(((31-i)%8:Nat):Int):=by
   rw[show I6.wrap (31-(i:Int))=((31-i:Nat):Int) from (by simp(disch:=omega)only[Za];omega)];exact U2 _ 8
  have e31:I6.wrap (31-(i:Int))=((31-i:Nat):Int):=(by simp(disch:=omega)only[Za];omega);refine⟨by decide,?_⟩;refine b8 (fun h24=> ?_) (fun h24=> ?_)
  ·have e:(I6.wrap (31-I6.wrap (31-(i:Int)))).toNat=31-(31-i):=(by simp(disch:=omega)only[Za];omega);rw[e31]at h24;refine⟨_,rfl,(by simp(disch:=omega)only[Za];omega),by omega,?_⟩;refine⟨_,by rw[e];exact n8 (i:=31-(31-i)) (by omega),?_⟩;refine⟨[],_,_,_,_,nK rfl rfl,rfl,rfl,?_⟩;refine⟨i+1,by omega,by omega,[],⟨rfl,?_,?_,rfl,c9 (by simp(disch:=omega)only[Za];omega),tq⟩,tq⟩
   ·rw[bj _ _ _ _ (by omega)];rfl
   ·rw[bj _ _ _ _ (by omega),gi,if_pos (by omega)];exact congrArg (vi .u32) (x5 _ _)
  ·rw[e31]at h24;refine⟨_,rfl,by rw[e8];omega,by rw[e8];omega,?_⟩;refine⟨_,by rw[e8,Zb];exact n8 (i:=(31-i)%8) (by omega),?_⟩;refine⟨[],_,_,_,_,nK rfl rfl,rfl,rfl,?_⟩;refine⟨i+1,by omega,by omega,[],⟨rfl,?_,?_,rfl,c9 (by simp(disch:=omega)only[Za];omega),tq⟩,tq⟩
   ·rw[bj _ _ _ _ (by omega)];rfl
   ·rw[bj _ _ _ _ (by omega),gi,if_neg (by omega)];exact congrArg (vi .u32) (x5 _ _)
 ·obtain rfl:i=32:=(by omega);rw[<-hm,Zq];exact⟨_,rfl,[],rfl,tq⟩
def L7 (v:UInt32):Bs:=m5 v.toUInt64 4
def m9 (v:UInt32):Bs:=(m5 v.toUInt64 4).reverse
theorem fW (v):(L7 v).length=4:=s3 _ _
theorem C4 (v):(m9 v).length=4:=by simp[m9,s3]
abbrev g8:V:= .s (.slice none 0 0)
abbrev y4 (n:Nat):Oc:= .ret (.t [.o 1 (.k 0) 0 n,i64 0])
abbrev P3:Oc:= .ret (.t [g8,i64 1])
theorem xx {x y:Int} {v w:UInt32} (hx:x=v.toNat) (hy:y=w.toNat):a7 C 152 [vi .u32 x,vi .u32 y,bool false] [] (.ret (.o 1 (.k 0) 0 8)) [.sc (bv (L7 v++L7 w))]:=by
 subst hx;subst hy;refine yO.c ?_;refine⟨[],_,_,_,_,rR rfl,rfl,rfl,?_⟩;refine⟨[],_,_,_,_,rR rfl,rfl,rfl,?_⟩;refine⟨[],_,_,_,_,R7 (ls:=[L7 v,L7 w]) (t:=L7 v++L7 w) (by simp) ?_ rfl (by simp[fW]) (by simp[fW]),rfl,rfl,?_⟩
 ·show[V.z _ _,V.z _ _]=_;rw[b9 (s3 _ _),b9 (s3 _ _)];simp[L7,s3]
 refine⟨_,rfl,[.d 19 0],?_,⟨_,rfl,rfl⟩,tq⟩;show V.o 1 (.k 0) 0 _=_;rw[Ze,fW,fW]
theorem IP {x y:Int} {v w:UInt32} (hx:x=v.toNat) (hy:y=w.toNat):a7 C 152 [vi .u32 x,vi .u32 y,bool true] [] (.ret (.o 1 (.k 0) 0 8)) [.sc (bv (m9 v++m9 w))]:=by
 subst hx;subst hy;refine yO.c ?_;refine⟨[],_,_,_,_,jf rfl,rfl,rfl,?_⟩;refine⟨[],_,_,_,_,jf rfl,rfl,rfl,?_⟩;refine⟨[],_,_,_,_,R7 (ls:=[m9 v,m9 w]) (t:=m9 v++m9 w) (by simp) ?_ rfl (by simp[C4]) (by simp[C4]),rfl,rfl,?_⟩
 ·show[V.z _ _,V.z _ _]=_;rw[show (m5 v.toUInt64 4).reverse=m9 v from rfl,show(m5 w.toUInt64 4).reverse=m9 w from rfl,b9 (C4 _),b9 (C4 _)];simp[m9,s3]
 refine⟨_,rfl,[.d 13 0],?_,⟨_,rfl,rfl⟩,tq⟩;show V.o 1 (.k 0) 0 _=_;rw[Ze,C4,C4]
theorem Fy {va:List Value} {k:List UInt32} {b:Bs} {back:Bool} {r:W2} (ha:va=bv b) (hb:b.length=8) (hf:a7 C 149 [P1 k 4,u32 (o7 (sub b 0 4)),u32 (o7 (sub b 4 4)),bool back] [] (.ret (.t [u32 r.1,u32 r.2])) []):a7 C 87 [P1 k 4,.z 8 va,bool back] [] (y4 8) [.sc (bv (L7 r.1++L7 r.2))]:=by
 refine oH.c ?_;refine⟨_,rfl,?_⟩;refine⟨[],_,_,_,_,nE (m:=2) ha hb rfl (by decide) (by decide),rfl,rfl,?_⟩;refine⟨by decide,by decide,_,rfl,by decide,by decide,_,rfl,_,rfl,?_⟩;refine⟨[],_,_,_,_,hf,rfl,rfl,?_⟩;refine⟨[],_,_,_,_,xx rfl rfl,rfl,rfl,?_⟩;exact⟨_,rfl,[.d 66 0],rfl,⟨_,rfl,rfl⟩,tq⟩
theorem Fv {va:List Value} {k:List UInt32} {b:Bs} {back:Bool} {r:W2} (ha:va=bv b) (hb:b.length=8) (hf:a7 C 150 [P1 k 5,u32 (o7 (sub b 0 4)),u32 (o7 (sub b 4 4)),bool back] [] (.ret (.t [u32 r.1,u32 r.2])) []):a7 C 87 [P1 k 5,.z 8 va,bool back] [] (y4 8) [.sc (bv (L7 r.1++L7 r.2))]:=by
 refine oH.c ?_;refine⟨_,rfl,?_⟩;refine⟨[],_,_,_,_,nE (m:=2) ha hb rfl (by decide) (by decide),rfl,rfl,?_⟩;refine⟨by decide,by decide,_,rfl,by decide,by decide,_,rfl,_,rfl,?_⟩;refine⟨[],_,_,_,_,hf,rfl,rfl,?_⟩;refine⟨[],_,_,_,_,xx rfl rfl,rfl,rfl,?_⟩;exact⟨_,rfl,[.d 66 0],rfl,⟨_,rfl,rfl⟩,tq⟩
theorem Fw {va:List Value} {k:List UInt32} {b:Bs} {back:Bool} {r:W2} (ha:va=bv b) (hb:b.length=8) (hf:a7 C 151 [P1 k 8,u32 (o5 (sub b 0 4)),u32 (o5 (sub b 4 4)),bool back] [] (.ret (.t [u32 r.1,u32 r.2])) []):a7 C 87 [P1 k 8,.z 8 va,bool back] [] (y4 8) [.sc (bv (m9 r.1++m9 r.2))]:=by
 refine oH.c ?_;refine⟨_,rfl,?_⟩;refine⟨[],_,_,_,_,wQ (m:=2) ha hb rfl (by decide) (by decide),rfl,rfl,?_⟩;refine⟨by decide,by decide,_,rfl,by decide,by decide,_,rfl,_,rfl,?_⟩;refine⟨[],_,_,_,_,hf,rfl,rfl,?_⟩;refine⟨[],_,_,_,_,IP rfl rfl,rfl,rfl,?_⟩;exact⟨_,rfl,[.d 66 0],rfl,⟨_,rfl,rfl⟩,tq⟩
theorem rF {va:List Value} {k:List UInt32} {tag:Int} {n:Nat} {back:Bool} (hn:n≠8):a7 C 87 [P1 k tag,.z n va,bool back] [] P3 []:=by
 refine oH.c ?_;refine n7 (fun h=> ?_) (fun h=>absurd (by omega) hn);exact⟨_,rfl,[],rfl,tq⟩
theorem HP {va:List Value} {k:List UInt32} {b:Bs} {back:Bool} {r:W2} (ha:va=bv b) (hb:b.length=8) (hf:a7 C 217 [F9 k 4,u32 (o7 (sub b 0 4)),u32 (o7 (sub b 4 4)),bool back] [] (.ret (.t [u32 r.1,u32 r.2])) []):a7 C 157 [F9 k 4,.z 8 va,bool back] [] (y4 8) [.sc (bv (L7 r.1++L7 r.2))]:=by
 refine oE.c ?_;refine⟨_,rfl,?_⟩;refine⟨[],_,_,_,_,nL (m:=2) ha hb rfl (by decide) (by decide),rfl,rfl,?_⟩;refine⟨by decide,by decide,_,rfl,by decide,by decide,_,rfl,_,rfl,?_⟩;refine⟨[],_,_,_,_,hf,rfl,rfl,?_⟩;refine⟨[],_,_,_,_,jg rfl,rfl,rfl,?_⟩;refine⟨[],_,_,_,_,jg rfl,rfl,rfl,?_⟩;refine⟨by simp[s3,f9,G9,p8,Ze,Zj,Zu,Zv,Zx,Zs,Zw,j5,Zi,Zy,Zo],by decide,by simp[s3,f9,G9,p8,Ze,Zj,Zu,Zv,Zx,Zs,Zw,j5,Zi,Zy,Zo],?_⟩;refine⟨_,rfl,[.d 74 0],rfl,⟨_,rfl,d8 ?_⟩,tq⟩;rw[b9 (s3 _ _),b9 (s3 _ _),z5];rfl
theorem HJ {va:List Value} {k:List UInt32} {b:Bs} {back:Bool} {r:W2} (ha:va=bv b) (hb:b.length=8) (hf:a7 C 218 [F9 k 5,u32 (o7 (sub b 0 4)),u32 (o7 (sub b 4 4)),bool back] [] (.ret (.t [u32 r.1,u32 r.2])) []):a7 C 157 [F9 k 5,.z 8 va,bool back] [] (y4 8) [.sc (bv (L7 r.1++L7 r.2))]:=by
 refine oE.c ?_;refine⟨_,rfl,?_⟩;refine⟨[],_,_,_,_,nL (m:=2) ha hb rfl (by decide) (by decide),rfl,rfl,?_⟩;refine⟨by decide,by decide,_,rfl,by decide,by decide,_,rfl,_,rfl,?_⟩;refine⟨[],_,_,_,_,hf,rfl,rfl,?_⟩;refine⟨[],_,_,_,_,jg rfl,rfl,rfl,?_⟩;refine⟨[],_,_,_,_,jg rfl,rfl,rfl,?_⟩;refine⟨by simp[s3,f9,G9,p8,Ze,Zj,Zu,Zv,Zx,Zs,Zw,j5,Zi,Zy,Zo],by decide,by simp[s3,f9,G9,p8,Ze,Zj,Zu,Zv,Zx,Zs,Zw,j5,Zi,Zy,Zo],?_⟩;refine⟨_,rfl,[.d 74 0],rfl,⟨_,rfl,d8 ?_⟩,tq⟩;rw[b9 (s3 _ _),b9 (s3 _ _),z5];rfl
theorem HM {va:List Value} {k:List UInt32} {b:Bs} {back:Bool} {r:W2} (ha:va=bv b) (hb:b.length=8) (hf:a7 C 216 [F9 k 8,u32 (o5 (sub b 0 4)),u32 (o5 (sub b 4 4)),bool back] [] (.ret (.t [u32 r.1,u32 r.2])) []):a7 C 157 [F9 k 8,.z 8 va,bool back] [] (y4 8) [.sc (bv (m9 r.1++m9 r.2))]:=by
 refine oE.c ?_;refine⟨_,rfl,?_⟩;refine⟨[],_,_,_,_,xe (m:=2) ha hb rfl (by decide) (by decide),rfl,rfl,?_⟩;refine⟨by decide,by decide,_,rfl,by decide,by decide,_,rfl,?_⟩;refine⟨[],_,_,_,_,hf,rfl,rfl,?_⟩;refine⟨[],_,_,_,_,nG rfl,rfl,rfl,?_⟩;refine⟨[],_,_,_,_,nG rfl,rfl,rfl,?_⟩;refine⟨by simp[s3,f9,G9,p8,Ze,Zj,Zu,Zv,Zx,Zs,Zw,j5,Zi,Zy,Zo],by decide,by simp[s3,f9,G9,p8,Ze,Zj,Zu,Zv,Zx,Zs,Zw,j5,Zi,Zy,Zo],?_⟩;refine⟨_,rfl,[.d 40 0],rfl,⟨_,rfl,d8 ?_⟩,tq⟩;rw[show (m5 r.1.toUInt64 4).reverse=m9 r.1 from rfl,show(m5 r.2.toUInt64 4).reverse=m9 r.2 from rfl,b9 (C4 _),b9 (C4 _),z5]
theorem rW {va:List Value} {k:List UInt32} {tag:Int} {n:Nat} {back:Bool} (hn:n≠8):a7 C 157 [F9 k tag,.z n va,bool back] [] P3 []:=by
 refine oE.c ?_;refine n7 (fun h=> ?_) (fun h=>absurd (by omega) hn);exact⟨_,rfl,[],rfl,tq⟩
theorem xp {va:List Value} {key:Bs} (ha:va=bv key) (hk:key.length=16):a7 C 86 [i64 4,.z 16 va] [] (.ret (.t [P1 (y8 o7 key 4) 4,i64 0])) []:=by
 refine sQ.c ?_;refine⟨[],_,_,_,_,nE (m:=4) ha hk rfl (by decide) (by decide),rfl,rfl,?_⟩;refine⟨_,rfl,[],?_,tq⟩;show V.t [.q [.z 4 (sub _ 0 4),i64 4] 0,i64 0]=V.t [.q [.z _ _,i64 4] 0,i64 0];rw[y9 (O5 _ _ _),O5]
theorem xn {va:List Value} {key:Bs} (ha:va=bv key) (hk:key.length=32):a7 C 86 [i64 5,.z 32 va] [] (.ret (.t [P1 (y8 o7 key 8) 5,i64 0])) []:=by
 refine sQ.c ?_;refine⟨[],_,_,_,_,nE (m:=8) ha hk rfl (by decide) (by decide),rfl,rfl,?_⟩;refine⟨_,rfl,[],?_,tq⟩;show V.t [.q [.z 8 (sub _ 0 8),i64 5] 0,i64 0]=V.t [.q [.z _ _,i64 5] 0,i64 0];rw[y9 (O5 _ _ _),O5]
theorem II {va:List Value} {key:Bs} (ha:va=bv key) (hk:key.length=16):a7 C 86 [i64 8,.z 16 va] [] (.ret (.t [P1 (t3 (y8 o5 key 4) 78).1 8,i64 0])) []:=by
 refine sQ.c ?_;refine⟨[],_,_,_,_,wQ (m:=4) ha hk rfl (by decide) (by decide),rfl,rfl,?_⟩;refine⟨[.d 21 0],_,_,_,_,Gp (O5 o5 key 4),rfl,rfl,?_⟩;refine⟨_,rfl,[],?_,tq⟩;have h:=(mc (y8 o5 key 4) 78).1;show V.t [.q [.z 26 (sub _ 0 26),i64 8] 0,i64 0]=V.t [.q [.z _ _,i64 8] 0,i64 0];rw[y9 h,h]
theorem HU {va:List Value} {key:Bs} (ha:va=bv key) (hk:key.length=16):a7 C 58 [i64 4,.z 16 va] [] (.ret (.t [F9 (y8 o7 key 4) 4,i64 0])) []:=by
 refine sO.c ?_;refine⟨[],_,_,_,_,nL (m:=4) ha hk rfl (by decide) (by decide),rfl,rfl,?_⟩;refine⟨_,rfl,[],?_,tq⟩;show V.t [.q [i64 4,.z 4 (sub _ 0 4)] 0,i64 0]=V.t [.q [i64 4,.z _ _] 0,i64 0];rw[y9 (O5 _ _ _),O5]
theorem HS {va:List Value} {key:Bs} (ha:va=bv key) (hk:key.length=32):a7 C 58 [i64 5,.z 32 va] [] (.ret (.t [F9 (y8 o7 key 8) 5,i64 0])) []:=by
 refine sO.c ?_;refine⟨[],_,_,_,_,nL (m:=8) ha hk rfl (by decide) (by decide),rfl,rfl,?_⟩;refine⟨_,rfl,[],?_,tq⟩;show V.t [.q [i64 5,.z 8 (sub _ 0 8)] 0,i64 0]=V.t [.q [i64 5,.z _ _] 0,i64 0];rw[y9 (O5 _ _ _),O5]
theorem HT {va:List Value} {key:Bs} (ha:va=bv key) (hk:key.length=16):a7 C 58 [i64 8,.z 16 va] [] (.ret (.t [F9 (t3 (y8 o5 key 4) 78).1 8,i64 0])) []:=by
 refine sO.c ?_;refine⟨[],_,_,_,_,HY ha hk,rfl,rfl,?_⟩;refine⟨_,rfl,[],?_,tq⟩;have h:=(mc (y8 o5 key 4) 78).1;show V.t [.q [i64 8,.z 26 (sub _ 0 26)] 0,i64 0]=V.t [.q [i64 8,.z _ _] 0,i64 0];rw[y9 h,h]
def B6 (t:Int):Int:=if t=1\/t=2\/t=3\/t=4\/t=5\/t=8 then 8 else if t=6\/t=7 then 16 else 0
def m7 (t:Int):List Int:=if t=1 then [8]else if t=2 then [16,24]else if t=3\/t=4\/t=8 then [16]else if t=5 then [32]else if t=6\/t=7 then [16,24,32]else []
def q6 (t:Int):Prop:=t=1\/t=2\/t=3\/t=4\/t=5\/t=6\/t=7\/t=8
theorem bU {t:Int} (h:q6 t):a7 C 50 [i64 t] [] (.ret (i64 (B6 t))) []:=by
 rcases h with rfl|rfl|rfl|rfl|rfl|rfl|rfl|rfl<;>exact yq.c ⟨_,rfl,[],rfl,tq⟩
theorem rV {t:Int} (h:q6 t):a7 C 23 [i64 t] [] (.ret (i64 (B6 t))) []:=by
 rcases h with rfl|rfl|rfl|rfl|rfl|rfl|rfl|rfl<;>exact Nm.c ⟨_,rfl,[],rfl,tq⟩
theorem IH {t:Int} (h:¬q6 t):a7 C 50 [i64 t] [] (.ret (i64 0)) []:=by
 unfold q6 at h;refine yq.c ?_;refine A1 (by simp only[beq_eq_false_iff_ne,ne_eq];omega) (A1 (by simp only[beq_eq_false_iff_ne,ne_eq];omega) (A1 (by simp only[beq_eq_false_iff_ne,ne_eq];omega) (A1 (by simp only[beq_eq_false_iff_ne,ne_eq];omega) (A1 (by simp only[beq_eq_false_iff_ne,ne_eq];omega) (A1 (by simp only[beq_eq_false_iff_ne,ne_eq];omega) (A1 (by simp only[beq_eq_false_iff_ne,ne_eq];omega) (A1 (by simp only[beq_eq_false_iff_ne,ne_eq];omega) ?_)))))));exact⟨_,rfl,[],rfl,tq⟩
theorem dB {t:Int} (h:q6 t):a7 C 24 [i64 t] [] (.ret (.o 1 (.k 0) 0 (m7 t).length)) [.sc (iv (m7 t))]:=by
 rcases h with rfl|rfl|rfl|rfl|rfl|rfl|rfl|rfl
 ·exact fp.c ⟨_,rfl,[.d 6 0],rfl,⟨_,rfl,rfl⟩,tq⟩
 ·exact fp.c ⟨_,rfl,[.d 9 0],rfl,⟨_,rfl,rfl⟩,tq⟩
 ·exact fp.c ⟨_,rfl,[.d 14 0],rfl,⟨_,rfl,rfl⟩,tq⟩
 ·exact fp.c ⟨_,rfl,[.d 14 0],rfl,⟨_,rfl,rfl⟩,tq⟩
 ·exact fp.c ⟨_,rfl,[.d 17 0],rfl,⟨_,rfl,rfl⟩,tq⟩
 ·exact fp.c ⟨_,rfl,[.d 21 0],rfl,⟨_,rfl,rfl⟩,tq⟩
 ·exact fp.c ⟨_,rfl,[.d 21 0],rfl,⟨_,rfl,rfl⟩,tq⟩
 ·exact fp.c ⟨_,rfl,[.d 14 0],rfl,⟨_,rfl,rfl⟩,tq⟩
theorem rU {t:Int} (h:q6 t):a7 C 53 [i64 t] [] (.ret (.o 1 (.k 0) 0 (m7 t).length)) [.sc (iv (m7 t))]:=by
 rcases h with rfl|rfl|rfl|rfl|rfl|rfl|rfl|rfl
 ·exact dQ.c ⟨_,rfl,[.d 6 0],rfl,⟨_,rfl,rfl⟩,tq⟩
 ·exact dQ.c ⟨_,rfl,[.d 9 0],rfl,⟨_,rfl,rfl⟩,tq⟩
 ·exact dQ.c ⟨_,rfl,[.d 14 0],rfl,⟨_,rfl,rfl⟩,tq⟩
 ·exact dQ.c ⟨_,rfl,[.d 14 0],rfl,⟨_,rfl,rfl⟩,tq⟩
 ·exact dQ.c ⟨_,rfl,[.d 17 0],rfl,⟨_,rfl,rfl⟩,tq⟩
 ·exact dQ.c ⟨_,rfl,[.d 21 0],rfl,⟨_,rfl,rfl⟩,tq⟩
 ·exact dQ.c ⟨_,rfl,[.d 21 0],rfl,⟨_,rfl,rfl⟩,tq⟩
 ·exact dQ.c ⟨_,rfl,[.d 14 0],rfl,⟨_,rfl,rfl⟩,tq⟩
theorem He {t:Int} (h:¬q6 t):a7 C 53 [i64 t] [] (.ret g8) []:=by
 unfold q6 at h;refine dQ.c ?_;refine A1 (by simp only[beq_eq_false_iff_ne,ne_eq];omega) (A1 (by simp only[beq_eq_false_iff_ne,ne_eq];omega) (A1 (by simp only[beq_eq_false_iff_ne,ne_eq];omega) (A1 (by simp only[beq_eq_false_iff_ne,ne_eq];omega) (A1 (by simp only[beq_eq_false_iff_ne,ne_eq];omega) (A1 (by simp only[beq_eq_false_iff_ne,ne_eq];omega) (A1 (by simp only[beq_eq_false_iff_ne,ne_eq];omega) (A1 (by simp only[beq_eq_false_iff_ne,ne_eq];omega) ?_)))))));exact⟨_,rfl,[],rfl,tq⟩
def lR (x:Int):List Int->Nat
 |[]=>0
 |y::r=>if y=x then 0 else lR x r+1
theorem yU {x:Int}:∀{l:List Int} {i:Nat},x∉l.take i->l[i]? =some x->lR x l=i
 |[],i,_,h=>by simp at h
 |y::r,0,_,h=>by simp at h;simp[lR,h]
 |y::r,i+1,hn,h=>by
  simp at hn h;have h1:¬y=x:=fun e=>hn.1 e.symm;simp only[lR,if_neg h1];rw[yU (i:=i) hn.2 h]
def oM (x:Int) (l:List Int):Int:=if x∈l then lR x l else -1
theorem Gx {n:Nat} {va:List Value} {l:List Int} {x:Int} (ha:va=iv l) (hn:l.length=n) (hm:n<=1073741824):a7 C 125 [.z n va,i64 x] [] (.ret (i64 (oM x l))) []:=by
 subst ha;subst hn;refine OX.c ?_;refine⟨Nat,fun i=>⟨[(0,iz l),(1,i64 x),(7,i64 l.length),(8,i64 i)],[]⟩,fun i=>i<=l.length/\x∉l.take i,fun i=>l.length-i,⟨[],0,⟨Z6 _,by simp⟩,[],⟨rfl,rfl,rfl,rfl,tq⟩,tq⟩,fun i hi=> ?_⟩;obtain⟨hi,hx⟩:=hi;refine b8 (fun h=> ?_) (fun h=> ?_)
 ·have a8:i<l.length:=(by omega);refine⟨by omega,by omega,?_⟩;refine⟨_,by rw[Zb];exact zr a8,?_⟩;refine i9 (fun h=> ?_) (fun h=> ?_)
  ·refine⟨_,rfl,[],c9 ?_,tq⟩;have h1:x∈l:=by rw[h];exact Kn a8
   rw[oM,if_pos h1,yU hx (by rw[Zf a8,h])]
  ·refine⟨i+1,⟨by omega,?_⟩,(by simp(disch:=omega)only[Za];omega),[],⟨rfl,rfl,rfl,c9 (by simp(disch:=omega)only[Za];omega),tq⟩,tq⟩;rw[Zr a8];simp only[Kv,Kf,not_or];exact⟨hx,h⟩
 ·obtain rfl:i=l.length:=(by omega);refine⟨_,rfl,[],c9 ?_,tq⟩;rw[Zq]at hx;rw[oM,if_neg hx]
theorem dA {n:Nat} {va:List Value} {l:List Int} {x:Int} (ha:va=iv l) (hn:l.length=n) (hm:n<=1073741824):a7 C 77 [.z n va,i64 x] [] (.ret (bool (decide (x∈l)))) []:=by
 refine OV.c ?_;refine⟨[],_,_,_,_,Gx ha hn hm,rfl,rfl,?_⟩;refine⟨_,rfl,[],congrArg bool ?_,tq⟩;unfold oM;by_cases h:x∈l
 ·rw[if_pos h,decide_eq_true h];exact decide_eq_true (Int.natCast_nonneg _)
 ·rw[if_neg h,decide_eq_false h];rfl
abbrev d7 (t:Int) (k:Nat) (xs:List V):V:= .q [i64 t,.f (.func k) [.q xs 0] []] 0
theorem iY (t):(m7 t).length<=3:=by
 unfold m7
 repeat' split
 all_goals simp
theorem GL {t:Int} {n:Nat} {va:List Value} {xs:List V} (ht:t=4\/t=5\/t=8) (hv:(n:Int)∈m7 t) (hm:n<=1000) (hs:a7 C 86 [i64 t,.z n va] [] (.ret (.t [.q xs 0,i64 0])) []):
  a7 C 25 [i64 t,.z n va] [] (.ret (.t [d7 t 87 xs,i64 0])) []:=by
 refine fq.c ?_;have hl:=iY t;rcases ht with rfl|rfl|rfl
 ·refine⟨0,Unit,(fun _=>⟨[(6,.p (.k 0) 0),(7,i64 0)],[.mx [i64 4,.f (.func 87) [.q xs 0] []]]⟩),fun _=>True,fun _=>0,?_,fun _ h=> ?_⟩
  ·refine⟨[],_,_,_,_,bU (by simp[q6]),rfl,rfl,?_⟩;refine⟨[],_,_,_,_,dB (by simp[q6]),rfl,rfl,?_⟩;refine⟨[],_,_,_,_,dA (x:=n) (S2 rfl) rfl (by omega),rfl,rfl,?_⟩;refine A1 (by rw[decide_eq_true hv];rfl) ?_;refine⟨[],_,_,_,_,hs,rfl,rfl,?_⟩;refine⟨Zp _,?_⟩;exact⟨[],(),tq,[.d 20 0],⟨rfl,rfl,tq⟩,⟨_,rfl,rfl⟩,tq⟩
  ·exact⟨_,rfl,[],rfl,tq⟩
 ·refine⟨0,Unit,(fun _=>⟨[(6,.p (.k 0) 0),(7,i64 0)],[.mx [i64 5,.f (.func 87) [.q xs 0] []]]⟩),fun _=>True,fun _=>0,?_,fun _ h=> ?_⟩
  ·refine⟨[],_,_,_,_,bU (by simp[q6]),rfl,rfl,?_⟩;refine⟨[],_,_,_,_,dB (by simp[q6]),rfl,rfl,?_⟩;refine⟨[],_,_,_,_,dA (x:=n) (S2 rfl) rfl (by omega),rfl,rfl,?_⟩;refine A1 (by rw[decide_eq_true hv];rfl) ?_;refine⟨[],_,_,_,_,hs,rfl,rfl,?_⟩;refine⟨Zp _,?_⟩;exact⟨[],(),tq,[.d 20 0],⟨rfl,rfl,tq⟩,⟨_,rfl,rfl⟩,tq⟩
  ·exact⟨_,rfl,[],rfl,tq⟩
 ·refine⟨0,Unit,(fun _=>⟨[(6,.p (.k 0) 0),(7,i64 0)],[.mx [i64 8,.f (.func 87) [.q xs 0] []]]⟩),fun _=>True,fun _=>0,?_,fun _ h=> ?_⟩
  ·refine⟨[],_,_,_,_,bU (by simp[q6]),rfl,rfl,?_⟩;refine⟨[],_,_,_,_,dB (by simp[q6]),rfl,rfl,?_⟩;refine⟨[],_,_,_,_,dA (x:=n) (S2 rfl) rfl (by omega),rfl,rfl,?_⟩;refine A1 (by rw[decide_eq_true hv];rfl) ?_;refine⟨[],_,_,_,_,hs,rfl,rfl,?_⟩;refine⟨Zp _,?_⟩;exact⟨[],(),tq,[.d 20 0],⟨rfl,rfl,tq⟩,⟨_,rfl,rfl⟩,tq⟩
  ·exact⟨_,rfl,[],rfl,tq⟩
theorem GK {t:Int} {n:Nat} {va:List Value} (ht:¬q6 t):a7 C 25 [i64 t,.z n va] [] (.ret (.t [.s (.pointer none),i64 2])) []:=by
 refine fq.c ?_;refine⟨0,Unit,fun _=>⟨[],[]⟩,fun _=>False,fun _=>0,?_,fun _ h=>h.elim⟩;refine⟨[],_,_,_,_,IH ht,rfl,rfl,?_⟩;exact⟨_,rfl,[],rfl,tq⟩
theorem GJ {t:Int} {n:Nat} {va:List Value} (ht:q6 t) (hm:n<=1073741824) (hv:(n:Int)∉m7 t):a7 C 25 [i64 t,.z n va] [] (.ret (.t [.s (.pointer none),i64 4])) []:=by
 refine fq.c ?_;have hl:=iY t;refine⟨0,Unit,fun _=>⟨[(7,i64 4)],[]⟩,fun _=>True,fun _=>0,?_,fun _ h=> ?_⟩
 ·refine⟨[],_,_,_,_,bU ht,rfl,rfl,?_⟩;refine A1 ?_ ?_
  ·rcases ht with rfl|rfl|rfl|rfl|rfl|rfl|rfl|rfl<;>rfl
  refine⟨[],_,_,_,_,dB ht,rfl,rfl,?_⟩;refine⟨[],_,_,_,_,dA (x:=n) (S2 rfl) rfl (by omega),rfl,rfl,?_⟩;refine bC (by rw[decide_eq_false hv];rfl) ?_;exact⟨rfl,(),tq,[],⟨rfl,tq⟩,tq⟩
 ·exact⟨_,rfl,[],rfl,tq⟩
theorem Gk {t:Int} {k n:Nat} {xs:List V} {va:List Value} {l:List Value} (h:a7 C k [.q xs 0,.z n va,bool false] [] (y4 n) [.sc l]):a7 C 26 [d7 t k xs,.z n va] [] (y4 n) [.sc l]:=by
 refine Mh.c ?_;refine⟨_,rfl,?_⟩;refine⟨[],_,_,_,_,h,rfl,rfl,?_⟩;exact⟨_,rfl,[.d 11 0],rfl,⟨_,rfl,rfl⟩,tq⟩
theorem Ge {t:Int} {k n:Nat} {xs:List V} {va:List Value} {l:List Value} (h:a7 C k [.q xs 0,.z n va,bool true] [] (y4 n) [.sc l]):a7 C 177 [d7 t k xs,.z n va] [] (y4 n) [.sc l]:=by
 refine Mg.c ?_;refine⟨_,rfl,?_⟩;refine⟨[],_,_,_,_,h,rfl,rfl,?_⟩;exact⟨_,rfl,[.d 11 0],rfl,⟨_,rfl,rfl⟩,tq⟩
theorem FF {t:Int} {k:Nat} {xs:List V} (ht:q6 t):a7 C 63 [d7 t k xs] [] (.ret (i64 (B6 t))) []:=by
 refine Mi.c ?_;refine⟨_,rfl,?_⟩;refine⟨[],_,_,_,_,bU ht,rfl,rfl,?_⟩;exact⟨_,rfl,[],rfl,tq⟩
theorem xH {a n:Int} (hn:0<n) (hn2:n<=4611686018427387904) (ha: -9223372036854775808<=a/\a<=9223372036854775807):a7 C 76 [i64 a,i64 n] [] (.ret (i64 (a%n))) []:=by
 refine MU.c ?_;have h1: -n<a.tmod n:=J2 a hn;have h2:a.tmod n<n:=Kg a hn;refine⟨by omega,?_⟩;refine b8 (fun h=> ?_) (fun h=> ?_)
 ·refine⟨_,rfl,[],c9 ?_,tq⟩;rw[Za _ (by omega)];rw[<-jQ a n hn,Jk (a:=a.tmod n+n) (by omega),Int.emod_eq_of_lt (by omega) (by omega)]
 ·refine⟨_,rfl,[],c9 ?_,tq⟩;rw[<-jQ a n hn,Jk (a:=a.tmod n+n) (by omega),Int.add_emod_right,Int.emod_eq_of_lt (by omega) (by omega)]
def O4 (n:Int):Int:=1+n%8
theorem pZ (n:Int):q6 (O4 n):=by unfold q6 O4;omega
theorem IR {n:Int} (ha: -9223372036854775808<=n/\n<=9223372036854775807):a7 C 20 [i64 n] [] (.ret (i64 (O4 n))) []:=by
 refine MT.c ?_;refine⟨[],_,_,_,_,xH (n:=8) (by decide) (by decide) ha,rfl,rfl,?_⟩;refine⟨_,rfl,[],c9 ?_,tq⟩;unfold O4;simp only[IntKind.wrap_i64];omega
def dk (b:Bs) (n j:Nat):Bs:=(List.range n).map fun p=>if p<b.length then b.getD p 0 else if p<b.length+j then Zt (p*37)else 0
def iX (n:Nat) (b:Bs):Bs:=dk b n n
theorem fV (b n j):(dk b n j).length=n:=by simp[dk]
theorem nn (n b):(iX n b).length=n:=fV b n n
theorem mA (b:Bs) (n j p:Nat) (h:p<n):(dk b n j)[p]? =some (if p<b.length then b.getD p 0 else if p<b.length+j then Zt (p*37)else 0):=by simp[dk,h]
theorem Sx (b:Bs) (n j:Nat) (h:b.length+j<n):(dk b n j).set (b.length+j) (Zt ((b.length+j)*37))=dk b n (j+1):=by
 apply Z3;intro p;by_cases hp:p<n
 ·rw[mA _ _ _ _ hp,Jr,mA _ _ _ _ hp];by_cases h1:b.length+j=p
  ·subst h1;rw[if_pos rfl,fV,if_pos hp,if_neg (by omega),if_pos (by omega)]
  ·rw[if_neg h1];by_cases h2:p<b.length
   ·rw[if_pos h2,if_pos h2]
   ·rw[if_neg h2,if_neg h2];by_cases h3:p<b.length+j
    ·rw[if_pos h3,if_pos (by omega)]
    ·rw[if_neg h3,if_neg (by omega)]
 ·rw[Zg (by simp[fV];omega),Zg (by rw[fV];omega)]
theorem Sy (b:Bs) (n:Nat):b.take (min b.length n)++(Zk n (0:UInt8)).drop (min b.length n)=dk b n 0:=by
 apply Z3;intro p;by_cases hp:p<n
 ·rw[mA _ _ _ _ hp];by_cases h2:p<b.length
  ·rw[Ja (by simp;omega),J0,if_pos (by omega),if_pos h2,Zf h2,Zd,Zf h2];rfl
  ·rw[if_neg h2,if_neg (by omega),Z7 (by simp;omega),J1,Zv,Jd,if_pos (by omega)]
 ·rw[Zg (by simp;omega),Zg (by rw[fV];omega)]
theorem Sw (b:Bs) (n j:Nat) (h:n<=b.length+j):dk b n j=iX n b:=by
 apply Z3;intro p;unfold iX;by_cases hp:p<n
 ·rw[mA _ _ _ _ hp,mA _ _ _ _ hp];by_cases h2:p<b.length
  ·rw[if_pos h2,if_pos h2]
  ·rw[if_neg h2,if_neg h2,if_pos (by omega),if_pos (by omega)]
 ·rw[Zg (by rw[fV];omega),Zg (by rw[fV];omega)]
theorem wD {n m:Nat} {va:List Value} {b:Bs} (ha:va=bv b) (hb:b.length=m) (hn:n<=1073741824):a7 C 22 [i64 n,.z m va] [] (.ret (.o 1 (.k 0) 0 n)) [.sc (bv (iX n b))]:=by
 subst ha;subst hb;refine MQ.c ?_;refine⟨by omega,Jh _,by omega,?_⟩;refine⟨f9 _,by simp,?_⟩;refine⟨Nat,fun j=>⟨[(0,i64 n),(5,.o 1 (.k 0) 0 n),(6,i64 (b.length+j:Nat))],[.sc (bv (dk b n j))]⟩,fun j=>j=0\/b.length+j<=n,fun j=>n-(b.length+j),⟨[],0,.inl rfl,[.d 8 0],⟨rfl,rfl,rfl,tq⟩,⟨_,rfl,d8 ?_⟩,tq⟩,fun j hj=> ?_⟩
 ·show[]++(bv b).take (min b.length n)++(Zk n (Value.int .u8 0)).drop (0+min b.length n)=_;rw[Jp,Zl,<-Sy,P4,ET,<-z5];congr 1;simp[bv,Kj]
 refine b8 (fun h=> ?_) (fun h=> ?_)
 ·have a8:b.length+j<n:=(by omega);refine⟨by omega,by omega,by rw[f9,fV];omega,?_⟩;refine⟨j+1,.inr (by omega),(by simp(disch:=omega)only[Za];omega),[.k 0],⟨rfl,rfl,c9 (by simp(disch:=omega)only[Za];omega),tq⟩,⟨_,rfl,d8 ?_⟩,tq⟩;have e:U8.wrap (I6.wrap (((b.length+j:Nat):Int)*37))=((Zt ((b.length+j)*37)).toNat:Int):=by
   rw[<-aG,Za _ (by omega)];rfl
  rw[e,Zb,Zm,Zl,K3,Sx _ _ _ a8]
 ·refine⟨_,rfl,[.k 0],rfl,⟨_,rfl,d8 ?_⟩,tq⟩;rw[Sw _ _ _ (by omega)]
def bn (t n:Int):Nat:=((m7 t).getD (n%((m7 t).length:Int)).toNat 0).toNat
def jA (t n:Int) (k:Bs):Bs:=iX (bn t n) k
theorem Qx {t:Int} (h:q6 t) (n:Int):(bn t n:Int)∈m7 t/\bn t n<=32/\(m7 t)[(n%((m7 t).length:Int)).toNat]? =some (bn t n:Int)/\0<=n%((m7 t).length:Int)/\n%((m7 t).length:Int)<(m7 t).length:=by
 have g:∀(l:List Int),0<l.length->(∀x∈l,0<=x/\x<=32)->∀n:Int,((((l.getD (n%(l.length:Int)).toNat 0).toNat:Nat):Int)∈l/\(l.getD (n%(l.length:Int)).toNat 0).toNat<=32/\l[(n%(l.length:Int)).toNat]? =some (((l.getD (n%(l.length:Int)).toNat 0).toNat:Nat):Int)/\0<=n%(l.length:Int)/\n%(l.length:Int)<l.length):=by
  intro l hl hb n;have h0:=Kw n (b:=l.length) (by omega);have h1:=Kh n (b:=l.length) (by omega);have a8:(n%(l.length:Int)).toNat<l.length:=by omega
  rw[Zd,Zf a8];have hm:=Kn a8;obtain⟨b0,b1⟩:=hb _ hm;have e:(((l[(n%(l.length:Int)).toNat]).toNat:Nat):Int)=l[(n%(l.length:Int)).toNat]:=Int.toNat_of_nonneg b0;refine⟨?_,?_,?_,h0,h1⟩
  ·show(((l[(n%(l.length:Int)).toNat]).toNat:Nat):Int)∈l;rw[e];exact hm
  ·show(l[(n%(l.length:Int)).toNat]).toNat<=32;omega
  ·show some _=some (((l[(n%(l.length:Int)).toNat]).toNat:Nat):Int);rw[e]
 rcases h with rfl|rfl|rfl|rfl|rfl|rfl|rfl|rfl<;>exact g _ (by decide) (by decide) n
theorem Qy (t n k):(jA t n k).length=bn t n:=nn _ _
theorem Ez (bs:ByteArray):∀(n i:Nat) (r:Bs),bs.size-i=n->ByteArray.toList.loop bs i r=r.reverse++bs.data.toList.drop i:=by
 intro n;induction n with
 |zero=>
  intro i r h;rw[ByteArray.toList.loop,if_neg (by omega)];have:bs.data.toList.length=bs.size:=by cases bs;rfl
  rw[Kt (by omega),Z8]
 |succ n ih=>
  intro i r h;rw[ByteArray.toList.loop,if_pos (by omega),ih (i+1) _ (by omega)];have hl:bs.data.toList.length=bs.size:=by cases bs;rfl
  rw[List.drop_eq_getElem_cons (i:=i) (by omega)];have:bs.get! i=bs.data.toList[i]'(by omega):=by
   cases bs with
   |mk d=>
    show d[i]! =_;have e0:d.toList.length=d.size:=by simp
    have e:(ByteArray.mk d).size=d.size:=rfl;have:i<d.size:=by omega
    rw[getElem!_pos d i this];simp
  rw[this,List.reverse_cons,Jf];rfl
theorem EA (bs:ByteArray):bs.toList=bs.data.toList:=by
 have:=Ez bs _ 0 [] rfl;show ByteArray.toList.loop bs 0 []=_;simpa using this
abbrev bs (l:Bs):ByteArray:=⟨l.toArray⟩
theorem wo (l:Bs):(bs l).toList=l:=by rw[EA]
theorem BC (a b:Bs):((bs a).toList==(bs b).toList)=decide (a=b):=by
 rw[wo,wo];by_cases h:a=b
 ·simp[h]
 ·simp[h]
theorem oP {x y:Nat} (hx:x<9223372036854775808) (hy:y<9223372036854775808):I6.wrap ((Zc I6.bits (x:Int)&&&Zc I6.bits (y:Int)).toNat:Int)=((x&&&y:Nat):Int):=by
 rw[rq I6.bits (by simp only[iS];omega) (by simp only[iS];omega)];have:=Nat.and_le_left (n:=x) (m:=y);rw[cr _ (by omega)]
theorem L5 {x y:Nat} (n:Nat) (hn:n<=62) (hx:x<2^n) (hy:y<2^n):I6.wrap ((Zc I6.bits (x:Int)^^^Zc I6.bits (y:Int)).toNat:Int)=((x^^^y:Nat):Int):=by
 have hp:2^n<=2^62:=Z5 (by decide) hn;rw[ru I6.bits (by simp only[iS];omega) (by simp only[iS];omega)];have:=Jj hx hy;rw[cr _ (by omega)]
theorem Qj {x y:Nat} (n:Nat) (hn:n<=62) (hx:x<2^n) (hy:y<2^n):I6.wrap ((Zc I6.bits (x:Int)|||Zc I6.bits (y:Int)).toNat:Int)=((x|||y:Nat):Int):=by
 have hp:2^n<=2^62:=Z5 (by decide) hn;rw[iV I6.bits (by simp only[iS];omega) (by simp only[iS];omega)];have:=J3 hx hy;rw[cr _ (by omega)]
theorem sY (x:Nat):((x:Int).fdiv (2^(min (1:Int).toNat I6.bits)))=((x/2:Nat):Int):=by
 rw[Z1 _ (by decide)];rfl
theorem zg {x:Nat} (h:x<4611686018427387904):I6.wrap ((x:Int)*2^(min (1:Int).toNat I6.bits))=((2*x:Nat):Int):=by
 have:(x:Int)*2^(min (1:Int).toNat I6.bits)=((2*x:Nat):Int):=by
  show(x:Int)*2^1=_;omega
 rw[this,cr _ (by omega)]
def xt (m x:Nat):Nat:=if 256<=2*x then (2*x^^^m)%256 else 2*x
def fX (m a:Nat):Nat->Nat
 |0=>a
 |k+1=>xt m (fX m a k)
def fS (m a b:Nat):Nat->Nat
 |0=>0
 |k+1=>if b.testBit k then fS m a b k^^^fX m a k else fS m a b k
def gZ (m:Nat) (a b:UInt8):UInt8:=Zt (fS m a.toNat b.toNat 8)
theorem oz {m a:Nat} (ha:a<256):∀k,fX m a k<256
 |0=>ha
 |k+1=>by
  have:=oz (m:=m) ha k;unfold fX xt;split<;>omega
theorem sD {m a b:Nat} (ha:a<256):∀k,fS m a b k<256
 |0=>by simp[fS]
 |k+1=>by
  have h1:=sD (m:=m) (b:=b) ha k;have h2:=oz (m:=m) ha k;unfold fS;split
  ·exact Jj (n:=8) h1 h2
  ·exact h1
theorem yp {m a b:Nat}:∀(d i:Nat),b>>>i=0->fS m a b (i+d)=fS m a b i
 |0,i,_=>rfl
 |d+1,i,h=>by
  show(if b.testBit (i+d)=true then fS m a b (i+d)^^^fX m a (i+d)else fS m a b (i+d))=_;have:b.testBit (i+d)=false:=by
   have:(b>>>i).testBit d=false:=by rw[h];exact Nat.zero_testBit d
   rwa [Nat.testBit_shiftRight]at this
  rw[this,if_neg (by decide)];exact yp d i h
theorem DU {y m:Nat} (h1:256<=y) (h2:y<512) (h3:256<=m) (h4:m<512):(y^^^m)%256=y^^^m:=by
 apply Nat.eq_of_testBit_eq;intro j;rw[show (256:Nat)=2^8 by decide,Kl];by_cases hj:j<8
 ·simp[hj]
 ·have top:∀z,256<=z->z<512->z.testBit j=decide (j=8):=by
   intro z a b;by_cases h8:j=8
   ·subst h8;rw[Jl];rw[decide_eq_true rfl];exact decide_eq_true (by omega)
   ·rw[decide_eq_false h8];exact Kq (Nat.lt_of_lt_of_le b (Z5 (n:=2) (i:=9) (by decide) (by omega)))
  rw[Nat.testBit_xor,top y h1 h2,top m h3 h4];simp
theorem wi (b i:Nat):((b>>>i&&&1:Nat)>0)↔b.testBit i=true:=by
 rw[Ke,Jl,Z0];simp;omega
theorem kO {x y:Int} {a b:UInt8} {m:Nat} (hx:x=a.toNat) (hy:y=b.toNat) (h1:256<=m) (h2:m<512):a7 C 238 [vi .u8 x,vi .u8 y,i64 m] [] (.ret (u8 (gZ m a b))) []:=by
 subst hx;subst hy;have hb:=b.toNat_lt;have ha:=a.toNat_lt;refine My.c ?_;refine Y7 0 rfl 9 (fun i=>⟨[(2,i64 m),(7,i64 (fS m a.toNat b.toNat i)),(8,i64 (fX m a.toNat i)),(9,i64 (b.toNat>>>i:Nat))],[]⟩) ⟨[],0,by decide,[],⟨rfl,rfl,c9 (gz a),c9 (gz b),tq⟩,tq⟩ fun i hi=> ?_;have hX:=oz (m:=m) ha i;have hS:=sD (m:=m) (b:=b.toNat) ha i;refine i9 (fun h=> ?_) (fun h=> ?_)
 ·refine⟨_,rfl,[],congrArg (vi .u8) ?_,tq⟩;rw[aG,gZ];have:=yp (m:=m) (a:=a.toNat) (b:=b.toNat) (8-i) i (by omega);rw[show i+(8-i)=8 by omega]at this;rw[this]
 ·have hi8:i<8:=by
   rcases Jg i 8 with h8|h8
   ·exact h8
   ·obtain rfl:i=8:=(by omega);rw[Z0,Km hb]at h;exact absurd rfl h
  have hyl:b.toNat>>>i<9223372036854775808:=by rw[Z0];exact Nat.lt_of_le_of_lt (Jo _ _) (by omega)
  have e1:I6.wrap ((Zc I6.bits ((b.toNat>>>i:Nat):Int)&&&Zc I6.bits 1).toNat:Int)=((b.toNat>>>i&&&1:Nat):Int):=oP (y:=1) hyl (by decide);have e2:I6.wrap ((fX m a.toNat i:Int)*2^(min (1:Int).toNat I6.bits))=((2*fX m a.toNat i:Nat):Int):=zg (by omega);have e3:((b.toNat>>>i:Nat):Int).fdiv (2^(min (1:Int).toNat I6.bits))=((b.toNat>>>(i+1):Nat):Int):=by
   rw[sY,Nat.shiftRight_succ]
  have e4:I6.wrap ((Zc I6.bits ((2*fX m a.toNat i:Nat):Int)^^^Zc I6.bits (m:Int)).toNat:Int)=((2*fX m a.toNat i^^^m:Nat):Int):=L5 9 (by decide) (by omega) (by omega);have hx9:=Jj (n:=9) (x:=2*fX m a.toNat i) (y:=m) (by omega) (by omega);have e5:I6.wrap ((Zc I6.bits ((2*fX m a.toNat i^^^m:Nat):Int)&&&Zc I6.bits 255).toNat:Int)=(((2*fX m a.toNat i^^^m)%256:Nat):Int):=by
   have h:=oP (x:=2*fX m a.toNat i^^^m) (y:=255) (by omega) (by decide);rw[show (255:Nat)=2^8-1 by decide,Jn]at h;exact h
  have e6:2*fX m a.toNat i<256->I6.wrap ((Zc I6.bits ((2*fX m a.toNat i:Nat):Int)&&&Zc I6.bits 255).toNat:Int)=((2*fX m a.toNat i:Nat):Int):=by
   intro hl;have h:=oP (x:=2*fX m a.toNat i) (y:=255) (by omega) (by decide);rw[show (255:Nat)=2^8-1 by decide,Jn,Zh hl]at h;exact h
  have hS1:fS m a.toNat b.toNat (i+1)=if b.toNat.testBit i then fS m a.toNat b.toNat i^^^fX m a.toNat i else fS m a.toNat b.toNat i:=rfl;have hX1:fX m a.toNat (i+1)=xt m (fX m a.toNat i):=rfl;refine b8 (fun hb1=> ?_) (fun hb1=> ?_)
  ·have ht:b.toNat.testBit i=true:=(wi _ _).1 (by rw[e1]at hb1;omega);refine⟨by decide,by decide,?_⟩;refine b8 (fun hg=> ?_) (fun hg=> ?_)
   ·rw[e2]at hg;refine⟨rfl,i+1,by omega,by omega,[],⟨rfl,c9 ?_,c9 ?_,c9 e3,tq⟩,tq⟩
    ·rw[hS1,ht];exact L5 8 (by decide) hS hX
    ·rw[e2,e4,e5,hX1,xt,if_pos (by omega)]
   ·rw[e2]at hg;refine⟨rfl,i+1,by omega,by omega,[],⟨rfl,c9 ?_,c9 ?_,c9 e3,tq⟩,tq⟩
    ·rw[hS1,ht];exact L5 8 (by decide) hS hX
    ·rw[e2,e6 (by omega),hX1,xt,if_neg (by omega)]
  ·have ht:b.toNat.testBit i=false:=by
    cases hc:b.toNat.testBit i
    ·rfl
    ·exact absurd (by rw[e1];have:=(wi b.toNat i).2 hc;omega) hb1
   refine⟨by decide,by decide,?_⟩;refine b8 (fun hg=> ?_) (fun hg=> ?_)
   ·rw[e2]at hg;refine⟨rfl,i+1,by omega,by omega,[],⟨rfl,c9 ?_,c9 ?_,c9 e3,tq⟩,tq⟩
    ·rw[hS1,ht];rfl
    ·rw[e2,e4,e5,hX1,xt,if_pos (by omega)]
   ·rw[e2]at hg;refine⟨rfl,i+1,by omega,by omega,[],⟨rfl,c9 ?_,c9 ?_,c9 e3,tq⟩,tq⟩
    ·rw[hS1,ht];rfl
    ·rw[e2,e6 (by omega),hX1,xt,if_neg (by omega)]
theorem DC (b:UInt8) {i:Nat} (hi:i<8):(U8.wrap ((Zc U8.bits ((b.toNat:Int).fdiv (2^(min ((i:Int)).toNat U8.bits)))&&&Zc U8.bits 1).toNat:Int))=(if b.toNat.testBit i then 1 else 0):=by
 rw[ZM b i (by omega) (by omega),show(1:Int)=((1:UInt8).toNat:Int) from rfl,uN,UInt8.toNat_and,Ko,Jb,Zb,Zh (show i<2^8 by omega),Zh hi];show(((b.toNat>>>i&&&1:Nat)):Int)=_;rw[Ke,Jl,Z0];by_cases h:b.toNat/2^i%2=1
 ·simp[h]
 ·have:b.toNat/2^i%2=0:=by omega
  simp[this]
theorem gT {x y:Int} {a b:UInt8} {m:Nat} (hx:x=a.toNat) (hy:y=b.toNat) (h1:256<=m) (h2:m<512):a7 C 222 [vi .u8 x,vi .u8 y,i64 m] [] (.ret (u8 (gZ m a b))) []:=by
 subst hx;subst hy;have ha:=a.toNat_lt;refine NQ.c ?_;refine j4 (fun i=>⟨[(1,u8 b),(2,i64 m),(7,i64 (fS m a.toNat b.toNat i)),(8,i64 (fX m a.toNat i)),(9,vi .u64 i)],[]⟩) 8 ⟨[],⟨rfl,rfl,rfl,c9 (gz a),rfl,tq⟩,tq⟩ fun i hi=> ?_;have hX:=oz (m:=m) ha i;have hS:=sD (m:=m) (b:=b.toNat) ha i;refine b8 (fun h=> ?_) (fun h=> ?_)
 ·have a8:i<8:=(by omega);have e2:I6.wrap ((fX m a.toNat i:Int)*2^(min (1:Int).toNat I6.bits))=((2*fX m a.toNat i:Nat):Int):=zg (by omega);have e4:I6.wrap ((Zc I6.bits ((2*fX m a.toNat i:Nat):Int)^^^Zc I6.bits (m:Int)).toNat:Int)=((2*fX m a.toNat i^^^m:Nat):Int):=L5 9 (by decide) (by omega) (by omega);have e9:U6.wrap ((i:Int)+1)=((i+1:Nat):Int):=by rw[B5];omega
  have hS1:fS m a.toNat b.toNat (i+1)=if b.toNat.testBit i then fS m a.toNat b.toNat i^^^fX m a.toNat i else fS m a.toNat b.toNat i:=rfl;have hX1:fX m a.toNat (i+1)=xt m (fX m a.toNat i):=rfl;have eb:=DC b a8;refine⟨by omega,?_⟩;refine i9 (fun hb1=> ?_) (fun hb1=> ?_)
  ·have ht:b.toNat.testBit i=true:=by
    cases hc:b.toNat.testBit i
    ·rw[eb,hc]at hb1;exact absurd hb1 (by decide)
    ·rfl
   refine⟨by decide,?_⟩;refine b8 (fun hg=> ?_) (fun hg=> ?_)
   ·rw[e2]at hg;refine⟨i+1,by omega,by omega,[],⟨rfl,rfl,c9 ?_,c9 ?_,congrArg (vi .u64) e9,tq⟩,tq⟩
    ·rw[hS1,ht];exact L5 8 (by decide) hS hX
    ·rw[e2,e4,hX1,xt,if_pos (by omega),DU (by omega) (by omega) h1 h2]
   ·rw[e2]at hg;refine⟨i+1,by omega,by omega,[],⟨rfl,rfl,c9 ?_,c9 ?_,congrArg (vi .u64) e9,tq⟩,tq⟩
    ·rw[hS1,ht];exact L5 8 (by decide) hS hX
    ·rw[e2,hX1,xt,if_neg (by omega)]
  ·have ht:b.toNat.testBit i=false:=by
    cases hc:b.toNat.testBit i
    ·rfl
    ·rw[eb,hc]at hb1;exact absurd rfl hb1
   refine⟨by decide,?_⟩;refine b8 (fun hg=> ?_) (fun hg=> ?_)
   ·rw[e2]at hg;refine⟨i+1,by omega,by omega,[],⟨rfl,rfl,c9 ?_,c9 ?_,congrArg (vi .u64) e9,tq⟩,tq⟩
    ·rw[hS1,ht];rfl
    ·rw[e2,e4,hX1,xt,if_pos (by omega),DU (by omega) (by omega) h1 h2]
   ·rw[e2]at hg;refine⟨i+1,by omega,by omega,[],⟨rfl,rfl,c9 ?_,c9 ?_,congrArg (vi .u64) e9,tq⟩,tq⟩
    ·rw[hS1,ht];rfl
    ·rw[e2,hX1,xt,if_neg (by omega)]
 ·obtain rfl:i=8:=(by omega);exact⟨_,rfl,[],congrArg (vi .u8) (aG _),tq⟩
abbrev PS:=UInt8×UInt8×Nat
def eB (m:Nat) (x:PS):PS:=(if x.2.2%2=1 then gZ m x.1 x.2.1 else x.1,gZ m x.2.1 x.2.1,x.2.2/2)
def oy (m:Nat) (a:UInt8) (n:Nat):UInt8:=(it (eB m) 8 (1,a,n)).1
theorem Az (m:Nat) (k:Nat) (x:PS):(it (eB m) k x).2.2=x.2.2/2^k:=by
 induction k with
 |zero=>simp[it]
 |succ k ih=>show(it (eB m) k x).2.2/2=_;rw[ih,Kr,Nat.pow_succ]
theorem Gn {x:Int} {a:UInt8} {m n:Nat} (hx:x=a.toNat) (hn1:128<=n) (hn2:n<256) (h1:256<=m) (h2:m<512):a7 C 245 [vi .u8 x,i64 n,i64 m] [] (.ret (u8 (oy m a n))) []:=by
 subst hx;refine Mz.c ?_;refine pO 0 rfl (eB m) (1,a,n) 8 (fun i z=>⟨[(0,u8 z.2.1),(1,i64 z.2.2),(2,i64 m),(7,u8 z.1)],[]⟩) ⟨[],(0,(1,a,n)),⟨Z6 _,rfl⟩,[],⟨rfl,rfl,rfl,rfl,tq⟩,tq⟩ fun i z hi hz=> ?_;have hn:z.2.2=n/2^i:=by rw[hz,Az]
 have hle:z.2.2<=n:=by rw[hn];exact Jo _ _
 refine b8 (fun h=> ?_) (fun h=> ?_)
 ·have hi8:i=8:=by
   rcases Jg i 8 with h8|h8
   ·have:2^i<=2^7:=Z5 (by decide) (by omega);have hp:0<2^i:=K1 (by decide);have:1<=n/2^i:=(Jq hp).2 (by omega);omega
   ·omega
  subst hi8;refine⟨_,rfl,[],?_,tq⟩;show u8 z.1=u8 _;rw[hz];rfl
 ·have hi8:i<8:=by
   rcases Jg i 8 with h8|h8
   ·exact h8
   ·obtain rfl:i=8:=(by omega);rw[hn,Km hn2]at h;exact absurd (Jh _) h
  have e1:I6.wrap ((Zc I6.bits ((z.2.2:Nat):Int)&&&Zc I6.bits 1).toNat:Int)=((z.2.2%2:Nat):Int):=by
   have h:=oP (x:=z.2.2) (y:=1) (by omega) (by decide);rw[Ke]at h;exact h
  refine b8 (fun hb=> ?_) (fun hb=> ?_)
  ·rw[e1]at hb;refine⟨[],_,_,_,_,kO rfl rfl h1 h2,rfl,rfl,?_⟩;refine⟨[],_,_,_,_,kO rfl rfl h1 h2,rfl,rfl,?_⟩;refine⟨by decide,?_⟩;refine⟨rfl,(i+1,eB m z),⟨hi8,aB hz⟩,by omega,[],⟨rfl,c9 (sY _),rfl,?_,tq⟩,tq⟩;show u8 _=u8 (if _ then _ else _);rw[if_pos (by omega)]
  ·rw[e1]at hb;refine⟨[],_,_,_,_,kO rfl rfl h1 h2,rfl,rfl,?_⟩;refine⟨by decide,?_⟩;refine⟨rfl,(i+1,eB m z),⟨hi8,aB hz⟩,by omega,[],⟨rfl,c9 (sY _),rfl,?_,tq⟩,tq⟩;show u8 _=u8 (if _ then _ else _);rw[if_neg (by omega)]
theorem Hn {x:Int} {a:UInt8} {m n:Nat} (hx:x=a.toNat) (hn1:128<=n) (hn2:n<256) (h1:256<=m) (h2:m<512):a7 C 226 [vi .u8 x,i64 n,i64 m] [] (.ret (u8 (oy m a n))) []:=by
 subst hx;refine NR.c ?_;refine mp (eB m) (1,a,n) 8 (fun i z=>⟨[(0,u8 z.2.1),(1,i64 z.2.2),(2,i64 m),(7,u8 z.1)],[]⟩) ⟨[],⟨rfl,rfl,rfl,rfl,tq⟩,tq⟩ fun i z hi hz=> ?_;have hn:z.2.2=n/2^i:=by rw[hz,Az]
 have hle:z.2.2<=n:=by rw[hn];exact Jo _ _
 refine b8 (fun h=> ?_) (fun h=> ?_)
 ·have hi8:i<8:=by
   rcases Jg i 8 with h8|h8
   ·exact h8
   ·obtain rfl:i=8:=(by omega);rw[hn,Km hn2]at h;exact absurd h (by decide)
  have e1:((z.2.2:Nat):Int).tmod 2=((z.2.2%2:Nat):Int):=U2 _ 2;have e2:I6.wrap (((z.2.2:Nat):Int).tdiv 2)=((z.2.2/2:Nat):Int):=by
   rw[show ((z.2.2:Nat):Int).tdiv 2=((z.2.2/2:Nat):Int) from rfl,cr _ (by omega)]
  refine⟨by decide,?_⟩;refine i9 (fun hb=> ?_) (fun hb=> ?_)
  ·rw[e1]at hb;refine⟨[],_,_,_,_,gT rfl rfl h1 h2,rfl,rfl,?_⟩;refine⟨[],_,_,_,_,gT rfl rfl h1 h2,rfl,rfl,?_⟩;refine⟨by decide,?_⟩;refine⟨(i+1,eB m z),⟨hi8,aB hz⟩,by omega,[],⟨rfl,c9 e2,rfl,?_,tq⟩,tq⟩;show u8 _=u8 (if _ then _ else _);rw[if_pos (by omega)]
  ·rw[e1]at hb;refine⟨[],_,_,_,_,gT rfl rfl h1 h2,rfl,rfl,?_⟩;refine⟨by decide,?_⟩;refine⟨(i+1,eB m z),⟨hi8,aB hz⟩,by omega,[],⟨rfl,c9 e2,rfl,?_,tq⟩,tq⟩;show u8 _=u8 (if _ then _ else _);rw[if_neg (by omega)]
 ·have hi8:i=8:=by
   rcases Jg i 8 with h8|h8
   ·have:2^i<=2^7:=Z5 (by decide) (by omega);have hp:0<2^i:=K1 (by decide);have:1<=n/2^i:=(Jq hp).2 (by omega);omega
   ·omega
  subst hi8;refine⟨_,rfl,[],?_,tq⟩;show u8 z.1=u8 _;rw[hz];rfl
def jJ:Bs:=[0,1,1,2,1,2,2,3,1,2,2,3,2,3,3,4,1,2,2,3,2,3,3,4,2,3,3,4,3,4,4,5,1,2,2,3,2,3,3,4,2,3,3,4,3,4,4,5,2,3,3,4,3,4,4,5,3,4,4,5,4,5,5,6,1,2,2,3,2,3,3,4,2,3,3,4,3,4,4,5,2,3,3,4,3,4,4,5,3,4,4,5,4,5,5,6,2,3,3,4,3,4,4,5,3,4,4,5,4,5,5,6,3,4,4,5,4,5,5,6,4,5,5,6,5,6,6,7,1,2,2,3,2,3,3,4,2,3,3,4,3,4,4,5,2,3,3,4,3,4,4,5,3,4,4,5,4,5,5,6,2,3,3,4,3,4,4,5,3,4,4,5,4,5,5,6,3,4,4,5,4,5,5,6,4,5,5,6,5,6,6,7,2,3,3,4,3,4,4,5,3,4,4,5,4,5,5,6,3,4,4,5,4,5,5,6,4,5,5,6,5,6,6,7,3,4,4,5,4,5,5,6,4,5,5,6,5,6,6,7,4,5,5,6,5,6,6,7,5,6,6,7,6,7,7,8]
def cw (n:Nat):Nat->Bool
 |0=>false
 |k+1=>xor (cw n k) (n.testBit k)
theorem Tf:∀j:Nat,j<256->(jJ.getD j 0).toNat%2=if cw j 8 then 1 else 0:=by decide +kernel
theorem AH:jJ.length=256:=by decide +kernel
theorem GM {x:Int} {y:UInt8} (hx:x=y.toNat):a7 C 266 [vi .u8 x] [] (.ret (i64 (jJ.getD y.toNat 0).toNat)) []:=by
 subst hx;have hy:=y.toNat_lt;refine LW.c ?_;refine⟨by omega,?_,?_⟩
 ·show((y.toNat:Nat):Int)<((256:Nat):Int);omega
 refine⟨jJ.getD y.toNat 0,?_,?_⟩
 ·rw[Zb];show jJ[y.toNat]? =_;rw[Zf (by rw[AH];omega),Zd,Zf (by rw[AH];omega)];rfl
 refine⟨_,rfl,[],c9 ?_,tq⟩;exact gz _
def kD (rs:Bs) (x:UInt8) (c:UInt8) (i:Nat):UInt8:=if cw ((x&&&rs.getD i 0).toNat) 8 then c^^^((1:UInt8)<<<Zt i)else c
def cB (rs:Bs) (x c:UInt8) (n:Nat):UInt8:=(List.range n).foldl (kD rs x) c
theorem qT (rs x c n):cB rs x c (n+1)=kD rs x (cB rs x c n) n:=by simp[cB,Zz]
theorem Sq:∀i,i<8->ones8[i]? =some (.int .u8 ((((1:UInt8)<<<Zt i).toNat:Nat):Int)):=by
 intro i hi;rcases i with _|_|_|_|_|_|_|_|i;all_goals first|rfl|omega
theorem vY {r0 r1 r2 r3 r4 r5 r6 r7:UInt8} {i:Nat} (hi:i<8):([u8 r0,u8 r1,u8 r2,u8 r3,u8 r4,u8 r5,u8 r6,u8 r7]:List V)[i]? =some (u8 ([r0,r1,r2,r3,r4,r5,r6,r7].getD i 0)):=by
 rcases i with _|_|_|_|_|_|_|_|i;all_goals first|rfl|omega
theorem EY {x z:Int} {a c r0 r1 r2 r3 r4 r5 r6 r7:UInt8} (hx:x=a.toNat) (hz:z=c.toNat):a7 C 244 [vi .u8 x,.a [u8 r0,u8 r1,u8 r2,u8 r3,u8 r4,u8 r5,u8 r6,u8 r7],vi .u8 z] [] (.ret (u8 (cB [r0,r1,r2,r3,r4,r5,r6,r7] a c 8))) []:=by
 subst hx;subst hz;refine LY.c ?_;refine⟨_,rfl,rfl,?_⟩;refine j4 (fun i=>⟨[(0,u8 a),(2,u8 (cB [r0,r1,r2,r3,r4,r5,r6,r7] a c i)),(9,.a [u8 r0,u8 r1,u8 r2,u8 r3,u8 r4,u8 r5,u8 r6,u8 r7]),(10,i64 i)],[]⟩) 8 ⟨[],⟨rfl,rfl,rfl,rfl,tq⟩,tq⟩ fun i hi=> ?_;refine b8 (fun h=> ?_) (fun h=> ?_)
 ·have a8:i<8:=(by omega);refine⟨by omega,by omega,?_⟩;refine⟨_,by rw[Zb,Zm];exact vY a8,?_⟩;refine⟨[],_,_,_,_,GM (uN _ _),rfl,rfl,?_⟩;refine⟨by decide,?_⟩;have hp:=Tf (a&&&[r0,r1,r2,r3,r4,r5,r6,r7].getD i 0).toNat (Ji _);have e1:(((jJ.getD (a&&&[r0,r1,r2,r3,r4,r5,r6,r7].getD i 0).toNat 0).toNat:Nat):Int).tmod 2=((if cw (a&&&[r0,r1,r2,r3,r4,r5,r6,r7].getD i 0).toNat 8 then 1 else 0:Nat):Int):=by
   rw[<-hp];exact U2 _ 2
  refine b8 (fun hb=> ?_) (fun hb=> ?_)
  ·rw[e1]at hb;have ht:cw (a&&&[r0,r1,r2,r3,r4,r5,r6,r7].getD i 0).toNat 8=true:=by
    cases hc:cw (a&&&[r0,r1,r2,r3,r4,r5,r6,r7].getD i 0).toNat 8
    ·rw[hc]at hb;exact absurd hb (by decide)
    ·rfl
   refine⟨by omega,by omega,?_⟩;refine⟨_,by rw[Zb,Zm,Zl];exact Sq i a8,?_⟩;refine⟨i+1,by omega,by omega,[],⟨rfl,congrArg (vi .u8) ?_,rfl,c9 (by simp(disch:=omega)only[Za];omega),tq⟩,tq⟩;rw[s6,qT,kD,if_pos ht]
  ·rw[e1]at hb;have ht:cw (a&&&[r0,r1,r2,r3,r4,r5,r6,r7].getD i 0).toNat 8=false:=by
    cases hc:cw (a&&&[r0,r1,r2,r3,r4,r5,r6,r7].getD i 0).toNat 8
    ·rfl
    ·rw[hc]at hb;exact absurd (by decide) hb
   refine⟨i+1,by omega,by omega,[],⟨rfl,?_,rfl,c9 (by simp(disch:=omega)only[Za];omega),tq⟩,tq⟩;show u8 _=u8 _;rw[qT,kD,ht,if_neg (by decide)]
 ·obtain rfl:i=8:=(by omega);exact⟨_,rfl,[],rfl,tq⟩
theorem ZL (c y:UInt8) (i k:Nat) (hi:i<8) (hk:k<8):U8.wrap ((Zc U8.bits (c.toNat:Int)^^^Zc U8.bits (U8.wrap (U8.wrap ((Zc U8.bits ((y.toNat:Int).fdiv (2^(min ((k:Int)).toNat U8.bits)))&&&Zc U8.bits 1).toNat:Int)*2^(min (U6.wrap (i:Int)).toNat U8.bits)))).toNat:Int)
  =(((if y.toNat.testBit k then c^^^((1:UInt8)<<<Zt i)else c).toNat:Nat):Int):=by
 rw[DC y hk,show U6.wrap (i:Int)=(i:Int) by rw[B5];omega];cases hc:y.toNat.testBit k
 ·rw[if_neg (by decide),if_neg (by decide),Int.zero_mul,show U8.wrap 0=((0:UInt8).toNat:Int) from rfl,s6,UInt8.xor_zero]
 ·rw[if_pos rfl,if_pos rfl,show(1:Int)=((1:UInt8).toNat:Int) from rfl,ZK 1 i (by omega) (by omega),s6,Zb]
theorem Ho {x z:Int} {a c r0 r1 r2 r3 r4 r5 r6 r7:UInt8} (hx:x=a.toNat) (hz:z=c.toNat):a7 C 225 [vi .u8 x,.a [u8 r0,u8 r1,u8 r2,u8 r3,u8 r4,u8 r5,u8 r6,u8 r7],vi .u8 z] [] (.ret (u8 (cB [r0,r1,r2,r3,r4,r5,r6,r7] a c 8))) []:=by
 subst hx;subst hz;refine NS.c ?_;refine j4 (fun i=>⟨[(0,u8 a),(2,u8 (cB [r0,r1,r2,r3,r4,r5,r6,r7] a c i)),(4,.p (.k 0) 0),(7,i64 i)],[.mx [u8 r0,u8 r1,u8 r2,u8 r3,u8 r4,u8 r5,u8 r6,u8 r7]]⟩) 8 ⟨[.d 4 0],⟨rfl,rfl,rfl,rfl,tq⟩,⟨_,rfl,rfl⟩,tq⟩ fun i hi=> ?_;refine b8 (fun h=> ?_) (fun h=> ?_)
 ·have a8:i<8:=(by omega);refine⟨by omega,by omega,?_⟩;refine⟨_,by rw[Zb,Zm,Zl];exact vY a8,?_⟩;generalize hc0:cB [r0,r1,r2,r3,r4,r5,r6,r7] a c i=c0;generalize hg:[r0,r1,r2,r3,r4,r5,r6,r7].getD i 0=r;have eb:U8.wrap ((Zc U8.bits (r.toNat:Int)&&&Zc U8.bits (a.toNat:Int)).toNat:Int)=((a&&&r).toNat:Int):=by
   rw[uN,UInt8.and_comm]
  refine j4 (fun k=>⟨[(0,u8 a),(2,u8 (if cw (a&&&r).toNat k then c0^^^((1:UInt8)<<<Zt i)else c0)),(4,.p (.k 0) 0),(7,i64 i),(8,u8 (a&&&r)),(9,vi .u64 k)],[.mx [u8 r0,u8 r1,u8 r2,u8 r3,u8 r4,u8 r5,u8 r6,u8 r7]]⟩) 8 ⟨[.k 0],⟨rfl,rfl,rfl,rfl,congrArg (vi .u8) eb,rfl,tq⟩,⟨_,rfl,rfl⟩,tq⟩ fun k hk=> ?_;refine b8 (fun h=> ?_) (fun h=> ?_)
  ·have hkl:k<8:=(by omega);refine⟨by omega,?_⟩;refine⟨by rw[B5];omega,?_⟩;refine⟨k+1,by omega,by omega,[.k 0],⟨rfl,congrArg (vi .u8) ?_,rfl,rfl,rfl,congrArg (vi .u64) (by rw[B5];omega),tq⟩,⟨_,rfl,rfl⟩,tq⟩;rw[ZL _ _ _ _ a8 hkl];show(((if _ then _ else _:UInt8).toNat:Nat):Int)=(((if xor (cw (a&&&r).toNat k) ((a&&&r).toNat.testBit k)=true then _ else _:UInt8).toNat:Nat):Int);cases cw (a&&&r).toNat k<;>cases (a&&&r).toNat.testBit k<;>simp[UInt8.xor_assoc]
  ·obtain rfl:k=8:=(by omega);refine⟨i+1,by omega,by omega,[.k 0],⟨rfl,?_,rfl,c9 (by simp(disch:=omega)only[Za];omega),tq⟩,⟨_,rfl,rfl⟩,tq⟩;show u8 _=u8 _;rw[qT,kD,hc0,hg]
 ·obtain rfl:i=8:=(by omega);exact⟨_,rfl,[],rfl,tq⟩
def aF (e:Nat) (m:Nat) (rs:Bs) (c:UInt8) (n:Nat):Bs:=(List.range n).map fun x=>cB rs (oy m (Zt x) e) c 8
theorem pg (e m rs c n):(aF e m rs c n).length=n:=by simp[aF]
theorem zW (e m rs c n):aF e m rs c (n+1)=aF e m rs c n++[cB rs (oy m (Zt n) e) c 8]:=by simp[aF,Zz]
theorem lW {l:Bs} {n k:Nat} {x:UInt8} (hl:l.length=k) (h:k<n):(bv (l++Zk (n-k) 0)).set k (.int .u8 x.toNat)=bv (l++[x]++Zk (n-(k+1)) 0):=by
 rw[K3,show n-k=(n-(k+1))+1 by omega,Kb,uq hl];simp
theorem wS {e m:Nat} {z:Int} {c r0 r1 r2 r3 r4 r5 r6 r7:UInt8} (hz:z=c.toNat) (h1:256<=m) (h2:m<512) (he:128<=e) (he2:e<256):a7 C 202 [i64 e,i64 m,.a [u8 r0,u8 r1,u8 r2,u8 r3,u8 r4,u8 r5,u8 r6,u8 r7],vi .u8 z] [] (.ret (.o 1 (.k 0) 0 256)) [.sc (bv (aF e m [r0,r1,r2,r3,r4,r5,r6,r7] c 256))]:=by
 subst hz;refine Mb.c ?_;refine⟨by decide,by decide,by decide,?_⟩;refine j4 (fun i=>⟨[(0,i64 e),(1,i64 m),(3,u8 c),(6,.p (.k 0) 0),(9,.o 1 (.k 1) 0 256),(13,i64 256),(14,i64 i)],[.mx [u8 r0,u8 r1,u8 r2,u8 r3,u8 r4,u8 r5,u8 r6,u8 r7],.sc (bv (aF e m [r0,r1,r2,r3,r4,r5,r6,r7] c i++Zk (256-i) 0))]⟩) 256 ⟨[.d 6 0,.d 11 0],⟨rfl,rfl,rfl,rfl,rfl,rfl,rfl,tq⟩,⟨_,rfl,rfl⟩,⟨_,rfl,d8 (by rw[show aF e m [r0,r1,r2,r3,r4,r5,r6,r7] c 0=[] from rfl,Jp];exact P4 256)⟩,tq⟩ fun i hi=> ?_;refine b8 (fun h=> ?_) (fun h=> ?_)
 ·have a8:i<256:=(by omega);refine⟨[],_,_,_,_,Gn (a:=Zt i) (aG i) he he2 h1 h2,rfl,rfl,?_⟩;refine⟨_,rfl,rfl,?_⟩;refine⟨[],_,_,_,_,EY rfl rfl,rfl,rfl,?_⟩;refine⟨by omega,by omega,by rw[f9];simp[pg];omega,?_⟩;refine⟨i+1,by omega,by omega,[.k 0,.k 1],⟨rfl,rfl,rfl,rfl,rfl,rfl,c9 (by simp(disch:=omega)only[Za];omega),tq⟩,⟨_,rfl,rfl⟩,⟨_,rfl,d8 ?_⟩,tq⟩;rw[Zb,Zm,Zl,lW (pg _ _ _ _ _) a8,zW]
 ·obtain rfl:i=256:=(by omega);refine⟨_,rfl,[.k 1],rfl,⟨_,rfl,d8 ?_⟩,tq⟩;simp
theorem wZ {e m:Nat} {z:Int} {c r0 r1 r2 r3 r4 r5 r6 r7:UInt8} (hz:z=c.toNat) (h1:256<=m) (h2:m<512) (he:128<=e) (he2:e<256):a7 C 170 [i64 e,i64 m,.a [u8 r0,u8 r1,u8 r2,u8 r3,u8 r4,u8 r5,u8 r6,u8 r7],vi .u8 z] [] (.ret (.o 1 (.k 0) 0 256)) [.sc (bv (aF e m [r0,r1,r2,r3,r4,r5,r6,r7] c 256))]:=by
 subst hz;refine NV.c ?_;refine⟨by decide,by decide,by decide,?_⟩;refine j4 (fun i=>⟨[(0,i64 e),(1,i64 m),(3,u8 c),(6,.p (.k 0) 0),(9,.o 1 (.k 1) 0 256),(10,i64 i)],[.mx [u8 r0,u8 r1,u8 r2,u8 r3,u8 r4,u8 r5,u8 r6,u8 r7],.sc (bv (aF e m [r0,r1,r2,r3,r4,r5,r6,r7] c i++Zk (256-i) 0))]⟩) 256 ⟨[.d 6 0,.d 11 0],⟨rfl,rfl,rfl,rfl,rfl,rfl,tq⟩,⟨_,rfl,rfl⟩,⟨_,rfl,d8 (by rw[show aF e m [r0,r1,r2,r3,r4,r5,r6,r7] c 0=[] from rfl,Jp];exact P4 256)⟩,tq⟩ fun i hi=> ?_;refine b8 (fun h=> ?_) (fun h=> ?_)
 ·have a8:i<256:=(by omega);refine⟨[],_,_,_,_,Hn (a:=Zt i) (aG i) he he2 h1 h2,rfl,rfl,?_⟩;refine⟨_,rfl,rfl,?_⟩;refine⟨[],_,_,_,_,Ho rfl rfl,rfl,rfl,?_⟩;refine⟨by omega,by omega,by rw[f9];simp[pg];omega,?_⟩;refine⟨i+1,by omega,by omega,[.k 0,.k 1],⟨rfl,rfl,rfl,rfl,rfl,c9 (by simp(disch:=omega)only[Za];omega),tq⟩,⟨_,rfl,rfl⟩,⟨_,rfl,d8 ?_⟩,tq⟩;rw[Zb,Zm,Zl,lW (pg _ _ _ _ _) a8,zW]
 ·obtain rfl:i=256:=(by omega);refine⟨_,rfl,[.k 1],rfl,⟨_,rfl,d8 ?_⟩,tq⟩;simp
def bl (l:List Bool):List V:=l.map fun b=> .s (.bool b)
def O0 (l:List Bool):List Value:=l.map fun b=> .bool b
theorem kJ (l):(bl l).length=l.length:=by simp[bl]
theorem dz (l):(O0 l).length=l.length:=by simp[O0]
theorem wq (l):(O0 l).map V.s=bl l:=by simp[bl,O0]
theorem ro (l:List Bool) (i:Nat) (b:Bool):(O0 l).set i (.bool b)=O0 (l.set i b):=by simp[O0,List.map_set]
theorem wa (a6 dst):∀l,aq a6 dst (bl l)=bl l
 |[]=>rfl
 |b::r=>by show V.s (.bool b)::aq a6 dst (bl r)=_;rw[wa a6 dst r];rfl
theorem Rl (H a6 n) (l):(bl l).map (l7 H a6 (n+1))=bl l:=by
 induction l with
 |nil=>rfl
 |cons b r ih=>
  have ih':List.map (l7 H a6 (n+1)) (bl r)=bl r:=ih;show V.s (.bool b)::List.map (l7 H a6 (n+1)) (bl r)=_;rw[ih'];rfl
def S5 (t:Bs):List Bool:=(List.range 256).map fun j=>decide (Zt j∈t)
theorem bx (t):(S5 t).length=256:=by simp[S5]
theorem mD (t) {j:Nat} (h:j<256):(S5 t)[j]? =some (decide (Zt j∈t)):=by simp[S5,h]
theorem Be {t:Bs} {i:Nat} (h:i<t.length):(S5 (t.take i)).set (t[i]).toNat true=S5 (t.take (i+1)):=by
 apply Z3;intro j;by_cases hj:j<256
 ·rw[Jr,mD _ hj,mD _ hj,bx,Zr h];by_cases he:(t[i]).toNat=j
  ·rw[if_pos he,if_pos (Ji _)];subst he;rw[UInt8.ofNat_toNat,decide_eq_true (List.mem_append_right _ (Kf.2 rfl))]
  ·rw[if_neg he];have:Zt j≠t[i]:=by
    intro hh;apply he;rw[<-hh,Jb,Zh (show j<2^8 from hj)]
   congr 1;apply decide_eq_decide.2;simp only[Kv,Kf,this,or_false]
 ·rw[Zg (by simp[bx];omega),Zg (by rw[bx];omega)]
theorem Bd:O0 (S5 [])=Zk 256 (Value.bool false):=by
 apply Z3;intro j;by_cases hj:j<256
 ·unfold O0;rw[Je,mD _ hj,Jd,if_pos hj];rfl
 ·rw[Zg (by simp[O0,S5];omega),Zg (by simp;omega)]
theorem Wc {t:Bs} (h:∀j,j<256->Zt j∈t):S5 t=Zk 256 true:=by
 apply Z3;intro j;by_cases hj:j<256
 ·rw[mD _ hj,decide_eq_true (h j hj),Jd,if_pos hj]
 ·rw[Zg (by rw[bx];omega),Zg (by simp;omega)]
theorem Iv {va:List Value} {t:Bs} {n:Nat} (ha:va=bv t) (ht:t.length=n) (hm:n<=1000000):a7 C 267 [.z n va] [] (.ret (.a (bl (S5 t)))) []:=by
 subst ha;subst ht;refine Mc.c ?_;refine j4 (fun i=>⟨[(2,.p (.k 0) 0),(5,bz t),(6,i64 t.length),(7,i64 i)],[.sc (O0 (S5 (t.take i)))]⟩) t.length ⟨[.d 2 0],⟨rfl,rfl,rfl,rfl,tq⟩,⟨_,rfl,d8 ?_⟩,tq⟩ fun i hi=> ?_
 ·rw[K2,Bd];rfl
 refine b8 (fun h=> ?_) (fun h=> ?_)
 ·have a8:i<t.length:=(by omega);have hx:=Ji (t[i]);refine⟨by omega,by omega,?_⟩;refine⟨_,by rw[Zb];exact au a8,?_⟩;refine⟨by omega,by omega,?_⟩;refine⟨by rw[dz,bx];omega,?_⟩;refine⟨i+1,by omega,by omega,[.k 0],⟨rfl,rfl,rfl,c9 (by simp(disch:=omega)only[Za];omega),tq⟩,⟨_,rfl,d8 ?_⟩,tq⟩;rw[Zb,Zm,Zl,ro,Be a8]
 ·obtain rfl:i=t.length:=(by omega);rw[Zq];refine⟨O0 (S5 t),?_,?_,?_⟩
  ·exact E0 (by rw[dz,bx])
  ·rw[dz,bx]
  rw[wq];refine⟨by rw[kJ,dz];omega,?_⟩;refine⟨bl (S5 t),?_,by rw[kJ,bx],?_⟩
  ·unfold lay;split
   ·rename_i c hc;have:=congrArg List.length hc;rw[kJ,bx]at this;simp at this
   ·rw[K2,Jp,Kt (by simp[kJ,dz]),Z8];simp[sub,kJ,bx,Ks]
  refine⟨_,rfl,[],?_,tq⟩;show V.a ((bl (S5 t)).map (l7 _ [] 5))=_;rw[Rl]
def ai (n:Nat):List Bool:=(List.range 256).map fun j=>decide (j<n)
theorem gC (n):(ai n).length=256:=by simp[ai]
theorem ZZ:O0 (ai 0)=Zk 256 (Value.bool false):=by
 apply Z3;intro j;by_cases hj:j<256
 ·unfold O0 ai;rw[Je,Je,Jv hj,Jd,if_pos hj];simp
 ·rw[Zg (by simp[O0,ai];omega),Zg (by simp;omega)]
theorem ZY {i:Nat} (h:i<256):(ai i).set i true=ai (i+1):=by
 apply Z3;intro j;by_cases hj:j<256
 ·rw[Jr,gC];by_cases he:i=j
  ·subst he;simp[ai,h]
  ·rw[if_neg he];simp[ai,hj];omega
 ·rw[Zg (by simp[gC];omega),Zg (by rw[gC];omega)]
theorem ZX:ai 256=Zk 256 true:=by
 apply Z3;intro j;by_cases hj:j<256
 ·unfold ai;rw[Je,Jv hj,Jd,if_pos hj];simp[hj]
 ·rw[Zg (by rw[gC];omega),Zg (by simp;omega)]
theorem Gz {va:List Value} {t:Bs} (ha:va=bv t) (ht:t.length=256) (hall:∀j,j<256->Zt j∈t):a7 C 246 [.z 256 va] [] (.ret (bool true)) []:=by
 subst ha;refine Ma.c ?_;refine j4 (fun i=>⟨[(0,.z 256 (bv t)),(3,.p (.k 0) 0),(9,i64 256),(10,i64 i)],[.sc (O0 (ai i))]⟩) 256 ⟨[.d 3 0],⟨rfl,rfl,rfl,rfl,tq⟩,⟨_,rfl,d8 ZZ.symm⟩,tq⟩ fun i hi=> ?_;refine b8 (fun h=> ?_) (fun h=> ?_)
 ·have a8:i<256:=(by omega);refine⟨by omega,by omega,by rw[dz,gC];omega,?_⟩;refine⟨i+1,by omega,by omega,[.k 0],⟨rfl,rfl,rfl,c9 (by simp(disch:=omega)only[Za];omega),tq⟩,⟨_,rfl,d8 ?_⟩,tq⟩;rw[Zb,Zm,Zl,ro,ZY a8]
 ·obtain rfl:i=256:=(by omega);refine⟨[],_,_,_,_,Iv (t:=t) rfl ht (by decide),rfl,rfl,?_⟩;refine⟨O0 (ai 256),?_,by rw[dz,gC],?_⟩
  ·exact E0 (by rw[dz,gC])
  refine⟨S5 t,ai 256,?_,?_,bx t,gC _,?_⟩
  ·exact wa _ _ _
  ·exact wq _
  refine⟨_,rfl,[],congrArg bool ?_,tq⟩;rw[Wc hall,ZX];exact decide_eq_true rfl
def bQ (t:Bs) (n:Nat):Bs:=(List.range n).foldl (fun o i=>o.set (t.getD i 0).toNat (Zt i)) (Zk 256 0)
theorem rc (t n):bQ t (n+1)=(bQ t n).set (t.getD n 0).toNat (Zt n):=by simp[bQ,Zz]
theorem wc (t n):(bQ t n).length=256:=by
 induction n with
 |zero=>simp[bQ]
 |succ n ih=>rw[rc,Zu,ih]
theorem wB {va:List Value} {t:Bs} (ha:va=bv t) (ht:t.length=256) (hall:∀j,j<256->Zt j∈t):a7 C 203 [.z 256 va] [] (.ret (.t [.o 1 (.k 0) 0 256,bool true])) [.sc (bv (bQ t 256))]:=by
 subst ha;refine LZ.c ?_;refine⟨[],_,_,_,_,Gz rfl ht hall,rfl,rfl,?_⟩;refine⟨by omega,Jh _,by omega,?_⟩;refine j4 (fun i=>⟨[(4,.o 1 (.k 0) 0 256),(13,.z 256 (bv t)),(14,i64 256),(15,i64 i)],[.sc (bv (bQ t i))]⟩) 256 ⟨[.d 12 0],⟨rfl,rfl,rfl,rfl,tq⟩,⟨_,rfl,d8 (P4 256)⟩,tq⟩ fun i hi=> ?_;refine b8 (fun h=> ?_) (fun h=> ?_)
 ·have a8:i<256:=(by omega);have hx:=Ji (t.getD i 0);refine⟨by omega,by omega,?_⟩;refine⟨_,by rw[Zb];exact y7 (by omega),?_⟩;refine⟨by omega,by omega,by rw[f9,wc];omega,?_⟩;refine⟨i+1,by omega,by omega,[.k 0],⟨rfl,rfl,rfl,c9 (by simp(disch:=omega)only[Za];omega),tq⟩,⟨_,rfl,d8 ?_⟩,tq⟩;rw[Zb,Zm,Zl,aG,K3,rc]
 ·obtain rfl:i=256:=(by omega);exact⟨_,rfl,[.k 0],rfl,⟨_,rfl,rfl⟩,tq⟩
theorem Sh {t:Bs} (hnd:t.Nodup) {i:Nat} (h:i<t.length):t[i]∉t.take i:=by
 intro hm;obtain⟨j,hj,he⟩:=List.getElem_of_mem hm;simp at hj;rw[List.getElem_take]at he;have:=(List.getElem?_inj (i:=j) (j:=i) (by omega) hnd).1 (by rw[Zf (by omega),Zf h,he]);omega
theorem Hq {va:List Value} {t:Bs} (ha:va=bv t) (ht:t.length=256) (hnd:t.Nodup):a7 C 227 [.z 256 va] [] (.ret (bool true)) []:=by
 subst ha;refine NU.c ?_;refine⟨by omega,Jh _,by omega,?_⟩;refine j4 (fun i=>⟨[(0,.z 256 (bv t)),(3,.o 1 (.k 0) 0 256),(4,i64 i)],[.sc (O0 (S5 (t.take i)))]⟩) 256 ⟨[.d 5 0],⟨rfl,rfl,rfl,tq⟩,⟨_,rfl,d8 (by rw[K2,Bd];rfl)⟩,tq⟩ fun i hi=> ?_;refine b8 (fun h=> ?_) (fun h=> ?_)
 ·have a8:i<256:=(by omega);have hlt':i<t.length:=(by omega);have hx:=Ji (t[i]);have hs:(O0 (S5 (t.take i)))[0+((t[i]).toNat:Int).toNat*1]? =some (.bool false):=by
   rw[Zb,Zm,Zl];have h1:=mD (t.take i) hx;rw[UInt8.ofNat_toNat,decide_eq_false (Sh hnd hlt')]at h1;simp[O0,h1]
  refine⟨by omega,by omega,?_⟩;refine⟨_,by rw[Zb];exact au hlt',?_⟩;refine b8 (fun hg=>absurd hg (by rw[gz];omega)) (fun _=> ?_);refine⟨by omega,by omega,?_⟩;refine⟨_,by rw[Zb];exact au hlt',?_⟩;refine⟨by omega,by omega,?_⟩;refine⟨_,hs,?_⟩;refine⟨by omega,by omega,?_⟩;refine⟨_,by rw[Zb];exact au hlt',?_⟩;refine⟨by omega,by omega,by rw[dz,bx];omega,?_⟩;refine⟨i+1,by omega,by omega,[.k 0],⟨rfl,rfl,c9 (by simp(disch:=omega)only[Za];omega),tq⟩,⟨_,rfl,d8 ?_⟩,tq⟩;rw[Zb,Zm,Zl,ro,Be hlt']
 ·obtain rfl:i=256:=(by omega);exact⟨_,rfl,[],rfl,tq⟩
theorem wY {va:List Value} {t:Bs} (ha:va=bv t) (ht:t.length=256) (hnd:t.Nodup):a7 C 171 [.z 256 va] [] (.ret (.t [.o 1 (.k 0) 0 256,bool true])) [.sc (bv (bQ t 256))]:=by
 subst ha;refine NT.c ?_;refine⟨[],_,_,_,_,Hq rfl ht hnd,rfl,rfl,?_⟩;refine⟨by omega,Jh _,by omega,?_⟩;refine j4 (fun i=>⟨[(0,.z 256 (bv t)),(4,.o 1 (.k 0) 0 256),(5,i64 i)],[.sc (bv (bQ t i))]⟩) 256 ⟨[.d 11 0],⟨rfl,rfl,rfl,tq⟩,⟨_,rfl,d8 (P4 256)⟩,tq⟩ fun i hi=> ?_;refine b8 (fun h=> ?_) (fun h=> ?_)
 ·have a8:i<256:=(by omega);have hx:=Ji (t.getD i 0);refine⟨by omega,by omega,?_⟩;refine⟨_,by rw[Zb];exact y7 (by omega),?_⟩;refine⟨by omega,by omega,by rw[f9,wc];omega,?_⟩;refine⟨i+1,by omega,by omega,[.k 0],⟨rfl,rfl,c9 (by simp(disch:=omega)only[Za];omega),tq⟩,⟨_,rfl,d8 ?_⟩,tq⟩;rw[Zb,Zm,Zl,aG,K3,rc]
 ·obtain rfl:i=256:=(by omega);exact⟨_,rfl,[.k 0],rfl,⟨_,rfl,rfl⟩,tq⟩
def tb (b:Bs) (j:Nat):Bool:=(b.getD (j/8) 0).toNat.testBit (7-j%8)
def bR (f:Nat->Bool):UInt8:=Zt (128*(f 0).toNat+64*(f 1).toNat+32*(f 2).toNat+16*(f 3).toNat+8*(f 4).toNat+4*(f 5).toNat+2*(f 6).toNat+(f 7).toNat)
theorem EU:∀b0 b1 b2 b3 b4 b5 b6 b7:Bool,∀r:Fin 8,(Zt (128*b0.toNat+64*b1.toNat+32*b2.toNat+16*b3.toNat+8*b4.toNat+4*b5.toNat+2*b6.toNat+b7.toNat)).toNat.testBit (7-r.val)=[b0,b1,b2,b3,b4,b5,b6,b7].getD r.val false:=by decide +kernel
theorem kM (f:Nat->Bool) {r:Nat} (hr:r<8):(bR f).toNat.testBit (7-r)=f r:=by
 have h:=EU (f 0) (f 1) (f 2) (f 3) (f 4) (f 5) (f 6) (f 7) ⟨r,hr⟩;have e:[f 0,f 1,f 2,f 3,f 4,f 5,f 6,f 7].getD r false=f r:=by
  rcases r with _|_|_|_|_|_|_|_|r;all_goals first|rfl|omega
 rw[<-e,<-h];rfl
theorem uO {a b:UInt8} (h:∀r,r<8->a.toNat.testBit (7-r)=b.toNat.testBit (7-r)):a=b:=by
 apply Ku.1;apply Nat.eq_of_testBit_eq;intro i;by_cases hi:i<8
 ·have:=h (7-i) (by omega)
  rwa [show 7-(7-i)=i by omega]at this
 ·have hp:∀w:UInt8,w.toNat.testBit i=false:=fun w=>Kq (Nat.lt_of_lt_of_le w.toNat_lt (Z5 (by decide) (by omega)));rw[hp,hp]
def W1 (n:Nat) (f:Nat->Bool):Bs:=(List.range n).map fun q=>bR fun r=>f (8*q+r)
theorem eC (n f):(W1 n f).length=n:=by simp[W1]
theorem eO {n:Nat} {f:Nat->Bool} {j:Nat} (h:j<8*n):tb (W1 n f) j=f j:=by
 unfold tb W1;have hq:j/8<n:=by omega
 rw[Zd,Je,Jv hq];show(bR fun r=>f (8*(j/8)+r)).toNat.testBit (7-j%8)=f j;rw[kM _ (Z4 _ (by decide))];congr 1;omega
theorem mN {a b:Bs} (hl:a.length=b.length) (h:∀j,j<8*a.length->tb a j=tb b j):a=b:=by
 apply List.ext_getElem hl;intro i h1 h2;apply uO;intro r hr;have:=h (8*i+r) (by omega);unfold tb at this;rw[show (8*i+r)/8=i by omega,show(8*i+r)%8=r by omega]at this;rw[Zd,Zf h1,Zd,Zf h2]at this;exact this
def G7 (b:Bs) (n:Nat):Bs:=W1 b.length fun j=>tb b ((j+n)%(8*b.length))
theorem E5 (b n):(G7 b n).length=b.length:=eC _ _
theorem Yv (b:Bs) (n m:Nat) (h0:0<b.length):G7 (G7 b n) m=G7 b ((n+m)%(8*b.length)):=by
 apply mN (by simp[E5]);intro j hj;rw[E5,E5]at hj;have a8:(j+m)%(8*b.length)<8*b.length:=Z4 _ (by omega);unfold G7;rw[eO (by rw[eC];exact hj),eO (by rw[eC];exact a8),eO hj,eC];congr 1;rw[Nat.mod_add_mod,Nat.add_mod_mod,Nat.add_assoc,Nat.add_comm m n]
def jT (x y:UInt8) (r:Nat):UInt8:=Zt ((x.toNat*256+y.toNat)/2^(8-r))
theorem Ui (x y:UInt8) {r j:Nat} (hr:r<8) (hj:j<8):(jT x y r).toNat.testBit (7-j)=if j+r<8 then x.toNat.testBit (7-(j+r))else y.toNat.testBit (15-(j+r)):=by
 unfold jT;rw[Jb,Kl,Nat.testBit_div_two_pow,Nat.mul_comm,show 256=2^8 by decide,Nat.testBit_two_pow_mul_add _ y.toNat_lt];have h7:7-j<8:=by omega
 simp only[h7,decide_true,Bool.true_and];by_cases h:j+r<8
 ·rw[if_pos h,if_neg (by omega)];congr 1;omega
 ·rw[if_neg h,if_pos (by omega)];congr 1;omega
def mO (b:Bs) (n i:Nat):UInt8:=jT (b.getD ((i+n/8)%b.length) 0) (b.getD ((i+n/8+1)%b.length) 0) (n%8)
theorem DA (b:Bs) (n:Nat) (hn:n<8*b.length):(List.range b.length).map (mO b n)=G7 b n:=by
 apply mN (by simp[E5]);intro j hj;simp only[Zy,List.length_range]at hj;have hl:0<b.length:=by omega
 unfold G7;rw[eO hj];have hq:j/8<b.length:=by omega
 unfold tb;rw[Zd,Je,Jv hq];show(mO b n (j/8)).toNat.testBit (7-j%8)=_;unfold mO;rw[Ui _ _ (Z4 _ (by decide)) (Z4 _ (by decide))];by_cases h:j%8+n%8<8
 ·rw[if_pos h];by_cases hw:j+n<8*b.length
  ·have e:(j+n)%(8*b.length)=j+n:=Zh hw;rw[e,show(j+n)/8=j/8+n/8 by omega,Zh (show j/8+n/8<b.length by omega),show(j+n)%8=j%8+n%8 by omega]
  ·have e:(j+n)%(8*b.length)=j+n-8*b.length:=by rw[Jy (by omega),Zh (by omega)]
   have e2:(j/8+n/8)%b.length=j/8+n/8-b.length:=by rw[Jy (by omega),Zh (by omega)]
   rw[e,e2,show(j+n-8*b.length)/8=j/8+n/8-b.length by omega,show(j+n-8*b.length)%8=j%8+n%8 by omega]
 ·rw[if_neg h];by_cases hw:j+n<8*b.length
  ·have e:(j+n)%(8*b.length)=j+n:=Zh hw;rw[e,show(j+n)/8=j/8+n/8+1 by omega,Zh (show j/8+n/8+1<b.length by omega),show 7-(j+n)%8=15-(j%8+n%8) by omega]
  ·have e:(j+n)%(8*b.length)=j+n-8*b.length:=by rw[Jy (by omega),Zh (by omega)]
   have e2:(j/8+n/8+1)%b.length=j/8+n/8+1-b.length:=by rw[Jy (by omega),Zh (by omega)]
   rw[e,e2,show(j+n-8*b.length)/8=j/8+n/8+1-b.length by omega,show 7-(j+n-8*b.length)%8=15-(j%8+n%8) by omega]
theorem pz (a:Nat) {b i:Nat} (hb:b<2^i):a*2^i|||b=a*2^i+b:=by
 rw[<-J6,Nat.shiftLeft_add_eq_or_of_lt hb]
theorem Tg (x y:UInt8) {r:Nat} (hr:r<8):U8.wrap ((U6.wrap ((Zc U6.bits (U6.wrap (U6.wrap (x.toNat:Int)*2^(min (8:Int).toNat U6.bits)))|||Zc U6.bits (U6.wrap (y.toNat:Int))).toNat:Int)).fdiv (2^(min (U6.wrap (8-U6.wrap (r:Int))).toNat U6.bits)))
  =((jT x y r).toNat:Int):=by
 have hx:=x.toNat_lt;have hy:=y.toNat_lt;have e1:U6.wrap (x.toNat:Int)=((x.toNat:Nat):Int):=by rw[B5];omega
 have e2:U6.wrap (y.toNat:Int)=((y.toNat:Nat):Int):=by rw[B5];omega
 have e3:U6.wrap ((x.toNat:Int)*2^(min (8:Int).toNat U6.bits))=((x.toNat*256:Nat):Int):=by
  show U6.wrap ((x.toNat:Int)*2^8)=_;rw[B5];omega
 have e4:U6.wrap (8-U6.wrap (r:Int))=((8-r:Nat):Int):=by rw[B5,B5];omega
 have e5:x.toNat*256|||y.toNat=x.toNat*256+y.toNat:=pz (i:=8) x.toNat hy;rw[e1,e2,e3,e4,iV U6.bits (by simp only[kI];omega) (by simp only[kI];omega),e5];have e6:U6.wrap ((x.toNat*256+y.toNat:Nat):Int)=((x.toNat*256+y.toNat:Nat):Int):=by rw[B5];omega
 rw[e6,Zb,show min (8-r) U6.bits=8-r by simp only[kI];omega,Z1 _ (Kc (Ki (by decide)))];have e7:((x.toNat*256+y.toNat:Nat):Int)/2^(8-r)=(((x.toNat*256+y.toNat)/2^(8-r):Nat):Int):=by
  rw[Ju,Z9];rfl
 rw[e7,aG];rfl
theorem Uj:∀r,r<8->∀x y:Nat,x<256->y<256->(x*2^r%256|||y/2^(8-r))=(x*256+y)/2^(8-r)%256:=by
 intro r hr x y hx hy;have key:∀(a p q:Nat),q<2^p->a*2^p|||q=a*2^p+q:=fun a p q h=>pz a h;rcases r with _|_|_|_|_|_|_|_|r
 ·rw[show y/2^(8-0)=0 by omega,Nat.or_zero];omega
 ·have h1:x*2^1%256=(x%128)*2^1:=by omega
  rw[h1,key _ 1 _ (by show _<2;omega)];omega
 ·have h1:x*2^2%256=(x%64)*2^2:=by omega
  rw[h1,key _ 2 _ (by show _<4;omega)];omega
 ·have h1:x*2^3%256=(x%32)*2^3:=by omega
  rw[h1,key _ 3 _ (by show _<8;omega)];omega
 ·have h1:x*2^4%256=(x%16)*2^4:=by omega
  rw[h1,key _ 4 _ (by show _<16;omega)];omega
 ·have h1:x*2^5%256=(x%8)*2^5:=by omega
  rw[h1,key _ 5 _ (by show _<32;omega)];omega
 ·have h1:x*2^6%256=(x%4)*2^6:=by omega
  rw[h1,key _ 6 _ (by show _<64;omega)];omega
 ·have h1:x*2^7%256=(x%2)*2^7:=by omega
  rw[h1,key _ 7 _ (by show _<128;omega)];omega
 ·omega
theorem Ue (x y:UInt8) {r:Nat} (hr:r<8):U8.wrap ((Zc U8.bits (U8.wrap ((x.toNat:Int)*2^(min (U6.wrap (r:Int)).toNat U8.bits)))|||Zc U8.bits ((y.toNat:Int).fdiv (2^(min (U6.wrap (I6.wrap (8-(r:Int)))).toNat U8.bits)))).toNat:Int)
  =((jT x y r).toNat:Int):=by
 have hx:=x.toNat_lt;have hy:=y.toNat_lt;have e1:U6.wrap (r:Int)=((r:Nat):Int):=by rw[B5];omega
 have e4:U6.wrap (I6.wrap (8-(r:Int)))=((8-r:Nat):Int):=by rw[B5];simp only[IntKind.wrap_i64];omega
 rw[e1,e4,Zb,Zb,show min r U8.bits=r by simp only[iT];omega,show min (8-r) U8.bits=8-r by simp only[iT];omega,Z1 _ (Kc (Ki (by decide))),wrap_u8,wrap_u8];have e5:(x.toNat:Int)*2^r%256=((x.toNat*2^r%256:Nat):Int):=by rw[Jt,Jx,Z9];rfl
 have e6:(y.toNat:Int)/2^(8-r)=((y.toNat/2^(8-r):Nat):Int):=by rw[Ju,Z9];rfl
 have hd:y.toNat/2^(8-r)<256:=Nat.lt_of_le_of_lt (Jo _ _) hy;rw[e5,e6,iV U8.bits (by simp only[iT];omega) (by simp only[iT];omega),Uj r hr _ _ hx hy,jT,Jb];omega
theorem yV {f:Nat->UInt8} {n k:Nat} (h:k<n):(bv ((List.range k).map f++Zk (n-k) 0)).set k (.int .u8 (f k).toNat)=bv ((List.range (k+1)).map f++Zk (n-(k+1)) 0):=by
 rw[lW (by simp) h,Zz,List.map_append];simp
theorem nQ {va:List Value} {b:Bs} {l:Nat} {n:Int} (ha:va=bv b) (hl:b.length=l) (h0:0<l) (hm:l<=1000000) (hn: -9223372036854775808<=n/\n<=9223372036854775807):a7 C 189 [.z l va,i64 n] [] (.ret (.o 1 (.k 0) 0 l)) [.sc (bv (G7 b (n%(8*l)).toNat))]:=by
 subst ha;subst hl;refine Px.c ?_;refine A1 (by simp only[beq_eq_false_iff_ne,ne_eq];omega) ?_;have e8:I6.wrap (8*(b.length:Int))=((8*b.length:Nat):Int):=(by simp(disch:=omega)only[Za];omega);refine⟨[],_,_,_,_,xj (b:=(8*b.length:Nat)) (by omega) (by omega) hn,by rw[<-e8];rfl,rfl,?_⟩;obtain⟨m,hmm,hml⟩:∃m:Nat,n%(8*(b.length:Int))=m/\m<8*b.length:=by
  have h1:=Kw n (b:=8*(b.length:Int)) (by omega);have h2:=Kh n (b:=8*(b.length:Int)) (by omega);exact⟨(n%(8*(b.length:Int))).toNat,by omega,by omega⟩
 have hmm':n%((8*b.length:Nat):Int)=m:=by rw[<-hmm];rfl
 rw[hmm,hmm',Zb];refine⟨by omega,Jh _,by omega,?_⟩;refine j4 (fun i=>⟨[(0,bz b),(1,i64 m),(5,.o 1 (.k 0) 0 b.length),(22,i64 b.length),(23,i64 i)],[.sc (bv ((List.range i).map (mO b m)++Zk (b.length-i) 0))]⟩) b.length ⟨[.d 20 0],⟨rfl,rfl,rfl,rfl,rfl,tq⟩,⟨_,rfl,d8 (by simp[bv])⟩,tq⟩ fun i hi=> ?_;refine b8 (fun h=> ?_) (fun h=> ?_)
 ·have a8:i<b.length:=(by omega);have q8:I6.wrap ((m:Int).tdiv 8)=((m/8:Nat):Int):=by
   rw[show ((m:Int).tdiv 8)=((m/8:Nat):Int) from rfl];simp only[IntKind.wrap_i64];omega
  have ea:I6.wrap ((i:Int)+I6.wrap ((m:Int).tdiv 8))=((i+m/8:Nat):Int):=by rw[q8];simp only[IntKind.wrap_i64];omega
  have eb:I6.wrap (I6.wrap ((i:Int)+I6.wrap ((m:Int).tdiv 8))+1)=((i+m/8+1:Nat):Int):=by rw[ea];simp only[IntKind.wrap_i64];omega
  have ec:(I6.wrap ((i:Int)+I6.wrap ((m:Int).tdiv 8))).tmod (b.length:Int)=(((i+m/8)%b.length:Nat):Int):=by rw[ea];exact U2 _ _
  have ed:(I6.wrap (I6.wrap ((i:Int)+I6.wrap ((m:Int).tdiv 8))+1)).tmod (b.length:Int)=(((i+m/8+1)%b.length:Nat):Int):=by rw[eb];exact U2 _ _
  have h1:(i+m/8)%b.length<b.length:=Z4 _ h0;have h2:(i+m/8+1)%b.length<b.length:=Z4 _ h0;refine⟨by decide,?_⟩;refine⟨by omega,by rw[ec];omega,by rw[ec];omega,?_⟩;refine⟨_,by rw[ec,Zb];exact y7 h1,?_⟩;refine⟨by omega,by rw[ed];omega,by rw[ed];omega,?_⟩;refine⟨_,by rw[ed,Zb];exact y7 h2,?_⟩;refine⟨by decide,by decide,?_⟩;have e9:((m:Int).tmod 8)=((m%8:Nat):Int):=U2 m 8;refine⟨by rw[e9,B5,B5];omega,?_⟩;refine⟨by omega,by omega,by rw[f9];simp;omega,?_⟩;refine⟨i+1,by omega,by omega,[.k 0],⟨rfl,rfl,rfl,rfl,c9 (by simp(disch:=omega)only[Za];omega),tq⟩,⟨_,rfl,d8 ?_⟩,tq⟩;rw[e9,Tg _ _ (Z4 _ (by decide)),Zb,Zm,Zl];exact yV a8
 ·obtain rfl:i=b.length:=(by omega);refine⟨_,rfl,[.k 0],rfl,⟨_,rfl,d8 ?_⟩,tq⟩;rw[Nat.sub_self,List.replicate_zero,Z8,DA b m hml]
theorem kQ {va:List Value} {b:Bs} {l:Nat} {n:Int} (ha:va=bv b) (hl:b.length=l) (h0:0<l) (hm:l<=1000000) (hn: -9223372036854775808<=n/\n<=9223372036854775807):a7 C 165 [.z l va,i64 n] [] (.ret (.o 1 (.k 0) 0 l)) [.sc (bv (G7 b (n%(8*l)).toNat))]:=by
 subst ha;subst hl;refine NK.c ?_;refine⟨by omega,Jh _,by omega,?_⟩;refine A1 (by simp only[beq_eq_false_iff_ne,ne_eq];omega) ?_;have e8:I6.wrap (8*(b.length:Int))=((8*b.length:Nat):Int):=(by simp(disch:=omega)only[Za];omega);refine⟨[],_,_,_,_,wW (b:=(8*b.length:Nat)) (by omega) (by omega) hn,by rw[<-e8];rfl,rfl,?_⟩;obtain⟨m,hmm,hml⟩:∃m:Nat,n%(8*(b.length:Int))=m/\m<8*b.length:=by
  have h1:=Kw n (b:=8*(b.length:Int)) (by omega);have h2:=Kh n (b:=8*(b.length:Int)) (by omega);exact⟨(n%(8*(b.length:Int))).toNat,by omega,by omega⟩
 have hmm':n%((8*b.length:Nat):Int)=m:=by rw[<-hmm];rfl
 rw[hmm,hmm',Zb];refine j4 (fun i=>⟨[(0,bz b),(5,.o 1 (.k 0) 0 b.length),(6,i64 m),(7,i64 i)],[.sc (bv ((List.range i).map (mO b m)++Zk (b.length-i) 0))]⟩) b.length ⟨[.d 12 0],⟨rfl,rfl,rfl,rfl,tq⟩,⟨_,rfl,d8 (by simp[bv])⟩,tq⟩ fun i hi=> ?_;refine b8 (fun h=> ?_) (fun h=> ?_)
 ·have a8:i<b.length:=(by omega);have q8:I6.wrap ((m:Int).tdiv 8)=((m/8:Nat):Int):=by
   rw[show ((m:Int).tdiv 8)=((m/8:Nat):Int) from rfl];simp only[IntKind.wrap_i64];omega
  have ea:I6.wrap ((i:Int)+I6.wrap ((m:Int).tdiv 8))=((i+m/8:Nat):Int):=by rw[q8];simp only[IntKind.wrap_i64];omega
  have eb:I6.wrap (I6.wrap ((i:Int)+I6.wrap ((m:Int).tdiv 8))+1)=((i+m/8+1:Nat):Int):=by rw[ea];simp only[IntKind.wrap_i64];omega
  have ec:(I6.wrap ((i:Int)+I6.wrap ((m:Int).tdiv 8))).tmod (b.length:Int)=(((i+m/8)%b.length:Nat):Int):=by rw[ea];exact U2 _ _
  have ed:(I6.wrap (I6.wrap ((i:Int)+I6.wrap ((m:Int).tdiv 8))+1)).tmod (b.length:Int)=(((i+m/8+1)%b.length:Nat):Int):=by rw[eb];exact U2 _ _
  have h1:(i+m/8)%b.length<b.length:=Z4 _ h0;have h2:(i+m/8+1)%b.length<b.length:=Z4 _ h0;refine⟨by decide,by omega,by rw[ec];omega,by rw[ec];omega,?_⟩;refine⟨_,by rw[ec,Zb];exact y7 h1,?_⟩;refine⟨by decide,by omega,by rw[ed];omega,by rw[ed];omega,?_⟩;refine⟨_,by rw[ed,Zb];exact y7 h2,?_⟩;have e9:((m:Int).tmod 8)=((m%8:Nat):Int):=U2 m 8;refine⟨by decide,by rw[e9,B5];omega,by decide,by rw[e9,B5];simp only[IntKind.wrap_i64];omega,?_⟩;refine⟨by omega,by omega,by rw[f9];simp;omega,?_⟩;refine⟨i+1,by omega,by omega,[.k 0],⟨rfl,rfl,rfl,c9 (by simp(disch:=omega)only[Za];omega),tq⟩,⟨_,rfl,d8 ?_⟩,tq⟩;rw[e9,Ue _ _ (Z4 _ (by decide)),Zb,Zm,Zl];exact yV a8
 ·obtain rfl:i=b.length:=(by omega);refine⟨_,rfl,[.k 0],rfl,⟨_,rfl,d8 ?_⟩,tq⟩;rw[Nat.sub_self,List.replicate_zero,Z8,DA b m hml,Zb]
def nv (l:List Nat):List Value:=l.map fun(x:Nat)=>Value.int .i64 (x:Int)
abbrev nz (l:List Nat):V:= .z l.length (nv l)
theorem G3 (l:List Nat):(nv l).length=l.length:=by simp[nv]
theorem S3 {k:List Nat} {i:Nat} (h:i<k.length):(nv k)[i]? =some (.int .i64 ((k.getD i 0:Nat):Int)):=by
 simp[nv,h,Zd]
theorem Y4 (l:List Nat) (i n:Nat):sub (nv l) i n=nv (sub l i n):=by simp[nv,sub,Kj,Kk]
theorem en (a b:List Nat):nv a++nv b=nv (a++b):=by simp[nv]
theorem C9 {l:List Nat} {n:Nat} (h:l.length=n):sub (nv l) 0 n=nv l:=E0 (by rw[G3,h])
theorem iq {l:List Nat} {n x:Nat} (h:l.length=n):sub (nv l) 0 n++[Value.int .i64 (x:Int)]=nv (l++[x]):=by
 rw[C9 h];simp[nv]
def y5 (a:Nat):Nat:=if a=0 then 65536 else a
def F5 (a b:Nat):Nat:=y5 a*y5 b%65537%65536
def V3 (a b:Nat):Nat:=(a+b)%65536
def I7 (a:Nat):Nat:=(65536-a)%65536
theorem F6 (a b):F5 a b<65536:=Z4 _ (by decide)
theorem bO (a b):V3 a b<65536:=Z4 _ (by decide)
theorem Se (a):I7 a<65536:=Z4 _ (by decide)
theorem Bp {a} (h:a<65536):y5 a<=65536:=by unfold y5;split<;>omega
abbrev IS:=Nat×Nat×Nat
def O2 (x:IS):IS:=(if x.2.2%2=1 then F5 x.1 x.2.1 else x.1,F5 x.2.1 x.2.1,x.2.2/2)
def C8 (a:Nat):Nat:=(it O2 16 (1,a,65535)).1
theorem oQ {a:Nat} (ha:a<65536) (k:Nat):(it O2 k (1,a,65535)).1<65536/\(it O2 k (1,a,65535)).2.1<65536/\(it O2 k (1,a,65535)).2.2=65535/2^k:=by
 induction k with
 |zero=>exact⟨by show 1<65536;decide,ha,by show 65535=65535/2^0;decide⟩
 |succ k ih=>
  obtain⟨h1,h2,h3⟩:=ih;refine⟨?_,F6 _ _,?_⟩
  ·show(if _ then _ else _)<65536;split
   ·exact F6 _ _
   ·exact h1
  ·show(it O2 k (1,a,65535)).2.2/2=_;rw[h3,Kr,Nat.pow_succ]
theorem oS {a:Nat} (ha:a<65536):C8 a<65536:=(oQ ha 16).1
theorem pm {x y:Nat} (hx:x<=65536) (hy:y<=65536):((I6.wrap ((x:Int)*(y:Int))).tmod 65537).tmod 65536=((x*y%65537%65536:Nat):Int):=by
 have h:x*y<=65536*65536:=Nat.mul_le_mul hx hy;rw[show (x:Int)*(y:Int)=((x*y:Nat):Int) from rfl,cr _ (by omega)];rfl
theorem gO {a b:Nat} {x y:Int} (hx:x=a) (hy:y=b) (ha:a<65536) (hb:b<65536):a7 C 192 [i64 x,i64 y] [] (.ret (i64 (F5 a b))) []:=by
 subst hx;subst hy;refine MH.c ?_;refine i9 (fun h=> ?_) (fun h=> ?_)
 ·refine i9 (fun h'=> ?_) (fun h'=> ?_)
  ·refine⟨by decide,by decide,_,rfl,[],c9 ?_,tq⟩;obtain rfl:a=0:=(by omega);obtain rfl:b=0:=(by omega);rfl
  ·refine⟨by decide,by decide,_,rfl,[],c9 ?_,tq⟩;obtain rfl:a=0:=(by omega);have e:F5 0 b=65536*b%65537%65536:=by unfold F5 y5;rw[if_pos rfl,if_neg (by omega)]
   rw[e];exact pm (x:=65536) (y:=b) (by decide) (by omega)
 ·refine i9 (fun h'=> ?_) (fun h'=> ?_)
  ·refine⟨by decide,by decide,_,rfl,[],c9 ?_,tq⟩;obtain rfl:b=0:=(by omega);have e:F5 a 0=a*65536%65537%65536:=by unfold F5 y5;rw[if_neg (by omega),if_pos rfl]
   rw[e];exact pm (x:=a) (y:=65536) (by omega) (by decide)
  ·refine⟨by decide,by decide,_,rfl,[],c9 ?_,tq⟩;have e:F5 a b=a*b%65537%65536:=by unfold F5 y5;rw[if_neg (by omega),if_neg (by omega)]
   rw[e];exact pm (x:=a) (y:=b) (by omega) (by omega)
theorem nC {a b:Nat} {x y:Int} (hx:x=a) (hy:y=b) (ha:a<65536) (hb:b<65536):a7 C 193 [i64 x,i64 y] [] (.ret (i64 (V3 a b))) []:=by
 subst hx;subst hy;refine MJ.c ?_;refine⟨by decide,_,rfl,[],c9 ?_,tq⟩;rw[show (a:Int)+(b:Int)=((a+b:Nat):Int) from rfl,cr _ (by omega)];rfl
theorem wN {a:Nat} {x:Int} (hx:x=a) (ha:a<65536):a7 C 190 [i64 x] [] (.ret (i64 (I7 a))) []:=by
 subst hx;refine MM.c ?_;refine⟨by decide,_,rfl,[],c9 ?_,tq⟩;rw[show (65536:Int)-(a:Int)=((65536-a:Nat):Int) by omega,cr _ (by omega)];rfl
theorem jb {a:Nat} {x:Int} (hx:x=a) (ha:a<65536):a7 C 191 [i64 x] [] (.ret (i64 (C8 a))) []:=by
 subst hx;refine ME.c ?_;refine pO 0 rfl O2 (1,a,65535) 16 (fun i z=>⟨[(0,i64 z.2.1),(3,i64 z.1),(4,i64 z.2.2)],[]⟩) ⟨[],(0,(1,a,65535)),⟨Z6 _,rfl⟩,[],⟨rfl,rfl,rfl,tq⟩,tq⟩ fun i z hi hz=> ?_;obtain⟨b1,b2,b3⟩:=oQ ha i;rw[<-hz]at b1 b2 b3;refine b8 (fun h=> ?_) (fun h=> ?_)
 ·have hi16:i<16:=by
   rcases Jg i 16 with h8|h8
   ·exact h8
   ·obtain rfl:i=16:=(by omega);rw[b3]at h;exact absurd h (by decide)
  have hle:z.2.2<=65535:=by rw[b3];exact Jo _ _
  have e1:((z.2.2:Nat):Int).tmod 2=((z.2.2%2:Nat):Int):=U2 _ 2;have e2:I6.wrap (((z.2.2:Nat):Int).tdiv 2)=((z.2.2/2:Nat):Int):=by
   rw[show ((z.2.2:Nat):Int).tdiv 2=((z.2.2/2:Nat):Int) from rfl,cr _ (by omega)]
  refine⟨by decide,?_⟩;refine b8 (fun hb=> ?_) (fun hb=> ?_)
  ·rw[e1]at hb;refine⟨[],_,_,_,_,gO rfl rfl b1 b2,rfl,rfl,?_⟩;refine⟨[],_,_,_,_,gO rfl rfl b2 b2,rfl,rfl,?_⟩;refine⟨by decide,?_⟩;refine⟨rfl,(i+1,O2 z),⟨hi16,aB hz⟩,by omega,[],⟨rfl,?_,c9 e2,tq⟩,tq⟩;show i64 _=i64 ((if _ then _ else _:Nat):Int);rw[if_pos (by omega)]
  ·rw[e1]at hb;refine⟨[],_,_,_,_,gO rfl rfl b2 b2,rfl,rfl,?_⟩;refine⟨by decide,?_⟩;refine⟨rfl,(i+1,O2 z),⟨hi16,aB hz⟩,by omega,[],⟨rfl,?_,c9 e2,tq⟩,tq⟩;show i64 _=i64 ((if _ then _ else _:Nat):Int);rw[if_neg (by omega)]
 ·have hi16:i=16:=by
   rcases Jg i 16 with h8|h8
   ·have:2^i<=2^15:=Z5 (by decide) (by omega);have hp:0<2^i:=K1 (by decide);have:1<=65535/2^i:=(Jq hp).2 (by omega);omega
   ·omega
  subst hi16;refine⟨_,rfl,[],?_,tq⟩;show i64 z.1=i64 _;rw[hz];rfl
def ag (b:Bs) (i:Nat):Nat:=(b.getD (2*i) 0).toNat*256+(b.getD (2*i+1) 0).toNat
def Q5 (b:Bs) (k:Nat):List Nat:=(List.range k).map (ag b)
theorem ej (b k):(Q5 b k).length=k:=by simp[Q5]
theorem zI (b k):Q5 b (k+1)=Q5 b k++[ag b k]:=by simp[Q5,Zz]
theorem aR (b i):ag b i<65536:=by
 unfold ag;have h1:=Ji (b.getD (2*i) 0);have h2:=Ji (b.getD (2*i+1) 0);omega
theorem uU (x y:UInt8):I6.wrap ((Zc I6.bits (I6.wrap (I6.wrap (x.toNat:Int)*2^(min (8:Int).toNat I6.bits)))|||Zc I6.bits (I6.wrap (y.toNat:Int))).toNat:Int)=((x.toNat*256+y.toNat:Nat):Int):=by
 have hx:=x.toNat_lt;have hy:=y.toNat_lt;have e3:I6.wrap ((x.toNat:Int)*2^(min (8:Int).toNat I6.bits))=((x.toNat*256:Nat):Int):=by
  show I6.wrap ((x.toNat:Int)*2^8)=_;simp only[IntKind.wrap_i64];omega
 rw[gz,gz,e3,Qj 16 (by decide) (by omega) (by omega),pz (i:=8) x.toNat hy]
theorem rP {n k:Nat} {va:List Value} {b:Bs} (ha:va=bv b) (hn:b.length=n) (h2:n=2*k) (h0:0<k) (hm:n<=1000000):a7 C 133 [.z n va] [] (.ret (.o 1 (.k 0) 0 k)) [.sc (nv (Q5 b k))]:=by
 subst ha;subst h2;refine ML.c ?_;refine A5 (fun i=>⟨[(0,.z (2*k) (bv b)),(3,.o 1 (.k 0) 0 i),(4,i64 (2*i:Nat))],[.sc (nv (Q5 b i))]⟩) k [(3,1,.sc [])] ⟨[.d 900000 0],⟨rfl,rfl,rfl,tq⟩,⟨_,rfl,rfl⟩,tq⟩ fun i hi=> ?_;refine b8 (fun h=> ?_) (fun h=> ?_)
 ·have a8:i<k:=by simp only[IntKind.wrap_i64]at h;omega
  have e1:(I6.wrap (((2*i:Nat):Int)+1)).toNat=2*i+1:=(by simp(disch:=omega)only[Za];omega);refine⟨by omega,by omega,?_⟩;refine⟨_,by rw[Zb];exact y7 (i:=2*i) (by omega),?_⟩;refine⟨by decide,by omega,by omega,?_⟩;refine⟨_,by rw[e1];exact y7 (i:=2*i+1) (by omega),?_⟩;refine⟨Zp _,by omega,by rw[G3,ej];omega,?_⟩;refine⟨i+1,by omega,by omega,[.d 27 0],⟨rfl,rfl,c9 (by simp(disch:=omega)only[Za];omega),tq⟩,⟨_,rfl,d8 ?_⟩,tq⟩;rw[uU,zI];exact iq (by rw[ej];omega)
 ·obtain rfl:i=k:=by simp only[IntKind.wrap_i64]at h;omega
  exact⟨_,rfl,[.k 0],rfl,⟨_,rfl,rfl⟩,tq⟩
theorem rI {n:Nat} {va:List Value} (hv:va.length=n) (h0:0<n) (hm:n<=1073741824):a7 C 184 [.z n va] [] (.ret (.o 1 (.k 0) 0 n)) [.sc va]:=by
 refine OR.c ?_;refine .inl ⟨h0,by omega,by omega,by omega,?_⟩;refine⟨_,rfl,[.d 7 0],?_,⟨_,rfl,rfl⟩,tq⟩;show V.o 1 (.k 0) 0 (0+n)=_;rw[Zl]
def ce (key:Bs) (j:Nat):List Nat:=((List.range j).map fun i=>Q5 (G7 key (25*i%128)) 8).flatten
theorem oX (key j):ce key (j+1)=ce key j++Q5 (G7 key (25*j%128)) 8:=by simp[ce,Zz]
theorem fD (key):∀j,(ce key j).length=8*j
 |0=>rfl
 |j+1=>by rw[oX,Ze,fD key j,ej];omega
def P9 (key:Bs):List Nat:=(ce key 7).take 52
theorem dY (key):(P9 key).length=52:=by simp[P9,fD]
theorem Gv {va:List Value} {key:Bs} (ha:va=bv key) (hk:key.length=16):a7 C 130 [.z 16 va] [] (.ret (.t [.o 1 (.k 0) 0 52,i64 0])) [.sc (nv (P9 key))]:=by
 subst ha;refine MG.c ?_;refine A5 (fun i=>⟨[(0,.z 16 (bv key)),(4,.o 1 (.k 0) 0 (8*i)),(5,i64 (25*i:Nat))],[.sc (nv (ce key i))]⟩) 7 [(4,1,.sc [])] ⟨[.d 900000 0],⟨rfl,rfl,rfl,tq⟩,⟨_,rfl,rfl⟩,tq⟩ fun i hi=> ?_;refine b8 (fun h=> ?_) (fun h=> ?_)
 ·have a8:i<7:=(by omega);refine⟨[],_,_,_,_,nQ (b:=key) (n:=(25*i:Nat)) rfl hk (by decide) (by decide) (by omega),rfl,rfl,?_⟩;refine⟨[],_,_,_,_,rP (b:=G7 key (25*i%128)) (k:=8) ?_ (by rw[E5,hk]) rfl (by decide) (by decide),rfl,rfl,?_⟩
  ·show sub (bv (G7 key _)) 0 16=_;rw[b9 (by rw[E5,hk])];congr 2
  refine⟨by rw[G3,ej];decide,by omega,by rw[G3,fD];omega,?_⟩;refine⟨i+1,by omega,by omega,[.d 19 0],⟨rfl,rfl,c9 (by simp(disch:=omega)only[Za];omega),tq⟩,⟨_,rfl,d8 ?_⟩,tq⟩;rw[Zm,C9 (fD key i),C9 (ej _ _),en,oX]
 ·obtain rfl:i=7:=(by omega);refine⟨by decide,by decide,by decide,by decide,?_⟩;refine⟨[],_,_,_,_,rI (n:=52) (va:=nv (P9 key)) (by rw[G3,dY]) (by decide) (by decide),?_,rfl,?_⟩
  ·show[V.z 52 (sub (nv (ce key 7)) 0 52)]=_;rw[Y4];rfl
  exact⟨_,rfl,[.d 22 0],rfl,⟨_,rfl,rfl⟩,tq⟩
def R5 (k:List Nat) (i:Nat):List Nat:=
 (if 0<i/\i<8 then [C8 (k.getD (6*i) 0),I7 (k.getD (6*i+2) 0),I7 (k.getD (6*i+1) 0),C8 (k.getD (6*i+3) 0)]
  else [C8 (k.getD (6*i) 0),I7 (k.getD (6*i+1) 0),I7 (k.getD (6*i+2) 0),C8 (k.getD (6*i+3) 0)])++
 (if 0<i then [k.getD (6*i-2) 0,k.getD (6*i-1) 0]else [])
def X5 (k:List Nat) (j:Nat):List Nat:=((List.range j).map fun r=>R5 k (8-r)).flatten
theorem mR (k j):X5 k (j+1)=X5 k j++R5 k (8-j):=by simp[X5,Zz]
theorem uQ (k i):(R5 k i).length=if 0<i then 6 else 4:=by
 unfold R5;by_cases h:0<i
 ·rw[if_pos h,if_pos h];split<;>rfl
 ·rw[if_neg h,if_neg h,if_neg (by omega)];rfl
theorem aP (k):∀j,j<=9->(X5 k j).length=if j=9 then 52 else 6*j
 |0,_=>rfl
 |j+1,h=>by
  rw[mR,Ze,aP k j (by omega),uQ,if_neg (by omega)];by_cases h8:j=8
  ·subst h8;rfl
  ·rw[if_pos (by omega),if_neg (by omega)];omega
def u9 (k:List Nat):List Nat:=X5 k 9
theorem qe (k):(u9 k).length=52:=aP k 9 (by decide)
theorem gh {k:List Nat} {a j:Nat} (hj:j<4) (h:a+4<=k.length):(sub (nv k) a 4)[j]? =some (.int .i64 ((k.getD (a+j) 0:Nat):Int)):=by
 rw[Y4];have hl:(sub k a 4).length=4:=by rw[j5];omega
 have eg:(sub k a 4).getD j 0=k.getD (a+j) 0:=by
  simp only[sub,Zd,J0,hj,if_true,J1]
 rw[S3 (by omega),eg]
theorem pV {k:List Nat} {a:Nat} (h:a+2<=k.length):sub (nv k) a 2=nv [k.getD a 0,k.getD (a+1) 0]:=by
 rw[Y4];congr 1;apply Z3;intro j;rcases j with _|_|j
 ·simp only[sub,Zd];rw[J0,if_pos (by decide),J1];simp[Zf (show a<k.length by omega)]
 ·simp only[sub,Zd];rw[J0,if_pos (by decide),J1];simp[Zf (show a+1<k.length by omega)]
 ·simp[sub];omega
theorem JD {n:Nat} {va:List Value} {k:List Nat} (ha:va=nv k) (hl:k.length=52) (hn:n=52) (hk:∀i,k.getD i 0<65536):a7 C 131 [.z n va] [] (.ret (.o 1 (.k 0) 0 52)) [.sc (nv (u9 k))]:=by
 subst ha;subst hn;refine MP.c ?_;refine A5 (fun j=>⟨[(0,.z 52 (nv k)),(3,.o 1 (.k 0) 0 (if j=9 then 52 else 6*j)),(4,i64 (8-j))],[.sc (nv (X5 k j))]⟩) 9 [(3,1,.sc [])] ⟨[.d 900000 0],⟨rfl,rfl,rfl,tq⟩,⟨_,rfl,rfl⟩,tq⟩ fun j hj=> ?_;refine b8 (fun h=> ?_) (fun h=> ?_)
 ·obtain⟨i,ei,hi8,hj8⟩:∃i:Nat,(8:Int)-j=i/\i<=8/\j=8-i:=⟨8-j,by omega,by omega,by omega⟩;rw[ei,if_neg (show ¬j=9 by omega)];have e1:(I6.wrap (6*(i:Int))).toNat=6*i:=(by simp(disch:=omega)only[Za];omega);have e2:(I6.wrap (I6.wrap (6*(i:Int))+4)).toNat=6*i+4:=(by simp(disch:=omega)only[Za];omega);refine⟨by omega,(by simp(disch:=omega)only[Za];omega),by rw[e1,e2];omega,by rw[e2];omega,by rw[e2];omega,?_⟩;rw[e1,e2,show 6*i+4-6*i=4 by omega];refine⟨by decide,by decide,?_⟩;refine⟨_,gh (j:=1) (by decide) (by omega),?_⟩;refine⟨[],_,_,_,_,wN rfl (hk _),rfl,rfl,?_⟩;refine⟨by decide,by decide,?_⟩;refine⟨_,gh (j:=2) (by decide) (by omega),?_⟩;refine⟨[],_,_,_,_,wN rfl (hk _),rfl,rfl,?_⟩;by_cases h0:0<i
  ·refine bC (decide_eq_true (by omega)) ?_;by_cases h8:i<8
   ·refine bC (decide_eq_true (by omega)) ?_;refine⟨by decide,by decide,?_⟩;refine⟨_,gh (j:=0) (by decide) (by omega),?_⟩;refine⟨[],_,_,_,_,jb rfl (hk _),rfl,rfl,?_⟩;refine⟨by decide,by decide,?_⟩;refine⟨_,gh (j:=3) (by decide) (by omega),?_⟩;refine⟨[],_,_,_,_,jb rfl (hk _),rfl,rfl,?_⟩;refine⟨Zp _,by omega,by rw[G3,aP _ _ (by omega),if_neg (by omega)];omega,?_⟩;refine bC (decide_eq_true (by omega)) ?_;have e3:(I6.wrap (I6.wrap (6*(i:Int))-2)).toNat=6*i-2:=(by simp(disch:=omega)only[Za];omega);refine⟨by omega,by omega,by rw[e3,e1];omega,by rw[e1];omega,by rw[e1];omega,?_⟩;rw[e3,e1,show 6*i-(6*i-2)=2 by omega];refine⟨by rw[pV (by omega)];rfl,by omega,?_,?_⟩
    ·simp only[Ze,j5,G3,Zs,Zw,aP _ _ (show j<=9 by omega),if_neg (show ¬j=9 by omega)];omega
    refine⟨j+1,by omega,by omega,[.d 58 0],⟨rfl,?_,c9 (by simp(disch:=omega)only[Za];omega),tq⟩,⟨_,rfl,d8 ?_⟩,tq⟩
    ·show V.o 1 (.k 0) 0 (6*j+4+2)=V.o 1 (.k 0) 0 _;rw[if_neg (by omega)];rfl
    ·rw[pV (by omega),show 6*i-2+1=6*i-1 by omega,mR,<-show i=8-j by omega];have eL:sub (nv (X5 k j)) 0 (6*j*1)=nv (X5 k j):=C9 (by rw[aP _ _ (by omega),if_neg (by omega)];omega);rw[eL];have eq:R5 k i=[C8 (k.getD (6*i) 0),I7 (k.getD (6*i+2) 0),I7 (k.getD (6*i+1) 0),C8 (k.getD (6*i+3) 0)]++[k.getD (6*i-2) 0,k.getD (6*i-1) 0]:=by unfold R5;rw[if_pos (show 0<i by omega),if_pos (by omega)]
     rw[eq];show sub (nv (X5 k j)++nv [C8 (k.getD (6*i) 0),I7 (k.getD (6*i+2) 0),I7 (k.getD (6*i+1) 0),C8 (k.getD (6*i+3) 0)]) 0 ((6*j+4)*1)++sub (nv [k.getD (6*i-2) 0,k.getD (6*i-1) 0]) 0 2=_;rw[en,C9 (by rw[Ze,aP _ _ (by omega),if_neg (by omega)];simp),show sub (nv [k.getD (6*i-2) 0,k.getD (6*i-1) 0]) 0 2=nv [k.getD (6*i-2) 0,k.getD (6*i-1) 0] from rfl,en,Jf]
   ·refine A1 (decide_eq_false (by omega)) ?_;refine⟨by decide,by decide,?_⟩;refine⟨_,gh (j:=0) (by decide) (by omega),?_⟩;refine⟨[],_,_,_,_,jb rfl (hk _),rfl,rfl,?_⟩;refine⟨by decide,by decide,?_⟩;refine⟨_,gh (j:=3) (by decide) (by omega),?_⟩;refine⟨[],_,_,_,_,jb rfl (hk _),rfl,rfl,?_⟩;refine⟨Zp _,by omega,by rw[G3,aP _ _ (by omega),if_neg (by omega)];omega,?_⟩;refine bC (decide_eq_true (by omega)) ?_;have e3:(I6.wrap (I6.wrap (6*(i:Int))-2)).toNat=6*i-2:=(by simp(disch:=omega)only[Za];omega);refine⟨by omega,by omega,by rw[e3,e1];omega,by rw[e1];omega,by rw[e1];omega,?_⟩;rw[e3,e1,show 6*i-(6*i-2)=2 by omega];refine⟨by rw[pV (by omega)];rfl,by omega,?_,?_⟩
    ·simp only[Ze,j5,G3,Zs,Zw,aP _ _ (show j<=9 by omega),if_neg (show ¬j=9 by omega)];omega
    refine⟨j+1,by omega,by omega,[.d 58 0],⟨rfl,?_,c9 (by simp(disch:=omega)only[Za];omega),tq⟩,⟨_,rfl,d8 ?_⟩,tq⟩
    ·show V.o 1 (.k 0) 0 (6*j+4+2)=V.o 1 (.k 0) 0 _;rw[if_neg (by omega)];rfl
    ·rw[pV (by omega),show 6*i-2+1=6*i-1 by omega,mR,<-show i=8-j by omega];have eL:sub (nv (X5 k j)) 0 (6*j*1)=nv (X5 k j):=C9 (by rw[aP _ _ (by omega),if_neg (by omega)];omega);rw[eL];have eq:R5 k i=[C8 (k.getD (6*i) 0),I7 (k.getD (6*i+1) 0),I7 (k.getD (6*i+2) 0),C8 (k.getD (6*i+3) 0)]++[k.getD (6*i-2) 0,k.getD (6*i-1) 0]:=by unfold R5;rw[if_pos (show 0<i by omega),if_neg (by omega)]
     rw[eq];show sub (nv (X5 k j)++nv [C8 (k.getD (6*i) 0),I7 (k.getD (6*i+1) 0),I7 (k.getD (6*i+2) 0),C8 (k.getD (6*i+3) 0)]) 0 ((6*j+4)*1)++sub (nv [k.getD (6*i-2) 0,k.getD (6*i-1) 0]) 0 2=_;rw[en,C9 (by rw[Ze,aP _ _ (by omega),if_neg (by omega)];simp),show sub (nv [k.getD (6*i-2) 0,k.getD (6*i-1) 0]) 0 2=nv [k.getD (6*i-2) 0,k.getD (6*i-1) 0] from rfl,en,Jf]
  ·refine A1 (decide_eq_false (by omega)) ?_;refine⟨by decide,by decide,?_⟩;refine⟨_,gh (j:=0) (by decide) (by omega),?_⟩;refine⟨[],_,_,_,_,jb rfl (hk _),rfl,rfl,?_⟩;refine⟨by decide,by decide,?_⟩;refine⟨_,gh (j:=3) (by decide) (by omega),?_⟩;refine⟨[],_,_,_,_,jb rfl (hk _),rfl,rfl,?_⟩;refine⟨Zp _,by omega,by rw[G3,aP _ _ (by omega),if_neg (by omega)];omega,?_⟩;refine A1 (decide_eq_false (by omega)) ?_;refine⟨j+1,by omega,by omega,[.d 47 0],⟨rfl,?_,c9 (by simp(disch:=omega)only[Za];omega),tq⟩,⟨_,rfl,d8 ?_⟩,tq⟩
   ·show V.o 1 (.k 0) 0 (6*j+4)=V.o 1 (.k 0) 0 _;rw[if_pos (by omega)];congr 1;omega
   ·rw[mR,<-show i=8-j by omega];have eq:R5 k i=[C8 (k.getD (6*i) 0),I7 (k.getD (6*i+1) 0),I7 (k.getD (6*i+2) 0),C8 (k.getD (6*i+3) 0)]:=by unfold R5;rw[if_neg (show ¬0<i by omega),if_neg (by omega),Z8]
    rw[eq];show sub (nv (X5 k j)) 0 (6*j*1)++nv [C8 (k.getD (6*i) 0),I7 (k.getD (6*i+1) 0),I7 (k.getD (6*i+2) 0),C8 (k.getD (6*i+3) 0)]=_;rw[C9 (by rw[aP _ _ (by omega),if_neg (by omega)];omega),en]
 ·obtain rfl:j=9:=(by omega);exact⟨_,rfl,[.k 0],rfl,⟨_,rfl,rfl⟩,tq⟩
abbrev Q4:=Nat×Nat×Nat×Nat
def F7 (x:Q4):Prop:=x.1<65536/\x.2.1<65536/\x.2.2.1<65536/\x.2.2.2<65536
def di (k:List Nat) (o:Nat) (a c d e:Nat):Nat:=F5 (a^^^d) (k.getD (o+4) 0)
def U1 (k:List Nat) (o:Nat) (a c d e:Nat):Nat:=F5 (V3 (c^^^e) (di k o a c d e)) (k.getD (o+5) 0)
def V8 (k:List Nat) (o:Nat) (a c d e:Nat):Nat:=V3 (di k o a c d e) (U1 k o a c d e)
def r9 (k:List Nat) (o:Nat) (x:Q4):Q4:=(F5 x.1 (k.getD o 0),V3 x.2.1 (k.getD (o+1) 0),V3 x.2.2.1 (k.getD (o+2) 0),F5 x.2.2.2 (k.getD (o+3) 0))
def Y3 (k:List Nat) (o:Nat) (x:Q4):Q4:=
 (x.1^^^U1 k o x.1 x.2.1 x.2.2.1 x.2.2.2,x.2.2.1^^^U1 k o x.1 x.2.1 x.2.2.1 x.2.2.2,x.2.1^^^V8 k o x.1 x.2.1 x.2.2.1 x.2.2.2,x.2.2.2^^^V8 k o x.1 x.2.1 x.2.2.1 x.2.2.2)
def jS (k:List Nat) (x:Q4) (r:Nat):Q4:=Y3 k (6*r) (r9 k (6*r) x)
def G4 (k:List Nat) (x:Q4) (n:Nat):Q4:=(List.range n).foldl (jS k) x
theorem bw (k x n):G4 k x (n+1)=jS k (G4 k x n) n:=by simp[G4,Zz]
def E3 (x:Q4):Q4:=(x.1,x.2.2.1,x.2.1,x.2.2.2)
def G1 (k:List Nat) (x:Q4):Q4:=r9 k 48 (E3 (G4 k x 8))
theorem U9 {a b:Nat} (ha:a<65536) (hb:b<65536):a^^^b<65536:=Jj (n:=16) ha hb
theorem dZ (k o x):F7 (r9 k o x):=⟨F6 _ _,bO _ _,bO _ _,F6 _ _⟩
theorem zV (k o) {x:Q4} (h:F7 x):F7 (Y3 k o x):=⟨U9 h.1 (F6 _ _),U9 h.2.2.1 (F6 _ _),U9 h.2.1 (bO _ _),U9 h.2.2.2 (bO _ _)⟩
theorem pM (k) {x:Q4} (h:F7 x):∀n,F7 (G4 k x n)
 |0=>h
 |n+1=>by rw[bw];exact zV _ _ (dZ _ _ _)
theorem I4 {k:List Nat} {a j:Nat} (h:a+j<k.length):(nv (k.drop a))[j]? =some (.int .i64 ((k.getD (a+j) 0:Nat):Int)):=by
 simp[nv,Zd,h]
theorem wP {n:Nat} {va vb:List Value} {k:List Nat} {x:Q4} (ha:va=nv [x.1,x.2.1,x.2.2.1,x.2.2.2]) (hb:vb=nv k) (hl:k.length=52) (hn:n=52) (hk:∀i,k.getD i 0<65536) (hx:F7 x):
  a7 C 132 [.z 4 va,.z n vb] [] (.ret (.o 1 (.k 0) 0 4)) [.sc (nv [(G1 k x).1,(G1 k x).2.1,(G1 k x).2.2.1,(G1 k x).2.2.2])]:=by
 subst ha;subst hb;subst hn;refine MN.c ?_;refine Y7 0 rfl 9 (fun r=>⟨[(1,.z (52-6*r) (nv (k.drop (6*r)))),(5,i64 ((if r=8 then E3 (G4 k x r)else G4 k x r)).1),(6,i64 ((if r=8 then E3 (G4 k x r)else G4 k x r)).2.1),(7,i64 ((if r=8 then E3 (G4 k x r)else G4 k x r)).2.2.1),(8,i64 ((if r=8 then E3 (G4 k x r)else G4 k x r)).2.2.2)],[]⟩) ?_ fun r hr=> ?_
 ·refine⟨by decide,by decide,_,rfl,by decide,by decide,_,rfl,by decide,by decide,_,rfl,by decide,by decide,_,rfl,?_⟩;exact⟨[],0,by decide,[],⟨rfl,rfl,rfl,rfl,rfl,tq⟩,tq⟩
 ·generalize hs:(if r=8 then E3 (G4 k x r)else G4 k x r)=s;have hso:F7 s:=by
   rw[<-hs];split
   ·obtain⟨a,b,c,d⟩:=pM k hx r;exact⟨a,c,b,d⟩
   ·exact pM k hx r
  obtain⟨o1,o2,o3,o4⟩:=hso;refine⟨by decide,by omega,?_⟩;refine⟨_,I4 (j:=0) (by omega),?_⟩;refine⟨[],_,_,_,_,gO rfl rfl o1 (hk _),rfl,rfl,?_⟩;refine⟨by decide,by omega,?_⟩;refine⟨_,I4 (j:=1) (by omega),?_⟩;refine⟨[],_,_,_,_,nC rfl rfl o2 (hk _),rfl,rfl,?_⟩;refine⟨by decide,by omega,?_⟩;refine⟨_,I4 (j:=2) (by omega),?_⟩;refine⟨[],_,_,_,_,nC rfl rfl o3 (hk _),rfl,rfl,?_⟩;refine⟨by decide,by omega,?_⟩;refine⟨_,I4 (j:=3) (by omega),?_⟩;refine⟨[],_,_,_,_,gO rfl rfl o4 (hk _),rfl,rfl,?_⟩;obtain⟨p1,p2,p3,p4⟩:=dZ k (6*r) s;have hF:=F6 ((r9 k (6*r) s).1^^^(r9 k (6*r) s).2.2.1) (k.getD (6*r+4) 0);refine b8 (fun h=> ?_) (fun h=> ?_)
  ·have hr8:r<8:=(by omega);refine⟨by decide,by omega,?_⟩;refine⟨_,I4 (j:=4) (by omega),?_⟩;refine⟨[],_,_,_,_,gO (a:=(r9 k (6*r) s).1^^^(r9 k (6*r) s).2.2.1) (L5 16 (by decide) p1 p3) rfl (U9 p1 p3) (hk _),rfl,rfl,?_⟩;refine⟨[],_,_,_,_,nC (a:=(r9 k (6*r) s).2.1^^^(r9 k (6*r) s).2.2.2) (L5 16 (by decide) p2 p4) rfl (U9 p2 p4) hF,rfl,rfl,?_⟩;refine⟨by decide,by omega,?_⟩;refine⟨_,I4 (j:=5) (by omega),?_⟩;refine⟨[],_,_,_,_,gO rfl rfl (bO _ _) (hk _),rfl,rfl,?_⟩;refine⟨[],_,_,_,_,nC rfl rfl hF (F6 _ _),rfl,rfl,?_⟩;refine⟨by decide,?_⟩;have hg:=F6 (V3 ((r9 k (6*r) s).2.1^^^(r9 k (6*r) s).2.2.2) (F5 ((r9 k (6*r) s).1^^^(r9 k (6*r) s).2.2.1) (k.getD (6*r+4) 0))) (k.getD (6*r+5) 0);have hh:=bO (F5 ((r9 k (6*r) s).1^^^(r9 k (6*r) s).2.2.1) (k.getD (6*r+4) 0)) (F5 (V3 ((r9 k (6*r) s).2.1^^^(r9 k (6*r) s).2.2.2) (F5 ((r9 k (6*r) s).1^^^(r9 k (6*r) s).2.2.1) (k.getD (6*r+4) 0))) (k.getD (6*r+5) 0));have hst:s=G4 k x r:=by rw[<-hs,if_neg (by omega)]
   have x1:=L5 16 (by decide) p1 hg;have x2:=L5 16 (by decide) p3 hg;have x3:=L5 16 (by decide) p2 hh;have x4:=L5 16 (by decide) p4 hh;have e6:(6:Int).toNat=6:=rfl;refine⟨by show 6<=52-6*r;omega,Zp _,Zp _,?_⟩;refine i9 (fun h4=> ?_) (fun h4=> ?_)
   ·have h4':52-6*r-6=4:=Int.ofNat.inj h4;refine⟨rfl,r+1,by omega,by omega,[],⟨?_,c9 ?_,c9 ?_,c9 ?_,c9 ?_,tq⟩,tq⟩
    ·show V.z (52-6*r-6) (sub _ 6 (52-6*r-6))=_;rw[Y4,P2,G6 _ _ _ (by omega),show 52-6*r-6=52-6*(r+1) by omega,show 6*r+6=6*(r+1) by omega]
    ·rw[if_pos (by omega),bw,<-hst];exact x1
    ·rw[if_pos (by omega),bw,<-hst];exact x3
    ·rw[if_pos (by omega),bw,<-hst];exact x2
    ·rw[if_pos (by omega),bw,<-hst];exact x4
   ·have h4':52-6*r-6≠4:=fun e=>h4 (congrArg Int.ofNat e);refine⟨rfl,r+1,by omega,by omega,[],⟨?_,c9 ?_,c9 ?_,c9 ?_,c9 ?_,tq⟩,tq⟩
    ·show V.z (52-6*r-6) (sub _ 6 (52-6*r-6))=_;rw[Y4,P2,G6 _ _ _ (by omega),show 52-6*r-6=52-6*(r+1) by omega,show 6*r+6=6*(r+1) by omega]
    ·rw[if_neg (by omega),bw,<-hst];exact x1
    ·rw[if_neg (by omega),bw,<-hst];exact x2
    ·rw[if_neg (by omega),bw,<-hst];exact x3
    ·rw[if_neg (by omega),bw,<-hst];exact x4
  ·obtain rfl:r=8:=(by omega);have hst:s=E3 (G4 k x 8):=by rw[<-hs,if_pos rfl]
   refine⟨_,rfl,[.d 88 0],rfl,⟨_,rfl,d8 ?_⟩,tq⟩;show nv [(r9 k 48 s).1,(r9 k 48 s).2.1,(r9 k 48 s).2.2.1,(r9 k 48 s).2.2.2]=_;rw[hst];rfl
abbrev sZ (k:List Nat):V:= .q [nz k,nz (u9 k)] 0
def Q8 (k:List Nat):Prop:=∀i,k.getD i 0<65536
theorem Rp (b k):Q8 (Q5 b k):=by
 intro i;rw[Zd];unfold Q5;rw[Je];cases h:(List.range k)[i]? with
 |none=>simp
 |some j=>exact aR b j
theorem tV (l:List Nat):Q8 l↔∀x∈l,x<65536:=by
 constructor
 ·intro h x hx;obtain⟨i,hi,rfl⟩:=List.getElem_of_mem hx;have:=h i
  rwa [Zd,Zf hi]at this
 ·intro h i;rw[Zd];rcases Jg i l.length with hi|hi
  ·rw[Zf hi];exact h _ (Kn hi)
  ·rw[Zg hi];decide
theorem mj (key):Q8 (P9 key):=by
 rw[tV];intro x hx;have h1:=List.mem_of_mem_take hx;unfold ce at h1;obtain⟨l,hl,hxl⟩:=List.mem_flatten.1 h1;obtain⟨j,_,rfl⟩:=List.mem_map.1 hl;exact(tV _).1 (Rp _ _) x hxl
theorem ZQ {k} (h:Q8 k):Q8 (u9 k):=by
 rw[tV];intro x hx;obtain⟨l,hl,hxl⟩:=List.mem_flatten.1 hx;obtain⟨j,_,rfl⟩:=List.mem_map.1 hl;unfold R5 at hxl;have hi:=fun i=>oS (h i);rcases Kv.1 hxl with h1|h1
 ·split at h1<;>(simp only[List.mem_cons,List.not_mem_nil,or_false]at h1;rcases h1 with rfl|rfl|rfl|rfl)<;>first|exact hi _|exact Se _
 ·split at h1
  ·simp only[List.mem_cons,List.not_mem_nil,or_false]at h1;rcases h1 with rfl|rfl
   ·exact h _
   ·exact h _
  ·cases h1
theorem wM {va:List Value} {key:Bs} (ha:va=bv key) (hk:key.length=16):a7 C 80 [.z 16 va] [] (.ret (.t [sZ (P9 key),i64 0])) []:=by
 refine MI.c ?_;refine⟨[],_,_,_,_,Gv ha hk,rfl,rfl,?_⟩;refine⟨[],_,_,_,_,JD (k:=P9 key) (n:=52) (C9 (dY key)) (dY key) rfl (mj key),rfl,rfl,?_⟩;refine⟨_,rfl,[],?_,tq⟩;show V.t [.q [.z 52 (sub _ 0 52),.z 52 (sub _ 0 52)] 0,i64 0]=V.t [.q [.z _ _,.z _ _] 0,i64 0];rw[C9 (dY key),C9 (qe _),dY,qe]
def I5 (b:Bs):Q4:=(ag b 0,ag b 1,ag b 2,ag b 3)
def aJ (x:Nat):Bs:=[Zt (x/256),Zt x]
def U4 (x:Q4):Bs:=aJ x.1++aJ x.2.1++aJ x.2.2.1++aJ x.2.2.2
theorem pG {x:Nat} (hx:x<65536):[Value.int .u8 (U8.wrap ((x:Int).fdiv (2^(min (8:Int).toNat I6.bits)))),Value.int .u8 (U8.wrap (x:Int))]=bv (aJ x):=by
 have e:(x:Int).fdiv (2^(min (8:Int).toNat I6.bits))=((x/256:Nat):Int):=by
  rw[Z1 _ (by decide)];rfl
 rw[e,aG,aG];rfl
theorem Tj (x):(U4 x).length=8:=rfl
def W6 (y:Q4) (i:Nat):Bs:=(([y.1,y.2.1,y.2.2.1,y.2.2.2]).take i).flatMap aJ
theorem fY (y:Q4):∀i,i<=4->(W6 y i).length=2*i:=by
 intro i hi;rcases i with _|_|_|_|_|i;all_goals first|rfl|omega
theorem pF (y:Q4):∀i,i<4->W6 y (i+1)=W6 y i++aJ (([y.1,y.2.1,y.2.2.1,y.2.2.2]).getD i 0):=by
 intro i hi;rcases i with _|_|_|_|i;all_goals first|rfl|omega
theorem Gu {va:List Value} {b:Bs} {k:List Nat} {back:Bool} (ha:va=bv b) (hb:b.length=8) (hl:k.length=52) (hk:Q8 k):a7 C 81 [sZ k,.z 8 va,bool back] [] (y4 8) [.sc (bv (U4 (G1 (if back then u9 k else k) (I5 b))))]:=by
 refine yv.c ?_;refine⟨_,rfl,?_⟩;have hq:F7 (I5 b):=⟨aR _ _,aR _ _,aR _ _,aR _ _⟩;have hz0:nz k= .z 52 (nv k):=by rw[<-hl]
 have hz1:nz (u9 k)= .z 52 (nv (u9 k)):=by rw[<-qe k]
 cases back
 ·refine⟨by decide,by decide,by decide,?_⟩;refine⟨[],_,_,_,_,rP (k:=4) ha hb rfl (by decide) (by decide),rfl,rfl,?_⟩;refine⟨[],_,_,_,_,wP (k:=k) (x:=I5 b) (n:=52) (va:=sub (nv (Q5 b 4)) 0 4) (vb:=nv k) (C9 (ej _ _)) rfl hl rfl hk hq,?_,rfl,?_⟩
  ·show[V.z 4 (sub (nv (Q5 b 4)) 0 4),nz k]=_;rw[hz0]
  generalize hy:G1 k (I5 b)=y;have yo:F7 y:=by rw[<-hy];exact dZ _ _ _
  refine j4 (fun i=>⟨[(9,.o 1 (.k 0) 0 (2*i)),(28,.z 4 (nv [y.1,y.2.1,y.2.2.1,y.2.2.2])),(29,i64 4),(30,i64 i)],[.sc (bv (W6 y i))]⟩) 4 ⟨[.d 24 0],⟨rfl,rfl,rfl,rfl,tq⟩,⟨_,rfl,rfl⟩,tq⟩ fun i hi=> ?_;refine b8 (fun h=> ?_) (fun h=> ?_)
  ·have a8:i<4:=(by omega);have hv:([y.1,y.2.1,y.2.2.1,y.2.2.2]).getD i 0<65536:=by
    obtain⟨a,b',c,d⟩:=yo;rcases i with _|_|_|_|i;all_goals first|assumption|omega
   refine⟨by omega,by omega,?_⟩;refine⟨_,by rw[Zb];exact S3 (k:=[y.1,y.2.1,y.2.2.1,y.2.2.2]) a8,?_⟩;refine⟨by decide,Zp _,by omega,by rw[f9,fY y i (by omega)];omega,?_⟩;refine⟨i+1,by omega,by omega,[.d 41 0],⟨rfl,rfl,rfl,c9 (by simp(disch:=omega)only[Za];omega),tq⟩,⟨_,rfl,d8 ?_⟩,tq⟩;rw[Zm,b9 (fY y i (by omega)),pF y i a8,<-z5];show bv (W6 y i)++[Value.int .u8 _,Value.int .u8 _]=_;rw[pG hv]
  ·obtain rfl:i=4:=(by omega);refine⟨_,rfl,[.k 0],rfl,⟨_,rfl,d8 ?_⟩,tq⟩;show bv (W6 y 4)=bv (U4 (G1 k (I5 b)));rw[hy];rfl
 ·refine⟨_,rfl,?_⟩;refine⟨by decide,by decide,by decide,?_⟩;refine⟨[],_,_,_,_,rP (k:=4) ha hb rfl (by decide) (by decide),rfl,rfl,?_⟩;refine⟨[],_,_,_,_,wP (k:=u9 k) (x:=I5 b) (n:=52) (va:=sub (nv (Q5 b 4)) 0 4) (vb:=nv (u9 k)) (C9 (ej _ _)) rfl (qe k) rfl (ZQ hk) hq,?_,rfl,?_⟩
  ·show[V.z 4 (sub (nv (Q5 b 4)) 0 4),nz (u9 k)]=_;rw[hz1]
  generalize hy:G1 (u9 k) (I5 b)=y;have yo:F7 y:=by rw[<-hy];exact dZ _ _ _
  refine j4 (fun i=>⟨[(9,.o 1 (.k 0) 0 (2*i)),(28,.z 4 (nv [y.1,y.2.1,y.2.2.1,y.2.2.2])),(29,i64 4),(30,i64 i)],[.sc (bv (W6 y i))]⟩) 4 ⟨[.d 24 0],⟨rfl,rfl,rfl,rfl,tq⟩,⟨_,rfl,rfl⟩,tq⟩ fun i hi=> ?_;refine b8 (fun h=> ?_) (fun h=> ?_)
  ·have a8:i<4:=(by omega);have hv:([y.1,y.2.1,y.2.2.1,y.2.2.2]).getD i 0<65536:=by
    obtain⟨a,b',c,d⟩:=yo;rcases i with _|_|_|_|i;all_goals first|assumption|omega
   refine⟨by omega,by omega,?_⟩;refine⟨_,by rw[Zb];exact S3 (k:=[y.1,y.2.1,y.2.2.1,y.2.2.2]) a8,?_⟩;refine⟨by decide,Zp _,by omega,by rw[f9,fY y i (by omega)];omega,?_⟩;refine⟨i+1,by omega,by omega,[.d 41 0],⟨rfl,rfl,rfl,c9 (by simp(disch:=omega)only[Za];omega),tq⟩,⟨_,rfl,d8 ?_⟩,tq⟩;rw[Zm,b9 (fY y i (by omega)),pF y i a8,<-z5];show bv (W6 y i)++[Value.int .u8 _,Value.int .u8 _]=_;rw[pG hv]
  ·obtain rfl:i=4:=(by omega);refine⟨_,rfl,[.k 0],rfl,⟨_,rfl,d8 ?_⟩,tq⟩;show bv (W6 y 4)=bv (U4 (G1 (u9 k) (I5 b)));rw[hy];rfl
theorem Gt {va:List Value} {k:List Nat} {n:Nat} {back:Bool} (hn:n≠8):a7 C 81 [sZ k,.z n va,bool back] [] P3 []:=by
 refine yv.c ?_;refine n7 (fun h=> ?_) (fun h=>absurd (by omega) hn);exact⟨_,rfl,[],rfl,tq⟩
theorem xu {a:Nat} {x:Int} (hx:x=a):a7 C 272 [i64 x] [] (.ret (i64 (y5 a))) []:=by
 subst hx;refine Ow.c ?_;refine i9 (fun h=> ?_) (fun h=> ?_)
 ·refine⟨_,rfl,[],c9 ?_,tq⟩;unfold y5;rw[if_pos (by omega)];rfl
 ·refine⟨_,rfl,[],c9 ?_,tq⟩;unfold y5;rw[if_neg (by omega)]
theorem aw {a b:Nat} {x y:Int} (hx:x=a) (hy:y=b) (ha:a<65536) (hb:b<65536):a7 C 254 [i64 x,i64 y] [] (.ret (i64 (F5 a b))) []:=by
 refine On.c ?_;refine⟨[],_,_,_,_,xu hx,rfl,rfl,?_⟩;refine⟨[],_,_,_,_,xu hy,rfl,rfl,?_⟩;refine⟨by decide,by decide,_,rfl,[],c9 ?_,tq⟩;exact pm (Bp ha) (Bp hb)
theorem jh {a b:Nat} {x y:Int} (hx:x=a) (hy:y=b) (ha:a<65536) (hb:b<65536):a7 C 258 [i64 x,i64 y] [] (.ret (i64 (V3 a b))) []:=by
 subst hx;subst hy;refine Oq.c ?_;refine⟨by decide,_,rfl,[],c9 ?_,tq⟩;rw[show (a:Int)+(b:Int)=((a+b:Nat):Int) from rfl,cr _ (by omega)];rfl
def br (a b:Nat):Nat:=(a+65536-b)%65536
theorem tw {a b:Nat} (hb:b<65536):br a b=V3 a (I7 b):=by unfold br V3 I7;omega
theorem nJ {a b:Nat} {x y:Int} (hx:x=a) (hy:y=b) (ha:a<65536) (hb:b<65536):a7 C 256 [i64 x,i64 y] [] (.ret (i64 (br a b))) []:=by
 subst hx;subst hy;refine Ov.c ?_;refine⟨by decide,_,rfl,[],c9 ?_,tq⟩;have e:I6.wrap (I6.wrap ((a:Int)-b)+65536)=((a+65536-b:Nat):Int):=by simp(disch:=omega)only[Za];omega
 rw[e];rfl
theorem nI {a:Nat} {x:Int} (hx:x=a) (ha:a<65536):a7 C 255 [i64 x] [] (.ret (i64 (C8 a))) []:=by
 subst hx;refine Ol.c ?_;refine mp O2 (1,a,65535) 16 (fun i z=>⟨[(0,i64 z.2.1),(3,i64 z.1),(4,i64 z.2.2)],[]⟩) ⟨[],⟨rfl,rfl,rfl,tq⟩,tq⟩ fun i z hi hz=> ?_;obtain⟨b1,b2,b3⟩:=oQ ha i;rw[<-hz]at b1 b2 b3;refine b8 (fun h=> ?_) (fun h=> ?_)
 ·have hi16:i<16:=by
   rcases Jg i 16 with h8|h8
   ·exact h8
   ·obtain rfl:i=16:=(by omega);rw[b3]at h;exact absurd h (by decide)
  have hle:z.2.2<=65535:=by rw[b3];exact Jo _ _
  have e1:((z.2.2:Nat):Int).tmod 2=((z.2.2%2:Nat):Int):=U2 _ 2;have e2:I6.wrap (((z.2.2:Nat):Int).tdiv 2)=((z.2.2/2:Nat):Int):=by
   rw[show ((z.2.2:Nat):Int).tdiv 2=((z.2.2/2:Nat):Int) from rfl,cr _ (by omega)]
  refine⟨by decide,?_⟩;refine i9 (fun hb=> ?_) (fun hb=> ?_)
  ·rw[e1]at hb;refine⟨[],_,_,_,_,aw rfl rfl b1 b2,rfl,rfl,?_⟩;refine⟨[],_,_,_,_,aw rfl rfl b2 b2,rfl,rfl,?_⟩;refine⟨by decide,?_⟩;refine⟨(i+1,O2 z),⟨hi16,aB hz⟩,by omega,[],⟨rfl,?_,c9 e2,tq⟩,tq⟩;show i64 _=i64 ((if _ then _ else _:Nat):Int);rw[if_pos (by omega)]
  ·rw[e1]at hb;refine⟨[],_,_,_,_,aw rfl rfl b2 b2,rfl,rfl,?_⟩;refine⟨by decide,?_⟩;refine⟨(i+1,O2 z),⟨hi16,aB hz⟩,by omega,[],⟨rfl,?_,c9 e2,tq⟩,tq⟩;show i64 _=i64 ((if _ then _ else _:Nat):Int);rw[if_neg (by omega)]
 ·have hi16:i=16:=by
   rcases Jg i 16 with h8|h8
   ·have:2^i<=2^15:=Z5 (by decide) (by omega);have hp:0<2^i:=K1 (by decide);have:1<=65535/2^i:=(Jq hp).2 (by omega);omega
   ·omega
  subst hi16;refine⟨_,rfl,[],?_,tq⟩;show i64 z.1=i64 _;rw[hz];rfl
theorem wO {n o:Nat} {k:List Nat} {x0 x1 x2 x3:Int} {a c d e:Nat} (h0:x0=a) (h1:x1=c) (h2:x2=d) (h3:x3=e) (ha:a<65536) (hc:c<65536) (hd:d<65536) (he:e<65536) (ho:o+6<=k.length) (hn:n=k.length-o) (hk:Q8 k):
  a7 C 257 [i64 x0,i64 x1,i64 x2,i64 x3,.z n (nv (k.drop o))] [] (.ret (.t [i64 (V8 k o a c d e),i64 (U1 k o a c d e)])) []:=by
 subst h0;subst h1;subst h2;subst h3;refine Ou.c ?_;refine⟨by decide,by omega,?_⟩;refine⟨_,I4 (j:=4) (by omega),?_⟩;refine⟨[],_,_,_,_,aw (a:=a^^^d) (L5 16 (by decide) ha hd) rfl (U9 ha hd) (hk _),rfl,rfl,?_⟩;refine⟨[],_,_,_,_,jh (a:=c^^^e) (L5 16 (by decide) hc he) rfl (U9 hc he) (F6 _ _),rfl,rfl,?_⟩;refine⟨by decide,by omega,?_⟩;refine⟨_,I4 (j:=5) (by omega),?_⟩;refine⟨[],_,_,_,_,aw rfl rfl (bO _ _) (hk _),rfl,rfl,?_⟩;refine⟨[],_,_,_,_,jh rfl rfl (F6 _ _) (F6 _ _),rfl,rfl,?_⟩;exact⟨_,rfl,[],rfl,tq⟩
abbrev qA (x:Q4):V:= .a [i64 x.1,i64 x.2.1,i64 x.2.2.1,i64 x.2.2.2]
theorem IU {k:List Nat} {x:Q4} (hl:k.length=52) (hk:Q8 k) (hx:F7 x):a7 C 211 [qA x,.z 52 (nv k)] [] (.ret (qA (G1 k x))) []:=by
 refine Ox.c ?_;refine j4 (fun r=>⟨[(1,.z (52-6*r) (nv (k.drop (6*r)))),(2,.p (.k 0) 0),(4,.p (.k 1) 0),(5,i64 r)],[.mx [i64 (G4 k x r).1,i64 (G4 k x r).2.1,i64 (G4 k x r).2.2.1,i64 (G4 k x r).2.2.2],.sc [.int .i64 0,.int .i64 0,.int .i64 0,.int .i64 0]]⟩) 8 ⟨[.d 2 0,.d 4 0],⟨rfl,rfl,rfl,rfl,tq⟩,⟨_,rfl,rfl⟩,⟨_,rfl,rfl⟩,tq⟩ fun r hr=> ?_;obtain⟨o1,o2,o3,o4⟩:=pM k hx r;generalize hs:G4 k x r=s at o1 o2 o3 o4 ⊢;refine b8 (fun h=> ?_) (fun h=> ?_)
 ·have a8:r<8:=(by omega);refine⟨by decide,by decide,_,rfl,by decide,by omega,?_⟩;refine⟨_,I4 (j:=0) (by omega),?_⟩;refine⟨[],_,_,_,_,aw rfl rfl o1 (hk _),rfl,rfl,?_⟩;refine⟨by decide,by decide,_,rfl,by decide,by omega,?_⟩;refine⟨_,I4 (j:=1) (by omega),?_⟩;refine⟨[],_,_,_,_,jh rfl rfl o2 (hk _),rfl,rfl,?_⟩;refine⟨by decide,by decide,_,rfl,by decide,by omega,?_⟩;refine⟨_,I4 (j:=2) (by omega),?_⟩;refine⟨[],_,_,_,_,jh rfl rfl o3 (hk _),rfl,rfl,?_⟩;refine⟨by decide,by decide,_,rfl,by decide,by omega,?_⟩;refine⟨_,I4 (j:=3) (by omega),?_⟩;refine⟨[],_,_,_,_,aw rfl rfl o4 (hk _),rfl,rfl,?_⟩;obtain⟨p1,p2,p3,p4⟩:=dZ k (6*r) s;refine⟨[],_,_,_,_,wO (k:=k) (o:=6*r) rfl rfl rfl rfl p1 p2 p3 p4 (by omega) (by omega) hk,rfl,rfl,?_⟩;have hg:U1 k (6*r) (r9 k (6*r) s).1 (r9 k (6*r) s).2.1 (r9 k (6*r) s).2.2.1 (r9 k (6*r) s).2.2.2<65536:=F6 _ _;have hh:V8 k (6*r) (r9 k (6*r) s).1 (r9 k (6*r) s).2.1 (r9 k (6*r) s).2.2.1 (r9 k (6*r) s).2.2.2<65536:=bO _ _;have x1:=L5 16 (by decide) p1 hg;have x2:=L5 16 (by decide) p3 hg;have x3:=L5 16 (by decide) p2 hh;have x4:=L5 16 (by decide) p4 hh;refine⟨Zp _,by decide,by show 6<=52-6*r;omega,Zp _,Zp _,?_⟩;refine⟨r+1,by omega,by omega,[.k 0,.k 1],⟨?_,rfl,rfl,c9 (by simp(disch:=omega)only[Za];omega),tq⟩,⟨_,rfl,?_⟩,⟨_,rfl,rfl⟩,tq⟩
  ·show V.z (52-6*r-6) (sub _ 6 (52-6*r-6))=_;rw[Y4,P2,G6 _ _ _ (by omega),show 52-6*r-6=52-6*(r+1) by omega,show 6*r+6=6*(r+1) by omega]
  ·show B.mx [vi .i64 _,vi .i64 _,vi .i64 _,vi .i64 _]=B.mx [vi .i64 _,vi .i64 _,vi .i64 _,vi .i64 _];rw[bw,hs];congr 2
   ·exact c9 x1
   congr 1
   ·exact c9 x2
   congr 1
   ·exact c9 x3
   congr 1;exact c9 x4
 ·obtain rfl:r=8:=(by omega);refine⟨by decide,by decide,_,rfl,by decide,by omega,?_⟩;refine⟨_,I4 (j:=0) (by omega),?_⟩;refine⟨[],_,_,_,_,aw rfl rfl o1 (hk _),rfl,rfl,?_⟩;refine⟨by decide,by decide,_,rfl,by decide,by omega,?_⟩;refine⟨_,I4 (j:=1) (by omega),?_⟩;refine⟨[],_,_,_,_,jh rfl rfl o3 (hk _),rfl,rfl,?_⟩;refine⟨by decide,by decide,_,rfl,by decide,by omega,?_⟩;refine⟨_,I4 (j:=2) (by omega),?_⟩;refine⟨[],_,_,_,_,jh rfl rfl o2 (hk _),rfl,rfl,?_⟩;refine⟨by decide,by decide,_,rfl,by decide,by omega,?_⟩;refine⟨_,I4 (j:=3) (by omega),?_⟩;refine⟨[],_,_,_,_,aw rfl rfl o4 (hk _),rfl,rfl,?_⟩;refine⟨Zp _,?_⟩;refine⟨_,rfl,rfl,?_⟩;refine⟨_,rfl,[],?_,tq⟩;show qA (r9 k 48 (E3 s))=qA (G1 k x);rw[<-hs];rfl
def cH (k:List Nat) (o:Nat) (x:Q4):Q4:=(F5 x.1 (C8 (k.getD o 0)),br x.2.2.1 (k.getD (o+2) 0),br x.2.1 (k.getD (o+1) 0),F5 x.2.2.2 (C8 (k.getD (o+3) 0)))
def X7 (k:List Nat) (o:Nat) (x:Q4):Q4:=(x.1^^^U1 k o x.1 x.2.2.1 x.2.1 x.2.2.2,x.2.1^^^U1 k o x.1 x.2.2.1 x.2.1 x.2.2.2,x.2.2.1^^^V8 k o x.1 x.2.2.1 x.2.1 x.2.2.2,x.2.2.2^^^V8 k o x.1 x.2.2.1 x.2.1 x.2.2.2)
def aY (k:List Nat) (o:Nat) (x:Q4):Q4:=(F5 x.1 (C8 (k.getD o 0)),br x.2.2.1 (k.getD (o+1) 0),br x.2.1 (k.getD (o+2) 0),F5 x.2.2.2 (C8 (k.getD (o+3) 0)))
def iU (k:List Nat) (x:Q4) (r:Nat):Q4:=aY k (6*(7-r)) (X7 k (6*(7-r)) x)
def T4 (k:List Nat) (x:Q4) (n:Nat):Q4:=(List.range n).foldl (iU k) (cH k 48 x)
theorem nk (k x n):T4 k x (n+1)=iU k (T4 k x n) n:=by simp[T4,Zz]
theorem fJ (a b):br a b<65536:=Z4 _ (by decide)
theorem EI (k x):∀n,F7 (T4 k x n)
 |0=>⟨F6 _ _,fJ _ _,fJ _ _,F6 _ _⟩
 |n+1=>by rw[nk];exact⟨F6 _ _,fJ _ _,fJ _ _,F6 _ _⟩
theorem ZR (k:List Nat):∀n,n<=9->∀r j,r<n->j<(R5 k (8-r)).length->(X5 k n).getD (6*r+j) 0=(R5 k (8-r)).getD j 0:=by
 intro n;induction n with
 |zero=>intro _ r j h;omega
 |succ n ih=>
  intro hn r j hr hj;have hl:(X5 k n).length=6*n:=by rw[aP k n (by omega),if_neg (by omega)]
  have hj6:j<6:=by rw[uQ]at hj;split at hj<;>omega
  rw[mR,Zd,Zd];by_cases h:r=n
  ·subst h;rw[Z7 (by omega),hl,show 6*r+j-6*r=j by omega]
  ·rw[Ja (by omega),<-Zd,ih (by omega) r j (by omega) hj,Zd]
theorem mQ (k:List Nat) {r j:Nat} (hr:r<9) (hj:j<if r=8 then 4 else 6):(u9 k).getD (6*r+j) 0=(R5 k (8-r)).getD j 0:=by
 refine ZR k 9 (by decide) r j hr ?_;rw[uQ];by_cases h:r=8
 ·rw[if_pos h]at hj;rw[if_neg (by omega)];exact hj
 ·rw[if_neg h]at hj;rw[if_pos (by omega)];exact hj
theorem EJ (k:List Nat) (hk:Q8 k) (x:Q4):∀r,r<8->T4 k x r=E3 (r9 (u9 k) (6*r) (G4 (u9 k) x r)):=by
 intro r;induction r with
 |zero=>
  intro _;have h:=fun j (hj:j<6)=>mQ k (r:=0) (j:=j) (by decide) hj;have h0:=h 0 (by decide);have h1:=h 1 (by decide);have h2:=h 2 (by decide);have h3:=h 3 (by decide);show cH k 48 x=E3 (r9 (u9 k) (6*0) x);simp only[r9,E3,cH,h0,h1,h2,h3,tw (hk _)];rfl
 |succ r ih=>
  intro hr;have ih:=ih (by omega);have hp:=fun j (hj:j<6)=>mQ k (r:=r) (j:=j) (by omega) (by rw[if_neg (by omega)];exact hj);have hq:=fun j (hj:j<6)=>mQ k (r:=r+1) (j:=j) (by omega) (by rw[if_neg (by omega)];exact hj);have u4:(u9 k).getD (6*r+4) 0=k.getD (6*(7-r)+4) 0:=by
   rw[hp 4 (by decide)];unfold R5;rw[if_pos (show 0<8-r by omega)];have:6*(8-r)-2=6*(7-r)+4:=by omega
   split<;>(show k.getD (6*(8-r)-2) 0=_;rw[this])
  have u5:(u9 k).getD (6*r+5) 0=k.getD (6*(7-r)+5) 0:=by
   rw[hp 5 (by decide)];unfold R5;rw[if_pos (show 0<8-r by omega)];have:6*(8-r)-1=6*(7-r)+5:=by omega
   split<;>(show k.getD (6*(8-r)-1) 0=_;rw[this])
  have e8:8-(r+1)=7-r:=by omega
  have un:R5 k (7-r)=[C8 (k.getD (6*(7-r)) 0),I7 (k.getD (6*(7-r)+2) 0),I7 (k.getD (6*(7-r)+1) 0),C8 (k.getD (6*(7-r)+3) 0)]++[k.getD (6*(7-r)-2) 0,k.getD (6*(7-r)-1) 0]:=by
   unfold R5;rw[if_pos (by omega),if_pos (by omega)]
  have v0:=hq 0 (by decide);have v1:=hq 1 (by decide);have v2:=hq 2 (by decide);have v3:=hq 3 (by decide);rw[e8,un]at v0 v1 v2 v3;rw[nk,bw,ih];unfold jS;generalize r9 (u9 k) (6*r) (G4 (u9 k) x r)=p;have mM:X7 k (6*(7-r)) (E3 p)=Y3 (u9 k) (6*r) p:=by
   simp only[X7,Y3,E3,U1,V8,di,u4,u5]
  unfold iU;rw[mM];generalize Y3 (u9 k) (6*r) p=z;simp only[aY,r9,E3,v1,v2,v3,tw (hk _)];rw[show 6*(r+1)+0=6*(r+1) from rfl]at v0;rw[v0];rfl
theorem rj (k:List Nat) (hk:Q8 k) (x:Q4):T4 k x 8=G1 (u9 k) x:=by
 have hp:=fun j (hj:j<6)=>mQ k (r:=7) (j:=j) (by decide) hj;have hq:=fun j (hj:j<4)=>mQ k (r:=8) (j:=j) (by decide) hj;have u4:(u9 k).getD (6*7+4) 0=k.getD (6*(7-7)+4) 0:=hp 4 (by decide);have u5:(u9 k).getD (6*7+5) 0=k.getD (6*(7-7)+5) 0:=hp 5 (by decide);have v0:=hq 0 (by decide);have v1:=hq 1 (by decide);have v2:=hq 2 (by decide);have v3:=hq 3 (by decide);show T4 k x (7+1)=r9 (u9 k) 48 (E3 (G4 (u9 k) x (7+1)));rw[nk k x 7,EJ k hk x 7 (by decide),bw (u9 k) x 7];unfold jS;generalize r9 (u9 k) (6*7) (G4 (u9 k) x 7)=p;have mM:X7 k (6*(7-7)) (E3 p)=Y3 (u9 k) (6*7) p:=by
  simp only[X7,Y3,E3,U1,V8,di,u4,u5]
 unfold iU;rw[mM];generalize Y3 (u9 k) (6*7) p=z;have w0:(u9 k).getD 48 0=C8 (k.getD 0 0):=v0;have w1:(u9 k).getD 49 0=I7 (k.getD 1 0):=v1;have w2:(u9 k).getD 50 0=I7 (k.getD 2 0):=v2;have w3:(u9 k).getD 51 0=C8 (k.getD 3 0):=v3;simp only[aY,r9,E3,w0,w1,w2,w3,tw (hk _),Nat.sub_self,Nat.mul_zero,Zl]
end Go.Scr
