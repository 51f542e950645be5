/-
  What the functions of the given program reckon, each by a contract, up to the law. It is no claim by itself; each contract bears its own conditions.
-/
import Derived.Test.YthhlfpbfdkogfaaGreatDoorN
set_option linter.unusedVariables false
set_option linter.unusedSimpArgs false
set_option maxRecDepth 100000
namespace Go.Scr
open Go.Proofs
open IntWalk renaming i64_in → Za
open Int renaming toNat_natCast → Zb, fdiv_eq_ediv_of_nonneg → Z1, natCast_pow → Z9, le_refl → Jh, tmod_eq_emod_of_nonneg → Jk, natCast_emod → Jt, natCast_ediv → Ju, natCast_mul → Jx, lt_tmod_of_pos → J2, le_of_lt → Kc, tmod_lt_of_pos → Kg, emod_lt_of_pos → Kh, pow_pos → Ki, emod_nonneg → Kw
open BitVec renaming ofInt → Zc, ofInt_natCast → J9
open List renaming getD_eq_getElem?_getD → Zd, length_append → Ze, getElem?_eq_getElem → Zf, getElem?_eq_none → Zg, length_reverse → Zi, length_replicate → Zj, replicate → Zk, length_zipWith → Zo, take_length → Zq, take_succ_eq_append_getElem → Zr, length_cons → Zs, length_set → Zu, length_take → Zv, length_nil → Zw, length_drop → Zx, length_map → Zy, range_succ → Zz, ext_getElem? → Z3, getElem?_append_right → Z7, append_nil → Z8, getElem?_append_left → Ja, getElem?_replicate → Jd, getElem?_map → Je, append_assoc → Jf, nil_append → Jp, getElem?_set → Jr, getElem_reverse → Js, getElem?_range → Jv, flatten_append → Jw, getElem?_take → J0, getElem?_drop → J1, foldl_append → J4, eq_nil_of_length_eq_zero → J8, replicate_succ → Kb, mem_singleton → Kf, map_take → Kj, map_drop → Kk, getElem_mem → Kn, take_of_length_le → Ks, drop_eq_nil_of_le → Kt, mem_append → Kv, take_append_drop → Kx, getElem?_reverse → Ky, take_zero → K2
open Nat renaming mod_eq_of_lt → Zh, zero_add → Zl, mul_one → Zm, le_refl → Zp, shiftRight_eq_div_pow → Z0, mod_lt → Z4, pow_le_pow_right → Z5, zero_le → Z6, lt_or_ge → Jg, xor_lt_two_pow → Jj, testBit_eq_decide_div_mod_eq → Jl, and_two_pow_sub_one_eq_mod → Jn, div_le_self → Jo, le_div_iff_mul_le → Jq, mod_eq_sub_mod → Jy, and_lt_two_pow → Jz, or_lt_two_pow → J3, shiftLeft_eq → J6, sub_succ_lt_self → J7, le_antisymm → Ka, shiftRight_add → Kd, and_one_is_mod → Ke, testBit_mod_two_pow → Kl, div_eq_of_lt → Km, testBit_lt_two_pow → Kq, div_div_eq_div_mul → Kr, pow_pos → K1
open UInt32 renaming ofNat → Zn, toNat_toUInt64 → Z2, toNat_shiftRight → Jc, toNat_ofNat' → Jm, toNat_and → J5, toNat_shiftLeft → Kp, toNat_toUInt8 → Kz
open UInt8 renaming ofNat → Zt, toNat_ofNat' → Jb, toNat_lt → Ji, toNat_shiftRight → Ko, toNat_inj → Ku
open Go.IntKind renaming i64 → I6, u8 → U8, u32 → U3, u64 → U6
def bv (l:Bs):List Value:=l.map fun x=> .int .u8 x.toNat
abbrev bz (l:Bs):V:= .z l.length (bv l)
def iv (l:List Int):List Value:=l.map fun x=> .int .i64 x
abbrev iz (l:List Int):V:= .z l.length (iv l)
def wv (l:List UInt32):List Value:=l.map fun x=> .int .u32 x.toNat
abbrev wz (l:List UInt32):V:= .z l.length (wv l)
abbrev i64 (n:Int):V:= .s (.int .i64 n)
abbrev u8 (x:UInt8):V:= .s (.int .u8 x.toNat)
abbrev u32 (x:UInt32):V:= .s (.int .u32 x.toNat)
abbrev u64 (x:UInt64):V:= .s (.int .u64 x.toNat)
abbrev vi (k:IntKind) (n:Int):V:= .s (.int k n)
abbrev bool (b:Bool):V:= .s (.bool b)
theorem iP {b:Bool} {x y:Prop} (h1:b=true->x) (h2:b=false->y):cd b x y:=by cases b;exact h2 rfl;exact h1 rfl
theorem fp {b:Bool} {x y:Prop} (h:b=true) (h1:x):cd b x y:=by subst h;exact h1
theorem E5 {b:Bool} {x y:Prop} (h:b=false) (h1:y):cd b x y:=by subst h;exact h1
theorem j6 (l:Bs):(bv l).length=l.length:=by simp[bv]
theorem M5 (l:List Int):(iv l).length=l.length:=by simp[iv]
theorem y5 (l:List UInt32):(wv l).length=l.length:=by simp[wv]
theorem bI {l:Bs} {i:Nat} (h:i<l.length):(bv l)[i]? =some (.int .u8 (l[i]).toNat):=by simp[bv,h]
theorem wa {l:List Int} {i:Nat} (h:i<l.length):(iv l)[i]? =some (.int .i64 l[i]):=by simp[iv,h]
theorem xZ {l:List UInt32} {i:Nat} (h:i<l.length):(wv l)[i]? =some (.int .u32 (l[i]).toNat):=by simp[wv,h]
theorem o6 (l:Bs) (i n:Nat):sub (bv l) i n=bv (sub l i n):=by simp[bv,sub,Kj,Kk]
theorem a3N (l:List UInt32) (i n:Nat):sub (wv l) i n=wv (sub l i n):=by simp[wv,sub,Kj,Kk]
theorem L4 (l:Bs) (i:Nat) (x:UInt8):(bv l).set i (.int .u8 x.toNat)=bv (l.set i x):=by simp[bv,List.map_set]
theorem bB (l:List UInt32) (i:Nat) (x:UInt32):(wv l).set i (.int .u32 x.toNat)=wv (l.set i x):=by simp[wv,List.map_set]
theorem B7 (a b:Bs):bv a++bv b=bv (a++b):=by simp[bv]
theorem oz (a b:List Int):iv a++iv b=iv (a++b):=by simp[iv]
theorem nb (a b:List UInt32):wv a++wv b=wv (a++b):=by simp[wv]
theorem U4 (n:Nat):Zk n (Value.int .u8 0)=bv (Zk n 0):=by simp[bv]
theorem a3M (n:Nat):Zk n (Value.int .u32 0)=wv (Zk n 0):=by simp[wv]
theorem wrap_u8 (n:Int):U8.wrap n=n%256:=by rw[IntKind.wrap_u8]
theorem wrap_u32 (n:Int):U3.wrap n=n%4294967296:=by rw[IntKind.wrap_u32]
theorem G3 (n:Int):U6.wrap n=n%18446744073709551616:=by simp[IntKind.wrap,IntKind.bits,IntKind.signed]
theorem kA:U8.bits=8:=rfl
theorem tY:U3.bits=32:=rfl
theorem ny:U6.bits=64:=rfl
theorem kz:I6.bits=64:=rfl
theorem uf (n:Nat) {x y:Nat} (hx:x<2^n) (hy:y<2^n):(Zc n (x:Int)^^^Zc n (y:Int)).toNat=x^^^y:=by
 simp[J9,Zh hx,Zh hy]
theorem ue (n:Nat) {x y:Nat} (hx:x<2^n) (hy:y<2^n):(Zc n (x:Int)&&&Zc n (y:Int)).toNat=x&&&y:=by
 simp[J9,Zh hx,Zh hy]
theorem kC (n:Nat) {x y:Nat} (hx:x<2^n) (hy:y<2^n):(Zc n (x:Int)|||Zc n (y:Int)).toNat=x|||y:=by
 simp[J9,Zh hx,Zh hy]
theorem o5 (a b:UInt8):U8.wrap ((Zc U8.bits (a.toNat:Int)^^^Zc U8.bits (b.toNat:Int)).toNat:Int)=((a^^^b).toNat:Int):=by
 rw[wrap_u8,uf U8.bits a.toNat_lt b.toNat_lt,UInt8.toNat_xor];have:=Jj (n:=8) a.toNat_lt b.toNat_lt;omega
theorem xQ (a b:UInt8):U8.wrap ((Zc U8.bits (a.toNat:Int)&&&Zc U8.bits (b.toNat:Int)).toNat:Int)=((a&&&b).toNat:Int):=by
 rw[wrap_u8,ue U8.bits a.toNat_lt b.toNat_lt,UInt8.toNat_and];have:=Jz (n:=8) a.toNat b.toNat_lt;omega
theorem sK (a b:UInt8):U8.wrap ((Zc U8.bits (a.toNat:Int)|||Zc U8.bits (b.toNat:Int)).toNat:Int)=((a|||b).toNat:Int):=by
 rw[wrap_u8,kC U8.bits a.toNat_lt b.toNat_lt,UInt8.toNat_or];have:=J3 (n:=8) a.toNat_lt b.toNat_lt;omega
theorem a3s (a b:UInt8):U8.wrap ((a.toNat:Int)+b.toNat)=((a+b).toNat:Int):=by
 rw[wrap_u8,UInt8.toNat_add];omega
theorem C0 (a b:UInt32):U3.wrap ((Zc U3.bits (a.toNat:Int)^^^Zc U3.bits (b.toNat:Int)).toNat:Int)=((a^^^b).toNat:Int):=by
 rw[wrap_u32,uf U3.bits a.toNat_lt b.toNat_lt,UInt32.toNat_xor];have:=Jj (n:=32) a.toNat_lt b.toNat_lt;omega
theorem xN (a b:UInt32):U3.wrap ((Zc U3.bits (a.toNat:Int)&&&Zc U3.bits (b.toNat:Int)).toNat:Int)=((a&&&b).toNat:Int):=by
 rw[wrap_u32,ue U3.bits a.toNat_lt b.toNat_lt,J5];have:=Jz (n:=32) a.toNat b.toNat_lt;omega
theorem sJ (a b:UInt32):U3.wrap ((Zc U3.bits (a.toNat:Int)|||Zc U3.bits (b.toNat:Int)).toNat:Int)=((a|||b).toNat:Int):=by
 rw[wrap_u32,kC U3.bits a.toNat_lt b.toNat_lt,UInt32.toNat_or];have:=J3 (n:=32) a.toNat_lt b.toNat_lt;omega
theorem y4 (a b:UInt32):U3.wrap ((a.toNat:Int)+b.toNat)=((a+b).toNat:Int):=by
 rw[wrap_u32,UInt32.toNat_add];omega
theorem aP (a b:UInt32):U3.wrap ((a.toNat:Int)-b.toNat)=((a-b).toNat:Int):=by
 have:=b.toNat_lt;rw[wrap_u32,UInt32.toNat_sub];omega
theorem xO (a b:UInt64):U6.wrap ((Zc U6.bits (a.toNat:Int)|||Zc U6.bits (b.toNat:Int)).toNat:Int)=((a|||b).toNat:Int):=by
 rw[G3,kC U6.bits a.toNat_lt b.toNat_lt,UInt64.toNat_or];have:=J3 (n:=64) a.toNat_lt b.toNat_lt;omega
theorem a3t (a:UInt8) (n:Int) (h0:0<=n) (h:n<8):U8.wrap ((a.toNat:Int)*2^(min n.toNat U8.bits))=((a<<<(Zt n.toNat)).toNat:Int):=by
 have hn:n.toNat<8:=by omega
 have hm:n.toNat<256:=by omega
 rw[wrap_u8,show min n.toNat U8.bits=n.toNat from by simp only[kA];omega,UInt8.toNat_shiftLeft,J6,Jb,Zh (show n.toNat<2^8 from hm),Zh hn];rw[Jt,Jx,Z9];rfl
theorem a3v (a:UInt8) (n:Int) (h0:0<=n) (h:n<8):((a.toNat:Int).fdiv (2^(min n.toNat U8.bits)))=((a>>>(Zt n.toNat)).toNat:Int):=by
 have hn:n.toNat<8:=by omega
 have hm:n.toNat<256:=by omega
 rw[show min n.toNat U8.bits=n.toNat from by simp only[kA];omega,Ko,Z0,Jb,Zh (show n.toNat<2^8 from hm),Zh hn,Z1 _ (Kc (Ki (by decide)))];rw[Ju,Z9];rfl
theorem mY (a:UInt32) (n:Int) (h0:0<=n) (h:n<32):U3.wrap ((a.toNat:Int)*2^(min n.toNat U3.bits))=((a<<<(Zn n.toNat)).toNat:Int):=by
 have hn:n.toNat<32:=by omega
 have hm:n.toNat<4294967296:=by omega
 rw[wrap_u32,show min n.toNat U3.bits=n.toNat from by simp only[tY];omega,Kp,J6,Jm,Zh (show n.toNat<2^32 from hm),Zh hn];rw[Jt,Jx,Z9];rfl
theorem aO (a:UInt32) (n:Int) (h0:0<=n) (h:n<32):((a.toNat:Int).fdiv (2^(min n.toNat U3.bits)))=((a>>>(Zn n.toNat)).toNat:Int):=by
 have hn:n.toNat<32:=by omega
 have hm:n.toNat<4294967296:=by omega
 rw[show min n.toNat U3.bits=n.toNat from by simp only[tY];omega,Jc,Z0,Jm,Zh (show n.toNat<2^32 from hm),Zh hn,Z1 _ (Kc (Ki (by decide)))];rw[Ju,Z9];rfl
theorem a3o (a:UInt32) (n:Int) (h:32<=n):((a.toNat:Int).fdiv (2^(min n.toNat U3.bits)))=0:=by
 rw[show min n.toNat U3.bits=32 from by simp only[tY];omega,Z1 _ (by decide)];have:=a.toNat_lt;exact Int.ediv_eq_zero_of_lt (by omega) (by omega)
theorem xP (a:UInt64) (n:Int) (h0:0<=n) (h:n<64):U6.wrap ((a.toNat:Int)*2^(min n.toNat U6.bits))=((a<<<(UInt64.ofNat n.toNat)).toNat:Int):=by
 have hn:n.toNat<64:=by omega
 have hm:n.toNat<18446744073709551616:=by omega
 rw[G3,show min n.toNat U6.bits=n.toNat from by simp only[ny];omega,UInt64.toNat_shiftLeft,J6,UInt64.toNat_ofNat',Zh (show n.toNat<2^64 from hm),Zh hn];rw[Jt,Jx,Z9];rfl
theorem GJ (a:UInt64) (n:Int) (h0:0<=n) (h:n<64):((a.toNat:Int).fdiv (2^(min n.toNat U6.bits)))=((a>>>(UInt64.ofNat n.toNat)).toNat:Int):=by
 have hn:n.toNat<64:=by omega
 have hm:n.toNat<18446744073709551616:=by omega
 rw[show min n.toNat U6.bits=n.toNat from by simp only[ny];omega,UInt64.toNat_shiftRight,Z0,UInt64.toNat_ofNat',Zh (show n.toNat<2^64 from hm),Zh hn,Z1 _ (Kc (Ki (by decide)))];rw[Ju,Z9];rfl
theorem jV (a b:UInt32):U3.wrap ((a.toNat:Int)*b.toNat)=((a*b).toNat:Int):=by
 rw[wrap_u32,UInt32.toNat_mul,Jt,Jx];rfl
theorem xT (a:UInt8):U6.wrap (a.toNat:Int)=((a.toUInt64).toNat:Int):=by
 have:=a.toNat_lt;rw[G3,UInt8.toNat_toUInt64];omega
theorem a3w (a:UInt8):U3.wrap (a.toNat:Int)=((a.toUInt32).toNat:Int):=by
 have:=a.toNat_lt;rw[wrap_u32,UInt8.toNat_toUInt32];omega
theorem fw (a:UInt8):I6.wrap (a.toNat:Int)=(a.toNat:Int):=by
 have:=a.toNat_lt;rw[IntKind.wrap_i64];omega
theorem S7 (a:UInt32):I6.wrap (a.toNat:Int)=(a.toNat:Int):=by
 have:=a.toNat_lt;rw[IntKind.wrap_i64];omega
theorem a3p (a:UInt32):U6.wrap (a.toNat:Int)=((a.toUInt64).toNat:Int):=by
 have:=a.toNat_lt;rw[G3,Z2];omega
theorem a3r (a:UInt64):U8.wrap (a.toNat:Int)=((a.toUInt8).toNat:Int):=by
 rw[wrap_u8,UInt64.toNat_toUInt8];omega
theorem mZ (a:UInt64):U3.wrap (a.toNat:Int)=((a.toUInt32).toNat:Int):=by
 rw[wrap_u32,UInt64.toNat_toUInt32];omega
theorem iV (a:UInt32):U8.wrap (a.toNat:Int)=((a.toUInt8).toNat:Int):=by
 rw[wrap_u8,Kz];omega
theorem Y5 (n:Nat):U8.wrap (n:Int)=((Zt n).toNat:Int):=by
 rw[wrap_u8,Jb];omega
theorem Dq (n:Nat):U3.wrap (n:Int)=((Zn n).toNat:Int):=by
 rw[wrap_u32,Jm];omega
theorem dP (n:Nat) (h:n<9223372036854775808):I6.wrap (n:Int)=(n:Int):=by
 rw[IntKind.wrap_i64];omega
theorem m5 {α:Type} {xs:List α} {i n:Nat}:(sub xs i n).length=min n (xs.length-i):=by simp[sub]
theorem d9 {p:Prop} [Decidable p] {x y:Prop} (h1:p->x) (h2:¬p->y):cd (decide p) x y:=by
 by_cases h:p
 ·rw[decide_eq_true h];exact h1 h
 ·rw[decide_eq_false h];exact h2 h
theorem i7 {m n:Int} {x y:Prop} (h1:m=n->x) (h2:m≠n->y):cd (m==n) x y:=iP (fun h=>h1 (by simpa using h)) (fun h=>h2 (by simpa using h))
theorem p6 {m n:Int} {x y:Prop} (h1:m≠n->x) (h2:m=n->y):cd (m != n) x y:=iP (fun h=>h1 (by simpa using h)) (fun h=>h2 (by simpa using h))
def it {α:Type} (f:α->α):Nat->α->α
 |0,x=>x
 |n+1,x=>f (it f n x)
theorem bQ {α:Type} {f:α->α} {i:Nat} {x z:α} (h:z=it f i x):f z=it f (i+1) x:=by rw[h];rfl
theorem oE {β:Type} {m:Nat} {body:S->(X->S->Prop)->Prop} {s:S} {K:X->S->Prop} (f:β->β) (b0:β) (n:Nat) (I:Nat->β->D) (h0:Mt m s (I 0 b0)) (h:∀i z,i<=n->z=it f i b0->body (I i z).s fun e s'=>match e with
   | .normal=>∃y:Nat×β,(y.1<=n/\y.2=it f y.1 b0)/\n-y.1<n-i/\Mt m s' (I y.1 y.2)
   |e=>K e s'):nh m body s K:=
 ⟨Nat×β,fun x=>I x.1 x.2,fun x=>x.1<=n/\x.2=it f x.1 b0,fun x=>n-x.1,⟨[],(0,b0),⟨Z6 _,rfl⟩,h0⟩,fun x hx=>h x.1 x.2 hx.1 hx.2⟩
theorem ss {β:Type} {C:m6} {rt:Rt} {m:Nat} {c:Code} {s:S} {K:X->S->Prop} (l:Nat) {p q:Code} (hs:K3 c l=some (p,q)) (f:β->β) (b0:β) (n:Nat) (I:Nat->β->D) (h0:vc C rt m p s fun e s'=>match e with
   | .normal=>∃(l:List (Nat×Nat×B)) (y:Nat×β),(y.1<=n/\y.2=it f y.1 b0)/\ar l 0 s' fun s'=>Mt m s' (I y.1 y.2)
   | .goto l'=>l'=l/\∃y:Nat×β,(y.1<=n/\y.2=it f y.1 b0)/\Mt m s' (I y.1 y.2)
   |e=>K e s') (h:∀i z,i<=n->z=it f i b0->vc C rt m q (I i z).s fun e s'=>match e with
   | .goto l'=>l'=l/\∃y:Nat×β,(y.1<=n/\y.2=it f y.1 b0)/\n-y.1<n-i/\Mt m s' (I y.1 y.2)
   |e=>K e s'):jN C rt m c s K:=
 ⟨l,Nat×β,fun x=>I x.1 x.2,fun x=>x.1<=n/\x.2=it f x.1 b0,fun x=>n-x.1,by rw[hs];exact⟨h0,fun x hx=>h x.1 x.2 hx.1 hx.2⟩⟩
theorem m9 {m:Nat} {body:S->(X->S->Prop)->Prop} {s:S} {K:X->S->Prop} (I:Nat->D) (n:Nat) (h0:Mt m s (I 0)) (h:∀i,i<=n->body (I i).s fun e s'=>match e with
   | .normal=>∃y,y<=n/\n-y<n-i/\Mt m s' (I y)
   |e=>K e s'):nh m body s K:=
 ⟨Nat,I,fun i=>i<=n,fun i=>n-i,⟨[],0,Z6 _,h0⟩,h⟩
theorem E9 {m:Nat} {body:S->(X->S->Prop)->Prop} {s:S} {K:X->S->Prop} (I:Nat->D) (n:Nat) (l:List (Nat×Nat×B)) (h0:ar l 0 s fun s=>Mt m s (I 0)) (h:∀i,i<=n->body (I i).s fun e s'=>match e with
   | .normal=>∃y,y<=n/\n-y<n-i/\Mt m s' (I y)
   |e=>K e s'):nh m body s K:=
 ⟨Nat,I,fun i=>i<=n,fun i=>n-i,⟨l,0,Z6 _,h0⟩,h⟩
def P7 (l:Bs):UInt64:=l.foldl (fun n x=>n<<<8|||x.toUInt64) 0
def q7 (n:UInt64):Nat->Bs
 |0=>[]
 |k+1=>q7 (n>>>8) k++[n.toUInt8]
theorem A2:∀(k:Nat) (n:UInt64),(q7 n k).length=k
 |0,_=>rfl
 |k+1,n=>by simp[q7,A2 k]
def F5 (v:UInt32) (k:Nat):UInt32:=v<<<Zn k|||v>>>Zn (32-k)
theorem fo (n b:Int) (hb:0<b):(n.tmod b+b).tmod b=n%b:=by
 have h1: -b<n.tmod b:=J2 n hb;rw[Jk (by omega),Int.add_emod_right,Int.tmod_def,Int.sub_mul_emod_self_left]
theorem Af {n b:Int} (hb:0<b) (hb2:b<=4611686018427387904) (hn: -9223372036854775808<=n/\n<=9223372036854775807):b9 C 200 [i64 n,i64 b] [] (.ret (i64 (n%b))) []:=by
 refine VQ.c ?_;refine⟨by omega,by omega,?_⟩;refine⟨_,rfl,[],f8 ?_,tq⟩;have h1: -b<n.tmod b:=J2 n hb;have h2:n.tmod b<b:=Kg n hb;rw[Za _ (by omega)];exact fo n b hb
theorem wm {l:Bs} {i:Nat} (h:i<l.length):P7 (l.take (i+1))=P7 (l.take i)<<<8|||(l[i]).toUInt64:=by
 unfold P7;rw[Zr h,J4];rfl
theorem LX {n:Nat} {va:List Value} {l:Bs} (ha:va=bv l) (hn:l.length=n) (hm:n<=1073741824):b9 C 242 [.z n va] [] (.ret (u64 (P7 l))) []:=by
 subst ha;subst hn;refine VP.c ?_;refine⟨0,Nat,fun i=>⟨[(0,bz l),(3,u64 (P7 (l.take i))),(4,i64 i)],[]⟩,fun i=>i<=l.length,fun i=>l.length-i,⟨[],0,Z6 _,[],⟨rfl,rfl,rfl,tq⟩,tq⟩,fun i hi=> ?_⟩;refine d9 (fun h=> ?_) (fun h=> ?_)
 ·have d8:i<l.length:=(by omega);refine⟨by omega,by omega,by omega,_,bI (i:=i) d8,?_⟩;refine⟨rfl,i+1,d8,J7 _ _ d8,[],⟨rfl,congrArg (vi .u64) ?_,f8 (by simp(disch:=omega)only[Za];omega),tq⟩,tq⟩;rw[xP _ _ (by decide) (by decide),xT,xO,wm d8];rfl
 ·obtain rfl:i=l.length:=Ka hi (by omega);refine⟨_,rfl,[],congrArg (vi .u64) ?_,tq⟩;rw[Zq]
theorem Au {x:Int} {n:UInt64} {k:Int} {m:Nat} (hx:x=n.toNat) (hk:k=m) (hm:m<=1073741824):b9 C 243 [vi .u64 x,i64 k] [] (.ret (.o 1 (.k 0) 0 m)) [.sc (bv (q7 n m))]:=by
 subst hk;subst hx;refine VR.c ?_;refine⟨0,Nat×UInt64×Bs,fun x=>⟨[(0,u64 x.2.1),(5,.o 1 (.k 0) 0 m),(6,i64 x.1)],[.sc (bv (Zk x.1 0++x.2.2))]⟩,fun x=>x.1<=m/\x.1+x.2.2.length=m/\q7 x.2.1 x.1++x.2.2=q7 n m,fun x=>x.1,
  ⟨by omega,by omega,by omega,[],(m,n,[]),⟨Zp _,by simp,by simp⟩,[.d 8 0],⟨rfl,rfl,rfl,tq⟩,⟨_,rfl,i6 (by simp[bv])⟩,tq⟩,?_⟩
 rintro ⟨i,v,l⟩ ⟨hi,hl,he⟩;simp only at hi hl he;refine d9 (fun h=> ?_) (fun h=> ?_)
 ·have hp:0<i:=(by omega);have e1:I6.wrap ((i:Int)-1)=((i-1:Nat):Int):=by simp only[IntKind.wrap_i64];omega
  refine⟨(by simp(disch:=omega)only[Za];omega),(by simp(disch:=omega)only[Za];omega),(by simp only[A2,j6,M5,y5,Ze,Zj,Zu,Zv,Zx,Zs,Zw,m5,Zi,Zy,Zo];omega),by omega,rfl,(i-1,v>>>8,v.toUInt8::l),⟨by omega,(by simp only[A2,j6,M5,y5,Ze,Zj,Zu,Zv,Zx,Zs,Zw,m5,Zi,Zy,Zo];omega),?_⟩,(by simp(disch:=omega)only[Za];omega),[.k 0],⟨congrArg (vi .u64) ?_,rfl,f8 e1,tq⟩,⟨_,rfl,i6 ?_⟩,tq⟩
  ·obtain⟨j,rfl⟩:∃j,i=j+1:=⟨i-1,by omega⟩;rw[<-he];simp[q7]
  ·exact GJ v 8 (by decide) (by decide)
  ·rw[e1,a3r,L4];congr 1;obtain⟨j,rfl⟩:∃j,i=j+1:=⟨i-1,by omega⟩;simp[List.replicate_succ']
 ·obtain rfl:i=0:=(by omega);refine⟨_,rfl,[.k 0],rfl,⟨_,rfl,i6 ?_⟩,tq⟩;rw[show l=q7 n m by simpa [q7]using he];rfl
theorem AB {n:Nat} {va:List Value} {l:Bs} (ha:va=bv l) (hn:l.length=n) (hm:n<=1073741824):b9 C 199 [.z n va] [] (.ret (.o 1 (.k 0) 0 n)) [.sc (bv l.reverse)]:=by
 subst ha;subst hn;refine VS.c ?_;refine⟨by omega,by omega,by omega,?_⟩;refine⟨Nat,fun i=>⟨[(0,bz l),(3,.o 1 (.k 0) 0 i),(4,i64 (l.length-1-i))],[.sc (bv (l.reverse.take i))]⟩,fun i=>i<=l.length,fun i=>l.length-i,⟨[],0,Z6 _,[.d 7 0],⟨rfl,rfl,?_,tq⟩,⟨_,rfl,rfl⟩,tq⟩,fun i hi=> ?_⟩
 ·exact f8 (by simp(disch:=omega)only[Za];omega)
 refine d9 (fun h=> ?_) (fun h=> ?_)
 ·have d8:i<l.length:=(by omega);have e:((l.length:Int)-1-(i:Int)).toNat=l.length-1-i:=(by omega);refine⟨by omega,by omega,?_⟩;refine⟨_,by rw[e];exact bI (i:=l.length-1-i) (by omega),?_⟩;refine⟨(by simp only[A2,j6,M5,y5,Ze,Zj,Zu,Zv,Zx,Zs,Zw,m5,Zi,Zy,Zo];omega),by omega,(by simp only[A2,j6,M5,y5,Ze,Zj,Zu,Zv,Zx,Zs,Zw,m5,Zi,Zy,Zo];omega),i+1,by omega,(by simp(disch:=omega)only[Za];omega),[.d 21 0],⟨rfl,rfl,f8 (by simp(disch:=omega)only[Za];omega),tq⟩,⟨_,rfl,i6 ?_⟩,tq⟩;have e2:l.reverse[i]'(by simpa using d8)=l[l.length-1-i]:=by rw[Js]
  rw[Zr (by simpa using d8),<-B7,e2,o6];simp[sub,bv,List.take_take]
 ·obtain rfl:i=l.length:=Ka hi (by omega);refine⟨_,rfl,[.k 0],rfl,⟨_,rfl,i6 ?_⟩,tq⟩;rw[<-Zi,Zq]
theorem uj {n:Nat} {va:List Value} {l:Bs} (ha:va=bv l) (hn:l.length=4) (hn':n=4):b9 C 198 [.z n va] [] (.ret (.t [u32 (P7 l).toUInt32,bool true])) []:=by
 subst hn';refine VG.c ?_;refine⟨[],_,_,_,_,LX ha hn (by omega),rfl,rfl,?_⟩;refine⟨_,rfl,[],congrArg (fun n=>V.t [vi .u32 n,bool true]) ?_,tq⟩;exact mZ _
theorem C3 {α:Type} {l:List α} {n:Nat} (h:l.length=n):sub l 0 n=l:=by subst h;simp[sub]
theorem g8 {l:Bs} {n:Nat} (h:l.length=n):sub (bv l) 0 n=bv l:=C3 (by rw[j6,h])
theorem Y3 {l:List Int} {n:Nat} (h:l.length=n):sub (iv l) 0 n=iv l:=C3 (by rw[M5,h])
theorem D7 {l:List UInt32} {n:Nat} (h:l.length=n):sub (wv l) 0 n=wv l:=C3 (by rw[y5,h])
theorem dz {n:Nat} {va:List Value} {l:Bs} (ha:va=bv l) (hn:l.length=4) (hn':n=4):b9 C 135 [.z n va] [] (.ret (.t [u32 (P7 l.reverse).toUInt32,bool true])) []:=by
 subst hn';refine VI.c ?_;refine⟨[],_,_,_,_,AB ha hn (by omega),rfl,rfl,?_⟩;refine⟨[],_,_,_,_,uj (l:=l.reverse) (g8 (by simpa using hn)) (by simpa using hn) rfl,rfl,rfl,?_⟩;exact⟨_,rfl,[],rfl,tq⟩
theorem uy {x:Int} {v:UInt32} (hx:x=v.toNat):b9 C 201 [vi .u32 x] [] (.ret (.o 1 (.k 0) 0 4)) [.sc (bv (q7 v.toUInt64 4))]:=by
 subst hx;refine VJ.c ?_;refine⟨[],_,_,_,_,Au (m:=4) (a3p v) rfl (by omega),rfl,rfl,?_⟩;exact⟨_,rfl,[.d 5 0],rfl,⟨_,rfl,rfl⟩,tq⟩
theorem kM {x:Int} {v:UInt32} (hx:x=v.toNat):b9 C 139 [vi .u32 x] [] (.ret (.o 1 (.k 0) 0 4)) [.sc (bv (q7 v.toUInt64 4).reverse)]:=by
 subst hx;refine VL.c ?_;refine⟨[],_,_,_,_,uy rfl,rfl,rfl,?_⟩;refine⟨[],_,_,_,_,AB (l:=q7 v.toUInt64 4) (g8 (A2 _ _)) (A2 _ _) (by omega),rfl,rfl,?_⟩;exact⟨_,rfl,[.d 5 0],rfl,⟨_,rfl,rfl⟩,tq⟩
theorem kL {x:Int} {v:UInt64} (hx:x=v.toNat):b9 C 247 [vi .u64 x] [] (.ret (.o 1 (.k 0) 0 8)) [.sc (bv (q7 v 8))]:=by
 refine VK.c ?_;refine⟨[],_,_,_,_,Au (m:=8) hx rfl (by omega),rfl,rfl,?_⟩;exact⟨_,rfl,[.d 4 0],rfl,⟨_,rfl,rfl⟩,tq⟩
theorem Ey (v:UInt32) {k:Int} (h0:0<=k) (h1:k<32):
  U3.wrap ((Zc U3.bits (U3.wrap ((v.toNat:Int)*2^(min k.toNat U3.bits)))|||Zc U3.bits ((v.toNat:Int).fdiv (2^(min (32-k).toNat U3.bits)))).toNat:Int)=((F5 v k.toNat).toNat:Int):=by
 rw[mY _ _ h0 h1];unfold F5;by_cases hz:k=0
 ·subst hz;rw[a3o _ _ (by decide),show(0:Int)=((0:UInt32).toNat:Int) from rfl,sJ];refine congrArg (fun z:UInt32=>(z.toNat:Int)) (UInt32.toNat_inj.1 ?_);show(v<<<Zn 0|||0).toNat=(v<<<Zn 0|||v>>>Zn (32-0)).toNat;simp[UInt32.toNat_or,Kp,Jc]
 ·rw[aO _ _ (by omega) (by omega),sJ];congr 5;omega
theorem Aj {x n:Int} {v:UInt32} (hx:x=v.toNat) (hn: -9223372036854775808<=n/\n<=9223372036854775807):b9 C 138 [vi .u32 x,i64 n] [] (.ret (u32 (F5 v (n%32).toNat))) []:=by
 subst hx;refine VM.c ?_;refine⟨[],_,_,_,_,Af (b:=32) (by decide) (by decide) hn,rfl,rfl,?_⟩;have h0:0<=n%32:=(by omega);have h1:n%32<32:=(by omega);have e1:U6.wrap (n%32)=n%32:=by rw[G3];omega
 have e2:U6.wrap (32-U6.wrap (n%32))=32-n%32:=by rw[e1,G3];omega
 refine⟨?_,?_,_,rfl,[],congrArg (vi .u32) ?_,tq⟩
 ·rw[e1];exact h0
 ·rw[e2];omega
 ·rw[e2,e1];exact Ey v h0 h1
def j9 (a b:Bs):Bs:=List.zipWith (· ^^^ ·) a b
theorem B5 {a b:Bs} {n:Nat} (ha:a.length=n) (hb:b.length=n):(j9 a b).length=n:=by simp[j9,ha,hb]
theorem Ha {a b:Bs} {i:Nat} (ha:i<a.length) (hb:i<b.length):j9 (a.take (i+1)) (b.take (i+1))=j9 (a.take i) (b.take i)++[a[i]^^^b[i]]:=by
 unfold j9;rw[Zr ha,Zr hb,List.zipWith_append (by simp;omega)];rfl
theorem xu {α:Type} {l:List α} {x y:α} {n:Nat} {r:List α} (h:l.length=n):(l++y::r).set n x=l++x::r:=by
 subst h;simp
theorem N4 {n:Nat} {va vb:List Value} {a b:Bs} (ha:va=bv a) (hb:vb=bv b) (la:a.length=n) (lb:b.length=n) (hm:n<=1073741824):b9 C 144 [.z n va,.z n vb] [] (.ret (.t [.o 1 (.k 0) 0 n,bool true])) [.sc (bv (j9 a b))]:=by
 subst ha;subst hb;refine VO.c ?_;refine p6 (fun h=>absurd rfl h) (fun _=> ?_);refine⟨by omega,by omega,by omega,?_⟩;refine m9 (fun i=>⟨[(0,.z n (bv a)),(1,.z n (bv b)),(6,.o 1 (.k 0) 0 n),(17,i64 n),(18,i64 i)],[.sc (bv (j9 (a.take i) (b.take i)++Zk (n-i) 0))]⟩) n ⟨[.d 15 0],⟨rfl,rfl,rfl,rfl,rfl,tq⟩,⟨_,rfl,i6 (by simp[bv,j9])⟩,tq⟩ fun i hi=> ?_;refine d9 (fun h=> ?_) (fun h=> ?_)
 ·have d8:i<n:=(by omega);refine⟨by omega,by omega,_,bI (i:=i) (by omega),by omega,by omega,_,bI (i:=i) (by omega),by omega,by omega,?_,i+1,by omega,by omega,[.k 0],⟨rfl,rfl,rfl,rfl,f8 (by simp(disch:=omega)only[Za];omega),tq⟩,⟨_,rfl,i6 ?_⟩,tq⟩
  ·rw[j6];simp[j9];omega
  ·rw[o5,L4,Ha (by omega) (by omega),show n-i=(n-(i+1))+1 from (by omega),Kb];congr 1;rw[xu (by simp[j9];omega)];simp
 ·obtain rfl:i=n:=(by omega);refine⟨_,rfl,[.k 0],rfl,⟨_,rfl,i6 ?_⟩,tq⟩;rw[<-la]
  conv=>lhs;rw[Zq,la,<-lb,Zq]
  simp
theorem zV {n b:Int} (hb:0<b) (hb2:b<=4611686018427387904) (hn: -9223372036854775808<=n/\n<=9223372036854775807):b9 C 221 [i64 n,i64 b] [] (.ret (i64 (n%b))) []:=by
 refine Tw.c ?_;refine⟨by omega,by omega,?_⟩;refine⟨_,rfl,[],f8 ?_,tq⟩;have h1: -b<n.tmod b:=J2 n hb;have h2:n.tmod b<b:=Kg n hb;rw[Za _ (by omega)];exact fo n b hb
theorem MR {x n:Int} {v:UInt32} (hx:x=v.toNat) (hn: -9223372036854775808<=n/\n<=9223372036854775807):b9 C 169 [vi .u32 x,i64 n] [] (.ret (u32 (F5 v (n%32).toNat))) []:=by
 subst hx;refine Tu.c ?_;refine⟨[],_,_,_,_,zV (b:=32) (by decide) (by decide) hn,rfl,rfl,?_⟩;have h0:0<=n%32:=(by omega);have h1:n%32<32:=(by omega);have e1:U6.wrap (n%32)=n%32:=by rw[G3];omega
 have e2:U6.wrap (32-U6.wrap (n%32))=32-n%32:=by rw[e1,G3];omega
 refine⟨?_,?_,_,rfl,[],congrArg (vi .u32) ?_,tq⟩
 ·rw[e1];exact h0
 ·rw[e2];omega
 ·rw[e2,e1];exact Ey v h0 h1
theorem I0 {n:Nat} {va vb:List Value} {a b:Bs} (ha:va=bv a) (hb:vb=bv b) (la:a.length=n) (lb:b.length=n) (hm:n<=1073741824):b9 C 72 [.z n va,.z n vb] [] (.ret (.o 1 (.k 0) 0 n)) [.sc (bv (j9 a b))]:=by
 subst ha;subst hb;refine Tm.c ?_;refine⟨by omega,by omega,by omega,?_⟩;refine m9 (fun i=>⟨[(0,.z n (bv a)),(1,.z n (bv b)),(5,.o 1 (.k 0) 0 n),(6,i64 i)],[.sc (bv (j9 (a.take i) (b.take i)++Zk (n-i) 0))]⟩) n ⟨[.d 9 0],⟨rfl,rfl,rfl,rfl,tq⟩,⟨_,rfl,i6 (by simp[bv,j9])⟩,tq⟩ fun i hi=> ?_;refine d9 (fun h=> ?_) (fun h=> ?_)
 ·have d8:i<n:=(by omega);refine⟨by omega,by omega,_,bI (i:=i) (by omega),by omega,by omega,_,bI (i:=i) (by omega),by omega,by omega,?_,i+1,by omega,by omega,[.k 0],⟨rfl,rfl,rfl,f8 (by simp(disch:=omega)only[Za];omega),tq⟩,⟨_,rfl,i6 ?_⟩,tq⟩
  ·rw[j6];simp[j9];omega
  ·rw[o5,L4,Ha (by omega) (by omega),show n-i=(n-(i+1))+1 from (by omega),Kb];congr 1;rw[xu (by simp[j9];omega)];simp
 ·obtain rfl:i=n:=(by omega);refine⟨_,rfl,[.k 0],rfl,⟨_,rfl,i6 ?_⟩,tq⟩;rw[<-la]
  conv=>lhs;rw[Zq,la,<-lb,Zq]
  simp
theorem ES (v:UInt32):q7 v.toUInt64 4=[(v>>>24).toUInt8,(v>>>16).toUInt8,(v>>>8).toUInt8,v.toUInt8]:=by
 have h:∀(x:UInt64) (y:UInt32),x.toNat=y.toNat->x.toUInt8=y.toUInt8:=fun x y e=>Ku.1 (by rw[UInt64.toNat_toUInt8,Kz,e]);have e0:v.toUInt64.toNat=v.toNat:=Z2 v;have s:∀x:UInt64,(x>>>8).toNat=x.toNat>>>8:=fun x=>by rw[UInt64.toNat_shiftRight];rfl
 simp only[q7,Jp,List.cons_append];rw[h (v.toUInt64>>>8>>>8>>>8) (v>>>24),h (v.toUInt64>>>8>>>8) (v>>>16),h (v.toUInt64>>>8) (v>>>8),h v.toUInt64 v e0]
 ·rw[s,e0,Jc];rfl
 ·rw[s,s,e0,Jc,<-Kd];rfl
 ·rw[s,s,s,e0,Jc,<-Kd,<-Kd];rfl
theorem kO {x:Int} {v:UInt32} (hx:x=v.toNat):b9 C 219 [vi .u32 x] [] (.ret (.o 1 (.k 0) 0 4)) [.sc (bv (q7 v.toUInt64 4))]:=by
 subst hx;refine Tq.c ?_;refine⟨by omega,by omega,by omega,?_⟩;refine⟨_,rfl,[.d 14 0],rfl,⟨_,rfl,i6 ?_⟩,tq⟩;rw[aO _ _ (by decide) (by decide),aO _ _ (by decide) (by decide),aO _ _ (by decide) (by decide),iV,iV,iV,iV,ES];rfl
theorem pV {x:Int} {v:UInt32} (hx:x=v.toNat):b9 C 213 [vi .u32 x] [] (.ret (.o 1 (.k 0) 0 4)) [.sc (bv (q7 v.toUInt64 4).reverse)]:=by
 subst hx;refine Tt.c ?_;refine⟨by omega,by omega,by omega,?_⟩;refine⟨_,rfl,[.d 14 0],rfl,⟨_,rfl,i6 ?_⟩,tq⟩;rw[aO _ _ (by decide) (by decide),aO _ _ (by decide) (by decide),aO _ _ (by decide) (by decide),iV,iV,iV,iV,ES];rfl
theorem a1K (v:UInt64):q7 v 8=q7 ((v>>>32).toUInt32).toUInt64 4++q7 (v.toUInt32).toUInt64 4:=by
 have h:∀(x y:UInt64),x.toNat%256=y.toNat%256->x.toUInt8=y.toUInt8:=fun x y e=>Ku.1 (by rw[UInt64.toNat_toUInt8,UInt64.toNat_toUInt8,e]);have s:∀x:UInt64,(x>>>8).toNat=x.toNat/256:=fun x=>by rw[UInt64.toNat_shiftRight,Z0];rfl
 have s32:(v>>>32).toNat=v.toNat/4294967296:=by rw[UInt64.toNat_shiftRight,Z0];rfl
 have hv:=v.toNat_lt;simp only[q7,Jp,List.cons_append];congr 1
 ·exact h _ _ (by simp only[s,s32,Z2,UInt64.toNat_toUInt32];omega)
 congr 1
 ·exact h _ _ (by simp only[s,s32,Z2,UInt64.toNat_toUInt32];omega)
 congr 1
 ·exact h _ _ (by simp only[s,s32,Z2,UInt64.toNat_toUInt32];omega)
 congr 1
 ·exact h _ _ (by simp only[s,s32,Z2,UInt64.toNat_toUInt32];omega)
 congr 1
 ·exact h _ _ (by simp only[s,s32,Z2,UInt64.toNat_toUInt32];omega)
 congr 1
 ·exact h _ _ (by simp only[s,s32,Z2,UInt64.toNat_toUInt32];omega)
 congr 1
 ·exact h _ _ (by simp only[s,s32,Z2,UInt64.toNat_toUInt32];omega)
 congr 1;exact h _ _ (by simp only[s,s32,Z2,UInt64.toNat_toUInt32];omega)
theorem eE {x:Int} {v:UInt64} (hx:x=v.toNat):b9 C 228 [vi .u64 x] [] (.ret (.o 1 (.k 0) 0 8)) [.sc (bv (q7 v 8))]:=by
 subst hx;refine Tr.c ?_;refine⟨by omega,?_⟩;refine⟨[],_,_,_,_,kO (v:=(v>>>32).toUInt32) (by rw[GJ _ _ (by decide) (by decide),mZ];rfl),rfl,rfl,?_⟩;refine⟨[],_,_,_,_,kO (v:=v.toUInt32) (mZ v),rfl,rfl,?_⟩;refine⟨(by simp only[A2,j6,M5,y5,Ze,Zj,Zu,Zv,Zx,Zs,Zw,m5,Zi,Zy,Zo];omega),by omega,(by simp only[A2,j6,M5,y5,Ze,Zj,Zu,Zv,Zx,Zs,Zw,m5,Zi,Zy,Zo];omega),?_⟩;refine⟨_,rfl,[.d 10 0],rfl,⟨_,rfl,i6 ?_⟩,tq⟩;rw[g8 (A2 _ _),g8 (A2 _ _),B7,a1K]
theorem IZ {n:Nat} {va:List Value} {l:Bs} (ha:va=bv l) (hn:l.length=n) (hm:n<=1073741824):b9 C 175 [.z n va] [] (.ret (u64 (P7 l))) []:=by
 subst ha;subst hn;refine Tl.c ?_;refine m9 (fun i=>⟨[(0,bz l),(3,u64 (P7 (l.take i))),(4,i64 i)],[]⟩) l.length ⟨[],⟨rfl,rfl,rfl,tq⟩,tq⟩ fun i hi=> ?_;refine d9 (fun h=> ?_) (fun h=> ?_)
 ·have d8:i<l.length:=(by omega);refine⟨by omega,by omega,by omega,_,bI (i:=i) d8,i+1,d8,J7 _ _ d8,[],⟨rfl,congrArg (vi .u64) ?_,f8 (by simp(disch:=omega)only[Za];omega),tq⟩,tq⟩;rw[xP _ _ (by decide) (by decide),xT,xO,wm d8];rfl
 ·obtain rfl:i=l.length:=Ka hi (by omega);refine⟨_,rfl,[],congrArg (vi .u64) ?_,tq⟩;rw[Zq]
theorem fF {n:Nat} {va:List Value} {l:Bs} (ha:va=bv l) (hn:l.length=n) (hm:n<=1073741824):b9 C 166 [.z n va] [] (.ret (u64 (P7 l.reverse))) []:=by
 subst ha;subst hn;refine Tp.c ?_;refine m9 (fun i=>⟨[(0,bz l),(3,u64 (P7 (l.reverse.take i))),(4,i64 (l.length-i))],[]⟩) l.length ⟨[],⟨rfl,rfl,f8 (by simp),tq⟩,tq⟩ fun i hi=> ?_;refine d9 (fun h=> ?_) (fun h=> ?_)
 ·have d8:i<l.length:=(by omega);have e:(I6.wrap ((l.length:Int)-i-1)).toNat=l.length-1-i:=by simp only[IntKind.wrap_i64];omega
  refine⟨by omega,(by simp(disch:=omega)only[Za];omega),by omega,?_⟩;refine⟨_,by rw[e];exact bI (i:=l.length-1-i) (by omega),?_⟩;refine⟨i+1,d8,J7 _ _ d8,[],⟨rfl,congrArg (vi .u64) ?_,f8 (by simp(disch:=omega)only[Za];omega),tq⟩,tq⟩;rw[xP _ _ (by decide) (by decide),xT,xO,wm (by simpa using d8),Js];rfl
 ·obtain rfl:i=l.length:=Ka hi (by omega);refine⟨_,rfl,[],congrArg (vi .u64) ?_,tq⟩;rw[<-Zi,Zq]
theorem t4 {k:List UInt32} {i:Nat} (h:i<k.length):(wv k)[i]? =some (.int .u32 (k.getD i 0).toNat):=by
 rw[xZ h,Zd,Zf h];rfl
theorem p9 {k:Bs} {i:Nat} (h:i<k.length):(bv k)[i]? =some (.int .u8 (k.getD i 0).toNat):=by
 rw[bI h,Zd,Zf h];rfl
theorem wc {k:List Int} {i:Nat} (h:i<k.length):(iv k)[i]? =some (.int .i64 (k.getD i 0)):=by
 rw[wa h,Zd,Zf h];rfl
theorem LJ {n:Int} (h:0<n) (hm:n<=1073741824):b9 C 120 [.s (.slice none 0 0),i64 n] [] (.ret (.o 1 (.k 0) 0 0)) [.sc (bv (Zk n.toNat 0))]:=by
 refine Vi.c ?_;refine d9 (fun h=>absurd h (by omega)) (fun _=> ?_);have e1:I6.wrap (n-I6.wrap (0-((0:Nat):Int)))=n:=by simp only[IntKind.wrap_i64];omega
 refine fp (decide_eq_true (by rw[e1];exact h)) ?_;refine⟨Jh 0,Zp 0,Zp 0,Zp 0,?_⟩;refine⟨by rw[e1];exact h,by rw[e1];exact hm,_,rfl,?_⟩;refine⟨Jh 0,Zp 0,Zp 0,Z6 _,?_⟩;refine⟨_,rfl,[.d 22 0],rfl,⟨_,rfl,i6 ?_⟩,tq⟩;rw[e1];exact U4 _
theorem JK {n:Nat} {ls:List (Bs)} {xs:List V} (hx:xs=ls.map fun l=>bz l) (hn:ls.length=n) (h0:0<ls.flatten.length) (hm:ls.flatten.length<=1073741824) (hn2:n<=1073741824):b9 C 65 [.zz 1 n xs] [] (.ret (.o 1 (.k 0) 0 ls.flatten.length)) [.sc (bv ls.flatten)]:=by
 subst hx;subst hn;have get:∀i,(h:i<ls.length)->(ls.map fun l=>bz l)[i]? =some (bz ls[i]):=fun i h=>by simp[h]
 have stepL:∀i,(h:i<ls.length)->(ls.take (i+1)).flatten=(ls.take i).flatten++ls[i]:=fun i h=>by rw[Zr h,Jw,List.flatten_cons,List.flatten_nil,Z8]
 have le:∀i,(ls.take i).flatten.length<=ls.flatten.length:=fun i=>by
  conv=>rhs;rw[<-Kx i ls,Jw,Ze]
  omega
 refine Vf.c ?_;refine m9 (fun i=>⟨[(0,.zz 1 ls.length (ls.map fun l=>bz l)),(3,i64 (ls.take i).flatten.length),(9,.zz 1 ls.length (ls.map fun l=>bz l)),(10,i64 ls.length),(11,i64 i)],[]⟩) ls.length ⟨[],⟨rfl,rfl,rfl,rfl,rfl,tq⟩,tq⟩ fun i hi=> ?_;refine d9 (fun h=> ?_) (fun h=> ?_)
 ·have d8:i<ls.length:=(by omega);have e:((i:Int)).toNat*1=i:=(by omega);have l1:=le (i+1);rw[stepL i d8,Ze]at l1;have e1:I6.wrap (((ls.take i).flatten.length:Int)+(ls[i].length:Nat))=((ls.take (i+1)).flatten.length:Nat):=by rw[stepL i d8,Ze];simp only[IntKind.wrap_i64];omega
  refine⟨by omega,by omega,?_⟩;refine⟨_,by rw[e];exact get i d8,?_⟩;refine E5 (decide_eq_false (by rw[e1];omega)) ?_;exact⟨i+1,by omega,by omega,[],⟨rfl,f8 e1,rfl,rfl,f8 (by simp(disch:=omega)only[Za];omega),tq⟩,tq⟩
 ·obtain rfl:i=ls.length:=(by omega);refine⟨[],_,_,_,_,LJ (n:=ls.flatten.length) (by omega) (by omega),?_,rfl,?_⟩
  ·show[V.s (.slice none 0 0),i64 _]=_;rw[Zq]
  refine⟨Nat×Bs,fun x=>⟨[(6,.o 1 (.k 0) 0 (ls.take x.1).flatten.length),(25,.zz 1 ls.length (ls.map fun l=>bz l)),(26,i64 ls.length),(27,i64 x.1)],[.sc (bv ((ls.take x.1).flatten++x.2))]⟩,fun x=>x.1<=ls.length/\(x.1=ls.length->x.2=[]),fun x=>ls.length-x.1,⟨[],(0,Zk ls.flatten.length 0),⟨Z6 _,fun h=> ?_⟩,[.d 24 0],⟨rfl,rfl,rfl,rfl,tq⟩,⟨_,rfl,i6 ?_⟩,tq⟩,?_⟩
  ·exfalso;have:ls=[]:=J8 h.symm;subst this;simp at h0
  ·simp
  rintro ⟨i,z⟩ ⟨hi,hz⟩;simp only at hi hz;refine d9 (fun h=> ?_) (fun h=> ?_)
  ·have d8:i<ls.length:=(by omega);have e:((i:Int)).toNat*1=i:=(by omega);have l1:=le (i+1);rw[stepL i d8,Ze]at l1;refine⟨by omega,by omega,?_⟩;refine⟨_,by rw[e];exact get i d8,?_⟩;refine⟨(by simp[A2,j6,M5,y5,Ze,Zj,Zu,Zv,Zx,Zs,Zw,m5,Zi,Zy,Zo];done),(by simp(disch:=omega)only[Za];omega),(by simp only[A2,j6,M5,y5,Ze,Zj,Zu,Zv,Zx,Zs,Zw,m5,Zi,Zy,Zo];omega),?_⟩;refine⟨(i+1,[]),⟨by omega,fun _=>rfl⟩,(by simp(disch:=omega)only[Za];omega),[.d 33 0],⟨?_,rfl,rfl,f8 (by simp(disch:=omega)only[Za];omega),tq⟩,⟨_,rfl,i6 ?_⟩,tq⟩
   ·show V.o 1 (.k 0) 0 _=V.o 1 (.k 0) 0 _;rw[stepL i d8,Ze]
   ·rw[o6,B7,stepL i d8];simp[sub]
  ·obtain rfl:i=ls.length:=(by omega);refine⟨_,rfl,[.k 0],?_,⟨_,rfl,i6 ?_⟩,tq⟩
   ·show V.o 1 (.k 0) 0 _=V.o 1 (.k 0) 0 _;rw[Zq]
   ·rw[Zq,hz rfl,Z8]
theorem eB {n:Nat} {ls:List (Bs)} {t:Bs} {xs:List V} (ht:ls.flatten=t) (hx:xs=ls.map fun l=>bz l) (hn:ls.length=n) (h0:0<t.length) (hm:t.length<=1073741824) (hn2:n<=1073741824:=by first|decide|simp):b9 C 65 [.zz 1 n xs] [] (.ret (.o 1 (.k 0) 0 t.length)) [.sc (bv t)]:=by
 subst ht;exact JK hx hn h0 hm hn2
def mQ (v key:UInt32):UInt32:=((v<<<4^^^v>>>5)+v)^^^key
def I1:UInt32:=2654435769
def T2 (k:List UInt32) (x:UInt32×UInt32×UInt32):UInt32×UInt32×UInt32:=
 let v:=x.1+mQ x.2.1 (x.2.2+k.getD (x.2.2&&&3).toNat 0)
 let s:=x.2.2+I1
 (v,x.2.1+mQ v (s+k.getD (s>>>11&&&3).toNat 0),s)
def S9 (k:List UInt32) (x:UInt32×UInt32×UInt32):UInt32×UInt32×UInt32:=
 let w:=x.2.1-mQ x.1 (x.2.2+k.getD (x.2.2>>>11&&&3).toNat 0)
 let s:=x.2.2-I1
 (x.1-mQ w (s+k.getD (s&&&3).toNat 0),w,s)
theorem nq (x:UInt32):(x&&&3).toNat<4:=by
 rw[J5];exact Jz (n:=2) _ (by decide)
theorem sI (s:UInt32):U3.wrap ((Zc U3.bits (s.toNat:Int)&&&Zc U3.bits 3).toNat:Int)=((s&&&3).toNat:Int):=xN s 3
theorem iU (s:UInt32):U3.wrap ((s.toNat:Int)+2654435769)=((s+I1).toNat:Int):=y4 s I1
theorem mX (s:UInt32):U3.wrap ((s.toNat:Int)-2654435769)=((s-I1).toNat:Int):=aP s I1
theorem qd {x y:Int} {v k:UInt32} (hx:x=v.toNat) (hy:y=k.toNat):b9 C 206 [vi .u32 x,vi .u32 y] [] (.ret (u32 (mQ v k))) []:=by
 subst hx;subst hy;refine Vr.c ?_;refine⟨by omega,by omega,_,rfl,[],congrArg (vi .u32) ?_,tq⟩;rw[mY _ _ (by decide) (by decide),aO _ _ (by decide) (by decide),C0,y4,C0];rfl
abbrev V2 (k:List UInt32) (tag:Int):V:= .q [wz k,i64 tag] 0
theorem OV {tag x y:Int} {k:List UInt32} {v w:UInt32} (hk:k.length=4) (hx:x=v.toNat) (hy:y=w.toNat):b9 C 149 [V2 k tag,vi .u32 x,vi .u32 y,bool false] []
  (.ret (.t [u32 (it (T2 k) 32 (v,w,0)).1,u32 (it (T2 k) 32 (v,w,0)).2.1])) []:=by
 subst hx;subst hy;refine BQ.c ?_;refine ss 0 rfl (T2 k) (v,w,0) 32 (fun i z=>⟨[(0,V2 k tag),(1,u32 z.1),(2,u32 z.2.1),(3,bool false),(10,u32 z.2.2),(11,i64 i)],[]⟩) ⟨[],(0,(v,w,0)),⟨Z6 _,rfl⟩,[],⟨rfl,rfl,rfl,rfl,rfl,rfl,tq⟩,tq⟩ fun i z hi hz=> ?_;refine i7 (fun h=> ?_) (fun h=> ?_)
 ·obtain rfl:i=32:=(by omega);rw[<-hz];exact⟨_,rfl,[],rfl,tq⟩
 ·have d8:i<32:=(by omega);have e1:=sI z.2.2;have b1:=nq z.2.2;refine⟨_,rfl,?_⟩;refine⟨by rw[e1];omega,by rw[e1,hk];omega,?_⟩;refine⟨_,by rw[e1,Zb];exact t4 (i:=(z.2.2&&&3).toNat) (by omega),?_⟩;refine⟨[],_,_,_,_,qd rfl (by rw[y4]),rfl,rfl,?_⟩;have b2:=nq ((z.2.2+I1)>>>11);have e2:U3.wrap ((Zc U3.bits ((U3.wrap ((z.2.2.toNat:Int)+2654435769)).fdiv (2^(min (11:Int).toNat U3.bits)))&&&Zc U3.bits 3).toNat:Int)=(((z.2.2+I1)>>>11&&&3).toNat:Int):=by
   rw[iU,aO _ _ (by decide) (by decide)];exact sI _
  refine⟨_,rfl,by omega,?_⟩;refine⟨by rw[e2];omega,by rw[e2,hk];omega,?_⟩;refine⟨_,by rw[e2,Zb];exact t4 (i:=((z.2.2+I1)>>>11&&&3).toNat) (by omega),?_⟩;refine⟨[],_,_,_,_,qd (y4 _ _) (by rw[iU,y4]),rfl,rfl,?_⟩;refine⟨rfl,(i+1,T2 k z),⟨d8,bQ hz⟩,by omega,[],⟨rfl,congrArg (vi .u32) (y4 _ _),congrArg (vi .u32) (y4 _ _),rfl,congrArg (vi .u32) (iU _),f8 (by simp(disch:=omega)only[Za];omega),tq⟩,tq⟩
theorem OU {tag x y:Int} {k:List UInt32} {v w:UInt32} (hk:k.length=4) (hx:x=v.toNat) (hy:y=w.toNat):b9 C 149 [V2 k tag,vi .u32 x,vi .u32 y,bool true] []
  (.ret (.t [u32 (it (S9 k) 32 (v,w,3337565984)).1,u32 (it (S9 k) 32 (v,w,3337565984)).2.1])) []:=by
 subst hx;subst hy;refine BQ.c ?_;refine ss 0 rfl (S9 k) (v,w,3337565984) 32 (fun i z=>⟨[(0,V2 k tag),(1,u32 z.1),(2,u32 z.2.1),(3,bool true),(10,u32 z.2.2),(11,i64 i)],[]⟩) ⟨[],(0,(v,w,3337565984)),⟨Z6 _,rfl⟩,[],⟨rfl,rfl,rfl,rfl,rfl,rfl,tq⟩,tq⟩ fun i z hi hz=> ?_;refine i7 (fun h=> ?_) (fun h=> ?_)
 ·obtain rfl:i=32:=(by omega);rw[<-hz];exact⟨_,rfl,[],rfl,tq⟩
 ·have d8:i<32:=(by omega);have b1:=nq (z.2.2>>>11);have e1:U3.wrap ((Zc U3.bits ((z.2.2.toNat:Int).fdiv (2^(min (11:Int).toNat U3.bits)))&&&Zc U3.bits 3).toNat:Int)=((z.2.2>>>11&&&3).toNat:Int):=by
   rw[aO _ _ (by decide) (by decide)];exact sI _
  refine⟨_,rfl,by omega,?_⟩;refine⟨by rw[e1];omega,by rw[e1,hk];omega,?_⟩;refine⟨_,by rw[e1,Zb];exact t4 (i:=(z.2.2>>>11&&&3).toNat) (by omega),?_⟩;refine⟨[],_,_,_,_,qd rfl (by rw[y4]),rfl,rfl,?_⟩;have b2:=nq (z.2.2-I1);have e2:U3.wrap ((Zc U3.bits (U3.wrap ((z.2.2.toNat:Int)-2654435769))&&&Zc U3.bits 3).toNat:Int)=(((z.2.2-I1)&&&3).toNat:Int):=by
   rw[mX];exact sI _
  refine⟨_,rfl,?_⟩;refine⟨by rw[e2];omega,by rw[e2,hk];omega,?_⟩;refine⟨_,by rw[e2,Zb];exact t4 (i:=((z.2.2-I1)&&&3).toNat) (by omega),?_⟩;refine⟨[],_,_,_,_,qd (aP _ _) (by rw[mX,y4]),rfl,rfl,?_⟩;refine⟨rfl,(i+1,S9 k z),⟨d8,bQ hz⟩,by omega,[],⟨rfl,congrArg (vi .u32) (aP _ _),congrArg (vi .u32) (aP _ _),rfl,congrArg (vi .u32) (mX _),f8 (by simp(disch:=omega)only[Za];omega),tq⟩,tq⟩
theorem HF (x:UInt32):(x&&&3).toNat=x.toNat%4:=by
 rw[J5];exact Jn x.toNat 2
abbrev L1 (k:List UInt32) (tag:Int):V:= .q [i64 tag,wz k] 0
theorem pQ {tag x y t:Int} {k:List UInt32} {w s a:UInt32} (hk:k.length=4) (hx:x=w.toNat) (hy:y=s.toNat) (ht:t=a.toNat):b9 C 260 [L1 k tag,vi .u32 x,vi .u32 y,vi .u32 t] [] (.ret (u32 (mQ w (s+k.getD (a&&&3).toNat 0)))) []:=by
 subst hx;subst hy;subst ht;refine Uy.c ?_;have e:((a.toNat:Int).tmod 4)=((a&&&3).toNat:Int):=by
  rw[HF,Jk (Int.natCast_nonneg _)];rfl
 have b:=nq a;refine⟨by omega,by omega,_,rfl,by decide,?_⟩;refine⟨by rw[e];omega,by rw[e,hk];omega,?_⟩;refine⟨_,by rw[e,Zb];exact t4 (i:=(a&&&3).toNat) (by omega),?_⟩;refine⟨_,rfl,[],congrArg (vi .u32) ?_,tq⟩;rw[mY _ _ (by decide) (by decide),aO _ _ (by decide) (by decide),C0,y4,y4,C0];rfl
theorem NK {tag x y:Int} {k:List UInt32} {v w:UInt32} (hk:k.length=4) (hx:x=v.toNat) (hy:y=w.toNat):b9 C 217 [L1 k tag,vi .u32 x,vi .u32 y,bool false] []
  (.ret (.t [u32 (it (T2 k) 32 (v,w,0)).1,u32 (it (T2 k) 32 (v,w,0)).2.1])) []:=by
 subst hx;subst hy;refine BL.c ?_;refine oE (T2 k) (v,w,0) 32 (fun i z=>⟨[(0,L1 k tag),(1,u32 z.1),(2,u32 z.2.1),(10,u32 z.2.2),(11,i64 i)],[]⟩) ⟨[],⟨rfl,rfl,rfl,rfl,rfl,tq⟩,tq⟩ fun i z hi hz=> ?_;refine d9 (fun h=> ?_) (fun h=> ?_)
 ·have d8:i<32:=(by omega);refine⟨[],_,_,_,_,pQ hk rfl rfl rfl,rfl,rfl,?_⟩;refine⟨by omega,?_⟩;refine⟨[],_,_,_,_,pQ hk (y4 _ _) (iU _) (by rw[iU,aO _ _ (by decide) (by decide)]),rfl,rfl,?_⟩;refine⟨(i+1,T2 k z),⟨d8,bQ hz⟩,by omega,[],⟨rfl,congrArg (vi .u32) (y4 _ _),congrArg (vi .u32) (y4 _ _),congrArg (vi .u32) (iU _),f8 (by simp(disch:=omega)only[Za];omega),tq⟩,tq⟩
 ·obtain rfl:i=32:=(by omega);rw[<-hz];exact⟨_,rfl,[],rfl,tq⟩
theorem Nz {tag x y:Int} {k:List UInt32} {v w:UInt32} (hk:k.length=4) (hx:x=v.toNat) (hy:y=w.toNat):b9 C 217 [L1 k tag,vi .u32 x,vi .u32 y,bool true] []
  (.ret (.t [u32 (it (S9 k) 32 (v,w,3337565984)).1,u32 (it (S9 k) 32 (v,w,3337565984)).2.1])) []:=by
 subst hx;subst hy;refine BL.c ?_;refine oE (· +I1) 0 32 (fun i z=>⟨[(0,L1 k tag),(1,u32 v),(2,u32 w),(10,u32 z),(12,i64 i)],[]⟩) ⟨[],⟨rfl,rfl,rfl,rfl,rfl,tq⟩,tq⟩ fun i z hi hz=> ?_;refine d9 (fun h=> ?_) (fun h=> ?_)
 ·have d8:i<32:=(by omega);refine⟨(i+1,z+I1),⟨d8,bQ hz⟩,by omega,[],⟨rfl,rfl,rfl,congrArg (vi .u32) (iU _),f8 (by simp(disch:=omega)only[Za];omega),tq⟩,tq⟩
 obtain rfl:i=32:=(by omega);obtain rfl:z=3337565984:=by rw[hz];decide
 refine oE (S9 k) (v,w,3337565984) 32 (fun i z=>⟨[(0,L1 k tag),(1,u32 z.1),(2,u32 z.2.1),(10,u32 z.2.2),(13,i64 i)],[]⟩) ⟨[],⟨rfl,rfl,rfl,rfl,rfl,tq⟩,tq⟩ fun i z hi hz=> ?_;refine d9 (fun h=> ?_) (fun h=> ?_)
 ·have d8:i<32:=(by omega);refine⟨by omega,?_⟩;refine⟨[],_,_,_,_,pQ hk rfl rfl (by rw[aO _ _ (by decide) (by decide)]),rfl,rfl,?_⟩;refine⟨[],_,_,_,_,pQ hk (aP _ _) (mX _) (mX _),rfl,rfl,?_⟩;refine⟨(i+1,S9 k z),⟨d8,bQ hz⟩,by omega,[],⟨rfl,congrArg (vi .u32) (aP _ _),congrArg (vi .u32) (aP _ _),congrArg (vi .u32) (mX _),f8 (by simp(disch:=omega)only[Za];omega),tq⟩,tq⟩
 ·obtain rfl:i=32:=(by omega);rw[<-hz];exact⟨_,rfl,[],rfl,tq⟩
def T7 (c:UInt8):Nat:=if 65<=c.toNat then c.toNat-55 else c.toNat-48
def eY (c:UInt8):Bool:=decide (48<=c.toNat/\c.toNat<=57\/65<=c.toNat/\c.toNat<=70)
theorem vd {c:UInt8} (h:eY c=true):T7 c<16:=by
 unfold eY at h;unfold T7;have:=of_decide_eq_true h;split<;>omega
theorem Ow {x:Int} {c:UInt8} (hx:x=c.toNat) (h:eY c=true):b9 C 250 [vi .u8 x] [] (.ret (u32 (Zn (T7 c)))) []:=by
 subst hx;have h':=of_decide_eq_true h;refine Vq.c ?_;refine d9 (fun h1=> ?_) (fun h1=> ?_)
 ·refine⟨_,rfl,[],congrArg (vi .u32) ?_,tq⟩;simp only[wrap_u8,wrap_u32,Jm,T7];split<;>omega
 ·refine⟨_,rfl,[],congrArg (vi .u32) ?_,tq⟩;simp only[wrap_u8,wrap_u32,Jm,T7];split<;>omega
theorem Lz {x:Int} {c:UInt8} (hx:x=c.toNat) (h:eY c=true):b9 C 275 [vi .u8 x] [] (.ret (i64 (T7 c))) []:=by
 subst hx;have h':=of_decide_eq_true h;refine Ug.c ?_;refine d9 (fun h1=> ?_) (fun h1=> ?_)
 ·refine⟨_,rfl,[],f8 ?_,tq⟩;simp only[wrap_u8,IntKind.wrap_i64,T7];split<;>omega
 ·refine⟨_,rfl,[],f8 ?_,tq⟩;simp only[wrap_u8,IntKind.wrap_i64,T7];split<;>omega
def bR:List (Bs):=[[67,52,54,50,65,53,66,57,69,56,68,55,48,51,70,49],[54,56,50,51,57,65,53,67,49,69,52,55,66,68,48,70],[66,51,53,56,50,70,65,68,69,49,55,52,67,57,54,48],[67,56,50,49,68,52,70,54,55,48,65,53,51,69,57,66],[55,70,53,65,56,49,54,68,48,57,51,69,66,52,50,67],[53,68,70,54,57,50,67,65,66,55,56,49,52,51,69,48],[56,69,50,53,54,57,49,67,70,52,66,48,68,65,51,55],[49,55,69,68,48,53,56,51,52,70,65,54,57,67,66,50]]
abbrev M0 (l:Bs):V:= .s (.string ⟨l.toArray⟩)
theorem Mb:b9 C 249 [] [] (.ret (.a (bR.map M0))) []:=by
 refine Vp.c ?_;exact⟨by decide,_,rfl,rfl,_,rfl,[],rfl,tq⟩
def wn (x:UInt32) (i:Nat):UInt32:=Zn (T7 ((bR.getD i []).getD (x>>>Zn (4*i)&&&15).toNat 48))<<<Zn (4*i)
def mG (x k:UInt32):UInt32:=F5 ((List.range 8).foldl (fun o i=>o|||wn (x+k) i) 0) 11
theorem CY:∀i,i<8->∀j,j<16->eY ((bR.getD i []).getD j 48)=true:=by decide
theorem Xa (i:Nat) (h:i<8):(bR.map M0)[i]? =some (M0 (bR.getD i [])):=by
 have:i<bR.length:=h;simp[this]
theorem yN (x:UInt32):(x&&&15).toNat<16:=by
 rw[J5];exact Jz (n:=4) _ (by decide)
theorem CZ (i:Nat) (h:i<8):(bR.getD i []).length=16:=by
 revert h;revert i;decide
theorem oY {l:Bs} {j:Nat} (h:j<l.length):(ByteArray.mk l.toArray).data.toList[j]? =some (l.getD j 48):=by
 simp[List.getD,h]
theorem zo {a b:Int} {x k:UInt32} (ha:a=x.toNat) (hb:b=k.toNat):b9 C 208 [vi .u32 a,vi .u32 b] [] (.ret (u32 (mG x k))) []:=by
 subst ha;subst hb;refine Vn.c ?_;refine⟨[],_,_,_,_,Mb,rfl,rfl,?_⟩;refine m9 (fun i=>⟨[(0,u32 (x+k)),(5,u32 ((List.range i).foldl (fun o i=>o|||wn (x+k) i) 0)),(11,.a (bR.map M0)),(12,i64 i)],[]⟩) 8 ⟨[],⟨congrArg (vi .u32) (y4 _ _),rfl,rfl,rfl,tq⟩,tq⟩ fun i hi=> ?_;refine d9 (fun h=> ?_) (fun h=> ?_)
 ·have d8:i<8:=(by omega);refine⟨by omega,by omega,_,by rw[Zb,Zm];exact Xa i d8,?_⟩;have e4:I6.wrap (4*(i:Int))=((4*i:Nat):Int):=by simp only[IntKind.wrap_i64];omega
  have e5:((x+k).toNat:Int).fdiv (2^(min (((4*i:Nat):Int)).toNat U3.bits))=(((x+k)>>>Zn (4*i)).toNat:Int):=by
   rw[aO _ _ (by omega) (by omega),Zb]
  have e6:U3.wrap ((Zc U3.bits ((((x+k)>>>Zn (4*i)).toNat:Nat):Int)&&&Zc U3.bits 15).toNat:Int)=(((x+k)>>>Zn (4*i)&&&15).toNat:Int):=xN _ 15;have b:=yN ((x+k)>>>Zn (4*i));have hl:=CZ i d8;refine⟨by rw[e4];omega,by rw[e4,e5,e6];omega,?_,?_⟩
  ·rw[e4,e5,e6];show((((x+k)>>>Zn (4*i)&&&15).toNat:Nat):Int)<(((bR.getD i []).toArray.size:Nat):Int);simp only[List.size_toArray,hl];omega
  refine⟨_,by rw[e4,e5,e6,Zb];exact oY (by omega),?_⟩;refine⟨[],_,_,_,_,Ow rfl (CY i d8 _ b),rfl,rfl,?_⟩;refine⟨by rw[e4];omega,?_⟩;refine⟨i+1,d8,by omega,[],⟨rfl,congrArg (vi .u32) ?_,rfl,f8 (by simp(disch:=omega)only[Za];omega),tq⟩,tq⟩;rw[e4,mY _ _ (by omega) (by omega),sJ,Zz,J4,Zb];rfl
 ·obtain rfl:i=8:=(by omega);refine⟨[],_,_,_,_,Aj rfl (by decide),rfl,rfl,?_⟩;exact⟨_,rfl,[],rfl,tq⟩
theorem LK {n:Int} (h:0<n) (hm:n<=1073741824):b9 C 248 [.s (.slice none 0 0),i64 n] [] (.ret (.o 1 (.k 0) 0 0)) [.sc (wv (Zk n.toNat 0))]:=by
 refine Vj.c ?_;refine d9 (fun h=>absurd h (by omega)) (fun _=> ?_);have e1:I6.wrap (n-I6.wrap (0-((0:Nat):Int)))=n:=by simp only[IntKind.wrap_i64];omega
 refine fp (decide_eq_true (by rw[e1];exact h)) ?_;refine⟨Jh 0,Zp 0,Zp 0,Zp 0,?_⟩;refine⟨by rw[e1];exact h,by rw[e1];exact hm,_,rfl,?_⟩;refine⟨Jh 0,Zp 0,Zp 0,Z6 _,?_⟩;refine⟨_,rfl,[.d 22 0],rfl,⟨_,rfl,i6 ?_⟩,tq⟩;rw[e1];exact a3M _
theorem JL {n:Nat} {ls:List (List UInt32)} {xs:List V} (hx:xs=ls.map fun l=>wz l) (hn:ls.length=n) (h0:0<ls.flatten.length) (hm:ls.flatten.length<=1073741824) (hn2:n<=1073741824):b9 C 207 [.zz 1 n xs] [] (.ret (.o 1 (.k 0) 0 ls.flatten.length)) [.sc (wv ls.flatten)]:=by
 subst hx;subst hn;have get:∀i,(h:i<ls.length)->(ls.map fun l=>wz l)[i]? =some (wz ls[i]):=fun i h=>by simp[h]
 have stepL:∀i,(h:i<ls.length)->(ls.take (i+1)).flatten=(ls.take i).flatten++ls[i]:=fun i h=>by rw[Zr h,Jw,List.flatten_cons,List.flatten_nil,Z8]
 have le:∀i,(ls.take i).flatten.length<=ls.flatten.length:=fun i=>by
  conv=>rhs;rw[<-Kx i ls,Jw,Ze]
  omega
 refine Vg.c ?_;refine m9 (fun i=>⟨[(0,.zz 1 ls.length (ls.map fun l=>wz l)),(3,i64 (ls.take i).flatten.length),(9,.zz 1 ls.length (ls.map fun l=>wz l)),(10,i64 ls.length),(11,i64 i)],[]⟩) ls.length ⟨[],⟨rfl,rfl,rfl,rfl,rfl,tq⟩,tq⟩ fun i hi=> ?_;refine d9 (fun h=> ?_) (fun h=> ?_)
 ·have d8:i<ls.length:=(by omega);have e:((i:Int)).toNat*1=i:=(by omega);have l1:=le (i+1);rw[stepL i d8,Ze]at l1;have e1:I6.wrap (((ls.take i).flatten.length:Int)+(ls[i].length:Nat))=((ls.take (i+1)).flatten.length:Nat):=by rw[stepL i d8,Ze];simp only[IntKind.wrap_i64];omega
  refine⟨by omega,by omega,?_⟩;refine⟨_,by rw[e];exact get i d8,?_⟩;refine E5 (decide_eq_false (by rw[e1];omega)) ?_;exact⟨i+1,by omega,by omega,[],⟨rfl,f8 e1,rfl,rfl,f8 (by simp(disch:=omega)only[Za];omega),tq⟩,tq⟩
 ·obtain rfl:i=ls.length:=(by omega);refine⟨[],_,_,_,_,LK (n:=ls.flatten.length) (by omega) (by omega),?_,rfl,?_⟩
  ·show[V.s (.slice none 0 0),i64 _]=_;rw[Zq]
  refine⟨Nat×List UInt32,fun x=>⟨[(6,.o 1 (.k 0) 0 (ls.take x.1).flatten.length),(25,.zz 1 ls.length (ls.map fun l=>wz l)),(26,i64 ls.length),(27,i64 x.1)],[.sc (wv ((ls.take x.1).flatten++x.2))]⟩,fun x=>x.1<=ls.length/\(x.1=ls.length->x.2=[]),fun x=>ls.length-x.1,⟨[],(0,Zk ls.flatten.length 0),⟨Z6 _,fun h=> ?_⟩,[.d 24 0],⟨rfl,rfl,rfl,rfl,tq⟩,⟨_,rfl,i6 ?_⟩,tq⟩,?_⟩
  ·exfalso;have:ls=[]:=J8 h.symm;subst this;simp at h0
  ·simp
  rintro ⟨i,z⟩ ⟨hi,hz⟩;simp only at hi hz;refine d9 (fun h=> ?_) (fun h=> ?_)
  ·have d8:i<ls.length:=(by omega);have e:((i:Int)).toNat*1=i:=(by omega);have l1:=le (i+1);rw[stepL i d8,Ze]at l1;refine⟨by omega,by omega,?_⟩;refine⟨_,by rw[e];exact get i d8,?_⟩;refine⟨(by simp[A2,j6,M5,y5,Ze,Zj,Zu,Zv,Zx,Zs,Zw,m5,Zi,Zy,Zo];done),(by simp(disch:=omega)only[Za];omega),(by simp only[A2,j6,M5,y5,Ze,Zj,Zu,Zv,Zx,Zs,Zw,m5,Zi,Zy,Zo];omega),?_⟩;refine⟨(i+1,[]),⟨by omega,fun _=>rfl⟩,(by simp(disch:=omega)only[Za];omega),[.d 33 0],⟨?_,rfl,rfl,f8 (by simp(disch:=omega)only[Za];omega),tq⟩,⟨_,rfl,i6 ?_⟩,tq⟩
   ·show V.o 1 (.k 0) 0 _=V.o 1 (.k 0) 0 _;rw[stepL i d8,Ze]
   ·rw[a3N,nb,stepL i d8];simp[sub]
  ·obtain rfl:i=ls.length:=(by omega);refine⟨_,rfl,[.k 0],?_,⟨_,rfl,i6 ?_⟩,tq⟩
   ·show V.o 1 (.k 0) 0 _=V.o 1 (.k 0) 0 _;rw[Zq]
   ·rw[Zq,hz rfl,Z8]
theorem zv {n:Nat} {ls:List (List UInt32)} {t:List UInt32} {xs:List V} (ht:ls.flatten=t) (hx:xs=ls.map fun l=>wz l) (hn:ls.length=n) (h0:0<t.length) (hm:t.length<=1073741824) (hn2:n<=1073741824:=by first|decide|simp):b9 C 207 [.zz 1 n xs] [] (.ret (.o 1 (.k 0) 0 t.length)) [.sc (wv t)]:=by
 subst ht;exact JL hx hn h0 hm hn2
theorem pN {n:Nat} {va:List Value} {l:List UInt32} (ha:va=wv l) (hn:l.length=n) (h0:0<n) (hm:n<=1073741824):b9 C 197 [.z n va] [] (.ret (.o 1 (.k 0) 0 n)) [.sc (wv l)]:=by
 subst ha;refine Ve.c ?_;refine .inl ⟨h0,(by simp only[A2,j6,M5,y5,Ze,Zj,Zu,Zv,Zx,Zs,Zw,m5,Zi,Zy,Zo];omega),by omega,by omega,?_⟩;refine⟨_,rfl,[.d 7 0],?_,⟨_,rfl,rfl⟩,tq⟩;show V.o 1 (.k 0) 0 (0+n)=_;rw[Zl]
def aw {α:Type} (l:List α) (i:Nat):List α:=l.mapIdx fun p x=>if p<i\/l.length-i<=p then l.reverse.getD p x else x
theorem gq {α:Type} (l:List α) (i:Nat):(aw l i).length=l.length:=by simp[aw]
theorem Eu {α:Type} (l:List α):aw l 0=l:=by
 apply List.ext_getElem (by simp[aw]);intro j h1 h2;simp[aw];omega
theorem sj {α:Type} (l:List α) (i j:Nat) (h:j<l.length):(aw l i)[j]? =some (if j<i\/l.length-i<=j then l[l.length-1-j]else l[j]):=by
 have h2:j<(aw l i).length:=by rw[gq];exact h
 rw[Zf h2];simp only[aw,List.getElem_mapIdx];split
 ·rw[Zd,Zf (by simpa using h),Option.getD_some,Js]
 ·rfl
theorem Es {α:Type} (l:List α) (i:Nat) (h:l.length<=2*i+1):aw l i=l.reverse:=by
 apply Z3;intro j;by_cases hj:j<l.length
 ·rw[sj l i j hj,Ky hj];split
  ·rw[Zf (by omega)]
  ·rw[Zf (by omega)];congr 2;omega
 ·rw[Zg (by rw[gq];omega),Zg (by simp;omega)]
theorem Et {α:Type} (l:List α) (i:Nat) (h:i<l.length-1-i):((aw l i).set i (l[l.length-1-i]'(by omega))).set (l.length-1-i) (l[i]'(by omega))=aw l (i+1):=by
 apply Z3;intro j;by_cases hj:j<l.length
 ·rw[sj l (i+1) j hj,Jr,Jr,sj l i j hj];simp only[Zu,gq];by_cases h1:l.length-1-i=j
  ·subst h1;rw[if_pos rfl,if_pos (by omega),if_pos (by omega)];congr 2;omega
  ·rw[if_neg h1];by_cases h2:i=j
   ·subst h2;rw[if_pos rfl,if_pos (by omega),if_pos (by omega)]
   ·rw[if_neg h2];congr 1;by_cases h3:j<i\/l.length-i<=j
    ·rw[if_pos h3,if_pos (by omega)]
    ·rw[if_neg h3,if_neg (by omega)]
 ·rw[Zg (by simp[gq];omega),Zg (by rw[gq];omega)]
theorem sT {l:List UInt32} {j:Nat} {x:UInt32} (h:l[j]? =some x):(wv l)[j]? =some (.int .u32 x.toNat):=by simp[wv,h]
theorem sm {α:Type} (l:List α) (i j:Nat) (h:j<l.length) (h1:i<=j) (h2:j<l.length-i):(aw l i)[j]? =some l[j]:=by
 rw[sj l i j h,if_neg (by omega)]
theorem kR {n:Nat} {l:List UInt32} (hn:l.length=n) (h0:0<n) (hm:n<=1073741824):b9 C 195 [.o 1 (.k 0) 0 n] [.sc (wv l)] (.ret (.t [])) [.sc (wv l.reverse)]:=by
 subst hn;refine Vm.c ?_;refine m9 (fun i=>⟨[(0,.o 1 (.k 0) 0 l.length),(2,i64 i),(3,i64 (l.length-1-i))],[.sc (wv (aw l i))]⟩) l.length ⟨[.k 0],⟨rfl,rfl,f8 (by simp(disch:=omega)only[Za];omega),tq⟩,⟨_,rfl,i6 (by rw[Eu])⟩,tq⟩ fun i hi=> ?_;refine d9 (fun h=> ?_) (fun h=> ?_)
 ·have d8:i<l.length-1-i:=(by omega);have e1:0+((l.length:Int)-1-i).toNat*1=l.length-1-i:=(by omega);have e2:0+((i:Int)).toNat*1=i:=(by omega);refine⟨by omega,by omega,_,by rw[e1];exact sT (sm l i (l.length-1-i) (by omega) (by omega) (by omega)),?_⟩;refine⟨by omega,by omega,_,by rw[e2];exact sT (sm l i i (by omega) (by omega) (by omega)),?_⟩;refine⟨by omega,by omega,by rw[e2,y5,gq];omega,by omega,by omega,by rw[e1,Zu,y5,gq];omega,?_⟩;refine⟨i+1,by omega,by omega,[.k 0],⟨rfl,f8 (by simp(disch:=omega)only[Za];omega),f8 (by simp(disch:=omega)only[Za];omega),tq⟩,⟨_,rfl,i6 ?_⟩,tq⟩;rw[e1,e2,bB,bB,Et l i d8]
 ·refine⟨_,rfl,[.k 0],rfl,⟨_,rfl,i6 ?_⟩,tq⟩;rw[Es l i (by omega)]
def F4 (k:List UInt32):List UInt32:=k++k++k++k.reverse
def V1 (x:UInt32×UInt32) (k:UInt32):UInt32×UInt32:=(x.2,x.1^^^mG x.2 k)
def bS (ks:List UInt32) (v w:UInt32):UInt32×UInt32:=((ks.foldl V1 (v,w)).2,(ks.foldl V1 (v,w)).1)
theorem CV (k:List UInt32):[k,k,k,k.reverse].flatten=F4 k:=by simp[F4]
theorem cE {α β:Type} (f:β->α->β) (l:List α) (b:β) (i:Nat) (h:i<l.length):(l.take (i+1)).foldl f b=f ((l.take i).foldl f b) l[i]:=by
 rw[Zr h,J4];rfl
theorem LY {tag x y:Int} {k:List UInt32} {v w:UInt32} (hk:k.length=8) (hx:x=v.toNat) (hy:y=w.toNat):b9 C 150 [V2 k tag,vi .u32 x,vi .u32 y,bool false] []
  (.ret (.t [u32 (bS (F4 k) v w).1,u32 (bS (F4 k) v w).2])) []:=by
 subst hx;subst hy;refine BO.c ?_;refine⟨_,rfl,?_⟩;refine⟨[],_,_,_,_,pN rfl rfl (by omega) (by omega),rfl,rfl,?_⟩;refine⟨[.d 18 0],_,_,_,_,kR (l:=k) hk (by omega) (by omega),?_,rfl,?_⟩
 ·show[V.o 1 (.k 0) 0 k.length]=_;rw[hk]
 refine⟨_,rfl,_,rfl,_,rfl,?_⟩;refine⟨[],_,_,_,_,zv (ls:=[k,k,k,k.reverse]) (CV k) ?_ rfl (by simp[F4];omega) (by simp[F4];omega),rfl,rfl,?_⟩
 ·show[V.z _ _,V.z _ _,V.z _ _,V.z _ _]=_;rw[D7 (by simp[hk])];simp[hk]
 have hm:(F4 k).length=32:=by simp[F4,hk]
 generalize F4 k=KS at hm ⊢;refine m9 (fun i=>⟨[(1,u32 (((KS.take i).foldl V1 (v,w)).1)),(2,u32 (((KS.take i).foldl V1 (v,w)).2)),(39,.z 32 (wv KS)),(40,i64 32),(41,i64 i)],[]⟩) 32 ⟨[],⟨rfl,rfl,?_,?_,rfl,tq⟩,tq⟩ fun i hi=> ?_
 ·show V.z _ (sub _ _ _)=V.z _ _;rw[D7 rfl,hm]
 ·show i64 _=i64 _;rw[hm];rfl
 refine d9 (fun h=> ?_) (fun h=> ?_)
 ·have d8:i<32:=(by omega);refine⟨by omega,by omega,_,xZ (i:=i) (by omega),?_⟩;refine⟨[],_,_,_,_,zo rfl rfl,rfl,rfl,?_⟩;refine⟨i+1,by omega,by omega,[],⟨?_,?_,rfl,rfl,f8 (by simp(disch:=omega)only[Za];omega),tq⟩,tq⟩
  ·rw[cE _ _ _ _ (by omega)];rfl
  ·rw[cE _ _ _ _ (by omega)];exact congrArg (vi .u32) (C0 _ _)
 ·obtain rfl:i=32:=(by omega);rw[<-hm,Zq];exact⟨_,rfl,[],rfl,tq⟩
theorem LZ {tag x y:Int} {k:List UInt32} {v w:UInt32} (hk:k.length=8) (hx:x=v.toNat) (hy:y=w.toNat):b9 C 150 [V2 k tag,vi .u32 x,vi .u32 y,bool true] []
  (.ret (.t [u32 (bS (F4 k).reverse v w).1,u32 (bS (F4 k).reverse v w).2])) []:=by
 subst hx;subst hy;refine BO.c ?_;refine⟨_,rfl,?_⟩;refine⟨[],_,_,_,_,pN rfl rfl (by omega) (by omega),rfl,rfl,?_⟩;refine⟨[.d 18 0],_,_,_,_,kR (l:=k) hk (by omega) (by omega),?_,rfl,?_⟩
 ·show[V.o 1 (.k 0) 0 k.length]=_;rw[hk]
 refine⟨_,rfl,_,rfl,_,rfl,?_⟩;refine⟨[],_,_,_,_,zv (ls:=[k,k,k,k.reverse]) (CV k) ?_ rfl (by simp[F4];omega) (by simp[F4];omega),rfl,rfl,?_⟩
 ·show[V.z _ _,V.z _ _,V.z _ _,V.z _ _]=_;rw[D7 (by simp[hk])];simp[hk]
 have hm:(F4 k).length=32:=by simp[F4,hk]
 generalize F4 k=K0 at hm ⊢;refine⟨[.d 35 0],_,_,_,_,kR (l:=K0) hm (by omega) (by omega),?_,rfl,?_⟩
 ·show[V.o 1 (.k 0) 0 K0.length]=_;rw[hm]
 have hm':K0.reverse.length=32:=by simp[hm]
 generalize hKS:K0.reverse=KS at hm' ⊢;refine m9 (fun i=>⟨[(1,u32 (((KS.take i).foldl V1 (v,w)).1)),(2,u32 (((KS.take i).foldl V1 (v,w)).2)),(39,.z 32 (wv KS)),(40,i64 32),(41,i64 i)],[]⟩) 32 ⟨[],⟨rfl,rfl,?_,?_,rfl,tq⟩,tq⟩ fun i hi=> ?_
 ·show V.z _ (sub _ _ _)=V.z _ _;rw[D7 (by rw[hm,hm']),hm]
 ·show i64 _=i64 _;rw[hm];rfl
 refine d9 (fun h=> ?_) (fun h=> ?_)
 ·have d8:i<32:=(by omega);refine⟨by omega,by omega,_,xZ (i:=i) (by omega),?_⟩;refine⟨[],_,_,_,_,zo rfl rfl,rfl,rfl,?_⟩;refine⟨i+1,by omega,by omega,[],⟨?_,?_,rfl,rfl,f8 (by simp(disch:=omega)only[Za];omega),tq⟩,tq⟩
  ·rw[cE _ _ _ _ (by omega)];rfl
  ·rw[cE _ _ _ _ (by omega)];exact congrArg (vi .u32) (C0 _ _)
 ·obtain rfl:i=32:=(by omega);rw[<-hm',Zq];exact⟨_,rfl,[],rfl,tq⟩
def t8 (l:Bs):UInt32:=(P7 l).toUInt32
def t5 (l:Bs):UInt32:=(P7 l.reverse).toUInt32
def D6 (f:Bs->UInt32) (b:Bs) (k:Nat):List UInt32:=(List.range k).map fun i=>f (sub b (4*i) 4)
theorem U1 (f b k):(D6 f b k).length=k:=by simp[D6]
theorem sS (f b k):D6 f b (k+1)=D6 f b k++[f (sub b (4*k) 4)]:=by simp[D6,Zz]
theorem V3 {α:Type} (l:List α) (a i n:Nat):sub (l.drop a) i n=sub l (a+i) n:=by simp[sub]
theorem Is (l:Bs) (i:Nat):(bv l).drop i=bv (l.drop i):=by simp[bv,Kk]
theorem a3L (x:UInt32):[Value.int .u32 x.toNat]=wv [x]:=rfl
theorem M9 {α:Type} (l:List α) (i n:Nat) (h:n=l.length-i):sub l i n=l.drop i:=by subst h;simp[sub,Ks]
theorem S8 {l:List UInt32} {n:Nat} {x:UInt32} (h:l.length=n):sub (wv l) 0 n++[Value.int .u32 x.toNat]=wv (l++[x]):=by
 rw[D7 h,a3L,nb]
theorem pR {n m:Nat} {va:List Value} {b:Bs} (ha:va=bv b) (hn:b.length=n) (h4:n=4*m) (h0:0<m) (hm:n<=1073741824):b9 C 147 [.z n va,bool false] [] (.ret (.o 1 (.k 0) 0 m)) [.sc (wv (D6 t8 b m))]:=by
 subst ha;subst h4;refine BS.c ?_;refine E9 (fun i=>⟨[(0,.z (4*(m-i)) (bv (b.drop (4*i)))),(1,bool false),(5,.o 1 (.k 0) 0 i)],[.sc (wv (D6 t8 b i))]⟩) m [(5,1,.sc [])] ⟨[.d 900000 0],⟨rfl,rfl,rfl,tq⟩,⟨_,rfl,rfl⟩,tq⟩ fun i hi=> ?_;refine d9 (fun h=> ?_) (fun h=> ?_)
 ·have d8:i<m:=(by omega);refine⟨by omega,by omega,by omega,by omega,by omega,?_⟩;have e:sub (bv (b.drop (4*i))) 0 4=bv (sub b (4*i) 4):=by rw[o6,V3];rfl
  have el:(sub b (4*i) 4).length=4:=by rw[m5];omega
  refine⟨[],_,_,_,_,uj e el rfl,rfl,rfl,?_⟩;refine⟨Zp _,by omega,by rw[y5,U1];omega,?_⟩;refine⟨by omega,by omega,by omega,by omega,?_⟩;refine⟨i+1,by omega,by omega,[.d 29 0],⟨?_,rfl,rfl,tq⟩,⟨_,rfl,i6 ?_⟩,tq⟩
  ·show V.z (4*(m-i)-4) (sub _ 4 (4*(m-i)-4))=_;rw[o6,V3,M9 _ _ _ (by omega)];rw[show 4*(m-i)-4=4*(m-(i+1)) by omega,show 4*i+4=4*(i+1) by omega]
  ·rw[sS];exact S8 (by rw[U1];omega)
 ·obtain rfl:i=m:=(by omega);exact⟨_,rfl,[.k 0],rfl,⟨_,rfl,rfl⟩,tq⟩
theorem zQ {n m:Nat} {va:List Value} {b:Bs} (ha:va=bv b) (hn:b.length=n) (h4:n=4*m) (h0:0<m) (hm:n<=1073741824):b9 C 147 [.z n va,bool true] [] (.ret (.o 1 (.k 0) 0 m)) [.sc (wv (D6 t5 b m))]:=by
 subst ha;subst h4;refine BS.c ?_;refine E9 (fun i=>⟨[(0,.z (4*(m-i)) (bv (b.drop (4*i)))),(1,bool true),(5,.o 1 (.k 0) 0 i)],[.sc (wv (D6 t5 b i))]⟩) m [(5,1,.sc [])] ⟨[.d 900000 0],⟨rfl,rfl,rfl,tq⟩,⟨_,rfl,rfl⟩,tq⟩ fun i hi=> ?_;refine d9 (fun h=> ?_) (fun h=> ?_)
 ·have d8:i<m:=(by omega);refine⟨by omega,by omega,by omega,by omega,by omega,?_⟩;have e:sub (bv (b.drop (4*i))) 0 4=bv (sub b (4*i) 4):=by rw[o6,V3];rfl
  have el:(sub b (4*i) 4).length=4:=by rw[m5];omega
  refine⟨[],_,_,_,_,uj e el rfl,rfl,rfl,?_⟩;refine⟨by omega,by omega,by omega,by omega,by omega,?_⟩;refine⟨[],_,_,_,_,dz e el rfl,rfl,rfl,?_⟩;refine⟨Zp _,by omega,by rw[y5,U1];omega,?_⟩;refine⟨by omega,by omega,by omega,by omega,?_⟩;refine⟨i+1,by omega,by omega,[.d 29 0],⟨?_,rfl,rfl,tq⟩,⟨_,rfl,i6 ?_⟩,tq⟩
  ·show V.z (4*(m-i)-4) (sub _ 4 (4*(m-i)-4))=_;rw[o6,V3,M9 _ _ _ (by omega)];rw[show 4*(m-i)-4=4*(m-(i+1)) by omega,show 4*i+4=4*(i+1) by omega]
  ·rw[sS];exact S8 (by rw[U1];omega)
 ·obtain rfl:i=m:=(by omega);exact⟨_,rfl,[.k 0],rfl,⟨_,rfl,rfl⟩,tq⟩
theorem qa {n m:Nat} {va:List Value} {b:Bs} (ha:va=bv b) (hn:b.length=n) (h4:n=4*m) (h0:0<m) (hm:n<=1073741824):b9 C 115 [.z n va] [] (.ret (.o 1 (.k 0) 0 m)) [.sc (wv (D6 t8 b m))]:=by
 subst ha;subst h4;refine Uz.c ?_;refine E9 (fun i=>⟨[(0,.z (4*m) (bv b)),(3,.o 1 (.k 0) 0 i),(4,i64 (4*i:Nat))],[.sc (wv (D6 t8 b i))]⟩) m [(3,1,.sc [])] ⟨[.d 900000 0],⟨rfl,rfl,rfl,tq⟩,⟨_,rfl,rfl⟩,tq⟩ fun i hi=> ?_;refine d9 (fun h=> ?_) (fun h=> ?_)
 ·have d8:i<m:=(by omega);refine⟨(by simp(disch:=omega)only[Za];omega),by omega,(by simp(disch:=omega)only[Za];omega),by omega,(by simp(disch:=omega)only[Za];omega),?_⟩;have e:(I6.wrap (((4*i:Nat):Int)+4)).toNat-(((4*i:Nat):Int)).toNat=4:=by simp only[IntKind.wrap_i64];omega
  rw[e,Zb];have el:(sub b (4*i) 4).length=4:=by rw[m5];omega
  refine⟨[],_,_,_,_,IZ (l:=sub b (4*i) 4) (o6 _ _ _) el (by decide),rfl,rfl,?_⟩;refine⟨Zp _,by omega,by rw[y5,U1];omega,?_⟩;refine⟨i+1,by omega,by omega,[.d 20 0],⟨rfl,rfl,f8 (by simp(disch:=omega)only[Za];omega),tq⟩,⟨_,rfl,i6 ?_⟩,tq⟩;rw[sS,mZ];exact S8 (by rw[U1];omega)
 ·obtain rfl:i=m:=(by omega);exact⟨_,rfl,[.k 0],rfl,⟨_,rfl,rfl⟩,tq⟩
theorem Ab {n m:Nat} {va:List Value} {b:Bs} (ha:va=bv b) (hn:b.length=n) (h4:n=4*m) (h0:0<m) (hm:n<=1073741824):b9 C 174 [.z n va] [] (.ret (.o 1 (.k 0) 0 m)) [.sc (wv (D6 t5 b m))]:=by
 subst ha;subst h4;refine UP.c ?_;refine E9 (fun i=>⟨[(0,.z (4*m) (bv b)),(3,.o 1 (.k 0) 0 i),(4,i64 (4*i:Nat))],[.sc (wv (D6 t5 b i))]⟩) m [(3,1,.sc [])] ⟨[.d 900000 0],⟨rfl,rfl,rfl,tq⟩,⟨_,rfl,rfl⟩,tq⟩ fun i hi=> ?_;refine d9 (fun h=> ?_) (fun h=> ?_)
 ·have d8:i<m:=(by omega);refine⟨(by simp(disch:=omega)only[Za];omega),by omega,(by simp(disch:=omega)only[Za];omega),by omega,(by simp(disch:=omega)only[Za];omega),?_⟩;have e:(I6.wrap (((4*i:Nat):Int)+4)).toNat-(((4*i:Nat):Int)).toNat=4:=by simp only[IntKind.wrap_i64];omega
  rw[e,Zb];have el:(sub b (4*i) 4).length=4:=by rw[m5];omega
  refine⟨[],_,_,_,_,fF (l:=sub b (4*i) 4) (o6 _ _ _) el (by decide),rfl,rfl,?_⟩;refine⟨Zp _,by omega,by rw[y5,U1];omega,?_⟩;refine⟨i+1,by omega,by omega,[.d 20 0],⟨rfl,rfl,f8 (by simp(disch:=omega)only[Za];omega),tq⟩,⟨_,rfl,i6 ?_⟩,tq⟩;rw[sS,mZ];exact S8 (by rw[U1];omega)
 ·obtain rfl:i=m:=(by omega);exact⟨_,rfl,[.k 0],rfl,⟨_,rfl,rfl⟩,tq⟩
theorem a3n (a b:UInt32):((a.toNat:Int).tmod (b.toNat:Int))=((a%b).toNat:Int):=by
 rw[UInt32.toNat_mod,<-Int.ofNat_tmod]
theorem X4 (a:UInt32):((a.toNat:Int).tmod 32)=((a%32).toNat:Int):=a3n a 32
theorem fb (a:UInt32):(a%32).toNat<32:=by
 rw[UInt32.toNat_mod];exact Z4 _ (by decide)
theorem aq (a b:Nat):((a:Int).tmod (b:Int))=((a%b:Nat):Int):=by rw[<-Int.ofNat_tmod]
theorem bn {C:m6} {rt:Rt} {m:Nat} {c:Code} {s:S} {K:X->S->Prop} (l:Nat) {p q:Code} (hs:K3 c l=some (p,q)) (n:Nat) (I:Nat->D) (h0:vc C rt m p s fun e s'=>match e with
   | .normal=>∃(l:List (Nat×Nat×B)) (y:Nat),y<n/\ar l 0 s' fun s'=>Mt m s' (I y)
   | .goto l'=>l'=l/\∃y:Nat,y<n/\Mt m s' (I y)
   |e=>K e s') (h:∀i,i<n->vc C rt m q (I i).s fun e s'=>match e with
   | .goto l'=>l'=l/\∃y:Nat,y<n/\n-y<n-i/\Mt m s' (I y)
   |e=>K e s'):jN C rt m c s K:=
 ⟨l,Nat,I,fun x=>x<n,fun x=>n-x,by rw[hs];exact⟨h0,h⟩⟩
def jx:UInt32:=3084996963
def eW (n:Nat):List UInt32:=(List.range n).map fun i=>jx+Zn i*I1
theorem ou (n):(eW n).length=n:=by simp[eW]
theorem Cm (n):eW (n+1)=eW n++[jx+Zn n*I1]:=by simp[eW,Zz]
theorem Wh (n i) (h:i<n):(eW n)[i]? =some (jx+Zn i*I1):=by simp[eW,h]
theorem Wm (n:Nat):jx+Zn n*I1+I1=jx+Zn (n+1)*I1:=by
 rw[UInt32.add_assoc,UInt32.ofNat_add,UInt32.add_mul,show Zn 1*I1=I1 by decide]
abbrev GS:=List UInt32×List UInt32×UInt32×UInt32
def gA (i:Nat) (x:GS):UInt32:=F5 (x.1.getD (i%26) 0+x.2.2.1+x.2.2.2) 3
def gB (i:Nat) (x:GS):UInt32:=F5 (x.2.1.getD (i%4) 0+gA i x+x.2.2.2) ((gA i x+x.2.2.2)%32).toNat
def vN (x:GS) (i:Nat):GS:=(x.1.set (i%26) (gA i x),x.2.1.set (i%4) (gB i x),gA i x,gB i x)
def A4 (l:List UInt32) (n:Nat):GS:=(List.range n).foldl vN (eW 26,l,0,0)
theorem dG (l n):A4 l (n+1)=vN (A4 l n) n:=by simp[A4,Zz]
theorem ot (l n):(A4 l n).1.length=26/\(A4 l n).2.1.length=l.length:=by
 induction n with
 |zero=>exact⟨ou 26,rfl⟩
 |succ n ih=>rw[dG];simp[vN,ih]
theorem bK {x n:Int} {v:UInt32} {k:Nat} (hx:x=v.toNat) (hn:n%32=k) (hb: -9223372036854775808<=n/\n<=9223372036854775807):b9 C 138 [vi .u32 x,i64 n] [] (.ret (u32 (F5 v k))) []:=by
 have h:=Aj hx hb;rw[hn]at h;exact h
theorem V6 {x n:Int} {v:UInt32} {k:Nat} (hx:x=v.toNat) (hn:n%32=k) (hb: -9223372036854775808<=n/\n<=9223372036854775807):b9 C 169 [vi .u32 x,i64 n] [] (.ret (u32 (F5 v k))) []:=by
 have h:=MR hx hb;rw[hn]at h;exact h
theorem LI {l:List UInt32} (hl:l.length=4):b9 C 148 [.o 1 (.k 0) 0 4] [.sc (wv l)] (.ret (.o 1 (.k 1) 0 26)) [.sc (wv (A4 l 78).2.1),.sc (wv (A4 l 78).1)]:=by
 refine Vo.c ?_;refine bn 0 rfl 78 (fun i=>⟨[(0,.o 1 (.k 0) 0 4),(3,.o 1 (.k 1) 0 26),(4,u32 (A4 l i).2.2.1),(5,u32 (A4 l i).2.2.2),(6,i64 i)],[.sc (wv (A4 l i).2.1),.sc (wv (A4 l i).1)]⟩) ?_ fun i hi=> ?_
 ·refine m9 (fun i=>⟨[(0,.o 1 (.k 0) 0 4),(3,.o 1 (.k 1) 0 (i+1))],[.sc (wv l),.sc (wv (eW (i+1)))]⟩) 25 ⟨[.k 0,.d 9 0],⟨rfl,rfl,tq⟩,⟨_,rfl,rfl⟩,⟨_,rfl,rfl⟩,tq⟩ fun i hi=> ?_;refine d9 (fun h=> ?_) (fun h=> ?_)
  ·have e:(I6.wrap (((i+1:Nat):Int)-1))=(i:Int):=by simp only[IntKind.wrap_i64];omega
   refine⟨by rw[e];omega,by rw[e];omega,?_⟩;refine⟨_,by rw[e,Zb,Zm,Zl];exact sT (Wh (i+1) i (by omega)),?_⟩;refine⟨Zp _,by omega,by rw[y5,ou];omega,?_⟩;refine⟨i+1,by omega,by omega,[.k 0,.d 22 0],⟨rfl,rfl,tq⟩,⟨_,rfl,rfl⟩,⟨_,rfl,i6 ?_⟩,tq⟩;rw[Cm (i+1),<-Wm,iU];exact S8 (by rw[ou];omega)
  ·obtain rfl:i=25:=(by omega);exact⟨[],0,by omega,[.k 0,.k 1],⟨rfl,rfl,rfl,rfl,rfl,tq⟩,⟨_,rfl,rfl⟩,⟨_,rfl,rfl⟩,tq⟩
 ·obtain⟨l1,l2⟩:=ot l i;have e1:((i:Int).tmod 26)=((i%26:Nat):Int):=aq i 26;have e2:((i:Int).tmod ((4:Nat):Int))=((i%4:Nat):Int):=aq i 4;have b1:i%26<26:=Z4 _ (by omega);have b2:i%4<4:=Z4 _ (by omega);refine⟨by decide,by decide,?_⟩;refine⟨by rw[e1];omega,by rw[e1];omega,?_⟩;refine⟨_,by rw[e1,Zb,Zm,Zl];exact t4 (by omega),?_⟩;refine⟨[],_,_,_,_,bK (v:=(A4 l i).1.getD (i%26) 0+(A4 l i).2.2.1+(A4 l i).2.2.2) (k:=3) (by rw[y4,y4]) (by decide) (by decide),rfl,rfl,?_⟩;refine⟨by rw[e1];omega,by rw[e1];omega,by rw[e1,y5];omega,?_⟩;refine⟨by rw[e2];omega,by rw[e2];omega,?_⟩;refine⟨_,by rw[e2,Zb,Zm,Zl];exact t4 (by omega),?_⟩;refine⟨by decide,?_⟩;have e3:((U3.wrap (((gA i (A4 l i)).toNat:Int)+((A4 l i).2.2.2.toNat:Int))).tmod 32)=(((gA i (A4 l i)+(A4 l i).2.2.2)%32).toNat:Int):=by rw[y4,X4]
  have b3:=fb (gA i (A4 l i)+(A4 l i).2.2.2);refine⟨[],_,_,_,_,bK (v:=(A4 l i).2.1.getD (i%4) 0+gA i (A4 l i)+(A4 l i).2.2.2) (k:=((gA i (A4 l i)+(A4 l i).2.2.2)%32).toNat) (by rw[y4];exact y4 _ _) (by erw [e3];rw[S7];omega) (by erw [e3];rw[S7];omega),rfl,rfl,?_⟩;refine⟨by rw[e2];omega,by rw[e2];omega,by rw[e2,y5];omega,?_⟩;refine d9 (fun h=> ?_) (fun h=> ?_)
  ·refine⟨rfl,i+1,by simp only[IntKind.wrap_i64]at h;omega,by omega,[.k 0,.k 1],⟨rfl,rfl,?_,?_,f8 (by simp(disch:=omega)only[Za];omega),tq⟩,⟨_,rfl,i6 ?_⟩,⟨_,rfl,i6 ?_⟩,tq⟩
   ·rw[dG];rfl
   ·rw[dG];rfl
   ·rw[e2,Zb,Zm,Zl,bB,dG];rfl
   ·rw[e1,Zb,Zm,Zl,bB,dG];rfl
  ·have e78:78=i+1:=by simp only[IntKind.wrap_i64]at h;omega
   refine⟨_,rfl,[.k 0,.k 1],rfl,⟨_,rfl,i6 ?_⟩,⟨_,rfl,i6 ?_⟩,tq⟩
   ·rw[e2,Zb,Zm,Zl,bB,e78,dG];rfl
   ·rw[e1,Zb,Zm,Zl,bB,e78,dG];rfl
theorem GR {l:List UInt32} {i:Nat} {x:UInt32} (h:i<l.length):(wv (l.set i x))[i]? =some (.int .u32 x.toNat):=sT (by simp[h])
theorem Ny {va:List Value} {key:Bs} (ha:va=bv key) (hk:key.length=16):b9 C 114 [.z 16 va] [] (.ret (.o 1 (.k 0) 0 26)) [.sc (wv (A4 (D6 t5 key 4) 78).1)]:=by
 refine UR.c ?_;refine⟨[],_,_,_,_,Ab (m:=4) ha hk rfl (by decide) (by decide),rfl,rfl,?_⟩;have hl:(D6 t5 key 4).length=4:=U1 _ _ _;generalize D6 t5 key 4=l at hl ⊢;refine E9 (fun i=>⟨[(3,.o 1 (.k 0) 0 4),(4,.o 1 (.k 1) 0 i),(5,i64 i)],[.sc (wv l),.sc (wv (eW i))]⟩) 26 [(4,1,.sc [])] ⟨[.d 10 0,.d 900000 0],⟨rfl,rfl,rfl,tq⟩,⟨_,rfl,rfl⟩,⟨_,rfl,rfl⟩,tq⟩ fun i hi=> ?_;refine d9 (fun h=> ?_) (fun h=> ?_)
 ·have d8:i<26:=(by omega);refine⟨Zp _,by omega,by rw[y5,ou];omega,?_⟩;refine⟨i+1,by omega,by omega,[.k 0,.d 21 0],⟨rfl,rfl,f8 (by simp(disch:=omega)only[Za];omega),tq⟩,⟨_,rfl,rfl⟩,⟨_,rfl,i6 ?_⟩,tq⟩;have e:U3.wrap ((3084996963:Int)+U3.wrap (U3.wrap (i:Int)*2654435769))=((jx+Zn i*I1).toNat:Int):=by
   rw[Dq i,show(2654435769:Int)=((I1).toNat:Int) from rfl,jV,show(3084996963:Int)=((jx).toNat:Int) from rfl,y4]
  rw[Cm,e];exact S8 (by rw[ou,Zm])
 obtain rfl:i=26:=(by omega);refine m9 (fun i=>⟨[(3,.o 1 (.k 0) 0 4),(4,.o 1 (.k 1) 0 26),(6,u32 (A4 l i).2.2.1),(7,u32 (A4 l i).2.2.2),(8,i64 i)],[.sc (wv (A4 l i).2.1),.sc (wv (A4 l i).1)]⟩) 78 ⟨[.k 0,.k 1],⟨rfl,rfl,rfl,rfl,rfl,tq⟩,⟨_,rfl,rfl⟩,⟨_,rfl,rfl⟩,tq⟩ fun i hi=> ?_;refine d9 (fun h=> ?_) (fun h=> ?_)
 ·have d8:i<78:=(by omega);obtain⟨l1,l2⟩:=ot l i;have e1:((i:Int).tmod 26)=((i%26:Nat):Int):=aq i 26;have e2:((i:Int).tmod 4)=((i%4:Nat):Int):=aq i 4;have b1:i%26<26:=Z4 _ (by omega);have b2:i%4<4:=Z4 _ (by omega);refine⟨by decide,by decide,by rw[e1];omega,by rw[e1];omega,?_⟩;refine⟨_,by rw[e1,Zb,Zm,Zl];exact t4 (by omega),?_⟩;refine⟨[],_,_,_,_,V6 (v:=(A4 l i).1.getD (i%26) 0+(A4 l i).2.2.1+(A4 l i).2.2.2) (k:=3) (by rw[y4,y4]) (by decide) (by decide),rfl,rfl,?_⟩;refine⟨by rw[e1];omega,by rw[e1];omega,by rw[e1,y5];omega,?_⟩;refine⟨by decide,by rw[e1];omega,by rw[e1];omega,?_⟩;refine⟨_,by rw[e1,Zb,Zm,Zl,bB];exact GR (by omega),?_⟩;refine⟨by decide,by decide,by rw[e2];omega,by rw[e2];omega,?_⟩;refine⟨_,by rw[e2,Zb,Zm,Zl];exact t4 (by omega),?_⟩;refine⟨by decide,?_⟩;have e3:((U3.wrap (((gA i (A4 l i)).toNat:Int)+((A4 l i).2.2.2.toNat:Int))).tmod 32)=(((gA i (A4 l i)+(A4 l i).2.2.2)%32).toNat:Int):=by rw[y4,X4]
  have b3:=fb (gA i (A4 l i)+(A4 l i).2.2.2);refine⟨[],_,_,_,_,V6 (v:=(A4 l i).2.1.getD (i%4) 0+gA i (A4 l i)+(A4 l i).2.2.2) (k:=((gA i (A4 l i)+(A4 l i).2.2.2)%32).toNat) (by rw[y4];exact y4 _ _) (by erw [e3];rw[S7];omega) (by erw [e3];rw[S7];omega),rfl,rfl,?_⟩;refine⟨by rw[e2];omega,by rw[e2];omega,by rw[e2,y5];omega,?_⟩;refine⟨by decide,by rw[e2];omega,by rw[e2];omega,?_⟩;refine⟨_,by rw[e2,Zb,Zm,Zl,bB];exact GR (by omega),?_⟩;refine⟨i+1,by omega,by omega,[.k 0,.k 1],⟨rfl,rfl,?_,?_,f8 (by simp(disch:=omega)only[Za];omega),tq⟩,⟨_,rfl,i6 ?_⟩,⟨_,rfl,i6 ?_⟩,tq⟩
  ·rw[dG];rfl
  ·rw[dG];rfl
  ·rw[e2,Zb,Zm,Zl,bB,dG];rfl
  ·rw[e1,Zb,Zm,Zl,bB,dG];rfl
 ·have e78:i=78:=(by omega);rw[e78];exact⟨_,rfl,[.k 1],rfl,⟨_,rfl,rfl⟩,tq⟩
abbrev W2:=UInt32×UInt32
def rA (s:List UInt32) (r:Nat) (x:W2):UInt32:=F5 (x.1^^^x.2) (x.2%32).toNat+s.getD (2*r+2) 0
def iK (s:List UInt32) (x:W2) (r:Nat):W2:=(rA s r x,F5 (x.2^^^rA s r x) (rA s r x%32).toNat+s.getD (2*r+3) 0)
def rB (s:List UInt32) (r:Nat) (x:W2):UInt32:=F5 (x.2-s.getD (2*r+3) 0) ((32-(x.1%32).toNat)%32)^^^x.1
def iJ (s:List UInt32) (x:W2) (r:Nat):W2:=(F5 (x.1-s.getD (2*r+2) 0) ((32-(rB s r x%32).toNat)%32)^^^rB s r x,rB s r x)
def E4 (s:List UInt32) (p:W2) (n:Nat):W2:=(List.range n).foldl (iK s) (p.1+s.getD 0 0,p.2+s.getD 1 0)
def G2 (s:List UInt32) (p:W2) (n:Nat):W2:=(List.range n).foldl (fun x r=>iJ s x (11-r)) p
theorem sg (s p n):E4 s p (n+1)=iK s (E4 s p n) n:=by simp[E4,Zz]
theorem se (s p n):G2 s p (n+1)=iJ s (G2 s p n) (11-n):=by simp[G2,Zz]
theorem NT {tag x y:Int} {k:List UInt32} {v w:UInt32} (hk:k.length=26) (hx:x=v.toNat) (hy:y=w.toNat):b9 C 151 [V2 k tag,vi .u32 x,vi .u32 y,bool false] []
  (.ret (.t [u32 (E4 k (v,w) 12).1,u32 (E4 k (v,w) 12).2])) []:=by
 subst hx;subst hy;refine BP.c ?_;refine⟨_,rfl,?_⟩;refine⟨by decide,by omega,?_⟩;refine⟨_,t4 (i:=0) (by omega),?_⟩;refine⟨by decide,by omega,?_⟩;refine⟨_,t4 (i:=1) (by omega),?_⟩;refine m9 (fun i=>⟨[(1,u32 (E4 k (v,w) i).1),(2,u32 (E4 k (v,w) i).2),(10,wz k),(11,i64 (2*i+2:Nat))],[]⟩) 12 ⟨[],⟨congrArg (vi .u32) (y4 _ _),congrArg (vi .u32) (y4 _ _),rfl,rfl,tq⟩,tq⟩ fun i hi=> ?_;refine d9 (fun h=> ?_) (fun h=> ?_)
 ·have d8:i<12:=(by omega);have b1:=fb (E4 k (v,w) i).2;have b2:=fb (rA k i (E4 k (v,w) i));refine⟨by decide,?_⟩;refine⟨[],_,_,_,_,bK (v:=(E4 k (v,w) i).1^^^(E4 k (v,w) i).2) (k:=((E4 k (v,w) i).2%32).toNat) (C0 _ _) (by rw[X4,S7];omega) (by rw[X4,S7];omega),rfl,rfl,?_⟩;refine⟨by omega,by omega,?_⟩;refine⟨_,t4 (i:=2*i+2) (by omega),by decide,?_⟩;have e3:U3.wrap (((F5 ((E4 k (v,w) i).1^^^(E4 k (v,w) i).2) ((E4 k (v,w) i).2%32).toNat).toNat:Int)+((k.getD (2*i+2) 0).toNat:Int))=((rA k i (E4 k (v,w) i)).toNat:Int):=y4 _ _;have e4:(I6.wrap (((2*i+2:Nat):Int)+1)).toNat=2*i+3:=(by simp(disch:=omega)only[Za];omega);refine⟨[],_,_,_,_,bK (v:=(E4 k (v,w) i).2^^^rA k i (E4 k (v,w) i)) (k:=(rA k i (E4 k (v,w) i)%32).toNat) (by rw[e3,C0]) (by rw[e3,X4,S7];omega) (by rw[e3,X4,S7];omega),rfl,rfl,?_⟩;refine⟨by omega,by omega,?_⟩;refine⟨_,by rw[e4];exact t4 (i:=2*i+3) (by omega),?_⟩;refine⟨i+1,by omega,by omega,[],⟨?_,?_,rfl,f8 (by simp(disch:=omega)only[Za];omega),tq⟩,tq⟩
  ·rw[sg];exact congrArg (vi .u32) e3
  ·rw[sg];exact congrArg (vi .u32) (y4 _ _)
 ·obtain rfl:i=12:=(by omega);exact⟨_,rfl,[],rfl,tq⟩
theorem NS {tag x y:Int} {k:List UInt32} {v w:UInt32} (hk:k.length=26) (hx:x=v.toNat) (hy:y=w.toNat):b9 C 151 [V2 k tag,vi .u32 x,vi .u32 y,bool true] []
  (.ret (.t [u32 ((G2 k (v,w) 12).1-k.getD 0 0),u32 ((G2 k (v,w) 12).2-k.getD 1 0)])) []:=by
 subst hx;subst hy;refine BP.c ?_;refine⟨_,rfl,?_⟩;refine m9 (fun i=>⟨[(1,u32 (G2 k (v,w) i).1),(2,u32 (G2 k (v,w) i).2),(10,wz k),(12,i64 (24-2*i))],[]⟩) 12 ⟨[],⟨rfl,rfl,rfl,rfl,tq⟩,tq⟩ fun i hi=> ?_;refine d9 (fun h=> ?_) (fun h=> ?_)
 ·have d8:i<12:=(by omega);have b1:=fb (G2 k (v,w) i).1;have b2:=fb (rB k (11-i) (G2 k (v,w) i));have e4:(I6.wrap ((24:Int)-2*i+1)).toNat=2*(11-i)+3:=(by simp(disch:=omega)only[Za];omega);have e5:((24:Int)-2*i).toNat=2*(11-i)+2:=(by omega);refine⟨by omega,by omega,?_⟩;refine⟨_,by rw[e4];exact t4 (i:=2*(11-i)+3) (by omega),?_⟩;refine⟨by decide,?_⟩;refine⟨[],_,_,_,_,bK (v:=(G2 k (v,w) i).2-k.getD (2*(11-i)+3) 0) (k:=(32-((G2 k (v,w) i).1%32).toNat)%32) (aP _ _) (by rw[X4,S7];simp only[IntKind.wrap_i64];omega) (by rw[X4,S7];simp only[IntKind.wrap_i64];omega),rfl,rfl,?_⟩;have e3:U3.wrap ((Zc U3.bits ((F5 ((G2 k (v,w) i).2-k.getD (2*(11-i)+3) 0) ((32-((G2 k (v,w) i).1%32).toNat)%32)).toNat:Int)^^^Zc U3.bits ((G2 k (v,w) i).1.toNat:Int)).toNat:Int)=((rB k (11-i) (G2 k (v,w) i)).toNat:Int):=C0 _ _;refine⟨by omega,by omega,?_⟩;refine⟨_,by rw[e5];exact t4 (i:=2*(11-i)+2) (by omega),?_⟩;refine⟨by decide,?_⟩;refine⟨[],_,_,_,_,bK (v:=(G2 k (v,w) i).1-k.getD (2*(11-i)+2) 0) (k:=(32-(rB k (11-i) (G2 k (v,w) i)%32).toNat)%32) (aP _ _) (by rw[e3,X4,S7];simp only[IntKind.wrap_i64];omega) (by rw[e3,X4,S7];simp only[IntKind.wrap_i64];omega),rfl,rfl,?_⟩;refine⟨i+1,by omega,by omega,[],⟨?_,?_,rfl,f8 (by simp(disch:=omega)only[Za];omega),tq⟩,tq⟩
  ·rw[se,e3];exact congrArg (vi .u32) (C0 _ _)
  ·rw[se];exact congrArg (vi .u32) e3
 ·obtain rfl:i=12:=(by omega);refine⟨by decide,by omega,?_⟩;refine⟨_,t4 (i:=0) (by omega),?_⟩;refine⟨by decide,by omega,?_⟩;refine⟨_,t4 (i:=1) (by omega),?_⟩;refine⟨_,rfl,[],?_,tq⟩;show V.t [vi .u32 _,vi .u32 _]=_;rw[aP,aP]
theorem Nv {tag x y:Int} {k:List UInt32} {v w:UInt32} (hk:k.length=26) (hx:x=v.toNat) (hy:y=w.toNat):b9 C 216 [L1 k tag,vi .u32 x,vi .u32 y,bool false] []
  (.ret (.t [u32 (E4 k (v,w) 12).1,u32 (E4 k (v,w) 12).2])) []:=by
 subst hx;subst hy;refine BK.c ?_;refine⟨_,rfl,by decide,by omega,?_⟩;refine⟨_,t4 (i:=0) (by omega),?_⟩;refine⟨_,rfl,by decide,by omega,?_⟩;refine⟨_,t4 (i:=1) (by omega),?_⟩;refine m9 (fun i=>⟨[(0,L1 k tag),(1,u32 (E4 k (v,w) i).1),(2,u32 (E4 k (v,w) i).2),(10,i64 (i+1:Nat))],[]⟩) 12 ⟨[],⟨rfl,congrArg (vi .u32) (y4 _ _),congrArg (vi .u32) (y4 _ _),rfl,tq⟩,tq⟩ fun i hi=> ?_;refine d9 (fun h=> ?_) (fun h=> ?_)
 ·have d8:i<12:=(by omega);have b1:=fb (E4 k (v,w) i).2;have b2:=fb (rA k i (E4 k (v,w) i));have e4:(I6.wrap (2*((i+1:Nat):Int))).toNat=2*i+2:=(by simp(disch:=omega)only[Za];omega);have e5:(I6.wrap (I6.wrap (2*((i+1:Nat):Int))+1)).toNat=2*i+3:=(by simp(disch:=omega)only[Za];omega);refine⟨by decide,?_⟩;refine⟨[],_,_,_,_,V6 (v:=(E4 k (v,w) i).1^^^(E4 k (v,w) i).2) (k:=((E4 k (v,w) i).2%32).toNat) (C0 _ _) (by rw[X4,S7];omega) (by rw[X4,S7];omega),rfl,rfl,?_⟩;refine⟨_,rfl,by omega,by omega,?_⟩;refine⟨_,by rw[e4];exact t4 (i:=2*i+2) (by omega),?_⟩;refine⟨by decide,?_⟩;have e3:U3.wrap (((F5 ((E4 k (v,w) i).1^^^(E4 k (v,w) i).2) ((E4 k (v,w) i).2%32).toNat).toNat:Int)+((k.getD (2*i+2) 0).toNat:Int))=((rA k i (E4 k (v,w) i)).toNat:Int):=y4 _ _;refine⟨[],_,_,_,_,V6 (v:=(E4 k (v,w) i).2^^^rA k i (E4 k (v,w) i)) (k:=(rA k i (E4 k (v,w) i)%32).toNat) (by rw[e3,C0]) (by rw[e3,X4,S7];omega) (by rw[e3,X4,S7];omega),rfl,rfl,?_⟩;refine⟨_,rfl,by omega,by omega,?_⟩;refine⟨_,by rw[e5];exact t4 (i:=2*i+3) (by omega),?_⟩;refine⟨i+1,by omega,by omega,[],⟨rfl,?_,?_,f8 (by simp(disch:=omega)only[Za];omega),tq⟩,tq⟩
  ·rw[sg];exact congrArg (vi .u32) e3
  ·rw[sg];exact congrArg (vi .u32) (y4 _ _)
 ·obtain rfl:i=12:=(by omega);exact⟨_,rfl,[],rfl,tq⟩
theorem Nu {tag x y:Int} {k:List UInt32} {v w:UInt32} (hk:k.length=26) (hx:x=v.toNat) (hy:y=w.toNat):b9 C 216 [L1 k tag,vi .u32 x,vi .u32 y,bool true] []
  (.ret (.t [u32 ((G2 k (v,w) 12).1-k.getD 0 0),u32 ((G2 k (v,w) 12).2-k.getD 1 0)])) []:=by
 subst hx;subst hy;refine BK.c ?_;refine m9 (fun i=>⟨[(0,L1 k tag),(1,u32 (G2 k (v,w) i).1),(2,u32 (G2 k (v,w) i).2),(11,i64 (12-i))],[]⟩) 12 ⟨[],⟨rfl,rfl,rfl,rfl,tq⟩,tq⟩ fun i hi=> ?_;refine d9 (fun h=> ?_) (fun h=> ?_)
 ·have d8:i<12:=(by omega);have b1:=fb (G2 k (v,w) i).1;have b2:=fb (rB k (11-i) (G2 k (v,w) i));have e4:(I6.wrap (I6.wrap (2*((12:Int)-i))+1)).toNat=2*(11-i)+3:=(by simp(disch:=omega)only[Za];omega);have e5:(I6.wrap (2*((12:Int)-i))).toNat=2*(11-i)+2:=(by simp(disch:=omega)only[Za];omega);refine⟨_,rfl,by omega,by omega,?_⟩;refine⟨_,by rw[e4];exact t4 (i:=2*(11-i)+3) (by omega),?_⟩;refine⟨by decide,?_⟩;refine⟨[],_,_,_,_,V6 (v:=(G2 k (v,w) i).2-k.getD (2*(11-i)+3) 0) (k:=(32-((G2 k (v,w) i).1%32).toNat)%32) (aP _ _) (by rw[X4,S7];simp only[IntKind.wrap_i64];omega) (by rw[X4,S7];simp only[IntKind.wrap_i64];omega),rfl,rfl,?_⟩;have e3:U3.wrap ((Zc U3.bits ((F5 ((G2 k (v,w) i).2-k.getD (2*(11-i)+3) 0) ((32-((G2 k (v,w) i).1%32).toNat)%32)).toNat:Int)^^^Zc U3.bits ((G2 k (v,w) i).1.toNat:Int)).toNat:Int)=((rB k (11-i) (G2 k (v,w) i)).toNat:Int):=C0 _ _;refine⟨_,rfl,by omega,by omega,?_⟩;refine⟨_,by rw[e5];exact t4 (i:=2*(11-i)+2) (by omega),?_⟩;refine⟨by decide,?_⟩;refine⟨[],_,_,_,_,V6 (v:=(G2 k (v,w) i).1-k.getD (2*(11-i)+2) 0) (k:=(32-(rB k (11-i) (G2 k (v,w) i)%32).toNat)%32) (aP _ _) (by rw[e3,X4,S7];simp only[IntKind.wrap_i64];omega) (by rw[e3,X4,S7];simp only[IntKind.wrap_i64];omega),rfl,rfl,?_⟩;refine⟨i+1,by omega,by omega,[],⟨rfl,?_,?_,f8 (by simp(disch:=omega)only[Za];omega),tq⟩,tq⟩
  ·rw[se,e3];exact congrArg (vi .u32) (C0 _ _)
  ·rw[se];exact congrArg (vi .u32) e3
 ·obtain rfl:i=12:=(by omega);refine⟨_,rfl,by decide,by omega,?_⟩;refine⟨_,t4 (i:=0) (by omega),?_⟩;refine⟨_,rfl,by decide,by omega,?_⟩;refine⟨_,t4 (i:=1) (by omega),?_⟩;refine⟨_,rfl,[],?_,tq⟩;show V.t [vi .u32 _,vi .u32 _]=_;rw[aP,aP]
theorem pJ {l:Bs} {x:V} {j:Nat} {i:Int} (hx:x=M0 l) (hi:i=j) (hj:j<l.length) (hd:eY (l.getD j 48)=true):b9 C 269 [x,i64 i] [] (.ret (i64 (T7 (l.getD j 48)))) []:=by
 subst hx;subst hi;refine Ub.c ?_;refine⟨by omega,?_,?_⟩
 ·show((j:Int))<(((l.toArray).size:Nat):Int);simp only[List.size_toArray];omega
 refine⟨_,by rw[Zb];exact oY hj,?_⟩;refine⟨[],_,_,_,_,Lz rfl hd,rfl,rfl,?_⟩;exact⟨_,rfl,[],rfl,tq⟩
theorem Nw {j:Nat} {i:Int} (hi:i=j) (hj:j<8):b9 C 273 [i64 i] [] (.ret (M0 (bR.getD j []))) []:=by
 subst hi;refine UQ.c ?_;refine⟨by omega,by omega,?_⟩;refine⟨.string ⟨(bR.getD j []).toArray⟩,?_,?_⟩
 ·rw[Zb,Zm,Zl];show(bR.map fun l=>Value.string ⟨l.toArray⟩)[j]? =_;have:j<bR.length:=hj;simp[this]
 ·exact⟨_,rfl,[],rfl,tq⟩
theorem pZ {a b:Int} {x k:UInt32} (ha:a=x.toNat) (hb:b=k.toNat):b9 C 261 [vi .u32 a,vi .u32 b] [] (.ret (u32 (mG x k))) []:=by
 subst ha;subst hb;refine Ux.c ?_;refine m9 (fun i=>⟨[(0,u32 (x+k)),(5,u32 ((List.range i).foldl (fun o i=>o|||wn (x+k) i) 0)),(6,i64 i)],[]⟩) 8 ⟨[],⟨congrArg (vi .u32) (y4 _ _),rfl,rfl,tq⟩,tq⟩ fun i hi=> ?_;refine d9 (fun h=> ?_) (fun h=> ?_)
 ·have d8:i<8:=(by omega);have e4:U6.wrap (I6.wrap (4*(i:Int)))=((4*i:Nat):Int):=by simp only[IntKind.wrap_i64,G3];omega
  have e5:((x+k).toNat:Int).fdiv (2^(min (((4*i:Nat):Int)).toNat U3.bits))=(((x+k)>>>Zn (4*i)).toNat:Int):=by
   rw[aO _ _ (by omega) (by omega),Zb]
  have e6:U3.wrap ((Zc U3.bits ((((x+k)>>>Zn (4*i)).toNat:Nat):Int)&&&Zc U3.bits 15).toNat:Int)=(((x+k)>>>Zn (4*i)&&&15).toNat:Int):=xN _ 15;have b:=yN ((x+k)>>>Zn (4*i));have hl:=CZ i d8;refine⟨[],_,_,_,_,Nw (j:=i) rfl d8,rfl,rfl,?_⟩;refine⟨by rw[e4];omega,?_⟩;refine⟨[],_,_,_,_,pJ (j:=((x+k)>>>Zn (4*i)&&&15).toNat) rfl (by rw[e4,e5,e6,S7]) (by omega) (CY i d8 _ b),rfl,rfl,?_⟩;refine⟨by rw[e4];omega,?_⟩;refine⟨i+1,d8,by omega,[],⟨rfl,congrArg (vi .u32) ?_,f8 (by simp(disch:=omega)only[Za];omega),tq⟩,tq⟩;rw[e4,Dq (T7 _),mY _ _ (by omega) (by omega),sJ,Zz,J4,Zb];rfl
 ·obtain rfl:i=8:=(by omega);refine⟨[],_,_,_,_,V6 (k:=11) rfl (by decide) (by decide),rfl,rfl,?_⟩;exact⟨_,rfl,[],rfl,tq⟩
theorem CW {k:List UInt32} (hk:k.length=8) {n:Nat} (hn:n<32):(F4 k)[n]? =some (k.getD (if 24<=n then 31-n else n%8) 0):=by
 unfold F4;have g:∀j,j<8->k[j]? =some (k.getD j 0):=fun j hj=>by rw[Zd,Zf (by omega)];rfl
 by_cases h1:n<8
 ·rw[Jf,Jf,Ja (by omega),if_neg (by omega),g n h1,Zh h1]
 by_cases h2:n<16
 ·rw[Jf,Jf,Z7 (by omega),Ja (by omega),if_neg (by omega),g _ (by omega),hk];congr 2;omega
 by_cases h3:n<24
 ·rw[Ja (by simp;omega),Z7 (by simp;omega),if_neg (by omega),g _ (by simp;omega)];congr 2;simp;omega
 ·rw[Z7 (by simp;omega),if_pos (by omega),Ky (by simp;omega),g _ (by simp;omega)];congr 2;simp;omega
theorem Np {tag x y:Int} {k:List UInt32} {v w:UInt32} (hk:k.length=8) (hx:x=v.toNat) (hy:y=w.toNat):b9 C 218 [L1 k tag,vi .u32 x,vi .u32 y,bool false] []
  (.ret (.t [u32 (bS (F4 k) v w).1,u32 (bS (F4 k) v w).2])) []:=by
 subst hx;subst hy;refine BJ.c ?_;have hm:(F4 k).length=32:=by simp[F4,hk]
 refine m9 (fun i=>⟨[(0,L1 k tag),(1,u32 ((((F4 k).take i).foldl V1 (v,w)).1)),(2,u32 ((((F4 k).take i).foldl V1 (v,w)).2)),(3,bool false),(10,i64 i)],[]⟩) 32 ⟨[],⟨rfl,rfl,rfl,rfl,rfl,tq⟩,tq⟩ fun i hi=> ?_;refine d9 (fun h=> ?_) (fun h=> ?_)
 ·have d8:i<32:=(by omega);have eg:=CW hk d8;have gi:(F4 k)[i]'(by omega)=k.getD (if 24<=i then 31-i else i%8) 0:=by
   rw[Zf (by omega)]at eg;exact Option.some.inj eg
  have e8:((i:Int).tmod 8)=((i%8:Nat):Int):=aq i 8;refine⟨by decide,?_⟩;refine d9 (fun h24=> ?_) (fun h24=> ?_)
  ·have e:(I6.wrap (31-(i:Int))).toNat=31-i:=(by simp(disch:=omega)only[Za];omega);refine⟨_,rfl,(by simp(disch:=omega)only[Za];omega),by omega,?_⟩;refine⟨_,by rw[e];exact t4 (i:=31-i) (by omega),?_⟩;refine⟨[],_,_,_,_,pZ rfl rfl,rfl,rfl,?_⟩;refine⟨i+1,by omega,by omega,[],⟨rfl,?_,?_,rfl,f8 (by simp(disch:=omega)only[Za];omega),tq⟩,tq⟩
   ·rw[cE _ _ _ _ (by omega)];rfl
   ·rw[cE _ _ _ _ (by omega),gi,if_pos (by omega)];exact congrArg (vi .u32) (C0 _ _)
  ·refine⟨_,rfl,by rw[e8];omega,by rw[e8];omega,?_⟩;refine⟨_,by rw[e8,Zb];exact t4 (i:=i%8) (by omega),?_⟩;refine⟨[],_,_,_,_,pZ rfl rfl,rfl,rfl,?_⟩;refine⟨i+1,by omega,by omega,[],⟨rfl,?_,?_,rfl,f8 (by simp(disch:=omega)only[Za];omega),tq⟩,tq⟩
   ·rw[cE _ _ _ _ (by omega)];rfl
   ·rw[cE _ _ _ _ (by omega),gi,if_neg (by omega)];exact congrArg (vi .u32) (C0 _ _)
 ·obtain rfl:i=32:=(by omega);rw[<-hm,Zq];exact⟨_,rfl,[],rfl,tq⟩
theorem Nq {tag x y:Int} {k:List UInt32} {v w:UInt32} (hk:k.length=8) (hx:x=v.toNat) (hy:y=w.toNat):b9 C 218 [L1 k tag,vi .u32 x,vi .u32 y,bool true] []
  (.ret (.t [u32 (bS (F4 k).reverse v w).1,u32 (bS (F4 k).reverse v w).2])) []:=by
 subst hx;subst hy;refine BJ.c ?_;have hm:(F4 k).reverse.length=32:=by simp[F4,hk]
 refine m9 (fun i=>⟨[(0,L1 k tag),(1,u32 ((((F4 k).reverse.take i).foldl V1 (v,w)).1)),(2,u32 ((((F4 k).reverse.take i).foldl V1 (v,w)).2)),(3,bool true),(10,i64 i)],[]⟩) 32 ⟨[],⟨rfl,rfl,rfl,rfl,rfl,tq⟩,tq⟩ fun i hi=> ?_;refine d9 (fun h=> ?_) (fun h=> ?_)
 ·have d8:i<32:=(by omega);have eg:=CW hk (n:=31-i) (by omega);have gi:(F4 k).reverse[i]'(by omega)=k.getD (if 24<=31-i then 31-(31-i)else (31-i)%8) 0:=by
   rw[Zf (by simp at hm;omega)]at eg;rw[Js,<-Option.some.inj eg];congr 1;simp at hm;omega
  have e8:((I6.wrap (31-(i:Int))).tmod 8)=(((31-i)%8:Nat):Int):=by
   rw[show I6.wrap (31-(i:Int))=((31-i:Nat):Int) from (by simp(disch:=omega)only[Za];omega)];exact aq _ 8
  have e31:I6.wrap (31-(i:Int))=((31-i:Nat):Int):=(by simp(disch:=omega)only[Za];omega);refine⟨by decide,?_⟩;refine d9 (fun h24=> ?_) (fun h24=> ?_)
  ·have e:(I6.wrap (31-I6.wrap (31-(i:Int)))).toNat=31-(31-i):=(by simp(disch:=omega)only[Za];omega);rw[e31]at h24;refine⟨_,rfl,(by simp(disch:=omega)only[Za];omega),by omega,?_⟩;refine⟨_,by rw[e];exact t4 (i:=31-(31-i)) (by omega),?_⟩;refine⟨[],_,_,_,_,pZ rfl rfl,rfl,rfl,?_⟩;refine⟨i+1,by omega,by omega,[],⟨rfl,?_,?_,rfl,f8 (by simp(disch:=omega)only[Za];omega),tq⟩,tq⟩
   ·rw[cE _ _ _ _ (by omega)];rfl
   ·rw[cE _ _ _ _ (by omega),gi,if_pos (by omega)];exact congrArg (vi .u32) (C0 _ _)
  ·rw[e31]at h24;refine⟨_,rfl,by rw[e8];omega,by rw[e8];omega,?_⟩;refine⟨_,by rw[e8,Zb];exact t4 (i:=(31-i)%8) (by omega),?_⟩;refine⟨[],_,_,_,_,pZ rfl rfl,rfl,rfl,?_⟩;refine⟨i+1,by omega,by omega,[],⟨rfl,?_,?_,rfl,f8 (by simp(disch:=omega)only[Za];omega),tq⟩,tq⟩
   ·rw[cE _ _ _ _ (by omega)];rfl
   ·rw[cE _ _ _ _ (by omega),gi,if_neg (by omega)];exact congrArg (vi .u32) (C0 _ _)
 ·obtain rfl:i=32:=(by omega);rw[<-hm,Zq];exact⟨_,rfl,[],rfl,tq⟩
def P8 (v:UInt32):Bs:=q7 v.toUInt64 4
def s6 (v:UInt32):Bs:=(q7 v.toUInt64 4).reverse
theorem iG (v):(P8 v).length=4:=A2 _ _
theorem H3 (v):(s6 v).length=4:=by simp[s6,A2]
abbrev g9:V:= .s (.slice none 0 0)
abbrev C6 (n:Nat):Oc:= .ret (.t [.o 1 (.k 0) 0 n,i64 0])
abbrev V5:Oc:= .ret (.t [g9,i64 1])
theorem Av {x y:Int} {v w:UInt32} (hx:x=v.toNat) (hy:y=w.toNat):b9 C 152 [vi .u32 x,vi .u32 y,bool false] [] (.ret (.o 1 (.k 0) 0 8)) [.sc (bv (P8 v++P8 w))]:=by
 subst hx;subst hy;refine BT.c ?_;refine⟨[],_,_,_,_,uy rfl,rfl,rfl,?_⟩;refine⟨[],_,_,_,_,uy rfl,rfl,rfl,?_⟩;refine⟨[],_,_,_,_,eB (ls:=[P8 v,P8 w]) (t:=P8 v++P8 w) (by simp) ?_ rfl (by simp[iG]) (by simp[iG]),rfl,rfl,?_⟩
 ·show[V.z _ _,V.z _ _]=_;rw[g8 (A2 _ _),g8 (A2 _ _)];simp[P8,A2]
 refine⟨_,rfl,[.d 19 0],?_,⟨_,rfl,rfl⟩,tq⟩;show V.o 1 (.k 0) 0 _=_;rw[Ze,iG,iG]
theorem OC {x y:Int} {v w:UInt32} (hx:x=v.toNat) (hy:y=w.toNat):b9 C 152 [vi .u32 x,vi .u32 y,bool true] [] (.ret (.o 1 (.k 0) 0 8)) [.sc (bv (s6 v++s6 w))]:=by
 subst hx;subst hy;refine BT.c ?_;refine⟨[],_,_,_,_,kM rfl,rfl,rfl,?_⟩;refine⟨[],_,_,_,_,kM rfl,rfl,rfl,?_⟩;refine⟨[],_,_,_,_,eB (ls:=[s6 v,s6 w]) (t:=s6 v++s6 w) (by simp) ?_ rfl (by simp[H3]) (by simp[H3]),rfl,rfl,?_⟩
 ·show[V.z _ _,V.z _ _]=_;rw[show (q7 v.toUInt64 4).reverse=s6 v from rfl,show(q7 w.toUInt64 4).reverse=s6 w from rfl,g8 (H3 _),g8 (H3 _)];simp[s6,A2]
 refine⟨_,rfl,[.d 13 0],?_,⟨_,rfl,rfl⟩,tq⟩;show V.o 1 (.k 0) 0 _=_;rw[Ze,H3,H3]
theorem JD {va:List Value} {k:List UInt32} {b:Bs} {back:Bool} {r:W2} (ha:va=bv b) (hb:b.length=8) (hf:b9 C 149 [V2 k 4,u32 (t8 (sub b 0 4)),u32 (t8 (sub b 4 4)),bool back] [] (.ret (.t [u32 r.1,u32 r.2])) []):b9 C 87 [V2 k 4,.z 8 va,bool back] [] (C6 8) [.sc (bv (P8 r.1++P8 r.2))]:=by
 refine qR.c ?_;refine⟨_,rfl,?_⟩;refine⟨[],_,_,_,_,pR (m:=2) ha hb rfl (by decide) (by decide),rfl,rfl,?_⟩;refine⟨by decide,by decide,_,rfl,by decide,by decide,_,rfl,_,rfl,?_⟩;refine⟨[],_,_,_,_,hf,rfl,rfl,?_⟩;refine⟨[],_,_,_,_,Av rfl rfl,rfl,rfl,?_⟩;exact⟨_,rfl,[.d 66 0],rfl,⟨_,rfl,rfl⟩,tq⟩
theorem JB {va:List Value} {k:List UInt32} {b:Bs} {back:Bool} {r:W2} (ha:va=bv b) (hb:b.length=8) (hf:b9 C 150 [V2 k 5,u32 (t8 (sub b 0 4)),u32 (t8 (sub b 4 4)),bool back] [] (.ret (.t [u32 r.1,u32 r.2])) []):b9 C 87 [V2 k 5,.z 8 va,bool back] [] (C6 8) [.sc (bv (P8 r.1++P8 r.2))]:=by
 refine qR.c ?_;refine⟨_,rfl,?_⟩;refine⟨[],_,_,_,_,pR (m:=2) ha hb rfl (by decide) (by decide),rfl,rfl,?_⟩;refine⟨by decide,by decide,_,rfl,by decide,by decide,_,rfl,_,rfl,?_⟩;refine⟨[],_,_,_,_,hf,rfl,rfl,?_⟩;refine⟨[],_,_,_,_,Av rfl rfl,rfl,rfl,?_⟩;exact⟨_,rfl,[.d 66 0],rfl,⟨_,rfl,rfl⟩,tq⟩
theorem JC {va:List Value} {k:List UInt32} {b:Bs} {back:Bool} {r:W2} (ha:va=bv b) (hb:b.length=8) (hf:b9 C 151 [V2 k 8,u32 (t5 (sub b 0 4)),u32 (t5 (sub b 4 4)),bool back] [] (.ret (.t [u32 r.1,u32 r.2])) []):b9 C 87 [V2 k 8,.z 8 va,bool back] [] (C6 8) [.sc (bv (s6 r.1++s6 r.2))]:=by
 refine qR.c ?_;refine⟨_,rfl,?_⟩;refine⟨[],_,_,_,_,zQ (m:=2) ha hb rfl (by decide) (by decide),rfl,rfl,?_⟩;refine⟨by decide,by decide,_,rfl,by decide,by decide,_,rfl,_,rfl,?_⟩;refine⟨[],_,_,_,_,hf,rfl,rfl,?_⟩;refine⟨[],_,_,_,_,OC rfl rfl,rfl,rfl,?_⟩;exact⟨_,rfl,[.d 66 0],rfl,⟨_,rfl,rfl⟩,tq⟩
theorem uk {va:List Value} {k:List UInt32} {tag:Int} {n:Nat} {back:Bool} (hn:n≠8):b9 C 87 [V2 k tag,.z n va,bool back] [] V5 []:=by
 refine qR.c ?_;refine p6 (fun h=> ?_) (fun h=>absurd (by omega) hn);exact⟨_,rfl,[],rfl,tq⟩
theorem No {va:List Value} {k:List UInt32} {b:Bs} {back:Bool} {r:W2} (ha:va=bv b) (hb:b.length=8) (hf:b9 C 217 [L1 k 4,u32 (t8 (sub b 0 4)),u32 (t8 (sub b 4 4)),bool back] [] (.ret (.t [u32 r.1,u32 r.2])) []):b9 C 157 [L1 k 4,.z 8 va,bool back] [] (C6 8) [.sc (bv (P8 r.1++P8 r.2))]:=by
 refine qO.c ?_;refine⟨_,rfl,?_⟩;refine⟨[],_,_,_,_,qa (m:=2) ha hb rfl (by decide) (by decide),rfl,rfl,?_⟩;refine⟨by decide,by decide,_,rfl,by decide,by decide,_,rfl,_,rfl,?_⟩;refine⟨[],_,_,_,_,hf,rfl,rfl,?_⟩;refine⟨[],_,_,_,_,kO rfl,rfl,rfl,?_⟩;refine⟨[],_,_,_,_,kO rfl,rfl,rfl,?_⟩;refine⟨by simp[A2,j6,M5,y5,Ze,Zj,Zu,Zv,Zx,Zs,Zw,m5,Zi,Zy,Zo],by decide,by simp[A2,j6,M5,y5,Ze,Zj,Zu,Zv,Zx,Zs,Zw,m5,Zi,Zy,Zo],?_⟩;refine⟨_,rfl,[.d 74 0],rfl,⟨_,rfl,i6 ?_⟩,tq⟩;rw[g8 (A2 _ _),g8 (A2 _ _),B7];rfl
theorem Nm {va:List Value} {k:List UInt32} {b:Bs} {back:Bool} {r:W2} (ha:va=bv b) (hb:b.length=8) (hf:b9 C 218 [L1 k 5,u32 (t8 (sub b 0 4)),u32 (t8 (sub b 4 4)),bool back] [] (.ret (.t [u32 r.1,u32 r.2])) []):b9 C 157 [L1 k 5,.z 8 va,bool back] [] (C6 8) [.sc (bv (P8 r.1++P8 r.2))]:=by
 refine qO.c ?_;refine⟨_,rfl,?_⟩;refine⟨[],_,_,_,_,qa (m:=2) ha hb rfl (by decide) (by decide),rfl,rfl,?_⟩;refine⟨by decide,by decide,_,rfl,by decide,by decide,_,rfl,_,rfl,?_⟩;refine⟨[],_,_,_,_,hf,rfl,rfl,?_⟩;refine⟨[],_,_,_,_,kO rfl,rfl,rfl,?_⟩;refine⟨[],_,_,_,_,kO rfl,rfl,rfl,?_⟩;refine⟨by simp[A2,j6,M5,y5,Ze,Zj,Zu,Zv,Zx,Zs,Zw,m5,Zi,Zy,Zo],by decide,by simp[A2,j6,M5,y5,Ze,Zj,Zu,Zv,Zx,Zs,Zw,m5,Zi,Zy,Zo],?_⟩;refine⟨_,rfl,[.d 74 0],rfl,⟨_,rfl,i6 ?_⟩,tq⟩;rw[g8 (A2 _ _),g8 (A2 _ _),B7];rfl
theorem Nn {va:List Value} {k:List UInt32} {b:Bs} {back:Bool} {r:W2} (ha:va=bv b) (hb:b.length=8) (hf:b9 C 216 [L1 k 8,u32 (t5 (sub b 0 4)),u32 (t5 (sub b 4 4)),bool back] [] (.ret (.t [u32 r.1,u32 r.2])) []):b9 C 157 [L1 k 8,.z 8 va,bool back] [] (C6 8) [.sc (bv (s6 r.1++s6 r.2))]:=by
 refine qO.c ?_;refine⟨_,rfl,?_⟩;refine⟨[],_,_,_,_,Ab (m:=2) ha hb rfl (by decide) (by decide),rfl,rfl,?_⟩;refine⟨by decide,by decide,_,rfl,by decide,by decide,_,rfl,?_⟩;refine⟨[],_,_,_,_,hf,rfl,rfl,?_⟩;refine⟨[],_,_,_,_,pV rfl,rfl,rfl,?_⟩;refine⟨[],_,_,_,_,pV rfl,rfl,rfl,?_⟩;refine⟨by simp[A2,j6,M5,y5,Ze,Zj,Zu,Zv,Zx,Zs,Zw,m5,Zi,Zy,Zo],by decide,by simp[A2,j6,M5,y5,Ze,Zj,Zu,Zv,Zx,Zs,Zw,m5,Zi,Zy,Zo],?_⟩;refine⟨_,rfl,[.d 40 0],rfl,⟨_,rfl,i6 ?_⟩,tq⟩;rw[show (q7 r.1.toUInt64 4).reverse=s6 r.1 from rfl,show(q7 r.2.toUInt64 4).reverse=s6 r.2 from rfl,g8 (H3 _),g8 (H3 _),B7]
theorem uB {va:List Value} {k:List UInt32} {tag:Int} {n:Nat} {back:Bool} (hn:n≠8):b9 C 157 [L1 k tag,.z n va,bool back] [] V5 []:=by
 refine qO.c ?_;refine p6 (fun h=> ?_) (fun h=>absurd (by omega) hn);exact⟨_,rfl,[],rfl,tq⟩
theorem Ap {va:List Value} {key:Bs} (ha:va=bv key) (hk:key.length=16):b9 C 86 [i64 4,.z 16 va] [] (.ret (.t [V2 (D6 t8 key 4) 4,i64 0])) []:=by
 refine vI.c ?_;refine⟨[],_,_,_,_,pR (m:=4) ha hk rfl (by decide) (by decide),rfl,rfl,?_⟩;refine⟨_,rfl,[],?_,tq⟩;show V.t [.q [.z 4 (sub _ 0 4),i64 4] 0,i64 0]=V.t [.q [.z _ _,i64 4] 0,i64 0];rw[D7 (U1 _ _ _),U1]
theorem Ao {va:List Value} {key:Bs} (ha:va=bv key) (hk:key.length=32):b9 C 86 [i64 5,.z 32 va] [] (.ret (.t [V2 (D6 t8 key 8) 5,i64 0])) []:=by
 refine vI.c ?_;refine⟨[],_,_,_,_,pR (m:=8) ha hk rfl (by decide) (by decide),rfl,rfl,?_⟩;refine⟨_,rfl,[],?_,tq⟩;show V.t [.q [.z 8 (sub _ 0 8),i64 5] 0,i64 0]=V.t [.q [.z _ _,i64 5] 0,i64 0];rw[D7 (U1 _ _ _),U1]
theorem Oy {va:List Value} {key:Bs} (ha:va=bv key) (hk:key.length=16):b9 C 86 [i64 8,.z 16 va] [] (.ret (.t [V2 (A4 (D6 t5 key 4) 78).1 8,i64 0])) []:=by
 refine vI.c ?_;refine⟨[],_,_,_,_,zQ (m:=4) ha hk rfl (by decide) (by decide),rfl,rfl,?_⟩;refine⟨[.d 21 0],_,_,_,_,LI (U1 t5 key 4),rfl,rfl,?_⟩;refine⟨_,rfl,[],?_,tq⟩;have h:=(ot (D6 t5 key 4) 78).1;show V.t [.q [.z 26 (sub _ 0 26),i64 8] 0,i64 0]=V.t [.q [.z _ _,i64 8] 0,i64 0];rw[D7 h,h]
theorem Nt {va:List Value} {key:Bs} (ha:va=bv key) (hk:key.length=16):b9 C 58 [i64 4,.z 16 va] [] (.ret (.t [L1 (D6 t8 key 4) 4,i64 0])) []:=by
 refine vF.c ?_;refine⟨[],_,_,_,_,qa (m:=4) ha hk rfl (by decide) (by decide),rfl,rfl,?_⟩;refine⟨_,rfl,[],?_,tq⟩;show V.t [.q [i64 4,.z 4 (sub _ 0 4)] 0,i64 0]=V.t [.q [i64 4,.z _ _] 0,i64 0];rw[D7 (U1 _ _ _),U1]
theorem Nr {va:List Value} {key:Bs} (ha:va=bv key) (hk:key.length=32):b9 C 58 [i64 5,.z 32 va] [] (.ret (.t [L1 (D6 t8 key 8) 5,i64 0])) []:=by
 refine vF.c ?_;refine⟨[],_,_,_,_,qa (m:=8) ha hk rfl (by decide) (by decide),rfl,rfl,?_⟩;refine⟨_,rfl,[],?_,tq⟩;show V.t [.q [i64 5,.z 8 (sub _ 0 8)] 0,i64 0]=V.t [.q [i64 5,.z _ _] 0,i64 0];rw[D7 (U1 _ _ _),U1]
theorem Ns {va:List Value} {key:Bs} (ha:va=bv key) (hk:key.length=16):b9 C 58 [i64 8,.z 16 va] [] (.ret (.t [L1 (A4 (D6 t5 key 4) 78).1 8,i64 0])) []:=by
 refine vF.c ?_;refine⟨[],_,_,_,_,Ny ha hk,rfl,rfl,?_⟩;refine⟨_,rfl,[],?_,tq⟩;have h:=(ot (D6 t5 key 4) 78).1;show V.t [.q [i64 8,.z 26 (sub _ 0 26)] 0,i64 0]=V.t [.q [i64 8,.z _ _] 0,i64 0];rw[D7 h,h]
def q9 (t:Int):Int:=if t=1\/t=2\/t=3\/t=4\/t=5\/t=8 then 8 else if t=6\/t=7 then 16 else 0
def r9 (t:Int):List Int:=if t=1 then [8]else if t=2 then [16,24]else if t=3\/t=4\/t=8 then [16]else if t=5 then [32]else if t=6\/t=7 then [16,24,32]else []
def A1 (t:Int):Prop:=t=1\/t=2\/t=3\/t=4\/t=5\/t=6\/t=7\/t=8
theorem eJ {t:Int} (h:A1 t):b9 C 50 [i64 t] [] (.ret (i64 (q9 t))) []:=by
 rcases h with rfl|rfl|rfl|rfl|rfl|rfl|rfl|rfl<;>exact Bp.c ⟨_,rfl,[],rfl,tq⟩
theorem pT {t:Int} (h:A1 t):b9 C 23 [i64 t] [] (.ret (i64 (q9 t))) []:=by
 rcases h with rfl|rfl|rfl|rfl|rfl|rfl|rfl|rfl<;>exact Tc.c ⟨_,rfl,[],rfl,tq⟩
theorem Ox {t:Int} (h:¬A1 t):b9 C 50 [i64 t] [] (.ret (i64 0)) []:=by
 unfold A1 at h;refine Bp.c ?_;refine E5 (by simp only[beq_eq_false_iff_ne,ne_eq];omega) (E5 (by simp only[beq_eq_false_iff_ne,ne_eq];omega) (E5 (by simp only[beq_eq_false_iff_ne,ne_eq];omega) (E5 (by simp only[beq_eq_false_iff_ne,ne_eq];omega) (E5 (by simp only[beq_eq_false_iff_ne,ne_eq];omega) (E5 (by simp only[beq_eq_false_iff_ne,ne_eq];omega) (E5 (by simp only[beq_eq_false_iff_ne,ne_eq];omega) (E5 (by simp only[beq_eq_false_iff_ne,ne_eq];omega) ?_)))))));exact⟨_,rfl,[],rfl,tq⟩
theorem fE {t:Int} (h:A1 t):b9 C 24 [i64 t] [] (.ret (.o 1 (.k 0) 0 (r9 t).length)) [.sc (iv (r9 t))]:=by
 rcases h with rfl|rfl|rfl|rfl|rfl|rfl|rfl|rfl
 ·exact gV.c ⟨_,rfl,[.d 6 0],rfl,⟨_,rfl,rfl⟩,tq⟩
 ·exact gV.c ⟨_,rfl,[.d 9 0],rfl,⟨_,rfl,rfl⟩,tq⟩
 ·exact gV.c ⟨_,rfl,[.d 14 0],rfl,⟨_,rfl,rfl⟩,tq⟩
 ·exact gV.c ⟨_,rfl,[.d 14 0],rfl,⟨_,rfl,rfl⟩,tq⟩
 ·exact gV.c ⟨_,rfl,[.d 17 0],rfl,⟨_,rfl,rfl⟩,tq⟩
 ·exact gV.c ⟨_,rfl,[.d 21 0],rfl,⟨_,rfl,rfl⟩,tq⟩
 ·exact gV.c ⟨_,rfl,[.d 21 0],rfl,⟨_,rfl,rfl⟩,tq⟩
 ·exact gV.c ⟨_,rfl,[.d 14 0],rfl,⟨_,rfl,rfl⟩,tq⟩
theorem uA {t:Int} (h:A1 t):b9 C 53 [i64 t] [] (.ret (.o 1 (.k 0) 0 (r9 t).length)) [.sc (iv (r9 t))]:=by
 rcases h with rfl|rfl|rfl|rfl|rfl|rfl|rfl|rfl
 ·exact fP.c ⟨_,rfl,[.d 6 0],rfl,⟨_,rfl,rfl⟩,tq⟩
 ·exact fP.c ⟨_,rfl,[.d 9 0],rfl,⟨_,rfl,rfl⟩,tq⟩
 ·exact fP.c ⟨_,rfl,[.d 14 0],rfl,⟨_,rfl,rfl⟩,tq⟩
 ·exact fP.c ⟨_,rfl,[.d 14 0],rfl,⟨_,rfl,rfl⟩,tq⟩
 ·exact fP.c ⟨_,rfl,[.d 17 0],rfl,⟨_,rfl,rfl⟩,tq⟩
 ·exact fP.c ⟨_,rfl,[.d 21 0],rfl,⟨_,rfl,rfl⟩,tq⟩
 ·exact fP.c ⟨_,rfl,[.d 21 0],rfl,⟨_,rfl,rfl⟩,tq⟩
 ·exact fP.c ⟨_,rfl,[.d 14 0],rfl,⟨_,rfl,rfl⟩,tq⟩
theorem Mz {t:Int} (h:¬A1 t):b9 C 53 [i64 t] [] (.ret g9) []:=by
 unfold A1 at h;refine fP.c ?_;refine E5 (by simp only[beq_eq_false_iff_ne,ne_eq];omega) (E5 (by simp only[beq_eq_false_iff_ne,ne_eq];omega) (E5 (by simp only[beq_eq_false_iff_ne,ne_eq];omega) (E5 (by simp only[beq_eq_false_iff_ne,ne_eq];omega) (E5 (by simp only[beq_eq_false_iff_ne,ne_eq];omega) (E5 (by simp only[beq_eq_false_iff_ne,ne_eq];omega) (E5 (by simp only[beq_eq_false_iff_ne,ne_eq];omega) (E5 (by simp only[beq_eq_false_iff_ne,ne_eq];omega) ?_)))))));exact⟨_,rfl,[],rfl,tq⟩
def oe (x:Int):List Int->Nat
 |[]=>0
 |y::r=>if y=x then 0 else oe x r+1
theorem Ca {x:Int}:∀{l:List Int} {i:Nat},x∉l.take i->l[i]? =some x->oe x l=i
 |[],i,_,h=>by simp at h
 |y::r,0,_,h=>by simp at h;simp[oe,h]
 |y::r,i+1,hn,h=>by
  simp at hn h;have h1:¬y=x:=fun e=>hn.1 e.symm;simp only[oe,if_neg h1];rw[Ca (i:=i) hn.2 h]
def qZ (x:Int) (l:List Int):Int:=if x∈l then oe x l else -1
theorem LQ {n:Nat} {va:List Value} {l:List Int} {x:Int} (ha:va=iv l) (hn:l.length=n) (hm:n<=1073741824):b9 C 125 [.z n va,i64 x] [] (.ret (i64 (qZ x l))) []:=by
 subst ha;subst hn;refine Vk.c ?_;refine⟨Nat,fun i=>⟨[(0,iz l),(1,i64 x),(7,i64 l.length),(8,i64 i)],[]⟩,fun i=>i<=l.length/\x∉l.take i,fun i=>l.length-i,⟨[],0,⟨Z6 _,by simp⟩,[],⟨rfl,rfl,rfl,rfl,tq⟩,tq⟩,fun i hi=> ?_⟩;obtain⟨hi,hx⟩:=hi;refine d9 (fun h=> ?_) (fun h=> ?_)
 ·have d8:i<l.length:=(by omega);refine⟨by omega,by omega,?_⟩;refine⟨_,by rw[Zb];exact wa d8,?_⟩;refine i7 (fun h=> ?_) (fun h=> ?_)
  ·refine⟨_,rfl,[],f8 ?_,tq⟩;have h1:x∈l:=by rw[h];exact Kn d8
   rw[qZ,if_pos h1,Ca hx (by rw[Zf d8,h])]
  ·refine⟨i+1,⟨by omega,?_⟩,(by simp(disch:=omega)only[Za];omega),[],⟨rfl,rfl,rfl,f8 (by simp(disch:=omega)only[Za];omega),tq⟩,tq⟩;rw[Zr d8];simp only[Kv,Kf,not_or];exact⟨hx,h⟩
 ·obtain rfl:i=l.length:=(by omega);refine⟨_,rfl,[],f8 ?_,tq⟩;rw[Zq]at hx;rw[qZ,if_neg hx]
theorem fD {n:Nat} {va:List Value} {l:List Int} {x:Int} (ha:va=iv l) (hn:l.length=n) (hm:n<=1073741824):b9 C 77 [.z n va,i64 x] [] (.ret (bool (decide (x∈l)))) []:=by
 refine Vh.c ?_;refine⟨[],_,_,_,_,LQ ha hn hm,rfl,rfl,?_⟩;refine⟨_,rfl,[],congrArg bool ?_,tq⟩;unfold qZ;by_cases h:x∈l
 ·rw[if_pos h,decide_eq_true h];exact decide_eq_true (Int.natCast_nonneg _)
 ·rw[if_neg h,decide_eq_false h];rfl
abbrev f9 (t:Int) (k:Nat) (xs:List V):V:= .q [i64 t,.f (.func k) [.q xs 0] []] 0
theorem kF (t):(r9 t).length<=3:=by
 unfold r9
 repeat' split
 all_goals simp
theorem Me {t:Int} {n:Nat} {va:List Value} {xs:List V} (ht:t=4\/t=5\/t=8) (hv:(n:Int)∈r9 t) (hm:n<=1000) (hs:b9 C 86 [i64 t,.z n va] [] (.ret (.t [.q xs 0,i64 0])) []):
  b9 C 25 [i64 t,.z n va] [] (.ret (.t [f9 t 87 xs,i64 0])) []:=by
 refine gW.c ?_;have hl:=kF t;rcases ht with rfl|rfl|rfl
 ·refine⟨0,Unit,(fun _=>⟨[(6,.p (.k 0) 0),(7,i64 0)],[.mx [i64 4,.f (.func 87) [.q xs 0] []]]⟩),fun _=>True,fun _=>0,?_,fun _ h=> ?_⟩
  ·refine⟨[],_,_,_,_,eJ (by simp[A1]),rfl,rfl,?_⟩;refine⟨[],_,_,_,_,fE (by simp[A1]),rfl,rfl,?_⟩;refine⟨[],_,_,_,_,fD (x:=n) (Y3 rfl) rfl (by omega),rfl,rfl,?_⟩;refine E5 (by rw[decide_eq_true hv];rfl) ?_;refine⟨[],_,_,_,_,hs,rfl,rfl,?_⟩;refine⟨Zp _,?_⟩;exact⟨[],(),tq,[.d 20 0],⟨rfl,rfl,tq⟩,⟨_,rfl,rfl⟩,tq⟩
  ·exact⟨_,rfl,[],rfl,tq⟩
 ·refine⟨0,Unit,(fun _=>⟨[(6,.p (.k 0) 0),(7,i64 0)],[.mx [i64 5,.f (.func 87) [.q xs 0] []]]⟩),fun _=>True,fun _=>0,?_,fun _ h=> ?_⟩
  ·refine⟨[],_,_,_,_,eJ (by simp[A1]),rfl,rfl,?_⟩;refine⟨[],_,_,_,_,fE (by simp[A1]),rfl,rfl,?_⟩;refine⟨[],_,_,_,_,fD (x:=n) (Y3 rfl) rfl (by omega),rfl,rfl,?_⟩;refine E5 (by rw[decide_eq_true hv];rfl) ?_;refine⟨[],_,_,_,_,hs,rfl,rfl,?_⟩;refine⟨Zp _,?_⟩;exact⟨[],(),tq,[.d 20 0],⟨rfl,rfl,tq⟩,⟨_,rfl,rfl⟩,tq⟩
  ·exact⟨_,rfl,[],rfl,tq⟩
 ·refine⟨0,Unit,(fun _=>⟨[(6,.p (.k 0) 0),(7,i64 0)],[.mx [i64 8,.f (.func 87) [.q xs 0] []]]⟩),fun _=>True,fun _=>0,?_,fun _ h=> ?_⟩
  ·refine⟨[],_,_,_,_,eJ (by simp[A1]),rfl,rfl,?_⟩;refine⟨[],_,_,_,_,fE (by simp[A1]),rfl,rfl,?_⟩;refine⟨[],_,_,_,_,fD (x:=n) (Y3 rfl) rfl (by omega),rfl,rfl,?_⟩;refine E5 (by rw[decide_eq_true hv];rfl) ?_;refine⟨[],_,_,_,_,hs,rfl,rfl,?_⟩;refine⟨Zp _,?_⟩;exact⟨[],(),tq,[.d 20 0],⟨rfl,rfl,tq⟩,⟨_,rfl,rfl⟩,tq⟩
  ·exact⟨_,rfl,[],rfl,tq⟩
theorem Md {t:Int} {n:Nat} {va:List Value} (ht:¬A1 t):b9 C 25 [i64 t,.z n va] [] (.ret (.t [.s (.pointer none),i64 2])) []:=by
 refine gW.c ?_;refine⟨0,Unit,fun _=>⟨[],[]⟩,fun _=>False,fun _=>0,?_,fun _ h=>h.elim⟩;refine⟨[],_,_,_,_,Ox ht,rfl,rfl,?_⟩;exact⟨_,rfl,[],rfl,tq⟩
theorem Mc {t:Int} {n:Nat} {va:List Value} (ht:A1 t) (hm:n<=1073741824) (hv:(n:Int)∉r9 t):b9 C 25 [i64 t,.z n va] [] (.ret (.t [.s (.pointer none),i64 4])) []:=by
 refine gW.c ?_;have hl:=kF t;refine⟨0,Unit,fun _=>⟨[(7,i64 4)],[]⟩,fun _=>True,fun _=>0,?_,fun _ h=> ?_⟩
 ·refine⟨[],_,_,_,_,eJ ht,rfl,rfl,?_⟩;refine E5 ?_ ?_
  ·rcases ht with rfl|rfl|rfl|rfl|rfl|rfl|rfl|rfl<;>rfl
  refine⟨[],_,_,_,_,fE ht,rfl,rfl,?_⟩;refine⟨[],_,_,_,_,fD (x:=n) (Y3 rfl) rfl (by omega),rfl,rfl,?_⟩;refine fp (by rw[decide_eq_false hv];rfl) ?_;exact⟨rfl,(),tq,[],⟨rfl,tq⟩,tq⟩
 ·exact⟨_,rfl,[],rfl,tq⟩
theorem LC {t:Int} {k n:Nat} {xs:List V} {va:List Value} {l:List Value} (h:b9 C k [.q xs 0,.z n va,bool false] [] (C6 n) [.sc l]):b9 C 26 [f9 t k xs,.z n va] [] (C6 n) [.sc l]:=by
 refine Rf.c ?_;refine⟨_,rfl,?_⟩;refine⟨[],_,_,_,_,h,rfl,rfl,?_⟩;exact⟨_,rfl,[.d 11 0],rfl,⟨_,rfl,rfl⟩,tq⟩
theorem Lw {t:Int} {k n:Nat} {xs:List V} {va:List Value} {l:List Value} (h:b9 C k [.q xs 0,.z n va,bool true] [] (C6 n) [.sc l]):b9 C 177 [f9 t k xs,.z n va] [] (C6 n) [.sc l]:=by
 refine Re.c ?_;refine⟨_,rfl,?_⟩;refine⟨[],_,_,_,_,h,rfl,rfl,?_⟩;exact⟨_,rfl,[.d 11 0],rfl,⟨_,rfl,rfl⟩,tq⟩
theorem JM {t:Int} {k:Nat} {xs:List V} (ht:A1 t):b9 C 63 [f9 t k xs] [] (.ret (i64 (q9 t))) []:=by
 refine Rg.c ?_;refine⟨_,rfl,?_⟩;refine⟨[],_,_,_,_,eJ ht,rfl,rfl,?_⟩;exact⟨_,rfl,[],rfl,tq⟩
theorem AD {a n:Int} (hn:0<n) (hn2:n<=4611686018427387904) (ha: -9223372036854775808<=a/\a<=9223372036854775807):b9 C 76 [i64 a,i64 n] [] (.ret (i64 (a%n))) []:=by
 refine Sd.c ?_;have h1: -n<a.tmod n:=J2 a hn;have h2:a.tmod n<n:=Kg a hn;refine⟨by omega,?_⟩;refine d9 (fun h=> ?_) (fun h=> ?_)
 ·refine⟨_,rfl,[],f8 ?_,tq⟩;rw[Za _ (by omega)];rw[<-fo a n hn,Jk (a:=a.tmod n+n) (by omega),Int.emod_eq_of_lt (by omega) (by omega)]
 ·refine⟨_,rfl,[],f8 ?_,tq⟩;rw[<-fo a n hn,Jk (a:=a.tmod n+n) (by omega),Int.add_emod_right,Int.emod_eq_of_lt (by omega) (by omega)]
def D1 (n:Int):Int:=1+n%8
theorem jS (n:Int):A1 (D1 n):=by unfold A1 D1;omega
theorem Ax {n:Int} (ha: -9223372036854775808<=n/\n<=9223372036854775807):b9 C 20 [i64 n] [] (.ret (i64 (D1 n))) []:=by
 refine Sc.c ?_;refine⟨[],_,_,_,_,AD (n:=8) (by decide) (by decide) ha,rfl,rfl,?_⟩;refine⟨_,rfl,[],f8 ?_,tq⟩;unfold D1;simp only[IntKind.wrap_i64];omega
def fe (b:Bs) (n j:Nat):Bs:=(List.range n).map fun p=>if p<b.length then b.getD p 0 else if p<b.length+j then Zt (p*37)else 0
def kE (n:Nat) (b:Bs):Bs:=fe b n n
theorem iE (b n j):(fe b n j).length=n:=by simp[fe]
theorem pG (n b):(kE n b).length=n:=iE b n n
theorem oQ (b:Bs) (n j p:Nat) (h:p<n):(fe b n j)[p]? =some (if p<b.length then b.getD p 0 else if p<b.length+j then Zt (p*37)else 0):=by simp[fe,h]
theorem XT (b:Bs) (n j:Nat) (h:b.length+j<n):(fe b n j).set (b.length+j) (Zt ((b.length+j)*37))=fe b n (j+1):=by
 apply Z3;intro p;by_cases hp:p<n
 ·rw[oQ _ _ _ _ hp,Jr,oQ _ _ _ _ hp];by_cases h1:b.length+j=p
  ·subst h1;rw[if_pos rfl,iE,if_pos hp,if_neg (by omega),if_pos (by omega)]
  ·rw[if_neg h1];by_cases h2:p<b.length
   ·rw[if_pos h2,if_pos h2]
   ·rw[if_neg h2,if_neg h2];by_cases h3:p<b.length+j
    ·rw[if_pos h3,if_pos (by omega)]
    ·rw[if_neg h3,if_neg (by omega)]
 ·rw[Zg (by simp[iE];omega),Zg (by rw[iE];omega)]
theorem XU (b:Bs) (n:Nat):b.take (min b.length n)++(Zk n (0:UInt8)).drop (min b.length n)=fe b n 0:=by
 apply Z3;intro p;by_cases hp:p<n
 ·rw[oQ _ _ _ _ hp];by_cases h2:p<b.length
  ·rw[Ja (by simp;omega),J0,if_pos (by omega),if_pos h2,Zf h2,Zd,Zf h2];rfl
  ·rw[if_neg h2,if_neg (by omega),Z7 (by simp;omega),J1,Zv,Jd,if_pos (by omega)]
 ·rw[Zg (by simp;omega),Zg (by rw[iE];omega)]
theorem XS (b:Bs) (n j:Nat) (h:n<=b.length+j):fe b n j=kE n b:=by
 apply Z3;intro p;unfold kE;by_cases hp:p<n
 ·rw[oQ _ _ _ _ hp,oQ _ _ _ _ hp];by_cases h2:p<b.length
  ·rw[if_pos h2,if_pos h2]
  ·rw[if_neg h2,if_neg h2,if_pos (by omega),if_pos (by omega)]
 ·rw[Zg (by rw[iE];omega),Zg (by rw[iE];omega)]
theorem zu {n m:Nat} {va:List Value} {b:Bs} (ha:va=bv b) (hb:b.length=m) (hn:n<=1073741824):b9 C 22 [i64 n,.z m va] [] (.ret (.o 1 (.k 0) 0 n)) [.sc (bv (kE n b))]:=by
 subst ha;subst hb;refine Sa.c ?_;refine⟨by omega,Jh _,by omega,?_⟩;refine⟨j6 _,by simp,?_⟩;refine⟨Nat,fun j=>⟨[(0,i64 n),(5,.o 1 (.k 0) 0 n),(6,i64 (b.length+j:Nat))],[.sc (bv (fe b n j))]⟩,fun j=>j=0\/b.length+j<=n,fun j=>n-(b.length+j),⟨[],0,.inl rfl,[.d 8 0],⟨rfl,rfl,rfl,tq⟩,⟨_,rfl,i6 ?_⟩,tq⟩,fun j hj=> ?_⟩
 ·show[]++(bv b).take (min b.length n)++(Zk n (Value.int .u8 0)).drop (0+min b.length n)=_;rw[Jp,Zl,<-XU,U4,Is,<-B7];congr 1;simp[bv,Kj]
 refine d9 (fun h=> ?_) (fun h=> ?_)
 ·have d8:b.length+j<n:=(by omega);refine⟨by omega,by omega,by rw[j6,iE];omega,?_⟩;refine⟨j+1,.inr (by omega),(by simp(disch:=omega)only[Za];omega),[.k 0],⟨rfl,rfl,f8 (by simp(disch:=omega)only[Za];omega),tq⟩,⟨_,rfl,i6 ?_⟩,tq⟩;have e:U8.wrap (I6.wrap (((b.length+j:Nat):Int)*37))=((Zt ((b.length+j)*37)).toNat:Int):=by
   rw[<-Y5,Za _ (by omega)];rfl
  rw[e,Zb,Zm,Zl,L4,XT _ _ _ d8]
 ·refine⟨_,rfl,[.k 0],rfl,⟨_,rfl,i6 ?_⟩,tq⟩;rw[XS _ _ _ (by omega)]
def cH (t n:Int):Nat:=((r9 t).getD (n%((r9 t).length:Int)).toNat 0).toNat
def ba (t n:Int) (k:Bs):Bs:=kE (cH t n) k
theorem wd {t:Int} (h:A1 t) (n:Int):(cH t n:Int)∈r9 t/\cH t n<=32/\(r9 t)[(n%((r9 t).length:Int)).toNat]? =some (cH t n:Int)/\0<=n%((r9 t).length:Int)/\n%((r9 t).length:Int)<(r9 t).length:=by
 have g:∀(l:List Int),0<l.length->(∀x∈l,0<=x/\x<=32)->∀n:Int,((((l.getD (n%(l.length:Int)).toNat 0).toNat:Nat):Int)∈l/\(l.getD (n%(l.length:Int)).toNat 0).toNat<=32/\l[(n%(l.length:Int)).toNat]? =some (((l.getD (n%(l.length:Int)).toNat 0).toNat:Nat):Int)/\0<=n%(l.length:Int)/\n%(l.length:Int)<l.length):=by
  intro l hl hb n;have h0:=Kw n (b:=l.length) (by omega);have h1:=Kh n (b:=l.length) (by omega);have d8:(n%(l.length:Int)).toNat<l.length:=by omega
  rw[Zd,Zf d8];have hm:=Kn d8;obtain⟨b0,b1⟩:=hb _ hm;have e:(((l[(n%(l.length:Int)).toNat]).toNat:Nat):Int)=l[(n%(l.length:Int)).toNat]:=Int.toNat_of_nonneg b0;refine⟨?_,?_,?_,h0,h1⟩
  ·show(((l[(n%(l.length:Int)).toNat]).toNat:Nat):Int)∈l;rw[e];exact hm
  ·show(l[(n%(l.length:Int)).toNat]).toNat<=32;omega
  ·show some _=some (((l[(n%(l.length:Int)).toNat]).toNat:Nat):Int);rw[e]
 rcases h with rfl|rfl|rfl|rfl|rfl|rfl|rfl|rfl<;>exact g _ (by decide) (by decide) n
theorem we (t n k):(ba t n k).length=cH t n:=pG _ _
theorem HU (bs:ByteArray):∀(n i:Nat) (r:Bs),bs.size-i=n->ByteArray.toList.loop bs i r=r.reverse++bs.data.toList.drop i:=by
 intro n;induction n with
 |zero=>
  intro i r h;rw[ByteArray.toList.loop,if_neg (by omega)];have:bs.data.toList.length=bs.size:=by cases bs;rfl
  rw[Kt (by omega),Z8]
 |succ n ih=>
  intro i r h;rw[ByteArray.toList.loop,if_pos (by omega),ih (i+1) _ (by omega)];have hl:bs.data.toList.length=bs.size:=by cases bs;rfl
  rw[List.drop_eq_getElem_cons (i:=i) (by omega)];have:bs.get! i=bs.data.toList[i]'(by omega):=by
   cases bs with
   |mk d=>
    show d[i]! =_;have e0:d.toList.length=d.size:=by simp
    have e:(ByteArray.mk d).size=d.size:=rfl;have:i<d.size:=by omega
    rw[getElem!_pos d i this];simp
  rw[this,List.reverse_cons,Jf];rfl
theorem HV (bs:ByteArray):bs.toList=bs.data.toList:=by
 have:=HU bs _ 0 [] rfl;show ByteArray.toList.loop bs 0 []=_;simpa using this
abbrev bs (l:Bs):ByteArray:=⟨l.toArray⟩
theorem zg (l:Bs):(bs l).toList=l:=by rw[HV]
theorem a1M (a b:Bs):((bs a).toList==(bs b).toList)=decide (a=b):=by
 rw[zg,zg];by_cases h:a=b
 ·simp[h]
 ·simp[h]
theorem rc {x y:Nat} (hx:x<9223372036854775808) (hy:y<9223372036854775808):I6.wrap ((Zc I6.bits (x:Int)&&&Zc I6.bits (y:Int)).toNat:Int)=((x&&&y:Nat):Int):=by
 rw[ue I6.bits (by simp only[kz];omega) (by simp only[kz];omega)];have:=Nat.and_le_left (n:=x) (m:=y);rw[dP _ (by omega)]
theorem P6 {x y:Nat} (n:Nat) (hn:n<=62) (hx:x<2^n) (hy:y<2^n):I6.wrap ((Zc I6.bits (x:Int)^^^Zc I6.bits (y:Int)).toNat:Int)=((x^^^y:Nat):Int):=by
 have hp:2^n<=2^62:=Z5 (by decide) hn;rw[uf I6.bits (by simp only[kz];omega) (by simp only[kz];omega)];have:=Jj hx hy;rw[dP _ (by omega)]
theorem Wp {x y:Nat} (n:Nat) (hn:n<=62) (hx:x<2^n) (hy:y<2^n):I6.wrap ((Zc I6.bits (x:Int)|||Zc I6.bits (y:Int)).toNat:Int)=((x|||y:Nat):Int):=by
 have hp:2^n<=2^62:=Z5 (by decide) hn;rw[kC I6.bits (by simp only[kz];omega) (by simp only[kz];omega)];have:=J3 hx hy;rw[dP _ (by omega)]
theorem vQ (x:Nat):((x:Int).fdiv (2^(min (1:Int).toNat I6.bits)))=((x/2:Nat):Int):=by
 rw[Z1 _ (by decide)];rfl
theorem Co {x:Nat} (h:x<4611686018427387904):I6.wrap ((x:Int)*2^(min (1:Int).toNat I6.bits))=((2*x:Nat):Int):=by
 have:(x:Int)*2^(min (1:Int).toNat I6.bits)=((2*x:Nat):Int):=by
  show(x:Int)*2^1=_;omega
 rw[this,dP _ (by omega)]
def xt (m x:Nat):Nat:=if 256<=2*x then (2*x^^^m)%256 else 2*x
def fX (m a:Nat):Nat->Nat
 |0=>a
 |k+1=>xt m (fX m a k)
def fS (m a b:Nat):Nat->Nat
 |0=>0
 |k+1=>if b.testBit k then fS m a b k^^^fX m a k else fS m a b k
def jz (m:Nat) (a b:UInt8):UInt8:=Zt (fS m a.toNat b.toNat 8)
theorem qG {m a:Nat} (ha:a<256):∀k,fX m a k<256
 |0=>ha
 |k+1=>by
  have:=qG (m:=m) ha k;unfold fX xt;split<;>omega
theorem vh {m a b:Nat} (ha:a<256):∀k,fS m a b k<256
 |0=>by simp[fS]
 |k+1=>by
  have h1:=vh (m:=m) (b:=b) ha k;have h2:=qG (m:=m) ha k;unfold fS;split
  ·exact Jj (n:=8) h1 h2
  ·exact h1
theorem Bo {m a b:Nat}:∀(d i:Nat),b>>>i=0->fS m a b (i+d)=fS m a b i
 |0,i,_=>rfl
 |d+1,i,h=>by
  show(if b.testBit (i+d)=true then fS m a b (i+d)^^^fX m a (i+d)else fS m a b (i+d))=_;have:b.testBit (i+d)=false:=by
   have:(b>>>i).testBit d=false:=by rw[h];exact Nat.zero_testBit d
   rwa [Nat.testBit_shiftRight]at this
  rw[this,if_neg (by decide)];exact Bo d i h
theorem Hc {y m:Nat} (h1:256<=y) (h2:y<512) (h3:256<=m) (h4:m<512):(y^^^m)%256=y^^^m:=by
 apply Nat.eq_of_testBit_eq;intro j;rw[show (256:Nat)=2^8 by decide,Kl];by_cases hj:j<8
 ·simp[hj]
 ·have top:∀z,256<=z->z<512->z.testBit j=decide (j=8):=by
   intro z a b;by_cases h8:j=8
   ·subst h8;rw[Jl];rw[decide_eq_true rfl];exact decide_eq_true (by omega)
   ·rw[decide_eq_false h8];exact Kq (Nat.lt_of_lt_of_le b (Z5 (n:=2) (i:=9) (by decide) (by omega)))
  rw[Nat.testBit_xor,top y h1 h2,top m h3 h4];simp
theorem yZ (b i:Nat):((b>>>i&&&1:Nat)>0)↔b.testBit i=true:=by
 rw[Ke,Jl,Z0];simp;omega
theorem nF {x y:Int} {a b:UInt8} {m:Nat} (hx:x=a.toNat) (hy:y=b.toNat) (h1:256<=m) (h2:m<512):b9 C 238 [vi .u8 x,vi .u8 y,i64 m] [] (.ret (u8 (jz m a b))) []:=by
 subst hx;subst hy;have hb:=b.toNat_lt;have ha:=a.toNat_lt;refine Rs.c ?_;refine bn 0 rfl 9 (fun i=>⟨[(2,i64 m),(7,i64 (fS m a.toNat b.toNat i)),(8,i64 (fX m a.toNat i)),(9,i64 (b.toNat>>>i:Nat))],[]⟩) ⟨[],0,by decide,[],⟨rfl,rfl,f8 (fw a),f8 (fw b),tq⟩,tq⟩ fun i hi=> ?_;have hX:=qG (m:=m) ha i;have hS:=vh (m:=m) (b:=b.toNat) ha i;refine i7 (fun h=> ?_) (fun h=> ?_)
 ·refine⟨_,rfl,[],congrArg (vi .u8) ?_,tq⟩;rw[Y5,jz];have:=Bo (m:=m) (a:=a.toNat) (b:=b.toNat) (8-i) i (by omega);rw[show i+(8-i)=8 by omega]at this;rw[this]
 ·have hi8:i<8:=by
   rcases Jg i 8 with h8|h8
   ·exact h8
   ·obtain rfl:i=8:=(by omega);rw[Z0,Km hb]at h;exact absurd rfl h
  have hyl:b.toNat>>>i<9223372036854775808:=by rw[Z0];exact Nat.lt_of_le_of_lt (Jo _ _) (by omega)
  have e1:I6.wrap ((Zc I6.bits ((b.toNat>>>i:Nat):Int)&&&Zc I6.bits 1).toNat:Int)=((b.toNat>>>i&&&1:Nat):Int):=rc (y:=1) hyl (by decide);have e2:I6.wrap ((fX m a.toNat i:Int)*2^(min (1:Int).toNat I6.bits))=((2*fX m a.toNat i:Nat):Int):=Co (by omega);have e3:((b.toNat>>>i:Nat):Int).fdiv (2^(min (1:Int).toNat I6.bits))=((b.toNat>>>(i+1):Nat):Int):=by
   rw[vQ,Nat.shiftRight_succ]
  have e4:I6.wrap ((Zc I6.bits ((2*fX m a.toNat i:Nat):Int)^^^Zc I6.bits (m:Int)).toNat:Int)=((2*fX m a.toNat i^^^m:Nat):Int):=P6 9 (by decide) (by omega) (by omega);have hx9:=Jj (n:=9) (x:=2*fX m a.toNat i) (y:=m) (by omega) (by omega);have e5:I6.wrap ((Zc I6.bits ((2*fX m a.toNat i^^^m:Nat):Int)&&&Zc I6.bits 255).toNat:Int)=(((2*fX m a.toNat i^^^m)%256:Nat):Int):=by
   have h:=rc (x:=2*fX m a.toNat i^^^m) (y:=255) (by omega) (by decide);rw[show (255:Nat)=2^8-1 by decide,Jn]at h;exact h
  have e6:2*fX m a.toNat i<256->I6.wrap ((Zc I6.bits ((2*fX m a.toNat i:Nat):Int)&&&Zc I6.bits 255).toNat:Int)=((2*fX m a.toNat i:Nat):Int):=by
   intro hl;have h:=rc (x:=2*fX m a.toNat i) (y:=255) (by omega) (by decide);rw[show (255:Nat)=2^8-1 by decide,Jn,Zh hl]at h;exact h
  have hS1:fS m a.toNat b.toNat (i+1)=if b.toNat.testBit i then fS m a.toNat b.toNat i^^^fX m a.toNat i else fS m a.toNat b.toNat i:=rfl;have hX1:fX m a.toNat (i+1)=xt m (fX m a.toNat i):=rfl;refine d9 (fun hb1=> ?_) (fun hb1=> ?_)
  ·have ht:b.toNat.testBit i=true:=(yZ _ _).1 (by rw[e1]at hb1;omega);refine⟨by decide,by decide,?_⟩;refine d9 (fun hg=> ?_) (fun hg=> ?_)
   ·rw[e2]at hg;refine⟨rfl,i+1,by omega,by omega,[],⟨rfl,f8 ?_,f8 ?_,f8 e3,tq⟩,tq⟩
    ·rw[hS1,ht];exact P6 8 (by decide) hS hX
    ·rw[e2,e4,e5,hX1,xt,if_pos (by omega)]
   ·rw[e2]at hg;refine⟨rfl,i+1,by omega,by omega,[],⟨rfl,f8 ?_,f8 ?_,f8 e3,tq⟩,tq⟩
    ·rw[hS1,ht];exact P6 8 (by decide) hS hX
    ·rw[e2,e6 (by omega),hX1,xt,if_neg (by omega)]
  ·have ht:b.toNat.testBit i=false:=by
    cases hc:b.toNat.testBit i
    ·rfl
    ·exact absurd (by rw[e1];have:=(yZ b.toNat i).2 hc;omega) hb1
   refine⟨by decide,by decide,?_⟩;refine d9 (fun hg=> ?_) (fun hg=> ?_)
   ·rw[e2]at hg;refine⟨rfl,i+1,by omega,by omega,[],⟨rfl,f8 ?_,f8 ?_,f8 e3,tq⟩,tq⟩
    ·rw[hS1,ht];rfl
    ·rw[e2,e4,e5,hX1,xt,if_pos (by omega)]
   ·rw[e2]at hg;refine⟨rfl,i+1,by omega,by omega,[],⟨rfl,f8 ?_,f8 ?_,f8 e3,tq⟩,tq⟩
    ·rw[hS1,ht];rfl
    ·rw[e2,e6 (by omega),hX1,xt,if_neg (by omega)]
theorem GK (b:UInt8) {i:Nat} (hi:i<8):(U8.wrap ((Zc U8.bits ((b.toNat:Int).fdiv (2^(min ((i:Int)).toNat U8.bits)))&&&Zc U8.bits 1).toNat:Int))=(if b.toNat.testBit i then 1 else 0):=by
 rw[a3v b i (by omega) (by omega),show(1:Int)=((1:UInt8).toNat:Int) from rfl,xQ,UInt8.toNat_and,Ko,Jb,Zb,Zh (show i<2^8 by omega),Zh hi];show(((b.toNat>>>i&&&1:Nat)):Int)=_;rw[Ke,Jl,Z0];by_cases h:b.toNat/2^i%2=1
 ·simp[h]
 ·have:b.toNat/2^i%2=0:=by omega
  simp[this]
theorem jr {x y:Int} {a b:UInt8} {m:Nat} (hx:x=a.toNat) (hy:y=b.toNat) (h1:256<=m) (h2:m<512):b9 C 222 [vi .u8 x,vi .u8 y,i64 m] [] (.ret (u8 (jz m a b))) []:=by
 subst hx;subst hy;have ha:=a.toNat_lt;refine TV.c ?_;refine m9 (fun i=>⟨[(1,u8 b),(2,i64 m),(7,i64 (fS m a.toNat b.toNat i)),(8,i64 (fX m a.toNat i)),(9,vi .u64 i)],[]⟩) 8 ⟨[],⟨rfl,rfl,rfl,f8 (fw a),rfl,tq⟩,tq⟩ fun i hi=> ?_;have hX:=qG (m:=m) ha i;have hS:=vh (m:=m) (b:=b.toNat) ha i;refine d9 (fun h=> ?_) (fun h=> ?_)
 ·have d8:i<8:=(by omega);have e2:I6.wrap ((fX m a.toNat i:Int)*2^(min (1:Int).toNat I6.bits))=((2*fX m a.toNat i:Nat):Int):=Co (by omega);have e4:I6.wrap ((Zc I6.bits ((2*fX m a.toNat i:Nat):Int)^^^Zc I6.bits (m:Int)).toNat:Int)=((2*fX m a.toNat i^^^m:Nat):Int):=P6 9 (by decide) (by omega) (by omega);have e9:U6.wrap ((i:Int)+1)=((i+1:Nat):Int):=by rw[G3];omega
  have hS1:fS m a.toNat b.toNat (i+1)=if b.toNat.testBit i then fS m a.toNat b.toNat i^^^fX m a.toNat i else fS m a.toNat b.toNat i:=rfl;have hX1:fX m a.toNat (i+1)=xt m (fX m a.toNat i):=rfl;have eb:=GK b d8;refine⟨by omega,?_⟩;refine i7 (fun hb1=> ?_) (fun hb1=> ?_)
  ·have ht:b.toNat.testBit i=true:=by
    cases hc:b.toNat.testBit i
    ·rw[eb,hc]at hb1;exact absurd hb1 (by decide)
    ·rfl
   refine⟨by decide,?_⟩;refine d9 (fun hg=> ?_) (fun hg=> ?_)
   ·rw[e2]at hg;refine⟨i+1,by omega,by omega,[],⟨rfl,rfl,f8 ?_,f8 ?_,congrArg (vi .u64) e9,tq⟩,tq⟩
    ·rw[hS1,ht];exact P6 8 (by decide) hS hX
    ·rw[e2,e4,hX1,xt,if_pos (by omega),Hc (by omega) (by omega) h1 h2]
   ·rw[e2]at hg;refine⟨i+1,by omega,by omega,[],⟨rfl,rfl,f8 ?_,f8 ?_,congrArg (vi .u64) e9,tq⟩,tq⟩
    ·rw[hS1,ht];exact P6 8 (by decide) hS hX
    ·rw[e2,hX1,xt,if_neg (by omega)]
  ·have ht:b.toNat.testBit i=false:=by
    cases hc:b.toNat.testBit i
    ·rfl
    ·rw[eb,hc]at hb1;exact absurd rfl hb1
   refine⟨by decide,?_⟩;refine d9 (fun hg=> ?_) (fun hg=> ?_)
   ·rw[e2]at hg;refine⟨i+1,by omega,by omega,[],⟨rfl,rfl,f8 ?_,f8 ?_,congrArg (vi .u64) e9,tq⟩,tq⟩
    ·rw[hS1,ht];rfl
    ·rw[e2,e4,hX1,xt,if_pos (by omega),Hc (by omega) (by omega) h1 h2]
   ·rw[e2]at hg;refine⟨i+1,by omega,by omega,[],⟨rfl,rfl,f8 ?_,f8 ?_,congrArg (vi .u64) e9,tq⟩,tq⟩
    ·rw[hS1,ht];rfl
    ·rw[e2,hX1,xt,if_neg (by omega)]
 ·obtain rfl:i=8:=(by omega);exact⟨_,rfl,[],congrArg (vi .u8) (Y5 _),tq⟩
abbrev PS:=UInt8×UInt8×Nat
def gk (m:Nat) (x:PS):PS:=(if x.2.2%2=1 then jz m x.1 x.2.1 else x.1,jz m x.2.1 x.2.1,x.2.2/2)
def qF (m:Nat) (a:UInt8) (n:Nat):UInt8:=(it (gk m) 8 (1,a,n)).1
theorem DM (m:Nat) (k:Nat) (x:PS):(it (gk m) k x).2.2=x.2.2/2^k:=by
 induction k with
 |zero=>simp[it]
 |succ k ih=>show(it (gk m) k x).2.2/2=_;rw[ih,Kr,Nat.pow_succ]
theorem LH {x:Int} {a:UInt8} {m n:Nat} (hx:x=a.toNat) (hn1:128<=n) (hn2:n<256) (h1:256<=m) (h2:m<512):b9 C 245 [vi .u8 x,i64 n,i64 m] [] (.ret (u8 (qF m a n))) []:=by
 subst hx;refine Ru.c ?_;refine ss 0 rfl (gk m) (1,a,n) 8 (fun i z=>⟨[(0,u8 z.2.1),(1,i64 z.2.2),(2,i64 m),(7,u8 z.1)],[]⟩) ⟨[],(0,(1,a,n)),⟨Z6 _,rfl⟩,[],⟨rfl,rfl,rfl,rfl,tq⟩,tq⟩ fun i z hi hz=> ?_;have hn:z.2.2=n/2^i:=by rw[hz,DM]
 have hle:z.2.2<=n:=by rw[hn];exact Jo _ _
 refine d9 (fun h=> ?_) (fun h=> ?_)
 ·have hi8:i=8:=by
   rcases Jg i 8 with h8|h8
   ·have:2^i<=2^7:=Z5 (by decide) (by omega);have hp:0<2^i:=K1 (by decide);have:1<=n/2^i:=(Jq hp).2 (by omega);omega
   ·omega
  subst hi8;refine⟨_,rfl,[],?_,tq⟩;show u8 z.1=u8 _;rw[hz];rfl
 ·have hi8:i<8:=by
   rcases Jg i 8 with h8|h8
   ·exact h8
   ·obtain rfl:i=8:=(by omega);rw[hn,Km hn2]at h;exact absurd (Jh _) h
  have e1:I6.wrap ((Zc I6.bits ((z.2.2:Nat):Int)&&&Zc I6.bits 1).toNat:Int)=((z.2.2%2:Nat):Int):=by
   have h:=rc (x:=z.2.2) (y:=1) (by omega) (by decide);rw[Ke]at h;exact h
  refine d9 (fun hb=> ?_) (fun hb=> ?_)
  ·rw[e1]at hb;refine⟨[],_,_,_,_,nF rfl rfl h1 h2,rfl,rfl,?_⟩;refine⟨[],_,_,_,_,nF rfl rfl h1 h2,rfl,rfl,?_⟩;refine⟨by decide,?_⟩;refine⟨rfl,(i+1,gk m z),⟨hi8,bQ hz⟩,by omega,[],⟨rfl,f8 (vQ _),rfl,?_,tq⟩,tq⟩;show u8 _=u8 (if _ then _ else _);rw[if_pos (by omega)]
  ·rw[e1]at hb;refine⟨[],_,_,_,_,nF rfl rfl h1 h2,rfl,rfl,?_⟩;refine⟨by decide,?_⟩;refine⟨rfl,(i+1,gk m z),⟨hi8,bQ hz⟩,by omega,[],⟨rfl,f8 (vQ _),rfl,?_,tq⟩,tq⟩;show u8 _=u8 (if _ then _ else _);rw[if_neg (by omega)]
theorem MV {x:Int} {a:UInt8} {m n:Nat} (hx:x=a.toNat) (hn1:128<=n) (hn2:n<256) (h1:256<=m) (h2:m<512):b9 C 226 [vi .u8 x,i64 n,i64 m] [] (.ret (u8 (qF m a n))) []:=by
 subst hx;refine TW.c ?_;refine oE (gk m) (1,a,n) 8 (fun i z=>⟨[(0,u8 z.2.1),(1,i64 z.2.2),(2,i64 m),(7,u8 z.1)],[]⟩) ⟨[],⟨rfl,rfl,rfl,rfl,tq⟩,tq⟩ fun i z hi hz=> ?_;have hn:z.2.2=n/2^i:=by rw[hz,DM]
 have hle:z.2.2<=n:=by rw[hn];exact Jo _ _
 refine d9 (fun h=> ?_) (fun h=> ?_)
 ·have hi8:i<8:=by
   rcases Jg i 8 with h8|h8
   ·exact h8
   ·obtain rfl:i=8:=(by omega);rw[hn,Km hn2]at h;exact absurd h (by decide)
  have e1:((z.2.2:Nat):Int).tmod 2=((z.2.2%2:Nat):Int):=aq _ 2;have e2:I6.wrap (((z.2.2:Nat):Int).tdiv 2)=((z.2.2/2:Nat):Int):=by
   rw[show ((z.2.2:Nat):Int).tdiv 2=((z.2.2/2:Nat):Int) from rfl,dP _ (by omega)]
  refine⟨by decide,?_⟩;refine i7 (fun hb=> ?_) (fun hb=> ?_)
  ·rw[e1]at hb;refine⟨[],_,_,_,_,jr rfl rfl h1 h2,rfl,rfl,?_⟩;refine⟨[],_,_,_,_,jr rfl rfl h1 h2,rfl,rfl,?_⟩;refine⟨by decide,?_⟩;refine⟨(i+1,gk m z),⟨hi8,bQ hz⟩,by omega,[],⟨rfl,f8 e2,rfl,?_,tq⟩,tq⟩;show u8 _=u8 (if _ then _ else _);rw[if_pos (by omega)]
  ·rw[e1]at hb;refine⟨[],_,_,_,_,jr rfl rfl h1 h2,rfl,rfl,?_⟩;refine⟨by decide,?_⟩;refine⟨(i+1,gk m z),⟨hi8,bQ hz⟩,by omega,[],⟨rfl,f8 e2,rfl,?_,tq⟩,tq⟩;show u8 _=u8 (if _ then _ else _);rw[if_neg (by omega)]
 ·have hi8:i=8:=by
   rcases Jg i 8 with h8|h8
   ·have:2^i<=2^7:=Z5 (by decide) (by omega);have hp:0<2^i:=K1 (by decide);have:1<=n/2^i:=(Jq hp).2 (by omega);omega
   ·omega
  subst hi8;refine⟨_,rfl,[],?_,tq⟩;show u8 z.1=u8 _;rw[hz];rfl
def my:Bs:=[0,1,1,2,1,2,2,3,1,2,2,3,2,3,3,4,1,2,2,3,2,3,3,4,2,3,3,4,3,4,4,5,1,2,2,3,2,3,3,4,2,3,3,4,3,4,4,5,2,3,3,4,3,4,4,5,3,4,4,5,4,5,5,6,1,2,2,3,2,3,3,4,2,3,3,4,3,4,4,5,2,3,3,4,3,4,4,5,3,4,4,5,4,5,5,6,2,3,3,4,3,4,4,5,3,4,4,5,4,5,5,6,3,4,4,5,4,5,5,6,4,5,5,6,5,6,6,7,1,2,2,3,2,3,3,4,2,3,3,4,3,4,4,5,2,3,3,4,3,4,4,5,3,4,4,5,4,5,5,6,2,3,3,4,3,4,4,5,3,4,4,5,4,5,5,6,3,4,4,5,4,5,5,6,4,5,5,6,5,6,6,7,2,3,3,4,3,4,4,5,3,4,4,5,4,5,5,6,3,4,4,5,4,5,5,6,4,5,5,6,5,6,6,7,3,4,4,5,4,5,5,6,4,5,5,6,5,6,6,7,4,5,5,6,5,6,6,7,5,6,6,7,6,7,7,8]
def dR (n:Nat):Nat->Bool
 |0=>false
 |k+1=>xor (dR n k) (n.testBit k)
theorem Yf:∀j:Nat,j<256->(my.getD j 0).toNat%2=if dR j 8 then 1 else 0:=by decide +kernel
theorem DV:my.length=256:=by decide +kernel
theorem Mf {x:Int} {y:UInt8} (hx:x=y.toNat):b9 C 266 [vi .u8 x] [] (.ret (i64 (my.getD y.toNat 0).toNat)) []:=by
 subst hx;have hy:=y.toNat_lt;refine Qv.c ?_;refine⟨by omega,?_,?_⟩
 ·show((y.toNat:Nat):Int)<((256:Nat):Int);omega
 refine⟨my.getD y.toNat 0,?_,?_⟩
 ·rw[Zb];show my[y.toNat]? =_;rw[Zf (by rw[DV];omega),Zd,Zf (by rw[DV];omega)];rfl
 refine⟨_,rfl,[],f8 ?_,tq⟩;exact fw _
def nn (rs:Bs) (x:UInt8) (c:UInt8) (i:Nat):UInt8:=if dR ((x&&&rs.getD i 0).toNat) 8 then c^^^((1:UInt8)<<<Zt i)else c
def dX (rs:Bs) (x c:UInt8) (n:Nat):UInt8:=(List.range n).foldl (nn rs x) c
theorem tJ (rs x c n):dX rs x c (n+1)=nn rs x (dX rs x c n) n:=by simp[dX,Zz]
theorem XN:∀i,i<8->ones8[i]? =some (.int .u8 ((((1:UInt8)<<<Zt i).toNat:Nat):Int)):=by
 intro i hi;rcases i with _|_|_|_|_|_|_|_|i;all_goals first|rfl|omega
theorem yS {r0 r1 r2 r3 r4 r5 r6 r7:UInt8} {i:Nat} (hi:i<8):([u8 r0,u8 r1,u8 r2,u8 r3,u8 r4,u8 r5,u8 r6,u8 r7]:List V)[i]? =some (u8 ([r0,r1,r2,r3,r4,r5,r6,r7].getD i 0)):=by
 rcases i with _|_|_|_|_|_|_|_|i;all_goals first|rfl|omega
theorem IB {x z:Int} {a c r0 r1 r2 r3 r4 r5 r6 r7:UInt8} (hx:x=a.toNat) (hz:z=c.toNat):b9 C 244 [vi .u8 x,.a [u8 r0,u8 r1,u8 r2,u8 r3,u8 r4,u8 r5,u8 r6,u8 r7],vi .u8 z] [] (.ret (u8 (dX [r0,r1,r2,r3,r4,r5,r6,r7] a c 8))) []:=by
 subst hx;subst hz;refine Qx.c ?_;refine⟨_,rfl,rfl,?_⟩;refine m9 (fun i=>⟨[(0,u8 a),(2,u8 (dX [r0,r1,r2,r3,r4,r5,r6,r7] a c i)),(9,.a [u8 r0,u8 r1,u8 r2,u8 r3,u8 r4,u8 r5,u8 r6,u8 r7]),(10,i64 i)],[]⟩) 8 ⟨[],⟨rfl,rfl,rfl,rfl,tq⟩,tq⟩ fun i hi=> ?_;refine d9 (fun h=> ?_) (fun h=> ?_)
 ·have d8:i<8:=(by omega);refine⟨by omega,by omega,?_⟩;refine⟨_,by rw[Zb,Zm];exact yS d8,?_⟩;refine⟨[],_,_,_,_,Mf (xQ _ _),rfl,rfl,?_⟩;refine⟨by decide,?_⟩;have hp:=Yf (a&&&[r0,r1,r2,r3,r4,r5,r6,r7].getD i 0).toNat (Ji _);have e1:(((my.getD (a&&&[r0,r1,r2,r3,r4,r5,r6,r7].getD i 0).toNat 0).toNat:Nat):Int).tmod 2=((if dR (a&&&[r0,r1,r2,r3,r4,r5,r6,r7].getD i 0).toNat 8 then 1 else 0:Nat):Int):=by
   rw[<-hp];exact aq _ 2
  refine d9 (fun hb=> ?_) (fun hb=> ?_)
  ·rw[e1]at hb;have ht:dR (a&&&[r0,r1,r2,r3,r4,r5,r6,r7].getD i 0).toNat 8=true:=by
    cases hc:dR (a&&&[r0,r1,r2,r3,r4,r5,r6,r7].getD i 0).toNat 8
    ·rw[hc]at hb;exact absurd hb (by decide)
    ·rfl
   refine⟨by omega,by omega,?_⟩;refine⟨_,by rw[Zb,Zm,Zl];exact XN i d8,?_⟩;refine⟨i+1,by omega,by omega,[],⟨rfl,congrArg (vi .u8) ?_,rfl,f8 (by simp(disch:=omega)only[Za];omega),tq⟩,tq⟩;rw[o5,tJ,nn,if_pos ht]
  ·rw[e1]at hb;have ht:dR (a&&&[r0,r1,r2,r3,r4,r5,r6,r7].getD i 0).toNat 8=false:=by
    cases hc:dR (a&&&[r0,r1,r2,r3,r4,r5,r6,r7].getD i 0).toNat 8
    ·rfl
    ·rw[hc]at hb;exact absurd (by decide) hb
   refine⟨i+1,by omega,by omega,[],⟨rfl,?_,rfl,f8 (by simp(disch:=omega)only[Za];omega),tq⟩,tq⟩;show u8 _=u8 _;rw[tJ,nn,ht,if_neg (by decide)]
 ·obtain rfl:i=8:=(by omega);exact⟨_,rfl,[],rfl,tq⟩
theorem a3u (c y:UInt8) (i k:Nat) (hi:i<8) (hk:k<8):U8.wrap ((Zc U8.bits (c.toNat:Int)^^^Zc U8.bits (U8.wrap (U8.wrap ((Zc U8.bits ((y.toNat:Int).fdiv (2^(min ((k:Int)).toNat U8.bits)))&&&Zc U8.bits 1).toNat:Int)*2^(min (U6.wrap (i:Int)).toNat U8.bits)))).toNat:Int)
  =(((if y.toNat.testBit k then c^^^((1:UInt8)<<<Zt i)else c).toNat:Nat):Int):=by
 rw[GK y hk,show U6.wrap (i:Int)=(i:Int) by rw[G3];omega];cases hc:y.toNat.testBit k
 ·rw[if_neg (by decide),if_neg (by decide),Int.zero_mul,show U8.wrap 0=((0:UInt8).toNat:Int) from rfl,o5,UInt8.xor_zero]
 ·rw[if_pos rfl,if_pos rfl,show(1:Int)=((1:UInt8).toNat:Int) from rfl,a3t 1 i (by omega) (by omega),o5,Zb]
theorem MW {x z:Int} {a c r0 r1 r2 r3 r4 r5 r6 r7:UInt8} (hx:x=a.toNat) (hz:z=c.toNat):b9 C 225 [vi .u8 x,.a [u8 r0,u8 r1,u8 r2,u8 r3,u8 r4,u8 r5,u8 r6,u8 r7],vi .u8 z] [] (.ret (u8 (dX [r0,r1,r2,r3,r4,r5,r6,r7] a c 8))) []:=by
 subst hx;subst hz;refine TX.c ?_;refine m9 (fun i=>⟨[(0,u8 a),(2,u8 (dX [r0,r1,r2,r3,r4,r5,r6,r7] a c i)),(4,.p (.k 0) 0),(7,i64 i)],[.mx [u8 r0,u8 r1,u8 r2,u8 r3,u8 r4,u8 r5,u8 r6,u8 r7]]⟩) 8 ⟨[.d 4 0],⟨rfl,rfl,rfl,rfl,tq⟩,⟨_,rfl,rfl⟩,tq⟩ fun i hi=> ?_;refine d9 (fun h=> ?_) (fun h=> ?_)
 ·have d8:i<8:=(by omega);refine⟨by omega,by omega,?_⟩;refine⟨_,by rw[Zb,Zm,Zl];exact yS d8,?_⟩;generalize hc0:dX [r0,r1,r2,r3,r4,r5,r6,r7] a c i=c0;generalize hg:[r0,r1,r2,r3,r4,r5,r6,r7].getD i 0=r;have eb:U8.wrap ((Zc U8.bits (r.toNat:Int)&&&Zc U8.bits (a.toNat:Int)).toNat:Int)=((a&&&r).toNat:Int):=by
   rw[xQ,UInt8.and_comm]
  refine m9 (fun k=>⟨[(0,u8 a),(2,u8 (if dR (a&&&r).toNat k then c0^^^((1:UInt8)<<<Zt i)else c0)),(4,.p (.k 0) 0),(7,i64 i),(8,u8 (a&&&r)),(9,vi .u64 k)],[.mx [u8 r0,u8 r1,u8 r2,u8 r3,u8 r4,u8 r5,u8 r6,u8 r7]]⟩) 8 ⟨[.k 0],⟨rfl,rfl,rfl,rfl,congrArg (vi .u8) eb,rfl,tq⟩,⟨_,rfl,rfl⟩,tq⟩ fun k hk=> ?_;refine d9 (fun h=> ?_) (fun h=> ?_)
  ·have hkl:k<8:=(by omega);refine⟨by omega,?_⟩;refine⟨by rw[G3];omega,?_⟩;refine⟨k+1,by omega,by omega,[.k 0],⟨rfl,congrArg (vi .u8) ?_,rfl,rfl,rfl,congrArg (vi .u64) (by rw[G3];omega),tq⟩,⟨_,rfl,rfl⟩,tq⟩;rw[a3u _ _ _ _ d8 hkl];show(((if _ then _ else _:UInt8).toNat:Nat):Int)=(((if xor (dR (a&&&r).toNat k) ((a&&&r).toNat.testBit k)=true then _ else _:UInt8).toNat:Nat):Int);cases dR (a&&&r).toNat k<;>cases (a&&&r).toNat.testBit k<;>simp[UInt8.xor_assoc]
  ·obtain rfl:k=8:=(by omega);refine⟨i+1,by omega,by omega,[.k 0],⟨rfl,?_,rfl,f8 (by simp(disch:=omega)only[Za];omega),tq⟩,⟨_,rfl,rfl⟩,tq⟩;show u8 _=u8 _;rw[tJ,nn,hc0,hg]
 ·obtain rfl:i=8:=(by omega);exact⟨_,rfl,[],rfl,tq⟩
def bT (e:Nat) (m:Nat) (rs:Bs) (c:UInt8) (n:Nat):Bs:=(List.range n).map fun x=>dX rs (qF m (Zt x) e) c 8
theorem rF (e m rs c n):(bT e m rs c n).length=n:=by simp[bT]
theorem Df (e m rs c n):bT e m rs c (n+1)=bT e m rs c n++[dX rs (qF m (Zt n) e) c 8]:=by simp[bT,Zz]
theorem og {l:Bs} {n k:Nat} {x:UInt8} (hl:l.length=k) (h:k<n):(bv (l++Zk (n-k) 0)).set k (.int .u8 x.toNat)=bv (l++[x]++Zk (n-(k+1)) 0):=by
 rw[L4,show n-k=(n-(k+1))+1 by omega,Kb,xu hl];simp
theorem zS {e m:Nat} {z:Int} {c r0 r1 r2 r3 r4 r5 r6 r7:UInt8} (hz:z=c.toNat) (h1:256<=m) (h2:m<512) (he:128<=e) (he2:e<256):b9 C 202 [i64 e,i64 m,.a [u8 r0,u8 r1,u8 r2,u8 r3,u8 r4,u8 r5,u8 r6,u8 r7],vi .u8 z] [] (.ret (.o 1 (.k 0) 0 256)) [.sc (bv (bT e m [r0,r1,r2,r3,r4,r5,r6,r7] c 256))]:=by
 subst hz;refine QZ.c ?_;refine⟨by decide,by decide,by decide,?_⟩;refine m9 (fun i=>⟨[(0,i64 e),(1,i64 m),(3,u8 c),(6,.p (.k 0) 0),(9,.o 1 (.k 1) 0 256),(13,i64 256),(14,i64 i)],[.mx [u8 r0,u8 r1,u8 r2,u8 r3,u8 r4,u8 r5,u8 r6,u8 r7],.sc (bv (bT e m [r0,r1,r2,r3,r4,r5,r6,r7] c i++Zk (256-i) 0))]⟩) 256 ⟨[.d 6 0,.d 11 0],⟨rfl,rfl,rfl,rfl,rfl,rfl,rfl,tq⟩,⟨_,rfl,rfl⟩,⟨_,rfl,i6 (by rw[show bT e m [r0,r1,r2,r3,r4,r5,r6,r7] c 0=[] from rfl,Jp];exact U4 256)⟩,tq⟩ fun i hi=> ?_;refine d9 (fun h=> ?_) (fun h=> ?_)
 ·have d8:i<256:=(by omega);refine⟨[],_,_,_,_,LH (a:=Zt i) (Y5 i) he he2 h1 h2,rfl,rfl,?_⟩;refine⟨_,rfl,rfl,?_⟩;refine⟨[],_,_,_,_,IB rfl rfl,rfl,rfl,?_⟩;refine⟨by omega,by omega,by rw[j6];simp[rF];omega,?_⟩;refine⟨i+1,by omega,by omega,[.k 0,.k 1],⟨rfl,rfl,rfl,rfl,rfl,rfl,f8 (by simp(disch:=omega)only[Za];omega),tq⟩,⟨_,rfl,rfl⟩,⟨_,rfl,i6 ?_⟩,tq⟩;rw[Zb,Zm,Zl,og (rF _ _ _ _ _) d8,Df]
 ·obtain rfl:i=256:=(by omega);refine⟨_,rfl,[.k 1],rfl,⟨_,rfl,i6 ?_⟩,tq⟩;simp
theorem zY {e m:Nat} {z:Int} {c r0 r1 r2 r3 r4 r5 r6 r7:UInt8} (hz:z=c.toNat) (h1:256<=m) (h2:m<512) (he:128<=e) (he2:e<256):b9 C 170 [i64 e,i64 m,.a [u8 r0,u8 r1,u8 r2,u8 r3,u8 r4,u8 r5,u8 r6,u8 r7],vi .u8 z] [] (.ret (.o 1 (.k 0) 0 256)) [.sc (bv (bT e m [r0,r1,r2,r3,r4,r5,r6,r7] c 256))]:=by
 subst hz;refine Ua.c ?_;refine⟨by decide,by decide,by decide,?_⟩;refine m9 (fun i=>⟨[(0,i64 e),(1,i64 m),(3,u8 c),(6,.p (.k 0) 0),(9,.o 1 (.k 1) 0 256),(10,i64 i)],[.mx [u8 r0,u8 r1,u8 r2,u8 r3,u8 r4,u8 r5,u8 r6,u8 r7],.sc (bv (bT e m [r0,r1,r2,r3,r4,r5,r6,r7] c i++Zk (256-i) 0))]⟩) 256 ⟨[.d 6 0,.d 11 0],⟨rfl,rfl,rfl,rfl,rfl,rfl,tq⟩,⟨_,rfl,rfl⟩,⟨_,rfl,i6 (by rw[show bT e m [r0,r1,r2,r3,r4,r5,r6,r7] c 0=[] from rfl,Jp];exact U4 256)⟩,tq⟩ fun i hi=> ?_;refine d9 (fun h=> ?_) (fun h=> ?_)
 ·have d8:i<256:=(by omega);refine⟨[],_,_,_,_,MV (a:=Zt i) (Y5 i) he he2 h1 h2,rfl,rfl,?_⟩;refine⟨_,rfl,rfl,?_⟩;refine⟨[],_,_,_,_,MW rfl rfl,rfl,rfl,?_⟩;refine⟨by omega,by omega,by rw[j6];simp[rF];omega,?_⟩;refine⟨i+1,by omega,by omega,[.k 0,.k 1],⟨rfl,rfl,rfl,rfl,rfl,f8 (by simp(disch:=omega)only[Za];omega),tq⟩,⟨_,rfl,rfl⟩,⟨_,rfl,i6 ?_⟩,tq⟩;rw[Zb,Zm,Zl,og (rF _ _ _ _ _) d8,Df]
 ·obtain rfl:i=256:=(by omega);refine⟨_,rfl,[.k 1],rfl,⟨_,rfl,i6 ?_⟩,tq⟩;simp
def bl (l:List Bool):List V:=l.map fun b=> .s (.bool b)
def T6 (l:List Bool):List Value:=l.map fun b=> .bool b
theorem nA (l):(bl l).length=l.length:=by simp[bl]
theorem fC (l):(T6 l).length=l.length:=by simp[T6]
theorem zi (l):(T6 l).map V.s=bl l:=by simp[bl,T6]
theorem ud (l:List Bool) (i:Nat) (b:Bool):(T6 l).set i (.bool b)=T6 (l.set i b):=by simp[T6,List.map_set]
theorem yU (d7 dst):∀l,bG d7 dst (bl l)=bl l
 |[]=>rfl
 |b::r=>by show V.s (.bool b)::bG d7 dst (bl r)=_;rw[yU d7 dst r];rfl
theorem WU (H d7 n) (l):(bl l).map (p5 H d7 (n+1))=bl l:=by
 induction l with
 |nil=>rfl
 |cons b r ih=>
  have ih':List.map (p5 H d7 (n+1)) (bl r)=bl r:=ih;show V.s (.bool b)::List.map (p5 H d7 (n+1)) (bl r)=_;rw[ih'];rfl
def Y7 (t:Bs):List Bool:=(List.range 256).map fun j=>decide (Zt j∈t)
theorem cW (t):(Y7 t).length=256:=by simp[Y7]
theorem oW (t) {j:Nat} (h:j<256):(Y7 t)[j]? =some (decide (Zt j∈t)):=by simp[Y7,h]
theorem EF {t:Bs} {i:Nat} (h:i<t.length):(Y7 (t.take i)).set (t[i]).toNat true=Y7 (t.take (i+1)):=by
 apply Z3;intro j;by_cases hj:j<256
 ·rw[Jr,oW _ hj,oW _ hj,cW,Zr h];by_cases he:(t[i]).toNat=j
  ·rw[if_pos he,if_pos (Ji _)];subst he;rw[UInt8.ofNat_toNat,decide_eq_true (List.mem_append_right _ (Kf.2 rfl))]
  ·rw[if_neg he];have:Zt j≠t[i]:=by
    intro hh;apply he;rw[<-hh,Jb,Zh (show j<2^8 from hj)]
   congr 1;apply decide_eq_decide.2;simp only[Kv,Kf,this,or_false]
 ·rw[Zg (by simp[cW];omega),Zg (by rw[cW];omega)]
theorem ED:T6 (Y7 [])=Zk 256 (Value.bool false):=by
 apply Z3;intro j;by_cases hj:j<256
 ·unfold T6;rw[Je,oW _ hj,Jd,if_pos hj];rfl
 ·rw[Zg (by simp[T6,Y7];omega),Zg (by simp;omega)]
theorem a1w {t:Bs} (h:∀j,j<256->Zt j∈t):Y7 t=Zk 256 true:=by
 apply Z3;intro j;by_cases hj:j<256
 ·rw[oW _ hj,decide_eq_true (h j hj),Jd,if_pos hj]
 ·rw[Zg (by rw[cW];omega),Zg (by simp;omega)]
theorem Ou {va:List Value} {t:Bs} {n:Nat} (ha:va=bv t) (ht:t.length=n) (hm:n<=1000000):b9 C 267 [.z n va] [] (.ret (.a (bl (Y7 t)))) []:=by
 subst ha;subst ht;refine Ra.c ?_;refine m9 (fun i=>⟨[(2,.p (.k 0) 0),(5,bz t),(6,i64 t.length),(7,i64 i)],[.sc (T6 (Y7 (t.take i)))]⟩) t.length ⟨[.d 2 0],⟨rfl,rfl,rfl,rfl,tq⟩,⟨_,rfl,i6 ?_⟩,tq⟩ fun i hi=> ?_
 ·rw[K2,ED];rfl
 refine d9 (fun h=> ?_) (fun h=> ?_)
 ·have d8:i<t.length:=(by omega);have hx:=Ji (t[i]);refine⟨by omega,by omega,?_⟩;refine⟨_,by rw[Zb];exact bI d8,?_⟩;refine⟨by omega,by omega,?_⟩;refine⟨by rw[fC,cW];omega,?_⟩;refine⟨i+1,by omega,by omega,[.k 0],⟨rfl,rfl,rfl,f8 (by simp(disch:=omega)only[Za];omega),tq⟩,⟨_,rfl,i6 ?_⟩,tq⟩;rw[Zb,Zm,Zl,ud,EF d8]
 ·obtain rfl:i=t.length:=(by omega);rw[Zq];refine⟨T6 (Y7 t),?_,?_,?_⟩
  ·exact C3 (by rw[fC,cW])
  ·rw[fC,cW]
  rw[zi];refine⟨by rw[nA,fC];omega,?_⟩;refine⟨bl (Y7 t),?_,by rw[nA,cW],?_⟩
  ·unfold lay;split
   ·rename_i c hc;have:=congrArg List.length hc;rw[nA,cW]at this;simp at this
   ·rw[K2,Jp,Kt (by simp[nA,fC]),Z8];simp[sub,nA,cW,Ks]
  refine⟨_,rfl,[],?_,tq⟩;show V.a ((bl (Y7 t)).map (p5 _ [] 5))=_;rw[WU]
def bA (n:Nat):List Bool:=(List.range 256).map fun j=>decide (j<n)
theorem iW (n):(bA n).length=256:=by simp[bA]
theorem a3I:T6 (bA 0)=Zk 256 (Value.bool false):=by
 apply Z3;intro j;by_cases hj:j<256
 ·unfold T6 bA;rw[Je,Je,Jv hj,Jd,if_pos hj];simp
 ·rw[Zg (by simp[T6,bA];omega),Zg (by simp;omega)]
theorem a3H {i:Nat} (h:i<256):(bA i).set i true=bA (i+1):=by
 apply Z3;intro j;by_cases hj:j<256
 ·rw[Jr,iW];by_cases he:i=j
  ·subst he;simp[bA,h]
  ·rw[if_neg he];simp[bA,hj];omega
 ·rw[Zg (by simp[iW];omega),Zg (by rw[iW];omega)]
theorem a3G:bA 256=Zk 256 true:=by
 apply Z3;intro j;by_cases hj:j<256
 ·unfold bA;rw[Je,Jv hj,Jd,if_pos hj];simp[hj]
 ·rw[Zg (by rw[iW];omega),Zg (by simp;omega)]
theorem LS {va:List Value} {t:Bs} (ha:va=bv t) (ht:t.length=256) (hall:∀j,j<256->Zt j∈t):b9 C 246 [.z 256 va] [] (.ret (bool true)) []:=by
 subst ha;refine Qz.c ?_;refine m9 (fun i=>⟨[(0,.z 256 (bv t)),(3,.p (.k 0) 0),(9,i64 256),(10,i64 i)],[.sc (T6 (bA i))]⟩) 256 ⟨[.d 3 0],⟨rfl,rfl,rfl,rfl,tq⟩,⟨_,rfl,i6 a3I.symm⟩,tq⟩ fun i hi=> ?_;refine d9 (fun h=> ?_) (fun h=> ?_)
 ·have d8:i<256:=(by omega);refine⟨by omega,by omega,by rw[fC,iW];omega,?_⟩;refine⟨i+1,by omega,by omega,[.k 0],⟨rfl,rfl,rfl,f8 (by simp(disch:=omega)only[Za];omega),tq⟩,⟨_,rfl,i6 ?_⟩,tq⟩;rw[Zb,Zm,Zl,ud,a3H d8]
 ·obtain rfl:i=256:=(by omega);refine⟨[],_,_,_,_,Ou (t:=t) rfl ht (by decide),rfl,rfl,?_⟩;refine⟨T6 (bA 256),?_,by rw[fC,iW],?_⟩
  ·exact C3 (by rw[fC,iW])
  refine⟨Y7 t,bA 256,?_,?_,cW t,iW _,?_⟩
  ·exact yU _ _ _
  ·exact zi _
  refine⟨_,rfl,[],congrArg bool ?_,tq⟩;rw[a1w hall,a3G];exact decide_eq_true rfl
def dw (t:Bs) (n:Nat):Bs:=(List.range n).foldl (fun o i=>o.set (t.getD i 0).toNat (Zt i)) (Zk 256 0)
theorem tV (t n):dw t (n+1)=(dw t n).set (t.getD n 0).toNat (Zt n):=by simp[dw,Zz]
theorem yV (t n):(dw t n).length=256:=by
 induction n with
 |zero=>simp[dw]
 |succ n ih=>rw[tV,Zu,ih]
theorem zr {va:List Value} {t:Bs} (ha:va=bv t) (ht:t.length=256) (hall:∀j,j<256->Zt j∈t):b9 C 203 [.z 256 va] [] (.ret (.t [.o 1 (.k 0) 0 256,bool true])) [.sc (bv (dw t 256))]:=by
 subst ha;refine Qy.c ?_;refine⟨[],_,_,_,_,LS rfl ht hall,rfl,rfl,?_⟩;refine⟨by omega,Jh _,by omega,?_⟩;refine m9 (fun i=>⟨[(4,.o 1 (.k 0) 0 256),(13,.z 256 (bv t)),(14,i64 256),(15,i64 i)],[.sc (bv (dw t i))]⟩) 256 ⟨[.d 12 0],⟨rfl,rfl,rfl,rfl,tq⟩,⟨_,rfl,i6 (U4 256)⟩,tq⟩ fun i hi=> ?_;refine d9 (fun h=> ?_) (fun h=> ?_)
 ·have d8:i<256:=(by omega);have hx:=Ji (t.getD i 0);refine⟨by omega,by omega,?_⟩;refine⟨_,by rw[Zb];exact p9 (by omega),?_⟩;refine⟨by omega,by omega,by rw[j6,yV];omega,?_⟩;refine⟨i+1,by omega,by omega,[.k 0],⟨rfl,rfl,rfl,f8 (by simp(disch:=omega)only[Za];omega),tq⟩,⟨_,rfl,i6 ?_⟩,tq⟩;rw[Zb,Zm,Zl,Y5,L4,tV]
 ·obtain rfl:i=256:=(by omega);exact⟨_,rfl,[.k 0],rfl,⟨_,rfl,rfl⟩,tq⟩
theorem Xt {t:Bs} (hnd:t.Nodup) {i:Nat} (h:i<t.length):t[i]∉t.take i:=by
 intro hm;obtain⟨j,hj,he⟩:=List.getElem_of_mem hm;simp at hj;rw[List.getElem_take]at he;have:=(List.getElem?_inj (i:=j) (j:=i) (by omega) hnd).1 (by rw[Zf (by omega),Zf h,he]);omega
theorem MX {va:List Value} {t:Bs} (ha:va=bv t) (ht:t.length=256) (hnd:t.Nodup):b9 C 227 [.z 256 va] [] (.ret (bool true)) []:=by
 subst ha;refine TZ.c ?_;refine⟨by omega,Jh _,by omega,?_⟩;refine m9 (fun i=>⟨[(0,.z 256 (bv t)),(3,.o 1 (.k 0) 0 256),(4,i64 i)],[.sc (T6 (Y7 (t.take i)))]⟩) 256 ⟨[.d 5 0],⟨rfl,rfl,rfl,tq⟩,⟨_,rfl,i6 (by rw[K2,ED];rfl)⟩,tq⟩ fun i hi=> ?_;refine d9 (fun h=> ?_) (fun h=> ?_)
 ·have d8:i<256:=(by omega);have hlt':i<t.length:=(by omega);have hx:=Ji (t[i]);have hs:(T6 (Y7 (t.take i)))[0+((t[i]).toNat:Int).toNat*1]? =some (.bool false):=by
   rw[Zb,Zm,Zl];have h1:=oW (t.take i) hx;rw[UInt8.ofNat_toNat,decide_eq_false (Xt hnd hlt')]at h1;simp[T6,h1]
  refine⟨by omega,by omega,?_⟩;refine⟨_,by rw[Zb];exact bI hlt',?_⟩;refine d9 (fun hg=>absurd hg (by rw[fw];omega)) (fun _=> ?_);refine⟨by omega,by omega,?_⟩;refine⟨_,by rw[Zb];exact bI hlt',?_⟩;refine⟨by omega,by omega,?_⟩;refine⟨_,hs,?_⟩;refine⟨by omega,by omega,?_⟩;refine⟨_,by rw[Zb];exact bI hlt',?_⟩;refine⟨by omega,by omega,by rw[fC,cW];omega,?_⟩;refine⟨i+1,by omega,by omega,[.k 0],⟨rfl,rfl,f8 (by simp(disch:=omega)only[Za];omega),tq⟩,⟨_,rfl,i6 ?_⟩,tq⟩;rw[Zb,Zm,Zl,ud,EF hlt']
 ·obtain rfl:i=256:=(by omega);exact⟨_,rfl,[],rfl,tq⟩
theorem zX {va:List Value} {t:Bs} (ha:va=bv t) (ht:t.length=256) (hnd:t.Nodup):b9 C 171 [.z 256 va] [] (.ret (.t [.o 1 (.k 0) 0 256,bool true])) [.sc (bv (dw t 256))]:=by
 subst ha;refine TY.c ?_;refine⟨[],_,_,_,_,MX rfl ht hnd,rfl,rfl,?_⟩;refine⟨by omega,Jh _,by omega,?_⟩;refine m9 (fun i=>⟨[(0,.z 256 (bv t)),(4,.o 1 (.k 0) 0 256),(5,i64 i)],[.sc (bv (dw t i))]⟩) 256 ⟨[.d 11 0],⟨rfl,rfl,rfl,tq⟩,⟨_,rfl,i6 (U4 256)⟩,tq⟩ fun i hi=> ?_;refine d9 (fun h=> ?_) (fun h=> ?_)
 ·have d8:i<256:=(by omega);have hx:=Ji (t.getD i 0);refine⟨by omega,by omega,?_⟩;refine⟨_,by rw[Zb];exact p9 (by omega),?_⟩;refine⟨by omega,by omega,by rw[j6,yV];omega,?_⟩;refine⟨i+1,by omega,by omega,[.k 0],⟨rfl,rfl,f8 (by simp(disch:=omega)only[Za];omega),tq⟩,⟨_,rfl,i6 ?_⟩,tq⟩;rw[Zb,Zm,Zl,Y5,L4,tV]
 ·obtain rfl:i=256:=(by omega);exact⟨_,rfl,[.k 0],rfl,⟨_,rfl,rfl⟩,tq⟩
def tb (b:Bs) (j:Nat):Bool:=(b.getD (j/8) 0).toNat.testBit (7-j%8)
def dx (f:Nat->Bool):UInt8:=Zt (128*(f 0).toNat+64*(f 1).toNat+32*(f 2).toNat+16*(f 3).toNat+8*(f 4).toNat+4*(f 5).toNat+2*(f 6).toNat+(f 7).toNat)
theorem Iu:∀b0 b1 b2 b3 b4 b5 b6 b7:Bool,∀r:Fin 8,(Zt (128*b0.toNat+64*b1.toNat+32*b2.toNat+16*b3.toNat+8*b4.toNat+4*b5.toNat+2*b6.toNat+b7.toNat)).toNat.testBit (7-r.val)=[b0,b1,b2,b3,b4,b5,b6,b7].getD r.val false:=by decide +kernel
theorem nD (f:Nat->Bool) {r:Nat} (hr:r<8):(dx f).toNat.testBit (7-r)=f r:=by
 have h:=Iu (f 0) (f 1) (f 2) (f 3) (f 4) (f 5) (f 6) (f 7) ⟨r,hr⟩;have e:[f 0,f 1,f 2,f 3,f 4,f 5,f 6,f 7].getD r false=f r:=by
  rcases r with _|_|_|_|_|_|_|_|r;all_goals first|rfl|omega
 rw[<-e,<-h];rfl
theorem xR {a b:UInt8} (h:∀r,r<8->a.toNat.testBit (7-r)=b.toNat.testBit (7-r)):a=b:=by
 apply Ku.1;apply Nat.eq_of_testBit_eq;intro i;by_cases hi:i<8
 ·have:=h (7-i) (by omega)
  rwa [show 7-(7-i)=i by omega]at this
 ·have hp:∀w:UInt8,w.toNat.testBit i=false:=fun w=>Kq (Nat.lt_of_lt_of_le w.toNat_lt (Z5 (by decide) (by omega)));rw[hp,hp]
def aH (n:Nat) (f:Nat->Bool):Bs:=(List.range n).map fun q=>dx fun r=>f (8*q+r)
theorem gm (n f):(aH n f).length=n:=by simp[aH]
theorem gE {n:Nat} {f:Nat->Bool} {j:Nat} (h:j<8*n):tb (aH n f) j=f j:=by
 unfold tb aH;have hq:j/8<n:=by omega
 rw[Zd,Je,Jv hq];show(dx fun r=>f (8*(j/8)+r)).toNat.testBit (7-j%8)=f j;rw[nD _ (Z4 _ (by decide))];congr 1;omega
theorem pb {a b:Bs} (hl:a.length=b.length) (h:∀j,j<8*a.length->tb a j=tb b j):a=b:=by
 apply List.ext_getElem hl;intro i h1 h2;apply xR;intro r hr;have:=h (8*i+r) (by omega);unfold tb at this;rw[show (8*i+r)/8=i by omega,show(8*i+r)%8=r by omega]at this;rw[Zd,Zf h1,Zd,Zf h2]at this;exact this
def M2 (b:Bs) (n:Nat):Bs:=aH b.length fun j=>tb b ((j+n)%(8*b.length))
theorem I7 (b n):(M2 b n).length=b.length:=gm _ _
theorem a3g (b:Bs) (n m:Nat) (h0:0<b.length):M2 (M2 b n) m=M2 b ((n+m)%(8*b.length)):=by
 apply pb (by simp[I7]);intro j hj;rw[I7,I7]at hj;have d8:(j+m)%(8*b.length)<8*b.length:=Z4 _ (by omega);unfold M2;rw[gE (by rw[gm];exact hj),gE (by rw[gm];exact d8),gE hj,gm];congr 1;rw[Nat.mod_add_mod,Nat.add_mod_mod,Nat.add_assoc,Nat.add_comm m n]
def mL (x y:UInt8) (r:Nat):UInt8:=Zt ((x.toNat*256+y.toNat)/2^(8-r))
theorem ZW (x y:UInt8) {r j:Nat} (hr:r<8) (hj:j<8):(mL x y r).toNat.testBit (7-j)=if j+r<8 then x.toNat.testBit (7-(j+r))else y.toNat.testBit (15-(j+r)):=by
 unfold mL;rw[Jb,Kl,Nat.testBit_div_two_pow,Nat.mul_comm,show 256=2^8 by decide,Nat.testBit_two_pow_mul_add _ y.toNat_lt];have h7:7-j<8:=by omega
 simp only[h7,decide_true,Bool.true_and];by_cases h:j+r<8
 ·rw[if_pos h,if_neg (by omega)];congr 1;omega
 ·rw[if_neg h,if_pos (by omega)];congr 1;omega
def pe (b:Bs) (n i:Nat):UInt8:=mL (b.getD ((i+n/8)%b.length) 0) (b.getD ((i+n/8+1)%b.length) 0) (n%8)
theorem GI (b:Bs) (n:Nat) (hn:n<8*b.length):(List.range b.length).map (pe b n)=M2 b n:=by
 apply pb (by simp[I7]);intro j hj;simp only[Zy,List.length_range]at hj;have hl:0<b.length:=by omega
 unfold M2;rw[gE hj];have hq:j/8<b.length:=by omega
 unfold tb;rw[Zd,Je,Jv hq];show(pe b n (j/8)).toNat.testBit (7-j%8)=_;unfold pe;rw[ZW _ _ (Z4 _ (by decide)) (Z4 _ (by decide))];by_cases h:j%8+n%8<8
 ·rw[if_pos h];by_cases hw:j+n<8*b.length
  ·have e:(j+n)%(8*b.length)=j+n:=Zh hw;rw[e,show(j+n)/8=j/8+n/8 by omega,Zh (show j/8+n/8<b.length by omega),show(j+n)%8=j%8+n%8 by omega]
  ·have e:(j+n)%(8*b.length)=j+n-8*b.length:=by rw[Jy (by omega),Zh (by omega)]
   have e2:(j/8+n/8)%b.length=j/8+n/8-b.length:=by rw[Jy (by omega),Zh (by omega)]
   rw[e,e2,show(j+n-8*b.length)/8=j/8+n/8-b.length by omega,show(j+n-8*b.length)%8=j%8+n%8 by omega]
 ·rw[if_neg h];by_cases hw:j+n<8*b.length
  ·have e:(j+n)%(8*b.length)=j+n:=Zh hw;rw[e,show(j+n)/8=j/8+n/8+1 by omega,Zh (show j/8+n/8+1<b.length by omega),show 7-(j+n)%8=15-(j%8+n%8) by omega]
  ·have e:(j+n)%(8*b.length)=j+n-8*b.length:=by rw[Jy (by omega),Zh (by omega)]
   have e2:(j/8+n/8+1)%b.length=j/8+n/8+1-b.length:=by rw[Jy (by omega),Zh (by omega)]
   rw[e,e2,show(j+n-8*b.length)/8=j/8+n/8+1-b.length by omega,show 7-(j+n-8*b.length)%8=15-(j%8+n%8) by omega]
theorem rU (a:Nat) {b i:Nat} (hb:b<2^i):a*2^i|||b=a*2^i+b:=by
 rw[<-J6,Nat.shiftLeft_add_eq_or_of_lt hb]
theorem Yg (x y:UInt8) {r:Nat} (hr:r<8):U8.wrap ((U6.wrap ((Zc U6.bits (U6.wrap (U6.wrap (x.toNat:Int)*2^(min (8:Int).toNat U6.bits)))|||Zc U6.bits (U6.wrap (y.toNat:Int))).toNat:Int)).fdiv (2^(min (U6.wrap (8-U6.wrap (r:Int))).toNat U6.bits)))
  =((mL x y r).toNat:Int):=by
 have hx:=x.toNat_lt;have hy:=y.toNat_lt;have e1:U6.wrap (x.toNat:Int)=((x.toNat:Nat):Int):=by rw[G3];omega
 have e2:U6.wrap (y.toNat:Int)=((y.toNat:Nat):Int):=by rw[G3];omega
 have e3:U6.wrap ((x.toNat:Int)*2^(min (8:Int).toNat U6.bits))=((x.toNat*256:Nat):Int):=by
  show U6.wrap ((x.toNat:Int)*2^8)=_;rw[G3];omega
 have e4:U6.wrap (8-U6.wrap (r:Int))=((8-r:Nat):Int):=by rw[G3,G3];omega
 have e5:x.toNat*256|||y.toNat=x.toNat*256+y.toNat:=rU (i:=8) x.toNat hy;rw[e1,e2,e3,e4,kC U6.bits (by simp only[ny];omega) (by simp only[ny];omega),e5];have e6:U6.wrap ((x.toNat*256+y.toNat:Nat):Int)=((x.toNat*256+y.toNat:Nat):Int):=by rw[G3];omega
 rw[e6,Zb,show min (8-r) U6.bits=8-r by simp only[ny];omega,Z1 _ (Kc (Ki (by decide)))];have e7:((x.toNat*256+y.toNat:Nat):Int)/2^(8-r)=(((x.toNat*256+y.toNat)/2^(8-r):Nat):Int):=by
  rw[Ju,Z9];rfl
 rw[e7,Y5];rfl
theorem ZX:∀r,r<8->∀x y:Nat,x<256->y<256->(x*2^r%256|||y/2^(8-r))=(x*256+y)/2^(8-r)%256:=by
 intro r hr x y hx hy;have key:∀(a p q:Nat),q<2^p->a*2^p|||q=a*2^p+q:=fun a p q h=>rU a h;rcases r with _|_|_|_|_|_|_|_|r
 ·rw[show y/2^(8-0)=0 by omega,Nat.or_zero];omega
 ·have h1:x*2^1%256=(x%128)*2^1:=by omega
  rw[h1,key _ 1 _ (by show _<2;omega)];omega
 ·have h1:x*2^2%256=(x%64)*2^2:=by omega
  rw[h1,key _ 2 _ (by show _<4;omega)];omega
 ·have h1:x*2^3%256=(x%32)*2^3:=by omega
  rw[h1,key _ 3 _ (by show _<8;omega)];omega
 ·have h1:x*2^4%256=(x%16)*2^4:=by omega
  rw[h1,key _ 4 _ (by show _<16;omega)];omega
 ·have h1:x*2^5%256=(x%8)*2^5:=by omega
  rw[h1,key _ 5 _ (by show _<32;omega)];omega
 ·have h1:x*2^6%256=(x%4)*2^6:=by omega
  rw[h1,key _ 6 _ (by show _<64;omega)];omega
 ·have h1:x*2^7%256=(x%2)*2^7:=by omega
  rw[h1,key _ 7 _ (by show _<128;omega)];omega
 ·omega
theorem ZR (x y:UInt8) {r:Nat} (hr:r<8):U8.wrap ((Zc U8.bits (U8.wrap ((x.toNat:Int)*2^(min (U6.wrap (r:Int)).toNat U8.bits)))|||Zc U8.bits ((y.toNat:Int).fdiv (2^(min (U6.wrap (I6.wrap (8-(r:Int)))).toNat U8.bits)))).toNat:Int)
  =((mL x y r).toNat:Int):=by
 have hx:=x.toNat_lt;have hy:=y.toNat_lt;have e1:U6.wrap (r:Int)=((r:Nat):Int):=by rw[G3];omega
 have e4:U6.wrap (I6.wrap (8-(r:Int)))=((8-r:Nat):Int):=by rw[G3];simp only[IntKind.wrap_i64];omega
 rw[e1,e4,Zb,Zb,show min r U8.bits=r by simp only[kA];omega,show min (8-r) U8.bits=8-r by simp only[kA];omega,Z1 _ (Kc (Ki (by decide))),wrap_u8,wrap_u8];have e5:(x.toNat:Int)*2^r%256=((x.toNat*2^r%256:Nat):Int):=by rw[Jt,Jx,Z9];rfl
 have e6:(y.toNat:Int)/2^(8-r)=((y.toNat/2^(8-r):Nat):Int):=by rw[Ju,Z9];rfl
 have hd:y.toNat/2^(8-r)<256:=Nat.lt_of_le_of_lt (Jo _ _) hy;rw[e5,e6,kC U8.bits (by simp only[kA];omega) (by simp only[kA];omega),ZX r hr _ _ hx hy,mL,Jb];omega
theorem Cb {f:Nat->UInt8} {n k:Nat} (h:k<n):(bv ((List.range k).map f++Zk (n-k) 0)).set k (.int .u8 (f k).toNat)=bv ((List.range (k+1)).map f++Zk (n-(k+1)) 0):=by
 rw[og (by simp) h,Zz,List.map_append];simp
theorem qg {va:List Value} {b:Bs} {l:Nat} {n:Int} (ha:va=bv b) (hl:b.length=l) (h0:0<l) (hm:l<=1000000) (hn: -9223372036854775808<=n/\n<=9223372036854775807):b9 C 189 [.z l va,i64 n] [] (.ret (.o 1 (.k 0) 0 l)) [.sc (bv (M2 b (n%(8*l)).toNat))]:=by
 subst ha;subst hl;refine VN.c ?_;refine E5 (by simp only[beq_eq_false_iff_ne,ne_eq];omega) ?_;have e8:I6.wrap (8*(b.length:Int))=((8*b.length:Nat):Int):=(by simp(disch:=omega)only[Za];omega);refine⟨[],_,_,_,_,Af (b:=(8*b.length:Nat)) (by omega) (by omega) hn,by rw[<-e8];rfl,rfl,?_⟩;obtain⟨m,hmm,hml⟩:∃m:Nat,n%(8*(b.length:Int))=m/\m<8*b.length:=by
  have h1:=Kw n (b:=8*(b.length:Int)) (by omega);have h2:=Kh n (b:=8*(b.length:Int)) (by omega);exact⟨(n%(8*(b.length:Int))).toNat,by omega,by omega⟩
 have hmm':n%((8*b.length:Nat):Int)=m:=by rw[<-hmm];rfl
 rw[hmm,hmm',Zb];refine⟨by omega,Jh _,by omega,?_⟩;refine m9 (fun i=>⟨[(0,bz b),(1,i64 m),(5,.o 1 (.k 0) 0 b.length),(22,i64 b.length),(23,i64 i)],[.sc (bv ((List.range i).map (pe b m)++Zk (b.length-i) 0))]⟩) b.length ⟨[.d 20 0],⟨rfl,rfl,rfl,rfl,rfl,tq⟩,⟨_,rfl,i6 (by simp[bv])⟩,tq⟩ fun i hi=> ?_;refine d9 (fun h=> ?_) (fun h=> ?_)
 ·have d8:i<b.length:=(by omega);have q8:I6.wrap ((m:Int).tdiv 8)=((m/8:Nat):Int):=by
   rw[show ((m:Int).tdiv 8)=((m/8:Nat):Int) from rfl];simp only[IntKind.wrap_i64];omega
  have ea:I6.wrap ((i:Int)+I6.wrap ((m:Int).tdiv 8))=((i+m/8:Nat):Int):=by rw[q8];simp only[IntKind.wrap_i64];omega
  have eb:I6.wrap (I6.wrap ((i:Int)+I6.wrap ((m:Int).tdiv 8))+1)=((i+m/8+1:Nat):Int):=by rw[ea];simp only[IntKind.wrap_i64];omega
  have ec:(I6.wrap ((i:Int)+I6.wrap ((m:Int).tdiv 8))).tmod (b.length:Int)=(((i+m/8)%b.length:Nat):Int):=by rw[ea];exact aq _ _
  have ed:(I6.wrap (I6.wrap ((i:Int)+I6.wrap ((m:Int).tdiv 8))+1)).tmod (b.length:Int)=(((i+m/8+1)%b.length:Nat):Int):=by rw[eb];exact aq _ _
  have h1:(i+m/8)%b.length<b.length:=Z4 _ h0;have h2:(i+m/8+1)%b.length<b.length:=Z4 _ h0;refine⟨by decide,?_⟩;refine⟨by omega,by rw[ec];omega,by rw[ec];omega,?_⟩;refine⟨_,by rw[ec,Zb];exact p9 h1,?_⟩;refine⟨by omega,by rw[ed];omega,by rw[ed];omega,?_⟩;refine⟨_,by rw[ed,Zb];exact p9 h2,?_⟩;refine⟨by decide,by decide,?_⟩;have e9:((m:Int).tmod 8)=((m%8:Nat):Int):=aq m 8;refine⟨by rw[e9,G3,G3];omega,?_⟩;refine⟨by omega,by omega,by rw[j6];simp;omega,?_⟩;refine⟨i+1,by omega,by omega,[.k 0],⟨rfl,rfl,rfl,rfl,f8 (by simp(disch:=omega)only[Za];omega),tq⟩,⟨_,rfl,i6 ?_⟩,tq⟩;rw[e9,Yg _ _ (Z4 _ (by decide)),Zb,Zm,Zl];exact Cb d8
 ·obtain rfl:i=b.length:=(by omega);refine⟨_,rfl,[.k 0],rfl,⟨_,rfl,i6 ?_⟩,tq⟩;rw[Nat.sub_self,List.replicate_zero,Z8,GI b m hml]
theorem nH {va:List Value} {b:Bs} {l:Nat} {n:Int} (ha:va=bv b) (hl:b.length=l) (h0:0<l) (hm:l<=1000000) (hn: -9223372036854775808<=n/\n<=9223372036854775807):b9 C 165 [.z l va,i64 n] [] (.ret (.o 1 (.k 0) 0 l)) [.sc (bv (M2 b (n%(8*l)).toNat))]:=by
 subst ha;subst hl;refine Tv.c ?_;refine⟨by omega,Jh _,by omega,?_⟩;refine E5 (by simp only[beq_eq_false_iff_ne,ne_eq];omega) ?_;have e8:I6.wrap (8*(b.length:Int))=((8*b.length:Nat):Int):=(by simp(disch:=omega)only[Za];omega);refine⟨[],_,_,_,_,zV (b:=(8*b.length:Nat)) (by omega) (by omega) hn,by rw[<-e8];rfl,rfl,?_⟩;obtain⟨m,hmm,hml⟩:∃m:Nat,n%(8*(b.length:Int))=m/\m<8*b.length:=by
  have h1:=Kw n (b:=8*(b.length:Int)) (by omega);have h2:=Kh n (b:=8*(b.length:Int)) (by omega);exact⟨(n%(8*(b.length:Int))).toNat,by omega,by omega⟩
 have hmm':n%((8*b.length:Nat):Int)=m:=by rw[<-hmm];rfl
 rw[hmm,hmm',Zb];refine m9 (fun i=>⟨[(0,bz b),(5,.o 1 (.k 0) 0 b.length),(6,i64 m),(7,i64 i)],[.sc (bv ((List.range i).map (pe b m)++Zk (b.length-i) 0))]⟩) b.length ⟨[.d 12 0],⟨rfl,rfl,rfl,rfl,tq⟩,⟨_,rfl,i6 (by simp[bv])⟩,tq⟩ fun i hi=> ?_;refine d9 (fun h=> ?_) (fun h=> ?_)
 ·have d8:i<b.length:=(by omega);have q8:I6.wrap ((m:Int).tdiv 8)=((m/8:Nat):Int):=by
   rw[show ((m:Int).tdiv 8)=((m/8:Nat):Int) from rfl];simp only[IntKind.wrap_i64];omega
  have ea:I6.wrap ((i:Int)+I6.wrap ((m:Int).tdiv 8))=((i+m/8:Nat):Int):=by rw[q8];simp only[IntKind.wrap_i64];omega
  have eb:I6.wrap (I6.wrap ((i:Int)+I6.wrap ((m:Int).tdiv 8))+1)=((i+m/8+1:Nat):Int):=by rw[ea];simp only[IntKind.wrap_i64];omega
  have ec:(I6.wrap ((i:Int)+I6.wrap ((m:Int).tdiv 8))).tmod (b.length:Int)=(((i+m/8)%b.length:Nat):Int):=by rw[ea];exact aq _ _
  have ed:(I6.wrap (I6.wrap ((i:Int)+I6.wrap ((m:Int).tdiv 8))+1)).tmod (b.length:Int)=(((i+m/8+1)%b.length:Nat):Int):=by rw[eb];exact aq _ _
  have h1:(i+m/8)%b.length<b.length:=Z4 _ h0;have h2:(i+m/8+1)%b.length<b.length:=Z4 _ h0;refine⟨by decide,by omega,by rw[ec];omega,by rw[ec];omega,?_⟩;refine⟨_,by rw[ec,Zb];exact p9 h1,?_⟩;refine⟨by decide,by omega,by rw[ed];omega,by rw[ed];omega,?_⟩;refine⟨_,by rw[ed,Zb];exact p9 h2,?_⟩;have e9:((m:Int).tmod 8)=((m%8:Nat):Int):=aq m 8;refine⟨by decide,by rw[e9,G3];omega,by decide,by rw[e9,G3];simp only[IntKind.wrap_i64];omega,?_⟩;refine⟨by omega,by omega,by rw[j6];simp;omega,?_⟩;refine⟨i+1,by omega,by omega,[.k 0],⟨rfl,rfl,rfl,f8 (by simp(disch:=omega)only[Za];omega),tq⟩,⟨_,rfl,i6 ?_⟩,tq⟩;rw[e9,ZR _ _ (Z4 _ (by decide)),Zb,Zm,Zl];exact Cb d8
 ·obtain rfl:i=b.length:=(by omega);refine⟨_,rfl,[.k 0],rfl,⟨_,rfl,i6 ?_⟩,tq⟩;rw[Nat.sub_self,List.replicate_zero,Z8,GI b m hml,Zb]
def nv (l:List Nat):List Value:=l.map fun(x:Nat)=>Value.int .i64 (x:Int)
abbrev nz (l:List Nat):V:= .z l.length (nv l)
theorem L6 (l:List Nat):(nv l).length=l.length:=by simp[nv]
theorem Y6 {k:List Nat} {i:Nat} (h:i<k.length):(nv k)[i]? =some (.int .i64 ((k.getD i 0:Nat):Int)):=by
 simp[nv,h,Zd]
theorem bd (l:List Nat) (i n:Nat):sub (nv l) i n=nv (sub l i n):=by simp[nv,sub,Kj,Kk]
theorem gf (a b:List Nat):nv a++nv b=nv (a++b):=by simp[nv]
theorem H7 {l:List Nat} {n:Nat} (h:l.length=n):sub (nv l) 0 n=nv l:=C3 (by rw[L6,h])
theorem jI {l:List Nat} {n x:Nat} (h:l.length=n):sub (nv l) 0 n++[Value.int .i64 (x:Int)]=nv (l++[x]):=by
 rw[H7 h];simp[nv]
def D0 (a:Nat):Nat:=if a=0 then 65536 else a
def K8 (a b:Nat):Nat:=D0 a*D0 b%65537%65536
def az (a b:Nat):Nat:=(a+b)%65536
def O2 (a:Nat):Nat:=(65536-a)%65536
theorem K9 (a b):K8 a b<65536:=Z4 _ (by decide)
theorem dt (a b):az a b<65536:=Z4 _ (by decide)
theorem Xq (a):O2 a<65536:=Z4 _ (by decide)
theorem EM {a} (h:a<65536):D0 a<=65536:=by unfold D0;split<;>omega
abbrev IS:=Nat×Nat×Nat
def T8 (x:IS):IS:=(if x.2.2%2=1 then K8 x.1 x.2.1 else x.1,K8 x.2.1 x.2.1,x.2.2/2)
def H5 (a:Nat):Nat:=(it T8 16 (1,a,65535)).1
theorem re {a:Nat} (ha:a<65536) (k:Nat):(it T8 k (1,a,65535)).1<65536/\(it T8 k (1,a,65535)).2.1<65536/\(it T8 k (1,a,65535)).2.2=65535/2^k:=by
 induction k with
 |zero=>exact⟨by show 1<65536;decide,ha,by show 65535=65535/2^0;decide⟩
 |succ k ih=>
  obtain⟨h1,h2,h3⟩:=ih;refine⟨?_,K9 _ _,?_⟩
  ·show(if _ then _ else _)<65536;split
   ·exact K9 _ _
   ·exact h1
  ·show(it T8 k (1,a,65535)).2.2/2=_;rw[h3,Kr,Nat.pow_succ]
theorem ri {a:Nat} (ha:a<65536):H5 a<65536:=(re ha 16).1
theorem rJ {x y:Nat} (hx:x<=65536) (hy:y<=65536):((I6.wrap ((x:Int)*(y:Int))).tmod 65537).tmod 65536=((x*y%65537%65536:Nat):Int):=by
 have h:x*y<=65536*65536:=Nat.mul_le_mul hx hy;rw[show (x:Int)*(y:Int)=((x*y:Nat):Int) from rfl,dP _ (by omega)];rfl
theorem jm {a b:Nat} {x y:Int} (hx:x=a) (hy:y=b) (ha:a<65536) (hb:b<65536):b9 C 192 [i64 x,i64 y] [] (.ret (i64 (K8 a b))) []:=by
 subst hx;subst hy;refine Rx.c ?_;refine i7 (fun h=> ?_) (fun h=> ?_)
 ·refine i7 (fun h'=> ?_) (fun h'=> ?_)
  ·refine⟨by decide,by decide,_,rfl,[],f8 ?_,tq⟩;obtain rfl:a=0:=(by omega);obtain rfl:b=0:=(by omega);rfl
  ·refine⟨by decide,by decide,_,rfl,[],f8 ?_,tq⟩;obtain rfl:a=0:=(by omega);have e:K8 0 b=65536*b%65537%65536:=by unfold K8 D0;rw[if_pos rfl,if_neg (by omega)]
   rw[e];exact rJ (x:=65536) (y:=b) (by decide) (by omega)
 ·refine i7 (fun h'=> ?_) (fun h'=> ?_)
  ·refine⟨by decide,by decide,_,rfl,[],f8 ?_,tq⟩;obtain rfl:b=0:=(by omega);have e:K8 a 0=a*65536%65537%65536:=by unfold K8 D0;rw[if_neg (by omega),if_pos rfl]
   rw[e];exact rJ (x:=a) (y:=65536) (by omega) (by decide)
  ·refine⟨by decide,by decide,_,rfl,[],f8 ?_,tq⟩;have e:K8 a b=a*b%65537%65536:=by unfold K8 D0;rw[if_neg (by omega),if_neg (by omega)]
   rw[e];exact rJ (x:=a) (y:=b) (by omega) (by omega)
theorem pP {a b:Nat} {x y:Int} (hx:x=a) (hy:y=b) (ha:a<65536) (hb:b<65536):b9 C 193 [i64 x,i64 y] [] (.ret (i64 (az a b))) []:=by
 subst hx;subst hy;refine Rz.c ?_;refine⟨by decide,_,rfl,[],f8 ?_,tq⟩;rw[show (a:Int)+(b:Int)=((a+b:Nat):Int) from rfl,dP _ (by omega)];rfl
theorem zM {a:Nat} {x:Int} (hx:x=a) (ha:a<65536):b9 C 190 [i64 x] [] (.ret (i64 (O2 a))) []:=by
 subst hx;refine RX.c ?_;refine⟨by decide,_,rfl,[],f8 ?_,tq⟩;rw[show (65536:Int)-(a:Int)=((65536-a:Nat):Int) by omega,dP _ (by omega)];rfl
theorem kI {a:Nat} {x:Int} (hx:x=a) (ha:a<65536):b9 C 191 [i64 x] [] (.ret (i64 (H5 a))) []:=by
 subst hx;refine Rv.c ?_;refine ss 0 rfl T8 (1,a,65535) 16 (fun i z=>⟨[(0,i64 z.2.1),(3,i64 z.1),(4,i64 z.2.2)],[]⟩) ⟨[],(0,(1,a,65535)),⟨Z6 _,rfl⟩,[],⟨rfl,rfl,rfl,tq⟩,tq⟩ fun i z hi hz=> ?_;obtain⟨b1,b2,b3⟩:=re ha i;rw[<-hz]at b1 b2 b3;refine d9 (fun h=> ?_) (fun h=> ?_)
 ·have hi16:i<16:=by
   rcases Jg i 16 with h8|h8
   ·exact h8
   ·obtain rfl:i=16:=(by omega);rw[b3]at h;exact absurd h (by decide)
  have hle:z.2.2<=65535:=by rw[b3];exact Jo _ _
  have e1:((z.2.2:Nat):Int).tmod 2=((z.2.2%2:Nat):Int):=aq _ 2;have e2:I6.wrap (((z.2.2:Nat):Int).tdiv 2)=((z.2.2/2:Nat):Int):=by
   rw[show ((z.2.2:Nat):Int).tdiv 2=((z.2.2/2:Nat):Int) from rfl,dP _ (by omega)]
  refine⟨by decide,?_⟩;refine d9 (fun hb=> ?_) (fun hb=> ?_)
  ·rw[e1]at hb;refine⟨[],_,_,_,_,jm rfl rfl b1 b2,rfl,rfl,?_⟩;refine⟨[],_,_,_,_,jm rfl rfl b2 b2,rfl,rfl,?_⟩;refine⟨by decide,?_⟩;refine⟨rfl,(i+1,T8 z),⟨hi16,bQ hz⟩,by omega,[],⟨rfl,?_,f8 e2,tq⟩,tq⟩;show i64 _=i64 ((if _ then _ else _:Nat):Int);rw[if_pos (by omega)]
  ·rw[e1]at hb;refine⟨[],_,_,_,_,jm rfl rfl b2 b2,rfl,rfl,?_⟩;refine⟨by decide,?_⟩;refine⟨rfl,(i+1,T8 z),⟨hi16,bQ hz⟩,by omega,[],⟨rfl,?_,f8 e2,tq⟩,tq⟩;show i64 _=i64 ((if _ then _ else _:Nat):Int);rw[if_neg (by omega)]
 ·have hi16:i=16:=by
   rcases Jg i 16 with h8|h8
   ·have:2^i<=2^15:=Z5 (by decide) (by omega);have hp:0<2^i:=K1 (by decide);have:1<=65535/2^i:=(Jq hp).2 (by omega);omega
   ·omega
  subst hi16;refine⟨_,rfl,[],?_,tq⟩;show i64 z.1=i64 _;rw[hz];rfl
def bw (b:Bs) (i:Nat):Nat:=(b.getD (2*i) 0).toNat*256+(b.getD (2*i+1) 0).toNat
def W7 (b:Bs) (k:Nat):List Nat:=(List.range k).map (bw b)
theorem ga (b k):(W7 b k).length=k:=by simp[W7]
theorem CQ (b k):W7 b (k+1)=W7 b k++[bw b k]:=by simp[W7,Zz]
theorem cr (b i):bw b i<65536:=by
 unfold bw;have h1:=Ji (b.getD (2*i) 0);have h2:=Ji (b.getD (2*i+1) 0);omega
theorem xY (x y:UInt8):I6.wrap ((Zc I6.bits (I6.wrap (I6.wrap (x.toNat:Int)*2^(min (8:Int).toNat I6.bits)))|||Zc I6.bits (I6.wrap (y.toNat:Int))).toNat:Int)=((x.toNat*256+y.toNat:Nat):Int):=by
 have hx:=x.toNat_lt;have hy:=y.toNat_lt;have e3:I6.wrap ((x.toNat:Int)*2^(min (8:Int).toNat I6.bits))=((x.toNat*256:Nat):Int):=by
  show I6.wrap ((x.toNat:Int)*2^8)=_;simp only[IntKind.wrap_i64];omega
 rw[fw,fw,e3,Wp 16 (by decide) (by omega) (by omega),rU (i:=8) x.toNat hy]
theorem uu {n k:Nat} {va:List Value} {b:Bs} (ha:va=bv b) (hn:b.length=n) (h2:n=2*k) (h0:0<k) (hm:n<=1000000):b9 C 133 [.z n va] [] (.ret (.o 1 (.k 0) 0 k)) [.sc (nv (W7 b k))]:=by
 subst ha;subst h2;refine RU.c ?_;refine E9 (fun i=>⟨[(0,.z (2*k) (bv b)),(3,.o 1 (.k 0) 0 i),(4,i64 (2*i:Nat))],[.sc (nv (W7 b i))]⟩) k [(3,1,.sc [])] ⟨[.d 900000 0],⟨rfl,rfl,rfl,tq⟩,⟨_,rfl,rfl⟩,tq⟩ fun i hi=> ?_;refine d9 (fun h=> ?_) (fun h=> ?_)
 ·have d8:i<k:=by simp only[IntKind.wrap_i64]at h;omega
  have e1:(I6.wrap (((2*i:Nat):Int)+1)).toNat=2*i+1:=(by simp(disch:=omega)only[Za];omega);refine⟨by omega,by omega,?_⟩;refine⟨_,by rw[Zb];exact p9 (i:=2*i) (by omega),?_⟩;refine⟨by decide,by omega,by omega,?_⟩;refine⟨_,by rw[e1];exact p9 (i:=2*i+1) (by omega),?_⟩;refine⟨Zp _,by omega,by rw[L6,ga];omega,?_⟩;refine⟨i+1,by omega,by omega,[.d 27 0],⟨rfl,rfl,f8 (by simp(disch:=omega)only[Za];omega),tq⟩,⟨_,rfl,i6 ?_⟩,tq⟩;rw[xY,CQ];exact jI (by rw[ga];omega)
 ·obtain rfl:i=k:=by simp only[IntKind.wrap_i64]at h;omega
  exact⟨_,rfl,[.k 0],rfl,⟨_,rfl,rfl⟩,tq⟩
theorem um {n:Nat} {va:List Value} (hv:va.length=n) (h0:0<n) (hm:n<=1073741824):b9 C 184 [.z n va] [] (.ret (.o 1 (.k 0) 0 n)) [.sc va]:=by
 refine Vc.c ?_;refine .inl ⟨h0,by omega,by omega,by omega,?_⟩;refine⟨_,rfl,[.d 7 0],?_,⟨_,rfl,rfl⟩,tq⟩;show V.o 1 (.k 0) 0 (0+n)=_;rw[Zl]
def dJ (key:Bs) (j:Nat):List Nat:=((List.range j).map fun i=>W7 (M2 key (25*i%128)) 8).flatten
theorem rq (key j):dJ key (j+1)=dJ key j++W7 (M2 key (25*j%128)) 8:=by simp[dJ,Zz]
theorem ig (key):∀j,(dJ key j).length=8*j
 |0=>rfl
 |j+1=>by rw[rq,Ze,ig key j,ga];omega
def W5 (key:Bs):List Nat:=(dJ key 7).take 52
theorem fY (key):(W5 key).length=52:=by simp[W5,ig]
theorem LO {va:List Value} {key:Bs} (ha:va=bv key) (hk:key.length=16):b9 C 130 [.z 16 va] [] (.ret (.t [.o 1 (.k 0) 0 52,i64 0])) [.sc (nv (W5 key))]:=by
 subst ha;refine Rw.c ?_;refine E9 (fun i=>⟨[(0,.z 16 (bv key)),(4,.o 1 (.k 0) 0 (8*i)),(5,i64 (25*i:Nat))],[.sc (nv (dJ key i))]⟩) 7 [(4,1,.sc [])] ⟨[.d 900000 0],⟨rfl,rfl,rfl,tq⟩,⟨_,rfl,rfl⟩,tq⟩ fun i hi=> ?_;refine d9 (fun h=> ?_) (fun h=> ?_)
 ·have d8:i<7:=(by omega);refine⟨[],_,_,_,_,qg (b:=key) (n:=(25*i:Nat)) rfl hk (by decide) (by decide) (by omega),rfl,rfl,?_⟩;refine⟨[],_,_,_,_,uu (b:=M2 key (25*i%128)) (k:=8) ?_ (by rw[I7,hk]) rfl (by decide) (by decide),rfl,rfl,?_⟩
  ·show sub (bv (M2 key _)) 0 16=_;rw[g8 (by rw[I7,hk])];congr 2
  refine⟨by rw[L6,ga];decide,by omega,by rw[L6,ig];omega,?_⟩;refine⟨i+1,by omega,by omega,[.d 19 0],⟨rfl,rfl,f8 (by simp(disch:=omega)only[Za];omega),tq⟩,⟨_,rfl,i6 ?_⟩,tq⟩;rw[Zm,H7 (ig key i),H7 (ga _ _),gf,rq]
 ·obtain rfl:i=7:=(by omega);refine⟨by decide,by decide,by decide,by decide,?_⟩;refine⟨[],_,_,_,_,um (n:=52) (va:=nv (W5 key)) (by rw[L6,fY]) (by decide) (by decide),?_,rfl,?_⟩
  ·show[V.z 52 (sub (nv (dJ key 7)) 0 52)]=_;rw[bd];rfl
  exact⟨_,rfl,[.d 22 0],rfl,⟨_,rfl,rfl⟩,tq⟩
def X5 (k:List Nat) (i:Nat):List Nat:=
 (if 0<i/\i<8 then [H5 (k.getD (6*i) 0),O2 (k.getD (6*i+2) 0),O2 (k.getD (6*i+1) 0),H5 (k.getD (6*i+3) 0)]
  else [H5 (k.getD (6*i) 0),O2 (k.getD (6*i+1) 0),O2 (k.getD (6*i+2) 0),H5 (k.getD (6*i+3) 0)])++
 (if 0<i then [k.getD (6*i-2) 0,k.getD (6*i-1) 0]else [])
def aR (k:List Nat) (j:Nat):List Nat:=((List.range j).map fun r=>X5 k (8-r)).flatten
theorem ph (k j):aR k (j+1)=aR k j++X5 k (8-j):=by simp[aR,Zz]
theorem xU (k i):(X5 k i).length=if 0<i then 6 else 4:=by
 unfold X5;by_cases h:0<i
 ·rw[if_pos h,if_pos h];split<;>rfl
 ·rw[if_neg h,if_neg h,if_neg (by omega)];rfl
theorem co (k):∀j,j<=9->(aR k j).length=if j=9 then 52 else 6*j
 |0,_=>rfl
 |j+1,h=>by
  rw[ph,Ze,co k j (by omega),xU,if_neg (by omega)];by_cases h8:j=8
  ·subst h8;rfl
  ·rw[if_pos (by omega),if_neg (by omega)];omega
def B4 (k:List Nat):List Nat:=aR k 9
theorem sL (k):(B4 k).length=52:=co k 9 (by decide)
theorem iQ {k:List Nat} {a j:Nat} (hj:j<4) (h:a+4<=k.length):(sub (nv k) a 4)[j]? =some (.int .i64 ((k.getD (a+j) 0:Nat):Int)):=by
 rw[bd];have hl:(sub k a 4).length=4:=by rw[m5];omega
 have eg:(sub k a 4).getD j 0=k.getD (a+j) 0:=by
  simp only[sub,Zd,J0,hj,if_true,J1]
 rw[Y6 (by omega),eg]
theorem sC {k:List Nat} {a:Nat} (h:a+2<=k.length):sub (nv k) a 2=nv [k.getD a 0,k.getD (a+1) 0]:=by
 rw[bd];congr 1;apply Z3;intro j;rcases j with _|_|j
 ·simp only[sub,Zd];rw[J0,if_pos (by decide),J1];simp[Zf (show a<k.length by omega)]
 ·simp only[sub,Zd];rw[J0,if_pos (by decide),J1];simp[Zf (show a+1<k.length by omega)]
 ·simp[sub];omega
theorem OS {n:Nat} {va:List Value} {k:List Nat} (ha:va=nv k) (hl:k.length=52) (hn:n=52) (hk:∀i,k.getD i 0<65536):b9 C 131 [.z n va] [] (.ret (.o 1 (.k 0) 0 52)) [.sc (nv (B4 k))]:=by
 subst ha;subst hn;refine RZ.c ?_;refine E9 (fun j=>⟨[(0,.z 52 (nv k)),(3,.o 1 (.k 0) 0 (if j=9 then 52 else 6*j)),(4,i64 (8-j))],[.sc (nv (aR k j))]⟩) 9 [(3,1,.sc [])] ⟨[.d 900000 0],⟨rfl,rfl,rfl,tq⟩,⟨_,rfl,rfl⟩,tq⟩ fun j hj=> ?_;refine d9 (fun h=> ?_) (fun h=> ?_)
 ·obtain⟨i,ei,hi8,hj8⟩:∃i:Nat,(8:Int)-j=i/\i<=8/\j=8-i:=⟨8-j,by omega,by omega,by omega⟩;rw[ei,if_neg (show ¬j=9 by omega)];have e1:(I6.wrap (6*(i:Int))).toNat=6*i:=(by simp(disch:=omega)only[Za];omega);have e2:(I6.wrap (I6.wrap (6*(i:Int))+4)).toNat=6*i+4:=(by simp(disch:=omega)only[Za];omega);refine⟨by omega,(by simp(disch:=omega)only[Za];omega),by rw[e1,e2];omega,by rw[e2];omega,by rw[e2];omega,?_⟩;rw[e1,e2,show 6*i+4-6*i=4 by omega];refine⟨by decide,by decide,?_⟩;refine⟨_,iQ (j:=1) (by decide) (by omega),?_⟩;refine⟨[],_,_,_,_,zM rfl (hk _),rfl,rfl,?_⟩;refine⟨by decide,by decide,?_⟩;refine⟨_,iQ (j:=2) (by decide) (by omega),?_⟩;refine⟨[],_,_,_,_,zM rfl (hk _),rfl,rfl,?_⟩;by_cases h0:0<i
  ·refine fp (decide_eq_true (by omega)) ?_;by_cases h8:i<8
   ·refine fp (decide_eq_true (by omega)) ?_;refine⟨by decide,by decide,?_⟩;refine⟨_,iQ (j:=0) (by decide) (by omega),?_⟩;refine⟨[],_,_,_,_,kI rfl (hk _),rfl,rfl,?_⟩;refine⟨by decide,by decide,?_⟩;refine⟨_,iQ (j:=3) (by decide) (by omega),?_⟩;refine⟨[],_,_,_,_,kI rfl (hk _),rfl,rfl,?_⟩;refine⟨Zp _,by omega,by rw[L6,co _ _ (by omega),if_neg (by omega)];omega,?_⟩;refine fp (decide_eq_true (by omega)) ?_;have e3:(I6.wrap (I6.wrap (6*(i:Int))-2)).toNat=6*i-2:=(by simp(disch:=omega)only[Za];omega);refine⟨by omega,by omega,by rw[e3,e1];omega,by rw[e1];omega,by rw[e1];omega,?_⟩;rw[e3,e1,show 6*i-(6*i-2)=2 by omega];refine⟨by rw[sC (by omega)];rfl,by omega,?_,?_⟩
    ·simp only[Ze,m5,L6,Zs,Zw,co _ _ (show j<=9 by omega),if_neg (show ¬j=9 by omega)];omega
    refine⟨j+1,by omega,by omega,[.d 58 0],⟨rfl,?_,f8 (by simp(disch:=omega)only[Za];omega),tq⟩,⟨_,rfl,i6 ?_⟩,tq⟩
    ·show V.o 1 (.k 0) 0 (6*j+4+2)=V.o 1 (.k 0) 0 _;rw[if_neg (by omega)];rfl
    ·rw[sC (by omega),show 6*i-2+1=6*i-1 by omega,ph,<-show i=8-j by omega];have eL:sub (nv (aR k j)) 0 (6*j*1)=nv (aR k j):=H7 (by rw[co _ _ (by omega),if_neg (by omega)];omega);rw[eL];have eq:X5 k i=[H5 (k.getD (6*i) 0),O2 (k.getD (6*i+2) 0),O2 (k.getD (6*i+1) 0),H5 (k.getD (6*i+3) 0)]++[k.getD (6*i-2) 0,k.getD (6*i-1) 0]:=by unfold X5;rw[if_pos (show 0<i by omega),if_pos (by omega)]
     rw[eq];show sub (nv (aR k j)++nv [H5 (k.getD (6*i) 0),O2 (k.getD (6*i+2) 0),O2 (k.getD (6*i+1) 0),H5 (k.getD (6*i+3) 0)]) 0 ((6*j+4)*1)++sub (nv [k.getD (6*i-2) 0,k.getD (6*i-1) 0]) 0 2=_;rw[gf,H7 (by rw[Ze,co _ _ (by omega),if_neg (by omega)];simp),show sub (nv [k.getD (6*i-2) 0,k.getD (6*i-1) 0]) 0 2=nv [k.getD (6*i-2) 0,k.getD (6*i-1) 0] from rfl,gf,Jf]
   ·refine E5 (decide_eq_false (by omega)) ?_;refine⟨by decide,by decide,?_⟩;refine⟨_,iQ (j:=0) (by decide) (by omega),?_⟩;refine⟨[],_,_,_,_,kI rfl (hk _),rfl,rfl,?_⟩;refine⟨by decide,by decide,?_⟩;refine⟨_,iQ (j:=3) (by decide) (by omega),?_⟩;refine⟨[],_,_,_,_,kI rfl (hk _),rfl,rfl,?_⟩;refine⟨Zp _,by omega,by rw[L6,co _ _ (by omega),if_neg (by omega)];omega,?_⟩;refine fp (decide_eq_true (by omega)) ?_;have e3:(I6.wrap (I6.wrap (6*(i:Int))-2)).toNat=6*i-2:=(by simp(disch:=omega)only[Za];omega);refine⟨by omega,by omega,by rw[e3,e1];omega,by rw[e1];omega,by rw[e1];omega,?_⟩;rw[e3,e1,show 6*i-(6*i-2)=2 by omega];refine⟨by rw[sC (by omega)];rfl,by omega,?_,?_⟩
    ·simp only[Ze,m5,L6,Zs,Zw,co _ _ (show j<=9 by omega),if_neg (show ¬j=9 by omega)];omega
    refine⟨j+1,by omega,by omega,[.d 58 0],⟨rfl,?_,f8 (by simp(disch:=omega)only[Za];omega),tq⟩,⟨_,rfl,i6 ?_⟩,tq⟩
    ·show V.o 1 (.k 0) 0 (6*j+4+2)=V.o 1 (.k 0) 0 _;rw[if_neg (by omega)];rfl
    ·rw[sC (by omega),show 6*i-2+1=6*i-1 by omega,ph,<-show i=8-j by omega];have eL:sub (nv (aR k j)) 0 (6*j*1)=nv (aR k j):=H7 (by rw[co _ _ (by omega),if_neg (by omega)];omega);rw[eL];have eq:X5 k i=[H5 (k.getD (6*i) 0),O2 (k.getD (6*i+1) 0),O2 (k.getD (6*i+2) 0),H5 (k.getD (6*i+3) 0)]++[k.getD (6*i-2) 0,k.getD (6*i-1) 0]:=by unfold X5;rw[if_pos (show 0<i by omega),if_neg (by omega)]
     rw[eq];show sub (nv (aR k j)++nv [H5 (k.getD (6*i) 0),O2 (k.getD (6*i+1) 0),O2 (k.getD (6*i+2) 0),H5 (k.getD (6*i+3) 0)]) 0 ((6*j+4)*1)++sub (nv [k.getD (6*i-2) 0,k.getD (6*i-1) 0]) 0 2=_;rw[gf,H7 (by rw[Ze,co _ _ (by omega),if_neg (by omega)];simp),show sub (nv [k.getD (6*i-2) 0,k.getD (6*i-1) 0]) 0 2=nv [k.getD (6*i-2) 0,k.getD (6*i-1) 0] from rfl,gf,Jf]
  ·refine E5 (decide_eq_false (by omega)) ?_;refine⟨by decide,by decide,?_⟩;refine⟨_,iQ (j:=0) (by decide) (by omega),?_⟩;refine⟨[],_,_,_,_,kI rfl (hk _),rfl,rfl,?_⟩;refine⟨by decide,by decide,?_⟩;refine⟨_,iQ (j:=3) (by decide) (by omega),?_⟩;refine⟨[],_,_,_,_,kI rfl (hk _),rfl,rfl,?_⟩;refine⟨Zp _,by omega,by rw[L6,co _ _ (by omega),if_neg (by omega)];omega,?_⟩;refine E5 (decide_eq_false (by omega)) ?_;refine⟨j+1,by omega,by omega,[.d 47 0],⟨rfl,?_,f8 (by simp(disch:=omega)only[Za];omega),tq⟩,⟨_,rfl,i6 ?_⟩,tq⟩
   ·show V.o 1 (.k 0) 0 (6*j+4)=V.o 1 (.k 0) 0 _;rw[if_pos (by omega)];congr 1;omega
   ·rw[ph,<-show i=8-j by omega];have eq:X5 k i=[H5 (k.getD (6*i) 0),O2 (k.getD (6*i+1) 0),O2 (k.getD (6*i+2) 0),H5 (k.getD (6*i+3) 0)]:=by unfold X5;rw[if_neg (show ¬0<i by omega),if_neg (by omega),Z8]
    rw[eq];show sub (nv (aR k j)) 0 (6*j*1)++nv [H5 (k.getD (6*i) 0),O2 (k.getD (6*i+1) 0),O2 (k.getD (6*i+2) 0),H5 (k.getD (6*i+3) 0)]=_;rw[H7 (by rw[co _ _ (by omega),if_neg (by omega)];omega),gf]
 ·obtain rfl:j=9:=(by omega);exact⟨_,rfl,[.k 0],rfl,⟨_,rfl,rfl⟩,tq⟩
abbrev Q4:=Nat×Nat×Nat×Nat
def L0 (x:Q4):Prop:=x.1<65536/\x.2.1<65536/\x.2.2.1<65536/\x.2.2.2<65536
def eZ (k:List Nat) (o:Nat) (a c d e:Nat):Nat:=K8 (a^^^d) (k.getD (o+4) 0)
def ap (k:List Nat) (o:Nat) (a c d e:Nat):Nat:=K8 (az (c^^^e) (eZ k o a c d e)) (k.getD (o+5) 0)
def aF (k:List Nat) (o:Nat) (a c d e:Nat):Nat:=az (eZ k o a c d e) (ap k o a c d e)
def z7 (k:List Nat) (o:Nat) (x:Q4):Q4:=(K8 x.1 (k.getD o 0),az x.2.1 (k.getD (o+1) 0),az x.2.2.1 (k.getD (o+2) 0),K8 x.2.2.2 (k.getD (o+3) 0))
def bc (k:List Nat) (o:Nat) (x:Q4):Q4:=
 (x.1^^^ap k o x.1 x.2.1 x.2.2.1 x.2.2.2,x.2.2.1^^^ap k o x.1 x.2.1 x.2.2.1 x.2.2.2,x.2.1^^^aF k o x.1 x.2.1 x.2.2.1 x.2.2.2,x.2.2.2^^^aF k o x.1 x.2.1 x.2.2.1 x.2.2.2)
def mK (k:List Nat) (x:Q4) (r:Nat):Q4:=bc k (6*r) (z7 k (6*r) x)
def L9 (k:List Nat) (x:Q4) (n:Nat):Q4:=(List.range n).foldl (mK k) x
theorem cV (k x n):L9 k x (n+1)=mK k (L9 k x n) n:=by simp[L9,Zz]
def I4 (x:Q4):Q4:=(x.1,x.2.2.1,x.2.1,x.2.2.2)
def L3 (k:List Nat) (x:Q4):Q4:=z7 k 48 (I4 (L9 k x 8))
theorem ax {a b:Nat} (ha:a<65536) (hb:b<65536):a^^^b<65536:=Jj (n:=16) ha hb
theorem fZ (k o x):L0 (z7 k o x):=⟨K9 _ _,dt _ _,dt _ _,K9 _ _⟩
theorem De (k o) {x:Q4} (h:L0 x):L0 (bc k o x):=⟨ax h.1 (K9 _ _),ax h.2.2.1 (K9 _ _),ax h.2.1 (dt _ _),ax h.2.2.2 (dt _ _)⟩
theorem sn (k) {x:Q4} (h:L0 x):∀n,L0 (L9 k x n)
 |0=>h
 |n+1=>by rw[cV];exact De _ _ (fZ _ _ _)
theorem O0 {k:List Nat} {a j:Nat} (h:a+j<k.length):(nv (k.drop a))[j]? =some (.int .i64 ((k.getD (a+j) 0:Nat):Int)):=by
 simp[nv,Zd,h]
theorem zO {n:Nat} {va vb:List Value} {k:List Nat} {x:Q4} (ha:va=nv [x.1,x.2.1,x.2.2.1,x.2.2.2]) (hb:vb=nv k) (hl:k.length=52) (hn:n=52) (hk:∀i,k.getD i 0<65536) (hx:L0 x):
  b9 C 132 [.z 4 va,.z n vb] [] (.ret (.o 1 (.k 0) 0 4)) [.sc (nv [(L3 k x).1,(L3 k x).2.1,(L3 k x).2.2.1,(L3 k x).2.2.2])]:=by
 subst ha;subst hb;subst hn;refine RY.c ?_;refine bn 0 rfl 9 (fun r=>⟨[(1,.z (52-6*r) (nv (k.drop (6*r)))),(5,i64 ((if r=8 then I4 (L9 k x r)else L9 k x r)).1),(6,i64 ((if r=8 then I4 (L9 k x r)else L9 k x r)).2.1),(7,i64 ((if r=8 then I4 (L9 k x r)else L9 k x r)).2.2.1),(8,i64 ((if r=8 then I4 (L9 k x r)else L9 k x r)).2.2.2)],[]⟩) ?_ fun r hr=> ?_
 ·refine⟨by decide,by decide,_,rfl,by decide,by decide,_,rfl,by decide,by decide,_,rfl,by decide,by decide,_,rfl,?_⟩;exact⟨[],0,by decide,[],⟨rfl,rfl,rfl,rfl,rfl,tq⟩,tq⟩
 ·generalize hs:(if r=8 then I4 (L9 k x r)else L9 k x r)=s;have hso:L0 s:=by
   rw[<-hs];split
   ·obtain⟨a,b,c,d⟩:=sn k hx r;exact⟨a,c,b,d⟩
   ·exact sn k hx r
  obtain⟨o1,o2,o3,o4⟩:=hso;refine⟨by decide,by omega,?_⟩;refine⟨_,O0 (j:=0) (by omega),?_⟩;refine⟨[],_,_,_,_,jm rfl rfl o1 (hk _),rfl,rfl,?_⟩;refine⟨by decide,by omega,?_⟩;refine⟨_,O0 (j:=1) (by omega),?_⟩;refine⟨[],_,_,_,_,pP rfl rfl o2 (hk _),rfl,rfl,?_⟩;refine⟨by decide,by omega,?_⟩;refine⟨_,O0 (j:=2) (by omega),?_⟩;refine⟨[],_,_,_,_,pP rfl rfl o3 (hk _),rfl,rfl,?_⟩;refine⟨by decide,by omega,?_⟩;refine⟨_,O0 (j:=3) (by omega),?_⟩;refine⟨[],_,_,_,_,jm rfl rfl o4 (hk _),rfl,rfl,?_⟩;obtain⟨p1,p2,p3,p4⟩:=fZ k (6*r) s;have hF:=K9 ((z7 k (6*r) s).1^^^(z7 k (6*r) s).2.2.1) (k.getD (6*r+4) 0);refine d9 (fun h=> ?_) (fun h=> ?_)
  ·have hr8:r<8:=(by omega);refine⟨by decide,by omega,?_⟩;refine⟨_,O0 (j:=4) (by omega),?_⟩;refine⟨[],_,_,_,_,jm (a:=(z7 k (6*r) s).1^^^(z7 k (6*r) s).2.2.1) (P6 16 (by decide) p1 p3) rfl (ax p1 p3) (hk _),rfl,rfl,?_⟩;refine⟨[],_,_,_,_,pP (a:=(z7 k (6*r) s).2.1^^^(z7 k (6*r) s).2.2.2) (P6 16 (by decide) p2 p4) rfl (ax p2 p4) hF,rfl,rfl,?_⟩;refine⟨by decide,by omega,?_⟩;refine⟨_,O0 (j:=5) (by omega),?_⟩;refine⟨[],_,_,_,_,jm rfl rfl (dt _ _) (hk _),rfl,rfl,?_⟩;refine⟨[],_,_,_,_,pP rfl rfl hF (K9 _ _),rfl,rfl,?_⟩;refine⟨by decide,?_⟩;have hg:=K9 (az ((z7 k (6*r) s).2.1^^^(z7 k (6*r) s).2.2.2) (K8 ((z7 k (6*r) s).1^^^(z7 k (6*r) s).2.2.1) (k.getD (6*r+4) 0))) (k.getD (6*r+5) 0);have hh:=dt (K8 ((z7 k (6*r) s).1^^^(z7 k (6*r) s).2.2.1) (k.getD (6*r+4) 0)) (K8 (az ((z7 k (6*r) s).2.1^^^(z7 k (6*r) s).2.2.2) (K8 ((z7 k (6*r) s).1^^^(z7 k (6*r) s).2.2.1) (k.getD (6*r+4) 0))) (k.getD (6*r+5) 0));have hst:s=L9 k x r:=by rw[<-hs,if_neg (by omega)]
   have x1:=P6 16 (by decide) p1 hg;have x2:=P6 16 (by decide) p3 hg;have x3:=P6 16 (by decide) p2 hh;have x4:=P6 16 (by decide) p4 hh;have e6:(6:Int).toNat=6:=rfl;refine⟨by show 6<=52-6*r;omega,Zp _,Zp _,?_⟩;refine i7 (fun h4=> ?_) (fun h4=> ?_)
   ·have h4':52-6*r-6=4:=Int.ofNat.inj h4;refine⟨rfl,r+1,by omega,by omega,[],⟨?_,f8 ?_,f8 ?_,f8 ?_,f8 ?_,tq⟩,tq⟩
    ·show V.z (52-6*r-6) (sub _ 6 (52-6*r-6))=_;rw[bd,V3,M9 _ _ _ (by omega),show 52-6*r-6=52-6*(r+1) by omega,show 6*r+6=6*(r+1) by omega]
    ·rw[if_pos (by omega),cV,<-hst];exact x1
    ·rw[if_pos (by omega),cV,<-hst];exact x3
    ·rw[if_pos (by omega),cV,<-hst];exact x2
    ·rw[if_pos (by omega),cV,<-hst];exact x4
   ·have h4':52-6*r-6≠4:=fun e=>h4 (congrArg Int.ofNat e);refine⟨rfl,r+1,by omega,by omega,[],⟨?_,f8 ?_,f8 ?_,f8 ?_,f8 ?_,tq⟩,tq⟩
    ·show V.z (52-6*r-6) (sub _ 6 (52-6*r-6))=_;rw[bd,V3,M9 _ _ _ (by omega),show 52-6*r-6=52-6*(r+1) by omega,show 6*r+6=6*(r+1) by omega]
    ·rw[if_neg (by omega),cV,<-hst];exact x1
    ·rw[if_neg (by omega),cV,<-hst];exact x2
    ·rw[if_neg (by omega),cV,<-hst];exact x3
    ·rw[if_neg (by omega),cV,<-hst];exact x4
  ·obtain rfl:r=8:=(by omega);have hst:s=I4 (L9 k x 8):=by rw[<-hs,if_pos rfl]
   refine⟨_,rfl,[.d 88 0],rfl,⟨_,rfl,i6 ?_⟩,tq⟩;show nv [(z7 k 48 s).1,(z7 k 48 s).2.1,(z7 k 48 s).2.2.1,(z7 k 48 s).2.2.2]=_;rw[hst];rfl
abbrev vR (k:List Nat):V:= .q [nz k,nz (B4 k)] 0
def W9 (k:List Nat):Prop:=∀i,k.getD i 0<65536
theorem WY (b k):W9 (W7 b k):=by
 intro i;rw[Zd];unfold W7;rw[Je];cases h:(List.range k)[i]? with
 |none=>simp
 |some j=>exact cr b j
theorem wF (l:List Nat):W9 l↔∀x∈l,x<65536:=by
 constructor
 ·intro h x hx;obtain⟨i,hi,rfl⟩:=List.getElem_of_mem hx;have:=h i
  rwa [Zd,Zf hi]at this
 ·intro h i;rw[Zd];rcases Jg i l.length with hi|hi
  ·rw[Zf hi];exact h _ (Kn hi)
  ·rw[Zg hi];decide
theorem oB (key):W9 (W5 key):=by
 rw[wF];intro x hx;have h1:=List.mem_of_mem_take hx;unfold dJ at h1;obtain⟨l,hl,hxl⟩:=List.mem_flatten.1 h1;obtain⟨j,_,rfl⟩:=List.mem_map.1 hl;exact(wF _).1 (WY _ _) x hxl
theorem a3z {k} (h:W9 k):W9 (B4 k):=by
 rw[wF];intro x hx;obtain⟨l,hl,hxl⟩:=List.mem_flatten.1 hx;obtain⟨j,_,rfl⟩:=List.mem_map.1 hl;unfold X5 at hxl;have hi:=fun i=>ri (h i);rcases Kv.1 hxl with h1|h1
 ·split at h1<;>(simp only[List.mem_cons,List.not_mem_nil,or_false]at h1;rcases h1 with rfl|rfl|rfl|rfl)<;>first|exact hi _|exact Xq _
 ·split at h1
  ·simp only[List.mem_cons,List.not_mem_nil,or_false]at h1;rcases h1 with rfl|rfl
   ·exact h _
   ·exact h _
  ·cases h1
theorem zK {va:List Value} {key:Bs} (ha:va=bv key) (hk:key.length=16):b9 C 80 [.z 16 va] [] (.ret (.t [vR (W5 key),i64 0])) []:=by
 refine Ry.c ?_;refine⟨[],_,_,_,_,LO ha hk,rfl,rfl,?_⟩;refine⟨[],_,_,_,_,OS (k:=W5 key) (n:=52) (H7 (fY key)) (fY key) rfl (oB key),rfl,rfl,?_⟩;refine⟨_,rfl,[],?_,tq⟩;show V.t [.q [.z 52 (sub _ 0 52),.z 52 (sub _ 0 52)] 0,i64 0]=V.t [.q [.z _ _,.z _ _] 0,i64 0];rw[H7 (fY key),H7 (sL _),fY,sL]
def O1 (b:Bs):Q4:=(bw b 0,bw b 1,bw b 2,bw b 3)
def bY (x:Nat):Bs:=[Zt (x/256),Zt x]
def av (x:Q4):Bs:=bY x.1++bY x.2.1++bY x.2.2.1++bY x.2.2.2
theorem sd {x:Nat} (hx:x<65536):[Value.int .u8 (U8.wrap ((x:Int).fdiv (2^(min (8:Int).toNat I6.bits)))),Value.int .u8 (U8.wrap (x:Int))]=bv (bY x):=by
 have e:(x:Int).fdiv (2^(min (8:Int).toNat I6.bits))=((x/256:Nat):Int):=by
  rw[Z1 _ (by decide)];rfl
 rw[e,Y5,Y5];rfl
theorem Yj (x):(av x).length=8:=rfl
def aJ (y:Q4) (i:Nat):Bs:=(([y.1,y.2.1,y.2.2.1,y.2.2.2]).take i).flatMap bY
theorem iH (y:Q4):∀i,i<=4->(aJ y i).length=2*i:=by
 intro i hi;rcases i with _|_|_|_|_|i;all_goals first|rfl|omega
theorem sb (y:Q4):∀i,i<4->aJ y (i+1)=aJ y i++bY (([y.1,y.2.1,y.2.2.1,y.2.2.2]).getD i 0):=by
 intro i hi;rcases i with _|_|_|_|i;all_goals first|rfl|omega
theorem LN {va:List Value} {b:Bs} {k:List Nat} {back:Bool} (ha:va=bv b) (hb:b.length=8) (hl:k.length=52) (hk:W9 k):b9 C 81 [vR k,.z 8 va,bool back] [] (C6 8) [.sc (bv (av (L3 (if back then B4 k else k) (O1 b))))]:=by
 refine Bu.c ?_;refine⟨_,rfl,?_⟩;have hq:L0 (O1 b):=⟨cr _ _,cr _ _,cr _ _,cr _ _⟩;have hz0:nz k= .z 52 (nv k):=by rw[<-hl]
 have hz1:nz (B4 k)= .z 52 (nv (B4 k)):=by rw[<-sL k]
 cases back
 ·refine⟨by decide,by decide,by decide,?_⟩;refine⟨[],_,_,_,_,uu (k:=4) ha hb rfl (by decide) (by decide),rfl,rfl,?_⟩;refine⟨[],_,_,_,_,zO (k:=k) (x:=O1 b) (n:=52) (va:=sub (nv (W7 b 4)) 0 4) (vb:=nv k) (H7 (ga _ _)) rfl hl rfl hk hq,?_,rfl,?_⟩
  ·show[V.z 4 (sub (nv (W7 b 4)) 0 4),nz k]=_;rw[hz0]
  generalize hy:L3 k (O1 b)=y;have yo:L0 y:=by rw[<-hy];exact fZ _ _ _
  refine m9 (fun i=>⟨[(9,.o 1 (.k 0) 0 (2*i)),(28,.z 4 (nv [y.1,y.2.1,y.2.2.1,y.2.2.2])),(29,i64 4),(30,i64 i)],[.sc (bv (aJ y i))]⟩) 4 ⟨[.d 24 0],⟨rfl,rfl,rfl,rfl,tq⟩,⟨_,rfl,rfl⟩,tq⟩ fun i hi=> ?_;refine d9 (fun h=> ?_) (fun h=> ?_)
  ·have d8:i<4:=(by omega);have hv:([y.1,y.2.1,y.2.2.1,y.2.2.2]).getD i 0<65536:=by
    obtain⟨a,b',c,d⟩:=yo;rcases i with _|_|_|_|i;all_goals first|assumption|omega
   refine⟨by omega,by omega,?_⟩;refine⟨_,by rw[Zb];exact Y6 (k:=[y.1,y.2.1,y.2.2.1,y.2.2.2]) d8,?_⟩;refine⟨by decide,Zp _,by omega,by rw[j6,iH y i (by omega)];omega,?_⟩;refine⟨i+1,by omega,by omega,[.d 41 0],⟨rfl,rfl,rfl,f8 (by simp(disch:=omega)only[Za];omega),tq⟩,⟨_,rfl,i6 ?_⟩,tq⟩;rw[Zm,g8 (iH y i (by omega)),sb y i d8,<-B7];show bv (aJ y i)++[Value.int .u8 _,Value.int .u8 _]=_;rw[sd hv]
  ·obtain rfl:i=4:=(by omega);refine⟨_,rfl,[.k 0],rfl,⟨_,rfl,i6 ?_⟩,tq⟩;show bv (aJ y 4)=bv (av (L3 k (O1 b)));rw[hy];rfl
 ·refine⟨_,rfl,?_⟩;refine⟨by decide,by decide,by decide,?_⟩;refine⟨[],_,_,_,_,uu (k:=4) ha hb rfl (by decide) (by decide),rfl,rfl,?_⟩;refine⟨[],_,_,_,_,zO (k:=B4 k) (x:=O1 b) (n:=52) (va:=sub (nv (W7 b 4)) 0 4) (vb:=nv (B4 k)) (H7 (ga _ _)) rfl (sL k) rfl (a3z hk) hq,?_,rfl,?_⟩
  ·show[V.z 4 (sub (nv (W7 b 4)) 0 4),nz (B4 k)]=_;rw[hz1]
  generalize hy:L3 (B4 k) (O1 b)=y;have yo:L0 y:=by rw[<-hy];exact fZ _ _ _
  refine m9 (fun i=>⟨[(9,.o 1 (.k 0) 0 (2*i)),(28,.z 4 (nv [y.1,y.2.1,y.2.2.1,y.2.2.2])),(29,i64 4),(30,i64 i)],[.sc (bv (aJ y i))]⟩) 4 ⟨[.d 24 0],⟨rfl,rfl,rfl,rfl,tq⟩,⟨_,rfl,rfl⟩,tq⟩ fun i hi=> ?_;refine d9 (fun h=> ?_) (fun h=> ?_)
  ·have d8:i<4:=(by omega);have hv:([y.1,y.2.1,y.2.2.1,y.2.2.2]).getD i 0<65536:=by
    obtain⟨a,b',c,d⟩:=yo;rcases i with _|_|_|_|i;all_goals first|assumption|omega
   refine⟨by omega,by omega,?_⟩;refine⟨_,by rw[Zb];exact Y6 (k:=[y.1,y.2.1,y.2.2.1,y.2.2.2]) d8,?_⟩;refine⟨by decide,Zp _,by omega,by rw[j6,iH y i (by omega)];omega,?_⟩;refine⟨i+1,by omega,by omega,[.d 41 0],⟨rfl,rfl,rfl,f8 (by simp(disch:=omega)only[Za];omega),tq⟩,⟨_,rfl,i6 ?_⟩,tq⟩;rw[Zm,g8 (iH y i (by omega)),sb y i d8,<-B7];show bv (aJ y i)++[Value.int .u8 _,Value.int .u8 _]=_;rw[sd hv]
  ·obtain rfl:i=4:=(by omega);refine⟨_,rfl,[.k 0],rfl,⟨_,rfl,i6 ?_⟩,tq⟩;show bv (aJ y 4)=bv (av (L3 (B4 k) (O1 b)));rw[hy];rfl
theorem LM {va:List Value} {k:List Nat} {n:Nat} {back:Bool} (hn:n≠8):b9 C 81 [vR k,.z n va,bool back] [] V5 []:=by
 refine Bu.c ?_;refine p6 (fun h=> ?_) (fun h=>absurd (by omega) hn);exact⟨_,rfl,[],rfl,tq⟩
theorem As {a:Nat} {x:Int} (hx:x=a):b9 C 272 [i64 x] [] (.ret (i64 (D0 a))) []:=by
 subst hx;refine Uv.c ?_;refine i7 (fun h=> ?_) (fun h=> ?_)
 ·refine⟨_,rfl,[],f8 ?_,tq⟩;unfold D0;rw[if_pos (by omega)];rfl
 ·refine⟨_,rfl,[],f8 ?_,tq⟩;unfold D0;rw[if_neg (by omega)]
theorem bJ {a b:Nat} {x y:Int} (hx:x=a) (hy:y=b) (ha:a<65536) (hb:b<65536):b9 C 254 [i64 x,i64 y] [] (.ret (i64 (K8 a b))) []:=by
 refine Up.c ?_;refine⟨[],_,_,_,_,As hx,rfl,rfl,?_⟩;refine⟨[],_,_,_,_,As hy,rfl,rfl,?_⟩;refine⟨by decide,by decide,_,rfl,[],f8 ?_,tq⟩;exact rJ (EM ha) (EM hb)
theorem kP {a b:Nat} {x y:Int} (hx:x=a) (hy:y=b) (ha:a<65536) (hb:b<65536):b9 C 258 [i64 x,i64 y] [] (.ret (i64 (az a b))) []:=by
 subst hx;subst hy;refine Ur.c ?_;refine⟨by decide,_,rfl,[],f8 ?_,tq⟩;rw[show (a:Int)+(b:Int)=((a+b:Nat):Int) from rfl,dP _ (by omega)];rfl
def cM (a b:Nat):Nat:=(a+65536-b)%65536
theorem wj {a b:Nat} (hb:b<65536):cM a b=az a (O2 b):=by unfold cM az O2;omega
theorem pY {a b:Nat} {x y:Int} (hx:x=a) (hy:y=b) (ha:a<65536) (hb:b<65536):b9 C 256 [i64 x,i64 y] [] (.ret (i64 (cM a b))) []:=by
 subst hx;subst hy;refine Uu.c ?_;refine⟨by decide,_,rfl,[],f8 ?_,tq⟩;have e:I6.wrap (I6.wrap ((a:Int)-b)+65536)=((a+65536-b:Nat):Int):=by simp(disch:=omega)only[Za];omega
 rw[e];rfl
theorem pX {a:Nat} {x:Int} (hx:x=a) (ha:a<65536):b9 C 255 [i64 x] [] (.ret (i64 (H5 a))) []:=by
 subst hx;refine Um.c ?_;refine oE T8 (1,a,65535) 16 (fun i z=>⟨[(0,i64 z.2.1),(3,i64 z.1),(4,i64 z.2.2)],[]⟩) ⟨[],⟨rfl,rfl,rfl,tq⟩,tq⟩ fun i z hi hz=> ?_;obtain⟨b1,b2,b3⟩:=re ha i;rw[<-hz]at b1 b2 b3;refine d9 (fun h=> ?_) (fun h=> ?_)
 ·have hi16:i<16:=by
   rcases Jg i 16 with h8|h8
   ·exact h8
   ·obtain rfl:i=16:=(by omega);rw[b3]at h;exact absurd h (by decide)
  have hle:z.2.2<=65535:=by rw[b3];exact Jo _ _
  have e1:((z.2.2:Nat):Int).tmod 2=((z.2.2%2:Nat):Int):=aq _ 2;have e2:I6.wrap (((z.2.2:Nat):Int).tdiv 2)=((z.2.2/2:Nat):Int):=by
   rw[show ((z.2.2:Nat):Int).tdiv 2=((z.2.2/2:Nat):Int) from rfl,dP _ (by omega)]
  refine⟨by decide,?_⟩;refine i7 (fun hb=> ?_) (fun hb=> ?_)
  ·rw[e1]at hb;refine⟨[],_,_,_,_,bJ rfl rfl b1 b2,rfl,rfl,?_⟩;refine⟨[],_,_,_,_,bJ rfl rfl b2 b2,rfl,rfl,?_⟩;refine⟨by decide,?_⟩;refine⟨(i+1,T8 z),⟨hi16,bQ hz⟩,by omega,[],⟨rfl,?_,f8 e2,tq⟩,tq⟩;show i64 _=i64 ((if _ then _ else _:Nat):Int);rw[if_pos (by omega)]
  ·rw[e1]at hb;refine⟨[],_,_,_,_,bJ rfl rfl b2 b2,rfl,rfl,?_⟩;refine⟨by decide,?_⟩;refine⟨(i+1,T8 z),⟨hi16,bQ hz⟩,by omega,[],⟨rfl,?_,f8 e2,tq⟩,tq⟩;show i64 _=i64 ((if _ then _ else _:Nat):Int);rw[if_neg (by omega)]
 ·have hi16:i=16:=by
   rcases Jg i 16 with h8|h8
   ·have:2^i<=2^15:=Z5 (by decide) (by omega);have hp:0<2^i:=K1 (by decide);have:1<=65535/2^i:=(Jq hp).2 (by omega);omega
   ·omega
  subst hi16;refine⟨_,rfl,[],?_,tq⟩;show i64 z.1=i64 _;rw[hz];rfl
theorem zN {n o:Nat} {k:List Nat} {x0 x1 x2 x3:Int} {a c d e:Nat} (h0:x0=a) (h1:x1=c) (h2:x2=d) (h3:x3=e) (ha:a<65536) (hc:c<65536) (hd:d<65536) (he:e<65536) (ho:o+6<=k.length) (hn:n=k.length-o) (hk:W9 k):
  b9 C 257 [i64 x0,i64 x1,i64 x2,i64 x3,.z n (nv (k.drop o))] [] (.ret (.t [i64 (aF k o a c d e),i64 (ap k o a c d e)])) []:=by
 subst h0;subst h1;subst h2;subst h3;refine Ut.c ?_;refine⟨by decide,by omega,?_⟩;refine⟨_,O0 (j:=4) (by omega),?_⟩;refine⟨[],_,_,_,_,bJ (a:=a^^^d) (P6 16 (by decide) ha hd) rfl (ax ha hd) (hk _),rfl,rfl,?_⟩;refine⟨[],_,_,_,_,kP (a:=c^^^e) (P6 16 (by decide) hc he) rfl (ax hc he) (K9 _ _),rfl,rfl,?_⟩;refine⟨by decide,by omega,?_⟩;refine⟨_,O0 (j:=5) (by omega),?_⟩;refine⟨[],_,_,_,_,bJ rfl rfl (dt _ _) (hk _),rfl,rfl,?_⟩;refine⟨[],_,_,_,_,kP rfl rfl (K9 _ _) (K9 _ _),rfl,rfl,?_⟩;exact⟨_,rfl,[],rfl,tq⟩
abbrev qA (x:Q4):V:= .a [i64 x.1,i64 x.2.1,i64 x.2.2.1,i64 x.2.2.2]
theorem OI {k:List Nat} {x:Q4} (hl:k.length=52) (hk:W9 k) (hx:L0 x):b9 C 211 [qA x,.z 52 (nv k)] [] (.ret (qA (L3 k x))) []:=by
 refine Uw.c ?_;refine m9 (fun r=>⟨[(1,.z (52-6*r) (nv (k.drop (6*r)))),(2,.p (.k 0) 0),(4,.p (.k 1) 0),(5,i64 r)],[.mx [i64 (L9 k x r).1,i64 (L9 k x r).2.1,i64 (L9 k x r).2.2.1,i64 (L9 k x r).2.2.2],.sc [.int .i64 0,.int .i64 0,.int .i64 0,.int .i64 0]]⟩) 8 ⟨[.d 2 0,.d 4 0],⟨rfl,rfl,rfl,rfl,tq⟩,⟨_,rfl,rfl⟩,⟨_,rfl,rfl⟩,tq⟩ fun r hr=> ?_;obtain⟨o1,o2,o3,o4⟩:=sn k hx r;generalize hs:L9 k x r=s at o1 o2 o3 o4 ⊢;refine d9 (fun h=> ?_) (fun h=> ?_)
 ·have d8:r<8:=(by omega);refine⟨by decide,by decide,_,rfl,by decide,by omega,?_⟩;refine⟨_,O0 (j:=0) (by omega),?_⟩;refine⟨[],_,_,_,_,bJ rfl rfl o1 (hk _),rfl,rfl,?_⟩;refine⟨by decide,by decide,_,rfl,by decide,by omega,?_⟩;refine⟨_,O0 (j:=1) (by omega),?_⟩;refine⟨[],_,_,_,_,kP rfl rfl o2 (hk _),rfl,rfl,?_⟩;refine⟨by decide,by decide,_,rfl,by decide,by omega,?_⟩;refine⟨_,O0 (j:=2) (by omega),?_⟩;refine⟨[],_,_,_,_,kP rfl rfl o3 (hk _),rfl,rfl,?_⟩;refine⟨by decide,by decide,_,rfl,by decide,by omega,?_⟩;refine⟨_,O0 (j:=3) (by omega),?_⟩;refine⟨[],_,_,_,_,bJ rfl rfl o4 (hk _),rfl,rfl,?_⟩;obtain⟨p1,p2,p3,p4⟩:=fZ k (6*r) s;refine⟨[],_,_,_,_,zN (k:=k) (o:=6*r) rfl rfl rfl rfl p1 p2 p3 p4 (by omega) (by omega) hk,rfl,rfl,?_⟩;have hg:ap k (6*r) (z7 k (6*r) s).1 (z7 k (6*r) s).2.1 (z7 k (6*r) s).2.2.1 (z7 k (6*r) s).2.2.2<65536:=K9 _ _;have hh:aF k (6*r) (z7 k (6*r) s).1 (z7 k (6*r) s).2.1 (z7 k (6*r) s).2.2.1 (z7 k (6*r) s).2.2.2<65536:=dt _ _;have x1:=P6 16 (by decide) p1 hg;have x2:=P6 16 (by decide) p3 hg;have x3:=P6 16 (by decide) p2 hh;have x4:=P6 16 (by decide) p4 hh;refine⟨Zp _,by decide,by show 6<=52-6*r;omega,Zp _,Zp _,?_⟩;refine⟨r+1,by omega,by omega,[.k 0,.k 1],⟨?_,rfl,rfl,f8 (by simp(disch:=omega)only[Za];omega),tq⟩,⟨_,rfl,?_⟩,⟨_,rfl,rfl⟩,tq⟩
  ·show V.z (52-6*r-6) (sub _ 6 (52-6*r-6))=_;rw[bd,V3,M9 _ _ _ (by omega),show 52-6*r-6=52-6*(r+1) by omega,show 6*r+6=6*(r+1) by omega]
  ·show B.mx [vi .i64 _,vi .i64 _,vi .i64 _,vi .i64 _]=B.mx [vi .i64 _,vi .i64 _,vi .i64 _,vi .i64 _];rw[cV,hs];congr 2
   ·exact f8 x1
   congr 1
   ·exact f8 x2
   congr 1
   ·exact f8 x3
   congr 1;exact f8 x4
 ·obtain rfl:r=8:=(by omega);refine⟨by decide,by decide,_,rfl,by decide,by omega,?_⟩;refine⟨_,O0 (j:=0) (by omega),?_⟩;refine⟨[],_,_,_,_,bJ rfl rfl o1 (hk _),rfl,rfl,?_⟩;refine⟨by decide,by decide,_,rfl,by decide,by omega,?_⟩;refine⟨_,O0 (j:=1) (by omega),?_⟩;refine⟨[],_,_,_,_,kP rfl rfl o3 (hk _),rfl,rfl,?_⟩;refine⟨by decide,by decide,_,rfl,by decide,by omega,?_⟩;refine⟨_,O0 (j:=2) (by omega),?_⟩;refine⟨[],_,_,_,_,kP rfl rfl o2 (hk _),rfl,rfl,?_⟩;refine⟨by decide,by decide,_,rfl,by decide,by omega,?_⟩;refine⟨_,O0 (j:=3) (by omega),?_⟩;refine⟨[],_,_,_,_,bJ rfl rfl o4 (hk _),rfl,rfl,?_⟩;refine⟨Zp _,?_⟩;refine⟨_,rfl,rfl,?_⟩;refine⟨_,rfl,[],?_,tq⟩;show qA (z7 k 48 (I4 s))=qA (L3 k x);rw[<-hs];rfl
def en (k:List Nat) (o:Nat) (x:Q4):Q4:=(K8 x.1 (H5 (k.getD o 0)),cM x.2.2.1 (k.getD (o+2) 0),cM x.2.1 (k.getD (o+1) 0),K8 x.2.2.2 (H5 (k.getD (o+3) 0)))
def aV (k:List Nat) (o:Nat) (x:Q4):Q4:=(x.1^^^ap k o x.1 x.2.2.1 x.2.1 x.2.2.2,x.2.1^^^ap k o x.1 x.2.2.1 x.2.1 x.2.2.2,x.2.2.1^^^aF k o x.1 x.2.2.1 x.2.1 x.2.2.2,x.2.2.2^^^aF k o x.1 x.2.2.1 x.2.1 x.2.2.2)
def cA (k:List Nat) (o:Nat) (x:Q4):Q4:=(K8 x.1 (H5 (k.getD o 0)),cM x.2.2.1 (k.getD (o+1) 0),cM x.2.1 (k.getD (o+2) 0),K8 x.2.2.2 (H5 (k.getD (o+3) 0)))
def kB (k:List Nat) (x:Q4) (r:Nat):Q4:=cA k (6*(7-r)) (aV k (6*(7-r)) x)
def ae (k:List Nat) (x:Q4) (n:Nat):Q4:=(List.range n).foldl (kB k) (en k 48 x)
theorem pE (k x n):ae k x (n+1)=kB k (ae k x n) n:=by simp[ae,Zz]
theorem iq (a b):cM a b<65536:=Z4 _ (by decide)
theorem Ic (k x):∀n,L0 (ae k x n)
 |0=>⟨K9 _ _,iq _ _,iq _ _,K9 _ _⟩
 |n+1=>by rw[pE];exact⟨K9 _ _,iq _ _,iq _ _,K9 _ _⟩
theorem a3A (k:List Nat):∀n,n<=9->∀r j,r<n->j<(X5 k (8-r)).length->(aR k n).getD (6*r+j) 0=(X5 k (8-r)).getD j 0:=by
 intro n;induction n with
 |zero=>intro _ r j h;omega
 |succ n ih=>
  intro hn r j hr hj;have hl:(aR k n).length=6*n:=by rw[co k n (by omega),if_neg (by omega)]
  have hj6:j<6:=by rw[xU]at hj;split at hj<;>omega
  rw[ph,Zd,Zd];by_cases h:r=n
  ·subst h;rw[Z7 (by omega),hl,show 6*r+j-6*r=j by omega]
  ·rw[Ja (by omega),<-Zd,ih (by omega) r j (by omega) hj,Zd]
theorem pg (k:List Nat) {r j:Nat} (hr:r<9) (hj:j<if r=8 then 4 else 6):(B4 k).getD (6*r+j) 0=(X5 k (8-r)).getD j 0:=by
 refine a3A k 9 (by decide) r j hr ?_;rw[xU];by_cases h:r=8
 ·rw[if_pos h]at hj;rw[if_neg (by omega)];exact hj
 ·rw[if_neg h]at hj;rw[if_pos (by omega)];exact hj
theorem Ie (k:List Nat) (hk:W9 k) (x:Q4):∀r,r<8->ae k x r=I4 (z7 (B4 k) (6*r) (L9 (B4 k) x r)):=by
 intro r;induction r with
 |zero=>
  intro _;have h:=fun j (hj:j<6)=>pg k (r:=0) (j:=j) (by decide) hj;have h0:=h 0 (by decide);have h1:=h 1 (by decide);have h2:=h 2 (by decide);have h3:=h 3 (by decide);show en k 48 x=I4 (z7 (B4 k) (6*0) x);simp only[z7,I4,en,h0,h1,h2,h3,wj (hk _)];rfl
 |succ r ih=>
  intro hr;have ih:=ih (by omega);have hp:=fun j (hj:j<6)=>pg k (r:=r) (j:=j) (by omega) (by rw[if_neg (by omega)];exact hj);have hq:=fun j (hj:j<6)=>pg k (r:=r+1) (j:=j) (by omega) (by rw[if_neg (by omega)];exact hj);have u4:(B4 k).getD (6*r+4) 0=k.getD (6*(7-r)+4) 0:=by
   rw[hp 4 (by decide)];unfold X5;rw[if_pos (show 0<8-r by omega)];have:6*(8-r)-2=6*(7-r)+4:=by omega
   split<;>(show k.getD (6*(8-r)-2) 0=_;rw[this])
  have u5:(B4 k).getD (6*r+5) 0=k.getD (6*(7-r)+5) 0:=by
   rw[hp 5 (by decide)];unfold X5;rw[if_pos (show 0<8-r by omega)];have:6*(8-r)-1=6*(7-r)+5:=by omega
   split<;>(show k.getD (6*(8-r)-1) 0=_;rw[this])
  have e8:8-(r+1)=7-r:=by omega
  have un:X5 k (7-r)=[H5 (k.getD (6*(7-r)) 0),O2 (k.getD (6*(7-r)+2) 0),O2 (k.getD (6*(7-r)+1) 0),H5 (k.getD (6*(7-r)+3) 0)]++[k.getD (6*(7-r)-2) 0,k.getD (6*(7-r)-1) 0]:=by
   unfold X5;rw[if_pos (by omega),if_pos (by omega)]
  have v0:=hq 0 (by decide);have v1:=hq 1 (by decide);have v2:=hq 2 (by decide);have v3:=hq 3 (by decide);rw[e8,un]at v0 v1 v2 v3;rw[pE,cV,ih];unfold mK;generalize z7 (B4 k) (6*r) (L9 (B4 k) x r)=p;have mM:aV k (6*(7-r)) (I4 p)=bc (B4 k) (6*r) p:=by
   simp only[aV,bc,I4,ap,aF,eZ,u4,u5]
  unfold kB;rw[mM];generalize bc (B4 k) (6*r) p=z;simp only[cA,z7,I4,v1,v2,v3,wj (hk _)];rw[show 6*(r+1)+0=6*(r+1) from rfl]at v0;rw[v0];rfl
theorem tZ (k:List Nat) (hk:W9 k) (x:Q4):ae k x 8=L3 (B4 k) x:=by
 have hp:=fun j (hj:j<6)=>pg k (r:=7) (j:=j) (by decide) hj;have hq:=fun j (hj:j<4)=>pg k (r:=8) (j:=j) (by decide) hj;have u4:(B4 k).getD (6*7+4) 0=k.getD (6*(7-7)+4) 0:=hp 4 (by decide);have u5:(B4 k).getD (6*7+5) 0=k.getD (6*(7-7)+5) 0:=hp 5 (by decide);have v0:=hq 0 (by decide);have v1:=hq 1 (by decide);have v2:=hq 2 (by decide);have v3:=hq 3 (by decide);show ae k x (7+1)=z7 (B4 k) 48 (I4 (L9 (B4 k) x (7+1)));rw[pE k x 7,Ie k hk x 7 (by decide),cV (B4 k) x 7];unfold mK;generalize z7 (B4 k) (6*7) (L9 (B4 k) x 7)=p;have mM:aV k (6*(7-7)) (I4 p)=bc (B4 k) (6*7) p:=by
  simp only[aV,bc,I4,ap,aF,eZ,u4,u5]
 unfold kB;rw[mM];generalize bc (B4 k) (6*7) p=z;have w0:(B4 k).getD 48 0=H5 (k.getD 0 0):=v0;have w1:(B4 k).getD 49 0=O2 (k.getD 1 0):=v1;have w2:(B4 k).getD 50 0=O2 (k.getD 2 0):=v2;have w3:(B4 k).getD 51 0=H5 (k.getD 3 0):=v3;simp only[cA,z7,I4,w0,w1,w2,w3,wj (hk _),Nat.sub_self,Nat.mul_zero,Zl]
end Go.Scr
