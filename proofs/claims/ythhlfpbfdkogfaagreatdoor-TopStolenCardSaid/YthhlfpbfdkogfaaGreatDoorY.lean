/-
  What the functions of the given program reckon, each by a contract, up to the law. It is no claim by itself; each contract bears its own conditions.
-/
import Derived.Test.YthhlfpbfdkogfaaGreatDoorN
set_option linter.unusedVariables false
set_option linter.unusedSimpArgs false
set_option maxRecDepth 100000
namespace Go.Scr
open Go.Proofs
open IntWalk renaming i64_in → Za
open Int renaming toNat_natCast → Zb, fdiv_eq_ediv_of_nonneg → Z1, natCast_pow → Z9, le_refl → Jh, tmod_eq_emod_of_nonneg → Jk, natCast_emod → Jt, natCast_ediv → Ju, natCast_mul → Jx, lt_tmod_of_pos → J2, le_of_lt → Kc, tmod_lt_of_pos → Kg, emod_lt_of_pos → Kh, pow_pos → Ki, emod_nonneg → Kw
open BitVec renaming ofInt → Zc, ofInt_natCast → J9
open List renaming getD_eq_getElem?_getD → Zd, length_append → Ze, getElem?_eq_getElem → Zf, getElem?_eq_none → Zg, length_reverse → Zi, length_replicate → Zj, replicate → Zk, length_zipWith → Zo, take_length → Zq, take_succ_eq_append_getElem → Zr, length_cons → Zs, length_set → Zu, length_take → Zv, length_nil → Zw, length_drop → Zx, length_map → Zy, range_succ → Zz, ext_getElem? → Z3, getElem?_append_right → Z7, append_nil → Z8, getElem?_append_left → Ja, getElem?_replicate → Jd, getElem?_map → Je, append_assoc → Jf, nil_append → Jp, getElem?_set → Jr, getElem_reverse → Js, getElem?_range → Jv, flatten_append → Jw, getElem?_take → J0, getElem?_drop → J1, foldl_append → J4, eq_nil_of_length_eq_zero → J8, replicate_succ → Kb, mem_singleton → Kf, map_take → Kj, map_drop → Kk, getElem_mem → Kn, take_of_length_le → Ks, drop_eq_nil_of_le → Kt, mem_append → Kv, take_append_drop → Kx, getElem?_reverse → Ky, take_zero → K2
open Nat renaming mod_eq_of_lt → Zh, zero_add → Zl, mul_one → Zm, le_refl → Zp, shiftRight_eq_div_pow → Z0, mod_lt → Z4, pow_le_pow_right → Z5, zero_le → Z6, lt_or_ge → Jg, xor_lt_two_pow → Jj, testBit_eq_decide_div_mod_eq → Jl, and_two_pow_sub_one_eq_mod → Jn, div_le_self → Jo, le_div_iff_mul_le → Jq, mod_eq_sub_mod → Jy, and_lt_two_pow → Jz, or_lt_two_pow → J3, shiftLeft_eq → J6, sub_succ_lt_self → J7, le_antisymm → Ka, shiftRight_add → Kd, and_one_is_mod → Ke, testBit_mod_two_pow → Kl, div_eq_of_lt → Km, testBit_lt_two_pow → Kq, div_div_eq_div_mul → Kr, pow_pos → K1
open UInt32 renaming ofNat → Zn, toNat_toUInt64 → Z2, toNat_shiftRight → Jc, toNat_ofNat' → Jm, toNat_and → J5, toNat_shiftLeft → Kp, toNat_toUInt8 → Kz
open UInt8 renaming ofNat → Zt, toNat_ofNat' → Jb, toNat_lt → Ji, toNat_shiftRight → Ko, toNat_inj → Ku
open Go.IntKind renaming i64 → I6, u8 → U8, u32 → U3, u64 → U6
def bv (l:Bs):List Value:=l.map fun x=> .int .u8 x.toNat
abbrev bz (l:Bs):V:= .z l.length (bv l)
def iv (l:List Int):List Value:=l.map fun x=> .int .i64 x
abbrev iz (l:List Int):V:= .z l.length (iv l)
def wv (l:List UInt32):List Value:=l.map fun x=> .int .u32 x.toNat
abbrev wz (l:List UInt32):V:= .z l.length (wv l)
abbrev i64 (n:Int):V:= .s (.int .i64 n)
abbrev u8 (x:UInt8):V:= .s (.int .u8 x.toNat)
abbrev u32 (x:UInt32):V:= .s (.int .u32 x.toNat)
abbrev u64 (x:UInt64):V:= .s (.int .u64 x.toNat)
abbrev vi (k:IntKind) (n:Int):V:= .s (.int k n)
abbrev bool (b:Bool):V:= .s (.bool b)
theorem ik {b:Bool} {x y:Prop} (h1:b=true->x) (h2:b=false->y):bF b x y:=by cases b;exact h2 rfl;exact h1 rfl
theorem bG {b:Bool} {x y:Prop} (h:b=true) (h1:x):bF b x y:=by subst h;exact h1
theorem w9 {b:Bool} {x y:Prop} (h:b=false) (h1:y):bF b x y:=by subst h;exact h1
theorem f9 (l:Bs):(bv l).length=l.length:=by simp[bv]
theorem I9 (l:List Int):(iv l).length=l.length:=by simp[iv]
theorem t3 (l:List UInt32):(wv l).length=l.length:=by simp[wv]
theorem av {l:Bs} {i:Nat} (h:i<l.length):(bv l)[i]? =some (.int .u8 (l[i]).toNat):=by simp[bv,h]
theorem uE {l:List Int} {i:Nat} (h:i<l.length):(iv l)[i]? =some (.int .i64 l[i]):=by simp[iv,h]
theorem wl {l:List UInt32} {i:Nat} (h:i<l.length):(wv l)[i]? =some (.int .u32 (l[i]).toNat):=by simp[wv,h]
theorem l4 (l:Bs) (i n:Nat):sub (bv l) i n=bv (sub l i n):=by simp[bv,sub,Kj,Kk]
theorem a1U (l:List UInt32) (i n:Nat):sub (wv l) i n=wv (sub l i n):=by simp[wv,sub,Kj,Kk]
theorem L0 (l:Bs) (i:Nat) (x:UInt8):(bv l).set i (.int .u8 x.toNat)=bv (l.set i x):=by simp[bv,List.map_set]
theorem aU (l:List UInt32) (i:Nat) (x:UInt32):(wv l).set i (.int .u32 x.toNat)=wv (l.set i x):=by simp[wv,List.map_set]
theorem x5 (a b:Bs):bv a++bv b=bv (a++b):=by simp[bv]
theorem np (a b:List Int):iv a++iv b=iv (a++b):=by simp[iv]
theorem mg (a b:List UInt32):wv a++wv b=wv (a++b):=by simp[wv]
theorem S2 (n:Nat):Zk n (Value.int .u8 0)=bv (Zk n 0):=by simp[bv]
theorem a1T (n:Nat):Zk n (Value.int .u32 0)=wv (Zk n 0):=by simp[wv]
theorem wrap_u8 (n:Int):U8.wrap n=n%256:=by rw[IntKind.wrap_u8]
theorem wrap_u32 (n:Int):U3.wrap n=n%4294967296:=by rw[IntKind.wrap_u32]
theorem D5 (n:Int):U6.wrap n=n%18446744073709551616:=by simp[IntKind.wrap,IntKind.bits,IntKind.signed]
theorem jI:U8.bits=8:=rfl
theorem sM:U3.bits=32:=rfl
theorem mB:U6.bits=64:=rfl
theorem jH:I6.bits=64:=rfl
theorem sS (n:Nat) {x y:Nat} (hx:x<2^n) (hy:y<2^n):(Zc n (x:Int)^^^Zc n (y:Int)).toNat=x^^^y:=by
 simp[J9,Zh hx,Zh hy]
theorem sR (n:Nat) {x y:Nat} (hx:x<2^n) (hy:y<2^n):(Zc n (x:Int)&&&Zc n (y:Int)).toNat=x&&&y:=by
 simp[J9,Zh hx,Zh hy]
theorem jK (n:Nat) {x y:Nat} (hx:x<2^n) (hy:y<2^n):(Zc n (x:Int)|||Zc n (y:Int)).toNat=x|||y:=by
 simp[J9,Zh hx,Zh hy]
theorem u7 (a b:UInt8):U8.wrap ((Zc U8.bits (a.toNat:Int)^^^Zc U8.bits (b.toNat:Int)).toNat:Int)=((a^^^b).toNat:Int):=by
 rw[wrap_u8,sS U8.bits a.toNat_lt b.toNat_lt,UInt8.toNat_xor];have:=Jj (n:=8) a.toNat_lt b.toNat_lt;omega
theorem vZ (a b:UInt8):U8.wrap ((Zc U8.bits (a.toNat:Int)&&&Zc U8.bits (b.toNat:Int)).toNat:Int)=((a&&&b).toNat:Int):=by
 rw[wrap_u8,sR U8.bits a.toNat_lt b.toNat_lt,UInt8.toNat_and];have:=Jz (n:=8) a.toNat b.toNat_lt;omega
theorem rJ (a b:UInt8):U8.wrap ((Zc U8.bits (a.toNat:Int)|||Zc U8.bits (b.toNat:Int)).toNat:Int)=((a|||b).toNat:Int):=by
 rw[wrap_u8,jK U8.bits a.toNat_lt b.toNat_lt,UInt8.toNat_or];have:=J3 (n:=8) a.toNat_lt b.toNat_lt;omega
theorem Ge (a b:UInt8):U8.wrap ((a.toNat:Int)+b.toNat)=((a+b).toNat:Int):=by
 rw[wrap_u8,UInt8.toNat_add];omega
theorem z6 (a b:UInt32):U3.wrap ((Zc U3.bits (a.toNat:Int)^^^Zc U3.bits (b.toNat:Int)).toNat:Int)=((a^^^b).toNat:Int):=by
 rw[wrap_u32,sS U3.bits a.toNat_lt b.toNat_lt,UInt32.toNat_xor];have:=Jj (n:=32) a.toNat_lt b.toNat_lt;omega
theorem vW (a b:UInt32):U3.wrap ((Zc U3.bits (a.toNat:Int)&&&Zc U3.bits (b.toNat:Int)).toNat:Int)=((a&&&b).toNat:Int):=by
 rw[wrap_u32,sR U3.bits a.toNat_lt b.toNat_lt,J5];have:=Jz (n:=32) a.toNat b.toNat_lt;omega
theorem rI (a b:UInt32):U3.wrap ((Zc U3.bits (a.toNat:Int)|||Zc U3.bits (b.toNat:Int)).toNat:Int)=((a|||b).toNat:Int):=by
 rw[wrap_u32,jK U3.bits a.toNat_lt b.toNat_lt,UInt32.toNat_or];have:=J3 (n:=32) a.toNat_lt b.toNat_lt;omega
theorem s6 (a b:UInt32):U3.wrap ((a.toNat:Int)+b.toNat)=((a+b).toNat:Int):=by
 rw[wrap_u32,UInt32.toNat_add];omega
theorem ao (a b:UInt32):U3.wrap ((a.toNat:Int)-b.toNat)=((a-b).toNat:Int):=by
 have:=b.toNat_lt;rw[wrap_u32,UInt32.toNat_sub];omega
theorem vX (a b:UInt64):U6.wrap ((Zc U6.bits (a.toNat:Int)|||Zc U6.bits (b.toNat:Int)).toNat:Int)=((a|||b).toNat:Int):=by
 rw[D5,jK U6.bits a.toNat_lt b.toNat_lt,UInt64.toNat_or];have:=J3 (n:=64) a.toNat_lt b.toNat_lt;omega
theorem a1A (a:UInt8) (n:Int) (h0:0<=n) (h:n<8):U8.wrap ((a.toNat:Int)*2^(min n.toNat U8.bits))=((a<<<(Zt n.toNat)).toNat:Int):=by
 have hn:n.toNat<8:=by omega
 have hm:n.toNat<256:=by omega
 rw[wrap_u8,show min n.toNat U8.bits=n.toNat from by simp only[jI];omega,UInt8.toNat_shiftLeft,J6,Jb,Zh (show n.toNat<2^8 from hm),Zh hn];rw[Jt,Jx,Z9];rfl
theorem a1C (a:UInt8) (n:Int) (h0:0<=n) (h:n<8):((a.toNat:Int).fdiv (2^(min n.toNat U8.bits)))=((a>>>(Zt n.toNat)).toNat:Int):=by
 have hn:n.toNat<8:=by omega
 have hm:n.toNat<256:=by omega
 rw[show min n.toNat U8.bits=n.toNat from by simp only[jI];omega,Ko,Z0,Jb,Zh (show n.toNat<2^8 from hm),Zh hn,Z1 _ (Kc (Ki (by decide)))];rw[Ju,Z9];rfl
theorem mc (a:UInt32) (n:Int) (h0:0<=n) (h:n<32):U3.wrap ((a.toNat:Int)*2^(min n.toNat U3.bits))=((a<<<(Zn n.toNat)).toNat:Int):=by
 have hn:n.toNat<32:=by omega
 have hm:n.toNat<4294967296:=by omega
 rw[wrap_u32,show min n.toNat U3.bits=n.toNat from by simp only[sM];omega,Kp,J6,Jm,Zh (show n.toNat<2^32 from hm),Zh hn];rw[Jt,Jx,Z9];rfl
theorem am (a:UInt32) (n:Int) (h0:0<=n) (h:n<32):((a.toNat:Int).fdiv (2^(min n.toNat U3.bits)))=((a>>>(Zn n.toNat)).toNat:Int):=by
 have hn:n.toNat<32:=by omega
 have hm:n.toNat<4294967296:=by omega
 rw[show min n.toNat U3.bits=n.toNat from by simp only[sM];omega,Jc,Z0,Jm,Zh (show n.toNat<2^32 from hm),Zh hn,Z1 _ (Kc (Ki (by decide)))];rw[Ju,Z9];rfl
theorem a1v (a:UInt32) (n:Int) (h:32<=n):((a.toNat:Int).fdiv (2^(min n.toNat U3.bits)))=0:=by
 rw[show min n.toNat U3.bits=32 from by simp only[sM];omega,Z1 _ (by decide)];have:=a.toNat_lt;exact Int.ediv_eq_zero_of_lt (by omega) (by omega)
theorem vY (a:UInt64) (n:Int) (h0:0<=n) (h:n<64):U6.wrap ((a.toNat:Int)*2^(min n.toNat U6.bits))=((a<<<(UInt64.ofNat n.toNat)).toNat:Int):=by
 have hn:n.toNat<64:=by omega
 have hm:n.toNat<18446744073709551616:=by omega
 rw[D5,show min n.toNat U6.bits=n.toNat from by simp only[mB];omega,UInt64.toNat_shiftLeft,J6,UInt64.toNat_ofNat',Zh (show n.toNat<2^64 from hm),Zh hn];rw[Jt,Jx,Z9];rfl
theorem Gd (a:UInt64) (n:Int) (h0:0<=n) (h:n<64):((a.toNat:Int).fdiv (2^(min n.toNat U6.bits)))=((a>>>(UInt64.ofNat n.toNat)).toNat:Int):=by
 have hn:n.toNat<64:=by omega
 have hm:n.toNat<18446744073709551616:=by omega
 rw[show min n.toNat U6.bits=n.toNat from by simp only[mB];omega,UInt64.toNat_shiftRight,Z0,UInt64.toNat_ofNat',Zh (show n.toNat<2^64 from hm),Zh hn,Z1 _ (Kc (Ki (by decide)))];rw[Ju,Z9];rfl
theorem jq (a b:UInt32):U3.wrap ((a.toNat:Int)*b.toNat)=((a*b).toNat:Int):=by
 rw[wrap_u32,UInt32.toNat_mul,Jt,Jx];rfl
theorem wc (a:UInt8):U6.wrap (a.toNat:Int)=((a.toUInt64).toNat:Int):=by
 have:=a.toNat_lt;rw[D5,UInt8.toNat_toUInt64];omega
theorem a1D (a:UInt8):U3.wrap (a.toNat:Int)=((a.toUInt32).toNat:Int):=by
 have:=a.toNat_lt;rw[wrap_u32,UInt8.toNat_toUInt32];omega
theorem iA (a:UInt8):I6.wrap (a.toNat:Int)=(a.toNat:Int):=by
 have:=a.toNat_lt;rw[IntKind.wrap_i64];omega
theorem O5 (a:UInt32):I6.wrap (a.toNat:Int)=(a.toNat:Int):=by
 have:=a.toNat_lt;rw[IntKind.wrap_i64];omega
theorem a1w (a:UInt32):U6.wrap (a.toNat:Int)=((a.toUInt64).toNat:Int):=by
 have:=a.toNat_lt;rw[D5,Z2];omega
theorem a1y (a:UInt64):U8.wrap (a.toNat:Int)=((a.toUInt8).toNat:Int):=by
 rw[wrap_u8,UInt64.toNat_toUInt8];omega
theorem me (a:UInt64):U3.wrap (a.toNat:Int)=((a.toUInt32).toNat:Int):=by
 rw[wrap_u32,UInt64.toNat_toUInt32];omega
theorem iy (a:UInt32):U8.wrap (a.toNat:Int)=((a.toUInt8).toNat:Int):=by
 rw[wrap_u8,Kz];omega
theorem bA (n:Nat):U8.wrap (n:Int)=((Zt n).toNat:Int):=by
 rw[wrap_u8,Jb];omega
theorem CJ (n:Nat):U3.wrap (n:Int)=((Zn n).toNat:Int):=by
 rw[wrap_u32,Jm];omega
theorem dk (n:Nat) (h:n<9223372036854775808):I6.wrap (n:Int)=(n:Int):=by
 rw[IntKind.wrap_i64];omega
theorem j4 {α:Type} {xs:List α} {i n:Nat}:(sub xs i n).length=min n (xs.length-i):=by simp[sub]
theorem c9 {p:Prop} [Decidable p] {x y:Prop} (h1:p->x) (h2:¬p->y):bF (decide p) x y:=by
 by_cases h:p
 ·rw[decide_eq_true h];exact h1 h
 ·rw[decide_eq_false h];exact h2 h
theorem j7 {m n:Int} {x y:Prop} (h1:m=n->x) (h2:m≠n->y):bF (m==n) x y:=ik (fun h=>h1 (by simpa using h)) (fun h=>h2 (by simpa using h))
theorem o9 {m n:Int} {x y:Prop} (h1:m≠n->x) (h2:m=n->y):bF (m != n) x y:=ik (fun h=>h1 (by simpa using h)) (fun h=>h2 (by simpa using h))
def it {α:Type} (f:α->α):Nat->α->α
 |0,x=>x
 |n+1,x=>f (it f n x)
theorem bt {α:Type} {f:α->α} {i:Nat} {x z:α} (h:z=it f i x):f z=it f (i+1) x:=by rw[h];rfl
theorem ny {β:Type} {m:Nat} {body:S->(X->S->Prop)->Prop} {s:S} {K:X->S->Prop} (f:β->β) (b0:β) (n:Nat) (I:Nat->β->D) (h0:Mt m s (I 0 b0)) (h:∀i z,i<=n->z=it f i b0->body (I i z).s fun e s'=>match e with
   | .normal=>∃y:Nat×β,(y.1<=n/\y.2=it f y.1 b0)/\n-y.1<n-i/\Mt m s' (I y.1 y.2)
   |e=>K e s'):mp m body s K:=
 ⟨Nat×β,fun x=>I x.1 x.2,fun x=>x.1<=n/\x.2=it f x.1 b0,fun x=>n-x.1,⟨[],(0,b0),⟨Z6 _,rfl⟩,h0⟩,fun x hx=>h x.1 x.2 hx.1 hx.2⟩
theorem ri {β:Type} {C:k8} {rt:Rt} {m:Nat} {c:Code} {s:S} {K:X->S->Prop} (l:Nat) {p q:Code} (hs:I0 c l=some (p,q)) (f:β->β) (b0:β) (n:Nat) (I:Nat->β->D) (h0:vc C rt m p s fun e s'=>match e with
   | .normal=>∃(l:List (Nat×Nat×B)) (y:Nat×β),(y.1<=n/\y.2=it f y.1 b0)/\aa l 0 s' fun s'=>Mt m s' (I y.1 y.2)
   | .goto l'=>l'=l/\∃y:Nat×β,(y.1<=n/\y.2=it f y.1 b0)/\Mt m s' (I y.1 y.2)
   |e=>K e s') (h:∀i z,i<=n->z=it f i b0->vc C rt m q (I i z).s fun e s'=>match e with
   | .goto l'=>l'=l/\∃y:Nat×β,(y.1<=n/\y.2=it f y.1 b0)/\n-y.1<n-i/\Mt m s' (I y.1 y.2)
   |e=>K e s'):lj C rt m c s K:=
 ⟨l,Nat×β,fun x=>I x.1 x.2,fun x=>x.1<=n/\x.2=it f x.1 b0,fun x=>n-x.1,by rw[hs];exact⟨h0,fun x hx=>h x.1 x.2 hx.1 hx.2⟩⟩
theorem j9 {m:Nat} {body:S->(X->S->Prop)->Prop} {s:S} {K:X->S->Prop} (I:Nat->D) (n:Nat) (h0:Mt m s (I 0)) (h:∀i,i<=n->body (I i).s fun e s'=>match e with
   | .normal=>∃y,y<=n/\n-y<n-i/\Mt m s' (I y)
   |e=>K e s'):mp m body s K:=
 ⟨Nat,I,fun i=>i<=n,fun i=>n-i,⟨[],0,Z6 _,h0⟩,h⟩
theorem B1 {m:Nat} {body:S->(X->S->Prop)->Prop} {s:S} {K:X->S->Prop} (I:Nat->D) (n:Nat) (l:List (Nat×Nat×B)) (h0:aa l 0 s fun s=>Mt m s (I 0)) (h:∀i,i<=n->body (I i).s fun e s'=>match e with
   | .normal=>∃y,y<=n/\n-y<n-i/\Mt m s' (I y)
   |e=>K e s'):mp m body s K:=
 ⟨Nat,I,fun i=>i<=n,fun i=>n-i,⟨l,0,Z6 _,h0⟩,h⟩
def M7 (l:Bs):UInt64:=l.foldl (fun n x=>n<<<8|||x.toUInt64) 0
def n8 (n:UInt64):Nat->Bs
 |0=>[]
 |k+1=>n8 (n>>>8) k++[n.toUInt8]
theorem u6:∀(k:Nat) (n:UInt64),(n8 n k).length=k
 |0,_=>rfl
 |k+1,n=>by simp[n8,u6 k]
def C3 (v:UInt32) (k:Nat):UInt32:=v<<<Zn k|||v>>>Zn (32-k)
theorem ii (n b:Int) (hb:0<b):(n.tmod b+b).tmod b=n%b:=by
 have h1: -b<n.tmod b:=J2 n hb;rw[Jk (by omega),Int.add_emod_right,Int.tmod_def,Int.sub_mul_emod_self_left]
theorem zt {n b:Int} (hb:0<b) (hb2:b<=4611686018427387904) (hn: -9223372036854775808<=n/\n<=9223372036854775807):a7 C 200 [i64 n,i64 b] [] (.ret (i64 (n%b))) []:=by
 refine Ty.c ?_;refine⟨by omega,by omega,?_⟩;refine⟨_,rfl,[],d7 ?_,tq⟩;have h1: -b<n.tmod b:=J2 n hb;have h2:n.tmod b<b:=Kg n hb;rw[Za _ (by omega)];exact ii n b hb
theorem uM {l:Bs} {i:Nat} (h:i<l.length):M7 (l.take (i+1))=M7 (l.take i)<<<8|||(l[i]).toUInt64:=by
 unfold M7;rw[Zr h,J4];rfl
theorem KW {n:Nat} {va:List Value} {l:Bs} (ha:va=bv l) (hn:l.length=n) (hm:n<=1073741824):a7 C 242 [.z n va] [] (.ret (u64 (M7 l))) []:=by
 subst ha;subst hn;refine Tx.c ?_;refine⟨0,Nat,fun i=>⟨[(0,bz l),(3,u64 (M7 (l.take i))),(4,i64 i)],[]⟩,fun i=>i<=l.length,fun i=>l.length-i,⟨[],0,Z6 _,[],⟨rfl,rfl,rfl,tq⟩,tq⟩,fun i hi=> ?_⟩;refine c9 (fun h=> ?_) (fun h=> ?_)
 ·have a9:i<l.length:=(by omega);refine⟨by omega,by omega,by omega,_,av (i:=i) a9,?_⟩;refine⟨rfl,i+1,a9,J7 _ _ a9,[],⟨rfl,congrArg (vi .u64) ?_,d7 (by simp(disch:=omega)only[Za];omega),tq⟩,tq⟩;rw[vY _ _ (by decide) (by decide),wc,vX,uM a9];rfl
 ·obtain rfl:i=l.length:=Ka hi (by omega);refine⟨_,rfl,[],congrArg (vi .u64) ?_,tq⟩;rw[Zq]
theorem zB {x:Int} {n:UInt64} {k:Int} {m:Nat} (hx:x=n.toNat) (hk:k=m) (hm:m<=1073741824):a7 C 243 [vi .u64 x,i64 k] [] (.ret (.o 1 (.k 0) 0 m)) [.sc (bv (n8 n m))]:=by
 subst hk;subst hx;refine Tz.c ?_;refine⟨0,Nat×UInt64×Bs,fun x=>⟨[(0,u64 x.2.1),(5,.o 1 (.k 0) 0 m),(6,i64 x.1)],[.sc (bv (Zk x.1 0++x.2.2))]⟩,fun x=>x.1<=m/\x.1+x.2.2.length=m/\n8 x.2.1 x.1++x.2.2=n8 n m,fun x=>x.1,
  ⟨by omega,by omega,by omega,[],(m,n,[]),⟨Zp _,by simp,by simp⟩,[.d 8 0],⟨rfl,rfl,rfl,tq⟩,⟨_,rfl,d9 (by simp[bv])⟩,tq⟩,?_⟩
 rintro ⟨i,v,l⟩ ⟨hi,hl,he⟩;simp only at hi hl he;refine c9 (fun h=> ?_) (fun h=> ?_)
 ·have hp:0<i:=(by omega);have e1:I6.wrap ((i:Int)-1)=((i-1:Nat):Int):=by simp only[IntKind.wrap_i64];omega
  refine⟨(by simp(disch:=omega)only[Za];omega),(by simp(disch:=omega)only[Za];omega),(by simp only[u6,f9,I9,t3,Ze,Zj,Zu,Zv,Zx,Zs,Zw,j4,Zi,Zy,Zo];omega),by omega,rfl,(i-1,v>>>8,v.toUInt8::l),⟨by omega,(by simp only[u6,f9,I9,t3,Ze,Zj,Zu,Zv,Zx,Zs,Zw,j4,Zi,Zy,Zo];omega),?_⟩,(by simp(disch:=omega)only[Za];omega),[.k 0],⟨congrArg (vi .u64) ?_,rfl,d7 e1,tq⟩,⟨_,rfl,d9 ?_⟩,tq⟩
  ·obtain⟨j,rfl⟩:∃j,i=j+1:=⟨i-1,by omega⟩;rw[<-he];simp[n8]
  ·exact Gd v 8 (by decide) (by decide)
  ·rw[e1,a1y,L0];congr 1;obtain⟨j,rfl⟩:∃j,i=j+1:=⟨i-1,by omega⟩;simp[List.replicate_succ']
 ·obtain rfl:i=0:=(by omega);refine⟨_,rfl,[.k 0],rfl,⟨_,rfl,d9 ?_⟩,tq⟩;rw[show l=n8 n m by simpa [n8]using he];rfl
theorem zM {n:Nat} {va:List Value} {l:Bs} (ha:va=bv l) (hn:l.length=n) (hm:n<=1073741824):a7 C 199 [.z n va] [] (.ret (.o 1 (.k 0) 0 n)) [.sc (bv l.reverse)]:=by
 subst ha;subst hn;refine TS.c ?_;refine⟨by omega,by omega,by omega,?_⟩;refine⟨Nat,fun i=>⟨[(0,bz l),(3,.o 1 (.k 0) 0 i),(4,i64 (l.length-1-i))],[.sc (bv (l.reverse.take i))]⟩,fun i=>i<=l.length,fun i=>l.length-i,⟨[],0,Z6 _,[.d 7 0],⟨rfl,rfl,?_,tq⟩,⟨_,rfl,rfl⟩,tq⟩,fun i hi=> ?_⟩
 ·exact d7 (by simp(disch:=omega)only[Za];omega)
 refine c9 (fun h=> ?_) (fun h=> ?_)
 ·have a9:i<l.length:=(by omega);have e:((l.length:Int)-1-(i:Int)).toNat=l.length-1-i:=(by omega);refine⟨by omega,by omega,?_⟩;refine⟨_,by rw[e];exact av (i:=l.length-1-i) (by omega),?_⟩;refine⟨(by simp only[u6,f9,I9,t3,Ze,Zj,Zu,Zv,Zx,Zs,Zw,j4,Zi,Zy,Zo];omega),by omega,(by simp only[u6,f9,I9,t3,Ze,Zj,Zu,Zv,Zx,Zs,Zw,j4,Zi,Zy,Zo];omega),i+1,by omega,(by simp(disch:=omega)only[Za];omega),[.d 21 0],⟨rfl,rfl,d7 (by simp(disch:=omega)only[Za];omega),tq⟩,⟨_,rfl,d9 ?_⟩,tq⟩;have e2:l.reverse[i]'(by simpa using a9)=l[l.length-1-i]:=by rw[Js]
  rw[Zr (by simpa using a9),<-x5,e2,l4];simp[sub,bv,List.take_take]
 ·obtain rfl:i=l.length:=Ka hi (by omega);refine⟨_,rfl,[.k 0],rfl,⟨_,rfl,d9 ?_⟩,tq⟩;rw[<-Zi,Zq]
theorem sU {n:Nat} {va:List Value} {l:Bs} (ha:va=bv l) (hn:l.length=4) (hn':n=4):a7 C 198 [.z n va] [] (.ret (.t [u32 (M7 l).toUInt32,bool true])) []:=by
 subst hn';refine Tm.c ?_;refine⟨[],_,_,_,_,KW ha hn (by omega),rfl,rfl,?_⟩;refine⟨_,rfl,[],congrArg (fun n=>V.t [vi .u32 n,bool true]) ?_,tq⟩;exact me _
theorem z5 {α:Type} {l:List α} {n:Nat} (h:l.length=n):sub l 0 n=l:=by subst h;simp[sub]
theorem b8 {l:Bs} {n:Nat} (h:l.length=n):sub (bv l) 0 n=bv l:=z5 (by rw[f9,h])
theorem K8 {l:List Int} {n:Nat} (h:l.length=n):sub (iv l) 0 n=iv l:=z5 (by rw[I9,h])
theorem y8 {l:List UInt32} {n:Nat} (h:l.length=n):sub (wv l) 0 n=wv l:=z5 (by rw[t3,h])
theorem cQ {n:Nat} {va:List Value} {l:Bs} (ha:va=bv l) (hn:l.length=4) (hn':n=4):a7 C 135 [.z n va] [] (.ret (.t [u32 (M7 l.reverse).toUInt32,bool true])) []:=by
 subst hn';refine Tp.c ?_;refine⟨[],_,_,_,_,zM ha hn (by omega),rfl,rfl,?_⟩;refine⟨[],_,_,_,_,sU (l:=l.reverse) (b8 (by simpa using hn)) (by simpa using hn) rfl,rfl,rfl,?_⟩;exact⟨_,rfl,[],rfl,tq⟩
theorem th {x:Int} {v:UInt32} (hx:x=v.toNat):a7 C 201 [vi .u32 x] [] (.ret (.o 1 (.k 0) 0 4)) [.sc (bv (n8 v.toUInt64 4))]:=by
 subst hx;refine Tq.c ?_;refine⟨[],_,_,_,_,zB (m:=4) (a1w v) rfl (by omega),rfl,rfl,?_⟩;exact⟨_,rfl,[.d 5 0],rfl,⟨_,rfl,rfl⟩,tq⟩
theorem jX {x:Int} {v:UInt32} (hx:x=v.toNat):a7 C 139 [vi .u32 x] [] (.ret (.o 1 (.k 0) 0 4)) [.sc (bv (n8 v.toUInt64 4).reverse)]:=by
 subst hx;refine Tt.c ?_;refine⟨[],_,_,_,_,th rfl,rfl,rfl,?_⟩;refine⟨[],_,_,_,_,zM (l:=n8 v.toUInt64 4) (b8 (u6 _ _)) (u6 _ _) (by omega),rfl,rfl,?_⟩;exact⟨_,rfl,[.d 5 0],rfl,⟨_,rfl,rfl⟩,tq⟩
theorem jW {x:Int} {v:UInt64} (hx:x=v.toNat):a7 C 247 [vi .u64 x] [] (.ret (.o 1 (.k 0) 0 8)) [.sc (bv (n8 v 8))]:=by
 refine Tr.c ?_;refine⟨[],_,_,_,_,zB (m:=8) hx rfl (by omega),rfl,rfl,?_⟩;exact⟨_,rfl,[.d 4 0],rfl,⟨_,rfl,rfl⟩,tq⟩
theorem DJ (v:UInt32) {k:Int} (h0:0<=k) (h1:k<32):
  U3.wrap ((Zc U3.bits (U3.wrap ((v.toNat:Int)*2^(min k.toNat U3.bits)))|||Zc U3.bits ((v.toNat:Int).fdiv (2^(min (32-k).toNat U3.bits)))).toNat:Int)=((C3 v k.toNat).toNat:Int):=by
 rw[mc _ _ h0 h1];unfold C3;by_cases hz:k=0
 ·subst hz;rw[a1v _ _ (by decide),show(0:Int)=((0:UInt32).toNat:Int) from rfl,rI];refine congrArg (fun z:UInt32=>(z.toNat:Int)) (UInt32.toNat_inj.1 ?_);show(v<<<Zn 0|||0).toNat=(v<<<Zn 0|||v>>>Zn (32-0)).toNat;simp[UInt32.toNat_or,Kp,Jc]
 ·rw[am _ _ (by omega) (by omega),rI];congr 5;omega
theorem zu {x n:Int} {v:UInt32} (hx:x=v.toNat) (hn: -9223372036854775808<=n/\n<=9223372036854775807):a7 C 138 [vi .u32 x,i64 n] [] (.ret (u32 (C3 v (n%32).toNat))) []:=by
 subst hx;refine Tu.c ?_;refine⟨[],_,_,_,_,zt (b:=32) (by decide) (by decide) hn,rfl,rfl,?_⟩;have h0:0<=n%32:=(by omega);have h1:n%32<32:=(by omega);have e1:U6.wrap (n%32)=n%32:=by rw[D5];omega
 have e2:U6.wrap (32-U6.wrap (n%32))=32-n%32:=by rw[e1,D5];omega
 refine⟨?_,?_,_,rfl,[],congrArg (vi .u32) ?_,tq⟩
 ·rw[e1];exact h0
 ·rw[e2];omega
 ·rw[e2,e1];exact DJ v h0 h1
def f8 (a b:Bs):Bs:=List.zipWith (· ^^^ ·) a b
theorem w6 {a b:Bs} {n:Nat} (ha:a.length=n) (hb:b.length=n):(f8 a b).length=n:=by simp[f8,ha,hb]
theorem Gv {a b:Bs} {i:Nat} (ha:i<a.length) (hb:i<b.length):f8 (a.take (i+1)) (b.take (i+1))=f8 (a.take i) (b.take i)++[a[i]^^^b[i]]:=by
 unfold f8;rw[Zr ha,Zr hb,List.zipWith_append (by simp;omega)];rfl
theorem vC {α:Type} {l:List α} {x y:α} {n:Nat} {r:List α} (h:l.length=n):(l++y::r).set n x=l++x::r:=by
 subst h;simp
theorem B5 {n:Nat} {va vb:List Value} {a b:Bs} (ha:va=bv a) (hb:vb=bv b) (la:a.length=n) (lb:b.length=n) (hm:n<=1073741824):a7 C 144 [.z n va,.z n vb] [] (.ret (.t [.o 1 (.k 0) 0 n,bool true])) [.sc (bv (f8 a b))]:=by
 subst ha;subst hb;refine Tw.c ?_;refine o9 (fun h=>absurd rfl h) (fun _=> ?_);refine⟨by omega,by omega,by omega,?_⟩;refine j9 (fun i=>⟨[(0,.z n (bv a)),(1,.z n (bv b)),(6,.o 1 (.k 0) 0 n),(17,i64 n),(18,i64 i)],[.sc (bv (f8 (a.take i) (b.take i)++Zk (n-i) 0))]⟩) n ⟨[.d 15 0],⟨rfl,rfl,rfl,rfl,rfl,tq⟩,⟨_,rfl,d9 (by simp[bv,f8])⟩,tq⟩ fun i hi=> ?_;refine c9 (fun h=> ?_) (fun h=> ?_)
 ·have a9:i<n:=(by omega);refine⟨by omega,by omega,_,av (i:=i) (by omega),by omega,by omega,_,av (i:=i) (by omega),by omega,by omega,?_,i+1,by omega,by omega,[.k 0],⟨rfl,rfl,rfl,rfl,d7 (by simp(disch:=omega)only[Za];omega),tq⟩,⟨_,rfl,d9 ?_⟩,tq⟩
  ·rw[f9];simp[f8];omega
  ·rw[u7,L0,Gv (by omega) (by omega),show n-i=(n-(i+1))+1 from (by omega),Kb];congr 1;rw[vC (by simp[f8];omega)];simp
 ·obtain rfl:i=n:=(by omega);refine⟨_,rfl,[.k 0],rfl,⟨_,rfl,d9 ?_⟩,tq⟩;rw[<-la]
  conv=>lhs;rw[Zq,la,<-lb,Zq]
  simp
theorem yM {n b:Int} (hb:0<b) (hb2:b<=4611686018427387904) (hn: -9223372036854775808<=n/\n<=9223372036854775807):a7 C 221 [i64 n,i64 b] [] (.ret (i64 (n%b))) []:=by
 refine Qr.c ?_;refine⟨by omega,by omega,?_⟩;refine⟨_,rfl,[],d7 ?_,tq⟩;have h1: -b<n.tmod b:=J2 n hb;have h2:n.tmod b<b:=Kg n hb;rw[Za _ (by omega)];exact ii n b hb
theorem Lu {x n:Int} {v:UInt32} (hx:x=v.toNat) (hn: -9223372036854775808<=n/\n<=9223372036854775807):a7 C 169 [vi .u32 x,i64 n] [] (.ret (u32 (C3 v (n%32).toNat))) []:=by
 subst hx;refine Qp.c ?_;refine⟨[],_,_,_,_,yM (b:=32) (by decide) (by decide) hn,rfl,rfl,?_⟩;have h0:0<=n%32:=(by omega);have h1:n%32<32:=(by omega);have e1:U6.wrap (n%32)=n%32:=by rw[D5];omega
 have e2:U6.wrap (32-U6.wrap (n%32))=32-n%32:=by rw[e1,D5];omega
 refine⟨?_,?_,_,rfl,[],congrArg (vi .u32) ?_,tq⟩
 ·rw[e1];exact h0
 ·rw[e2];omega
 ·rw[e2,e1];exact DJ v h0 h1
theorem G1 {n:Nat} {va vb:List Value} {a b:Bs} (ha:va=bv a) (hb:vb=bv b) (la:a.length=n) (lb:b.length=n) (hm:n<=1073741824):a7 C 72 [.z n va,.z n vb] [] (.ret (.o 1 (.k 0) 0 n)) [.sc (bv (f8 a b))]:=by
 subst ha;subst hb;refine Qk.c ?_;refine⟨by omega,by omega,by omega,?_⟩;refine j9 (fun i=>⟨[(0,.z n (bv a)),(1,.z n (bv b)),(5,.o 1 (.k 0) 0 n),(6,i64 i)],[.sc (bv (f8 (a.take i) (b.take i)++Zk (n-i) 0))]⟩) n ⟨[.d 9 0],⟨rfl,rfl,rfl,rfl,tq⟩,⟨_,rfl,d9 (by simp[bv,f8])⟩,tq⟩ fun i hi=> ?_;refine c9 (fun h=> ?_) (fun h=> ?_)
 ·have a9:i<n:=(by omega);refine⟨by omega,by omega,_,av (i:=i) (by omega),by omega,by omega,_,av (i:=i) (by omega),by omega,by omega,?_,i+1,by omega,by omega,[.k 0],⟨rfl,rfl,rfl,d7 (by simp(disch:=omega)only[Za];omega),tq⟩,⟨_,rfl,d9 ?_⟩,tq⟩
  ·rw[f9];simp[f8];omega
  ·rw[u7,L0,Gv (by omega) (by omega),show n-i=(n-(i+1))+1 from (by omega),Kb];congr 1;rw[vC (by simp[f8];omega)];simp
 ·obtain rfl:i=n:=(by omega);refine⟨_,rfl,[.k 0],rfl,⟨_,rfl,d9 ?_⟩,tq⟩;rw[<-la]
  conv=>lhs;rw[Zq,la,<-lb,Zq]
  simp
theorem Ei (v:UInt32):n8 v.toUInt64 4=[(v>>>24).toUInt8,(v>>>16).toUInt8,(v>>>8).toUInt8,v.toUInt8]:=by
 have h:∀(x:UInt64) (y:UInt32),x.toNat=y.toNat->x.toUInt8=y.toUInt8:=fun x y e=>Ku.1 (by rw[UInt64.toNat_toUInt8,Kz,e]);have e0:v.toUInt64.toNat=v.toNat:=Z2 v;have s:∀x:UInt64,(x>>>8).toNat=x.toNat>>>8:=fun x=>by rw[UInt64.toNat_shiftRight];rfl
 simp only[n8,Jp,List.cons_append];rw[h (v.toUInt64>>>8>>>8>>>8) (v>>>24),h (v.toUInt64>>>8>>>8) (v>>>16),h (v.toUInt64>>>8) (v>>>8),h v.toUInt64 v e0]
 ·rw[s,e0,Jc];rfl
 ·rw[s,s,e0,Jc,<-Kd];rfl
 ·rw[s,s,s,e0,Jc,<-Kd,<-Kd];rfl
theorem jY {x:Int} {v:UInt32} (hx:x=v.toNat):a7 C 219 [vi .u32 x] [] (.ret (.o 1 (.k 0) 0 4)) [.sc (bv (n8 v.toUInt64 4))]:=by
 subst hx;refine Qm.c ?_;refine⟨by omega,by omega,by omega,?_⟩;refine⟨_,rfl,[.d 14 0],rfl,⟨_,rfl,d9 ?_⟩,tq⟩;rw[am _ _ (by decide) (by decide),am _ _ (by decide) (by decide),am _ _ (by decide) (by decide),iy,iy,iy,iy,Ei];rfl
theorem oV {x:Int} {v:UInt32} (hx:x=v.toNat):a7 C 213 [vi .u32 x] [] (.ret (.o 1 (.k 0) 0 4)) [.sc (bv (n8 v.toUInt64 4).reverse)]:=by
 subst hx;refine Qo.c ?_;refine⟨by omega,by omega,by omega,?_⟩;refine⟨_,rfl,[.d 14 0],rfl,⟨_,rfl,d9 ?_⟩,tq⟩;rw[am _ _ (by decide) (by decide),am _ _ (by decide) (by decide),am _ _ (by decide) (by decide),iy,iy,iy,iy,Ei];rfl
theorem ZM (v:UInt64):n8 v 8=n8 ((v>>>32).toUInt32).toUInt64 4++n8 (v.toUInt32).toUInt64 4:=by
 have h:∀(x y:UInt64),x.toNat%256=y.toNat%256->x.toUInt8=y.toUInt8:=fun x y e=>Ku.1 (by rw[UInt64.toNat_toUInt8,UInt64.toNat_toUInt8,e]);have s:∀x:UInt64,(x>>>8).toNat=x.toNat/256:=fun x=>by rw[UInt64.toNat_shiftRight,Z0];rfl
 have s32:(v>>>32).toNat=v.toNat/4294967296:=by rw[UInt64.toNat_shiftRight,Z0];rfl
 have hv:=v.toNat_lt;simp only[n8,Jp,List.cons_append];congr 1
 ·exact h _ _ (by simp only[s,s32,Z2,UInt64.toNat_toUInt32];omega)
 congr 1
 ·exact h _ _ (by simp only[s,s32,Z2,UInt64.toNat_toUInt32];omega)
 congr 1
 ·exact h _ _ (by simp only[s,s32,Z2,UInt64.toNat_toUInt32];omega)
 congr 1
 ·exact h _ _ (by simp only[s,s32,Z2,UInt64.toNat_toUInt32];omega)
 congr 1
 ·exact h _ _ (by simp only[s,s32,Z2,UInt64.toNat_toUInt32];omega)
 congr 1
 ·exact h _ _ (by simp only[s,s32,Z2,UInt64.toNat_toUInt32];omega)
 congr 1
 ·exact h _ _ (by simp only[s,s32,Z2,UInt64.toNat_toUInt32];omega)
 congr 1;exact h _ _ (by simp only[s,s32,Z2,UInt64.toNat_toUInt32];omega)
theorem dI {x:Int} {v:UInt64} (hx:x=v.toNat):a7 C 228 [vi .u64 x] [] (.ret (.o 1 (.k 0) 0 8)) [.sc (bv (n8 v 8))]:=by
 subst hx;refine Qn.c ?_;refine⟨by omega,?_⟩;refine⟨[],_,_,_,_,jY (v:=(v>>>32).toUInt32) (by rw[Gd _ _ (by decide) (by decide),me];rfl),rfl,rfl,?_⟩;refine⟨[],_,_,_,_,jY (v:=v.toUInt32) (me v),rfl,rfl,?_⟩;refine⟨(by simp only[u6,f9,I9,t3,Ze,Zj,Zu,Zv,Zx,Zs,Zw,j4,Zi,Zy,Zo];omega),by omega,(by simp only[u6,f9,I9,t3,Ze,Zj,Zu,Zv,Zx,Zs,Zw,j4,Zi,Zy,Zo];omega),?_⟩;refine⟨_,rfl,[.d 10 0],rfl,⟨_,rfl,d9 ?_⟩,tq⟩;rw[b8 (u6 _ _),b8 (u6 _ _),x5,ZM]
theorem Ih {n:Nat} {va:List Value} {l:Bs} (ha:va=bv l) (hn:l.length=n) (hm:n<=1073741824):a7 C 175 [.z n va] [] (.ret (u64 (M7 l))) []:=by
 subst ha;subst hn;refine Qj.c ?_;refine j9 (fun i=>⟨[(0,bz l),(3,u64 (M7 (l.take i))),(4,i64 i)],[]⟩) l.length ⟨[],⟨rfl,rfl,rfl,tq⟩,tq⟩ fun i hi=> ?_;refine c9 (fun h=> ?_) (fun h=> ?_)
 ·have a9:i<l.length:=(by omega);refine⟨by omega,by omega,by omega,_,av (i:=i) a9,i+1,a9,J7 _ _ a9,[],⟨rfl,congrArg (vi .u64) ?_,d7 (by simp(disch:=omega)only[Za];omega),tq⟩,tq⟩;rw[vY _ _ (by decide) (by decide),wc,vX,uM a9];rfl
 ·obtain rfl:i=l.length:=Ka hi (by omega);refine⟨_,rfl,[],congrArg (vi .u64) ?_,tq⟩;rw[Zq]
theorem eN {n:Nat} {va:List Value} {l:Bs} (ha:va=bv l) (hn:l.length=n) (hm:n<=1073741824):a7 C 166 [.z n va] [] (.ret (u64 (M7 l.reverse))) []:=by
 subst ha;subst hn;refine Ql.c ?_;refine j9 (fun i=>⟨[(0,bz l),(3,u64 (M7 (l.reverse.take i))),(4,i64 (l.length-i))],[]⟩) l.length ⟨[],⟨rfl,rfl,d7 (by simp),tq⟩,tq⟩ fun i hi=> ?_;refine c9 (fun h=> ?_) (fun h=> ?_)
 ·have a9:i<l.length:=(by omega);have e:(I6.wrap ((l.length:Int)-i-1)).toNat=l.length-1-i:=by simp only[IntKind.wrap_i64];omega
  refine⟨by omega,(by simp(disch:=omega)only[Za];omega),by omega,?_⟩;refine⟨_,by rw[e];exact av (i:=l.length-1-i) (by omega),?_⟩;refine⟨i+1,a9,J7 _ _ a9,[],⟨rfl,congrArg (vi .u64) ?_,d7 (by simp(disch:=omega)only[Za];omega),tq⟩,tq⟩;rw[vY _ _ (by decide) (by decide),wc,vX,uM (by simpa using a9),Js];rfl
 ·obtain rfl:i=l.length:=Ka hi (by omega);refine⟨_,rfl,[],congrArg (vi .u64) ?_,tq⟩;rw[<-Zi,Zq]
theorem p7 {k:List UInt32} {i:Nat} (h:i<k.length):(wv k)[i]? =some (.int .u32 (k.getD i 0).toNat):=by
 rw[wl h,Zd,Zf h];rfl
theorem A1 {k:Bs} {i:Nat} (h:i<k.length):(bv k)[i]? =some (.int .u8 (k.getD i 0).toNat):=by
 rw[av h,Zd,Zf h];rfl
theorem uF {k:List Int} {i:Nat} (h:i<k.length):(iv k)[i]? =some (.int .i64 (k.getD i 0)):=by
 rw[uE h,Zd,Zf h];rfl
theorem JR {n:Int} (h:0<n) (hm:n<=1073741824):a7 C 120 [.s (.slice none 0 0),i64 n] [] (.ret (.o 1 (.k 0) 0 0)) [.sc (bv (Zk n.toNat 0))]:=by
 refine Bd.c ?_;refine c9 (fun h=>absurd h (by omega)) (fun _=> ?_);have e1:I6.wrap (n-I6.wrap (0-((0:Nat):Int)))=n:=by simp only[IntKind.wrap_i64];omega
 refine bG (decide_eq_true (by rw[e1];exact h)) ?_;refine⟨Jh 0,Zp 0,Zp 0,Zp 0,?_⟩;refine⟨by rw[e1];exact h,by rw[e1];exact hm,_,rfl,?_⟩;refine⟨Jh 0,Zp 0,Zp 0,Z6 _,?_⟩;refine⟨_,rfl,[.d 22 0],rfl,⟨_,rfl,d9 ?_⟩,tq⟩;rw[e1];exact S2 _
theorem Ip {n:Nat} {ls:List (Bs)} {xs:List V} (hx:xs=ls.map fun l=>bz l) (hn:ls.length=n) (h0:0<ls.flatten.length) (hm:ls.flatten.length<=1073741824) (hn2:n<=1073741824):a7 C 65 [.zz 1 n xs] [] (.ret (.o 1 (.k 0) 0 ls.flatten.length)) [.sc (bv ls.flatten)]:=by
 subst hx;subst hn;have get:∀i,(h:i<ls.length)->(ls.map fun l=>bz l)[i]? =some (bz ls[i]):=fun i h=>by simp[h]
 have stepL:∀i,(h:i<ls.length)->(ls.take (i+1)).flatten=(ls.take i).flatten++ls[i]:=fun i h=>by rw[Zr h,Jw,List.flatten_cons,List.flatten_nil,Z8]
 have le:∀i,(ls.take i).flatten.length<=ls.flatten.length:=fun i=>by
  conv=>rhs;rw[<-Kx i ls,Jw,Ze]
  omega
 refine Bc.c ?_;refine j9 (fun i=>⟨[(0,.zz 1 ls.length (ls.map fun l=>bz l)),(3,i64 (ls.take i).flatten.length),(9,.zz 1 ls.length (ls.map fun l=>bz l)),(10,i64 ls.length),(11,i64 i)],[]⟩) ls.length ⟨[],⟨rfl,rfl,rfl,rfl,rfl,tq⟩,tq⟩ fun i hi=> ?_;refine c9 (fun h=> ?_) (fun h=> ?_)
 ·have a9:i<ls.length:=(by omega);have e:((i:Int)).toNat*1=i:=(by omega);have l1:=le (i+1);rw[stepL i a9,Ze]at l1;have e1:I6.wrap (((ls.take i).flatten.length:Int)+(ls[i].length:Nat))=((ls.take (i+1)).flatten.length:Nat):=by rw[stepL i a9,Ze];simp only[IntKind.wrap_i64];omega
  refine⟨by omega,by omega,?_⟩;refine⟨_,by rw[e];exact get i a9,?_⟩;refine w9 (decide_eq_false (by rw[e1];omega)) ?_;exact⟨i+1,by omega,by omega,[],⟨rfl,d7 e1,rfl,rfl,d7 (by simp(disch:=omega)only[Za];omega),tq⟩,tq⟩
 ·obtain rfl:i=ls.length:=(by omega);refine⟨[],_,_,_,_,JR (n:=ls.flatten.length) (by omega) (by omega),?_,rfl,?_⟩
  ·show[V.s (.slice none 0 0),i64 _]=_;rw[Zq]
  refine⟨Nat×Bs,fun x=>⟨[(6,.o 1 (.k 0) 0 (ls.take x.1).flatten.length),(25,.zz 1 ls.length (ls.map fun l=>bz l)),(26,i64 ls.length),(27,i64 x.1)],[.sc (bv ((ls.take x.1).flatten++x.2))]⟩,fun x=>x.1<=ls.length/\(x.1=ls.length->x.2=[]),fun x=>ls.length-x.1,⟨[],(0,Zk ls.flatten.length 0),⟨Z6 _,fun h=> ?_⟩,[.d 24 0],⟨rfl,rfl,rfl,rfl,tq⟩,⟨_,rfl,d9 ?_⟩,tq⟩,?_⟩
  ·exfalso;have:ls=[]:=J8 h.symm;subst this;simp at h0
  ·simp
  rintro ⟨i,z⟩ ⟨hi,hz⟩;simp only at hi hz;refine c9 (fun h=> ?_) (fun h=> ?_)
  ·have a9:i<ls.length:=(by omega);have e:((i:Int)).toNat*1=i:=(by omega);have l1:=le (i+1);rw[stepL i a9,Ze]at l1;refine⟨by omega,by omega,?_⟩;refine⟨_,by rw[e];exact get i a9,?_⟩;refine⟨(by simp[u6,f9,I9,t3,Ze,Zj,Zu,Zv,Zx,Zs,Zw,j4,Zi,Zy,Zo];done),(by simp(disch:=omega)only[Za];omega),(by simp only[u6,f9,I9,t3,Ze,Zj,Zu,Zv,Zx,Zs,Zw,j4,Zi,Zy,Zo];omega),?_⟩;refine⟨(i+1,[]),⟨by omega,fun _=>rfl⟩,(by simp(disch:=omega)only[Za];omega),[.d 33 0],⟨?_,rfl,rfl,d7 (by simp(disch:=omega)only[Za];omega),tq⟩,⟨_,rfl,d9 ?_⟩,tq⟩
   ·show V.o 1 (.k 0) 0 _=V.o 1 (.k 0) 0 _;rw[stepL i a9,Ze]
   ·rw[l4,x5,stepL i a9];simp[sub]
  ·obtain rfl:i=ls.length:=(by omega);refine⟨_,rfl,[.k 0],?_,⟨_,rfl,d9 ?_⟩,tq⟩
   ·show V.o 1 (.k 0) 0 _=V.o 1 (.k 0) 0 _;rw[Zq]
   ·rw[Zq,hz rfl,Z8]
theorem U1 {n:Nat} {ls:List (Bs)} {t:Bs} {xs:List V} (ht:ls.flatten=t) (hx:xs=ls.map fun l=>bz l) (hn:ls.length=n) (h0:0<t.length) (hm:t.length<=1073741824) (hn2:n<=1073741824:=by first|decide|simp):a7 C 65 [.zz 1 n xs] [] (.ret (.o 1 (.k 0) 0 t.length)) [.sc (bv t)]:=by
 subst ht;exact Ip hx hn h0 hm hn2
def lR (v key:UInt32):UInt32:=((v<<<4^^^v>>>5)+v)^^^key
def G2:UInt32:=2654435769
def O8 (k:List UInt32) (x:UInt32×UInt32×UInt32):UInt32×UInt32×UInt32:=
 let v:=x.1+lR x.2.1 (x.2.2+k.getD (x.2.2&&&3).toNat 0)
 let s:=x.2.2+G2
 (v,x.2.1+lR v (s+k.getD (s>>>11&&&3).toNat 0),s)
def O7 (k:List UInt32) (x:UInt32×UInt32×UInt32):UInt32×UInt32×UInt32:=
 let w:=x.2.1-lR x.1 (x.2.2+k.getD (x.2.2>>>11&&&3).toNat 0)
 let s:=x.2.2-G2
 (x.1-lR w (s+k.getD (s&&&3).toNat 0),w,s)
theorem mw (x:UInt32):(x&&&3).toNat<4:=by
 rw[J5];exact Jz (n:=2) _ (by decide)
theorem rH (s:UInt32):U3.wrap ((Zc U3.bits (s.toNat:Int)&&&Zc U3.bits 3).toNat:Int)=((s&&&3).toNat:Int):=vW s 3
theorem ix (s:UInt32):U3.wrap ((s.toNat:Int)+2654435769)=((s+G2).toNat:Int):=s6 s G2
theorem mb (s:UInt32):U3.wrap ((s.toNat:Int)-2654435769)=((s-G2).toNat:Int):=ao s G2
theorem pg {x y:Int} {v k:UInt32} (hx:x=v.toNat) (hy:y=k.toNat):a7 C 206 [vi .u32 x,vi .u32 y] [] (.ret (u32 (lR v k))) []:=by
 subst hx;subst hy;refine Tb.c ?_;refine⟨by omega,by omega,_,rfl,[],congrArg (vi .u32) ?_,tq⟩;rw[mc _ _ (by decide) (by decide),am _ _ (by decide) (by decide),z6,s6,z6];rfl
abbrev M9 (k:List UInt32) (tag:Int):V:= .q [wz k,i64 tag] 0
theorem zU {tag x y:Int} {k:List UInt32} {v w:UInt32} (hk:k.length=4) (hx:x=v.toNat) (hy:y=w.toNat):a7 C 149 [M9 k tag,vi .u32 x,vi .u32 y,bool false] []
  (.ret (.t [u32 (it (O8 k) 32 (v,w,0)).1,u32 (it (O8 k) 32 (v,w,0)).2.1])) []:=by
 subst hx;subst hy;refine Bg.c ?_;refine ri 0 rfl (O8 k) (v,w,0) 32 (fun i z=>⟨[(0,M9 k tag),(1,u32 z.1),(2,u32 z.2.1),(3,bool false),(10,u32 z.2.2),(11,i64 i)],[]⟩) ⟨[],(0,(v,w,0)),⟨Z6 _,rfl⟩,[],⟨rfl,rfl,rfl,rfl,rfl,rfl,tq⟩,tq⟩ fun i z hi hz=> ?_;refine j7 (fun h=> ?_) (fun h=> ?_)
 ·obtain rfl:i=32:=(by omega);rw[<-hz];exact⟨_,rfl,[],rfl,tq⟩
 ·have a9:i<32:=(by omega);have e1:=rH z.2.2;have b1:=mw z.2.2;refine⟨_,rfl,?_⟩;refine⟨by rw[e1];omega,by rw[e1,hk];omega,?_⟩;refine⟨_,by rw[e1,Zb];exact p7 (i:=(z.2.2&&&3).toNat) (by omega),?_⟩;refine⟨[],_,_,_,_,pg rfl (by rw[s6]),rfl,rfl,?_⟩;have b2:=mw ((z.2.2+G2)>>>11);have e2:U3.wrap ((Zc U3.bits ((U3.wrap ((z.2.2.toNat:Int)+2654435769)).fdiv (2^(min (11:Int).toNat U3.bits)))&&&Zc U3.bits 3).toNat:Int)=(((z.2.2+G2)>>>11&&&3).toNat:Int):=by
   rw[ix,am _ _ (by decide) (by decide)];exact rH _
  refine⟨_,rfl,by omega,?_⟩;refine⟨by rw[e2];omega,by rw[e2,hk];omega,?_⟩;refine⟨_,by rw[e2,Zb];exact p7 (i:=((z.2.2+G2)>>>11&&&3).toNat) (by omega),?_⟩;refine⟨[],_,_,_,_,pg (s6 _ _) (by rw[ix,s6]),rfl,rfl,?_⟩;refine⟨rfl,(i+1,O8 k z),⟨a9,bt hz⟩,by omega,[],⟨rfl,congrArg (vi .u32) (s6 _ _),congrArg (vi .u32) (s6 _ _),rfl,congrArg (vi .u32) (ix _),d7 (by simp(disch:=omega)only[Za];omega),tq⟩,tq⟩
theorem zT {tag x y:Int} {k:List UInt32} {v w:UInt32} (hk:k.length=4) (hx:x=v.toNat) (hy:y=w.toNat):a7 C 149 [M9 k tag,vi .u32 x,vi .u32 y,bool true] []
  (.ret (.t [u32 (it (O7 k) 32 (v,w,3337565984)).1,u32 (it (O7 k) 32 (v,w,3337565984)).2.1])) []:=by
 subst hx;subst hy;refine Bg.c ?_;refine ri 0 rfl (O7 k) (v,w,3337565984) 32 (fun i z=>⟨[(0,M9 k tag),(1,u32 z.1),(2,u32 z.2.1),(3,bool true),(10,u32 z.2.2),(11,i64 i)],[]⟩) ⟨[],(0,(v,w,3337565984)),⟨Z6 _,rfl⟩,[],⟨rfl,rfl,rfl,rfl,rfl,rfl,tq⟩,tq⟩ fun i z hi hz=> ?_;refine j7 (fun h=> ?_) (fun h=> ?_)
 ·obtain rfl:i=32:=(by omega);rw[<-hz];exact⟨_,rfl,[],rfl,tq⟩
 ·have a9:i<32:=(by omega);have b1:=mw (z.2.2>>>11);have e1:U3.wrap ((Zc U3.bits ((z.2.2.toNat:Int).fdiv (2^(min (11:Int).toNat U3.bits)))&&&Zc U3.bits 3).toNat:Int)=((z.2.2>>>11&&&3).toNat:Int):=by
   rw[am _ _ (by decide) (by decide)];exact rH _
  refine⟨_,rfl,by omega,?_⟩;refine⟨by rw[e1];omega,by rw[e1,hk];omega,?_⟩;refine⟨_,by rw[e1,Zb];exact p7 (i:=(z.2.2>>>11&&&3).toNat) (by omega),?_⟩;refine⟨[],_,_,_,_,pg rfl (by rw[s6]),rfl,rfl,?_⟩;have b2:=mw (z.2.2-G2);have e2:U3.wrap ((Zc U3.bits (U3.wrap ((z.2.2.toNat:Int)-2654435769))&&&Zc U3.bits 3).toNat:Int)=(((z.2.2-G2)&&&3).toNat:Int):=by
   rw[mb];exact rH _
  refine⟨_,rfl,?_⟩;refine⟨by rw[e2];omega,by rw[e2,hk];omega,?_⟩;refine⟨_,by rw[e2,Zb];exact p7 (i:=((z.2.2-G2)&&&3).toNat) (by omega),?_⟩;refine⟨[],_,_,_,_,pg (ao _ _) (by rw[mb,s6]),rfl,rfl,?_⟩;refine⟨rfl,(i+1,O7 k z),⟨a9,bt hz⟩,by omega,[],⟨rfl,congrArg (vi .u32) (ao _ _),congrArg (vi .u32) (ao _ _),rfl,congrArg (vi .u32) (mb _),d7 (by simp(disch:=omega)only[Za];omega),tq⟩,tq⟩
theorem GX (x:UInt32):(x&&&3).toNat=x.toNat%4:=by
 rw[J5];exact Jn x.toNat 2
abbrev F8 (k:List UInt32) (tag:Int):V:= .q [i64 tag,wz k] 0
theorem oS {tag x y t:Int} {k:List UInt32} {w s a:UInt32} (hk:k.length=4) (hx:x=w.toNat) (hy:y=s.toNat) (ht:t=a.toNat):a7 C 260 [F8 k tag,vi .u32 x,vi .u32 y,vi .u32 t] [] (.ret (u32 (lR w (s+k.getD (a&&&3).toNat 0)))) []:=by
 subst hx;subst hy;subst ht;refine Ry.c ?_;have e:((a.toNat:Int).tmod 4)=((a&&&3).toNat:Int):=by
  rw[GX,Jk (Int.natCast_nonneg _)];rfl
 have b:=mw a;refine⟨by omega,by omega,_,rfl,by decide,?_⟩;refine⟨by rw[e];omega,by rw[e,hk];omega,?_⟩;refine⟨_,by rw[e,Zb];exact p7 (i:=(a&&&3).toNat) (by omega),?_⟩;refine⟨_,rfl,[],congrArg (vi .u32) ?_,tq⟩;rw[mc _ _ (by decide) (by decide),am _ _ (by decide) (by decide),z6,s6,s6,z6];rfl
theorem zj {tag x y:Int} {k:List UInt32} {v w:UInt32} (hk:k.length=4) (hx:x=v.toNat) (hy:y=w.toNat):a7 C 217 [F8 k tag,vi .u32 x,vi .u32 y,bool false] []
  (.ret (.t [u32 (it (O8 k) 32 (v,w,0)).1,u32 (it (O8 k) 32 (v,w,0)).2.1])) []:=by
 subst hx;subst hy;refine AY.c ?_;refine ny (O8 k) (v,w,0) 32 (fun i z=>⟨[(0,F8 k tag),(1,u32 z.1),(2,u32 z.2.1),(10,u32 z.2.2),(11,i64 i)],[]⟩) ⟨[],⟨rfl,rfl,rfl,rfl,rfl,tq⟩,tq⟩ fun i z hi hz=> ?_;refine c9 (fun h=> ?_) (fun h=> ?_)
 ·have a9:i<32:=(by omega);refine⟨[],_,_,_,_,oS hk rfl rfl rfl,rfl,rfl,?_⟩;refine⟨by omega,?_⟩;refine⟨[],_,_,_,_,oS hk (s6 _ _) (ix _) (by rw[ix,am _ _ (by decide) (by decide)]),rfl,rfl,?_⟩;refine⟨(i+1,O8 k z),⟨a9,bt hz⟩,by omega,[],⟨rfl,congrArg (vi .u32) (s6 _ _),congrArg (vi .u32) (s6 _ _),congrArg (vi .u32) (ix _),d7 (by simp(disch:=omega)only[Za];omega),tq⟩,tq⟩
 ·obtain rfl:i=32:=(by omega);rw[<-hz];exact⟨_,rfl,[],rfl,tq⟩
theorem zi {tag x y:Int} {k:List UInt32} {v w:UInt32} (hk:k.length=4) (hx:x=v.toNat) (hy:y=w.toNat):a7 C 217 [F8 k tag,vi .u32 x,vi .u32 y,bool true] []
  (.ret (.t [u32 (it (O7 k) 32 (v,w,3337565984)).1,u32 (it (O7 k) 32 (v,w,3337565984)).2.1])) []:=by
 subst hx;subst hy;refine AY.c ?_;refine ny (· +G2) 0 32 (fun i z=>⟨[(0,F8 k tag),(1,u32 v),(2,u32 w),(10,u32 z),(12,i64 i)],[]⟩) ⟨[],⟨rfl,rfl,rfl,rfl,rfl,tq⟩,tq⟩ fun i z hi hz=> ?_;refine c9 (fun h=> ?_) (fun h=> ?_)
 ·have a9:i<32:=(by omega);refine⟨(i+1,z+G2),⟨a9,bt hz⟩,by omega,[],⟨rfl,rfl,rfl,congrArg (vi .u32) (ix _),d7 (by simp(disch:=omega)only[Za];omega),tq⟩,tq⟩
 obtain rfl:i=32:=(by omega);obtain rfl:z=3337565984:=by rw[hz];decide
 refine ny (O7 k) (v,w,3337565984) 32 (fun i z=>⟨[(0,F8 k tag),(1,u32 z.1),(2,u32 z.2.1),(10,u32 z.2.2),(13,i64 i)],[]⟩) ⟨[],⟨rfl,rfl,rfl,rfl,rfl,tq⟩,tq⟩ fun i z hi hz=> ?_;refine c9 (fun h=> ?_) (fun h=> ?_)
 ·have a9:i<32:=(by omega);refine⟨by omega,?_⟩;refine⟨[],_,_,_,_,oS hk rfl rfl (by rw[am _ _ (by decide) (by decide)]),rfl,rfl,?_⟩;refine⟨[],_,_,_,_,oS hk (ao _ _) (mb _) (mb _),rfl,rfl,?_⟩;refine⟨(i+1,O7 k z),⟨a9,bt hz⟩,by omega,[],⟨rfl,congrArg (vi .u32) (ao _ _),congrArg (vi .u32) (ao _ _),congrArg (vi .u32) (mb _),d7 (by simp(disch:=omega)only[Za];omega),tq⟩,tq⟩
 ·obtain rfl:i=32:=(by omega);rw[<-hz];exact⟨_,rfl,[],rfl,tq⟩
def P4 (c:UInt8):Nat:=if 65<=c.toNat then c.toNat-55 else c.toNat-48
def dV (c:UInt8):Bool:=decide (48<=c.toNat/\c.toNat<=57\/65<=c.toNat/\c.toNat<=70)
theorem tX {c:UInt8} (h:dV c=true):P4 c<16:=by
 unfold dV at h;unfold P4;have:=of_decide_eq_true h;split<;>omega
theorem Mj {x:Int} {c:UInt8} (hx:x=c.toNat) (h:dV c=true):a7 C 250 [vi .u8 x] [] (.ret (u32 (Zn (P4 c)))) []:=by
 subst hx;have h':=of_decide_eq_true h;refine Ta.c ?_;refine c9 (fun h1=> ?_) (fun h1=> ?_)
 ·refine⟨_,rfl,[],congrArg (vi .u32) ?_,tq⟩;simp only[wrap_u8,wrap_u32,Jm,P4];split<;>omega
 ·refine⟨_,rfl,[],congrArg (vi .u32) ?_,tq⟩;simp only[wrap_u8,wrap_u32,Jm,P4];split<;>omega
theorem JH {x:Int} {c:UInt8} (hx:x=c.toNat) (h:dV c=true):a7 C 275 [vi .u8 x] [] (.ret (i64 (P4 c))) []:=by
 subst hx;have h':=of_decide_eq_true h;refine Rg.c ?_;refine c9 (fun h1=> ?_) (fun h1=> ?_)
 ·refine⟨_,rfl,[],d7 ?_,tq⟩;simp only[wrap_u8,IntKind.wrap_i64,P4];split<;>omega
 ·refine⟨_,rfl,[],d7 ?_,tq⟩;simp only[wrap_u8,IntKind.wrap_i64,P4];split<;>omega
def bu:List (Bs):=[[67,52,54,50,65,53,66,57,69,56,68,55,48,51,70,49],[54,56,50,51,57,65,53,67,49,69,52,55,66,68,48,70],[66,51,53,56,50,70,65,68,69,49,55,52,67,57,54,48],[67,56,50,49,68,52,70,54,55,48,65,53,51,69,57,66],[55,70,53,65,56,49,54,68,48,57,51,69,66,52,50,67],[53,68,70,54,57,50,67,65,66,55,56,49,52,51,69,48],[56,69,50,53,54,57,49,67,70,52,66,48,68,65,51,55],[49,55,69,68,48,53,56,51,52,70,65,54,57,67,66,50]]
abbrev I5 (l:Bs):V:= .s (.string ⟨l.toArray⟩)
theorem KY:a7 C 249 [] [] (.ret (.a (bu.map I5))) []:=by
 refine SS.c ?_;exact⟨by decide,_,rfl,rfl,_,rfl,[],rfl,tq⟩
def uN (x:UInt32) (i:Nat):UInt32:=Zn (P4 ((bu.getD i []).getD (x>>>Zn (4*i)&&&15).toNat 48))<<<Zn (4*i)
def mG (x k:UInt32):UInt32:=C3 ((List.range 8).foldl (fun o i=>o|||uN (x+k) i) 0) 11
theorem Cj:∀i,i<8->∀j,j<16->dV ((bu.getD i []).getD j 48)=true:=by decide
theorem Vo (i:Nat) (h:i<8):(bu.map I5)[i]? =some (I5 (bu.getD i [])):=by
 have:i<bu.length:=h;simp[this]
theorem xi (x:UInt32):(x&&&15).toNat<16:=by
 rw[J5];exact Jz (n:=4) _ (by decide)
theorem Ck (i:Nat) (h:i<8):(bu.getD i []).length=16:=by
 revert h;revert i;decide
theorem nQ {l:Bs} {j:Nat} (h:j<l.length):(ByteArray.mk l.toArray).data.toList[j]? =some (l.getD j 48):=by
 simp[List.getD,h]
theorem xQ {a b:Int} {x k:UInt32} (ha:a=x.toNat) (hb:b=k.toNat):a7 C 208 [vi .u32 a,vi .u32 b] [] (.ret (u32 (mG x k))) []:=by
 subst ha;subst hb;refine Sy.c ?_;refine⟨[],_,_,_,_,KY,rfl,rfl,?_⟩;refine j9 (fun i=>⟨[(0,u32 (x+k)),(5,u32 ((List.range i).foldl (fun o i=>o|||uN (x+k) i) 0)),(11,.a (bu.map I5)),(12,i64 i)],[]⟩) 8 ⟨[],⟨congrArg (vi .u32) (s6 _ _),rfl,rfl,rfl,tq⟩,tq⟩ fun i hi=> ?_;refine c9 (fun h=> ?_) (fun h=> ?_)
 ·have a9:i<8:=(by omega);refine⟨by omega,by omega,_,by rw[Zb,Zm];exact Vo i a9,?_⟩;have e4:I6.wrap (4*(i:Int))=((4*i:Nat):Int):=by simp only[IntKind.wrap_i64];omega
  have e5:((x+k).toNat:Int).fdiv (2^(min (((4*i:Nat):Int)).toNat U3.bits))=(((x+k)>>>Zn (4*i)).toNat:Int):=by
   rw[am _ _ (by omega) (by omega),Zb]
  have e6:U3.wrap ((Zc U3.bits ((((x+k)>>>Zn (4*i)).toNat:Nat):Int)&&&Zc U3.bits 15).toNat:Int)=(((x+k)>>>Zn (4*i)&&&15).toNat:Int):=vW _ 15;have b:=xi ((x+k)>>>Zn (4*i));have hl:=Ck i a9;refine⟨by rw[e4];omega,by rw[e4,e5,e6];omega,?_,?_⟩
  ·rw[e4,e5,e6];show((((x+k)>>>Zn (4*i)&&&15).toNat:Nat):Int)<(((bu.getD i []).toArray.size:Nat):Int);simp only[List.size_toArray,hl];omega
  refine⟨_,by rw[e4,e5,e6,Zb];exact nQ (by omega),?_⟩;refine⟨[],_,_,_,_,Mj rfl (Cj i a9 _ b),rfl,rfl,?_⟩;refine⟨by rw[e4];omega,?_⟩;refine⟨i+1,a9,by omega,[],⟨rfl,congrArg (vi .u32) ?_,rfl,d7 (by simp(disch:=omega)only[Za];omega),tq⟩,tq⟩;rw[e4,mc _ _ (by omega) (by omega),rI,Zz,J4,Zb];rfl
 ·obtain rfl:i=8:=(by omega);refine⟨[],_,_,_,_,zu rfl (by decide),rfl,rfl,?_⟩;exact⟨_,rfl,[],rfl,tq⟩
theorem JS {n:Int} (h:0<n) (hm:n<=1073741824):a7 C 248 [.s (.slice none 0 0),i64 n] [] (.ret (.o 1 (.k 0) 0 0)) [.sc (wv (Zk n.toNat 0))]:=by
 refine Su.c ?_;refine c9 (fun h=>absurd h (by omega)) (fun _=> ?_);have e1:I6.wrap (n-I6.wrap (0-((0:Nat):Int)))=n:=by simp only[IntKind.wrap_i64];omega
 refine bG (decide_eq_true (by rw[e1];exact h)) ?_;refine⟨Jh 0,Zp 0,Zp 0,Zp 0,?_⟩;refine⟨by rw[e1];exact h,by rw[e1];exact hm,_,rfl,?_⟩;refine⟨Jh 0,Zp 0,Zp 0,Z6 _,?_⟩;refine⟨_,rfl,[.d 22 0],rfl,⟨_,rfl,d9 ?_⟩,tq⟩;rw[e1];exact a1T _
theorem Iq {n:Nat} {ls:List (List UInt32)} {xs:List V} (hx:xs=ls.map fun l=>wz l) (hn:ls.length=n) (h0:0<ls.flatten.length) (hm:ls.flatten.length<=1073741824) (hn2:n<=1073741824):a7 C 207 [.zz 1 n xs] [] (.ret (.o 1 (.k 0) 0 ls.flatten.length)) [.sc (wv ls.flatten)]:=by
 subst hx;subst hn;have get:∀i,(h:i<ls.length)->(ls.map fun l=>wz l)[i]? =some (wz ls[i]):=fun i h=>by simp[h]
 have stepL:∀i,(h:i<ls.length)->(ls.take (i+1)).flatten=(ls.take i).flatten++ls[i]:=fun i h=>by rw[Zr h,Jw,List.flatten_cons,List.flatten_nil,Z8]
 have le:∀i,(ls.take i).flatten.length<=ls.flatten.length:=fun i=>by
  conv=>rhs;rw[<-Kx i ls,Jw,Ze]
  omega
 refine Sr.c ?_;refine j9 (fun i=>⟨[(0,.zz 1 ls.length (ls.map fun l=>wz l)),(3,i64 (ls.take i).flatten.length),(9,.zz 1 ls.length (ls.map fun l=>wz l)),(10,i64 ls.length),(11,i64 i)],[]⟩) ls.length ⟨[],⟨rfl,rfl,rfl,rfl,rfl,tq⟩,tq⟩ fun i hi=> ?_;refine c9 (fun h=> ?_) (fun h=> ?_)
 ·have a9:i<ls.length:=(by omega);have e:((i:Int)).toNat*1=i:=(by omega);have l1:=le (i+1);rw[stepL i a9,Ze]at l1;have e1:I6.wrap (((ls.take i).flatten.length:Int)+(ls[i].length:Nat))=((ls.take (i+1)).flatten.length:Nat):=by rw[stepL i a9,Ze];simp only[IntKind.wrap_i64];omega
  refine⟨by omega,by omega,?_⟩;refine⟨_,by rw[e];exact get i a9,?_⟩;refine w9 (decide_eq_false (by rw[e1];omega)) ?_;exact⟨i+1,by omega,by omega,[],⟨rfl,d7 e1,rfl,rfl,d7 (by simp(disch:=omega)only[Za];omega),tq⟩,tq⟩
 ·obtain rfl:i=ls.length:=(by omega);refine⟨[],_,_,_,_,JS (n:=ls.flatten.length) (by omega) (by omega),?_,rfl,?_⟩
  ·show[V.s (.slice none 0 0),i64 _]=_;rw[Zq]
  refine⟨Nat×List UInt32,fun x=>⟨[(6,.o 1 (.k 0) 0 (ls.take x.1).flatten.length),(25,.zz 1 ls.length (ls.map fun l=>wz l)),(26,i64 ls.length),(27,i64 x.1)],[.sc (wv ((ls.take x.1).flatten++x.2))]⟩,fun x=>x.1<=ls.length/\(x.1=ls.length->x.2=[]),fun x=>ls.length-x.1,⟨[],(0,Zk ls.flatten.length 0),⟨Z6 _,fun h=> ?_⟩,[.d 24 0],⟨rfl,rfl,rfl,rfl,tq⟩,⟨_,rfl,d9 ?_⟩,tq⟩,?_⟩
  ·exfalso;have:ls=[]:=J8 h.symm;subst this;simp at h0
  ·simp
  rintro ⟨i,z⟩ ⟨hi,hz⟩;simp only at hi hz;refine c9 (fun h=> ?_) (fun h=> ?_)
  ·have a9:i<ls.length:=(by omega);have e:((i:Int)).toNat*1=i:=(by omega);have l1:=le (i+1);rw[stepL i a9,Ze]at l1;refine⟨by omega,by omega,?_⟩;refine⟨_,by rw[e];exact get i a9,?_⟩;refine⟨(by simp[u6,f9,I9,t3,Ze,Zj,Zu,Zv,Zx,Zs,Zw,j4,Zi,Zy,Zo];done),(by simp(disch:=omega)only[Za];omega),(by simp only[u6,f9,I9,t3,Ze,Zj,Zu,Zv,Zx,Zs,Zw,j4,Zi,Zy,Zo];omega),?_⟩;refine⟨(i+1,[]),⟨by omega,fun _=>rfl⟩,(by simp(disch:=omega)only[Za];omega),[.d 33 0],⟨?_,rfl,rfl,d7 (by simp(disch:=omega)only[Za];omega),tq⟩,⟨_,rfl,d9 ?_⟩,tq⟩
   ·show V.o 1 (.k 0) 0 _=V.o 1 (.k 0) 0 _;rw[stepL i a9,Ze]
   ·rw[a1U,mg,stepL i a9];simp[sub]
  ·obtain rfl:i=ls.length:=(by omega);refine⟨_,rfl,[.k 0],?_,⟨_,rfl,d9 ?_⟩,tq⟩
   ·show V.o 1 (.k 0) 0 _=V.o 1 (.k 0) 0 _;rw[Zq]
   ·rw[Zq,hz rfl,Z8]
theorem yi {n:Nat} {ls:List (List UInt32)} {t:List UInt32} {xs:List V} (ht:ls.flatten=t) (hx:xs=ls.map fun l=>wz l) (hn:ls.length=n) (h0:0<t.length) (hm:t.length<=1073741824) (hn2:n<=1073741824:=by first|decide|simp):a7 C 207 [.zz 1 n xs] [] (.ret (.o 1 (.k 0) 0 t.length)) [.sc (wv t)]:=by
 subst ht;exact Iq hx hn h0 hm hn2
theorem oM {n:Nat} {va:List Value} {l:List UInt32} (ha:va=wv l) (hn:l.length=n) (h0:0<n) (hm:n<=1073741824):a7 C 197 [.z n va] [] (.ret (.o 1 (.k 0) 0 n)) [.sc (wv l)]:=by
 subst ha;refine Sq.c ?_;refine .inl ⟨h0,(by simp only[u6,f9,I9,t3,Ze,Zj,Zu,Zv,Zx,Zs,Zw,j4,Zi,Zy,Zo];omega),by omega,by omega,?_⟩;refine⟨_,rfl,[.d 7 0],?_,⟨_,rfl,rfl⟩,tq⟩;show V.o 1 (.k 0) 0 (0+n)=_;rw[Zl]
def X0 {α:Type} (l:List α) (i:Nat):List α:=l.mapIdx fun p x=>if p<i\/l.length-i<=p then l.reverse.getD p x else x
theorem fF {α:Type} (l:List α) (i:Nat):(X0 l i).length=l.length:=by simp[X0]
theorem DH {α:Type} (l:List α):X0 l 0=l:=by
 apply List.ext_getElem (by simp[X0]);intro j h1 h2;simp[X0];omega
theorem ra {α:Type} (l:List α) (i j:Nat) (h:j<l.length):(X0 l i)[j]? =some (if j<i\/l.length-i<=j then l[l.length-1-j]else l[j]):=by
 have h2:j<(X0 l i).length:=by rw[fF];exact h
 rw[Zf h2];simp only[X0,List.getElem_mapIdx];split
 ·rw[Zd,Zf (by simpa using h),Option.getD_some,Js]
 ·rfl
theorem DF {α:Type} (l:List α) (i:Nat) (h:l.length<=2*i+1):X0 l i=l.reverse:=by
 apply Z3;intro j;by_cases hj:j<l.length
 ·rw[ra l i j hj,Ky hj];split
  ·rw[Zf (by omega)]
  ·rw[Zf (by omega)];congr 2;omega
 ·rw[Zg (by rw[fF];omega),Zg (by simp;omega)]
theorem DG {α:Type} (l:List α) (i:Nat) (h:i<l.length-1-i):((X0 l i).set i (l[l.length-1-i]'(by omega))).set (l.length-1-i) (l[i]'(by omega))=X0 l (i+1):=by
 apply Z3;intro j;by_cases hj:j<l.length
 ·rw[ra l (i+1) j hj,Jr,Jr,ra l i j hj];simp only[Zu,fF];by_cases h1:l.length-1-i=j
  ·subst h1;rw[if_pos rfl,if_pos (by omega),if_pos (by omega)];congr 2;omega
  ·rw[if_neg h1];by_cases h2:i=j
   ·subst h2;rw[if_pos rfl,if_pos (by omega),if_pos (by omega)]
   ·rw[if_neg h2];congr 1;by_cases h3:j<i\/l.length-i<=j
    ·rw[if_pos h3,if_pos (by omega)]
    ·rw[if_neg h3,if_neg (by omega)]
 ·rw[Zg (by simp[fF];omega),Zg (by rw[fF];omega)]
theorem rT {l:List UInt32} {j:Nat} {x:UInt32} (h:l[j]? =some x):(wv l)[j]? =some (.int .u32 x.toNat):=by simp[wv,h]
theorem rc {α:Type} (l:List α) (i j:Nat) (h:j<l.length) (h1:i<=j) (h2:j<l.length-i):(X0 l i)[j]? =some l[j]:=by
 rw[ra l i j h,if_neg (by omega)]
theorem kb {n:Nat} {l:List UInt32} (hn:l.length=n) (h0:0<n) (hm:n<=1073741824):a7 C 195 [.o 1 (.k 0) 0 n] [.sc (wv l)] (.ret (.t [])) [.sc (wv l.reverse)]:=by
 subst hn;refine Sx.c ?_;refine j9 (fun i=>⟨[(0,.o 1 (.k 0) 0 l.length),(2,i64 i),(3,i64 (l.length-1-i))],[.sc (wv (X0 l i))]⟩) l.length ⟨[.k 0],⟨rfl,rfl,d7 (by simp(disch:=omega)only[Za];omega),tq⟩,⟨_,rfl,d9 (by rw[DH])⟩,tq⟩ fun i hi=> ?_;refine c9 (fun h=> ?_) (fun h=> ?_)
 ·have a9:i<l.length-1-i:=(by omega);have e1:0+((l.length:Int)-1-i).toNat*1=l.length-1-i:=(by omega);have e2:0+((i:Int)).toNat*1=i:=(by omega);refine⟨by omega,by omega,_,by rw[e1];exact rT (rc l i (l.length-1-i) (by omega) (by omega) (by omega)),?_⟩;refine⟨by omega,by omega,_,by rw[e2];exact rT (rc l i i (by omega) (by omega) (by omega)),?_⟩;refine⟨by omega,by omega,by rw[e2,t3,fF];omega,by omega,by omega,by rw[e1,Zu,t3,fF];omega,?_⟩;refine⟨i+1,by omega,by omega,[.k 0],⟨rfl,d7 (by simp(disch:=omega)only[Za];omega),d7 (by simp(disch:=omega)only[Za];omega),tq⟩,⟨_,rfl,d9 ?_⟩,tq⟩;rw[e1,e2,aU,aU,DG l i a9]
 ·refine⟨_,rfl,[.k 0],rfl,⟨_,rfl,d9 ?_⟩,tq⟩;rw[DF l i (by omega)]
def C2 (k:List UInt32):List UInt32:=k++k++k++k.reverse
def Q9 (x:UInt32×UInt32) (k:UInt32):UInt32×UInt32:=(x.2,x.1^^^mG x.2 k)
def bw (ks:List UInt32) (v w:UInt32):UInt32×UInt32:=((ks.foldl Q9 (v,w)).2,(ks.foldl Q9 (v,w)).1)
theorem Ch (k:List UInt32):[k,k,k,k.reverse].flatten=C2 k:=by simp[C2]
theorem bW {α β:Type} (f:β->α->β) (l:List α) (b:β) (i:Nat) (h:i<l.length):(l.take (i+1)).foldl f b=f ((l.take i).foldl f b) l[i]:=by
 rw[Zr h,J4];rfl
theorem yA {tag x y:Int} {k:List UInt32} {v w:UInt32} (hk:k.length=8) (hx:x=v.toNat) (hy:y=w.toNat):a7 C 150 [M9 k tag,vi .u32 x,vi .u32 y,bool false] []
  (.ret (.t [u32 (bw (C2 k) v w).1,u32 (bw (C2 k) v w).2])) []:=by
 subst hx;subst hy;refine Be.c ?_;refine⟨_,rfl,?_⟩;refine⟨[],_,_,_,_,oM rfl rfl (by omega) (by omega),rfl,rfl,?_⟩;refine⟨[.d 18 0],_,_,_,_,kb (l:=k) hk (by omega) (by omega),?_,rfl,?_⟩
 ·show[V.o 1 (.k 0) 0 k.length]=_;rw[hk]
 refine⟨_,rfl,_,rfl,_,rfl,?_⟩;refine⟨[],_,_,_,_,yi (ls:=[k,k,k,k.reverse]) (Ch k) ?_ rfl (by simp[C2];omega) (by simp[C2];omega),rfl,rfl,?_⟩
 ·show[V.z _ _,V.z _ _,V.z _ _,V.z _ _]=_;rw[y8 (by simp[hk])];simp[hk]
 have hm:(C2 k).length=32:=by simp[C2,hk]
 generalize C2 k=KS at hm ⊢;refine j9 (fun i=>⟨[(1,u32 (((KS.take i).foldl Q9 (v,w)).1)),(2,u32 (((KS.take i).foldl Q9 (v,w)).2)),(39,.z 32 (wv KS)),(40,i64 32),(41,i64 i)],[]⟩) 32 ⟨[],⟨rfl,rfl,?_,?_,rfl,tq⟩,tq⟩ fun i hi=> ?_
 ·show V.z _ (sub _ _ _)=V.z _ _;rw[y8 rfl,hm]
 ·show i64 _=i64 _;rw[hm];rfl
 refine c9 (fun h=> ?_) (fun h=> ?_)
 ·have a9:i<32:=(by omega);refine⟨by omega,by omega,_,wl (i:=i) (by omega),?_⟩;refine⟨[],_,_,_,_,xQ rfl rfl,rfl,rfl,?_⟩;refine⟨i+1,by omega,by omega,[],⟨?_,?_,rfl,rfl,d7 (by simp(disch:=omega)only[Za];omega),tq⟩,tq⟩
  ·rw[bW _ _ _ _ (by omega)];rfl
  ·rw[bW _ _ _ _ (by omega)];exact congrArg (vi .u32) (z6 _ _)
 ·obtain rfl:i=32:=(by omega);rw[<-hm,Zq];exact⟨_,rfl,[],rfl,tq⟩
theorem yB {tag x y:Int} {k:List UInt32} {v w:UInt32} (hk:k.length=8) (hx:x=v.toNat) (hy:y=w.toNat):a7 C 150 [M9 k tag,vi .u32 x,vi .u32 y,bool true] []
  (.ret (.t [u32 (bw (C2 k).reverse v w).1,u32 (bw (C2 k).reverse v w).2])) []:=by
 subst hx;subst hy;refine Be.c ?_;refine⟨_,rfl,?_⟩;refine⟨[],_,_,_,_,oM rfl rfl (by omega) (by omega),rfl,rfl,?_⟩;refine⟨[.d 18 0],_,_,_,_,kb (l:=k) hk (by omega) (by omega),?_,rfl,?_⟩
 ·show[V.o 1 (.k 0) 0 k.length]=_;rw[hk]
 refine⟨_,rfl,_,rfl,_,rfl,?_⟩;refine⟨[],_,_,_,_,yi (ls:=[k,k,k,k.reverse]) (Ch k) ?_ rfl (by simp[C2];omega) (by simp[C2];omega),rfl,rfl,?_⟩
 ·show[V.z _ _,V.z _ _,V.z _ _,V.z _ _]=_;rw[y8 (by simp[hk])];simp[hk]
 have hm:(C2 k).length=32:=by simp[C2,hk]
 generalize C2 k=K0 at hm ⊢;refine⟨[.d 35 0],_,_,_,_,kb (l:=K0) hm (by omega) (by omega),?_,rfl,?_⟩
 ·show[V.o 1 (.k 0) 0 K0.length]=_;rw[hm]
 have hm':K0.reverse.length=32:=by simp[hm]
 generalize hKS:K0.reverse=KS at hm' ⊢;refine j9 (fun i=>⟨[(1,u32 (((KS.take i).foldl Q9 (v,w)).1)),(2,u32 (((KS.take i).foldl Q9 (v,w)).2)),(39,.z 32 (wv KS)),(40,i64 32),(41,i64 i)],[]⟩) 32 ⟨[],⟨rfl,rfl,?_,?_,rfl,tq⟩,tq⟩ fun i hi=> ?_
 ·show V.z _ (sub _ _ _)=V.z _ _;rw[y8 (by rw[hm,hm']),hm]
 ·show i64 _=i64 _;rw[hm];rfl
 refine c9 (fun h=> ?_) (fun h=> ?_)
 ·have a9:i<32:=(by omega);refine⟨by omega,by omega,_,wl (i:=i) (by omega),?_⟩;refine⟨[],_,_,_,_,xQ rfl rfl,rfl,rfl,?_⟩;refine⟨i+1,by omega,by omega,[],⟨?_,?_,rfl,rfl,d7 (by simp(disch:=omega)only[Za];omega),tq⟩,tq⟩
  ·rw[bW _ _ _ _ (by omega)];rfl
  ·rw[bW _ _ _ _ (by omega)];exact congrArg (vi .u32) (z6 _ _)
 ·obtain rfl:i=32:=(by omega);rw[<-hm',Zq];exact⟨_,rfl,[],rfl,tq⟩
def o7 (l:Bs):UInt32:=(M7 l).toUInt32
def o5 (l:Bs):UInt32:=(M7 l.reverse).toUInt32
def w5 (f:Bs->UInt32) (b:Bs) (k:Nat):List UInt32:=(List.range k).map fun i=>f (sub b (4*i) 4)
theorem I7 (f b k):(w5 f b k).length=k:=by simp[w5]
theorem rR (f b k):w5 f b (k+1)=w5 f b k++[f (sub b (4*k) 4)]:=by simp[w5,Zz]
theorem R5 {α:Type} (l:List α) (a i n:Nat):sub (l.drop a) i n=sub l (a+i) n:=by simp[sub]
theorem HG (l:Bs) (i:Nat):(bv l).drop i=bv (l.drop i):=by simp[bv,Kk]
theorem a1S (x:UInt32):[Value.int .u32 x.toNat]=wv [x]:=rfl
theorem G5 {α:Type} (l:List α) (i n:Nat) (h:n=l.length-i):sub l i n=l.drop i:=by subst h;simp[sub,Ks]
theorem O6 {l:List UInt32} {n:Nat} {x:UInt32} (h:l.length=n):sub (wv l) 0 n++[Value.int .u32 x.toNat]=wv (l++[x]):=by
 rw[y8 h,a1S,mg]
theorem jS {n m:Nat} {va:List Value} {b:Bs} (ha:va=bv b) (hn:b.length=n) (h4:n=4*m) (h0:0<m) (hm:n<=1073741824):a7 C 147 [.z n va,bool false] [] (.ret (.o 1 (.k 0) 0 m)) [.sc (wv (w5 o7 b m))]:=by
 subst ha;subst h4;refine Bh.c ?_;refine B1 (fun i=>⟨[(0,.z (4*(m-i)) (bv (b.drop (4*i)))),(1,bool false),(5,.o 1 (.k 0) 0 i)],[.sc (wv (w5 o7 b i))]⟩) m [(5,1,.sc [])] ⟨[.d 900000 0],⟨rfl,rfl,rfl,tq⟩,⟨_,rfl,rfl⟩,tq⟩ fun i hi=> ?_;refine c9 (fun h=> ?_) (fun h=> ?_)
 ·have a9:i<m:=(by omega);refine⟨by omega,by omega,by omega,by omega,by omega,?_⟩;have e:sub (bv (b.drop (4*i))) 0 4=bv (sub b (4*i) 4):=by rw[l4,R5];rfl
  have el:(sub b (4*i) 4).length=4:=by rw[j4];omega
  refine⟨[],_,_,_,_,sU e el rfl,rfl,rfl,?_⟩;refine⟨Zp _,by omega,by rw[t3,I7];omega,?_⟩;refine⟨by omega,by omega,by omega,by omega,?_⟩;refine⟨i+1,by omega,by omega,[.d 29 0],⟨?_,rfl,rfl,tq⟩,⟨_,rfl,d9 ?_⟩,tq⟩
  ·show V.z (4*(m-i)-4) (sub _ 4 (4*(m-i)-4))=_;rw[l4,R5,G5 _ _ _ (by omega)];rw[show 4*(m-i)-4=4*(m-(i+1)) by omega,show 4*i+4=4*(i+1) by omega]
  ·rw[rR];exact O6 (by rw[I7];omega)
 ·obtain rfl:i=m:=(by omega);exact⟨_,rfl,[.k 0],rfl,⟨_,rfl,rfl⟩,tq⟩
theorem tc {n m:Nat} {va:List Value} {b:Bs} (ha:va=bv b) (hn:b.length=n) (h4:n=4*m) (h0:0<m) (hm:n<=1073741824):a7 C 147 [.z n va,bool true] [] (.ret (.o 1 (.k 0) 0 m)) [.sc (wv (w5 o5 b m))]:=by
 subst ha;subst h4;refine Bh.c ?_;refine B1 (fun i=>⟨[(0,.z (4*(m-i)) (bv (b.drop (4*i)))),(1,bool true),(5,.o 1 (.k 0) 0 i)],[.sc (wv (w5 o5 b i))]⟩) m [(5,1,.sc [])] ⟨[.d 900000 0],⟨rfl,rfl,rfl,tq⟩,⟨_,rfl,rfl⟩,tq⟩ fun i hi=> ?_;refine c9 (fun h=> ?_) (fun h=> ?_)
 ·have a9:i<m:=(by omega);refine⟨by omega,by omega,by omega,by omega,by omega,?_⟩;have e:sub (bv (b.drop (4*i))) 0 4=bv (sub b (4*i) 4):=by rw[l4,R5];rfl
  have el:(sub b (4*i) 4).length=4:=by rw[j4];omega
  refine⟨[],_,_,_,_,sU e el rfl,rfl,rfl,?_⟩;refine⟨by omega,by omega,by omega,by omega,by omega,?_⟩;refine⟨[],_,_,_,_,cQ e el rfl,rfl,rfl,?_⟩;refine⟨Zp _,by omega,by rw[t3,I7];omega,?_⟩;refine⟨by omega,by omega,by omega,by omega,?_⟩;refine⟨i+1,by omega,by omega,[.d 29 0],⟨?_,rfl,rfl,tq⟩,⟨_,rfl,d9 ?_⟩,tq⟩
  ·show V.z (4*(m-i)-4) (sub _ 4 (4*(m-i)-4))=_;rw[l4,R5,G5 _ _ _ (by omega)];rw[show 4*(m-i)-4=4*(m-(i+1)) by omega,show 4*i+4=4*(i+1) by omega]
  ·rw[rR];exact O6 (by rw[I7];omega)
 ·obtain rfl:i=m:=(by omega);exact⟨_,rfl,[.k 0],rfl,⟨_,rfl,rfl⟩,tq⟩
theorem pa {n m:Nat} {va:List Value} {b:Bs} (ha:va=bv b) (hn:b.length=n) (h4:n=4*m) (h0:0<m) (hm:n<=1073741824):a7 C 115 [.z n va] [] (.ret (.o 1 (.k 0) 0 m)) [.sc (wv (w5 o7 b m))]:=by
 subst ha;subst h4;refine Rz.c ?_;refine B1 (fun i=>⟨[(0,.z (4*m) (bv b)),(3,.o 1 (.k 0) 0 i),(4,i64 (4*i:Nat))],[.sc (wv (w5 o7 b i))]⟩) m [(3,1,.sc [])] ⟨[.d 900000 0],⟨rfl,rfl,rfl,tq⟩,⟨_,rfl,rfl⟩,tq⟩ fun i hi=> ?_;refine c9 (fun h=> ?_) (fun h=> ?_)
 ·have a9:i<m:=(by omega);refine⟨(by simp(disch:=omega)only[Za];omega),by omega,(by simp(disch:=omega)only[Za];omega),by omega,(by simp(disch:=omega)only[Za];omega),?_⟩;have e:(I6.wrap (((4*i:Nat):Int)+4)).toNat-(((4*i:Nat):Int)).toNat=4:=by simp only[IntKind.wrap_i64];omega
  rw[e,Zb];have el:(sub b (4*i) 4).length=4:=by rw[j4];omega
  refine⟨[],_,_,_,_,Ih (l:=sub b (4*i) 4) (l4 _ _ _) el (by decide),rfl,rfl,?_⟩;refine⟨Zp _,by omega,by rw[t3,I7];omega,?_⟩;refine⟨i+1,by omega,by omega,[.d 20 0],⟨rfl,rfl,d7 (by simp(disch:=omega)only[Za];omega),tq⟩,⟨_,rfl,d9 ?_⟩,tq⟩;rw[rR,me];exact O6 (by rw[I7];omega)
 ·obtain rfl:i=m:=(by omega);exact⟨_,rfl,[.k 0],rfl,⟨_,rfl,rfl⟩,tq⟩
theorem za {n m:Nat} {va:List Value} {b:Bs} (ha:va=bv b) (hn:b.length=n) (h4:n=4*m) (h0:0<m) (hm:n<=1073741824):a7 C 174 [.z n va] [] (.ret (.o 1 (.k 0) 0 m)) [.sc (wv (w5 o5 b m))]:=by
 subst ha;subst h4;refine RU.c ?_;refine B1 (fun i=>⟨[(0,.z (4*m) (bv b)),(3,.o 1 (.k 0) 0 i),(4,i64 (4*i:Nat))],[.sc (wv (w5 o5 b i))]⟩) m [(3,1,.sc [])] ⟨[.d 900000 0],⟨rfl,rfl,rfl,tq⟩,⟨_,rfl,rfl⟩,tq⟩ fun i hi=> ?_;refine c9 (fun h=> ?_) (fun h=> ?_)
 ·have a9:i<m:=(by omega);refine⟨(by simp(disch:=omega)only[Za];omega),by omega,(by simp(disch:=omega)only[Za];omega),by omega,(by simp(disch:=omega)only[Za];omega),?_⟩;have e:(I6.wrap (((4*i:Nat):Int)+4)).toNat-(((4*i:Nat):Int)).toNat=4:=by simp only[IntKind.wrap_i64];omega
  rw[e,Zb];have el:(sub b (4*i) 4).length=4:=by rw[j4];omega
  refine⟨[],_,_,_,_,eN (l:=sub b (4*i) 4) (l4 _ _ _) el (by decide),rfl,rfl,?_⟩;refine⟨Zp _,by omega,by rw[t3,I7];omega,?_⟩;refine⟨i+1,by omega,by omega,[.d 20 0],⟨rfl,rfl,d7 (by simp(disch:=omega)only[Za];omega),tq⟩,⟨_,rfl,d9 ?_⟩,tq⟩;rw[rR,me];exact O6 (by rw[I7];omega)
 ·obtain rfl:i=m:=(by omega);exact⟨_,rfl,[.k 0],rfl,⟨_,rfl,rfl⟩,tq⟩
theorem a1u (a b:UInt32):((a.toNat:Int).tmod (b.toNat:Int))=((a%b).toNat:Int):=by
 rw[UInt32.toNat_mod,<-Int.ofNat_tmod]
theorem T7 (a:UInt32):((a.toNat:Int).tmod 32)=((a%32).toNat:Int):=a1u a 32
theorem dX (a:UInt32):(a%32).toNat<32:=by
 rw[UInt32.toNat_mod];exact Z4 _ (by decide)
theorem W8 (a b:Nat):((a:Int).tmod (b:Int))=((a%b:Nat):Int):=by rw[<-Int.ofNat_tmod]
theorem U9 {C:k8} {rt:Rt} {m:Nat} {c:Code} {s:S} {K:X->S->Prop} (l:Nat) {p q:Code} (hs:I0 c l=some (p,q)) (n:Nat) (I:Nat->D) (h0:vc C rt m p s fun e s'=>match e with
   | .normal=>∃(l:List (Nat×Nat×B)) (y:Nat),y<n/\aa l 0 s' fun s'=>Mt m s' (I y)
   | .goto l'=>l'=l/\∃y:Nat,y<n/\Mt m s' (I y)
   |e=>K e s') (h:∀i,i<n->vc C rt m q (I i).s fun e s'=>match e with
   | .goto l'=>l'=l/\∃y:Nat,y<n/\n-y<n-i/\Mt m s' (I y)
   |e=>K e s'):lj C rt m c s K:=
 ⟨l,Nat,I,fun x=>x<n,fun x=>n-x,by rw[hs];exact⟨h0,h⟩⟩
def iU:UInt32:=3084996963
def dU (n:Nat):List UInt32:=(List.range n).map fun i=>iU+Zn i*G2
theorem nm (n):(dU n).length=n:=by simp[dU]
theorem BA (n):dU (n+1)=dU n++[iU+Zn n*G2]:=by simp[dU,Zz]
theorem Ul (n i) (h:i<n):(dU n)[i]? =some (iU+Zn i*G2):=by simp[dU,h]
theorem Up (n:Nat):iU+Zn n*G2+G2=iU+Zn (n+1)*G2:=by
 rw[UInt32.add_assoc,UInt32.ofNat_add,UInt32.add_mul,show Zn 1*G2=G2 by decide]
abbrev GS:=List UInt32×List UInt32×UInt32×UInt32
def gA (i:Nat) (x:GS):UInt32:=C3 (x.1.getD (i%26) 0+x.2.2.1+x.2.2.2) 3
def gB (i:Nat) (x:GS):UInt32:=C3 (x.2.1.getD (i%4) 0+gA i x+x.2.2.2) ((gA i x+x.2.2.2)%32).toNat
def ur (x:GS) (i:Nat):GS:=(x.1.set (i%26) (gA i x),x.2.1.set (i%4) (gB i x),gA i x,gB i x)
def t6 (l:List UInt32) (n:Nat):GS:=(List.range n).foldl ur (dU 26,l,0,0)
theorem cY (l n):t6 l (n+1)=ur (t6 l n) n:=by simp[t6,Zz]
theorem iZ (l n):(t6 l n).1.length=26/\(t6 l n).2.1.length=l.length:=by
 induction n with
 |zero=>exact⟨nm 26,rfl⟩
 |succ n ih=>rw[cY];simp[ur,ih]
theorem bd {x n:Int} {v:UInt32} {k:Nat} (hx:x=v.toNat) (hn:n%32=k) (hb: -9223372036854775808<=n/\n<=9223372036854775807):a7 C 138 [vi .u32 x,i64 n] [] (.ret (u32 (C3 v k))) []:=by
 have h:=zu hx hb;rw[hn]at h;exact h
theorem S3 {x n:Int} {v:UInt32} {k:Nat} (hx:x=v.toNat) (hn:n%32=k) (hb: -9223372036854775808<=n/\n<=9223372036854775807):a7 C 169 [vi .u32 x,i64 n] [] (.ret (u32 (C3 v k))) []:=by
 have h:=Lu hx hb;rw[hn]at h;exact h
theorem yr {l:List UInt32} (hl:l.length=4):a7 C 148 [.o 1 (.k 0) 0 4] [.sc (wv l)] (.ret (.o 1 (.k 1) 0 26)) [.sc (wv (t6 l 78).2.1),.sc (wv (t6 l 78).1)]:=by
 refine Sz.c ?_;refine U9 0 rfl 78 (fun i=>⟨[(0,.o 1 (.k 0) 0 4),(3,.o 1 (.k 1) 0 26),(4,u32 (t6 l i).2.2.1),(5,u32 (t6 l i).2.2.2),(6,i64 i)],[.sc (wv (t6 l i).2.1),.sc (wv (t6 l i).1)]⟩) ?_ fun i hi=> ?_
 ·refine j9 (fun i=>⟨[(0,.o 1 (.k 0) 0 4),(3,.o 1 (.k 1) 0 (i+1))],[.sc (wv l),.sc (wv (dU (i+1)))]⟩) 25 ⟨[.k 0,.d 9 0],⟨rfl,rfl,tq⟩,⟨_,rfl,rfl⟩,⟨_,rfl,rfl⟩,tq⟩ fun i hi=> ?_;refine c9 (fun h=> ?_) (fun h=> ?_)
  ·have e:(I6.wrap (((i+1:Nat):Int)-1))=(i:Int):=by simp only[IntKind.wrap_i64];omega
   refine⟨by rw[e];omega,by rw[e];omega,?_⟩;refine⟨_,by rw[e,Zb,Zm,Zl];exact rT (Ul (i+1) i (by omega)),?_⟩;refine⟨Zp _,by omega,by rw[t3,nm];omega,?_⟩;refine⟨i+1,by omega,by omega,[.k 0,.d 22 0],⟨rfl,rfl,tq⟩,⟨_,rfl,rfl⟩,⟨_,rfl,d9 ?_⟩,tq⟩;rw[BA (i+1),<-Up,ix];exact O6 (by rw[nm];omega)
  ·obtain rfl:i=25:=(by omega);exact⟨[],0,by omega,[.k 0,.k 1],⟨rfl,rfl,rfl,rfl,rfl,tq⟩,⟨_,rfl,rfl⟩,⟨_,rfl,rfl⟩,tq⟩
 ·obtain⟨l1,l2⟩:=iZ l i;have e1:((i:Int).tmod 26)=((i%26:Nat):Int):=W8 i 26;have e2:((i:Int).tmod ((4:Nat):Int))=((i%4:Nat):Int):=W8 i 4;have b1:i%26<26:=Z4 _ (by omega);have b2:i%4<4:=Z4 _ (by omega);refine⟨by decide,by decide,?_⟩;refine⟨by rw[e1];omega,by rw[e1];omega,?_⟩;refine⟨_,by rw[e1,Zb,Zm,Zl];exact p7 (by omega),?_⟩;refine⟨[],_,_,_,_,bd (v:=(t6 l i).1.getD (i%26) 0+(t6 l i).2.2.1+(t6 l i).2.2.2) (k:=3) (by rw[s6,s6]) (by decide) (by decide),rfl,rfl,?_⟩;refine⟨by rw[e1];omega,by rw[e1];omega,by rw[e1,t3];omega,?_⟩;refine⟨by rw[e2];omega,by rw[e2];omega,?_⟩;refine⟨_,by rw[e2,Zb,Zm,Zl];exact p7 (by omega),?_⟩;refine⟨by decide,?_⟩;have e3:((U3.wrap (((gA i (t6 l i)).toNat:Int)+((t6 l i).2.2.2.toNat:Int))).tmod 32)=(((gA i (t6 l i)+(t6 l i).2.2.2)%32).toNat:Int):=by rw[s6,T7]
  have b3:=dX (gA i (t6 l i)+(t6 l i).2.2.2);refine⟨[],_,_,_,_,bd (v:=(t6 l i).2.1.getD (i%4) 0+gA i (t6 l i)+(t6 l i).2.2.2) (k:=((gA i (t6 l i)+(t6 l i).2.2.2)%32).toNat) (by rw[s6];exact s6 _ _) (by erw [e3];rw[O5];omega) (by erw [e3];rw[O5];omega),rfl,rfl,?_⟩;refine⟨by rw[e2];omega,by rw[e2];omega,by rw[e2,t3];omega,?_⟩;refine c9 (fun h=> ?_) (fun h=> ?_)
  ·refine⟨rfl,i+1,by simp only[IntKind.wrap_i64]at h;omega,by omega,[.k 0,.k 1],⟨rfl,rfl,?_,?_,d7 (by simp(disch:=omega)only[Za];omega),tq⟩,⟨_,rfl,d9 ?_⟩,⟨_,rfl,d9 ?_⟩,tq⟩
   ·rw[cY];rfl
   ·rw[cY];rfl
   ·rw[e2,Zb,Zm,Zl,aU,cY];rfl
   ·rw[e1,Zb,Zm,Zl,aU,cY];rfl
  ·have e78:78=i+1:=by simp only[IntKind.wrap_i64]at h;omega
   refine⟨_,rfl,[.k 0,.k 1],rfl,⟨_,rfl,d9 ?_⟩,⟨_,rfl,d9 ?_⟩,tq⟩
   ·rw[e2,Zb,Zm,Zl,aU,e78,cY];rfl
   ·rw[e1,Zb,Zm,Zl,aU,e78,cY];rfl
theorem Gm {l:List UInt32} {i:Nat} {x:UInt32} (h:i<l.length):(wv (l.set i x))[i]? =some (.int .u32 x.toNat):=rT (by simp[h])
theorem LN {va:List Value} {key:Bs} (ha:va=bv key) (hk:key.length=16):a7 C 114 [.z 16 va] [] (.ret (.o 1 (.k 0) 0 26)) [.sc (wv (t6 (w5 o5 key 4) 78).1)]:=by
 refine RY.c ?_;refine⟨[],_,_,_,_,za (m:=4) ha hk rfl (by decide) (by decide),rfl,rfl,?_⟩;have hl:(w5 o5 key 4).length=4:=I7 _ _ _;generalize w5 o5 key 4=l at hl ⊢;refine B1 (fun i=>⟨[(3,.o 1 (.k 0) 0 4),(4,.o 1 (.k 1) 0 i),(5,i64 i)],[.sc (wv l),.sc (wv (dU i))]⟩) 26 [(4,1,.sc [])] ⟨[.d 10 0,.d 900000 0],⟨rfl,rfl,rfl,tq⟩,⟨_,rfl,rfl⟩,⟨_,rfl,rfl⟩,tq⟩ fun i hi=> ?_;refine c9 (fun h=> ?_) (fun h=> ?_)
 ·have a9:i<26:=(by omega);refine⟨Zp _,by omega,by rw[t3,nm];omega,?_⟩;refine⟨i+1,by omega,by omega,[.k 0,.d 21 0],⟨rfl,rfl,d7 (by simp(disch:=omega)only[Za];omega),tq⟩,⟨_,rfl,rfl⟩,⟨_,rfl,d9 ?_⟩,tq⟩;have e:U3.wrap ((3084996963:Int)+U3.wrap (U3.wrap (i:Int)*2654435769))=((iU+Zn i*G2).toNat:Int):=by
   rw[CJ i,show(2654435769:Int)=((G2).toNat:Int) from rfl,jq,show(3084996963:Int)=((iU).toNat:Int) from rfl,s6]
  rw[BA,e];exact O6 (by rw[nm,Zm])
 obtain rfl:i=26:=(by omega);refine j9 (fun i=>⟨[(3,.o 1 (.k 0) 0 4),(4,.o 1 (.k 1) 0 26),(6,u32 (t6 l i).2.2.1),(7,u32 (t6 l i).2.2.2),(8,i64 i)],[.sc (wv (t6 l i).2.1),.sc (wv (t6 l i).1)]⟩) 78 ⟨[.k 0,.k 1],⟨rfl,rfl,rfl,rfl,rfl,tq⟩,⟨_,rfl,rfl⟩,⟨_,rfl,rfl⟩,tq⟩ fun i hi=> ?_;refine c9 (fun h=> ?_) (fun h=> ?_)
 ·have a9:i<78:=(by omega);obtain⟨l1,l2⟩:=iZ l i;have e1:((i:Int).tmod 26)=((i%26:Nat):Int):=W8 i 26;have e2:((i:Int).tmod 4)=((i%4:Nat):Int):=W8 i 4;have b1:i%26<26:=Z4 _ (by omega);have b2:i%4<4:=Z4 _ (by omega);refine⟨by decide,by decide,by rw[e1];omega,by rw[e1];omega,?_⟩;refine⟨_,by rw[e1,Zb,Zm,Zl];exact p7 (by omega),?_⟩;refine⟨[],_,_,_,_,S3 (v:=(t6 l i).1.getD (i%26) 0+(t6 l i).2.2.1+(t6 l i).2.2.2) (k:=3) (by rw[s6,s6]) (by decide) (by decide),rfl,rfl,?_⟩;refine⟨by rw[e1];omega,by rw[e1];omega,by rw[e1,t3];omega,?_⟩;refine⟨by decide,by rw[e1];omega,by rw[e1];omega,?_⟩;refine⟨_,by rw[e1,Zb,Zm,Zl,aU];exact Gm (by omega),?_⟩;refine⟨by decide,by decide,by rw[e2];omega,by rw[e2];omega,?_⟩;refine⟨_,by rw[e2,Zb,Zm,Zl];exact p7 (by omega),?_⟩;refine⟨by decide,?_⟩;have e3:((U3.wrap (((gA i (t6 l i)).toNat:Int)+((t6 l i).2.2.2.toNat:Int))).tmod 32)=(((gA i (t6 l i)+(t6 l i).2.2.2)%32).toNat:Int):=by rw[s6,T7]
  have b3:=dX (gA i (t6 l i)+(t6 l i).2.2.2);refine⟨[],_,_,_,_,S3 (v:=(t6 l i).2.1.getD (i%4) 0+gA i (t6 l i)+(t6 l i).2.2.2) (k:=((gA i (t6 l i)+(t6 l i).2.2.2)%32).toNat) (by rw[s6];exact s6 _ _) (by erw [e3];rw[O5];omega) (by erw [e3];rw[O5];omega),rfl,rfl,?_⟩;refine⟨by rw[e2];omega,by rw[e2];omega,by rw[e2,t3];omega,?_⟩;refine⟨by decide,by rw[e2];omega,by rw[e2];omega,?_⟩;refine⟨_,by rw[e2,Zb,Zm,Zl,aU];exact Gm (by omega),?_⟩;refine⟨i+1,by omega,by omega,[.k 0,.k 1],⟨rfl,rfl,?_,?_,d7 (by simp(disch:=omega)only[Za];omega),tq⟩,⟨_,rfl,d9 ?_⟩,⟨_,rfl,d9 ?_⟩,tq⟩
  ·rw[cY];rfl
  ·rw[cY];rfl
  ·rw[e2,Zb,Zm,Zl,aU,cY];rfl
  ·rw[e1,Zb,Zm,Zl,aU,cY];rfl
 ·have e78:i=78:=(by omega);rw[e78];exact⟨_,rfl,[.k 1],rfl,⟨_,rfl,rfl⟩,tq⟩
abbrev W2:=UInt32×UInt32
def rA (s:List UInt32) (r:Nat) (x:W2):UInt32:=C3 (x.1^^^x.2) (x.2%32).toNat+s.getD (2*r+2) 0
def ig (s:List UInt32) (x:W2) (r:Nat):W2:=(rA s r x,C3 (x.2^^^rA s r x) (rA s r x%32).toNat+s.getD (2*r+3) 0)
def rB (s:List UInt32) (r:Nat) (x:W2):UInt32:=C3 (x.2-s.getD (2*r+3) 0) ((32-(x.1%32).toNat)%32)^^^x.1
def ie (s:List UInt32) (x:W2) (r:Nat):W2:=(C3 (x.1-s.getD (2*r+2) 0) ((32-(rB s r x%32).toNat)%32)^^^rB s r x,rB s r x)
def B4 (s:List UInt32) (p:W2) (n:Nat):W2:=(List.range n).foldl (ig s) (p.1+s.getD 0 0,p.2+s.getD 1 0)
def D3 (s:List UInt32) (p:W2) (n:Nat):W2:=(List.range n).foldl (fun x r=>ie s x (11-r)) p
theorem qY (s p n):B4 s p (n+1)=ig s (B4 s p n) n:=by simp[B4,Zz]
theorem qX (s p n):D3 s p (n+1)=ie s (D3 s p n) (11-n):=by simp[D3,Zz]
theorem LS {tag x y:Int} {k:List UInt32} {v w:UInt32} (hk:k.length=26) (hx:x=v.toNat) (hy:y=w.toNat):a7 C 151 [M9 k tag,vi .u32 x,vi .u32 y,bool false] []
  (.ret (.t [u32 (B4 k (v,w) 12).1,u32 (B4 k (v,w) 12).2])) []:=by
 subst hx;subst hy;refine Bf.c ?_;refine⟨_,rfl,?_⟩;refine⟨by decide,by omega,?_⟩;refine⟨_,p7 (i:=0) (by omega),?_⟩;refine⟨by decide,by omega,?_⟩;refine⟨_,p7 (i:=1) (by omega),?_⟩;refine j9 (fun i=>⟨[(1,u32 (B4 k (v,w) i).1),(2,u32 (B4 k (v,w) i).2),(10,wz k),(11,i64 (2*i+2:Nat))],[]⟩) 12 ⟨[],⟨congrArg (vi .u32) (s6 _ _),congrArg (vi .u32) (s6 _ _),rfl,rfl,tq⟩,tq⟩ fun i hi=> ?_;refine c9 (fun h=> ?_) (fun h=> ?_)
 ·have a9:i<12:=(by omega);have b1:=dX (B4 k (v,w) i).2;have b2:=dX (rA k i (B4 k (v,w) i));refine⟨by decide,?_⟩;refine⟨[],_,_,_,_,bd (v:=(B4 k (v,w) i).1^^^(B4 k (v,w) i).2) (k:=((B4 k (v,w) i).2%32).toNat) (z6 _ _) (by rw[T7,O5];omega) (by rw[T7,O5];omega),rfl,rfl,?_⟩;refine⟨by omega,by omega,?_⟩;refine⟨_,p7 (i:=2*i+2) (by omega),by decide,?_⟩;have e3:U3.wrap (((C3 ((B4 k (v,w) i).1^^^(B4 k (v,w) i).2) ((B4 k (v,w) i).2%32).toNat).toNat:Int)+((k.getD (2*i+2) 0).toNat:Int))=((rA k i (B4 k (v,w) i)).toNat:Int):=s6 _ _;have e4:(I6.wrap (((2*i+2:Nat):Int)+1)).toNat=2*i+3:=(by simp(disch:=omega)only[Za];omega);refine⟨[],_,_,_,_,bd (v:=(B4 k (v,w) i).2^^^rA k i (B4 k (v,w) i)) (k:=(rA k i (B4 k (v,w) i)%32).toNat) (by rw[e3,z6]) (by rw[e3,T7,O5];omega) (by rw[e3,T7,O5];omega),rfl,rfl,?_⟩;refine⟨by omega,by omega,?_⟩;refine⟨_,by rw[e4];exact p7 (i:=2*i+3) (by omega),?_⟩;refine⟨i+1,by omega,by omega,[],⟨?_,?_,rfl,d7 (by simp(disch:=omega)only[Za];omega),tq⟩,tq⟩
  ·rw[qY];exact congrArg (vi .u32) e3
  ·rw[qY];exact congrArg (vi .u32) (s6 _ _)
 ·obtain rfl:i=12:=(by omega);exact⟨_,rfl,[],rfl,tq⟩
theorem LR {tag x y:Int} {k:List UInt32} {v w:UInt32} (hk:k.length=26) (hx:x=v.toNat) (hy:y=w.toNat):a7 C 151 [M9 k tag,vi .u32 x,vi .u32 y,bool true] []
  (.ret (.t [u32 ((D3 k (v,w) 12).1-k.getD 0 0),u32 ((D3 k (v,w) 12).2-k.getD 1 0)])) []:=by
 subst hx;subst hy;refine Bf.c ?_;refine⟨_,rfl,?_⟩;refine j9 (fun i=>⟨[(1,u32 (D3 k (v,w) i).1),(2,u32 (D3 k (v,w) i).2),(10,wz k),(12,i64 (24-2*i))],[]⟩) 12 ⟨[],⟨rfl,rfl,rfl,rfl,tq⟩,tq⟩ fun i hi=> ?_;refine c9 (fun h=> ?_) (fun h=> ?_)
 ·have a9:i<12:=(by omega);have b1:=dX (D3 k (v,w) i).1;have b2:=dX (rB k (11-i) (D3 k (v,w) i));have e4:(I6.wrap ((24:Int)-2*i+1)).toNat=2*(11-i)+3:=(by simp(disch:=omega)only[Za];omega);have e5:((24:Int)-2*i).toNat=2*(11-i)+2:=(by omega);refine⟨by omega,by omega,?_⟩;refine⟨_,by rw[e4];exact p7 (i:=2*(11-i)+3) (by omega),?_⟩;refine⟨by decide,?_⟩;refine⟨[],_,_,_,_,bd (v:=(D3 k (v,w) i).2-k.getD (2*(11-i)+3) 0) (k:=(32-((D3 k (v,w) i).1%32).toNat)%32) (ao _ _) (by rw[T7,O5];simp only[IntKind.wrap_i64];omega) (by rw[T7,O5];simp only[IntKind.wrap_i64];omega),rfl,rfl,?_⟩;have e3:U3.wrap ((Zc U3.bits ((C3 ((D3 k (v,w) i).2-k.getD (2*(11-i)+3) 0) ((32-((D3 k (v,w) i).1%32).toNat)%32)).toNat:Int)^^^Zc U3.bits ((D3 k (v,w) i).1.toNat:Int)).toNat:Int)=((rB k (11-i) (D3 k (v,w) i)).toNat:Int):=z6 _ _;refine⟨by omega,by omega,?_⟩;refine⟨_,by rw[e5];exact p7 (i:=2*(11-i)+2) (by omega),?_⟩;refine⟨by decide,?_⟩;refine⟨[],_,_,_,_,bd (v:=(D3 k (v,w) i).1-k.getD (2*(11-i)+2) 0) (k:=(32-(rB k (11-i) (D3 k (v,w) i)%32).toNat)%32) (ao _ _) (by rw[e3,T7,O5];simp only[IntKind.wrap_i64];omega) (by rw[e3,T7,O5];simp only[IntKind.wrap_i64];omega),rfl,rfl,?_⟩;refine⟨i+1,by omega,by omega,[],⟨?_,?_,rfl,d7 (by simp(disch:=omega)only[Za];omega),tq⟩,tq⟩
  ·rw[qX,e3];exact congrArg (vi .u32) (z6 _ _)
  ·rw[qX];exact congrArg (vi .u32) e3
 ·obtain rfl:i=12:=(by omega);refine⟨by decide,by omega,?_⟩;refine⟨_,p7 (i:=0) (by omega),?_⟩;refine⟨by decide,by omega,?_⟩;refine⟨_,p7 (i:=1) (by omega),?_⟩;refine⟨_,rfl,[],?_,tq⟩;show V.t [vi .u32 _,vi .u32 _]=_;rw[ao,ao]
theorem LK {tag x y:Int} {k:List UInt32} {v w:UInt32} (hk:k.length=26) (hx:x=v.toNat) (hy:y=w.toNat):a7 C 216 [F8 k tag,vi .u32 x,vi .u32 y,bool false] []
  (.ret (.t [u32 (B4 k (v,w) 12).1,u32 (B4 k (v,w) 12).2])) []:=by
 subst hx;subst hy;refine AX.c ?_;refine⟨_,rfl,by decide,by omega,?_⟩;refine⟨_,p7 (i:=0) (by omega),?_⟩;refine⟨_,rfl,by decide,by omega,?_⟩;refine⟨_,p7 (i:=1) (by omega),?_⟩;refine j9 (fun i=>⟨[(0,F8 k tag),(1,u32 (B4 k (v,w) i).1),(2,u32 (B4 k (v,w) i).2),(10,i64 (i+1:Nat))],[]⟩) 12 ⟨[],⟨rfl,congrArg (vi .u32) (s6 _ _),congrArg (vi .u32) (s6 _ _),rfl,tq⟩,tq⟩ fun i hi=> ?_;refine c9 (fun h=> ?_) (fun h=> ?_)
 ·have a9:i<12:=(by omega);have b1:=dX (B4 k (v,w) i).2;have b2:=dX (rA k i (B4 k (v,w) i));have e4:(I6.wrap (2*((i+1:Nat):Int))).toNat=2*i+2:=(by simp(disch:=omega)only[Za];omega);have e5:(I6.wrap (I6.wrap (2*((i+1:Nat):Int))+1)).toNat=2*i+3:=(by simp(disch:=omega)only[Za];omega);refine⟨by decide,?_⟩;refine⟨[],_,_,_,_,S3 (v:=(B4 k (v,w) i).1^^^(B4 k (v,w) i).2) (k:=((B4 k (v,w) i).2%32).toNat) (z6 _ _) (by rw[T7,O5];omega) (by rw[T7,O5];omega),rfl,rfl,?_⟩;refine⟨_,rfl,by omega,by omega,?_⟩;refine⟨_,by rw[e4];exact p7 (i:=2*i+2) (by omega),?_⟩;refine⟨by decide,?_⟩;have e3:U3.wrap (((C3 ((B4 k (v,w) i).1^^^(B4 k (v,w) i).2) ((B4 k (v,w) i).2%32).toNat).toNat:Int)+((k.getD (2*i+2) 0).toNat:Int))=((rA k i (B4 k (v,w) i)).toNat:Int):=s6 _ _;refine⟨[],_,_,_,_,S3 (v:=(B4 k (v,w) i).2^^^rA k i (B4 k (v,w) i)) (k:=(rA k i (B4 k (v,w) i)%32).toNat) (by rw[e3,z6]) (by rw[e3,T7,O5];omega) (by rw[e3,T7,O5];omega),rfl,rfl,?_⟩;refine⟨_,rfl,by omega,by omega,?_⟩;refine⟨_,by rw[e5];exact p7 (i:=2*i+3) (by omega),?_⟩;refine⟨i+1,by omega,by omega,[],⟨rfl,?_,?_,d7 (by simp(disch:=omega)only[Za];omega),tq⟩,tq⟩
  ·rw[qY];exact congrArg (vi .u32) e3
  ·rw[qY];exact congrArg (vi .u32) (s6 _ _)
 ·obtain rfl:i=12:=(by omega);exact⟨_,rfl,[],rfl,tq⟩
theorem LJ {tag x y:Int} {k:List UInt32} {v w:UInt32} (hk:k.length=26) (hx:x=v.toNat) (hy:y=w.toNat):a7 C 216 [F8 k tag,vi .u32 x,vi .u32 y,bool true] []
  (.ret (.t [u32 ((D3 k (v,w) 12).1-k.getD 0 0),u32 ((D3 k (v,w) 12).2-k.getD 1 0)])) []:=by
 subst hx;subst hy;refine AX.c ?_;refine j9 (fun i=>⟨[(0,F8 k tag),(1,u32 (D3 k (v,w) i).1),(2,u32 (D3 k (v,w) i).2),(11,i64 (12-i))],[]⟩) 12 ⟨[],⟨rfl,rfl,rfl,rfl,tq⟩,tq⟩ fun i hi=> ?_;refine c9 (fun h=> ?_) (fun h=> ?_)
 ·have a9:i<12:=(by omega);have b1:=dX (D3 k (v,w) i).1;have b2:=dX (rB k (11-i) (D3 k (v,w) i));have e4:(I6.wrap (I6.wrap (2*((12:Int)-i))+1)).toNat=2*(11-i)+3:=(by simp(disch:=omega)only[Za];omega);have e5:(I6.wrap (2*((12:Int)-i))).toNat=2*(11-i)+2:=(by simp(disch:=omega)only[Za];omega);refine⟨_,rfl,by omega,by omega,?_⟩;refine⟨_,by rw[e4];exact p7 (i:=2*(11-i)+3) (by omega),?_⟩;refine⟨by decide,?_⟩;refine⟨[],_,_,_,_,S3 (v:=(D3 k (v,w) i).2-k.getD (2*(11-i)+3) 0) (k:=(32-((D3 k (v,w) i).1%32).toNat)%32) (ao _ _) (by rw[T7,O5];simp only[IntKind.wrap_i64];omega) (by rw[T7,O5];simp only[IntKind.wrap_i64];omega),rfl,rfl,?_⟩;have e3:U3.wrap ((Zc U3.bits ((C3 ((D3 k (v,w) i).2-k.getD (2*(11-i)+3) 0) ((32-((D3 k (v,w) i).1%32).toNat)%32)).toNat:Int)^^^Zc U3.bits ((D3 k (v,w) i).1.toNat:Int)).toNat:Int)=((rB k (11-i) (D3 k (v,w) i)).toNat:Int):=z6 _ _;refine⟨_,rfl,by omega,by omega,?_⟩;refine⟨_,by rw[e5];exact p7 (i:=2*(11-i)+2) (by omega),?_⟩;refine⟨by decide,?_⟩;refine⟨[],_,_,_,_,S3 (v:=(D3 k (v,w) i).1-k.getD (2*(11-i)+2) 0) (k:=(32-(rB k (11-i) (D3 k (v,w) i)%32).toNat)%32) (ao _ _) (by rw[e3,T7,O5];simp only[IntKind.wrap_i64];omega) (by rw[e3,T7,O5];simp only[IntKind.wrap_i64];omega),rfl,rfl,?_⟩;refine⟨i+1,by omega,by omega,[],⟨rfl,?_,?_,d7 (by simp(disch:=omega)only[Za];omega),tq⟩,tq⟩
  ·rw[qX,e3];exact congrArg (vi .u32) (z6 _ _)
  ·rw[qX];exact congrArg (vi .u32) e3
 ·obtain rfl:i=12:=(by omega);refine⟨_,rfl,by decide,by omega,?_⟩;refine⟨_,p7 (i:=0) (by omega),?_⟩;refine⟨_,rfl,by decide,by omega,?_⟩;refine⟨_,p7 (i:=1) (by omega),?_⟩;refine⟨_,rfl,[],?_,tq⟩;show V.t [vi .u32 _,vi .u32 _]=_;rw[ao,ao]
theorem oI {l:Bs} {x:V} {j:Nat} {i:Int} (hx:x=I5 l) (hi:i=j) (hj:j<l.length) (hd:dV (l.getD j 48)=true):a7 C 269 [x,i64 i] [] (.ret (i64 (P4 (l.getD j 48)))) []:=by
 subst hx;subst hi;refine Rb.c ?_;refine⟨by omega,?_,?_⟩
 ·show((j:Int))<(((l.toArray).size:Nat):Int);simp only[List.size_toArray];omega
 refine⟨_,by rw[Zb];exact nQ hj,?_⟩;refine⟨[],_,_,_,_,JH rfl hd,rfl,rfl,?_⟩;exact⟨_,rfl,[],rfl,tq⟩
theorem LM {j:Nat} {i:Int} (hi:i=j) (hj:j<8):a7 C 273 [i64 i] [] (.ret (I5 (bu.getD j []))) []:=by
 subst hi;refine RX.c ?_;refine⟨by omega,by omega,?_⟩;refine⟨.string ⟨(bu.getD j []).toArray⟩,?_,?_⟩
 ·rw[Zb,Zm,Zl];show(bu.map fun l=>Value.string ⟨l.toArray⟩)[j]? =_;have:j<bu.length:=hj;simp[this]
 ·exact⟨_,rfl,[],rfl,tq⟩
theorem oZ {a b:Int} {x k:UInt32} (ha:a=x.toNat) (hb:b=k.toNat):a7 C 261 [vi .u32 a,vi .u32 b] [] (.ret (u32 (mG x k))) []:=by
 subst ha;subst hb;refine Rx.c ?_;refine j9 (fun i=>⟨[(0,u32 (x+k)),(5,u32 ((List.range i).foldl (fun o i=>o|||uN (x+k) i) 0)),(6,i64 i)],[]⟩) 8 ⟨[],⟨congrArg (vi .u32) (s6 _ _),rfl,rfl,tq⟩,tq⟩ fun i hi=> ?_;refine c9 (fun h=> ?_) (fun h=> ?_)
 ·have a9:i<8:=(by omega);have e4:U6.wrap (I6.wrap (4*(i:Int)))=((4*i:Nat):Int):=by simp only[IntKind.wrap_i64,D5];omega
  have e5:((x+k).toNat:Int).fdiv (2^(min (((4*i:Nat):Int)).toNat U3.bits))=(((x+k)>>>Zn (4*i)).toNat:Int):=by
   rw[am _ _ (by omega) (by omega),Zb]
  have e6:U3.wrap ((Zc U3.bits ((((x+k)>>>Zn (4*i)).toNat:Nat):Int)&&&Zc U3.bits 15).toNat:Int)=(((x+k)>>>Zn (4*i)&&&15).toNat:Int):=vW _ 15;have b:=xi ((x+k)>>>Zn (4*i));have hl:=Ck i a9;refine⟨[],_,_,_,_,LM (j:=i) rfl a9,rfl,rfl,?_⟩;refine⟨by rw[e4];omega,?_⟩;refine⟨[],_,_,_,_,oI (j:=((x+k)>>>Zn (4*i)&&&15).toNat) rfl (by rw[e4,e5,e6,O5]) (by omega) (Cj i a9 _ b),rfl,rfl,?_⟩;refine⟨by rw[e4];omega,?_⟩;refine⟨i+1,a9,by omega,[],⟨rfl,congrArg (vi .u32) ?_,d7 (by simp(disch:=omega)only[Za];omega),tq⟩,tq⟩;rw[e4,CJ (P4 _),mc _ _ (by omega) (by omega),rI,Zz,J4,Zb];rfl
 ·obtain rfl:i=8:=(by omega);refine⟨[],_,_,_,_,S3 (k:=11) rfl (by decide) (by decide),rfl,rfl,?_⟩;exact⟨_,rfl,[],rfl,tq⟩
theorem Ci {k:List UInt32} (hk:k.length=8) {n:Nat} (hn:n<32):(C2 k)[n]? =some (k.getD (if 24<=n then 31-n else n%8) 0):=by
 unfold C2;have g:∀j,j<8->k[j]? =some (k.getD j 0):=fun j hj=>by rw[Zd,Zf (by omega)];rfl
 by_cases h1:n<8
 ·rw[Jf,Jf,Ja (by omega),if_neg (by omega),g n h1,Zh h1]
 by_cases h2:n<16
 ·rw[Jf,Jf,Z7 (by omega),Ja (by omega),if_neg (by omega),g _ (by omega),hk];congr 2;omega
 by_cases h3:n<24
 ·rw[Ja (by simp;omega),Z7 (by simp;omega),if_neg (by omega),g _ (by simp;omega)];congr 2;simp;omega
 ·rw[Z7 (by simp;omega),if_pos (by omega),Ky (by simp;omega),g _ (by simp;omega)];congr 2;simp;omega
theorem zb {tag x y:Int} {k:List UInt32} {v w:UInt32} (hk:k.length=8) (hx:x=v.toNat) (hy:y=w.toNat):a7 C 218 [F8 k tag,vi .u32 x,vi .u32 y,bool false] []
  (.ret (.t [u32 (bw (C2 k) v w).1,u32 (bw (C2 k) v w).2])) []:=by
 subst hx;subst hy;refine AW.c ?_;have hm:(C2 k).length=32:=by simp[C2,hk]
 refine j9 (fun i=>⟨[(0,F8 k tag),(1,u32 ((((C2 k).take i).foldl Q9 (v,w)).1)),(2,u32 ((((C2 k).take i).foldl Q9 (v,w)).2)),(3,bool false),(10,i64 i)],[]⟩) 32 ⟨[],⟨rfl,rfl,rfl,rfl,rfl,tq⟩,tq⟩ fun i hi=> ?_;refine c9 (fun h=> ?_) (fun h=> ?_)
 ·have a9:i<32:=(by omega);have eg:=Ci hk a9;have gi:(C2 k)[i]'(by omega)=k.getD (if 24<=i then 31-i else i%8) 0:=by
   rw[Zf (by omega)]at eg;exact Option.some.inj eg
  have e8:((i:Int).tmod 8)=((i%8:Nat):Int):=W8 i 8;refine⟨by decide,?_⟩;refine c9 (fun h24=> ?_) (fun h24=> ?_)
  ·have e:(I6.wrap (31-(i:Int))).toNat=31-i:=(by simp(disch:=omega)only[Za];omega);refine⟨_,rfl,(by simp(disch:=omega)only[Za];omega),by omega,?_⟩;refine⟨_,by rw[e];exact p7 (i:=31-i) (by omega),?_⟩;refine⟨[],_,_,_,_,oZ rfl rfl,rfl,rfl,?_⟩;refine⟨i+1,by omega,by omega,[],⟨rfl,?_,?_,rfl,d7 (by simp(disch:=omega)only[Za];omega),tq⟩,tq⟩
   ·rw[bW _ _ _ _ (by omega)];rfl
   ·rw[bW _ _ _ _ (by omega),gi,if_pos (by omega)];exact congrArg (vi .u32) (z6 _ _)
  ·refine⟨_,rfl,by rw[e8];omega,by rw[e8];omega,?_⟩;refine⟨_,by rw[e8,Zb];exact p7 (i:=i%8) (by omega),?_⟩;refine⟨[],_,_,_,_,oZ rfl rfl,rfl,rfl,?_⟩;refine⟨i+1,by omega,by omega,[],⟨rfl,?_,?_,rfl,d7 (by simp(disch:=omega)only[Za];omega),tq⟩,tq⟩
   ·rw[bW _ _ _ _ (by omega)];rfl
   ·rw[bW _ _ _ _ (by omega),gi,if_neg (by omega)];exact congrArg (vi .u32) (z6 _ _)
 ·obtain rfl:i=32:=(by omega);rw[<-hm,Zq];exact⟨_,rfl,[],rfl,tq⟩
theorem zd {tag x y:Int} {k:List UInt32} {v w:UInt32} (hk:k.length=8) (hx:x=v.toNat) (hy:y=w.toNat):a7 C 218 [F8 k tag,vi .u32 x,vi .u32 y,bool true] []
  (.ret (.t [u32 (bw (C2 k).reverse v w).1,u32 (bw (C2 k).reverse v w).2])) []:=by
 subst hx;subst hy;refine AW.c ?_;have hm:(C2 k).reverse.length=32:=by simp[C2,hk]
 refine j9 (fun i=>⟨[(0,F8 k tag),(1,u32 ((((C2 k).reverse.take i).foldl Q9 (v,w)).1)),(2,u32 ((((C2 k).reverse.take i).foldl Q9 (v,w)).2)),(3,bool true),(10,i64 i)],[]⟩) 32 ⟨[],⟨rfl,rfl,rfl,rfl,rfl,tq⟩,tq⟩ fun i hi=> ?_;refine c9 (fun h=> ?_) (fun h=> ?_)
 ·have a9:i<32:=(by omega);have eg:=Ci hk (n:=31-i) (by omega);have gi:(C2 k).reverse[i]'(by omega)=k.getD (if 24<=31-i then 31-(31-i)else (31-i)%8) 0:=by
   rw[Zf (by simp at hm;omega)]at eg;rw[Js,<-Option.some.inj eg];congr 1;simp at hm;omega
  have e8:((I6.wrap (31-(i:Int))).tmod 8)=(((31-i)%8:Nat):Int):=by
   rw[show I6.wrap (31-(i:Int))=((31-i:Nat):Int) from (by simp(disch:=omega)only[Za];omega)];exact W8 _ 8
  have e31:I6.wrap (31-(i:Int))=((31-i:Nat):Int):=(by simp(disch:=omega)only[Za];omega);refine⟨by decide,?_⟩;refine c9 (fun h24=> ?_) (fun h24=> ?_)
  ·have e:(I6.wrap (31-I6.wrap (31-(i:Int)))).toNat=31-(31-i):=(by simp(disch:=omega)only[Za];omega);rw[e31]at h24;refine⟨_,rfl,(by simp(disch:=omega)only[Za];omega),by omega,?_⟩;refine⟨_,by rw[e];exact p7 (i:=31-(31-i)) (by omega),?_⟩;refine⟨[],_,_,_,_,oZ rfl rfl,rfl,rfl,?_⟩;refine⟨i+1,by omega,by omega,[],⟨rfl,?_,?_,rfl,d7 (by simp(disch:=omega)only[Za];omega),tq⟩,tq⟩
   ·rw[bW _ _ _ _ (by omega)];rfl
   ·rw[bW _ _ _ _ (by omega),gi,if_pos (by omega)];exact congrArg (vi .u32) (z6 _ _)
  ·rw[e31]at h24;refine⟨_,rfl,by rw[e8];omega,by rw[e8];omega,?_⟩;refine⟨_,by rw[e8,Zb];exact p7 (i:=(31-i)%8) (by omega),?_⟩;refine⟨[],_,_,_,_,oZ rfl rfl,rfl,rfl,?_⟩;refine⟨i+1,by omega,by omega,[],⟨rfl,?_,?_,rfl,d7 (by simp(disch:=omega)only[Za];omega),tq⟩,tq⟩
   ·rw[bW _ _ _ _ (by omega)];rfl
   ·rw[bW _ _ _ _ (by omega),gi,if_neg (by omega)];exact congrArg (vi .u32) (z6 _ _)
 ·obtain rfl:i=32:=(by omega);rw[<-hm,Zq];exact⟨_,rfl,[],rfl,tq⟩
def M8 (v:UInt32):Bs:=n8 v.toUInt64 4
def p6 (v:UInt32):Bs:=(n8 v.toUInt64 4).reverse
theorem ia (v):(M8 v).length=4:=u6 _ _
theorem E8 (v):(p6 v).length=4:=by simp[p6,u6]
abbrev g8:V:= .s (.slice none 0 0)
abbrev A8 (n:Nat):Oc:= .ret (.t [.o 1 (.k 0) 0 n,i64 0])
abbrev R9:Oc:= .ret (.t [g8,i64 1])
theorem zC {x y:Int} {v w:UInt32} (hx:x=v.toNat) (hy:y=w.toNat):a7 C 152 [vi .u32 x,vi .u32 y,bool false] [] (.ret (.o 1 (.k 0) 0 8)) [.sc (bv (M8 v++M8 w))]:=by
 subst hx;subst hy;refine Bi.c ?_;refine⟨[],_,_,_,_,th rfl,rfl,rfl,?_⟩;refine⟨[],_,_,_,_,th rfl,rfl,rfl,?_⟩;refine⟨[],_,_,_,_,U1 (ls:=[M8 v,M8 w]) (t:=M8 v++M8 w) (by simp) ?_ rfl (by simp[ia]) (by simp[ia]),rfl,rfl,?_⟩
 ·show[V.z _ _,V.z _ _]=_;rw[b8 (u6 _ _),b8 (u6 _ _)];simp[M8,u6]
 refine⟨_,rfl,[.d 19 0],?_,⟨_,rfl,rfl⟩,tq⟩;show V.o 1 (.k 0) 0 _=_;rw[Ze,ia,ia]
theorem My {x y:Int} {v w:UInt32} (hx:x=v.toNat) (hy:y=w.toNat):a7 C 152 [vi .u32 x,vi .u32 y,bool true] [] (.ret (.o 1 (.k 0) 0 8)) [.sc (bv (p6 v++p6 w))]:=by
 subst hx;subst hy;refine Bi.c ?_;refine⟨[],_,_,_,_,jX rfl,rfl,rfl,?_⟩;refine⟨[],_,_,_,_,jX rfl,rfl,rfl,?_⟩;refine⟨[],_,_,_,_,U1 (ls:=[p6 v,p6 w]) (t:=p6 v++p6 w) (by simp) ?_ rfl (by simp[E8]) (by simp[E8]),rfl,rfl,?_⟩
 ·show[V.z _ _,V.z _ _]=_;rw[show (n8 v.toUInt64 4).reverse=p6 v from rfl,show(n8 w.toUInt64 4).reverse=p6 w from rfl,b8 (E8 _),b8 (E8 _)];simp[p6,u6]
 refine⟨_,rfl,[.d 13 0],?_,⟨_,rfl,rfl⟩,tq⟩;show V.o 1 (.k 0) 0 _=_;rw[Ze,E8,E8]
theorem ye {va:List Value} {k:List UInt32} {b:Bs} {back:Bool} {r:W2} (ha:va=bv b) (hb:b.length=8) (hf:a7 C 149 [M9 k 4,u32 (o7 (sub b 0 4)),u32 (o7 (sub b 4 4)),bool back] [] (.ret (.t [u32 r.1,u32 r.2])) []):a7 C 87 [M9 k 4,.z 8 va,bool back] [] (A8 8) [.sc (bv (M8 r.1++M8 r.2))]:=by
 refine pT.c ?_;refine⟨_,rfl,?_⟩;refine⟨[],_,_,_,_,jS (m:=2) ha hb rfl (by decide) (by decide),rfl,rfl,?_⟩;refine⟨by decide,by decide,_,rfl,by decide,by decide,_,rfl,_,rfl,?_⟩;refine⟨[],_,_,_,_,hf,rfl,rfl,?_⟩;refine⟨[],_,_,_,_,zC rfl rfl,rfl,rfl,?_⟩;exact⟨_,rfl,[.d 66 0],rfl,⟨_,rfl,rfl⟩,tq⟩
theorem yd {va:List Value} {k:List UInt32} {b:Bs} {back:Bool} {r:W2} (ha:va=bv b) (hb:b.length=8) (hf:a7 C 150 [M9 k 5,u32 (o7 (sub b 0 4)),u32 (o7 (sub b 4 4)),bool back] [] (.ret (.t [u32 r.1,u32 r.2])) []):a7 C 87 [M9 k 5,.z 8 va,bool back] [] (A8 8) [.sc (bv (M8 r.1++M8 r.2))]:=by
 refine pT.c ?_;refine⟨_,rfl,?_⟩;refine⟨[],_,_,_,_,jS (m:=2) ha hb rfl (by decide) (by decide),rfl,rfl,?_⟩;refine⟨by decide,by decide,_,rfl,by decide,by decide,_,rfl,_,rfl,?_⟩;refine⟨[],_,_,_,_,hf,rfl,rfl,?_⟩;refine⟨[],_,_,_,_,zC rfl rfl,rfl,rfl,?_⟩;exact⟨_,rfl,[.d 66 0],rfl,⟨_,rfl,rfl⟩,tq⟩
theorem Ij {va:List Value} {k:List UInt32} {b:Bs} {back:Bool} {r:W2} (ha:va=bv b) (hb:b.length=8) (hf:a7 C 151 [M9 k 8,u32 (o5 (sub b 0 4)),u32 (o5 (sub b 4 4)),bool back] [] (.ret (.t [u32 r.1,u32 r.2])) []):a7 C 87 [M9 k 8,.z 8 va,bool back] [] (A8 8) [.sc (bv (p6 r.1++p6 r.2))]:=by
 refine pT.c ?_;refine⟨_,rfl,?_⟩;refine⟨[],_,_,_,_,tc (m:=2) ha hb rfl (by decide) (by decide),rfl,rfl,?_⟩;refine⟨by decide,by decide,_,rfl,by decide,by decide,_,rfl,_,rfl,?_⟩;refine⟨[],_,_,_,_,hf,rfl,rfl,?_⟩;refine⟨[],_,_,_,_,My rfl rfl,rfl,rfl,?_⟩;exact⟨_,rfl,[.d 66 0],rfl,⟨_,rfl,rfl⟩,tq⟩
theorem jP {va:List Value} {k:List UInt32} {tag:Int} {n:Nat} {back:Bool} (hn:n≠8):a7 C 87 [M9 k tag,.z n va,bool back] [] R9 []:=by
 refine pT.c ?_;refine o9 (fun h=> ?_) (fun h=>absurd (by omega) hn);exact⟨_,rfl,[],rfl,tq⟩
theorem yZ {va:List Value} {k:List UInt32} {b:Bs} {back:Bool} {r:W2} (ha:va=bv b) (hb:b.length=8) (hf:a7 C 217 [F8 k 4,u32 (o7 (sub b 0 4)),u32 (o7 (sub b 4 4)),bool back] [] (.ret (.t [u32 r.1,u32 r.2])) []):a7 C 157 [F8 k 4,.z 8 va,bool back] [] (A8 8) [.sc (bv (M8 r.1++M8 r.2))]:=by
 refine pQ.c ?_;refine⟨_,rfl,?_⟩;refine⟨[],_,_,_,_,pa (m:=2) ha hb rfl (by decide) (by decide),rfl,rfl,?_⟩;refine⟨by decide,by decide,_,rfl,by decide,by decide,_,rfl,_,rfl,?_⟩;refine⟨[],_,_,_,_,hf,rfl,rfl,?_⟩;refine⟨[],_,_,_,_,jY rfl,rfl,rfl,?_⟩;refine⟨[],_,_,_,_,jY rfl,rfl,rfl,?_⟩;refine⟨by simp[u6,f9,I9,t3,Ze,Zj,Zu,Zv,Zx,Zs,Zw,j4,Zi,Zy,Zo],by decide,by simp[u6,f9,I9,t3,Ze,Zj,Zu,Zv,Zx,Zs,Zw,j4,Zi,Zy,Zo],?_⟩;refine⟨_,rfl,[.d 74 0],rfl,⟨_,rfl,d9 ?_⟩,tq⟩;rw[b8 (u6 _ _),b8 (u6 _ _),x5];rfl
theorem yY {va:List Value} {k:List UInt32} {b:Bs} {back:Bool} {r:W2} (ha:va=bv b) (hb:b.length=8) (hf:a7 C 218 [F8 k 5,u32 (o7 (sub b 0 4)),u32 (o7 (sub b 4 4)),bool back] [] (.ret (.t [u32 r.1,u32 r.2])) []):a7 C 157 [F8 k 5,.z 8 va,bool back] [] (A8 8) [.sc (bv (M8 r.1++M8 r.2))]:=by
 refine pQ.c ?_;refine⟨_,rfl,?_⟩;refine⟨[],_,_,_,_,pa (m:=2) ha hb rfl (by decide) (by decide),rfl,rfl,?_⟩;refine⟨by decide,by decide,_,rfl,by decide,by decide,_,rfl,_,rfl,?_⟩;refine⟨[],_,_,_,_,hf,rfl,rfl,?_⟩;refine⟨[],_,_,_,_,jY rfl,rfl,rfl,?_⟩;refine⟨[],_,_,_,_,jY rfl,rfl,rfl,?_⟩;refine⟨by simp[u6,f9,I9,t3,Ze,Zj,Zu,Zv,Zx,Zs,Zw,j4,Zi,Zy,Zo],by decide,by simp[u6,f9,I9,t3,Ze,Zj,Zu,Zv,Zx,Zs,Zw,j4,Zi,Zy,Zo],?_⟩;refine⟨_,rfl,[.d 74 0],rfl,⟨_,rfl,d9 ?_⟩,tq⟩;rw[b8 (u6 _ _),b8 (u6 _ _),x5];rfl
theorem LI {va:List Value} {k:List UInt32} {b:Bs} {back:Bool} {r:W2} (ha:va=bv b) (hb:b.length=8) (hf:a7 C 216 [F8 k 8,u32 (o5 (sub b 0 4)),u32 (o5 (sub b 4 4)),bool back] [] (.ret (.t [u32 r.1,u32 r.2])) []):a7 C 157 [F8 k 8,.z 8 va,bool back] [] (A8 8) [.sc (bv (p6 r.1++p6 r.2))]:=by
 refine pQ.c ?_;refine⟨_,rfl,?_⟩;refine⟨[],_,_,_,_,za (m:=2) ha hb rfl (by decide) (by decide),rfl,rfl,?_⟩;refine⟨by decide,by decide,_,rfl,by decide,by decide,_,rfl,?_⟩;refine⟨[],_,_,_,_,hf,rfl,rfl,?_⟩;refine⟨[],_,_,_,_,oV rfl,rfl,rfl,?_⟩;refine⟨[],_,_,_,_,oV rfl,rfl,rfl,?_⟩;refine⟨by simp[u6,f9,I9,t3,Ze,Zj,Zu,Zv,Zx,Zs,Zw,j4,Zi,Zy,Zo],by decide,by simp[u6,f9,I9,t3,Ze,Zj,Zu,Zv,Zx,Zs,Zw,j4,Zi,Zy,Zo],?_⟩;refine⟨_,rfl,[.d 40 0],rfl,⟨_,rfl,d9 ?_⟩,tq⟩;rw[show (n8 r.1.toUInt64 4).reverse=p6 r.1 from rfl,show(n8 r.2.toUInt64 4).reverse=p6 r.2 from rfl,b8 (E8 _),b8 (E8 _),x5]
theorem ka {va:List Value} {k:List UInt32} {tag:Int} {n:Nat} {back:Bool} (hn:n≠8):a7 C 157 [F8 k tag,.z n va,bool back] [] R9 []:=by
 refine pQ.c ?_;refine o9 (fun h=> ?_) (fun h=>absurd (by omega) hn);exact⟨_,rfl,[],rfl,tq⟩
theorem pf {va:List Value} {key:Bs} (ha:va=bv key) (hk:key.length=16):a7 C 86 [i64 4,.z 16 va] [] (.ret (.t [M9 (w5 o7 key 4) 4,i64 0])) []:=by
 refine kA.c ?_;refine⟨[],_,_,_,_,jS (m:=4) ha hk rfl (by decide) (by decide),rfl,rfl,?_⟩;refine⟨_,rfl,[],?_,tq⟩;show V.t [.q [.z 4 (sub _ 0 4),i64 4] 0,i64 0]=V.t [.q [.z _ _,i64 4] 0,i64 0];rw[y8 (I7 _ _ _),I7]
theorem pe {va:List Value} {key:Bs} (ha:va=bv key) (hk:key.length=32):a7 C 86 [i64 5,.z 32 va] [] (.ret (.t [M9 (w5 o7 key 8) 5,i64 0])) []:=by
 refine kA.c ?_;refine⟨[],_,_,_,_,jS (m:=8) ha hk rfl (by decide) (by decide),rfl,rfl,?_⟩;refine⟨_,rfl,[],?_,tq⟩;show V.t [.q [.z 8 (sub _ 0 8),i64 5] 0,i64 0]=V.t [.q [.z _ _,i64 5] 0,i64 0];rw[y8 (I7 _ _ _),I7]
theorem zw {va:List Value} {key:Bs} (ha:va=bv key) (hk:key.length=16):a7 C 86 [i64 8,.z 16 va] [] (.ret (.t [M9 (t6 (w5 o5 key 4) 78).1 8,i64 0])) []:=by
 refine kA.c ?_;refine⟨[],_,_,_,_,tc (m:=4) ha hk rfl (by decide) (by decide),rfl,rfl,?_⟩;refine⟨[.d 21 0],_,_,_,_,yr (I7 o5 key 4),rfl,rfl,?_⟩;refine⟨_,rfl,[],?_,tq⟩;have h:=(iZ (w5 o5 key 4) 78).1;show V.t [.q [.z 26 (sub _ 0 26),i64 8] 0,i64 0]=V.t [.q [.z _ _,i64 8] 0,i64 0];rw[y8 h,h]
theorem zg {va:List Value} {key:Bs} (ha:va=bv key) (hk:key.length=16):a7 C 58 [i64 4,.z 16 va] [] (.ret (.t [F8 (w5 o7 key 4) 4,i64 0])) []:=by
 refine uk.c ?_;refine⟨[],_,_,_,_,pa (m:=4) ha hk rfl (by decide) (by decide),rfl,rfl,?_⟩;refine⟨_,rfl,[],?_,tq⟩;show V.t [.q [i64 4,.z 4 (sub _ 0 4)] 0,i64 0]=V.t [.q [i64 4,.z _ _] 0,i64 0];rw[y8 (I7 _ _ _),I7]
theorem ze {va:List Value} {key:Bs} (ha:va=bv key) (hk:key.length=32):a7 C 58 [i64 5,.z 32 va] [] (.ret (.t [F8 (w5 o7 key 8) 5,i64 0])) []:=by
 refine uk.c ?_;refine⟨[],_,_,_,_,pa (m:=8) ha hk rfl (by decide) (by decide),rfl,rfl,?_⟩;refine⟨_,rfl,[],?_,tq⟩;show V.t [.q [i64 5,.z 8 (sub _ 0 8)] 0,i64 0]=V.t [.q [i64 5,.z _ _] 0,i64 0];rw[y8 (I7 _ _ _),I7]
theorem zf {va:List Value} {key:Bs} (ha:va=bv key) (hk:key.length=16):a7 C 58 [i64 8,.z 16 va] [] (.ret (.t [F8 (t6 (w5 o5 key 4) 78).1 8,i64 0])) []:=by
 refine uk.c ?_;refine⟨[],_,_,_,_,LN ha hk,rfl,rfl,?_⟩;refine⟨_,rfl,[],?_,tq⟩;have h:=(iZ (w5 o5 key 4) 78).1;show V.t [.q [i64 8,.z 26 (sub _ 0 26)] 0,i64 0]=V.t [.q [i64 8,.z _ _] 0,i64 0];rw[y8 h,h]
def C8 (t:Int):Int:=if t=1\/t=2\/t=3\/t=4\/t=5\/t=8 then 8 else if t=6\/t=7 then 16 else 0
def m6 (t:Int):List Int:=if t=1 then [8]else if t=2 then [16,24]else if t=3\/t=4\/t=8 then [16]else if t=5 then [32]else if t=6\/t=7 then [16,24,32]else []
def m8 (t:Int):Prop:=t=1\/t=2\/t=3\/t=4\/t=5\/t=6\/t=7\/t=8
theorem Q5 {t:Int} (h:m8 t):a7 C 50 [i64 t] [] (.ret (i64 (C8 t))) []:=by
 rcases h with rfl|rfl|rfl|rfl|rfl|rfl|rfl|rfl<;>exact AF.c ⟨_,rfl,[],rfl,tq⟩
theorem oU {t:Int} (h:m8 t):a7 C 23 [i64 t] [] (.ret (i64 (C8 t))) []:=by
 rcases h with rfl|rfl|rfl|rfl|rfl|rfl|rfl|rfl<;>exact Qd.c ⟨_,rfl,[],rfl,tq⟩
theorem Ml {t:Int} (h:¬m8 t):a7 C 50 [i64 t] [] (.ret (i64 0)) []:=by
 unfold m8 at h;refine AF.c ?_;refine w9 (by simp only[beq_eq_false_iff_ne,ne_eq];omega) (w9 (by simp only[beq_eq_false_iff_ne,ne_eq];omega) (w9 (by simp only[beq_eq_false_iff_ne,ne_eq];omega) (w9 (by simp only[beq_eq_false_iff_ne,ne_eq];omega) (w9 (by simp only[beq_eq_false_iff_ne,ne_eq];omega) (w9 (by simp only[beq_eq_false_iff_ne,ne_eq];omega) (w9 (by simp only[beq_eq_false_iff_ne,ne_eq];omega) (w9 (by simp only[beq_eq_false_iff_ne,ne_eq];omega) ?_)))))));exact⟨_,rfl,[],rfl,tq⟩
theorem U4 {t:Int} (h:m8 t):a7 C 24 [i64 t] [] (.ret (.o 1 (.k 0) 0 (m6 t).length)) [.sc (iv (m6 t))]:=by
 rcases h with rfl|rfl|rfl|rfl|rfl|rfl|rfl|rfl
 ·exact gq.c ⟨_,rfl,[.d 6 0],rfl,⟨_,rfl,rfl⟩,tq⟩
 ·exact gq.c ⟨_,rfl,[.d 9 0],rfl,⟨_,rfl,rfl⟩,tq⟩
 ·exact gq.c ⟨_,rfl,[.d 14 0],rfl,⟨_,rfl,rfl⟩,tq⟩
 ·exact gq.c ⟨_,rfl,[.d 14 0],rfl,⟨_,rfl,rfl⟩,tq⟩
 ·exact gq.c ⟨_,rfl,[.d 17 0],rfl,⟨_,rfl,rfl⟩,tq⟩
 ·exact gq.c ⟨_,rfl,[.d 21 0],rfl,⟨_,rfl,rfl⟩,tq⟩
 ·exact gq.c ⟨_,rfl,[.d 21 0],rfl,⟨_,rfl,rfl⟩,tq⟩
 ·exact gq.c ⟨_,rfl,[.d 14 0],rfl,⟨_,rfl,rfl⟩,tq⟩
theorem tk {t:Int} (h:m8 t):a7 C 53 [i64 t] [] (.ret (.o 1 (.k 0) 0 (m6 t).length)) [.sc (iv (m6 t))]:=by
 rcases h with rfl|rfl|rfl|rfl|rfl|rfl|rfl|rfl
 ·exact fe.c ⟨_,rfl,[.d 6 0],rfl,⟨_,rfl,rfl⟩,tq⟩
 ·exact fe.c ⟨_,rfl,[.d 9 0],rfl,⟨_,rfl,rfl⟩,tq⟩
 ·exact fe.c ⟨_,rfl,[.d 14 0],rfl,⟨_,rfl,rfl⟩,tq⟩
 ·exact fe.c ⟨_,rfl,[.d 14 0],rfl,⟨_,rfl,rfl⟩,tq⟩
 ·exact fe.c ⟨_,rfl,[.d 17 0],rfl,⟨_,rfl,rfl⟩,tq⟩
 ·exact fe.c ⟨_,rfl,[.d 21 0],rfl,⟨_,rfl,rfl⟩,tq⟩
 ·exact fe.c ⟨_,rfl,[.d 21 0],rfl,⟨_,rfl,rfl⟩,tq⟩
 ·exact fe.c ⟨_,rfl,[.d 14 0],rfl,⟨_,rfl,rfl⟩,tq⟩
theorem Lp {t:Int} (h:¬m8 t):a7 C 53 [i64 t] [] (.ret g8) []:=by
 unfold m8 at h;refine fe.c ?_;refine w9 (by simp only[beq_eq_false_iff_ne,ne_eq];omega) (w9 (by simp only[beq_eq_false_iff_ne,ne_eq];omega) (w9 (by simp only[beq_eq_false_iff_ne,ne_eq];omega) (w9 (by simp only[beq_eq_false_iff_ne,ne_eq];omega) (w9 (by simp only[beq_eq_false_iff_ne,ne_eq];omega) (w9 (by simp only[beq_eq_false_iff_ne,ne_eq];omega) (w9 (by simp only[beq_eq_false_iff_ne,ne_eq];omega) (w9 (by simp only[beq_eq_false_iff_ne,ne_eq];omega) ?_)))))));exact⟨_,rfl,[],rfl,tq⟩
def ng (x:Int):List Int->Nat
 |[]=>0
 |y::r=>if y=x then 0 else ng x r+1
theorem Bp {x:Int}:∀{l:List Int} {i:Nat},x∉l.take i->l[i]? =some x->ng x l=i
 |[],i,_,h=>by simp at h
 |y::r,0,_,h=>by simp at h;simp[ng,h]
 |y::r,i+1,hn,h=>by
  simp at hn h;have h1:¬y=x:=fun e=>hn.1 e.symm;simp only[ng,if_neg h1];rw[Bp (i:=i) hn.2 h]
def pY (x:Int) (l:List Int):Int:=if x∈l then ng x l else -1
theorem JV {n:Nat} {va:List Value} {l:List Int} {x:Int} (ha:va=iv l) (hn:l.length=n) (hm:n<=1073741824):a7 C 125 [.z n va,i64 x] [] (.ret (i64 (pY x l))) []:=by
 subst ha;subst hn;refine Sv.c ?_;refine⟨Nat,fun i=>⟨[(0,iz l),(1,i64 x),(7,i64 l.length),(8,i64 i)],[]⟩,fun i=>i<=l.length/\x∉l.take i,fun i=>l.length-i,⟨[],0,⟨Z6 _,by simp⟩,[],⟨rfl,rfl,rfl,rfl,tq⟩,tq⟩,fun i hi=> ?_⟩;obtain⟨hi,hx⟩:=hi;refine c9 (fun h=> ?_) (fun h=> ?_)
 ·have a9:i<l.length:=(by omega);refine⟨by omega,by omega,?_⟩;refine⟨_,by rw[Zb];exact uE a9,?_⟩;refine j7 (fun h=> ?_) (fun h=> ?_)
  ·refine⟨_,rfl,[],d7 ?_,tq⟩;have h1:x∈l:=by rw[h];exact Kn a9
   rw[pY,if_pos h1,Bp hx (by rw[Zf a9,h])]
  ·refine⟨i+1,⟨by omega,?_⟩,(by simp(disch:=omega)only[Za];omega),[],⟨rfl,rfl,rfl,d7 (by simp(disch:=omega)only[Za];omega),tq⟩,tq⟩;rw[Zr a9];simp only[Kv,Kf,not_or];exact⟨hx,h⟩
 ·obtain rfl:i=l.length:=(by omega);refine⟨_,rfl,[],d7 ?_,tq⟩;rw[Zq]at hx;rw[pY,if_neg hx]
theorem U2 {n:Nat} {va:List Value} {l:List Int} {x:Int} (ha:va=iv l) (hn:l.length=n) (hm:n<=1073741824):a7 C 77 [.z n va,i64 x] [] (.ret (bool (decide (x∈l)))) []:=by
 refine Ss.c ?_;refine⟨[],_,_,_,_,JV ha hn hm,rfl,rfl,?_⟩;refine⟨_,rfl,[],congrArg bool ?_,tq⟩;unfold pY;by_cases h:x∈l
 ·rw[if_pos h,decide_eq_true h];exact decide_eq_true (Int.natCast_nonneg _)
 ·rw[if_neg h,decide_eq_false h];rfl
abbrev b9 (t:Int) (k:Nat) (xs:List V):V:= .q [i64 t,.f (.func k) [.q xs 0] []] 0
theorem fW (t):(m6 t).length<=3:=by
 unfold m6
 repeat' split
 all_goals simp
theorem Lc {t:Int} {n:Nat} {va:List Value} {xs:List V} (ht:t=4\/t=5\/t=8) (hv:(n:Int)∈m6 t) (hm:n<=1000) (hs:a7 C 86 [i64 t,.z n va] [] (.ret (.t [.q xs 0,i64 0])) []):
  a7 C 25 [i64 t,.z n va] [] (.ret (.t [b9 t 87 xs,i64 0])) []:=by
 refine aB.c ?_;have hl:=fW t;rcases ht with rfl|rfl|rfl
 ·refine⟨0,Unit,(fun _=>⟨[(6,.p (.k 0) 0),(7,i64 0)],[.mx [i64 4,.f (.func 87) [.q xs 0] []]]⟩),fun _=>True,fun _=>0,?_,fun _ h=> ?_⟩
  ·refine⟨[],_,_,_,_,Q5 (by simp[m8]),rfl,rfl,?_⟩;refine⟨[],_,_,_,_,U4 (by simp[m8]),rfl,rfl,?_⟩;refine⟨[],_,_,_,_,U2 (x:=n) (K8 rfl) rfl (by omega),rfl,rfl,?_⟩;refine w9 (by rw[decide_eq_true hv];rfl) ?_;refine⟨[],_,_,_,_,hs,rfl,rfl,?_⟩;refine⟨Zp _,?_⟩;exact⟨[],(),tq,[.d 20 0],⟨rfl,rfl,tq⟩,⟨_,rfl,rfl⟩,tq⟩
  ·exact⟨_,rfl,[],rfl,tq⟩
 ·refine⟨0,Unit,(fun _=>⟨[(6,.p (.k 0) 0),(7,i64 0)],[.mx [i64 5,.f (.func 87) [.q xs 0] []]]⟩),fun _=>True,fun _=>0,?_,fun _ h=> ?_⟩
  ·refine⟨[],_,_,_,_,Q5 (by simp[m8]),rfl,rfl,?_⟩;refine⟨[],_,_,_,_,U4 (by simp[m8]),rfl,rfl,?_⟩;refine⟨[],_,_,_,_,U2 (x:=n) (K8 rfl) rfl (by omega),rfl,rfl,?_⟩;refine w9 (by rw[decide_eq_true hv];rfl) ?_;refine⟨[],_,_,_,_,hs,rfl,rfl,?_⟩;refine⟨Zp _,?_⟩;exact⟨[],(),tq,[.d 20 0],⟨rfl,rfl,tq⟩,⟨_,rfl,rfl⟩,tq⟩
  ·exact⟨_,rfl,[],rfl,tq⟩
 ·refine⟨0,Unit,(fun _=>⟨[(6,.p (.k 0) 0),(7,i64 0)],[.mx [i64 8,.f (.func 87) [.q xs 0] []]]⟩),fun _=>True,fun _=>0,?_,fun _ h=> ?_⟩
  ·refine⟨[],_,_,_,_,Q5 (by simp[m8]),rfl,rfl,?_⟩;refine⟨[],_,_,_,_,U4 (by simp[m8]),rfl,rfl,?_⟩;refine⟨[],_,_,_,_,U2 (x:=n) (K8 rfl) rfl (by omega),rfl,rfl,?_⟩;refine w9 (by rw[decide_eq_true hv];rfl) ?_;refine⟨[],_,_,_,_,hs,rfl,rfl,?_⟩;refine⟨Zp _,?_⟩;exact⟨[],(),tq,[.d 20 0],⟨rfl,rfl,tq⟩,⟨_,rfl,rfl⟩,tq⟩
  ·exact⟨_,rfl,[],rfl,tq⟩
theorem La {t:Int} {n:Nat} {va:List Value} (ht:¬m8 t):a7 C 25 [i64 t,.z n va] [] (.ret (.t [.s (.pointer none),i64 2])) []:=by
 refine aB.c ?_;refine⟨0,Unit,fun _=>⟨[],[]⟩,fun _=>False,fun _=>0,?_,fun _ h=>h.elim⟩;refine⟨[],_,_,_,_,Ml ht,rfl,rfl,?_⟩;exact⟨_,rfl,[],rfl,tq⟩
theorem KZ {t:Int} {n:Nat} {va:List Value} (ht:m8 t) (hm:n<=1073741824) (hv:(n:Int)∉m6 t):a7 C 25 [i64 t,.z n va] [] (.ret (.t [.s (.pointer none),i64 4])) []:=by
 refine aB.c ?_;have hl:=fW t;refine⟨0,Unit,fun _=>⟨[(7,i64 4)],[]⟩,fun _=>True,fun _=>0,?_,fun _ h=> ?_⟩
 ·refine⟨[],_,_,_,_,Q5 ht,rfl,rfl,?_⟩;refine w9 ?_ ?_
  ·rcases ht with rfl|rfl|rfl|rfl|rfl|rfl|rfl|rfl<;>rfl
  refine⟨[],_,_,_,_,U4 ht,rfl,rfl,?_⟩;refine⟨[],_,_,_,_,U2 (x:=n) (K8 rfl) rfl (by omega),rfl,rfl,?_⟩;refine bG (by rw[decide_eq_false hv];rfl) ?_;exact⟨rfl,(),tq,[],⟨rfl,tq⟩,tq⟩
 ·exact⟨_,rfl,[],rfl,tq⟩
theorem JK {t:Int} {k n:Nat} {xs:List V} {va:List Value} {l:List Value} (h:a7 C k [.q xs 0,.z n va,bool false] [] (A8 n) [.sc l]):a7 C 26 [b9 t k xs,.z n va] [] (A8 n) [.sc l]:=by
 refine OY.c ?_;refine⟨_,rfl,?_⟩;refine⟨[],_,_,_,_,h,rfl,rfl,?_⟩;exact⟨_,rfl,[.d 11 0],rfl,⟨_,rfl,rfl⟩,tq⟩
theorem JF {t:Int} {k n:Nat} {xs:List V} {va:List Value} {l:List Value} (h:a7 C k [.q xs 0,.z n va,bool true] [] (A8 n) [.sc l]):a7 C 177 [b9 t k xs,.z n va] [] (A8 n) [.sc l]:=by
 refine OX.c ?_;refine⟨_,rfl,?_⟩;refine⟨[],_,_,_,_,h,rfl,rfl,?_⟩;exact⟨_,rfl,[.d 11 0],rfl,⟨_,rfl,rfl⟩,tq⟩
theorem Ir {t:Int} {k:Nat} {xs:List V} (ht:m8 t):a7 C 63 [b9 t k xs] [] (.ret (i64 (C8 t))) []:=by
 refine OZ.c ?_;refine⟨_,rfl,?_⟩;refine⟨[],_,_,_,_,Q5 ht,rfl,rfl,?_⟩;exact⟨_,rfl,[],rfl,tq⟩
theorem zS {a n:Int} (hn:0<n) (hn2:n<=4611686018427387904) (ha: -9223372036854775808<=a/\a<=9223372036854775807):a7 C 76 [i64 a,i64 n] [] (.ret (i64 (a%n))) []:=by
 refine Py.c ?_;have h1: -n<a.tmod n:=J2 a hn;have h2:a.tmod n<n:=Kg a hn;refine⟨by omega,?_⟩;refine c9 (fun h=> ?_) (fun h=> ?_)
 ·refine⟨_,rfl,[],d7 ?_,tq⟩;rw[Za _ (by omega)];rw[<-ii a n hn,Jk (a:=a.tmod n+n) (by omega),Int.emod_eq_of_lt (by omega) (by omega)]
 ·refine⟨_,rfl,[],d7 ?_,tq⟩;rw[<-ii a n hn,Jk (a:=a.tmod n+n) (by omega),Int.add_emod_right,Int.emod_eq_of_lt (by omega) (by omega)]
def m7 (n:Int):Int:=1+n%8
theorem iw (n:Int):m8 (m7 n):=by unfold m8 m7;omega
theorem zH {n:Int} (ha: -9223372036854775808<=n/\n<=9223372036854775807):a7 C 20 [i64 n] [] (.ret (i64 (m7 n))) []:=by
 refine Px.c ?_;refine⟨[],_,_,_,_,zS (n:=8) (by decide) (by decide) ha,rfl,rfl,?_⟩;refine⟨_,rfl,[],d7 ?_,tq⟩;unfold m7;simp only[IntKind.wrap_i64];omega
def dY (b:Bs) (n j:Nat):Bs:=(List.range n).map fun p=>if p<b.length then b.getD p 0 else if p<b.length+j then Zt (p*37)else 0
def jL (n:Nat) (b:Bs):Bs:=dY b n n
theorem gZ (b n j):(dY b n j).length=n:=by simp[dY]
theorem oG (n b):(jL n b).length=n:=gZ b n n
theorem nK (b:Bs) (n j p:Nat) (h:p<n):(dY b n j)[p]? =some (if p<b.length then b.getD p 0 else if p<b.length+j then Zt (p*37)else 0):=by simp[dY,h]
theorem VU (b:Bs) (n j:Nat) (h:b.length+j<n):(dY b n j).set (b.length+j) (Zt ((b.length+j)*37))=dY b n (j+1):=by
 apply Z3;intro p;by_cases hp:p<n
 ·rw[nK _ _ _ _ hp,Jr,nK _ _ _ _ hp];by_cases h1:b.length+j=p
  ·subst h1;rw[if_pos rfl,gZ,if_pos hp,if_neg (by omega),if_pos (by omega)]
  ·rw[if_neg h1];by_cases h2:p<b.length
   ·rw[if_pos h2,if_pos h2]
   ·rw[if_neg h2,if_neg h2];by_cases h3:p<b.length+j
    ·rw[if_pos h3,if_pos (by omega)]
    ·rw[if_neg h3,if_neg (by omega)]
 ·rw[Zg (by simp[gZ];omega),Zg (by rw[gZ];omega)]
theorem VV (b:Bs) (n:Nat):b.take (min b.length n)++(Zk n (0:UInt8)).drop (min b.length n)=dY b n 0:=by
 apply Z3;intro p;by_cases hp:p<n
 ·rw[nK _ _ _ _ hp];by_cases h2:p<b.length
  ·rw[Ja (by simp;omega),J0,if_pos (by omega),if_pos h2,Zf h2,Zd,Zf h2];rfl
  ·rw[if_neg h2,if_neg (by omega),Z7 (by simp;omega),J1,Zv,Jd,if_pos (by omega)]
 ·rw[Zg (by simp;omega),Zg (by rw[gZ];omega)]
theorem VT (b:Bs) (n j:Nat) (h:n<=b.length+j):dY b n j=jL n b:=by
 apply Z3;intro p;unfold jL;by_cases hp:p<n
 ·rw[nK _ _ _ _ hp,nK _ _ _ _ hp];by_cases h2:p<b.length
  ·rw[if_pos h2,if_pos h2]
  ·rw[if_neg h2,if_neg h2,if_pos (by omega),if_pos (by omega)]
 ·rw[Zg (by rw[gZ];omega),Zg (by rw[gZ];omega)]
theorem yg {n m:Nat} {va:List Value} {b:Bs} (ha:va=bv b) (hb:b.length=m) (hn:n<=1073741824):a7 C 22 [i64 n,.z m va] [] (.ret (.o 1 (.k 0) 0 n)) [.sc (bv (jL n b))]:=by
 subst ha;subst hb;refine Pv.c ?_;refine⟨by omega,Jh _,by omega,?_⟩;refine⟨f9 _,by simp,?_⟩;refine⟨Nat,fun j=>⟨[(0,i64 n),(5,.o 1 (.k 0) 0 n),(6,i64 (b.length+j:Nat))],[.sc (bv (dY b n j))]⟩,fun j=>j=0\/b.length+j<=n,fun j=>n-(b.length+j),⟨[],0,.inl rfl,[.d 8 0],⟨rfl,rfl,rfl,tq⟩,⟨_,rfl,d9 ?_⟩,tq⟩,fun j hj=> ?_⟩
 ·show[]++(bv b).take (min b.length n)++(Zk n (Value.int .u8 0)).drop (0+min b.length n)=_;rw[Jp,Zl,<-VV,S2,HG,<-x5];congr 1;simp[bv,Kj]
 refine c9 (fun h=> ?_) (fun h=> ?_)
 ·have a9:b.length+j<n:=(by omega);refine⟨by omega,by omega,by rw[f9,gZ];omega,?_⟩;refine⟨j+1,.inr (by omega),(by simp(disch:=omega)only[Za];omega),[.k 0],⟨rfl,rfl,d7 (by simp(disch:=omega)only[Za];omega),tq⟩,⟨_,rfl,d9 ?_⟩,tq⟩;have e:U8.wrap (I6.wrap (((b.length+j:Nat):Int)*37))=((Zt ((b.length+j)*37)).toNat:Int):=by
   rw[<-bA,Za _ (by omega)];rfl
  rw[e,Zb,Zm,Zl,L0,VU _ _ _ a9]
 ·refine⟨_,rfl,[.k 0],rfl,⟨_,rfl,d9 ?_⟩,tq⟩;rw[VT _ _ _ (by omega)]
def Y6 (t n:Int):Nat:=((m6 t).getD (n%((m6 t).length:Int)).toNat 0).toNat
def S7 (t n:Int) (k:Bs):Bs:=jL (Y6 t n) k
theorem BQ {t:Int} (h:m8 t) (n:Int):(Y6 t n:Int)∈m6 t/\Y6 t n<=32/\(m6 t)[(n%((m6 t).length:Int)).toNat]? =some (Y6 t n:Int)/\0<=n%((m6 t).length:Int)/\n%((m6 t).length:Int)<(m6 t).length:=by
 have g:∀(l:List Int),0<l.length->(∀x∈l,0<=x/\x<=32)->∀n:Int,((((l.getD (n%(l.length:Int)).toNat 0).toNat:Nat):Int)∈l/\(l.getD (n%(l.length:Int)).toNat 0).toNat<=32/\l[(n%(l.length:Int)).toNat]? =some (((l.getD (n%(l.length:Int)).toNat 0).toNat:Nat):Int)/\0<=n%(l.length:Int)/\n%(l.length:Int)<l.length):=by
  intro l hl hb n;have h0:=Kw n (b:=l.length) (by omega);have h1:=Kh n (b:=l.length) (by omega);have a9:(n%(l.length:Int)).toNat<l.length:=by omega
  rw[Zd,Zf a9];have hm:=Kn a9;obtain⟨b0,b1⟩:=hb _ hm;have e:(((l[(n%(l.length:Int)).toNat]).toNat:Nat):Int)=l[(n%(l.length:Int)).toNat]:=Int.toNat_of_nonneg b0;refine⟨?_,?_,?_,h0,h1⟩
  ·show(((l[(n%(l.length:Int)).toNat]).toNat:Nat):Int)∈l;rw[e];exact hm
  ·show(l[(n%(l.length:Int)).toNat]).toNat<=32;omega
  ·show some _=some (((l[(n%(l.length:Int)).toNat]).toNat:Nat):Int);rw[e]
 rcases h with rfl|rfl|rfl|rfl|rfl|rfl|rfl|rfl<;>exact g _ (by decide) (by decide) n
theorem uH (t n k):(S7 t n k).length=Y6 t n:=oG _ _
theorem Hf (bs:ByteArray):∀(n i:Nat) (r:Bs),bs.size-i=n->ByteArray.toList.loop bs i r=r.reverse++bs.data.toList.drop i:=by
 intro n;induction n with
 |zero=>
  intro i r h;rw[ByteArray.toList.loop,if_neg (by omega)];have:bs.data.toList.length=bs.size:=by cases bs;rfl
  rw[Kt (by omega),Z8]
 |succ n ih=>
  intro i r h;rw[ByteArray.toList.loop,if_pos (by omega),ih (i+1) _ (by omega)];have hl:bs.data.toList.length=bs.size:=by cases bs;rfl
  rw[List.drop_eq_getElem_cons (i:=i) (by omega)];have:bs.get! i=bs.data.toList[i]'(by omega):=by
   cases bs with
   |mk d=>
    show d[i]! =_;have e0:d.toList.length=d.size:=by simp
    have e:(ByteArray.mk d).size=d.size:=rfl;have:i<d.size:=by omega
    rw[getElem!_pos d i this];simp
  rw[this,List.reverse_cons,Jf];rfl
theorem Hg (bs:ByteArray):bs.toList=bs.data.toList:=by
 have:=Hf bs _ 0 [] rfl;show ByteArray.toList.loop bs 0 []=_;simpa using this
abbrev bs (l:Bs):ByteArray:=⟨l.toArray⟩
theorem xL (l:Bs):(bs l).toList=l:=by rw[Hg]
theorem rx (a b:Bs):((bs a).toList==(bs b).toList)=decide (a=b):=by
 rw[xL,xL];by_cases h:a=b
 ·simp[h]
 ·simp[h]
theorem qb {x y:Nat} (hx:x<9223372036854775808) (hy:y<9223372036854775808):I6.wrap ((Zc I6.bits (x:Int)&&&Zc I6.bits (y:Int)).toNat:Int)=((x&&&y:Nat):Int):=by
 rw[sR I6.bits (by simp only[jH];omega) (by simp only[jH];omega)];have:=Nat.and_le_left (n:=x) (m:=y);rw[dk _ (by omega)]
theorem M6 {x y:Nat} (n:Nat) (hn:n<=62) (hx:x<2^n) (hy:y<2^n):I6.wrap ((Zc I6.bits (x:Int)^^^Zc I6.bits (y:Int)).toNat:Int)=((x^^^y:Nat):Int):=by
 have hp:2^n<=2^62:=Z5 (by decide) hn;rw[sS I6.bits (by simp only[jH];omega) (by simp only[jH];omega)];have:=Jj hx hy;rw[dk _ (by omega)]
theorem Us {x y:Nat} (n:Nat) (hn:n<=62) (hx:x<2^n) (hy:y<2^n):I6.wrap ((Zc I6.bits (x:Int)|||Zc I6.bits (y:Int)).toNat:Int)=((x|||y:Nat):Int):=by
 have hp:2^n<=2^62:=Z5 (by decide) hn;rw[jK I6.bits (by simp only[jH];omega) (by simp only[jH];omega)];have:=J3 hx hy;rw[dk _ (by omega)]
theorem uw (x:Nat):((x:Int).fdiv (2^(min (1:Int).toNat I6.bits)))=((x/2:Nat):Int):=by
 rw[Z1 _ (by decide)];rfl
theorem BD {x:Nat} (h:x<4611686018427387904):I6.wrap ((x:Int)*2^(min (1:Int).toNat I6.bits))=((2*x:Nat):Int):=by
 have:(x:Int)*2^(min (1:Int).toNat I6.bits)=((2*x:Nat):Int):=by
  show(x:Int)*2^1=_;omega
 rw[this,dk _ (by omega)]
def xt (m x:Nat):Nat:=if 256<=2*x then (2*x^^^m)%256 else 2*x
def fX (m a:Nat):Nat->Nat
 |0=>a
 |k+1=>xt m (fX m a k)
def fS (m a b:Nat):Nat->Nat
 |0=>0
 |k+1=>if b.testBit k then fS m a b k^^^fX m a k else fS m a b k
def iV (m:Nat) (a b:UInt8):UInt8:=Zt (fS m a.toNat b.toNat 8)
theorem pM {m a:Nat} (ha:a<256):∀k,fX m a k<256
 |0=>ha
 |k+1=>by
  have:=pM (m:=m) ha k;unfold fX xt;split<;>omega
theorem uc {m a b:Nat} (ha:a<256):∀k,fS m a b k<256
 |0=>by simp[fS]
 |k+1=>by
  have h1:=uc (m:=m) (b:=b) ha k;have h2:=pM (m:=m) ha k;unfold fS;split
  ·exact Jj (n:=8) h1 h2
  ·exact h1
theorem AE {m a b:Nat}:∀(d i:Nat),b>>>i=0->fS m a b (i+d)=fS m a b i
 |0,i,_=>rfl
 |d+1,i,h=>by
  show(if b.testBit (i+d)=true then fS m a b (i+d)^^^fX m a (i+d)else fS m a b (i+d))=_;have:b.testBit (i+d)=false:=by
   have:(b>>>i).testBit d=false:=by rw[h];exact Nat.zero_testBit d
   rwa [Nat.testBit_shiftRight]at this
  rw[this,if_neg (by decide)];exact AE d i h
theorem Gx {y m:Nat} (h1:256<=y) (h2:y<512) (h3:256<=m) (h4:m<512):(y^^^m)%256=y^^^m:=by
 apply Nat.eq_of_testBit_eq;intro j;rw[show (256:Nat)=2^8 by decide,Kl];by_cases hj:j<8
 ·simp[hj]
 ·have top:∀z,256<=z->z<512->z.testBit j=decide (j=8):=by
   intro z a b;by_cases h8:j=8
   ·subst h8;rw[Jl];rw[decide_eq_true rfl];exact decide_eq_true (by omega)
   ·rw[decide_eq_false h8];exact Kq (Nat.lt_of_lt_of_le b (Z5 (n:=2) (i:=9) (by decide) (by omega)))
  rw[Nat.testBit_xor,top y h1 h2,top m h3 h4];simp
theorem xC (b i:Nat):((b>>>i&&&1:Nat)>0)↔b.testBit i=true:=by
 rw[Ke,Jl,Z0];simp;omega
theorem mL {x y:Int} {a b:UInt8} {m:Nat} (hx:x=a.toNat) (hy:y=b.toNat) (h1:256<=m) (h2:m<512):a7 C 238 [vi .u8 x,vi .u8 y,i64 m] [] (.ret (u8 (iV m a b))) []:=by
 subst hx;subst hy;have hb:=b.toNat_lt;have ha:=a.toNat_lt;refine Pl.c ?_;refine U9 0 rfl 9 (fun i=>⟨[(2,i64 m),(7,i64 (fS m a.toNat b.toNat i)),(8,i64 (fX m a.toNat i)),(9,i64 (b.toNat>>>i:Nat))],[]⟩) ⟨[],0,by decide,[],⟨rfl,rfl,d7 (iA a),d7 (iA b),tq⟩,tq⟩ fun i hi=> ?_;have hX:=pM (m:=m) ha i;have hS:=uc (m:=m) (b:=b.toNat) ha i;refine j7 (fun h=> ?_) (fun h=> ?_)
 ·refine⟨_,rfl,[],congrArg (vi .u8) ?_,tq⟩;rw[bA,iV];have:=AE (m:=m) (a:=a.toNat) (b:=b.toNat) (8-i) i (by omega);rw[show i+(8-i)=8 by omega]at this;rw[this]
 ·have hi8:i<8:=by
   rcases Jg i 8 with h8|h8
   ·exact h8
   ·obtain rfl:i=8:=(by omega);rw[Z0,Km hb]at h;exact absurd rfl h
  have hyl:b.toNat>>>i<9223372036854775808:=by rw[Z0];exact Nat.lt_of_le_of_lt (Jo _ _) (by omega)
  have e1:I6.wrap ((Zc I6.bits ((b.toNat>>>i:Nat):Int)&&&Zc I6.bits 1).toNat:Int)=((b.toNat>>>i&&&1:Nat):Int):=qb (y:=1) hyl (by decide);have e2:I6.wrap ((fX m a.toNat i:Int)*2^(min (1:Int).toNat I6.bits))=((2*fX m a.toNat i:Nat):Int):=BD (by omega);have e3:((b.toNat>>>i:Nat):Int).fdiv (2^(min (1:Int).toNat I6.bits))=((b.toNat>>>(i+1):Nat):Int):=by
   rw[uw,Nat.shiftRight_succ]
  have e4:I6.wrap ((Zc I6.bits ((2*fX m a.toNat i:Nat):Int)^^^Zc I6.bits (m:Int)).toNat:Int)=((2*fX m a.toNat i^^^m:Nat):Int):=M6 9 (by decide) (by omega) (by omega);have hx9:=Jj (n:=9) (x:=2*fX m a.toNat i) (y:=m) (by omega) (by omega);have e5:I6.wrap ((Zc I6.bits ((2*fX m a.toNat i^^^m:Nat):Int)&&&Zc I6.bits 255).toNat:Int)=(((2*fX m a.toNat i^^^m)%256:Nat):Int):=by
   have h:=qb (x:=2*fX m a.toNat i^^^m) (y:=255) (by omega) (by decide);rw[show (255:Nat)=2^8-1 by decide,Jn]at h;exact h
  have e6:2*fX m a.toNat i<256->I6.wrap ((Zc I6.bits ((2*fX m a.toNat i:Nat):Int)&&&Zc I6.bits 255).toNat:Int)=((2*fX m a.toNat i:Nat):Int):=by
   intro hl;have h:=qb (x:=2*fX m a.toNat i) (y:=255) (by omega) (by decide);rw[show (255:Nat)=2^8-1 by decide,Jn,Zh hl]at h;exact h
  have hS1:fS m a.toNat b.toNat (i+1)=if b.toNat.testBit i then fS m a.toNat b.toNat i^^^fX m a.toNat i else fS m a.toNat b.toNat i:=rfl;have hX1:fX m a.toNat (i+1)=xt m (fX m a.toNat i):=rfl;refine c9 (fun hb1=> ?_) (fun hb1=> ?_)
  ·have ht:b.toNat.testBit i=true:=(xC _ _).1 (by rw[e1]at hb1;omega);refine⟨by decide,by decide,?_⟩;refine c9 (fun hg=> ?_) (fun hg=> ?_)
   ·rw[e2]at hg;refine⟨rfl,i+1,by omega,by omega,[],⟨rfl,d7 ?_,d7 ?_,d7 e3,tq⟩,tq⟩
    ·rw[hS1,ht];exact M6 8 (by decide) hS hX
    ·rw[e2,e4,e5,hX1,xt,if_pos (by omega)]
   ·rw[e2]at hg;refine⟨rfl,i+1,by omega,by omega,[],⟨rfl,d7 ?_,d7 ?_,d7 e3,tq⟩,tq⟩
    ·rw[hS1,ht];exact M6 8 (by decide) hS hX
    ·rw[e2,e6 (by omega),hX1,xt,if_neg (by omega)]
  ·have ht:b.toNat.testBit i=false:=by
    cases hc:b.toNat.testBit i
    ·rfl
    ·exact absurd (by rw[e1];have:=(xC b.toNat i).2 hc;omega) hb1
   refine⟨by decide,by decide,?_⟩;refine c9 (fun hg=> ?_) (fun hg=> ?_)
   ·rw[e2]at hg;refine⟨rfl,i+1,by omega,by omega,[],⟨rfl,d7 ?_,d7 ?_,d7 e3,tq⟩,tq⟩
    ·rw[hS1,ht];rfl
    ·rw[e2,e4,e5,hX1,xt,if_pos (by omega)]
   ·rw[e2]at hg;refine⟨rfl,i+1,by omega,by omega,[],⟨rfl,d7 ?_,d7 ?_,d7 e3,tq⟩,tq⟩
    ·rw[hS1,ht];rfl
    ·rw[e2,e6 (by omega),hX1,xt,if_neg (by omega)]
theorem Gf (b:UInt8) {i:Nat} (hi:i<8):(U8.wrap ((Zc U8.bits ((b.toNat:Int).fdiv (2^(min ((i:Int)).toNat U8.bits)))&&&Zc U8.bits 1).toNat:Int))=(if b.toNat.testBit i then 1 else 0):=by
 rw[a1C b i (by omega) (by omega),show(1:Int)=((1:UInt8).toNat:Int) from rfl,vZ,UInt8.toNat_and,Ko,Jb,Zb,Zh (show i<2^8 by omega),Zh hi];show(((b.toNat>>>i&&&1:Nat)):Int)=_;rw[Ke,Jl,Z0];by_cases h:b.toNat/2^i%2=1
 ·simp[h]
 ·have:b.toNat/2^i%2=0:=by omega
  simp[this]
theorem iP {x y:Int} {a b:UInt8} {m:Nat} (hx:x=a.toNat) (hy:y=b.toNat) (h1:256<=m) (h2:m<512):a7 C 222 [vi .u8 x,vi .u8 y,i64 m] [] (.ret (u8 (iV m a b))) []:=by
 subst hx;subst hy;have ha:=a.toNat_lt;refine Qw.c ?_;refine j9 (fun i=>⟨[(1,u8 b),(2,i64 m),(7,i64 (fS m a.toNat b.toNat i)),(8,i64 (fX m a.toNat i)),(9,vi .u64 i)],[]⟩) 8 ⟨[],⟨rfl,rfl,rfl,d7 (iA a),rfl,tq⟩,tq⟩ fun i hi=> ?_;have hX:=pM (m:=m) ha i;have hS:=uc (m:=m) (b:=b.toNat) ha i;refine c9 (fun h=> ?_) (fun h=> ?_)
 ·have a9:i<8:=(by omega);have e2:I6.wrap ((fX m a.toNat i:Int)*2^(min (1:Int).toNat I6.bits))=((2*fX m a.toNat i:Nat):Int):=BD (by omega);have e4:I6.wrap ((Zc I6.bits ((2*fX m a.toNat i:Nat):Int)^^^Zc I6.bits (m:Int)).toNat:Int)=((2*fX m a.toNat i^^^m:Nat):Int):=M6 9 (by decide) (by omega) (by omega);have e9:U6.wrap ((i:Int)+1)=((i+1:Nat):Int):=by rw[D5];omega
  have hS1:fS m a.toNat b.toNat (i+1)=if b.toNat.testBit i then fS m a.toNat b.toNat i^^^fX m a.toNat i else fS m a.toNat b.toNat i:=rfl;have hX1:fX m a.toNat (i+1)=xt m (fX m a.toNat i):=rfl;have eb:=Gf b a9;refine⟨by omega,?_⟩;refine j7 (fun hb1=> ?_) (fun hb1=> ?_)
  ·have ht:b.toNat.testBit i=true:=by
    cases hc:b.toNat.testBit i
    ·rw[eb,hc]at hb1;exact absurd hb1 (by decide)
    ·rfl
   refine⟨by decide,?_⟩;refine c9 (fun hg=> ?_) (fun hg=> ?_)
   ·rw[e2]at hg;refine⟨i+1,by omega,by omega,[],⟨rfl,rfl,d7 ?_,d7 ?_,congrArg (vi .u64) e9,tq⟩,tq⟩
    ·rw[hS1,ht];exact M6 8 (by decide) hS hX
    ·rw[e2,e4,hX1,xt,if_pos (by omega),Gx (by omega) (by omega) h1 h2]
   ·rw[e2]at hg;refine⟨i+1,by omega,by omega,[],⟨rfl,rfl,d7 ?_,d7 ?_,congrArg (vi .u64) e9,tq⟩,tq⟩
    ·rw[hS1,ht];exact M6 8 (by decide) hS hX
    ·rw[e2,hX1,xt,if_neg (by omega)]
  ·have ht:b.toNat.testBit i=false:=by
    cases hc:b.toNat.testBit i
    ·rfl
    ·rw[eb,hc]at hb1;exact absurd rfl hb1
   refine⟨by decide,?_⟩;refine c9 (fun hg=> ?_) (fun hg=> ?_)
   ·rw[e2]at hg;refine⟨i+1,by omega,by omega,[],⟨rfl,rfl,d7 ?_,d7 ?_,congrArg (vi .u64) e9,tq⟩,tq⟩
    ·rw[hS1,ht];rfl
    ·rw[e2,e4,hX1,xt,if_pos (by omega),Gx (by omega) (by omega) h1 h2]
   ·rw[e2]at hg;refine⟨i+1,by omega,by omega,[],⟨rfl,rfl,d7 ?_,d7 ?_,congrArg (vi .u64) e9,tq⟩,tq⟩
    ·rw[hS1,ht];rfl
    ·rw[e2,hX1,xt,if_neg (by omega)]
 ·obtain rfl:i=8:=(by omega);exact⟨_,rfl,[],congrArg (vi .u8) (bA _),tq⟩
abbrev PS:=UInt8×UInt8×Nat
def fC (m:Nat) (x:PS):PS:=(if x.2.2%2=1 then iV m x.1 x.2.1 else x.1,iV m x.2.1 x.2.1,x.2.2/2)
def pL (m:Nat) (a:UInt8) (n:Nat):UInt8:=(it (fC m) 8 (1,a,n)).1
theorem De (m:Nat) (k:Nat) (x:PS):(it (fC m) k x).2.2=x.2.2/2^k:=by
 induction k with
 |zero=>simp[it]
 |succ k ih=>show(it (fC m) k x).2.2/2=_;rw[ih,Kr,Nat.pow_succ]
theorem JP {x:Int} {a:UInt8} {m n:Nat} (hx:x=a.toNat) (hn1:128<=n) (hn2:n<256) (h1:256<=m) (h2:m<512):a7 C 245 [vi .u8 x,i64 n,i64 m] [] (.ret (u8 (pL m a n))) []:=by
 subst hx;refine Pm.c ?_;refine ri 0 rfl (fC m) (1,a,n) 8 (fun i z=>⟨[(0,u8 z.2.1),(1,i64 z.2.2),(2,i64 m),(7,u8 z.1)],[]⟩) ⟨[],(0,(1,a,n)),⟨Z6 _,rfl⟩,[],⟨rfl,rfl,rfl,rfl,tq⟩,tq⟩ fun i z hi hz=> ?_;have hn:z.2.2=n/2^i:=by rw[hz,De]
 have hle:z.2.2<=n:=by rw[hn];exact Jo _ _
 refine c9 (fun h=> ?_) (fun h=> ?_)
 ·have hi8:i=8:=by
   rcases Jg i 8 with h8|h8
   ·have:2^i<=2^7:=Z5 (by decide) (by omega);have hp:0<2^i:=K1 (by decide);have:1<=n/2^i:=(Jq hp).2 (by omega);omega
   ·omega
  subst hi8;refine⟨_,rfl,[],?_,tq⟩;show u8 z.1=u8 _;rw[hz];rfl
 ·have hi8:i<8:=by
   rcases Jg i 8 with h8|h8
   ·exact h8
   ·obtain rfl:i=8:=(by omega);rw[hn,Km hn2]at h;exact absurd (Jh _) h
  have e1:I6.wrap ((Zc I6.bits ((z.2.2:Nat):Int)&&&Zc I6.bits 1).toNat:Int)=((z.2.2%2:Nat):Int):=by
   have h:=qb (x:=z.2.2) (y:=1) (by omega) (by decide);rw[Ke]at h;exact h
  refine c9 (fun hb=> ?_) (fun hb=> ?_)
  ·rw[e1]at hb;refine⟨[],_,_,_,_,mL rfl rfl h1 h2,rfl,rfl,?_⟩;refine⟨[],_,_,_,_,mL rfl rfl h1 h2,rfl,rfl,?_⟩;refine⟨by decide,?_⟩;refine⟨rfl,(i+1,fC m z),⟨hi8,bt hz⟩,by omega,[],⟨rfl,d7 (uw _),rfl,?_,tq⟩,tq⟩;show u8 _=u8 (if _ then _ else _);rw[if_pos (by omega)]
  ·rw[e1]at hb;refine⟨[],_,_,_,_,mL rfl rfl h1 h2,rfl,rfl,?_⟩;refine⟨by decide,?_⟩;refine⟨rfl,(i+1,fC m z),⟨hi8,bt hz⟩,by omega,[],⟨rfl,d7 (uw _),rfl,?_,tq⟩,tq⟩;show u8 _=u8 (if _ then _ else _);rw[if_neg (by omega)]
theorem Lx {x:Int} {a:UInt8} {m n:Nat} (hx:x=a.toNat) (hn1:128<=n) (hn2:n<256) (h1:256<=m) (h2:m<512):a7 C 226 [vi .u8 x,i64 n,i64 m] [] (.ret (u8 (pL m a n))) []:=by
 subst hx;refine Qx.c ?_;refine ny (fC m) (1,a,n) 8 (fun i z=>⟨[(0,u8 z.2.1),(1,i64 z.2.2),(2,i64 m),(7,u8 z.1)],[]⟩) ⟨[],⟨rfl,rfl,rfl,rfl,tq⟩,tq⟩ fun i z hi hz=> ?_;have hn:z.2.2=n/2^i:=by rw[hz,De]
 have hle:z.2.2<=n:=by rw[hn];exact Jo _ _
 refine c9 (fun h=> ?_) (fun h=> ?_)
 ·have hi8:i<8:=by
   rcases Jg i 8 with h8|h8
   ·exact h8
   ·obtain rfl:i=8:=(by omega);rw[hn,Km hn2]at h;exact absurd h (by decide)
  have e1:((z.2.2:Nat):Int).tmod 2=((z.2.2%2:Nat):Int):=W8 _ 2;have e2:I6.wrap (((z.2.2:Nat):Int).tdiv 2)=((z.2.2/2:Nat):Int):=by
   rw[show ((z.2.2:Nat):Int).tdiv 2=((z.2.2/2:Nat):Int) from rfl,dk _ (by omega)]
  refine⟨by decide,?_⟩;refine j7 (fun hb=> ?_) (fun hb=> ?_)
  ·rw[e1]at hb;refine⟨[],_,_,_,_,iP rfl rfl h1 h2,rfl,rfl,?_⟩;refine⟨[],_,_,_,_,iP rfl rfl h1 h2,rfl,rfl,?_⟩;refine⟨by decide,?_⟩;refine⟨(i+1,fC m z),⟨hi8,bt hz⟩,by omega,[],⟨rfl,d7 e2,rfl,?_,tq⟩,tq⟩;show u8 _=u8 (if _ then _ else _);rw[if_pos (by omega)]
  ·rw[e1]at hb;refine⟨[],_,_,_,_,iP rfl rfl h1 h2,rfl,rfl,?_⟩;refine⟨by decide,?_⟩;refine⟨(i+1,fC m z),⟨hi8,bt hz⟩,by omega,[],⟨rfl,d7 e2,rfl,?_,tq⟩,tq⟩;show u8 _=u8 (if _ then _ else _);rw[if_neg (by omega)]
 ·have hi8:i=8:=by
   rcases Jg i 8 with h8|h8
   ·have:2^i<=2^7:=Z5 (by decide) (by omega);have hp:0<2^i:=K1 (by decide);have:1<=n/2^i:=(Jq hp).2 (by omega);omega
   ·omega
  subst hi8;refine⟨_,rfl,[],?_,tq⟩;show u8 z.1=u8 _;rw[hz];rfl
def kQ:Bs:=[0,1,1,2,1,2,2,3,1,2,2,3,2,3,3,4,1,2,2,3,2,3,3,4,2,3,3,4,3,4,4,5,1,2,2,3,2,3,3,4,2,3,3,4,3,4,4,5,2,3,3,4,3,4,4,5,3,4,4,5,4,5,5,6,1,2,2,3,2,3,3,4,2,3,3,4,3,4,4,5,2,3,3,4,3,4,4,5,3,4,4,5,4,5,5,6,2,3,3,4,3,4,4,5,3,4,4,5,4,5,5,6,3,4,4,5,4,5,5,6,4,5,5,6,5,6,6,7,1,2,2,3,2,3,3,4,2,3,3,4,3,4,4,5,2,3,3,4,3,4,4,5,3,4,4,5,4,5,5,6,2,3,3,4,3,4,4,5,3,4,4,5,4,5,5,6,3,4,4,5,4,5,5,6,4,5,5,6,5,6,6,7,2,3,3,4,3,4,4,5,3,4,4,5,4,5,5,6,3,4,4,5,4,5,5,6,4,5,5,6,5,6,6,7,3,4,4,5,4,5,5,6,4,5,5,6,5,6,6,7,4,5,5,6,5,6,6,7,5,6,6,7,6,7,7,8]
def dn (n:Nat):Nat->Bool
 |0=>false
 |k+1=>xor (dn n k) (n.testBit k)
theorem Wd:∀j:Nat,j<256->(kQ.getD j 0).toNat%2=if dn j 8 then 1 else 0:=by decide +kernel
theorem Dm:kQ.length=256:=by decide +kernel
theorem Le {x:Int} {y:UInt8} (hx:x=y.toNat):a7 C 266 [vi .u8 x] [] (.ret (i64 (kQ.getD y.toNat 0).toNat)) []:=by
 subst hx;have hy:=y.toNat_lt;refine OM.c ?_;refine⟨by omega,?_,?_⟩
 ·show((y.toNat:Nat):Int)<((256:Nat):Int);omega
 refine⟨kQ.getD y.toNat 0,?_,?_⟩
 ·rw[Zb];show kQ[y.toNat]? =_;rw[Zf (by rw[Dm];omega),Zd,Zf (by rw[Dm];omega)];rfl
 refine⟨_,rfl,[],d7 ?_,tq⟩;exact iA _
def mu (rs:Bs) (x:UInt8) (c:UInt8) (i:Nat):UInt8:=if dn ((x&&&rs.getD i 0).toNat) 8 then c^^^((1:UInt8)<<<Zt i)else c
def dw (rs:Bs) (x c:UInt8) (n:Nat):UInt8:=(List.range n).foldl (mu rs x) c
theorem sA (rs x c n):dw rs x c (n+1)=mu rs x (dw rs x c n) n:=by simp[dw,Zz]
theorem VO:∀i,i<8->ones8[i]? =some (.int .u8 ((((1:UInt8)<<<Zt i).toNat:Nat):Int)):=by
 intro i hi;rcases i with _|_|_|_|_|_|_|_|i;all_goals first|rfl|omega
theorem xu {r0 r1 r2 r3 r4 r5 r6 r7:UInt8} {i:Nat} (hi:i<8):([u8 r0,u8 r1,u8 r2,u8 r3,u8 r4,u8 r5,u8 r6,u8 r7]:List V)[i]? =some (u8 ([r0,r1,r2,r3,r4,r5,r6,r7].getD i 0)):=by
 rcases i with _|_|_|_|_|_|_|_|i;all_goals first|rfl|omega
theorem HP {x z:Int} {a c r0 r1 r2 r3 r4 r5 r6 r7:UInt8} (hx:x=a.toNat) (hz:z=c.toNat):a7 C 244 [vi .u8 x,.a [u8 r0,u8 r1,u8 r2,u8 r3,u8 r4,u8 r5,u8 r6,u8 r7],vi .u8 z] [] (.ret (u8 (dw [r0,r1,r2,r3,r4,r5,r6,r7] a c 8))) []:=by
 subst hx;subst hz;refine OP.c ?_;refine⟨_,rfl,rfl,?_⟩;refine j9 (fun i=>⟨[(0,u8 a),(2,u8 (dw [r0,r1,r2,r3,r4,r5,r6,r7] a c i)),(9,.a [u8 r0,u8 r1,u8 r2,u8 r3,u8 r4,u8 r5,u8 r6,u8 r7]),(10,i64 i)],[]⟩) 8 ⟨[],⟨rfl,rfl,rfl,rfl,tq⟩,tq⟩ fun i hi=> ?_;refine c9 (fun h=> ?_) (fun h=> ?_)
 ·have a9:i<8:=(by omega);refine⟨by omega,by omega,?_⟩;refine⟨_,by rw[Zb,Zm];exact xu a9,?_⟩;refine⟨[],_,_,_,_,Le (vZ _ _),rfl,rfl,?_⟩;refine⟨by decide,?_⟩;have hp:=Wd (a&&&[r0,r1,r2,r3,r4,r5,r6,r7].getD i 0).toNat (Ji _);have e1:(((kQ.getD (a&&&[r0,r1,r2,r3,r4,r5,r6,r7].getD i 0).toNat 0).toNat:Nat):Int).tmod 2=((if dn (a&&&[r0,r1,r2,r3,r4,r5,r6,r7].getD i 0).toNat 8 then 1 else 0:Nat):Int):=by
   rw[<-hp];exact W8 _ 2
  refine c9 (fun hb=> ?_) (fun hb=> ?_)
  ·rw[e1]at hb;have ht:dn (a&&&[r0,r1,r2,r3,r4,r5,r6,r7].getD i 0).toNat 8=true:=by
    cases hc:dn (a&&&[r0,r1,r2,r3,r4,r5,r6,r7].getD i 0).toNat 8
    ·rw[hc]at hb;exact absurd hb (by decide)
    ·rfl
   refine⟨by omega,by omega,?_⟩;refine⟨_,by rw[Zb,Zm,Zl];exact VO i a9,?_⟩;refine⟨i+1,by omega,by omega,[],⟨rfl,congrArg (vi .u8) ?_,rfl,d7 (by simp(disch:=omega)only[Za];omega),tq⟩,tq⟩;rw[u7,sA,mu,if_pos ht]
  ·rw[e1]at hb;have ht:dn (a&&&[r0,r1,r2,r3,r4,r5,r6,r7].getD i 0).toNat 8=false:=by
    cases hc:dn (a&&&[r0,r1,r2,r3,r4,r5,r6,r7].getD i 0).toNat 8
    ·rfl
    ·rw[hc]at hb;exact absurd (by decide) hb
   refine⟨i+1,by omega,by omega,[],⟨rfl,?_,rfl,d7 (by simp(disch:=omega)only[Za];omega),tq⟩,tq⟩;show u8 _=u8 _;rw[sA,mu,ht,if_neg (by decide)]
 ·obtain rfl:i=8:=(by omega);exact⟨_,rfl,[],rfl,tq⟩
theorem a1B (c y:UInt8) (i k:Nat) (hi:i<8) (hk:k<8):U8.wrap ((Zc U8.bits (c.toNat:Int)^^^Zc U8.bits (U8.wrap (U8.wrap ((Zc U8.bits ((y.toNat:Int).fdiv (2^(min ((k:Int)).toNat U8.bits)))&&&Zc U8.bits 1).toNat:Int)*2^(min (U6.wrap (i:Int)).toNat U8.bits)))).toNat:Int)
  =(((if y.toNat.testBit k then c^^^((1:UInt8)<<<Zt i)else c).toNat:Nat):Int):=by
 rw[Gf y hk,show U6.wrap (i:Int)=(i:Int) by rw[D5];omega];cases hc:y.toNat.testBit k
 ·rw[if_neg (by decide),if_neg (by decide),Int.zero_mul,show U8.wrap 0=((0:UInt8).toNat:Int) from rfl,u7,UInt8.xor_zero]
 ·rw[if_pos rfl,if_pos rfl,show(1:Int)=((1:UInt8).toNat:Int) from rfl,a1A 1 i (by omega) (by omega),u7,Zb]
theorem Ly {x z:Int} {a c r0 r1 r2 r3 r4 r5 r6 r7:UInt8} (hx:x=a.toNat) (hz:z=c.toNat):a7 C 225 [vi .u8 x,.a [u8 r0,u8 r1,u8 r2,u8 r3,u8 r4,u8 r5,u8 r6,u8 r7],vi .u8 z] [] (.ret (u8 (dw [r0,r1,r2,r3,r4,r5,r6,r7] a c 8))) []:=by
 subst hx;subst hz;refine Qy.c ?_;refine j9 (fun i=>⟨[(0,u8 a),(2,u8 (dw [r0,r1,r2,r3,r4,r5,r6,r7] a c i)),(4,.p (.k 0) 0),(7,i64 i)],[.mx [u8 r0,u8 r1,u8 r2,u8 r3,u8 r4,u8 r5,u8 r6,u8 r7]]⟩) 8 ⟨[.d 4 0],⟨rfl,rfl,rfl,rfl,tq⟩,⟨_,rfl,rfl⟩,tq⟩ fun i hi=> ?_;refine c9 (fun h=> ?_) (fun h=> ?_)
 ·have a9:i<8:=(by omega);refine⟨by omega,by omega,?_⟩;refine⟨_,by rw[Zb,Zm,Zl];exact xu a9,?_⟩;generalize hc0:dw [r0,r1,r2,r3,r4,r5,r6,r7] a c i=c0;generalize hg:[r0,r1,r2,r3,r4,r5,r6,r7].getD i 0=r;have eb:U8.wrap ((Zc U8.bits (r.toNat:Int)&&&Zc U8.bits (a.toNat:Int)).toNat:Int)=((a&&&r).toNat:Int):=by
   rw[vZ,UInt8.and_comm]
  refine j9 (fun k=>⟨[(0,u8 a),(2,u8 (if dn (a&&&r).toNat k then c0^^^((1:UInt8)<<<Zt i)else c0)),(4,.p (.k 0) 0),(7,i64 i),(8,u8 (a&&&r)),(9,vi .u64 k)],[.mx [u8 r0,u8 r1,u8 r2,u8 r3,u8 r4,u8 r5,u8 r6,u8 r7]]⟩) 8 ⟨[.k 0],⟨rfl,rfl,rfl,rfl,congrArg (vi .u8) eb,rfl,tq⟩,⟨_,rfl,rfl⟩,tq⟩ fun k hk=> ?_;refine c9 (fun h=> ?_) (fun h=> ?_)
  ·have hkl:k<8:=(by omega);refine⟨by omega,?_⟩;refine⟨by rw[D5];omega,?_⟩;refine⟨k+1,by omega,by omega,[.k 0],⟨rfl,congrArg (vi .u8) ?_,rfl,rfl,rfl,congrArg (vi .u64) (by rw[D5];omega),tq⟩,⟨_,rfl,rfl⟩,tq⟩;rw[a1B _ _ _ _ a9 hkl];show(((if _ then _ else _:UInt8).toNat:Nat):Int)=(((if xor (dn (a&&&r).toNat k) ((a&&&r).toNat.testBit k)=true then _ else _:UInt8).toNat:Nat):Int);cases dn (a&&&r).toNat k<;>cases (a&&&r).toNat.testBit k<;>simp[UInt8.xor_assoc]
  ·obtain rfl:k=8:=(by omega);refine⟨i+1,by omega,by omega,[.k 0],⟨rfl,?_,rfl,d7 (by simp(disch:=omega)only[Za];omega),tq⟩,⟨_,rfl,rfl⟩,tq⟩;show u8 _=u8 _;rw[sA,mu,hc0,hg]
 ·obtain rfl:i=8:=(by omega);exact⟨_,rfl,[],rfl,tq⟩
def bx (e:Nat) (m:Nat) (rs:Bs) (c:UInt8) (n:Nat):Bs:=(List.range n).map fun x=>dw rs (pL m (Zt x) e) c 8
theorem qw (e m rs c n):(bx e m rs c n).length=n:=by simp[bx]
theorem Cr (e m rs c n):bx e m rs c (n+1)=bx e m rs c n++[dw rs (pL m (Zt n) e) c 8]:=by simp[bx,Zz]
theorem nh {l:Bs} {n k:Nat} {x:UInt8} (hl:l.length=k) (h:k<n):(bv (l++Zk (n-k) 0)).set k (.int .u8 x.toNat)=bv (l++[x]++Zk (n-(k+1)) 0):=by
 rw[L0,show n-k=(n-(k+1))+1 by omega,Kb,vC hl];simp
theorem yC {e m:Nat} {z:Int} {c r0 r1 r2 r3 r4 r5 r6 r7:UInt8} (hz:z=c.toNat) (h1:256<=m) (h2:m<512) (he:128<=e) (he2:e<256):a7 C 202 [i64 e,i64 m,.a [u8 r0,u8 r1,u8 r2,u8 r3,u8 r4,u8 r5,u8 r6,u8 r7],vi .u8 z] [] (.ret (.o 1 (.k 0) 0 256)) [.sc (bv (bx e m [r0,r1,r2,r3,r4,r5,r6,r7] c 256))]:=by
 subst hz;refine OS.c ?_;refine⟨by decide,by decide,by decide,?_⟩;refine j9 (fun i=>⟨[(0,i64 e),(1,i64 m),(3,u8 c),(6,.p (.k 0) 0),(9,.o 1 (.k 1) 0 256),(13,i64 256),(14,i64 i)],[.mx [u8 r0,u8 r1,u8 r2,u8 r3,u8 r4,u8 r5,u8 r6,u8 r7],.sc (bv (bx e m [r0,r1,r2,r3,r4,r5,r6,r7] c i++Zk (256-i) 0))]⟩) 256 ⟨[.d 6 0,.d 11 0],⟨rfl,rfl,rfl,rfl,rfl,rfl,rfl,tq⟩,⟨_,rfl,rfl⟩,⟨_,rfl,d9 (by rw[show bx e m [r0,r1,r2,r3,r4,r5,r6,r7] c 0=[] from rfl,Jp];exact S2 256)⟩,tq⟩ fun i hi=> ?_;refine c9 (fun h=> ?_) (fun h=> ?_)
 ·have a9:i<256:=(by omega);refine⟨[],_,_,_,_,JP (a:=Zt i) (bA i) he he2 h1 h2,rfl,rfl,?_⟩;refine⟨_,rfl,rfl,?_⟩;refine⟨[],_,_,_,_,HP rfl rfl,rfl,rfl,?_⟩;refine⟨by omega,by omega,by rw[f9];simp[qw];omega,?_⟩;refine⟨i+1,by omega,by omega,[.k 0,.k 1],⟨rfl,rfl,rfl,rfl,rfl,rfl,d7 (by simp(disch:=omega)only[Za];omega),tq⟩,⟨_,rfl,rfl⟩,⟨_,rfl,d9 ?_⟩,tq⟩;rw[Zb,Zm,Zl,nh (qw _ _ _ _ _) a9,Cr]
 ·obtain rfl:i=256:=(by omega);refine⟨_,rfl,[.k 1],rfl,⟨_,rfl,d9 ?_⟩,tq⟩;simp
theorem yP {e m:Nat} {z:Int} {c r0 r1 r2 r3 r4 r5 r6 r7:UInt8} (hz:z=c.toNat) (h1:256<=m) (h2:m<512) (he:128<=e) (he2:e<256):a7 C 170 [i64 e,i64 m,.a [u8 r0,u8 r1,u8 r2,u8 r3,u8 r4,u8 r5,u8 r6,u8 r7],vi .u8 z] [] (.ret (.o 1 (.k 0) 0 256)) [.sc (bv (bx e m [r0,r1,r2,r3,r4,r5,r6,r7] c 256))]:=by
 subst hz;refine Ra.c ?_;refine⟨by decide,by decide,by decide,?_⟩;refine j9 (fun i=>⟨[(0,i64 e),(1,i64 m),(3,u8 c),(6,.p (.k 0) 0),(9,.o 1 (.k 1) 0 256),(10,i64 i)],[.mx [u8 r0,u8 r1,u8 r2,u8 r3,u8 r4,u8 r5,u8 r6,u8 r7],.sc (bv (bx e m [r0,r1,r2,r3,r4,r5,r6,r7] c i++Zk (256-i) 0))]⟩) 256 ⟨[.d 6 0,.d 11 0],⟨rfl,rfl,rfl,rfl,rfl,rfl,tq⟩,⟨_,rfl,rfl⟩,⟨_,rfl,d9 (by rw[show bx e m [r0,r1,r2,r3,r4,r5,r6,r7] c 0=[] from rfl,Jp];exact S2 256)⟩,tq⟩ fun i hi=> ?_;refine c9 (fun h=> ?_) (fun h=> ?_)
 ·have a9:i<256:=(by omega);refine⟨[],_,_,_,_,Lx (a:=Zt i) (bA i) he he2 h1 h2,rfl,rfl,?_⟩;refine⟨_,rfl,rfl,?_⟩;refine⟨[],_,_,_,_,Ly rfl rfl,rfl,rfl,?_⟩;refine⟨by omega,by omega,by rw[f9];simp[qw];omega,?_⟩;refine⟨i+1,by omega,by omega,[.k 0,.k 1],⟨rfl,rfl,rfl,rfl,rfl,d7 (by simp(disch:=omega)only[Za];omega),tq⟩,⟨_,rfl,rfl⟩,⟨_,rfl,d9 ?_⟩,tq⟩;rw[Zb,Zm,Zl,nh (qw _ _ _ _ _) a9,Cr]
 ·obtain rfl:i=256:=(by omega);refine⟨_,rfl,[.k 1],rfl,⟨_,rfl,d9 ?_⟩,tq⟩;simp
def bl (l:List Bool):List V:=l.map fun b=> .s (.bool b)
def P1 (l:List Bool):List Value:=l.map fun b=> .bool b
theorem mC (l):(bl l).length=l.length:=by simp[bl]
theorem eK (l):(P1 l).length=l.length:=by simp[P1]
theorem xN (l):(P1 l).map V.s=bl l:=by simp[bl,P1]
theorem sQ (l:List Bool) (i:Nat) (b:Bool):(P1 l).set i (.bool b)=P1 (l.set i b):=by simp[P1,List.map_set]
theorem xx (a6 dst):∀l,aZ a6 dst (bl l)=bl l
 |[]=>rfl
 |b::r=>by show V.s (.bool b)::aZ a6 dst (bl r)=_;rw[xx a6 dst r];rfl
theorem Vi (H a6 n) (l):(bl l).map (m5 H a6 (n+1))=bl l:=by
 induction l with
 |nil=>rfl
 |cons b r ih=>
  have ih':List.map (m5 H a6 (n+1)) (bl r)=bl r:=ih;show V.s (.bool b)::List.map (m5 H a6 (n+1)) (bl r)=_;rw[ih'];rfl
def V1 (t:Bs):List Bool:=(List.range 256).map fun j=>decide (Zt j∈t)
theorem ce (t):(V1 t).length=256:=by simp[V1]
theorem nM (t) {j:Nat} (h:j<256):(V1 t)[j]? =some (decide (Zt j∈t)):=by simp[V1,h]
theorem DN {t:Bs} {i:Nat} (h:i<t.length):(V1 (t.take i)).set (t[i]).toNat true=V1 (t.take (i+1)):=by
 apply Z3;intro j;by_cases hj:j<256
 ·rw[Jr,nM _ hj,nM _ hj,ce,Zr h];by_cases he:(t[i]).toNat=j
  ·rw[if_pos he,if_pos (Ji _)];subst he;rw[UInt8.ofNat_toNat,decide_eq_true (List.mem_append_right _ (Kf.2 rfl))]
  ·rw[if_neg he];have:Zt j≠t[i]:=by
    intro hh;apply he;rw[<-hh,Jb,Zh (show j<2^8 from hj)]
   congr 1;apply decide_eq_decide.2;simp only[Kv,Kf,this,or_false]
 ·rw[Zg (by simp[ce];omega),Zg (by rw[ce];omega)]
theorem DM:P1 (V1 [])=Zk 256 (Value.bool false):=by
 apply Z3;intro j;by_cases hj:j<256
 ·unfold P1;rw[Je,nM _ hj,Jd,if_pos hj];rfl
 ·rw[Zg (by simp[P1,V1];omega),Zg (by simp;omega)]
theorem Yr {t:Bs} (h:∀j,j<256->Zt j∈t):V1 t=Zk 256 true:=by
 apply Z3;intro j;by_cases hj:j<256
 ·rw[nM _ hj,decide_eq_true (h j hj),Jd,if_pos hj]
 ·rw[Zg (by rw[ce];omega),Zg (by simp;omega)]
theorem LZ {va:List Value} {t:Bs} {n:Nat} (ha:va=bv t) (ht:t.length=n) (hm:n<=1000000):a7 C 267 [.z n va] [] (.ret (.a (bl (V1 t)))) []:=by
 subst ha;subst ht;refine OT.c ?_;refine j9 (fun i=>⟨[(2,.p (.k 0) 0),(5,bz t),(6,i64 t.length),(7,i64 i)],[.sc (P1 (V1 (t.take i)))]⟩) t.length ⟨[.d 2 0],⟨rfl,rfl,rfl,rfl,tq⟩,⟨_,rfl,d9 ?_⟩,tq⟩ fun i hi=> ?_
 ·rw[K2,DM];rfl
 refine c9 (fun h=> ?_) (fun h=> ?_)
 ·have a9:i<t.length:=(by omega);have hx:=Ji (t[i]);refine⟨by omega,by omega,?_⟩;refine⟨_,by rw[Zb];exact av a9,?_⟩;refine⟨by omega,by omega,?_⟩;refine⟨by rw[eK,ce];omega,?_⟩;refine⟨i+1,by omega,by omega,[.k 0],⟨rfl,rfl,rfl,d7 (by simp(disch:=omega)only[Za];omega),tq⟩,⟨_,rfl,d9 ?_⟩,tq⟩;rw[Zb,Zm,Zl,sQ,DN a9]
 ·obtain rfl:i=t.length:=(by omega);rw[Zq];refine⟨P1 (V1 t),?_,?_,?_⟩
  ·exact z5 (by rw[eK,ce])
  ·rw[eK,ce]
  rw[xN];refine⟨by rw[mC,eK];omega,?_⟩;refine⟨bl (V1 t),?_,by rw[mC,ce],?_⟩
  ·unfold lay;split
   ·rename_i c hc;have:=congrArg List.length hc;rw[mC,ce]at this;simp at this
   ·rw[K2,Jp,Kt (by simp[mC,eK]),Z8];simp[sub,mC,ce,Ks]
  refine⟨_,rfl,[],?_,tq⟩;show V.a ((bl (V1 t)).map (m5 _ [] 5))=_;rw[Vi]
def aT (n:Nat):List Bool:=(List.range 256).map fun j=>decide (j<n)
theorem iB (n):(aT n).length=256:=by simp[aT]
theorem a1P:P1 (aT 0)=Zk 256 (Value.bool false):=by
 apply Z3;intro j;by_cases hj:j<256
 ·unfold P1 aT;rw[Je,Je,Jv hj,Jd,if_pos hj];simp
 ·rw[Zg (by simp[P1,aT];omega),Zg (by simp;omega)]
theorem a1O {i:Nat} (h:i<256):(aT i).set i true=aT (i+1):=by
 apply Z3;intro j;by_cases hj:j<256
 ·rw[Jr,iB];by_cases he:i=j
  ·subst he;simp[aT,h]
  ·rw[if_neg he];simp[aT,hj];omega
 ·rw[Zg (by simp[iB];omega),Zg (by rw[iB];omega)]
theorem a1N:aT 256=Zk 256 true:=by
 apply Z3;intro j;by_cases hj:j<256
 ·unfold aT;rw[Je,Jv hj,Jd,if_pos hj];simp[hj]
 ·rw[Zg (by rw[iB];omega),Zg (by simp;omega)]
theorem JX {va:List Value} {t:Bs} (ha:va=bv t) (ht:t.length=256) (hall:∀j,j<256->Zt j∈t):a7 C 246 [.z 256 va] [] (.ret (bool true)) []:=by
 subst ha;refine OR.c ?_;refine j9 (fun i=>⟨[(0,.z 256 (bv t)),(3,.p (.k 0) 0),(9,i64 256),(10,i64 i)],[.sc (P1 (aT i))]⟩) 256 ⟨[.d 3 0],⟨rfl,rfl,rfl,rfl,tq⟩,⟨_,rfl,d9 a1P.symm⟩,tq⟩ fun i hi=> ?_;refine c9 (fun h=> ?_) (fun h=> ?_)
 ·have a9:i<256:=(by omega);refine⟨by omega,by omega,by rw[eK,iB];omega,?_⟩;refine⟨i+1,by omega,by omega,[.k 0],⟨rfl,rfl,rfl,d7 (by simp(disch:=omega)only[Za];omega),tq⟩,⟨_,rfl,d9 ?_⟩,tq⟩;rw[Zb,Zm,Zl,sQ,a1O a9]
 ·obtain rfl:i=256:=(by omega);refine⟨[],_,_,_,_,LZ (t:=t) rfl ht (by decide),rfl,rfl,?_⟩;refine⟨P1 (aT 256),?_,by rw[eK,iB],?_⟩
  ·exact z5 (by rw[eK,iB])
  refine⟨V1 t,aT 256,?_,?_,ce t,iB _,?_⟩
  ·exact xx _ _ _
  ·exact xN _
  refine⟨_,rfl,[],congrArg bool ?_,tq⟩;rw[Yr hall,a1N];exact decide_eq_true rfl
def cJ (t:Bs) (n:Nat):Bs:=(List.range n).foldl (fun o i=>o.set (t.getD i 0).toNat (Zt i)) (Zk 256 0)
theorem sJ (t n):cJ t (n+1)=(cJ t n).set (t.getD n 0).toNat (Zt n):=by simp[cJ,Zz]
theorem xy (t n):(cJ t n).length=256:=by
 induction n with
 |zero=>simp[cJ]
 |succ n ih=>rw[sJ,Zu,ih]
theorem yc {va:List Value} {t:Bs} (ha:va=bv t) (ht:t.length=256) (hall:∀j,j<256->Zt j∈t):a7 C 203 [.z 256 va] [] (.ret (.t [.o 1 (.k 0) 0 256,bool true])) [.sc (bv (cJ t 256))]:=by
 subst ha;refine OQ.c ?_;refine⟨[],_,_,_,_,JX rfl ht hall,rfl,rfl,?_⟩;refine⟨by omega,Jh _,by omega,?_⟩;refine j9 (fun i=>⟨[(4,.o 1 (.k 0) 0 256),(13,.z 256 (bv t)),(14,i64 256),(15,i64 i)],[.sc (bv (cJ t i))]⟩) 256 ⟨[.d 12 0],⟨rfl,rfl,rfl,rfl,tq⟩,⟨_,rfl,d9 (S2 256)⟩,tq⟩ fun i hi=> ?_;refine c9 (fun h=> ?_) (fun h=> ?_)
 ·have a9:i<256:=(by omega);have hx:=Ji (t.getD i 0);refine⟨by omega,by omega,?_⟩;refine⟨_,by rw[Zb];exact A1 (by omega),?_⟩;refine⟨by omega,by omega,by rw[f9,xy];omega,?_⟩;refine⟨i+1,by omega,by omega,[.k 0],⟨rfl,rfl,rfl,d7 (by simp(disch:=omega)only[Za];omega),tq⟩,⟨_,rfl,d9 ?_⟩,tq⟩;rw[Zb,Zm,Zl,bA,L0,sJ]
 ·obtain rfl:i=256:=(by omega);exact⟨_,rfl,[.k 0],rfl,⟨_,rfl,rfl⟩,tq⟩
theorem VH {t:Bs} (hnd:t.Nodup) {i:Nat} (h:i<t.length):t[i]∉t.take i:=by
 intro hm;obtain⟨j,hj,he⟩:=List.getElem_of_mem hm;simp at hj;rw[List.getElem_take]at he;have:=(List.getElem?_inj (i:=j) (j:=i) (by omega) hnd).1 (by rw[Zf (by omega),Zf h,he]);omega
theorem Lz {va:List Value} {t:Bs} (ha:va=bv t) (ht:t.length=256) (hnd:t.Nodup):a7 C 227 [.z 256 va] [] (.ret (bool true)) []:=by
 subst ha;refine QZ.c ?_;refine⟨by omega,Jh _,by omega,?_⟩;refine j9 (fun i=>⟨[(0,.z 256 (bv t)),(3,.o 1 (.k 0) 0 256),(4,i64 i)],[.sc (P1 (V1 (t.take i)))]⟩) 256 ⟨[.d 5 0],⟨rfl,rfl,rfl,tq⟩,⟨_,rfl,d9 (by rw[K2,DM];rfl)⟩,tq⟩ fun i hi=> ?_;refine c9 (fun h=> ?_) (fun h=> ?_)
 ·have a9:i<256:=(by omega);have hlt':i<t.length:=(by omega);have hx:=Ji (t[i]);have hs:(P1 (V1 (t.take i)))[0+((t[i]).toNat:Int).toNat*1]? =some (.bool false):=by
   rw[Zb,Zm,Zl];have h1:=nM (t.take i) hx;rw[UInt8.ofNat_toNat,decide_eq_false (VH hnd hlt')]at h1;simp[P1,h1]
  refine⟨by omega,by omega,?_⟩;refine⟨_,by rw[Zb];exact av hlt',?_⟩;refine c9 (fun hg=>absurd hg (by rw[iA];omega)) (fun _=> ?_);refine⟨by omega,by omega,?_⟩;refine⟨_,by rw[Zb];exact av hlt',?_⟩;refine⟨by omega,by omega,?_⟩;refine⟨_,hs,?_⟩;refine⟨by omega,by omega,?_⟩;refine⟨_,by rw[Zb];exact av hlt',?_⟩;refine⟨by omega,by omega,by rw[eK,ce];omega,?_⟩;refine⟨i+1,by omega,by omega,[.k 0],⟨rfl,rfl,d7 (by simp(disch:=omega)only[Za];omega),tq⟩,⟨_,rfl,d9 ?_⟩,tq⟩;rw[Zb,Zm,Zl,sQ,DN hlt']
 ·obtain rfl:i=256:=(by omega);exact⟨_,rfl,[],rfl,tq⟩
theorem yO {va:List Value} {t:Bs} (ha:va=bv t) (ht:t.length=256) (hnd:t.Nodup):a7 C 171 [.z 256 va] [] (.ret (.t [.o 1 (.k 0) 0 256,bool true])) [.sc (bv (cJ t 256))]:=by
 subst ha;refine Qz.c ?_;refine⟨[],_,_,_,_,Lz rfl ht hnd,rfl,rfl,?_⟩;refine⟨by omega,Jh _,by omega,?_⟩;refine j9 (fun i=>⟨[(0,.z 256 (bv t)),(4,.o 1 (.k 0) 0 256),(5,i64 i)],[.sc (bv (cJ t i))]⟩) 256 ⟨[.d 11 0],⟨rfl,rfl,rfl,tq⟩,⟨_,rfl,d9 (S2 256)⟩,tq⟩ fun i hi=> ?_;refine c9 (fun h=> ?_) (fun h=> ?_)
 ·have a9:i<256:=(by omega);have hx:=Ji (t.getD i 0);refine⟨by omega,by omega,?_⟩;refine⟨_,by rw[Zb];exact A1 (by omega),?_⟩;refine⟨by omega,by omega,by rw[f9,xy];omega,?_⟩;refine⟨i+1,by omega,by omega,[.k 0],⟨rfl,rfl,d7 (by simp(disch:=omega)only[Za];omega),tq⟩,⟨_,rfl,d9 ?_⟩,tq⟩;rw[Zb,Zm,Zl,bA,L0,sJ]
 ·obtain rfl:i=256:=(by omega);exact⟨_,rfl,[.k 0],rfl,⟨_,rfl,rfl⟩,tq⟩
def tb (b:Bs) (j:Nat):Bool:=(b.getD (j/8) 0).toNat.testBit (7-j%8)
def cK (f:Nat->Bool):UInt8:=Zt (128*(f 0).toNat+64*(f 1).toNat+32*(f 2).toNat+16*(f 3).toNat+8*(f 4).toNat+4*(f 5).toNat+2*(f 6).toNat+(f 7).toNat)
theorem HH:∀b0 b1 b2 b3 b4 b5 b6 b7:Bool,∀r:Fin 8,(Zt (128*b0.toNat+64*b1.toNat+32*b2.toNat+16*b3.toNat+8*b4.toNat+4*b5.toNat+2*b6.toNat+b7.toNat)).toNat.testBit (7-r.val)=[b0,b1,b2,b3,b4,b5,b6,b7].getD r.val false:=by decide +kernel
theorem mH (f:Nat->Bool) {r:Nat} (hr:r<8):(cK f).toNat.testBit (7-r)=f r:=by
 have h:=HH (f 0) (f 1) (f 2) (f 3) (f 4) (f 5) (f 6) (f 7) ⟨r,hr⟩;have e:[f 0,f 1,f 2,f 3,f 4,f 5,f 6,f 7].getD r false=f r:=by
  rcases r with _|_|_|_|_|_|_|_|r;all_goals first|rfl|omega
 rw[<-e,<-h];rfl
theorem wa {a b:UInt8} (h:∀r,r<8->a.toNat.testBit (7-r)=b.toNat.testBit (7-r)):a=b:=by
 apply Ku.1;apply Nat.eq_of_testBit_eq;intro i;by_cases hi:i<8
 ·have:=h (7-i) (by omega)
  rwa [show 7-(7-i)=i by omega]at this
 ·have hp:∀w:UInt8,w.toNat.testBit i=false:=fun w=>Kq (Nat.lt_of_lt_of_le w.toNat_lt (Z5 (by decide) (by omega)));rw[hp,hp]
def ae (n:Nat) (f:Nat->Bool):Bs:=(List.range n).map fun q=>cK fun r=>f (8*q+r)
theorem fD (n f):(ae n f).length=n:=by simp[ae]
theorem fK {n:Nat} {f:Nat->Bool} {j:Nat} (h:j<8*n):tb (ae n f) j=f j:=by
 unfold tb ae;have hq:j/8<n:=by omega
 rw[Zd,Je,Jv hq];show(cK fun r=>f (8*(j/8)+r)).toNat.testBit (7-j%8)=f j;rw[mH _ (Z4 _ (by decide))];congr 1;omega
theorem nV {a b:Bs} (hl:a.length=b.length) (h:∀j,j<8*a.length->tb a j=tb b j):a=b:=by
 apply List.ext_getElem hl;intro i h1 h2;apply wa;intro r hr;have:=h (8*i+r) (by omega);unfold tb at this;rw[show (8*i+r)/8=i by omega,show(8*i+r)%8=r by omega]at this;rw[Zd,Zf h1,Zd,Zf h2]at this;exact this
def G8 (b:Bs) (n:Nat):Bs:=ae b.length fun j=>tb b ((j+n)%(8*b.length))
theorem B3 (b n):(G8 b n).length=b.length:=fD _ _
theorem a1n (b:Bs) (n m:Nat) (h0:0<b.length):G8 (G8 b n) m=G8 b ((n+m)%(8*b.length)):=by
 apply nV (by simp[B3]);intro j hj;rw[B3,B3]at hj;have a9:(j+m)%(8*b.length)<8*b.length:=Z4 _ (by omega);unfold G8;rw[fK (by rw[fD];exact hj),fK (by rw[fD];exact a9),fK hj,fD];congr 1;rw[Nat.mod_add_mod,Nat.add_mod_mod,Nat.add_assoc,Nat.add_comm m n]
def lh (x y:UInt8) (r:Nat):UInt8:=Zt ((x.toNat*256+y.toNat)/2^(8-r))
theorem WM (x y:UInt8) {r j:Nat} (hr:r<8) (hj:j<8):(lh x y r).toNat.testBit (7-j)=if j+r<8 then x.toNat.testBit (7-(j+r))else y.toNat.testBit (15-(j+r)):=by
 unfold lh;rw[Jb,Kl,Nat.testBit_div_two_pow,Nat.mul_comm,show 256=2^8 by decide,Nat.testBit_two_pow_mul_add _ y.toNat_lt];have h7:7-j<8:=by omega
 simp only[h7,decide_true,Bool.true_and];by_cases h:j+r<8
 ·rw[if_pos h,if_neg (by omega)];congr 1;omega
 ·rw[if_neg h,if_pos (by omega)];congr 1;omega
def nW (b:Bs) (n i:Nat):UInt8:=lh (b.getD ((i+n/8)%b.length) 0) (b.getD ((i+n/8+1)%b.length) 0) (n%8)
theorem Gc (b:Bs) (n:Nat) (hn:n<8*b.length):(List.range b.length).map (nW b n)=G8 b n:=by
 apply nV (by simp[B3]);intro j hj;simp only[Zy,List.length_range]at hj;have hl:0<b.length:=by omega
 unfold G8;rw[fK hj];have hq:j/8<b.length:=by omega
 unfold tb;rw[Zd,Je,Jv hq];show(nW b n (j/8)).toNat.testBit (7-j%8)=_;unfold nW;rw[WM _ _ (Z4 _ (by decide)) (Z4 _ (by decide))];by_cases h:j%8+n%8<8
 ·rw[if_pos h];by_cases hw:j+n<8*b.length
  ·have e:(j+n)%(8*b.length)=j+n:=Zh hw;rw[e,show(j+n)/8=j/8+n/8 by omega,Zh (show j/8+n/8<b.length by omega),show(j+n)%8=j%8+n%8 by omega]
  ·have e:(j+n)%(8*b.length)=j+n-8*b.length:=by rw[Jy (by omega),Zh (by omega)]
   have e2:(j/8+n/8)%b.length=j/8+n/8-b.length:=by rw[Jy (by omega),Zh (by omega)]
   rw[e,e2,show(j+n-8*b.length)/8=j/8+n/8-b.length by omega,show(j+n-8*b.length)%8=j%8+n%8 by omega]
 ·rw[if_neg h];by_cases hw:j+n<8*b.length
  ·have e:(j+n)%(8*b.length)=j+n:=Zh hw;rw[e,show(j+n)/8=j/8+n/8+1 by omega,Zh (show j/8+n/8+1<b.length by omega),show 7-(j+n)%8=15-(j%8+n%8) by omega]
  ·have e:(j+n)%(8*b.length)=j+n-8*b.length:=by rw[Jy (by omega),Zh (by omega)]
   have e2:(j/8+n/8+1)%b.length=j/8+n/8+1-b.length:=by rw[Jy (by omega),Zh (by omega)]
   rw[e,e2,show(j+n-8*b.length)/8=j/8+n/8+1-b.length by omega,show 7-(j+n-8*b.length)%8=15-(j%8+n%8) by omega]
theorem qM (a:Nat) {b i:Nat} (hb:b<2^i):a*2^i|||b=a*2^i+b:=by
 rw[<-J6,Nat.shiftLeft_add_eq_or_of_lt hb]
theorem We (x y:UInt8) {r:Nat} (hr:r<8):U8.wrap ((U6.wrap ((Zc U6.bits (U6.wrap (U6.wrap (x.toNat:Int)*2^(min (8:Int).toNat U6.bits)))|||Zc U6.bits (U6.wrap (y.toNat:Int))).toNat:Int)).fdiv (2^(min (U6.wrap (8-U6.wrap (r:Int))).toNat U6.bits)))
  =((lh x y r).toNat:Int):=by
 have hx:=x.toNat_lt;have hy:=y.toNat_lt;have e1:U6.wrap (x.toNat:Int)=((x.toNat:Nat):Int):=by rw[D5];omega
 have e2:U6.wrap (y.toNat:Int)=((y.toNat:Nat):Int):=by rw[D5];omega
 have e3:U6.wrap ((x.toNat:Int)*2^(min (8:Int).toNat U6.bits))=((x.toNat*256:Nat):Int):=by
  show U6.wrap ((x.toNat:Int)*2^8)=_;rw[D5];omega
 have e4:U6.wrap (8-U6.wrap (r:Int))=((8-r:Nat):Int):=by rw[D5,D5];omega
 have e5:x.toNat*256|||y.toNat=x.toNat*256+y.toNat:=qM (i:=8) x.toNat hy;rw[e1,e2,e3,e4,jK U6.bits (by simp only[mB];omega) (by simp only[mB];omega),e5];have e6:U6.wrap ((x.toNat*256+y.toNat:Nat):Int)=((x.toNat*256+y.toNat:Nat):Int):=by rw[D5];omega
 rw[e6,Zb,show min (8-r) U6.bits=8-r by simp only[mB];omega,Z1 _ (Kc (Ki (by decide)))];have e7:((x.toNat*256+y.toNat:Nat):Int)/2^(8-r)=(((x.toNat*256+y.toNat)/2^(8-r):Nat):Int):=by
  rw[Ju,Z9];rfl
 rw[e7,bA];rfl
theorem WN:∀r,r<8->∀x y:Nat,x<256->y<256->(x*2^r%256|||y/2^(8-r))=(x*256+y)/2^(8-r)%256:=by
 intro r hr x y hx hy;have key:∀(a p q:Nat),q<2^p->a*2^p|||q=a*2^p+q:=fun a p q h=>qM a h;rcases r with _|_|_|_|_|_|_|_|r
 ·rw[show y/2^(8-0)=0 by omega,Nat.or_zero];omega
 ·have h1:x*2^1%256=(x%128)*2^1:=by omega
  rw[h1,key _ 1 _ (by show _<2;omega)];omega
 ·have h1:x*2^2%256=(x%64)*2^2:=by omega
  rw[h1,key _ 2 _ (by show _<4;omega)];omega
 ·have h1:x*2^3%256=(x%32)*2^3:=by omega
  rw[h1,key _ 3 _ (by show _<8;omega)];omega
 ·have h1:x*2^4%256=(x%16)*2^4:=by omega
  rw[h1,key _ 4 _ (by show _<16;omega)];omega
 ·have h1:x*2^5%256=(x%8)*2^5:=by omega
  rw[h1,key _ 5 _ (by show _<32;omega)];omega
 ·have h1:x*2^6%256=(x%4)*2^6:=by omega
  rw[h1,key _ 6 _ (by show _<64;omega)];omega
 ·have h1:x*2^7%256=(x%2)*2^7:=by omega
  rw[h1,key _ 7 _ (by show _<128;omega)];omega
 ·omega
theorem WI (x y:UInt8) {r:Nat} (hr:r<8):U8.wrap ((Zc U8.bits (U8.wrap ((x.toNat:Int)*2^(min (U6.wrap (r:Int)).toNat U8.bits)))|||Zc U8.bits ((y.toNat:Int).fdiv (2^(min (U6.wrap (I6.wrap (8-(r:Int)))).toNat U8.bits)))).toNat:Int)
  =((lh x y r).toNat:Int):=by
 have hx:=x.toNat_lt;have hy:=y.toNat_lt;have e1:U6.wrap (r:Int)=((r:Nat):Int):=by rw[D5];omega
 have e4:U6.wrap (I6.wrap (8-(r:Int)))=((8-r:Nat):Int):=by rw[D5];simp only[IntKind.wrap_i64];omega
 rw[e1,e4,Zb,Zb,show min r U8.bits=r by simp only[jI];omega,show min (8-r) U8.bits=8-r by simp only[jI];omega,Z1 _ (Kc (Ki (by decide))),wrap_u8,wrap_u8];have e5:(x.toNat:Int)*2^r%256=((x.toNat*2^r%256:Nat):Int):=by rw[Jt,Jx,Z9];rfl
 have e6:(y.toNat:Int)/2^(8-r)=((y.toNat/2^(8-r):Nat):Int):=by rw[Ju,Z9];rfl
 have hd:y.toNat/2^(8-r)<256:=Nat.lt_of_le_of_lt (Jo _ _) hy;rw[e5,e6,jK U8.bits (by simp only[jI];omega) (by simp only[jI];omega),WN r hr _ _ hx hy,lh,Jb];omega
theorem Bq {f:Nat->UInt8} {n k:Nat} (h:k<n):(bv ((List.range k).map f++Zk (n-k) 0)).set k (.int .u8 (f k).toNat)=bv ((List.range (k+1)).map f++Zk (n-(k+1)) 0):=by
 rw[nh (by simp) h,Zz,List.map_append];simp
theorem iR {va:List Value} {b:Bs} {l:Nat} {n:Int} (ha:va=bv b) (hl:b.length=l) (h0:0<l) (hm:l<=1000000) (hn: -9223372036854775808<=n/\n<=9223372036854775807):a7 C 189 [.z l va,i64 n] [] (.ret (.o 1 (.k 0) 0 l)) [.sc (bv (G8 b (n%(8*l)).toNat))]:=by
 subst ha;subst hl;refine Tv.c ?_;refine w9 (by simp only[beq_eq_false_iff_ne,ne_eq];omega) ?_;have e8:I6.wrap (8*(b.length:Int))=((8*b.length:Nat):Int):=(by simp(disch:=omega)only[Za];omega);refine⟨[],_,_,_,_,zt (b:=(8*b.length:Nat)) (by omega) (by omega) hn,by rw[<-e8];rfl,rfl,?_⟩;obtain⟨m,hmm,hml⟩:∃m:Nat,n%(8*(b.length:Int))=m/\m<8*b.length:=by
  have h1:=Kw n (b:=8*(b.length:Int)) (by omega);have h2:=Kh n (b:=8*(b.length:Int)) (by omega);exact⟨(n%(8*(b.length:Int))).toNat,by omega,by omega⟩
 have hmm':n%((8*b.length:Nat):Int)=m:=by rw[<-hmm];rfl
 rw[hmm,hmm',Zb];refine⟨by omega,Jh _,by omega,?_⟩;refine j9 (fun i=>⟨[(0,bz b),(1,i64 m),(5,.o 1 (.k 0) 0 b.length),(22,i64 b.length),(23,i64 i)],[.sc (bv ((List.range i).map (nW b m)++Zk (b.length-i) 0))]⟩) b.length ⟨[.d 20 0],⟨rfl,rfl,rfl,rfl,rfl,tq⟩,⟨_,rfl,d9 (by simp[bv])⟩,tq⟩ fun i hi=> ?_;refine c9 (fun h=> ?_) (fun h=> ?_)
 ·have a9:i<b.length:=(by omega);have q8:I6.wrap ((m:Int).tdiv 8)=((m/8:Nat):Int):=by
   rw[show ((m:Int).tdiv 8)=((m/8:Nat):Int) from rfl];simp only[IntKind.wrap_i64];omega
  have ea:I6.wrap ((i:Int)+I6.wrap ((m:Int).tdiv 8))=((i+m/8:Nat):Int):=by rw[q8];simp only[IntKind.wrap_i64];omega
  have eb:I6.wrap (I6.wrap ((i:Int)+I6.wrap ((m:Int).tdiv 8))+1)=((i+m/8+1:Nat):Int):=by rw[ea];simp only[IntKind.wrap_i64];omega
  have ec:(I6.wrap ((i:Int)+I6.wrap ((m:Int).tdiv 8))).tmod (b.length:Int)=(((i+m/8)%b.length:Nat):Int):=by rw[ea];exact W8 _ _
  have ed:(I6.wrap (I6.wrap ((i:Int)+I6.wrap ((m:Int).tdiv 8))+1)).tmod (b.length:Int)=(((i+m/8+1)%b.length:Nat):Int):=by rw[eb];exact W8 _ _
  have h1:(i+m/8)%b.length<b.length:=Z4 _ h0;have h2:(i+m/8+1)%b.length<b.length:=Z4 _ h0;refine⟨by decide,?_⟩;refine⟨by omega,by rw[ec];omega,by rw[ec];omega,?_⟩;refine⟨_,by rw[ec,Zb];exact A1 h1,?_⟩;refine⟨by omega,by rw[ed];omega,by rw[ed];omega,?_⟩;refine⟨_,by rw[ed,Zb];exact A1 h2,?_⟩;refine⟨by decide,by decide,?_⟩;have e9:((m:Int).tmod 8)=((m%8:Nat):Int):=W8 m 8;refine⟨by rw[e9,D5,D5];omega,?_⟩;refine⟨by omega,by omega,by rw[f9];simp;omega,?_⟩;refine⟨i+1,by omega,by omega,[.k 0],⟨rfl,rfl,rfl,rfl,d7 (by simp(disch:=omega)only[Za];omega),tq⟩,⟨_,rfl,d9 ?_⟩,tq⟩;rw[e9,We _ _ (Z4 _ (by decide)),Zb,Zm,Zl];exact Bq a9
 ·obtain rfl:i=b.length:=(by omega);refine⟨_,rfl,[.k 0],rfl,⟨_,rfl,d9 ?_⟩,tq⟩;rw[Nat.sub_self,List.replicate_zero,Z8,Gc b m hml]
theorem mP {va:List Value} {b:Bs} {l:Nat} {n:Int} (ha:va=bv b) (hl:b.length=l) (h0:0<l) (hm:l<=1000000) (hn: -9223372036854775808<=n/\n<=9223372036854775807):a7 C 165 [.z l va,i64 n] [] (.ret (.o 1 (.k 0) 0 l)) [.sc (bv (G8 b (n%(8*l)).toNat))]:=by
 subst ha;subst hl;refine Qq.c ?_;refine⟨by omega,Jh _,by omega,?_⟩;refine w9 (by simp only[beq_eq_false_iff_ne,ne_eq];omega) ?_;have e8:I6.wrap (8*(b.length:Int))=((8*b.length:Nat):Int):=(by simp(disch:=omega)only[Za];omega);refine⟨[],_,_,_,_,yM (b:=(8*b.length:Nat)) (by omega) (by omega) hn,by rw[<-e8];rfl,rfl,?_⟩;obtain⟨m,hmm,hml⟩:∃m:Nat,n%(8*(b.length:Int))=m/\m<8*b.length:=by
  have h1:=Kw n (b:=8*(b.length:Int)) (by omega);have h2:=Kh n (b:=8*(b.length:Int)) (by omega);exact⟨(n%(8*(b.length:Int))).toNat,by omega,by omega⟩
 have hmm':n%((8*b.length:Nat):Int)=m:=by rw[<-hmm];rfl
 rw[hmm,hmm',Zb];refine j9 (fun i=>⟨[(0,bz b),(5,.o 1 (.k 0) 0 b.length),(6,i64 m),(7,i64 i)],[.sc (bv ((List.range i).map (nW b m)++Zk (b.length-i) 0))]⟩) b.length ⟨[.d 12 0],⟨rfl,rfl,rfl,rfl,tq⟩,⟨_,rfl,d9 (by simp[bv])⟩,tq⟩ fun i hi=> ?_;refine c9 (fun h=> ?_) (fun h=> ?_)
 ·have a9:i<b.length:=(by omega);have q8:I6.wrap ((m:Int).tdiv 8)=((m/8:Nat):Int):=by
   rw[show ((m:Int).tdiv 8)=((m/8:Nat):Int) from rfl];simp only[IntKind.wrap_i64];omega
  have ea:I6.wrap ((i:Int)+I6.wrap ((m:Int).tdiv 8))=((i+m/8:Nat):Int):=by rw[q8];simp only[IntKind.wrap_i64];omega
  have eb:I6.wrap (I6.wrap ((i:Int)+I6.wrap ((m:Int).tdiv 8))+1)=((i+m/8+1:Nat):Int):=by rw[ea];simp only[IntKind.wrap_i64];omega
  have ec:(I6.wrap ((i:Int)+I6.wrap ((m:Int).tdiv 8))).tmod (b.length:Int)=(((i+m/8)%b.length:Nat):Int):=by rw[ea];exact W8 _ _
  have ed:(I6.wrap (I6.wrap ((i:Int)+I6.wrap ((m:Int).tdiv 8))+1)).tmod (b.length:Int)=(((i+m/8+1)%b.length:Nat):Int):=by rw[eb];exact W8 _ _
  have h1:(i+m/8)%b.length<b.length:=Z4 _ h0;have h2:(i+m/8+1)%b.length<b.length:=Z4 _ h0;refine⟨by decide,by omega,by rw[ec];omega,by rw[ec];omega,?_⟩;refine⟨_,by rw[ec,Zb];exact A1 h1,?_⟩;refine⟨by decide,by omega,by rw[ed];omega,by rw[ed];omega,?_⟩;refine⟨_,by rw[ed,Zb];exact A1 h2,?_⟩;have e9:((m:Int).tmod 8)=((m%8:Nat):Int):=W8 m 8;refine⟨by decide,by rw[e9,D5];omega,by decide,by rw[e9,D5];simp only[IntKind.wrap_i64];omega,?_⟩;refine⟨by omega,by omega,by rw[f9];simp;omega,?_⟩;refine⟨i+1,by omega,by omega,[.k 0],⟨rfl,rfl,rfl,d7 (by simp(disch:=omega)only[Za];omega),tq⟩,⟨_,rfl,d9 ?_⟩,tq⟩;rw[e9,WI _ _ (Z4 _ (by decide)),Zb,Zm,Zl];exact Bq a9
 ·obtain rfl:i=b.length:=(by omega);refine⟨_,rfl,[.k 0],rfl,⟨_,rfl,d9 ?_⟩,tq⟩;rw[Nat.sub_self,List.replicate_zero,Z8,Gc b m hml,Zb]
def nv (l:List Nat):List Value:=l.map fun(x:Nat)=>Value.int .i64 (x:Int)
abbrev nz (l:List Nat):V:= .z l.length (nv l)
theorem G4 (l:List Nat):(nv l).length=l.length:=by simp[nv]
theorem R3 {k:List Nat} {i:Nat} (h:i<k.length):(nv k)[i]? =some (.int .i64 ((k.getD i 0:Nat):Int)):=by
 simp[nv,h,Zd]
theorem aG (l:List Nat) (i n:Nat):sub (nv l) i n=nv (sub l i n):=by simp[nv,sub,Kj,Kk]
theorem fy (a b:List Nat):nv a++nv b=nv (a++b):=by simp[nv]
theorem B8 {l:List Nat} {n:Nat} (h:l.length=n):sub (nv l) 0 n=nv l:=z5 (by rw[G4,h])
theorem gV {l:List Nat} {n x:Nat} (h:l.length=n):sub (nv l) 0 n++[Value.int .i64 (x:Int)]=nv (l++[x]):=by
 rw[B8 h];simp[nv]
def A9 (a:Nat):Nat:=if a=0 then 65536 else a
def H6 (a b:Nat):Nat:=A9 a*A9 b%65537%65536
def X8 (a b:Nat):Nat:=(a+b)%65536
def L4 (a:Nat):Nat:=(65536-a)%65536
theorem H7 (a b):H6 a b<65536:=Z4 _ (by decide)
theorem cH (a b):X8 a b<65536:=Z4 _ (by decide)
theorem VE (a):L4 a<65536:=Z4 _ (by decide)
theorem DZ {a} (h:a<65536):A9 a<=65536:=by unfold A9;split<;>omega
abbrev IS:=Nat×Nat×Nat
def P5 (x:IS):IS:=(if x.2.2%2=1 then H6 x.1 x.2.1 else x.1,H6 x.2.1 x.2.1,x.2.2/2)
def F6 (a:Nat):Nat:=(it P5 16 (1,a,65535)).1
theorem qc {a:Nat} (ha:a<65536) (k:Nat):(it P5 k (1,a,65535)).1<65536/\(it P5 k (1,a,65535)).2.1<65536/\(it P5 k (1,a,65535)).2.2=65535/2^k:=by
 induction k with
 |zero=>exact⟨by show 1<65536;decide,ha,by show 65535=65535/2^0;decide⟩
 |succ k ih=>
  obtain⟨h1,h2,h3⟩:=ih;refine⟨?_,H7 _ _,?_⟩
  ·show(if _ then _ else _)<65536;split
   ·exact H7 _ _
   ·exact h1
  ·show(it P5 k (1,a,65535)).2.2/2=_;rw[h3,Kr,Nat.pow_succ]
theorem qg {a:Nat} (ha:a<65536):F6 a<65536:=(qc ha 16).1
theorem qD {x y:Nat} (hx:x<=65536) (hy:y<=65536):((I6.wrap ((x:Int)*(y:Int))).tmod 65537).tmod 65536=((x*y%65537%65536:Nat):Int):=by
 have h:x*y<=65536*65536:=Nat.mul_le_mul hx hy;rw[show (x:Int)*(y:Int)=((x*y:Nat):Int) from rfl,dk _ (by omega)];rfl
theorem iN {a b:Nat} {x y:Int} (hx:x=a) (hy:y=b) (ha:a<65536) (hb:b<65536):a7 C 192 [i64 x,i64 y] [] (.ret (i64 (H6 a b))) []:=by
 subst hx;subst hy;refine Pp.c ?_;refine j7 (fun h=> ?_) (fun h=> ?_)
 ·refine j7 (fun h'=> ?_) (fun h'=> ?_)
  ·refine⟨by decide,by decide,_,rfl,[],d7 ?_,tq⟩;obtain rfl:a=0:=(by omega);obtain rfl:b=0:=(by omega);rfl
  ·refine⟨by decide,by decide,_,rfl,[],d7 ?_,tq⟩;obtain rfl:a=0:=(by omega);have e:H6 0 b=65536*b%65537%65536:=by unfold H6 A9;rw[if_pos rfl,if_neg (by omega)]
   rw[e];exact qD (x:=65536) (y:=b) (by decide) (by omega)
 ·refine j7 (fun h'=> ?_) (fun h'=> ?_)
  ·refine⟨by decide,by decide,_,rfl,[],d7 ?_,tq⟩;obtain rfl:b=0:=(by omega);have e:H6 a 0=a*65536%65537%65536:=by unfold H6 A9;rw[if_neg (by omega),if_pos rfl]
   rw[e];exact qD (x:=a) (y:=65536) (by omega) (by decide)
  ·refine⟨by decide,by decide,_,rfl,[],d7 ?_,tq⟩;have e:H6 a b=a*b%65537%65536:=by unfold H6 A9;rw[if_neg (by omega),if_neg (by omega)]
   rw[e];exact qD (x:=a) (y:=b) (by omega) (by omega)
theorem oQ {a b:Nat} {x y:Int} (hx:x=a) (hy:y=b) (ha:a<65536) (hb:b<65536):a7 C 193 [i64 x,i64 y] [] (.ret (i64 (X8 a b))) []:=by
 subst hx;subst hy;refine Pq.c ?_;refine⟨by decide,_,rfl,[],d7 ?_,tq⟩;rw[show (a:Int)+(b:Int)=((a+b:Nat):Int) from rfl,dk _ (by omega)];rfl
theorem yw {a:Nat} {x:Int} (hx:x=a) (ha:a<65536):a7 C 190 [i64 x] [] (.ret (i64 (L4 a))) []:=by
 subst hx;refine Ps.c ?_;refine⟨by decide,_,rfl,[],d7 ?_,tq⟩;rw[show (65536:Int)-(a:Int)=((65536-a:Nat):Int) by omega,dk _ (by omega)];rfl
theorem jR {a:Nat} {x:Int} (hx:x=a) (ha:a<65536):a7 C 191 [i64 x] [] (.ret (i64 (F6 a))) []:=by
 subst hx;refine Pn.c ?_;refine ri 0 rfl P5 (1,a,65535) 16 (fun i z=>⟨[(0,i64 z.2.1),(3,i64 z.1),(4,i64 z.2.2)],[]⟩) ⟨[],(0,(1,a,65535)),⟨Z6 _,rfl⟩,[],⟨rfl,rfl,rfl,tq⟩,tq⟩ fun i z hi hz=> ?_;obtain⟨b1,b2,b3⟩:=qc ha i;rw[<-hz]at b1 b2 b3;refine c9 (fun h=> ?_) (fun h=> ?_)
 ·have hi16:i<16:=by
   rcases Jg i 16 with h8|h8
   ·exact h8
   ·obtain rfl:i=16:=(by omega);rw[b3]at h;exact absurd h (by decide)
  have hle:z.2.2<=65535:=by rw[b3];exact Jo _ _
  have e1:((z.2.2:Nat):Int).tmod 2=((z.2.2%2:Nat):Int):=W8 _ 2;have e2:I6.wrap (((z.2.2:Nat):Int).tdiv 2)=((z.2.2/2:Nat):Int):=by
   rw[show ((z.2.2:Nat):Int).tdiv 2=((z.2.2/2:Nat):Int) from rfl,dk _ (by omega)]
  refine⟨by decide,?_⟩;refine c9 (fun hb=> ?_) (fun hb=> ?_)
  ·rw[e1]at hb;refine⟨[],_,_,_,_,iN rfl rfl b1 b2,rfl,rfl,?_⟩;refine⟨[],_,_,_,_,iN rfl rfl b2 b2,rfl,rfl,?_⟩;refine⟨by decide,?_⟩;refine⟨rfl,(i+1,P5 z),⟨hi16,bt hz⟩,by omega,[],⟨rfl,?_,d7 e2,tq⟩,tq⟩;show i64 _=i64 ((if _ then _ else _:Nat):Int);rw[if_pos (by omega)]
  ·rw[e1]at hb;refine⟨[],_,_,_,_,iN rfl rfl b2 b2,rfl,rfl,?_⟩;refine⟨by decide,?_⟩;refine⟨rfl,(i+1,P5 z),⟨hi16,bt hz⟩,by omega,[],⟨rfl,?_,d7 e2,tq⟩,tq⟩;show i64 _=i64 ((if _ then _ else _:Nat):Int);rw[if_neg (by omega)]
 ·have hi16:i=16:=by
   rcases Jg i 16 with h8|h8
   ·have:2^i<=2^15:=Z5 (by decide) (by omega);have hp:0<2^i:=K1 (by decide);have:1<=65535/2^i:=(Jq hp).2 (by omega);omega
   ·omega
  subst hi16;refine⟨_,rfl,[],?_,tq⟩;show i64 z.1=i64 _;rw[hz];rfl
def aR (b:Bs) (i:Nat):Nat:=(b.getD (2*i) 0).toNat*256+(b.getD (2*i+1) 0).toNat
def S9 (b:Bs) (k:Nat):List Nat:=(List.range k).map (aR b)
theorem fw (b k):(S9 b k).length=k:=by simp[S9]
theorem Cd (b k):S9 b (k+1)=S9 b k++[aR b k]:=by simp[S9,Zz]
theorem bL (b i):aR b i<65536:=by
 unfold aR;have h1:=Ji (b.getD (2*i) 0);have h2:=Ji (b.getD (2*i+1) 0);omega
theorem wj (x y:UInt8):I6.wrap ((Zc I6.bits (I6.wrap (I6.wrap (x.toNat:Int)*2^(min (8:Int).toNat I6.bits)))|||Zc I6.bits (I6.wrap (y.toNat:Int))).toNat:Int)=((x.toNat*256+y.toNat:Nat):Int):=by
 have hx:=x.toNat_lt;have hy:=y.toNat_lt;have e3:I6.wrap ((x.toNat:Int)*2^(min (8:Int).toNat I6.bits))=((x.toNat*256:Nat):Int):=by
  show I6.wrap ((x.toNat:Int)*2^8)=_;simp only[IntKind.wrap_i64];omega
 rw[iA,iA,e3,Us 16 (by decide) (by omega) (by omega),qM (i:=8) x.toNat hy]
theorem ta {n k:Nat} {va:List Value} {b:Bs} (ha:va=bv b) (hn:b.length=n) (h2:n=2*k) (h0:0<k) (hm:n<=1000000):a7 C 133 [.z n va] [] (.ret (.o 1 (.k 0) 0 k)) [.sc (nv (S9 b k))]:=by
 subst ha;subst h2;refine Pr.c ?_;refine B1 (fun i=>⟨[(0,.z (2*k) (bv b)),(3,.o 1 (.k 0) 0 i),(4,i64 (2*i:Nat))],[.sc (nv (S9 b i))]⟩) k [(3,1,.sc [])] ⟨[.d 900000 0],⟨rfl,rfl,rfl,tq⟩,⟨_,rfl,rfl⟩,tq⟩ fun i hi=> ?_;refine c9 (fun h=> ?_) (fun h=> ?_)
 ·have a9:i<k:=by simp only[IntKind.wrap_i64]at h;omega
  have e1:(I6.wrap (((2*i:Nat):Int)+1)).toNat=2*i+1:=(by simp(disch:=omega)only[Za];omega);refine⟨by omega,by omega,?_⟩;refine⟨_,by rw[Zb];exact A1 (i:=2*i) (by omega),?_⟩;refine⟨by decide,by omega,by omega,?_⟩;refine⟨_,by rw[e1];exact A1 (i:=2*i+1) (by omega),?_⟩;refine⟨Zp _,by omega,by rw[G4,fw];omega,?_⟩;refine⟨i+1,by omega,by omega,[.d 27 0],⟨rfl,rfl,d7 (by simp(disch:=omega)only[Za];omega),tq⟩,⟨_,rfl,d9 ?_⟩,tq⟩;rw[wj,Cd];exact gV (by rw[fw];omega)
 ·obtain rfl:i=k:=by simp only[IntKind.wrap_i64]at h;omega
  exact⟨_,rfl,[.k 0],rfl,⟨_,rfl,rfl⟩,tq⟩
theorem mJ {n:Nat} {va:List Value} (hv:va.length=n) (h0:0<n) (hm:n<=1073741824):a7 C 184 [.z n va] [] (.ret (.o 1 (.k 0) 0 n)) [.sc va]:=by
 refine Sn.c ?_;refine .inl ⟨h0,by omega,by omega,by omega,?_⟩;refine⟨_,rfl,[.d 7 0],?_,⟨_,rfl,rfl⟩,tq⟩;show V.o 1 (.k 0) 0 (0+n)=_;rw[Zl]
def db (key:Bs) (j:Nat):List Nat:=((List.range j).map fun i=>S9 (G8 key (25*i%128)) 8).flatten
theorem qm (key j):db key (j+1)=db key j++S9 (G8 key (25*j%128)) 8:=by simp[db,Zz]
theorem gJ (key):∀j,(db key j).length=8*j
 |0=>rfl
 |j+1=>by rw[qm,Ze,gJ key j,fw];omega
def O1 (key:Bs):List Nat:=(db key 7).take 52
theorem Y8 (key):(O1 key).length=52:=by simp[O1,gJ]
theorem yv {va:List Value} {key:Bs} (ha:va=bv key) (hk:key.length=16):a7 C 130 [.z 16 va] [] (.ret (.t [.o 1 (.k 0) 0 52,i64 0])) [.sc (nv (O1 key))]:=by
 subst ha;refine Po.c ?_;refine B1 (fun i=>⟨[(0,.z 16 (bv key)),(4,.o 1 (.k 0) 0 (8*i)),(5,i64 (25*i:Nat))],[.sc (nv (db key i))]⟩) 7 [(4,1,.sc [])] ⟨[.d 900000 0],⟨rfl,rfl,rfl,tq⟩,⟨_,rfl,rfl⟩,tq⟩ fun i hi=> ?_;refine c9 (fun h=> ?_) (fun h=> ?_)
 ·have a9:i<7:=(by omega);refine⟨[],_,_,_,_,iR (b:=key) (n:=(25*i:Nat)) rfl hk (by decide) (by decide) (by omega),rfl,rfl,?_⟩;refine⟨[],_,_,_,_,ta (b:=G8 key (25*i%128)) (k:=8) ?_ (by rw[B3,hk]) rfl (by decide) (by decide),rfl,rfl,?_⟩
  ·show sub (bv (G8 key _)) 0 16=_;rw[b8 (by rw[B3,hk])];congr 2
  refine⟨by rw[G4,fw];decide,by omega,by rw[G4,gJ];omega,?_⟩;refine⟨i+1,by omega,by omega,[.d 19 0],⟨rfl,rfl,d7 (by simp(disch:=omega)only[Za];omega),tq⟩,⟨_,rfl,d9 ?_⟩,tq⟩;rw[Zm,B8 (gJ key i),B8 (fw _ _),fy,qm]
 ·obtain rfl:i=7:=(by omega);refine⟨by decide,by decide,by decide,by decide,?_⟩;refine⟨[],_,_,_,_,mJ (n:=52) (va:=nv (O1 key)) (by rw[G4,Y8]) (by decide) (by decide),?_,rfl,?_⟩
  ·show[V.z 52 (sub (nv (db key 7)) 0 52)]=_;rw[aG];rfl
  exact⟨_,rfl,[.d 22 0],rfl,⟨_,rfl,rfl⟩,tq⟩
def T8 (k:List Nat) (i:Nat):List Nat:=
 (if 0<i/\i<8 then [F6 (k.getD (6*i) 0),L4 (k.getD (6*i+2) 0),L4 (k.getD (6*i+1) 0),F6 (k.getD (6*i+3) 0)]
  else [F6 (k.getD (6*i) 0),L4 (k.getD (6*i+1) 0),L4 (k.getD (6*i+2) 0),F6 (k.getD (6*i+3) 0)])++
 (if 0<i then [k.getD (6*i-2) 0,k.getD (6*i-1) 0]else [])
def ap (k:List Nat) (j:Nat):List Nat:=((List.range j).map fun r=>T8 k (8-r)).flatten
theorem nZ (k j):ap k (j+1)=ap k j++T8 k (8-j):=by simp[ap,Zz]
theorem wd (k i):(T8 k i).length=if 0<i then 6 else 4:=by
 unfold T8;by_cases h:0<i
 ·rw[if_pos h,if_pos h];split<;>rfl
 ·rw[if_neg h,if_neg h,if_neg (by omega)];rfl
theorem bK (k):∀j,j<=9->(ap k j).length=if j=9 then 52 else 6*j
 |0,_=>rfl
 |j+1,h=>by
  rw[nZ,Ze,bK k j (by omega),wd,if_neg (by omega)];by_cases h8:j=8
  ·subst h8;rfl
  ·rw[if_pos (by omega),if_neg (by omega)];omega
def y7 (k:List Nat):List Nat:=ap k 9
theorem mf (k):(y7 k).length=52:=bK k 9 (by decide)
theorem io {k:List Nat} {a j:Nat} (hj:j<4) (h:a+4<=k.length):(sub (nv k) a 4)[j]? =some (.int .i64 ((k.getD (a+j) 0:Nat):Int)):=by
 rw[aG];have hl:(sub k a 4).length=4:=by rw[j4];omega
 have eg:(sub k a 4).getD j 0=k.getD (a+j) 0:=by
  simp only[sub,Zd,J0,hj,if_true,J1]
 rw[R3 (by omega),eg]
theorem ry {k:List Nat} {a:Nat} (h:a+2<=k.length):sub (nv k) a 2=nv [k.getD a 0,k.getD (a+1) 0]:=by
 rw[aG];congr 1;apply Z3;intro j;rcases j with _|_|j
 ·simp only[sub,Zd];rw[J0,if_pos (by decide),J1];simp[Zf (show a<k.length by omega)]
 ·simp only[sub,Zd];rw[J0,if_pos (by decide),J1];simp[Zf (show a+1<k.length by omega)]
 ·simp[sub];omega
theorem zR {n:Nat} {va:List Value} {k:List Nat} (ha:va=nv k) (hl:k.length=52) (hn:n=52) (hk:∀i,k.getD i 0<65536):a7 C 131 [.z n va] [] (.ret (.o 1 (.k 0) 0 52)) [.sc (nv (y7 k))]:=by
 subst ha;subst hn;refine Pu.c ?_;refine B1 (fun j=>⟨[(0,.z 52 (nv k)),(3,.o 1 (.k 0) 0 (if j=9 then 52 else 6*j)),(4,i64 (8-j))],[.sc (nv (ap k j))]⟩) 9 [(3,1,.sc [])] ⟨[.d 900000 0],⟨rfl,rfl,rfl,tq⟩,⟨_,rfl,rfl⟩,tq⟩ fun j hj=> ?_;refine c9 (fun h=> ?_) (fun h=> ?_)
 ·obtain⟨i,ei,hi8,hj8⟩:∃i:Nat,(8:Int)-j=i/\i<=8/\j=8-i:=⟨8-j,by omega,by omega,by omega⟩;rw[ei,if_neg (show ¬j=9 by omega)];have e1:(I6.wrap (6*(i:Int))).toNat=6*i:=(by simp(disch:=omega)only[Za];omega);have e2:(I6.wrap (I6.wrap (6*(i:Int))+4)).toNat=6*i+4:=(by simp(disch:=omega)only[Za];omega);refine⟨by omega,(by simp(disch:=omega)only[Za];omega),by rw[e1,e2];omega,by rw[e2];omega,by rw[e2];omega,?_⟩;rw[e1,e2,show 6*i+4-6*i=4 by omega];refine⟨by decide,by decide,?_⟩;refine⟨_,io (j:=1) (by decide) (by omega),?_⟩;refine⟨[],_,_,_,_,yw rfl (hk _),rfl,rfl,?_⟩;refine⟨by decide,by decide,?_⟩;refine⟨_,io (j:=2) (by decide) (by omega),?_⟩;refine⟨[],_,_,_,_,yw rfl (hk _),rfl,rfl,?_⟩;by_cases h0:0<i
  ·refine bG (decide_eq_true (by omega)) ?_;by_cases h8:i<8
   ·refine bG (decide_eq_true (by omega)) ?_;refine⟨by decide,by decide,?_⟩;refine⟨_,io (j:=0) (by decide) (by omega),?_⟩;refine⟨[],_,_,_,_,jR rfl (hk _),rfl,rfl,?_⟩;refine⟨by decide,by decide,?_⟩;refine⟨_,io (j:=3) (by decide) (by omega),?_⟩;refine⟨[],_,_,_,_,jR rfl (hk _),rfl,rfl,?_⟩;refine⟨Zp _,by omega,by rw[G4,bK _ _ (by omega),if_neg (by omega)];omega,?_⟩;refine bG (decide_eq_true (by omega)) ?_;have e3:(I6.wrap (I6.wrap (6*(i:Int))-2)).toNat=6*i-2:=(by simp(disch:=omega)only[Za];omega);refine⟨by omega,by omega,by rw[e3,e1];omega,by rw[e1];omega,by rw[e1];omega,?_⟩;rw[e3,e1,show 6*i-(6*i-2)=2 by omega];refine⟨by rw[ry (by omega)];rfl,by omega,?_,?_⟩
    ·simp only[Ze,j4,G4,Zs,Zw,bK _ _ (show j<=9 by omega),if_neg (show ¬j=9 by omega)];omega
    refine⟨j+1,by omega,by omega,[.d 58 0],⟨rfl,?_,d7 (by simp(disch:=omega)only[Za];omega),tq⟩,⟨_,rfl,d9 ?_⟩,tq⟩
    ·show V.o 1 (.k 0) 0 (6*j+4+2)=V.o 1 (.k 0) 0 _;rw[if_neg (by omega)];rfl
    ·rw[ry (by omega),show 6*i-2+1=6*i-1 by omega,nZ,<-show i=8-j by omega];have eL:sub (nv (ap k j)) 0 (6*j*1)=nv (ap k j):=B8 (by rw[bK _ _ (by omega),if_neg (by omega)];omega);rw[eL];have eq:T8 k i=[F6 (k.getD (6*i) 0),L4 (k.getD (6*i+2) 0),L4 (k.getD (6*i+1) 0),F6 (k.getD (6*i+3) 0)]++[k.getD (6*i-2) 0,k.getD (6*i-1) 0]:=by unfold T8;rw[if_pos (show 0<i by omega),if_pos (by omega)]
     rw[eq];show sub (nv (ap k j)++nv [F6 (k.getD (6*i) 0),L4 (k.getD (6*i+2) 0),L4 (k.getD (6*i+1) 0),F6 (k.getD (6*i+3) 0)]) 0 ((6*j+4)*1)++sub (nv [k.getD (6*i-2) 0,k.getD (6*i-1) 0]) 0 2=_;rw[fy,B8 (by rw[Ze,bK _ _ (by omega),if_neg (by omega)];simp),show sub (nv [k.getD (6*i-2) 0,k.getD (6*i-1) 0]) 0 2=nv [k.getD (6*i-2) 0,k.getD (6*i-1) 0] from rfl,fy,Jf]
   ·refine w9 (decide_eq_false (by omega)) ?_;refine⟨by decide,by decide,?_⟩;refine⟨_,io (j:=0) (by decide) (by omega),?_⟩;refine⟨[],_,_,_,_,jR rfl (hk _),rfl,rfl,?_⟩;refine⟨by decide,by decide,?_⟩;refine⟨_,io (j:=3) (by decide) (by omega),?_⟩;refine⟨[],_,_,_,_,jR rfl (hk _),rfl,rfl,?_⟩;refine⟨Zp _,by omega,by rw[G4,bK _ _ (by omega),if_neg (by omega)];omega,?_⟩;refine bG (decide_eq_true (by omega)) ?_;have e3:(I6.wrap (I6.wrap (6*(i:Int))-2)).toNat=6*i-2:=(by simp(disch:=omega)only[Za];omega);refine⟨by omega,by omega,by rw[e3,e1];omega,by rw[e1];omega,by rw[e1];omega,?_⟩;rw[e3,e1,show 6*i-(6*i-2)=2 by omega];refine⟨by rw[ry (by omega)];rfl,by omega,?_,?_⟩
    ·simp only[Ze,j4,G4,Zs,Zw,bK _ _ (show j<=9 by omega),if_neg (show ¬j=9 by omega)];omega
    refine⟨j+1,by omega,by omega,[.d 58 0],⟨rfl,?_,d7 (by simp(disch:=omega)only[Za];omega),tq⟩,⟨_,rfl,d9 ?_⟩,tq⟩
    ·show V.o 1 (.k 0) 0 (6*j+4+2)=V.o 1 (.k 0) 0 _;rw[if_neg (by omega)];rfl
    ·rw[ry (by omega),show 6*i-2+1=6*i-1 by omega,nZ,<-show i=8-j by omega];have eL:sub (nv (ap k j)) 0 (6*j*1)=nv (ap k j):=B8 (by rw[bK _ _ (by omega),if_neg (by omega)];omega);rw[eL];have eq:T8 k i=[F6 (k.getD (6*i) 0),L4 (k.getD (6*i+1) 0),L4 (k.getD (6*i+2) 0),F6 (k.getD (6*i+3) 0)]++[k.getD (6*i-2) 0,k.getD (6*i-1) 0]:=by unfold T8;rw[if_pos (show 0<i by omega),if_neg (by omega)]
     rw[eq];show sub (nv (ap k j)++nv [F6 (k.getD (6*i) 0),L4 (k.getD (6*i+1) 0),L4 (k.getD (6*i+2) 0),F6 (k.getD (6*i+3) 0)]) 0 ((6*j+4)*1)++sub (nv [k.getD (6*i-2) 0,k.getD (6*i-1) 0]) 0 2=_;rw[fy,B8 (by rw[Ze,bK _ _ (by omega),if_neg (by omega)];simp),show sub (nv [k.getD (6*i-2) 0,k.getD (6*i-1) 0]) 0 2=nv [k.getD (6*i-2) 0,k.getD (6*i-1) 0] from rfl,fy,Jf]
  ·refine w9 (decide_eq_false (by omega)) ?_;refine⟨by decide,by decide,?_⟩;refine⟨_,io (j:=0) (by decide) (by omega),?_⟩;refine⟨[],_,_,_,_,jR rfl (hk _),rfl,rfl,?_⟩;refine⟨by decide,by decide,?_⟩;refine⟨_,io (j:=3) (by decide) (by omega),?_⟩;refine⟨[],_,_,_,_,jR rfl (hk _),rfl,rfl,?_⟩;refine⟨Zp _,by omega,by rw[G4,bK _ _ (by omega),if_neg (by omega)];omega,?_⟩;refine w9 (decide_eq_false (by omega)) ?_;refine⟨j+1,by omega,by omega,[.d 47 0],⟨rfl,?_,d7 (by simp(disch:=omega)only[Za];omega),tq⟩,⟨_,rfl,d9 ?_⟩,tq⟩
   ·show V.o 1 (.k 0) 0 (6*j+4)=V.o 1 (.k 0) 0 _;rw[if_pos (by omega)];congr 1;omega
   ·rw[nZ,<-show i=8-j by omega];have eq:T8 k i=[F6 (k.getD (6*i) 0),L4 (k.getD (6*i+1) 0),L4 (k.getD (6*i+2) 0),F6 (k.getD (6*i+3) 0)]:=by unfold T8;rw[if_neg (show ¬0<i by omega),if_neg (by omega),Z8]
    rw[eq];show sub (nv (ap k j)) 0 (6*j*1)++nv [F6 (k.getD (6*i) 0),L4 (k.getD (6*i+1) 0),L4 (k.getD (6*i+2) 0),F6 (k.getD (6*i+3) 0)]=_;rw[B8 (by rw[bK _ _ (by omega),if_neg (by omega)];omega),fy]
 ·obtain rfl:j=9:=(by omega);exact⟨_,rfl,[.k 0],rfl,⟨_,rfl,rfl⟩,tq⟩
abbrev Q4:=Nat×Nat×Nat×Nat
def H8 (x:Q4):Prop:=x.1<65536/\x.2.1<65536/\x.2.2.1<65536/\x.2.2.2<65536
def dW (k:List Nat) (o:Nat) (a c d e:Nat):Nat:=H6 (a^^^d) (k.getD (o+4) 0)
def W7 (k:List Nat) (o:Nat) (a c d e:Nat):Nat:=H6 (X8 (c^^^e) (dW k o a c d e)) (k.getD (o+5) 0)
def Y9 (k:List Nat) (o:Nat) (a c d e:Nat):Nat:=X8 (dW k o a c d e) (W7 k o a c d e)
def t9 (k:List Nat) (o:Nat) (x:Q4):Q4:=(H6 x.1 (k.getD o 0),X8 x.2.1 (k.getD (o+1) 0),X8 x.2.2.1 (k.getD (o+2) 0),H6 x.2.2.2 (k.getD (o+3) 0))
def aF (k:List Nat) (o:Nat) (x:Q4):Q4:=
 (x.1^^^W7 k o x.1 x.2.1 x.2.2.1 x.2.2.2,x.2.2.1^^^W7 k o x.1 x.2.1 x.2.2.1 x.2.2.2,x.2.1^^^Y9 k o x.1 x.2.1 x.2.2.1 x.2.2.2,x.2.2.2^^^Y9 k o x.1 x.2.1 x.2.2.1 x.2.2.2)
def lg (k:List Nat) (x:Q4) (r:Nat):Q4:=aF k (6*r) (t9 k (6*r) x)
def I4 (k:List Nat) (x:Q4) (n:Nat):Q4:=(List.range n).foldl (lg k) x
theorem cd (k x n):I4 k x (n+1)=lg k (I4 k x n) n:=by simp[I4,Zz]
def G6 (x:Q4):Q4:=(x.1,x.2.2.1,x.2.1,x.2.2.2)
def I1 (k:List Nat) (x:Q4):Q4:=t9 k 48 (G6 (I4 k x 8))
theorem X4 {a b:Nat} (ha:a<65536) (hb:b<65536):a^^^b<65536:=Jj (n:=16) ha hb
theorem fv (k o x):H8 (t9 k o x):=⟨H7 _ _,cH _ _,cH _ _,H7 _ _⟩
theorem Cq (k o) {x:Q4} (h:H8 x):H8 (aF k o x):=⟨X4 h.1 (H7 _ _),X4 h.2.2.1 (H7 _ _),X4 h.2.1 (cH _ _),X4 h.2.2.2 (cH _ _)⟩
theorem re (k) {x:Q4} (h:H8 x):∀n,H8 (I4 k x n)
 |0=>h
 |n+1=>by rw[cd];exact Cq _ _ (fv _ _ _)
theorem L1 {k:List Nat} {a j:Nat} (h:a+j<k.length):(nv (k.drop a))[j]? =some (.int .i64 ((k.getD (a+j) 0:Nat):Int)):=by
 simp[nv,Zd,h]
theorem yy {n:Nat} {va vb:List Value} {k:List Nat} {x:Q4} (ha:va=nv [x.1,x.2.1,x.2.2.1,x.2.2.2]) (hb:vb=nv k) (hl:k.length=52) (hn:n=52) (hk:∀i,k.getD i 0<65536) (hx:H8 x):
  a7 C 132 [.z 4 va,.z n vb] [] (.ret (.o 1 (.k 0) 0 4)) [.sc (nv [(I1 k x).1,(I1 k x).2.1,(I1 k x).2.2.1,(I1 k x).2.2.2])]:=by
 subst ha;subst hb;subst hn;refine Pt.c ?_;refine U9 0 rfl 9 (fun r=>⟨[(1,.z (52-6*r) (nv (k.drop (6*r)))),(5,i64 ((if r=8 then G6 (I4 k x r)else I4 k x r)).1),(6,i64 ((if r=8 then G6 (I4 k x r)else I4 k x r)).2.1),(7,i64 ((if r=8 then G6 (I4 k x r)else I4 k x r)).2.2.1),(8,i64 ((if r=8 then G6 (I4 k x r)else I4 k x r)).2.2.2)],[]⟩) ?_ fun r hr=> ?_
 ·refine⟨by decide,by decide,_,rfl,by decide,by decide,_,rfl,by decide,by decide,_,rfl,by decide,by decide,_,rfl,?_⟩;exact⟨[],0,by decide,[],⟨rfl,rfl,rfl,rfl,rfl,tq⟩,tq⟩
 ·generalize hs:(if r=8 then G6 (I4 k x r)else I4 k x r)=s;have hso:H8 s:=by
   rw[<-hs];split
   ·obtain⟨a,b,c,d⟩:=re k hx r;exact⟨a,c,b,d⟩
   ·exact re k hx r
  obtain⟨o1,o2,o3,o4⟩:=hso;refine⟨by decide,by omega,?_⟩;refine⟨_,L1 (j:=0) (by omega),?_⟩;refine⟨[],_,_,_,_,iN rfl rfl o1 (hk _),rfl,rfl,?_⟩;refine⟨by decide,by omega,?_⟩;refine⟨_,L1 (j:=1) (by omega),?_⟩;refine⟨[],_,_,_,_,oQ rfl rfl o2 (hk _),rfl,rfl,?_⟩;refine⟨by decide,by omega,?_⟩;refine⟨_,L1 (j:=2) (by omega),?_⟩;refine⟨[],_,_,_,_,oQ rfl rfl o3 (hk _),rfl,rfl,?_⟩;refine⟨by decide,by omega,?_⟩;refine⟨_,L1 (j:=3) (by omega),?_⟩;refine⟨[],_,_,_,_,iN rfl rfl o4 (hk _),rfl,rfl,?_⟩;obtain⟨p1,p2,p3,p4⟩:=fv k (6*r) s;have hF:=H7 ((t9 k (6*r) s).1^^^(t9 k (6*r) s).2.2.1) (k.getD (6*r+4) 0);refine c9 (fun h=> ?_) (fun h=> ?_)
  ·have hr8:r<8:=(by omega);refine⟨by decide,by omega,?_⟩;refine⟨_,L1 (j:=4) (by omega),?_⟩;refine⟨[],_,_,_,_,iN (a:=(t9 k (6*r) s).1^^^(t9 k (6*r) s).2.2.1) (M6 16 (by decide) p1 p3) rfl (X4 p1 p3) (hk _),rfl,rfl,?_⟩;refine⟨[],_,_,_,_,oQ (a:=(t9 k (6*r) s).2.1^^^(t9 k (6*r) s).2.2.2) (M6 16 (by decide) p2 p4) rfl (X4 p2 p4) hF,rfl,rfl,?_⟩;refine⟨by decide,by omega,?_⟩;refine⟨_,L1 (j:=5) (by omega),?_⟩;refine⟨[],_,_,_,_,iN rfl rfl (cH _ _) (hk _),rfl,rfl,?_⟩;refine⟨[],_,_,_,_,oQ rfl rfl hF (H7 _ _),rfl,rfl,?_⟩;refine⟨by decide,?_⟩;have hg:=H7 (X8 ((t9 k (6*r) s).2.1^^^(t9 k (6*r) s).2.2.2) (H6 ((t9 k (6*r) s).1^^^(t9 k (6*r) s).2.2.1) (k.getD (6*r+4) 0))) (k.getD (6*r+5) 0);have hh:=cH (H6 ((t9 k (6*r) s).1^^^(t9 k (6*r) s).2.2.1) (k.getD (6*r+4) 0)) (H6 (X8 ((t9 k (6*r) s).2.1^^^(t9 k (6*r) s).2.2.2) (H6 ((t9 k (6*r) s).1^^^(t9 k (6*r) s).2.2.1) (k.getD (6*r+4) 0))) (k.getD (6*r+5) 0));have hst:s=I4 k x r:=by rw[<-hs,if_neg (by omega)]
   have x1:=M6 16 (by decide) p1 hg;have x2:=M6 16 (by decide) p3 hg;have x3:=M6 16 (by decide) p2 hh;have x4:=M6 16 (by decide) p4 hh;have e6:(6:Int).toNat=6:=rfl;refine⟨by show 6<=52-6*r;omega,Zp _,Zp _,?_⟩;refine j7 (fun h4=> ?_) (fun h4=> ?_)
   ·have h4':52-6*r-6=4:=Int.ofNat.inj h4;refine⟨rfl,r+1,by omega,by omega,[],⟨?_,d7 ?_,d7 ?_,d7 ?_,d7 ?_,tq⟩,tq⟩
    ·show V.z (52-6*r-6) (sub _ 6 (52-6*r-6))=_;rw[aG,R5,G5 _ _ _ (by omega),show 52-6*r-6=52-6*(r+1) by omega,show 6*r+6=6*(r+1) by omega]
    ·rw[if_pos (by omega),cd,<-hst];exact x1
    ·rw[if_pos (by omega),cd,<-hst];exact x3
    ·rw[if_pos (by omega),cd,<-hst];exact x2
    ·rw[if_pos (by omega),cd,<-hst];exact x4
   ·have h4':52-6*r-6≠4:=fun e=>h4 (congrArg Int.ofNat e);refine⟨rfl,r+1,by omega,by omega,[],⟨?_,d7 ?_,d7 ?_,d7 ?_,d7 ?_,tq⟩,tq⟩
    ·show V.z (52-6*r-6) (sub _ 6 (52-6*r-6))=_;rw[aG,R5,G5 _ _ _ (by omega),show 52-6*r-6=52-6*(r+1) by omega,show 6*r+6=6*(r+1) by omega]
    ·rw[if_neg (by omega),cd,<-hst];exact x1
    ·rw[if_neg (by omega),cd,<-hst];exact x2
    ·rw[if_neg (by omega),cd,<-hst];exact x3
    ·rw[if_neg (by omega),cd,<-hst];exact x4
  ·obtain rfl:r=8:=(by omega);have hst:s=G6 (I4 k x 8):=by rw[<-hs,if_pos rfl]
   refine⟨_,rfl,[.d 88 0],rfl,⟨_,rfl,d9 ?_⟩,tq⟩;show nv [(t9 k 48 s).1,(t9 k 48 s).2.1,(t9 k 48 s).2.2.1,(t9 k 48 s).2.2.2]=_;rw[hst];rfl
abbrev qd (k:List Nat):V:= .q [nz k,nz (y7 k)] 0
def T4 (k:List Nat):Prop:=∀i,k.getD i 0<65536
theorem Vm (b k):T4 (S9 b k):=by
 intro i;rw[Zd];unfold S9;rw[Je];cases h:(List.range k)[i]? with
 |none=>simp
 |some j=>exact bL b j
theorem uY (l:List Nat):T4 l↔∀x∈l,x<65536:=by
 constructor
 ·intro h x hx;obtain⟨i,hi,rfl⟩:=List.getElem_of_mem hx;have:=h i
  rwa [Zd,Zf hi]at this
 ·intro h i;rw[Zd];rcases Jg i l.length with hi|hi
  ·rw[Zf hi];exact h _ (Kn hi)
  ·rw[Zg hi];decide
theorem gI (key):T4 (O1 key):=by
 rw[uY];intro x hx;have h1:=List.mem_of_mem_take hx;unfold db at h1;obtain⟨l,hl,hxl⟩:=List.mem_flatten.1 h1;obtain⟨j,_,rfl⟩:=List.mem_map.1 hl;exact(uY _).1 (Vm _ _) x hxl
theorem a1G {k} (h:T4 k):T4 (y7 k):=by
 rw[uY];intro x hx;obtain⟨l,hl,hxl⟩:=List.mem_flatten.1 hx;obtain⟨j,_,rfl⟩:=List.mem_map.1 hl;unfold T8 at hxl;have hi:=fun i=>qg (h i);rcases Kv.1 hxl with h1|h1
 ·split at h1<;>(simp only[List.mem_cons,List.not_mem_nil,or_false]at h1;rcases h1 with rfl|rfl|rfl|rfl)<;>first|exact hi _|exact VE _
 ·split at h1
  ·simp only[List.mem_cons,List.not_mem_nil,or_false]at h1;rcases h1 with rfl|rfl
   ·exact h _
   ·exact h _
  ·cases h1
theorem oR {va:List Value} {key:Bs} (ha:va=bv key) (hk:key.length=16):a7 C 80 [.z 16 va] [] (.ret (.t [qd (O1 key),i64 0])) []:=by
 refine AP.c ?_;refine⟨[],_,_,_,_,yv ha hk,rfl,rfl,?_⟩;refine⟨[],_,_,_,_,zR (k:=O1 key) (n:=52) (B8 (Y8 key)) (Y8 key) rfl (gI key),rfl,rfl,?_⟩;refine⟨_,rfl,[],?_,tq⟩;show V.t [.q [.z 52 (sub _ 0 52),.z 52 (sub _ 0 52)] 0,i64 0]=V.t [.q [.z _ _,.z _ _] 0,i64 0];rw[B8 (Y8 key),B8 (mf _),Y8,mf]
def L3 (b:Bs):Q4:=(aR b 0,aR b 1,aR b 2,aR b 3)
def bD (x:Nat):Bs:=[Zt (x/256),Zt x]
def W9 (x:Q4):Bs:=bD x.1++bD x.2.1++bD x.2.2.1++bD x.2.2.2
theorem qW {x:Nat} (hx:x<65536):[Value.int .u8 (U8.wrap ((x:Int).fdiv (2^(min (8:Int).toNat I6.bits)))),Value.int .u8 (U8.wrap (x:Int))]=bv (bD x):=by
 have e:(x:Int).fdiv (2^(min (8:Int).toNat I6.bits))=((x/256:Nat):Int):=by
  rw[Z1 _ (by decide)];rfl
 rw[e,bA,bA];rfl
theorem Ds (x):(W9 x).length=8:=rfl
def ag (y:Q4) (i:Nat):Bs:=(([y.1,y.2.1,y.2.2.1,y.2.2.2]).take i).flatMap bD
theorem ib (y:Q4):∀i,i<=4->(ag y i).length=2*i:=by
 intro i hi;rcases i with _|_|_|_|_|i;all_goals first|rfl|omega
theorem qV (y:Q4):∀i,i<4->ag y (i+1)=ag y i++bD (([y.1,y.2.1,y.2.2.1,y.2.2.2]).getD i 0):=by
 intro i hi;rcases i with _|_|_|_|i;all_goals first|rfl|omega
theorem yu {va:List Value} {b:Bs} {k:List Nat} {back:Bool} (ha:va=bv b) (hb:b.length=8) (hl:k.length=52) (hk:T4 k):a7 C 81 [qd k,.z 8 va,bool back] [] (A8 8) [.sc (bv (W9 (I1 (if back then y7 k else k) (L3 b))))]:=by
 refine AO.c ?_;refine⟨_,rfl,?_⟩;have hq:H8 (L3 b):=⟨bL _ _,bL _ _,bL _ _,bL _ _⟩;have hz0:nz k= .z 52 (nv k):=by rw[<-hl]
 have hz1:nz (y7 k)= .z 52 (nv (y7 k)):=by rw[<-mf k]
 cases back
 ·refine⟨by decide,by decide,by decide,?_⟩;refine⟨[],_,_,_,_,ta (k:=4) ha hb rfl (by decide) (by decide),rfl,rfl,?_⟩;refine⟨[],_,_,_,_,yy (k:=k) (x:=L3 b) (n:=52) (va:=sub (nv (S9 b 4)) 0 4) (vb:=nv k) (B8 (fw _ _)) rfl hl rfl hk hq,?_,rfl,?_⟩
  ·show[V.z 4 (sub (nv (S9 b 4)) 0 4),nz k]=_;rw[hz0]
  generalize hy:I1 k (L3 b)=y;have yo:H8 y:=by rw[<-hy];exact fv _ _ _
  refine j9 (fun i=>⟨[(9,.o 1 (.k 0) 0 (2*i)),(28,.z 4 (nv [y.1,y.2.1,y.2.2.1,y.2.2.2])),(29,i64 4),(30,i64 i)],[.sc (bv (ag y i))]⟩) 4 ⟨[.d 24 0],⟨rfl,rfl,rfl,rfl,tq⟩,⟨_,rfl,rfl⟩,tq⟩ fun i hi=> ?_;refine c9 (fun h=> ?_) (fun h=> ?_)
  ·have a9:i<4:=(by omega);have hv:([y.1,y.2.1,y.2.2.1,y.2.2.2]).getD i 0<65536:=by
    obtain⟨a,b',c,d⟩:=yo;rcases i with _|_|_|_|i;all_goals first|assumption|omega
   refine⟨by omega,by omega,?_⟩;refine⟨_,by rw[Zb];exact R3 (k:=[y.1,y.2.1,y.2.2.1,y.2.2.2]) a9,?_⟩;refine⟨by decide,Zp _,by omega,by rw[f9,ib y i (by omega)];omega,?_⟩;refine⟨i+1,by omega,by omega,[.d 41 0],⟨rfl,rfl,rfl,d7 (by simp(disch:=omega)only[Za];omega),tq⟩,⟨_,rfl,d9 ?_⟩,tq⟩;rw[Zm,b8 (ib y i (by omega)),qV y i a9,<-x5];show bv (ag y i)++[Value.int .u8 _,Value.int .u8 _]=_;rw[qW hv]
  ·obtain rfl:i=4:=(by omega);refine⟨_,rfl,[.k 0],rfl,⟨_,rfl,d9 ?_⟩,tq⟩;show bv (ag y 4)=bv (W9 (I1 k (L3 b)));rw[hy];rfl
 ·refine⟨_,rfl,?_⟩;refine⟨by decide,by decide,by decide,?_⟩;refine⟨[],_,_,_,_,ta (k:=4) ha hb rfl (by decide) (by decide),rfl,rfl,?_⟩;refine⟨[],_,_,_,_,yy (k:=y7 k) (x:=L3 b) (n:=52) (va:=sub (nv (S9 b 4)) 0 4) (vb:=nv (y7 k)) (B8 (fw _ _)) rfl (mf k) rfl (a1G hk) hq,?_,rfl,?_⟩
  ·show[V.z 4 (sub (nv (S9 b 4)) 0 4),nz (y7 k)]=_;rw[hz1]
  generalize hy:I1 (y7 k) (L3 b)=y;have yo:H8 y:=by rw[<-hy];exact fv _ _ _
  refine j9 (fun i=>⟨[(9,.o 1 (.k 0) 0 (2*i)),(28,.z 4 (nv [y.1,y.2.1,y.2.2.1,y.2.2.2])),(29,i64 4),(30,i64 i)],[.sc (bv (ag y i))]⟩) 4 ⟨[.d 24 0],⟨rfl,rfl,rfl,rfl,tq⟩,⟨_,rfl,rfl⟩,tq⟩ fun i hi=> ?_;refine c9 (fun h=> ?_) (fun h=> ?_)
  ·have a9:i<4:=(by omega);have hv:([y.1,y.2.1,y.2.2.1,y.2.2.2]).getD i 0<65536:=by
    obtain⟨a,b',c,d⟩:=yo;rcases i with _|_|_|_|i;all_goals first|assumption|omega
   refine⟨by omega,by omega,?_⟩;refine⟨_,by rw[Zb];exact R3 (k:=[y.1,y.2.1,y.2.2.1,y.2.2.2]) a9,?_⟩;refine⟨by decide,Zp _,by omega,by rw[f9,ib y i (by omega)];omega,?_⟩;refine⟨i+1,by omega,by omega,[.d 41 0],⟨rfl,rfl,rfl,d7 (by simp(disch:=omega)only[Za];omega),tq⟩,⟨_,rfl,d9 ?_⟩,tq⟩;rw[Zm,b8 (ib y i (by omega)),qV y i a9,<-x5];show bv (ag y i)++[Value.int .u8 _,Value.int .u8 _]=_;rw[qW hv]
  ·obtain rfl:i=4:=(by omega);refine⟨_,rfl,[.k 0],rfl,⟨_,rfl,d9 ?_⟩,tq⟩;show bv (ag y 4)=bv (W9 (I1 (y7 k) (L3 b)));rw[hy];rfl
theorem yt {va:List Value} {k:List Nat} {n:Nat} {back:Bool} (hn:n≠8):a7 C 81 [qd k,.z n va,bool back] [] R9 []:=by
 refine AO.c ?_;refine o9 (fun h=> ?_) (fun h=>absurd (by omega) hn);exact⟨_,rfl,[],rfl,tq⟩
theorem zy {a:Nat} {x:Int} (hx:x=a):a7 C 272 [i64 x] [] (.ret (i64 (A9 a))) []:=by
 subst hx;refine Rv.c ?_;refine j7 (fun h=> ?_) (fun h=> ?_)
 ·refine⟨_,rfl,[],d7 ?_,tq⟩;unfold A9;rw[if_pos (by omega)];rfl
 ·refine⟨_,rfl,[],d7 ?_,tq⟩;unfold A9;rw[if_neg (by omega)]
theorem bc {a b:Nat} {x y:Int} (hx:x=a) (hy:y=b) (ha:a<65536) (hb:b<65536):a7 C 254 [i64 x,i64 y] [] (.ret (i64 (H6 a b))) []:=by
 refine Ro.c ?_;refine⟨[],_,_,_,_,zy hx,rfl,rfl,?_⟩;refine⟨[],_,_,_,_,zy hy,rfl,rfl,?_⟩;refine⟨by decide,by decide,_,rfl,[],d7 ?_,tq⟩;exact qD (DZ ha) (DZ hb)
theorem jZ {a b:Nat} {x y:Int} (hx:x=a) (hy:y=b) (ha:a<65536) (hb:b<65536):a7 C 258 [i64 x,i64 y] [] (.ret (i64 (X8 a b))) []:=by
 subst hx;subst hy;refine Rq.c ?_;refine⟨by decide,_,rfl,[],d7 ?_,tq⟩;rw[show (a:Int)+(b:Int)=((a+b:Nat):Int) from rfl,dk _ (by omega)];rfl
def bY (a b:Nat):Nat:=(a+65536-b)%65536
theorem uK {a b:Nat} (hb:b<65536):bY a b=X8 a (L4 b):=by unfold bY X8 L4;omega
theorem oY {a b:Nat} {x y:Int} (hx:x=a) (hy:y=b) (ha:a<65536) (hb:b<65536):a7 C 256 [i64 x,i64 y] [] (.ret (i64 (bY a b))) []:=by
 subst hx;subst hy;refine Ru.c ?_;refine⟨by decide,_,rfl,[],d7 ?_,tq⟩;have e:I6.wrap (I6.wrap ((a:Int)-b)+65536)=((a+65536-b:Nat):Int):=by simp(disch:=omega)only[Za];omega
 rw[e];rfl
theorem oX {a:Nat} {x:Int} (hx:x=a) (ha:a<65536):a7 C 255 [i64 x] [] (.ret (i64 (F6 a))) []:=by
 subst hx;refine Rm.c ?_;refine ny P5 (1,a,65535) 16 (fun i z=>⟨[(0,i64 z.2.1),(3,i64 z.1),(4,i64 z.2.2)],[]⟩) ⟨[],⟨rfl,rfl,rfl,tq⟩,tq⟩ fun i z hi hz=> ?_;obtain⟨b1,b2,b3⟩:=qc ha i;rw[<-hz]at b1 b2 b3;refine c9 (fun h=> ?_) (fun h=> ?_)
 ·have hi16:i<16:=by
   rcases Jg i 16 with h8|h8
   ·exact h8
   ·obtain rfl:i=16:=(by omega);rw[b3]at h;exact absurd h (by decide)
  have hle:z.2.2<=65535:=by rw[b3];exact Jo _ _
  have e1:((z.2.2:Nat):Int).tmod 2=((z.2.2%2:Nat):Int):=W8 _ 2;have e2:I6.wrap (((z.2.2:Nat):Int).tdiv 2)=((z.2.2/2:Nat):Int):=by
   rw[show ((z.2.2:Nat):Int).tdiv 2=((z.2.2/2:Nat):Int) from rfl,dk _ (by omega)]
  refine⟨by decide,?_⟩;refine j7 (fun hb=> ?_) (fun hb=> ?_)
  ·rw[e1]at hb;refine⟨[],_,_,_,_,bc rfl rfl b1 b2,rfl,rfl,?_⟩;refine⟨[],_,_,_,_,bc rfl rfl b2 b2,rfl,rfl,?_⟩;refine⟨by decide,?_⟩;refine⟨(i+1,P5 z),⟨hi16,bt hz⟩,by omega,[],⟨rfl,?_,d7 e2,tq⟩,tq⟩;show i64 _=i64 ((if _ then _ else _:Nat):Int);rw[if_pos (by omega)]
  ·rw[e1]at hb;refine⟨[],_,_,_,_,bc rfl rfl b2 b2,rfl,rfl,?_⟩;refine⟨by decide,?_⟩;refine⟨(i+1,P5 z),⟨hi16,bt hz⟩,by omega,[],⟨rfl,?_,d7 e2,tq⟩,tq⟩;show i64 _=i64 ((if _ then _ else _:Nat):Int);rw[if_neg (by omega)]
 ·have hi16:i=16:=by
   rcases Jg i 16 with h8|h8
   ·have:2^i<=2^15:=Z5 (by decide) (by omega);have hp:0<2^i:=K1 (by decide);have:1<=65535/2^i:=(Jq hp).2 (by omega);omega
   ·omega
  subst hi16;refine⟨_,rfl,[],?_,tq⟩;show i64 z.1=i64 _;rw[hz];rfl
theorem yx {n o:Nat} {k:List Nat} {x0 x1 x2 x3:Int} {a c d e:Nat} (h0:x0=a) (h1:x1=c) (h2:x2=d) (h3:x3=e) (ha:a<65536) (hc:c<65536) (hd:d<65536) (he:e<65536) (ho:o+6<=k.length) (hn:n=k.length-o) (hk:T4 k):
  a7 C 257 [i64 x0,i64 x1,i64 x2,i64 x3,.z n (nv (k.drop o))] [] (.ret (.t [i64 (Y9 k o a c d e),i64 (W7 k o a c d e)])) []:=by
 subst h0;subst h1;subst h2;subst h3;refine Rs.c ?_;refine⟨by decide,by omega,?_⟩;refine⟨_,L1 (j:=4) (by omega),?_⟩;refine⟨[],_,_,_,_,bc (a:=a^^^d) (M6 16 (by decide) ha hd) rfl (X4 ha hd) (hk _),rfl,rfl,?_⟩;refine⟨[],_,_,_,_,jZ (a:=c^^^e) (M6 16 (by decide) hc he) rfl (X4 hc he) (H7 _ _),rfl,rfl,?_⟩;refine⟨by decide,by omega,?_⟩;refine⟨_,L1 (j:=5) (by omega),?_⟩;refine⟨[],_,_,_,_,bc rfl rfl (cH _ _) (hk _),rfl,rfl,?_⟩;refine⟨[],_,_,_,_,jZ rfl rfl (H7 _ _) (H7 _ _),rfl,rfl,?_⟩;exact⟨_,rfl,[],rfl,tq⟩
abbrev qA (x:Q4):V:= .a [i64 x.1,i64 x.2.1,i64 x.2.2.1,i64 x.2.2.2]
theorem MG {k:List Nat} {x:Q4} (hl:k.length=52) (hk:T4 k) (hx:H8 x):a7 C 211 [qA x,.z 52 (nv k)] [] (.ret (qA (I1 k x))) []:=by
 refine Rw.c ?_;refine j9 (fun r=>⟨[(1,.z (52-6*r) (nv (k.drop (6*r)))),(2,.p (.k 0) 0),(4,.p (.k 1) 0),(5,i64 r)],[.mx [i64 (I4 k x r).1,i64 (I4 k x r).2.1,i64 (I4 k x r).2.2.1,i64 (I4 k x r).2.2.2],.sc [.int .i64 0,.int .i64 0,.int .i64 0,.int .i64 0]]⟩) 8 ⟨[.d 2 0,.d 4 0],⟨rfl,rfl,rfl,rfl,tq⟩,⟨_,rfl,rfl⟩,⟨_,rfl,rfl⟩,tq⟩ fun r hr=> ?_;obtain⟨o1,o2,o3,o4⟩:=re k hx r;generalize hs:I4 k x r=s at o1 o2 o3 o4 ⊢;refine c9 (fun h=> ?_) (fun h=> ?_)
 ·have a9:r<8:=(by omega);refine⟨by decide,by decide,_,rfl,by decide,by omega,?_⟩;refine⟨_,L1 (j:=0) (by omega),?_⟩;refine⟨[],_,_,_,_,bc rfl rfl o1 (hk _),rfl,rfl,?_⟩;refine⟨by decide,by decide,_,rfl,by decide,by omega,?_⟩;refine⟨_,L1 (j:=1) (by omega),?_⟩;refine⟨[],_,_,_,_,jZ rfl rfl o2 (hk _),rfl,rfl,?_⟩;refine⟨by decide,by decide,_,rfl,by decide,by omega,?_⟩;refine⟨_,L1 (j:=2) (by omega),?_⟩;refine⟨[],_,_,_,_,jZ rfl rfl o3 (hk _),rfl,rfl,?_⟩;refine⟨by decide,by decide,_,rfl,by decide,by omega,?_⟩;refine⟨_,L1 (j:=3) (by omega),?_⟩;refine⟨[],_,_,_,_,bc rfl rfl o4 (hk _),rfl,rfl,?_⟩;obtain⟨p1,p2,p3,p4⟩:=fv k (6*r) s;refine⟨[],_,_,_,_,yx (k:=k) (o:=6*r) rfl rfl rfl rfl p1 p2 p3 p4 (by omega) (by omega) hk,rfl,rfl,?_⟩;have hg:W7 k (6*r) (t9 k (6*r) s).1 (t9 k (6*r) s).2.1 (t9 k (6*r) s).2.2.1 (t9 k (6*r) s).2.2.2<65536:=H7 _ _;have hh:Y9 k (6*r) (t9 k (6*r) s).1 (t9 k (6*r) s).2.1 (t9 k (6*r) s).2.2.1 (t9 k (6*r) s).2.2.2<65536:=cH _ _;have x1:=M6 16 (by decide) p1 hg;have x2:=M6 16 (by decide) p3 hg;have x3:=M6 16 (by decide) p2 hh;have x4:=M6 16 (by decide) p4 hh;refine⟨Zp _,by decide,by show 6<=52-6*r;omega,Zp _,Zp _,?_⟩;refine⟨r+1,by omega,by omega,[.k 0,.k 1],⟨?_,rfl,rfl,d7 (by simp(disch:=omega)only[Za];omega),tq⟩,⟨_,rfl,?_⟩,⟨_,rfl,rfl⟩,tq⟩
  ·show V.z (52-6*r-6) (sub _ 6 (52-6*r-6))=_;rw[aG,R5,G5 _ _ _ (by omega),show 52-6*r-6=52-6*(r+1) by omega,show 6*r+6=6*(r+1) by omega]
  ·show B.mx [vi .i64 _,vi .i64 _,vi .i64 _,vi .i64 _]=B.mx [vi .i64 _,vi .i64 _,vi .i64 _,vi .i64 _];rw[cd,hs];congr 2
   ·exact d7 x1
   congr 1
   ·exact d7 x2
   congr 1
   ·exact d7 x3
   congr 1;exact d7 x4
 ·obtain rfl:r=8:=(by omega);refine⟨by decide,by decide,_,rfl,by decide,by omega,?_⟩;refine⟨_,L1 (j:=0) (by omega),?_⟩;refine⟨[],_,_,_,_,bc rfl rfl o1 (hk _),rfl,rfl,?_⟩;refine⟨by decide,by decide,_,rfl,by decide,by omega,?_⟩;refine⟨_,L1 (j:=1) (by omega),?_⟩;refine⟨[],_,_,_,_,jZ rfl rfl o3 (hk _),rfl,rfl,?_⟩;refine⟨by decide,by decide,_,rfl,by decide,by omega,?_⟩;refine⟨_,L1 (j:=2) (by omega),?_⟩;refine⟨[],_,_,_,_,jZ rfl rfl o2 (hk _),rfl,rfl,?_⟩;refine⟨by decide,by decide,_,rfl,by decide,by omega,?_⟩;refine⟨_,L1 (j:=3) (by omega),?_⟩;refine⟨[],_,_,_,_,bc rfl rfl o4 (hk _),rfl,rfl,?_⟩;refine⟨Zp _,?_⟩;refine⟨_,rfl,rfl,?_⟩;refine⟨_,rfl,[],?_,tq⟩;show qA (t9 k 48 (G6 s))=qA (I1 k x);rw[<-hs];rfl
def dA (k:List Nat) (o:Nat) (x:Q4):Q4:=(H6 x.1 (F6 (k.getD o 0)),bY x.2.2.1 (k.getD (o+2) 0),bY x.2.1 (k.getD (o+1) 0),H6 x.2.2.2 (F6 (k.getD (o+3) 0)))
def au (k:List Nat) (o:Nat) (x:Q4):Q4:=(x.1^^^W7 k o x.1 x.2.2.1 x.2.1 x.2.2.2,x.2.1^^^W7 k o x.1 x.2.2.1 x.2.1 x.2.2.2,x.2.2.1^^^Y9 k o x.1 x.2.2.1 x.2.1 x.2.2.2,x.2.2.2^^^Y9 k o x.1 x.2.2.1 x.2.1 x.2.2.2)
def bQ (k:List Nat) (o:Nat) (x:Q4):Q4:=(H6 x.1 (F6 (k.getD o 0)),bY x.2.2.1 (k.getD (o+1) 0),bY x.2.1 (k.getD (o+2) 0),H6 x.2.2.2 (F6 (k.getD (o+3) 0)))
def jJ (k:List Nat) (x:Q4) (r:Nat):Q4:=bQ k (6*(7-r)) (au k (6*(7-r)) x)
def V6 (k:List Nat) (x:Q4) (n:Nat):Q4:=(List.range n).foldl (jJ k) (dA k 48 x)
theorem oE (k x n):V6 k x (n+1)=jJ k (V6 k x n) n:=by simp[V6,Zz]
theorem gP (a b):bY a b<65536:=Z4 _ (by decide)
theorem Ho (k x):∀n,H8 (V6 k x n)
 |0=>⟨H7 _ _,gP _ _,gP _ _,H7 _ _⟩
 |n+1=>by rw[oE];exact⟨H7 _ _,gP _ _,gP _ _,H7 _ _⟩
theorem a1H (k:List Nat):∀n,n<=9->∀r j,r<n->j<(T8 k (8-r)).length->(ap k n).getD (6*r+j) 0=(T8 k (8-r)).getD j 0:=by
 intro n;induction n with
 |zero=>intro _ r j h;omega
 |succ n ih=>
  intro hn r j hr hj;have hl:(ap k n).length=6*n:=by rw[bK k n (by omega),if_neg (by omega)]
  have hj6:j<6:=by rw[wd]at hj;split at hj<;>omega
  rw[nZ,Zd,Zd];by_cases h:r=n
  ·subst h;rw[Z7 (by omega),hl,show 6*r+j-6*r=j by omega]
  ·rw[Ja (by omega),<-Zd,ih (by omega) r j (by omega) hj,Zd]
theorem nY (k:List Nat) {r j:Nat} (hr:r<9) (hj:j<if r=8 then 4 else 6):(y7 k).getD (6*r+j) 0=(T8 k (8-r)).getD j 0:=by
 refine a1H k 9 (by decide) r j hr ?_;rw[wd];by_cases h:r=8
 ·rw[if_pos h]at hj;rw[if_neg (by omega)];exact hj
 ·rw[if_neg h]at hj;rw[if_pos (by omega)];exact hj
theorem Hq (k:List Nat) (hk:T4 k) (x:Q4):∀r,r<8->V6 k x r=G6 (t9 (y7 k) (6*r) (I4 (y7 k) x r)):=by
 intro r;induction r with
 |zero=>
  intro _;have h:=fun j (hj:j<6)=>nY k (r:=0) (j:=j) (by decide) hj;have h0:=h 0 (by decide);have h1:=h 1 (by decide);have h2:=h 2 (by decide);have h3:=h 3 (by decide);show dA k 48 x=G6 (t9 (y7 k) (6*0) x);simp only[t9,G6,dA,h0,h1,h2,h3,uK (hk _)];rfl
 |succ r ih=>
  intro hr;have ih:=ih (by omega);have hp:=fun j (hj:j<6)=>nY k (r:=r) (j:=j) (by omega) (by rw[if_neg (by omega)];exact hj);have hq:=fun j (hj:j<6)=>nY k (r:=r+1) (j:=j) (by omega) (by rw[if_neg (by omega)];exact hj);have u4:(y7 k).getD (6*r+4) 0=k.getD (6*(7-r)+4) 0:=by
   rw[hp 4 (by decide)];unfold T8;rw[if_pos (show 0<8-r by omega)];have:6*(8-r)-2=6*(7-r)+4:=by omega
   split<;>(show k.getD (6*(8-r)-2) 0=_;rw[this])
  have u5:(y7 k).getD (6*r+5) 0=k.getD (6*(7-r)+5) 0:=by
   rw[hp 5 (by decide)];unfold T8;rw[if_pos (show 0<8-r by omega)];have:6*(8-r)-1=6*(7-r)+5:=by omega
   split<;>(show k.getD (6*(8-r)-1) 0=_;rw[this])
  have e8:8-(r+1)=7-r:=by omega
  have un:T8 k (7-r)=[F6 (k.getD (6*(7-r)) 0),L4 (k.getD (6*(7-r)+2) 0),L4 (k.getD (6*(7-r)+1) 0),F6 (k.getD (6*(7-r)+3) 0)]++[k.getD (6*(7-r)-2) 0,k.getD (6*(7-r)-1) 0]:=by
   unfold T8;rw[if_pos (by omega),if_pos (by omega)]
  have v0:=hq 0 (by decide);have v1:=hq 1 (by decide);have v2:=hq 2 (by decide);have v3:=hq 3 (by decide);rw[e8,un]at v0 v1 v2 v3;rw[oE,cd,ih];unfold lg;generalize t9 (y7 k) (6*r) (I4 (y7 k) x r)=p;have mM:au k (6*(7-r)) (G6 p)=aF (y7 k) (6*r) p:=by
   simp only[au,aF,G6,W7,Y9,dW,u4,u5]
  unfold jJ;rw[mM];generalize aF (y7 k) (6*r) p=z;simp only[bQ,t9,G6,v1,v2,v3,uK (hk _)];rw[show 6*(r+1)+0=6*(r+1) from rfl]at v0;rw[v0];rfl
theorem sN (k:List Nat) (hk:T4 k) (x:Q4):V6 k x 8=I1 (y7 k) x:=by
 have hp:=fun j (hj:j<6)=>nY k (r:=7) (j:=j) (by decide) hj;have hq:=fun j (hj:j<4)=>nY k (r:=8) (j:=j) (by decide) hj;have u4:(y7 k).getD (6*7+4) 0=k.getD (6*(7-7)+4) 0:=hp 4 (by decide);have u5:(y7 k).getD (6*7+5) 0=k.getD (6*(7-7)+5) 0:=hp 5 (by decide);have v0:=hq 0 (by decide);have v1:=hq 1 (by decide);have v2:=hq 2 (by decide);have v3:=hq 3 (by decide);show V6 k x (7+1)=t9 (y7 k) 48 (G6 (I4 (y7 k) x (7+1)));rw[oE k x 7,Hq k hk x 7 (by decide),cd (y7 k) x 7];unfold lg;generalize t9 (y7 k) (6*7) (I4 (y7 k) x 7)=p;have mM:au k (6*(7-7)) (G6 p)=aF (y7 k) (6*7) p:=by
  simp only[au,aF,G6,W7,Y9,dW,u4,u5]
 unfold jJ;rw[mM];generalize aF (y7 k) (6*7) p=z;have w0:(y7 k).getD 48 0=F6 (k.getD 0 0):=v0;have w1:(y7 k).getD 49 0=L4 (k.getD 1 0):=v1;have w2:(y7 k).getD 50 0=L4 (k.getD 2 0):=v2;have w3:(y7 k).getD 51 0=F6 (k.getD 3 0):=v3;simp only[bQ,t9,G6,w0,w1,w2,w3,uK (hk _),Nat.sub_self,Nat.mul_zero,Zl]
end Go.Scr
