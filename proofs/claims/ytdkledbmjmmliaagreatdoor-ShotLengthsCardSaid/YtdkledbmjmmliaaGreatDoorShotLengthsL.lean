/-
  What the functions that this law alone reaches reckon, up to the law. It is no claim by itself; each contract bears its own conditions.
-/
import Derived.Test.YtdkledbmjmmliaaGreatDoorY4
set_option linter.unusedVariables false
set_option linter.unusedSimpArgs false
set_option maxRecDepth 100000
namespace Go.Scr
open Go.Proofs
open List renaming replicate → Za
open Nat renaming le_of_ble_eq_true → Zb
open IntWalk renaming i64_in → Zc
abbrev N.law15_ShotLengths:=6
def rt.law15_ShotLengths:Rt:=[(9,[i1 [31,32,33,34,35,29,36,37,10,11] [],i0 [],i0 [],i0 [],i0 [3],i2 [29,36,37,10,11] [0,1,2,3,4],i0 [0,1,2,3,4,5],i0 [0,1,2,3,4,5,6],i0 [0,1,2,3,4,5,6],i0 [0,1,2,3,4,5,6,7],i0 [0,1,2,3,4,5,6,7,8,9]])]
theorem fd.law15_ShotLengths:FnD C 6 rt.law15_ShotLengths Tryz.f6 90:=fk Tryz.func6 (by kernel_rfl)
abbrev con.law15_ShotLengths:=@FnD.c _ _ _ _ _ fd.law15_ShotLengths
theorem keyOf_len (t n k):(keyOf t n k).length=kLen t n:=bytesN_len _ _
theorem kLen_mem {t n:Int} (ht:okTag t):((kLen t n:Nat):Int)∈cLens t:=by
 have hp:=cLens_pos ht
 have h1:=Int.emod_nonneg n (b:=((cLens t).length:Int)) (by omega)
 have h2:=Int.emod_lt_of_pos n (b:=((cLens t).length:Int)) (by omega)
 have hi:(n%((cLens t).length:Int)).toNat<(cLens t).length:=by omega
 have hx:(cLens t).getD (n%((cLens t).length:Int)).toNat 0∈cLens t:=by
  rw[List.getD_eq_getElem?_getD,List.getElem?_eq_getElem hi];exact List.getElem_mem hi
 have h0:0≤(cLens t).getD (n%((cLens t).length:Int)).toNat 0:=by
  have:∀x∈cLens t,0≤x:=by
   rcases ht with rfl|rfl|rfl|rfl|rfl|rfl|rfl|rfl<;>decide
  exact this _ hx
 rw[kLen,Int.toNat_of_nonneg h0];exact hx
theorem ciph_law (tag n:Int) (k:List UInt8):∃s q xs rs,Ciph (tagOf tag) (keyOf (tagOf tag) n k) s q xs rs:=ciph_ok (tagOf_ok _) (by rw[keyOf_len];exact kLen_mem (tagOf_ok _))
theorem ivL_len (mode s b):(ivL mode s b).length=ivN mode s:=by
 unfold ivL ivN
 split
 ·rfl
 ·exact bytesN_len _ _
theorem akMode_in (mode:Int):1≤akMode mode∧akMode mode≤9:=by unfold akMode;omega
theorem akPad_in (mode pad:Int):(1≤akPad mode pad∧akPad mode pad≤4)∧(akPad mode pad=4∨akMode mode≤2):=by
 unfold akPad
 split
 ·omega
 ·exact⟨by decide,.inl rfl⟩
theorem ak_ok (mode pad:Int) (s:Nat) (iv:List UInt8):shOk s (akMode mode) (akPad mode pad) (ivL (akMode mode) s iv):=
 ⟨akMode_in _,(akPad_in mode pad).1,(akPad_in mode pad).2,ivL_len _ _ _⟩
theorem ask_ciph (tag n:Int) (k:List UInt8):∃s q xs rs,Ciph (tagOf tag) (keyOf (tagOf tag) n k) s q xs rs:=ciph_law tag n k
theorem tmod_nat (m s:Nat):(m:Int).tmod (s:Int)=((m%s:Nat):Int):=by rw[Int.tmod_eq_emod_of_nonneg (by omega)];rfl
theorem div_mul_wrap1 {l s:Nat} (hs:0<s) (hs2:s≤16) (hl:l≤1000):IntKind.i64.wrap (IntKind.i64.wrap (IntKind.i64.wrap ((l:Int).tdiv s)+1)*s)=((l/s*s+s:Nat):Int):=by
 have h1:=Nat.div_le_self l s
 have h2:=Nat.div_mul_le_self l s
 have e:(l:Int).tdiv s=((l/s:Nat):Int):=by rw[Int.tdiv_eq_ediv_of_nonneg (by omega)];rfl
 rw[e]
 clear e
 generalize l/s=q at h1 h2 ⊢
 rw[Zc (q:Int) (by omega),Zc ((q:Int)+1) (by omega)]
 have e2:((q:Int)+1)*s=((q*s+s:Nat):Int):=by rw[Int.add_mul,Int.one_mul,Int.natCast_add,Int.natCast_mul]
 rw[e2,Zc _ (by omega)]
theorem c_slens {tag n mode pad x:Int} {back:Bool} {lk li:Nat} {k iv:List UInt8} (h0:In64 tag) (h1:In64 n) (h2:In64 mode) (h3:In64 pad) (hk:k.length=lk) (hi:iv.length=li) (hx:In64 x):
  Con C N.law15_ShotLengths [askV tag n mode pad back lk k li iv,i64 x] [] (.ret (bool true)) []:=by
 obtain⟨s,q,xs,rs,h⟩:=ask_ciph tag n k
 have hs:=h.s_le
 have hM:=c_askmake (back:=back) h0 h1 h2 h3 hk hi h.hs hs.2
 have hR:=h.hs▸c_r11_size h.ht
 have ok:=ak_ok mode pad s iv
 have lK:=keyOf_len (tagOf tag) n k
 have lV:=ivL_len (akMode mode) s iv
 obtain⟨m,hm,hm2⟩:∃m:Nat,x%100=m∧m<100:=⟨(x%100).toNat,by omega,by omega⟩
 have hW:=c_w15 (a:=x) (n:=100) (by omega) (by omega) hx
 rw[hm]at hW
 obtain⟨z,hz⟩:∃z:List UInt8,z=Za m 0:=⟨_,rfl⟩
 have lz:z.length=m:=by rw[hz,List.length_replicate]
 have bz:bv z=Za m (Value.int .u8 0):=by rw[hz];simp[bv]
 have hmd:=akMode_in mode
 have hpd:=akPad_in mode pad
 generalize akMode mode=md at*
 generalize akPad mode pad=pd at*
 refine con.law15_ShotLengths ?_
 refine⟨[],_,_,_,_,c_known15,rfl,rfl,?_⟩
 refine⟨[i64 tag,i64 n,i64 mode,i64 pad,bool back,.z lk (bv k),.z li (bv iv)],rfl,rfl,?_⟩
 by_cases hf:lk≤100∧li≤100
 ·refine⟨[],_,_,_,_,c_few_y hf,rfl,rfl,?_⟩
  refine⟨[i64 tag,i64 n,i64 mode,i64 pad,bool back,.z lk (bv k),.z li (bv iv)],rfl,rfl,?_⟩
  refine⟨[],_,_,_,_,hM,rfl,rfl,?_⟩
  refine⟨Zb rfl,?_⟩
  refine⟨Zb rfl,?_⟩
  refine⟨_,rfl,?_⟩
  refine⟨[],_,_,_,_,hR,rfl,rfl,?_⟩
  refine⟨[],_,_,_,_,hW,rfl,rfl,?_⟩
  refine⟨[i64 (tagOf tag),i64 md,i64 pd,bool false],rfl,rfl,?_⟩
  refine⟨by omega,by omega,by omega,?_⟩
  by_cases hb:pd=4∧md≤2∧m%s≠0∨7≤md∧m<s
  ·refine⟨[],_,_,_,_,shot_not h lK lV lz (by omega) ok hb,?_,rfl,?_⟩
   ·show[cfgV (tagOf tag) md pd false,V.z _ _,V.z _ _,V.z ((m:Int).toNat) (sub (Za ((m:Int).toNat) (Value.int .u8 0)) 0 ((m:Int).toNat))]=_
    rw[Int.toNat_natCast,←bz,bv_all lz]
   refine⟨_,rfl,?_⟩
   refine spl_ne (fun h4=>absurd h4 (by omega)) (fun h4=> ?_)
   refine⟨_,rfl,?_⟩
   refine spl_d (fun hm=> ?_) (fun hm=> ?_)
   ·refine⟨by omega,?_⟩
    refine spl_ne (fun hz=> ?_) (fun hz=>absurd (tmod_nat m s▸hz) (by omega))
    exact⟨_,rfl,[],rfl,trivial⟩
   ·refine⟨_,rfl,?_⟩
    refine spl_d (fun h7=> ?_) (fun h7=>absurd h7 (by omega))
    refine spl_d (fun h7=> ?_) (fun h7=>absurd h7 (by omega))
    exact⟨_,rfl,[],rfl,trivial⟩
  ·obtain⟨l,y,ly,el,_,P,_⟩:=shot_there h lK lV lz (by omega) ok hb
   refine⟨[],_,_,_,_,P,?_,rfl,?_⟩
   ·show[cfgV (tagOf tag) md pd false,V.z _ _,V.z _ _,V.z ((m:Int).toNat) (sub (Za ((m:Int).toNat) (Value.int .u8 0)) 0 ((m:Int).toNat))]=_
    rw[Int.toNat_natCast,←bz,bv_all lz]
   refine⟨_,rfl,?_⟩
   refine spl_ne (fun h4=> ?_) (fun h4=> ?_)
   ·refine⟨by omega,?_⟩
    rw[if_neg h4]at el
    exact⟨_,rfl,[],congrArg bool (decide_eq_true (by rw[div_mul_wrap1 (by omega) hs.2 (by omega),el])),trivial⟩
   ·rw[if_pos h4]at el
    refine⟨_,rfl,?_⟩
    have fin:decide ((l:Int)=(m:Int))=true:=decide_eq_true (by omega)
    refine spl_d (fun hm=> ?_) (fun hm=> ?_)
    ·refine⟨by omega,?_⟩
     refine spl_ne (fun hz=>absurd (tmod_nat m s▸hz) (by omega)) (fun hz=> ?_)
     refine⟨_,rfl,?_⟩
     refine spl_d (fun h7=>absurd h7 (by omega)) (fun h7=> ?_)
     exact⟨_,rfl,[],congrArg bool fin,trivial⟩
    ·refine⟨_,rfl,?_⟩
     refine spl_d (fun h7=> ?_) (fun h7=> ?_)
     ·refine spl_d (fun h7=>absurd h7 (by omega)) (fun h7=> ?_)
      exact⟨_,rfl,[],congrArg bool fin,trivial⟩
     ·exact⟨_,rfl,[],congrArg bool fin,trivial⟩
 ·refine⟨[],_,_,_,_,c_few_n hf,rfl,rfl,?_⟩
  exact⟨_,rfl,[],rfl,trivial⟩
end Go.Scr
