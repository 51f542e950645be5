/-
  What the functions that this law alone reaches reckon, up to the law. It is no claim by itself; each contract bears its own conditions.
-/
import Derived.Test.YtdkledbmjmmliaaGreatDoorY4
set_option linter.unusedVariables false
set_option linter.unusedSimpArgs false
set_option maxRecDepth 100000
namespace Go.Scr
open Go.Proofs
open Int renaming toNat_natCast → Za
open List renaming length_append → Zb, nil_append → Zc
open IntWalk renaming i64_in → Zd
open Nat renaming le_refl → Ze, zero_add → Zf
abbrev N.law15_ShotEcb:=7
def rt.law15_ShotEcb:Rt:=[(12,[i1 [67,68,69,70,71,72,73,74,65,75,76,16,17] [],i0 [],i0 [],i0 [],i0 [],i3 [69] [66,67,68,72,73,74,65,75,76,16,17] [3,4],i0 [],i3 [69,71] [66,67,68,74,65,75,76,16,17] [3,4,5,6],i2 [65,75,76,16,17] [0,1,2,3,4,5,6,7],i0 [0,1,2,3,4,5,6,7,8],i0 [0,1,2,3,4,5,6,7,8,9],i0 [0,1,2,3,4,5,6,7,8,9],i0 [0,1,2,3,4,5,6,7,8,9,10],i0 [0,1,2,3,4,5,6,7,8,9,10,11,12]]),(13,[i1 [79,80,81,82,83,84,85,86,77,87,88,18,19] [],i0 [],i0 [],i0 [],i0 [],i3 [81] [78,79,80,84,85,86,77,87,88,18,19] [3,4],i0 [],i3 [81,83] [78,79,80,86,77,87,88,18,19] [3,4,5,6],i2 [77,87,88,18,19] [0,1,2,3,4,5,6,7],i0 [0,1,2,3,4,5,6,7,8],i0 [0,1,2,3,4,5,6,7,8,9],i0 [0,1,2,3,4,5,6,7,8,9],i0 [0,1,2,3,4,5,6,7,8,9,10],i0 [0,1,2,3,4,5,6,7,8,9,10,11,12]]),(14,[i0 [],i0 [0],i0 [0,1],i0 [0,1,2],i0 [0,1,2,3],i0 [0,1,2,3,4],i0 [0,1,2,3,4,5],i0 [0,1,2,3,4,5,6],i0 [0,1,2,3,4,5,6,7],i0 [0,1,2,3,4,5,6,7,8],i0 [0,1,2,3,4,5,6,7,8,9],i0 [0,1,2,3,4,5,6,7,8,9,10],i0 [0,1,2,3,4,5,6,7,8,9,10,11],i0 [0,1,2,3,4,5,6,7,8,9,10],i0 [0,1,2,3,4,5,6,7,8,9,10,13],i0 [0,1,2,3,4,5,6,7,8,9,10,11,12,13,14],i0 [0,1,2,3,4,5,6,7,8,9,10,11,12,13,14,15],i0 [0,1,2,3,4,5,6,7,8,9,10,11,12,13,14,15,16],i0 [0,1,2,3,4,5,6,7,8,9,10,11,12,13,14,15,16,17],i0 [0,1,2,3,4,5,6,7,8,9,10,11,12,13,14,15,16,17,18],i0 [0,1,2,3,4,5,6,7,8,9,10,11,12,13,14,15,16,17],i0 [0,1,2,3,4,5,6,7,8,9,10,11,12,13,14,15,16,17,20],i0 [0,1,2,3,4,5,6,7,8,9,10,11,12,13,14,15,16,17,18,19,20,21],i0 [0,1,2,3,4,5,6,7,8,9,10,11,12,13,14,15,16,17,18,19,20,21,22],i0 [0,1,2,3,4,5,6,7,8,9,10,11,12,13,14,15,16,17,18,19,20,21,22,23],i0 [0,1,2,3,4,5,6,7,8,9,10,11,12,13,14,15,16,17,18,19,20,21,22,23,24],i0 [0,1,2,3,4,5,6,7,8,9,10,11,12,13,14,15,16,17,18,19,20,21,22,23,24,25],i0 [0,1,2,3,4,5,6,7,8,9,10,11,12,13,14,15,16,17,18,19,20,21,22,23,24],i0 [0,1,2,3,4,5,6,7,8,9,10,11,12,13,14,15,16,17,18,19,20,21,22,23,24,27],i0 [0,1,2,3,4,5,6,7,8,9,10,11,12,13,14,15,16,17,18,19,20,21,22,23,24,25,26,27,28],i0 [0,1,2,3,4,5,6,7,8,9,10,11,12,13,14,15,16,17,18,19,20,21,22,23,24,25,26,27,28,29],i0 [0,1,2,3,4,5,6,7,8,9,10,11,12,13,14,15,16,17,18,19,20,21,22,23,24,25,26,27,28,29,30],i0 [0,1,2,3,4,5,6,7,8,9,10,11,12,13,14,15,16,17,18,19,20,21,22,23,24,25,26,27,28,29,30,31],i0 [0,1,2,3,4,5,6,7,8,9,10,11,12,13,14,15,16,17,18,19,20,21,22,23,24,25,26,27,28,29,30,31],i0 [0,1,2,3,4,5,6,7,8,9,10,11,12,13,14,15,16,17,18,19,20,21,22,23,24,25,26,27,28,29,30,31,32,33],i1 [125,126,127,128,129,130] [0,1,2,3,4,5,6,7,8,9,10,11,12,13,14,15,16,17,18,19,20,21,22,23,24,25,26,27,28,29,30,31,32,33,34],i0 [0,1,2,3,4,5,6,7,8,9,10,11,12,13,14,15,16,17,18,19,20,21,22,23,24,25,26,27,28,29,30,31],i0 [0,1,2,3,4,5,6,7,8,9,10,11,12,13,14,15,16,17,18,19,20,21,22,23,24,25,26,27,28,29,30,31],i0 [0,1,2,3,4,5,6,7,8,9,10,11,12,13,14,15,16,17,18,19,20,21,22,23,24,25,26,27,28,29,30,31,36,37],i1 [121,122,123,124,129,130] [0,1,2,3,4,5,6,7,8,9,10,11,12,13,14,15,16,17,18,19,20,21,22,23,24,25,26,27,28,29,30,31,36,37,38],i0 [0,1,2,3,4,5,6,7,8,9,10,11,12,13,14,15,16,17,18,19,20,21,22,23,24,25,26,27,28,29,30,31,32,33,34,35,36,37,38,39],i0 [0,1,2,3,4,5,6,7,8,9,10,11,12,13,14,15,16,17,18,19,20,21,22,23,24,25,26,27,28,29,30,31,32,33,34,35,36,37,38,39,40]]),(16,[i0 [],i0 [],i0 [0,1],i1 [135,136,137,138,139,140,141,142,143,144,145,146,147,148,149,150,151,152,153,154,155,156,157,158,159,160,161,162,6] [0,1,2],i0 [],i0 [],i0 [4,5],i1 [131,132,133,134,139,140,141,142,143,144,145,146,147,148,149,150,151,152,153,154,155,156,157,158,159,160,161,162,6] [4,5,6],i0 [0,1,2,3,4,5,6,7],i0 [],i1 [131,132,133,134,135,136,137,138,139,142,143,144,145,146,147,148,149,150,151,152,153,154,155,156,157,158,159,160,161,162,6] [9],i0 [],i1 [131,132,133,134,135,136,137,138,139,140,141,144,145,146,147,148,149,150,151,152,153,154,155,156,157,158,159,160,161,162,6] [11],i0 [9,10,11,12],i0 [0,1,2,3,4,5,6,7,8,9,10,11,12,13],i0 [0,1,2,3,4,5,6,7,8,9,10,11,12,13,14],i0 [0,1,2,3,4,5,6,7,8,9,10,11,12,13,14,15],i0 [0,1,2,3,4,5,6,7,8,9,10,11,12,13,14,15],i0 [0,1,2,3,4,5,6,7,8,9,10,11,12,13,14,15,16,17],i1 [151,152,153,154,155,156,157,158,159,160,161,162,6] [0,1,2,3,4,5,6,7,8,9,10,11,12,13,14,15,16,17,18],i0 [0,1,2,3,4,5,6,7,8,9,10,11,12,13,14,15],i0 [0,1,2,3,4,5,6,7,8,9,10,11,12,13,14,15],i0 [0,1,2,3,4,5,6,7,8,9,10,11,12,13,14,15,20,21],i1 [147,148,149,150,155,156,157,158,159,160,161,162,6] [0,1,2,3,4,5,6,7,8,9,10,11,12,13,14,15,20,21,22],i0 [0,1,2,3,4,5,6,7,8,9,10,11,12,13,14,15,16,17,18,19,20,21,22,23],i0 [0,1,2,3,4,5,6,7,8,9,10,11,12,13,14,15],i1 [147,148,149,150,151,152,153,154,155,158,159,160,161,162,6] [0,1,2,3,4,5,6,7,8,9,10,11,12,13,14,15,25],i0 [0,1,2,3,4,5,6,7,8,9,10,11,12,13,14,15],i1 [147,148,149,150,151,152,153,154,155,156,157,160,161,162,6] [0,1,2,3,4,5,6,7,8,9,10,11,12,13,14,15,27],i0 [0,1,2,3,4,5,6,7,8,9,10,11,12,13,14,15,25,26,27,28],i0 [0,1,2,3,4,5,6,7,8,9,10,11,12,13,14,15,16,17,18,19,20,21,22,23,24,25,26,27,28,29],i0 [0,1,2,3,4,5,6,7,8,9,10,11,12,13,14,15,16,17,18,19,20,21,22,23,24,25,26,27,28,29,30],i0 [0,1,2,3,4,5,6,7,8,9,10,11,12,13,14,15,16,17,18,19,20,21,22,23,24,25,26,27,28,29,30,31]])]
theorem fd.law15_ShotEcb:FnD C 7 rt.law15_ShotEcb Tryz.f7 163:=fk Tryz.func7 (by kernel_rfl)
abbrev con.law15_ShotEcb:=@FnD.c _ _ _ _ _ fd.law15_ShotEcb
theorem keyOf_len (t n k):(keyOf t n k).length=kLen t n:=bytesN_len _ _
theorem kLen_mem {t n:Int} (ht:okTag t):((kLen t n:Nat):Int)∈cLens t:=by
 have hp:=cLens_pos ht
 have h1:=Int.emod_nonneg n (b:=((cLens t).length:Int)) (by omega)
 have h2:=Int.emod_lt_of_pos n (b:=((cLens t).length:Int)) (by omega)
 have hi:(n%((cLens t).length:Int)).toNat<(cLens t).length:=by omega
 have hx:(cLens t).getD (n%((cLens t).length:Int)).toNat 0∈cLens t:=by
  rw[List.getD_eq_getElem?_getD,List.getElem?_eq_getElem hi];exact List.getElem_mem hi
 have h0:0≤(cLens t).getD (n%((cLens t).length:Int)).toNat 0:=by
  have:∀x∈cLens t,0≤x:=by
   rcases ht with rfl|rfl|rfl|rfl|rfl|rfl|rfl|rfl<;>decide
  exact this _ hx
 rw[kLen,Int.toNat_of_nonneg h0];exact hx
theorem ciph_law (tag n:Int) (k:List UInt8):∃s q xs rs,Ciph (tagOf tag) (keyOf (tagOf tag) n k) s q xs rs:=ciph_ok (tagOf_ok _) (by rw[keyOf_len];exact kLen_mem (tagOf_ok _))
theorem ask_ciph (tag n:Int) (k:List UInt8):∃s q xs rs,Ciph (tagOf tag) (keyOf (tagOf tag) n k) s q xs rs:=ciph_law tag n k
theorem out_as {f args} {o:List UInt8} {l:Nat} {e:Int} (hl:o.length=l) (P:Con C f args [] (.ret (shV (o,e))) []):Con C f args [] (.ret (.t [.z l (bv o),i64 e])) []:=by
 subst hl;exact P
theorem c_bytesF {n m:Nat} {va:List Value} {b:List UInt8} (ha:va=bv b) (hb:b.length=m) (hn:n≤1073741824):Con C N.law11_Bytes [i64 n,.z m va] [] (.ret (.z n (bv (bytesN n b)))) []:=by
 subst ha;subst hb
 refine con.law11_Bytes ?_
 refine⟨by omega,Int.le_refl _,by omega,?_⟩
 refine⟨bv_len _,by simp,?_⟩
 refine⟨Nat,fun j=>⟨[(0,i64 n),(5,.o 1 (.k 0) 0 n),(6,i64 (b.length+j:Nat))],[.sc (bv (padd b n j))]⟩,fun j=>j=0∨b.length+j≤n,fun j=>n-(b.length+j),⟨[],0,.inl rfl,[.d 8 0],⟨rfl,rfl,rfl,trivial⟩,⟨_,rfl,congrArg B.sc ?_⟩,trivial⟩,fun j hj=> ?_⟩
 ·show[]++(bv b).take (min b.length n)++(List.replicate n (Value.int .u8 0)).drop (0+min b.length n)=_
  rw[Zc,Zf,←padd_zero,bv_rep,bv_drop,←bv_app]
  congr 1
  simp[bv,List.map_take]
 refine spl_d (fun h=> ?_) (fun h=> ?_)
 ·have hlt:b.length+j<n:=(by omega)
  refine⟨by omega,by omega,by rw[bv_len,padd_len];omega,?_⟩
  refine⟨j+1,.inr (by omega),(by simp(disch:=omega)only[Zd];omega),[.k 0],⟨rfl,rfl,congrArg (vi .i64) (by simp(disch:=omega)only[Zd];omega),trivial⟩,⟨_,rfl,congrArg B.sc ?_⟩,trivial⟩
  have e:IntKind.u8.wrap (IntKind.i64.wrap (((b.length+j:Nat):Int)*37))=((UInt8.ofNat ((b.length+j)*37)).toNat:Int):=by
   rw[←nat_u8,Zd _ (by omega)];rfl
  rw[e,Za,Nat.mul_one,Zf,bv_set,padd_set _ _ _ hlt]
 ·refine⟨_,rfl,[],?_,trivial⟩
  show V.z n (sub (bv (padd b n j)) 0 n)=_
  rw[padd_full _ _ _ (by omega),bv_all (bytesN_len _ _)]
theorem dd_eq {d:List UInt8} {s:Nat} (l1:d.length=s):V.z (0+s+s) (sub (sub (sub ([]:List Value) 0 (0*1)++bv d) 0 ((0+s)*1)++bv d) 0 (0+s+s))=V.z (s+s) (bv (d++d)):=by
 have e:sub ([]:List Value) 0 (0*1)=[]:=rfl
 rw[e,Zc,Zf,Nat.mul_one,bv_all l1,bv_app,bv_all (by rw[Zb,l1])]
theorem two_fst {X Y:List UInt8} {s:Nat} (hx:X.length=s):sub (bv (X++Y)) 0 ((s:Int).toNat-0)=bv X:=by
 rw[Za,Nat.sub_zero,bv_sub,sub_fst hx]
theorem two_snd {X Y:List UInt8} {s:Nat} (hx:X.length=s) (hy:Y.length=s):sub (bv (X++Y)) (s:Int).toNat (s+s-(s:Int).toNat)=bv Y:=by
 rw[Za,bv_sub,Nat.add_sub_cancel]
 subst hx
 rw[sub_appR (Ze _),Nat.sub_self,←hy]
 simp[sub]
theorem two_mul_wrap {s:Nat} (hs:s≤16):IntKind.i64.wrap (2*(s:Int))=((s+s:Nat):Int):=by rw[Zd _ (by omega)];omega
theorem c_secb {tag n mode pad:Int} {back:Bool} {lk li lb lc:Nat} {k iv b c:List UInt8} (h0:In64 tag) (h1:In64 n) (h2:In64 mode) (h3:In64 pad) (hk:k.length=lk) (hi:iv.length=li) (hb:b.length=lb) (hc:c.length=lc):
  Con C N.law15_ShotEcb [askV tag n mode pad back lk k li iv,.z lb (bv b),.z lc (bv c)] [] (.ret (bool true)) []:=by
 obtain⟨s,q,xs,rs,h⟩:=ask_ciph tag n k
 have hs:=h.s_le
 have hR:=h.hs▸c_r11_size h.ht
 have lK:=keyOf_len (tagOf tag) n k
 have hL:∀{vk:List Value},vk=bv k→Con C N.law11_Key [i64 (tagOf tag),i64 n,.z lk vk] [] (.ret (.z (kLen (tagOf tag) n) (bv (keyOf (tagOf tag) n k)))) []:=fun e=>c_keyF (tagOf_ok _) h1 e hk
 have hci:=h.ci
 have okE:shOk s 1 4 []:=⟨by decide,by decide,.inl rfl,rfl⟩
 have B1:=c_bytesF (n:=s) (va:=bv b) (b:=b) rfl hb (by omega)
 have B2:=c_bytesF (n:=s) (va:=bv iv) (b:=iv) rfl hi (by omega)
 have B3:=c_bytesF (n:=s) (va:=bv c) (b:=c) rfl hc (by omega)
 have l1:=bytesN_len s b
 have l2:=bytesN_len s iv
 have l3:=bytesN_len s c
 generalize bytesN s b=d at*
 generalize bytesN s iv=p at*
 generalize bytesN s c=r at*
 generalize keyOf (tagOf tag) n k=key at*
 generalize kLen (tagOf tag) n=lkk at*
 have okC:∀v:List UInt8,v.length=s→shOk s 2 4 v:=fun v hv=>⟨by decide,by decide,.inl rfl,hv⟩
 have ldd:(d++d).length=s+s:=by rw[Zb,l1]
 have P1:=c_shotP h (back:=false) (msg:=d++d) (m:=s+s) (vi:=[]) (iv:=[]) (li:=0) rfl rfl rfl lK rfl ldd (by omega) okE
 have P2:=c_shotP h (back:=false) (msg:=d++d) (m:=s+s) (vi:=bv p) (iv:=p) (li:=s) rfl rfl rfl lK l2 ldd (by omega) (okC p l2)
 have P3:=c_shotP h (back:=false) (msg:=d++d) (m:=s+s) (vi:=bv r) (iv:=r) (li:=s) rfl rfl rfl lK l3 ldd (by omega) (okC r l3)
 rw[shP_ecb2 (by omega) l1]at P1
 rw[shP_cbc2 (by omega) l1]at P2 P3
 have i1:=enc_x_inj hci l1 l2 l3
 have le:∀x:List UInt8,x.length=s→(cF (tagOf tag) key false x).length=s:=fun x hx=>h.len hx
 have lx:=le d l1
 have la:=le _ (xorL_len l1 l2)
 have lb2:=le _ (xorL_len l1 l3)
 have i2:=enc_x_inj hci l1 la lb2
 have lc2:=le _ (xorL_len l1 la)
 have ld2:=le _ (xorL_len l1 lb2)
 generalize cF (tagOf tag) key false (xorL d (cF (tagOf tag) key false (xorL d p)))=A2 at*
 generalize cF (tagOf tag) key false (xorL d (cF (tagOf tag) key false (xorL d r)))=C2 at*
 generalize cF (tagOf tag) key false (xorL d p)=A1 at*
 generalize cF (tagOf tag) key false (xorL d r)=C1 at*
 generalize cF (tagOf tag) key false d=X at*
 have Q1:Con C N.shot_Shot [cfgV (tagOf tag) 1 4 false,.z lkk (bv key),nilv,.z (s+s) (bv (d++d))] [] (.ret (.t [.z (s+s) (bv (X++X)),i64 0])) []:=
  Con.args (out_as (by rw[Zb,lx]) P1) (.cons (.refl _) (.cons (.refl _) (.cons .nl (.cons (.refl _) .nil))))
 have Q2:=out_as (l:=s+s) (by rw[Zb,la,lc2]) P2
 have Q3:=out_as (l:=s+s) (by rw[Zb,lb2,ld2]) P3
 refine con.law15_ShotEcb ?_
 refine⟨[],_,_,_,_,c_known15,rfl,rfl,?_⟩
 refine spl_d (fun hl=> ?_) (fun hl=> ?_)
 ·exact⟨_,rfl,[],rfl,trivial⟩
 refine⟨[i64 tag,i64 n,i64 mode,i64 pad,bool back,.z lk (bv k),.z li (bv iv)],rfl,rfl,?_⟩
 by_cases hf:lk≤100∧li≤100
 ·refine⟨[],_,_,_,_,c_few_y hf,rfl,rfl,?_⟩
  refine⟨_,rfl,?_⟩
  refine⟨[],_,_,_,_,c_tag h0,rfl,rfl,?_⟩
  refine⟨[],_,_,_,_,hR,rfl,rfl,?_⟩
  refine⟨_,rfl,?_⟩
  refine⟨_,rfl,?_⟩
  refine⟨[],_,_,_,_,hL rfl,rfl,rfl,?_⟩
  refine⟨[],_,_,_,_,B1,rfl,rfl,?_⟩
  refine⟨by rw[bv_len,l1],by omega,Ze _,?_⟩
  refine⟨by rw[bv_len,l1],by omega,?_,?_⟩
  ·show 0+(0+s)*1≤([]++bv d).length
   rw[Zc,bv_len,l1];omega
  refine⟨[],_,_,_,_,Q1,?_,rfl,?_⟩
  ·show[cfgV (tagOf tag) 1 4 false,V.z lkk (bv key),nilv,V.z (0+s+s) (sub (sub (sub ([]:List Value) 0 (0*1)++bv d) 0 ((0+s)*1)++bv d) 0 (0+s+s))]=_
   rw[dd_eq l1]
  refine⟨_,rfl,?_⟩
  refine⟨[],_,_,_,_,B2,rfl,rfl,?_⟩
  refine⟨[],_,_,_,_,B3,rfl,rfl,?_⟩
  refine⟨Nat.le_of_ble_eq_true rfl,?_⟩
  refine⟨[i64 (tagOf tag),i64 2,i64 4,bool false],rfl,rfl,?_⟩
  refine⟨by rw[bv_len,l1],by omega,Ze _,?_⟩
  refine⟨by rw[bv_len,l1],by omega,?_,?_⟩
  ·show 0+(0+s)*1≤([]++bv d).length
   rw[Zc,bv_len,l1];omega
  refine⟨[],_,_,_,_,Q2,?_,rfl,?_⟩
  ·show[cfgV (tagOf tag) 2 4 false,V.z lkk (bv key),V.z s _,V.z (0+s+s) (sub (sub (sub ([]:List Value) 0 (0*1)++bv d) 0 ((0+s)*1)++bv d) 0 (0+s+s))]=_
   rw[dd_eq l1]
  refine⟨[i64 (tagOf tag),i64 2,i64 4,bool false],rfl,rfl,?_⟩
  refine⟨by rw[bv_len,l1],by omega,Ze _,?_⟩
  refine⟨by rw[bv_len,l1],by omega,?_,?_⟩
  ·show 0+(0+s)*1≤([]++bv d).length
   rw[Zc,bv_len,l1];omega
  refine⟨[],_,_,_,_,Q3,?_,rfl,?_⟩
  ·show[cfgV (tagOf tag) 2 4 false,V.z lkk (bv key),V.z s _,V.z (0+s+s) (sub (sub (sub ([]:List Value) 0 (0*1)++bv d) 0 ((0+s)*1)++bv d) 0 (0+s+s))]=_
   rw[dd_eq l1]
  refine spl_ne (fun hh=>absurd (two_mul_wrap hs.2).symm hh) (fun _=> ?_)
  refine spl_ne (fun hh=>absurd (two_mul_wrap hs.2).symm hh) (fun _=> ?_)
  refine spl_ne (fun hh=>absurd (two_mul_wrap hs.2).symm hh) (fun _=> ?_)
  refine⟨by omega,by omega,by omega,by omega,?_⟩
  refine⟨by rw[two_fst lx,bv_len,lx,Za];rfl,X,by rw[two_fst lx];rfl,?_⟩
  refine⟨by omega,by omega,by omega,by omega,?_⟩
  refine⟨by rw[two_snd lx lx,bv_len,lx,Za];omega,X,by rw[two_snd lx lx];rfl,?_⟩
  refine spl_f (by simp) ?_
  refine⟨by omega,by omega,by omega,by omega,?_⟩
  refine⟨by rw[two_fst la,bv_len,la,Za];rfl,A1,by rw[two_fst la];rfl,?_⟩
  refine⟨by omega,by omega,by omega,by omega,?_⟩
  refine⟨by rw[two_fst lb2,bv_len,lb2,Za];rfl,C1,by rw[two_fst lb2];rfl,?_⟩
  refine⟨by rw[bv_len,l2],_,rfl,?_⟩
  refine⟨by rw[bv_len,l3],_,rfl,?_⟩
  refine spl_t (by rw[str_beq,str_beq];simp only[i1,beq_self_eq_true]) ?_
  refine⟨by omega,by omega,by omega,by omega,?_⟩
  refine⟨by rw[two_snd la lc2,bv_len,lc2,Za];omega,A2,by rw[two_snd la lc2];rfl,?_⟩
  refine⟨by omega,by omega,by omega,by omega,?_⟩
  refine⟨by rw[two_snd lb2 ld2,bv_len,ld2,Za];omega,C2,by rw[two_snd lb2 ld2];rfl,?_⟩
  refine⟨by rw[bv_len,l2],_,rfl,?_⟩
  refine⟨by rw[bv_len,l3],_,rfl,?_⟩
  refine⟨_,rfl,[],congrArg bool ?_,trivial⟩
  rw[str_beq,str_beq]
  simp only[i2,i1,beq_self_eq_true]
 ·refine⟨[],_,_,_,_,c_few_n hf,rfl,rfl,?_⟩
  exact⟨_,rfl,[],rfl,trivial⟩
end Go.Scr
