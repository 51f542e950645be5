/-
  What the functions that this law alone reaches reckon, up to the law. It is no claim by itself; each contract bears its own conditions.
-/
import Derived.Test.YtdkledbmjmmliaaGreatDoorY4
set_option linter.unusedVariables false
set_option linter.unusedSimpArgs false
set_option maxRecDepth 100000
namespace Go.Scr
open Go.Proofs
open Nat renaming le_of_ble_eq_true → Za
abbrev N.law15_ShotChecks:=11
def rt.law15_ShotChecks:Rt:=[(6,[i1 [38,39,40,41,42,43,44,45,46,47,48,49,50,51,52] [],i0 [],i0 [],i1 [41,42,43,44,45,46,47,48,49,50,51,52] [0,1,2],i1 [37,38,39,40,42,43,44,45,46,47,48,49,50,51,52] [],i0 [],i0 [],i2 [45,46,47,48,49,50,51,52] [0,1,2,3,4,5,6],i0 [0,1,2,3,4,5,6,7],i0 [0,1,2,3,4,5,6,7,8],i1 [48,49,50,51,52] [0,1,2,3,4,5,6,7,8,9],i0 [0,1,2,3,4,5,6,7,8,9],i0 [0,1,2,3,4,5,6,7,8,9],i2 [51,52] [0,1,2,3,4,5,6,7,8,9,10,11,12],i0 [0,1,2,3,4,5,6,7,8,9,10,11,12,13],i0 [0,1,2,3,4,5,6,7,8,9,10,11,12,13,14]]),(21,[i1 [109,110,111,112,113,114,115,116,12] [],i0 [],i0 [],i1 [112,113,114,115,116,12] [0,1,2],i1 [108,109,110,111,113,114,115,116,12] [],i0 [],i0 [],i2 [116,12] [0,1,2,3,4,5,6],i0 [0,1,2,3,4,5,6,7],i0 [0,1,2,3,4,5,6,7,8]])]
theorem fd.law15_ShotChecks:FnD C 11 rt.law15_ShotChecks Tryz.f11 117:=fk Tryz.func11 (by kernel_rfl)
abbrev con.law15_ShotChecks:=@FnD.c _ _ _ _ _ fd.law15_ShotChecks
theorem keyOf_len (t n k):(keyOf t n k).length=kLen t n:=bytesN_len _ _
theorem kLen_mem {t n:Int} (ht:okTag t):((kLen t n:Nat):Int)∈cLens t:=by
 have hp:=cLens_pos ht
 have h1:=Int.emod_nonneg n (b:=((cLens t).length:Int)) (by omega)
 have h2:=Int.emod_lt_of_pos n (b:=((cLens t).length:Int)) (by omega)
 have hi:(n%((cLens t).length:Int)).toNat<(cLens t).length:=by omega
 have hx:(cLens t).getD (n%((cLens t).length:Int)).toNat 0∈cLens t:=by
  rw[List.getD_eq_getElem?_getD,List.getElem?_eq_getElem hi];exact List.getElem_mem hi
 have h0:0≤(cLens t).getD (n%((cLens t).length:Int)).toNat 0:=by
  have:∀x∈cLens t,0≤x:=by
   rcases ht with rfl|rfl|rfl|rfl|rfl|rfl|rfl|rfl<;>decide
  exact this _ hx
 rw[kLen,Int.toNat_of_nonneg h0];exact hx
theorem ciph_law (tag n:Int) (k:List UInt8):∃s q xs rs,Ciph (tagOf tag) (keyOf (tagOf tag) n k) s q xs rs:=ciph_ok (tagOf_ok _) (by rw[keyOf_len];exact kLen_mem (tagOf_ok _))
theorem ivL_len (mode s b):(ivL mode s b).length=ivN mode s:=by
 unfold ivL ivN
 split
 ·rfl
 ·exact bytesN_len _ _
theorem akMode_in (mode:Int):1≤akMode mode∧akMode mode≤9:=by unfold akMode;omega
theorem akPad_in (mode pad:Int):(1≤akPad mode pad∧akPad mode pad≤4)∧(akPad mode pad=4∨akMode mode≤2):=by
 unfold akPad
 split
 ·omega
 ·exact⟨by decide,.inl rfl⟩
theorem ask_ciph (tag n:Int) (k:List UInt8):∃s q xs rs,Ciph (tagOf tag) (keyOf (tagOf tag) n k) s q xs rs:=ciph_law tag n k
theorem four15 (x y z u:Int) (j:Nat) (hj:j<4):∃v:Int,([Value.int .i64 x,Value.int .i64 y,Value.int .i64 z,Value.int .i64 u]:List Value)[0+((j:Nat):Int).toNat*1]? =some (Value.int .i64 v):=by
 rw[Int.toNat_natCast,Nat.mul_one,Nat.zero_add]
 rcases j with _|_|_|_|j
 ·exact⟨_,rfl⟩
 ·exact⟨_,rfl⟩
 ·exact⟨_,rfl⟩
 ·exact⟨_,rfl⟩
 ·omega
theorem c_schk {rt rm rp:Int} {rb:Bool} {lr lf:Nat} {rk rf:List UInt8} {tag n mode pad which z:Int} {back:Bool} {lk li:Nat} {k iv:List UInt8} (hrt:In64 rt) (hrm:In64 rm) (hrp:In64 rp) (hrk:rk.length=lr) (hrf:rf.length=lf)
  (h0:In64 tag) (h1:In64 n) (h2:In64 mode) (h3:In64 pad) (hk:k.length=lk) (hi:iv.length=li) (hw:In64 which) (hz:In64 z):
  Con C N.law15_ShotChecks [cfgV rt rm rp rb,.z lr (bv rk),.z lf (bv rf),askV tag n mode pad back lk k li iv,i64 which,i64 z] [] (.ret (bool true)) []:=by
 obtain⟨s,q,xs,rs,h⟩:=ask_ciph tag n k
 have hs:=h.s_le
 have hM:=c_askmake (back:=back) h0 h1 h2 h3 hk hi h.hs hs.2
 have hmd:=akMode_in mode
 have hpd:=akPad_in mode pad
 have hkl:=kLen_ok (tagOf_ok tag) n
 have lK:=keyOf_len (tagOf tag) n k
 have lV:=ivL_len (akMode mode) s iv
 have hcs:=h.hs
 have lf16:ivN (akMode mode) s≤16:=by unfold ivN;split<;>omega
 have hE:shErr (tagOf tag) (akMode mode) (akPad mode pad) (cSize (tagOf tag)).toNat (kLen (tagOf tag) n) (ivN (akMode mode) s)=0:=by
  unfold shErr
  rw[if_neg (by exact fun x=>x h.ht),if_neg (by exact fun x=>x hkl.1),if_neg (by omega),if_neg (by rw[hcs,Int.toNat_natCast];exact fun x=>x rfl)]
 generalize keyOf (tagOf tag) n k=key at*
 generalize kLen (tagOf tag) n=lkk at*
 generalize ivL (akMode mode) s iv=fi at*
 generalize ivN (akMode mode) s=lfi at*
 generalize akMode mode=md at*
 generalize akPad mode pad=pd at*
 obtain⟨C1,C2⟩:=check_both (tagOf tag) lK (by omega) md pd back lV
 rw[hE]at C1
 have hW:=c_w15 (a:=which) (n:=6) (by omega) (by omega) hw
 obtain⟨w,hw1,hw2⟩:∃w:Int,which%6=w∧(w=0∨w=1∨w=2∨w=3∨w=4∨w=5):=⟨_,rfl,by omega⟩
 rw[hw1]at hW
 obtain⟨j,hj1,hj⟩:∃j:Nat,z%4=j∧j<4:=⟨(z%4).toNat,by omega,by omega⟩
 have W4:=c_w15 (a:=z) (n:=4) (by omega) (by omega) hz
 rw[hj1]at W4
 refine con.law15_ShotChecks ?_
 refine⟨[],_,_,_,_,c_known15,rfl,rfl,?_⟩
 refine spl_d (fun hl=> ?_) (fun hl=> ?_)
 ·exact⟨_,rfl,[],rfl,trivial⟩
 refine spl_d (fun hl2=> ?_) (fun hl2=> ?_)
 ·exact⟨_,rfl,[],rfl,trivial⟩
 obtain⟨D1,D2⟩:=check_both rt hrk (by omega) rm rp rb hrf
 refine⟨[i64 tag,i64 n,i64 mode,i64 pad,bool back,.z lk (bv k),.z li (bv iv)],rfl,rfl,?_⟩
 by_cases hf:lk≤100∧li≤100
 ·refine⟨[],_,_,_,_,c_few_y hf,rfl,rfl,?_⟩
  refine⟨[i64 tag,i64 n,i64 mode,i64 pad,bool back,.z lk (bv k),.z li (bv iv)],rfl,rfl,?_⟩
  refine⟨[],_,_,_,_,hM,rfl,rfl,?_⟩
  refine⟨Za rfl,?_⟩
  refine⟨[i64 rt,i64 rm,i64 rp,bool rb],rfl,rfl,?_⟩
  refine⟨[],_,_,_,_,D1,rfl,rfl,?_⟩
  refine⟨[i64 rt,i64 rm,i64 rp,bool rb],rfl,rfl,?_⟩
  refine⟨[],_,_,_,_,D2,rfl,rfl,?_⟩
  refine spl_ne (fun hh=>absurd rfl hh) (fun _=> ?_)
  refine⟨[i64 (tagOf tag),i64 md,i64 pd,bool back],rfl,rfl,?_⟩
  refine⟨[],_,_,_,_,C1,rfl,rfl,?_⟩
  refine⟨[],_,_,_,_,hW,rfl,rfl,?_⟩
  rcases hw2 with rfl|rfl|rfl|rfl|rfl|rfl
  ·obtain⟨v,hv⟩:=four15 0 9 (z%12) z j hj
   obtain⟨F1,F2⟩:=check_both v lK (by omega) md pd back lV
   refine⟨[],_,_,_,_,c_w15 (a:=z) (n:=12) (by omega) (by omega) hz,rfl,rfl,?_⟩
   refine⟨[],_,_,_,_,W4,rfl,rfl,?_⟩
   refine⟨by omega,by omega,_,hv,?_⟩
   refine⟨Za rfl,?_⟩
   refine⟨[i64 v,i64 md,i64 pd,bool back],rfl,rfl,?_⟩
   refine⟨[],_,_,_,_,F1,rfl,rfl,?_⟩
   refine⟨[i64 v,i64 md,i64 pd,bool back],rfl,rfl,?_⟩
   refine⟨[],_,_,_,_,F2,rfl,rfl,?_⟩
   exact⟨_,rfl,[],congrArg bool (beq_self_eq_true _),trivial⟩
  ·obtain⟨v,hv⟩:=four15 0 10 (IntKind.i64.wrap (1+z%9)) z j hj
   obtain⟨F1,F2⟩:=check_both (tagOf tag) lK (by omega) v pd back lV
   refine⟨[],_,_,_,_,c_w15 (a:=z) (n:=9) (by omega) (by omega) hz,rfl,rfl,?_⟩
   refine⟨[],_,_,_,_,W4,rfl,rfl,?_⟩
   refine⟨by omega,by omega,_,hv,?_⟩
   refine⟨Za rfl,?_⟩
   refine⟨[i64 (tagOf tag),i64 v,i64 pd,bool back],rfl,rfl,?_⟩
   refine⟨[],_,_,_,_,F1,rfl,rfl,?_⟩
   refine⟨[i64 (tagOf tag),i64 v,i64 pd,bool back],rfl,rfl,?_⟩
   refine⟨[],_,_,_,_,F2,rfl,rfl,?_⟩
   exact⟨_,rfl,[],congrArg bool (beq_self_eq_true _),trivial⟩
  ·obtain⟨v,hv⟩:=four15 0 5 (IntKind.i64.wrap (1+z%4)) z j hj
   obtain⟨F1,F2⟩:=check_both (tagOf tag) lK (by omega) md v back lV
   refine⟨[],_,_,_,_,c_w15 (a:=z) (n:=4) (by omega) (by omega) hz,rfl,rfl,?_⟩
   refine⟨[],_,_,_,_,W4,rfl,rfl,?_⟩
   refine⟨by omega,by omega,_,hv,?_⟩
   refine⟨Za rfl,?_⟩
   refine⟨[i64 (tagOf tag),i64 md,i64 v,bool back],rfl,rfl,?_⟩
   refine⟨[],_,_,_,_,F1,rfl,rfl,?_⟩
   refine⟨[i64 (tagOf tag),i64 md,i64 v,bool back],rfl,rfl,?_⟩
   refine⟨[],_,_,_,_,F2,rfl,rfl,?_⟩
   exact⟨_,rfl,[],congrArg bool (beq_self_eq_true _),trivial⟩
  ·obtain⟨c,hc,hc2⟩:∃c:Nat,z%40=c∧c<40:=⟨(z%40).toNat,by omega,by omega⟩
   have W:=c_w15 (a:=z) (n:=40) (by omega) (by omega) hz
   rw[hc]at W
   have hK:=c_bytes (n:=c) (va:=bv key) (b:=key) (m:=lkk) rfl lK (by omega)
   have lK2:=bytesN_len c key
   generalize bytesN c key=key2 at*
   obtain⟨F1,F2⟩:=check_both (tagOf tag) lK2 (by omega) md pd back lV
   refine⟨[],_,_,_,_,W,rfl,rfl,?_⟩
   refine⟨[],_,_,_,_,hK,rfl,rfl,?_⟩
   refine⟨[i64 (tagOf tag),i64 md,i64 pd,bool back],rfl,rfl,?_⟩
   refine⟨[],_,_,_,_,F1,?_,rfl,?_⟩
   ·show[cfgV (tagOf tag) md pd back,V.z c (sub (bv key2) 0 c),V.z lfi (bv fi)]=_
    rw[bv_all lK2]
   refine⟨[i64 (tagOf tag),i64 md,i64 pd,bool back],rfl,rfl,?_⟩
   refine⟨[],_,_,_,_,F2,?_,rfl,?_⟩
   ·show[cfgV (tagOf tag) md pd back,V.z c (sub (bv key2) 0 c),V.z lfi (bv fi)]=_
    rw[bv_all lK2]
   exact⟨_,rfl,[],congrArg bool (beq_self_eq_true _),trivial⟩
  ·obtain⟨c,hc,hc2⟩:∃c:Nat,z%20=c∧c<20:=⟨(z%20).toNat,by omega,by omega⟩
   have W:=c_w15 (a:=z) (n:=20) (by omega) (by omega) hz
   rw[hc]at W
   have hV:=c_bytes (n:=c) (va:=bv fi) (b:=fi) (m:=lfi) rfl lV (by omega)
   have lV2:=bytesN_len c fi
   generalize bytesN c fi=fi2 at*
   obtain⟨F1,F2⟩:=check_both (tagOf tag) lK (by omega) md pd back lV2
   refine⟨[],_,_,_,_,W,rfl,rfl,?_⟩
   refine⟨[],_,_,_,_,hV,rfl,rfl,?_⟩
   refine⟨[i64 (tagOf tag),i64 md,i64 pd,bool back],rfl,rfl,?_⟩
   refine⟨[],_,_,_,_,F1,?_,rfl,?_⟩
   ·show[cfgV (tagOf tag) md pd back,V.z lkk (bv key),V.z c (sub (bv fi2) 0 c)]=_
    rw[bv_all lV2]
   refine⟨[i64 (tagOf tag),i64 md,i64 pd,bool back],rfl,rfl,?_⟩
   refine⟨[],_,_,_,_,F2,?_,rfl,?_⟩
   ·show[cfgV (tagOf tag) md pd back,V.z lkk (bv key),V.z c (sub (bv fi2) 0 c)]=_
    rw[bv_all lV2]
   exact⟨_,rfl,[],congrArg bool (beq_self_eq_true _),trivial⟩
  ·obtain⟨F1,F2⟩:=check_both (tagOf tag) lK (by omega) md pd (!back) lV
   refine⟨_,rfl,?_⟩
   refine⟨Za rfl,?_⟩
   refine⟨[i64 (tagOf tag),i64 md,i64 pd,bool (!back)],rfl,rfl,?_⟩
   refine⟨[],_,_,_,_,F1,rfl,rfl,?_⟩
   refine⟨[i64 (tagOf tag),i64 md,i64 pd,bool (!back)],rfl,rfl,?_⟩
   refine⟨[],_,_,_,_,F2,rfl,rfl,?_⟩
   exact⟨_,rfl,[],congrArg bool (beq_self_eq_true _),trivial⟩
 ·refine⟨[],_,_,_,_,c_few_n hf,rfl,rfl,?_⟩
  exact⟨_,rfl,[],rfl,trivial⟩
end Go.Scr
