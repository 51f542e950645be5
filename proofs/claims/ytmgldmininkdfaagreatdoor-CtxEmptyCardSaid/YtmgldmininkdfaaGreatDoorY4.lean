/-
  What the functions of the given program reckon, each by a contract, up to the law. It is no claim by itself; each contract bears its own conditions.
-/
import Derived.Test.YtmgldmininkdfaaGreatDoorY3
set_option linter.unusedVariables false
set_option linter.unusedSimpArgs false
set_option maxRecDepth 100000
namespace Go.Scr
open Go.Proofs
open Nat renaming le_of_ble_eq_true → Za, mul_le_mul_left → Zg, mod_self → Zk, dvd_of_mod_eq_zero → Zl, le_of_not_lt → Zm, le_trans → Zn, zero_le → Zo, sub_succ_lt_self → Zp, div_eq_of_lt → Zq, le_antisymm → Zs, mul_one → Zt, mul_succ → Zu, add_sub_cancel → Zx, mul_mod_right → Zy, add_sub_cancel_left → Z0, lt_irrefl → Z2, le_of_dvd → Z3, add_zero → Z5
open List renaming length_append → Zb, eq_nil_of_length_eq_zero → Zc, length_take → Zd, length_drop → Ze, nil_append → Zi, take_append_drop → Zj, flatten_append → Zr, flatten_singleton → Zv, drop_of_length_le → Zw, append_assoc → Zz, drop_append → Z1, take_nil → Z4
open IntWalk renaming i64_in → Zf
open Int renaming toNat_natCast → Zh
open Go.IntKind renaming i64 → I6
theorem c_cxinitA {t key s k xs rs} (h:Ciph t key s k xs rs) {mode pad:Int} {back:Bool} {lk li:Nat} {iv:Bs} (hk:key.length=lk) (hlk:lk≤1000) (hi:iv.length=li) (ok:shOk s mode pad iv):
  Con C N.ctx_Ctx_Init [.p (.k 0) 0,cfgV t mode pad back,.z lk (bv key),.z li (bv iv)] [cxX false false 0 0 0 false nilp nilv nilp nilv nilv] (.ret (i64 0))
   [cxO true t mode pad back k xs iv .n iv,moX (cipV t k xs) (cxMd mode) back ⟨iv,[],[]⟩ 2,.dead,.dead]:=by
 have hs:=h.s_le
 obtain⟨m1,hiv⟩:=cxMd_ok ok
 have hl16:iv.length≤16:=by rw[hiv];split<;>omega
 have CK:=(check_both t hk hlk mode pad back hi).1
 rw[shErr_ok h hk hi ok]at CK
 subst hi
 refine fd.ctx_Ctx_Init.c ?_
 refine⟨[i64 t,i64 mode,i64 pad,bool back],rfl,rfl,?_⟩
 refine⟨[],_,_,_,_,CK,rfl,rfl,?_⟩
 refine⟨_,rfl,?_⟩
 refine⟨[],_,_,_,_,h.new' (n:=lk) hk rfl,rfl,rfl,?_⟩
 refine⟨Za rfl,?_⟩
 refine⟨[i64 t,i64 mode,i64 pad,bool back],rfl,rfl,?_⟩
 refine⟨[],_,_,_,_,c_cloneZ (l:=iv) rfl rfl (by omega),rfl,rfl,?_⟩
 refine⟨Za rfl,?_⟩
 refine⟨Za rfl,?_⟩
 refine⟨Za rfl,?_⟩
 refine⟨[.k 0],_,_,_,_,c_cxbeginA h (op:=false) ok,rfl,rfl,?_⟩
 exact⟨_,rfl,[.k 0,.d 40 1,.d 40 2,.d 40 3],rfl,⟨_,rfl,rfl⟩,⟨_,rfl,rfl⟩,⟨_,rfl,rfl⟩,⟨_,rfl,rfl⟩,trivial⟩
theorem c_cxneedA:Con C N.ctx_Ctx_need [.p (.k 0) 0] [cxX false false 0 0 0 false nilp nilv nilp nilv nilv] (.pan (.i tRef (i64 6))) [cxX false false 0 0 0 false nilp nilv nilp nilv nilv]:=by
 refine fd.ctx_Ctx_need.c ?_
 refine⟨_,rfl,?_⟩
 refine⟨[],_,_,_,_,c_refuse (e:=6) (by decide),rfl,rfl,?_⟩
 exact⟨_,rfl,[.k 0],rfl,⟨_,rfl,rfl⟩,trivial⟩
def cxN (g most L:Nat):Nat:=(L-most+(g-1))/g
theorem cxN_lt {g most L i:Nat} (hg:0<g):i<cxN g most L↔most+g*i<L:=by
 unfold cxN
 rw[Nat.lt_iff_add_one_le,Nat.le_div_iff_mul_le hg,Nat.add_mul,Nat.one_mul,Nat.mul_comm i g]
 omega
theorem cxN_le {g most L:Nat} (hg:0<g) (hm:g-1≤most):g*cxN g most L≤L:=by
 by_cases h:cxN g most L=0
 ·rw[h];omega
 ·have:=(cxN_lt (most:=most) (L:=L) (i:=cxN g most L-1) hg).1 (by omega)
  have e:g*cxN g most L=g*(cxN g most L-1)+g:=by
   obtain⟨k,hk⟩:∃k,cxN g most L=k+1:=⟨cxN g most L-1,by omega⟩
   rw[hk,Zx,Zu]
  omega
theorem cxN_add {g most L m:Nat} (hg:0<g) (hm:g-1≤most):cxN g most (L+m)=cxN g most L+cxN g most (L-g*cxN g most L+m):=by
 have hle:=cxN_le (L:=L) hg hm
 refine Zs ?_ ?_
 ·refine Zm fun h=> ?_
  have h1:=(cxN_lt hg).1 h
  rw[Nat.mul_add]at h1
  have h2:=(cxN_lt (most:=most) (L:=L-g*cxN g most L+m) (i:=cxN g most (L-g*cxN g most L+m)) hg).2 (by omega)
  exact absurd h2 (Z2 _)
 ·by_cases h0:cxN g most (L-g*cxN g most L+m)=0
  ·rw[h0,Z5]
   refine Zm fun h=> ?_
   have h1:=(cxN_lt hg).1 h
   have h2:=(cxN_lt (most:=most) (L:=L) (i:=cxN g most (L+m)) hg).1 h
   have h3:=(cxN_lt (most:=most) (L:=L+m) (i:=cxN g most (L+m)) hg).2 (by omega)
   exact absurd h3 (Z2 _)
  ·obtain⟨k,hk⟩:∃k,cxN g most (L-g*cxN g most L+m)=k+1:=⟨cxN g most (L-g*cxN g most L+m)-1,by omega⟩
   rw[hk]
   have h1:=(cxN_lt (most:=most) (L:=L-g*cxN g most L+m) (i:=k) hg).1 (by omega)
   have h2:=(cxN_lt (most:=most) (L:=L+m) (i:=cxN g most L+k) hg).2 (by rw[Nat.mul_add];omega)
   omega
theorem cxMd_is {n:Nat} {mode pad:Int} {iv:Bs} (ok:shOk n mode pad iv):(7≤mode∧cxMd mode=2)∨(mode≤6∧cxMd mode=mode):=by
 unfold cxMd
 by_cases h7:7≤mode
 ·exact .inl ⟨h7,if_pos h7⟩
 ·exact .inr ⟨by omega,if_neg h7⟩
theorem cx_grain {n:Nat} {mode pad:Int} {iv:Bs} {back:Bool} (hn:0<n) (ok:shOk n mode pad iv):
  0<moGrain n (cxMd mode)∧moGrain n (cxMd mode)-1≤cxMost n (cxMd mode) mode pad back∧(moGrain n (cxMd mode)=n∧cxMd mode≤2∨moGrain n (cxMd mode)=1∧3≤cxMd mode∧mode≤6):=by
 have hm:=ok.1
 rcases cxMd_is ok with ⟨h1,h2⟩|⟨h1,h2⟩
 ·rw[h2]
  refine⟨hn,?_,.inl ⟨rfl,by decide⟩⟩
  show n-1≤_
  unfold cxMost
  rw[if_neg (by decide),if_pos h1];omega
 ·rw[h2]
  unfold moGrain cxMost
  by_cases h3:3≤mode
  ·rw[if_neg (by omega),if_pos h3];exact⟨by omega,by omega,.inr ⟨rfl,h3,h1⟩⟩
  ·rw[if_pos (by omega),if_neg h3,if_neg (by omega)]
   refine⟨hn,?_,.inl ⟨rfl,by omega⟩⟩
   split<;>omega
def cxFr (n:Nat) (mode pad:Int) (back:Bool) (L:Nat):Nat:=moGrain n (cxMd mode)*cxN (moGrain n (cxMd mode)) (cxMost n (cxMd mode) mode pad back) L
def cxSt (E D:Bs→Bs) (n:Nat) (mode pad:Int) (back:Bool) (iv M:Bs):Bs×MS:=moStep E D n (cxMd mode) back ⟨iv,[],[]⟩ (M.take (cxFr n mode pad back M.length))
def cxH (n:Nat) (mode pad:Int) (back:Bool) (M:Bs):Bs:=M.drop (cxFr n mode pad back M.length)
def cxLa (E D:Bs→Bs) (n:Nat) (mode pad:Int) (back:Bool) (iv M:Bs):Bs:=cxLast n mode back (M.take (cxFr n mode pad back M.length)) (cxSt E D n mode pad back iv M).1 iv
theorem cxFr_ok {n:Nat} {mode pad:Int} {iv:Bs} {back:Bool} (hn:0<n) (ok:shOk n mode pad iv) (L:Nat):cxFr n mode pad back L≤L∧cxFr n mode pad back L%moGrain n (cxMd mode)=0:=by
 obtain⟨g0,g1,g2⟩:=cx_grain (back:=back) hn ok
 exact⟨cxN_le g0 g1,Zy _ _⟩
theorem cxFr_add {n:Nat} {mode pad:Int} {iv:Bs} {back:Bool} (hn:0<n) (ok:shOk n mode pad iv) (L m:Nat):cxFr n mode pad back (L+m)=cxFr n mode pad back L+cxFr n mode pad back (L-cxFr n mode pad back L+m):=by
 obtain⟨g0,g1,g2⟩:=cx_grain (back:=back) hn ok
 unfold cxFr
 rw[cxN_add g0 g1,Nat.mul_add]
theorem cxH_len {n:Nat} {mode pad:Int} {back:Bool} (M:Bs):(cxH n mode pad back M).length=M.length-cxFr n mode pad back M.length:=by
 unfold cxH;rw[Ze]
theorem cx_told {E D:Bs→Bs} {n:Nat} {mode pad:Int} {iv M:Bs} {back:Bool} (h:CI E D n) (hn:0<n) (ok:shOk n mode pad iv):(cxSt E D n mode pad back iv M).1.length=cxFr n mode pad back M.length:=by
 obtain⟨f1,f2⟩:=cxFr_ok (back:=back) hn ok M.length
 have lt:(M.take (cxFr n mode pad back M.length)).length=cxFr n mode pad back M.length:=by rw[Zd];omega
 unfold cxSt
 rw[moStep_len h (ms_ok (cxMd_ok ok).1 (cxMd_ok ok).2) (by rw[lt];exact f2),lt]
theorem cx_take {A b:Bs} {F a:Nat} (h:F≤A.length):A.take F++(A.drop F++b).take a=(A++b).take (F+a):=by
 have e:A++b=A.take F++(A.drop F++b):=by rw[←Zz,Zj]
 rw[e]
 generalize A.drop F++b=R
 rw[List.take_append,Zd,Nat.min_eq_left h,Z0,List.take_of_length_le (show (A.take F).length≤F+a by rw[Zd];omega)]
theorem cx_drop {A b:Bs} {F a:Nat} (h:F≤A.length):(A.drop F++b).drop a=(A++b).drop (F+a):=by
 have e:A++b=A.take F++(A.drop F++b):=by rw[←Zz,Zj]
 rw[e]
 generalize A.drop F++b=R
 rw[Z1,Zd,Nat.min_eq_left h,Z0,Zw (show (A.take F).length≤F+a by rw[Zd];omega),Zi]
theorem cx_upd {E D:Bs→Bs} {n:Nat} {mode pad:Int} {iv M b:Bs} {back:Bool} {a:Nat} (h:CI E D n) (hn:0<n) (ok:shOk n mode pad iv) (ha:a=cxFr n mode pad back ((cxH n mode pad back M).length+b.length)):
  cxSt E D n mode pad back iv (M++b)=((cxSt E D n mode pad back iv M).1++(moStep E D n (cxMd mode) back (cxSt E D n mode pad back iv M).2 ((cxH n mode pad back M++b).take a)).1,(moStep E D n (cxMd mode) back (cxSt E D n mode pad back iv M).2 ((cxH n mode pad back M++b).take a)).2)
  ∧cxLast n mode back ((cxH n mode pad back M++b).take a) (moStep E D n (cxMd mode) back (cxSt E D n mode pad back iv M).2 ((cxH n mode pad back M++b).take a)).1 (cxLa E D n mode pad back iv M)=cxLa E D n mode pad back iv (M++b)
  ∧(cxH n mode pad back M++b).drop a=cxH n mode pad back (M++b):=by
 obtain⟨f1,f2⟩:=cxFr_ok (back:=back) hn ok M.length
 obtain⟨g0,g1,g2⟩:=cx_grain (back:=back) hn ok
 have hF:cxFr n mode pad back (M++b).length=cxFr n mode pad back M.length+a:=by
  rw[Zb,cxFr_add hn ok,ha,cxH_len]
 have ha1:=cxFr_ok (back:=back) hn ok ((cxH n mode pad back M).length+b.length)
 rw[←ha,cxH_len]at ha1
 have lb:((cxH n mode pad back M++b).take a).length=a:=by rw[Zd,Zb,cxH_len];omega
 have lt:(M.take (cxFr n mode pad back M.length)).length=cxFr n mode pad back M.length:=by rw[Zd];omega
 have eT:(M++b).take (cxFr n mode pad back (M++b).length)=M.take (cxFr n mode pad back M.length)++(cxH n mode pad back M++b).take a:=by
  rw[hF];unfold cxH;rw[cx_take f1]
 have eS:cxSt E D n mode pad back iv (M++b)=((cxSt E D n mode pad back iv M).1++(moStep E D n (cxMd mode) back (cxSt E D n mode pad back iv M).2 ((cxH n mode pad back M++b).take a)).1,(moStep E D n (cxMd mode) back (cxSt E D n mode pad back iv M).2 ((cxH n mode pad back M++b).take a)).2):=by
  show moStep E D n (cxMd mode) back ⟨iv,[],[]⟩ ((M++b).take (cxFr n mode pad back (M++b).length))=_
  rw[eT,moStep_app hn (by rw[lt];exact f2) (by rw[lb];exact ha1.2)]
  rfl
 have lT:=cx_told (back:=back) (M:=M) h hn ok
 refine⟨eS,?_,?_⟩
 ·show _=cxLast n mode back ((M++b).take (cxFr n mode pad back (M++b).length)) (cxSt E D n mode pad back iv (M++b)).1 iv
  rw[eS,eT]
  have K:MOk n (cxMd mode) (cxSt E D n mode pad back iv M).2:=moStep_ok h hn (ms_ok (cxMd_ok ok).1 (cxMd_ok ok).2)
  have lo:(moStep E D n (cxMd mode) back (cxSt E D n mode pad back iv M).2 ((cxH n mode pad back M++b).take a)).1.length=a:=by
   rw[moStep_len h K (by rw[lb];exact ha1.2),lb]
  simp only
  generalize moStep E D n (cxMd mode) back (cxSt E D n mode pad back iv M).2 ((cxH n mode pad back M++b).take a)=o at*
  unfold cxLa
  generalize (cxH n mode pad back M++b).take a=c at*
  generalize (cxSt E D n mode pad back iv M).1=T at*
  generalize M.take (cxFr n mode pad back M.length)=A at*
  generalize cxFr n mode pad back M.length=F at*
  unfold cxLast
  rw[lb,lt,Zb,lt,lb]
  by_cases h7:7≤mode
  ·have gn:moGrain n (cxMd mode)=n:=by
    rcases cxMd_is ok with ⟨_,h2⟩|⟨h1,_⟩
    ·rw[h2];rfl
    ·omega
   rw[gn]at ha1
   by_cases ha0:n≤a
   ·rw[if_pos (show 7≤mode∧n≤a from ⟨h7,ha0⟩),if_pos (show 7≤mode∧n≤F+a from ⟨h7,by omega⟩)]
    cases back
    ·simp only[Bool.false_eq_true,if_false]
     rw[Z1,lT,Zw (show T.length≤F+a-n by omega),Zi,show F+a-n-F=a-n by omega]
    ·simp only[if_true]
     rw[Z1,lt,Zw (show A.length≤F+a-n by omega),Zi,show F+a-n-F=a-n by omega]
   ·have a0:a=0:=by
     rcases Nat.eq_zero_or_pos a with h0|h0
     ·exact h0
     ·exact absurd (Z3 h0 (Zl ha1.2)) ha0
    subst a0
    obtain rfl:=Zc lb
    rw[if_neg (show ¬(7≤mode∧n≤0) by omega),Z5,List.append_nil,Zc lo,List.append_nil]
  ·rw[if_neg (show ¬(7≤mode∧n≤a) by omega),if_neg (show ¬(7≤mode∧n≤F) by omega),if_neg (show ¬(7≤mode∧n≤F+a) by omega)]
 ·show _=(M++b).drop (cxFr n mode pad back (M++b).length)
  rw[hF]
  exact cx_drop f1
def cxEnd (E D:Bs→Bs) (n:Nat) (mode pad:Int) (back:Bool) (st:MS) (last H:Bs):Bs×Int:=
 if 7≤mode then (if H.length<n then ([],7)else (stT E D n mode back last H,0))
 else if pad=4 then (if H.length%moGrain n (cxMd mode)=0 then ((moStep E D n (cxMd mode) back st H).1,0)else ([],7))
 else if back=false then ((moStep E D n (cxMd mode) back st (pdAdd pad n H)).1,0)
 else if H.length=n then (if pdLong pad (moStep E D n (cxMd mode) back st H).1=0 then ([],8)else (pdStrip pad (moStep E D n (cxMd mode) back st H).1,0))
 else ([],7)
theorem cx_front {n L:Nat} (hn:0<n):n*((L-2*n+(n-1))/n)=frontN n L:=by
 unfold frontN
 by_cases h:2*n≤L
 ·rw[show L-2*n+(n-1)=L-n-1 by omega]
 ·rw[show L-2*n+(n-1)=n-1 by omega,Zq (by omega),Zq (by omega)]
theorem cx_end {E D:Bs→Bs} {n:Nat} {mode pad:Int} {iv M:Bs} {back:Bool} (h:CI E D n) (hn:0<n) (ok:shOk n mode pad iv) {r:Bs×Int}
  (hr:r=cxEnd E D n mode pad back (cxSt E D n mode pad back iv M).2 (cxLa E D n mode pad back iv M) (cxH n mode pad back M)):
  shP E D n mode pad back iv M=(if r.2=0 then (cxSt E D n mode pad back iv M).1++r.1 else [],r.2)∧(r.2≠0→r.1=[]):=by
 obtain⟨f1,f2⟩:=cxFr_ok (back:=back) hn ok M.length
 have lT:=cx_told (back:=back) (M:=M) h hn ok
 have lt:(M.take (cxFr n mode pad back M.length)).length=cxFr n mode pad back M.length:=by rw[Zd];omega
 have lH:=cxH_len (n:=n) (mode:=mode) (pad:=pad) (back:=back) M
 have hd:=Nat.div_add_mod M.length n
 have hm:=Nat.mod_lt M.length hn
 unfold cxEnd at hr
 unfold shP
 by_cases h7:7≤mode
 ·have e2:cxMd mode=2:=if_pos h7
  have eF:cxFr n mode pad back M.length=frontN n M.length:=by
   unfold cxFr cxN cxMost
   rw[e2,if_neg (by decide),if_pos h7]
   exact cx_front hn
  have hiv:iv.length=n:=by have:=ok.2.2.2;rw[if_neg (by omega)]at this;exact this
  rw[if_pos h7]at hr
  rw[if_pos h7]
  unfold shSt
  by_cases hl:M.length<n
  ·have:frontN n M.length=0:=by rw[←eF];have:=Zl f2;rw[e2,grain_2]at this;rcases Nat.eq_zero_or_pos (cxFr n mode pad back M.length)with h0|h0;exact h0;have:=Z3 h0 this;omega
   rw[if_pos (by omega)]at hr
   rw[if_pos hl,hr]
   exact⟨rfl,fun _=>rfl⟩
  ·obtain⟨a1,a2,a3,a4,a5⟩:=frontN_ok hn (by omega:n≤M.length)
   rw[if_neg (by omega)]at hr
   rw[if_neg hl,hr]
   refine⟨?_,fun hh=>absurd rfl hh⟩
   simp only[if_true]
   have e1:cxSt E D n mode pad back iv M=moStep E D n 2 back ⟨iv,[],[]⟩ (M.take (frontN n M.length)):=by unfold cxSt;rw[e2,eF]
   have eL:cxLa E D n mode pad back iv M=shLast n back iv M (moStep E D n 2 back ⟨iv,[],[]⟩ (M.take (frontN n M.length))).1:=by
    unfold cxLa cxLast shLast
    rw[e1,eF]
    rw[eF]at lt
    rw[lt]
    by_cases h0:frontN n M.length=0
    ·rw[if_pos h0,if_neg (by omega)]
    ·rw[if_neg h0,if_pos (show 7≤mode∧n≤frontN n M.length from ⟨h7,by omega⟩)]
     cases back
     ·rfl
     ·simp only[if_true]
      unfold sub
      rw[List.drop_take,show frontN n M.length-(frontN n M.length-n)=n by omega]
   have eH:cxH n mode pad back M=M.drop (frontN n M.length):=by unfold cxH;rw[eF]
   rw[eL,e1,eH]
 ·have e2:cxMd mode=mode:=if_neg h7
  rw[if_neg h7]at hr
  rw[if_neg h7]
  rw[e2]at hr f2
  have K0:MOk n mode ⟨iv,[],[]⟩:=ms_ok (by have:=ok.1;omega) ok.2.2.2
  by_cases h4:pad=4
  ·rw[if_pos h4]at hr
   rw[if_pos h4]
   have hiff:(cxH n mode pad back M).length%moGrain n mode=M.length%moGrain n mode:=by
    rw[lH]
    obtain⟨q,hq⟩:=Zl f2
    rw[hq,Nat.sub_mul_mod (by omega)]
   rw[hiff]at hr
   by_cases hz:M.length%moGrain n mode=0
   ·rw[if_pos hz]at hr
    rw[if_pos hz,hr]
    refine⟨?_,fun hh=>absurd rfl hh⟩
    simp only[if_true]
    have:=moStep_app (E:=E) (D:=D) (mode:=mode) (back:=back) (s:=⟨iv,[],[]⟩) (a:=M.take (cxFr n mode pad back M.length)) (b:=cxH n mode pad back M) hn (by rw[lt];exact f2) (by rw[hiff];exact hz)
    unfold cxH at this ⊢
    rw[Zj]at this
    unfold cxSt
    rw[this,e2]
   ·rw[if_neg hz]at hr
    rw[if_neg hz,hr]
    exact⟨rfl,fun _=>rfl⟩
  ·have hm2:mode≤2:=ok.2.2.1.resolve_left h4
   have gn:moGrain n mode=n:=if_pos (by have:=ok.1;omega)
   rw[gn]at f2
   rw[if_neg h4]at hr
   rw[if_neg h4]
   cases back
   ·rw[if_pos rfl]at hr
    rw[if_pos rfl,hr]
    refine⟨?_,fun hh=>absurd rfl hh⟩
    simp only[if_true]
    have eF:cxFr n mode pad false M.length=M.length-M.length%n:=by
     unfold cxFr cxN cxMost
     rw[e2,gn,if_neg (by omega),if_neg h7,if_neg (by simp)]
     by_cases hl:n-1≤M.length
     ·rw[Nat.sub_add_cancel hl];omega
     ·rw[show M.length-(n-1)+(n-1)=n-1 by omega,Zq (by omega),Nat.mod_eq_of_lt (by omega)];omega
    have lp:(pdAdd pad n (M.drop (M.length-M.length%n))).length=n:=pdAdd_len (by rw[Ze];omega)
    rw[eF]at lt f2
    unfold padUp cxSt cxH
    rw[e2,eF]
    rw[moStep_app hn (by rw[lt,gn];exact f2) (by rw[lp,gn,Zk])]
   ·rw[if_neg (by decide)]at hr
    rw[if_neg (by decide)]
    have eF:cxFr n mode pad true M.length=n*((M.length-n+(n-1))/n):=by
     unfold cxFr cxN cxMost
     rw[e2,gn,if_neg (by omega),if_neg h7,if_pos ⟨h4,rfl⟩]
    have hHn:(cxH n mode pad true M).length=n↔¬(M.length=0∨M.length%n≠0):=by
     rw[lH]
     rcases Nat.lt_or_ge M.length n with hl|hl
     ·rw[Nat.mod_eq_of_lt hl]
      have:cxFr n mode pad true M.length=0:=by
       rw[eF,Zq (by omega),Nat.mul_zero]
      omega
     ·constructor
      ·intro he
       have:M.length=n+cxFr n mode pad true M.length:=by omega
       rw[this,Nat.add_mod_left,f2]
       omega
      ·intro hno
       have hz:M.length%n=0:=Classical.byContradiction fun hh=>hno (.inr hh)
       obtain⟨q,hq⟩:=Zl hz
       have hq0:q≠0:=fun h0=>by rw[h0,Nat.mul_zero]at hq;omega
       obtain⟨p,rfl⟩:∃p,q=p+1:=⟨q-1,by omega⟩
       rw[Zu]at hq
       rw[eF,hq,Zx,Nat.mul_add_div hn,Zq (by omega:n-1<n),Z5]
       omega
    by_cases hb:M.length=0∨M.length%n≠0
    ·rw[if_neg (fun hh=>(hHn.1 hh) hb)]at hr
     rw[if_pos hb,hr]
     exact⟨rfl,fun _=>rfl⟩
    ·have hHl:=hHn.2 hb
     rw[if_pos hHl]at hr
     rw[if_neg hb]
     simp only
     have hap:=moStep_app (E:=E) (D:=D) (mode:=mode) (back:=true) (s:=⟨iv,[],[]⟩) (a:=M.take (cxFr n mode pad true M.length)) (b:=cxH n mode pad true M) hn (by rw[lt,gn];exact f2) (by rw[hHl,gn,Zk])
     have eM:M.take (cxFr n mode pad true M.length)++cxH n mode pad true M=M:=by unfold cxH;exact Zj _ _
     rw[eM]at hap
     have e1:cxSt E D n mode pad true iv M=moStep E D n mode true ⟨iv,[],[]⟩ (M.take (cxFr n mode pad true M.length)):=by unfold cxSt;rw[e2]
     rw[←e1]at hap
     have lo:(moStep E D n mode true (cxSt E D n mode pad true iv M).2 (cxH n mode pad true M)).1.length=n:=by
      rw[moStep_len h (by rw[e1];exact moStep_ok h hn K0) (by rw[hHl,gn,Zk]),hHl]
     rw[hap]
     simp only
     generalize (moStep E D n mode true (cxSt E D n mode pad true iv M).2 (cxH n mode pad true M)).1=o at*
     generalize (cxSt E D n mode pad true iv M).1=T at*
     rw[Zb,lo,Zx,List.drop_left,List.take_left]
     by_cases hp:pdLong pad o=0
     ·rw[if_pos hp]at hr
      rw[if_pos hp,hr]
      exact⟨rfl,fun _=>rfl⟩
     ·rw[if_neg hp]at hr
      rw[if_neg hp,hr]
      exact⟨rfl,fun hh=>absurd rfl hh⟩
theorem chk_t {b:Bool} {P:Prop} (h:b=true) (p:P):chk b P:=by rw[h];exact p
theorem ck_s {i:Inf} {d:Option Nat} {T:Nat→V} {H Hr:Hp} {id:Id} {b:B} {r:List (Id×B)} (h:H id=some b) (hr:(Hr id).isSome=true) (h2:i.ck d T H Hr r=true):i.ck d T H Hr ((id,b)::r)=true:=by
 unfold Inf.ck sameO
 rw[hr,h2]
 simp[h]
theorem c_cloneO {n:Nat} {va:List Value} {l:Bs} (ha:va=bv l) (hn:l.length=n) (hm:n≤1073741824):Con C N.slices_Clone_byte [.z n va] [] (.ret (.o 1 (.k 0) 0 n)) [.sc (bv l)]:=by
 by_cases h0:0<n
 ·exact c_cloneB ha hn h0 hm
 ·subst ha
  obtain rfl:n=0:=(by omega)
  obtain rfl:=Zc hn
  refine fd.slices_Clone_byte.n ?_
  refine .inr ⟨?_,?_⟩
  ·exact⟨[(2,1,.sc [])],_,rfl,[.d 900000 0],rfl,⟨_,rfl,rfl⟩,trivial⟩
  ·refine⟨rfl,by decide,by decide,?_⟩
   exact⟨[],_,rfl,[.d 7 0],rfl,⟨_,rfl,rfl⟩,trivial⟩
theorem c_cxupd {t key s k xs rs} (h:Ciph t key s k xs rs) {mode pad md:Int} {back:Bool} {iv last b:Bs} {st:MS} {x:HK} {m L n0 at':Nat} (hx:x= .n∨∃H,x= .o H) (hb:b.length=m) (hL:x.l.length+m=L) (hLb:L≤100000) (K:MK s md st) (hm:mode≤9)
  (hN:n0=cxN (moGrain s md) (cxMost s md mode pad back) L) (hat:at'=moGrain s md*n0) (hne:0<at'∨st.row=[]):
  Con C N.ctx_Ctx_Update [.p (.k 0) 0,.z m (bv b)] [cxO true t mode pad back k xs iv x last,moX (cipV t k xs) md back st 2,gnB st.row st.gone,x.b]
   (.ret (.t [.z at' (bv (moStep (cF t key false) (cF t key true) s md back st ((x.l++b).take at')).1),i64 0]))
   [cxX true true t mode pad back (cipV t k xs) (.z iv.length (bv iv)) (.p (.k 1) 0) (.o 1 (.k 5) 0 (L-at')) (.z (cxLast s mode back ((x.l++b).take at') (moStep (cF t key false) (cF t key true) s md back st ((x.l++b).take at')).1 last).length (bv (cxLast s mode back ((x.l++b).take at') (moStep (cF t key false) (cF t key true) s md back st ((x.l++b).take at')).1 last))),
    moX (cipV t k xs) md back (moStep (cF t key false) (cF t key true) s md back st ((x.l++b).take at')).2 4,.dead,.dead,gnB (moStep (cF t key false) (cF t key true) s md back st ((x.l++b).take at')).2.row (moStep (cF t key false) (cF t key true) s md back st ((x.l++b).take at')).2.gone,.sc (bv ((x.l++b).drop at'))]:=by
 have hs:=h.s_le
 have hg0:0<moGrain s md:=by unfold moGrain;split<;>omega
 have hgm:moGrain s md-1≤cxMost s md mode pad back:=by
  have:=K.ok.m
  unfold moGrain cxMost
  by_cases h3:3≤md
  ·rw[if_neg (by omega),if_pos h3];omega
  ·rw[if_pos (by omega),if_neg h3];split<;>(try split)<;>omega
 have hle:=cxN_le (L:=L) hg0 hgm
 have hlt:=fun i=>cxN_lt (most:=cxMost s md mode pad back) (L:=L) (i:=i) hg0
 rw[←hN]at hle hlt
 have G:=c_grainA h (back:=back) K
 have hz:at'%moGrain s md=0:=by rw[hat];exact Zy _ _
 have lB:(x.l++b).length=L:=by rw[Zb,hb,hL]
 have lT:((x.l++b).take at').length=at':=by rw[Zd];omega
 have lD:((x.l++b).drop at').length=L-at':=by rw[Ze,lB]
 have NE:=c_cxneed (t:=t) (mode:=mode) (pad:=pad) (md:=md) (back:=back) (k:=k) (xs:=xs) (iv:=iv) (last:=last) (st:=st) (x:=x)
 have MO:∀(n':Nat) (vb:List Value),(∃H:Bs,n'=H.length∧vb=bv H)→Con C N.ctx_Ctx_most [.p (.k 0) 0] [cxX true true t mode pad back (cipV t k xs) (.z iv.length (bv iv)) (.p (.k 1) 0) (.o 1 (.k 3) 0 n') (.z last.length (bv last)),moX (cipV t k xs) md back st 2,gnB st.row st.gone,.sc vb] (.ret (i64 (cxMost s md mode pad back))) [cxX true true t mode pad back (cipV t k xs) (.z iv.length (bv iv)) (.p (.k 1) 0) (.o 1 (.k 3) 0 n') (.z last.length (bv last)),moX (cipV t k xs) md back st 2,gnB st.row st.gone,.sc vb]:=by
  rintro _ _ ⟨H,rfl,rfl⟩
  exact c_cxmost h (mode:=mode) (pad:=pad) (op:=true) (back:=back) (iv:=iv) (last:=last) (x:= .o H) K hm
 have TU:=c_cxturn h (op:=true) (back:=back) (pad:=pad) (iv:=iv) (last:=last) (H:=x.l++b) (b:=(x.l++b).take at') lT (by omega) K hm hz hne
 generalize moStep (cF t key false) (cF t key true) s md back st ((x.l++b).take at')=S0 at*
 obtain⟨o,c1,row1,g1⟩:=S0
 dsimp only[cxO,HK.v,HK.b]at TU ⊢
 rw[lB]at TU
 generalize cxLast s mode back ((x.l++b).take at') o last=la at*
 generalize hgr:moGrain s md=gr at*
 generalize cxMost s md mode pad back=mo at*
 obtain⟨ch,row,g⟩:=st
 rcases hx with rfl|⟨H,rfl⟩<;>dsimp only[HK.l,HK.v,HK.b,Zi]at*
 ·have hmL:m=L:=by simpa using hL
  refine fd.ctx_Ctx_Update.d caughtOk ?_
  refine⟨⟨[(0,.p (.k 0) 0),(1,.z m (bv b)),(4,.p (.k 4) 0),(5,.p (.k 5) 0)],[cxX true true t mode pad back (cipV t k xs) (.z iv.length (bv iv)) (.p (.k 1) 0) (nilv) (.z last.length (bv last)),moX (cipV t k xs) md back ⟨ch,row,g⟩ 2,gnB row g,.dead,.sc [.slice none 0 0],.sc [.int .i64 0]]⟩,4,5,by decide,⟨[.k 0,.k 1,.k 2,.k 3,.d 4 0,.d 5 0],⟨rfl,rfl,rfl,rfl,trivial⟩,⟨_,rfl,rfl⟩,⟨_,rfl,by cases row<;>rfl⟩,⟨_,rfl,by cases row<;>rfl⟩,⟨_,rfl,rfl⟩,⟨_,rfl,rfl⟩,⟨_,rfl,rfl⟩,trivial⟩,rfl,rfl,rfl,?_⟩
  refine⟨0,Nat,fun i=>⟨[(0,.p (.k 0) 0),(4,.p (.k 4) 0),(5,.p (.k 5) 0),(6,i64 (gr*i:Nat)),(7,i64 mo),(8,i64 gr)],[cxX true true t mode pad back (cipV t k xs) (.z iv.length (bv iv)) (.p (.k 1) 0) (.z L (bv b)) (.z last.length (bv last)),moX (cipV t k xs) md back ⟨ch,row,g⟩ 2,gnB row g,.dead,.sc [.slice none 0 0],.sc [.int .i64 0]]⟩,fun i=>i≤n0,fun i=>n0-i,?_,fun i hi=> ?_⟩
  ·rcases row with _|⟨a,r⟩
   all_goals
    refine⟨[.k 0,.k 1,.k 2,.k 3],_,_,_,_,NE,rfl,rfl,?_⟩
    refine⟨_,rfl,?_⟩
    refine⟨by rw[bv_len,hb],by omega,?_⟩
    refine⟨Za rfl,?_⟩
    refine⟨[.k 0,.k 1,.k 2,.d 17 0],_,_,_,_,MO (m) (bv b) ⟨b,hb.symm,rfl⟩,rfl,rfl,?_⟩
    refine chk_t rfl ?_
    refine chk_t (ck_s rfl rfl (ck_s rfl rfl (ck_s rfl rfl (ck_s rfl rfl rfl)))) ?_
    refine⟨_,rfl,?_⟩
    refine⟨[.k 1,.k 2],_,_,_,_,G,rfl,rfl,?_⟩
    refine⟨[],0,Zo _,[.k 0,.k 1,.k 2,.k 3,.k 4,.k 5],⟨rfl,rfl,rfl,rfl,rfl,rfl,trivial⟩,⟨_,rfl,?_⟩,⟨_,rfl,rfl⟩,⟨_,rfl,rfl⟩,⟨_,rfl,rfl⟩,⟨_,rfl,rfl⟩,⟨_,rfl,rfl⟩,trivial⟩
    show cxX true true t mode pad back (cipV t k xs) (.z iv.length (bv iv)) (.p (.k 1) 0) (.z (m) (sub (bv b) 0 (m))) (.z last.length (bv last))=_
    rw[bv_all hb,hmL]
  ·rcases row with _|⟨a,r⟩<;>rcases row1 with _|⟨a1,r1⟩
   all_goals
    have e1:gr*i≤L:=Zn (Zg gr hi) hle
    refine⟨_,rfl,?_⟩
    refine spl_d (fun hc=> ?_) (fun hc=> ?_)
    ·have hc':(mo:Int)<I6.wrap ((L:Int)-((gr*i:Nat):Int)):=hc
     rw[Zf _ (by omega)]at hc'
     have hli:i<n0:=(hlt i).2 (by omega)
     have hle2:gr*(i+1)≤L:=Zn (Zg gr hli) hle
     refine⟨rfl,i+1,hli,Zp _ _ hli,[.k 0,.k 1,.k 2,.k 3,.k 4,.k 5],⟨rfl,rfl,rfl,q7i ?_,rfl,rfl,trivial⟩,⟨_,rfl,rfl⟩,⟨_,rfl,rfl⟩,⟨_,rfl,rfl⟩,⟨_,rfl,rfl⟩,⟨_,rfl,rfl⟩,⟨_,rfl,rfl⟩,trivial⟩
     rw[Zu]at hle2 ⊢
     rw[Zf _ (by omega)]
     omega
    ·have hc':¬(mo:Int)<I6.wrap ((L:Int)-((gr*i:Nat):Int)):=hc
     rw[Zf _ (by omega)]at hc'
     obtain rfl:i=n0:=Zs hi (Zm fun hh=>by have:=(hlt i).1 hh;omega)
     refine⟨_,rfl,?_⟩
     refine⟨by omega,by omega,by omega,by omega,?_⟩
     refine⟨[.k 0,.k 1,.k 2,.k 3],_,_,_,_,TU,?_,rfl,?_⟩
     ·show[V.p (.k 0) 0,V.z ((gr*i:Nat):Int).toNat (sub (bv b) 0 ((gr*i:Nat):Int).toNat)]=_
      rw[Zh,←hat];exact congrArg (fun v=>[V.p (.k 0) 0,V.z at' v]) (bv_sub _ 0 at')
     refine⟨Za rfl,?_⟩
     refine⟨_,rfl,?_⟩
     refine⟨by omega,by omega,by omega,by omega,?_⟩
     refine⟨[],_,_,_,_,c_cloneO (n:=L-at') (l:=b.drop at') rfl lD (by omega),?_,rfl,?_⟩
     ·show[V.z (L-((gr*i:Nat):Int).toNat) (sub (bv b) ((gr*i:Nat):Int).toNat (L-((gr*i:Nat):Int).toNat))]=_
      rw[Zh,←hat,bv_dropN lB (by omega)]
     refine⟨Za rfl,?_⟩
     refine⟨_,rfl,?_⟩
     refine⟨Za rfl,?_⟩
     refine⟨Za rfl,?_⟩
     refine⟨_,rfl,_,rfl,?_⟩
     refine⟨_,_,?_,.ret (.refl _),WkBs.refl _⟩
     exact⟨_,rfl,[.k 0,.k 1,.k 2,.k 3,.d 46 4,.d 54 0],rfl,⟨_,rfl,rfl⟩,⟨_,rfl,rfl⟩,⟨_,rfl,rfl⟩,⟨_,rfl,rfl⟩,⟨_,rfl,rfl⟩,⟨_,rfl,rfl⟩,trivial⟩
 ·refine fd.ctx_Ctx_Update.d caughtOk ?_
  refine⟨⟨[(0,.p (.k 0) 0),(1,.z m (bv b)),(4,.p (.k 4) 0),(5,.p (.k 5) 0)],[cxX true true t mode pad back (cipV t k xs) (.z iv.length (bv iv)) (.p (.k 1) 0) (.o 1 (.k 3) 0 H.length) (.z last.length (bv last)),moX (cipV t k xs) md back ⟨ch,row,g⟩ 2,gnB row g,.sc (bv H),.sc [.slice none 0 0],.sc [.int .i64 0]]⟩,4,5,by decide,⟨[.k 0,.k 1,.k 2,.k 3,.d 4 0,.d 5 0],⟨rfl,rfl,rfl,rfl,trivial⟩,⟨_,rfl,rfl⟩,⟨_,rfl,by cases row<;>rfl⟩,⟨_,rfl,by cases row<;>rfl⟩,⟨_,rfl,rfl⟩,⟨_,rfl,rfl⟩,⟨_,rfl,rfl⟩,trivial⟩,rfl,rfl,rfl,?_⟩
  refine⟨0,Nat,fun i=>⟨[(0,.p (.k 0) 0),(4,.p (.k 4) 0),(5,.p (.k 5) 0),(6,i64 (gr*i:Nat)),(7,i64 mo),(8,i64 gr)],[cxX true true t mode pad back (cipV t k xs) (.z iv.length (bv iv)) (.p (.k 1) 0) (.z L (bv (H++b))) (.z last.length (bv last)),moX (cipV t k xs) md back ⟨ch,row,g⟩ 2,gnB row g,.dead,.sc [.slice none 0 0],.sc [.int .i64 0]]⟩,fun i=>i≤n0,fun i=>n0-i,?_,fun i hi=> ?_⟩
  ·rcases row with _|⟨a,r⟩
   all_goals
    refine⟨[.k 0,.k 1,.k 2,.k 3],_,_,_,_,NE,rfl,rfl,?_⟩
    refine⟨_,rfl,?_⟩
    refine⟨by rw[bv_len,hb],by omega,by rw[bv_len];omega,?_⟩
    refine⟨Za rfl,?_⟩
    refine⟨[.k 0,.k 1,.k 2,.d 17 0],_,_,_,_,MO (H.length+m) (sub (bv H) 0 (H.length*1)++bv b) ⟨(H++b),by rw[Zb,hb],by rw[Zt,bv_all rfl,bv_app]⟩,rfl,rfl,?_⟩
    refine chk_t rfl ?_
    refine chk_t (ck_s rfl rfl (ck_s rfl rfl (ck_s rfl rfl (ck_s rfl rfl rfl)))) ?_
    refine⟨_,rfl,?_⟩
    refine⟨[.k 1,.k 2],_,_,_,_,G,rfl,rfl,?_⟩
    refine⟨[],0,Zo _,[.k 0,.k 1,.k 2,.k 3,.k 4,.k 5],⟨rfl,rfl,rfl,rfl,rfl,rfl,trivial⟩,⟨_,rfl,?_⟩,⟨_,rfl,rfl⟩,⟨_,rfl,rfl⟩,⟨_,rfl,rfl⟩,⟨_,rfl,rfl⟩,⟨_,rfl,rfl⟩,trivial⟩
    show cxX true true t mode pad back (cipV t k xs) (.z iv.length (bv iv)) (.p (.k 1) 0) (.z (H.length+m) (sub (sub (bv H) 0 (H.length*1)++bv b) 0 (H.length+m))) (.z last.length (bv last))=_
    rw[Zt,bv_all rfl,bv_app,bv_all (by rw[Zb,hb]),hL]
  ·rcases row with _|⟨a,r⟩<;>rcases row1 with _|⟨a1,r1⟩
   all_goals
    have e1:gr*i≤L:=Zn (Zg gr hi) hle
    refine⟨_,rfl,?_⟩
    refine spl_d (fun hc=> ?_) (fun hc=> ?_)
    ·have hc':(mo:Int)<I6.wrap ((L:Int)-((gr*i:Nat):Int)):=hc
     rw[Zf _ (by omega)]at hc'
     have hli:i<n0:=(hlt i).2 (by omega)
     have hle2:gr*(i+1)≤L:=Zn (Zg gr hli) hle
     refine⟨rfl,i+1,hli,Zp _ _ hli,[.k 0,.k 1,.k 2,.k 3,.k 4,.k 5],⟨rfl,rfl,rfl,q7i ?_,rfl,rfl,trivial⟩,⟨_,rfl,rfl⟩,⟨_,rfl,rfl⟩,⟨_,rfl,rfl⟩,⟨_,rfl,rfl⟩,⟨_,rfl,rfl⟩,⟨_,rfl,rfl⟩,trivial⟩
     rw[Zu]at hle2 ⊢
     rw[Zf _ (by omega)]
     omega
    ·have hc':¬(mo:Int)<I6.wrap ((L:Int)-((gr*i:Nat):Int)):=hc
     rw[Zf _ (by omega)]at hc'
     obtain rfl:i=n0:=Zs hi (Zm fun hh=>by have:=(hlt i).1 hh;omega)
     refine⟨_,rfl,?_⟩
     refine⟨by omega,by omega,by omega,by omega,?_⟩
     refine⟨[.k 0,.k 1,.k 2,.k 3],_,_,_,_,TU,?_,rfl,?_⟩
     ·show[V.p (.k 0) 0,V.z ((gr*i:Nat):Int).toNat (sub (bv (H++b)) 0 ((gr*i:Nat):Int).toNat)]=_
      rw[Zh,←hat];exact congrArg (fun v=>[V.p (.k 0) 0,V.z at' v]) (bv_sub _ 0 at')
     refine⟨Za rfl,?_⟩
     refine⟨_,rfl,?_⟩
     refine⟨by omega,by omega,by omega,by omega,?_⟩
     refine⟨[],_,_,_,_,c_cloneO (n:=L-at') (l:=(H++b).drop at') rfl lD (by omega),?_,rfl,?_⟩
     ·show[V.z (L-((gr*i:Nat):Int).toNat) (sub (bv (H++b)) ((gr*i:Nat):Int).toNat (L-((gr*i:Nat):Int).toNat))]=_
      rw[Zh,←hat,bv_dropN lB (by omega)]
     refine⟨Za rfl,?_⟩
     refine⟨_,rfl,?_⟩
     refine⟨Za rfl,?_⟩
     refine⟨Za rfl,?_⟩
     refine⟨_,rfl,_,rfl,?_⟩
     refine⟨_,_,?_,.ret (.refl _),WkBs.refl _⟩
     exact⟨_,rfl,[.k 0,.k 1,.k 2,.k 3,.d 46 4,.d 54 0],rfl,⟨_,rfl,rfl⟩,⟨_,rfl,rfl⟩,⟨_,rfl,rfl⟩,⟨_,rfl,rfl⟩,⟨_,rfl,rfl⟩,⟨_,rfl,rfl⟩,trivial⟩
theorem c_cxupd0 {t key s k xs rs} (h:Ciph t key s k xs rs) {mode pad md:Int} {back:Bool} {iv last b:Bs} {st:MS} {x:HK} {m L n0 at':Nat} (hx:x= .n∨∃H,x= .o H) (hb:b.length=m) (hL:x.l.length+m=L) (hL0:L=0) (h3:3≤md) (K:MK s md st) (hm:mode≤9)
  (hN:n0=cxN (moGrain s md) (cxMost s md mode pad back) L) (hat:at'=moGrain s md*n0):
  Con C N.ctx_Ctx_Update [.p (.k 0) 0,.z m (bv b)] [cxO true t mode pad back k xs iv x last,moX (cipV t k xs) md back st 2,gnB st.row st.gone,x.b]
   (.ret (.t [.z 0 [],i64 0]))
   [cxX true true t mode pad back (cipV t k xs) (.z iv.length (bv iv)) (.p (.k 1) 0) (.o 1 (.k 4) 0 0) (.z last.length (bv last)),
    moX (cipV t k xs) md back st 2,gnB st.row st.gone,.dead,.sc []]:=by
 have hs:=h.s_le
 have hg0:0<moGrain s md:=by unfold moGrain;split<;>omega
 have hgm:moGrain s md-1≤cxMost s md mode pad back:=by
  have:=K.ok.m
  unfold moGrain cxMost
  by_cases h3:3≤md
  ·rw[if_neg (by omega),if_pos h3];omega
  ·rw[if_pos (by omega),if_neg h3];split<;>(try split)<;>omega
 have hLb:L≤100000:=by omega
 have hle:=cxN_le (L:=L) hg0 hgm
 have hlt:=fun i=>cxN_lt (most:=cxMost s md mode pad back) (L:=L) (i:=i) hg0
 rw[←hN]at hle hlt
 have G:=c_grainA h (back:=back) K
 have hz:at'%moGrain s md=0:=by rw[hat];exact Zy _ _
 have lB:(x.l++b).length=L:=by rw[Zb,hb,hL]
 have lT:((x.l++b).take at').length=at':=by rw[Zd];omega
 have lD:((x.l++b).drop at').length=L-at':=by rw[Ze,lB]
 have NE:=c_cxneed (t:=t) (mode:=mode) (pad:=pad) (md:=md) (back:=back) (k:=k) (xs:=xs) (iv:=iv) (last:=last) (st:=st) (x:=x)
 have MO:∀(n':Nat) (vb:List Value),(∃H:Bs,n'=H.length∧vb=bv H)→Con C N.ctx_Ctx_most [.p (.k 0) 0] [cxX true true t mode pad back (cipV t k xs) (.z iv.length (bv iv)) (.p (.k 1) 0) (.o 1 (.k 3) 0 n') (.z last.length (bv last)),moX (cipV t k xs) md back st 2,gnB st.row st.gone,.sc vb] (.ret (i64 (cxMost s md mode pad back))) [cxX true true t mode pad back (cipV t k xs) (.z iv.length (bv iv)) (.p (.k 1) 0) (.o 1 (.k 3) 0 n') (.z last.length (bv last)),moX (cipV t k xs) md back st 2,gnB st.row st.gone,.sc vb]:=by
  rintro _ _ ⟨H,rfl,rfl⟩
  exact c_cxmost h (mode:=mode) (pad:=pad) (op:=true) (back:=back) (iv:=iv) (last:=last) (x:= .o H) K hm
 have a0:at'=0:=by omega
 have TU:=fun(vb:List Value)=>c_cxturn0 h (op:=true) (back:=back) (pad:=pad) (iv:=iv) (last:=last) (H:=x.l++b) (st:=st) (vb:=vb) h3 hm
 dsimp only[cxO,HK.v,HK.b]at TU ⊢
 rw[lB]at TU
 generalize hgr:moGrain s md=gr at*
 generalize cxMost s md mode pad back=mo at*
 obtain⟨ch,row,g⟩:=st
 rcases hx with rfl|⟨H,rfl⟩<;>dsimp only[HK.l,HK.v,HK.b,Zi]at*
 ·have hmL:m=L:=by simpa using hL
  refine fd.ctx_Ctx_Update.d caughtOk ?_
  refine⟨⟨[(0,.p (.k 0) 0),(1,.z m (bv b)),(4,.p (.k 4) 0),(5,.p (.k 5) 0)],[cxX true true t mode pad back (cipV t k xs) (.z iv.length (bv iv)) (.p (.k 1) 0) (nilv) (.z last.length (bv last)),moX (cipV t k xs) md back ⟨ch,row,g⟩ 2,gnB row g,.dead,.sc [.slice none 0 0],.sc [.int .i64 0]]⟩,4,5,by decide,⟨[.k 0,.k 1,.k 2,.k 3,.d 4 0,.d 5 0],⟨rfl,rfl,rfl,rfl,trivial⟩,⟨_,rfl,rfl⟩,⟨_,rfl,by cases row<;>rfl⟩,⟨_,rfl,by cases row<;>rfl⟩,⟨_,rfl,rfl⟩,⟨_,rfl,rfl⟩,⟨_,rfl,rfl⟩,trivial⟩,rfl,rfl,rfl,?_⟩
  refine⟨0,Nat,fun i=>⟨[(0,.p (.k 0) 0),(4,.p (.k 4) 0),(5,.p (.k 5) 0),(6,i64 (gr*i:Nat)),(7,i64 mo),(8,i64 gr)],[cxX true true t mode pad back (cipV t k xs) (.z iv.length (bv iv)) (.p (.k 1) 0) (.z L (bv b)) (.z last.length (bv last)),moX (cipV t k xs) md back ⟨ch,row,g⟩ 2,gnB row g,.dead,.sc [.slice none 0 0],.sc [.int .i64 0]]⟩,fun i=>i≤n0,fun i=>n0-i,?_,fun i hi=> ?_⟩
  ·rcases row with _|⟨a,r⟩
   all_goals
    refine⟨[.k 0,.k 1,.k 2,.k 3],_,_,_,_,NE,rfl,rfl,?_⟩
    refine⟨_,rfl,?_⟩
    refine⟨by rw[bv_len,hb],by omega,?_⟩
    refine⟨Za rfl,?_⟩
    refine⟨[.k 0,.k 1,.k 2,.d 17 0],_,_,_,_,MO (m) (bv b) ⟨b,hb.symm,rfl⟩,rfl,rfl,?_⟩
    refine chk_t rfl ?_
    refine chk_t (ck_s rfl rfl (ck_s rfl rfl (ck_s rfl rfl (ck_s rfl rfl rfl)))) ?_
    refine⟨_,rfl,?_⟩
    refine⟨[.k 1,.k 2],_,_,_,_,G,rfl,rfl,?_⟩
    refine⟨[],0,Zo _,[.k 0,.k 1,.k 2,.k 3,.k 4,.k 5],⟨rfl,rfl,rfl,rfl,rfl,rfl,trivial⟩,⟨_,rfl,?_⟩,⟨_,rfl,rfl⟩,⟨_,rfl,rfl⟩,⟨_,rfl,rfl⟩,⟨_,rfl,rfl⟩,⟨_,rfl,rfl⟩,trivial⟩
    show cxX true true t mode pad back (cipV t k xs) (.z iv.length (bv iv)) (.p (.k 1) 0) (.z (m) (sub (bv b) 0 (m))) (.z last.length (bv last))=_
    rw[bv_all hb,hmL]
  ·rcases row with _|⟨a,r⟩
   all_goals
    have e1:gr*i≤L:=Zn (Zg gr hi) hle
    refine⟨_,rfl,?_⟩
    refine spl_d (fun hc=> ?_) (fun hc=> ?_)
    ·have hc':(mo:Int)<I6.wrap ((L:Int)-((gr*i:Nat):Int)):=hc
     rw[Zf _ (by omega)]at hc'
     have hli:i<n0:=(hlt i).2 (by omega)
     have hle2:gr*(i+1)≤L:=Zn (Zg gr hli) hle
     refine⟨rfl,i+1,hli,Zp _ _ hli,[.k 0,.k 1,.k 2,.k 3,.k 4,.k 5],⟨rfl,rfl,rfl,q7i ?_,rfl,rfl,trivial⟩,⟨_,rfl,rfl⟩,⟨_,rfl,rfl⟩,⟨_,rfl,rfl⟩,⟨_,rfl,rfl⟩,⟨_,rfl,rfl⟩,⟨_,rfl,rfl⟩,trivial⟩
     rw[Zu]at hle2 ⊢
     rw[Zf _ (by omega)]
     omega
    ·have hc':¬(mo:Int)<I6.wrap ((L:Int)-((gr*i:Nat):Int)):=hc
     rw[Zf _ (by omega)]at hc'
     obtain rfl:i=n0:=Zs hi (Zm fun hh=>by have:=(hlt i).1 hh;omega)
     refine⟨_,rfl,?_⟩
     refine⟨by omega,by omega,by omega,by omega,?_⟩
     refine⟨[.k 0,.k 1,.k 2,.k 3],_,_,_,_,TU [],?_,rfl,?_⟩
     ·show[V.p (.k 0) 0,V.z ((gr*i:Nat):Int).toNat (sub (bv b) 0 ((gr*i:Nat):Int).toNat)]=_
      rw[Zh,←hat,a0];rfl
     refine⟨Za rfl,?_⟩
     refine⟨_,rfl,?_⟩
     refine⟨by omega,by omega,by omega,by omega,?_⟩
     refine⟨[],_,_,_,_,c_cloneO (n:=L-at') (l:=b.drop at') rfl lD (by omega),?_,rfl,?_⟩
     ·show[V.z (L-((gr*i:Nat):Int).toNat) (sub (bv b) ((gr*i:Nat):Int).toNat (L-((gr*i:Nat):Int).toNat))]=_
      rw[Zh,←hat,bv_dropN lB (by omega)]
     refine⟨Za rfl,?_⟩
     refine⟨_,rfl,?_⟩
     refine⟨Za rfl,?_⟩
     refine⟨Za rfl,?_⟩
     refine⟨_,rfl,_,rfl,?_⟩
     refine⟨_,_,?_,.ret (.refl _),WkBs.refl _⟩
     refine⟨_,rfl,[.k 0,.k 1,.k 2,.k 3,.d 54 0],rfl,⟨_,rfl,?_⟩,⟨_,rfl,rfl⟩,⟨_,rfl,rfl⟩,⟨_,rfl,rfl⟩,⟨_,rfl,?_⟩,trivial⟩
     ·exact congrArg (fun z=>cxX true true t mode pad back (cipV t k xs) (.z iv.length (bv iv)) (.p (.k 1) 0) (.o 1 (.k 4) 0 z) (.z last.length (bv last))) (show L-at'=0 by omega)
     ·exact congrArg (fun z=>B.sc (bv z)) (Zc (by rw[lD];omega))
 ·refine fd.ctx_Ctx_Update.d caughtOk ?_
  refine⟨⟨[(0,.p (.k 0) 0),(1,.z m (bv b)),(4,.p (.k 4) 0),(5,.p (.k 5) 0)],[cxX true true t mode pad back (cipV t k xs) (.z iv.length (bv iv)) (.p (.k 1) 0) (.o 1 (.k 3) 0 H.length) (.z last.length (bv last)),moX (cipV t k xs) md back ⟨ch,row,g⟩ 2,gnB row g,.sc (bv H),.sc [.slice none 0 0],.sc [.int .i64 0]]⟩,4,5,by decide,⟨[.k 0,.k 1,.k 2,.k 3,.d 4 0,.d 5 0],⟨rfl,rfl,rfl,rfl,trivial⟩,⟨_,rfl,rfl⟩,⟨_,rfl,by cases row<;>rfl⟩,⟨_,rfl,by cases row<;>rfl⟩,⟨_,rfl,rfl⟩,⟨_,rfl,rfl⟩,⟨_,rfl,rfl⟩,trivial⟩,rfl,rfl,rfl,?_⟩
  refine⟨0,Nat,fun i=>⟨[(0,.p (.k 0) 0),(4,.p (.k 4) 0),(5,.p (.k 5) 0),(6,i64 (gr*i:Nat)),(7,i64 mo),(8,i64 gr)],[cxX true true t mode pad back (cipV t k xs) (.z iv.length (bv iv)) (.p (.k 1) 0) (.z L (bv (H++b))) (.z last.length (bv last)),moX (cipV t k xs) md back ⟨ch,row,g⟩ 2,gnB row g,.dead,.sc [.slice none 0 0],.sc [.int .i64 0]]⟩,fun i=>i≤n0,fun i=>n0-i,?_,fun i hi=> ?_⟩
  ·rcases row with _|⟨a,r⟩
   all_goals
    refine⟨[.k 0,.k 1,.k 2,.k 3],_,_,_,_,NE,rfl,rfl,?_⟩
    refine⟨_,rfl,?_⟩
    refine⟨by rw[bv_len,hb],by omega,by rw[bv_len];omega,?_⟩
    refine⟨Za rfl,?_⟩
    refine⟨[.k 0,.k 1,.k 2,.d 17 0],_,_,_,_,MO (H.length+m) (sub (bv H) 0 (H.length*1)++bv b) ⟨(H++b),by rw[Zb,hb],by rw[Zt,bv_all rfl,bv_app]⟩,rfl,rfl,?_⟩
    refine chk_t rfl ?_
    refine chk_t (ck_s rfl rfl (ck_s rfl rfl (ck_s rfl rfl (ck_s rfl rfl rfl)))) ?_
    refine⟨_,rfl,?_⟩
    refine⟨[.k 1,.k 2],_,_,_,_,G,rfl,rfl,?_⟩
    refine⟨[],0,Zo _,[.k 0,.k 1,.k 2,.k 3,.k 4,.k 5],⟨rfl,rfl,rfl,rfl,rfl,rfl,trivial⟩,⟨_,rfl,?_⟩,⟨_,rfl,rfl⟩,⟨_,rfl,rfl⟩,⟨_,rfl,rfl⟩,⟨_,rfl,rfl⟩,⟨_,rfl,rfl⟩,trivial⟩
    show cxX true true t mode pad back (cipV t k xs) (.z iv.length (bv iv)) (.p (.k 1) 0) (.z (H.length+m) (sub (sub (bv H) 0 (H.length*1)++bv b) 0 (H.length+m))) (.z last.length (bv last))=_
    rw[Zt,bv_all rfl,bv_app,bv_all (by rw[Zb,hb]),hL]
  ·rcases row with _|⟨a,r⟩
   all_goals
    have e1:gr*i≤L:=Zn (Zg gr hi) hle
    refine⟨_,rfl,?_⟩
    refine spl_d (fun hc=> ?_) (fun hc=> ?_)
    ·have hc':(mo:Int)<I6.wrap ((L:Int)-((gr*i:Nat):Int)):=hc
     rw[Zf _ (by omega)]at hc'
     have hli:i<n0:=(hlt i).2 (by omega)
     have hle2:gr*(i+1)≤L:=Zn (Zg gr hli) hle
     refine⟨rfl,i+1,hli,Zp _ _ hli,[.k 0,.k 1,.k 2,.k 3,.k 4,.k 5],⟨rfl,rfl,rfl,q7i ?_,rfl,rfl,trivial⟩,⟨_,rfl,rfl⟩,⟨_,rfl,rfl⟩,⟨_,rfl,rfl⟩,⟨_,rfl,rfl⟩,⟨_,rfl,rfl⟩,⟨_,rfl,rfl⟩,trivial⟩
     rw[Zu]at hle2 ⊢
     rw[Zf _ (by omega)]
     omega
    ·have hc':¬(mo:Int)<I6.wrap ((L:Int)-((gr*i:Nat):Int)):=hc
     rw[Zf _ (by omega)]at hc'
     obtain rfl:i=n0:=Zs hi (Zm fun hh=>by have:=(hlt i).1 hh;omega)
     refine⟨_,rfl,?_⟩
     refine⟨by omega,by omega,by omega,by omega,?_⟩
     refine⟨[.k 0,.k 1,.k 2,.k 3],_,_,_,_,TU [],?_,rfl,?_⟩
     ·show[V.p (.k 0) 0,V.z ((gr*i:Nat):Int).toNat (sub (bv (H++b)) 0 ((gr*i:Nat):Int).toNat)]=_
      rw[Zh,←hat,a0];rfl
     refine⟨Za rfl,?_⟩
     refine⟨_,rfl,?_⟩
     refine⟨by omega,by omega,by omega,by omega,?_⟩
     refine⟨[],_,_,_,_,c_cloneO (n:=L-at') (l:=(H++b).drop at') rfl lD (by omega),?_,rfl,?_⟩
     ·show[V.z (L-((gr*i:Nat):Int).toNat) (sub (bv (H++b)) ((gr*i:Nat):Int).toNat (L-((gr*i:Nat):Int).toNat))]=_
      rw[Zh,←hat,bv_dropN lB (by omega)]
     refine⟨Za rfl,?_⟩
     refine⟨_,rfl,?_⟩
     refine⟨Za rfl,?_⟩
     refine⟨Za rfl,?_⟩
     refine⟨_,rfl,_,rfl,?_⟩
     refine⟨_,_,?_,.ret (.refl _),WkBs.refl _⟩
     refine⟨_,rfl,[.k 0,.k 1,.k 2,.k 3,.d 54 0],rfl,⟨_,rfl,?_⟩,⟨_,rfl,rfl⟩,⟨_,rfl,rfl⟩,⟨_,rfl,rfl⟩,⟨_,rfl,?_⟩,trivial⟩
     ·exact congrArg (fun z=>cxX true true t mode pad back (cipV t k xs) (.z iv.length (bv iv)) (.p (.k 1) 0) (.o 1 (.k 4) 0 z) (.z last.length (bv last))) (show L-at'=0 by omega)
     ·exact congrArg (fun z=>B.sc (bv z)) (Zc (by rw[lD];omega))
theorem c_cxfin_noA:Con C N.ctx_Ctx_Final [.p (.k 0) 0] [cxX false false 0 0 0 false nilp nilv nilp nilv nilv] (.ret (.t [.z 0 [],i64 6])) [cxX false false 0 0 0 false nilp nilv nilp nilv nilv]:=by
 refine fd.ctx_Ctx_Final.d caughtOk ?_
 refine⟨⟨[(0,.p (.k 0) 0),(2,.p (.k 1) 0),(3,.p (.k 2) 0)],[_,.sc [.slice none 0 0],.sc [.int .i64 0]]⟩,1,2,by decide,⟨[.k 0,.d 2 0,.d 3 0],⟨rfl,rfl,rfl,trivial⟩,⟨_,rfl,rfl⟩,⟨_,rfl,rfl⟩,⟨_,rfl,rfl⟩,trivial⟩,rfl,rfl,rfl,?_⟩
 refine⟨[.k 0],_,_,_,_,c_cxneedA,rfl,rfl,?_⟩
 refine⟨_,rfl,_,rfl,?_⟩
 refine⟨_,_,?_,.ret (.t (.cons .nl (.cons (.refl _) .nil))),WkBs.refl _⟩
 exact⟨_,rfl,[.k 0],rfl,⟨_,rfl,rfl⟩,trivial⟩
theorem c_cxstolen3 {t mode pad md:Int} {op back:Bool} {k:Nat} {xs:List V} {iv last:Bs} {st:MS} (hm:mode≤9):Con C N.ctx_Ctx_stolen [.p (.k 0) 0] [cxO op t mode pad back k xs iv .n last,moX (cipV t k xs) md back st 2,gnB st.row st.gone] (.ret (bool (decide (7≤mode)))) [cxO op t mode pad back k xs iv .n last,moX (cipV t k xs) md back st 2,gnB st.row st.gone]:=by
 obtain⟨ch,row,g⟩:=st
 rcases row with _|⟨a,r⟩
 all_goals
  refine fd.ctx_Ctx_stolen.c ?_
  refine⟨_,rfl,?_⟩
  refine spl_d (fun h7=> ?_) (fun h7=> ?_)
  ·refine⟨_,rfl,?_⟩
   refine⟨_,rfl,[.k 0,.k 1,.k 2],?_,⟨_,rfl,rfl⟩,⟨_,rfl,rfl⟩,⟨_,rfl,rfl⟩,trivial⟩
   exact congrArg bool (by rw[decide_eq_true hm,decide_eq_true h7])
  ·refine⟨_,rfl,[.k 0,.k 1,.k 2],?_,⟨_,rfl,rfl⟩,⟨_,rfl,rfl⟩,⟨_,rfl,rfl⟩,trivial⟩
   exact congrArg bool (by rw[decide_eq_false h7])
theorem c_cxturn3 {t key s k xs rs} (h:Ciph t key s k xs rs) {mode pad md:Int} {op back:Bool} {iv last b:Bs} {st:MS} {m:Nat} (hb:b.length=m) (hmb:m≤100000) (K:MK s md st) (hm:mode≤9) (hg:m%moGrain s md=0) (hne:0<m∨st.row=[]):
  Con C N.ctx_Ctx_turn [.p (.k 0) 0,.z m (bv b)] [cxO op t mode pad back k xs iv .n last,moX (cipV t k xs) md back st 2,gnB st.row st.gone]
   (.ret (.z m (bv (moStep (cF t key false) (cF t key true) s md back st b).1)))
   [cxO op t mode pad back k xs iv .n (cxLast s mode back b (moStep (cF t key false) (cF t key true) s md back st b).1 last),moX (cipV t k xs) md back (moStep (cF t key false) (cF t key true) s md back st b).2 3,.dead,gnB (moStep (cF t key false) (cF t key true) s md back st b).2.row (moStep (cF t key false) (cF t key true) s md back st b).2.gone]:=by
 have hs:=h.s_le
 have lo:(moStep (cF t key false) (cF t key true) s md back st b).1.length=m:=by rw[moStep_len h.ci K.ok (by rw[hb];exact hg),hb]
 have T0:=c_step h (back:=back) (st:=st) (b:=b) rfl hb (by omega) K hg hne
 have S:=fun(st':MS)=>c_cxstolen3 (t:=t) (mode:=mode) (pad:=pad) (md:=md) (op:=op) (back:=back) (k:=k) (xs:=xs) (iv:=iv) (last:=last) (st:=st') hm
 generalize moStep (cF t key false) (cF t key true) s md back st b=S0 at*
 obtain⟨o,st1⟩:=S0
 have S1:=S st1
 obtain⟨c1,row1,g1⟩:=st1
 dsimp only at T0 lo ⊢
 have eS:I6.wrap ((m:Int)-(s:Int))=(m:Int)-s:=Zf _ (by omega)
 by_cases hL:7≤mode∧s≤m
 ·have eL:cxLast s mode back b o last=(if back then b else o).drop (m-s):=by unfold cxLast;rw[hb,if_pos hL]
  rw[eL]
  cases back
  all_goals
   obtain⟨ch,row,g⟩:=st
   rcases row with _|⟨a,r⟩<;>rcases row1 with _|⟨a1,r1⟩
  all_goals
   refine fd.ctx_Ctx_turn.c ?_
   refine⟨_,rfl,?_⟩
   refine⟨[.k 1,.k 2],_,_,_,_,T0,rfl,rfl,?_⟩
   refine⟨[],_,_,_,_,c_refuse0,rfl,rfl,?_⟩
   refine⟨_,rfl,?_⟩
   refine⟨[],_,_,_,_,h.size,rfl,rfl,?_⟩
   refine⟨[.k 0,.k 1,.d 15 2],_,_,_,_,S1,rfl,rfl,?_⟩
   refine spl_d (fun h7=> ?_) (fun h7=>absurd hL.1 h7)
   refine spl_d (fun h7=> ?_) (fun h7=>absurd hL.2 (by omega))
   refine⟨_,rfl,?_⟩
   refine⟨by rw[eS];omega,by rw[eS];omega,by omega,by omega,?_⟩
   first
    |refine⟨[],_,_,_,_,c_cloneZ (n:=s) (l:=o.drop (m-s)) (va:=bv (o.drop (m-s))) rfl (by rw[Ze,lo];omega) (by omega),?_,rfl,?_⟩
     ·show[V.z (m-(I6.wrap ((m:Int)-(s:Int))).toNat) (sub (bv o) (I6.wrap ((m:Int)-(s:Int))).toNat (m-(I6.wrap ((m:Int)-(s:Int))).toNat))]=_
      rw[eS,show((m:Int)-s).toNat=m-s by omega,bv_dropN lo (by omega),show m-(m-s)=s by omega]
     refine⟨Za rfl,?_⟩
     refine⟨_,rfl,[.k 0,.k 1,.k 2,.d 15 2],rfl,⟨_,rfl,?_⟩,⟨_,rfl,rfl⟩,⟨_,rfl,rfl⟩,⟨_,rfl,rfl⟩,trivial⟩
     have ll:(o.drop (m-s)).length=s:=by rw[Ze,lo];omega
     show _=cxO op t mode pad false k xs iv .n (o.drop (m-s))
     unfold cxO
     rw[ll];rfl
    |refine⟨[],_,_,_,_,c_cloneZ (n:=s) (l:=b.drop (m-s)) (va:=bv (b.drop (m-s))) rfl (by rw[Ze,hb];omega) (by omega),?_,rfl,?_⟩
     ·show[V.z (m-(I6.wrap ((m:Int)-(s:Int))).toNat) (sub (bv b) (I6.wrap ((m:Int)-(s:Int))).toNat (m-(I6.wrap ((m:Int)-(s:Int))).toNat))]=_
      rw[eS,show((m:Int)-s).toNat=m-s by omega,bv_dropN hb (by omega),show m-(m-s)=s by omega]
     refine⟨Za rfl,?_⟩
     refine⟨_,rfl,[.k 0,.k 1,.k 2,.d 15 2],rfl,⟨_,rfl,?_⟩,⟨_,rfl,rfl⟩,⟨_,rfl,rfl⟩,⟨_,rfl,rfl⟩,trivial⟩
     have ll:(b.drop (m-s)).length=s:=by rw[Ze,hb];omega
     show _=cxO op t mode pad true k xs iv .n (b.drop (m-s))
     unfold cxO
     rw[ll];rfl
 ·have eL:cxLast s mode back b o last=last:=by unfold cxLast;rw[hb,if_neg hL]
  rw[eL]
  obtain⟨ch,row,g⟩:=st
  rcases row with _|⟨a,r⟩<;>rcases row1 with _|⟨a1,r1⟩
  all_goals
   refine fd.ctx_Ctx_turn.c ?_
   refine⟨_,rfl,?_⟩
   refine⟨[.k 1,.k 2],_,_,_,_,T0,rfl,rfl,?_⟩
   refine⟨[],_,_,_,_,c_refuse0,rfl,rfl,?_⟩
   refine⟨_,rfl,?_⟩
   refine⟨[],_,_,_,_,h.size,rfl,rfl,?_⟩
   refine⟨[.k 0,.k 1,.d 15 2],_,_,_,_,S1,rfl,rfl,?_⟩
   refine spl_d (fun h7=> ?_) (fun h7=> ?_)
   ·refine spl_d (fun h8=>absurd ⟨h7,by omega⟩ hL) (fun h8=> ?_)
    exact⟨_,rfl,[.k 0,.k 1,.k 2,.d 15 2],rfl,⟨_,rfl,rfl⟩,⟨_,rfl,rfl⟩,⟨_,rfl,rfl⟩,⟨_,rfl,rfl⟩,trivial⟩
   ·exact⟨_,rfl,[.k 0,.k 1,.k 2,.d 15 2],rfl,⟨_,rfl,rfl⟩,⟨_,rfl,rfl⟩,⟨_,rfl,rfl⟩,⟨_,rfl,rfl⟩,trivial⟩
theorem c_cxturn03 {t key s k xs rs} (h:Ciph t key s k xs rs) {mode pad md:Int} {op back:Bool} {iv last:Bs} {st:MS} {vb:List Value} (h3:3≤md) (hm:mode≤9):
  Con C N.ctx_Ctx_turn [.p (.k 0) 0,.z 0 vb] [cxO op t mode pad back k xs iv .n last,moX (cipV t k xs) md back st 2,gnB st.row st.gone]
   (.ret (.z 0 [])) [cxO op t mode pad back k xs iv .n last,moX (cipV t k xs) md back st 2,gnB st.row st.gone]:=by
 have hs:=h.s_le
 have T0:=c_step_nil h (back:=back) (st:=st) (vb:=vb) h3
 have S:=c_cxstolen3 (t:=t) (mode:=mode) (pad:=pad) (md:=md) (op:=op) (back:=back) (k:=k) (xs:=xs) (iv:=iv) (last:=last) (st:=st) hm
 obtain⟨ch,row,g⟩:=st
 rcases row with _|⟨a,r⟩
 all_goals
  refine fd.ctx_Ctx_turn.c ?_
  refine⟨_,rfl,?_⟩
  refine⟨[.k 1,.k 2],_,_,_,_,T0,rfl,rfl,?_⟩
  refine⟨[],_,_,_,_,c_refuse0,rfl,rfl,?_⟩
  refine⟨_,rfl,?_⟩
  refine⟨[],_,_,_,_,h.size,rfl,rfl,?_⟩
  refine⟨[.k 0,.k 1,.k 2],_,_,_,_,S,rfl,rfl,?_⟩
  refine spl_d (fun h7=> ?_) (fun h7=> ?_)
  ·refine spl_d (fun h8=>absurd h8 (by omega)) (fun h8=> ?_)
   exact⟨_,rfl,[.k 0,.k 1,.k 2],rfl,⟨_,rfl,rfl⟩,⟨_,rfl,rfl⟩,⟨_,rfl,rfl⟩,trivial⟩
  ·exact⟨_,rfl,[.k 0,.k 1,.k 2],rfl,⟨_,rfl,rfl⟩,⟨_,rfl,rfl⟩,⟨_,rfl,rfl⟩,trivial⟩
theorem c_cxturn_bad3 {t key s k xs rs} (h:Ciph t key s k xs rs) {mode pad md:Int} {op back:Bool} {iv last:Bs} {st:MS} {m:Nat} {vb:List Value} (K:MK s md st) (hg:m%moGrain s md≠0):
  Con C N.ctx_Ctx_turn [.p (.k 0) 0,.z m vb] [cxO op t mode pad back k xs iv .n last,moX (cipV t k xs) md back st 2,gnB st.row st.gone]
   (.pan (.i tRef (i64 7))) [cxO op t mode pad back k xs iv .n last,moX (cipV t k xs) md back st 2,gnB st.row st.gone]:=by
 have T0:=c_step_bad h (back:=back) (st:=st) (vb:=vb) K hg
 obtain⟨ch,row,g⟩:=st
 rcases row with _|⟨a,r⟩
 all_goals
  refine fd.ctx_Ctx_turn.c ?_
  refine⟨_,rfl,?_⟩
  refine⟨[.k 1,.k 2],_,_,_,_,T0,rfl,rfl,?_⟩
  refine⟨[],_,_,_,_,c_refuse (e:=7) (by decide),rfl,rfl,?_⟩
  exact⟨_,rfl,[.k 0,.k 1,.k 2],rfl,⟨_,rfl,rfl⟩,⟨_,rfl,rfl⟩,⟨_,rfl,rfl⟩,trivial⟩
theorem c_cxend_st {t key s k xs rs} (h:Ciph t key s k xs rs) {mode pad md:Int} {back:Bool} {iv last H:Bs} {st:MS} {m:Nat} (hl:last.length=s) (hH:H.length=m) (hm:7≤mode∧mode≤9) (h1:s≤m) (h2:m≤2*s):
  Con C N.ctx_Ctx_end [.p (.k 0) 0,.z m (bv H)] [cxO false t mode pad back k xs iv .n last,moX (cipV t k xs) md back st 2,gnB st.row st.gone] (.ret (.z m (bv (stT (cF t key false) (cF t key true) s mode back last H)))) [cxO false t mode pad back k xs iv .n last,moX (cipV t k xs) md back st 2,gnB st.row st.gone]:=by
 have T0:Con C N.steal_Tail [cipV t k xs,i64 mode,bool back,.z last.length (bv last),.z m (bv H)] [] (okBlk m) [.sc (bv (stT (cF t key false) (cF t key true) s mode back last H))]:=by
  rw[hl];exact c_tail h rfl rfl hl hH hm h1 h2
 have lo:(stT (cF t key false) (cF t key true) s mode back last H).length=m:=by rw[stT_len h.ci hl (by omega) (by omega),hH]
 have S:=c_cxstolen3 (t:=t) (mode:=mode) (pad:=pad) (md:=md) (op:=false) (back:=back) (k:=k) (xs:=xs) (iv:=iv) (last:=last) (st:=st) hm.2
 obtain⟨ch,row,g⟩:=st
 rcases row with _|⟨a,r⟩
 all_goals
  refine fd.ctx_Ctx_end.c ?_
  refine⟨_,rfl,?_⟩
  refine⟨[],_,_,_,_,h.size,rfl,rfl,?_⟩
  refine⟨[.k 0,.k 1,.k 2],_,_,_,_,S,rfl,rfl,?_⟩
  refine spl_d (fun h7=> ?_) (fun h7=>absurd hm.1 h7)
  refine⟨_,rfl,?_⟩
  refine⟨_,rfl,?_⟩
  refine⟨_,rfl,?_⟩
  refine⟨_,rfl,?_⟩
  refine⟨[],_,_,_,_,T0,rfl,rfl,?_⟩
  refine⟨[],_,_,_,_,c_refuse0,rfl,rfl,?_⟩
  refine⟨_,rfl,[.k 0,.k 1,.k 2],?_,⟨_,rfl,rfl⟩,⟨_,rfl,rfl⟩,⟨_,rfl,rfl⟩,trivial⟩
  exact congrArg (V.z m) (bv_all lo)
theorem c_cxend_st7 {t key s k xs rs} (h:Ciph t key s k xs rs) {mode pad md:Int} {back:Bool} {iv last H:Bs} {st:MS} {m:Nat} (hl:last.length=s) (hH:H.length=m) (hm:7≤mode∧mode≤9) (h1:m<s):
  Con C N.ctx_Ctx_end [.p (.k 0) 0,.z m (bv H)] [cxO false t mode pad back k xs iv .n last,moX (cipV t k xs) md back st 2,gnB st.row st.gone] (.pan (.i tRef (i64 7))) [cxO false t mode pad back k xs iv .n last,moX (cipV t k xs) md back st 2,gnB st.row st.gone]:=by
 have hs:=h.s_le
 have e7:stErr s mode last H=7:=by unfold stErr;rw[if_neg (by omega),if_neg (by omega),if_pos (by omega)]
 have T0:=c_tail_err h (l:=last.length) (m:=m) (vl:=bv last) (vb:=bv H) (mode:=mode) (back:=back) rfl hH (by omega) (by rw[e7];decide)
 rw[e7]at T0
 have S:=c_cxstolen3 (t:=t) (mode:=mode) (pad:=pad) (md:=md) (op:=false) (back:=back) (k:=k) (xs:=xs) (iv:=iv) (last:=last) (st:=st) hm.2
 obtain⟨ch,row,g⟩:=st
 rcases row with _|⟨a,r⟩
 all_goals
  refine fd.ctx_Ctx_end.c ?_
  refine⟨_,rfl,?_⟩
  refine⟨[],_,_,_,_,h.size,rfl,rfl,?_⟩
  refine⟨[.k 0,.k 1,.k 2],_,_,_,_,S,rfl,rfl,?_⟩
  refine spl_d (fun h7=> ?_) (fun h7=>absurd hm.1 h7)
  refine⟨_,rfl,?_⟩
  refine⟨_,rfl,?_⟩
  refine⟨_,rfl,?_⟩
  refine⟨_,rfl,?_⟩
  refine⟨[],_,_,_,_,T0,rfl,rfl,?_⟩
  refine⟨[],_,_,_,_,c_refuse (e:=7) (by decide),rfl,rfl,?_⟩
  exact⟨_,rfl,[.k 0,.k 1,.k 2],rfl,⟨_,rfl,rfl⟩,⟨_,rfl,rfl⟩,⟨_,rfl,rfl⟩,trivial⟩
theorem c_cxend_n {t key s k xs rs} (h:Ciph t key s k xs rs) {mode pad md:Int} {back:Bool} {iv last H:Bs} {st:MS} {m:Nat} (hH:H.length=m) (hmb:m≤100000) (K:MK s md st) (hm:mode≤6) (h4:pad=4) (hg:m%moGrain s md=0) (hne:0<m∨st.row=[]):
  Con C N.ctx_Ctx_end [.p (.k 0) 0,.z m (bv H)] [cxO false t mode pad back k xs iv .n last,moX (cipV t k xs) md back st 2,gnB st.row st.gone] (.ret (.z m (bv (moStep (cF t key false) (cF t key true) s md back st H).1)))
   [cxO false t mode pad back k xs iv .n (cxLast s mode back H (moStep (cF t key false) (cF t key true) s md back st H).1 last),moX (cipV t k xs) md back (moStep (cF t key false) (cF t key true) s md back st H).2 3,.dead,gnB (moStep (cF t key false) (cF t key true) s md back st H).2.row (moStep (cF t key false) (cF t key true) s md back st H).2.gone]:=by
 have S:=c_cxstolen3 (t:=t) (mode:=mode) (pad:=pad) (md:=md) (op:=false) (back:=back) (k:=k) (xs:=xs) (iv:=iv) (last:=last) (st:=st) (by omega)
 have TU:=c_cxturn3 h (op:=false) (back:=back) (pad:=pad) (iv:=iv) (last:=last) (b:=H) hH hmb K (mode:=mode) (by omega) hg hne
 generalize moStep (cF t key false) (cF t key true) s md back st H=S0 at*
 obtain⟨o,c1,row1,g1⟩:=S0
 obtain⟨ch,row,g⟩:=st
 rcases row with _|⟨a,r⟩<;>rcases row1 with _|⟨a1,r1⟩
 all_goals
  refine fd.ctx_Ctx_end.c ?_
  refine⟨_,rfl,?_⟩
  refine⟨[],_,_,_,_,h.size,rfl,rfl,?_⟩
  refine⟨[.k 0,.k 1,.k 2],_,_,_,_,S,rfl,rfl,?_⟩
  refine spl_d (fun h7=>absurd h7 (by omega)) (fun h7=> ?_)
  refine⟨_,rfl,?_⟩
  refine spl_eq (fun _=> ?_) (fun hh=>absurd h4 hh)
  refine⟨[.k 0,.k 1,.k 2],_,_,_,_,TU,rfl,rfl,?_⟩
  exact⟨_,rfl,[.k 0,.k 1,.k 2,.d 53 3],rfl,⟨_,rfl,rfl⟩,⟨_,rfl,rfl⟩,⟨_,rfl,rfl⟩,⟨_,rfl,rfl⟩,trivial⟩
theorem c_cxend_n0 {t key s k xs rs} (h:Ciph t key s k xs rs) {mode pad md:Int} {back:Bool} {iv last H:Bs} {st:MS} {m:Nat} (hm0:m=0) (h3:3≤md) (hm:mode≤6) (h4:pad=4):
  Con C N.ctx_Ctx_end [.p (.k 0) 0,.z m (bv H)] [cxO false t mode pad back k xs iv .n last,moX (cipV t k xs) md back st 2,gnB st.row st.gone] (.ret (.z 0 [])) [cxO false t mode pad back k xs iv .n last,moX (cipV t k xs) md back st 2,gnB st.row st.gone]:=by
 subst hm0
 have S:=c_cxstolen3 (t:=t) (mode:=mode) (pad:=pad) (md:=md) (op:=false) (back:=back) (k:=k) (xs:=xs) (iv:=iv) (last:=last) (st:=st) (by omega)
 have TU:=c_cxturn03 h (op:=false) (back:=back) (pad:=pad) (iv:=iv) (last:=last) (mode:=mode) (st:=st) (vb:=bv H) h3 (by omega)
 obtain⟨ch,row,g⟩:=st
 rcases row with _|⟨a,r⟩
 all_goals
  refine fd.ctx_Ctx_end.c ?_
  refine⟨_,rfl,?_⟩
  refine⟨[],_,_,_,_,h.size,rfl,rfl,?_⟩
  refine⟨[.k 0,.k 1,.k 2],_,_,_,_,S,rfl,rfl,?_⟩
  refine spl_d (fun h7=>absurd h7 (by omega)) (fun h7=> ?_)
  refine⟨_,rfl,?_⟩
  refine spl_eq (fun _=> ?_) (fun hh=>absurd h4 hh)
  refine⟨[.k 0,.k 1,.k 2],_,_,_,_,TU,rfl,rfl,?_⟩
  exact⟨_,rfl,[.k 0,.k 1,.k 2],rfl,⟨_,rfl,rfl⟩,⟨_,rfl,rfl⟩,⟨_,rfl,rfl⟩,trivial⟩
theorem c_cxend_n7 {t key s k xs rs} (h:Ciph t key s k xs rs) {mode pad md:Int} {back:Bool} {iv last H:Bs} {st:MS} {m:Nat} (K:MK s md st) (hm:mode≤6) (h4:pad=4) (hg:m%moGrain s md≠0):
  Con C N.ctx_Ctx_end [.p (.k 0) 0,.z m (bv H)] [cxO false t mode pad back k xs iv .n last,moX (cipV t k xs) md back st 2,gnB st.row st.gone] (.pan (.i tRef (i64 7))) [cxO false t mode pad back k xs iv .n last,moX (cipV t k xs) md back st 2,gnB st.row st.gone]:=by
 have S:=c_cxstolen3 (t:=t) (mode:=mode) (pad:=pad) (md:=md) (op:=false) (back:=back) (k:=k) (xs:=xs) (iv:=iv) (last:=last) (st:=st) (by omega)
 have TU:=c_cxturn_bad3 h (op:=false) (back:=back) (pad:=pad) (iv:=iv) (last:=last) (mode:=mode) (m:=m) (vb:=bv H) K hg
 obtain⟨ch,row,g⟩:=st
 rcases row with _|⟨a,r⟩
 all_goals
  refine fd.ctx_Ctx_end.c ?_
  refine⟨_,rfl,?_⟩
  refine⟨[],_,_,_,_,h.size,rfl,rfl,?_⟩
  refine⟨[.k 0,.k 1,.k 2],_,_,_,_,S,rfl,rfl,?_⟩
  refine spl_d (fun h7=>absurd h7 (by omega)) (fun h7=> ?_)
  refine⟨_,rfl,?_⟩
  refine spl_eq (fun _=> ?_) (fun hh=>absurd h4 hh)
  refine⟨[.k 0,.k 1,.k 2],_,_,_,_,TU,rfl,rfl,?_⟩
  exact⟨_,rfl,[.k 0,.k 1,.k 2],rfl,⟨_,rfl,rfl⟩,⟨_,rfl,rfl⟩,⟨_,rfl,rfl⟩,trivial⟩
theorem c_cxend_p {t key s k xs rs} (h:Ciph t key s k xs rs) {mode pad md:Int} {back:Bool} {iv last H:Bs} {st:MS} {m:Nat} (hb:back=false) (hH:H.length=m) (hms:m<s) (K:MK s md st) (hm:mode≤6) (hp:pad=1∨pad=2∨pad=3) (hgr:moGrain s md=s):
  Con C N.ctx_Ctx_end [.p (.k 0) 0,.z m (bv H)] [cxO false t mode pad back k xs iv .n last,moX (cipV t k xs) md back st 2,gnB st.row st.gone] (.ret (.z s (bv (moStep (cF t key false) (cF t key true) s md back st (pdAdd pad s H)).1)))
   [cxO false t mode pad back k xs iv .n (cxLast s mode back (pdAdd pad s H) (moStep (cF t key false) (cF t key true) s md back st (pdAdd pad s H)).1 last),moX (cipV t k xs) md back (moStep (cF t key false) (cF t key true) s md back st (pdAdd pad s H)).2 3,.dead,gnB (moStep (cF t key false) (cF t key true) s md back st (pdAdd pad s H)).2.row (moStep (cF t key false) (cF t key true) s md back st (pdAdd pad s H)).2.gone]:=by
 subst hb
 have hs:=h.s_le
 have lp:(pdAdd pad s H).length=s:=pdAdd_len (by omega)
 have PA:=c_padAdd (vt:=bv H) hp h.s_two rfl hH hms
 have S:=c_cxstolen3 (t:=t) (mode:=mode) (pad:=pad) (md:=md) (op:=false) (back:=false) (k:=k) (xs:=xs) (iv:=iv) (last:=last) (st:=st) (by omega)
 have TU:=c_cxturn3 h (op:=false) (back:=false) (pad:=pad) (iv:=iv) (last:=last) (b:=pdAdd pad s H) lp (by omega) K (mode:=mode) (by omega) (by rw[hgr,Zk]) (.inl (by omega))
 generalize pdAdd pad s H=P at*
 generalize moStep (cF t key false) (cF t key true) s md false st P=S0 at*
 obtain⟨o,c1,row1,g1⟩:=S0
 obtain⟨ch,row,g⟩:=st
 rcases row with _|⟨a,r⟩<;>rcases row1 with _|⟨a1,r1⟩
 all_goals
  refine fd.ctx_Ctx_end.c ?_
  refine⟨_,rfl,?_⟩
  refine⟨[],_,_,_,_,h.size,rfl,rfl,?_⟩
  refine⟨[.k 0,.k 1,.k 2],_,_,_,_,S,rfl,rfl,?_⟩
  refine spl_d (fun h7=>absurd h7 (by omega)) (fun h7=> ?_)
  refine⟨_,rfl,?_⟩
  refine spl_eq (fun hh=>absurd hh (by omega)) (fun _=> ?_)
  refine⟨_,rfl,?_⟩
  refine⟨_,rfl,?_⟩
  refine⟨[],_,_,_,_,PA,rfl,rfl,?_⟩
  refine⟨[],_,_,_,_,c_refuse0,rfl,rfl,?_⟩
  refine⟨[.k 0,.k 1,.k 2],_,_,_,_,TU,?_,rfl,?_⟩
  ·exact congrArg (fun v=>[V.p (.k 0) 0,V.z s v]) (bv_all lp)
  exact⟨_,rfl,[.k 0,.k 1,.k 2,.d 75 3],rfl,⟨_,rfl,rfl⟩,⟨_,rfl,rfl⟩,⟨_,rfl,rfl⟩,⟨_,rfl,rfl⟩,trivial⟩
theorem c_cxend_b7 {t key s k xs rs} (h:Ciph t key s k xs rs) {mode pad md:Int} {back:Bool} {iv last H:Bs} {st:MS} {m:Nat} (hb:back=true) (hH:H.length=m) (hmb:m≤100000) (hms:m≠s) (hm:mode≤6) (hp:pad=1∨pad=2∨pad=3):
  Con C N.ctx_Ctx_end [.p (.k 0) 0,.z m (bv H)] [cxO false t mode pad back k xs iv .n last,moX (cipV t k xs) md back st 2,gnB st.row st.gone] (.pan (.i tRef (i64 7))) [cxO false t mode pad back k xs iv .n last,moX (cipV t k xs) md back st 2,gnB st.row st.gone]:=by
 subst hb
 have S:=c_cxstolen3 (t:=t) (mode:=mode) (pad:=pad) (md:=md) (op:=false) (back:=true) (k:=k) (xs:=xs) (iv:=iv) (last:=last) (st:=st) (by omega)
 obtain⟨ch,row,g⟩:=st
 rcases row with _|⟨a,r⟩
 all_goals
  refine fd.ctx_Ctx_end.c ?_
  refine⟨_,rfl,?_⟩
  refine⟨[],_,_,_,_,h.size,rfl,rfl,?_⟩
  refine⟨[.k 0,.k 1,.k 2],_,_,_,_,S,rfl,rfl,?_⟩
  refine spl_d (fun h7=>absurd h7 (by omega)) (fun h7=> ?_)
  refine⟨_,rfl,?_⟩
  refine spl_eq (fun hh=>absurd hh (by omega)) (fun _=> ?_)
  refine⟨_,rfl,?_⟩
  refine spl_ne (fun _=> ?_) (fun hh=>absurd hh (by omega))
  refine⟨[],_,_,_,_,c_refuse (e:=7) (by decide),rfl,rfl,?_⟩
  exact⟨_,rfl,[.k 0,.k 1,.k 2],rfl,⟨_,rfl,rfl⟩,⟨_,rfl,rfl⟩,⟨_,rfl,rfl⟩,trivial⟩
theorem cxLast_no {s:Nat} {mode:Int} {back:Bool} {b o last:Bs} (hm:mode≤6):cxLast s mode back b o last=last:=by unfold cxLast;rw[if_neg (by omega)]
theorem c_cxend_b8 {t key s k xs rs} (h:Ciph t key s k xs rs) {mode pad md:Int} {back:Bool} {iv last H:Bs} {st:MS} {m:Nat} (hb:back=true) (hH:H.length=s) (K:MK s md st) (hm:mode≤6) (hp:pad=1∨pad=2∨pad=3) (hgr:moGrain s md=s) (h0:pdLong pad (moStep (cF t key false) (cF t key true) s md back st H).1=0):
  Con C N.ctx_Ctx_end [.p (.k 0) 0,.z s (bv H)] [cxO false t mode pad back k xs iv .n last,moX (cipV t k xs) md back st 2,gnB st.row st.gone] (.pan (.i tRef (i64 8)))
   [cxO false t mode pad back k xs iv .n last,moX (cipV t k xs) md back (moStep (cF t key false) (cF t key true) s md back st H).2 3,.dead,gnB (moStep (cF t key false) (cF t key true) s md back st H).2.row (moStep (cF t key false) (cF t key true) s md back st H).2.gone]:=by
 subst hb
 have hs:=h.s_le
 have lo:(moStep (cF t key false) (cF t key true) s md true st H).1.length=s:=by rw[moStep_len h.ci K.ok (by rw[hH,hgr,Zk]),hH]
 have PA:=c_strip_no (vb:=bv (moStep (cF t key false) (cF t key true) s md true st H).1) rfl hp h.s_two lo h0
 have S:=c_cxstolen3 (t:=t) (mode:=mode) (pad:=pad) (md:=md) (op:=false) (back:=true) (k:=k) (xs:=xs) (iv:=iv) (last:=last) (st:=st) (by omega)
 have TU:=c_cxturn3 h (op:=false) (back:=true) (pad:=pad) (iv:=iv) (last:=last) (b:=H) hH (by omega) K (mode:=mode) (by omega) (by rw[hgr,Zk]) (.inl (by omega))
 rw[cxLast_no hm]at TU
 generalize moStep (cF t key false) (cF t key true) s md true st H=S0 at*
 obtain⟨o,c1,row1,g1⟩:=S0
 obtain⟨ch,row,g⟩:=st
 rcases row with _|⟨a,r⟩<;>rcases row1 with _|⟨a1,r1⟩
 all_goals
  refine fd.ctx_Ctx_end.c ?_
  refine⟨_,rfl,?_⟩
  refine⟨[],_,_,_,_,h.size,rfl,rfl,?_⟩
  refine⟨[.k 0,.k 1,.k 2],_,_,_,_,S,rfl,rfl,?_⟩
  refine spl_d (fun h7=>absurd h7 (by omega)) (fun h7=> ?_)
  refine⟨_,rfl,?_⟩
  refine spl_eq (fun hh=>absurd hh (by omega)) (fun _=> ?_)
  refine⟨_,rfl,?_⟩
  refine spl_ne (fun hh=>absurd rfl hh) (fun _=> ?_)
  refine⟨_,rfl,?_⟩
  refine⟨[.k 0,.k 1,.k 2],_,_,_,_,TU,rfl,rfl,?_⟩
  refine chk_t rfl ?_
  refine chk_t (ck_s rfl rfl rfl) ?_
  refine⟨[],_,_,_,_,PA,rfl,rfl,?_⟩
  refine⟨[],_,_,_,_,c_refuse (e:=8) (by decide),rfl,rfl,?_⟩
  exact⟨_,rfl,[.k 0,.k 1,.k 2,.d 90 3],rfl,⟨_,rfl,rfl⟩,⟨_,rfl,rfl⟩,⟨_,rfl,rfl⟩,⟨_,rfl,rfl⟩,trivial⟩
theorem c_cxend_bk {t key s k xs rs} (h:Ciph t key s k xs rs) {mode pad md:Int} {back:Bool} {iv last H:Bs} {st:MS} {m:Nat} (hb:back=true) (hH:H.length=s) (K:MK s md st) (hm:mode≤6) (hp:pad=1∨pad=2∨pad=3) (hgr:moGrain s md=s) (h0:pdLong pad (moStep (cF t key false) (cF t key true) s md back st H).1≠0):
  Con C N.ctx_Ctx_end [.p (.k 0) 0,.z s (bv H)] [cxO false t mode pad back k xs iv .n last,moX (cipV t k xs) md back st 2,gnB st.row st.gone] (.ret (.z (s-pdLong pad (moStep (cF t key false) (cF t key true) s md back st H).1) (bv (pdStrip pad (moStep (cF t key false) (cF t key true) s md back st H).1))))
   [cxO false t mode pad back k xs iv .n last,moX (cipV t k xs) md back (moStep (cF t key false) (cF t key true) s md back st H).2 3,.dead,gnB (moStep (cF t key false) (cF t key true) s md back st H).2.row (moStep (cF t key false) (cF t key true) s md back st H).2.gone]:=by
 subst hb
 have hs:=h.s_le
 have lo:(moStep (cF t key false) (cF t key true) s md true st H).1.length=s:=by rw[moStep_len h.ci K.ok (by rw[hH,hgr,Zk]),hH]
 have PA:=c_strip (vb:=bv (moStep (cF t key false) (cF t key true) s md true st H).1) rfl hp h.s_two lo h0
 have S:=c_cxstolen3 (t:=t) (mode:=mode) (pad:=pad) (md:=md) (op:=false) (back:=true) (k:=k) (xs:=xs) (iv:=iv) (last:=last) (st:=st) (by omega)
 have TU:=c_cxturn3 h (op:=false) (back:=true) (pad:=pad) (iv:=iv) (last:=last) (b:=H) hH (by omega) K (mode:=mode) (by omega) (by rw[hgr,Zk]) (.inl (by omega))
 rw[cxLast_no hm]at TU
 generalize moStep (cF t key false) (cF t key true) s md true st H=S0 at*
 obtain⟨o,c1,row1,g1⟩:=S0
 obtain⟨ch,row,g⟩:=st
 rcases row with _|⟨a,r⟩<;>rcases row1 with _|⟨a1,r1⟩
 all_goals
  refine fd.ctx_Ctx_end.c ?_
  refine⟨_,rfl,?_⟩
  refine⟨[],_,_,_,_,h.size,rfl,rfl,?_⟩
  refine⟨[.k 0,.k 1,.k 2],_,_,_,_,S,rfl,rfl,?_⟩
  refine spl_d (fun h7=>absurd h7 (by omega)) (fun h7=> ?_)
  refine⟨_,rfl,?_⟩
  refine spl_eq (fun hh=>absurd hh (by omega)) (fun _=> ?_)
  refine⟨_,rfl,?_⟩
  refine spl_ne (fun hh=>absurd rfl hh) (fun _=> ?_)
  refine⟨_,rfl,?_⟩
  refine⟨[.k 0,.k 1,.k 2],_,_,_,_,TU,rfl,rfl,?_⟩
  refine chk_t rfl ?_
  refine chk_t (ck_s rfl rfl rfl) ?_
  refine⟨[],_,_,_,_,PA,rfl,rfl,?_⟩
  refine⟨[],_,_,_,_,c_refuse0,rfl,rfl,?_⟩
  exact⟨_,rfl,[.k 0,.k 1,.k 2,.d 90 3],rfl,⟨_,rfl,rfl⟩,⟨_,rfl,rfl⟩,⟨_,rfl,rfl⟩,⟨_,rfl,rfl⟩,trivial⟩
theorem c_cxfinTr {t mode pad md:Int} {back:Bool} {k m n:Nat} {e:Int} {xs:List V} {iv last last' H:Bs} {st st':MS} {x:HK} {vr:List Value} (hx:x= .n∧m=0∧H=[]∨x= .o H∧H.length=m)
  (E:Con C N.ctx_Ctx_end [.p (.k 0) 0,.z m (bv H)] [cxO false t mode pad back k xs iv .n last,moX (cipV t k xs) md back st 2,gnB st.row st.gone] (.ret (.z n vr)) [cxO false t mode pad back k xs iv .n last',moX (cipV t k xs) md back st' 3,.dead,gnB st'.row st'.gone]):
  Con C N.ctx_Ctx_Final [.p (.k 0) 0] [cxO true t mode pad back k xs iv x last,moX (cipV t k xs) md back st 2,gnB st.row st.gone,x.b] (.ret (.t [.z n vr,i64 0])) [cxO false t mode pad back k xs iv .n last',moX (cipV t k xs) md back st' 4,.dead,.dead,gnB st'.row st'.gone]:=by
 have NE:=c_cxneed (t:=t) (mode:=mode) (pad:=pad) (md:=md) (back:=back) (k:=k) (xs:=xs) (iv:=iv) (last:=last) (st:=st) (x:=x)
 obtain⟨ch,row,g⟩:=st
 obtain⟨ch1,row1,g1⟩:=st'
 rcases hx with ⟨rfl,rfl,rfl⟩|⟨rfl,hH⟩
 ·rcases row with _|⟨a,r⟩<;>rcases row1 with _|⟨a1,r1⟩
  all_goals
   refine fd.ctx_Ctx_Final.d caughtOk ?_
   refine⟨⟨[(0,.p (.k 0) 0),(2,.p (.k 4) 0),(3,.p (.k 5) 0)],[_,_,_,_,.sc [.slice none 0 0],.sc [.int .i64 0]]⟩,4,5,by decide,⟨[.k 0,.k 1,.k 2,.k 3,.d 2 0,.d 3 0],⟨rfl,rfl,rfl,trivial⟩,⟨_,rfl,rfl⟩,⟨_,rfl,rfl⟩,⟨_,rfl,rfl⟩,⟨_,rfl,rfl⟩,⟨_,rfl,rfl⟩,⟨_,rfl,rfl⟩,trivial⟩,rfl,rfl,rfl,?_⟩
   refine⟨[.k 0,.k 1,.k 2,.k 3],_,_,_,_,NE,rfl,rfl,?_⟩
   refine⟨_,rfl,?_⟩
   refine⟨Za rfl,?_⟩
   refine⟨Za rfl,?_⟩
   refine⟨[.k 0,.k 1,.k 2],_,_,_,_,Con.args E (ys0:=[.p (.k 0) 0,nilv]) (.cons (.refl _) (.cons .nl .nil)),rfl,rfl,?_⟩
   refine⟨Za rfl,?_⟩
   refine⟨Za rfl,?_⟩
   refine⟨_,rfl,_,rfl,?_⟩
   refine⟨_,_,?_,.ret (.refl _),WkBs.refl _⟩
   exact⟨_,rfl,[.k 0,.k 1,.k 2,.k 3,.d 19 3],rfl,⟨_,rfl,rfl⟩,⟨_,rfl,rfl⟩,⟨_,rfl,rfl⟩,⟨_,rfl,rfl⟩,⟨_,rfl,rfl⟩,trivial⟩
 ·rcases row with _|⟨a,r⟩<;>rcases row1 with _|⟨a1,r1⟩
  all_goals
   refine fd.ctx_Ctx_Final.d caughtOk ?_
   refine⟨⟨[(0,.p (.k 0) 0),(2,.p (.k 4) 0),(3,.p (.k 5) 0)],[_,_,_,_,.sc [.slice none 0 0],.sc [.int .i64 0]]⟩,4,5,by decide,⟨[.k 0,.k 1,.k 2,.k 3,.d 2 0,.d 3 0],⟨rfl,rfl,rfl,trivial⟩,⟨_,rfl,rfl⟩,⟨_,rfl,rfl⟩,⟨_,rfl,rfl⟩,⟨_,rfl,rfl⟩,⟨_,rfl,rfl⟩,⟨_,rfl,rfl⟩,trivial⟩,rfl,rfl,rfl,?_⟩
   refine⟨[.k 0,.k 1,.k 2,.k 3],_,_,_,_,NE,rfl,rfl,?_⟩
   refine⟨_,rfl,?_⟩
   refine⟨Za rfl,?_⟩
   refine⟨Za rfl,?_⟩
   refine⟨[.k 0,.k 1,.k 2],_,_,_,_,E,?_,rfl,?_⟩
   ·show[V.p (.k 0) 0,V.z H.length (sub (bv H) 0 H.length)]=_
    rw[bv_all rfl,hH]
   refine⟨Za rfl,?_⟩
   refine⟨Za rfl,?_⟩
   refine⟨_,rfl,_,rfl,?_⟩
   refine⟨_,_,?_,.ret (.refl _),WkBs.refl _⟩
   exact⟨_,rfl,[.k 0,.k 1,.k 2,.k 3,.d 19 3],rfl,⟨_,rfl,rfl⟩,⟨_,rfl,rfl⟩,⟨_,rfl,rfl⟩,⟨_,rfl,rfl⟩,⟨_,rfl,rfl⟩,trivial⟩
theorem c_cxfinTp {t mode pad md:Int} {back:Bool} {k m n:Nat} {e:Int} {xs:List V} {iv last last' H:Bs} {st st':MS} {x:HK} {vr:List Value} (hx:x= .n∧m=0∧H=[]∨x= .o H∧H.length=m)
  (E:Con C N.ctx_Ctx_end [.p (.k 0) 0,.z m (bv H)] [cxO false t mode pad back k xs iv .n last,moX (cipV t k xs) md back st 2,gnB st.row st.gone] (.pan (.i tRef (i64 e))) [cxO false t mode pad back k xs iv .n last',moX (cipV t k xs) md back st' 3,.dead,gnB st'.row st'.gone]):
  Con C N.ctx_Ctx_Final [.p (.k 0) 0] [cxO true t mode pad back k xs iv x last,moX (cipV t k xs) md back st 2,gnB st.row st.gone,x.b] (.ret (.t [.z 0 [],i64 e])) [cxO false t mode pad back k xs iv .n last',moX (cipV t k xs) md back st' 4,.dead,.dead,gnB st'.row st'.gone]:=by
 have NE:=c_cxneed (t:=t) (mode:=mode) (pad:=pad) (md:=md) (back:=back) (k:=k) (xs:=xs) (iv:=iv) (last:=last) (st:=st) (x:=x)
 obtain⟨ch,row,g⟩:=st
 obtain⟨ch1,row1,g1⟩:=st'
 rcases hx with ⟨rfl,rfl,rfl⟩|⟨rfl,hH⟩
 ·rcases row with _|⟨a,r⟩<;>rcases row1 with _|⟨a1,r1⟩
  all_goals
   refine fd.ctx_Ctx_Final.d caughtOk ?_
   refine⟨⟨[(0,.p (.k 0) 0),(2,.p (.k 4) 0),(3,.p (.k 5) 0)],[_,_,_,_,.sc [.slice none 0 0],.sc [.int .i64 0]]⟩,4,5,by decide,⟨[.k 0,.k 1,.k 2,.k 3,.d 2 0,.d 3 0],⟨rfl,rfl,rfl,trivial⟩,⟨_,rfl,rfl⟩,⟨_,rfl,rfl⟩,⟨_,rfl,rfl⟩,⟨_,rfl,rfl⟩,⟨_,rfl,rfl⟩,⟨_,rfl,rfl⟩,trivial⟩,rfl,rfl,rfl,?_⟩
   refine⟨[.k 0,.k 1,.k 2,.k 3],_,_,_,_,NE,rfl,rfl,?_⟩
   refine⟨_,rfl,?_⟩
   refine⟨Za rfl,?_⟩
   refine⟨Za rfl,?_⟩
   refine⟨[.k 0,.k 1,.k 2],_,_,_,_,Con.args E (ys0:=[.p (.k 0) 0,nilv]) (.cons (.refl _) (.cons .nl .nil)),rfl,rfl,?_⟩
   refine⟨_,rfl,_,rfl,?_⟩
   refine⟨_,_,?_,.ret (.t (.cons .nl (.cons (.refl _) .nil))),WkBs.refl _⟩
   exact⟨_,rfl,[.k 0,.k 1,.k 2,.k 3,.d 19 3],rfl,⟨_,rfl,rfl⟩,⟨_,rfl,rfl⟩,⟨_,rfl,rfl⟩,⟨_,rfl,rfl⟩,⟨_,rfl,rfl⟩,trivial⟩
 ·rcases row with _|⟨a,r⟩<;>rcases row1 with _|⟨a1,r1⟩
  all_goals
   refine fd.ctx_Ctx_Final.d caughtOk ?_
   refine⟨⟨[(0,.p (.k 0) 0),(2,.p (.k 4) 0),(3,.p (.k 5) 0)],[_,_,_,_,.sc [.slice none 0 0],.sc [.int .i64 0]]⟩,4,5,by decide,⟨[.k 0,.k 1,.k 2,.k 3,.d 2 0,.d 3 0],⟨rfl,rfl,rfl,trivial⟩,⟨_,rfl,rfl⟩,⟨_,rfl,rfl⟩,⟨_,rfl,rfl⟩,⟨_,rfl,rfl⟩,⟨_,rfl,rfl⟩,⟨_,rfl,rfl⟩,trivial⟩,rfl,rfl,rfl,?_⟩
   refine⟨[.k 0,.k 1,.k 2,.k 3],_,_,_,_,NE,rfl,rfl,?_⟩
   refine⟨_,rfl,?_⟩
   refine⟨Za rfl,?_⟩
   refine⟨Za rfl,?_⟩
   refine⟨[.k 0,.k 1,.k 2],_,_,_,_,E,?_,rfl,?_⟩
   ·show[V.p (.k 0) 0,V.z H.length (sub (bv H) 0 H.length)]=_
    rw[bv_all rfl,hH]
   refine⟨_,rfl,_,rfl,?_⟩
   refine⟨_,_,?_,.ret (.t (.cons .nl (.cons (.refl _) .nil))),WkBs.refl _⟩
   exact⟨_,rfl,[.k 0,.k 1,.k 2,.k 3,.d 19 3],rfl,⟨_,rfl,rfl⟩,⟨_,rfl,rfl⟩,⟨_,rfl,rfl⟩,⟨_,rfl,rfl⟩,⟨_,rfl,rfl⟩,trivial⟩
theorem c_cxfinNr {t mode pad md:Int} {back:Bool} {k m n:Nat} {e:Int} {xs:List V} {iv last last' H:Bs} {st st':MS} {x:HK} {vr:List Value} (hx:x= .n∧m=0∧H=[]∨x= .o H∧H.length=m)
  (E:Con C N.ctx_Ctx_end [.p (.k 0) 0,.z m (bv H)] [cxO false t mode pad back k xs iv .n last,moX (cipV t k xs) md back st 2,gnB st.row st.gone] (.ret (.z n vr)) [cxO false t mode pad back k xs iv .n last',moX (cipV t k xs) md back st' 2,gnB st'.row st'.gone]):
  Con C N.ctx_Ctx_Final [.p (.k 0) 0] [cxO true t mode pad back k xs iv x last,moX (cipV t k xs) md back st 2,gnB st.row st.gone,x.b] (.ret (.t [.z n vr,i64 0])) [cxO false t mode pad back k xs iv .n last',moX (cipV t k xs) md back st' 2,gnB st'.row st'.gone,.dead]:=by
 have NE:=c_cxneed (t:=t) (mode:=mode) (pad:=pad) (md:=md) (back:=back) (k:=k) (xs:=xs) (iv:=iv) (last:=last) (st:=st) (x:=x)
 obtain⟨ch,row,g⟩:=st
 obtain⟨ch1,row1,g1⟩:=st'
 rcases hx with ⟨rfl,rfl,rfl⟩|⟨rfl,hH⟩
 ·rcases row with _|⟨a,r⟩<;>rcases row1 with _|⟨a1,r1⟩
  all_goals
   refine fd.ctx_Ctx_Final.d caughtOk ?_
   refine⟨⟨[(0,.p (.k 0) 0),(2,.p (.k 4) 0),(3,.p (.k 5) 0)],[_,_,_,_,.sc [.slice none 0 0],.sc [.int .i64 0]]⟩,4,5,by decide,⟨[.k 0,.k 1,.k 2,.k 3,.d 2 0,.d 3 0],⟨rfl,rfl,rfl,trivial⟩,⟨_,rfl,rfl⟩,⟨_,rfl,rfl⟩,⟨_,rfl,rfl⟩,⟨_,rfl,rfl⟩,⟨_,rfl,rfl⟩,⟨_,rfl,rfl⟩,trivial⟩,rfl,rfl,rfl,?_⟩
   refine⟨[.k 0,.k 1,.k 2,.k 3],_,_,_,_,NE,rfl,rfl,?_⟩
   refine⟨_,rfl,?_⟩
   refine⟨Za rfl,?_⟩
   refine⟨Za rfl,?_⟩
   refine⟨[.k 0,.k 1,.k 2],_,_,_,_,Con.args E (ys0:=[.p (.k 0) 0,nilv]) (.cons (.refl _) (.cons .nl .nil)),rfl,rfl,?_⟩
   refine⟨Za rfl,?_⟩
   refine⟨Za rfl,?_⟩
   refine⟨_,rfl,_,rfl,?_⟩
   refine⟨_,_,?_,.ret (.refl _),WkBs.refl _⟩
   exact⟨_,rfl,[.k 0,.k 1,.k 2,.k 3],rfl,⟨_,rfl,rfl⟩,⟨_,rfl,rfl⟩,⟨_,rfl,rfl⟩,⟨_,rfl,rfl⟩,trivial⟩
 ·rcases row with _|⟨a,r⟩<;>rcases row1 with _|⟨a1,r1⟩
  all_goals
   refine fd.ctx_Ctx_Final.d caughtOk ?_
   refine⟨⟨[(0,.p (.k 0) 0),(2,.p (.k 4) 0),(3,.p (.k 5) 0)],[_,_,_,_,.sc [.slice none 0 0],.sc [.int .i64 0]]⟩,4,5,by decide,⟨[.k 0,.k 1,.k 2,.k 3,.d 2 0,.d 3 0],⟨rfl,rfl,rfl,trivial⟩,⟨_,rfl,rfl⟩,⟨_,rfl,rfl⟩,⟨_,rfl,rfl⟩,⟨_,rfl,rfl⟩,⟨_,rfl,rfl⟩,⟨_,rfl,rfl⟩,trivial⟩,rfl,rfl,rfl,?_⟩
   refine⟨[.k 0,.k 1,.k 2,.k 3],_,_,_,_,NE,rfl,rfl,?_⟩
   refine⟨_,rfl,?_⟩
   refine⟨Za rfl,?_⟩
   refine⟨Za rfl,?_⟩
   refine⟨[.k 0,.k 1,.k 2],_,_,_,_,E,?_,rfl,?_⟩
   ·show[V.p (.k 0) 0,V.z H.length (sub (bv H) 0 H.length)]=_
    rw[bv_all rfl,hH]
   refine⟨Za rfl,?_⟩
   refine⟨Za rfl,?_⟩
   refine⟨_,rfl,_,rfl,?_⟩
   refine⟨_,_,?_,.ret (.refl _),WkBs.refl _⟩
   exact⟨_,rfl,[.k 0,.k 1,.k 2,.k 3],rfl,⟨_,rfl,rfl⟩,⟨_,rfl,rfl⟩,⟨_,rfl,rfl⟩,⟨_,rfl,rfl⟩,trivial⟩
theorem c_cxfinNp {t mode pad md:Int} {back:Bool} {k m n:Nat} {e:Int} {xs:List V} {iv last last' H:Bs} {st st':MS} {x:HK} {vr:List Value} (hx:x= .n∧m=0∧H=[]∨x= .o H∧H.length=m)
  (E:Con C N.ctx_Ctx_end [.p (.k 0) 0,.z m (bv H)] [cxO false t mode pad back k xs iv .n last,moX (cipV t k xs) md back st 2,gnB st.row st.gone] (.pan (.i tRef (i64 e))) [cxO false t mode pad back k xs iv .n last',moX (cipV t k xs) md back st' 2,gnB st'.row st'.gone]):
  Con C N.ctx_Ctx_Final [.p (.k 0) 0] [cxO true t mode pad back k xs iv x last,moX (cipV t k xs) md back st 2,gnB st.row st.gone,x.b] (.ret (.t [.z 0 [],i64 e])) [cxO false t mode pad back k xs iv .n last',moX (cipV t k xs) md back st' 2,gnB st'.row st'.gone,.dead]:=by
 have NE:=c_cxneed (t:=t) (mode:=mode) (pad:=pad) (md:=md) (back:=back) (k:=k) (xs:=xs) (iv:=iv) (last:=last) (st:=st) (x:=x)
 obtain⟨ch,row,g⟩:=st
 obtain⟨ch1,row1,g1⟩:=st'
 rcases hx with ⟨rfl,rfl,rfl⟩|⟨rfl,hH⟩
 ·rcases row with _|⟨a,r⟩<;>rcases row1 with _|⟨a1,r1⟩
  all_goals
   refine fd.ctx_Ctx_Final.d caughtOk ?_
   refine⟨⟨[(0,.p (.k 0) 0),(2,.p (.k 4) 0),(3,.p (.k 5) 0)],[_,_,_,_,.sc [.slice none 0 0],.sc [.int .i64 0]]⟩,4,5,by decide,⟨[.k 0,.k 1,.k 2,.k 3,.d 2 0,.d 3 0],⟨rfl,rfl,rfl,trivial⟩,⟨_,rfl,rfl⟩,⟨_,rfl,rfl⟩,⟨_,rfl,rfl⟩,⟨_,rfl,rfl⟩,⟨_,rfl,rfl⟩,⟨_,rfl,rfl⟩,trivial⟩,rfl,rfl,rfl,?_⟩
   refine⟨[.k 0,.k 1,.k 2,.k 3],_,_,_,_,NE,rfl,rfl,?_⟩
   refine⟨_,rfl,?_⟩
   refine⟨Za rfl,?_⟩
   refine⟨Za rfl,?_⟩
   refine⟨[.k 0,.k 1,.k 2],_,_,_,_,Con.args E (ys0:=[.p (.k 0) 0,nilv]) (.cons (.refl _) (.cons .nl .nil)),rfl,rfl,?_⟩
   refine⟨_,rfl,_,rfl,?_⟩
   refine⟨_,_,?_,.ret (.t (.cons .nl (.cons (.refl _) .nil))),WkBs.refl _⟩
   exact⟨_,rfl,[.k 0,.k 1,.k 2,.k 3],rfl,⟨_,rfl,rfl⟩,⟨_,rfl,rfl⟩,⟨_,rfl,rfl⟩,⟨_,rfl,rfl⟩,trivial⟩
 ·rcases row with _|⟨a,r⟩<;>rcases row1 with _|⟨a1,r1⟩
  all_goals
   refine fd.ctx_Ctx_Final.d caughtOk ?_
   refine⟨⟨[(0,.p (.k 0) 0),(2,.p (.k 4) 0),(3,.p (.k 5) 0)],[_,_,_,_,.sc [.slice none 0 0],.sc [.int .i64 0]]⟩,4,5,by decide,⟨[.k 0,.k 1,.k 2,.k 3,.d 2 0,.d 3 0],⟨rfl,rfl,rfl,trivial⟩,⟨_,rfl,rfl⟩,⟨_,rfl,rfl⟩,⟨_,rfl,rfl⟩,⟨_,rfl,rfl⟩,⟨_,rfl,rfl⟩,⟨_,rfl,rfl⟩,trivial⟩,rfl,rfl,rfl,?_⟩
   refine⟨[.k 0,.k 1,.k 2,.k 3],_,_,_,_,NE,rfl,rfl,?_⟩
   refine⟨_,rfl,?_⟩
   refine⟨Za rfl,?_⟩
   refine⟨Za rfl,?_⟩
   refine⟨[.k 0,.k 1,.k 2],_,_,_,_,E,?_,rfl,?_⟩
   ·show[V.p (.k 0) 0,V.z H.length (sub (bv H) 0 H.length)]=_
    rw[bv_all rfl,hH]
   refine⟨_,rfl,_,rfl,?_⟩
   refine⟨_,_,?_,.ret (.t (.cons .nl (.cons (.refl _) .nil))),WkBs.refl _⟩
   exact⟨_,rfl,[.k 0,.k 1,.k 2,.k 3],rfl,⟨_,rfl,rfl⟩,⟨_,rfl,rfl⟩,⟨_,rfl,rfl⟩,⟨_,rfl,rfl⟩,trivial⟩
abbrev cS (t:Int) (key:Bs) (s:Nat) (mode pad:Int) (back:Bool) (iv M:Bs):MS:=(cxSt (cF t key false) (cF t key true) s mode pad back iv M).2
abbrev cT (t:Int) (key:Bs) (s:Nat) (mode pad:Int) (back:Bool) (iv M:Bs):Bs:=(cxSt (cF t key false) (cF t key true) s mode pad back iv M).1
abbrev cL (t:Int) (key:Bs) (s:Nat) (mode pad:Int) (back:Bool) (iv M:Bs):Bs:=cxLa (cF t key false) (cF t key true) s mode pad back iv M
theorem cS_ok {t key s k xs rs} (h:Ciph t key s k xs rs) {mode pad:Int} {back:Bool} {iv M:Bs} (ok:shOk s mode pad iv):MK s (cxMd mode) (cS t key s mode pad back iv M):=by
 have hs:=h.s_le
 have K0:MK s (cxMd mode) ⟨iv,[],[]⟩:=MK.new (cxMd_ok ok).1 (by
  have:=(cxMd_ok ok).2
  by_cases h1:cxMd mode=1
  ·exact .inl h1
  ·rw[if_neg h1]at this;exact .inr this)
 exact K0.step h.ci (by omega)
theorem cL_len {t key s k xs rs} (h:Ciph t key s k xs rs) {mode pad:Int} {back:Bool} {iv M:Bs} (ok:shOk s mode pad iv) (h7:7≤mode):(cL t key s mode pad back iv M).length=s:=by
 have hs:=h.s_le
 have hT:=cx_told (back:=back) (M:=M) h.ci (by omega) ok
 obtain⟨f1,f2⟩:=cxFr_ok (back:=back) (by omega) ok M.length
 have lt:(M.take (cxFr s mode pad back M.length)).length=cxFr s mode pad back M.length:=by rw[Zd];omega
 unfold cL cxLa cxLast
 rw[lt]
 by_cases hn:s≤cxFr s mode pad back M.length
 ·rw[if_pos ⟨h7,hn⟩,Ze]
  split
  ·rw[lt];omega
  ·rw[hT];omega
 ·rw[if_neg (fun hh=>hn hh.2)]
  have:=ok.2.2.2
  rw[if_neg (by omega)]at this
  exact this
theorem cS_0 {t key s} {mode pad:Int} {back:Bool} {iv:Bs} (hs:0<s) (ok:shOk s mode pad iv):cxSt (cF t key false) (cF t key true) s mode pad back iv []=([],⟨iv,[],[]⟩):=by
 unfold cxSt
 rw[Z4,moStep_nil]
theorem cS_0' {t key s} {mode pad:Int} {back:Bool} {iv:Bs} (hs:0<s) (ok:shOk s mode pad iv):cS t key s mode pad back iv []=⟨iv,[],[]⟩:=congrArg Prod.snd (cS_0 hs ok)
theorem cL_0 {t key s} {mode pad:Int} {back:Bool} {iv:Bs} (hs:0<s) (ok:shOk s mode pad iv):cL t key s mode pad back iv []=iv:=by
 unfold cL cxLa cxLast
 rw[Z4,if_neg (by simp;omega)]
theorem cxH_0 {s:Nat} {mode pad:Int} {back:Bool}:cxH s mode pad back []=[]:=by unfold cxH;rw[List.drop_nil]
theorem cx_up {t key s k xs rs} (h:Ciph t key s k xs rs) {mode pad:Int} {back:Bool} {iv M b:Bs} {m:Nat} {x:HK} (ok:shOk s mode pad iv) (hx:x= .n∧cxH s mode pad back M=[]∨x= .o (cxH s mode pad back M)) (hb:b.length=m) (hL:M.length+m≤100000):
  ∃(n:Nat) (o:Bs),o.length=n∧cxFr s mode pad back (M++b).length=cxFr s mode pad back M.length+n∧cT t key s mode pad back iv (M++b)=cT t key s mode pad back iv M++o∧
  (Con C N.ctx_Ctx_Update [.p (.k 0) 0,.z m (bv b)] [cxO true t mode pad back k xs iv x (cL t key s mode pad back iv M),moX (cipV t k xs) (cxMd mode) back (cS t key s mode pad back iv M) 2,gnB (cS t key s mode pad back iv M).row (cS t key s mode pad back iv M).gone,x.b]
   (.ret (.t [.z n (bv o),i64 0]))
   [cxX true true t mode pad back (cipV t k xs) (.z iv.length (bv iv)) (.p (.k 1) 0) (.o 1 (.k 5) 0 (cxH s mode pad back (M++b)).length) (.z (cL t key s mode pad back iv (M++b)).length (bv (cL t key s mode pad back iv (M++b)))),
    moX (cipV t k xs) (cxMd mode) back (cS t key s mode pad back iv (M++b)) 4,.dead,.dead,gnB (cS t key s mode pad back iv (M++b)).row (cS t key s mode pad back iv (M++b)).gone,.sc (bv (cxH s mode pad back (M++b)))]∨
   (cS t key s mode pad back iv M).row≠[]∧Con C N.ctx_Ctx_Update [.p (.k 0) 0,.z m (bv b)] [cxO true t mode pad back k xs iv x (cL t key s mode pad back iv M),moX (cipV t k xs) (cxMd mode) back (cS t key s mode pad back iv M) 2,gnB (cS t key s mode pad back iv M).row (cS t key s mode pad back iv M).gone,x.b]
   (.ret (.t [.z n (bv o),i64 0]))
   [cxX true true t mode pad back (cipV t k xs) (.z iv.length (bv iv)) (.p (.k 1) 0) (.o 1 (.k 4) 0 (cxH s mode pad back (M++b)).length) (.z (cL t key s mode pad back iv (M++b)).length (bv (cL t key s mode pad back iv (M++b)))),
    moX (cipV t k xs) (cxMd mode) back (cS t key s mode pad back iv (M++b)) 2,gnB (cS t key s mode pad back iv (M++b)).row (cS t key s mode pad back iv (M++b)).gone,.dead,.sc (bv (cxH s mode pad back (M++b)))]):=by
 have hs:=h.s_le
 have K:=cS_ok h (back:=back) (M:=M) ok
 have hm9:mode≤9:=ok.1.2
 have hxl:x.l=cxH s mode pad back M:=by
  rcases hx with ⟨rfl,e⟩|rfl
  ·exact e.symm
  ·rfl
 have hxo:x= .n∨∃H,x= .o H:=by
  rcases hx with ⟨rfl,e⟩|rfl
  ·exact .inl rfl
  ·exact .inr ⟨_,rfl⟩
 obtain⟨a,ha⟩:∃a,a=cxFr s mode pad back ((cxH s mode pad back M).length+b.length):=⟨_,rfl⟩
 obtain⟨u1,u2,u3⟩:=cx_upd (E:=cF t key false) (D:=cF t key true) (iv:=iv) (M:=M) (b:=b) h.ci (by omega) ok ha
 have hF:cxFr s mode pad back (M++b).length=cxFr s mode pad back M.length+a:=by
  rw[Zb,cxFr_add (by omega) ok,ha,cxH_len]
 obtain⟨f1,f2⟩:=cxFr_ok (back:=back) (by omega) ok ((cxH s mode pad back M).length+b.length)
 rw[←ha]at f1 f2
 have hHl:=cxH_len (n:=s) (mode:=mode) (pad:=pad) (back:=back) M
 have l0:((cxH s mode pad back M++b).take a).length=a:=by rw[Zd,Zb];omega
 have lo:(moStep (cF t key false) (cF t key true) s (cxMd mode) back (cS t key s mode pad back iv M) ((cxH s mode pad back M++b).take a)).1.length=a:=by
  rw[moStep_len h.ci K.ok (by rw[l0];exact f2),l0]
 have eH:(cxH s mode pad back M).length+m-a=(cxH s mode pad back (M++b)).length:=by rw[←u3,Ze,Zb,hb]
 refine⟨a,(moStep (cF t key false) (cF t key true) s (cxMd mode) back (cS t key s mode pad back iv M) ((cxH s mode pad back M++b).take a)).1,lo,hF,by rw[show cT t key s mode pad back iv (M++b)=(cxSt (cF t key false) (cF t key true) s mode pad back iv (M++b)).1 from rfl,u1],?_⟩
 have e1:cS t key s mode pad back iv (M++b)=(moStep (cF t key false) (cF t key true) s (cxMd mode) back (cS t key s mode pad back iv M) ((cxH s mode pad back M++b).take a)).2:=by
  rw[show cS t key s mode pad back iv (M++b)=(cxSt (cF t key false) (cF t key true) s mode pad back iv (M++b)).2 from rfl,u1]
 rw[e1,show cL t key s mode pad back iv (M++b)=cxLa (cF t key false) (cF t key true) s mode pad back iv (M++b) from rfl,←u2,←u3]
 by_cases hne:0<a∨(cS t key s mode pad back iv M).row=[]
 ·left
  have:=c_cxupd h (mode:=mode) (pad:=pad) (back:=back) (iv:=iv) (last:=cL t key s mode pad back iv M) (st:=cS t key s mode pad back iv M) (x:=x) (L:=(cxH s mode pad back M).length+m) (at':=a) hxo hb (by rw[hxl]) (by omega) K hm9 rfl (by rw[ha,hb];rfl) hne
  rw[hxl]at this
  rw[Ze,Zb,hb]
  exact this
 ·right
  have hrow:(cS t key s mode pad back iv M).row≠[]:=fun hh=>hne (.inr hh)
  have h3:3≤cxMd mode:=by
   have h1:=K.ok.m
   rcases Nat.lt_or_ge 0 1 with _|_
   ·by_cases h2:3≤cxMd mode
    ·exact h2
    ·exact absurd (K.ok.blk (by omega)) hrow
   ·omega
  have g1:moGrain s (cxMd mode)=1:=if_neg (by omega)
  have a0:a=0:=by omega
  have hL0:(cxH s mode pad back M).length+m=0:=by
   have hz:cxFr s mode pad back ((cxH s mode pad back M).length+b.length)=(cxH s mode pad back M).length+b.length:=by
    unfold cxFr cxN cxMost
    rw[g1,if_pos h3];simp
   rw[←ha,hb]at hz
   omega
  have:=c_cxupd0 h (mode:=mode) (pad:=pad) (back:=back) (iv:=iv) (last:=cL t key s mode pad back iv M) (st:=cS t key s mode pad back iv M) (x:=x) (L:=(cxH s mode pad back M).length+m) (at':=a) hxo hb (by rw[hxl]) hL0 h3 K hm9 rfl (by rw[ha,hb];rfl)
  have hHb:cxH s mode pad back M++b=[]:=Zc (by rw[Zb,hb];exact hL0)
  subst a0
  rw[hHb,Z4,moStep_nil,List.drop_nil]
  have eL:cxLast s mode back [] [] (cL t key s mode pad back iv M)=cL t key s mode pad back iv M:=by unfold cxLast;rw[if_neg (by simp;omega)]
  rw[eL]
  exact⟨hrow,this⟩
abbrev cxC (t mode pad:Int) (back:Bool) (k:Nat) (xs:List V) (iv last:Bs):B:=cxX true false t mode pad back (cipV t k xs) (.z iv.length (bv iv)) (.p (.k 1) 0) nilv (.z last.length (bv last))
theorem cx_fi {t key s k xs rs} (h:Ciph t key s k xs rs) {mode pad:Int} {back:Bool} {iv M:Bs} {x:HK} {r:Bs×Int} (ok:shOk s mode pad iv) (hx:x= .n∧cxH s mode pad back M=[]∨x= .o (cxH s mode pad back M)) (hL:M.length≤100000)
  (hr:r=cxEnd (cF t key false) (cF t key true) s mode pad back (cS t key s mode pad back iv M) (cL t key s mode pad back iv M) (cxH s mode pad back M)):
  r.1.length≤2*s∧∃last',Con C N.ctx_Ctx_Final [.p (.k 0) 0] [cxO true t mode pad back k xs iv x (cL t key s mode pad back iv M),moX (cipV t k xs) (cxMd mode) back (cS t key s mode pad back iv M) 2,gnB (cS t key s mode pad back iv M).row (cS t key s mode pad back iv M).gone,x.b]
   (.ret (.t [.z r.1.length (bv r.1),i64 r.2])) [cxC t mode pad back k xs iv last',.dead,.dead,.dead,.dead]:=by
 have hs:=h.s_le
 have K:=cS_ok h (back:=back) (M:=M) ok
 have hl:=cL_len h (back:=back) (M:=M) ok
 obtain⟨f1,f2⟩:=cxFr_ok (back:=back) (by omega) ok M.length
 have hHl:=cxH_len (n:=s) (mode:=mode) (pad:=pad) (back:=back) M
 obtain⟨g0,g1,g2⟩:=cx_grain (back:=back) (by omega) ok
 have hmost:(cxH s mode pad back M).length≤cxMost s (cxMd mode) mode pad back:=by
  rw[hHl]
  refine Zm fun hh=> ?_
  have:=(cxN_lt (most:=cxMost s (cxMd mode) mode pad back) (L:=M.length) (i:=cxN (moGrain s (cxMd mode)) (cxMost s (cxMd mode) mode pad back) M.length) g0).2 (by show _+cxFr s mode pad back M.length<_;omega)
  exact absurd this (Z2 _)
 have hHb:(cxH s mode pad back M).length≤100000:=by omega
 generalize hSt:cS t key s mode pad back iv M=st at*
 generalize hLa:cL t key s mode pad back iv M=last at*
 generalize cxH s mode pad back M=H at*
 have hx':x= .n∧H.length=0∧H=[]∨x= .o H∧H.length=H.length:=by
  rcases hx with ⟨e1,e2⟩|e1
  ·exact .inl ⟨e1,by rw[e2];rfl,e2⟩
  ·exact .inr ⟨e1,rfl⟩
 have fT:∀{n} {vr:List Value} {last' st'},Con C N.ctx_Ctx_end [.p (.k 0) 0,.z H.length (bv H)] [cxO false t mode pad back k xs iv .n last,moX (cipV t k xs) (cxMd mode) back st 2,gnB st.row st.gone] (.ret (.z n vr)) [cxO false t mode pad back k xs iv .n last',moX (cipV t k xs) (cxMd mode) back st' 3,.dead,gnB st'.row st'.gone]→
   ∃last',Con C N.ctx_Ctx_Final [.p (.k 0) 0] [cxO true t mode pad back k xs iv x last,moX (cipV t k xs) (cxMd mode) back st 2,gnB st.row st.gone,x.b] (.ret (.t [.z n vr,i64 0])) [cxC t mode pad back k xs iv last',.dead,.dead,.dead,.dead]:=
  fun E=>⟨_,(c_cxfinTr (e:=0) hx' E).fg (.keep (.drop (.drop (.drop (.drop .nil)))))⟩
 have fTp:∀{e last' st'},Con C N.ctx_Ctx_end [.p (.k 0) 0,.z H.length (bv H)] [cxO false t mode pad back k xs iv .n last,moX (cipV t k xs) (cxMd mode) back st 2,gnB st.row st.gone] (.pan (.i tRef (i64 e))) [cxO false t mode pad back k xs iv .n last',moX (cipV t k xs) (cxMd mode) back st' 3,.dead,gnB st'.row st'.gone]→
   ∃last',Con C N.ctx_Ctx_Final [.p (.k 0) 0] [cxO true t mode pad back k xs iv x last,moX (cipV t k xs) (cxMd mode) back st 2,gnB st.row st.gone,x.b] (.ret (.t [.z 0 [],i64 e])) [cxC t mode pad back k xs iv last',.dead,.dead,.dead,.dead]:=
  fun E=>⟨_,(c_cxfinTp (n:=0) (vr:=[]) hx' E).fg (.keep (.drop (.drop (.drop (.drop .nil)))))⟩
 have fN:∀{n} {vr:List Value} {last' st'},Con C N.ctx_Ctx_end [.p (.k 0) 0,.z H.length (bv H)] [cxO false t mode pad back k xs iv .n last,moX (cipV t k xs) (cxMd mode) back st 2,gnB st.row st.gone] (.ret (.z n vr)) [cxO false t mode pad back k xs iv .n last',moX (cipV t k xs) (cxMd mode) back st' 2,gnB st'.row st'.gone]→
   ∃last',Con C N.ctx_Ctx_Final [.p (.k 0) 0] [cxO true t mode pad back k xs iv x last,moX (cipV t k xs) (cxMd mode) back st 2,gnB st.row st.gone,x.b] (.ret (.t [.z n vr,i64 0])) [cxC t mode pad back k xs iv last',.dead,.dead,.dead,.dead]:=
  fun E=>⟨_,(c_cxfinNr (e:=0) hx' E).fg (.keep (.drop (.drop (.drop (.dd .nil)))))⟩
 have fNp:∀{e last' st'},Con C N.ctx_Ctx_end [.p (.k 0) 0,.z H.length (bv H)] [cxO false t mode pad back k xs iv .n last,moX (cipV t k xs) (cxMd mode) back st 2,gnB st.row st.gone] (.pan (.i tRef (i64 e))) [cxO false t mode pad back k xs iv .n last',moX (cipV t k xs) (cxMd mode) back st' 2,gnB st'.row st'.gone]→
   ∃last',Con C N.ctx_Ctx_Final [.p (.k 0) 0] [cxO true t mode pad back k xs iv x last,moX (cipV t k xs) (cxMd mode) back st 2,gnB st.row st.gone,x.b] (.ret (.t [.z 0 [],i64 e])) [cxC t mode pad back k xs iv last',.dead,.dead,.dead,.dead]:=
  fun E=>⟨_,(c_cxfinNp (n:=0) (vr:=[]) hx' E).fg (.keep (.drop (.drop (.drop (.dd .nil)))))⟩
 unfold cxEnd at hr
 by_cases h7:7≤mode
 ·have e2:cxMd mode=2:=if_pos h7
  have hmo:H.length≤2*s:=by unfold cxMost at hmost;rw[e2,if_neg (by decide),if_pos h7]at hmost;exact hmost
  rw[if_pos h7]at hr
  by_cases hsm:H.length<s
  ·rw[if_pos hsm]at hr
   subst hr
   exact⟨Zo _,fNp (c_cxend_st7 h (hl h7) rfl ⟨h7,ok.1.2⟩ hsm)⟩
  ·rw[if_neg hsm]at hr
   subst hr
   have ll:(stT (cF t key false) (cF t key true) s mode back last H).length=H.length:=stT_len h.ci (hl h7) (by omega) hmo
   refine⟨by show(stT (cF t key false) (cF t key true) s mode back last H).length≤_;rw[ll];exact hmo,?_⟩
   have:=fN (c_cxend_st h (pad:=pad) (md:=cxMd mode) (back:=back) (iv:=iv) (st:=st) (hl h7) rfl ⟨h7,ok.1.2⟩ (by omega) hmo)
   rw[←ll]at this
   exact this
 ·have e2:cxMd mode=mode:=if_neg h7
  rw[if_neg h7]at hr
  by_cases h4:pad=4
  ·rw[if_pos h4]at hr
   by_cases hz:H.length%moGrain s (cxMd mode)=0
   ·rw[if_pos hz]at hr
    have lo:(moStep (cF t key false) (cF t key true) s (cxMd mode) back st H).1.length=H.length:=moStep_len h.ci K.ok hz
    have hb2:H.length≤2*s:=by
     unfold cxMost at hmost
     rw[if_neg h7]at hmost
     split at hmost
     ·omega
     ·split at hmost<;>omega
    subst hr
    refine⟨by show(moStep (cF t key false) (cF t key true) s (cxMd mode) back st H).1.length≤_;rw[lo];exact hb2,?_⟩
    by_cases hne:0<H.length∨st.row=[]
    ·have:=fT (c_cxend_n h (mode:=mode) (pad:=pad) (back:=back) (iv:=iv) (last:=last) rfl hHb K (by omega) h4 hz hne)
     rw[←lo]at this
     rw[lo]at this ⊢
     exact this
    ·have hrow:st.row≠[]:=fun hh=>hne (.inr hh)
     have h3:3≤cxMd mode:=by
      have h1:=K.ok.m
      by_cases h2:3≤cxMd mode
      ·exact h2
      ·exact absurd (K.ok.blk (by omega)) hrow
     have h0:H.length=0:=by omega
     have:=fN (c_cxend_n0 h (H:=H) (mode:=mode) (pad:=pad) (back:=back) (iv:=iv) (last:=last) (st:=st) h0 h3 (by omega) h4)
     obtain rfl:=Zc h0
     rw[moStep_nil]
     exact this
   ·rw[if_neg hz]at hr
    subst hr
    exact⟨Zo _,fNp (c_cxend_n7 h K (by omega) h4 hz)⟩
  ·have hm2:mode≤2:=ok.2.2.1.resolve_left h4
   have hp:pad=1∨pad=2∨pad=3:=by have:=ok.2.1;omega
   have gn:moGrain s (cxMd mode)=s:=if_pos (by have:=ok.1;omega)
   rw[if_neg h4]at hr
   have hmo:H.length≤(if back=true then s else s-1):=by
    unfold cxMost at hmost
    rw[if_neg (by omega),if_neg h7]at hmost
    cases back
    ·rw[if_neg (by simp)]at hmost;exact hmost
    ·rw[if_pos ⟨h4,rfl⟩]at hmost;exact hmost
   cases back
   ·rw[if_pos rfl]at hr
    rw[if_neg (by decide)]at hmo
    have lp:(pdAdd pad s H).length=s:=pdAdd_len (by omega)
    have lo:(moStep (cF t key false) (cF t key true) s (cxMd mode) false st (pdAdd pad s H)).1.length=s:=by rw[moStep_len h.ci K.ok (by rw[lp,gn,Zk]),lp]
    subst hr
    refine⟨by show(moStep (cF t key false) (cF t key true) s (cxMd mode) false st (pdAdd pad s H)).1.length≤_;rw[lo];omega,?_⟩
    have:=fT (c_cxend_p h (m:=H.length) (mode:=mode) (pad:=pad) (back:=false) (iv:=iv) (last:=last) rfl rfl (by omega) K (by omega) hp gn)
    rw[←lo]at this
    rw[lo]at this ⊢
    exact this
   ·rw[if_neg (by decide)]at hr
    by_cases hsz:H.length=s
    ·rw[if_pos hsz]at hr
     have lo:(moStep (cF t key false) (cF t key true) s (cxMd mode) true st H).1.length=s:=by rw[moStep_len h.ci K.ok (by rw[hsz,gn,Zk]),hsz]
     by_cases h0:pdLong pad (moStep (cF t key false) (cF t key true) s (cxMd mode) true st H).1=0
     ·rw[if_pos h0]at hr
      subst hr
      have:=c_cxend_b8 h (m:=0) (mode:=mode) (pad:=pad) (back:=true) (iv:=iv) (last:=last) rfl hsz K (by omega) hp gn h0
      exact⟨Zo _,fTp (by rw[hsz];exact this)⟩
     ·rw[if_neg h0]at hr
      subst hr
      have ls:(pdStrip pad (moStep (cF t key false) (cF t key true) s (cxMd mode) true st H).1).length=s-pdLong pad (moStep (cF t key false) (cF t key true) s (cxMd mode) true st H).1:=by
       unfold pdStrip;rw[Zd,lo];omega
      refine⟨by show(pdStrip pad (moStep (cF t key false) (cF t key true) s (cxMd mode) true st H).1).length≤_;rw[ls];omega,?_⟩
      have:=c_cxend_bk h (m:=0) (mode:=mode) (pad:=pad) (back:=true) (iv:=iv) (last:=last) rfl hsz K (by omega) hp gn h0
      rw[←ls]at this
      exact fT (by rw[hsz];exact this)
    ·rw[if_neg hsz]at hr
     subst hr
     exact⟨Zo _,fNp (c_cxend_b7 h rfl rfl hHb hsz (by omega) hp)⟩
theorem c_open16 {tag n mode pad:Int} {back:Bool} {lk li s q:Nat} {xs rs:List V} {k iv:Bs} (h0:In64 tag) (h1:In64 n) (h2:In64 mode) (h3:In64 pad) (hk:k.length=lk) (hi:iv.length=li) (h:Ciph (tagOf tag) (keyOf (tagOf tag) n k) s q xs rs):
  Con C N.law16_open [askV tag n mode pad back lk k li iv] [] (.ret (.p (.k 0) 0))
   [cxO true (tagOf tag) (akMode mode) (akPad mode pad) back q xs (ivL (akMode mode) s iv) .n (ivL (akMode mode) s iv),moX (cipV (tagOf tag) q xs) (cxMd (akMode mode)) back ⟨ivL (akMode mode) s iv,[],[]⟩ 2,.dead,.dead]:=by
 have hs:=h.s_le
 have hM:=c_askmake (back:=back) h0 h1 h2 h3 hk hi h.hs hs.2
 have lK:=keyOf_len (tagOf tag) n k
 have lV:=ivL_len (akMode mode) s iv
 have hkl:=kLen_ok (tagOf_ok tag) n
 have IN:=c_cxinitA h (back:=back) lK (by omega) lV (ak_ok mode pad s iv)
 generalize akMode mode=md at*
 generalize akPad mode pad=pd at*
 generalize keyOf (tagOf tag) n k=key at*
 generalize kLen (tagOf tag) n=lkk at*
 generalize ivL md s iv=V0 at*
 refine fd.law16_open.c ?_
 refine⟨[],_,_,_,_,c_cxnew,rfl,rfl,?_⟩
 refine⟨[i64 tag,i64 n,i64 mode,i64 pad,bool back,.z lk (bv k),.z li (bv iv)],rfl,rfl,?_⟩
 refine⟨[],_,_,_,_,hM,rfl,rfl,?_⟩
 refine⟨Za rfl,?_⟩
 refine⟨[i64 (tagOf tag),i64 md,i64 pd,bool back],rfl,rfl,?_⟩
 refine⟨[.d 7 0],_,_,_,_,IN,rfl,rfl,?_⟩
 exact⟨_,rfl,[.d 7 0,.d 21 1,.d 21 2,.d 21 3],rfl,⟨_,rfl,rfl⟩,⟨_,rfl,rfl⟩,⟨_,rfl,rfl⟩,⟨_,rfl,rfl⟩,trivial⟩
theorem c_known16:Con C N.law16_known [] [] (.ret (bool true)) []:=by
 obtain⟨z,hz⟩:∃z:Bs,z=List.replicate 16 0:=⟨_,rfl⟩
 have lz:z.length=16:=by rw[hz];rfl
 obtain⟨k,xs,rs,h⟩:=ciph_xtea lz
 have ok:shOk 8 1 1 []:=⟨by decide,by decide,by decide,rfl⟩
 have IN:=c_cxinitA h (back:=false) lz (by omega) (li:=0) (iv:=[]) rfl ok
 obtain⟨b,hb⟩:∃b:Bs,b=[104,101,108,108,111]:=⟨_,rfl⟩
 have lb:b.length=5:=by rw[hb];rfl
 have hF:cxFr 8 1 1 false b.length=0:=by rw[lb];decide
 obtain⟨m,o,hn,hFa,hT,U⟩:=cx_up h (back:=false) (M:=[]) (b:=b) (x:= .n) ok (.inl ⟨rfl,cxH_0⟩) lb (by simp)
 rw[Zi,hF]at hFa
 obtain rfl:m=0:=by omega
 obtain rfl:=Zc hn
 have U:=U.resolve_right (fun hh=>hh.1 (by rw[cS_0' (by omega) ok]))
 rw[cL_0 (by omega) ok,cS_0' (by omega) ok,Zi]at U
 have eH:cxH 8 1 1 false b=b:=by unfold cxH;rw[hF];rfl
 obtain⟨r,hr⟩:∃r,r=cxEnd (cF 4 z false) (cF 4 z true) 8 1 1 false (cS 4 z 8 1 1 false [] b) (cL 4 z 8 1 1 false [] b) (cxH 8 1 1 false b):=⟨_,rfl⟩
 obtain⟨_,last',F⟩:=cx_fi h (x:= .o (cxH 8 1 1 false b)) (back:=false) (M:=b) ok (.inr rfl) (by omega) hr
 obtain⟨e1,e2⟩:=cx_end (M:=b) h.ci (by omega) ok hr
 obtain⟨p1,p2⟩:=shP_len (m:=b) h.ci (by omega) ok (by unfold shFine;omega)
 rw[e1]at p1 p2
 have r2:r.2=0:=p1
 have r1:r.1.length=8:=by
  have hTl:=cx_told (back:=false) (M:=b) h.ci (by omega) ok
  rw[hF]at hTl
  have:=p2
  rw[if_pos r2,Zb,hTl,if_neg (by decide),lb]at this
  simpa using this
 rw[r1,r2]at F
 rw[eH]at U F
 have HE:=fun(st:MS) (l:Bs)=>c_cxheld (t:=4) (mode:=1) (pad:=1) (md:=cxMd 1) (op:=true) (back:=false) (k:=k) (xs:=xs) (iv:=[]) (last:=l) (st:=st) (x:= .o b)
 have H1:=HE (cS 4 z 8 1 1 false [] b) (cL 4 z 8 1 1 false [] b)
 rw[show (HK.o b).l.length=5 from lb]at H1
 generalize cL 4 z 8 1 1 false [] b=la at*
 generalize cS 4 z 8 1 1 false [] b=st1 at*
 obtain⟨ch,row,g⟩:=st1
 rcases row with _|⟨a,rr⟩
 all_goals
  refine fd.law16_known.c ?_
  refine⟨[],_,_,_,_,c_cxnew,rfl,rfl,?_⟩
  refine⟨[.d 10 0],_,_,_,_,c_cxfin_noA,rfl,rfl,?_⟩
  refine⟨by decide,by decide,by decide,?_⟩
  refine⟨[.d 10 0],_,_,_,_,Con.args IN (ys0:=[.p (.k 0) 0,cfgV 4 1 1 false,.z 16 (bv z),nilv]) (.cons (.refl _) (.cons (.refl _) (.cons (.refl _) (.cons .nl .nil)))),?_,rfl,?_⟩
  ·show[V.p (.k 0) 0,cfgV 4 1 1 false,V.z 16 _,nilv]=_
   rw[hz];rfl
  refine⟨[.d 10 0,.d 21 1,.d 21 2,.d 21 3],_,_,_,_,U,?_,rfl,?_⟩
  ·show[V.p (.k 0) 0,V.z 5 _]=_
   rw[hb];rfl
  refine⟨[.d 10 0,.d 21 1,.d 26 4,.d 26 5],_,_,_,_,H1,rfl,rfl,?_⟩
  refine⟨[.d 10 0,.d 21 1,.d 26 4,.d 26 5],_,_,_,_,F,rfl,rfl,?_⟩
  exact⟨_,rfl,[],rfl,trivial⟩
theorem zc_get {ps:List (Bs)} {i:Nat} (h:i<ps.length):(ps.map zc)[((i:Nat):Int).toNat]? =some (.z ps[i].length (bv ps[i])):=by
 rw[Zh,List.getElem?_map,List.getElem?_eq_getElem h];rfl
def catN (ps:List (Bs)) (i:Nat):Bs:=(ps.take i).flatten
theorem catN_succ {ps:List (Bs)} {i:Nat} (h:i<ps.length):catN ps (i+1)=catN ps i++ps[i]:=by
 unfold catN
 rw[List.take_succ_eq_append_getElem h,Zr,Zv]
theorem catN_all (ps:List (Bs)):catN ps ps.length=ps.flatten:=by unfold catN;rw[List.take_length]
theorem catN_le (ps:List (Bs)) (i:Nat):(catN ps i).length≤ps.flatten.length:=by
 have:ps.flatten=catN ps i++(ps.drop i).flatten:=by unfold catN;rw[←Zr,Zj]
 rw[this,Zb];omega
theorem app_z {T o:Bs} {n m:Nat} (hT:T.length=n) (ho:o.length=m):V.z (n+m) (sub (sub (bv T) 0 (n*1)++bv o) 0 (n+m))=V.z (T++o).length (bv (T++o)):=by
 rw[Zt,bv_all hT,bv_app,bv_all (by rw[Zb,hT,ho]),Zb,hT,ho]
theorem Mt_eq {m:Nat} {s:S} {d d':D} (e:d=d') (h:Mt m s d'):Mt m s d:=e▸h
def alD (cv:V) (t mode pad md:Int) (back:Bool) (k:Nat) (xs:List V) (iv:Bs) (ps:List (Bs)) (i:Nat) (st:MS) (la H T:Bs):D:=
 ⟨[(0,.p (.k 0) 0),(1,.zz 1 ps.length (ps.map zc)),(7,.o 1 (.k 6) 0 T.length),(8,i64 i)],
  [cxX true true t mode pad back cv (.z iv.length (bv iv)) (.p (.k 1) 0) (.o 1 (.k 5) 0 H.length) (.z la.length (bv la)),moX cv md back st 4,.dead,.dead,gnB st.row st.gone,.sc (bv H),.sc (bv T)]⟩
def allD (cv:V) (t mode pad md:Int) (back:Bool) (k:Nat) (xs:List V) (iv:Bs) (ps:List (Bs)) (A:Nat→MS×Bs×Bs×Bs):Nat→D
 |0=>⟨[(0,.p (.k 0) 0),(1,.zz 1 ps.length (ps.map zc)),(7,.o 1 (.k 4) 0 0),(8,i64 0)],[cxO true t mode pad back k xs iv .n iv,moX cv md back ⟨iv,[],[]⟩ 2,.dead,.dead,.sc []]⟩
 |i+1=>alD cv t mode pad md back k xs iv ps (i+1) (A (i+1)).1 (A (i+1)).2.1 (A (i+1)).2.2.1 (A (i+1)).2.2.2
theorem allD_s {cv:V} {t mode pad md:Int} {back:Bool} {k:Nat} {xs:List V} {iv:Bs} {ps:List (Bs)} {A:Nat→MS×Bs×Bs×Bs} {i:Nat} {st:MS} {la H T:Bs} (e:A (i+1)=(st,la,H,T)):
  allD cv t mode pad md back k xs iv ps A (i+1)=alD cv t mode pad md back k xs iv ps (i+1) st la H T:=by
 show alD cv t mode pad md back k xs iv ps (i+1) (A (i+1)).1 (A (i+1)).2.1 (A (i+1)).2.2.1 (A (i+1)).2.2.2=_
 rw[e]
theorem c_all16 {t key s k xs rs} (h:Ciph t key s k xs rs) {mode pad:Int} {back:Bool} {iv:Bs} (ok:shOk s mode pad iv) {ps:List (Bs)} {r:Bs×Int} (hps:ps.flatten.length≤100000) (hpn:ps.length≤100000)
  (hr:r=cxEnd (cF t key false) (cF t key true) s mode pad back (cS t key s mode pad back iv ps.flatten) (cL t key s mode pad back iv ps.flatten) (cxH s mode pad back ps.flatten)):
  Con C N.law16_All [.p (.k 0) 0,.zz 1 ps.length (ps.map zc)] [cxO true t mode pad back k xs iv .n iv,moX (cipV t k xs) (cxMd mode) back ⟨iv,[],[]⟩ 2,.dead,.dead]
   (.ret (.t [.z (cT t key s mode pad back iv ps.flatten++r.1).length (bv (cT t key s mode pad back iv ps.flatten++r.1)),i64 r.2,bool true])) [.dead,.dead,.dead,.dead]:=by
 have hs:=h.s_le
 have hc0:catN ps 0=[]:=by unfold catN;rw[List.take_zero];rfl
 obtain⟨A,hA⟩:∃A:Nat→MS×Bs×Bs×Bs,A=fun i=>(cS t key s mode pad back iv (catN ps i),cL t key s mode pad back iv (catN ps i),cxH s mode pad back (catN ps i),cT t key s mode pad back iv (catN ps i)):=⟨_,rfl⟩
 obtain⟨e1,e2⟩:=cx_end (M:=ps.flatten) h.ci (by omega) ok hr
 have is:r.2≠0→r.1.length=0:=fun hh=>by rw[e2 hh];rfl
 have hF:∀{x:HK},(x= .n∧cxH s mode pad back ps.flatten=[]∨x= .o (cxH s mode pad back ps.flatten))→_:=fun hx=>(cx_fi h ok hx hps hr).2
 have hr2:=(cx_fi h (x:= .o (cxH s mode pad back ps.flatten)) ok (.inr rfl) hps hr).1
 have hTb:(cT t key s mode pad back iv ps.flatten).length≤100000:=by
  have h1:=cx_told (back:=back) (M:=ps.flatten) h.ci (by omega) ok
  have h2:=(cxFr_ok (back:=back) (by omega) ok ps.flatten.length).1
  show(cxSt (cF t key false) (cF t key true) s mode pad back iv ps.flatten).1.length≤_
  omega
 have hU:∀i (hi:i<ps.length) {x:HK},(x= .n∧cxH s mode pad back (catN ps i)=[]∨x= .o (cxH s mode pad back (catN ps i)))→_:=fun i hi x hx=>cx_up h (b:=ps[i]) ok hx rfl (by
  have h1:=catN_le ps (i+1)
  rw[catN_succ hi,Zb]at h1
  omega)
 have hTi:∀i,(cT t key s mode pad back iv (catN ps i)).length≤100000:=fun i=>by
  have h1:=cx_told (back:=back) (M:=catN ps i) h.ci (by omega) ok
  have h2:=(cxFr_ok (back:=back) (by omega) ok (catN ps i).length).1
  have h3:=catN_le ps i
  show(cxSt (cF t key false) (cF t key true) s mode pad back iv (catN ps i)).1.length≤_
  omega
 refine fd.law16_All.x ?_
 refine loopNn (allD (cipV t k xs) t mode pad (cxMd mode) back k xs iv ps A) ps.length [(7,1,.sc [])] ⟨[.k 0,.k 1,.k 2,.k 3,.d 900000 0],⟨rfl,rfl,rfl,rfl,trivial⟩,⟨_,rfl,rfl⟩,⟨_,rfl,rfl⟩,⟨_,rfl,rfl⟩,⟨_,rfl,rfl⟩,⟨_,rfl,rfl⟩,trivial⟩ fun i hi=> ?_
 rcases i with _|i
 ·refine spl_d (fun hlt=> ?_) (fun hge=> ?_)
  ·have hl:0<ps.length:=by omega
   obtain⟨n,o,hn,_,hT,U⟩:=hU 0 hl (x:= .n) (.inl ⟨rfl,by rw[hc0];exact cxH_0⟩)
   rw[←catN_succ hl,hc0]at hT U
   have U:=U.resolve_right (fun hh=>hh.1 (by rw[cS_0' (by omega) ok]))
   rw[cL_0 (by omega) ok,cS_0' (by omega) ok]at U
   rw[show cT t key s mode pad back iv []=[] from congrArg Prod.fst (cS_0 (by omega) ok),Zi]at hT
   refine⟨by omega,by omega,?_⟩
   refine⟨_,zc_get (i:=0) hl,?_⟩
   have hA1:A 1=(cS t key s mode pad back iv (catN ps (0+1)),cL t key s mode pad back iv (catN ps (0+1)),cxH s mode pad back (catN ps (0+1)),cT t key s mode pad back iv (catN ps (0+1))):=by rw[hA]
   rw[hT]at hA1
   generalize cS t key s mode pad back iv (catN ps (0+1))=st1 at*
   generalize cL t key s mode pad back iv (catN ps (0+1))=la1 at*
   generalize cxH s mode pad back (catN ps (0+1))=H1 at*
   have hTi1:=hTi 1
   rw[hT]at hTi1
   obtain⟨ch,row,g⟩:=st1
   rcases row with _|⟨a,rr⟩
   all_goals
    refine⟨[.k 0,.k 1,.k 2,.k 3],_,_,_,_,U,rfl,rfl,?_⟩
    refine⟨by rw[bv_len,hn],by omega,Nat.le_refl _,?_⟩
    refine⟨1,by omega,by omega,Mt_eq (allD_s hA1) ?_⟩
    refine⟨[.k 0,.k 1,.k 2,.k 3,.d 25 4,.d 25 5,.d 33 0],⟨rfl,rfl,?_,rfl,trivial⟩,⟨_,rfl,rfl⟩,⟨_,rfl,rfl⟩,⟨_,rfl,rfl⟩,⟨_,rfl,rfl⟩,⟨_,rfl,rfl⟩,⟨_,rfl,rfl⟩,⟨_,rfl,?_⟩,trivial⟩
    ·exact congrArg (V.o 1 (.k 6) 0) (show 0+n=o.length by omega)
    ·exact q7s (show sub ([]:List Value) 0 (0*1)++bv o=bv o from rfl)
  ·have h0:ps.length=0:=by omega
   have hp0:ps=[]:=Zc h0
   subst hp0
   obtain⟨la',F⟩:=hF (x:= .n) (.inl ⟨rfl,cxH_0⟩)
   rw[show ([]:List (Bs)).flatten=[] from rfl]at*
   rw[cL_0 (by omega) ok,cS_0' (by omega) ok]at F
   rw[show cT t key s mode pad back iv []=[] from congrArg Prod.fst (cS_0 (by omega) ok),Zi]
   refine⟨[.k 0,.k 1,.k 2,.k 3],_,_,_,_,F,rfl,rfl,?_⟩
   refine⟨by rw[bv_len],by omega,Nat.le_refl _,?_⟩
   refine spl_eq (fun h2=> ?_) (fun h2=> ?_)
   ·refine⟨.ret (.t [.z _ _,i64 r.2,bool true]),[_,_,_,_],⟨_,rfl,[.k 0,.k 1,.k 2,.k 3],?_,⟨_,rfl,rfl⟩,⟨_,rfl,rfl⟩,⟨_,rfl,rfl⟩,⟨_,rfl,rfl⟩,trivial⟩,.ret (.refl _),.drop (.drop (.drop (.drop .nil)))⟩
    exact congrArg (fun z=>V.t [z,i64 r.2,bool true]) (app_z (T:=[]) (o:=r.1) rfl rfl)
   ·have hd:decide ((r.1.length:Int)=0)=true:=decide_eq_true (by rw[is h2];rfl)
    refine⟨.ret (.t [.z _ _,i64 r.2,bool true]),[_,_,_,_],⟨_,rfl,[.k 0,.k 1,.k 2,.k 3],?_,⟨_,rfl,rfl⟩,⟨_,rfl,rfl⟩,⟨_,rfl,rfl⟩,⟨_,rfl,rfl⟩,trivial⟩,.ret (.refl _),.drop (.drop (.drop (.drop .nil)))⟩
    exact(congrArg (fun z=>V.t [z,i64 r.2,bool (decide ((r.1.length:Int)=0))]) (app_z (T:=[]) (o:=r.1) rfl rfl)).trans (congrArg (fun b=>V.t [_,i64 r.2,bool b]) hd)
 ·have hA1:A (i+1)=(cS t key s mode pad back iv (catN ps (i+1)),cL t key s mode pad back iv (catN ps (i+1)),cxH s mode pad back (catN ps (i+1)),cT t key s mode pad back iv (catN ps (i+1))):=by rw[hA]
  rw[allD_s hA1]
  have hT0:=hTi (i+1)
  refine spl_d (fun hlt=> ?_) (fun hge=> ?_)
  ·have hl:i+1<ps.length:=by omega
   obtain⟨n,o,hn,_,hT,U⟩:=hU (i+1) hl (x:= .o (cxH s mode pad back (catN ps (i+1)))) (.inr rfl)
   have hT1:=hTi (i+1+1)
   rw[←catN_succ hl]at hT U
   refine⟨by omega,by omega,?_⟩
   refine⟨.z ps[i+1].length (bv ps[i+1]),by rw[Zt];exact zc_get hl,?_⟩
   have hA2:A (i+1+1)=(cS t key s mode pad back iv (catN ps (i+1+1)),cL t key s mode pad back iv (catN ps (i+1+1)),cxH s mode pad back (catN ps (i+1+1)),cT t key s mode pad back iv (catN ps (i+1+1))):=by rw[hA]
   rw[hT]at hA2 hT1
   generalize cS t key s mode pad back iv (catN ps (i+1+1))=st1 at*
   generalize cL t key s mode pad back iv (catN ps (i+1+1))=la1 at*
   generalize cxH s mode pad back (catN ps (i+1+1))=H1 at*
   generalize cS t key s mode pad back iv (catN ps (i+1))=st0 at*
   generalize cL t key s mode pad back iv (catN ps (i+1))=la0 at*
   generalize cxH s mode pad back (catN ps (i+1))=H0 at*
   generalize cT t key s mode pad back iv (catN ps (i+1))=T0 at*
   rw[Zb,hn]at hT1
   obtain⟨ch,row,g⟩:=st1
   obtain⟨ch0,row0,g0⟩:=st0
   rcases U with U|⟨_,U⟩<;>rcases row0 with _|⟨a0,rr0⟩<;>rcases row with _|⟨a,rr⟩
   all_goals
    refine⟨[.k 0,.k 1,.k 4,.k 5],_,_,_,_,U,rfl,rfl,?_⟩
    refine⟨by rw[bv_len,hn],by omega,by rw[bv_len];omega,?_⟩
    refine⟨i+1+1,by omega,by omega,Mt_eq (allD_s hA2) ?_⟩
    first
     |refine⟨[.k 0,.k 1,.k 2,.k 3,.d 25 4,.d 25 5,.d 33 0],⟨rfl,rfl,?_,q7i (by simp(disch:=omega)only[Zf];omega),trivial⟩,⟨_,rfl,rfl⟩,⟨_,rfl,rfl⟩,⟨_,rfl,rfl⟩,⟨_,rfl,rfl⟩,⟨_,rfl,rfl⟩,⟨_,rfl,rfl⟩,⟨_,rfl,?_⟩,trivial⟩
     |refine⟨[.k 0,.k 1,.k 2,.k 3,.k 4,.d 25 4,.d 33 0],⟨rfl,rfl,?_,q7i (by simp(disch:=omega)only[Zf];omega),trivial⟩,⟨_,rfl,rfl⟩,⟨_,rfl,rfl⟩,⟨_,rfl,rfl⟩,⟨_,rfl,rfl⟩,⟨_,rfl,rfl⟩,⟨_,rfl,rfl⟩,⟨_,rfl,?_⟩,trivial⟩
    ·exact congrArg (V.o 1 (.k 6) 0) (show T0.length+n=(T0++o).length by rw[Zb,hn])
    ·exact q7s (show sub (bv T0) 0 (T0.length*1)++bv o=bv (T0++o) by rw[Zt,bv_all rfl,bv_app])
  ·have hn1:i+1=ps.length:=by omega
   rw[show catN ps (i+1)=ps.flatten by rw[hn1];exact catN_all ps]at*
   obtain⟨la',F⟩:=hF (x:= .o (cxH s mode pad back ps.flatten)) (.inr rfl)
   generalize cS t key s mode pad back iv ps.flatten=st0 at*
   generalize cL t key s mode pad back iv ps.flatten=la0 at*
   generalize cxH s mode pad back ps.flatten=H0 at*
   generalize cT t key s mode pad back iv ps.flatten=T0 at*
   obtain⟨ch0,row0,g0⟩:=st0
   rcases row0 with _|⟨a0,rr0⟩
   all_goals
    refine⟨[.k 0,.k 1,.k 4,.k 5],_,_,_,_,F,rfl,rfl,?_⟩
    refine⟨by rw[bv_len],by omega,by rw[bv_len];omega,?_⟩
    refine spl_eq (fun h2=> ?_) (fun h2=> ?_)
    ·refine⟨.ret (.t [.z _ _,i64 r.2,bool true]),[_,_,_,_],⟨_,rfl,[.k 0,.k 1,.k 2,.k 3],?_,⟨_,rfl,rfl⟩,⟨_,rfl,rfl⟩,⟨_,rfl,rfl⟩,⟨_,rfl,rfl⟩,trivial⟩,.ret (.refl _),.drop (.drop (.drop (.drop .nil)))⟩
     exact congrArg (fun z=>V.t [z,i64 r.2,bool true]) (app_z (T:=T0) (o:=r.1) rfl rfl)
    ·have hd:decide ((r.1.length:Int)=0)=true:=decide_eq_true (by rw[is h2];rfl)
     refine⟨.ret (.t [.z _ _,i64 r.2,bool true]),[_,_,_,_],⟨_,rfl,[.k 0,.k 1,.k 2,.k 3],?_,⟨_,rfl,rfl⟩,⟨_,rfl,rfl⟩,⟨_,rfl,rfl⟩,⟨_,rfl,rfl⟩,trivial⟩,.ret (.refl _),.drop (.drop (.drop (.drop .nil)))⟩
     exact(congrArg (fun z=>V.t [z,i64 r.2,bool (decide ((r.1.length:Int)=0))]) (app_z (T:=T0) (o:=r.1) rfl rfl)).trans (congrArg (fun b=>V.t [_,i64 r.2,bool b]) hd)
theorem rshot_sh {t key s k xs rs} (h:Ciph t key s k xs rs) {mode pad:Int} {back:Bool} {m:Nat} {iv msg:Bs} (ok:shOk s mode pad iv) (hmm:msg.length=m) (hmb:m≤100000):
  Con C N.r15_Shot [cfgV t mode pad back,.z key.length (bv key),.z iv.length (bv iv),.z m (bv msg)] [] (.ret (shV (shP (cF t key false) (cF t key true) s mode pad back iv msg))) []:=by
 have hs:=h.s_le
 have hci:=h.ci
 obtain⟨o1,o2,o3,o4⟩:=ok
 have ok:shOk s mode pad iv:=⟨o1,o2,o3,o4⟩
 by_cases hm7:7≤mode
 ·have e0:shP (cF t key false) (cF t key true) s mode pad back iv msg=shSt (cF t key false) (cF t key true) s mode back iv msg:=by unfold shP;rw[if_pos hm7]
  by_cases hms:s≤m
  ·have hi:iv.length=s:=by rw[o4,if_neg (by omega)]
   have e1:shSt (cF t key false) (cF t key true) s mode back iv msg=((shSt (cF t key false) (cF t key true) s mode back iv msg).1,0):=by
    refine Prod.ext rfl ?_
    unfold shSt;rw[if_neg (by omega)]
   have hl:(shSt (cF t key false) (cF t key true) s mode back iv msg).1.length=m:=by rw[shSt_len hci (by omega) hi (by omega),hmm]
   exact out_ok (e0.trans e1) hl (c_rshot_st h rfl rfl rfl ok hmm hmb hm7 hms)
  ·have e1:shSt (cF t key false) (cF t key true) s mode back iv msg=([],7):=by unfold shSt;rw[if_pos (by omega)]
   exact out_no (e0.trans e1) (c_rshot_st_no h rfl ok hm7 (by omega))
 ·have hm6:1≤mode∧mode≤6:=by omega
  have K0:MK s mode ⟨iv,[],[]⟩:=MK.new hm6 (by
   by_cases h1:mode=1
   ·exact .inl h1
   ·rw[if_neg h1]at o4;exact .inr o4)
  by_cases hp4:pad=4
  ·subst hp4
   have e0:shP (cF t key false) (cF t key true) s mode 4 back iv msg=if msg.length%moGrain s mode=0 then ((moStep (cF t key false) (cF t key true) s mode back ⟨iv,[],[]⟩ msg).1,0)else ([],7):=by unfold shP;rw[if_neg hm7,if_pos rfl]
   by_cases hg:m%moGrain s mode=0
   ·rw[hmm,if_pos hg]at e0
    have hl:(moStep (cF t key false) (cF t key true) s mode back ⟨iv,[],[]⟩ msg).1.length=m:=by rw[moStep_len hci K0.ok (by rw[hmm];exact hg),hmm]
    exact out_ok e0 hl (c_rshot_none h rfl rfl rfl o4 hmm hmb hm6 hg)
   ·rw[hmm,if_neg hg]at e0
    exact out_no e0 (c_rshot_bad h rfl rfl rfl o4 hmm hmb hm6 hg)
  ·have hm2:1≤mode∧mode≤2:=by omega
   have hp3:pad=1∨pad=2∨pad=3:=by omega
   cases back
   ·have e0:shP (cF t key false) (cF t key true) s mode pad false iv msg=((moStep (cF t key false) (cF t key true) s mode false ⟨iv,[],[]⟩ (padUp pad s msg)).1,0):=by unfold shP;rw[if_neg hm7,if_neg hp4,if_pos rfl]
    have lU:(padUp pad s msg).length=m/s*s+s:=by rw[padUp_len (by omega),hmm]
    have hg:(padUp pad s msg).length%moGrain s mode=0:=by
     rw[lU]
     unfold moGrain
     rw[if_pos (by omega),Nat.add_mod_right,Nat.mul_mod_left]
    have hl:(moStep (cF t key false) (cF t key true) s mode false ⟨iv,[],[]⟩ (padUp pad s msg)).1.length=m/s*s+s:=by rw[moStep_len hci K0.ok hg,lU]
    exact out_ok e0 hl (c_rshot_pad h rfl rfl rfl o4 hmm hmb hm2 hp3)
   ·by_cases h0:m=0∨m%s≠0
    ·have e0:shP (cF t key false) (cF t key true) s mode pad true iv msg=([],7):=by unfold shP;rw[if_neg hm7,if_neg hp4,if_neg (by decide),hmm,if_pos h0]
     exact out_no e0 (c_rshot_b0 h rfl rfl rfl o4 hmm hmb hm2 hp3 h0)
    ·have hpos:0<m:=by omega
     have hz:m%s=0:=Classical.byContradiction fun x=>h0 (.inr x)
     have hsm:s≤m:=Z3 hpos (Zl hz)
     have e:(moStep (cF t key false) (cF t key true) s mode true ⟨iv,[],[]⟩ msg).1=(moBlks (cF t key false) (cF t key true) mode true s msg iv (m/s)).1:=by
      unfold moStep
      rw[if_pos (by omega),hmm]
     have hg:m%moGrain s mode=0:=by unfold moGrain;rw[if_pos (by omega)];exact hz
     have lo:(moStep (cF t key false) (cF t key true) s mode true ⟨iv,[],[]⟩ msg).1.length=m:=by rw[moStep_len hci K0.ok (by rw[hmm];exact hg),hmm]
     have e0:shP (cF t key false) (cF t key true) s mode pad true iv msg=if pdLong pad ((moStep (cF t key false) (cF t key true) s mode true ⟨iv,[],[]⟩ msg).1.drop (m-s))=0 then ([],8)else ((moStep (cF t key false) (cF t key true) s mode true ⟨iv,[],[]⟩ msg).1.take (m-s)++pdStrip pad ((moStep (cF t key false) (cF t key true) s mode true ⟨iv,[],[]⟩ msg).1.drop (m-s)),0):=by
      unfold shP;rw[if_neg hm7,if_neg hp4,if_neg (by decide),hmm,if_neg h0]
      simp only[lo]
     by_cases hL:pdLong pad ((moStep (cF t key false) (cF t key true) s mode true ⟨iv,[],[]⟩ msg).1.drop (m-s))=0
     ·rw[if_pos hL]at e0
      exact out_no e0 (c_rshot_b8 h rfl rfl rfl o4 hmm hmb hm2 hp3 hpos hz (e▸hL))
     ·rw[if_neg hL]at e0
      have Q:=c_rshot_bk h (vk:=bv key) (vi:=bv iv) (vm:=bv msg) rfl rfl rfl o4 hmm hmb hm2 hp3 hpos hz (e▸hL)
      rw[←e]at Q
      have hle:=pdLong_le pad ((moStep (cF t key false) (cF t key true) s mode true ⟨iv,[],[]⟩ msg).1.drop (m-s))
      refine out_ok e0 ?_ Q
      all_goals
       rw[Zb]
       unfold pdStrip
       rw[Zd,Zd,Ze,lo]
       rw[Ze,lo]at hle
       omega
theorem c_rshotQ {t key s k xs rs} (h:Ciph t key s k xs rs) {mode pad:Int} {back:Bool} {lk li m:Nat} {iv msg:Bs} {vk vi vm:List Value} (hvk:vk=bv key) (hvi:vi=bv iv) (hvm:vm=bv msg) (hk:key.length=lk) (hi:iv.length=li) (hm:msg.length=m) (hmb:m≤100000) (ok:shOk s mode pad iv):
  Con C N.r15_Shot [cfgV t mode pad back,.z lk vk,.z li vi,.z m vm] [] (.ret (shV (shP (cF t key false) (cF t key true) s mode pad back iv msg))) []:=by
 subst hvk;subst hvi;subst hvm;subst hk;subst hi
 exact rshot_sh h ok hm hmb
theorem cutF_flat (ns b):∀i,(cutF ns b i).1.flatten++(cutF ns b i).2=b
 |0=>rfl
 |i+1=>by
  show((cutF ns b i).1++[(cutF ns b i).2.take _]).flatten++(cutF ns b i).2.drop _=b
  rw[Zr,Zv,Zz,Zj,cutF_flat ns b i]
theorem cutL_flat (ns b):(cutL ns b).flatten=b:=by
 unfold cutL
 rw[Zr,Zv,cutF_flat]
theorem all_once {t key s k xs rs} (h:Ciph t key s k xs rs) {mode pad:Int} {back:Bool} {iv b:Bs} (ok:shOk s mode pad iv) {ps:List (Bs)} (hps:ps.flatten=b) (hb:b.length≤100000) (hpn:ps.length≤100000):
  ∃(e:Int) (y:Bs),(e=0→shP (cF t key false) (cF t key true) s mode pad back iv b=(y,0))∧(e≠0→shP (cF t key false) (cF t key true) s mode pad back iv b=([],e))∧
   Con C N.law16_All [.p (.k 0) 0,.zz 1 ps.length (ps.map zc)] [cxO true t mode pad back k xs iv .n iv,moX (cipV t k xs) (cxMd mode) back ⟨iv,[],[]⟩ 2,.dead,.dead]
    (.ret (.t [.z y.length (bv y),i64 e,bool true])) [.dead,.dead,.dead,.dead]:=by
 have hs:=h.s_le
 subst hps
 obtain⟨r,hr⟩:∃r,r=cxEnd (cF t key false) (cF t key true) s mode pad back (cS t key s mode pad back iv ps.flatten) (cL t key s mode pad back iv ps.flatten) (cxH s mode pad back ps.flatten):=⟨_,rfl⟩
 obtain⟨e1,e2⟩:=cx_end (M:=ps.flatten) h.ci (by omega) ok hr
 refine⟨r.2,_,fun h0=> ?_,fun h0=> ?_,c_all16 h ok hb hpn hr⟩
 ·rw[e1,if_pos h0,h0]
 ·rw[e1,if_neg h0]
end Go.Scr
