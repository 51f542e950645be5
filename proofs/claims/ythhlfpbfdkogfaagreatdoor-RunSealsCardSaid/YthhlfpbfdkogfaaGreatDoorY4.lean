/-
  What the functions of the given program reckon, each by a contract, up to the law. It is no claim by itself; each contract bears its own conditions.
-/
import Derived.Test.YthhlfpbfdkogfaaGreatDoorY3
set_option linter.unusedVariables false
set_option linter.unusedSimpArgs false
set_option maxRecDepth 100000
namespace Go.Scr
open Go.Proofs
open Nat renaming le_of_ble_eq_true → Za, zero_le → Zg, le_trans → Zi, mul_le_mul_left → Zj, le_of_not_lt → Zk, mod_self → Zl, dvd_of_mod_eq_zero → Zm, sub_succ_lt_self → Zt, mul_succ → Zu, div_eq_of_lt → Zv, min_eq_left → Zw, le_antisymm → Zx, mul_one → Zy, add_sub_cancel_left → Zz, le_refl → Z1, add_sub_cancel → Z4, mul_mod_right → Z6, lt_irrefl → Z8, eq_zero_of_not_pos → Ja, le_of_dvd → Jf, mul_zero → Ji, add_zero → Jj
open List renaming length_append → Zb, eq_nil_of_length_eq_zero → Ze, length_take → Zf, length_drop → Zh, take_append_drop → Zn, nil_append → Zo, getElem?_eq_getElem → Zp, getElem_mem → Zq, drop_of_length_le → Zr, flatMap_cons → Zs, drop_append → Z0, map_append → Z2, take_add_one → Z7, take_length → Z9, take_of_length_le → Jb, append_eq_nil_iff → Jc, length_map → Jd, drop_left → Je, take_nil → Jg, mem_cons → Jh
open IntWalk renaming i64_in → Zc
open Int renaming toNat_natCast → Zd, tmod_eq_emod_of_nonneg → Z5
open Option renaming toList_some → Z3
open Go.IntKind renaming i64 → I6
theorem Ie {t mode pad:Int} {op bg back:Bool} {k:Nat} {xs:List V} {iv:Bs} (hm:mode<=9):a6 C 158 [.p (.k 0) 0] [m6 bg op t mode pad back (c9 t k xs) (.z iv.length (bv iv)) i6 d9 d9] (.ret (bool (decide (7<=mode)))) [m6 bg op t mode pad back (c9 t k xs) (.z iv.length (bv iv)) i6 d9 d9]:=by
 refine mS.c ?_;refine⟨_,rfl,?_⟩;refine b8 (fun h7=> ?_) (fun h7=> ?_)
 ·refine⟨_,rfl,?_⟩;exact⟨_,rfl,[.k 0],congrArg bool (by rw[decide_eq_true hm,decide_eq_true h7]),⟨_,rfl,rfl⟩,tq⟩
 ·exact⟨_,rfl,[.k 0],congrArg bool (by rw[decide_eq_false h7]),⟨_,rfl,rfl⟩,tq⟩
theorem bJ {s:Nat} {mode pad:Int} {iv:Bs} (ok:A2 s mode pad iv):(1<=i9 mode/\i9 mode<=6)/\iv.length=if i9 mode=1 then 0 else s:=by
 obtain⟨o1,o2,o3,o4⟩:=ok;unfold i9;by_cases h7:7<=mode
 ·rw[if_pos h7];exact⟨by decide,by rw[o4,if_neg (by omega),if_neg (by decide)]⟩
 ·rw[if_neg h7];exact⟨by omega,o4⟩
theorem Hw {t key s k xs rs} (h:j5 t key s k xs rs) {mode pad:Int} {op back:Bool} {iv:Bs} (ok:A2 s mode pad iv):
  a6 C 91 [.p (.k 0) 0] [m6 true op t mode pad back (c9 t k xs) (.z iv.length (bv iv)) i6 d9 d9] (.ret (.t []))
   [j8 true t mode pad back k xs iv .n iv,f8 (c9 t k xs) (i9 mode) back ⟨iv,[],[]⟩ 2,.dead,.dead]:=by
 have hs:=h.s_le;obtain⟨m1,hiv⟩:=bJ ok;have T0:=sY h (mode:=i9 mode) (back:=back) (i:=1) (vi:=bv iv) (iv:=iv) rfl rfl m1 hiv;have hl16:iv.length<=16:=by rw[hiv];split<;>omega
 have S:=Ie (t:=t) (mode:=mode) (pad:=pad) (op:=op) (bg:=true) (back:=back) (k:=k) (xs:=xs) (iv:=iv) ok.1.2;refine uj.c ?_;refine⟨_,rfl,?_⟩;refine⟨[.k 0],_,_,_,_,S,rfl,rfl,?_⟩;refine b8 (fun h7=> ?_) (fun h7=> ?_);all_goals
  first
   |rw[show i9 mode=2 from if_pos h7]at T0 ⊢
   |rw[show i9 mode=mode from if_neg h7]at T0 ⊢
  refine⟨_,rfl,?_⟩;refine⟨_,rfl,?_⟩;refine⟨_,rfl,?_⟩;refine⟨[],_,_,_,_,T0,rfl,rfl,?_⟩;refine⟨Za rfl,?_⟩;refine⟨_,rfl,?_⟩;refine⟨[],_,_,_,_,S8 (l:=iv) rfl rfl (by omega),rfl,rfl,?_⟩;refine⟨Za rfl,?_⟩;refine⟨Za rfl,?_⟩;refine⟨Za rfl,?_⟩;exact⟨_,rfl,[.k 0,.d 26 0,.d 26 1,.d 26 2],rfl,⟨_,rfl,rfl⟩,⟨_,rfl,rfl⟩,⟨_,rfl,rfl⟩,⟨_,rfl,rfl⟩,tq⟩
theorem yi {t key s k xs rs} (h:j5 t key s k xs rs) {mode pad md0 t0:Int} {k0:Nat} {xs0:List V} {op back E9:Bool} {iv D3:Bs} {st0:MS} {x0:HK} (ok:A2 s mode pad iv):
  a6 C 91 [.p (.k 0) 0] [j8 op t mode pad back k xs iv x0 D3,f8 (c9 t0 k0 xs0) md0 E9 st0 2,g9 st0.row st0.gone,x0.b] (.ret (.t []))
   [m6 true true t mode pad back (c9 t k xs) (.z iv.length (bv iv)) (.p (.k 4) 0) d9 (.z iv.length (bv iv)),f8 (c9 t0 k0 xs0) md0 E9 st0 2,g9 st0.row st0.gone,x0.b,f8 (c9 t k xs) (i9 mode) back ⟨iv,[],[]⟩ 5,.dead,.dead]:=by
 have hs:=h.s_le;obtain⟨m1,hiv⟩:=bJ ok;have T0:=sY h (mode:=i9 mode) (back:=back) (i:=1) (vi:=bv iv) (iv:=iv) rfl rfl m1 hiv;have hl16:iv.length<=16:=by rw[hiv];split<;>omega
 have S:=If (t:=t) (mode:=mode) (pad:=pad) (md:=md0) (op:=op) (back:=back) (E9:=E9) (t0:=t0) (k:=k) (k0:=k0) (xs:=xs) (xs0:=xs0) (iv:=iv) (a8:=D3) (st:=st0) (x:=x0) ok.1.2;obtain⟨ch,row,g⟩:=st0;rcases row with _|⟨a,r⟩<;>rcases x0 with _|H|H;all_goals
  refine uj.c ?_;refine⟨_,rfl,?_⟩;refine⟨[.k 0,.k 1,.k 2,.k 3],_,_,_,_,S,rfl,rfl,?_⟩;refine b8 (fun h7=> ?_) (fun h7=> ?_);all_goals
   first
    |rw[show i9 mode=2 from if_pos h7]at T0 ⊢
    |rw[show i9 mode=mode from if_neg h7]at T0 ⊢
   refine⟨_,rfl,?_⟩;refine⟨_,rfl,?_⟩;refine⟨_,rfl,?_⟩;refine⟨[],_,_,_,_,T0,rfl,rfl,?_⟩;refine⟨Za rfl,?_⟩;refine⟨_,rfl,?_⟩;refine⟨[],_,_,_,_,S8 (l:=iv) rfl rfl (by omega),rfl,rfl,?_⟩;refine⟨Za rfl,?_⟩;refine⟨Za rfl,?_⟩;refine⟨Za rfl,?_⟩;exact⟨_,rfl,[.k 0,.k 1,.k 2,.k 3,.d 26 0,.d 26 1,.d 26 2],rfl,⟨_,rfl,rfl⟩,⟨_,rfl,rfl⟩,⟨_,rfl,rfl⟩,⟨_,rfl,rfl⟩,⟨_,rfl,rfl⟩,⟨_,rfl,rfl⟩,⟨_,rfl,rfl⟩,tq⟩
theorem vQ {t key s k xs rs} (h:j5 t key s k xs rs) {mode pad:Int} {lk li:Nat} {iv:Bs} (hk:key.length=lk) (hi:iv.length=li) (ok:A2 s mode pad iv):z6 t mode pad (n9 t).toNat lk li=0:=by
 obtain⟨o1,o2,o3,o4⟩:=ok;unfold z6;rw[if_neg (by exact fun x=>x h.ht),if_neg (by rw[<-hk];exact fun x=>x h.kl),if_neg (by exact fun x=>x ⟨o1,o2,o3⟩),if_neg (by rw[h.hs,Zd,<-hi];exact fun x=>x o4)]
theorem yk {t key s k xs rs} (h:j5 t key s k xs rs) {mode pad:Int} {back:Bool} {lk li:Nat} {iv:Bs} (hk:key.length=lk) (hlk:lk<=1000) (hi:iv.length=li) (ok:A2 s mode pad iv):
  a6 C 30 [.p (.k 0) 0,A4 t mode pad back,.z lk (bv key),.z li (bv iv)] [m6 false false 0 0 0 false i6 d9 i6 d9 d9] (.ret (i64 0))
   [j8 true t mode pad back k xs iv .n iv,f8 (c9 t k xs) (i9 mode) back ⟨iv,[],[]⟩ 2,.dead,.dead]:=by
 have hs:=h.s_le;obtain⟨m1,hiv⟩:=bJ ok;have hl16:iv.length<=16:=by rw[hiv];split<;>omega
 have CK:=(jS t hk hlk mode pad back hi).1;rw[vQ h hk hi ok]at CK;subst hi;refine ka.c ?_;refine⟨[i64 t,i64 mode,i64 pad,bool back],rfl,rfl,?_⟩;refine⟨[],_,_,_,_,CK,rfl,rfl,?_⟩;refine⟨_,rfl,?_⟩;refine⟨[],_,_,_,_,h.new' (n:=lk) hk rfl,rfl,rfl,?_⟩;refine⟨Za rfl,?_⟩;refine⟨[i64 t,i64 mode,i64 pad,bool back],rfl,rfl,?_⟩;refine⟨[],_,_,_,_,S8 (l:=iv) rfl rfl (by omega),rfl,rfl,?_⟩;refine⟨Za rfl,?_⟩;refine⟨Za rfl,?_⟩;refine⟨Za rfl,?_⟩;refine⟨[.k 0],_,_,_,_,Hw h (op:=false) ok,rfl,rfl,?_⟩;exact⟨_,rfl,[.k 0,.d 40 1,.d 40 2,.d 40 3],rfl,⟨_,rfl,rfl⟩,⟨_,rfl,rfl⟩,⟨_,rfl,rfl⟩,⟨_,rfl,rfl⟩,tq⟩
theorem HW {t key s k xs rs} (h:j5 t key s k xs rs) {mode pad:Int} {back:Bool} {lk li:Nat} {iv:Bs} {t0 mode0 pad0 md0:Int} {op E9:Bool} {k0:Nat} {xs0:List V} {iv0 D3:Bs} {st0:MS} {x0:HK} (hk:key.length=lk) (hlk:lk<=1000) (hi:iv.length=li) (ok:A2 s mode pad iv):
  a6 C 30 [.p (.k 0) 0,A4 t mode pad back,.z lk (bv key),.z li (bv iv)] [j8 op t0 mode0 pad0 E9 k0 xs0 iv0 x0 D3,f8 (c9 t0 k0 xs0) md0 E9 st0 2,g9 st0.row st0.gone,x0.b] (.ret (i64 0))
   [m6 true true t mode pad back (c9 t k xs) (.z iv.length (bv iv)) (.p (.k 4) 0) d9 (.z iv.length (bv iv)),f8 (c9 t0 k0 xs0) md0 E9 st0 2,g9 st0.row st0.gone,x0.b,f8 (c9 t k xs) (i9 mode) back ⟨iv,[],[]⟩ 5,.dead,.dead]:=by
 have hs:=h.s_le;obtain⟨m1,hiv⟩:=bJ ok;have hl16:iv.length<=16:=by rw[hiv];split<;>omega
 have CK:=(jS t hk hlk mode pad back hi).1;rw[vQ h hk hi ok]at CK;subst hi;have BG:=yi h (back:=back) (md0:=md0) (t0:=t0) (k0:=k0) (xs0:=xs0) (op:=op) (E9:=E9) (D3:=D3) (st0:=st0) (x0:=x0) ok;obtain⟨ch,row,g⟩:=st0;rcases row with _|⟨a,r⟩<;>rcases x0 with _|H|H;all_goals
  refine ka.c ?_;refine⟨[i64 t,i64 mode,i64 pad,bool back],rfl,rfl,?_⟩;refine⟨[],_,_,_,_,CK,rfl,rfl,?_⟩;refine⟨_,rfl,?_⟩;refine⟨[],_,_,_,_,h.new' (n:=lk) hk rfl,rfl,rfl,?_⟩;refine⟨Za rfl,?_⟩;refine⟨[i64 t,i64 mode,i64 pad,bool back],rfl,rfl,?_⟩;refine⟨[],_,_,_,_,S8 (l:=iv) rfl rfl (by omega),rfl,rfl,?_⟩;refine⟨Za rfl,?_⟩;refine⟨Za rfl,?_⟩;refine⟨Za rfl,?_⟩;refine⟨[.k 0,.k 1,.k 2,.k 3],_,_,_,_,BG,rfl,rfl,?_⟩;exact⟨_,rfl,[.k 0,.k 1,.k 2,.k 3,.d 40 4,.d 40 5,.d 40 6],rfl,⟨_,rfl,rfl⟩,⟨_,rfl,rfl⟩,⟨_,rfl,rfl⟩,⟨_,rfl,rfl⟩,⟨_,rfl,rfl⟩,⟨_,rfl,rfl⟩,⟨_,rfl,rfl⟩,tq⟩
theorem yl {t mode pad:Int} {back:Bool} {lk li:Nat} {key iv:Bs} (hk:key.length=lk) (hlk:lk<=1000) (hi:iv.length=li) (he:z6 t mode pad (n9 t).toNat lk li≠0):
  a6 C 30 [.p (.k 0) 0,A4 t mode pad back,.z lk (bv key),.z li (bv iv)] [m6 false false 0 0 0 false i6 d9 i6 d9 d9] (.ret (i64 (z6 t mode pad (n9 t).toNat lk li))) [m6 false false 0 0 0 false i6 d9 i6 d9 d9]:=by
 have CK:=(jS t hk hlk mode pad back hi).1;generalize z6 t mode pad (n9 t).toNat lk li=e at*
 refine ka.c ?_;refine⟨[i64 t,i64 mode,i64 pad,bool back],rfl,rfl,?_⟩;refine⟨[],_,_,_,_,CK,rfl,rfl,?_⟩;refine l5 (fun _=> ?_) (fun hh=>absurd hh he);exact⟨_,rfl,[.k 0],rfl,⟨_,rfl,rfl⟩,tq⟩
theorem HY {t mode pad:Int} {back:Bool} {lk li:Nat} {key iv:Bs} {t0 mode0 pad0 md0:Int} {op E9:Bool} {k0:Nat} {xs0:List V} {iv0 D3:Bs} {st0:MS} {x0:HK} (hk:key.length=lk) (hlk:lk<=1000) (hi:iv.length=li) (he:z6 t mode pad (n9 t).toNat lk li≠0):
  a6 C 30 [.p (.k 0) 0,A4 t mode pad back,.z lk (bv key),.z li (bv iv)] [j8 op t0 mode0 pad0 E9 k0 xs0 iv0 x0 D3,f8 (c9 t0 k0 xs0) md0 E9 st0 2,g9 st0.row st0.gone,x0.b] (.ret (i64 (z6 t mode pad (n9 t).toNat lk li))) [j8 op t0 mode0 pad0 E9 k0 xs0 iv0 x0 D3,f8 (c9 t0 k0 xs0) md0 E9 st0 2,g9 st0.row st0.gone,x0.b]:=by
 have CK:=(jS t hk hlk mode pad back hi).1;generalize z6 t mode pad (n9 t).toNat lk li=e at*
 obtain⟨ch,row,g⟩:=st0;rcases row with _|⟨a,r⟩<;>rcases x0 with _|H|H;all_goals
  refine ka.c ?_;refine⟨[i64 t,i64 mode,i64 pad,bool back],rfl,rfl,?_⟩;refine⟨[],_,_,_,_,CK,rfl,rfl,?_⟩;refine l5 (fun _=> ?_) (fun hh=>absurd hh he);exact⟨_,rfl,[.k 0,.k 1,.k 2,.k 3],rfl,⟨_,rfl,rfl⟩,⟨_,rfl,rfl⟩,⟨_,rfl,rfl⟩,⟨_,rfl,rfl⟩,tq⟩
theorem Ia:a6 C 35 [.p (.k 0) 0] [m6 false false 0 0 0 false i6 d9 i6 d9 d9] (.ret (i64 6)) [m6 false false 0 0 0 false i6 d9 i6 d9 d9]:=by
 refine ui.c ?_;refine⟨_,rfl,?_⟩;exact⟨_,rfl,[.k 0],rfl,⟨_,rfl,rfl⟩,tq⟩
theorem HU:a6 C 40 [.p (.k 0) 0] [m6 false false 0 0 0 false i6 d9 i6 d9 d9] (.ret (i64 0)) [m6 false false 0 0 0 false i6 d9 i6 d9 d9]:=by
 refine uh.c ?_;refine⟨_,rfl,?_⟩;exact⟨_,rfl,[.k 0],rfl,⟨_,rfl,rfl⟩,tq⟩
theorem yn:a6 C 94 [.p (.k 0) 0] [m6 false false 0 0 0 false i6 d9 i6 d9 d9] (.pan (.i U4 (i64 6))) [m6 false false 0 0 0 false i6 d9 i6 d9 d9]:=by
 refine uk.c ?_;refine⟨_,rfl,?_⟩;refine⟨[],_,_,_,_,jP (e:=6) (by decide),rfl,rfl,?_⟩;exact⟨_,rfl,[.k 0],rfl,⟨_,rfl,rfl⟩,tq⟩
theorem Ib {t key s k xs rs} (h:j5 t key s k xs rs) {mode pad md0:Int} {op back:Bool} {iv D3:Bs} {st0:MS} {x0:HK} (ok:A2 s mode pad iv):
  a6 C 35 [.p (.k 0) 0] [j8 op t mode pad back k xs iv x0 D3,f8 (c9 t k xs) md0 back st0 2,g9 st0.row st0.gone,x0.b] (.ret (i64 0))
   [m6 true true t mode pad back (c9 t k xs) (.z iv.length (bv iv)) (.p (.k 4) 0) d9 (.z iv.length (bv iv)),f8 (c9 t k xs) md0 back st0 2,g9 st0.row st0.gone,x0.b,f8 (c9 t k xs) (i9 mode) back ⟨iv,[],[]⟩ 5,.dead,.dead]:=by
 have BG:=yi h (back:=back) (md0:=md0) (t0:=t) (k0:=k) (xs0:=xs) (op:=op) (E9:=back) (D3:=D3) (st0:=st0) (x0:=x0) ok;obtain⟨ch,row,g⟩:=st0;rcases row with _|⟨a,r⟩<;>rcases x0 with _|H|H;all_goals
  refine ui.c ?_;refine⟨_,rfl,?_⟩;refine⟨[.k 0,.k 1,.k 2,.k 3],_,_,_,_,BG,rfl,rfl,?_⟩;exact⟨_,rfl,[.k 0,.k 1,.k 2,.k 3,.d 9 4,.d 9 5,.d 9 6],rfl,⟨_,rfl,rfl⟩,⟨_,rfl,rfl⟩,⟨_,rfl,rfl⟩,⟨_,rfl,rfl⟩,⟨_,rfl,rfl⟩,⟨_,rfl,rfl⟩,⟨_,rfl,rfl⟩,tq⟩
def A5 (g most L:Nat):Nat:=(L-most+(g-1))/g
theorem aP {g most L i:Nat} (hg:0<g):i<A5 g most L↔most+g*i<L:=by
 unfold A5;rw[Nat.lt_iff_add_one_le,Nat.le_div_iff_mul_le hg,Nat.add_mul,Nat.one_mul,Nat.mul_comm i g];omega
theorem pf {g most L:Nat} (hg:0<g) (hm:g-1<=most):g*A5 g most L<=L:=by
 by_cases h:A5 g most L=0
 ·rw[h];omega
 ·have:=(aP (most:=most) (L:=L) (i:=A5 g most L-1) hg).1 (by omega);have e:g*A5 g most L=g*(A5 g most L-1)+g:=by
   obtain⟨k,hk⟩:∃k,A5 g most L=k+1:=⟨A5 g most L-1,by omega⟩;rw[hk,Z4,Zu]
  omega
theorem NM {g most L m:Nat} (hg:0<g) (hm:g-1<=most):A5 g most (L+m)=A5 g most L+A5 g most (L-g*A5 g most L+m):=by
 have hle:=pf (L:=L) hg hm;refine Zx ?_ ?_
 ·refine Zk fun h=> ?_;have h1:=(aP hg).1 h;rw[Nat.mul_add]at h1;have h2:=(aP (most:=most) (L:=L-g*A5 g most L+m) (i:=A5 g most (L-g*A5 g most L+m)) hg).2 (by omega);exact absurd h2 (Z8 _)
 ·by_cases h0:A5 g most (L-g*A5 g most L+m)=0
  ·rw[h0,Jj];refine Zk fun h=> ?_;have h1:=(aP hg).1 h;have h2:=(aP (most:=most) (L:=L) (i:=A5 g most (L+m)) hg).1 h;have h3:=(aP (most:=most) (L:=L+m) (i:=A5 g most (L+m)) hg).2 (by omega);exact absurd h3 (Z8 _)
  ·obtain⟨k,hk⟩:∃k,A5 g most (L-g*A5 g most L+m)=k+1:=⟨A5 g most (L-g*A5 g most L+m)-1,by omega⟩;rw[hk];have h1:=(aP (most:=most) (L:=L-g*A5 g most L+m) (i:=k) hg).1 (by omega);have h2:=(aP (most:=most) (L:=L+m) (i:=A5 g most L+k) hg).2 (by rw[Nat.mul_add];omega);omega
theorem zJ {n:Nat} {mode pad:Int} {iv:Bs} (ok:A2 n mode pad iv):(7<=mode/\i9 mode=2)\/(mode<=6/\i9 mode=mode):=by
 unfold i9;by_cases h7:7<=mode
 ·exact .inl ⟨h7,if_pos h7⟩
 ·exact .inr ⟨by omega,if_neg h7⟩
theorem jT {n:Nat} {mode pad:Int} {iv:Bs} {back:Bool} (hn:0<n) (ok:A2 n mode pad iv):
  0<l8 n (i9 mode)/\l8 n (i9 mode)-1<=B1 n (i9 mode) mode pad back/\(l8 n (i9 mode)=n/\i9 mode<=2\/l8 n (i9 mode)=1/\3<=i9 mode/\mode<=6):=by
 have hm:=ok.1;rcases zJ ok with ⟨h1,h2⟩|⟨h1,h2⟩
 ·rw[h2];refine⟨hn,?_,.inl ⟨rfl,by decide⟩⟩;show n-1<=_;unfold B1;rw[if_neg (by decide),if_pos h1];omega
 ·rw[h2];unfold l8 B1;by_cases h3:3<=mode
  ·rw[if_neg (by omega),if_pos h3];exact⟨by omega,by omega,.inr ⟨rfl,h3,h1⟩⟩
  ·rw[if_pos (by omega),if_neg h3,if_neg (by omega)];refine⟨hn,?_,.inl ⟨rfl,by omega⟩⟩;split<;>omega
def p6 (n:Nat) (mode pad:Int) (back:Bool) (L:Nat):Nat:=l8 n (i9 mode)*A5 (l8 n (i9 mode)) (B1 n (i9 mode) mode pad back) L
def B5 (E D:Bs->Bs) (n:Nat) (mode pad:Int) (back:Bool) (iv M:Bs):Bs×MS:=j4 E D n (i9 mode) back ⟨iv,[],[]⟩ (M.take (p6 n mode pad back M.length))
def m5 (n:Nat) (mode pad:Int) (back:Bool) (M:Bs):Bs:=M.drop (p6 n mode pad back M.length)
def dt (E D:Bs->Bs) (n:Nat) (mode pad:Int) (back:Bool) (iv M:Bs):Bs:=G8 n mode back (M.take (p6 n mode pad back M.length)) (B5 E D n mode pad back iv M).1 iv
theorem bI {n:Nat} {mode pad:Int} {iv:Bs} {back:Bool} (hn:0<n) (ok:A2 n mode pad iv) (L:Nat):p6 n mode pad back L<=L/\p6 n mode pad back L%l8 n (i9 mode)=0:=by
 obtain⟨g0,g1,g2⟩:=jT (back:=back) hn ok;exact⟨pf g0 g1,Z6 _ _⟩
theorem tJ {n:Nat} {mode pad:Int} {iv:Bs} {back:Bool} (hn:0<n) (ok:A2 n mode pad iv) (L m:Nat):p6 n mode pad back (L+m)=p6 n mode pad back L+p6 n mode pad back (L-p6 n mode pad back L+m):=by
 obtain⟨g0,g1,g2⟩:=jT (back:=back) hn ok;unfold p6;rw[NM g0 g1,Nat.mul_add]
theorem fI {n:Nat} {mode pad:Int} {back:Bool} (M:Bs):(m5 n mode pad back M).length=M.length-p6 n mode pad back M.length:=by
 unfold m5;rw[Zh]
theorem iE {E D:Bs->Bs} {n:Nat} {mode pad:Int} {iv M:Bs} {back:Bool} (h:CI E D n) (hn:0<n) (ok:A2 n mode pad iv):(B5 E D n mode pad back iv M).1.length=p6 n mode pad back M.length:=by
 obtain⟨f1,f2⟩:=bI (back:=back) hn ok M.length;have lt:(M.take (p6 n mode pad back M.length)).length=p6 n mode pad back M.length:=by rw[Zf];omega
 unfold B5;rw[X8 h (qm (bJ ok).1 (bJ ok).2) (by rw[lt];exact f2),lt]
theorem NP {A b:Bs} {F a:Nat} (h:F<=A.length):A.take F++(A.drop F++b).take a=(A++b).take (F+a):=by
 have e:A++b=A.take F++(A.drop F++b):=by rw[<-List.append_assoc,Zn]
 rw[e];generalize A.drop F++b=R;rw[List.take_append,Zf,Zw h,Zz,Jb (show (A.take F).length<=F+a by rw[Zf];omega)]
theorem NN {A b:Bs} {F a:Nat} (h:F<=A.length):(A.drop F++b).drop a=(A++b).drop (F+a):=by
 have e:A++b=A.take F++(A.drop F++b):=by rw[<-List.append_assoc,Zn]
 rw[e];generalize A.drop F++b=R;rw[Z0,Zf,Zw h,Zz,Zr (show (A.take F).length<=F+a by rw[Zf];omega),Zo]
theorem NQ {E D:Bs->Bs} {n:Nat} {mode pad:Int} {iv M b:Bs} {back:Bool} {a:Nat} (h:CI E D n) (hn:0<n) (ok:A2 n mode pad iv) (ha:a=p6 n mode pad back ((m5 n mode pad back M).length+b.length)):
  B5 E D n mode pad back iv (M++b)=((B5 E D n mode pad back iv M).1++(j4 E D n (i9 mode) back (B5 E D n mode pad back iv M).2 ((m5 n mode pad back M++b).take a)).1,(j4 E D n (i9 mode) back (B5 E D n mode pad back iv M).2 ((m5 n mode pad back M++b).take a)).2)
  /\G8 n mode back ((m5 n mode pad back M++b).take a) (j4 E D n (i9 mode) back (B5 E D n mode pad back iv M).2 ((m5 n mode pad back M++b).take a)).1 (dt E D n mode pad back iv M)=dt E D n mode pad back iv (M++b)
  /\(m5 n mode pad back M++b).drop a=m5 n mode pad back (M++b):=by
 obtain⟨f1,f2⟩:=bI (back:=back) hn ok M.length;obtain⟨g0,g1,g2⟩:=jT (back:=back) hn ok;have hF:p6 n mode pad back (M++b).length=p6 n mode pad back M.length+a:=by
  rw[Zb,tJ hn ok,ha,fI]
 have ha1:=bI (back:=back) hn ok ((m5 n mode pad back M).length+b.length);rw[<-ha,fI]at ha1;have lb:((m5 n mode pad back M++b).take a).length=a:=by rw[Zf,Zb,fI];omega
 have lt:(M.take (p6 n mode pad back M.length)).length=p6 n mode pad back M.length:=by rw[Zf];omega
 have eT:(M++b).take (p6 n mode pad back (M++b).length)=M.take (p6 n mode pad back M.length)++(m5 n mode pad back M++b).take a:=by
  rw[hF];unfold m5;rw[NP f1]
 have eS:B5 E D n mode pad back iv (M++b)=((B5 E D n mode pad back iv M).1++(j4 E D n (i9 mode) back (B5 E D n mode pad back iv M).2 ((m5 n mode pad back M++b).take a)).1,(j4 E D n (i9 mode) back (B5 E D n mode pad back iv M).2 ((m5 n mode pad back M++b).take a)).2):=by
  show j4 E D n (i9 mode) back ⟨iv,[],[]⟩ ((M++b).take (p6 n mode pad back (M++b).length))=_;rw[eT,ny hn (by rw[lt];exact f2) (by rw[lb];exact ha1.2)];rfl
 have lT:=iE (back:=back) (M:=M) h hn ok;refine⟨eS,?_,?_⟩
 ·show _=G8 n mode back ((M++b).take (p6 n mode pad back (M++b).length)) (B5 E D n mode pad back iv (M++b)).1 iv;rw[eS,eT];have K:S5 n (i9 mode) (B5 E D n mode pad back iv M).2:=vf h hn (qm (bJ ok).1 (bJ ok).2);have lo:(j4 E D n (i9 mode) back (B5 E D n mode pad back iv M).2 ((m5 n mode pad back M++b).take a)).1.length=a:=by
   rw[X8 h K (by rw[lb];exact ha1.2),lb]
  simp only
  generalize j4 E D n (i9 mode) back (B5 E D n mode pad back iv M).2 ((m5 n mode pad back M++b).take a)=o at*
  unfold dt;generalize (m5 n mode pad back M++b).take a=c at*
  generalize (B5 E D n mode pad back iv M).1=T at*
  generalize M.take (p6 n mode pad back M.length)=A at*
  generalize p6 n mode pad back M.length=F at*
  unfold G8;rw[lb,lt,Zb,lt,lb];by_cases h7:7<=mode
  ·have gn:l8 n (i9 mode)=n:=by
    rcases zJ ok with ⟨_,h2⟩|⟨h1,_⟩
    ·rw[h2];rfl
    ·omega
   rw[gn]at ha1;by_cases ha0:n<=a
   ·rw[if_pos (show 7<=mode/\n<=a from ⟨h7,ha0⟩),if_pos (show 7<=mode/\n<=F+a from ⟨h7,by omega⟩)];cases back
    ·simp only[Bool.false_eq_true,if_false];rw[Z0,lT,Zr (show T.length<=F+a-n by omega),Zo,show F+a-n-F=a-n by omega]
    ·simp only[if_true];rw[Z0,lt,Zr (show A.length<=F+a-n by omega),Zo,show F+a-n-F=a-n by omega]
   ·have a0:a=0:=by
     rcases Nat.eq_zero_or_pos a with h0|h0
     ·exact h0
     ·exact absurd (Jf h0 (Zm ha1.2)) ha0
    subst a0;obtain rfl:=Ze lb;rw[if_neg (show ¬(7<=mode/\n<=0) by omega),Jj,List.append_nil,Ze lo,List.append_nil]
  ·rw[if_neg (show ¬(7<=mode/\n<=a) by omega),if_neg (show ¬(7<=mode/\n<=F) by omega),if_neg (show ¬(7<=mode/\n<=F+a) by omega)]
 ·show _=(M++b).drop (p6 n mode pad back (M++b).length);rw[hF];exact NN f1
def iD (E D:Bs->Bs) (n:Nat) (mode pad:Int) (back:Bool) (st:MS) (a8 H:Bs):Bs×Int:=
 if 7<=mode then (if H.length<n then ([],7)else (M2 E D n mode back a8 H,0))
 else if pad=4 then (if H.length%l8 n (i9 mode)=0 then ((j4 E D n (i9 mode) back st H).1,0)else ([],7))
 else if back=false then ((j4 E D n (i9 mode) back st (H4 pad n H)).1,0)
 else if H.length=n then (if v5 pad (j4 E D n (i9 mode) back st H).1=0 then ([],8)else (R9 pad (j4 E D n (i9 mode) back st H).1,0))
 else ([],7)
theorem NO {n L:Nat} (hn:0<n):n*((L-2*n+(n-1))/n)=A6 n L:=by
 unfold A6;by_cases h:2*n<=L
 ·rw[show L-2*n+(n-1)=L-n-1 by omega]
 ·rw[show L-2*n+(n-1)=n-1 by omega,Zv (by omega),Zv (by omega)]
theorem tL {E D:Bs->Bs} {n:Nat} {mode pad:Int} {iv M:Bs} {back:Bool} (h:CI E D n) (hn:0<n) (ok:A2 n mode pad iv) {r:Bs×Int}
  (hr:r=iD E D n mode pad back (B5 E D n mode pad back iv M).2 (dt E D n mode pad back iv M) (m5 n mode pad back M)):
  Y7 E D n mode pad back iv M=(if r.2=0 then (B5 E D n mode pad back iv M).1++r.1 else [],r.2)/\(r.2≠0->r.1=[]):=by
 obtain⟨f1,f2⟩:=bI (back:=back) hn ok M.length;have lT:=iE (back:=back) (M:=M) h hn ok;have lt:(M.take (p6 n mode pad back M.length)).length=p6 n mode pad back M.length:=by rw[Zf];omega
 have lH:=fI (n:=n) (mode:=mode) (pad:=pad) (back:=back) M;have hd:=Nat.div_add_mod M.length n;have hm:=Nat.mod_lt M.length hn;unfold iD at hr;unfold Y7;by_cases h7:7<=mode
 ·have e2:i9 mode=2:=if_pos h7;have eF:p6 n mode pad back M.length=A6 n M.length:=by
   unfold p6 A5 B1;rw[e2,if_neg (by decide),if_pos h7];exact NO hn
  have hiv:iv.length=n:=by have:=ok.2.2.2;rw[if_neg (by omega)]at this;exact this
  rw[if_pos h7]at hr;rw[if_pos h7];unfold Y8;by_cases hl:M.length<n
  ·have:A6 n M.length=0:=by rw[<-eF];have:=Zm f2;rw[e2,AS]at this;rcases Nat.eq_zero_or_pos (p6 n mode pad back M.length)with h0|h0;exact h0;have:=Jf h0 this;omega
   rw[if_pos (by omega)]at hr;rw[if_pos hl,hr];exact⟨rfl,fun _=>rfl⟩
  ·obtain⟨a1,a2,a3,a4,a5⟩:=kg hn (by omega:n<=M.length);rw[if_neg (by omega)]at hr;rw[if_neg hl,hr];refine⟨?_,fun hh=>absurd rfl hh⟩;simp only[if_true];have e1:B5 E D n mode pad back iv M=j4 E D n 2 back ⟨iv,[],[]⟩ (M.take (A6 n M.length)):=by unfold B5;rw[e2,eF]
   have eL:dt E D n mode pad back iv M=fp n back iv M (j4 E D n 2 back ⟨iv,[],[]⟩ (M.take (A6 n M.length))).1:=by
    unfold dt G8 fp;rw[e1,eF];rw[eF]at lt;rw[lt];by_cases h0:A6 n M.length=0
    ·rw[if_pos h0,if_neg (by omega)]
    ·rw[if_neg h0,if_pos (show 7<=mode/\n<=A6 n M.length from ⟨h7,by omega⟩)];cases back
     ·rfl
     ·simp only[if_true];unfold sub;rw[List.drop_take,show A6 n M.length-(A6 n M.length-n)=n by omega]
   have eH:m5 n mode pad back M=M.drop (A6 n M.length):=by unfold m5;rw[eF]
   rw[eL,e1,eH]
 ·have e2:i9 mode=mode:=if_neg h7;rw[if_neg h7]at hr;rw[if_neg h7];rw[e2]at hr f2;have K0:S5 n mode ⟨iv,[],[]⟩:=qm (by have:=ok.1;omega) ok.2.2.2;by_cases h4:pad=4
  ·rw[if_pos h4]at hr;rw[if_pos h4];have hiff:(m5 n mode pad back M).length%l8 n mode=M.length%l8 n mode:=by
    rw[lH];obtain⟨q,hq⟩:=Zm f2;rw[hq,Nat.sub_mul_mod (by omega)]
   rw[hiff]at hr;by_cases hz:M.length%l8 n mode=0
   ·rw[if_pos hz]at hr;rw[if_pos hz,hr];refine⟨?_,fun hh=>absurd rfl hh⟩;simp only[if_true];have:=ny (E:=E) (D:=D) (mode:=mode) (back:=back) (s:=⟨iv,[],[]⟩) (a:=M.take (p6 n mode pad back M.length)) (b:=m5 n mode pad back M) hn (by rw[lt];exact f2) (by rw[hiff];exact hz);unfold m5 at this ⊢;rw[Zn]at this;unfold B5;rw[this,e2]
   ·rw[if_neg hz]at hr;rw[if_neg hz,hr];exact⟨rfl,fun _=>rfl⟩
  ·have hm2:mode<=2:=ok.2.2.1.resolve_left h4;have gn:l8 n mode=n:=if_pos (by have:=ok.1;omega);rw[gn]at f2;rw[if_neg h4]at hr;rw[if_neg h4];cases back
   ·rw[if_pos rfl]at hr;rw[if_pos rfl,hr];refine⟨?_,fun hh=>absurd rfl hh⟩;simp only[if_true];have eF:p6 n mode pad false M.length=M.length-M.length%n:=by
     unfold p6 A5 B1;rw[e2,gn,if_neg (by omega),if_neg h7,if_neg (by simp)];by_cases hl:n-1<=M.length
     ·rw[Nat.sub_add_cancel hl];omega
     ·rw[show M.length-(n-1)+(n-1)=n-1 by omega,Zv (by omega),Nat.mod_eq_of_lt (by omega)];omega
    have lp:(H4 pad n (M.drop (M.length-M.length%n))).length=n:=kK (by rw[Zh];omega);rw[eF]at lt f2;unfold W3 B5 m5;rw[e2,eF];rw[ny hn (by rw[lt,gn];exact f2) (by rw[lp,gn,Zl])]
   ·rw[if_neg (by decide)]at hr;rw[if_neg (by decide)];have eF:p6 n mode pad true M.length=n*((M.length-n+(n-1))/n):=by
     unfold p6 A5 B1;rw[e2,gn,if_neg (by omega),if_neg h7,if_pos ⟨h4,rfl⟩]
    have hHn:(m5 n mode pad true M).length=n↔¬(M.length=0\/M.length%n≠0):=by
     rw[lH];rcases Nat.lt_or_ge M.length n with hl|hl
     ·rw[Nat.mod_eq_of_lt hl];have:p6 n mode pad true M.length=0:=by
       rw[eF,Zv (by omega),Ji]
      omega
     ·constructor
      ·intro he;have:M.length=n+p6 n mode pad true M.length:=by omega
       rw[this,Nat.add_mod_left,f2];omega
      ·intro hno;have hz:M.length%n=0:=Classical.byContradiction fun hh=>hno (.inr hh);obtain⟨q,hq⟩:=Zm hz;have hq0:q≠0:=fun h0=>by rw[h0,Ji]at hq;omega
       obtain⟨p,rfl⟩:∃p,q=p+1:=⟨q-1,by omega⟩;rw[Zu]at hq;rw[eF,hq,Z4,Nat.mul_add_div hn,Zv (by omega:n-1<n),Jj];omega
    by_cases hb:M.length=0\/M.length%n≠0
    ·rw[if_neg (fun hh=>(hHn.1 hh) hb)]at hr;rw[if_pos hb,hr];exact⟨rfl,fun _=>rfl⟩
    ·have hHl:=hHn.2 hb;rw[if_pos hHl]at hr;rw[if_neg hb];simp only
     have hap:=ny (E:=E) (D:=D) (mode:=mode) (back:=true) (s:=⟨iv,[],[]⟩) (a:=M.take (p6 n mode pad true M.length)) (b:=m5 n mode pad true M) hn (by rw[lt,gn];exact f2) (by rw[hHl,gn,Zl]);have eM:M.take (p6 n mode pad true M.length)++m5 n mode pad true M=M:=by unfold m5;exact Zn _ _
     rw[eM]at hap;have e1:B5 E D n mode pad true iv M=j4 E D n mode true ⟨iv,[],[]⟩ (M.take (p6 n mode pad true M.length)):=by unfold B5;rw[e2]
     rw[<-e1]at hap;have lo:(j4 E D n mode true (B5 E D n mode pad true iv M).2 (m5 n mode pad true M)).1.length=n:=by
      rw[X8 h (by rw[e1];exact vf h hn K0) (by rw[hHl,gn,Zl]),hHl]
     rw[hap];simp only
     generalize (j4 E D n mode true (B5 E D n mode pad true iv M).2 (m5 n mode pad true M)).1=o at*
     generalize (B5 E D n mode pad true iv M).1=T at*
     rw[Zb,lo,Z4,Je,List.take_left];by_cases hp:v5 pad o=0
     ·rw[if_pos hp]at hr;rw[if_pos hp,hr];exact⟨rfl,fun _=>rfl⟩
     ·rw[if_neg hp]at hr;rw[if_neg hp,hr];exact⟨rfl,fun hh=>absurd rfl hh⟩
theorem bH {b:Bool} {P:Prop} (h:b=true) (p:P):p8 b P:=by rw[h];exact p
theorem Q7 {i:x9} {d:Option Nat} {T:Nat->V} {H Hr:Hp} {id:Id} {b:B} {r:List (Id×B)} (h:H id=some b) (hr:(Hr id).isSome=true) (h2:i.ck d T H Hr r=true):i.ck d T H Hr ((id,b)::r)=true:=by
 unfold x9.ck vO;rw[hr,h2];simp[h]
theorem oI {n:Nat} {va:List Value} {l:Bs} (ha:va=bv l) (hn:l.length=n) (hm:n<=1073741824):a6 C 90 [.z n va] [] (.ret (.o 1 (.k 0) 0 n)) [.sc (bv l)]:=by
 by_cases h0:0<n
 ·exact dk ha hn h0 hm
 ·subst ha;obtain rfl:n=0:=(by omega);obtain rfl:=Ze hn;refine pI.n ?_;refine .inr ⟨?_,?_⟩
  ·exact⟨[(2,1,.sc [])],_,rfl,[.d 900000 0],rfl,⟨_,rfl,rfl⟩,tq⟩
  ·refine⟨rfl,by decide,by decide,?_⟩;exact⟨[],_,rfl,[.d 7 0],rfl,⟨_,rfl,rfl⟩,tq⟩
theorem Im {t key s k xs rs} (h:j5 t key s k xs rs) {mode pad md:Int} {back:Bool} {iv a8 b:Bs} {st:MS} {x:HK} {m L n0 at':Nat} (hx:x= .n\/∃H,x= .o H) (hb:b.length=m) (hL:x.l.length+m=L) (hLb:L<=100000) (K:MK s md st) (hm:mode<=9)
  (hN:n0=A5 (l8 s md) (B1 s md mode pad back) L) (hat:at'=l8 s md*n0) (hne:0<at'\/st.row=[]):
  a6 C 33 [.p (.k 0) 0,.z m (bv b)] [j8 true t mode pad back k xs iv x a8,f8 (c9 t k xs) md back st 2,g9 st.row st.gone,x.b]
   (.ret (.t [.z at' (bv (j4 (cF t key false) (cF t key true) s md back st ((x.l++b).take at')).1),i64 0]))
   [m6 true true t mode pad back (c9 t k xs) (.z iv.length (bv iv)) (.p (.k 1) 0) (.o 1 (.k 5) 0 (L-at')) (.z (G8 s mode back ((x.l++b).take at') (j4 (cF t key false) (cF t key true) s md back st ((x.l++b).take at')).1 a8).length (bv (G8 s mode back ((x.l++b).take at') (j4 (cF t key false) (cF t key true) s md back st ((x.l++b).take at')).1 a8))),
    f8 (c9 t k xs) md back (j4 (cF t key false) (cF t key true) s md back st ((x.l++b).take at')).2 4,.dead,.dead,g9 (j4 (cF t key false) (cF t key true) s md back st ((x.l++b).take at')).2.row (j4 (cF t key false) (cF t key true) s md back st ((x.l++b).take at')).2.gone,.sc (bv ((x.l++b).drop at'))]:=by
 have hs:=h.s_le;have hg0:0<l8 s md:=by unfold l8;split<;>omega
 have hgm:l8 s md-1<=B1 s md mode pad back:=by
  have:=K.ok.m;unfold l8 B1;by_cases h3:3<=md
  ·rw[if_neg (by omega),if_pos h3];omega
  ·rw[if_pos (by omega),if_neg h3];split<;>(try split)<;>omega
 have hle:=pf (L:=L) hg0 hgm;have a9:=fun i=>aP (most:=B1 s md mode pad back) (L:=L) (i:=i) hg0;rw[<-hN]at hle a9;have G:=sU h (back:=back) K;have hz:at'%l8 s md=0:=by rw[hat];exact Z6 _ _
 have lB:(x.l++b).length=L:=by rw[Zb,hb,hL]
 have lT:((x.l++b).take at').length=at':=by rw[Zf];omega
 have lD:((x.l++b).drop at').length=L-at':=by rw[Zh,lB]
 have NE:=jH (t:=t) (mode:=mode) (pad:=pad) (md:=md) (back:=back) (k:=k) (xs:=xs) (iv:=iv) (a8:=a8) (st:=st) (x:=x);have MO:∀(n':Nat) (vb:List Value),(∃H:Bs,n'=H.length/\vb=bv H)->a6 C 95 [.p (.k 0) 0] [m6 true true t mode pad back (c9 t k xs) (.z iv.length (bv iv)) (.p (.k 1) 0) (.o 1 (.k 3) 0 n') (.z a8.length (bv a8)),f8 (c9 t k xs) md back st 2,g9 st.row st.gone,.sc vb] (.ret (i64 (B1 s md mode pad back))) [m6 true true t mode pad back (c9 t k xs) (.z iv.length (bv iv)) (.p (.k 1) 0) (.o 1 (.k 3) 0 n') (.z a8.length (bv a8)),f8 (c9 t k xs) md back st 2,g9 st.row st.gone,.sc vb]:=by
  rintro _ _ ⟨H,rfl,rfl⟩;exact ym h (mode:=mode) (pad:=pad) (op:=true) (back:=back) (iv:=iv) (a8:=a8) (x:= .o H) K hm
 have TU:=Ih h (op:=true) (back:=back) (pad:=pad) (iv:=iv) (a8:=a8) (H:=x.l++b) (b:=(x.l++b).take at') lT (by omega) K hm hz hne;generalize j4 (cF t key false) (cF t key true) s md back st ((x.l++b).take at')=S0 at*
 obtain⟨o,c1,row1,g1⟩:=S0;dsimp only[j8,HK.v,HK.b]at TU ⊢;rw[lB]at TU;generalize G8 s mode back ((x.l++b).take at') o a8=la at*
 generalize hgr:l8 s md=gr at*
 generalize B1 s md mode pad back=mo at*
 obtain⟨ch,row,g⟩:=st;rcases hx with rfl|⟨H,rfl⟩<;>dsimp only[HK.l,HK.v,HK.b,Zo]at*
 ·have hmL:m=L:=by simpa using hL
  refine kb.d V2 ?_;refine⟨⟨[(0,.p (.k 0) 0),(1,.z m (bv b)),(4,.p (.k 4) 0),(5,.p (.k 5) 0)],[m6 true true t mode pad back (c9 t k xs) (.z iv.length (bv iv)) (.p (.k 1) 0) (d9) (.z a8.length (bv a8)),f8 (c9 t k xs) md back ⟨ch,row,g⟩ 2,g9 row g,.dead,.sc [.slice none 0 0],.sc [.int .i64 0]]⟩,4,5,by decide,⟨[.k 0,.k 1,.k 2,.k 3,.d 4 0,.d 5 0],⟨rfl,rfl,rfl,rfl,tq⟩,⟨_,rfl,rfl⟩,⟨_,rfl,by cases row<;>rfl⟩,⟨_,rfl,by cases row<;>rfl⟩,⟨_,rfl,rfl⟩,⟨_,rfl,rfl⟩,⟨_,rfl,rfl⟩,tq⟩,rfl,rfl,rfl,?_⟩;refine⟨0,Nat,fun i=>⟨[(0,.p (.k 0) 0),(4,.p (.k 4) 0),(5,.p (.k 5) 0),(6,i64 (gr*i:Nat)),(7,i64 mo),(8,i64 gr)],[m6 true true t mode pad back (c9 t k xs) (.z iv.length (bv iv)) (.p (.k 1) 0) (.z L (bv b)) (.z a8.length (bv a8)),f8 (c9 t k xs) md back ⟨ch,row,g⟩ 2,g9 row g,.dead,.sc [.slice none 0 0],.sc [.int .i64 0]]⟩,fun i=>i<=n0,fun i=>n0-i,?_,fun i hi=> ?_⟩
  ·rcases row with _|⟨a,r⟩;all_goals
    refine⟨[.k 0,.k 1,.k 2,.k 3],_,_,_,_,NE,rfl,rfl,?_⟩;refine⟨_,rfl,?_⟩;refine⟨by rw[f7,hb],by omega,?_⟩;refine⟨Za rfl,?_⟩;refine⟨[.k 0,.k 1,.k 2,.d 17 0],_,_,_,_,MO (m) (bv b) ⟨b,hb.symm,rfl⟩,rfl,rfl,?_⟩;refine bH rfl ?_;refine bH (Q7 rfl rfl (Q7 rfl rfl (Q7 rfl rfl (Q7 rfl rfl rfl)))) ?_;refine⟨_,rfl,?_⟩;refine⟨[.k 1,.k 2],_,_,_,_,G,rfl,rfl,?_⟩;refine⟨[],0,Zg _,[.k 0,.k 1,.k 2,.k 3,.k 4,.k 5],⟨rfl,rfl,rfl,rfl,rfl,rfl,tq⟩,⟨_,rfl,?_⟩,⟨_,rfl,rfl⟩,⟨_,rfl,rfl⟩,⟨_,rfl,rfl⟩,⟨_,rfl,rfl⟩,⟨_,rfl,rfl⟩,tq⟩;show m6 true true t mode pad back (c9 t k xs) (.z iv.length (bv iv)) (.p (.k 1) 0) (.z (m) (sub (bv b) 0 (m))) (.z a8.length (bv a8))=_;rw[d7 hb,hmL]
  ·rcases row with _|⟨a,r⟩<;>rcases row1 with _|⟨a1,r1⟩;all_goals
    have e1:gr*i<=L:=Zi (Zj gr hi) hle;refine⟨_,rfl,?_⟩;refine b8 (fun hc=> ?_) (fun hc=> ?_)
    ·have hc':(mo:Int)<I6.wrap ((L:Int)-((gr*i:Nat):Int)):=hc;rw[Zc _ (by omega)]at hc';have hli:i<n0:=(a9 i).2 (by omega);have hle2:gr*(i+1)<=L:=Zi (Zj gr hli) hle;refine⟨rfl,i+1,hli,Zt _ _ hli,[.k 0,.k 1,.k 2,.k 3,.k 4,.k 5],⟨rfl,rfl,rfl,b9 ?_,rfl,rfl,tq⟩,⟨_,rfl,rfl⟩,⟨_,rfl,rfl⟩,⟨_,rfl,rfl⟩,⟨_,rfl,rfl⟩,⟨_,rfl,rfl⟩,⟨_,rfl,rfl⟩,tq⟩;rw[Zu]at hle2 ⊢;rw[Zc _ (by omega)];omega
    ·have hc':¬(mo:Int)<I6.wrap ((L:Int)-((gr*i:Nat):Int)):=hc;rw[Zc _ (by omega)]at hc';obtain rfl:i=n0:=Zx hi (Zk fun hh=>by have:=(a9 i).1 hh;omega);refine⟨_,rfl,?_⟩;refine⟨by omega,by omega,by omega,by omega,?_⟩;refine⟨[.k 0,.k 1,.k 2,.k 3],_,_,_,_,TU,?_,rfl,?_⟩
     ·show[V.p (.k 0) 0,V.z ((gr*i:Nat):Int).toNat (sub (bv b) 0 ((gr*i:Nat):Int).toNat)]=_;rw[Zd,<-hat];exact congrArg (fun v=>[V.p (.k 0) 0,V.z at' v]) (k7 _ 0 at')
     refine⟨Za rfl,?_⟩;refine⟨_,rfl,?_⟩;refine⟨by omega,by omega,by omega,by omega,?_⟩;refine⟨[],_,_,_,_,oI (n:=L-at') (l:=b.drop at') rfl lD (by omega),?_,rfl,?_⟩
     ·show[V.z (L-((gr*i:Nat):Int).toNat) (sub (bv b) ((gr*i:Nat):Int).toNat (L-((gr*i:Nat):Int).toNat))]=_;rw[Zd,<-hat,t4 lB (by omega)]
     refine⟨Za rfl,?_⟩;refine⟨_,rfl,?_⟩;refine⟨Za rfl,?_⟩;refine⟨Za rfl,?_⟩;refine⟨_,rfl,_,rfl,?_⟩;refine⟨_,_,?_,.ret (.refl _),q6.refl _⟩;exact⟨_,rfl,[.k 0,.k 1,.k 2,.k 3,.d 46 4,.d 54 0],rfl,⟨_,rfl,rfl⟩,⟨_,rfl,rfl⟩,⟨_,rfl,rfl⟩,⟨_,rfl,rfl⟩,⟨_,rfl,rfl⟩,⟨_,rfl,rfl⟩,tq⟩
 ·refine kb.d V2 ?_;refine⟨⟨[(0,.p (.k 0) 0),(1,.z m (bv b)),(4,.p (.k 4) 0),(5,.p (.k 5) 0)],[m6 true true t mode pad back (c9 t k xs) (.z iv.length (bv iv)) (.p (.k 1) 0) (.o 1 (.k 3) 0 H.length) (.z a8.length (bv a8)),f8 (c9 t k xs) md back ⟨ch,row,g⟩ 2,g9 row g,.sc (bv H),.sc [.slice none 0 0],.sc [.int .i64 0]]⟩,4,5,by decide,⟨[.k 0,.k 1,.k 2,.k 3,.d 4 0,.d 5 0],⟨rfl,rfl,rfl,rfl,tq⟩,⟨_,rfl,rfl⟩,⟨_,rfl,by cases row<;>rfl⟩,⟨_,rfl,by cases row<;>rfl⟩,⟨_,rfl,rfl⟩,⟨_,rfl,rfl⟩,⟨_,rfl,rfl⟩,tq⟩,rfl,rfl,rfl,?_⟩;refine⟨0,Nat,fun i=>⟨[(0,.p (.k 0) 0),(4,.p (.k 4) 0),(5,.p (.k 5) 0),(6,i64 (gr*i:Nat)),(7,i64 mo),(8,i64 gr)],[m6 true true t mode pad back (c9 t k xs) (.z iv.length (bv iv)) (.p (.k 1) 0) (.z L (bv (H++b))) (.z a8.length (bv a8)),f8 (c9 t k xs) md back ⟨ch,row,g⟩ 2,g9 row g,.dead,.sc [.slice none 0 0],.sc [.int .i64 0]]⟩,fun i=>i<=n0,fun i=>n0-i,?_,fun i hi=> ?_⟩
  ·rcases row with _|⟨a,r⟩;all_goals
    refine⟨[.k 0,.k 1,.k 2,.k 3],_,_,_,_,NE,rfl,rfl,?_⟩;refine⟨_,rfl,?_⟩;refine⟨by rw[f7,hb],by omega,by rw[f7];omega,?_⟩;refine⟨Za rfl,?_⟩;refine⟨[.k 0,.k 1,.k 2,.d 17 0],_,_,_,_,MO (H.length+m) (sub (bv H) 0 (H.length*1)++bv b) ⟨(H++b),by rw[Zb,hb],by rw[Zy,d7 rfl,v7]⟩,rfl,rfl,?_⟩;refine bH rfl ?_;refine bH (Q7 rfl rfl (Q7 rfl rfl (Q7 rfl rfl (Q7 rfl rfl rfl)))) ?_;refine⟨_,rfl,?_⟩;refine⟨[.k 1,.k 2],_,_,_,_,G,rfl,rfl,?_⟩;refine⟨[],0,Zg _,[.k 0,.k 1,.k 2,.k 3,.k 4,.k 5],⟨rfl,rfl,rfl,rfl,rfl,rfl,tq⟩,⟨_,rfl,?_⟩,⟨_,rfl,rfl⟩,⟨_,rfl,rfl⟩,⟨_,rfl,rfl⟩,⟨_,rfl,rfl⟩,⟨_,rfl,rfl⟩,tq⟩;show m6 true true t mode pad back (c9 t k xs) (.z iv.length (bv iv)) (.p (.k 1) 0) (.z (H.length+m) (sub (sub (bv H) 0 (H.length*1)++bv b) 0 (H.length+m))) (.z a8.length (bv a8))=_;rw[Zy,d7 rfl,v7,d7 (by rw[Zb,hb]),hL]
  ·rcases row with _|⟨a,r⟩<;>rcases row1 with _|⟨a1,r1⟩;all_goals
    have e1:gr*i<=L:=Zi (Zj gr hi) hle;refine⟨_,rfl,?_⟩;refine b8 (fun hc=> ?_) (fun hc=> ?_)
    ·have hc':(mo:Int)<I6.wrap ((L:Int)-((gr*i:Nat):Int)):=hc;rw[Zc _ (by omega)]at hc';have hli:i<n0:=(a9 i).2 (by omega);have hle2:gr*(i+1)<=L:=Zi (Zj gr hli) hle;refine⟨rfl,i+1,hli,Zt _ _ hli,[.k 0,.k 1,.k 2,.k 3,.k 4,.k 5],⟨rfl,rfl,rfl,b9 ?_,rfl,rfl,tq⟩,⟨_,rfl,rfl⟩,⟨_,rfl,rfl⟩,⟨_,rfl,rfl⟩,⟨_,rfl,rfl⟩,⟨_,rfl,rfl⟩,⟨_,rfl,rfl⟩,tq⟩;rw[Zu]at hle2 ⊢;rw[Zc _ (by omega)];omega
    ·have hc':¬(mo:Int)<I6.wrap ((L:Int)-((gr*i:Nat):Int)):=hc;rw[Zc _ (by omega)]at hc';obtain rfl:i=n0:=Zx hi (Zk fun hh=>by have:=(a9 i).1 hh;omega);refine⟨_,rfl,?_⟩;refine⟨by omega,by omega,by omega,by omega,?_⟩;refine⟨[.k 0,.k 1,.k 2,.k 3],_,_,_,_,TU,?_,rfl,?_⟩
     ·show[V.p (.k 0) 0,V.z ((gr*i:Nat):Int).toNat (sub (bv (H++b)) 0 ((gr*i:Nat):Int).toNat)]=_;rw[Zd,<-hat];exact congrArg (fun v=>[V.p (.k 0) 0,V.z at' v]) (k7 _ 0 at')
     refine⟨Za rfl,?_⟩;refine⟨_,rfl,?_⟩;refine⟨by omega,by omega,by omega,by omega,?_⟩;refine⟨[],_,_,_,_,oI (n:=L-at') (l:=(H++b).drop at') rfl lD (by omega),?_,rfl,?_⟩
     ·show[V.z (L-((gr*i:Nat):Int).toNat) (sub (bv (H++b)) ((gr*i:Nat):Int).toNat (L-((gr*i:Nat):Int).toNat))]=_;rw[Zd,<-hat,t4 lB (by omega)]
     refine⟨Za rfl,?_⟩;refine⟨_,rfl,?_⟩;refine⟨Za rfl,?_⟩;refine⟨Za rfl,?_⟩;refine⟨_,rfl,_,rfl,?_⟩;refine⟨_,_,?_,.ret (.refl _),q6.refl _⟩;exact⟨_,rfl,[.k 0,.k 1,.k 2,.k 3,.d 46 4,.d 54 0],rfl,⟨_,rfl,rfl⟩,⟨_,rfl,rfl⟩,⟨_,rfl,rfl⟩,⟨_,rfl,rfl⟩,⟨_,rfl,rfl⟩,⟨_,rfl,rfl⟩,tq⟩
theorem Ip {t key s k xs rs} (h:j5 t key s k xs rs) {mode pad md:Int} {back:Bool} {iv a8 b:Bs} {st:MS} {x:HK} {m L n0 at':Nat} (hx:x= .n\/∃H,x= .o H) (hb:b.length=m) (hL:x.l.length+m=L) (hL0:L=0) (h3:3<=md) (K:MK s md st) (hm:mode<=9)
  (hN:n0=A5 (l8 s md) (B1 s md mode pad back) L) (hat:at'=l8 s md*n0):
  a6 C 33 [.p (.k 0) 0,.z m (bv b)] [j8 true t mode pad back k xs iv x a8,f8 (c9 t k xs) md back st 2,g9 st.row st.gone,x.b]
   (.ret (.t [.z 0 [],i64 0]))
   [m6 true true t mode pad back (c9 t k xs) (.z iv.length (bv iv)) (.p (.k 1) 0) (.o 1 (.k 4) 0 0) (.z a8.length (bv a8)),
    f8 (c9 t k xs) md back st 2,g9 st.row st.gone,.dead,.sc []]:=by
 have hs:=h.s_le;have hg0:0<l8 s md:=by unfold l8;split<;>omega
 have hgm:l8 s md-1<=B1 s md mode pad back:=by
  have:=K.ok.m;unfold l8 B1;by_cases h3:3<=md
  ·rw[if_neg (by omega),if_pos h3];omega
  ·rw[if_pos (by omega),if_neg h3];split<;>(try split)<;>omega
 have hLb:L<=100000:=by omega
 have hle:=pf (L:=L) hg0 hgm;have a9:=fun i=>aP (most:=B1 s md mode pad back) (L:=L) (i:=i) hg0;rw[<-hN]at hle a9;have G:=sU h (back:=back) K;have hz:at'%l8 s md=0:=by rw[hat];exact Z6 _ _
 have lB:(x.l++b).length=L:=by rw[Zb,hb,hL]
 have lT:((x.l++b).take at').length=at':=by rw[Zf];omega
 have lD:((x.l++b).drop at').length=L-at':=by rw[Zh,lB]
 have NE:=jH (t:=t) (mode:=mode) (pad:=pad) (md:=md) (back:=back) (k:=k) (xs:=xs) (iv:=iv) (a8:=a8) (st:=st) (x:=x);have MO:∀(n':Nat) (vb:List Value),(∃H:Bs,n'=H.length/\vb=bv H)->a6 C 95 [.p (.k 0) 0] [m6 true true t mode pad back (c9 t k xs) (.z iv.length (bv iv)) (.p (.k 1) 0) (.o 1 (.k 3) 0 n') (.z a8.length (bv a8)),f8 (c9 t k xs) md back st 2,g9 st.row st.gone,.sc vb] (.ret (i64 (B1 s md mode pad back))) [m6 true true t mode pad back (c9 t k xs) (.z iv.length (bv iv)) (.p (.k 1) 0) (.o 1 (.k 3) 0 n') (.z a8.length (bv a8)),f8 (c9 t k xs) md back st 2,g9 st.row st.gone,.sc vb]:=by
  rintro _ _ ⟨H,rfl,rfl⟩;exact ym h (mode:=mode) (pad:=pad) (op:=true) (back:=back) (iv:=iv) (a8:=a8) (x:= .o H) K hm
 have a0:at'=0:=by omega
 have TU:=fun(vb:List Value)=>Ii h (op:=true) (back:=back) (pad:=pad) (iv:=iv) (a8:=a8) (H:=x.l++b) (st:=st) (vb:=vb) h3 hm;dsimp only[j8,HK.v,HK.b]at TU ⊢;rw[lB]at TU;generalize hgr:l8 s md=gr at*
 generalize B1 s md mode pad back=mo at*
 obtain⟨ch,row,g⟩:=st;rcases hx with rfl|⟨H,rfl⟩<;>dsimp only[HK.l,HK.v,HK.b,Zo]at*
 ·have hmL:m=L:=by simpa using hL
  refine kb.d V2 ?_;refine⟨⟨[(0,.p (.k 0) 0),(1,.z m (bv b)),(4,.p (.k 4) 0),(5,.p (.k 5) 0)],[m6 true true t mode pad back (c9 t k xs) (.z iv.length (bv iv)) (.p (.k 1) 0) (d9) (.z a8.length (bv a8)),f8 (c9 t k xs) md back ⟨ch,row,g⟩ 2,g9 row g,.dead,.sc [.slice none 0 0],.sc [.int .i64 0]]⟩,4,5,by decide,⟨[.k 0,.k 1,.k 2,.k 3,.d 4 0,.d 5 0],⟨rfl,rfl,rfl,rfl,tq⟩,⟨_,rfl,rfl⟩,⟨_,rfl,by cases row<;>rfl⟩,⟨_,rfl,by cases row<;>rfl⟩,⟨_,rfl,rfl⟩,⟨_,rfl,rfl⟩,⟨_,rfl,rfl⟩,tq⟩,rfl,rfl,rfl,?_⟩;refine⟨0,Nat,fun i=>⟨[(0,.p (.k 0) 0),(4,.p (.k 4) 0),(5,.p (.k 5) 0),(6,i64 (gr*i:Nat)),(7,i64 mo),(8,i64 gr)],[m6 true true t mode pad back (c9 t k xs) (.z iv.length (bv iv)) (.p (.k 1) 0) (.z L (bv b)) (.z a8.length (bv a8)),f8 (c9 t k xs) md back ⟨ch,row,g⟩ 2,g9 row g,.dead,.sc [.slice none 0 0],.sc [.int .i64 0]]⟩,fun i=>i<=n0,fun i=>n0-i,?_,fun i hi=> ?_⟩
  ·rcases row with _|⟨a,r⟩;all_goals
    refine⟨[.k 0,.k 1,.k 2,.k 3],_,_,_,_,NE,rfl,rfl,?_⟩;refine⟨_,rfl,?_⟩;refine⟨by rw[f7,hb],by omega,?_⟩;refine⟨Za rfl,?_⟩;refine⟨[.k 0,.k 1,.k 2,.d 17 0],_,_,_,_,MO (m) (bv b) ⟨b,hb.symm,rfl⟩,rfl,rfl,?_⟩;refine bH rfl ?_;refine bH (Q7 rfl rfl (Q7 rfl rfl (Q7 rfl rfl (Q7 rfl rfl rfl)))) ?_;refine⟨_,rfl,?_⟩;refine⟨[.k 1,.k 2],_,_,_,_,G,rfl,rfl,?_⟩;refine⟨[],0,Zg _,[.k 0,.k 1,.k 2,.k 3,.k 4,.k 5],⟨rfl,rfl,rfl,rfl,rfl,rfl,tq⟩,⟨_,rfl,?_⟩,⟨_,rfl,rfl⟩,⟨_,rfl,rfl⟩,⟨_,rfl,rfl⟩,⟨_,rfl,rfl⟩,⟨_,rfl,rfl⟩,tq⟩;show m6 true true t mode pad back (c9 t k xs) (.z iv.length (bv iv)) (.p (.k 1) 0) (.z (m) (sub (bv b) 0 (m))) (.z a8.length (bv a8))=_;rw[d7 hb,hmL]
  ·rcases row with _|⟨a,r⟩;all_goals
    have e1:gr*i<=L:=Zi (Zj gr hi) hle;refine⟨_,rfl,?_⟩;refine b8 (fun hc=> ?_) (fun hc=> ?_)
    ·have hc':(mo:Int)<I6.wrap ((L:Int)-((gr*i:Nat):Int)):=hc;rw[Zc _ (by omega)]at hc';have hli:i<n0:=(a9 i).2 (by omega);have hle2:gr*(i+1)<=L:=Zi (Zj gr hli) hle;refine⟨rfl,i+1,hli,Zt _ _ hli,[.k 0,.k 1,.k 2,.k 3,.k 4,.k 5],⟨rfl,rfl,rfl,b9 ?_,rfl,rfl,tq⟩,⟨_,rfl,rfl⟩,⟨_,rfl,rfl⟩,⟨_,rfl,rfl⟩,⟨_,rfl,rfl⟩,⟨_,rfl,rfl⟩,⟨_,rfl,rfl⟩,tq⟩;rw[Zu]at hle2 ⊢;rw[Zc _ (by omega)];omega
    ·have hc':¬(mo:Int)<I6.wrap ((L:Int)-((gr*i:Nat):Int)):=hc;rw[Zc _ (by omega)]at hc';obtain rfl:i=n0:=Zx hi (Zk fun hh=>by have:=(a9 i).1 hh;omega);refine⟨_,rfl,?_⟩;refine⟨by omega,by omega,by omega,by omega,?_⟩;refine⟨[.k 0,.k 1,.k 2,.k 3],_,_,_,_,TU [],?_,rfl,?_⟩
     ·show[V.p (.k 0) 0,V.z ((gr*i:Nat):Int).toNat (sub (bv b) 0 ((gr*i:Nat):Int).toNat)]=_;rw[Zd,<-hat,a0];rfl
     refine⟨Za rfl,?_⟩;refine⟨_,rfl,?_⟩;refine⟨by omega,by omega,by omega,by omega,?_⟩;refine⟨[],_,_,_,_,oI (n:=L-at') (l:=b.drop at') rfl lD (by omega),?_,rfl,?_⟩
     ·show[V.z (L-((gr*i:Nat):Int).toNat) (sub (bv b) ((gr*i:Nat):Int).toNat (L-((gr*i:Nat):Int).toNat))]=_;rw[Zd,<-hat,t4 lB (by omega)]
     refine⟨Za rfl,?_⟩;refine⟨_,rfl,?_⟩;refine⟨Za rfl,?_⟩;refine⟨Za rfl,?_⟩;refine⟨_,rfl,_,rfl,?_⟩;refine⟨_,_,?_,.ret (.refl _),q6.refl _⟩;refine⟨_,rfl,[.k 0,.k 1,.k 2,.k 3,.d 54 0],rfl,⟨_,rfl,?_⟩,⟨_,rfl,rfl⟩,⟨_,rfl,rfl⟩,⟨_,rfl,rfl⟩,⟨_,rfl,?_⟩,tq⟩
     ·exact congrArg (fun z=>m6 true true t mode pad back (c9 t k xs) (.z iv.length (bv iv)) (.p (.k 1) 0) (.o 1 (.k 4) 0 z) (.z a8.length (bv a8))) (show L-at'=0 by omega)
     ·exact congrArg (fun z=>B.sc (bv z)) (Ze (by rw[lD];omega))
 ·refine kb.d V2 ?_;refine⟨⟨[(0,.p (.k 0) 0),(1,.z m (bv b)),(4,.p (.k 4) 0),(5,.p (.k 5) 0)],[m6 true true t mode pad back (c9 t k xs) (.z iv.length (bv iv)) (.p (.k 1) 0) (.o 1 (.k 3) 0 H.length) (.z a8.length (bv a8)),f8 (c9 t k xs) md back ⟨ch,row,g⟩ 2,g9 row g,.sc (bv H),.sc [.slice none 0 0],.sc [.int .i64 0]]⟩,4,5,by decide,⟨[.k 0,.k 1,.k 2,.k 3,.d 4 0,.d 5 0],⟨rfl,rfl,rfl,rfl,tq⟩,⟨_,rfl,rfl⟩,⟨_,rfl,by cases row<;>rfl⟩,⟨_,rfl,by cases row<;>rfl⟩,⟨_,rfl,rfl⟩,⟨_,rfl,rfl⟩,⟨_,rfl,rfl⟩,tq⟩,rfl,rfl,rfl,?_⟩;refine⟨0,Nat,fun i=>⟨[(0,.p (.k 0) 0),(4,.p (.k 4) 0),(5,.p (.k 5) 0),(6,i64 (gr*i:Nat)),(7,i64 mo),(8,i64 gr)],[m6 true true t mode pad back (c9 t k xs) (.z iv.length (bv iv)) (.p (.k 1) 0) (.z L (bv (H++b))) (.z a8.length (bv a8)),f8 (c9 t k xs) md back ⟨ch,row,g⟩ 2,g9 row g,.dead,.sc [.slice none 0 0],.sc [.int .i64 0]]⟩,fun i=>i<=n0,fun i=>n0-i,?_,fun i hi=> ?_⟩
  ·rcases row with _|⟨a,r⟩;all_goals
    refine⟨[.k 0,.k 1,.k 2,.k 3],_,_,_,_,NE,rfl,rfl,?_⟩;refine⟨_,rfl,?_⟩;refine⟨by rw[f7,hb],by omega,by rw[f7];omega,?_⟩;refine⟨Za rfl,?_⟩;refine⟨[.k 0,.k 1,.k 2,.d 17 0],_,_,_,_,MO (H.length+m) (sub (bv H) 0 (H.length*1)++bv b) ⟨(H++b),by rw[Zb,hb],by rw[Zy,d7 rfl,v7]⟩,rfl,rfl,?_⟩;refine bH rfl ?_;refine bH (Q7 rfl rfl (Q7 rfl rfl (Q7 rfl rfl (Q7 rfl rfl rfl)))) ?_;refine⟨_,rfl,?_⟩;refine⟨[.k 1,.k 2],_,_,_,_,G,rfl,rfl,?_⟩;refine⟨[],0,Zg _,[.k 0,.k 1,.k 2,.k 3,.k 4,.k 5],⟨rfl,rfl,rfl,rfl,rfl,rfl,tq⟩,⟨_,rfl,?_⟩,⟨_,rfl,rfl⟩,⟨_,rfl,rfl⟩,⟨_,rfl,rfl⟩,⟨_,rfl,rfl⟩,⟨_,rfl,rfl⟩,tq⟩;show m6 true true t mode pad back (c9 t k xs) (.z iv.length (bv iv)) (.p (.k 1) 0) (.z (H.length+m) (sub (sub (bv H) 0 (H.length*1)++bv b) 0 (H.length+m))) (.z a8.length (bv a8))=_;rw[Zy,d7 rfl,v7,d7 (by rw[Zb,hb]),hL]
  ·rcases row with _|⟨a,r⟩;all_goals
    have e1:gr*i<=L:=Zi (Zj gr hi) hle;refine⟨_,rfl,?_⟩;refine b8 (fun hc=> ?_) (fun hc=> ?_)
    ·have hc':(mo:Int)<I6.wrap ((L:Int)-((gr*i:Nat):Int)):=hc;rw[Zc _ (by omega)]at hc';have hli:i<n0:=(a9 i).2 (by omega);have hle2:gr*(i+1)<=L:=Zi (Zj gr hli) hle;refine⟨rfl,i+1,hli,Zt _ _ hli,[.k 0,.k 1,.k 2,.k 3,.k 4,.k 5],⟨rfl,rfl,rfl,b9 ?_,rfl,rfl,tq⟩,⟨_,rfl,rfl⟩,⟨_,rfl,rfl⟩,⟨_,rfl,rfl⟩,⟨_,rfl,rfl⟩,⟨_,rfl,rfl⟩,⟨_,rfl,rfl⟩,tq⟩;rw[Zu]at hle2 ⊢;rw[Zc _ (by omega)];omega
    ·have hc':¬(mo:Int)<I6.wrap ((L:Int)-((gr*i:Nat):Int)):=hc;rw[Zc _ (by omega)]at hc';obtain rfl:i=n0:=Zx hi (Zk fun hh=>by have:=(a9 i).1 hh;omega);refine⟨_,rfl,?_⟩;refine⟨by omega,by omega,by omega,by omega,?_⟩;refine⟨[.k 0,.k 1,.k 2,.k 3],_,_,_,_,TU [],?_,rfl,?_⟩
     ·show[V.p (.k 0) 0,V.z ((gr*i:Nat):Int).toNat (sub (bv (H++b)) 0 ((gr*i:Nat):Int).toNat)]=_;rw[Zd,<-hat,a0];rfl
     refine⟨Za rfl,?_⟩;refine⟨_,rfl,?_⟩;refine⟨by omega,by omega,by omega,by omega,?_⟩;refine⟨[],_,_,_,_,oI (n:=L-at') (l:=(H++b).drop at') rfl lD (by omega),?_,rfl,?_⟩
     ·show[V.z (L-((gr*i:Nat):Int).toNat) (sub (bv (H++b)) ((gr*i:Nat):Int).toNat (L-((gr*i:Nat):Int).toNat))]=_;rw[Zd,<-hat,t4 lB (by omega)]
     refine⟨Za rfl,?_⟩;refine⟨_,rfl,?_⟩;refine⟨Za rfl,?_⟩;refine⟨Za rfl,?_⟩;refine⟨_,rfl,_,rfl,?_⟩;refine⟨_,_,?_,.ret (.refl _),q6.refl _⟩;refine⟨_,rfl,[.k 0,.k 1,.k 2,.k 3,.d 54 0],rfl,⟨_,rfl,?_⟩,⟨_,rfl,rfl⟩,⟨_,rfl,rfl⟩,⟨_,rfl,rfl⟩,⟨_,rfl,?_⟩,tq⟩
     ·exact congrArg (fun z=>m6 true true t mode pad back (c9 t k xs) (.z iv.length (bv iv)) (.p (.k 1) 0) (.o 1 (.k 4) 0 z) (.z a8.length (bv a8))) (show L-at'=0 by omega)
     ·exact congrArg (fun z=>B.sc (bv z)) (Ze (by rw[lD];omega))
theorem Ir {m:Nat} {vb:List Value}:
  a6 C 33 [.p (.k 0) 0,.z m vb] [m6 false false 0 0 0 false i6 d9 i6 d9 d9] (.ret (.t [.z 0 [],i64 6])) [m6 false false 0 0 0 false i6 d9 i6 d9 d9]:=by
 refine kb.d V2 ?_;refine⟨⟨[(0,.p (.k 0) 0),(1,.z m vb),(4,.p (.k 1) 0),(5,.p (.k 2) 0)],[_,.sc [.slice none 0 0],.sc [.int .i64 0]]⟩,1,2,by decide,⟨[.k 0,.d 4 0,.d 5 0],⟨rfl,rfl,rfl,rfl,tq⟩,⟨_,rfl,rfl⟩,⟨_,rfl,rfl⟩,⟨_,rfl,rfl⟩,tq⟩,rfl,rfl,rfl,?_⟩;refine⟨0,Unit,fun _=>⟨[],[]⟩,fun _=>False,fun _=>0,?_,fun _ h=>h.elim⟩;refine⟨[.k 0],_,_,_,_,yn,rfl,rfl,?_⟩;refine⟨_,rfl,_,rfl,?_⟩;refine⟨_,_,?_,.ret (.t (.cons .nl (.cons (.refl _) .nil))),q6.refl _⟩;exact⟨_,rfl,[.k 0],rfl,⟨_,rfl,rfl⟩,tq⟩
theorem HS:a6 C 34 [.p (.k 0) 0] [m6 false false 0 0 0 false i6 d9 i6 d9 d9] (.ret (.t [.z 0 [],i64 6])) [m6 false false 0 0 0 false i6 d9 i6 d9 d9]:=by
 refine dy.d V2 ?_;refine⟨⟨[(0,.p (.k 0) 0),(2,.p (.k 1) 0),(3,.p (.k 2) 0)],[_,.sc [.slice none 0 0],.sc [.int .i64 0]]⟩,1,2,by decide,⟨[.k 0,.d 2 0,.d 3 0],⟨rfl,rfl,rfl,tq⟩,⟨_,rfl,rfl⟩,⟨_,rfl,rfl⟩,⟨_,rfl,rfl⟩,tq⟩,rfl,rfl,rfl,?_⟩;refine⟨[.k 0],_,_,_,_,yn,rfl,rfl,?_⟩;refine⟨_,rfl,_,rfl,?_⟩;refine⟨_,_,?_,.ret (.t (.cons .nl (.cons (.refl _) .nil))),q6.refl _⟩;exact⟨_,rfl,[.k 0],rfl,⟨_,rfl,rfl⟩,tq⟩
theorem cA {t mode pad md:Int} {op back:Bool} {k:Nat} {xs:List V} {iv a8:Bs} {st:MS} (hm:mode<=9):a6 C 158 [.p (.k 0) 0] [j8 op t mode pad back k xs iv .n a8,f8 (c9 t k xs) md back st 2,g9 st.row st.gone] (.ret (bool (decide (7<=mode)))) [j8 op t mode pad back k xs iv .n a8,f8 (c9 t k xs) md back st 2,g9 st.row st.gone]:=by
 obtain⟨ch,row,g⟩:=st;rcases row with _|⟨a,r⟩;all_goals
  refine mS.c ?_;refine⟨_,rfl,?_⟩;refine b8 (fun h7=> ?_) (fun h7=> ?_)
  ·refine⟨_,rfl,?_⟩;refine⟨_,rfl,[.k 0,.k 1,.k 2],?_,⟨_,rfl,rfl⟩,⟨_,rfl,rfl⟩,⟨_,rfl,rfl⟩,tq⟩;exact congrArg bool (by rw[decide_eq_true hm,decide_eq_true h7])
  ·refine⟨_,rfl,[.k 0,.k 1,.k 2],?_,⟨_,rfl,rfl⟩,⟨_,rfl,rfl⟩,⟨_,rfl,rfl⟩,tq⟩;exact congrArg bool (by rw[decide_eq_false h7])
theorem oK {t key s k xs rs} (h:j5 t key s k xs rs) {mode pad md:Int} {op back:Bool} {iv a8 b:Bs} {st:MS} {m:Nat} (hb:b.length=m) (hmb:m<=100000) (K:MK s md st) (hm:mode<=9) (hg:m%l8 s md=0) (hne:0<m\/st.row=[]):
  a6 C 97 [.p (.k 0) 0,.z m (bv b)] [j8 op t mode pad back k xs iv .n a8,f8 (c9 t k xs) md back st 2,g9 st.row st.gone]
   (.ret (.z m (bv (j4 (cF t key false) (cF t key true) s md back st b).1)))
   [j8 op t mode pad back k xs iv .n (G8 s mode back b (j4 (cF t key false) (cF t key true) s md back st b).1 a8),f8 (c9 t k xs) md back (j4 (cF t key false) (cF t key true) s md back st b).2 3,.dead,g9 (j4 (cF t key false) (cF t key true) s md back st b).2.row (j4 (cF t key false) (cF t key true) s md back st b).2.gone]:=by
 have hs:=h.s_le;have lo:(j4 (cF t key false) (cF t key true) s md back st b).1.length=m:=by rw[X8 h.ci K.ok (by rw[hb];exact hg),hb]
 have T0:=yZ h (back:=back) (st:=st) (b:=b) rfl hb (by omega) K hg hne;have S:=fun(st':MS)=>cA (t:=t) (mode:=mode) (pad:=pad) (md:=md) (op:=op) (back:=back) (k:=k) (xs:=xs) (iv:=iv) (a8:=a8) (st:=st') hm;generalize j4 (cF t key false) (cF t key true) s md back st b=S0 at*
 obtain⟨o,st1⟩:=S0;have S1:=S st1;obtain⟨c1,row1,g1⟩:=st1;dsimp only at T0 lo ⊢;have eS:I6.wrap ((m:Int)-(s:Int))=(m:Int)-s:=Zc _ (by omega);by_cases hL:7<=mode/\s<=m
 ·have eL:G8 s mode back b o a8=(if back then b else o).drop (m-s):=by unfold G8;rw[hb,if_pos hL]
  rw[eL];cases back;all_goals
   obtain⟨ch,row,g⟩:=st;rcases row with _|⟨a,r⟩<;>rcases row1 with _|⟨a1,r1⟩
  all_goals
   refine iJ.c ?_;refine⟨_,rfl,?_⟩;refine⟨[.k 1,.k 2],_,_,_,_,T0,rfl,rfl,?_⟩;refine⟨[],_,_,_,_,eB,rfl,rfl,?_⟩;refine⟨_,rfl,?_⟩;refine⟨[],_,_,_,_,h.size,rfl,rfl,?_⟩;refine⟨[.k 0,.k 1,.d 15 2],_,_,_,_,S1,rfl,rfl,?_⟩;refine b8 (fun h7=> ?_) (fun h7=>absurd hL.1 h7);refine b8 (fun h7=> ?_) (fun h7=>absurd hL.2 (by omega));refine⟨_,rfl,?_⟩;refine⟨by rw[eS];omega,by rw[eS];omega,by omega,by omega,?_⟩;first
    |refine⟨[],_,_,_,_,S8 (n:=s) (l:=o.drop (m-s)) (va:=bv (o.drop (m-s))) rfl (by rw[Zh,lo];omega) (by omega),?_,rfl,?_⟩
     ·show[V.z (m-(I6.wrap ((m:Int)-(s:Int))).toNat) (sub (bv o) (I6.wrap ((m:Int)-(s:Int))).toNat (m-(I6.wrap ((m:Int)-(s:Int))).toNat))]=_;rw[eS,show((m:Int)-s).toNat=m-s by omega,t4 lo (by omega),show m-(m-s)=s by omega]
     refine⟨Za rfl,?_⟩;refine⟨_,rfl,[.k 0,.k 1,.k 2,.d 15 2],rfl,⟨_,rfl,?_⟩,⟨_,rfl,rfl⟩,⟨_,rfl,rfl⟩,⟨_,rfl,rfl⟩,tq⟩;have ll:(o.drop (m-s)).length=s:=by rw[Zh,lo];omega
     show _=j8 op t mode pad false k xs iv .n (o.drop (m-s));unfold j8;rw[ll];rfl
    |refine⟨[],_,_,_,_,S8 (n:=s) (l:=b.drop (m-s)) (va:=bv (b.drop (m-s))) rfl (by rw[Zh,hb];omega) (by omega),?_,rfl,?_⟩
     ·show[V.z (m-(I6.wrap ((m:Int)-(s:Int))).toNat) (sub (bv b) (I6.wrap ((m:Int)-(s:Int))).toNat (m-(I6.wrap ((m:Int)-(s:Int))).toNat))]=_;rw[eS,show((m:Int)-s).toNat=m-s by omega,t4 hb (by omega),show m-(m-s)=s by omega]
     refine⟨Za rfl,?_⟩;refine⟨_,rfl,[.k 0,.k 1,.k 2,.d 15 2],rfl,⟨_,rfl,?_⟩,⟨_,rfl,rfl⟩,⟨_,rfl,rfl⟩,⟨_,rfl,rfl⟩,tq⟩;have ll:(b.drop (m-s)).length=s:=by rw[Zh,hb];omega
     show _=j8 op t mode pad true k xs iv .n (b.drop (m-s));unfold j8;rw[ll];rfl
 ·have eL:G8 s mode back b o a8=a8:=by unfold G8;rw[hb,if_neg hL]
  rw[eL];obtain⟨ch,row,g⟩:=st;rcases row with _|⟨a,r⟩<;>rcases row1 with _|⟨a1,r1⟩;all_goals
   refine iJ.c ?_;refine⟨_,rfl,?_⟩;refine⟨[.k 1,.k 2],_,_,_,_,T0,rfl,rfl,?_⟩;refine⟨[],_,_,_,_,eB,rfl,rfl,?_⟩;refine⟨_,rfl,?_⟩;refine⟨[],_,_,_,_,h.size,rfl,rfl,?_⟩;refine⟨[.k 0,.k 1,.d 15 2],_,_,_,_,S1,rfl,rfl,?_⟩;refine b8 (fun h7=> ?_) (fun h7=> ?_)
   ·refine b8 (fun h8=>absurd ⟨h7,by omega⟩ hL) (fun h8=> ?_);exact⟨_,rfl,[.k 0,.k 1,.k 2,.d 15 2],rfl,⟨_,rfl,rfl⟩,⟨_,rfl,rfl⟩,⟨_,rfl,rfl⟩,⟨_,rfl,rfl⟩,tq⟩
   ·exact⟨_,rfl,[.k 0,.k 1,.k 2,.d 15 2],rfl,⟨_,rfl,rfl⟩,⟨_,rfl,rfl⟩,⟨_,rfl,rfl⟩,⟨_,rfl,rfl⟩,tq⟩
theorem Ij {t key s k xs rs} (h:j5 t key s k xs rs) {mode pad md:Int} {op back:Bool} {iv a8:Bs} {st:MS} {vb:List Value} (h3:3<=md) (hm:mode<=9):
  a6 C 97 [.p (.k 0) 0,.z 0 vb] [j8 op t mode pad back k xs iv .n a8,f8 (c9 t k xs) md back st 2,g9 st.row st.gone]
   (.ret (.z 0 [])) [j8 op t mode pad back k xs iv .n a8,f8 (c9 t k xs) md back st 2,g9 st.row st.gone]:=by
 have hs:=h.s_le;have T0:=za h (back:=back) (st:=st) (vb:=vb) h3;have S:=cA (t:=t) (mode:=mode) (pad:=pad) (md:=md) (op:=op) (back:=back) (k:=k) (xs:=xs) (iv:=iv) (a8:=a8) (st:=st) hm;obtain⟨ch,row,g⟩:=st;rcases row with _|⟨a,r⟩;all_goals
  refine iJ.c ?_;refine⟨_,rfl,?_⟩;refine⟨[.k 1,.k 2],_,_,_,_,T0,rfl,rfl,?_⟩;refine⟨[],_,_,_,_,eB,rfl,rfl,?_⟩;refine⟨_,rfl,?_⟩;refine⟨[],_,_,_,_,h.size,rfl,rfl,?_⟩;refine⟨[.k 0,.k 1,.k 2],_,_,_,_,S,rfl,rfl,?_⟩;refine b8 (fun h7=> ?_) (fun h7=> ?_)
  ·refine b8 (fun h8=>absurd h8 (by omega)) (fun h8=> ?_);exact⟨_,rfl,[.k 0,.k 1,.k 2],rfl,⟨_,rfl,rfl⟩,⟨_,rfl,rfl⟩,⟨_,rfl,rfl⟩,tq⟩
  ·exact⟨_,rfl,[.k 0,.k 1,.k 2],rfl,⟨_,rfl,rfl⟩,⟨_,rfl,rfl⟩,⟨_,rfl,rfl⟩,tq⟩
theorem Il {t key s k xs rs} (h:j5 t key s k xs rs) {mode pad md:Int} {op back:Bool} {iv a8:Bs} {st:MS} {m:Nat} {vb:List Value} (K:MK s md st) (hg:m%l8 s md≠0):
  a6 C 97 [.p (.k 0) 0,.z m vb] [j8 op t mode pad back k xs iv .n a8,f8 (c9 t k xs) md back st 2,g9 st.row st.gone]
   (.pan (.i U4 (i64 7))) [j8 op t mode pad back k xs iv .n a8,f8 (c9 t k xs) md back st 2,g9 st.row st.gone]:=by
 have T0:=Ms h (back:=back) (st:=st) (vb:=vb) K hg;obtain⟨ch,row,g⟩:=st;rcases row with _|⟨a,r⟩;all_goals
  refine iJ.c ?_;refine⟨_,rfl,?_⟩;refine⟨[.k 1,.k 2],_,_,_,_,T0,rfl,rfl,?_⟩;refine⟨[],_,_,_,_,jP (e:=7) (by decide),rfl,rfl,?_⟩;exact⟨_,rfl,[.k 0,.k 1,.k 2],rfl,⟨_,rfl,rfl⟩,⟨_,rfl,rfl⟩,⟨_,rfl,rfl⟩,tq⟩
theorem HH {t key s k xs rs} (h:j5 t key s k xs rs) {mode pad md:Int} {back:Bool} {iv a8 H:Bs} {st:MS} {m:Nat} (hl:a8.length=s) (hH:H.length=m) (hm:7<=mode/\mode<=9) (h1:s<=m) (h2:m<=2*s):
  a6 C 98 [.p (.k 0) 0,.z m (bv H)] [j8 false t mode pad back k xs iv .n a8,f8 (c9 t k xs) md back st 2,g9 st.row st.gone] (.ret (.z m (bv (M2 (cF t key false) (cF t key true) s mode back a8 H)))) [j8 false t mode pad back k xs iv .n a8,f8 (c9 t k xs) md back st 2,g9 st.row st.gone]:=by
 have T0:a6 C 116 [c9 t k xs,i64 mode,bool back,.z a8.length (bv a8),.z m (bv H)] [] (y6 m) [.sc (bv (M2 (cF t key false) (cF t key true) s mode back a8 H))]:=by
  rw[hl];exact MA h rfl rfl hl hH hm h1 h2
 have lo:(M2 (cF t key false) (cF t key true) s mode back a8 H).length=m:=by rw[stT_len h.ci hl (by omega) (by omega),hH]
 have S:=cA (t:=t) (mode:=mode) (pad:=pad) (md:=md) (op:=false) (back:=back) (k:=k) (xs:=xs) (iv:=iv) (a8:=a8) (st:=st) hm.2;obtain⟨ch,row,g⟩:=st;rcases row with _|⟨a,r⟩;all_goals
  refine eJ.c ?_;refine⟨_,rfl,?_⟩;refine⟨[],_,_,_,_,h.size,rfl,rfl,?_⟩;refine⟨[.k 0,.k 1,.k 2],_,_,_,_,S,rfl,rfl,?_⟩;refine b8 (fun h7=> ?_) (fun h7=>absurd hm.1 h7);refine⟨_,rfl,?_⟩;refine⟨_,rfl,?_⟩;refine⟨_,rfl,?_⟩;refine⟨_,rfl,?_⟩;refine⟨[],_,_,_,_,T0,rfl,rfl,?_⟩;refine⟨[],_,_,_,_,eB,rfl,rfl,?_⟩;refine⟨_,rfl,[.k 0,.k 1,.k 2],?_,⟨_,rfl,rfl⟩,⟨_,rfl,rfl⟩,⟨_,rfl,rfl⟩,tq⟩;exact congrArg (V.z m) (d7 lo)
theorem HI {t key s k xs rs} (h:j5 t key s k xs rs) {mode pad md:Int} {back:Bool} {iv a8 H:Bs} {st:MS} {m:Nat} (hl:a8.length=s) (hH:H.length=m) (hm:7<=mode/\mode<=9) (h1:m<s):
  a6 C 98 [.p (.k 0) 0,.z m (bv H)] [j8 false t mode pad back k xs iv .n a8,f8 (c9 t k xs) md back st 2,g9 st.row st.gone] (.pan (.i U4 (i64 7))) [j8 false t mode pad back k xs iv .n a8,f8 (c9 t k xs) md back st 2,g9 st.row st.gone]:=by
 have hs:=h.s_le;have e7:nM s mode a8 H=7:=by unfold nM;rw[if_neg (by omega),if_neg (by omega),if_pos (by omega)]
 have T0:=MB h (l:=a8.length) (m:=m) (vl:=bv a8) (vb:=bv H) (mode:=mode) (back:=back) rfl hH (by omega) (by rw[e7];decide);rw[e7]at T0;have S:=cA (t:=t) (mode:=mode) (pad:=pad) (md:=md) (op:=false) (back:=back) (k:=k) (xs:=xs) (iv:=iv) (a8:=a8) (st:=st) hm.2;obtain⟨ch,row,g⟩:=st;rcases row with _|⟨a,r⟩;all_goals
  refine eJ.c ?_;refine⟨_,rfl,?_⟩;refine⟨[],_,_,_,_,h.size,rfl,rfl,?_⟩;refine⟨[.k 0,.k 1,.k 2],_,_,_,_,S,rfl,rfl,?_⟩;refine b8 (fun h7=> ?_) (fun h7=>absurd hm.1 h7);refine⟨_,rfl,?_⟩;refine⟨_,rfl,?_⟩;refine⟨_,rfl,?_⟩;refine⟨_,rfl,?_⟩;refine⟨[],_,_,_,_,T0,rfl,rfl,?_⟩;refine⟨[],_,_,_,_,jP (e:=7) (by decide),rfl,rfl,?_⟩;exact⟨_,rfl,[.k 0,.k 1,.k 2],rfl,⟨_,rfl,rfl⟩,⟨_,rfl,rfl⟩,⟨_,rfl,rfl⟩,tq⟩
theorem HC {t key s k xs rs} (h:j5 t key s k xs rs) {mode pad md:Int} {back:Bool} {iv a8 H:Bs} {st:MS} {m:Nat} (hH:H.length=m) (hmb:m<=100000) (K:MK s md st) (hm:mode<=6) (h4:pad=4) (hg:m%l8 s md=0) (hne:0<m\/st.row=[]):
  a6 C 98 [.p (.k 0) 0,.z m (bv H)] [j8 false t mode pad back k xs iv .n a8,f8 (c9 t k xs) md back st 2,g9 st.row st.gone] (.ret (.z m (bv (j4 (cF t key false) (cF t key true) s md back st H).1)))
   [j8 false t mode pad back k xs iv .n (G8 s mode back H (j4 (cF t key false) (cF t key true) s md back st H).1 a8),f8 (c9 t k xs) md back (j4 (cF t key false) (cF t key true) s md back st H).2 3,.dead,g9 (j4 (cF t key false) (cF t key true) s md back st H).2.row (j4 (cF t key false) (cF t key true) s md back st H).2.gone]:=by
 have S:=cA (t:=t) (mode:=mode) (pad:=pad) (md:=md) (op:=false) (back:=back) (k:=k) (xs:=xs) (iv:=iv) (a8:=a8) (st:=st) (by omega);have TU:=oK h (op:=false) (back:=back) (pad:=pad) (iv:=iv) (a8:=a8) (b:=H) hH hmb K (mode:=mode) (by omega) hg hne;generalize j4 (cF t key false) (cF t key true) s md back st H=S0 at*
 obtain⟨o,c1,row1,g1⟩:=S0;obtain⟨ch,row,g⟩:=st;rcases row with _|⟨a,r⟩<;>rcases row1 with _|⟨a1,r1⟩;all_goals
  refine eJ.c ?_;refine⟨_,rfl,?_⟩;refine⟨[],_,_,_,_,h.size,rfl,rfl,?_⟩;refine⟨[.k 0,.k 1,.k 2],_,_,_,_,S,rfl,rfl,?_⟩;refine b8 (fun h7=>absurd h7 (by omega)) (fun h7=> ?_);refine⟨_,rfl,?_⟩;refine g8 (fun _=> ?_) (fun hh=>absurd h4 hh);refine⟨[.k 0,.k 1,.k 2],_,_,_,_,TU,rfl,rfl,?_⟩;exact⟨_,rfl,[.k 0,.k 1,.k 2,.d 53 3],rfl,⟨_,rfl,rfl⟩,⟨_,rfl,rfl⟩,⟨_,rfl,rfl⟩,⟨_,rfl,rfl⟩,tq⟩
theorem HD {t key s k xs rs} (h:j5 t key s k xs rs) {mode pad md:Int} {back:Bool} {iv a8 H:Bs} {st:MS} {m:Nat} (hm0:m=0) (h3:3<=md) (hm:mode<=6) (h4:pad=4):
  a6 C 98 [.p (.k 0) 0,.z m (bv H)] [j8 false t mode pad back k xs iv .n a8,f8 (c9 t k xs) md back st 2,g9 st.row st.gone] (.ret (.z 0 [])) [j8 false t mode pad back k xs iv .n a8,f8 (c9 t k xs) md back st 2,g9 st.row st.gone]:=by
 subst hm0;have S:=cA (t:=t) (mode:=mode) (pad:=pad) (md:=md) (op:=false) (back:=back) (k:=k) (xs:=xs) (iv:=iv) (a8:=a8) (st:=st) (by omega);have TU:=Ij h (op:=false) (back:=back) (pad:=pad) (iv:=iv) (a8:=a8) (mode:=mode) (st:=st) (vb:=bv H) h3 (by omega);obtain⟨ch,row,g⟩:=st;rcases row with _|⟨a,r⟩;all_goals
  refine eJ.c ?_;refine⟨_,rfl,?_⟩;refine⟨[],_,_,_,_,h.size,rfl,rfl,?_⟩;refine⟨[.k 0,.k 1,.k 2],_,_,_,_,S,rfl,rfl,?_⟩;refine b8 (fun h7=>absurd h7 (by omega)) (fun h7=> ?_);refine⟨_,rfl,?_⟩;refine g8 (fun _=> ?_) (fun hh=>absurd h4 hh);refine⟨[.k 0,.k 1,.k 2],_,_,_,_,TU,rfl,rfl,?_⟩;exact⟨_,rfl,[.k 0,.k 1,.k 2],rfl,⟨_,rfl,rfl⟩,⟨_,rfl,rfl⟩,⟨_,rfl,rfl⟩,tq⟩
theorem HF {t key s k xs rs} (h:j5 t key s k xs rs) {mode pad md:Int} {back:Bool} {iv a8 H:Bs} {st:MS} {m:Nat} (K:MK s md st) (hm:mode<=6) (h4:pad=4) (hg:m%l8 s md≠0):
  a6 C 98 [.p (.k 0) 0,.z m (bv H)] [j8 false t mode pad back k xs iv .n a8,f8 (c9 t k xs) md back st 2,g9 st.row st.gone] (.pan (.i U4 (i64 7))) [j8 false t mode pad back k xs iv .n a8,f8 (c9 t k xs) md back st 2,g9 st.row st.gone]:=by
 have S:=cA (t:=t) (mode:=mode) (pad:=pad) (md:=md) (op:=false) (back:=back) (k:=k) (xs:=xs) (iv:=iv) (a8:=a8) (st:=st) (by omega);have TU:=Il h (op:=false) (back:=back) (pad:=pad) (iv:=iv) (a8:=a8) (mode:=mode) (m:=m) (vb:=bv H) K hg;obtain⟨ch,row,g⟩:=st;rcases row with _|⟨a,r⟩;all_goals
  refine eJ.c ?_;refine⟨_,rfl,?_⟩;refine⟨[],_,_,_,_,h.size,rfl,rfl,?_⟩;refine⟨[.k 0,.k 1,.k 2],_,_,_,_,S,rfl,rfl,?_⟩;refine b8 (fun h7=>absurd h7 (by omega)) (fun h7=> ?_);refine⟨_,rfl,?_⟩;refine g8 (fun _=> ?_) (fun hh=>absurd h4 hh);refine⟨[.k 0,.k 1,.k 2],_,_,_,_,TU,rfl,rfl,?_⟩;exact⟨_,rfl,[.k 0,.k 1,.k 2],rfl,⟨_,rfl,rfl⟩,⟨_,rfl,rfl⟩,⟨_,rfl,rfl⟩,tq⟩
theorem HG {t key s k xs rs} (h:j5 t key s k xs rs) {mode pad md:Int} {back:Bool} {iv a8 H:Bs} {st:MS} {m:Nat} (hb:back=false) (hH:H.length=m) (hms:m<s) (K:MK s md st) (hm:mode<=6) (hp:pad=1\/pad=2\/pad=3) (hgr:l8 s md=s):
  a6 C 98 [.p (.k 0) 0,.z m (bv H)] [j8 false t mode pad back k xs iv .n a8,f8 (c9 t k xs) md back st 2,g9 st.row st.gone] (.ret (.z s (bv (j4 (cF t key false) (cF t key true) s md back st (H4 pad s H)).1)))
   [j8 false t mode pad back k xs iv .n (G8 s mode back (H4 pad s H) (j4 (cF t key false) (cF t key true) s md back st (H4 pad s H)).1 a8),f8 (c9 t k xs) md back (j4 (cF t key false) (cF t key true) s md back st (H4 pad s H)).2 3,.dead,g9 (j4 (cF t key false) (cF t key true) s md back st (H4 pad s H)).2.row (j4 (cF t key false) (cF t key true) s md back st (H4 pad s H)).2.gone]:=by
 subst hb;have hs:=h.s_le;have lp:(H4 pad s H).length=s:=kK (by omega);have PA:=JL (vt:=bv H) hp h.s_two rfl hH hms;have S:=cA (t:=t) (mode:=mode) (pad:=pad) (md:=md) (op:=false) (back:=false) (k:=k) (xs:=xs) (iv:=iv) (a8:=a8) (st:=st) (by omega);have TU:=oK h (op:=false) (back:=false) (pad:=pad) (iv:=iv) (a8:=a8) (b:=H4 pad s H) lp (by omega) K (mode:=mode) (by omega) (by rw[hgr,Zl]) (.inl (by omega));generalize H4 pad s H=P at*
 generalize j4 (cF t key false) (cF t key true) s md false st P=S0 at*
 obtain⟨o,c1,row1,g1⟩:=S0;obtain⟨ch,row,g⟩:=st;rcases row with _|⟨a,r⟩<;>rcases row1 with _|⟨a1,r1⟩;all_goals
  refine eJ.c ?_;refine⟨_,rfl,?_⟩;refine⟨[],_,_,_,_,h.size,rfl,rfl,?_⟩;refine⟨[.k 0,.k 1,.k 2],_,_,_,_,S,rfl,rfl,?_⟩;refine b8 (fun h7=>absurd h7 (by omega)) (fun h7=> ?_);refine⟨_,rfl,?_⟩;refine g8 (fun hh=>absurd hh (by omega)) (fun _=> ?_);refine⟨_,rfl,?_⟩;refine⟨_,rfl,?_⟩;refine⟨[],_,_,_,_,PA,rfl,rfl,?_⟩;refine⟨[],_,_,_,_,eB,rfl,rfl,?_⟩;refine⟨[.k 0,.k 1,.k 2],_,_,_,_,TU,?_,rfl,?_⟩
  ·exact congrArg (fun v=>[V.p (.k 0) 0,V.z s v]) (d7 lp)
  exact⟨_,rfl,[.k 0,.k 1,.k 2,.d 75 3],rfl,⟨_,rfl,rfl⟩,⟨_,rfl,rfl⟩,⟨_,rfl,rfl⟩,⟨_,rfl,rfl⟩,tq⟩
theorem Hx {t key s k xs rs} (h:j5 t key s k xs rs) {mode pad md:Int} {back:Bool} {iv a8 H:Bs} {st:MS} {m:Nat} (hb:back=true) (hH:H.length=m) (hmb:m<=100000) (hms:m≠s) (hm:mode<=6) (hp:pad=1\/pad=2\/pad=3):
  a6 C 98 [.p (.k 0) 0,.z m (bv H)] [j8 false t mode pad back k xs iv .n a8,f8 (c9 t k xs) md back st 2,g9 st.row st.gone] (.pan (.i U4 (i64 7))) [j8 false t mode pad back k xs iv .n a8,f8 (c9 t k xs) md back st 2,g9 st.row st.gone]:=by
 subst hb;have S:=cA (t:=t) (mode:=mode) (pad:=pad) (md:=md) (op:=false) (back:=true) (k:=k) (xs:=xs) (iv:=iv) (a8:=a8) (st:=st) (by omega);obtain⟨ch,row,g⟩:=st;rcases row with _|⟨a,r⟩;all_goals
  refine eJ.c ?_;refine⟨_,rfl,?_⟩;refine⟨[],_,_,_,_,h.size,rfl,rfl,?_⟩;refine⟨[.k 0,.k 1,.k 2],_,_,_,_,S,rfl,rfl,?_⟩;refine b8 (fun h7=>absurd h7 (by omega)) (fun h7=> ?_);refine⟨_,rfl,?_⟩;refine g8 (fun hh=>absurd hh (by omega)) (fun _=> ?_);refine⟨_,rfl,?_⟩;refine l5 (fun _=> ?_) (fun hh=>absurd hh (by omega));refine⟨[],_,_,_,_,jP (e:=7) (by decide),rfl,rfl,?_⟩;exact⟨_,rfl,[.k 0,.k 1,.k 2],rfl,⟨_,rfl,rfl⟩,⟨_,rfl,rfl⟩,⟨_,rfl,rfl⟩,tq⟩
theorem zI {s:Nat} {mode:Int} {back:Bool} {b o a8:Bs} (hm:mode<=6):G8 s mode back b o a8=a8:=by unfold G8;rw[if_neg (by omega)]
theorem Hy {t key s k xs rs} (h:j5 t key s k xs rs) {mode pad md:Int} {back:Bool} {iv a8 H:Bs} {st:MS} {m:Nat} (hb:back=true) (hH:H.length=s) (K:MK s md st) (hm:mode<=6) (hp:pad=1\/pad=2\/pad=3) (hgr:l8 s md=s) (h0:v5 pad (j4 (cF t key false) (cF t key true) s md back st H).1=0):
  a6 C 98 [.p (.k 0) 0,.z s (bv H)] [j8 false t mode pad back k xs iv .n a8,f8 (c9 t k xs) md back st 2,g9 st.row st.gone] (.pan (.i U4 (i64 8)))
   [j8 false t mode pad back k xs iv .n a8,f8 (c9 t k xs) md back (j4 (cF t key false) (cF t key true) s md back st H).2 3,.dead,g9 (j4 (cF t key false) (cF t key true) s md back st H).2.row (j4 (cF t key false) (cF t key true) s md back st H).2.gone]:=by
 subst hb;have hs:=h.s_le;have lo:(j4 (cF t key false) (cF t key true) s md true st H).1.length=s:=by rw[X8 h.ci K.ok (by rw[hH,hgr,Zl]),hH]
 have PA:=My (vb:=bv (j4 (cF t key false) (cF t key true) s md true st H).1) rfl hp h.s_two lo h0;have S:=cA (t:=t) (mode:=mode) (pad:=pad) (md:=md) (op:=false) (back:=true) (k:=k) (xs:=xs) (iv:=iv) (a8:=a8) (st:=st) (by omega);have TU:=oK h (op:=false) (back:=true) (pad:=pad) (iv:=iv) (a8:=a8) (b:=H) hH (by omega) K (mode:=mode) (by omega) (by rw[hgr,Zl]) (.inl (by omega));rw[zI hm]at TU;generalize j4 (cF t key false) (cF t key true) s md true st H=S0 at*
 obtain⟨o,c1,row1,g1⟩:=S0;obtain⟨ch,row,g⟩:=st;rcases row with _|⟨a,r⟩<;>rcases row1 with _|⟨a1,r1⟩;all_goals
  refine eJ.c ?_;refine⟨_,rfl,?_⟩;refine⟨[],_,_,_,_,h.size,rfl,rfl,?_⟩;refine⟨[.k 0,.k 1,.k 2],_,_,_,_,S,rfl,rfl,?_⟩;refine b8 (fun h7=>absurd h7 (by omega)) (fun h7=> ?_);refine⟨_,rfl,?_⟩;refine g8 (fun hh=>absurd hh (by omega)) (fun _=> ?_);refine⟨_,rfl,?_⟩;refine l5 (fun hh=>absurd rfl hh) (fun _=> ?_);refine⟨_,rfl,?_⟩;refine⟨[.k 0,.k 1,.k 2],_,_,_,_,TU,rfl,rfl,?_⟩;refine bH rfl ?_;refine bH (Q7 rfl rfl rfl) ?_;refine⟨[],_,_,_,_,PA,rfl,rfl,?_⟩;refine⟨[],_,_,_,_,jP (e:=8) (by decide),rfl,rfl,?_⟩;exact⟨_,rfl,[.k 0,.k 1,.k 2,.d 90 3],rfl,⟨_,rfl,rfl⟩,⟨_,rfl,rfl⟩,⟨_,rfl,rfl⟩,⟨_,rfl,rfl⟩,tq⟩
theorem Hz {t key s k xs rs} (h:j5 t key s k xs rs) {mode pad md:Int} {back:Bool} {iv a8 H:Bs} {st:MS} {m:Nat} (hb:back=true) (hH:H.length=s) (K:MK s md st) (hm:mode<=6) (hp:pad=1\/pad=2\/pad=3) (hgr:l8 s md=s) (h0:v5 pad (j4 (cF t key false) (cF t key true) s md back st H).1≠0):
  a6 C 98 [.p (.k 0) 0,.z s (bv H)] [j8 false t mode pad back k xs iv .n a8,f8 (c9 t k xs) md back st 2,g9 st.row st.gone] (.ret (.z (s-v5 pad (j4 (cF t key false) (cF t key true) s md back st H).1) (bv (R9 pad (j4 (cF t key false) (cF t key true) s md back st H).1))))
   [j8 false t mode pad back k xs iv .n a8,f8 (c9 t k xs) md back (j4 (cF t key false) (cF t key true) s md back st H).2 3,.dead,g9 (j4 (cF t key false) (cF t key true) s md back st H).2.row (j4 (cF t key false) (cF t key true) s md back st H).2.gone]:=by
 subst hb;have hs:=h.s_le;have lo:(j4 (cF t key false) (cF t key true) s md true st H).1.length=s:=by rw[X8 h.ci K.ok (by rw[hH,hgr,Zl]),hH]
 have PA:=Mx (vb:=bv (j4 (cF t key false) (cF t key true) s md true st H).1) rfl hp h.s_two lo h0;have S:=cA (t:=t) (mode:=mode) (pad:=pad) (md:=md) (op:=false) (back:=true) (k:=k) (xs:=xs) (iv:=iv) (a8:=a8) (st:=st) (by omega);have TU:=oK h (op:=false) (back:=true) (pad:=pad) (iv:=iv) (a8:=a8) (b:=H) hH (by omega) K (mode:=mode) (by omega) (by rw[hgr,Zl]) (.inl (by omega));rw[zI hm]at TU;generalize j4 (cF t key false) (cF t key true) s md true st H=S0 at*
 obtain⟨o,c1,row1,g1⟩:=S0;obtain⟨ch,row,g⟩:=st;rcases row with _|⟨a,r⟩<;>rcases row1 with _|⟨a1,r1⟩;all_goals
  refine eJ.c ?_;refine⟨_,rfl,?_⟩;refine⟨[],_,_,_,_,h.size,rfl,rfl,?_⟩;refine⟨[.k 0,.k 1,.k 2],_,_,_,_,S,rfl,rfl,?_⟩;refine b8 (fun h7=>absurd h7 (by omega)) (fun h7=> ?_);refine⟨_,rfl,?_⟩;refine g8 (fun hh=>absurd hh (by omega)) (fun _=> ?_);refine⟨_,rfl,?_⟩;refine l5 (fun hh=>absurd rfl hh) (fun _=> ?_);refine⟨_,rfl,?_⟩;refine⟨[.k 0,.k 1,.k 2],_,_,_,_,TU,rfl,rfl,?_⟩;refine bH rfl ?_;refine bH (Q7 rfl rfl rfl) ?_;refine⟨[],_,_,_,_,PA,rfl,rfl,?_⟩;refine⟨[],_,_,_,_,eB,rfl,rfl,?_⟩;exact⟨_,rfl,[.k 0,.k 1,.k 2,.d 90 3],rfl,⟨_,rfl,rfl⟩,⟨_,rfl,rfl⟩,⟨_,rfl,rfl⟩,⟨_,rfl,rfl⟩,tq⟩
theorem HR {t mode pad md:Int} {back:Bool} {k m n:Nat} {e:Int} {xs:List V} {iv a8 m8 H:Bs} {st st':MS} {x:HK} {vr:List Value} (hx:x= .n/\m=0/\H=[]\/x= .o H/\H.length=m)
  (E:a6 C 98 [.p (.k 0) 0,.z m (bv H)] [j8 false t mode pad back k xs iv .n a8,f8 (c9 t k xs) md back st 2,g9 st.row st.gone] (.ret (.z n vr)) [j8 false t mode pad back k xs iv .n m8,f8 (c9 t k xs) md back st' 3,.dead,g9 st'.row st'.gone]):
  a6 C 34 [.p (.k 0) 0] [j8 true t mode pad back k xs iv x a8,f8 (c9 t k xs) md back st 2,g9 st.row st.gone,x.b] (.ret (.t [.z n vr,i64 0])) [j8 false t mode pad back k xs iv .n m8,f8 (c9 t k xs) md back st' 4,.dead,.dead,g9 st'.row st'.gone]:=by
 have NE:=jH (t:=t) (mode:=mode) (pad:=pad) (md:=md) (back:=back) (k:=k) (xs:=xs) (iv:=iv) (a8:=a8) (st:=st) (x:=x);obtain⟨ch,row,g⟩:=st;obtain⟨ch1,row1,g1⟩:=st';rcases hx with ⟨rfl,rfl,rfl⟩|⟨rfl,hH⟩
 ·rcases row with _|⟨a,r⟩<;>rcases row1 with _|⟨a1,r1⟩;all_goals
   refine dy.d V2 ?_;refine⟨⟨[(0,.p (.k 0) 0),(2,.p (.k 4) 0),(3,.p (.k 5) 0)],[_,_,_,_,.sc [.slice none 0 0],.sc [.int .i64 0]]⟩,4,5,by decide,⟨[.k 0,.k 1,.k 2,.k 3,.d 2 0,.d 3 0],⟨rfl,rfl,rfl,tq⟩,⟨_,rfl,rfl⟩,⟨_,rfl,rfl⟩,⟨_,rfl,rfl⟩,⟨_,rfl,rfl⟩,⟨_,rfl,rfl⟩,⟨_,rfl,rfl⟩,tq⟩,rfl,rfl,rfl,?_⟩;refine⟨[.k 0,.k 1,.k 2,.k 3],_,_,_,_,NE,rfl,rfl,?_⟩;refine⟨_,rfl,?_⟩;refine⟨Za rfl,?_⟩;refine⟨Za rfl,?_⟩;refine⟨[.k 0,.k 1,.k 2],_,_,_,_,a6.args E (ys0:=[.p (.k 0) 0,d9]) (.cons (.refl _) (.cons .nl .nil)),rfl,rfl,?_⟩;refine⟨Za rfl,?_⟩;refine⟨Za rfl,?_⟩;refine⟨_,rfl,_,rfl,?_⟩;refine⟨_,_,?_,.ret (.refl _),q6.refl _⟩;exact⟨_,rfl,[.k 0,.k 1,.k 2,.k 3,.d 19 3],rfl,⟨_,rfl,rfl⟩,⟨_,rfl,rfl⟩,⟨_,rfl,rfl⟩,⟨_,rfl,rfl⟩,⟨_,rfl,rfl⟩,tq⟩
 ·rcases row with _|⟨a,r⟩<;>rcases row1 with _|⟨a1,r1⟩;all_goals
   refine dy.d V2 ?_;refine⟨⟨[(0,.p (.k 0) 0),(2,.p (.k 4) 0),(3,.p (.k 5) 0)],[_,_,_,_,.sc [.slice none 0 0],.sc [.int .i64 0]]⟩,4,5,by decide,⟨[.k 0,.k 1,.k 2,.k 3,.d 2 0,.d 3 0],⟨rfl,rfl,rfl,tq⟩,⟨_,rfl,rfl⟩,⟨_,rfl,rfl⟩,⟨_,rfl,rfl⟩,⟨_,rfl,rfl⟩,⟨_,rfl,rfl⟩,⟨_,rfl,rfl⟩,tq⟩,rfl,rfl,rfl,?_⟩;refine⟨[.k 0,.k 1,.k 2,.k 3],_,_,_,_,NE,rfl,rfl,?_⟩;refine⟨_,rfl,?_⟩;refine⟨Za rfl,?_⟩;refine⟨Za rfl,?_⟩;refine⟨[.k 0,.k 1,.k 2],_,_,_,_,E,?_,rfl,?_⟩
   ·show[V.p (.k 0) 0,V.z H.length (sub (bv H) 0 H.length)]=_;rw[d7 rfl,hH]
   refine⟨Za rfl,?_⟩;refine⟨Za rfl,?_⟩;refine⟨_,rfl,_,rfl,?_⟩;refine⟨_,_,?_,.ret (.refl _),q6.refl _⟩;exact⟨_,rfl,[.k 0,.k 1,.k 2,.k 3,.d 19 3],rfl,⟨_,rfl,rfl⟩,⟨_,rfl,rfl⟩,⟨_,rfl,rfl⟩,⟨_,rfl,rfl⟩,⟨_,rfl,rfl⟩,tq⟩
theorem HQ {t mode pad md:Int} {back:Bool} {k m n:Nat} {e:Int} {xs:List V} {iv a8 m8 H:Bs} {st st':MS} {x:HK} {vr:List Value} (hx:x= .n/\m=0/\H=[]\/x= .o H/\H.length=m)
  (E:a6 C 98 [.p (.k 0) 0,.z m (bv H)] [j8 false t mode pad back k xs iv .n a8,f8 (c9 t k xs) md back st 2,g9 st.row st.gone] (.pan (.i U4 (i64 e))) [j8 false t mode pad back k xs iv .n m8,f8 (c9 t k xs) md back st' 3,.dead,g9 st'.row st'.gone]):
  a6 C 34 [.p (.k 0) 0] [j8 true t mode pad back k xs iv x a8,f8 (c9 t k xs) md back st 2,g9 st.row st.gone,x.b] (.ret (.t [.z 0 [],i64 e])) [j8 false t mode pad back k xs iv .n m8,f8 (c9 t k xs) md back st' 4,.dead,.dead,g9 st'.row st'.gone]:=by
 have NE:=jH (t:=t) (mode:=mode) (pad:=pad) (md:=md) (back:=back) (k:=k) (xs:=xs) (iv:=iv) (a8:=a8) (st:=st) (x:=x);obtain⟨ch,row,g⟩:=st;obtain⟨ch1,row1,g1⟩:=st';rcases hx with ⟨rfl,rfl,rfl⟩|⟨rfl,hH⟩
 ·rcases row with _|⟨a,r⟩<;>rcases row1 with _|⟨a1,r1⟩;all_goals
   refine dy.d V2 ?_;refine⟨⟨[(0,.p (.k 0) 0),(2,.p (.k 4) 0),(3,.p (.k 5) 0)],[_,_,_,_,.sc [.slice none 0 0],.sc [.int .i64 0]]⟩,4,5,by decide,⟨[.k 0,.k 1,.k 2,.k 3,.d 2 0,.d 3 0],⟨rfl,rfl,rfl,tq⟩,⟨_,rfl,rfl⟩,⟨_,rfl,rfl⟩,⟨_,rfl,rfl⟩,⟨_,rfl,rfl⟩,⟨_,rfl,rfl⟩,⟨_,rfl,rfl⟩,tq⟩,rfl,rfl,rfl,?_⟩;refine⟨[.k 0,.k 1,.k 2,.k 3],_,_,_,_,NE,rfl,rfl,?_⟩;refine⟨_,rfl,?_⟩;refine⟨Za rfl,?_⟩;refine⟨Za rfl,?_⟩;refine⟨[.k 0,.k 1,.k 2],_,_,_,_,a6.args E (ys0:=[.p (.k 0) 0,d9]) (.cons (.refl _) (.cons .nl .nil)),rfl,rfl,?_⟩;refine⟨_,rfl,_,rfl,?_⟩;refine⟨_,_,?_,.ret (.t (.cons .nl (.cons (.refl _) .nil))),q6.refl _⟩;exact⟨_,rfl,[.k 0,.k 1,.k 2,.k 3,.d 19 3],rfl,⟨_,rfl,rfl⟩,⟨_,rfl,rfl⟩,⟨_,rfl,rfl⟩,⟨_,rfl,rfl⟩,⟨_,rfl,rfl⟩,tq⟩
 ·rcases row with _|⟨a,r⟩<;>rcases row1 with _|⟨a1,r1⟩;all_goals
   refine dy.d V2 ?_;refine⟨⟨[(0,.p (.k 0) 0),(2,.p (.k 4) 0),(3,.p (.k 5) 0)],[_,_,_,_,.sc [.slice none 0 0],.sc [.int .i64 0]]⟩,4,5,by decide,⟨[.k 0,.k 1,.k 2,.k 3,.d 2 0,.d 3 0],⟨rfl,rfl,rfl,tq⟩,⟨_,rfl,rfl⟩,⟨_,rfl,rfl⟩,⟨_,rfl,rfl⟩,⟨_,rfl,rfl⟩,⟨_,rfl,rfl⟩,⟨_,rfl,rfl⟩,tq⟩,rfl,rfl,rfl,?_⟩;refine⟨[.k 0,.k 1,.k 2,.k 3],_,_,_,_,NE,rfl,rfl,?_⟩;refine⟨_,rfl,?_⟩;refine⟨Za rfl,?_⟩;refine⟨Za rfl,?_⟩;refine⟨[.k 0,.k 1,.k 2],_,_,_,_,E,?_,rfl,?_⟩
   ·show[V.p (.k 0) 0,V.z H.length (sub (bv H) 0 H.length)]=_;rw[d7 rfl,hH]
   refine⟨_,rfl,_,rfl,?_⟩;refine⟨_,_,?_,.ret (.t (.cons .nl (.cons (.refl _) .nil))),q6.refl _⟩;exact⟨_,rfl,[.k 0,.k 1,.k 2,.k 3,.d 19 3],rfl,⟨_,rfl,rfl⟩,⟨_,rfl,rfl⟩,⟨_,rfl,rfl⟩,⟨_,rfl,rfl⟩,⟨_,rfl,rfl⟩,tq⟩
theorem HP {t mode pad md:Int} {back:Bool} {k m n:Nat} {e:Int} {xs:List V} {iv a8 m8 H:Bs} {st st':MS} {x:HK} {vr:List Value} (hx:x= .n/\m=0/\H=[]\/x= .o H/\H.length=m)
  (E:a6 C 98 [.p (.k 0) 0,.z m (bv H)] [j8 false t mode pad back k xs iv .n a8,f8 (c9 t k xs) md back st 2,g9 st.row st.gone] (.ret (.z n vr)) [j8 false t mode pad back k xs iv .n m8,f8 (c9 t k xs) md back st' 2,g9 st'.row st'.gone]):
  a6 C 34 [.p (.k 0) 0] [j8 true t mode pad back k xs iv x a8,f8 (c9 t k xs) md back st 2,g9 st.row st.gone,x.b] (.ret (.t [.z n vr,i64 0])) [j8 false t mode pad back k xs iv .n m8,f8 (c9 t k xs) md back st' 2,g9 st'.row st'.gone,.dead]:=by
 have NE:=jH (t:=t) (mode:=mode) (pad:=pad) (md:=md) (back:=back) (k:=k) (xs:=xs) (iv:=iv) (a8:=a8) (st:=st) (x:=x);obtain⟨ch,row,g⟩:=st;obtain⟨ch1,row1,g1⟩:=st';rcases hx with ⟨rfl,rfl,rfl⟩|⟨rfl,hH⟩
 ·rcases row with _|⟨a,r⟩<;>rcases row1 with _|⟨a1,r1⟩;all_goals
   refine dy.d V2 ?_;refine⟨⟨[(0,.p (.k 0) 0),(2,.p (.k 4) 0),(3,.p (.k 5) 0)],[_,_,_,_,.sc [.slice none 0 0],.sc [.int .i64 0]]⟩,4,5,by decide,⟨[.k 0,.k 1,.k 2,.k 3,.d 2 0,.d 3 0],⟨rfl,rfl,rfl,tq⟩,⟨_,rfl,rfl⟩,⟨_,rfl,rfl⟩,⟨_,rfl,rfl⟩,⟨_,rfl,rfl⟩,⟨_,rfl,rfl⟩,⟨_,rfl,rfl⟩,tq⟩,rfl,rfl,rfl,?_⟩;refine⟨[.k 0,.k 1,.k 2,.k 3],_,_,_,_,NE,rfl,rfl,?_⟩;refine⟨_,rfl,?_⟩;refine⟨Za rfl,?_⟩;refine⟨Za rfl,?_⟩;refine⟨[.k 0,.k 1,.k 2],_,_,_,_,a6.args E (ys0:=[.p (.k 0) 0,d9]) (.cons (.refl _) (.cons .nl .nil)),rfl,rfl,?_⟩;refine⟨Za rfl,?_⟩;refine⟨Za rfl,?_⟩;refine⟨_,rfl,_,rfl,?_⟩;refine⟨_,_,?_,.ret (.refl _),q6.refl _⟩;exact⟨_,rfl,[.k 0,.k 1,.k 2,.k 3],rfl,⟨_,rfl,rfl⟩,⟨_,rfl,rfl⟩,⟨_,rfl,rfl⟩,⟨_,rfl,rfl⟩,tq⟩
 ·rcases row with _|⟨a,r⟩<;>rcases row1 with _|⟨a1,r1⟩;all_goals
   refine dy.d V2 ?_;refine⟨⟨[(0,.p (.k 0) 0),(2,.p (.k 4) 0),(3,.p (.k 5) 0)],[_,_,_,_,.sc [.slice none 0 0],.sc [.int .i64 0]]⟩,4,5,by decide,⟨[.k 0,.k 1,.k 2,.k 3,.d 2 0,.d 3 0],⟨rfl,rfl,rfl,tq⟩,⟨_,rfl,rfl⟩,⟨_,rfl,rfl⟩,⟨_,rfl,rfl⟩,⟨_,rfl,rfl⟩,⟨_,rfl,rfl⟩,⟨_,rfl,rfl⟩,tq⟩,rfl,rfl,rfl,?_⟩;refine⟨[.k 0,.k 1,.k 2,.k 3],_,_,_,_,NE,rfl,rfl,?_⟩;refine⟨_,rfl,?_⟩;refine⟨Za rfl,?_⟩;refine⟨Za rfl,?_⟩;refine⟨[.k 0,.k 1,.k 2],_,_,_,_,E,?_,rfl,?_⟩
   ·show[V.p (.k 0) 0,V.z H.length (sub (bv H) 0 H.length)]=_;rw[d7 rfl,hH]
   refine⟨Za rfl,?_⟩;refine⟨Za rfl,?_⟩;refine⟨_,rfl,_,rfl,?_⟩;refine⟨_,_,?_,.ret (.refl _),q6.refl _⟩;exact⟨_,rfl,[.k 0,.k 1,.k 2,.k 3],rfl,⟨_,rfl,rfl⟩,⟨_,rfl,rfl⟩,⟨_,rfl,rfl⟩,⟨_,rfl,rfl⟩,tq⟩
theorem HM {t mode pad md:Int} {back:Bool} {k m n:Nat} {e:Int} {xs:List V} {iv a8 m8 H:Bs} {st st':MS} {x:HK} {vr:List Value} (hx:x= .n/\m=0/\H=[]\/x= .o H/\H.length=m)
  (E:a6 C 98 [.p (.k 0) 0,.z m (bv H)] [j8 false t mode pad back k xs iv .n a8,f8 (c9 t k xs) md back st 2,g9 st.row st.gone] (.pan (.i U4 (i64 e))) [j8 false t mode pad back k xs iv .n m8,f8 (c9 t k xs) md back st' 2,g9 st'.row st'.gone]):
  a6 C 34 [.p (.k 0) 0] [j8 true t mode pad back k xs iv x a8,f8 (c9 t k xs) md back st 2,g9 st.row st.gone,x.b] (.ret (.t [.z 0 [],i64 e])) [j8 false t mode pad back k xs iv .n m8,f8 (c9 t k xs) md back st' 2,g9 st'.row st'.gone,.dead]:=by
 have NE:=jH (t:=t) (mode:=mode) (pad:=pad) (md:=md) (back:=back) (k:=k) (xs:=xs) (iv:=iv) (a8:=a8) (st:=st) (x:=x);obtain⟨ch,row,g⟩:=st;obtain⟨ch1,row1,g1⟩:=st';rcases hx with ⟨rfl,rfl,rfl⟩|⟨rfl,hH⟩
 ·rcases row with _|⟨a,r⟩<;>rcases row1 with _|⟨a1,r1⟩;all_goals
   refine dy.d V2 ?_;refine⟨⟨[(0,.p (.k 0) 0),(2,.p (.k 4) 0),(3,.p (.k 5) 0)],[_,_,_,_,.sc [.slice none 0 0],.sc [.int .i64 0]]⟩,4,5,by decide,⟨[.k 0,.k 1,.k 2,.k 3,.d 2 0,.d 3 0],⟨rfl,rfl,rfl,tq⟩,⟨_,rfl,rfl⟩,⟨_,rfl,rfl⟩,⟨_,rfl,rfl⟩,⟨_,rfl,rfl⟩,⟨_,rfl,rfl⟩,⟨_,rfl,rfl⟩,tq⟩,rfl,rfl,rfl,?_⟩;refine⟨[.k 0,.k 1,.k 2,.k 3],_,_,_,_,NE,rfl,rfl,?_⟩;refine⟨_,rfl,?_⟩;refine⟨Za rfl,?_⟩;refine⟨Za rfl,?_⟩;refine⟨[.k 0,.k 1,.k 2],_,_,_,_,a6.args E (ys0:=[.p (.k 0) 0,d9]) (.cons (.refl _) (.cons .nl .nil)),rfl,rfl,?_⟩;refine⟨_,rfl,_,rfl,?_⟩;refine⟨_,_,?_,.ret (.t (.cons .nl (.cons (.refl _) .nil))),q6.refl _⟩;exact⟨_,rfl,[.k 0,.k 1,.k 2,.k 3],rfl,⟨_,rfl,rfl⟩,⟨_,rfl,rfl⟩,⟨_,rfl,rfl⟩,⟨_,rfl,rfl⟩,tq⟩
 ·rcases row with _|⟨a,r⟩<;>rcases row1 with _|⟨a1,r1⟩;all_goals
   refine dy.d V2 ?_;refine⟨⟨[(0,.p (.k 0) 0),(2,.p (.k 4) 0),(3,.p (.k 5) 0)],[_,_,_,_,.sc [.slice none 0 0],.sc [.int .i64 0]]⟩,4,5,by decide,⟨[.k 0,.k 1,.k 2,.k 3,.d 2 0,.d 3 0],⟨rfl,rfl,rfl,tq⟩,⟨_,rfl,rfl⟩,⟨_,rfl,rfl⟩,⟨_,rfl,rfl⟩,⟨_,rfl,rfl⟩,⟨_,rfl,rfl⟩,⟨_,rfl,rfl⟩,tq⟩,rfl,rfl,rfl,?_⟩;refine⟨[.k 0,.k 1,.k 2,.k 3],_,_,_,_,NE,rfl,rfl,?_⟩;refine⟨_,rfl,?_⟩;refine⟨Za rfl,?_⟩;refine⟨Za rfl,?_⟩;refine⟨[.k 0,.k 1,.k 2],_,_,_,_,E,?_,rfl,?_⟩
   ·show[V.p (.k 0) 0,V.z H.length (sub (bv H) 0 H.length)]=_;rw[d7 rfl,hH]
   refine⟨_,rfl,_,rfl,?_⟩;refine⟨_,_,?_,.ret (.t (.cons .nl (.cons (.refl _) .nil))),q6.refl _⟩;exact⟨_,rfl,[.k 0,.k 1,.k 2,.k 3],rfl,⟨_,rfl,rfl⟩,⟨_,rfl,rfl⟩,⟨_,rfl,rfl⟩,⟨_,rfl,rfl⟩,tq⟩
abbrev cS (t:Int) (key:Bs) (s:Nat) (mode pad:Int) (back:Bool) (iv M:Bs):MS:=(B5 (cF t key false) (cF t key true) s mode pad back iv M).2
abbrev cT (t:Int) (key:Bs) (s:Nat) (mode pad:Int) (back:Bool) (iv M:Bs):Bs:=(B5 (cF t key false) (cF t key true) s mode pad back iv M).1
abbrev cL (t:Int) (key:Bs) (s:Nat) (mode pad:Int) (back:Bool) (iv M:Bs):Bs:=dt (cF t key false) (cF t key true) s mode pad back iv M
theorem xZ {t key s k xs rs} (h:j5 t key s k xs rs) {mode pad:Int} {back:Bool} {iv M:Bs} (ok:A2 s mode pad iv):MK s (i9 mode) (cS t key s mode pad back iv M):=by
 have hs:=h.s_le;have K0:MK s (i9 mode) ⟨iv,[],[]⟩:=MK.new (bJ ok).1 (by
  have:=(bJ ok).2;by_cases h1:i9 mode=1
  ·exact .inl h1
  ·rw[if_neg h1]at this;exact .inr this)
 exact K0.step h.ci (by omega)
theorem GJ {t key s k xs rs} (h:j5 t key s k xs rs) {mode pad:Int} {back:Bool} {iv M:Bs} (ok:A2 s mode pad iv) (h7:7<=mode):(cL t key s mode pad back iv M).length=s:=by
 have hs:=h.s_le;have hT:=iE (back:=back) (M:=M) h.ci (by omega) ok;obtain⟨f1,f2⟩:=bI (back:=back) (by omega) ok M.length;have lt:(M.take (p6 s mode pad back M.length)).length=p6 s mode pad back M.length:=by rw[Zf];omega
 unfold cL dt G8;rw[lt];by_cases hn:s<=p6 s mode pad back M.length
 ·rw[if_pos ⟨h7,hn⟩,Zh];split
  ·rw[lt];omega
  ·rw[hT];omega
 ·rw[if_neg (fun hh=>hn hh.2)];have:=ok.2.2.2;rw[if_neg (by omega)]at this;exact this
theorem sJ {t key s} {mode pad:Int} {back:Bool} {iv:Bs} (hs:0<s) (ok:A2 s mode pad iv):B5 (cF t key false) (cF t key true) s mode pad back iv []=([],⟨iv,[],[]⟩):=by
 unfold B5;rw[Jg,ql]
theorem jF {t key s} {mode pad:Int} {back:Bool} {iv:Bs} (hs:0<s) (ok:A2 s mode pad iv):cS t key s mode pad back iv []=⟨iv,[],[]⟩:=congrArg Prod.snd (sJ hs ok)
theorem oD {t key s} {mode pad:Int} {back:Bool} {iv:Bs} (hs:0<s) (ok:A2 s mode pad iv):cL t key s mode pad back iv []=iv:=by
 unfold cL dt G8;rw[Jg,if_neg (by simp;omega)]
theorem pe {s:Nat} {mode pad:Int} {back:Bool}:m5 s mode pad back []=[]:=by unfold m5;rw[List.drop_nil]
theorem tN {t key s k xs rs} (h:j5 t key s k xs rs) {mode pad:Int} {back:Bool} {iv M b:Bs} {m:Nat} {x:HK} (ok:A2 s mode pad iv) (hx:x= .n/\m5 s mode pad back M=[]\/x= .o (m5 s mode pad back M)) (hb:b.length=m) (hL:M.length+m<=100000):
  ∃(n:Nat) (o:Bs),o.length=n/\p6 s mode pad back (M++b).length=p6 s mode pad back M.length+n/\cT t key s mode pad back iv (M++b)=cT t key s mode pad back iv M++o/\
  (a6 C 33 [.p (.k 0) 0,.z m (bv b)] [j8 true t mode pad back k xs iv x (cL t key s mode pad back iv M),f8 (c9 t k xs) (i9 mode) back (cS t key s mode pad back iv M) 2,g9 (cS t key s mode pad back iv M).row (cS t key s mode pad back iv M).gone,x.b]
   (.ret (.t [.z n (bv o),i64 0]))
   [m6 true true t mode pad back (c9 t k xs) (.z iv.length (bv iv)) (.p (.k 1) 0) (.o 1 (.k 5) 0 (m5 s mode pad back (M++b)).length) (.z (cL t key s mode pad back iv (M++b)).length (bv (cL t key s mode pad back iv (M++b)))),
    f8 (c9 t k xs) (i9 mode) back (cS t key s mode pad back iv (M++b)) 4,.dead,.dead,g9 (cS t key s mode pad back iv (M++b)).row (cS t key s mode pad back iv (M++b)).gone,.sc (bv (m5 s mode pad back (M++b)))]\/
   (cS t key s mode pad back iv M).row≠[]/\a6 C 33 [.p (.k 0) 0,.z m (bv b)] [j8 true t mode pad back k xs iv x (cL t key s mode pad back iv M),f8 (c9 t k xs) (i9 mode) back (cS t key s mode pad back iv M) 2,g9 (cS t key s mode pad back iv M).row (cS t key s mode pad back iv M).gone,x.b]
   (.ret (.t [.z n (bv o),i64 0]))
   [m6 true true t mode pad back (c9 t k xs) (.z iv.length (bv iv)) (.p (.k 1) 0) (.o 1 (.k 4) 0 (m5 s mode pad back (M++b)).length) (.z (cL t key s mode pad back iv (M++b)).length (bv (cL t key s mode pad back iv (M++b)))),
    f8 (c9 t k xs) (i9 mode) back (cS t key s mode pad back iv (M++b)) 2,g9 (cS t key s mode pad back iv (M++b)).row (cS t key s mode pad back iv (M++b)).gone,.dead,.sc (bv (m5 s mode pad back (M++b)))]):=by
 have hs:=h.s_le;have K:=xZ h (back:=back) (M:=M) ok;have hm9:mode<=9:=ok.1.2;have hxl:x.l=m5 s mode pad back M:=by
  rcases hx with ⟨rfl,e⟩|rfl
  ·exact e.symm
  ·rfl
 have hxo:x= .n\/∃H,x= .o H:=by
  rcases hx with ⟨rfl,e⟩|rfl
  ·exact .inl rfl
  ·exact .inr ⟨_,rfl⟩
 obtain⟨a,ha⟩:∃a,a=p6 s mode pad back ((m5 s mode pad back M).length+b.length):=⟨_,rfl⟩;obtain⟨u1,u2,u3⟩:=NQ (E:=cF t key false) (D:=cF t key true) (iv:=iv) (M:=M) (b:=b) h.ci (by omega) ok ha;have hF:p6 s mode pad back (M++b).length=p6 s mode pad back M.length+a:=by
  rw[Zb,tJ (by omega) ok,ha,fI]
 obtain⟨f1,f2⟩:=bI (back:=back) (by omega) ok ((m5 s mode pad back M).length+b.length);rw[<-ha]at f1 f2;have hHl:=fI (n:=s) (mode:=mode) (pad:=pad) (back:=back) M;have l0:((m5 s mode pad back M++b).take a).length=a:=by rw[Zf,Zb];omega
 have lo:(j4 (cF t key false) (cF t key true) s (i9 mode) back (cS t key s mode pad back iv M) ((m5 s mode pad back M++b).take a)).1.length=a:=by
  rw[X8 h.ci K.ok (by rw[l0];exact f2),l0]
 have eH:(m5 s mode pad back M).length+m-a=(m5 s mode pad back (M++b)).length:=by rw[<-u3,Zh,Zb,hb]
 refine⟨a,(j4 (cF t key false) (cF t key true) s (i9 mode) back (cS t key s mode pad back iv M) ((m5 s mode pad back M++b).take a)).1,lo,hF,by rw[show cT t key s mode pad back iv (M++b)=(B5 (cF t key false) (cF t key true) s mode pad back iv (M++b)).1 from rfl,u1],?_⟩;have e1:cS t key s mode pad back iv (M++b)=(j4 (cF t key false) (cF t key true) s (i9 mode) back (cS t key s mode pad back iv M) ((m5 s mode pad back M++b).take a)).2:=by
  rw[show cS t key s mode pad back iv (M++b)=(B5 (cF t key false) (cF t key true) s mode pad back iv (M++b)).2 from rfl,u1]
 rw[e1,show cL t key s mode pad back iv (M++b)=dt (cF t key false) (cF t key true) s mode pad back iv (M++b) from rfl,<-u2,<-u3];by_cases hne:0<a\/(cS t key s mode pad back iv M).row=[]
 ·left;have:=Im h (mode:=mode) (pad:=pad) (back:=back) (iv:=iv) (a8:=cL t key s mode pad back iv M) (st:=cS t key s mode pad back iv M) (x:=x) (L:=(m5 s mode pad back M).length+m) (at':=a) hxo hb (by rw[hxl]) (by omega) K hm9 rfl (by rw[ha,hb];rfl) hne;rw[hxl]at this;rw[Zh,Zb,hb];exact this
 ·right;have hrow:(cS t key s mode pad back iv M).row≠[]:=fun hh=>hne (.inr hh);have h3:3<=i9 mode:=by
   have h1:=K.ok.m;rcases Nat.lt_or_ge 0 1 with _|_
   ·by_cases h2:3<=i9 mode
    ·exact h2
    ·exact absurd (K.ok.blk (by omega)) hrow
   ·omega
  have g1:l8 s (i9 mode)=1:=if_neg (by omega);have a0:a=0:=by omega
  have hL0:(m5 s mode pad back M).length+m=0:=by
   have hz:p6 s mode pad back ((m5 s mode pad back M).length+b.length)=(m5 s mode pad back M).length+b.length:=by
    unfold p6 A5 B1;rw[g1,if_pos h3];simp
   rw[<-ha,hb]at hz;omega
  have:=Ip h (mode:=mode) (pad:=pad) (back:=back) (iv:=iv) (a8:=cL t key s mode pad back iv M) (st:=cS t key s mode pad back iv M) (x:=x) (L:=(m5 s mode pad back M).length+m) (at':=a) hxo hb (by rw[hxl]) hL0 h3 K hm9 rfl (by rw[ha,hb];rfl);have hHb:m5 s mode pad back M++b=[]:=Ze (by rw[Zb,hb];exact hL0);subst a0;rw[hHb,Jg,ql,List.drop_nil];have eL:G8 s mode back [] [] (cL t key s mode pad back iv M)=cL t key s mode pad back iv M:=by unfold G8;rw[if_neg (by simp;omega)]
  rw[eL];exact⟨hrow,this⟩
abbrev C6 (t mode pad:Int) (back:Bool) (k:Nat) (xs:List V) (iv a8:Bs):B:=m6 true false t mode pad back (c9 t k xs) (.z iv.length (bv iv)) (.p (.k 1) 0) d9 (.z a8.length (bv a8))
theorem HV {t mode pad:Int} {back:Bool} {k:Nat} {xs:List V} {iv a8:Bs}:a6 C 40 [.p (.k 0) 0] [C6 t mode pad back k xs iv a8,.dead] (.ret (i64 0)) [C6 t mode pad back k xs iv a8,.dead]:=by
 refine uh.c ?_;refine⟨_,rfl,?_⟩;exact⟨_,rfl,[.k 0,.k 1],rfl,⟨_,rfl,rfl⟩,⟨_,rfl,rfl⟩,tq⟩
theorem yp {t mode pad:Int} {back:Bool} {k:Nat} {xs:List V} {iv a8:Bs}:a6 C 94 [.p (.k 0) 0] [C6 t mode pad back k xs iv a8,.dead] (.pan (.i U4 (i64 6))) [C6 t mode pad back k xs iv a8,.dead]:=by
 refine uk.c ?_;refine⟨_,rfl,?_⟩;refine⟨[],_,_,_,_,jP (e:=6) (by decide),rfl,rfl,?_⟩;exact⟨_,rfl,[.k 0,.k 1],rfl,⟨_,rfl,rfl⟩,⟨_,rfl,rfl⟩,tq⟩
theorem Iq {t mode pad:Int} {back:Bool} {k m:Nat} {xs:List V} {iv a8:Bs} {vb:List Value}:a6 C 33 [.p (.k 0) 0,.z m vb] [C6 t mode pad back k xs iv a8,.dead] (.ret (.t [.z 0 [],i64 6])) [C6 t mode pad back k xs iv a8,.dead]:=by
 refine kb.d V2 ?_;refine⟨⟨[(0,.p (.k 0) 0),(1,.z m vb),(4,.p (.k 2) 0),(5,.p (.k 3) 0)],[_,_,.sc [.slice none 0 0],.sc [.int .i64 0]]⟩,2,3,by decide,⟨[.k 0,.k 1,.d 4 0,.d 5 0],⟨rfl,rfl,rfl,rfl,tq⟩,⟨_,rfl,rfl⟩,⟨_,rfl,rfl⟩,⟨_,rfl,rfl⟩,⟨_,rfl,rfl⟩,tq⟩,rfl,rfl,rfl,?_⟩;refine⟨0,Unit,fun _=>⟨[],[]⟩,fun _=>False,fun _=>0,?_,fun _ h=>h.elim⟩;refine⟨[.k 0,.k 1],_,_,_,_,yp,rfl,rfl,?_⟩;refine⟨_,rfl,_,rfl,?_⟩;refine⟨_,_,?_,.ret (.t (.cons .nl (.cons (.refl _) .nil))),q6.refl _⟩;exact⟨_,rfl,[.k 0,.k 1],rfl,⟨_,rfl,rfl⟩,⟨_,rfl,rfl⟩,tq⟩
theorem HJ {t mode pad:Int} {back:Bool} {k:Nat} {xs:List V} {iv a8:Bs}:a6 C 34 [.p (.k 0) 0] [C6 t mode pad back k xs iv a8,.dead] (.ret (.t [.z 0 [],i64 6])) [C6 t mode pad back k xs iv a8,.dead]:=by
 refine dy.d V2 ?_;refine⟨⟨[(0,.p (.k 0) 0),(2,.p (.k 2) 0),(3,.p (.k 3) 0)],[_,_,.sc [.slice none 0 0],.sc [.int .i64 0]]⟩,2,3,by decide,⟨[.k 0,.k 1,.d 2 0,.d 3 0],⟨rfl,rfl,rfl,tq⟩,⟨_,rfl,rfl⟩,⟨_,rfl,rfl⟩,⟨_,rfl,rfl⟩,⟨_,rfl,rfl⟩,tq⟩,rfl,rfl,rfl,?_⟩;refine⟨[.k 0,.k 1],_,_,_,_,yp,rfl,rfl,?_⟩;refine⟨_,rfl,_,rfl,?_⟩;refine⟨_,_,?_,.ret (.t (.cons .nl (.cons (.refl _) .nil))),q6.refl _⟩;exact⟨_,rfl,[.k 0,.k 1],rfl,⟨_,rfl,rfl⟩,⟨_,rfl,rfl⟩,tq⟩
theorem mE {t key s k xs rs} (h:j5 t key s k xs rs) {mode pad:Int} {back:Bool} {iv M:Bs} {x:HK} {r:Bs×Int} (ok:A2 s mode pad iv) (hx:x= .n/\m5 s mode pad back M=[]\/x= .o (m5 s mode pad back M)) (hL:M.length<=100000)
  (hr:r=iD (cF t key false) (cF t key true) s mode pad back (cS t key s mode pad back iv M) (cL t key s mode pad back iv M) (m5 s mode pad back M)):
  r.1.length<=2*s/\∃m8,a6 C 34 [.p (.k 0) 0] [j8 true t mode pad back k xs iv x (cL t key s mode pad back iv M),f8 (c9 t k xs) (i9 mode) back (cS t key s mode pad back iv M) 2,g9 (cS t key s mode pad back iv M).row (cS t key s mode pad back iv M).gone,x.b]
   (.ret (.t [.z r.1.length (bv r.1),i64 r.2])) [C6 t mode pad back k xs iv m8,.dead,.dead,.dead,.dead]:=by
 have hs:=h.s_le;have K:=xZ h (back:=back) (M:=M) ok;have hl:=GJ h (back:=back) (M:=M) ok;obtain⟨f1,f2⟩:=bI (back:=back) (by omega) ok M.length;have hHl:=fI (n:=s) (mode:=mode) (pad:=pad) (back:=back) M;obtain⟨g0,g1,g2⟩:=jT (back:=back) (by omega) ok;have hmost:(m5 s mode pad back M).length<=B1 s (i9 mode) mode pad back:=by
  rw[hHl];refine Zk fun hh=> ?_;have:=(aP (most:=B1 s (i9 mode) mode pad back) (L:=M.length) (i:=A5 (l8 s (i9 mode)) (B1 s (i9 mode) mode pad back) M.length) g0).2 (by show _+p6 s mode pad back M.length<_;omega);exact absurd this (Z8 _)
 have hHb:(m5 s mode pad back M).length<=100000:=by omega
 generalize hSt:cS t key s mode pad back iv M=st at*
 generalize hLa:cL t key s mode pad back iv M=a8 at*
 generalize m5 s mode pad back M=H at*
 have hx':x= .n/\H.length=0/\H=[]\/x= .o H/\H.length=H.length:=by
  rcases hx with ⟨e1,e2⟩|e1
  ·exact .inl ⟨e1,by rw[e2];rfl,e2⟩
  ·exact .inr ⟨e1,rfl⟩
 have fT:∀{n} {vr:List Value} {m8 st'},a6 C 98 [.p (.k 0) 0,.z H.length (bv H)] [j8 false t mode pad back k xs iv .n a8,f8 (c9 t k xs) (i9 mode) back st 2,g9 st.row st.gone] (.ret (.z n vr)) [j8 false t mode pad back k xs iv .n m8,f8 (c9 t k xs) (i9 mode) back st' 3,.dead,g9 st'.row st'.gone]->
   ∃m8,a6 C 34 [.p (.k 0) 0] [j8 true t mode pad back k xs iv x a8,f8 (c9 t k xs) (i9 mode) back st 2,g9 st.row st.gone,x.b] (.ret (.t [.z n vr,i64 0])) [C6 t mode pad back k xs iv m8,.dead,.dead,.dead,.dead]:=
  fun E=>⟨_,(HR (e:=0) hx' E).fg (.keep (.drop (.drop (.drop (.drop .nil)))))⟩
 have fTp:∀{e m8 st'},a6 C 98 [.p (.k 0) 0,.z H.length (bv H)] [j8 false t mode pad back k xs iv .n a8,f8 (c9 t k xs) (i9 mode) back st 2,g9 st.row st.gone] (.pan (.i U4 (i64 e))) [j8 false t mode pad back k xs iv .n m8,f8 (c9 t k xs) (i9 mode) back st' 3,.dead,g9 st'.row st'.gone]->
   ∃m8,a6 C 34 [.p (.k 0) 0] [j8 true t mode pad back k xs iv x a8,f8 (c9 t k xs) (i9 mode) back st 2,g9 st.row st.gone,x.b] (.ret (.t [.z 0 [],i64 e])) [C6 t mode pad back k xs iv m8,.dead,.dead,.dead,.dead]:=
  fun E=>⟨_,(HQ (n:=0) (vr:=[]) hx' E).fg (.keep (.drop (.drop (.drop (.drop .nil)))))⟩
 have fN:∀{n} {vr:List Value} {m8 st'},a6 C 98 [.p (.k 0) 0,.z H.length (bv H)] [j8 false t mode pad back k xs iv .n a8,f8 (c9 t k xs) (i9 mode) back st 2,g9 st.row st.gone] (.ret (.z n vr)) [j8 false t mode pad back k xs iv .n m8,f8 (c9 t k xs) (i9 mode) back st' 2,g9 st'.row st'.gone]->
   ∃m8,a6 C 34 [.p (.k 0) 0] [j8 true t mode pad back k xs iv x a8,f8 (c9 t k xs) (i9 mode) back st 2,g9 st.row st.gone,x.b] (.ret (.t [.z n vr,i64 0])) [C6 t mode pad back k xs iv m8,.dead,.dead,.dead,.dead]:=
  fun E=>⟨_,(HP (e:=0) hx' E).fg (.keep (.drop (.drop (.drop (.dd .nil)))))⟩
 have fNp:∀{e m8 st'},a6 C 98 [.p (.k 0) 0,.z H.length (bv H)] [j8 false t mode pad back k xs iv .n a8,f8 (c9 t k xs) (i9 mode) back st 2,g9 st.row st.gone] (.pan (.i U4 (i64 e))) [j8 false t mode pad back k xs iv .n m8,f8 (c9 t k xs) (i9 mode) back st' 2,g9 st'.row st'.gone]->
   ∃m8,a6 C 34 [.p (.k 0) 0] [j8 true t mode pad back k xs iv x a8,f8 (c9 t k xs) (i9 mode) back st 2,g9 st.row st.gone,x.b] (.ret (.t [.z 0 [],i64 e])) [C6 t mode pad back k xs iv m8,.dead,.dead,.dead,.dead]:=
  fun E=>⟨_,(HM (n:=0) (vr:=[]) hx' E).fg (.keep (.drop (.drop (.drop (.dd .nil)))))⟩
 unfold iD at hr;by_cases h7:7<=mode
 ·have e2:i9 mode=2:=if_pos h7;have hmo:H.length<=2*s:=by unfold B1 at hmost;rw[e2,if_neg (by decide),if_pos h7]at hmost;exact hmost
  rw[if_pos h7]at hr;by_cases hsm:H.length<s
  ·rw[if_pos hsm]at hr;subst hr;exact⟨Zg _,fNp (HI h (hl h7) rfl ⟨h7,ok.1.2⟩ hsm)⟩
  ·rw[if_neg hsm]at hr;subst hr;have ll:(M2 (cF t key false) (cF t key true) s mode back a8 H).length=H.length:=stT_len h.ci (hl h7) (by omega) hmo;refine⟨by show(M2 (cF t key false) (cF t key true) s mode back a8 H).length<=_;rw[ll];exact hmo,?_⟩;have:=fN (HH h (pad:=pad) (md:=i9 mode) (back:=back) (iv:=iv) (st:=st) (hl h7) rfl ⟨h7,ok.1.2⟩ (by omega) hmo);rw[<-ll]at this;exact this
 ·have e2:i9 mode=mode:=if_neg h7;rw[if_neg h7]at hr;by_cases h4:pad=4
  ·rw[if_pos h4]at hr;by_cases hz:H.length%l8 s (i9 mode)=0
   ·rw[if_pos hz]at hr;have lo:(j4 (cF t key false) (cF t key true) s (i9 mode) back st H).1.length=H.length:=X8 h.ci K.ok hz;have hb2:H.length<=2*s:=by
     unfold B1 at hmost;rw[if_neg h7]at hmost;split at hmost
     ·omega
     ·split at hmost<;>omega
    subst hr;refine⟨by show(j4 (cF t key false) (cF t key true) s (i9 mode) back st H).1.length<=_;rw[lo];exact hb2,?_⟩;by_cases hne:0<H.length\/st.row=[]
    ·have:=fT (HC h (mode:=mode) (pad:=pad) (back:=back) (iv:=iv) (a8:=a8) rfl hHb K (by omega) h4 hz hne);rw[<-lo]at this;rw[lo]at this ⊢;exact this
    ·have hrow:st.row≠[]:=fun hh=>hne (.inr hh);have h3:3<=i9 mode:=by
      have h1:=K.ok.m;by_cases h2:3<=i9 mode
      ·exact h2
      ·exact absurd (K.ok.blk (by omega)) hrow
     have h0:H.length=0:=by omega
     have:=fN (HD h (H:=H) (mode:=mode) (pad:=pad) (back:=back) (iv:=iv) (a8:=a8) (st:=st) h0 h3 (by omega) h4);obtain rfl:=Ze h0;rw[ql];exact this
   ·rw[if_neg hz]at hr;subst hr;exact⟨Zg _,fNp (HF h K (by omega) h4 hz)⟩
  ·have hm2:mode<=2:=ok.2.2.1.resolve_left h4;have hp:pad=1\/pad=2\/pad=3:=by have:=ok.2.1;omega
   have gn:l8 s (i9 mode)=s:=if_pos (by have:=ok.1;omega);rw[if_neg h4]at hr;have hmo:H.length<=(if back=true then s else s-1):=by
    unfold B1 at hmost;rw[if_neg (by omega),if_neg h7]at hmost;cases back
    ·rw[if_neg (by simp)]at hmost;exact hmost
    ·rw[if_pos ⟨h4,rfl⟩]at hmost;exact hmost
   cases back
   ·rw[if_pos rfl]at hr;rw[if_neg (by decide)]at hmo;have lp:(H4 pad s H).length=s:=kK (by omega);have lo:(j4 (cF t key false) (cF t key true) s (i9 mode) false st (H4 pad s H)).1.length=s:=by rw[X8 h.ci K.ok (by rw[lp,gn,Zl]),lp]
    subst hr;refine⟨by show(j4 (cF t key false) (cF t key true) s (i9 mode) false st (H4 pad s H)).1.length<=_;rw[lo];omega,?_⟩;have:=fT (HG h (m:=H.length) (mode:=mode) (pad:=pad) (back:=false) (iv:=iv) (a8:=a8) rfl rfl (by omega) K (by omega) hp gn);rw[<-lo]at this;rw[lo]at this ⊢;exact this
   ·rw[if_neg (by decide)]at hr;by_cases hsz:H.length=s
    ·rw[if_pos hsz]at hr;have lo:(j4 (cF t key false) (cF t key true) s (i9 mode) true st H).1.length=s:=by rw[X8 h.ci K.ok (by rw[hsz,gn,Zl]),hsz]
     by_cases h0:v5 pad (j4 (cF t key false) (cF t key true) s (i9 mode) true st H).1=0
     ·rw[if_pos h0]at hr;subst hr;have:=Hy h (m:=0) (mode:=mode) (pad:=pad) (back:=true) (iv:=iv) (a8:=a8) rfl hsz K (by omega) hp gn h0;exact⟨Zg _,fTp (by rw[hsz];exact this)⟩
     ·rw[if_neg h0]at hr;subst hr;have ls:(R9 pad (j4 (cF t key false) (cF t key true) s (i9 mode) true st H).1).length=s-v5 pad (j4 (cF t key false) (cF t key true) s (i9 mode) true st H).1:=by
       unfold R9;rw[Zf,lo];omega
      refine⟨by show(R9 pad (j4 (cF t key false) (cF t key true) s (i9 mode) true st H).1).length<=_;rw[ls];omega,?_⟩;have:=Hz h (m:=0) (mode:=mode) (pad:=pad) (back:=true) (iv:=iv) (a8:=a8) rfl hsz K (by omega) hp gn h0;rw[<-ls]at this;exact fT (by rw[hsz];exact this)
    ·rw[if_neg hsz]at hr;subst hr;exact⟨Zg _,fNp (Hx h rfl rfl hHb hsz (by omega) hp)⟩
theorem FJ {ps:List (Bs)} {i:Nat} (h:i<ps.length):(ps.map zc)[((i:Nat):Int).toNat]? =some (.z ps[i].length (bv ps[i])):=by
 rw[Zd,List.getElem?_map,Zp h];rfl
def x6 (ps:List (Bs)) (i:Nat):Bs:=(ps.take i).flatten
theorem tz {ps:List (Bs)} {i:Nat} (h:i<ps.length):x6 ps (i+1)=x6 ps i++ps[i]:=by
 unfold x6;rw[List.take_succ_eq_append_getElem h,List.flatten_append,List.flatten_singleton]
theorem MW (ps:List (Bs)):x6 ps ps.length=ps.flatten:=by unfold x6;rw[Z9]
theorem zt (ps:List (Bs)) (i:Nat):(x6 ps i).length<=ps.flatten.length:=by
 have:ps.flatten=x6 ps i++(ps.drop i).flatten:=by unfold x6;rw[<-List.flatten_append,Zn]
 rw[this,Zb];omega
theorem rY {m:Nat} {s:S} {d d':D} (e:d=d') (h:Mt m s d'):Mt m s d:=e▸h
theorem Xx {t key s k xs rs} (h:j5 t key s k xs rs) {mode pad:Int} {back:Bool} {m:Nat} {iv msg:Bs} (ok:A2 s mode pad iv) (hmm:msg.length=m) (hmb:m<=100000):
  a6 C 48 [A4 t mode pad back,.z key.length (bv key),.z iv.length (bv iv),.z m (bv msg)] [] (.ret (bn (Y7 (cF t key false) (cF t key true) s mode pad back iv msg))) []:=by
 have hs:=h.s_le;have hci:=h.ci;obtain⟨o1,o2,o3,o4⟩:=ok;have ok:A2 s mode pad iv:=⟨o1,o2,o3,o4⟩;by_cases hm7:7<=mode
 ·have e0:Y7 (cF t key false) (cF t key true) s mode pad back iv msg=Y8 (cF t key false) (cF t key true) s mode back iv msg:=by unfold Y7;rw[if_pos hm7]
  by_cases hms:s<=m
  ·have hi:iv.length=s:=by rw[o4,if_neg (by omega)]
   have e1:Y8 (cF t key false) (cF t key true) s mode back iv msg=((Y8 (cF t key false) (cF t key true) s mode back iv msg).1,0):=by
    refine Prod.ext rfl ?_;unfold Y8;rw[if_neg (by omega)]
   have hl:(Y8 (cF t key false) (cF t key true) s mode back iv msg).1.length=m:=by rw[a0e hci (by omega) hi (by omega),hmm]
   exact qC (e0.trans e1) hl (Md h rfl rfl rfl ok hmm hmb hm7 hms)
  ·have e1:Y8 (cF t key false) (cF t key true) s mode back iv msg=([],7):=by unfold Y8;rw[if_pos (by omega)]
   exact nF (e0.trans e1) (Me h rfl ok hm7 (by omega))
 ·have hm6:1<=mode/\mode<=6:=by omega
  have K0:MK s mode ⟨iv,[],[]⟩:=MK.new hm6 (by
   by_cases h1:mode=1
   ·exact .inl h1
   ·rw[if_neg h1]at o4;exact .inr o4)
  by_cases hp4:pad=4
  ·subst hp4;have e0:Y7 (cF t key false) (cF t key true) s mode 4 back iv msg=if msg.length%l8 s mode=0 then ((j4 (cF t key false) (cF t key true) s mode back ⟨iv,[],[]⟩ msg).1,0)else ([],7):=by unfold Y7;rw[if_neg hm7,if_pos rfl]
   by_cases hg:m%l8 s mode=0
   ·rw[hmm,if_pos hg]at e0;have hl:(j4 (cF t key false) (cF t key true) s mode back ⟨iv,[],[]⟩ msg).1.length=m:=by rw[X8 hci K0.ok (by rw[hmm];exact hg),hmm]
    exact qC e0 hl (Mb h rfl rfl rfl o4 hmm hmb hm6 hg)
   ·rw[hmm,if_neg hg]at e0;exact nF e0 (LY h rfl rfl rfl o4 hmm hmb hm6 hg)
  ·have hm2:1<=mode/\mode<=2:=by omega
   have hp3:pad=1\/pad=2\/pad=3:=by omega
   cases back
   ·have e0:Y7 (cF t key false) (cF t key true) s mode pad false iv msg=((j4 (cF t key false) (cF t key true) s mode false ⟨iv,[],[]⟩ (W3 pad s msg)).1,0):=by unfold Y7;rw[if_neg hm7,if_neg hp4,if_pos rfl]
    have lU:(W3 pad s msg).length=m/s*s+s:=by rw[Wl (by omega),hmm]
    have hg:(W3 pad s msg).length%l8 s mode=0:=by
     rw[lU];unfold l8;rw[if_pos (by omega),Nat.add_mod_right,Nat.mul_mod_left]
    have hl:(j4 (cF t key false) (cF t key true) s mode false ⟨iv,[],[]⟩ (W3 pad s msg)).1.length=m/s*s+s:=by rw[X8 hci K0.ok hg,lU]
    exact qC e0 hl (Mc h rfl rfl rfl o4 hmm hmb hm2 hp3)
   ·by_cases h0:m=0\/m%s≠0
    ·have e0:Y7 (cF t key false) (cF t key true) s mode pad true iv msg=([],7):=by unfold Y7;rw[if_neg hm7,if_neg hp4,if_neg (by decide),hmm,if_pos h0]
     exact nF e0 (LW h rfl rfl rfl o4 hmm hmb hm2 hp3 h0)
    ·have hpos:0<m:=by omega
     have hz:m%s=0:=Classical.byContradiction fun x=>h0 (.inr x);have hsm:s<=m:=Jf hpos (Zm hz);have e:(j4 (cF t key false) (cF t key true) s mode true ⟨iv,[],[]⟩ msg).1=(p5 (cF t key false) (cF t key true) mode true s msg iv (m/s)).1:=by
      unfold j4;rw[if_pos (by omega),hmm]
     have hg:m%l8 s mode=0:=by unfold l8;rw[if_pos (by omega)];exact hz
     have lo:(j4 (cF t key false) (cF t key true) s mode true ⟨iv,[],[]⟩ msg).1.length=m:=by rw[X8 hci K0.ok (by rw[hmm];exact hg),hmm]
     have e0:Y7 (cF t key false) (cF t key true) s mode pad true iv msg=if v5 pad ((j4 (cF t key false) (cF t key true) s mode true ⟨iv,[],[]⟩ msg).1.drop (m-s))=0 then ([],8)else ((j4 (cF t key false) (cF t key true) s mode true ⟨iv,[],[]⟩ msg).1.take (m-s)++R9 pad ((j4 (cF t key false) (cF t key true) s mode true ⟨iv,[],[]⟩ msg).1.drop (m-s)),0):=by
      unfold Y7;rw[if_neg hm7,if_neg hp4,if_neg (by decide),hmm,if_neg h0];simp only[lo]
     by_cases hL:v5 pad ((j4 (cF t key false) (cF t key true) s mode true ⟨iv,[],[]⟩ msg).1.drop (m-s))=0
     ·rw[if_pos hL]at e0;exact nF e0 (LX h rfl rfl rfl o4 hmm hmb hm2 hp3 hpos hz (e▸hL))
     ·rw[if_neg hL]at e0;have Q:=LZ h (vk:=bv key) (vi:=bv iv) (vm:=bv msg) rfl rfl rfl o4 hmm hmb hm2 hp3 hpos hz (e▸hL);rw[<-e]at Q;have hle:=qF pad ((j4 (cF t key false) (cF t key true) s mode true ⟨iv,[],[]⟩ msg).1.drop (m-s));refine qC e0 ?_ Q;all_goals
       rw[Zb];unfold R9;rw[Zf,Zf,Zh,lo];rw[Zh,lo]at hle;omega
theorem LV {t key s k xs rs} (h:j5 t key s k xs rs) {mode pad:Int} {back:Bool} {lk li m:Nat} {iv msg:Bs} {vk vi vm:List Value} (hvk:vk=bv key) (hvi:vi=bv iv) (hvm:vm=bv msg) (hk:key.length=lk) (hi:iv.length=li) (hm:msg.length=m) (hmb:m<=100000) (ok:A2 s mode pad iv):
  a6 C 48 [A4 t mode pad back,.z lk vk,.z li vi,.z m vm] [] (.ret (bn (Y7 (cF t key false) (cF t key true) s mode pad back iv msg))) []:=by
 subst hvk;subst hvi;subst hvm;subst hk;subst hi;exact Xx h ok hm hmb
theorem Ig {t mode pad:Int} {back:Bool} {k:Nat} {xs:List V} {iv a8:Bs} (hm:mode<=9):a6 C 158 [.p (.k 0) 0] [C6 t mode pad back k xs iv a8,.dead] (.ret (bool (decide (7<=mode)))) [C6 t mode pad back k xs iv a8,.dead]:=by
 refine mS.c ?_;refine⟨_,rfl,?_⟩;refine b8 (fun h7=> ?_) (fun h7=> ?_)
 ·refine⟨_,rfl,?_⟩;refine⟨_,rfl,[.k 0,.k 1],?_,⟨_,rfl,rfl⟩,⟨_,rfl,rfl⟩,tq⟩;exact congrArg bool (by rw[decide_eq_true hm,decide_eq_true h7])
 ·refine⟨_,rfl,[.k 0,.k 1],?_,⟨_,rfl,rfl⟩,⟨_,rfl,rfl⟩,tq⟩;exact congrArg bool (by rw[decide_eq_false h7])
theorem yj {t key s k xs rs} (h:j5 t key s k xs rs) {mode pad:Int} {back:Bool} {iv D3:Bs} (ok:A2 s mode pad iv):
  a6 C 91 [.p (.k 0) 0] [C6 t mode pad back k xs iv D3,.dead] (.ret (.t []))
   [m6 true true t mode pad back (c9 t k xs) (.z iv.length (bv iv)) (.p (.k 2) 0) d9 (.z iv.length (bv iv)),.dead,f8 (c9 t k xs) (i9 mode) back ⟨iv,[],[]⟩ 3,.dead,.dead]:=by
 have hs:=h.s_le;obtain⟨m1,hiv⟩:=bJ ok;have T0:=sY h (mode:=i9 mode) (back:=back) (i:=1) (vi:=bv iv) (iv:=iv) rfl rfl m1 hiv;have hl16:iv.length<=16:=by rw[hiv];split<;>omega
 have S:=Ig (t:=t) (mode:=mode) (pad:=pad) (back:=back) (k:=k) (xs:=xs) (iv:=iv) (a8:=D3) ok.1.2;refine uj.c ?_;refine⟨_,rfl,?_⟩;refine⟨[.k 0,.k 1],_,_,_,_,S,rfl,rfl,?_⟩;refine b8 (fun h7=> ?_) (fun h7=> ?_);all_goals
  first
   |rw[show i9 mode=2 from if_pos h7]at T0 ⊢
   |rw[show i9 mode=mode from if_neg h7]at T0 ⊢
  refine⟨_,rfl,?_⟩;refine⟨_,rfl,?_⟩;refine⟨_,rfl,?_⟩;refine⟨[],_,_,_,_,T0,rfl,rfl,?_⟩;refine⟨Za rfl,?_⟩;refine⟨_,rfl,?_⟩;refine⟨[],_,_,_,_,S8 (l:=iv) rfl rfl (by omega),rfl,rfl,?_⟩;refine⟨Za rfl,?_⟩;refine⟨Za rfl,?_⟩;refine⟨Za rfl,?_⟩;exact⟨_,rfl,[.k 0,.k 1,.d 26 0,.d 26 1,.d 26 2],rfl,⟨_,rfl,rfl⟩,⟨_,rfl,rfl⟩,⟨_,rfl,rfl⟩,⟨_,rfl,rfl⟩,⟨_,rfl,rfl⟩,tq⟩
theorem Ic {t key s k xs rs} (h:j5 t key s k xs rs) {mode pad:Int} {back:Bool} {iv D3:Bs} (ok:A2 s mode pad iv):
  a6 C 35 [.p (.k 0) 0] [C6 t mode pad back k xs iv D3,.dead] (.ret (i64 0))
   [m6 true true t mode pad back (c9 t k xs) (.z iv.length (bv iv)) (.p (.k 2) 0) d9 (.z iv.length (bv iv)),.dead,f8 (c9 t k xs) (i9 mode) back ⟨iv,[],[]⟩ 3,.dead,.dead]:=by
 refine ui.c ?_;refine⟨_,rfl,?_⟩;refine⟨[.k 0,.k 1],_,_,_,_,yj h ok,rfl,rfl,?_⟩;exact⟨_,rfl,[.k 0,.k 1,.d 9 2,.d 9 3,.d 9 4],rfl,⟨_,rfl,rfl⟩,⟨_,rfl,rfl⟩,⟨_,rfl,rfl⟩,⟨_,rfl,rfl⟩,⟨_,rfl,rfl⟩,tq⟩
theorem tM {n:Nat} {mode pad:Int} {iv:Bs} {back:Bool} (hn:0<n) (ok:A2 n mode pad iv) (L:Nat):
  L-p6 n mode pad back L<=B1 n (i9 mode) mode pad back/\(p6 n mode pad back L=0\/B1 n (i9 mode) mode pad back+1<=L-p6 n mode pad back L+l8 n (i9 mode)):=by
 obtain⟨g0,g1,g2⟩:=jT (back:=back) hn ok;obtain⟨f1,f2⟩:=bI (back:=back) hn ok L;unfold p6 at*
 generalize l8 n (i9 mode)=g at*
 generalize B1 n (i9 mode) mode pad back=mo at*
 refine⟨Zk fun hh=> ?_,?_⟩
 ·have:=(aP (most:=mo) (L:=L) (i:=A5 g mo L) g0).2 (by omega);exact absurd this (Z8 _)
 ·by_cases h:A5 g mo L=0
  ·exact .inl (by rw[h,Ji])
  ·obtain⟨k,hk⟩:∃k,A5 g mo L=k+1:=⟨A5 g mo L-1,by omega⟩;have:=(aP (most:=mo) (L:=L) (i:=k) g0).1 (by omega);rw[hk,Zu]at*
   exact .inr (by omega)
theorem Up {s L m L' F F' n mo g:Nat} (hL:L'=L+m) (hF:F'=F+n) (f1:F<=L) (f1':F'<=L') (h1:L-F<=mo) (h2:F'=0\/mo+1<=L'-F'+g) (hg:g<=s):
  n<=m+s/\¬(((L'-F':Nat):Int)<(if (mo:Int)-s+1<(L':Int)then (mo:Int)-s+1 else (L':Int))):=by
 refine⟨by omega,?_⟩;split<;>omega
structure Cf where
 t:Int
 mode:Int
 pad:Int
 back:Bool
 key:Bs
 iv:Bs
inductive CX where
 |nw
 |op (c:Cf) (m:Option (Bs))
 |cl (c:Cf)
structure Cl where
 kind:Int
 c:Cf
 inp:Bs
structure To where
 out:Bs
 e:Int
 held:Nat
noncomputable def Cf.s (c:Cf):Nat:=(n9 c.t).toNat
noncomputable def Cf.err (c:Cf):Int:=z6 c.t c.mode c.pad c.s c.key.length c.iv.length
noncomputable def mD (t:Int) (key:Bs):Nat×List V:=open Classical in if h:∃p:Nat×List V,∃rs,j5 t key (n9 t).toNat p.1 p.2 rs then Classical.choose h else (0,[])
theorem Na {t:Int} {key:Bs} {s k:Nat} {xs rs:List V} (h:j5 t key s k xs rs):∃rs,j5 t key (n9 t).toNat (mD t key).1 (mD t key).2 rs:=by
 have h0:∃p:Nat×List V,∃rs,j5 t key (n9 t).toNat p.1 p.2 rs:=⟨(k,xs),rs,by rw[h.hs];exact h⟩;unfold mD;rw[dif_pos h0];exact Classical.choose_spec h0
noncomputable abbrev Cf.k (c:Cf):Nat:=(mD c.t c.key).1
noncomputable abbrev Cf.xs (c:Cf):List V:=(mD c.t c.key).2
noncomputable abbrev Cf.S (c:Cf) (M:Bs):MS:=cS c.t c.key c.s c.mode c.pad c.back c.iv M
noncomputable abbrev Cf.L (c:Cf) (M:Bs):Bs:=cL c.t c.key c.s c.mode c.pad c.back c.iv M
noncomputable abbrev Cf.T (c:Cf) (M:Bs):Bs:=cT c.t c.key c.s c.mode c.pad c.back c.iv M
noncomputable abbrev Cf.H (c:Cf) (M:Bs):Bs:=m5 c.s c.mode c.pad c.back M
noncomputable abbrev Cf.fin (c:Cf) (M:Bs):Bs×Int:=iD (cF c.t c.key false) (cF c.t c.key true) c.s c.mode c.pad c.back (c.S M) (c.L M) (c.H M)
theorem Cf.ok {c:Cf} (h:c.err=0) (hk:c.key.length<=1000):(∃rs,j5 c.t c.key c.s c.k c.xs rs)/\A2 c.s c.mode c.pad c.iv:=by
 rcases vR c.t (key:=c.key) rfl hk c.mode c.pad c.back (iv:=c.iv) rfl with ⟨e,s,k,xs,rs,h,ok⟩|⟨he,P,Q⟩
 ·refine⟨Na h,?_⟩;have hs:c.s=s:=by unfold Cf.s;rw[h.hs];rfl
  rw[hs];exact ok
 ·exact absurd h he
noncomputable def qP:CX->Nat
 | .op c (some M)=>(c.H M).length
 |_=>0
noncomputable def C4 (σ:CX) (x:Cl):CX:=open Classical in
 if x.kind=1 then (if x.c.err=0 then .op x.c none else σ)
 else if x.kind=2 then (match σ with
  | .op c m=> .op c (some (m.getD []++x.inp))
  |σ=>σ)
 else if x.kind=3 then (match σ with
  | .op c _=> .cl c
  |σ=>σ)
 else if x.kind=4 then (match σ with
  | .nw=> .nw
  | .op c _=> .op c none
  | .cl c=> .op c none)
 else σ
noncomputable def z5 (σ:CX) (x:Cl):Bs×Int:=
 if x.kind=1 then ([],x.c.err)
 else if x.kind=2 then (match σ with
  | .op c m=>((c.T (m.getD []++x.inp)).drop (c.T (m.getD [])).length,0)
  |_=>([],6))
 else if x.kind=3 then (match σ with
  | .op c m=>c.fin (m.getD [])
  |_=>([],6))
 else if x.kind=4 then (match σ with
  | .nw=>([],6)
  |_=>([],0))
 else ([],1)
noncomputable def U1 (σ:CX) (x:Cl):To:=⟨(z5 σ x).1,(z5 σ x).2,qP (C4 σ x)⟩
noncomputable def N7:CX->List Cl->List To
 |_,[]=>[]
 |σ,x::l=>U1 σ x::N7 (C4 σ x) l
noncomputable def U0 (σ:CX) (l:List Cl):CX:=l.foldl C4 σ
theorem Dd:∀(l:List Cl) (σ:CX),(N7 σ l).length=l.length
 |[],_=>rfl
 |x::l,σ=>congrArg (· +1) (Dd l _)
theorem Dc:∀(l m:List Cl) (σ:CX),N7 σ (l++m)=N7 σ l++N7 (U0 σ l) m
 |[],_,_=>rfl
 |x::l,m,σ=>congrArg (U1 σ x:: ·) (Dc l m _)
def fA (n:Nat):CX->Prop
 | .nw=>True
 | .op c m=>c.err=0/\c.key.length<=1000/\(m.getD []).length<=n
 | .cl c=>c.err=0/\c.key.length<=1000
def gZ (x:Cl):Prop:=(-9223372036854775808<=x.kind/\x.kind<=9223372036854775807)/\x.c.key.length<=1000/\x.c.iv.length<=1000/\x.inp.length<=1000
theorem fA.next {n:Nat} {σ:CX} {x:Cl} (h:fA n σ) (hx:gZ x):fA (n+x.inp.length) (C4 σ x):=by
 have up:fA (n+x.inp.length) σ:=by
  cases σ with
  |nw=>trivial
  |op c m=>exact⟨h.1,h.2.1,Zi h.2.2 (by omega)⟩
  |cl c=>exact h
 unfold C4;by_cases h1:x.kind=1
 ·rw[if_pos h1];by_cases he:x.c.err=0
  ·rw[if_pos he];exact⟨he,hx.2.1,Zg _⟩
  ·rw[if_neg he];exact up
 ·rw[if_neg h1];by_cases h2:x.kind=2
  ·rw[if_pos h2];cases σ with
   |nw=>trivial
   |op c m=>exact⟨h.1,h.2.1,by show(m.getD []++x.inp).length<=_;rw[Zb];have:=h.2.2;omega⟩
   |cl c=>exact h
  ·rw[if_neg h2];by_cases h3:x.kind=3
   ·rw[if_pos h3];cases σ with
    |nw=>trivial
    |op c m=>exact⟨h.1,h.2.1⟩
    |cl c=>exact h
   ·rw[if_neg h3];by_cases h4:x.kind=4
    ·rw[if_pos h4];cases σ with
     |nw=>trivial
     |op c m=>exact⟨h.1,h.2.1,Zg _⟩
     |cl c=>exact⟨h.1,h.2,Zg _⟩
    ·rw[if_neg h4];exact up
theorem HX {t key s k xs rs} (h:j5 t key s k xs rs) {mode pad:Int} {back:Bool} {lk li:Nat} {iv:Bs} {t0 mode0 pad0:Int} {E9:Bool} {k0:Nat} {xs0:List V} {iv0 D3:Bs} (hk:key.length=lk) (hlk:lk<=1000) (hi:iv.length=li) (ok:A2 s mode pad iv):
  a6 C 30 [.p (.k 0) 0,A4 t mode pad back,.z lk (bv key),.z li (bv iv)] [C6 t0 mode0 pad0 E9 k0 xs0 iv0 D3,.dead] (.ret (i64 0))
   [m6 true true t mode pad back (c9 t k xs) (.z iv.length (bv iv)) (.p (.k 2) 0) d9 (.z iv.length (bv iv)),.dead,f8 (c9 t k xs) (i9 mode) back ⟨iv,[],[]⟩ 3,.dead,.dead]:=by
 have hs:=h.s_le;obtain⟨m1,hiv⟩:=bJ ok;have hl16:iv.length<=16:=by rw[hiv];split<;>omega
 have CK:=(jS t hk hlk mode pad back hi).1;rw[vQ h hk hi ok]at CK;subst hi;have BG:=yj h (back:=back) (D3:=D3) ok;refine ka.c ?_;refine⟨[i64 t,i64 mode,i64 pad,bool back],rfl,rfl,?_⟩;refine⟨[],_,_,_,_,CK,rfl,rfl,?_⟩;refine⟨_,rfl,?_⟩;refine⟨[],_,_,_,_,h.new' (n:=lk) hk rfl,rfl,rfl,?_⟩;refine⟨Za rfl,?_⟩;refine⟨[i64 t,i64 mode,i64 pad,bool back],rfl,rfl,?_⟩;refine⟨[],_,_,_,_,S8 (l:=iv) rfl rfl (by omega),rfl,rfl,?_⟩;refine⟨Za rfl,?_⟩;refine⟨Za rfl,?_⟩;refine⟨Za rfl,?_⟩;refine⟨[.k 0,.k 1],_,_,_,_,BG,rfl,rfl,?_⟩;exact⟨_,rfl,[.k 0,.k 1,.d 40 2,.d 40 3,.d 40 4],rfl,⟨_,rfl,rfl⟩,⟨_,rfl,rfl⟩,⟨_,rfl,rfl⟩,⟨_,rfl,rfl⟩,⟨_,rfl,rfl⟩,tq⟩
theorem HZ {t mode pad:Int} {back:Bool} {lk li:Nat} {key iv:Bs} {t0 mode0 pad0:Int} {E9:Bool} {k0:Nat} {xs0:List V} {iv0 D3:Bs} (hk:key.length=lk) (hlk:lk<=1000) (hi:iv.length=li) (he:z6 t mode pad (n9 t).toNat lk li≠0):
  a6 C 30 [.p (.k 0) 0,A4 t mode pad back,.z lk (bv key),.z li (bv iv)] [C6 t0 mode0 pad0 E9 k0 xs0 iv0 D3,.dead] (.ret (i64 (z6 t mode pad (n9 t).toNat lk li))) [C6 t0 mode0 pad0 E9 k0 xs0 iv0 D3,.dead]:=by
 have CK:=(jS t hk hlk mode pad back hi).1;generalize z6 t mode pad (n9 t).toNat lk li=e at*
 refine ka.c ?_;refine⟨[i64 t,i64 mode,i64 pad,bool back],rfl,rfl,?_⟩;refine⟨[],_,_,_,_,CK,rfl,rfl,?_⟩;refine l5 (fun _=> ?_) (fun hh=>absurd hh he);exact⟨_,rfl,[.k 0,.k 1],rfl,⟨_,rfl,rfl⟩,⟨_,rfl,rfl⟩,tq⟩
abbrev zH (t mode pad:Int) (back:Bool) (k:Nat) (xs:List V) (iv a8:Bs) (j:Nat):B:=m6 true false t mode pad back (c9 t k xs) (.z iv.length (bv iv)) (.p (.k j) 0) d9 (.z a8.length (bv a8))
def HK.w (x:HK) (j:Nat):V:=match x with
 | .n=>d9
 | .o H=> .o 1 (.k j) 0 H.length
 | .f H=> .z H.length (bv H)
def tB (o:Option (Nat×List Value)) (e:Int) (h:Int):B:=match o with
 |none=> .mx [d9,i64 e,i64 h]
 |some p=> .mx [.z p.1 p.2,i64 e,i64 h]
theorem mH {o e h0}:hO C 160 [.p (.k 0) 0,.p (.k 1) 0] [.mx [.p (.k 2) 0],tB o e h0,m6 false false 0 0 0 false i6 d9 i6 d9 d9] (.ret (.t [])) [.mx [.p (.k 2) 0],tB o e 0,m6 false false 0 0 0 false i6 d9 i6 d9 d9]:=by
 rcases o with _|⟨n,vs⟩;all_goals
  refine uw.e ?_;refine⟨_,rfl,?_⟩;refine⟨[.k 2],_,_,_,_,HU,rfl,rfl,?_⟩;refine⟨Za rfl,?_⟩;exact⟨_,rfl,[.k 0,.k 1,.k 2],rfl,⟨_,rfl,rfl⟩,⟨_,rfl,rfl⟩,⟨_,rfl,rfl⟩,tq⟩
theorem mI {o e h0} {t mode pad:Int} {back:Bool} {k:Nat} {xs:List V} {iv a8:Bs}:hO C 160 [.p (.k 0) 0,.p (.k 1) 0] [.mx [.p (.k 2) 0],tB o e h0,zH t mode pad back k xs iv a8 3,.dead] (.ret (.t [])) [.mx [.p (.k 2) 0],tB o e 0,zH t mode pad back k xs iv a8 3,.dead]:=by
 rcases o with _|⟨n,vs⟩;all_goals
  refine uw.e ?_;refine⟨_,rfl,?_⟩;refine⟨[.k 2,.k 3],_,_,_,_,HV (a8:=a8),rfl,rfl,?_⟩;refine⟨Za rfl,?_⟩;exact⟨_,rfl,[.k 0,.k 1,.k 2,.k 3],rfl,⟨_,rfl,rfl⟩,⟨_,rfl,rfl⟩,⟨_,rfl,rfl⟩,⟨_,rfl,rfl⟩,tq⟩
theorem aR {o e h0} {t mode pad:Int} {back:Bool} {k:Nat} {xs:List V} {iv a8:Bs} {st:MS} {x:HK}:hO C 160 [.p (.k 0) 0,.p (.k 1) 0]
  [.mx [.p (.k 2) 0],tB o e h0,m6 true true t mode pad back (c9 t k xs) (.z iv.length (bv iv)) (.p (.k 3) 0) (x.w 5) (.z a8.length (bv a8)),f8 (c9 t k xs) (i9 mode) back st 4,g9 st.row st.gone,x.b] (.ret (.t []))
  [.mx [.p (.k 2) 0],tB o e x.l.length,m6 true true t mode pad back (c9 t k xs) (.z iv.length (bv iv)) (.p (.k 3) 0) (x.w 5) (.z a8.length (bv a8)),f8 (c9 t k xs) (i9 mode) back st 4,g9 st.row st.gone,x.b]:=by
 have H:=fun st x=>HT (t:=t) (mode:=mode) (pad:=pad) (md:=i9 mode) (op:=true) (back:=back) (k:=k) (xs:=xs) (iv:=iv) (a8:=a8) (st:=st) (x:=x);obtain⟨ch,row,g⟩:=st;rcases row with _|⟨a,r⟩<;>rcases x with _|H'|H'<;>rcases o with _|⟨n,vs⟩;all_goals
  refine uw.e ?_;refine⟨_,rfl,?_⟩;first
   |refine⟨[.k 2,.k 3,.k 4,.k 5],_,_,_,_,H _ .n,rfl,rfl,?_⟩
   |refine⟨[.k 2,.k 3,.k 4,.k 5],_,_,_,_,H _ (.o H'),rfl,rfl,?_⟩
   |refine⟨[.k 2,.k 3,.k 4,.k 5],_,_,_,_,H _ (.f H'),rfl,rfl,?_⟩
  refine⟨Za rfl,?_⟩;exact⟨_,rfl,[.k 0,.k 1,.k 2,.k 3,.k 4,.k 5],rfl,⟨_,rfl,rfl⟩,⟨_,rfl,rfl⟩,⟨_,rfl,rfl⟩,⟨_,rfl,rfl⟩,⟨_,rfl,rfl⟩,⟨_,rfl,rfl⟩,tq⟩
theorem a6.wka {C:k5} {f:Nat} {args xs ys:List V} {bs bs':List B} (h:a6 C f args bs (.ret (.a xs)) bs') (hw:ah xs ys):a6 C f args bs (.ret (.a ys)) bs':=
 ⟨h.1,fun w F ι vs st hgl hdm hl=>Calls.mono (h.2 w F ι vs st hgl hdm hl) fun e w' ⟨F',ι',h1,h2,h3,h4,h5,h6⟩=>⟨F',ι',h1,h2,h3,h4,h5,by
  obtain⟨x,he,hR⟩:=h6;refine⟨x,he,?_⟩;cases hR with
  |fz h=>cases h with|a hl=>exact .fz (.a (hw.rf hl))
  |a hl=>exact .a (hw.r hl)⟩⟩
theorem VR {kind:Int} {t' o7 p7:Int} {q5:Bool} {lk' li' lb':Nat} {vk' vi' vb':List Value} (k1:kind≠1) (k2:kind≠2) (k3:kind≠3) (k4:kind≠4):
  a6 C 104 [.p (.k 0) 0,.a [i64 kind,i64 t',i64 o7,i64 p7,bool q5,.z lk' vk',.z li' vi',.z lb' vb']] [m6 false false 0 0 0 false i6 d9 i6 d9 d9,.dead,.dead,.dead] (.ret (.a [.z 0 [],i64 1,i64 0])) [m6 false false 0 0 0 false i6 d9 i6 d9 d9,.dead,.dead,.dead]:=by
 refine a6.wka (P4.p ?_) (.cons .nl (.cons (.refl _) (.cons (.refl _) .nil)));refine⟨⟨[(2,.p (.k 4) 0),(3,.p (.k 5) 0),(4,.p (.k 6) 0),(5,.f (.func 160) [] [.p (.k 4) 0,.p (.k 6) 0])],[_,_,_,_,_,_,_]⟩,⟨[.k 0,.k 1,.k 2,.k 3,.d 2 0,.d 3 0,.d 4 0],⟨rfl,rfl,rfl,rfl,tq⟩,⟨_,rfl,rfl⟩,⟨_,rfl,rfl⟩,⟨_,rfl,rfl⟩,⟨_,rfl,rfl⟩,⟨_,rfl,rfl⟩,⟨_,rfl,rfl⟩,⟨_,rfl,rfl⟩,tq⟩,_,_,rfl,rfl,?_⟩;refine⟨_,rfl,?_⟩;refine g8 (fun hh=>absurd hh k1) (fun _=> ?_);refine g8 (fun hh=>absurd hh k2) (fun _=> ?_);refine g8 (fun hh=>absurd hh k3) (fun _=> ?_);refine g8 (fun hh=>absurd hh k4) (fun _=> ?_);refine⟨Za rfl,?_⟩;refine⟨[.slice none 0 0,.int .i64 1,.int .i64 0],rfl,rfl,?_⟩;refine⟨Za rfl,?_⟩;refine⟨[.k 4,.k 6,.k 0],_,_,_,_,mH (o:=none),rfl,rfl,_,rfl,?_⟩;refine⟨[d9,i64 1,i64 0],rfl,rfl,?_⟩;refine⟨_,_,?_,B4.refl _,q6.refl _⟩;exact⟨_,rfl,[.k 0,.k 1,.k 2,.k 3],rfl,⟨_,rfl,rfl⟩,⟨_,rfl,rfl⟩,⟨_,rfl,rfl⟩,⟨_,rfl,rfl⟩,tq⟩
theorem Ce {kind:Int} {t' o7 p7:Int} {q5:Bool} {lk' li' lb':Nat} {vk' vi' vb':List Value} {t mode pad:Int} {back:Bool} {k:Nat} {xs:List V} {iv a8:Bs} {st:MS} {x:HK} (k1:kind≠1) (k2:kind≠2) (k3:kind≠3) (k4:kind≠4):
  a6 C 104 [.p (.k 0) 0,.a [i64 kind,i64 t',i64 o7,i64 p7,bool q5,.z lk' vk',.z li' vi',.z lb' vb']] [j8 true t mode pad back k xs iv x a8,f8 (c9 t k xs) (i9 mode) back st 2,g9 st.row st.gone,x.b] (.ret (.a [.z 0 [],i64 1,i64 x.l.length])) [j8 true t mode pad back k xs iv x a8,f8 (c9 t k xs) (i9 mode) back st 2,g9 st.row st.gone,x.b]:=by
 obtain⟨ch,row,g⟩:=st;rcases row with _|⟨a,r⟩<;>rcases x with _|H|H;all_goals
  refine a6.wka (P4.p ?_) (.cons .nl (.cons (.refl _) (.cons (.refl _) .nil)));refine⟨⟨[(2,.p (.k 4) 0),(3,.p (.k 5) 0),(4,.p (.k 6) 0),(5,.f (.func 160) [] [.p (.k 4) 0,.p (.k 6) 0])],[_,_,_,_,_,_,_]⟩,⟨[.k 0,.k 1,.k 2,.k 3,.d 2 0,.d 3 0,.d 4 0],⟨rfl,rfl,rfl,rfl,tq⟩,⟨_,rfl,rfl⟩,⟨_,rfl,rfl⟩,⟨_,rfl,rfl⟩,⟨_,rfl,rfl⟩,⟨_,rfl,rfl⟩,⟨_,rfl,rfl⟩,⟨_,rfl,rfl⟩,tq⟩,_,_,rfl,rfl,?_⟩;refine⟨_,rfl,?_⟩;refine g8 (fun hh=>absurd hh k1) (fun _=> ?_);refine g8 (fun hh=>absurd hh k2) (fun _=> ?_);refine g8 (fun hh=>absurd hh k3) (fun _=> ?_);refine g8 (fun hh=>absurd hh k4) (fun _=> ?_);refine⟨Za rfl,?_⟩;first
   |refine⟨[.slice none 0 0,.int .i64 1,.int .i64 0],rfl,rfl,?_⟩
    refine⟨Za rfl,?_⟩;refine⟨[.k 4,.k 6,.k 0,.k 1,.k 2,.k 3],_,_,_,_,aR (o:=none) (a8:=a8) (x:= .n),rfl,rfl,_,rfl,?_⟩;refine⟨[d9,i64 1,i64 0],rfl,rfl,?_⟩;refine⟨_,_,?_,B4.refl _,q6.refl _⟩;exact⟨_,rfl,[.k 0,.k 1,.k 2,.k 3],rfl,⟨_,rfl,rfl⟩,⟨_,rfl,rfl⟩,⟨_,rfl,rfl⟩,⟨_,rfl,rfl⟩,tq⟩
   |refine⟨[.slice none 0 0,.int .i64 1,.int .i64 0],rfl,rfl,?_⟩
    refine⟨Za rfl,?_⟩;refine⟨[.k 4,.k 6,.k 0,.k 1,.k 2,.k 3],_,_,_,_,aR (o:=none) (a8:=a8) (x:=(.o H)),rfl,rfl,_,rfl,?_⟩;refine⟨[d9,i64 1,i64 H.length],rfl,rfl,?_⟩;refine⟨_,_,?_,B4.refl _,q6.refl _⟩;exact⟨_,rfl,[.k 0,.k 1,.k 2,.k 3],rfl,⟨_,rfl,rfl⟩,⟨_,rfl,rfl⟩,⟨_,rfl,rfl⟩,⟨_,rfl,rfl⟩,tq⟩
   |refine⟨[.slice none 0 0,.int .i64 1,.int .i64 0],rfl,rfl,?_⟩
    refine⟨Za rfl,?_⟩;refine⟨[.k 4,.k 6,.k 0,.k 1,.k 2,.k 3],_,_,_,_,aR (o:=none) (a8:=a8) (x:=(.f H)),rfl,rfl,_,rfl,?_⟩;refine⟨[d9,i64 1,i64 H.length],rfl,rfl,?_⟩;refine⟨_,_,?_,B4.refl _,q6.refl _⟩;exact⟨_,rfl,[.k 0,.k 1,.k 2,.k 3],rfl,⟨_,rfl,rfl⟩,⟨_,rfl,rfl⟩,⟨_,rfl,rfl⟩,⟨_,rfl,rfl⟩,tq⟩
theorem VS {kind:Int} {t' o7 p7:Int} {q5:Bool} {lk' li' lb':Nat} {vk' vi' vb':List Value} {t mode pad:Int} {back:Bool} {k:Nat} {xs:List V} {iv a8:Bs} (k1:kind≠1) (k2:kind≠2) (k3:kind≠3) (k4:kind≠4):
  a6 C 104 [.p (.k 0) 0,.a [i64 kind,i64 t',i64 o7,i64 p7,bool q5,.z lk' vk',.z li' vi',.z lb' vb']] [C6 t mode pad back k xs iv a8,.dead,.dead,.dead] (.ret (.a [.z 0 [],i64 1,i64 0])) [C6 t mode pad back k xs iv a8,.dead,.dead,.dead]:=by
 refine a6.wka (P4.p ?_) (.cons .nl (.cons (.refl _) (.cons (.refl _) .nil)));refine⟨⟨[(2,.p (.k 4) 0),(3,.p (.k 5) 0),(4,.p (.k 6) 0),(5,.f (.func 160) [] [.p (.k 4) 0,.p (.k 6) 0])],[_,_,_,_,_,_,_]⟩,⟨[.k 0,.k 1,.k 2,.k 3,.d 2 0,.d 3 0,.d 4 0],⟨rfl,rfl,rfl,rfl,tq⟩,⟨_,rfl,rfl⟩,⟨_,rfl,rfl⟩,⟨_,rfl,rfl⟩,⟨_,rfl,rfl⟩,⟨_,rfl,rfl⟩,⟨_,rfl,rfl⟩,⟨_,rfl,rfl⟩,tq⟩,_,_,rfl,rfl,?_⟩;refine⟨_,rfl,?_⟩;refine g8 (fun hh=>absurd hh k1) (fun _=> ?_);refine g8 (fun hh=>absurd hh k2) (fun _=> ?_);refine g8 (fun hh=>absurd hh k3) (fun _=> ?_);refine g8 (fun hh=>absurd hh k4) (fun _=> ?_);refine⟨Za rfl,?_⟩;refine⟨[.slice none 0 0,.int .i64 1,.int .i64 0],rfl,rfl,?_⟩;refine⟨Za rfl,?_⟩;refine⟨[.k 4,.k 6,.k 0,.k 1],_,_,_,_,mI (o:=none) (a8:=a8),rfl,rfl,_,rfl,?_⟩;refine⟨[d9,i64 1,i64 0],rfl,rfl,?_⟩;refine⟨_,_,?_,B4.refl _,q6.refl _⟩;exact⟨_,rfl,[.k 0,.k 1,.k 2,.k 3],rfl,⟨_,rfl,rfl⟩,⟨_,rfl,rfl⟩,⟨_,rfl,rfl⟩,⟨_,rfl,rfl⟩,tq⟩
theorem VV {t' o7 p7:Int} {q5:Bool} {lk' li' lb':Nat} {vk' vi' vb':List Value}:
  a6 C 104 [.p (.k 0) 0,.a [i64 2,i64 t',i64 o7,i64 p7,bool q5,.z lk' vk',.z li' vi',.z lb' vb']] [m6 false false 0 0 0 false i6 d9 i6 d9 d9,.dead,.dead,.dead] (.ret (.a [.z 0 [],i64 6,i64 0])) [m6 false false 0 0 0 false i6 d9 i6 d9 d9,.dead,.dead,.dead]:=by
 refine P4.p ?_;refine⟨⟨[(2,.p (.k 4) 0),(3,.p (.k 5) 0),(4,.p (.k 6) 0),(5,.f (.func 160) [] [.p (.k 4) 0,.p (.k 6) 0])],[_,_,_,_,_,_,_]⟩,⟨[.k 0,.k 1,.k 2,.k 3,.d 2 0,.d 3 0,.d 4 0],⟨rfl,rfl,rfl,rfl,tq⟩,⟨_,rfl,rfl⟩,⟨_,rfl,rfl⟩,⟨_,rfl,rfl⟩,⟨_,rfl,rfl⟩,⟨_,rfl,rfl⟩,⟨_,rfl,rfl⟩,⟨_,rfl,rfl⟩,tq⟩,_,_,rfl,rfl,?_⟩;refine⟨_,rfl,?_⟩;refine⟨_,rfl,?_⟩;refine⟨_,rfl,?_⟩;refine⟨[.k 0],_,_,_,_,Ir,rfl,rfl,?_⟩;refine⟨Za rfl,?_⟩;refine⟨Za rfl,?_⟩;refine⟨[.z 0 [],i64 6,i64 0],rfl,rfl,?_⟩;refine⟨Za rfl,?_⟩;refine⟨[.k 4,.k 6,.k 0],_,_,_,_,mH (o:=some (0,[])),rfl,rfl,_,rfl,?_⟩;refine⟨[.z 0 [],i64 6,i64 0],rfl,rfl,?_⟩;refine⟨_,_,?_,B4.refl _,q6.refl _⟩;exact⟨_,rfl,[.k 0,.k 1,.k 2,.k 3],rfl,⟨_,rfl,rfl⟩,⟨_,rfl,rfl⟩,⟨_,rfl,rfl⟩,⟨_,rfl,rfl⟩,tq⟩
theorem VY {t' o7 p7:Int} {q5:Bool} {lk' li' lb':Nat} {vk' vi' vb':List Value}:
  a6 C 104 [.p (.k 0) 0,.a [i64 3,i64 t',i64 o7,i64 p7,bool q5,.z lk' vk',.z li' vi',.z lb' vb']] [m6 false false 0 0 0 false i6 d9 i6 d9 d9,.dead,.dead,.dead] (.ret (.a [.z 0 [],i64 6,i64 0])) [m6 false false 0 0 0 false i6 d9 i6 d9 d9,.dead,.dead,.dead]:=by
 refine P4.p ?_;refine⟨⟨[(2,.p (.k 4) 0),(3,.p (.k 5) 0),(4,.p (.k 6) 0),(5,.f (.func 160) [] [.p (.k 4) 0,.p (.k 6) 0])],[_,_,_,_,_,_,_]⟩,⟨[.k 0,.k 1,.k 2,.k 3,.d 2 0,.d 3 0,.d 4 0],⟨rfl,rfl,rfl,rfl,tq⟩,⟨_,rfl,rfl⟩,⟨_,rfl,rfl⟩,⟨_,rfl,rfl⟩,⟨_,rfl,rfl⟩,⟨_,rfl,rfl⟩,⟨_,rfl,rfl⟩,⟨_,rfl,rfl⟩,tq⟩,_,_,rfl,rfl,?_⟩;refine⟨_,rfl,?_⟩;refine⟨_,rfl,?_⟩;refine⟨[.k 0],_,_,_,_,HS,rfl,rfl,?_⟩;refine⟨Za rfl,?_⟩;refine⟨Za rfl,?_⟩;refine⟨[.z 0 [],i64 6,i64 0],rfl,rfl,?_⟩;refine⟨Za rfl,?_⟩;refine⟨[.k 4,.k 6,.k 0],_,_,_,_,mH (o:=some (0,[])),rfl,rfl,_,rfl,?_⟩;refine⟨[.z 0 [],i64 6,i64 0],rfl,rfl,?_⟩;refine⟨_,_,?_,B4.refl _,q6.refl _⟩;exact⟨_,rfl,[.k 0,.k 1,.k 2,.k 3],rfl,⟨_,rfl,rfl⟩,⟨_,rfl,rfl⟩,⟨_,rfl,rfl⟩,⟨_,rfl,rfl⟩,tq⟩
theorem VX {t' o7 p7:Int} {q5:Bool} {lk' li' lb':Nat} {vk' vi' vb':List Value} {t mode pad:Int} {back:Bool} {k:Nat} {xs:List V} {iv a8:Bs}:
  a6 C 104 [.p (.k 0) 0,.a [i64 2,i64 t',i64 o7,i64 p7,bool q5,.z lk' vk',.z li' vi',.z lb' vb']] [C6 t mode pad back k xs iv a8,.dead,.dead,.dead] (.ret (.a [.z 0 [],i64 6,i64 0])) [C6 t mode pad back k xs iv a8,.dead,.dead,.dead]:=by
 refine P4.p ?_;refine⟨⟨[(2,.p (.k 4) 0),(3,.p (.k 5) 0),(4,.p (.k 6) 0),(5,.f (.func 160) [] [.p (.k 4) 0,.p (.k 6) 0])],[_,_,_,_,_,_,_]⟩,⟨[.k 0,.k 1,.k 2,.k 3,.d 2 0,.d 3 0,.d 4 0],⟨rfl,rfl,rfl,rfl,tq⟩,⟨_,rfl,rfl⟩,⟨_,rfl,rfl⟩,⟨_,rfl,rfl⟩,⟨_,rfl,rfl⟩,⟨_,rfl,rfl⟩,⟨_,rfl,rfl⟩,⟨_,rfl,rfl⟩,tq⟩,_,_,rfl,rfl,?_⟩;refine⟨_,rfl,?_⟩;refine⟨_,rfl,?_⟩;refine⟨_,rfl,?_⟩;refine⟨[.k 0,.k 1],_,_,_,_,Iq,rfl,rfl,?_⟩;refine⟨Za rfl,?_⟩;refine⟨Za rfl,?_⟩;refine⟨[.z 0 [],i64 6,i64 0],rfl,rfl,?_⟩;refine⟨Za rfl,?_⟩;refine⟨[.k 4,.k 6,.k 0,.k 1],_,_,_,_,mI (o:=some (0,[])) (a8:=a8),rfl,rfl,_,rfl,?_⟩;refine⟨[.z 0 [],i64 6,i64 0],rfl,rfl,?_⟩;refine⟨_,_,?_,B4.refl _,q6.refl _⟩;exact⟨_,rfl,[.k 0,.k 1,.k 2,.k 3],rfl,⟨_,rfl,rfl⟩,⟨_,rfl,rfl⟩,⟨_,rfl,rfl⟩,⟨_,rfl,rfl⟩,tq⟩
theorem VZ {t' o7 p7:Int} {q5:Bool} {lk' li' lb':Nat} {vk' vi' vb':List Value} {t mode pad:Int} {back:Bool} {k:Nat} {xs:List V} {iv a8:Bs}:
  a6 C 104 [.p (.k 0) 0,.a [i64 3,i64 t',i64 o7,i64 p7,bool q5,.z lk' vk',.z li' vi',.z lb' vb']] [C6 t mode pad back k xs iv a8,.dead,.dead,.dead] (.ret (.a [.z 0 [],i64 6,i64 0])) [C6 t mode pad back k xs iv a8,.dead,.dead,.dead]:=by
 refine P4.p ?_;refine⟨⟨[(2,.p (.k 4) 0),(3,.p (.k 5) 0),(4,.p (.k 6) 0),(5,.f (.func 160) [] [.p (.k 4) 0,.p (.k 6) 0])],[_,_,_,_,_,_,_]⟩,⟨[.k 0,.k 1,.k 2,.k 3,.d 2 0,.d 3 0,.d 4 0],⟨rfl,rfl,rfl,rfl,tq⟩,⟨_,rfl,rfl⟩,⟨_,rfl,rfl⟩,⟨_,rfl,rfl⟩,⟨_,rfl,rfl⟩,⟨_,rfl,rfl⟩,⟨_,rfl,rfl⟩,⟨_,rfl,rfl⟩,tq⟩,_,_,rfl,rfl,?_⟩;refine⟨_,rfl,?_⟩;refine⟨_,rfl,?_⟩;refine⟨[.k 0,.k 1],_,_,_,_,HJ,rfl,rfl,?_⟩;refine⟨Za rfl,?_⟩;refine⟨Za rfl,?_⟩;refine⟨[.z 0 [],i64 6,i64 0],rfl,rfl,?_⟩;refine⟨Za rfl,?_⟩;refine⟨[.k 4,.k 6,.k 0,.k 1],_,_,_,_,mI (o:=some (0,[])) (a8:=a8),rfl,rfl,_,rfl,?_⟩;refine⟨[.z 0 [],i64 6,i64 0],rfl,rfl,?_⟩;refine⟨_,_,?_,B4.refl _,q6.refl _⟩;exact⟨_,rfl,[.k 0,.k 1,.k 2,.k 3],rfl,⟨_,rfl,rfl⟩,⟨_,rfl,rfl⟩,⟨_,rfl,rfl⟩,⟨_,rfl,rfl⟩,tq⟩
theorem Wa {t' o7 p7:Int} {q5:Bool} {lk' li' lb':Nat} {vk' vi' vb':List Value}:
  a6 C 104 [.p (.k 0) 0,.a [i64 4,i64 t',i64 o7,i64 p7,bool q5,.z lk' vk',.z li' vi',.z lb' vb']] [m6 false false 0 0 0 false i6 d9 i6 d9 d9,.dead,.dead,.dead] (.ret (.a [.z 0 [],i64 6,i64 0])) [m6 false false 0 0 0 false i6 d9 i6 d9 d9,.dead,.dead,.dead]:=by
 refine a6.wka (P4.p ?_) (.cons .nl (.cons (.refl _) (.cons (.refl _) .nil)));refine⟨⟨[(2,.p (.k 4) 0),(3,.p (.k 5) 0),(4,.p (.k 6) 0),(5,.f (.func 160) [] [.p (.k 4) 0,.p (.k 6) 0])],[_,_,_,_,_,_,_]⟩,⟨[.k 0,.k 1,.k 2,.k 3,.d 2 0,.d 3 0,.d 4 0],⟨rfl,rfl,rfl,rfl,tq⟩,⟨_,rfl,rfl⟩,⟨_,rfl,rfl⟩,⟨_,rfl,rfl⟩,⟨_,rfl,rfl⟩,⟨_,rfl,rfl⟩,⟨_,rfl,rfl⟩,⟨_,rfl,rfl⟩,tq⟩,_,_,rfl,rfl,?_⟩;refine⟨_,rfl,?_⟩;refine⟨_,rfl,?_⟩;refine⟨[.k 0],_,_,_,_,Ia,rfl,rfl,?_⟩;refine⟨Za rfl,?_⟩;refine⟨[.slice none 0 0,.int .i64 6,.int .i64 0],rfl,rfl,?_⟩;refine⟨Za rfl,?_⟩;refine⟨[.k 4,.k 6,.k 0],_,_,_,_,mH (o:=none),rfl,rfl,_,rfl,?_⟩;refine⟨[d9,i64 6,i64 0],rfl,rfl,?_⟩;refine⟨_,_,?_,B4.refl _,q6.refl _⟩;exact⟨_,rfl,[.k 0,.k 1,.k 2,.k 3],rfl,⟨_,rfl,rfl⟩,⟨_,rfl,rfl⟩,⟨_,rfl,rfl⟩,⟨_,rfl,rfl⟩,tq⟩
theorem VT {t' o7 p7:Int} {q5:Bool} {k' s':Nat} {xs' rs':List V} {key' iv':Bs} {lk' li' lb':Nat} {vb':List Value} (h:j5 t' key' s' k' xs' rs') (hk:key'.length=lk') (hlk:lk'<=1000) (hi:iv'.length=li') (ok:A2 s' o7 p7 iv'):
  a6 C 104 [.p (.k 0) 0,.a [i64 1,i64 t',i64 o7,i64 p7,bool q5,.z lk' (bv key'),.z li' (bv iv'),.z lb' vb']] [m6 false false 0 0 0 false i6 d9 i6 d9 d9,.dead,.dead,.dead] (.ret (.a [.z 0 [],i64 0,i64 0])) [m6 true true t' o7 p7 q5 (c9 t' k' xs') (.z iv'.length (bv iv')) (.p (.k 4) 0) d9 (.z iv'.length (bv iv')),.dead,.dead,.dead,f8 (c9 t' k' xs') (i9 o7) q5 ⟨iv',[],[]⟩ 5,.dead,.dead]:=by
 have IN:=yk h (back:=q5) hk hlk hi ok;refine a6.wka (P4.p ?_) (.cons .nl (.cons (.refl _) (.cons (.refl _) .nil)));refine⟨⟨[(2,.p (.k 4) 0),(3,.p (.k 5) 0),(4,.p (.k 6) 0),(5,.f (.func 160) [] [.p (.k 4) 0,.p (.k 6) 0])],[_,_,_,_,_,_,_]⟩,⟨[.k 0,.k 1,.k 2,.k 3,.d 2 0,.d 3 0,.d 4 0],⟨rfl,rfl,rfl,rfl,tq⟩,⟨_,rfl,rfl⟩,⟨_,rfl,rfl⟩,⟨_,rfl,rfl⟩,⟨_,rfl,rfl⟩,⟨_,rfl,rfl⟩,⟨_,rfl,rfl⟩,⟨_,rfl,rfl⟩,tq⟩,_,_,rfl,rfl,?_⟩;refine⟨_,rfl,?_⟩;refine⟨_,rfl,?_⟩;refine⟨[i64 t',i64 o7,i64 p7,bool q5],rfl,rfl,?_⟩;refine⟨_,rfl,?_⟩;refine⟨_,rfl,?_⟩;refine⟨[.k 0],_,_,_,_,IN,rfl,rfl,?_⟩;refine⟨Za rfl,?_⟩;refine⟨[.slice none 0 0,.int .i64 0,.int .i64 0],rfl,rfl,?_⟩;refine⟨Za rfl,?_⟩;refine⟨[.k 4,.k 6,.k 0,.d 18 1,.d 18 2,.d 18 3],_,_,_,_,aR (o:=none) (st:=⟨iv',[],[]⟩) (a8:=iv') (x:= .n),rfl,rfl,_,rfl,?_⟩;refine⟨[d9,i64 0,i64 0],rfl,rfl,?_⟩;refine⟨_,_,?_,B4.refl _,q6.refl _⟩;exact⟨_,rfl,[.k 0,.k 1,.k 2,.k 3,.d 18 1,.d 18 2,.d 18 3],rfl,⟨_,rfl,rfl⟩,⟨_,rfl,rfl⟩,⟨_,rfl,rfl⟩,⟨_,rfl,rfl⟩,⟨_,rfl,rfl⟩,⟨_,rfl,rfl⟩,⟨_,rfl,rfl⟩,tq⟩
theorem Cg {t' o7 p7:Int} {q5:Bool} {k' s':Nat} {xs' rs':List V} {key' iv':Bs} {lk' li' lb':Nat} {vb':List Value} (h:j5 t' key' s' k' xs' rs') (hk:key'.length=lk') (hlk:lk'<=1000) (hi:iv'.length=li') (ok:A2 s' o7 p7 iv') {t mode pad:Int} {back:Bool} {k:Nat} {xs:List V} {iv a8:Bs} {st:MS} {x:HK}:
  a6 C 104 [.p (.k 0) 0,.a [i64 1,i64 t',i64 o7,i64 p7,bool q5,.z lk' (bv key'),.z li' (bv iv'),.z lb' vb']] [j8 true t mode pad back k xs iv x a8,f8 (c9 t k xs) (i9 mode) back st 2,g9 st.row st.gone,x.b] (.ret (.a [.z 0 [],i64 0,i64 0])) [m6 true true t' o7 p7 q5 (c9 t' k' xs') (.z iv'.length (bv iv')) (.p (.k 4) 0) d9 (.z iv'.length (bv iv')),.dead,.dead,.dead,f8 (c9 t' k' xs') (i9 o7) q5 ⟨iv',[],[]⟩ 5,.dead,.dead]:=by
 have IN:=(HW h (back:=q5) (t0:=t) (mode0:=mode) (pad0:=pad) (md0:=i9 mode) (op:=true) (E9:=back) (k0:=k) (xs0:=xs) (iv0:=iv) (D3:=a8) (st0:=st) (x0:=x) hk hlk hi ok).fg (.keep (.drop (.drop (.drop (.keep (.keep (.keep .nil)))))));obtain⟨ch,row,g⟩:=st;rcases row with _|⟨a,r⟩<;>rcases x with _|H|H;all_goals
  refine a6.wka (P4.p ?_) (.cons .nl (.cons (.refl _) (.cons (.refl _) .nil)));refine⟨⟨[(2,.p (.k 4) 0),(3,.p (.k 5) 0),(4,.p (.k 6) 0),(5,.f (.func 160) [] [.p (.k 4) 0,.p (.k 6) 0])],[_,_,_,_,_,_,_]⟩,⟨[.k 0,.k 1,.k 2,.k 3,.d 2 0,.d 3 0,.d 4 0],⟨rfl,rfl,rfl,rfl,tq⟩,⟨_,rfl,rfl⟩,⟨_,rfl,rfl⟩,⟨_,rfl,rfl⟩,⟨_,rfl,rfl⟩,⟨_,rfl,rfl⟩,⟨_,rfl,rfl⟩,⟨_,rfl,rfl⟩,tq⟩,_,_,rfl,rfl,?_⟩;refine⟨_,rfl,?_⟩;refine⟨_,rfl,?_⟩;refine⟨[i64 t',i64 o7,i64 p7,bool q5],rfl,rfl,?_⟩;refine⟨_,rfl,?_⟩;refine⟨_,rfl,?_⟩;refine⟨[.k 0,.k 1,.k 2,.k 3],_,_,_,_,IN,rfl,rfl,?_⟩;refine⟨Za rfl,?_⟩;refine⟨[.slice none 0 0,.int .i64 0,.int .i64 0],rfl,rfl,?_⟩;refine⟨Za rfl,?_⟩;refine⟨[.k 4,.k 6,.k 0,.d 18 4,.d 18 5,.d 18 6],_,_,_,_,aR (o:=none) (st:=⟨iv',[],[]⟩) (a8:=iv') (x:= .n),rfl,rfl,_,rfl,?_⟩;refine⟨[d9,i64 0,i64 0],rfl,rfl,?_⟩;refine⟨_,_,?_,B4.refl _,q6.refl _⟩;exact⟨_,rfl,[.k 0,.k 1,.k 2,.k 3,.d 18 4,.d 18 5,.d 18 6],rfl,⟨_,rfl,rfl⟩,⟨_,rfl,rfl⟩,⟨_,rfl,rfl⟩,⟨_,rfl,rfl⟩,⟨_,rfl,rfl⟩,⟨_,rfl,rfl⟩,⟨_,rfl,rfl⟩,tq⟩
theorem VU {t' o7 p7:Int} {q5:Bool} {k' s':Nat} {xs' rs':List V} {key' iv':Bs} {lk' li' lb':Nat} {vb':List Value} (h:j5 t' key' s' k' xs' rs') (hk:key'.length=lk') (hlk:lk'<=1000) (hi:iv'.length=li') (ok:A2 s' o7 p7 iv') {t mode pad:Int} {back:Bool} {k:Nat} {xs:List V} {iv a8:Bs}:
  a6 C 104 [.p (.k 0) 0,.a [i64 1,i64 t',i64 o7,i64 p7,bool q5,.z lk' (bv key'),.z li' (bv iv'),.z lb' vb']] [C6 t mode pad back k xs iv a8,.dead,.dead,.dead] (.ret (.a [.z 0 [],i64 0,i64 0])) [m6 true true t' o7 p7 q5 (c9 t' k' xs') (.z iv'.length (bv iv')) (.p (.k 4) 0) d9 (.z iv'.length (bv iv')),.dead,.dead,.dead,f8 (c9 t' k' xs') (i9 o7) q5 ⟨iv',[],[]⟩ 5,.dead,.dead]:=by
 have IN:=HX h (back:=q5) (t0:=t) (mode0:=mode) (pad0:=pad) (E9:=back) (k0:=k) (xs0:=xs) (iv0:=iv) (D3:=a8) hk hlk hi ok;refine a6.wka (P4.p ?_) (.cons .nl (.cons (.refl _) (.cons (.refl _) .nil)));refine⟨⟨[(2,.p (.k 4) 0),(3,.p (.k 5) 0),(4,.p (.k 6) 0),(5,.f (.func 160) [] [.p (.k 4) 0,.p (.k 6) 0])],[_,_,_,_,_,_,_]⟩,⟨[.k 0,.k 1,.k 2,.k 3,.d 2 0,.d 3 0,.d 4 0],⟨rfl,rfl,rfl,rfl,tq⟩,⟨_,rfl,rfl⟩,⟨_,rfl,rfl⟩,⟨_,rfl,rfl⟩,⟨_,rfl,rfl⟩,⟨_,rfl,rfl⟩,⟨_,rfl,rfl⟩,⟨_,rfl,rfl⟩,tq⟩,_,_,rfl,rfl,?_⟩;refine⟨_,rfl,?_⟩;refine⟨_,rfl,?_⟩;refine⟨[i64 t',i64 o7,i64 p7,bool q5],rfl,rfl,?_⟩;refine⟨_,rfl,?_⟩;refine⟨_,rfl,?_⟩;refine⟨[.k 0,.k 1],_,_,_,_,IN,rfl,rfl,?_⟩;refine⟨Za rfl,?_⟩;refine⟨[.slice none 0 0,.int .i64 0,.int .i64 0],rfl,rfl,?_⟩;refine⟨Za rfl,?_⟩;refine⟨[.k 4,.k 6,.k 0,.d 18 2,.d 18 3,.d 18 4],_,_,_,_,aR (o:=none) (st:=⟨iv',[],[]⟩) (a8:=iv') (x:= .n),rfl,rfl,_,rfl,?_⟩;refine⟨[d9,i64 0,i64 0],rfl,rfl,?_⟩;refine⟨_,_,?_,B4.refl _,q6.refl _⟩;exact⟨_,rfl,[.k 0,.k 1,.k 2,.k 3,.d 18 2,.d 18 3,.d 18 4],rfl,⟨_,rfl,rfl⟩,⟨_,rfl,rfl⟩,⟨_,rfl,rfl⟩,⟨_,rfl,rfl⟩,⟨_,rfl,rfl⟩,⟨_,rfl,rfl⟩,⟨_,rfl,rfl⟩,tq⟩
theorem Wc {t' o7 p7:Int} {q5:Bool} {key' iv':Bs} {lk' li' lb':Nat} {vb':List Value} (hk:key'.length=lk') (hlk:lk'<=1000) (hi:iv'.length=li') (he:z6 t' o7 p7 (n9 t').toNat lk' li'≠0):
  a6 C 104 [.p (.k 0) 0,.a [i64 1,i64 t',i64 o7,i64 p7,bool q5,.z lk' (bv key'),.z li' (bv iv'),.z lb' vb']] [m6 false false 0 0 0 false i6 d9 i6 d9 d9,.dead,.dead,.dead] (.ret (.a [.z 0 [],i64 (z6 t' o7 p7 (n9 t').toNat lk' li'),i64 0])) [m6 false false 0 0 0 false i6 d9 i6 d9 d9,.dead,.dead,.dead]:=by
 have IN:=yl (back:=q5) hk hlk hi he;generalize z6 t' o7 p7 (n9 t').toNat lk' li'=e at*
 refine a6.wka (P4.p ?_) (.cons .nl (.cons (.refl _) (.cons (.refl _) .nil)));refine⟨⟨[(2,.p (.k 4) 0),(3,.p (.k 5) 0),(4,.p (.k 6) 0),(5,.f (.func 160) [] [.p (.k 4) 0,.p (.k 6) 0])],[_,_,_,_,_,_,_]⟩,⟨[.k 0,.k 1,.k 2,.k 3,.d 2 0,.d 3 0,.d 4 0],⟨rfl,rfl,rfl,rfl,tq⟩,⟨_,rfl,rfl⟩,⟨_,rfl,rfl⟩,⟨_,rfl,rfl⟩,⟨_,rfl,rfl⟩,⟨_,rfl,rfl⟩,⟨_,rfl,rfl⟩,⟨_,rfl,rfl⟩,tq⟩,_,_,rfl,rfl,?_⟩;refine⟨_,rfl,?_⟩;refine⟨_,rfl,?_⟩;refine⟨[i64 t',i64 o7,i64 p7,bool q5],rfl,rfl,?_⟩;refine⟨_,rfl,?_⟩;refine⟨_,rfl,?_⟩;refine⟨[.k 0],_,_,_,_,IN,rfl,rfl,?_⟩;refine⟨Za rfl,?_⟩;refine⟨[.slice none 0 0,.int .i64 e,.int .i64 0],rfl,rfl,?_⟩;refine⟨Za rfl,?_⟩;refine⟨[.k 4,.k 6,.k 0],_,_,_,_,mH (o:=none),rfl,rfl,_,rfl,?_⟩;refine⟨[d9,i64 e,i64 0],rfl,rfl,?_⟩;refine⟨_,_,?_,B4.refl _,q6.refl _⟩;exact⟨_,rfl,[.k 0,.k 1,.k 2,.k 3],rfl,⟨_,rfl,rfl⟩,⟨_,rfl,rfl⟩,⟨_,rfl,rfl⟩,⟨_,rfl,rfl⟩,tq⟩
theorem Ck {t' o7 p7:Int} {q5:Bool} {key' iv':Bs} {lk' li' lb':Nat} {vb':List Value} (hk:key'.length=lk') (hlk:lk'<=1000) (hi:iv'.length=li') (he:z6 t' o7 p7 (n9 t').toNat lk' li'≠0) {t mode pad:Int} {back:Bool} {k:Nat} {xs:List V} {iv a8:Bs} {st:MS} {x:HK}:
  a6 C 104 [.p (.k 0) 0,.a [i64 1,i64 t',i64 o7,i64 p7,bool q5,.z lk' (bv key'),.z li' (bv iv'),.z lb' vb']] [j8 true t mode pad back k xs iv x a8,f8 (c9 t k xs) (i9 mode) back st 2,g9 st.row st.gone,x.b] (.ret (.a [.z 0 [],i64 (z6 t' o7 p7 (n9 t').toNat lk' li'),i64 x.l.length])) [j8 true t mode pad back k xs iv x a8,f8 (c9 t k xs) (i9 mode) back st 2,g9 st.row st.gone,x.b]:=by
 have IN:=HY (back:=q5) (t0:=t) (mode0:=mode) (pad0:=pad) (md0:=i9 mode) (op:=true) (E9:=back) (k0:=k) (xs0:=xs) (iv0:=iv) (D3:=a8) (st0:=st) (x0:=x) hk hlk hi he;generalize z6 t' o7 p7 (n9 t').toNat lk' li'=e at*
 obtain⟨ch,row,g⟩:=st;rcases row with _|⟨a,r⟩<;>rcases x with _|H|H;all_goals
  refine a6.wka (P4.p ?_) (.cons .nl (.cons (.refl _) (.cons (.refl _) .nil)));refine⟨⟨[(2,.p (.k 4) 0),(3,.p (.k 5) 0),(4,.p (.k 6) 0),(5,.f (.func 160) [] [.p (.k 4) 0,.p (.k 6) 0])],[_,_,_,_,_,_,_]⟩,⟨[.k 0,.k 1,.k 2,.k 3,.d 2 0,.d 3 0,.d 4 0],⟨rfl,rfl,rfl,rfl,tq⟩,⟨_,rfl,rfl⟩,⟨_,rfl,rfl⟩,⟨_,rfl,rfl⟩,⟨_,rfl,rfl⟩,⟨_,rfl,rfl⟩,⟨_,rfl,rfl⟩,⟨_,rfl,rfl⟩,tq⟩,_,_,rfl,rfl,?_⟩;refine⟨_,rfl,?_⟩;refine⟨_,rfl,?_⟩;refine⟨[i64 t',i64 o7,i64 p7,bool q5],rfl,rfl,?_⟩;refine⟨_,rfl,?_⟩;refine⟨_,rfl,?_⟩;refine⟨[.k 0,.k 1,.k 2,.k 3],_,_,_,_,IN,rfl,rfl,?_⟩;refine⟨Za rfl,?_⟩;first
   |refine⟨[.slice none 0 0,.int .i64 e,.int .i64 0],rfl,rfl,?_⟩
    refine⟨Za rfl,?_⟩;refine⟨[.k 4,.k 6,.k 0,.k 1,.k 2,.k 3],_,_,_,_,aR (o:=none) (a8:=a8) (x:= .n),rfl,rfl,_,rfl,?_⟩;refine⟨[d9,i64 e,i64 0],rfl,rfl,?_⟩;refine⟨_,_,?_,B4.refl _,q6.refl _⟩;exact⟨_,rfl,[.k 0,.k 1,.k 2,.k 3],rfl,⟨_,rfl,rfl⟩,⟨_,rfl,rfl⟩,⟨_,rfl,rfl⟩,⟨_,rfl,rfl⟩,tq⟩
   |refine⟨[.slice none 0 0,.int .i64 e,.int .i64 0],rfl,rfl,?_⟩
    refine⟨Za rfl,?_⟩;refine⟨[.k 4,.k 6,.k 0,.k 1,.k 2,.k 3],_,_,_,_,aR (o:=none) (a8:=a8) (x:=(.o H)),rfl,rfl,_,rfl,?_⟩;refine⟨[d9,i64 e,i64 H.length],rfl,rfl,?_⟩;refine⟨_,_,?_,B4.refl _,q6.refl _⟩;exact⟨_,rfl,[.k 0,.k 1,.k 2,.k 3],rfl,⟨_,rfl,rfl⟩,⟨_,rfl,rfl⟩,⟨_,rfl,rfl⟩,⟨_,rfl,rfl⟩,tq⟩
   |refine⟨[.slice none 0 0,.int .i64 e,.int .i64 0],rfl,rfl,?_⟩
    refine⟨Za rfl,?_⟩;refine⟨[.k 4,.k 6,.k 0,.k 1,.k 2,.k 3],_,_,_,_,aR (o:=none) (a8:=a8) (x:=(.f H)),rfl,rfl,_,rfl,?_⟩;refine⟨[d9,i64 e,i64 H.length],rfl,rfl,?_⟩;refine⟨_,_,?_,B4.refl _,q6.refl _⟩;exact⟨_,rfl,[.k 0,.k 1,.k 2,.k 3],rfl,⟨_,rfl,rfl⟩,⟨_,rfl,rfl⟩,⟨_,rfl,rfl⟩,⟨_,rfl,rfl⟩,tq⟩
theorem Wd {t' o7 p7:Int} {q5:Bool} {key' iv':Bs} {lk' li' lb':Nat} {vb':List Value} (hk:key'.length=lk') (hlk:lk'<=1000) (hi:iv'.length=li') (he:z6 t' o7 p7 (n9 t').toNat lk' li'≠0) {t mode pad:Int} {back:Bool} {k:Nat} {xs:List V} {iv a8:Bs}:
  a6 C 104 [.p (.k 0) 0,.a [i64 1,i64 t',i64 o7,i64 p7,bool q5,.z lk' (bv key'),.z li' (bv iv'),.z lb' vb']] [C6 t mode pad back k xs iv a8,.dead,.dead,.dead] (.ret (.a [.z 0 [],i64 (z6 t' o7 p7 (n9 t').toNat lk' li'),i64 0])) [C6 t mode pad back k xs iv a8,.dead,.dead,.dead]:=by
 have IN:=HZ (back:=q5) (t0:=t) (mode0:=mode) (pad0:=pad) (E9:=back) (k0:=k) (xs0:=xs) (iv0:=iv) (D3:=a8) hk hlk hi he;generalize z6 t' o7 p7 (n9 t').toNat lk' li'=e at*
 refine a6.wka (P4.p ?_) (.cons .nl (.cons (.refl _) (.cons (.refl _) .nil)));refine⟨⟨[(2,.p (.k 4) 0),(3,.p (.k 5) 0),(4,.p (.k 6) 0),(5,.f (.func 160) [] [.p (.k 4) 0,.p (.k 6) 0])],[_,_,_,_,_,_,_]⟩,⟨[.k 0,.k 1,.k 2,.k 3,.d 2 0,.d 3 0,.d 4 0],⟨rfl,rfl,rfl,rfl,tq⟩,⟨_,rfl,rfl⟩,⟨_,rfl,rfl⟩,⟨_,rfl,rfl⟩,⟨_,rfl,rfl⟩,⟨_,rfl,rfl⟩,⟨_,rfl,rfl⟩,⟨_,rfl,rfl⟩,tq⟩,_,_,rfl,rfl,?_⟩;refine⟨_,rfl,?_⟩;refine⟨_,rfl,?_⟩;refine⟨[i64 t',i64 o7,i64 p7,bool q5],rfl,rfl,?_⟩;refine⟨_,rfl,?_⟩;refine⟨_,rfl,?_⟩;refine⟨[.k 0,.k 1],_,_,_,_,IN,rfl,rfl,?_⟩;refine⟨Za rfl,?_⟩;refine⟨[.slice none 0 0,.int .i64 e,.int .i64 0],rfl,rfl,?_⟩;refine⟨Za rfl,?_⟩;refine⟨[.k 4,.k 6,.k 0,.k 1],_,_,_,_,mI (o:=none) (a8:=a8),rfl,rfl,_,rfl,?_⟩;refine⟨[d9,i64 e,i64 0],rfl,rfl,?_⟩;refine⟨_,_,?_,B4.refl _,q6.refl _⟩;exact⟨_,rfl,[.k 0,.k 1,.k 2,.k 3],rfl,⟨_,rfl,rfl⟩,⟨_,rfl,rfl⟩,⟨_,rfl,rfl⟩,⟨_,rfl,rfl⟩,tq⟩
theorem Cj {t' o7 p7:Int} {q5:Bool} {lk' li' lb':Nat} {vk' vi' vb':List Value} {t mode pad:Int} {back:Bool} {k:Nat} {xs:List V} {iv a8:Bs} {st:MS} {x:HK} {s:Nat} {rs:List V} {key:Bs} (h:j5 t key s k xs rs) (ok:A2 s mode pad iv):
  a6 C 104 [.p (.k 0) 0,.a [i64 4,i64 t',i64 o7,i64 p7,bool q5,.z lk' vk',.z li' vi',.z lb' vb']] [j8 true t mode pad back k xs iv x a8,f8 (c9 t k xs) (i9 mode) back st 2,g9 st.row st.gone,x.b] (.ret (.a [.z 0 [],i64 0,i64 0])) [m6 true true t mode pad back (c9 t k xs) (.z iv.length (bv iv)) (.p (.k 4) 0) d9 (.z iv.length (bv iv)),.dead,.dead,.dead,f8 (c9 t k xs) (i9 mode) back ⟨iv,[],[]⟩ 5,.dead,.dead]:=by
 have IN:=(Ib h (md0:=i9 mode) (op:=true) (back:=back) (D3:=a8) (st0:=st) (x0:=x) ok).fg (.keep (.drop (.drop (.drop (.keep (.keep (.keep .nil)))))));obtain⟨ch,row,g⟩:=st;rcases row with _|⟨a,r⟩<;>rcases x with _|H|H;all_goals
  refine a6.wka (P4.p ?_) (.cons .nl (.cons (.refl _) (.cons (.refl _) .nil)));refine⟨⟨[(2,.p (.k 4) 0),(3,.p (.k 5) 0),(4,.p (.k 6) 0),(5,.f (.func 160) [] [.p (.k 4) 0,.p (.k 6) 0])],[_,_,_,_,_,_,_]⟩,⟨[.k 0,.k 1,.k 2,.k 3,.d 2 0,.d 3 0,.d 4 0],⟨rfl,rfl,rfl,rfl,tq⟩,⟨_,rfl,rfl⟩,⟨_,rfl,rfl⟩,⟨_,rfl,rfl⟩,⟨_,rfl,rfl⟩,⟨_,rfl,rfl⟩,⟨_,rfl,rfl⟩,⟨_,rfl,rfl⟩,tq⟩,_,_,rfl,rfl,?_⟩;refine⟨_,rfl,?_⟩;refine⟨_,rfl,?_⟩;refine⟨[.k 0,.k 1,.k 2,.k 3],_,_,_,_,IN,rfl,rfl,?_⟩;refine⟨Za rfl,?_⟩;refine⟨[.slice none 0 0,.int .i64 0,.int .i64 0],rfl,rfl,?_⟩;refine⟨Za rfl,?_⟩;refine⟨[.k 4,.k 6,.k 0,.d 43 4,.d 43 5,.d 43 6],_,_,_,_,aR (o:=none) (st:=⟨iv,[],[]⟩) (a8:=iv) (x:= .n),rfl,rfl,_,rfl,?_⟩;refine⟨[d9,i64 0,i64 0],rfl,rfl,?_⟩;refine⟨_,_,?_,B4.refl _,q6.refl _⟩;exact⟨_,rfl,[.k 0,.k 1,.k 2,.k 3,.d 43 4,.d 43 5,.d 43 6],rfl,⟨_,rfl,rfl⟩,⟨_,rfl,rfl⟩,⟨_,rfl,rfl⟩,⟨_,rfl,rfl⟩,⟨_,rfl,rfl⟩,⟨_,rfl,rfl⟩,⟨_,rfl,rfl⟩,tq⟩
theorem Wb {t' o7 p7:Int} {q5:Bool} {lk' li' lb':Nat} {vk' vi' vb':List Value} {t mode pad:Int} {back:Bool} {k:Nat} {xs:List V} {iv a8:Bs} {s:Nat} {rs:List V} {key:Bs} (h:j5 t key s k xs rs) (ok:A2 s mode pad iv):
  a6 C 104 [.p (.k 0) 0,.a [i64 4,i64 t',i64 o7,i64 p7,bool q5,.z lk' vk',.z li' vi',.z lb' vb']] [C6 t mode pad back k xs iv a8,.dead,.dead,.dead] (.ret (.a [.z 0 [],i64 0,i64 0])) [m6 true true t mode pad back (c9 t k xs) (.z iv.length (bv iv)) (.p (.k 4) 0) d9 (.z iv.length (bv iv)),.dead,.dead,.dead,f8 (c9 t k xs) (i9 mode) back ⟨iv,[],[]⟩ 5,.dead,.dead]:=by
 have IN:=Ic h (back:=back) (D3:=a8) ok;refine a6.wka (P4.p ?_) (.cons .nl (.cons (.refl _) (.cons (.refl _) .nil)));refine⟨⟨[(2,.p (.k 4) 0),(3,.p (.k 5) 0),(4,.p (.k 6) 0),(5,.f (.func 160) [] [.p (.k 4) 0,.p (.k 6) 0])],[_,_,_,_,_,_,_]⟩,⟨[.k 0,.k 1,.k 2,.k 3,.d 2 0,.d 3 0,.d 4 0],⟨rfl,rfl,rfl,rfl,tq⟩,⟨_,rfl,rfl⟩,⟨_,rfl,rfl⟩,⟨_,rfl,rfl⟩,⟨_,rfl,rfl⟩,⟨_,rfl,rfl⟩,⟨_,rfl,rfl⟩,⟨_,rfl,rfl⟩,tq⟩,_,_,rfl,rfl,?_⟩;refine⟨_,rfl,?_⟩;refine⟨_,rfl,?_⟩;refine⟨[.k 0,.k 1],_,_,_,_,IN,rfl,rfl,?_⟩;refine⟨Za rfl,?_⟩;refine⟨[.slice none 0 0,.int .i64 0,.int .i64 0],rfl,rfl,?_⟩;refine⟨Za rfl,?_⟩;refine⟨[.k 4,.k 6,.k 0,.d 43 2,.d 43 3,.d 43 4],_,_,_,_,aR (o:=none) (st:=⟨iv,[],[]⟩) (a8:=iv) (x:= .n),rfl,rfl,_,rfl,?_⟩;refine⟨[d9,i64 0,i64 0],rfl,rfl,?_⟩;refine⟨_,_,?_,B4.refl _,q6.refl _⟩;exact⟨_,rfl,[.k 0,.k 1,.k 2,.k 3,.d 43 2,.d 43 3,.d 43 4],rfl,⟨_,rfl,rfl⟩,⟨_,rfl,rfl⟩,⟨_,rfl,rfl⟩,⟨_,rfl,rfl⟩,⟨_,rfl,rfl⟩,⟨_,rfl,rfl⟩,⟨_,rfl,rfl⟩,tq⟩
theorem Ch {t' o7 p7:Int} {q5:Bool} {lk' li' lb':Nat} {vk' vi' vb':List Value} {t mode pad:Int} {back:Bool} {k:Nat} {xs:List V} {iv a8:Bs} {st:MS} {x:HK} {st':MS} {m8 H' o':Bs} {n':Nat} (U:a6 C 33 [.p (.k 0) 0,.z lb' vb'] [j8 true t mode pad back k xs iv x a8,f8 (c9 t k xs) (i9 mode) back st 2,g9 st.row st.gone,x.b] (.ret (.t [.z n' (bv o'),i64 0])) [m6 true true t mode pad back (c9 t k xs) (.z iv.length (bv iv)) (.p (.k 1) 0) (.o 1 (.k 5) 0 H'.length) (.z m8.length (bv m8)),f8 (c9 t k xs) (i9 mode) back st' 4,.dead,.dead,g9 st'.row st'.gone,.sc (bv H')]):
  a6 C 104 [.p (.k 0) 0,.a [i64 2,i64 t',i64 o7,i64 p7,bool q5,.z lk' vk',.z li' vi',.z lb' vb']] [j8 true t mode pad back k xs iv x a8,f8 (c9 t k xs) (i9 mode) back st 2,g9 st.row st.gone,x.b] (.ret (.a [(.z n' (bv o')),i64 0,i64 H'.length])) [m6 true true t mode pad back (c9 t k xs) (.z iv.length (bv iv)) (.p (.k 1) 0) (.o 1 (.k 5) 0 H'.length) (.z m8.length (bv m8)),f8 (c9 t k xs) (i9 mode) back st' 4,.dead,.dead,g9 st'.row st'.gone,.sc (bv H')]:=by
 obtain⟨ch,row,g⟩:=st;obtain⟨ch',row',g'⟩:=st';rcases row with _|⟨a,r⟩<;>rcases row' with _|⟨a',r'⟩<;>rcases x with _|H|H;all_goals
  refine P4.p ?_;refine⟨⟨[(2,.p (.k 4) 0),(3,.p (.k 5) 0),(4,.p (.k 6) 0),(5,.f (.func 160) [] [.p (.k 4) 0,.p (.k 6) 0])],[_,_,_,_,_,_,_]⟩,⟨[.k 0,.k 1,.k 2,.k 3,.d 2 0,.d 3 0,.d 4 0],⟨rfl,rfl,rfl,rfl,tq⟩,⟨_,rfl,rfl⟩,⟨_,rfl,rfl⟩,⟨_,rfl,rfl⟩,⟨_,rfl,rfl⟩,⟨_,rfl,rfl⟩,⟨_,rfl,rfl⟩,⟨_,rfl,rfl⟩,tq⟩,_,_,rfl,rfl,?_⟩;refine⟨_,rfl,?_⟩;refine⟨_,rfl,?_⟩;refine⟨_,rfl,?_⟩;refine⟨[.k 0,.k 1,.k 2,.k 3],_,_,_,_,U,rfl,rfl,?_⟩;refine⟨Za rfl,?_⟩;refine⟨Za rfl,?_⟩;refine⟨[.z n' (bv o'),i64 0,i64 0],rfl,rfl,?_⟩;refine⟨Za rfl,?_⟩;refine⟨[.k 4,.k 6,.k 0,.k 1,.d 26 4,.d 26 5],_,_,_,_,aR (o:=some (n',bv o')) (a8:=m8) (x:= .o H'),rfl,rfl,_,rfl,?_⟩;refine⟨[.z n' (bv o'),i64 0,i64 H'.length],rfl,rfl,?_⟩;refine⟨_,_,?_,B4.refl _,q6.refl _⟩;exact⟨_,rfl,[.k 0,.k 1,.k 2,.k 3,.d 26 4,.d 26 5],rfl,⟨_,rfl,rfl⟩,⟨_,rfl,rfl⟩,⟨_,rfl,rfl⟩,⟨_,rfl,rfl⟩,⟨_,rfl,rfl⟩,⟨_,rfl,rfl⟩,tq⟩
theorem VW {t' o7 p7:Int} {q5:Bool} {lk' li' lb':Nat} {vk' vi' vb':List Value} {t mode pad:Int} {back:Bool} {k:Nat} {xs:List V} {iv a8:Bs} {st:MS} {x:HK} {st':MS} {m8 H' o':Bs} {n':Nat} (U:a6 C 33 [.p (.k 0) 0,.z lb' vb'] [j8 true t mode pad back k xs iv x a8,f8 (c9 t k xs) (i9 mode) back st 2,g9 st.row st.gone,x.b] (.ret (.t [.z n' (bv o'),i64 0])) [m6 true true t mode pad back (c9 t k xs) (.z iv.length (bv iv)) (.p (.k 1) 0) (.o 1 (.k 4) 0 H'.length) (.z m8.length (bv m8)),f8 (c9 t k xs) (i9 mode) back st' 2,g9 st'.row st'.gone,.dead,.sc (bv H')]):
  a6 C 104 [.p (.k 0) 0,.a [i64 2,i64 t',i64 o7,i64 p7,bool q5,.z lk' vk',.z li' vi',.z lb' vb']] [j8 true t mode pad back k xs iv x a8,f8 (c9 t k xs) (i9 mode) back st 2,g9 st.row st.gone,x.b] (.ret (.a [(.z n' (bv o')),i64 0,i64 H'.length])) [m6 true true t mode pad back (c9 t k xs) (.z iv.length (bv iv)) (.p (.k 1) 0) (.o 1 (.k 4) 0 H'.length) (.z m8.length (bv m8)),f8 (c9 t k xs) (i9 mode) back st' 2,g9 st'.row st'.gone,.dead,.sc (bv H')]:=by
 obtain⟨ch,row,g⟩:=st;obtain⟨ch',row',g'⟩:=st';rcases row with _|⟨a,r⟩<;>rcases row' with _|⟨a',r'⟩<;>rcases x with _|H|H;all_goals
  refine P4.p ?_;refine⟨⟨[(2,.p (.k 4) 0),(3,.p (.k 5) 0),(4,.p (.k 6) 0),(5,.f (.func 160) [] [.p (.k 4) 0,.p (.k 6) 0])],[_,_,_,_,_,_,_]⟩,⟨[.k 0,.k 1,.k 2,.k 3,.d 2 0,.d 3 0,.d 4 0],⟨rfl,rfl,rfl,rfl,tq⟩,⟨_,rfl,rfl⟩,⟨_,rfl,rfl⟩,⟨_,rfl,rfl⟩,⟨_,rfl,rfl⟩,⟨_,rfl,rfl⟩,⟨_,rfl,rfl⟩,⟨_,rfl,rfl⟩,tq⟩,_,_,rfl,rfl,?_⟩;refine⟨_,rfl,?_⟩;refine⟨_,rfl,?_⟩;refine⟨_,rfl,?_⟩;refine⟨[.k 0,.k 1,.k 2,.k 3],_,_,_,_,U,rfl,rfl,?_⟩;refine⟨Za rfl,?_⟩;refine⟨Za rfl,?_⟩;refine⟨[.z n' (bv o'),i64 0,i64 0],rfl,rfl,?_⟩;refine⟨Za rfl,?_⟩;refine⟨[.k 4,.k 6,.k 0,.k 1,.k 2,.d 26 4],_,_,_,_,aR (o:=some (n',bv o')) (a8:=m8) (x:= .o H'),rfl,rfl,_,rfl,?_⟩;refine⟨[.z n' (bv o'),i64 0,i64 H'.length],rfl,rfl,?_⟩;refine⟨_,_,?_,B4.refl _,q6.refl _⟩;exact⟨_,rfl,[.k 0,.k 1,.k 2,.k 3,.d 26 4],rfl,⟨_,rfl,rfl⟩,⟨_,rfl,rfl⟩,⟨_,rfl,rfl⟩,⟨_,rfl,rfl⟩,⟨_,rfl,rfl⟩,tq⟩
theorem Ci {t' o7 p7:Int} {q5:Bool} {lk' li' lb':Nat} {vk' vi' vb':List Value} {t mode pad:Int} {back:Bool} {k:Nat} {xs:List V} {iv a8:Bs} {st:MS} {x:HK} {m8 o':Bs} {n':Nat} {e':Int} (U:a6 C 34 [.p (.k 0) 0] [j8 true t mode pad back k xs iv x a8,f8 (c9 t k xs) (i9 mode) back st 2,g9 st.row st.gone,x.b] (.ret (.t [.z n' (bv o'),i64 e'])) [C6 t mode pad back k xs iv m8,.dead,.dead,.dead,.dead]):
  a6 C 104 [.p (.k 0) 0,.a [i64 3,i64 t',i64 o7,i64 p7,bool q5,.z lk' vk',.z li' vi',.z lb' vb']] [j8 true t mode pad back k xs iv x a8,f8 (c9 t k xs) (i9 mode) back st 2,g9 st.row st.gone,x.b] (.ret (.a [(.z n' (bv o')),i64 e',i64 0])) [C6 t mode pad back k xs iv m8,.dead,.dead,.dead]:=by
 obtain⟨ch,row,g⟩:=st;rcases row with _|⟨a,r⟩<;>rcases x with _|H|H;all_goals
  refine P4.p ?_;refine⟨⟨[(2,.p (.k 4) 0),(3,.p (.k 5) 0),(4,.p (.k 6) 0),(5,.f (.func 160) [] [.p (.k 4) 0,.p (.k 6) 0])],[_,_,_,_,_,_,_]⟩,⟨[.k 0,.k 1,.k 2,.k 3,.d 2 0,.d 3 0,.d 4 0],⟨rfl,rfl,rfl,rfl,tq⟩,⟨_,rfl,rfl⟩,⟨_,rfl,rfl⟩,⟨_,rfl,rfl⟩,⟨_,rfl,rfl⟩,⟨_,rfl,rfl⟩,⟨_,rfl,rfl⟩,⟨_,rfl,rfl⟩,tq⟩,_,_,rfl,rfl,?_⟩;refine⟨_,rfl,?_⟩;refine⟨_,rfl,?_⟩;refine⟨[.k 0,.k 1,.k 2,.k 3],_,_,_,_,U,rfl,rfl,?_⟩;refine⟨Za rfl,?_⟩;refine⟨Za rfl,?_⟩;refine⟨[.z n' (bv o'),i64 e',i64 0],rfl,rfl,?_⟩;refine⟨Za rfl,?_⟩;refine⟨[.k 4,.k 6,.k 0,.k 1],_,_,_,_,mI (o:=some (n',bv o')) (a8:=m8),rfl,rfl,_,rfl,?_⟩;refine⟨[.z n' (bv o'),i64 e',i64 0],rfl,rfl,?_⟩;refine⟨_,_,?_,B4.refl _,q6.refl _⟩;exact⟨_,rfl,[.k 0,.k 1,.k 2,.k 3],rfl,⟨_,rfl,rfl⟩,⟨_,rfl,rfl⟩,⟨_,rfl,rfl⟩,⟨_,rfl,rfl⟩,tq⟩
abbrev G7 (x:Cl):List V:=[i64 x.kind,i64 x.c.t,i64 x.c.mode,i64 x.c.pad,bool x.c.back,.z x.c.key.length (bv x.c.key),.z x.c.iv.length (bv x.c.iv),.z x.inp.length (bv x.inp)]
abbrev N9 (τ:To):List V:=[.z τ.out.length (bv τ.out),i64 τ.e,i64 τ.held]
noncomputable def kR:CX->Bs->List B
 | .nw,_=>[m6 false false 0 0 0 false i6 d9 i6 d9 d9,.dead,.dead,.dead]
 | .op c none,_=>[j8 true c.t c.mode c.pad c.back c.k c.xs c.iv .n c.iv,f8 (c9 c.t c.k c.xs) (i9 c.mode) c.back ⟨c.iv,[],[]⟩ 2,.dead,.dead]
 | .op c (some M),_=>[j8 true c.t c.mode c.pad c.back c.k c.xs c.iv (.o (c.H M)) (c.L M),f8 (c9 c.t c.k c.xs) (i9 c.mode) c.back (c.S M) 2,g9 (c.S M).row (c.S M).gone,.sc (bv (c.H M))]
 | .cl c,a8=>[C6 c.t c.mode c.pad c.back c.k c.xs c.iv a8,.dead,.dead,.dead]
noncomputable abbrev CP (c:Cf) (M:Bs):List B:=[m6 true true c.t c.mode c.pad c.back (c9 c.t c.k c.xs) (.z c.iv.length (bv c.iv)) (.p (.k 1) 0) (.o 1 (.k 5) 0 (c.H M).length) (.z (c.L M).length (bv (c.L M))),f8 (c9 c.t c.k c.xs) (i9 c.mode) c.back (c.S M) 4,.dead,.dead,g9 (c.S M).row (c.S M).gone,.sc (bv (c.H M))]
noncomputable abbrev CQ (c:Cf) (M:Bs):List B:=[m6 true true c.t c.mode c.pad c.back (c9 c.t c.k c.xs) (.z c.iv.length (bv c.iv)) (.p (.k 1) 0) (.o 1 (.k 4) 0 (c.H M).length) (.z (c.L M).length (bv (c.L M))),f8 (c9 c.t c.k c.xs) (i9 c.mode) c.back (c.S M) 2,g9 (c.S M).row (c.S M).gone,.dead,.sc (bv (c.H M))]
noncomputable abbrev rN (c:Cf):List B:=[m6 true true c.t c.mode c.pad c.back (c9 c.t c.k c.xs) (.z c.iv.length (bv c.iv)) (.p (.k 4) 0) d9 (.z c.iv.length (bv c.iv)),.dead,.dead,.dead,f8 (c9 c.t c.k c.xs) (i9 c.mode) c.back ⟨c.iv,[],[]⟩ 5,.dead,.dead]
theorem kC:¬((2:Int)=1):=by decide
theorem kD:¬((3:Int)=1):=by decide
theorem kE:¬((3:Int)=2):=by decide
theorem kF:¬((4:Int)=1):=by decide
theorem kG:¬((4:Int)=2):=by decide
theorem kH:¬((4:Int)=3):=by decide
def oe (σ:CX) (a8:Bs) (bs:List B):Prop:=bs=kR σ a8\/(∃c M,σ= .op c (some M)/\bs=CP c M)\/(∃c M,σ= .op c (some M)/\bs=CQ c M)\/(∃c,σ= .op c none/\bs=rN c)
theorem I1 {σ:CX} {x:Cl} {a8:Bs} {r:V} {bs:List B} {o:Bs×Int} {σ':CX} {m8:Bs} (h:a6 C 104 [.p (.k 0) 0,.a (G7 x)] (kR σ a8) (.ret r) bs) (ho:z5 σ x=o) (hn:C4 σ x=σ') (hr:r= .a (N9 ⟨o.1,o.2,qP σ'⟩)) (hl:oe σ' m8 bs):
  ∃m8 bs,oe (C4 σ x) m8 bs/\a6 C 104 [.p (.k 0) 0,.a (G7 x)] (kR σ a8) (.ret (.a (N9 (U1 σ x)))) bs:=by
 refine⟨m8,bs,by rw[hn];exact hl,?_⟩;have e:U1 σ x=⟨o.1,o.2,qP σ'⟩:=by unfold U1;rw[ho,hn]
 rw[e,<-hr];exact h
theorem LU {n:Nat} {σ:CX} {x:Cl} {a8:Bs} (hσ:fA n σ) (hx:gZ x) (hb:n+x.inp.length<=100000):
  ∃m8 bs,oe (C4 σ x) m8 bs/\a6 C 104 [.p (.k 0) 0,.a (G7 x)] (kR σ a8) (.ret (.a (N9 (U1 σ x)))) bs:=by
 obtain⟨hk,hx1,hx2,hx3⟩:=hx;by_cases h1:x.kind=1
 ·obtain⟨kind,c,inp⟩:=x;obtain rfl:kind=1:=h1;by_cases he:c.err=0
  ·obtain⟨⟨rs,h⟩,ok⟩:=Cf.ok he hx1;have ho:∀σ,z5 σ ⟨1,c,inp⟩=([],0):=fun σ=>by unfold z5;rw[if_pos rfl,he]
   have hn:∀σ,C4 σ ⟨1,c,inp⟩= .op c none:=fun σ=>by unfold C4;rw[if_pos rfl,if_pos he]
   have L:oe (.op c none) [] (rN c):= .inr (.inr (.inr ⟨c,rfl,rfl⟩));rcases σ with _|⟨d,_|M⟩|d
   ·exact I1 (VT h rfl hx1 rfl ok) (ho _) (hn _) rfl L
   ·exact I1 (Cg (t:=d.t) (mode:=d.mode) (pad:=d.pad) (back:=d.back) (k:=d.k) (xs:=d.xs) (iv:=d.iv) (a8:=d.iv) (st:=⟨d.iv,[],[]⟩) (x:= .n) h rfl hx1 rfl ok) (ho _) (hn _) rfl L
   ·exact I1 (Cg (t:=d.t) (mode:=d.mode) (pad:=d.pad) (back:=d.back) (k:=d.k) (xs:=d.xs) (iv:=d.iv) (a8:=d.L M) (st:=d.S M) (x:= .o (d.H M)) h rfl hx1 rfl ok) (ho _) (hn _) rfl L
   ·exact I1 (VU (t:=d.t) (mode:=d.mode) (pad:=d.pad) (back:=d.back) (k:=d.k) (xs:=d.xs) (iv:=d.iv) (a8:=a8) h rfl hx1 rfl ok) (ho _) (hn _) rfl L
  ·have ho:∀σ,z5 σ ⟨1,c,inp⟩=([],c.err):=fun σ=>by unfold z5;rw[if_pos rfl]
   have hn:∀σ,C4 σ ⟨1,c,inp⟩=σ:=fun σ=>by unfold C4;rw[if_pos rfl,if_neg he]
   rcases σ with _|⟨d,_|M⟩|d
   ·exact I1 (Wc rfl hx1 rfl he) (ho _) (hn _) rfl (.inl rfl) (m8:=[])
   ·exact I1 (Ck (t:=d.t) (mode:=d.mode) (pad:=d.pad) (back:=d.back) (k:=d.k) (xs:=d.xs) (iv:=d.iv) (a8:=d.iv) (st:=⟨d.iv,[],[]⟩) (x:= .n) rfl hx1 rfl he) (ho _) (hn _) rfl (.inl rfl) (m8:=[])
   ·exact I1 (Ck (t:=d.t) (mode:=d.mode) (pad:=d.pad) (back:=d.back) (k:=d.k) (xs:=d.xs) (iv:=d.iv) (a8:=d.L M) (st:=d.S M) (x:= .o (d.H M)) rfl hx1 rfl he) (ho _) (hn _) rfl (.inl rfl) (m8:=[])
   ·exact I1 (Wd (t:=d.t) (mode:=d.mode) (pad:=d.pad) (back:=d.back) (k:=d.k) (xs:=d.xs) (iv:=d.iv) (a8:=a8) rfl hx1 rfl he) (ho _) (hn _) rfl (.inl rfl)
 by_cases h2:x.kind=2
 ·obtain⟨kind,c,inp⟩:=x;obtain rfl:kind=2:=h2;rcases σ with _|⟨d,m⟩|d
  ·exact I1 (VV) (by unfold z5;rw[if_neg kC,if_pos rfl]) (by unfold C4;rw[if_neg kC,if_pos rfl]) rfl (.inl rfl) (m8:=[])
  ·obtain⟨he,hkl,hml⟩:=hσ;obtain⟨⟨rs,h⟩,ok⟩:=Cf.ok he hkl;have hs:=h.s_le;have hn:C4 (.op d m) ⟨2,c,inp⟩= .op d (some (m.getD []++inp)):=by unfold C4;rw[if_neg kC,if_pos rfl]
   have ho:z5 (.op d m) ⟨2,c,inp⟩=((d.T (m.getD []++inp)).drop (d.T (m.getD [])).length,0):=by unfold z5;rw[if_neg kC,if_pos rfl]
   have hb':(m.getD []).length+inp.length<=100000:=Zi (Nat.add_le_add_right hml _) hb;rcases m with _|M
   ·obtain⟨n1,o,hn1,_,hT,U⟩:=tN h (b:=inp) (back:=d.back) (M:=[]) (x:= .n) ok (.inl ⟨rfl,pe⟩) rfl (by simpa using hb');have U:=U.resolve_right (fun hh=>hh.1 (by rw[jF (by omega) ok]));rw[oD (by omega) ok,jF (by omega) ok]at U;have ho':(d.T ([]++inp)).drop (d.T []).length=o:=by rw[show d.T ([]++inp)=d.T []++o from hT,Je]
    refine I1 (o:=(o,0)) (m8:=[]) (Ch (t:=d.t) (mode:=d.mode) (pad:=d.pad) (back:=d.back) (k:=d.k) (xs:=d.xs) (iv:=d.iv) (a8:=d.iv) (st:=⟨d.iv,[],[]⟩) (x:= .n) U) (by rw[ho];exact congrArg (fun z=>(z,(0:Int))) ho') hn ?_ (.inr (.inl ⟨d,[]++inp,rfl,rfl⟩));rw[<-hn1];rfl
   ·obtain⟨n1,o,hn1,_,hT,U⟩:=tN h (b:=inp) (back:=d.back) (M:=M) (x:= .o (d.H M)) ok (.inr rfl) rfl hb';have ho':(d.T (M++inp)).drop (d.T M).length=o:=by rw[show d.T (M++inp)=d.T M++o from hT,Je]
    rcases U with U|⟨_,U⟩
    ·refine I1 (o:=(o,0)) (m8:=[]) (Ch (t:=d.t) (mode:=d.mode) (pad:=d.pad) (back:=d.back) (k:=d.k) (xs:=d.xs) (iv:=d.iv) (a8:=d.L M) (st:=d.S M) (x:= .o (d.H M)) U) (by rw[ho];exact congrArg (fun z=>(z,(0:Int))) ho') hn ?_ (.inr (.inl ⟨d,M++inp,rfl,rfl⟩));rw[<-hn1];rfl
    ·refine I1 (o:=(o,0)) (m8:=[]) (VW (t:=d.t) (mode:=d.mode) (pad:=d.pad) (back:=d.back) (k:=d.k) (xs:=d.xs) (iv:=d.iv) (a8:=d.L M) (st:=d.S M) (x:= .o (d.H M)) U) (by rw[ho];exact congrArg (fun z=>(z,(0:Int))) ho') hn ?_ (.inr (.inr (.inl ⟨d,M++inp,rfl,rfl⟩)));rw[<-hn1];rfl
  ·exact I1 (VX (a8:=a8)) (by unfold z5;rw[if_neg kC,if_pos rfl]) (by unfold C4;rw[if_neg kC,if_pos rfl]) rfl (.inl rfl)
 by_cases h3:x.kind=3
 ·obtain⟨kind,c,inp⟩:=x;obtain rfl:kind=3:=h3;rcases σ with _|⟨d,m⟩|d
  ·exact I1 (VY) (by unfold z5;rw[if_neg kD,if_neg kE,if_pos rfl]) (by unfold C4;rw[if_neg kD,if_neg kE,if_pos rfl]) rfl (.inl rfl) (m8:=[])
  ·obtain⟨he,hkl,hml⟩:=hσ;obtain⟨⟨rs,h⟩,ok⟩:=Cf.ok he hkl;have hs:=h.s_le;have hn:C4 (.op d m) ⟨3,c,inp⟩= .cl d:=by unfold C4;rw[if_neg kD,if_neg kE,if_pos rfl]
   have ho:z5 (.op d m) ⟨3,c,inp⟩=d.fin (m.getD []):=by unfold z5;rw[if_neg kD,if_neg kE,if_pos rfl]
   rcases m with _|M
   ·obtain⟨_,l',F⟩:=mE h (back:=d.back) (M:=[]) (x:= .n) (r:=d.fin []) ok (.inl ⟨rfl,pe⟩) (by simp) rfl;rw[oD (by omega) ok,jF (by omega) ok]at F;exact I1 (Ci (t:=d.t) (mode:=d.mode) (pad:=d.pad) (back:=d.back) (k:=d.k) (xs:=d.xs) (iv:=d.iv) (a8:=d.iv) (st:=⟨d.iv,[],[]⟩) (x:= .n) F) ho hn rfl (.inl rfl)
   ·obtain⟨_,l',F⟩:=mE h (back:=d.back) (M:=M) (x:= .o (d.H M)) (r:=d.fin M) ok (.inr rfl) (Zi (Zi hml (Nat.le_add_right _ _)) hb) rfl;exact I1 (Ci (t:=d.t) (mode:=d.mode) (pad:=d.pad) (back:=d.back) (k:=d.k) (xs:=d.xs) (iv:=d.iv) (a8:=d.L M) (st:=d.S M) (x:= .o (d.H M)) F) ho hn rfl (.inl rfl)
  ·exact I1 (VZ (a8:=a8)) (by unfold z5;rw[if_neg kD,if_neg kE,if_pos rfl]) (by unfold C4;rw[if_neg kD,if_neg kE,if_pos rfl]) rfl (.inl rfl)
 by_cases h4:x.kind=4
 ·obtain⟨kind,c,inp⟩:=x;obtain rfl:kind=4:=h4;rcases σ with _|⟨d,m⟩|d
  ·exact I1 (Wa) (by unfold z5;rw[if_neg kF,if_neg kG,if_neg kH,if_pos rfl]) (by unfold C4;rw[if_neg kF,if_neg kG,if_neg kH,if_pos rfl]) rfl (.inl rfl) (m8:=[])
  ·obtain⟨⟨rs,h⟩,ok⟩:=Cf.ok hσ.1 hσ.2.1;have hn:C4 (.op d m) ⟨4,c,inp⟩= .op d none:=by unfold C4;rw[if_neg kF,if_neg kG,if_neg kH,if_pos rfl]
   have ho:z5 (.op d m) ⟨4,c,inp⟩=([],0):=by unfold z5;rw[if_neg kF,if_neg kG,if_neg kH,if_pos rfl]
   rcases m with _|M
   ·exact I1 (Cj (a8:=d.iv) (st:=⟨d.iv,[],[]⟩) (x:= .n) h ok) ho hn rfl (.inr (.inr (.inr ⟨d,rfl,rfl⟩))) (m8:=[])
   ·exact I1 (Cj (a8:=d.L M) (st:=d.S M) (x:= .o (d.H M)) h ok) ho hn rfl (.inr (.inr (.inr ⟨d,rfl,rfl⟩))) (m8:=[])
  ·obtain⟨⟨rs,h⟩,ok⟩:=Cf.ok hσ.1 hσ.2;exact I1 (Wb (a8:=a8) h ok) (by unfold z5;rw[if_neg kF,if_neg kG,if_neg kH,if_pos rfl]) (by unfold C4;rw[if_neg kF,if_neg kG,if_neg kH,if_pos rfl]) rfl (.inr (.inr (.inr ⟨d,rfl,rfl⟩))) (m8:=[])
 have ho:∀σ,z5 σ x=([],1):=fun σ=>by unfold z5;rw[if_neg h1,if_neg h2,if_neg h3,if_neg h4]
 have hn:∀σ,C4 σ x=σ:=fun σ=>by unfold C4;rw[if_neg h1,if_neg h2,if_neg h3,if_neg h4]
 rcases σ with _|⟨d,_|M⟩|d
 ·exact I1 (VR h1 h2 h3 h4) (ho _) (hn _) rfl (.inl rfl) (m8:=[])
 ·exact I1 (Ce (a8:=d.iv) (st:=⟨d.iv,[],[]⟩) (x:= .n) h1 h2 h3 h4) (ho _) (hn _) rfl (.inl rfl) (m8:=[])
 ·exact I1 (Ce (a8:=d.L M) (st:=d.S M) (x:= .o (d.H M)) h1 h2 h3 h4) (ho _) (hn _) rfl (.inl rfl) (m8:=[])
 ·exact I1 (VS (a8:=a8) h1 h2 h3 h4) (ho _) (hn _) rfl (.inl rfl)
theorem uB {α β:Type} {f:α->List β} {e:Nat} (hf:∀x,(f x).length=e):∀(l:List α) (i:Nat) (h:i<l.length),sub (l.flatMap f) (i*e) e=f l[i]
 |[],_,h=>absurd h (by simp)
 |x::r,0,_=>by
  show sub ((x::r).flatMap f) (0*e) e=f x;rw[Zs,Nat.zero_mul];unfold sub;rw[List.drop_zero,List.take_append_of_le_length (by rw[hf];exact Z1 _),Jb (by rw[hf];exact Z1 _)]
 |x::r,i+1,h=>by
  have ih:=uB hf r i (by simpa using h);rw[Zs];unfold sub at ih ⊢;rw[show (i+1)*e=(f x).length+i*e by rw[hf,Nat.succ_mul,Nat.add_comm],Z0,Zr (Nat.le_add_right _ _),Zo,Zz];exact ih
theorem uA {α β:Type} {f:α->List β} {e:Nat} (hf:∀x,(f x).length=e):∀(l:List α),(l.flatMap f).length=l.length*e
 |[]=>(Nat.zero_mul e).symm
 |x::r=>by rw[Zs,Zb,hf,uA hf r,List.length_cons,Nat.succ_mul,Nat.add_comm]
theorem ZY {α:Type} {C:k5} {rt:Rt} {m:Nat} {c:Code} {s:S} {K:X->S->Prop} (l:Nat) {p q:Code} (hs:E8 c l=some (p,q)) (I:α->D) (Q:α->Prop) (μ:α->Nat) (h0:vc C rt m p s fun e s'=>match e with
   | .normal=>∃(l:List (Nat×Nat×B)) (y:α),Q y/\W1 l 0 s' fun s'=>Mt m s' (I y)
   | .goto l'=>l'=l/\∃y:α,Q y/\Mt m s' (I y)
   |e=>K e s') (h:∀x,Q x->vc C rt m q (I x).s fun e s'=>match e with
   | .goto l'=>l'=l/\∃y:α,Q y/\μ y<μ x/\Mt m s' (I y)
   |e=>K e s'):iX C rt m c s K:=
 ⟨l,α,I,Q,μ,by rw[hs];exact⟨h0,h⟩⟩
noncomputable def rD (n i:Nat) (cs ts:List V) (σ:CX) (a8:Bs):D:=⟨[(0,.zz 8 n cs),(3,.o 3 (.k 4) 0 i),(4,.p (.k 0) 0),(5,i64 i)],kR σ a8++[.pl ts]⟩
noncomputable def CO (c:Cf) (H L:Bs) (st:MS):List B:=[j8 true c.t c.mode c.pad c.back c.k c.xs c.iv (.o H) L,f8 (c9 c.t c.k c.xs) (i9 c.mode) c.back st 2,g9 st.row st.gone,.sc (bv H)]
theorem Xc {c:Cf} {M a8:Bs}:kR (.op c (some M)) a8=CO c (c.H M) (c.L M) (c.S M):=rfl
noncomputable def Xd (n i:Nat) (cs ts:List V) (c:Cf) (H L:Bs) (st:MS):D:=⟨[(0,.zz 8 n cs),(3,.o 3 (.k 4) 0 i),(4,.p (.k 0) 0),(5,i64 i)],CO c H L st++[.pl ts]⟩
theorem vG {n i:Nat} {cs ts:List V} {c:Cf} {M a8:Bs}:rD n i cs ts (.op c (some M)) a8=Xd n i cs ts c (c.H M) (c.L M) (c.S M):=rfl
noncomputable def Xi (c:Cf) (H L:Bs) (st:MS):List B:=[m6 true true c.t c.mode c.pad c.back (c9 c.t c.k c.xs) (.z c.iv.length (bv c.iv)) (.p (.k 1) 0) (.o 1 (.k 5) 0 H.length) (.z L.length (bv L)),f8 (c9 c.t c.k c.xs) (i9 c.mode) c.back st 4,.dead,.dead,g9 st.row st.gone,.sc (bv H)]
noncomputable def Xj (c:Cf) (H L:Bs) (st:MS):List B:=[m6 true true c.t c.mode c.pad c.back (c9 c.t c.k c.xs) (.z c.iv.length (bv c.iv)) (.p (.k 1) 0) (.o 1 (.k 4) 0 H.length) (.z L.length (bv L)),f8 (c9 c.t c.k c.xs) (i9 c.mode) c.back st 2,g9 st.row st.gone,.dead,.sc (bv H)]
theorem Xg {c:Cf} {M:Bs}:CP c M=Xi c (c.H M) (c.L M) (c.S M):=rfl
theorem Xh {c:Cf} {M:Bs}:CQ c M=Xj c (c.H M) (c.L M) (c.S M):=rfl
theorem De {l:List Cl} (hl:∀x∈l,gZ x):∀i,i<=l.length->fA (1000*i) (U0 .nw (l.take i))
 |0,_=>by rw[List.take_zero];exact trivial
 |i+1,h=>by
  have ih:=De hl i (by omega);have hx:=hl l[i] (Zq (by omega));rw[Z7,Zp (by omega:i<l.length)];unfold U0 at ih ⊢;rw[Z3,List.foldl_append,List.foldl_cons,List.foldl_nil];have:=ih.next hx;generalize C4 _ _=τ at this ⊢;cases τ with
  |nw=>trivial
  |op c m=>exact⟨this.1,this.2.1,Zi this.2.2 (by have:=hx.2.2.2;omega)⟩
  |cl c=>exact this
theorem Xq {l:List Cl} {i:Nat} (h:i<l.length):U0 .nw (l.take (i+1))=C4 (U0 .nw (l.take i)) l[i]/\N7 .nw (l.take (i+1))=N7 .nw (l.take i)++[U1 (U0 .nw (l.take i)) l[i]]:=by
 rw[Z7,Zp h,Z3,Dc];refine⟨?_,rfl⟩;unfold U0;rw[List.foldl_append];rfl
set_option maxHeartbeats 4000000 in
theorem yW {l:List Cl} {n:Nat} (hn:l.length=n) (hl:∀x∈l,gZ x) (hb:n<=99):
  a6 C 46 [.zz 8 n (l.flatMap G7)] [] (.ret (.zz 3 n ((N7 .nw l).flatMap N9))) []:=by
 subst hn;refine Sf.c ?_;refine ZY (α:=Nat×Bs) 0 rfl (fun p=>rD l.length p.1 (l.flatMap G7) ((N7 .nw (l.take p.1)).flatMap N9) (U0 .nw (l.take p.1)) p.2) (fun p=>p.1<=l.length) (fun p=>l.length-p.1) ?_ fun p hp=> ?_
 ·refine⟨Int.le_refl _,by omega,by omega,?_⟩;refine⟨[],_,_,_,_,sQ.fg (.keep (.dd (.dd (.dd .nil)))),rfl,rfl,?_⟩;exact⟨[],(0,[]),Zg _,[.d 9 0,.d 9 1,.d 9 2,.d 9 3,.d 8 0],⟨rfl,rfl,rfl,rfl,tq⟩,⟨_,rfl,rfl⟩,⟨_,rfl,rfl⟩,⟨_,rfl,rfl⟩,⟨_,rfl,rfl⟩,⟨_,rfl,rfl⟩,tq⟩
 ·obtain⟨i,a8⟩:=p;show vc _ _ _ _ (rD l.length i (l.flatMap G7) ((N7 .nw (l.take i)).flatMap N9) (U0 .nw (l.take i)) a8).s _;have hi:i<=l.length:=hp;have ho:=De hl i hi;have hTl:((N7 .nw (l.take i)).flatMap N9).length=i*3:=by rw[uA (e:=3) (fun _=>rfl),Dd,Zf,Zw hi]
  by_cases a9:i<l.length
  ·obtain⟨s1,s2⟩:=Xq a9;obtain⟨m8,bs,hL,ONE⟩:=LU (a8:=a8) ho (hl l[i] (Zq a9)) (by have:=(hl l[i] (Zq a9)).2.2.2;omega);have hT2:((N7 .nw (l.take (i+1))).flatMap N9)=((N7 .nw (l.take i)).flatMap N9)++N9 (U1 (U0 .nw (l.take i)) l[i]):=by rw[s2,List.flatMap_append];rfl
   have hX:sub (l.flatMap G7) (((i:Nat):Int).toNat*8) 8=G7 l[i]:=by rw[Zd];exact uB (f:=G7) (e:=8) (fun _=>rfl) l i a9
   have goal:rD l.length (i+1) (l.flatMap G7) ((N7 .nw (l.take (i+1))).flatMap N9) (U0 .nw (l.take (i+1))) m8=rD l.length (i+1) (l.flatMap G7) ((N7 .nw (l.take i)).flatMap N9++N9 (U1 (U0 .nw (l.take i)) l[i])) (C4 (U0 .nw (l.take i)) l[i]) m8:=by rw[hT2,s1]
   clear hT2 s1 s2 ho;generalize U1 (U0 .nw (l.take i)) l[i]=τ at*
   generalize C4 (U0 .nw (l.take i)) l[i]=σ' at*
   generalize (N7 .nw (l.take i)).flatMap N9=ts at*
   generalize U0 .nw (l.take i)=σ at*
   have hts:sub ts 0 (i*3)++sub (N9 τ) 0 (1*3)=ts++N9 τ:=by rw[y8 hTl];rfl
   rcases hL with h0|⟨d',M',rfl,rfl⟩|⟨d',M',rfl,rfl⟩|⟨d',rfl,rfl⟩;all_goals try (obtain rfl:=h0;rcases σ' with _|⟨d',_|M'⟩|d')
   all_goals rcases σ with _|⟨d,_|M⟩|d
   all_goals try simp only[Xc,Xg,Xh]at ONE
   all_goals try rw[vG]at goal
   all_goals try rw[vG]
   all_goals try (generalize d.S M=st at *;obtain⟨ch,row,g⟩:=st;rcases row with _|⟨a,r⟩)
   all_goals try (generalize d'.S M'=st' at *;obtain⟨ch',row',g'⟩:=st';rcases row' with _|⟨a',r'⟩)
   all_goals
    refine b8 (fun _=> ?_) (fun hh=>absurd (by omega) hh);refine⟨by omega,by omega,?_⟩;refine⟨G7 l[i],hX,rfl,?_⟩;refine⟨[.k 0,.k 1,.k 2,.k 3],_,_,_,_,ONE,rfl,rfl,?_⟩;refine⟨Za rfl,by omega,by omega,?_⟩;refine⟨rfl,(i+1,m8),a9,by show l.length-(i+1)<l.length-i;omega,rY goal ?_⟩;first
     |exact⟨[.k 0,.k 1,.k 2,.k 3,.d 22 0],⟨rfl,rfl,rfl,b9 (by simp(disch:=omega)only[Zc];omega),tq⟩,⟨_,rfl,rfl⟩,⟨_,rfl,rfl⟩,⟨_,rfl,rfl⟩,⟨_,rfl,rfl⟩,⟨_,rfl,congrArg B.pl hts⟩,tq⟩
     |exact⟨[.k 0,.k 1,.d 20 4,.d 20 5,.d 22 0],⟨rfl,rfl,rfl,b9 (by simp(disch:=omega)only[Zc];omega),tq⟩,⟨_,rfl,rfl⟩,⟨_,rfl,rfl⟩,⟨_,rfl,rfl⟩,⟨_,rfl,rfl⟩,⟨_,rfl,congrArg B.pl hts⟩,tq⟩
     |exact⟨[.k 0,.k 1,.k 2,.d 20 4,.d 22 0],⟨rfl,rfl,rfl,b9 (by simp(disch:=omega)only[Zc];omega),tq⟩,⟨_,rfl,rfl⟩,⟨_,rfl,rfl⟩,⟨_,rfl,rfl⟩,⟨_,rfl,rfl⟩,⟨_,rfl,congrArg B.pl hts⟩,tq⟩
     |exact⟨[.k 0,.d 20 4,.d 20 5,.d 20 6,.d 22 0],⟨rfl,rfl,rfl,b9 (by simp(disch:=omega)only[Zc];omega),tq⟩,⟨_,rfl,rfl⟩,⟨_,rfl,rfl⟩,⟨_,rfl,rfl⟩,⟨_,rfl,rfl⟩,⟨_,rfl,congrArg B.pl hts⟩,tq⟩
  ·have hni:i=l.length:=by omega
   subst hni;rw[Z9]at*
   generalize U0 .nw l=σ at*
   generalize (N7 .nw l).flatMap N9=ts at*
   rcases σ with _|⟨d,_|M⟩|d;all_goals try rw[vG]
   all_goals try (generalize d.S M=st at *;obtain⟨ch,row,g⟩:=st;rcases row with _|⟨a,r⟩)
   all_goals
    refine b8 (fun hh=>absurd hh (by omega)) (fun _=> ?_);exact⟨_,rfl,[],congrArg (V.zz 3 l.length) (y8 hTl),tq⟩
theorem a6.argz {C:k5} {f e n:Nat} {xs ys:List V} {bs bs':List B} {r:Oc} (h:a6 C f [.zz e n ys] bs r bs') (hw:ah xs ys):a6 C f [.zz e n xs] bs r bs':=
 ⟨h.1,fun w F ι vs st hgl hdm hl=>h.2 w F ι vs st hgl hdm (by
  generalize vs.toList=l at hl;cases hl with
  |cons h1 h2=>
   refine .cons ?_ h2;cases h1 with
   |fz h1=>
    cases h1 with
    |zz0=>cases hw;exact .fz .zz0
    |zz a b c=>exact .fz (.zz a (hw.rf b) c))⟩
theorem wN {w:World} {F:Nat->Prop}:∀(vs:List Value),k6 w F (vs.map .s) vs
 |[]=> .nil
 |_::r=> .cons .s (wN r)
theorem a6.lentS {C:k5} {f e n:Nat} {ys:List V} {r:Oc} {us:List Value} (h:a6 C f [.zz e n ys] [] r []) (hx:sub (us.map .s) 0 (n*e)=ys):a6 C f [.o e (.k 0) 0 n] [.sc us] r [.dead]:=by
 refine⟨h.1,fun w F ι vs st hgl hdm hl=> ?_⟩;have hH:∀{id X},Hof [B.pl (us.map .s)] id=some X->id= .k 0/\X= .pl (us.map .s):=by
  intro id X h;cases id with
  |d=>simp[Hof]at h
  |k k=>
   cases k with
   |zero=>simp[Hof]at h;exact⟨rfl,h.symm⟩
   |succ k=>simp[Hof]at h
 have st2:St w (Lb ι [.sc us]) w F ι (Hof [.pl (us.map .s)]):={
  os:=st.os,tape:=st.tape,output:=st.output,size:=st.size,old:=st.old,shp:=st.shp,fr:=st.fr
  own:=fun id X h hX=>by
   obtain⟨rfl,rfl⟩:=hH h;rcases st.own (.k 0) (.sc us) rfl (by simp)with ⟨h0,hi⟩|⟨b,base,hi,hF,hL,arr,t,fr,hh,hfr,vs,hc,hb⟩
   ·exact .inl ⟨by simpa [B.len]using h0,hi⟩
   ·refine .inr ⟨b,base,hi,hF,hL,arr,t,fr,hh,hfr,vs,hc,?_⟩;have hb:us=vs:=hb;subst hb;exact wN us
  inj:=fun id id' X X' b base base' h _ h' _ _ _=>by
   obtain⟨rfl,_⟩:=hH h;obtain⟨rfl,_⟩:=hH h';rfl}
 have sk:=St.keep st2 (Hr:=Hof [.pl (us.map .s)]) (fun _ _ h=>h) [] List.nodup_nil (bs:=[]) (by simp);have hRL:RL w (Fx F ι (Hof [.pl (us.map .s)]) []) (Ik ι []) [.zz e n ys] vs.toList:=by
  generalize vs.toList=l at hl;cases hl with
  |cons h1 h2=>
   cases h2;refine .cons (.fz ?_) .nil;have:=qV (a7:=[]) st2 (Hr:=Hof [.pl (us.map .s)]) (fun _ _ h=>h) 6 h1;rw[<-hx];exact this
 refine Calls.mono (h.2 w _ (Ik ι []) vs (jk sk) (fun g=>(hgl g).mono fun _=> .inl) (fun id x hx=>by cases id<;>simp[Ik]at hx) hRL) ?_;rintro e' w' ⟨F1,ι1,g1,g2,g3,st1,g5,g6⟩;have hL:∀b,Fx F ι (Hof [.pl (us.map .s)]) [] b->F b\/Lb ι [.sc us] b:=by
  rintro b (h|⟨id,X,base,h1,_,_,h4⟩)
  ·exact .inl h
  ·obtain⟨rfl,rfl⟩:=hH h1;exact .inr ⟨0,.sc us,base,rfl,by simp,h4⟩
 refine⟨F1,ι,fun b hb=>g1 b (.inl hb),fun b hb=> ?_,fun _ _ h=>h,?_,fun id x hx=> ?_,?_⟩
 ·rcases g2 b hb with h|⟨k,X,base,h,_⟩|h
  ·exact(hL b h).imp id .inl
  ·simp at h
  ·exact .inr (.inr h)
 ·refine⟨st1.os,st1.tape,st1.output,st1.size,fun b hb hn=>st1.old b hb ?_,st1.shp,st1.fr,?_,?_⟩
  ·rintro ⟨k,X,base,h,_⟩;simp at h
  ·intro id X h hX;cases id with
   |d=>simp[Hof]at h
   |k k=>
    cases k with
    |zero=>simp[Hof]at h;exact absurd h.symm hX
    |succ k=>simp[Hof]at h
  ·intro id id' X X' b base base' h hX;cases id with
   |d=>simp[Hof]at h
   |k k=>
    cases k with
    |zero=>simp[Hof]at h;exact absurd h.symm hX
    |succ k=>simp[Hof]at h
 ·obtain⟨k,hk,rfl⟩:=hdm id x hx;exact⟨k,hk,rfl⟩
 ·have him:∀id x,ι1 id=some x->ι id=some x:=fun id x h=>by
   obtain⟨k,hk,_⟩:=g5 id x h;simp at hk
  cases r with
  |ret v=>obtain⟨x,he,hR⟩:=g6;exact⟨x,he,R.ev (Ev.refl _ _) (fun _ h=>h) him hR⟩
  |pan v=>obtain⟨x,he,hR⟩:=g6;exact⟨x,he,R.ev (Ev.refl _ _) (fun _ h=>h) him hR⟩
theorem zo {a n:Int} (hn:0<n) (hn2:n<=4611686018427387904) (ha: -9223372036854775808<=a/\a<=9223372036854775807):a6 C 103 [i64 a,i64 n] [] (.ret (i64 (a%n))) []:=by
 refine PI.c ?_;have h1: -n<a.tmod n:=Int.lt_tmod_of_pos a hn;have h2:a.tmod n<n:=Int.tmod_lt_of_pos a hn;refine⟨by omega,?_⟩;refine b8 (fun h=> ?_) (fun h=> ?_)
 ·refine⟨_,rfl,[],b9 ?_,tq⟩;rw[Zc _ (by omega)];rw[<-dO a n hn,Z5 (a:=a.tmod n+n) (by omega),Int.emod_eq_of_lt (by omega) (by omega)]
 ·refine⟨_,rfl,[],b9 ?_,tq⟩;rw[<-dO a n hn,Z5 (a:=a.tmod n+n) (by omega),Int.add_emod_right,Int.emod_eq_of_lt (by omega) (by omega)]
theorem Xo {x:Cl} (h:x.kind=3):z5 .nw x=([],6)/\C4 .nw x= .nw:=by
 unfold z5 C4;rw[if_neg (by omega),if_neg (by omega),if_pos h,if_neg (by omega),if_neg (by omega),if_pos h];exact⟨rfl,rfl⟩
theorem Xn {x:Cl} (σ:CX) (h1:x.kind≠1) (h2:x.kind≠2) (h3:x.kind≠3) (h4:x.kind≠4):z5 σ x=([],1)/\C4 σ x=σ:=by
 unfold z5 C4;rw[if_neg h1,if_neg h2,if_neg h3,if_neg h4,if_neg h1,if_neg h2,if_neg h3,if_neg h4];exact⟨rfl,rfl⟩
def iC (kind:Int):Cl:=⟨kind,⟨0,0,0,false,[],[]⟩,[]⟩
theorem a2P:a6 C 43 [] [] (.ret (bool true)) []:=by
 have R0:=yW (l:=[]) (n:=0) rfl (by simp) (by omega);have ok:∀k:Int,(-9223372036854775808<=k/\k<=9223372036854775807)->gZ (iC k):=fun k hk=>⟨hk,Zg _,Zg _,Zg _⟩;have R2:=yW (l:=[iC 3,iC 9]) (n:=2) rfl (by
  intro x hx;rcases Jh.1 hx with rfl|hx
  ·exact ok 3 (by omega)
  ·rcases Jh.1 hx with rfl|hx
   ·exact ok 9 (by omega)
   ·simp at hx) (by omega)
 have e:(N7 .nw [iC 3,iC 9]).flatMap N9=[.z 0 (bv []),i64 6,i64 0,.z 0 (bv []),i64 1,i64 0]:=by
  obtain⟨o1,s1⟩:=Xo (x:=iC 3) rfl;obtain⟨o2,s2⟩:=Xn (x:=iC 9) .nw (show (9:Int)≠1 by decide) (show (9:Int)≠2 by decide) (show (9:Int)≠3 by decide) (show (9:Int)≠4 by decide);unfold N7 N7 N7 U1;rw[s1,o1,o2,s2];rfl
 rw[e]at R2;have R2:=R2.argz (xs:=[i64 3,i64 0,i64 0,i64 0,bool false,d9,d9,d9,i64 9,i64 0,i64 0,i64 0,bool false,d9,d9,d9]) (.cons (.refl _) (.cons (.refl _) (.cons (.refl _) (.cons (.refl _) (.cons (.refl _) (.cons .nl (.cons .nl (.cons .nl (.cons (.refl _) (.cons (.refl _) (.cons (.refl _) (.cons (.refl _) (.cons (.refl _) (.cons .nl (.cons .nl (.cons .nl .nil))))))))))))))));refine Pz.c ?_;refine⟨[.d 4 0],_,_,_,_,a6.lentS (us:=[.int .i64 3,.int .i64 0,.int .i64 0,.int .i64 0,.bool false,.slice none 0 0,.slice none 0 0,.slice none 0 0,.int .i64 9,.int .i64 0,.int .i64 0,.int .i64 0,.bool false,.slice none 0 0,.slice none 0 0,.slice none 0 0]) R2 rfl,rfl,rfl,?_⟩;refine⟨[],_,_,_,_,(a6.args R0 (ys0:=[d9]) (.cons .nlz .nil)),rfl,rfl,?_⟩;refine⟨by omega,by omega,_,rfl,?_⟩;refine⟨by omega,by omega,_,rfl,?_⟩;exact⟨_,rfl,[],rfl,tq⟩
structure bx where
 kind:Int
 tag:Int
 n:Int
 mode:Int
 pad:Int
 back:Bool
 key:Bs
 iv:Bs
 inp:Bs
 ct:Int
 cm:Int
 cp:Int
 cb:Bool
abbrev D5 (x:bx):List V:=[i64 x.kind,i64 x.tag,i64 x.n,i64 x.mode,i64 x.pad,bool x.back,.z x.key.length (bv x.key),.z x.iv.length (bv x.iv),.z x.inp.length (bv x.inp),i64 x.ct,i64 x.cm,i64 x.cp,bool x.cb]
def wO (x:bx):Prop:=af x.kind/\af x.tag/\af x.n/\af x.mode/\af x.pad
def mi (x:bx):Prop:=(x.key.length<=100/\x.iv.length<=100)/\x.inp.length<=60
theorem mZ {α β:Type} {f:α->List β} {e:Nat} (hf:∀x,(f x).length=e) (l:List α) (i:Nat) (h:i<l.length) (k m:Nat) (hk:k+m<=e):sub (l.flatMap f) (i*e+k) m=sub (f l[i]) k m:=by
 have h0:=uB hf l i h;rw[<-h0];unfold sub;rw[List.drop_take,List.drop_drop,List.take_take,Zw (by omega)]
theorem mY {α β:Type} {f:α->List β} {e:Nat} (hf:∀x,(f x).length=e) (l:List α) (i:Nat) (h:i<l.length) (k:Nat) (hk:k<e):(l.flatMap f)[i*e+k]? =(f l[i])[k]? :=by
 have h0:=congrArg (fun z:List β=>z[0]?) (mZ hf l i h k 1 (by omega));unfold sub at h0;simpa using h0
theorem AM {α:Type} {p:α->Prop}:∀(l:List α),¬(∀x∈l,p x)->∃(m:Nat) (h:m<l.length),¬p l[m]/\∀(j:Nat) (hj:j<m),p (l[j]'(Nat.lt_trans hj h))
 |[],h=>absurd (by simp) h
 |x::r,h=>by
  by_cases hx:p x
  ·obtain⟨m,hm,h1,h2⟩:=AM r (fun hr=>h (by
    intro y hy;rcases Jh.1 hy with rfl|hy
    ·exact hx
    ·exact hr y hy))
   refine⟨m+1,by simpa using hm,by simpa using h1,fun j hj=> ?_⟩;cases j with
   |zero=>exact hx
   |succ j=>exact h2 j (by omega)
  ·exact⟨0,by simp,hx,fun j hj=>absurd hj (by omega)⟩
theorem a2O {l:List bx} {n:Nat} (hn:l.length=n) (hb:n<=9223372036854775807) (hf:∀x∈l,mi x):a6 C 44 [.zz 13 n (l.flatMap D5)] [] (.ret (bool true)) []:=by
 subst hn;refine Ag.c ?_;refine j9 (fun i=>⟨[(0,.zz 13 l.length (l.flatMap D5)),(3,i64 i)],[]⟩) l.length ⟨[],⟨rfl,rfl,tq⟩,tq⟩ fun i hi=> ?_;refine b8 (fun a9=> ?_) (fun hge=> ?_)
 ·have hl:i<l.length:=by omega
  have hF:=hf l[i] (Zq hl);have e1:sub (l.flatMap D5) (((i:Nat):Int).toNat*13+1) 7=sub (D5 l[i]) 1 7:=by rw[Zd];exact mZ (f:=D5) (e:=13) (fun _=>rfl) l i hl 1 7 (by decide)
  have e8:(l.flatMap D5)[((i:Nat):Int).toNat*13+8]? =(D5 l[i])[8]? :=by rw[Zd];exact mY (f:=D5) (e:=13) (fun _=>rfl) l i hl 8 (by decide)
  refine⟨by omega,by omega,?_⟩;refine⟨_,e1,rfl,?_⟩;refine⟨[],_,_,_,_,yv (tag:=l[i].tag) (n:=l[i].n) (mode:=l[i].mode) (pad:=l[i].pad) (back:=l[i].back) (k:=l[i].key) (iv:=l[i].iv) hF.1,rfl,rfl,?_⟩;refine⟨by omega,by omega,?_⟩;refine⟨_,e8,?_⟩;refine b8 (fun hh=>absurd hh (by have:=hF.2;omega)) (fun _=> ?_);exact⟨i+1,by omega,by omega,[],⟨rfl,b9 (by simp(disch:=omega)only[Zc];omega),tq⟩,tq⟩
 ·exact⟨_,rfl,[],rfl,tq⟩
theorem a2N {l:List bx} {n:Nat} (hn:l.length=n) (hb:n<=9223372036854775807) (hf:¬∀x∈l,mi x):a6 C 44 [.zz 13 n (l.flatMap D5)] [] (.ret (bool false)) []:=by
 subst hn;obtain⟨m,hm,hm1,hm2⟩:=AM l hf;refine Ag.c ?_;refine j9 (fun i=>⟨[(0,.zz 13 l.length (l.flatMap D5)),(3,i64 i)],[]⟩) m ⟨[],⟨rfl,rfl,tq⟩,tq⟩ fun i hi=> ?_;have hl:i<l.length:=by omega
 have e1:sub (l.flatMap D5) (((i:Nat):Int).toNat*13+1) 7=sub (D5 l[i]) 1 7:=by rw[Zd];exact mZ (f:=D5) (e:=13) (fun _=>rfl) l i hl 1 7 (by decide)
 have e8:(l.flatMap D5)[((i:Nat):Int).toNat*13+8]? =(D5 l[i])[8]? :=by rw[Zd];exact mY (f:=D5) (e:=13) (fun _=>rfl) l i hl 8 (by decide)
 refine b8 (fun a9=> ?_) (fun hge=>absurd (by omega) hge);refine⟨by omega,by omega,?_⟩;refine⟨_,e1,rfl,?_⟩;by_cases h1:l[i].key.length<=100/\l[i].iv.length<=100
 ·refine⟨[],_,_,_,_,yv (tag:=l[i].tag) (n:=l[i].n) (mode:=l[i].mode) (pad:=l[i].pad) (back:=l[i].back) (k:=l[i].key) (iv:=l[i].iv) h1,rfl,rfl,?_⟩;refine⟨by omega,by omega,?_⟩;refine⟨_,e8,?_⟩;refine b8 (fun hh=> ?_) (fun hh=> ?_)
  ·exact⟨_,rfl,[],rfl,tq⟩
  ·have hF:mi l[i]:=⟨h1,by omega⟩;have hne:i≠m:=fun e=>by subst e;exact hm1 hF
   exact⟨i+1,by omega,by omega,[],⟨rfl,b9 (by simp(disch:=omega)only[Zc];omega),tq⟩,tq⟩
 ·refine⟨[],_,_,_,_,ID (tag:=l[i].tag) (n:=l[i].n) (mode:=l[i].mode) (pad:=l[i].pad) (back:=l[i].back) (k:=l[i].key) (iv:=l[i].iv) h1,rfl,rfl,?_⟩;exact⟨_,rfl,[],rfl,tq⟩
def gy:List Int:=[1,2,2,2,2,2,3,3,4,1,0,5]
def dH (x:bx):Int:=if gy.getD (x.kind%12).toNat 0=0 then (if 1<=x.kind/\x.kind<=4 then 7 else x.kind)else gy.getD (x.kind%12).toNat 0
noncomputable def gu (x:bx):Cf:=if (x.kind.tdiv 12)%9=0 then ⟨x.ct,x.cm,x.cp,x.cb,am (y9 x.tag) x.n x.key,aW (L6 x.mode) (n9 (y9 x.tag)).toNat x.iv⟩else ⟨y9 x.tag,L6 x.mode,jt x.mode x.pad,x.back,am (y9 x.tag) x.n x.key,aW (L6 x.mode) (n9 (y9 x.tag)).toNat x.iv⟩
noncomputable def cO (x:bx):Cl:=⟨dH x,gu x,x.inp⟩
noncomputable abbrev gw (l:List bx):List Cl:=(l.take 25).map cO
theorem zC {H:Hp} {a7:List Id} {n:Nat}:∀(l:List Cl),(l.flatMap G7).map (l7 H a7 (n+1))=l.flatMap G7
 |[]=>rfl
 |x::r=>by rw[Zs,Z2,zC r];rfl
theorem zD {H:Hp} {a7:List Id} {n:Nat}:∀(l:List Cl),(l.flatMap G7).map (B9 H a7 (n+1))=l.flatMap G7
 |[]=>rfl
 |x::r=>by rw[Zs,Z2,zD r];rfl
theorem z3 (l:Bs):V.z (0+l.length) (sub (sub ([]:List Value) 0 (0*1)++bv l) 0 (0+l.length))=V.z l.length (bv l):=by
 rw[Nat.zero_add,show sub ([]:List Value) 0 (0*1)++bv l=bv l from rfl,d7 rfl]
theorem Vx (j:Nat) (h:j<12):([.int .i64 1,.int .i64 2,.int .i64 2,.int .i64 2,.int .i64 2,.int .i64 2,.int .i64 3,.int .i64 3,.int .i64 4,.int .i64 1,.int .i64 0,.int .i64 5]:List Value)[j]? =some (.int .i64 (gy.getD j 0)):=by
 rcases j with _|_|_|_|_|_|_|_|_|_|_|_|j<;>first|rfl|omega
theorem a0F {x:Int} (h:af x):I6.wrap (x.tdiv 12)=x.tdiv 12/\(-9223372036854775808<=I6.wrap (x.tdiv 12)/\I6.wrap (x.tdiv 12)<=9223372036854775807):=by
 unfold af at h;have e:I6.wrap (x.tdiv 12)=x.tdiv 12:=Zc _ (by
  have h1:(x.tdiv 12).natAbs=x.natAbs/12:=Int.natAbs_tdiv x 12;omega)
 exact⟨e,by rw[IntKind.wrap_i64];omega⟩
set_option maxHeartbeats 4000000 in
theorem a2Q {l:List bx} {n:Nat} (hn:l.length=n) (hb:n<=9223372036854775807) (hr:∀x∈l,wO x) (hf:∀x∈l,mi x):
  a6 C 45 [.zz 13 n (l.flatMap D5)] [] (.ret (.t [.zz 8 (gw l).length ((gw l).flatMap G7),.zz 8 (gw l).length ((gw l).flatMap G7)])) []:=by
 subst hn;obtain⟨N0,hN0⟩:∃N0,N0=min l.length 25:=⟨_,rfl⟩;have hml:(gw l).length=N0:=by rw[Jd,Zf,hN0,Nat.min_comm]
 have hmt:(l.take N0).map cO=gw l:=by
  have:l.take N0=l.take 25:=by rw[hN0,Nat.min_comm,<-List.take_take,Z9]
  rw[this]
 obtain⟨cs,hcs⟩:∃cs:Nat->List V,cs=fun i=>((l.take i).map cO).flatMap G7:=⟨_,rfl⟩;have hcl:∀i,i<=l.length->(cs i).length=i*8:=fun i hi=>by rw[hcs];show(((l.take i).map cO).flatMap G7).length=_;rw[uA (e:=8) (fun _=>rfl),Jd,Zf,Zw hi]
 have hcn:∀i (hi:i<l.length),cs (i+1)=cs i++G7 (cO l[i]):=fun i hi=>by
  rw[hcs];show((l.take (i+1)).map cO).flatMap G7=_;rw[Z7,Zp hi,Z3,Z2,List.flatMap_append];rfl
 have hcd:∀i (H:Hp) (a7:List Id) (k:Nat),(cs i).map (l7 H a7 (k+1))=cs i:=fun i H a7 k=>by rw[hcs];exact zC _
 have hcp:∀i (H:Hp) (a7:List Id) (k:Nat),(cs i).map (B9 H a7 (k+1))=cs i:=fun i H a7 k=>by rw[hcs];exact zD _
 refine Py.c ?_;refine A8 (fun i=>⟨[(0,.zz 13 l.length (l.flatMap D5)),(4,.o 8 (.k 0) 0 i),(5,.o 8 (.k 1) 0 i),(6,i64 i)],[.mx (cs i),.pl (cs i)]⟩) N0 [(4,8,.mx []),(5,8,.pl [])] ⟨[.d 900000 0,.d 900000 1],⟨rfl,rfl,rfl,rfl,tq⟩,⟨_,rfl,by rw[hcs];rfl⟩,⟨_,rfl,by rw[hcs];rfl⟩,tq⟩ fun i hi=> ?_;refine b8 (fun a9=> ?_) (fun hge=> ?_)
 ·refine b8 (fun h25=> ?_) (fun h25=> ?_)
  ·have hl:i<l.length:=by omega
   obtain⟨r0,r1,r2,r3,r4⟩:=hr l[i] (Zq hl);obtain⟨f1,f2⟩:=hf l[i] (Zq hl);have e0:(l.flatMap D5)[((i:Nat):Int).toNat*13+0]? =(D5 l[i])[0]? :=by rw[Zd];exact mY (f:=D5) (e:=13) (fun _=>rfl) l i hl 0 (by decide)
   have e8:(l.flatMap D5)[((i:Nat):Int).toNat*13+8]? =(D5 l[i])[8]? :=by rw[Zd];exact mY (f:=D5) (e:=13) (fun _=>rfl) l i hl 8 (by decide)
   have e1:sub (l.flatMap D5) (((i:Nat):Int).toNat*13+1) 7=sub (D5 l[i]) 1 7:=by rw[Zd];exact mZ (f:=D5) (e:=13) (fun _=>rfl) l i hl 1 7 (by decide)
   have e9:sub (l.flatMap D5) (((i:Nat):Int).toNat*13+9) 4=sub (D5 l[i]) 9 4:=by rw[Zd];exact mZ (f:=D5) (e:=13) (fun _=>rfl) l i hl 9 4 (by decide)
   have hcl0:=hcl i (by omega);have hcn0:=hcn i hl;have hmC:cO l[i]=⟨dH l[i],gu l[i],l[i].inp⟩:=rfl;have hmK:dH l[i]=if gy.getD (l[i].kind%12).toNat 0=0 then (if 1<=l[i].kind/\l[i].kind<=4 then 7 else l[i].kind)else gy.getD (l[i].kind%12).toNat 0:=rfl;have hmF:gu l[i]=if (l[i].kind.tdiv 12)%9=0 then ⟨l[i].ct,l[i].cm,l[i].cp,l[i].cb,am (y9 l[i].tag) l[i].n l[i].key,aW (L6 l[i].mode) (n9 (y9 l[i].tag)).toNat l[i].iv⟩else ⟨y9 l[i].tag,L6 l[i].mode,jt l[i].mode l[i].pad,l[i].back,am (y9 l[i].tag) l[i].n l[i].key,aW (L6 l[i].mode) (n9 (y9 l[i].tag)).toNat l[i].iv⟩:=rfl;rw[hmC]at hcn0;obtain⟨s,q,xs,rs,h⟩:=xG l[i].tag l[i].n l[i].key;have hs:=h.s_le;have hM:=GZ (back:=l[i].back) r1 r2 r3 r4 (rfl:l[i].key.length=_) (rfl:l[i].iv.length=_) h.hs hs.2;have lK:=uR (y9 l[i].tag) l[i].n l[i].key;have lV:=Bc (L6 l[i].mode) s l[i].iv;have hkl:=uQ (jc l[i].tag) l[i].n;have es:(n9 (y9 l[i].tag)).toNat=s:=by rw[h.hs];rfl
   rw[es]at hmF;rw[<-lK,<-lV]at hM;have hKb:(am (y9 l[i].tag) l[i].n l[i].key).length<=1000:=by omega
   have hVb:(aW (L6 l[i].mode) s l[i].iv).length<=1000:=by rw[lV];unfold ga;split<;>omega
   clear hcs hmC lK lV;generalize hrw:l.flatMap D5=rw0 at*
   generalize hx:l[i]=x at*
   generalize am (y9 x.tag) x.n x.key=K at*
   generalize aW (L6 x.mode) s x.iv=W at*
   have m0:=Int.emod_nonneg x.kind (show (12:Int)≠0 by decide);have m12:=Int.emod_lt_of_pos x.kind (show (0:Int)<12 by decide);obtain⟨ew,wb⟩:=a0F r0;have b1:(0:Int)<=(i:Int):=Int.natCast_nonneg i;have c1:0+K.length<=1073741824:=by omega
   have c2:0+W.length<=1073741824:=by omega
   have c3:0+x.inp.length<=1073741824:=by omega
   have c4:i+1<=1073741824:=by omega
   have c5:0+i*8<=(cs i).length:=by omega
   have c6:i+1<=N0:=by omega
   have c7:N0-(i+1)<N0-i:=by omega
   have c8:I6.wrap ((i:Int)+1)=((i+1:Nat):Int):=by rw[Zc _ (by omega)];omega
   refine⟨b1,a9,?_⟩;refine⟨_,e0,?_⟩;refine⟨[],_,_,_,_,zo (n:=12) (by omega) (by omega) r0,rfl,rfl,?_⟩;refine⟨m0,m12,?_⟩;obtain⟨tv,htv⟩:∃tv,gy.getD (x.kind%12).toNat 0=tv:=⟨_,rfl⟩;rw[htv]at hmK;refine⟨.int .i64 tv,by rw[Nat.zero_add,Zy,<-htv];exact Vx _ (by omega),?_⟩;refine⟨b1,a9,?_⟩;refine⟨_,e8,?_⟩;refine⟨Za rfl,?_⟩;refine⟨b1,a9,?_⟩;refine⟨_,e1,rfl,?_⟩;refine⟨[],_,_,_,_,hM,rfl,rfl,?_⟩;refine⟨Za rfl,?_⟩;refine⟨Za rfl,?_⟩;refine⟨Za rfl,?_⟩;refine⟨b1,a9,?_⟩;refine⟨_,e0,?_⟩;refine⟨by decide,?_⟩;refine⟨[],_,_,_,_,zo (n:=9) (by omega) (by omega) wb,rfl,rfl,?_⟩;have F2:(x.kind.tdiv 12%9=0/\gu x=⟨x.ct,x.cm,x.cp,x.cb,K,W⟩)\/(¬x.kind.tdiv 12%9=0/\gu x=⟨y9 x.tag,L6 x.mode,jt x.mode x.pad,x.back,K,W⟩):=by
    by_cases h:x.kind.tdiv 12%9=0
    ·exact .inl ⟨h,hmF.trans (if_pos h)⟩
    ·exact .inr ⟨h,hmF.trans (if_neg h)⟩
   have K4:(tv≠0/\dH x=tv)\/(tv=0/\1<=x.kind/\x.kind<=4/\dH x=7)\/(tv=0/\1<=x.kind/\¬x.kind<=4/\dH x=x.kind)\/(tv=0/\¬1<=x.kind/\dH x=x.kind):=by
    by_cases h0:tv=0
    ·rw[if_pos h0]at hmK;by_cases h1:1<=x.kind
     ·by_cases h2:x.kind<=4
      ·exact .inr (.inl ⟨h0,h1,h2,hmK.trans (if_pos ⟨h1,h2⟩)⟩)
      ·exact .inr (.inr (.inl ⟨h0,h1,h2,hmK.trans (if_neg (fun hh=>h2 hh.2))⟩))
     ·exact .inr (.inr (.inr ⟨h0,h1,hmK.trans (if_neg (fun hh=>h1 hh.1))⟩))
    ·exact .inl ⟨h0,hmK.trans (if_neg h0)⟩
   clear hmK hmF hkl htv r0 r1 r2 r3 r4 f1 f2 hr hf hcl hcn hcp hb hN0 hml hmt;rw[<-ew]at F2;rcases F2 with ⟨h9,hF⟩|⟨h9,hF⟩<;>rcases K4 with ⟨h0,hK⟩|⟨h0,h1,h2,hK⟩|⟨h0,h1,h2,hK⟩|⟨h0,h1,hK⟩;all_goals
    rw[hF,hK]at hcn0;first
     |refine g8 (fun _=> ?_) (fun hh=>absurd h9 hh)
      refine⟨b1,a9,?_⟩;refine⟨_,e9,rfl,?_⟩;refine⟨Za rfl,?_⟩
     |refine g8 (fun hh=>absurd hh h9) (fun _=> ?_)
    refine⟨_,rfl,?_⟩;first
     |refine g8 (fun hh=>absurd hh h0) (fun _=> ?_)
     |refine g8 (fun _=> ?_) (fun hh=>absurd h0 hh)
      refine⟨b1,a9,?_⟩;refine⟨_,e0,?_⟩;refine⟨Za rfl,?_⟩;refine⟨_,rfl,?_⟩;first
       |refine b8 (fun _=> ?_) (fun hh=>absurd h1 hh)
        refine⟨_,rfl,?_⟩;first
         |refine b8 (fun _=> ?_) (fun hh=>absurd h2 hh)
          refine⟨Za rfl,?_⟩
         |refine b8 (fun hh=>absurd hh h2) (fun _=> ?_)
       |refine b8 (fun hh=>absurd hh h1) (fun _=> ?_)
    refine⟨_,rfl,?_⟩;refine⟨_,rfl,rfl,?_⟩;refine⟨_,rfl,?_⟩;refine⟨f7 _,c1,Z1 _,?_⟩;refine⟨_,rfl,?_⟩;refine⟨f7 _,c2,Z1 _,?_⟩;refine⟨_,rfl,?_⟩;refine⟨f7 _,c3,Z1 _,?_⟩;refine⟨Za rfl,c4,c5,?_⟩;refine⟨_,rfl,rfl,?_⟩;refine⟨Za rfl,c4,c5,?_⟩;refine⟨i+1,c6,c7,[.d 97 0,.d 101 0],⟨rfl,rfl,rfl,b9 c8,tq⟩,⟨_,rfl,congrArg B.mx ?_⟩,⟨_,rfl,congrArg B.pl ?_⟩,tq⟩
    ·rw[Z2,y8 hcl0,hcd,hcn0];refine congrArg (cs i++ ·) ?_;show[_,_,_,_,_,V.z (0+K.length) _,V.z (0+W.length) _,V.z (0+x.inp.length) _]=_;rw[z3,z3,z3];rfl
    ·rw[y8 hcl0,hcn0];rfl
  ·have he:i=N0:=by omega
   subst he;refine⟨_,rfl,[],?_,tq⟩;show V.t [V.zz 8 i ((sub (cs i) 0 (i*8)).map _),V.zz 8 i (sub (cs i) 0 (i*8))]=_;rw[y8 (hcl i (by omega)),hcp,hml,hcs];show V.t [V.zz 8 i (((l.take i).map cO).flatMap G7),V.zz 8 i (((l.take i).map cO).flatMap G7)]=_;rw[hmt]
 ·have he:i=N0:=by omega
  subst he;refine⟨_,rfl,[],?_,tq⟩;show V.t [V.zz 8 i ((sub (cs i) 0 (i*8)).map _),V.zz 8 i (sub (cs i) 0 (i*8))]=_;rw[y8 (hcl i (by omega)),hcp,hml,hcs];show V.t [V.zz 8 i (((l.take i).map cO).flatMap G7),V.zz 8 i (((l.take i).map cO).flatMap G7)]=_;rw[hmt]
theorem a2V {l:List bx} (hf:∀x∈l,mi x) (hr:∀x∈l,wO x):∀x∈gw l,gZ x:=by
 intro y hy;obtain⟨x,hx,rfl⟩:=List.mem_map.1 hy;have hx:=List.mem_of_mem_take hx;obtain⟨r0,_⟩:=hr x hx;obtain⟨_,f2⟩:=hf x hx;have hK:(gu x).key.length<=1000/\(gu x).iv.length<=1000:=by
  have lK:=uR (y9 x.tag) x.n x.key;have hkl:=uQ (jc x.tag) x.n;have lV:=Bc (L6 x.mode) (n9 (y9 x.tag)).toNat x.iv;obtain⟨s,q,xs,rs,h⟩:=xG x.tag x.n x.key;have hs:=h.s_le;have es:(n9 (y9 x.tag)).toNat=s:=by rw[h.hs];rfl
  have hV:ga (L6 x.mode) (n9 (y9 x.tag)).toNat<=1000:=by rw[es];unfold ga;split<;>omega
  unfold gu;split
  ·exact⟨by show(am _ _ _).length<=_;omega,by show(aW _ _ _).length<=_;omega⟩
  ·exact⟨by show(am _ _ _).length<=_;omega,by show(aW _ _ _).length<=_;omega⟩
 refine⟨?_,hK.1,hK.2,Zi f2 (by decide)⟩;show -9223372036854775808<=dH x/\dH x<=9223372036854775807;unfold af at r0;unfold dH;have m0:=Int.emod_nonneg x.kind (show (12:Int)≠0 by decide);have m12:=Int.emod_lt_of_pos x.kind (show (0:Int)<12 by decide);have ht:∀j:Nat,j<12->0<=gy.getD j 0/\gy.getD j 0<=5:=by
  intro j hj;rcases j with _|_|_|_|_|_|_|_|_|_|_|_|j<;>first|exact⟨by decide,by decide⟩|omega
 have:=ht (x.kind%12).toNat (by omega);split
 ·split<;>omega
 ·omega
theorem a2U (l:List bx):(gw l).length<=25:=by rw[Jd,Zf];omega
theorem a2Z {ts:List To} {i:Nat} (h:i<ts.length) (k:Nat) (hk:k<3) {j:Nat} (hj:j=i*3+k):(ts.flatMap N9)[j]? =(N9 ts[i])[k]? :=by
 subst hj;exact mY (f:=N9) (e:=3) (fun _=>rfl) ts i h k hk
theorem VE {n:Nat} {md mode pad:Int} {back:Bool} (hn:n<=16):B1 n md mode pad back<=32:=by
 unfold B1;split
 ·omega
 ·split
  ·omega
  ·split<;>omega
theorem Xp {n:Nat} {σ:CX} (h:fA n σ):qP σ<=32:=by
 rcases σ with _|⟨c,_|M⟩|c
 ·exact Zg _
 ·exact Zg _
 ·obtain⟨⟨rs,hc⟩,ok⟩:=Cf.ok h.1 h.2.1;have hs:=hc.s_le;have h1:=(tM (back:=c.back) (by omega) ok M.length).1;have h2:=VE (md:=i9 c.mode) (mode:=c.mode) (pad:=c.pad) (back:=c.back) hs.2;show(m5 c.s c.mode c.pad c.back M).length<=32;rw[fI];omega
 ·exact Zg _
theorem a2W {n:Nat} {σ:CX} {x:Cl} (h:fA n σ) (hx:gZ x) (hb:n+x.inp.length<=100000):
  (U1 σ x).held<=32/\((U1 σ x).e≠0->(U1 σ x).out=[])/\(x.kind=2->(U1 σ x).out.length<=x.inp.length+16)/\(x.kind=3->(U1 σ x).out.length<=32)/\(x.kind≠2->x.kind≠3->(U1 σ x).out=[]):=by
 refine⟨Xp (h.next hx),?_⟩;show((z5 σ x).2≠0->(z5 σ x).1=[])/\(x.kind=2->(z5 σ x).1.length<=x.inp.length+16)/\(x.kind=3->(z5 σ x).1.length<=32)/\(x.kind≠2->x.kind≠3->(z5 σ x).1=[]);by_cases h2:x.kind=2
 ·have on:∀σ,(∀c m,σ≠ .op c m)->z5 σ x=([],6):=fun σ hσ=>by
   unfold z5;rw[if_neg (by omega),if_pos h2];cases σ with
   |op c m=>exact absurd rfl (hσ c m)
   |nw=>rfl
   |cl c=>rfl
  have oo:∀c m,z5 (.op c m) x=((c.T (m.getD []++x.inp)).drop (c.T (m.getD [])).length,0):=fun c m=>by
   unfold z5;rw[if_neg (by omega),if_pos h2]
  refine⟨?_,fun _=> ?_,fun h3=>by omega,fun hh=>absurd h2 hh⟩
  ·cases σ with
   |op c m=>rw[oo];exact fun hh=>absurd rfl hh
   |nw=>rw[on _ (by simp)];exact fun _=>rfl
   |cl c=>rw[on _ (by simp)];exact fun _=>rfl
  ·cases σ with
   |nw=>rw[on _ (by simp)];exact Zg _
   |cl c=>rw[on _ (by simp)];exact Zg _
   |op c m=>
    rw[oo];obtain⟨⟨rs,hc⟩,ok⟩:=Cf.ok h.1 h.2.1;have hs:=hc.s_le;have h0:0<c.s:=by omega
    show((c.T (m.getD []++x.inp)).drop (c.T (m.getD [])).length).length<=_;generalize m.getD []=M;have t1:(c.T (M++x.inp)).length=_:=iE (back:=c.back) (M:=M++x.inp) hc.ci h0 ok;have t2:(c.T M).length=_:=iE (back:=c.back) (M:=M) hc.ci h0 ok;have f1:=(bI (back:=c.back) h0 ok M.length).1;have f2:=(bI (back:=c.back) h0 ok (M++x.inp).length).1;have g1:=(tM (back:=c.back) h0 ok M.length).1;have g2:=(tM (back:=c.back) h0 ok (M++x.inp).length).2;have ad:=tJ (back:=c.back) h0 ok M.length x.inp.length;rw[<-Zb]at ad;have gr:l8 c.s (i9 c.mode)<=c.s:=by rcases (jT (back:=c.back) h0 ok).2.2 with hh|hh<;>omega
    have:=(Up (s:=c.s) (L:=M.length) (m:=x.inp.length) (L':=(M++x.inp).length) (n:=p6 c.s c.mode c.pad c.back (M++x.inp).length-p6 c.s c.mode c.pad c.back M.length) Zb (by omega) f1 f2 g1 g2 gr).1;rw[Zh,t1,t2];omega
 ·by_cases h3:x.kind=3
  ·have on:∀σ,(∀c m,σ≠ .op c m)->z5 σ x=([],6):=fun σ hσ=>by
    unfold z5;rw[if_neg (by omega),if_neg h2,if_pos h3];cases σ with
    |op c m=>exact absurd rfl (hσ c m)
    |nw=>rfl
    |cl c=>rfl
   have oo:∀c m,z5 (.op c m) x=c.fin (m.getD []):=fun c m=>by
    unfold z5;rw[if_neg (by omega),if_neg h2,if_pos h3]
   cases σ with
   |nw=>rw[on _ (by simp)];exact⟨fun _=>rfl,fun hh=>absurd hh h2,fun _=>Zg _,fun _ hh=>absurd h3 hh⟩
   |cl c=>rw[on _ (by simp)];exact⟨fun _=>rfl,fun hh=>absurd hh h2,fun _=>Zg _,fun _ hh=>absurd h3 hh⟩
   |op c m=>
    rw[oo];obtain⟨⟨rs,hc⟩,ok⟩:=Cf.ok h.1 h.2.1;have hs:=hc.s_le;have h5:(m.getD []).length<=100000:=Zi h.2.2 (by omega);obtain⟨r1,_⟩:=mE hc (back:=c.back) (M:=m.getD []) (x:= .o (c.H (m.getD []))) (r:=c.fin (m.getD [])) ok (.inr rfl) h5 rfl;have r2:=(tL (M:=m.getD []) (back:=c.back) hc.ci (by omega) ok (rfl:c.fin (m.getD [])=_)).2;exact⟨r2,fun hh=>absurd hh h2,fun _=>by show(c.fin (m.getD [])).1.length<=32;omega,fun _ hh=>absurd h3 hh⟩
  ·have ho:(z5 σ x).1=[]:=by
    unfold z5;by_cases h1:x.kind=1
    ·rw[if_pos h1]
    ·rw[if_neg h1,if_neg h2,if_neg h3];by_cases h4:x.kind=4
     ·rw[if_pos h4];cases σ<;>rfl
     ·rw[if_neg h4]
   exact⟨fun _=>ho,fun hh=>absurd hh h2,fun hh=>absurd hh h3,fun _ _=>ho⟩
def vU (cv:V) (t mode pad md:Int) (back:Bool) (iv:Bs) (ps:List (Bs)) (i:Nat) (st:MS) (la H T:Bs):D:=
 ⟨[(10,.p (.k 0) 0),(28,.zz 1 ps.length (ps.map zc)),(29,i64 ps.length),(12,.o 1 (.k 6) 0 T.length),(30,i64 i)],
  [m6 true true t mode pad back cv (.z iv.length (bv iv)) (.p (.k 1) 0) (.o 1 (.k 5) 0 H.length) (.z la.length (bv la)),f8 cv md back st 4,.dead,.dead,g9 st.row st.gone,.sc (bv H),.sc (bv T)]⟩
def Dm (cv:V) (t mode pad md:Int) (back:Bool) (k:Nat) (xs:List V) (iv:Bs) (ps:List (Bs)) (A:Nat->MS×Bs×Bs×Bs):Nat->D
 |0=>⟨[(10,.p (.k 0) 0),(28,.zz 1 ps.length (ps.map zc)),(29,i64 ps.length),(12,.o 1 (.k 4) 0 0),(30,i64 0)],[j8 true t mode pad back k xs iv .n iv,f8 cv md back ⟨iv,[],[]⟩ 2,.dead,.dead,.sc []]⟩
 |i+1=>vU cv t mode pad md back iv ps (i+1) (A (i+1)).1 (A (i+1)).2.1 (A (i+1)).2.2.1 (A (i+1)).2.2.2
theorem vT {cv:V} {t mode pad md:Int} {back:Bool} {k:Nat} {xs:List V} {iv:Bs} {ps:List (Bs)} {A:Nat->MS×Bs×Bs×Bs} {i:Nat} {st:MS} {la H T:Bs} (e:A (i+1)=(st,la,H,T)):
  Dm cv t mode pad md back k xs iv ps A (i+1)=vU cv t mode pad md back iv ps (i+1) st la H T:=by
 show vU cv t mode pad md back iv ps (i+1) (A (i+1)).1 (A (i+1)).2.1 (A (i+1)).2.2.1 (A (i+1)).2.2.2=_;rw[e]
theorem me (T:Bs):V.z T.length (sub (bv T) 0 T.length)=V.z T.length (bv T):=by rw[d7 rfl]
theorem Mk {t key s k xs rs} (h:j5 t key s k xs rs) {mode pad:Int} {back:Bool} {lk li:Nat} {iv:Bs} (hk:key.length=lk) (hlk:lk<=1000) (hi:iv.length=li) (ok:A2 s mode pad iv) {ps:List (Bs)} {r:Bs×Int} (hps:ps.flatten.length<=100000) (hpn:ps.length<=100000)
  (hr:r=iD (cF t key false) (cF t key true) s mode pad back (cS t key s mode pad back iv ps.flatten) (cL t key s mode pad back iv ps.flatten) (m5 s mode pad back ps.flatten)):
  a6 C 49 [A4 t mode pad back,.z lk (bv key),.z li (bv iv),.zz 1 ps.length (ps.map zc)] [] (.ret (bn (if r.2=0 then cT t key s mode pad back iv ps.flatten++r.1 else [],r.2))) []:=by
 have hs:=h.s_le;have hc0:x6 ps 0=[]:=by unfold x6;rw[List.take_zero];rfl
 obtain⟨A,hA⟩:∃A:Nat->MS×Bs×Bs×Bs,A=fun i=>(cS t key s mode pad back iv (x6 ps i),cL t key s mode pad back iv (x6 ps i),m5 s mode pad back (x6 ps i),cT t key s mode pad back iv (x6 ps i)):=⟨_,rfl⟩;obtain⟨e1,e2⟩:=tL (M:=ps.flatten) h.ci (by omega) ok hr;have is:r.2≠0->r.1.length=0:=fun hh=>by rw[e2 hh];rfl
 have hF:∀{x:HK},(x= .n/\m5 s mode pad back ps.flatten=[]\/x= .o (m5 s mode pad back ps.flatten))->_:=fun hx=>(mE h ok hx hps hr).2;have hr2:=(mE h (x:= .o (m5 s mode pad back ps.flatten)) ok (.inr rfl) hps hr).1;have hTb:(cT t key s mode pad back iv ps.flatten).length<=100000:=by
  have h1:=iE (back:=back) (M:=ps.flatten) h.ci (by omega) ok;have h2:=(bI (back:=back) (by omega) ok ps.flatten.length).1;show(B5 (cF t key false) (cF t key true) s mode pad back iv ps.flatten).1.length<=_;omega
 have hU:∀i (hi:i<ps.length) {x:HK},(x= .n/\m5 s mode pad back (x6 ps i)=[]\/x= .o (m5 s mode pad back (x6 ps i)))->_:=fun i hi x hx=>tN h (b:=ps[i]) ok hx rfl (by
  have h1:=zt ps (i+1);rw[tz hi,Zb]at h1;omega)
 have hTi:∀i,(cT t key s mode pad back iv (x6 ps i)).length<=100000:=fun i=>by
  have h1:=iE (back:=back) (M:=x6 ps i) h.ci (by omega) ok;have h2:=(bI (back:=back) (by omega) ok (x6 ps i).length).1;have h3:=zt ps i;show(B5 (cF t key false) (cF t key true) s mode pad back iv (x6 ps i)).1.length<=_;omega
 have IN:=yk h (back:=back) hk hlk hi ok;refine As.x ?_;refine⟨[],_,_,_,_,sQ,rfl,rfl,?_⟩;refine⟨[i64 t,i64 mode,i64 pad,bool back],rfl,rfl,?_⟩;refine⟨[.d 19 0],_,_,_,_,IN,rfl,rfl,?_⟩;refine A8 (Dm (c9 t k xs) t mode pad (i9 mode) back k xs iv ps A) ps.length [(12,1,.sc [])] ⟨[.d 19 0,.d 24 1,.d 24 2,.d 24 3,.d 900000 0],⟨rfl,rfl,rfl,rfl,rfl,tq⟩,⟨_,rfl,rfl⟩,⟨_,rfl,rfl⟩,⟨_,rfl,rfl⟩,⟨_,rfl,rfl⟩,⟨_,rfl,rfl⟩,tq⟩ fun i hi=> ?_;rcases i with _|i
 ·refine b8 (fun a9=> ?_) (fun hge=> ?_)
  ·have hl:0<ps.length:=by omega
   obtain⟨n,o,hn,_,hT,U⟩:=hU 0 hl (x:= .n) (.inl ⟨rfl,by rw[hc0];exact pe⟩);rw[<-tz hl,hc0]at hT U;have U:=U.resolve_right (fun hh=>hh.1 (by rw[jF (by omega) ok]));rw[oD (by omega) ok,jF (by omega) ok]at U;rw[show cT t key s mode pad back iv []=[] from congrArg Prod.fst (sJ (by omega) ok),Zo]at hT;refine⟨by omega,by omega,?_⟩;refine⟨_,FJ (i:=0) hl,?_⟩;have hA1:A 1=(cS t key s mode pad back iv (x6 ps (0+1)),cL t key s mode pad back iv (x6 ps (0+1)),m5 s mode pad back (x6 ps (0+1)),cT t key s mode pad back iv (x6 ps (0+1))):=by rw[hA]
   rw[hT]at hA1;generalize cS t key s mode pad back iv (x6 ps (0+1))=st1 at*
   generalize cL t key s mode pad back iv (x6 ps (0+1))=la1 at*
   generalize m5 s mode pad back (x6 ps (0+1))=H1 at*
   have hTi1:=hTi 1;rw[hT]at hTi1;obtain⟨ch,row,g⟩:=st1;rcases row with _|⟨a,rr⟩;all_goals
    refine⟨[.k 0,.k 1,.k 2,.k 3],_,_,_,_,U,rfl,rfl,?_⟩;refine⟨by rw[f7,hn],by omega,Z1 _,?_⟩;refine⟨1,by omega,by omega,rY (vT hA1) ?_⟩;refine⟨[.k 0,.k 1,.k 2,.k 3,.d 37 4,.d 37 5,.d 45 0],⟨rfl,rfl,rfl,?_,rfl,tq⟩,⟨_,rfl,rfl⟩,⟨_,rfl,rfl⟩,⟨_,rfl,rfl⟩,⟨_,rfl,rfl⟩,⟨_,rfl,rfl⟩,⟨_,rfl,rfl⟩,⟨_,rfl,?_⟩,tq⟩
    ·exact congrArg (V.o 1 (.k 6) 0) (show 0+n=o.length by omega)
    ·exact d8 (show sub ([]:List Value) 0 (0*1)++bv o=bv o from rfl)
  ·have h0:ps.length=0:=by omega
   have hp0:ps=[]:=Ze h0;subst hp0;obtain⟨la',F⟩:=hF (x:= .n) (.inl ⟨rfl,pe⟩);rw[show ([]:List (Bs)).flatten=[] from rfl]at*
   rw[oD (by omega) ok,jF (by omega) ok]at F;rw[show cT t key s mode pad back iv []=[] from congrArg Prod.fst (sJ (by omega) ok)];refine⟨[.k 0,.k 1,.k 2,.k 3],_,_,_,_,F,rfl,rfl,?_⟩;refine l5 (fun h2=> ?_) (fun h2=> ?_)
   ·rw[if_neg h2];exact⟨.ret (.t [d9,i64 r.2]),[],⟨_,rfl,[],rfl,tq⟩,.ret (.t (.cons .nl (.cons (.refl _) .nil))),.nil⟩
   ·rw[if_pos h2,h2];by_cases hz:0<(([]:Bs)++r.1).length
    ·have CC:=bF (ls:=[([]:Bs),r.1]) (t:=([]:Bs)++r.1) (n:=2) (by simp) rfl rfl hz (by rw[Zb];omega) (by decide);refine⟨[],_,_,_,_,CC,?_,rfl,?_⟩
     ·exact congrArg (fun z=>[V.zz 1 2 [z,V.z r.1.length (bv r.1)]]) (me ([]:Bs))
     exact⟨.ret (bn (([]:Bs)++r.1,0)),[],⟨_,rfl,[],congrArg (fun z=>V.t [z,i64 0]) (me _),tq⟩,.ret (.refl _),.nil⟩
    ·have hz0:=Jc.1 (Ze (Ja hz));refine⟨[],_,_,_,_,yg,?_,rfl,?_⟩
     ·show[V.zz 1 2 [V.z (([]:Bs)).length (sub (bv ([]:Bs)) 0 (([]:Bs)).length),V.z r.1.length (bv r.1)]]=_;rw[me,hz0.2,show([]:Bs)=[] from hz0.1];rfl
     refine⟨.ret (bn ([],0)),[],⟨_,rfl,[],rfl,tq⟩,?_,.nil⟩;rw[hz0.2,show([]:Bs)=[] from hz0.1];exact .ret (.refl _)
 ·have hA1:A (i+1)=(cS t key s mode pad back iv (x6 ps (i+1)),cL t key s mode pad back iv (x6 ps (i+1)),m5 s mode pad back (x6 ps (i+1)),cT t key s mode pad back iv (x6 ps (i+1))):=by rw[hA]
  rw[vT hA1];have hT0:=hTi (i+1);refine b8 (fun a9=> ?_) (fun hge=> ?_)
  ·have hl:i+1<ps.length:=by omega
   obtain⟨n,o,hn,_,hT,U⟩:=hU (i+1) hl (x:= .o (m5 s mode pad back (x6 ps (i+1)))) (.inr rfl);have hT1:=hTi (i+1+1);rw[<-tz hl]at hT U;refine⟨by omega,by omega,?_⟩;refine⟨.z ps[i+1].length (bv ps[i+1]),by rw[Zy];exact FJ hl,?_⟩;have hA2:A (i+1+1)=(cS t key s mode pad back iv (x6 ps (i+1+1)),cL t key s mode pad back iv (x6 ps (i+1+1)),m5 s mode pad back (x6 ps (i+1+1)),cT t key s mode pad back iv (x6 ps (i+1+1))):=by rw[hA]
   rw[hT]at hA2 hT1;generalize cS t key s mode pad back iv (x6 ps (i+1+1))=st1 at*
   generalize cL t key s mode pad back iv (x6 ps (i+1+1))=la1 at*
   generalize m5 s mode pad back (x6 ps (i+1+1))=H1 at*
   generalize cS t key s mode pad back iv (x6 ps (i+1))=st0 at*
   generalize cL t key s mode pad back iv (x6 ps (i+1))=la0 at*
   generalize m5 s mode pad back (x6 ps (i+1))=H0 at*
   generalize cT t key s mode pad back iv (x6 ps (i+1))=T0 at*
   rw[Zb,hn]at hT1;obtain⟨ch,row,g⟩:=st1;obtain⟨G6,row0,g0⟩:=st0;rcases U with U|⟨_,U⟩<;>rcases row0 with _|⟨a0,rr0⟩<;>rcases row with _|⟨a,rr⟩;all_goals
    refine⟨[.k 0,.k 1,.k 4,.k 5],_,_,_,_,U,rfl,rfl,?_⟩;refine⟨by rw[f7,hn],by omega,by rw[f7];omega,?_⟩;refine⟨i+1+1,by omega,by omega,rY (vT hA2) ?_⟩;first
     |refine⟨[.k 0,.k 1,.k 2,.k 3,.d 37 4,.d 37 5,.d 45 0],⟨rfl,rfl,rfl,?_,b9 (by simp(disch:=omega)only[Zc];omega),tq⟩,⟨_,rfl,rfl⟩,⟨_,rfl,rfl⟩,⟨_,rfl,rfl⟩,⟨_,rfl,rfl⟩,⟨_,rfl,rfl⟩,⟨_,rfl,rfl⟩,⟨_,rfl,?_⟩,tq⟩
     |refine⟨[.k 0,.k 1,.k 2,.k 3,.k 4,.d 37 4,.d 45 0],⟨rfl,rfl,rfl,?_,b9 (by simp(disch:=omega)only[Zc];omega),tq⟩,⟨_,rfl,rfl⟩,⟨_,rfl,rfl⟩,⟨_,rfl,rfl⟩,⟨_,rfl,rfl⟩,⟨_,rfl,rfl⟩,⟨_,rfl,rfl⟩,⟨_,rfl,?_⟩,tq⟩
    ·exact congrArg (V.o 1 (.k 6) 0) (show T0.length+n=(T0++o).length by rw[Zb,hn])
    ·exact d8 (show sub (bv T0) 0 (T0.length*1)++bv o=bv (T0++o) by rw[Zy,d7 rfl,v7])
  ·have hn1:i+1=ps.length:=by omega
   rw[show x6 ps (i+1)=ps.flatten by rw[hn1];exact MW ps]at*
   obtain⟨la',F⟩:=hF (x:= .o (m5 s mode pad back ps.flatten)) (.inr rfl);generalize cS t key s mode pad back iv ps.flatten=st0 at*
   generalize cL t key s mode pad back iv ps.flatten=la0 at*
   generalize m5 s mode pad back ps.flatten=H0 at*
   generalize cT t key s mode pad back iv ps.flatten=T0 at*
   obtain⟨G6,row0,g0⟩:=st0;rcases row0 with _|⟨a0,rr0⟩;all_goals
    refine⟨[.k 0,.k 1,.k 4,.k 5],_,_,_,_,F,rfl,rfl,?_⟩;refine l5 (fun h2=> ?_) (fun h2=> ?_)
    ·rw[if_neg h2];exact⟨.ret (.t [d9,i64 r.2]),[],⟨_,rfl,[],rfl,tq⟩,.ret (.t (.cons .nl (.cons (.refl _) .nil))),.nil⟩
    ·rw[if_pos h2,h2];by_cases hz:0<(T0++r.1).length
     ·have CC:=bF (ls:=[T0,r.1]) (t:=T0++r.1) (n:=2) (by simp) rfl rfl hz (by rw[Zb];omega) (by decide);refine⟨[],_,_,_,_,CC,?_,rfl,?_⟩
      ·exact congrArg (fun z=>[V.zz 1 2 [z,V.z r.1.length (bv r.1)]]) (me T0)
      exact⟨.ret (bn (T0++r.1,0)),[],⟨_,rfl,[],congrArg (fun z=>V.t [z,i64 0]) (me _),tq⟩,.ret (.refl _),.nil⟩
     ·have hz0:=Jc.1 (Ze (Ja hz));refine⟨[],_,_,_,_,yg,?_,rfl,?_⟩
      ·show[V.zz 1 2 [V.z (T0).length (sub (bv T0) 0 (T0).length),V.z r.1.length (bv r.1)]]=_;rw[me,hz0.2,show T0=[] from hz0.1];rfl
      refine⟨.ret (bn ([],0)),[],⟨_,rfl,[],rfl,tq⟩,?_,.nil⟩;rw[hz0.2,show T0=[] from hz0.1];exact .ret (.refl _)
theorem Ml {t key s k xs rs} (h:j5 t key s k xs rs) {mode pad:Int} {back:Bool} {lk li:Nat} {iv b:Bs} {ps:List (Bs)} (hk:key.length=lk) (hlk:lk<=1000) (hi:iv.length=li) (hps:ps.flatten=b) (hm:b.length<=100000) (hpn:ps.length<=100000) (ok:A2 s mode pad iv):
  a6 C 49 [A4 t mode pad back,.z lk (bv key),.z li (bv iv),.zz 1 ps.length (ps.map zc)] [] (.ret (bn (Y7 (cF t key false) (cF t key true) s mode pad back iv b))) []:=by
 have hs:=h.s_le;subst hps;obtain⟨r,hr⟩:∃r,r=iD (cF t key false) (cF t key true) s mode pad back (cS t key s mode pad back iv ps.flatten) (cL t key s mode pad back iv ps.flatten) (m5 s mode pad back ps.flatten):=⟨_,rfl⟩;have S:=Mk h hk hlk hi ok (ps:=ps) hm hpn hr;obtain⟨e1,e2⟩:=tL (M:=ps.flatten) h.ci (by omega) ok hr;rw[e1];exact S
theorem Mm {t mode pad:Int} {back:Bool} {lk li n:Nat} {key iv:Bs} {ys:List V} (hk:key.length=lk) (hlk:lk<=1000) (hi:iv.length=li) (he:z6 t mode pad (n9 t).toNat lk li≠0):
  a6 C 49 [A4 t mode pad back,.z lk (bv key),.z li (bv iv),.zz 1 n ys] [] (.ret (bn ([],z6 t mode pad (n9 t).toNat lk li))) []:=by
 have IN:=yl (back:=back) hk hlk hi he;generalize z6 t mode pad (n9 t).toNat lk li=e at*
 refine As.x ?_;refine⟨[],_,_,_,_,sQ,rfl,rfl,?_⟩;refine⟨[i64 t,i64 mode,i64 pad,bool back],rfl,rfl,?_⟩;refine⟨[.d 19 0],_,_,_,_,IN,rfl,rfl,?_⟩;refine l5 (fun _=> ?_) (fun hh=>absurd hh he);exact⟨.ret (.t [d9,i64 e]),[],⟨_,rfl,[],rfl,tq⟩,.ret (.t (.cons .nl (.cons (.refl _) .nil))),.nil⟩
theorem a2Y (t:Int) {key:Bs} {lk:Nat} (hk:key.length=lk) (hlk:lk<=1000) (mode pad:Int) (back:Bool) {m:Nat} {iv msg:Bs} {li:Nat} (hi:iv.length=li) (hmm:msg.length=m) (hmb:m<=100000):
  ∃r:Bs×Int,a6 C 49 [A4 t mode pad back,.z lk (bv key),.z li (bv iv),.zz 1 1 [.z m (bv msg)]] [] (.ret (bn r)) []/\a6 C 48 [A4 t mode pad back,.z lk (bv key),.z li (bv iv),.z m (bv msg)] [] (.ret (bn r)) []:=by
 rcases vR t hk hlk mode pad back hi with ⟨_,s,k,xs,rs,h,ok⟩|⟨he,P,Q⟩
 ·have S:=Ml h (back:=back) hk hlk hi (ps:=[msg]) (b:=msg) (by simp) (by omega) (show 1<=100000 by decide) ok;have e:([msg].map zc)=[V.z m (bv msg)]:=by subst hmm;rfl
  rw[e]at S;exact⟨_,S,LV h rfl rfl rfl hk hi hmm hmb ok⟩
 ·exact⟨_,Mm hk hlk hi he,nF rfl (Ma Q he)⟩
end Go.Scr
