/-
  What the functions of the given program reckon, each by a contract, up to the law. It is no claim by itself; each contract bears its own conditions.
-/
import Derived.Test.YthhlfpbfdkogfaaGreatDoorY3
set_option linter.unusedVariables false
set_option linter.unusedSimpArgs false
set_option maxRecDepth 100000
namespace Go.Scr
open Go.Proofs
open Nat renaming le_of_ble_eq_true → Za, zero_le → Zg, le_trans → Zi, mul_le_mul_left → Zj, le_of_not_lt → Zk, mod_self → Zl, dvd_of_mod_eq_zero → Zm, sub_succ_lt_self → Zt, mul_succ → Zu, div_eq_of_lt → Zv, min_eq_left → Zw, le_antisymm → Zx, mul_one → Zy, add_sub_cancel_left → Zz, le_refl → Z1, add_sub_cancel → Z4, mul_mod_right → Z6, lt_irrefl → Z8, eq_zero_of_not_pos → Ja, le_of_dvd → Jf, mul_zero → Ji, add_zero → Jj
open List renaming length_append → Zb, eq_nil_of_length_eq_zero → Ze, length_take → Zf, length_drop → Zh, take_append_drop → Zn, nil_append → Zo, getElem?_eq_getElem → Zp, getElem_mem → Zq, drop_of_length_le → Zr, flatMap_cons → Zs, drop_append → Z0, map_append → Z2, take_add_one → Z7, take_length → Z9, take_of_length_le → Jb, append_eq_nil_iff → Jc, length_map → Jd, drop_left → Je, take_nil → Jg, mem_cons → Jh
open IntWalk renaming i64_in → Zc
open Int renaming toNat_natCast → Zd, tmod_eq_emod_of_nonneg → Z5
open Option renaming toList_some → Z3
open Go.IntKind renaming i64 → I6
theorem IK {t mode pad:Int} {op bg back:Bool} {k:Nat} {xs:List V} {iv:Bs} (hm:mode<=9):a9 C 158 [.p (.k 0) 0] [o9 bg op t mode pad back (f7 t k xs) (.z iv.length (bv iv)) j7 i6 i6] (.ret (bool (decide (7<=mode)))) [o9 bg op t mode pad back (f7 t k xs) (.z iv.length (bv iv)) j7 i6 i6]:=by
 refine nF.c ?_;refine⟨_,rfl,?_⟩;refine d9 (fun h7=> ?_) (fun h7=> ?_)
 ·refine⟨_,rfl,?_⟩;exact⟨_,rfl,[.k 0],congrArg bool (by rw[decide_eq_true hm,decide_eq_true h7]),⟨_,rfl,rfl⟩,tq⟩
 ·exact⟨_,rfl,[.k 0],congrArg bool (by rw[decide_eq_false h7]),⟨_,rfl,rfl⟩,tq⟩
theorem cB {s:Nat} {mode pad:Int} {iv:Bs} (ok:D0 s mode pad iv):(1<=j9 mode/\j9 mode<=6)/\iv.length=if j9 mode=1 then 0 else s:=by
 obtain⟨o1,o2,o3,o4⟩:=ok;unfold j9;by_cases h7:7<=mode
 ·rw[if_pos h7];exact⟨by decide,by rw[o4,if_neg (by omega),if_neg (by decide)]⟩
 ·rw[if_neg h7];exact⟨by omega,o4⟩
theorem Ig {t key s k xs rs} (h:k9 t key s k xs rs) {mode pad:Int} {op back:Bool} {iv:Bs} (ok:D0 s mode pad iv):
  a9 C 91 [.p (.k 0) 0] [o9 true op t mode pad back (f7 t k xs) (.z iv.length (bv iv)) j7 i6 i6] (.ret (.t []))
   [l9 true t mode pad back k xs iv .n iv,j4 (f7 t k xs) (j9 mode) back ⟨iv,[],[]⟩ 2,.dead,.dead]:=by
 have hs:=h.s_le;obtain⟨m1,hiv⟩:=cB ok;have T0:=tV h (mode:=j9 mode) (back:=back) (i:=1) (vi:=bv iv) (iv:=iv) rfl rfl m1 hiv;have hl16:iv.length<=16:=by rw[hiv];split<;>omega
 have S:=IK (t:=t) (mode:=mode) (pad:=pad) (op:=op) (bg:=true) (back:=back) (k:=k) (xs:=xs) (iv:=iv) ok.1.2;refine uP.c ?_;refine⟨_,rfl,?_⟩;refine⟨[.k 0],_,_,_,_,S,rfl,rfl,?_⟩;refine d9 (fun h7=> ?_) (fun h7=> ?_);all_goals
  first
   |rw[show j9 mode=2 from if_pos h7]at T0 ⊢
   |rw[show j9 mode=mode from if_neg h7]at T0 ⊢
  refine⟨_,rfl,?_⟩;refine⟨_,rfl,?_⟩;refine⟨_,rfl,?_⟩;refine⟨[],_,_,_,_,T0,rfl,rfl,?_⟩;refine⟨Za rfl,?_⟩;refine⟨_,rfl,?_⟩;refine⟨[],_,_,_,_,W6 (l:=iv) rfl rfl (by omega),rfl,rfl,?_⟩;refine⟨Za rfl,?_⟩;refine⟨Za rfl,?_⟩;refine⟨Za rfl,?_⟩;exact⟨_,rfl,[.k 0,.d 26 0,.d 26 1,.d 26 2],rfl,⟨_,rfl,rfl⟩,⟨_,rfl,rfl⟩,⟨_,rfl,rfl⟩,⟨_,rfl,rfl⟩,tq⟩
theorem yM {t key s k xs rs} (h:k9 t key s k xs rs) {mode pad md0 t0:Int} {k0:Nat} {xs0:List V} {op back I4:Bool} {iv G7:Bs} {st0:MS} {x0:HK} (ok:D0 s mode pad iv):
  a9 C 91 [.p (.k 0) 0] [l9 op t mode pad back k xs iv x0 G7,j4 (f7 t0 k0 xs0) md0 I4 st0 2,j6 st0.row st0.gone,x0.b] (.ret (.t []))
   [o9 true true t mode pad back (f7 t k xs) (.z iv.length (bv iv)) (.p (.k 4) 0) i6 (.z iv.length (bv iv)),j4 (f7 t0 k0 xs0) md0 I4 st0 2,j6 st0.row st0.gone,x0.b,j4 (f7 t k xs) (j9 mode) back ⟨iv,[],[]⟩ 5,.dead,.dead]:=by
 have hs:=h.s_le;obtain⟨m1,hiv⟩:=cB ok;have T0:=tV h (mode:=j9 mode) (back:=back) (i:=1) (vi:=bv iv) (iv:=iv) rfl rfl m1 hiv;have hl16:iv.length<=16:=by rw[hiv];split<;>omega
 have S:=IL (t:=t) (mode:=mode) (pad:=pad) (md:=md0) (op:=op) (back:=back) (I4:=I4) (t0:=t0) (k:=k) (k0:=k0) (xs:=xs) (xs0:=xs0) (iv:=iv) (d7:=G7) (st:=st0) (x:=x0) ok.1.2;obtain⟨ch,row,g⟩:=st0;rcases row with _|⟨a,r⟩<;>rcases x0 with _|H|H;all_goals
  refine uP.c ?_;refine⟨_,rfl,?_⟩;refine⟨[.k 0,.k 1,.k 2,.k 3],_,_,_,_,S,rfl,rfl,?_⟩;refine d9 (fun h7=> ?_) (fun h7=> ?_);all_goals
   first
    |rw[show j9 mode=2 from if_pos h7]at T0 ⊢
    |rw[show j9 mode=mode from if_neg h7]at T0 ⊢
   refine⟨_,rfl,?_⟩;refine⟨_,rfl,?_⟩;refine⟨_,rfl,?_⟩;refine⟨[],_,_,_,_,T0,rfl,rfl,?_⟩;refine⟨Za rfl,?_⟩;refine⟨_,rfl,?_⟩;refine⟨[],_,_,_,_,W6 (l:=iv) rfl rfl (by omega),rfl,rfl,?_⟩;refine⟨Za rfl,?_⟩;refine⟨Za rfl,?_⟩;refine⟨Za rfl,?_⟩;exact⟨_,rfl,[.k 0,.k 1,.k 2,.k 3,.d 26 0,.d 26 1,.d 26 2],rfl,⟨_,rfl,rfl⟩,⟨_,rfl,rfl⟩,⟨_,rfl,rfl⟩,⟨_,rfl,rfl⟩,⟨_,rfl,rfl⟩,⟨_,rfl,rfl⟩,⟨_,rfl,rfl⟩,tq⟩
theorem wD {t key s k xs rs} (h:k9 t key s k xs rs) {mode pad:Int} {lk li:Nat} {iv:Bs} (hk:key.length=lk) (hi:iv.length=li) (ok:D0 s mode pad iv):C6 t mode pad (q9 t).toNat lk li=0:=by
 obtain⟨o1,o2,o3,o4⟩:=ok;unfold C6;rw[if_neg (by exact fun x=>x h.ht),if_neg (by rw[<-hk];exact fun x=>x h.kl),if_neg (by exact fun x=>x ⟨o1,o2,o3⟩),if_neg (by rw[h.hs,Zd,<-hi];exact fun x=>x o4)]
theorem yO {t key s k xs rs} (h:k9 t key s k xs rs) {mode pad:Int} {back:Bool} {lk li:Nat} {iv:Bs} (hk:key.length=lk) (hlk:lk<=1000) (hi:iv.length=li) (ok:D0 s mode pad iv):
  a9 C 30 [.p (.k 0) 0,D2 t mode pad back,.z lk (bv key),.z li (bv iv)] [o9 false false 0 0 0 false j7 i6 j7 i6 i6] (.ret (i64 0))
   [l9 true t mode pad back k xs iv .n iv,j4 (f7 t k xs) (j9 mode) back ⟨iv,[],[]⟩ 2,.dead,.dead]:=by
 have hs:=h.s_le;obtain⟨m1,hiv⟩:=cB ok;have hl16:iv.length<=16:=by rw[hiv];split<;>omega
 have CK:=(kG t hk hlk mode pad back hi).1;rw[wD h hk hi ok]at CK;subst hi;refine kP.c ?_;refine⟨[i64 t,i64 mode,i64 pad,bool back],rfl,rfl,?_⟩;refine⟨[],_,_,_,_,CK,rfl,rfl,?_⟩;refine⟨_,rfl,?_⟩;refine⟨[],_,_,_,_,h.new' (n:=lk) hk rfl,rfl,rfl,?_⟩;refine⟨Za rfl,?_⟩;refine⟨[i64 t,i64 mode,i64 pad,bool back],rfl,rfl,?_⟩;refine⟨[],_,_,_,_,W6 (l:=iv) rfl rfl (by omega),rfl,rfl,?_⟩;refine⟨Za rfl,?_⟩;refine⟨Za rfl,?_⟩;refine⟨Za rfl,?_⟩;refine⟨[.k 0],_,_,_,_,Ig h (op:=false) ok,rfl,rfl,?_⟩;exact⟨_,rfl,[.k 0,.d 40 1,.d 40 2,.d 40 3],rfl,⟨_,rfl,rfl⟩,⟨_,rfl,rfl⟩,⟨_,rfl,rfl⟩,⟨_,rfl,rfl⟩,tq⟩
theorem ID {t key s k xs rs} (h:k9 t key s k xs rs) {mode pad:Int} {back:Bool} {lk li:Nat} {iv:Bs} {t0 mode0 pad0 md0:Int} {op I4:Bool} {k0:Nat} {xs0:List V} {iv0 G7:Bs} {st0:MS} {x0:HK} (hk:key.length=lk) (hlk:lk<=1000) (hi:iv.length=li) (ok:D0 s mode pad iv):
  a9 C 30 [.p (.k 0) 0,D2 t mode pad back,.z lk (bv key),.z li (bv iv)] [l9 op t0 mode0 pad0 I4 k0 xs0 iv0 x0 G7,j4 (f7 t0 k0 xs0) md0 I4 st0 2,j6 st0.row st0.gone,x0.b] (.ret (i64 0))
   [o9 true true t mode pad back (f7 t k xs) (.z iv.length (bv iv)) (.p (.k 4) 0) i6 (.z iv.length (bv iv)),j4 (f7 t0 k0 xs0) md0 I4 st0 2,j6 st0.row st0.gone,x0.b,j4 (f7 t k xs) (j9 mode) back ⟨iv,[],[]⟩ 5,.dead,.dead]:=by
 have hs:=h.s_le;obtain⟨m1,hiv⟩:=cB ok;have hl16:iv.length<=16:=by rw[hiv];split<;>omega
 have CK:=(kG t hk hlk mode pad back hi).1;rw[wD h hk hi ok]at CK;subst hi;have BG:=yM h (back:=back) (md0:=md0) (t0:=t0) (k0:=k0) (xs0:=xs0) (op:=op) (I4:=I4) (G7:=G7) (st0:=st0) (x0:=x0) ok;obtain⟨ch,row,g⟩:=st0;rcases row with _|⟨a,r⟩<;>rcases x0 with _|H|H;all_goals
  refine kP.c ?_;refine⟨[i64 t,i64 mode,i64 pad,bool back],rfl,rfl,?_⟩;refine⟨[],_,_,_,_,CK,rfl,rfl,?_⟩;refine⟨_,rfl,?_⟩;refine⟨[],_,_,_,_,h.new' (n:=lk) hk rfl,rfl,rfl,?_⟩;refine⟨Za rfl,?_⟩;refine⟨[i64 t,i64 mode,i64 pad,bool back],rfl,rfl,?_⟩;refine⟨[],_,_,_,_,W6 (l:=iv) rfl rfl (by omega),rfl,rfl,?_⟩;refine⟨Za rfl,?_⟩;refine⟨Za rfl,?_⟩;refine⟨Za rfl,?_⟩;refine⟨[.k 0,.k 1,.k 2,.k 3],_,_,_,_,BG,rfl,rfl,?_⟩;exact⟨_,rfl,[.k 0,.k 1,.k 2,.k 3,.d 40 4,.d 40 5,.d 40 6],rfl,⟨_,rfl,rfl⟩,⟨_,rfl,rfl⟩,⟨_,rfl,rfl⟩,⟨_,rfl,rfl⟩,⟨_,rfl,rfl⟩,⟨_,rfl,rfl⟩,⟨_,rfl,rfl⟩,tq⟩
theorem yP {t mode pad:Int} {back:Bool} {lk li:Nat} {key iv:Bs} (hk:key.length=lk) (hlk:lk<=1000) (hi:iv.length=li) (he:C6 t mode pad (q9 t).toNat lk li≠0):
  a9 C 30 [.p (.k 0) 0,D2 t mode pad back,.z lk (bv key),.z li (bv iv)] [o9 false false 0 0 0 false j7 i6 j7 i6 i6] (.ret (i64 (C6 t mode pad (q9 t).toNat lk li))) [o9 false false 0 0 0 false j7 i6 j7 i6 i6]:=by
 have CK:=(kG t hk hlk mode pad back hi).1;generalize C6 t mode pad (q9 t).toNat lk li=e at*
 refine kP.c ?_;refine⟨[i64 t,i64 mode,i64 pad,bool back],rfl,rfl,?_⟩;refine⟨[],_,_,_,_,CK,rfl,rfl,?_⟩;refine n7 (fun _=> ?_) (fun hh=>absurd hh he);exact⟨_,rfl,[.k 0],rfl,⟨_,rfl,rfl⟩,tq⟩
theorem IF {t mode pad:Int} {back:Bool} {lk li:Nat} {key iv:Bs} {t0 mode0 pad0 md0:Int} {op I4:Bool} {k0:Nat} {xs0:List V} {iv0 G7:Bs} {st0:MS} {x0:HK} (hk:key.length=lk) (hlk:lk<=1000) (hi:iv.length=li) (he:C6 t mode pad (q9 t).toNat lk li≠0):
  a9 C 30 [.p (.k 0) 0,D2 t mode pad back,.z lk (bv key),.z li (bv iv)] [l9 op t0 mode0 pad0 I4 k0 xs0 iv0 x0 G7,j4 (f7 t0 k0 xs0) md0 I4 st0 2,j6 st0.row st0.gone,x0.b] (.ret (i64 (C6 t mode pad (q9 t).toNat lk li))) [l9 op t0 mode0 pad0 I4 k0 xs0 iv0 x0 G7,j4 (f7 t0 k0 xs0) md0 I4 st0 2,j6 st0.row st0.gone,x0.b]:=by
 have CK:=(kG t hk hlk mode pad back hi).1;generalize C6 t mode pad (q9 t).toNat lk li=e at*
 obtain⟨ch,row,g⟩:=st0;rcases row with _|⟨a,r⟩<;>rcases x0 with _|H|H;all_goals
  refine kP.c ?_;refine⟨[i64 t,i64 mode,i64 pad,bool back],rfl,rfl,?_⟩;refine⟨[],_,_,_,_,CK,rfl,rfl,?_⟩;refine n7 (fun _=> ?_) (fun hh=>absurd hh he);exact⟨_,rfl,[.k 0,.k 1,.k 2,.k 3],rfl,⟨_,rfl,rfl⟩,⟨_,rfl,rfl⟩,⟨_,rfl,rfl⟩,⟨_,rfl,rfl⟩,tq⟩
theorem IH:a9 C 35 [.p (.k 0) 0] [o9 false false 0 0 0 false j7 i6 j7 i6 i6] (.ret (i64 6)) [o9 false false 0 0 0 false j7 i6 j7 i6 i6]:=by
 refine uO.c ?_;refine⟨_,rfl,?_⟩;exact⟨_,rfl,[.k 0],rfl,⟨_,rfl,rfl⟩,tq⟩
theorem IB:a9 C 40 [.p (.k 0) 0] [o9 false false 0 0 0 false j7 i6 j7 i6 i6] (.ret (i64 0)) [o9 false false 0 0 0 false j7 i6 j7 i6 i6]:=by
 refine uN.c ?_;refine⟨_,rfl,?_⟩;exact⟨_,rfl,[.k 0],rfl,⟨_,rfl,rfl⟩,tq⟩
theorem yR:a9 C 94 [.p (.k 0) 0] [o9 false false 0 0 0 false j7 i6 j7 i6 i6] (.pan (.i Y4 (i64 6))) [o9 false false 0 0 0 false j7 i6 j7 i6 i6]:=by
 refine uQ.c ?_;refine⟨_,rfl,?_⟩;refine⟨[],_,_,_,_,kD (e:=6) (by decide),rfl,rfl,?_⟩;exact⟨_,rfl,[.k 0],rfl,⟨_,rfl,rfl⟩,tq⟩
theorem II {t key s k xs rs} (h:k9 t key s k xs rs) {mode pad md0:Int} {op back:Bool} {iv G7:Bs} {st0:MS} {x0:HK} (ok:D0 s mode pad iv):
  a9 C 35 [.p (.k 0) 0] [l9 op t mode pad back k xs iv x0 G7,j4 (f7 t k xs) md0 back st0 2,j6 st0.row st0.gone,x0.b] (.ret (i64 0))
   [o9 true true t mode pad back (f7 t k xs) (.z iv.length (bv iv)) (.p (.k 4) 0) i6 (.z iv.length (bv iv)),j4 (f7 t k xs) md0 back st0 2,j6 st0.row st0.gone,x0.b,j4 (f7 t k xs) (j9 mode) back ⟨iv,[],[]⟩ 5,.dead,.dead]:=by
 have BG:=yM h (back:=back) (md0:=md0) (t0:=t) (k0:=k) (xs0:=xs) (op:=op) (I4:=back) (G7:=G7) (st0:=st0) (x0:=x0) ok;obtain⟨ch,row,g⟩:=st0;rcases row with _|⟨a,r⟩<;>rcases x0 with _|H|H;all_goals
  refine uO.c ?_;refine⟨_,rfl,?_⟩;refine⟨[.k 0,.k 1,.k 2,.k 3],_,_,_,_,BG,rfl,rfl,?_⟩;exact⟨_,rfl,[.k 0,.k 1,.k 2,.k 3,.d 9 4,.d 9 5,.d 9 6],rfl,⟨_,rfl,rfl⟩,⟨_,rfl,rfl⟩,⟨_,rfl,rfl⟩,⟨_,rfl,rfl⟩,⟨_,rfl,rfl⟩,⟨_,rfl,rfl⟩,⟨_,rfl,rfl⟩,tq⟩
def D3 (g most L:Nat):Nat:=(L-most+(g-1))/g
theorem bH {g most L i:Nat} (hg:0<g):i<D3 g most L↔most+g*i<L:=by
 unfold D3;rw[Nat.lt_iff_add_one_le,Nat.le_div_iff_mul_le hg,Nat.add_mul,Nat.one_mul,Nat.mul_comm i g];omega
theorem pN {g most L:Nat} (hg:0<g) (hm:g-1<=most):g*D3 g most L<=L:=by
 by_cases h:D3 g most L=0
 ·rw[h];omega
 ·have:=(bH (most:=most) (L:=L) (i:=D3 g most L-1) hg).1 (by omega);have e:g*D3 g most L=g*(D3 g most L-1)+g:=by
   obtain⟨k,hk⟩:∃k,D3 g most L=k+1:=⟨D3 g most L-1,by omega⟩;rw[hk,Z4,Zu]
  omega
theorem Ov {g most L m:Nat} (hg:0<g) (hm:g-1<=most):D3 g most (L+m)=D3 g most L+D3 g most (L-g*D3 g most L+m):=by
 have hle:=pN (L:=L) hg hm;refine Zx ?_ ?_
 ·refine Zk fun h=> ?_;have h1:=(bH hg).1 h;rw[Nat.mul_add]at h1;have h2:=(bH (most:=most) (L:=L-g*D3 g most L+m) (i:=D3 g most (L-g*D3 g most L+m)) hg).2 (by omega);exact absurd h2 (Z8 _)
 ·by_cases h0:D3 g most (L-g*D3 g most L+m)=0
  ·rw[h0,Jj];refine Zk fun h=> ?_;have h1:=(bH hg).1 h;have h2:=(bH (most:=most) (L:=L) (i:=D3 g most (L+m)) hg).1 h;have h3:=(bH (most:=most) (L:=L+m) (i:=D3 g most (L+m)) hg).2 (by omega);exact absurd h3 (Z8 _)
  ·obtain⟨k,hk⟩:∃k,D3 g most (L-g*D3 g most L+m)=k+1:=⟨D3 g most (L-g*D3 g most L+m)-1,by omega⟩;rw[hk];have h1:=(bH (most:=most) (L:=L-g*D3 g most L+m) (i:=k) hg).1 (by omega);have h2:=(bH (most:=most) (L:=L+m) (i:=D3 g most L+k) hg).2 (by rw[Nat.mul_add];omega);omega
theorem Am {n:Nat} {mode pad:Int} {iv:Bs} (ok:D0 n mode pad iv):(7<=mode/\j9 mode=2)\/(mode<=6/\j9 mode=mode):=by
 unfold j9;by_cases h7:7<=mode
 ·exact .inl ⟨h7,if_pos h7⟩
 ·exact .inr ⟨by omega,if_neg h7⟩
theorem kH {n:Nat} {mode pad:Int} {iv:Bs} {back:Bool} (hn:0<n) (ok:D0 n mode pad iv):
  0<o6 n (j9 mode)/\o6 n (j9 mode)-1<=D9 n (j9 mode) mode pad back/\(o6 n (j9 mode)=n/\j9 mode<=2\/o6 n (j9 mode)=1/\3<=j9 mode/\mode<=6):=by
 have hm:=ok.1;rcases Am ok with ⟨h1,h2⟩|⟨h1,h2⟩
 ·rw[h2];refine⟨hn,?_,.inl ⟨rfl,by decide⟩⟩;show n-1<=_;unfold D9;rw[if_neg (by decide),if_pos h1];omega
 ·rw[h2];unfold o6 D9;by_cases h3:3<=mode
  ·rw[if_neg (by omega),if_pos h3];exact⟨by omega,by omega,.inr ⟨rfl,h3,h1⟩⟩
  ·rw[if_pos (by omega),if_neg h3,if_neg (by omega)];refine⟨hn,?_,.inl ⟨rfl,by omega⟩⟩;split<;>omega
def t5 (n:Nat) (mode pad:Int) (back:Bool) (L:Nat):Nat:=o6 n (j9 mode)*D3 (o6 n (j9 mode)) (D9 n (j9 mode) mode pad back) L
def E5 (E D:Bs->Bs) (n:Nat) (mode pad:Int) (back:Bool) (iv M:Bs):Bs×MS:=k5 E D n (j9 mode) back ⟨iv,[],[]⟩ (M.take (t5 n mode pad back M.length))
def o8 (n:Nat) (mode pad:Int) (back:Bool) (M:Bs):Bs:=M.drop (t5 n mode pad back M.length)
def ek (E D:Bs->Bs) (n:Nat) (mode pad:Int) (back:Bool) (iv M:Bs):Bs:=L5 n mode back (M.take (t5 n mode pad back M.length)) (E5 E D n mode pad back iv M).1 iv
theorem cA {n:Nat} {mode pad:Int} {iv:Bs} {back:Bool} (hn:0<n) (ok:D0 n mode pad iv) (L:Nat):t5 n mode pad back L<=L/\t5 n mode pad back L%o6 n (j9 mode)=0:=by
 obtain⟨g0,g1,g2⟩:=kH (back:=back) hn ok;exact⟨pN g0 g1,Z6 _ _⟩
theorem uu {n:Nat} {mode pad:Int} {iv:Bs} {back:Bool} (hn:0<n) (ok:D0 n mode pad iv) (L m:Nat):t5 n mode pad back (L+m)=t5 n mode pad back L+t5 n mode pad back (L-t5 n mode pad back L+m):=by
 obtain⟨g0,g1,g2⟩:=kH (back:=back) hn ok;unfold t5;rw[Ov g0 g1,Nat.mul_add]
theorem gF {n:Nat} {mode pad:Int} {back:Bool} (M:Bs):(o8 n mode pad back M).length=M.length-t5 n mode pad back M.length:=by
 unfold o8;rw[Zh]
theorem jh {E D:Bs->Bs} {n:Nat} {mode pad:Int} {iv M:Bs} {back:Bool} (h:CI E D n) (hn:0<n) (ok:D0 n mode pad iv):(E5 E D n mode pad back iv M).1.length=t5 n mode pad back M.length:=by
 obtain⟨f1,f2⟩:=cA (back:=back) hn ok M.length;have lt:(M.take (t5 n mode pad back M.length)).length=t5 n mode pad back M.length:=by rw[Zf];omega
 unfold E5;rw[aB h (qU (cB ok).1 (cB ok).2) (by rw[lt];exact f2),lt]
theorem Oy {A b:Bs} {F a:Nat} (h:F<=A.length):A.take F++(A.drop F++b).take a=(A++b).take (F+a):=by
 have e:A++b=A.take F++(A.drop F++b):=by rw[<-List.append_assoc,Zn]
 rw[e];generalize A.drop F++b=R;rw[List.take_append,Zf,Zw h,Zz,Jb (show (A.take F).length<=F+a by rw[Zf];omega)]
theorem Ow {A b:Bs} {F a:Nat} (h:F<=A.length):(A.drop F++b).drop a=(A++b).drop (F+a):=by
 have e:A++b=A.take F++(A.drop F++b):=by rw[<-List.append_assoc,Zn]
 rw[e];generalize A.drop F++b=R;rw[Z0,Zf,Zw h,Zz,Zr (show (A.take F).length<=F+a by rw[Zf];omega),Zo]
theorem Oz {E D:Bs->Bs} {n:Nat} {mode pad:Int} {iv M b:Bs} {back:Bool} {a:Nat} (h:CI E D n) (hn:0<n) (ok:D0 n mode pad iv) (ha:a=t5 n mode pad back ((o8 n mode pad back M).length+b.length)):
  E5 E D n mode pad back iv (M++b)=((E5 E D n mode pad back iv M).1++(k5 E D n (j9 mode) back (E5 E D n mode pad back iv M).2 ((o8 n mode pad back M++b).take a)).1,(k5 E D n (j9 mode) back (E5 E D n mode pad back iv M).2 ((o8 n mode pad back M++b).take a)).2)
  /\L5 n mode back ((o8 n mode pad back M++b).take a) (k5 E D n (j9 mode) back (E5 E D n mode pad back iv M).2 ((o8 n mode pad back M++b).take a)).1 (ek E D n mode pad back iv M)=ek E D n mode pad back iv (M++b)
  /\(o8 n mode pad back M++b).drop a=o8 n mode pad back (M++b):=by
 obtain⟨f1,f2⟩:=cA (back:=back) hn ok M.length;obtain⟨g0,g1,g2⟩:=kH (back:=back) hn ok;have hF:t5 n mode pad back (M++b).length=t5 n mode pad back M.length+a:=by
  rw[Zb,uu hn ok,ha,gF]
 have ha1:=cA (back:=back) hn ok ((o8 n mode pad back M).length+b.length);rw[<-ha,gF]at ha1;have lb:((o8 n mode pad back M++b).take a).length=a:=by rw[Zf,Zb,gF];omega
 have lt:(M.take (t5 n mode pad back M.length)).length=t5 n mode pad back M.length:=by rw[Zf];omega
 have eT:(M++b).take (t5 n mode pad back (M++b).length)=M.take (t5 n mode pad back M.length)++(o8 n mode pad back M++b).take a:=by
  rw[hF];unfold o8;rw[Oy f1]
 have eS:E5 E D n mode pad back iv (M++b)=((E5 E D n mode pad back iv M).1++(k5 E D n (j9 mode) back (E5 E D n mode pad back iv M).2 ((o8 n mode pad back M++b).take a)).1,(k5 E D n (j9 mode) back (E5 E D n mode pad back iv M).2 ((o8 n mode pad back M++b).take a)).2):=by
  show k5 E D n (j9 mode) back ⟨iv,[],[]⟩ ((M++b).take (t5 n mode pad back (M++b).length))=_;rw[eT,og hn (by rw[lt];exact f2) (by rw[lb];exact ha1.2)];rfl
 have lT:=jh (back:=back) (M:=M) h hn ok;refine⟨eS,?_,?_⟩
 ·show _=L5 n mode back ((M++b).take (t5 n mode pad back (M++b).length)) (E5 E D n mode pad back iv (M++b)).1 iv;rw[eS,eT];have K:W1 n (j9 mode) (E5 E D n mode pad back iv M).2:=vR h hn (qU (cB ok).1 (cB ok).2);have lo:(k5 E D n (j9 mode) back (E5 E D n mode pad back iv M).2 ((o8 n mode pad back M++b).take a)).1.length=a:=by
   rw[aB h K (by rw[lb];exact ha1.2),lb]
  simp only
  generalize k5 E D n (j9 mode) back (E5 E D n mode pad back iv M).2 ((o8 n mode pad back M++b).take a)=o at*
  unfold ek;generalize (o8 n mode pad back M++b).take a=c at*
  generalize (E5 E D n mode pad back iv M).1=T at*
  generalize M.take (t5 n mode pad back M.length)=A at*
  generalize t5 n mode pad back M.length=F at*
  unfold L5;rw[lb,lt,Zb,lt,lb];by_cases h7:7<=mode
  ·have gn:o6 n (j9 mode)=n:=by
    rcases Am ok with ⟨_,h2⟩|⟨h1,_⟩
    ·rw[h2];rfl
    ·omega
   rw[gn]at ha1;by_cases ha0:n<=a
   ·rw[if_pos (show 7<=mode/\n<=a from ⟨h7,ha0⟩),if_pos (show 7<=mode/\n<=F+a from ⟨h7,by omega⟩)];cases back
    ·simp only[Bool.false_eq_true,if_false];rw[Z0,lT,Zr (show T.length<=F+a-n by omega),Zo,show F+a-n-F=a-n by omega]
    ·simp only[if_true];rw[Z0,lt,Zr (show A.length<=F+a-n by omega),Zo,show F+a-n-F=a-n by omega]
   ·have a0:a=0:=by
     rcases Nat.eq_zero_or_pos a with h0|h0
     ·exact h0
     ·exact absurd (Jf h0 (Zm ha1.2)) ha0
    subst a0;obtain rfl:=Ze lb;rw[if_neg (show ¬(7<=mode/\n<=0) by omega),Jj,List.append_nil,Ze lo,List.append_nil]
  ·rw[if_neg (show ¬(7<=mode/\n<=a) by omega),if_neg (show ¬(7<=mode/\n<=F) by omega),if_neg (show ¬(7<=mode/\n<=F+a) by omega)]
 ·show _=(M++b).drop (t5 n mode pad back (M++b).length);rw[hF];exact Ow f1
def jg (E D:Bs->Bs) (n:Nat) (mode pad:Int) (back:Bool) (st:MS) (d7 H:Bs):Bs×Int:=
 if 7<=mode then (if H.length<n then ([],7)else (P2 E D n mode back d7 H,0))
 else if pad=4 then (if H.length%o6 n (j9 mode)=0 then ((k5 E D n (j9 mode) back st H).1,0)else ([],7))
 else if back=false then ((k5 E D n (j9 mode) back st (L8 pad n H)).1,0)
 else if H.length=n then (if A3 pad (k5 E D n (j9 mode) back st H).1=0 then ([],8)else (V7 pad (k5 E D n (j9 mode) back st H).1,0))
 else ([],7)
theorem Ox {n L:Nat} (hn:0<n):n*((L-2*n+(n-1))/n)=D4 n L:=by
 unfold D4;by_cases h:2*n<=L
 ·rw[show L-2*n+(n-1)=L-n-1 by omega]
 ·rw[show L-2*n+(n-1)=n-1 by omega,Zv (by omega),Zv (by omega)]
theorem uv {E D:Bs->Bs} {n:Nat} {mode pad:Int} {iv M:Bs} {back:Bool} (h:CI E D n) (hn:0<n) (ok:D0 n mode pad iv) {r:Bs×Int}
  (hr:r=jg E D n mode pad back (E5 E D n mode pad back iv M).2 (ek E D n mode pad back iv M) (o8 n mode pad back M)):
  aI E D n mode pad back iv M=(if r.2=0 then (E5 E D n mode pad back iv M).1++r.1 else [],r.2)/\(r.2≠0->r.1=[]):=by
 obtain⟨f1,f2⟩:=cA (back:=back) hn ok M.length;have lT:=jh (back:=back) (M:=M) h hn ok;have lt:(M.take (t5 n mode pad back M.length)).length=t5 n mode pad back M.length:=by rw[Zf];omega
 have lH:=gF (n:=n) (mode:=mode) (pad:=pad) (back:=back) M;have hd:=Nat.div_add_mod M.length n;have hm:=Nat.mod_lt M.length hn;unfold jg at hr;unfold aI;by_cases h7:7<=mode
 ·have e2:j9 mode=2:=if_pos h7;have eF:t5 n mode pad back M.length=D4 n M.length:=by
   unfold t5 D3 D9;rw[e2,if_neg (by decide),if_pos h7];exact Ox hn
  have hiv:iv.length=n:=by have:=ok.2.2.2;rw[if_neg (by omega)]at this;exact this
  rw[if_pos h7]at hr;rw[if_pos h7];unfold aJ;by_cases hl:M.length<n
  ·have:D4 n M.length=0:=by rw[<-eF];have:=Zm f2;rw[e2,Bv]at this;rcases Nat.eq_zero_or_pos (t5 n mode pad back M.length)with h0|h0;exact h0;have:=Jf h0 this;omega
   rw[if_pos (by omega)]at hr;rw[if_pos hl,hr];exact⟨rfl,fun _=>rfl⟩
  ·obtain⟨a1,a2,a3,a4,a5⟩:=kU hn (by omega:n<=M.length);rw[if_neg (by omega)]at hr;rw[if_neg hl,hr];refine⟨?_,fun hh=>absurd rfl hh⟩;simp only[if_true];have e1:E5 E D n mode pad back iv M=k5 E D n 2 back ⟨iv,[],[]⟩ (M.take (D4 n M.length)):=by unfold E5;rw[e2,eF]
   have eL:ek E D n mode pad back iv M=gd n back iv M (k5 E D n 2 back ⟨iv,[],[]⟩ (M.take (D4 n M.length))).1:=by
    unfold ek L5 gd;rw[e1,eF];rw[eF]at lt;rw[lt];by_cases h0:D4 n M.length=0
    ·rw[if_pos h0,if_neg (by omega)]
    ·rw[if_neg h0,if_pos (show 7<=mode/\n<=D4 n M.length from ⟨h7,by omega⟩)];cases back
     ·rfl
     ·simp only[if_true];unfold sub;rw[List.drop_take,show D4 n M.length-(D4 n M.length-n)=n by omega]
   have eH:o8 n mode pad back M=M.drop (D4 n M.length):=by unfold o8;rw[eF]
   rw[eL,e1,eH]
 ·have e2:j9 mode=mode:=if_neg h7;rw[if_neg h7]at hr;rw[if_neg h7];rw[e2]at hr f2;have K0:W1 n mode ⟨iv,[],[]⟩:=qU (by have:=ok.1;omega) ok.2.2.2;by_cases h4:pad=4
  ·rw[if_pos h4]at hr;rw[if_pos h4];have hiff:(o8 n mode pad back M).length%o6 n mode=M.length%o6 n mode:=by
    rw[lH];obtain⟨q,hq⟩:=Zm f2;rw[hq,Nat.sub_mul_mod (by omega)]
   rw[hiff]at hr;by_cases hz:M.length%o6 n mode=0
   ·rw[if_pos hz]at hr;rw[if_pos hz,hr];refine⟨?_,fun hh=>absurd rfl hh⟩;simp only[if_true];have:=og (E:=E) (D:=D) (mode:=mode) (back:=back) (s:=⟨iv,[],[]⟩) (a:=M.take (t5 n mode pad back M.length)) (b:=o8 n mode pad back M) hn (by rw[lt];exact f2) (by rw[hiff];exact hz);unfold o8 at this ⊢;rw[Zn]at this;unfold E5;rw[this,e2]
   ·rw[if_neg hz]at hr;rw[if_neg hz,hr];exact⟨rfl,fun _=>rfl⟩
  ·have hm2:mode<=2:=ok.2.2.1.resolve_left h4;have gn:o6 n mode=n:=if_pos (by have:=ok.1;omega);rw[gn]at f2;rw[if_neg h4]at hr;rw[if_neg h4];cases back
   ·rw[if_pos rfl]at hr;rw[if_pos rfl,hr];refine⟨?_,fun hh=>absurd rfl hh⟩;simp only[if_true];have eF:t5 n mode pad false M.length=M.length-M.length%n:=by
     unfold t5 D3 D9;rw[e2,gn,if_neg (by omega),if_neg h7,if_neg (by simp)];by_cases hl:n-1<=M.length
     ·rw[Nat.sub_add_cancel hl];omega
     ·rw[show M.length-(n-1)+(n-1)=n-1 by omega,Zv (by omega),Nat.mod_eq_of_lt (by omega)];omega
    have lp:(L8 pad n (M.drop (M.length-M.length%n))).length=n:=mf (by rw[Zh];omega);rw[eF]at lt f2;unfold am E5 o8;rw[e2,eF];rw[og hn (by rw[lt,gn];exact f2) (by rw[lp,gn,Zl])]
   ·rw[if_neg (by decide)]at hr;rw[if_neg (by decide)];have eF:t5 n mode pad true M.length=n*((M.length-n+(n-1))/n):=by
     unfold t5 D3 D9;rw[e2,gn,if_neg (by omega),if_neg h7,if_pos ⟨h4,rfl⟩]
    have hHn:(o8 n mode pad true M).length=n↔¬(M.length=0\/M.length%n≠0):=by
     rw[lH];rcases Nat.lt_or_ge M.length n with hl|hl
     ·rw[Nat.mod_eq_of_lt hl];have:t5 n mode pad true M.length=0:=by
       rw[eF,Zv (by omega),Ji]
      omega
     ·constructor
      ·intro he;have:M.length=n+t5 n mode pad true M.length:=by omega
       rw[this,Nat.add_mod_left,f2];omega
      ·intro hno;have hz:M.length%n=0:=Classical.byContradiction fun hh=>hno (.inr hh);obtain⟨q,hq⟩:=Zm hz;have hq0:q≠0:=fun h0=>by rw[h0,Ji]at hq;omega
       obtain⟨p,rfl⟩:∃p,q=p+1:=⟨q-1,by omega⟩;rw[Zu]at hq;rw[eF,hq,Z4,Nat.mul_add_div hn,Zv (by omega:n-1<n),Jj];omega
    by_cases hb:M.length=0\/M.length%n≠0
    ·rw[if_neg (fun hh=>(hHn.1 hh) hb)]at hr;rw[if_pos hb,hr];exact⟨rfl,fun _=>rfl⟩
    ·have hHl:=hHn.2 hb;rw[if_pos hHl]at hr;rw[if_neg hb];simp only
     have hap:=og (E:=E) (D:=D) (mode:=mode) (back:=true) (s:=⟨iv,[],[]⟩) (a:=M.take (t5 n mode pad true M.length)) (b:=o8 n mode pad true M) hn (by rw[lt,gn];exact f2) (by rw[hHl,gn,Zl]);have eM:M.take (t5 n mode pad true M.length)++o8 n mode pad true M=M:=by unfold o8;exact Zn _ _
     rw[eM]at hap;have e1:E5 E D n mode pad true iv M=k5 E D n mode true ⟨iv,[],[]⟩ (M.take (t5 n mode pad true M.length)):=by unfold E5;rw[e2]
     rw[<-e1]at hap;have lo:(k5 E D n mode true (E5 E D n mode pad true iv M).2 (o8 n mode pad true M)).1.length=n:=by
      rw[aB h (by rw[e1];exact vR h hn K0) (by rw[hHl,gn,Zl]),hHl]
     rw[hap];simp only
     generalize (k5 E D n mode true (E5 E D n mode pad true iv M).2 (o8 n mode pad true M)).1=o at*
     generalize (E5 E D n mode pad true iv M).1=T at*
     rw[Zb,lo,Z4,Je,List.take_left];by_cases hp:A3 pad o=0
     ·rw[if_pos hp]at hr;rw[if_pos hp,hr];exact⟨rfl,fun _=>rfl⟩
     ·rw[if_neg hp]at hr;rw[if_neg hp,hr];exact⟨rfl,fun hh=>absurd rfl hh⟩
theorem cz {b:Bool} {P:Prop} (h:b=true) (p:P):t7 b P:=by rw[h];exact p
theorem U5 {i:B6} {d:Option Nat} {T:Nat->V} {H Hr:Hp} {id:Id} {b:B} {r:List (Id×B)} (h:H id=some b) (hr:(Hr id).isSome=true) (h2:i.ck d T H Hr r=true):i.ck d T H Hr ((id,b)::r)=true:=by
 unfold B6.ck wB;rw[hr,h2];simp[h]
theorem po {n:Nat} {va:List Value} {l:Bs} (ha:va=bv l) (hn:l.length=n) (hm:n<=1073741824):a9 C 90 [.z n va] [] (.ret (.o 1 (.k 0) 0 n)) [.sc (bv l)]:=by
 by_cases h0:0<n
 ·exact dV ha hn h0 hm
 ·subst ha;obtain rfl:n=0:=(by omega);obtain rfl:=Ze hn;refine qn.n ?_;refine .inr ⟨?_,?_⟩
  ·exact⟨[(2,1,.sc [])],_,rfl,[.d 900000 0],rfl,⟨_,rfl,rfl⟩,tq⟩
  ·refine⟨rfl,by decide,by decide,?_⟩;exact⟨[],_,rfl,[.d 7 0],rfl,⟨_,rfl,rfl⟩,tq⟩
theorem IU {t key s k xs rs} (h:k9 t key s k xs rs) {mode pad md:Int} {back:Bool} {iv d7 b:Bs} {st:MS} {x:HK} {m L n0 at':Nat} (hx:x= .n\/∃H,x= .o H) (hb:b.length=m) (hL:x.l.length+m=L) (hLb:L<=100000) (K:MK s md st) (hm:mode<=9)
  (hN:n0=D3 (o6 s md) (D9 s md mode pad back) L) (hat:at'=o6 s md*n0) (hne:0<at'\/st.row=[]):
  a9 C 33 [.p (.k 0) 0,.z m (bv b)] [l9 true t mode pad back k xs iv x d7,j4 (f7 t k xs) md back st 2,j6 st.row st.gone,x.b]
   (.ret (.t [.z at' (bv (k5 (cF t key false) (cF t key true) s md back st ((x.l++b).take at')).1),i64 0]))
   [o9 true true t mode pad back (f7 t k xs) (.z iv.length (bv iv)) (.p (.k 1) 0) (.o 1 (.k 5) 0 (L-at')) (.z (L5 s mode back ((x.l++b).take at') (k5 (cF t key false) (cF t key true) s md back st ((x.l++b).take at')).1 d7).length (bv (L5 s mode back ((x.l++b).take at') (k5 (cF t key false) (cF t key true) s md back st ((x.l++b).take at')).1 d7))),
    j4 (f7 t k xs) md back (k5 (cF t key false) (cF t key true) s md back st ((x.l++b).take at')).2 4,.dead,.dead,j6 (k5 (cF t key false) (cF t key true) s md back st ((x.l++b).take at')).2.row (k5 (cF t key false) (cF t key true) s md back st ((x.l++b).take at')).2.gone,.sc (bv ((x.l++b).drop at'))]:=by
 have hs:=h.s_le;have hg0:0<o6 s md:=by unfold o6;split<;>omega
 have hgm:o6 s md-1<=D9 s md mode pad back:=by
  have:=K.ok.m;unfold o6 D9;by_cases h3:3<=md
  ·rw[if_neg (by omega),if_pos h3];omega
  ·rw[if_pos (by omega),if_neg h3];split<;>(try split)<;>omega
 have hle:=pN (L:=L) hg0 hgm;have d8:=fun i=>bH (most:=D9 s md mode pad back) (L:=L) (i:=i) hg0;rw[<-hN]at hle d8;have G:=tO h (back:=back) K;have hz:at'%o6 s md=0:=by rw[hat];exact Z6 _ _
 have lB:(x.l++b).length=L:=by rw[Zb,hb,hL]
 have lT:((x.l++b).take at').length=at':=by rw[Zf];omega
 have lD:((x.l++b).drop at').length=L-at':=by rw[Zh,lB]
 have NE:=kp (t:=t) (mode:=mode) (pad:=pad) (md:=md) (back:=back) (k:=k) (xs:=xs) (iv:=iv) (d7:=d7) (st:=st) (x:=x);have MO:∀(n':Nat) (vb:List Value),(∃H:Bs,n'=H.length/\vb=bv H)->a9 C 95 [.p (.k 0) 0] [o9 true true t mode pad back (f7 t k xs) (.z iv.length (bv iv)) (.p (.k 1) 0) (.o 1 (.k 3) 0 n') (.z d7.length (bv d7)),j4 (f7 t k xs) md back st 2,j6 st.row st.gone,.sc vb] (.ret (i64 (D9 s md mode pad back))) [o9 true true t mode pad back (f7 t k xs) (.z iv.length (bv iv)) (.p (.k 1) 0) (.o 1 (.k 3) 0 n') (.z d7.length (bv d7)),j4 (f7 t k xs) md back st 2,j6 st.row st.gone,.sc vb]:=by
  rintro _ _ ⟨H,rfl,rfl⟩;exact yQ h (mode:=mode) (pad:=pad) (op:=true) (back:=back) (iv:=iv) (d7:=d7) (x:= .o H) K hm
 have TU:=IP h (op:=true) (back:=back) (pad:=pad) (iv:=iv) (d7:=d7) (H:=x.l++b) (b:=(x.l++b).take at') lT (by omega) K hm hz hne;generalize k5 (cF t key false) (cF t key true) s md back st ((x.l++b).take at')=S0 at*
 obtain⟨o,c1,row1,g1⟩:=S0;dsimp only[l9,HK.v,HK.b]at TU ⊢;rw[lB]at TU;generalize L5 s mode back ((x.l++b).take at') o d7=la at*
 generalize hgr:o6 s md=gr at*
 generalize D9 s md mode pad back=mo at*
 obtain⟨ch,row,g⟩:=st;rcases hx with rfl|⟨H,rfl⟩<;>dsimp only[HK.l,HK.v,HK.b,Zo]at*
 ·have hmL:m=L:=by simpa using hL
  refine kQ.d Y9 ?_;refine⟨⟨[(0,.p (.k 0) 0),(1,.z m (bv b)),(4,.p (.k 4) 0),(5,.p (.k 5) 0)],[o9 true true t mode pad back (f7 t k xs) (.z iv.length (bv iv)) (.p (.k 1) 0) (i6) (.z d7.length (bv d7)),j4 (f7 t k xs) md back ⟨ch,row,g⟩ 2,j6 row g,.dead,.sc [.slice none 0 0],.sc [.int .i64 0]]⟩,4,5,by decide,⟨[.k 0,.k 1,.k 2,.k 3,.d 4 0,.d 5 0],⟨rfl,rfl,rfl,rfl,tq⟩,⟨_,rfl,rfl⟩,⟨_,rfl,by cases row<;>rfl⟩,⟨_,rfl,by cases row<;>rfl⟩,⟨_,rfl,rfl⟩,⟨_,rfl,rfl⟩,⟨_,rfl,rfl⟩,tq⟩,rfl,rfl,rfl,?_⟩;refine⟨0,Nat,fun i=>⟨[(0,.p (.k 0) 0),(4,.p (.k 4) 0),(5,.p (.k 5) 0),(6,i64 (gr*i:Nat)),(7,i64 mo),(8,i64 gr)],[o9 true true t mode pad back (f7 t k xs) (.z iv.length (bv iv)) (.p (.k 1) 0) (.z L (bv b)) (.z d7.length (bv d7)),j4 (f7 t k xs) md back ⟨ch,row,g⟩ 2,j6 row g,.dead,.sc [.slice none 0 0],.sc [.int .i64 0]]⟩,fun i=>i<=n0,fun i=>n0-i,?_,fun i hi=> ?_⟩
  ·rcases row with _|⟨a,r⟩;all_goals
    refine⟨[.k 0,.k 1,.k 2,.k 3],_,_,_,_,NE,rfl,rfl,?_⟩;refine⟨_,rfl,?_⟩;refine⟨by rw[i9,hb],by omega,?_⟩;refine⟨Za rfl,?_⟩;refine⟨[.k 0,.k 1,.k 2,.d 17 0],_,_,_,_,MO (m) (bv b) ⟨b,hb.symm,rfl⟩,rfl,rfl,?_⟩;refine cz rfl ?_;refine cz (U5 rfl rfl (U5 rfl rfl (U5 rfl rfl (U5 rfl rfl rfl)))) ?_;refine⟨_,rfl,?_⟩;refine⟨[.k 1,.k 2],_,_,_,_,G,rfl,rfl,?_⟩;refine⟨[],0,Zg _,[.k 0,.k 1,.k 2,.k 3,.k 4,.k 5],⟨rfl,rfl,rfl,rfl,rfl,rfl,tq⟩,⟨_,rfl,?_⟩,⟨_,rfl,rfl⟩,⟨_,rfl,rfl⟩,⟨_,rfl,rfl⟩,⟨_,rfl,rfl⟩,⟨_,rfl,rfl⟩,tq⟩;show o9 true true t mode pad back (f7 t k xs) (.z iv.length (bv iv)) (.p (.k 1) 0) (.z (m) (sub (bv b) 0 (m))) (.z d7.length (bv d7))=_;rw[g8 hb,hmL]
  ·rcases row with _|⟨a,r⟩<;>rcases row1 with _|⟨a1,r1⟩;all_goals
    have e1:gr*i<=L:=Zi (Zj gr hi) hle;refine⟨_,rfl,?_⟩;refine d9 (fun hc=> ?_) (fun hc=> ?_)
    ·have hc':(mo:Int)<I6.wrap ((L:Int)-((gr*i:Nat):Int)):=hc;rw[Zc _ (by omega)]at hc';have hli:i<n0:=(d8 i).2 (by omega);have hle2:gr*(i+1)<=L:=Zi (Zj gr hli) hle;refine⟨rfl,i+1,hli,Zt _ _ hli,[.k 0,.k 1,.k 2,.k 3,.k 4,.k 5],⟨rfl,rfl,rfl,f6 ?_,rfl,rfl,tq⟩,⟨_,rfl,rfl⟩,⟨_,rfl,rfl⟩,⟨_,rfl,rfl⟩,⟨_,rfl,rfl⟩,⟨_,rfl,rfl⟩,⟨_,rfl,rfl⟩,tq⟩;rw[Zu]at hle2 ⊢;rw[Zc _ (by omega)];omega
    ·have hc':¬(mo:Int)<I6.wrap ((L:Int)-((gr*i:Nat):Int)):=hc;rw[Zc _ (by omega)]at hc';obtain rfl:i=n0:=Zx hi (Zk fun hh=>by have:=(d8 i).1 hh;omega);refine⟨_,rfl,?_⟩;refine⟨by omega,by omega,by omega,by omega,?_⟩;refine⟨[.k 0,.k 1,.k 2,.k 3],_,_,_,_,TU,?_,rfl,?_⟩
     ·show[V.p (.k 0) 0,V.z ((gr*i:Nat):Int).toNat (sub (bv b) 0 ((gr*i:Nat):Int).toNat)]=_;rw[Zd,<-hat];exact congrArg (fun v=>[V.p (.k 0) 0,V.z at' v]) (m8 _ 0 at')
     refine⟨Za rfl,?_⟩;refine⟨_,rfl,?_⟩;refine⟨by omega,by omega,by omega,by omega,?_⟩;refine⟨[],_,_,_,_,po (n:=L-at') (l:=b.drop at') rfl lD (by omega),?_,rfl,?_⟩
     ·show[V.z (L-((gr*i:Nat):Int).toNat) (sub (bv b) ((gr*i:Nat):Int).toNat (L-((gr*i:Nat):Int).toNat))]=_;rw[Zd,<-hat,y4 lB (by omega)]
     refine⟨Za rfl,?_⟩;refine⟨_,rfl,?_⟩;refine⟨Za rfl,?_⟩;refine⟨Za rfl,?_⟩;refine⟨_,rfl,_,rfl,?_⟩;refine⟨_,_,?_,.ret (.refl _),w6.refl _⟩;exact⟨_,rfl,[.k 0,.k 1,.k 2,.k 3,.d 46 4,.d 54 0],rfl,⟨_,rfl,rfl⟩,⟨_,rfl,rfl⟩,⟨_,rfl,rfl⟩,⟨_,rfl,rfl⟩,⟨_,rfl,rfl⟩,⟨_,rfl,rfl⟩,tq⟩
 ·refine kQ.d Y9 ?_;refine⟨⟨[(0,.p (.k 0) 0),(1,.z m (bv b)),(4,.p (.k 4) 0),(5,.p (.k 5) 0)],[o9 true true t mode pad back (f7 t k xs) (.z iv.length (bv iv)) (.p (.k 1) 0) (.o 1 (.k 3) 0 H.length) (.z d7.length (bv d7)),j4 (f7 t k xs) md back ⟨ch,row,g⟩ 2,j6 row g,.sc (bv H),.sc [.slice none 0 0],.sc [.int .i64 0]]⟩,4,5,by decide,⟨[.k 0,.k 1,.k 2,.k 3,.d 4 0,.d 5 0],⟨rfl,rfl,rfl,rfl,tq⟩,⟨_,rfl,rfl⟩,⟨_,rfl,by cases row<;>rfl⟩,⟨_,rfl,by cases row<;>rfl⟩,⟨_,rfl,rfl⟩,⟨_,rfl,rfl⟩,⟨_,rfl,rfl⟩,tq⟩,rfl,rfl,rfl,?_⟩;refine⟨0,Nat,fun i=>⟨[(0,.p (.k 0) 0),(4,.p (.k 4) 0),(5,.p (.k 5) 0),(6,i64 (gr*i:Nat)),(7,i64 mo),(8,i64 gr)],[o9 true true t mode pad back (f7 t k xs) (.z iv.length (bv iv)) (.p (.k 1) 0) (.z L (bv (H++b))) (.z d7.length (bv d7)),j4 (f7 t k xs) md back ⟨ch,row,g⟩ 2,j6 row g,.dead,.sc [.slice none 0 0],.sc [.int .i64 0]]⟩,fun i=>i<=n0,fun i=>n0-i,?_,fun i hi=> ?_⟩
  ·rcases row with _|⟨a,r⟩;all_goals
    refine⟨[.k 0,.k 1,.k 2,.k 3],_,_,_,_,NE,rfl,rfl,?_⟩;refine⟨_,rfl,?_⟩;refine⟨by rw[i9,hb],by omega,by rw[i9];omega,?_⟩;refine⟨Za rfl,?_⟩;refine⟨[.k 0,.k 1,.k 2,.d 17 0],_,_,_,_,MO (H.length+m) (sub (bv H) 0 (H.length*1)++bv b) ⟨(H++b),by rw[Zb,hb],by rw[Zy,g8 rfl,A5]⟩,rfl,rfl,?_⟩;refine cz rfl ?_;refine cz (U5 rfl rfl (U5 rfl rfl (U5 rfl rfl (U5 rfl rfl rfl)))) ?_;refine⟨_,rfl,?_⟩;refine⟨[.k 1,.k 2],_,_,_,_,G,rfl,rfl,?_⟩;refine⟨[],0,Zg _,[.k 0,.k 1,.k 2,.k 3,.k 4,.k 5],⟨rfl,rfl,rfl,rfl,rfl,rfl,tq⟩,⟨_,rfl,?_⟩,⟨_,rfl,rfl⟩,⟨_,rfl,rfl⟩,⟨_,rfl,rfl⟩,⟨_,rfl,rfl⟩,⟨_,rfl,rfl⟩,tq⟩;show o9 true true t mode pad back (f7 t k xs) (.z iv.length (bv iv)) (.p (.k 1) 0) (.z (H.length+m) (sub (sub (bv H) 0 (H.length*1)++bv b) 0 (H.length+m))) (.z d7.length (bv d7))=_;rw[Zy,g8 rfl,A5,g8 (by rw[Zb,hb]),hL]
  ·rcases row with _|⟨a,r⟩<;>rcases row1 with _|⟨a1,r1⟩;all_goals
    have e1:gr*i<=L:=Zi (Zj gr hi) hle;refine⟨_,rfl,?_⟩;refine d9 (fun hc=> ?_) (fun hc=> ?_)
    ·have hc':(mo:Int)<I6.wrap ((L:Int)-((gr*i:Nat):Int)):=hc;rw[Zc _ (by omega)]at hc';have hli:i<n0:=(d8 i).2 (by omega);have hle2:gr*(i+1)<=L:=Zi (Zj gr hli) hle;refine⟨rfl,i+1,hli,Zt _ _ hli,[.k 0,.k 1,.k 2,.k 3,.k 4,.k 5],⟨rfl,rfl,rfl,f6 ?_,rfl,rfl,tq⟩,⟨_,rfl,rfl⟩,⟨_,rfl,rfl⟩,⟨_,rfl,rfl⟩,⟨_,rfl,rfl⟩,⟨_,rfl,rfl⟩,⟨_,rfl,rfl⟩,tq⟩;rw[Zu]at hle2 ⊢;rw[Zc _ (by omega)];omega
    ·have hc':¬(mo:Int)<I6.wrap ((L:Int)-((gr*i:Nat):Int)):=hc;rw[Zc _ (by omega)]at hc';obtain rfl:i=n0:=Zx hi (Zk fun hh=>by have:=(d8 i).1 hh;omega);refine⟨_,rfl,?_⟩;refine⟨by omega,by omega,by omega,by omega,?_⟩;refine⟨[.k 0,.k 1,.k 2,.k 3],_,_,_,_,TU,?_,rfl,?_⟩
     ·show[V.p (.k 0) 0,V.z ((gr*i:Nat):Int).toNat (sub (bv (H++b)) 0 ((gr*i:Nat):Int).toNat)]=_;rw[Zd,<-hat];exact congrArg (fun v=>[V.p (.k 0) 0,V.z at' v]) (m8 _ 0 at')
     refine⟨Za rfl,?_⟩;refine⟨_,rfl,?_⟩;refine⟨by omega,by omega,by omega,by omega,?_⟩;refine⟨[],_,_,_,_,po (n:=L-at') (l:=(H++b).drop at') rfl lD (by omega),?_,rfl,?_⟩
     ·show[V.z (L-((gr*i:Nat):Int).toNat) (sub (bv (H++b)) ((gr*i:Nat):Int).toNat (L-((gr*i:Nat):Int).toNat))]=_;rw[Zd,<-hat,y4 lB (by omega)]
     refine⟨Za rfl,?_⟩;refine⟨_,rfl,?_⟩;refine⟨Za rfl,?_⟩;refine⟨Za rfl,?_⟩;refine⟨_,rfl,_,rfl,?_⟩;refine⟨_,_,?_,.ret (.refl _),w6.refl _⟩;exact⟨_,rfl,[.k 0,.k 1,.k 2,.k 3,.d 46 4,.d 54 0],rfl,⟨_,rfl,rfl⟩,⟨_,rfl,rfl⟩,⟨_,rfl,rfl⟩,⟨_,rfl,rfl⟩,⟨_,rfl,rfl⟩,⟨_,rfl,rfl⟩,tq⟩
theorem IW {t key s k xs rs} (h:k9 t key s k xs rs) {mode pad md:Int} {back:Bool} {iv d7 b:Bs} {st:MS} {x:HK} {m L n0 at':Nat} (hx:x= .n\/∃H,x= .o H) (hb:b.length=m) (hL:x.l.length+m=L) (hL0:L=0) (h3:3<=md) (K:MK s md st) (hm:mode<=9)
  (hN:n0=D3 (o6 s md) (D9 s md mode pad back) L) (hat:at'=o6 s md*n0):
  a9 C 33 [.p (.k 0) 0,.z m (bv b)] [l9 true t mode pad back k xs iv x d7,j4 (f7 t k xs) md back st 2,j6 st.row st.gone,x.b]
   (.ret (.t [.z 0 [],i64 0]))
   [o9 true true t mode pad back (f7 t k xs) (.z iv.length (bv iv)) (.p (.k 1) 0) (.o 1 (.k 4) 0 0) (.z d7.length (bv d7)),
    j4 (f7 t k xs) md back st 2,j6 st.row st.gone,.dead,.sc []]:=by
 have hs:=h.s_le;have hg0:0<o6 s md:=by unfold o6;split<;>omega
 have hgm:o6 s md-1<=D9 s md mode pad back:=by
  have:=K.ok.m;unfold o6 D9;by_cases h3:3<=md
  ·rw[if_neg (by omega),if_pos h3];omega
  ·rw[if_pos (by omega),if_neg h3];split<;>(try split)<;>omega
 have hLb:L<=100000:=by omega
 have hle:=pN (L:=L) hg0 hgm;have d8:=fun i=>bH (most:=D9 s md mode pad back) (L:=L) (i:=i) hg0;rw[<-hN]at hle d8;have G:=tO h (back:=back) K;have hz:at'%o6 s md=0:=by rw[hat];exact Z6 _ _
 have lB:(x.l++b).length=L:=by rw[Zb,hb,hL]
 have lT:((x.l++b).take at').length=at':=by rw[Zf];omega
 have lD:((x.l++b).drop at').length=L-at':=by rw[Zh,lB]
 have NE:=kp (t:=t) (mode:=mode) (pad:=pad) (md:=md) (back:=back) (k:=k) (xs:=xs) (iv:=iv) (d7:=d7) (st:=st) (x:=x);have MO:∀(n':Nat) (vb:List Value),(∃H:Bs,n'=H.length/\vb=bv H)->a9 C 95 [.p (.k 0) 0] [o9 true true t mode pad back (f7 t k xs) (.z iv.length (bv iv)) (.p (.k 1) 0) (.o 1 (.k 3) 0 n') (.z d7.length (bv d7)),j4 (f7 t k xs) md back st 2,j6 st.row st.gone,.sc vb] (.ret (i64 (D9 s md mode pad back))) [o9 true true t mode pad back (f7 t k xs) (.z iv.length (bv iv)) (.p (.k 1) 0) (.o 1 (.k 3) 0 n') (.z d7.length (bv d7)),j4 (f7 t k xs) md back st 2,j6 st.row st.gone,.sc vb]:=by
  rintro _ _ ⟨H,rfl,rfl⟩;exact yQ h (mode:=mode) (pad:=pad) (op:=true) (back:=back) (iv:=iv) (d7:=d7) (x:= .o H) K hm
 have a0:at'=0:=by omega
 have TU:=fun(vb:List Value)=>IQ h (op:=true) (back:=back) (pad:=pad) (iv:=iv) (d7:=d7) (H:=x.l++b) (st:=st) (vb:=vb) h3 hm;dsimp only[l9,HK.v,HK.b]at TU ⊢;rw[lB]at TU;generalize hgr:o6 s md=gr at*
 generalize D9 s md mode pad back=mo at*
 obtain⟨ch,row,g⟩:=st;rcases hx with rfl|⟨H,rfl⟩<;>dsimp only[HK.l,HK.v,HK.b,Zo]at*
 ·have hmL:m=L:=by simpa using hL
  refine kQ.d Y9 ?_;refine⟨⟨[(0,.p (.k 0) 0),(1,.z m (bv b)),(4,.p (.k 4) 0),(5,.p (.k 5) 0)],[o9 true true t mode pad back (f7 t k xs) (.z iv.length (bv iv)) (.p (.k 1) 0) (i6) (.z d7.length (bv d7)),j4 (f7 t k xs) md back ⟨ch,row,g⟩ 2,j6 row g,.dead,.sc [.slice none 0 0],.sc [.int .i64 0]]⟩,4,5,by decide,⟨[.k 0,.k 1,.k 2,.k 3,.d 4 0,.d 5 0],⟨rfl,rfl,rfl,rfl,tq⟩,⟨_,rfl,rfl⟩,⟨_,rfl,by cases row<;>rfl⟩,⟨_,rfl,by cases row<;>rfl⟩,⟨_,rfl,rfl⟩,⟨_,rfl,rfl⟩,⟨_,rfl,rfl⟩,tq⟩,rfl,rfl,rfl,?_⟩;refine⟨0,Nat,fun i=>⟨[(0,.p (.k 0) 0),(4,.p (.k 4) 0),(5,.p (.k 5) 0),(6,i64 (gr*i:Nat)),(7,i64 mo),(8,i64 gr)],[o9 true true t mode pad back (f7 t k xs) (.z iv.length (bv iv)) (.p (.k 1) 0) (.z L (bv b)) (.z d7.length (bv d7)),j4 (f7 t k xs) md back ⟨ch,row,g⟩ 2,j6 row g,.dead,.sc [.slice none 0 0],.sc [.int .i64 0]]⟩,fun i=>i<=n0,fun i=>n0-i,?_,fun i hi=> ?_⟩
  ·rcases row with _|⟨a,r⟩;all_goals
    refine⟨[.k 0,.k 1,.k 2,.k 3],_,_,_,_,NE,rfl,rfl,?_⟩;refine⟨_,rfl,?_⟩;refine⟨by rw[i9,hb],by omega,?_⟩;refine⟨Za rfl,?_⟩;refine⟨[.k 0,.k 1,.k 2,.d 17 0],_,_,_,_,MO (m) (bv b) ⟨b,hb.symm,rfl⟩,rfl,rfl,?_⟩;refine cz rfl ?_;refine cz (U5 rfl rfl (U5 rfl rfl (U5 rfl rfl (U5 rfl rfl rfl)))) ?_;refine⟨_,rfl,?_⟩;refine⟨[.k 1,.k 2],_,_,_,_,G,rfl,rfl,?_⟩;refine⟨[],0,Zg _,[.k 0,.k 1,.k 2,.k 3,.k 4,.k 5],⟨rfl,rfl,rfl,rfl,rfl,rfl,tq⟩,⟨_,rfl,?_⟩,⟨_,rfl,rfl⟩,⟨_,rfl,rfl⟩,⟨_,rfl,rfl⟩,⟨_,rfl,rfl⟩,⟨_,rfl,rfl⟩,tq⟩;show o9 true true t mode pad back (f7 t k xs) (.z iv.length (bv iv)) (.p (.k 1) 0) (.z (m) (sub (bv b) 0 (m))) (.z d7.length (bv d7))=_;rw[g8 hb,hmL]
  ·rcases row with _|⟨a,r⟩;all_goals
    have e1:gr*i<=L:=Zi (Zj gr hi) hle;refine⟨_,rfl,?_⟩;refine d9 (fun hc=> ?_) (fun hc=> ?_)
    ·have hc':(mo:Int)<I6.wrap ((L:Int)-((gr*i:Nat):Int)):=hc;rw[Zc _ (by omega)]at hc';have hli:i<n0:=(d8 i).2 (by omega);have hle2:gr*(i+1)<=L:=Zi (Zj gr hli) hle;refine⟨rfl,i+1,hli,Zt _ _ hli,[.k 0,.k 1,.k 2,.k 3,.k 4,.k 5],⟨rfl,rfl,rfl,f6 ?_,rfl,rfl,tq⟩,⟨_,rfl,rfl⟩,⟨_,rfl,rfl⟩,⟨_,rfl,rfl⟩,⟨_,rfl,rfl⟩,⟨_,rfl,rfl⟩,⟨_,rfl,rfl⟩,tq⟩;rw[Zu]at hle2 ⊢;rw[Zc _ (by omega)];omega
    ·have hc':¬(mo:Int)<I6.wrap ((L:Int)-((gr*i:Nat):Int)):=hc;rw[Zc _ (by omega)]at hc';obtain rfl:i=n0:=Zx hi (Zk fun hh=>by have:=(d8 i).1 hh;omega);refine⟨_,rfl,?_⟩;refine⟨by omega,by omega,by omega,by omega,?_⟩;refine⟨[.k 0,.k 1,.k 2,.k 3],_,_,_,_,TU [],?_,rfl,?_⟩
     ·show[V.p (.k 0) 0,V.z ((gr*i:Nat):Int).toNat (sub (bv b) 0 ((gr*i:Nat):Int).toNat)]=_;rw[Zd,<-hat,a0];rfl
     refine⟨Za rfl,?_⟩;refine⟨_,rfl,?_⟩;refine⟨by omega,by omega,by omega,by omega,?_⟩;refine⟨[],_,_,_,_,po (n:=L-at') (l:=b.drop at') rfl lD (by omega),?_,rfl,?_⟩
     ·show[V.z (L-((gr*i:Nat):Int).toNat) (sub (bv b) ((gr*i:Nat):Int).toNat (L-((gr*i:Nat):Int).toNat))]=_;rw[Zd,<-hat,y4 lB (by omega)]
     refine⟨Za rfl,?_⟩;refine⟨_,rfl,?_⟩;refine⟨Za rfl,?_⟩;refine⟨Za rfl,?_⟩;refine⟨_,rfl,_,rfl,?_⟩;refine⟨_,_,?_,.ret (.refl _),w6.refl _⟩;refine⟨_,rfl,[.k 0,.k 1,.k 2,.k 3,.d 54 0],rfl,⟨_,rfl,?_⟩,⟨_,rfl,rfl⟩,⟨_,rfl,rfl⟩,⟨_,rfl,rfl⟩,⟨_,rfl,?_⟩,tq⟩
     ·exact congrArg (fun z=>o9 true true t mode pad back (f7 t k xs) (.z iv.length (bv iv)) (.p (.k 1) 0) (.o 1 (.k 4) 0 z) (.z d7.length (bv d7))) (show L-at'=0 by omega)
     ·exact congrArg (fun z=>B.sc (bv z)) (Ze (by rw[lD];omega))
 ·refine kQ.d Y9 ?_;refine⟨⟨[(0,.p (.k 0) 0),(1,.z m (bv b)),(4,.p (.k 4) 0),(5,.p (.k 5) 0)],[o9 true true t mode pad back (f7 t k xs) (.z iv.length (bv iv)) (.p (.k 1) 0) (.o 1 (.k 3) 0 H.length) (.z d7.length (bv d7)),j4 (f7 t k xs) md back ⟨ch,row,g⟩ 2,j6 row g,.sc (bv H),.sc [.slice none 0 0],.sc [.int .i64 0]]⟩,4,5,by decide,⟨[.k 0,.k 1,.k 2,.k 3,.d 4 0,.d 5 0],⟨rfl,rfl,rfl,rfl,tq⟩,⟨_,rfl,rfl⟩,⟨_,rfl,by cases row<;>rfl⟩,⟨_,rfl,by cases row<;>rfl⟩,⟨_,rfl,rfl⟩,⟨_,rfl,rfl⟩,⟨_,rfl,rfl⟩,tq⟩,rfl,rfl,rfl,?_⟩;refine⟨0,Nat,fun i=>⟨[(0,.p (.k 0) 0),(4,.p (.k 4) 0),(5,.p (.k 5) 0),(6,i64 (gr*i:Nat)),(7,i64 mo),(8,i64 gr)],[o9 true true t mode pad back (f7 t k xs) (.z iv.length (bv iv)) (.p (.k 1) 0) (.z L (bv (H++b))) (.z d7.length (bv d7)),j4 (f7 t k xs) md back ⟨ch,row,g⟩ 2,j6 row g,.dead,.sc [.slice none 0 0],.sc [.int .i64 0]]⟩,fun i=>i<=n0,fun i=>n0-i,?_,fun i hi=> ?_⟩
  ·rcases row with _|⟨a,r⟩;all_goals
    refine⟨[.k 0,.k 1,.k 2,.k 3],_,_,_,_,NE,rfl,rfl,?_⟩;refine⟨_,rfl,?_⟩;refine⟨by rw[i9,hb],by omega,by rw[i9];omega,?_⟩;refine⟨Za rfl,?_⟩;refine⟨[.k 0,.k 1,.k 2,.d 17 0],_,_,_,_,MO (H.length+m) (sub (bv H) 0 (H.length*1)++bv b) ⟨(H++b),by rw[Zb,hb],by rw[Zy,g8 rfl,A5]⟩,rfl,rfl,?_⟩;refine cz rfl ?_;refine cz (U5 rfl rfl (U5 rfl rfl (U5 rfl rfl (U5 rfl rfl rfl)))) ?_;refine⟨_,rfl,?_⟩;refine⟨[.k 1,.k 2],_,_,_,_,G,rfl,rfl,?_⟩;refine⟨[],0,Zg _,[.k 0,.k 1,.k 2,.k 3,.k 4,.k 5],⟨rfl,rfl,rfl,rfl,rfl,rfl,tq⟩,⟨_,rfl,?_⟩,⟨_,rfl,rfl⟩,⟨_,rfl,rfl⟩,⟨_,rfl,rfl⟩,⟨_,rfl,rfl⟩,⟨_,rfl,rfl⟩,tq⟩;show o9 true true t mode pad back (f7 t k xs) (.z iv.length (bv iv)) (.p (.k 1) 0) (.z (H.length+m) (sub (sub (bv H) 0 (H.length*1)++bv b) 0 (H.length+m))) (.z d7.length (bv d7))=_;rw[Zy,g8 rfl,A5,g8 (by rw[Zb,hb]),hL]
  ·rcases row with _|⟨a,r⟩;all_goals
    have e1:gr*i<=L:=Zi (Zj gr hi) hle;refine⟨_,rfl,?_⟩;refine d9 (fun hc=> ?_) (fun hc=> ?_)
    ·have hc':(mo:Int)<I6.wrap ((L:Int)-((gr*i:Nat):Int)):=hc;rw[Zc _ (by omega)]at hc';have hli:i<n0:=(d8 i).2 (by omega);have hle2:gr*(i+1)<=L:=Zi (Zj gr hli) hle;refine⟨rfl,i+1,hli,Zt _ _ hli,[.k 0,.k 1,.k 2,.k 3,.k 4,.k 5],⟨rfl,rfl,rfl,f6 ?_,rfl,rfl,tq⟩,⟨_,rfl,rfl⟩,⟨_,rfl,rfl⟩,⟨_,rfl,rfl⟩,⟨_,rfl,rfl⟩,⟨_,rfl,rfl⟩,⟨_,rfl,rfl⟩,tq⟩;rw[Zu]at hle2 ⊢;rw[Zc _ (by omega)];omega
    ·have hc':¬(mo:Int)<I6.wrap ((L:Int)-((gr*i:Nat):Int)):=hc;rw[Zc _ (by omega)]at hc';obtain rfl:i=n0:=Zx hi (Zk fun hh=>by have:=(d8 i).1 hh;omega);refine⟨_,rfl,?_⟩;refine⟨by omega,by omega,by omega,by omega,?_⟩;refine⟨[.k 0,.k 1,.k 2,.k 3],_,_,_,_,TU [],?_,rfl,?_⟩
     ·show[V.p (.k 0) 0,V.z ((gr*i:Nat):Int).toNat (sub (bv (H++b)) 0 ((gr*i:Nat):Int).toNat)]=_;rw[Zd,<-hat,a0];rfl
     refine⟨Za rfl,?_⟩;refine⟨_,rfl,?_⟩;refine⟨by omega,by omega,by omega,by omega,?_⟩;refine⟨[],_,_,_,_,po (n:=L-at') (l:=(H++b).drop at') rfl lD (by omega),?_,rfl,?_⟩
     ·show[V.z (L-((gr*i:Nat):Int).toNat) (sub (bv (H++b)) ((gr*i:Nat):Int).toNat (L-((gr*i:Nat):Int).toNat))]=_;rw[Zd,<-hat,y4 lB (by omega)]
     refine⟨Za rfl,?_⟩;refine⟨_,rfl,?_⟩;refine⟨Za rfl,?_⟩;refine⟨Za rfl,?_⟩;refine⟨_,rfl,_,rfl,?_⟩;refine⟨_,_,?_,.ret (.refl _),w6.refl _⟩;refine⟨_,rfl,[.k 0,.k 1,.k 2,.k 3,.d 54 0],rfl,⟨_,rfl,?_⟩,⟨_,rfl,rfl⟩,⟨_,rfl,rfl⟩,⟨_,rfl,rfl⟩,⟨_,rfl,?_⟩,tq⟩
     ·exact congrArg (fun z=>o9 true true t mode pad back (f7 t k xs) (.z iv.length (bv iv)) (.p (.k 1) 0) (.o 1 (.k 4) 0 z) (.z d7.length (bv d7))) (show L-at'=0 by omega)
     ·exact congrArg (fun z=>B.sc (bv z)) (Ze (by rw[lD];omega))
theorem IY {m:Nat} {vb:List Value}:
  a9 C 33 [.p (.k 0) 0,.z m vb] [o9 false false 0 0 0 false j7 i6 j7 i6 i6] (.ret (.t [.z 0 [],i64 6])) [o9 false false 0 0 0 false j7 i6 j7 i6 i6]:=by
 refine kQ.d Y9 ?_;refine⟨⟨[(0,.p (.k 0) 0),(1,.z m vb),(4,.p (.k 1) 0),(5,.p (.k 2) 0)],[_,.sc [.slice none 0 0],.sc [.int .i64 0]]⟩,1,2,by decide,⟨[.k 0,.d 4 0,.d 5 0],⟨rfl,rfl,rfl,rfl,tq⟩,⟨_,rfl,rfl⟩,⟨_,rfl,rfl⟩,⟨_,rfl,rfl⟩,tq⟩,rfl,rfl,rfl,?_⟩;refine⟨0,Unit,fun _=>⟨[],[]⟩,fun _=>False,fun _=>0,?_,fun _ h=>h.elim⟩;refine⟨[.k 0],_,_,_,_,yR,rfl,rfl,?_⟩;refine⟨_,rfl,_,rfl,?_⟩;refine⟨_,_,?_,.ret (.t (.cons .nl (.cons (.refl _) .nil))),w6.refl _⟩;exact⟨_,rfl,[.k 0],rfl,⟨_,rfl,rfl⟩,tq⟩
theorem Iz:a9 C 34 [.p (.k 0) 0] [o9 false false 0 0 0 false j7 i6 j7 i6 i6] (.ret (.t [.z 0 [],i64 6])) [o9 false false 0 0 0 false j7 i6 j7 i6 i6]:=by
 refine eC.d Y9 ?_;refine⟨⟨[(0,.p (.k 0) 0),(2,.p (.k 1) 0),(3,.p (.k 2) 0)],[_,.sc [.slice none 0 0],.sc [.int .i64 0]]⟩,1,2,by decide,⟨[.k 0,.d 2 0,.d 3 0],⟨rfl,rfl,rfl,tq⟩,⟨_,rfl,rfl⟩,⟨_,rfl,rfl⟩,⟨_,rfl,rfl⟩,tq⟩,rfl,rfl,rfl,?_⟩;refine⟨[.k 0],_,_,_,_,yR,rfl,rfl,?_⟩;refine⟨_,rfl,_,rfl,?_⟩;refine⟨_,_,?_,.ret (.t (.cons .nl (.cons (.refl _) .nil))),w6.refl _⟩;exact⟨_,rfl,[.k 0],rfl,⟨_,rfl,rfl⟩,tq⟩
theorem dp {t mode pad md:Int} {op back:Bool} {k:Nat} {xs:List V} {iv d7:Bs} {st:MS} (hm:mode<=9):a9 C 158 [.p (.k 0) 0] [l9 op t mode pad back k xs iv .n d7,j4 (f7 t k xs) md back st 2,j6 st.row st.gone] (.ret (bool (decide (7<=mode)))) [l9 op t mode pad back k xs iv .n d7,j4 (f7 t k xs) md back st 2,j6 st.row st.gone]:=by
 obtain⟨ch,row,g⟩:=st;rcases row with _|⟨a,r⟩;all_goals
  refine nF.c ?_;refine⟨_,rfl,?_⟩;refine d9 (fun h7=> ?_) (fun h7=> ?_)
  ·refine⟨_,rfl,?_⟩;refine⟨_,rfl,[.k 0,.k 1,.k 2],?_,⟨_,rfl,rfl⟩,⟨_,rfl,rfl⟩,⟨_,rfl,rfl⟩,tq⟩;exact congrArg bool (by rw[decide_eq_true hm,decide_eq_true h7])
  ·refine⟨_,rfl,[.k 0,.k 1,.k 2],?_,⟨_,rfl,rfl⟩,⟨_,rfl,rfl⟩,⟨_,rfl,rfl⟩,tq⟩;exact congrArg bool (by rw[decide_eq_false h7])
theorem pt {t key s k xs rs} (h:k9 t key s k xs rs) {mode pad md:Int} {op back:Bool} {iv d7 b:Bs} {st:MS} {m:Nat} (hb:b.length=m) (hmb:m<=100000) (K:MK s md st) (hm:mode<=9) (hg:m%o6 s md=0) (hne:0<m\/st.row=[]):
  a9 C 97 [.p (.k 0) 0,.z m (bv b)] [l9 op t mode pad back k xs iv .n d7,j4 (f7 t k xs) md back st 2,j6 st.row st.gone]
   (.ret (.z m (bv (k5 (cF t key false) (cF t key true) s md back st b).1)))
   [l9 op t mode pad back k xs iv .n (L5 s mode back b (k5 (cF t key false) (cF t key true) s md back st b).1 d7),j4 (f7 t k xs) md back (k5 (cF t key false) (cF t key true) s md back st b).2 3,.dead,j6 (k5 (cF t key false) (cF t key true) s md back st b).2.row (k5 (cF t key false) (cF t key true) s md back st b).2.gone]:=by
 have hs:=h.s_le;have lo:(k5 (cF t key false) (cF t key true) s md back st b).1.length=m:=by rw[aB h.ci K.ok (by rw[hb];exact hg),hb]
 have T0:=zI h (back:=back) (st:=st) (b:=b) rfl hb (by omega) K hg hne;have S:=fun(st':MS)=>dp (t:=t) (mode:=mode) (pad:=pad) (md:=md) (op:=op) (back:=back) (k:=k) (xs:=xs) (iv:=iv) (d7:=d7) (st:=st') hm;generalize k5 (cF t key false) (cF t key true) s md back st b=S0 at*
 obtain⟨o,st1⟩:=S0;have S1:=S st1;obtain⟨c1,row1,g1⟩:=st1;dsimp only at T0 lo ⊢;have eS:I6.wrap ((m:Int)-(s:Int))=(m:Int)-s:=Zc _ (by omega);by_cases hL:7<=mode/\s<=m
 ·have eL:L5 s mode back b o d7=(if back then b else o).drop (m-s):=by unfold L5;rw[hb,if_pos hL]
  rw[eL];cases back;all_goals
   obtain⟨ch,row,g⟩:=st;rcases row with _|⟨a,r⟩<;>rcases row1 with _|⟨a1,r1⟩
  all_goals
   refine jm.c ?_;refine⟨_,rfl,?_⟩;refine⟨[.k 1,.k 2],_,_,_,_,T0,rfl,rfl,?_⟩;refine⟨[],_,_,_,_,fv,rfl,rfl,?_⟩;refine⟨_,rfl,?_⟩;refine⟨[],_,_,_,_,h.size,rfl,rfl,?_⟩;refine⟨[.k 0,.k 1,.d 15 2],_,_,_,_,S1,rfl,rfl,?_⟩;refine d9 (fun h7=> ?_) (fun h7=>absurd hL.1 h7);refine d9 (fun h7=> ?_) (fun h7=>absurd hL.2 (by omega));refine⟨_,rfl,?_⟩;refine⟨by rw[eS];omega,by rw[eS];omega,by omega,by omega,?_⟩;first
    |refine⟨[],_,_,_,_,W6 (n:=s) (l:=o.drop (m-s)) (va:=bv (o.drop (m-s))) rfl (by rw[Zh,lo];omega) (by omega),?_,rfl,?_⟩
     ·show[V.z (m-(I6.wrap ((m:Int)-(s:Int))).toNat) (sub (bv o) (I6.wrap ((m:Int)-(s:Int))).toNat (m-(I6.wrap ((m:Int)-(s:Int))).toNat))]=_;rw[eS,show((m:Int)-s).toNat=m-s by omega,y4 lo (by omega),show m-(m-s)=s by omega]
     refine⟨Za rfl,?_⟩;refine⟨_,rfl,[.k 0,.k 1,.k 2,.d 15 2],rfl,⟨_,rfl,?_⟩,⟨_,rfl,rfl⟩,⟨_,rfl,rfl⟩,⟨_,rfl,rfl⟩,tq⟩;have ll:(o.drop (m-s)).length=s:=by rw[Zh,lo];omega
     show _=l9 op t mode pad false k xs iv .n (o.drop (m-s));unfold l9;rw[ll];rfl
    |refine⟨[],_,_,_,_,W6 (n:=s) (l:=b.drop (m-s)) (va:=bv (b.drop (m-s))) rfl (by rw[Zh,hb];omega) (by omega),?_,rfl,?_⟩
     ·show[V.z (m-(I6.wrap ((m:Int)-(s:Int))).toNat) (sub (bv b) (I6.wrap ((m:Int)-(s:Int))).toNat (m-(I6.wrap ((m:Int)-(s:Int))).toNat))]=_;rw[eS,show((m:Int)-s).toNat=m-s by omega,y4 hb (by omega),show m-(m-s)=s by omega]
     refine⟨Za rfl,?_⟩;refine⟨_,rfl,[.k 0,.k 1,.k 2,.d 15 2],rfl,⟨_,rfl,?_⟩,⟨_,rfl,rfl⟩,⟨_,rfl,rfl⟩,⟨_,rfl,rfl⟩,tq⟩;have ll:(b.drop (m-s)).length=s:=by rw[Zh,hb];omega
     show _=l9 op t mode pad true k xs iv .n (b.drop (m-s));unfold l9;rw[ll];rfl
 ·have eL:L5 s mode back b o d7=d7:=by unfold L5;rw[hb,if_neg hL]
  rw[eL];obtain⟨ch,row,g⟩:=st;rcases row with _|⟨a,r⟩<;>rcases row1 with _|⟨a1,r1⟩;all_goals
   refine jm.c ?_;refine⟨_,rfl,?_⟩;refine⟨[.k 1,.k 2],_,_,_,_,T0,rfl,rfl,?_⟩;refine⟨[],_,_,_,_,fv,rfl,rfl,?_⟩;refine⟨_,rfl,?_⟩;refine⟨[],_,_,_,_,h.size,rfl,rfl,?_⟩;refine⟨[.k 0,.k 1,.d 15 2],_,_,_,_,S1,rfl,rfl,?_⟩;refine d9 (fun h7=> ?_) (fun h7=> ?_)
   ·refine d9 (fun h8=>absurd ⟨h7,by omega⟩ hL) (fun h8=> ?_);exact⟨_,rfl,[.k 0,.k 1,.k 2,.d 15 2],rfl,⟨_,rfl,rfl⟩,⟨_,rfl,rfl⟩,⟨_,rfl,rfl⟩,⟨_,rfl,rfl⟩,tq⟩
   ·exact⟨_,rfl,[.k 0,.k 1,.k 2,.d 15 2],rfl,⟨_,rfl,rfl⟩,⟨_,rfl,rfl⟩,⟨_,rfl,rfl⟩,⟨_,rfl,rfl⟩,tq⟩
theorem IR {t key s k xs rs} (h:k9 t key s k xs rs) {mode pad md:Int} {op back:Bool} {iv d7:Bs} {st:MS} {vb:List Value} (h3:3<=md) (hm:mode<=9):
  a9 C 97 [.p (.k 0) 0,.z 0 vb] [l9 op t mode pad back k xs iv .n d7,j4 (f7 t k xs) md back st 2,j6 st.row st.gone]
   (.ret (.z 0 [])) [l9 op t mode pad back k xs iv .n d7,j4 (f7 t k xs) md back st 2,j6 st.row st.gone]:=by
 have hs:=h.s_le;have T0:=zJ h (back:=back) (st:=st) (vb:=vb) h3;have S:=dp (t:=t) (mode:=mode) (pad:=pad) (md:=md) (op:=op) (back:=back) (k:=k) (xs:=xs) (iv:=iv) (d7:=d7) (st:=st) hm;obtain⟨ch,row,g⟩:=st;rcases row with _|⟨a,r⟩;all_goals
  refine jm.c ?_;refine⟨_,rfl,?_⟩;refine⟨[.k 1,.k 2],_,_,_,_,T0,rfl,rfl,?_⟩;refine⟨[],_,_,_,_,fv,rfl,rfl,?_⟩;refine⟨_,rfl,?_⟩;refine⟨[],_,_,_,_,h.size,rfl,rfl,?_⟩;refine⟨[.k 0,.k 1,.k 2],_,_,_,_,S,rfl,rfl,?_⟩;refine d9 (fun h7=> ?_) (fun h7=> ?_)
  ·refine d9 (fun h8=>absurd h8 (by omega)) (fun h8=> ?_);exact⟨_,rfl,[.k 0,.k 1,.k 2],rfl,⟨_,rfl,rfl⟩,⟨_,rfl,rfl⟩,⟨_,rfl,rfl⟩,tq⟩
  ·exact⟨_,rfl,[.k 0,.k 1,.k 2],rfl,⟨_,rfl,rfl⟩,⟨_,rfl,rfl⟩,⟨_,rfl,rfl⟩,tq⟩
theorem IT {t key s k xs rs} (h:k9 t key s k xs rs) {mode pad md:Int} {op back:Bool} {iv d7:Bs} {st:MS} {m:Nat} {vb:List Value} (K:MK s md st) (hg:m%o6 s md≠0):
  a9 C 97 [.p (.k 0) 0,.z m vb] [l9 op t mode pad back k xs iv .n d7,j4 (f7 t k xs) md back st 2,j6 st.row st.gone]
   (.pan (.i Y4 (i64 7))) [l9 op t mode pad back k xs iv .n d7,j4 (f7 t k xs) md back st 2,j6 st.row st.gone]:=by
 have T0:=MY h (back:=back) (st:=st) (vb:=vb) K hg;obtain⟨ch,row,g⟩:=st;rcases row with _|⟨a,r⟩;all_goals
  refine jm.c ?_;refine⟨_,rfl,?_⟩;refine⟨[.k 1,.k 2],_,_,_,_,T0,rfl,rfl,?_⟩;refine⟨[],_,_,_,_,kD (e:=7) (by decide),rfl,rfl,?_⟩;exact⟨_,rfl,[.k 0,.k 1,.k 2],rfl,⟨_,rfl,rfl⟩,⟨_,rfl,rfl⟩,⟨_,rfl,rfl⟩,tq⟩
theorem Ir {t key s k xs rs} (h:k9 t key s k xs rs) {mode pad md:Int} {back:Bool} {iv d7 H:Bs} {st:MS} {m:Nat} (hl:d7.length=s) (hH:H.length=m) (hm:7<=mode/\mode<=9) (h1:s<=m) (h2:m<=2*s):
  a9 C 98 [.p (.k 0) 0,.z m (bv H)] [l9 false t mode pad back k xs iv .n d7,j4 (f7 t k xs) md back st 2,j6 st.row st.gone] (.ret (.z m (bv (P2 (cF t key false) (cF t key true) s mode back d7 H)))) [l9 false t mode pad back k xs iv .n d7,j4 (f7 t k xs) md back st 2,j6 st.row st.gone]:=by
 have T0:a9 C 116 [f7 t k xs,i64 mode,bool back,.z d7.length (bv d7),.z m (bv H)] [] (C0 m) [.sc (bv (P2 (cF t key false) (cF t key true) s mode back d7 H))]:=by
  rw[hl];exact Ng h rfl rfl hl hH hm h1 h2
 have lo:(P2 (cF t key false) (cF t key true) s mode back d7 H).length=m:=by rw[stT_len h.ci hl (by omega) (by omega),hH]
 have S:=dp (t:=t) (mode:=mode) (pad:=pad) (md:=md) (op:=false) (back:=back) (k:=k) (xs:=xs) (iv:=iv) (d7:=d7) (st:=st) hm.2;obtain⟨ch,row,g⟩:=st;rcases row with _|⟨a,r⟩;all_goals
  refine fB.c ?_;refine⟨_,rfl,?_⟩;refine⟨[],_,_,_,_,h.size,rfl,rfl,?_⟩;refine⟨[.k 0,.k 1,.k 2],_,_,_,_,S,rfl,rfl,?_⟩;refine d9 (fun h7=> ?_) (fun h7=>absurd hm.1 h7);refine⟨_,rfl,?_⟩;refine⟨_,rfl,?_⟩;refine⟨_,rfl,?_⟩;refine⟨_,rfl,?_⟩;refine⟨[],_,_,_,_,T0,rfl,rfl,?_⟩;refine⟨[],_,_,_,_,fv,rfl,rfl,?_⟩;refine⟨_,rfl,[.k 0,.k 1,.k 2],?_,⟨_,rfl,rfl⟩,⟨_,rfl,rfl⟩,⟨_,rfl,rfl⟩,tq⟩;exact congrArg (V.z m) (g8 lo)
theorem Is {t key s k xs rs} (h:k9 t key s k xs rs) {mode pad md:Int} {back:Bool} {iv d7 H:Bs} {st:MS} {m:Nat} (hl:d7.length=s) (hH:H.length=m) (hm:7<=mode/\mode<=9) (h1:m<s):
  a9 C 98 [.p (.k 0) 0,.z m (bv H)] [l9 false t mode pad back k xs iv .n d7,j4 (f7 t k xs) md back st 2,j6 st.row st.gone] (.pan (.i Y4 (i64 7))) [l9 false t mode pad back k xs iv .n d7,j4 (f7 t k xs) md back st 2,j6 st.row st.gone]:=by
 have hs:=h.s_le;have e7:oD s mode d7 H=7:=by unfold oD;rw[if_neg (by omega),if_neg (by omega),if_pos (by omega)]
 have T0:=Nh h (l:=d7.length) (m:=m) (vl:=bv d7) (vb:=bv H) (mode:=mode) (back:=back) rfl hH (by omega) (by rw[e7];decide);rw[e7]at T0;have S:=dp (t:=t) (mode:=mode) (pad:=pad) (md:=md) (op:=false) (back:=back) (k:=k) (xs:=xs) (iv:=iv) (d7:=d7) (st:=st) hm.2;obtain⟨ch,row,g⟩:=st;rcases row with _|⟨a,r⟩;all_goals
  refine fB.c ?_;refine⟨_,rfl,?_⟩;refine⟨[],_,_,_,_,h.size,rfl,rfl,?_⟩;refine⟨[.k 0,.k 1,.k 2],_,_,_,_,S,rfl,rfl,?_⟩;refine d9 (fun h7=> ?_) (fun h7=>absurd hm.1 h7);refine⟨_,rfl,?_⟩;refine⟨_,rfl,?_⟩;refine⟨_,rfl,?_⟩;refine⟨_,rfl,?_⟩;refine⟨[],_,_,_,_,T0,rfl,rfl,?_⟩;refine⟨[],_,_,_,_,kD (e:=7) (by decide),rfl,rfl,?_⟩;exact⟨_,rfl,[.k 0,.k 1,.k 2],rfl,⟨_,rfl,rfl⟩,⟨_,rfl,rfl⟩,⟨_,rfl,rfl⟩,tq⟩
theorem Il {t key s k xs rs} (h:k9 t key s k xs rs) {mode pad md:Int} {back:Bool} {iv d7 H:Bs} {st:MS} {m:Nat} (hH:H.length=m) (hmb:m<=100000) (K:MK s md st) (hm:mode<=6) (h4:pad=4) (hg:m%o6 s md=0) (hne:0<m\/st.row=[]):
  a9 C 98 [.p (.k 0) 0,.z m (bv H)] [l9 false t mode pad back k xs iv .n d7,j4 (f7 t k xs) md back st 2,j6 st.row st.gone] (.ret (.z m (bv (k5 (cF t key false) (cF t key true) s md back st H).1)))
   [l9 false t mode pad back k xs iv .n (L5 s mode back H (k5 (cF t key false) (cF t key true) s md back st H).1 d7),j4 (f7 t k xs) md back (k5 (cF t key false) (cF t key true) s md back st H).2 3,.dead,j6 (k5 (cF t key false) (cF t key true) s md back st H).2.row (k5 (cF t key false) (cF t key true) s md back st H).2.gone]:=by
 have S:=dp (t:=t) (mode:=mode) (pad:=pad) (md:=md) (op:=false) (back:=back) (k:=k) (xs:=xs) (iv:=iv) (d7:=d7) (st:=st) (by omega);have TU:=pt h (op:=false) (back:=back) (pad:=pad) (iv:=iv) (d7:=d7) (b:=H) hH hmb K (mode:=mode) (by omega) hg hne;generalize k5 (cF t key false) (cF t key true) s md back st H=S0 at*
 obtain⟨o,c1,row1,g1⟩:=S0;obtain⟨ch,row,g⟩:=st;rcases row with _|⟨a,r⟩<;>rcases row1 with _|⟨a1,r1⟩;all_goals
  refine fB.c ?_;refine⟨_,rfl,?_⟩;refine⟨[],_,_,_,_,h.size,rfl,rfl,?_⟩;refine⟨[.k 0,.k 1,.k 2],_,_,_,_,S,rfl,rfl,?_⟩;refine d9 (fun h7=>absurd h7 (by omega)) (fun h7=> ?_);refine⟨_,rfl,?_⟩;refine j5 (fun _=> ?_) (fun hh=>absurd h4 hh);refine⟨[.k 0,.k 1,.k 2],_,_,_,_,TU,rfl,rfl,?_⟩;exact⟨_,rfl,[.k 0,.k 1,.k 2,.d 53 3],rfl,⟨_,rfl,rfl⟩,⟨_,rfl,rfl⟩,⟨_,rfl,rfl⟩,⟨_,rfl,rfl⟩,tq⟩
theorem Im {t key s k xs rs} (h:k9 t key s k xs rs) {mode pad md:Int} {back:Bool} {iv d7 H:Bs} {st:MS} {m:Nat} (hm0:m=0) (h3:3<=md) (hm:mode<=6) (h4:pad=4):
  a9 C 98 [.p (.k 0) 0,.z m (bv H)] [l9 false t mode pad back k xs iv .n d7,j4 (f7 t k xs) md back st 2,j6 st.row st.gone] (.ret (.z 0 [])) [l9 false t mode pad back k xs iv .n d7,j4 (f7 t k xs) md back st 2,j6 st.row st.gone]:=by
 subst hm0;have S:=dp (t:=t) (mode:=mode) (pad:=pad) (md:=md) (op:=false) (back:=back) (k:=k) (xs:=xs) (iv:=iv) (d7:=d7) (st:=st) (by omega);have TU:=IR h (op:=false) (back:=back) (pad:=pad) (iv:=iv) (d7:=d7) (mode:=mode) (st:=st) (vb:=bv H) h3 (by omega);obtain⟨ch,row,g⟩:=st;rcases row with _|⟨a,r⟩;all_goals
  refine fB.c ?_;refine⟨_,rfl,?_⟩;refine⟨[],_,_,_,_,h.size,rfl,rfl,?_⟩;refine⟨[.k 0,.k 1,.k 2],_,_,_,_,S,rfl,rfl,?_⟩;refine d9 (fun h7=>absurd h7 (by omega)) (fun h7=> ?_);refine⟨_,rfl,?_⟩;refine j5 (fun _=> ?_) (fun hh=>absurd h4 hh);refine⟨[.k 0,.k 1,.k 2],_,_,_,_,TU,rfl,rfl,?_⟩;exact⟨_,rfl,[.k 0,.k 1,.k 2],rfl,⟨_,rfl,rfl⟩,⟨_,rfl,rfl⟩,⟨_,rfl,rfl⟩,tq⟩
theorem Ip {t key s k xs rs} (h:k9 t key s k xs rs) {mode pad md:Int} {back:Bool} {iv d7 H:Bs} {st:MS} {m:Nat} (K:MK s md st) (hm:mode<=6) (h4:pad=4) (hg:m%o6 s md≠0):
  a9 C 98 [.p (.k 0) 0,.z m (bv H)] [l9 false t mode pad back k xs iv .n d7,j4 (f7 t k xs) md back st 2,j6 st.row st.gone] (.pan (.i Y4 (i64 7))) [l9 false t mode pad back k xs iv .n d7,j4 (f7 t k xs) md back st 2,j6 st.row st.gone]:=by
 have S:=dp (t:=t) (mode:=mode) (pad:=pad) (md:=md) (op:=false) (back:=back) (k:=k) (xs:=xs) (iv:=iv) (d7:=d7) (st:=st) (by omega);have TU:=IT h (op:=false) (back:=back) (pad:=pad) (iv:=iv) (d7:=d7) (mode:=mode) (m:=m) (vb:=bv H) K hg;obtain⟨ch,row,g⟩:=st;rcases row with _|⟨a,r⟩;all_goals
  refine fB.c ?_;refine⟨_,rfl,?_⟩;refine⟨[],_,_,_,_,h.size,rfl,rfl,?_⟩;refine⟨[.k 0,.k 1,.k 2],_,_,_,_,S,rfl,rfl,?_⟩;refine d9 (fun h7=>absurd h7 (by omega)) (fun h7=> ?_);refine⟨_,rfl,?_⟩;refine j5 (fun _=> ?_) (fun hh=>absurd h4 hh);refine⟨[.k 0,.k 1,.k 2],_,_,_,_,TU,rfl,rfl,?_⟩;exact⟨_,rfl,[.k 0,.k 1,.k 2],rfl,⟨_,rfl,rfl⟩,⟨_,rfl,rfl⟩,⟨_,rfl,rfl⟩,tq⟩
theorem Iq {t key s k xs rs} (h:k9 t key s k xs rs) {mode pad md:Int} {back:Bool} {iv d7 H:Bs} {st:MS} {m:Nat} (hb:back=false) (hH:H.length=m) (hms:m<s) (K:MK s md st) (hm:mode<=6) (hp:pad=1\/pad=2\/pad=3) (hgr:o6 s md=s):
  a9 C 98 [.p (.k 0) 0,.z m (bv H)] [l9 false t mode pad back k xs iv .n d7,j4 (f7 t k xs) md back st 2,j6 st.row st.gone] (.ret (.z s (bv (k5 (cF t key false) (cF t key true) s md back st (L8 pad s H)).1)))
   [l9 false t mode pad back k xs iv .n (L5 s mode back (L8 pad s H) (k5 (cF t key false) (cF t key true) s md back st (L8 pad s H)).1 d7),j4 (f7 t k xs) md back (k5 (cF t key false) (cF t key true) s md back st (L8 pad s H)).2 3,.dead,j6 (k5 (cF t key false) (cF t key true) s md back st (L8 pad s H)).2.row (k5 (cF t key false) (cF t key true) s md back st (L8 pad s H)).2.gone]:=by
 subst hb;have hs:=h.s_le;have lp:(L8 pad s H).length=s:=mf (by omega);have PA:=Lf (vt:=bv H) hp h.s_two rfl hH hms;have S:=dp (t:=t) (mode:=mode) (pad:=pad) (md:=md) (op:=false) (back:=false) (k:=k) (xs:=xs) (iv:=iv) (d7:=d7) (st:=st) (by omega);have TU:=pt h (op:=false) (back:=false) (pad:=pad) (iv:=iv) (d7:=d7) (b:=L8 pad s H) lp (by omega) K (mode:=mode) (by omega) (by rw[hgr,Zl]) (.inl (by omega));generalize L8 pad s H=P at*
 generalize k5 (cF t key false) (cF t key true) s md false st P=S0 at*
 obtain⟨o,c1,row1,g1⟩:=S0;obtain⟨ch,row,g⟩:=st;rcases row with _|⟨a,r⟩<;>rcases row1 with _|⟨a1,r1⟩;all_goals
  refine fB.c ?_;refine⟨_,rfl,?_⟩;refine⟨[],_,_,_,_,h.size,rfl,rfl,?_⟩;refine⟨[.k 0,.k 1,.k 2],_,_,_,_,S,rfl,rfl,?_⟩;refine d9 (fun h7=>absurd h7 (by omega)) (fun h7=> ?_);refine⟨_,rfl,?_⟩;refine j5 (fun hh=>absurd hh (by omega)) (fun _=> ?_);refine⟨_,rfl,?_⟩;refine⟨_,rfl,?_⟩;refine⟨[],_,_,_,_,PA,rfl,rfl,?_⟩;refine⟨[],_,_,_,_,fv,rfl,rfl,?_⟩;refine⟨[.k 0,.k 1,.k 2],_,_,_,_,TU,?_,rfl,?_⟩
  ·exact congrArg (fun v=>[V.p (.k 0) 0,V.z s v]) (g8 lp)
  exact⟨_,rfl,[.k 0,.k 1,.k 2,.d 75 3],rfl,⟨_,rfl,rfl⟩,⟨_,rfl,rfl⟩,⟨_,rfl,rfl⟩,⟨_,rfl,rfl⟩,tq⟩
theorem Ih {t key s k xs rs} (h:k9 t key s k xs rs) {mode pad md:Int} {back:Bool} {iv d7 H:Bs} {st:MS} {m:Nat} (hb:back=true) (hH:H.length=m) (hmb:m<=100000) (hms:m≠s) (hm:mode<=6) (hp:pad=1\/pad=2\/pad=3):
  a9 C 98 [.p (.k 0) 0,.z m (bv H)] [l9 false t mode pad back k xs iv .n d7,j4 (f7 t k xs) md back st 2,j6 st.row st.gone] (.pan (.i Y4 (i64 7))) [l9 false t mode pad back k xs iv .n d7,j4 (f7 t k xs) md back st 2,j6 st.row st.gone]:=by
 subst hb;have S:=dp (t:=t) (mode:=mode) (pad:=pad) (md:=md) (op:=false) (back:=true) (k:=k) (xs:=xs) (iv:=iv) (d7:=d7) (st:=st) (by omega);obtain⟨ch,row,g⟩:=st;rcases row with _|⟨a,r⟩;all_goals
  refine fB.c ?_;refine⟨_,rfl,?_⟩;refine⟨[],_,_,_,_,h.size,rfl,rfl,?_⟩;refine⟨[.k 0,.k 1,.k 2],_,_,_,_,S,rfl,rfl,?_⟩;refine d9 (fun h7=>absurd h7 (by omega)) (fun h7=> ?_);refine⟨_,rfl,?_⟩;refine j5 (fun hh=>absurd hh (by omega)) (fun _=> ?_);refine⟨_,rfl,?_⟩;refine n7 (fun _=> ?_) (fun hh=>absurd hh (by omega));refine⟨[],_,_,_,_,kD (e:=7) (by decide),rfl,rfl,?_⟩;exact⟨_,rfl,[.k 0,.k 1,.k 2],rfl,⟨_,rfl,rfl⟩,⟨_,rfl,rfl⟩,⟨_,rfl,rfl⟩,tq⟩
theorem Al {s:Nat} {mode:Int} {back:Bool} {b o d7:Bs} (hm:mode<=6):L5 s mode back b o d7=d7:=by unfold L5;rw[if_neg (by omega)]
theorem Ii {t key s k xs rs} (h:k9 t key s k xs rs) {mode pad md:Int} {back:Bool} {iv d7 H:Bs} {st:MS} {m:Nat} (hb:back=true) (hH:H.length=s) (K:MK s md st) (hm:mode<=6) (hp:pad=1\/pad=2\/pad=3) (hgr:o6 s md=s) (h0:A3 pad (k5 (cF t key false) (cF t key true) s md back st H).1=0):
  a9 C 98 [.p (.k 0) 0,.z s (bv H)] [l9 false t mode pad back k xs iv .n d7,j4 (f7 t k xs) md back st 2,j6 st.row st.gone] (.pan (.i Y4 (i64 8)))
   [l9 false t mode pad back k xs iv .n d7,j4 (f7 t k xs) md back (k5 (cF t key false) (cF t key true) s md back st H).2 3,.dead,j6 (k5 (cF t key false) (cF t key true) s md back st H).2.row (k5 (cF t key false) (cF t key true) s md back st H).2.gone]:=by
 subst hb;have hs:=h.s_le;have lo:(k5 (cF t key false) (cF t key true) s md true st H).1.length=s:=by rw[aB h.ci K.ok (by rw[hH,hgr,Zl]),hH]
 have PA:=Nd (vb:=bv (k5 (cF t key false) (cF t key true) s md true st H).1) rfl hp h.s_two lo h0;have S:=dp (t:=t) (mode:=mode) (pad:=pad) (md:=md) (op:=false) (back:=true) (k:=k) (xs:=xs) (iv:=iv) (d7:=d7) (st:=st) (by omega);have TU:=pt h (op:=false) (back:=true) (pad:=pad) (iv:=iv) (d7:=d7) (b:=H) hH (by omega) K (mode:=mode) (by omega) (by rw[hgr,Zl]) (.inl (by omega));rw[Al hm]at TU;generalize k5 (cF t key false) (cF t key true) s md true st H=S0 at*
 obtain⟨o,c1,row1,g1⟩:=S0;obtain⟨ch,row,g⟩:=st;rcases row with _|⟨a,r⟩<;>rcases row1 with _|⟨a1,r1⟩;all_goals
  refine fB.c ?_;refine⟨_,rfl,?_⟩;refine⟨[],_,_,_,_,h.size,rfl,rfl,?_⟩;refine⟨[.k 0,.k 1,.k 2],_,_,_,_,S,rfl,rfl,?_⟩;refine d9 (fun h7=>absurd h7 (by omega)) (fun h7=> ?_);refine⟨_,rfl,?_⟩;refine j5 (fun hh=>absurd hh (by omega)) (fun _=> ?_);refine⟨_,rfl,?_⟩;refine n7 (fun hh=>absurd rfl hh) (fun _=> ?_);refine⟨_,rfl,?_⟩;refine⟨[.k 0,.k 1,.k 2],_,_,_,_,TU,rfl,rfl,?_⟩;refine cz rfl ?_;refine cz (U5 rfl rfl rfl) ?_;refine⟨[],_,_,_,_,PA,rfl,rfl,?_⟩;refine⟨[],_,_,_,_,kD (e:=8) (by decide),rfl,rfl,?_⟩;exact⟨_,rfl,[.k 0,.k 1,.k 2,.d 90 3],rfl,⟨_,rfl,rfl⟩,⟨_,rfl,rfl⟩,⟨_,rfl,rfl⟩,⟨_,rfl,rfl⟩,tq⟩
theorem Ij {t key s k xs rs} (h:k9 t key s k xs rs) {mode pad md:Int} {back:Bool} {iv d7 H:Bs} {st:MS} {m:Nat} (hb:back=true) (hH:H.length=s) (K:MK s md st) (hm:mode<=6) (hp:pad=1\/pad=2\/pad=3) (hgr:o6 s md=s) (h0:A3 pad (k5 (cF t key false) (cF t key true) s md back st H).1≠0):
  a9 C 98 [.p (.k 0) 0,.z s (bv H)] [l9 false t mode pad back k xs iv .n d7,j4 (f7 t k xs) md back st 2,j6 st.row st.gone] (.ret (.z (s-A3 pad (k5 (cF t key false) (cF t key true) s md back st H).1) (bv (V7 pad (k5 (cF t key false) (cF t key true) s md back st H).1))))
   [l9 false t mode pad back k xs iv .n d7,j4 (f7 t k xs) md back (k5 (cF t key false) (cF t key true) s md back st H).2 3,.dead,j6 (k5 (cF t key false) (cF t key true) s md back st H).2.row (k5 (cF t key false) (cF t key true) s md back st H).2.gone]:=by
 subst hb;have hs:=h.s_le;have lo:(k5 (cF t key false) (cF t key true) s md true st H).1.length=s:=by rw[aB h.ci K.ok (by rw[hH,hgr,Zl]),hH]
 have PA:=Nc (vb:=bv (k5 (cF t key false) (cF t key true) s md true st H).1) rfl hp h.s_two lo h0;have S:=dp (t:=t) (mode:=mode) (pad:=pad) (md:=md) (op:=false) (back:=true) (k:=k) (xs:=xs) (iv:=iv) (d7:=d7) (st:=st) (by omega);have TU:=pt h (op:=false) (back:=true) (pad:=pad) (iv:=iv) (d7:=d7) (b:=H) hH (by omega) K (mode:=mode) (by omega) (by rw[hgr,Zl]) (.inl (by omega));rw[Al hm]at TU;generalize k5 (cF t key false) (cF t key true) s md true st H=S0 at*
 obtain⟨o,c1,row1,g1⟩:=S0;obtain⟨ch,row,g⟩:=st;rcases row with _|⟨a,r⟩<;>rcases row1 with _|⟨a1,r1⟩;all_goals
  refine fB.c ?_;refine⟨_,rfl,?_⟩;refine⟨[],_,_,_,_,h.size,rfl,rfl,?_⟩;refine⟨[.k 0,.k 1,.k 2],_,_,_,_,S,rfl,rfl,?_⟩;refine d9 (fun h7=>absurd h7 (by omega)) (fun h7=> ?_);refine⟨_,rfl,?_⟩;refine j5 (fun hh=>absurd hh (by omega)) (fun _=> ?_);refine⟨_,rfl,?_⟩;refine n7 (fun hh=>absurd rfl hh) (fun _=> ?_);refine⟨_,rfl,?_⟩;refine⟨[.k 0,.k 1,.k 2],_,_,_,_,TU,rfl,rfl,?_⟩;refine cz rfl ?_;refine cz (U5 rfl rfl rfl) ?_;refine⟨[],_,_,_,_,PA,rfl,rfl,?_⟩;refine⟨[],_,_,_,_,fv,rfl,rfl,?_⟩;exact⟨_,rfl,[.k 0,.k 1,.k 2,.d 90 3],rfl,⟨_,rfl,rfl⟩,⟨_,rfl,rfl⟩,⟨_,rfl,rfl⟩,⟨_,rfl,rfl⟩,tq⟩
theorem Iy {t mode pad md:Int} {back:Bool} {k m n:Nat} {e:Int} {xs:List V} {iv d7 p6 H:Bs} {st st':MS} {x:HK} {vr:List Value} (hx:x= .n/\m=0/\H=[]\/x= .o H/\H.length=m)
  (E:a9 C 98 [.p (.k 0) 0,.z m (bv H)] [l9 false t mode pad back k xs iv .n d7,j4 (f7 t k xs) md back st 2,j6 st.row st.gone] (.ret (.z n vr)) [l9 false t mode pad back k xs iv .n p6,j4 (f7 t k xs) md back st' 3,.dead,j6 st'.row st'.gone]):
  a9 C 34 [.p (.k 0) 0] [l9 true t mode pad back k xs iv x d7,j4 (f7 t k xs) md back st 2,j6 st.row st.gone,x.b] (.ret (.t [.z n vr,i64 0])) [l9 false t mode pad back k xs iv .n p6,j4 (f7 t k xs) md back st' 4,.dead,.dead,j6 st'.row st'.gone]:=by
 have NE:=kp (t:=t) (mode:=mode) (pad:=pad) (md:=md) (back:=back) (k:=k) (xs:=xs) (iv:=iv) (d7:=d7) (st:=st) (x:=x);obtain⟨ch,row,g⟩:=st;obtain⟨ch1,row1,g1⟩:=st';rcases hx with ⟨rfl,rfl,rfl⟩|⟨rfl,hH⟩
 ·rcases row with _|⟨a,r⟩<;>rcases row1 with _|⟨a1,r1⟩;all_goals
   refine eC.d Y9 ?_;refine⟨⟨[(0,.p (.k 0) 0),(2,.p (.k 4) 0),(3,.p (.k 5) 0)],[_,_,_,_,.sc [.slice none 0 0],.sc [.int .i64 0]]⟩,4,5,by decide,⟨[.k 0,.k 1,.k 2,.k 3,.d 2 0,.d 3 0],⟨rfl,rfl,rfl,tq⟩,⟨_,rfl,rfl⟩,⟨_,rfl,rfl⟩,⟨_,rfl,rfl⟩,⟨_,rfl,rfl⟩,⟨_,rfl,rfl⟩,⟨_,rfl,rfl⟩,tq⟩,rfl,rfl,rfl,?_⟩;refine⟨[.k 0,.k 1,.k 2,.k 3],_,_,_,_,NE,rfl,rfl,?_⟩;refine⟨_,rfl,?_⟩;refine⟨Za rfl,?_⟩;refine⟨Za rfl,?_⟩;refine⟨[.k 0,.k 1,.k 2],_,_,_,_,a9.args E (ys0:=[.p (.k 0) 0,i6]) (.cons (.refl _) (.cons .nl .nil)),rfl,rfl,?_⟩;refine⟨Za rfl,?_⟩;refine⟨Za rfl,?_⟩;refine⟨_,rfl,_,rfl,?_⟩;refine⟨_,_,?_,.ret (.refl _),w6.refl _⟩;exact⟨_,rfl,[.k 0,.k 1,.k 2,.k 3,.d 19 3],rfl,⟨_,rfl,rfl⟩,⟨_,rfl,rfl⟩,⟨_,rfl,rfl⟩,⟨_,rfl,rfl⟩,⟨_,rfl,rfl⟩,tq⟩
 ·rcases row with _|⟨a,r⟩<;>rcases row1 with _|⟨a1,r1⟩;all_goals
   refine eC.d Y9 ?_;refine⟨⟨[(0,.p (.k 0) 0),(2,.p (.k 4) 0),(3,.p (.k 5) 0)],[_,_,_,_,.sc [.slice none 0 0],.sc [.int .i64 0]]⟩,4,5,by decide,⟨[.k 0,.k 1,.k 2,.k 3,.d 2 0,.d 3 0],⟨rfl,rfl,rfl,tq⟩,⟨_,rfl,rfl⟩,⟨_,rfl,rfl⟩,⟨_,rfl,rfl⟩,⟨_,rfl,rfl⟩,⟨_,rfl,rfl⟩,⟨_,rfl,rfl⟩,tq⟩,rfl,rfl,rfl,?_⟩;refine⟨[.k 0,.k 1,.k 2,.k 3],_,_,_,_,NE,rfl,rfl,?_⟩;refine⟨_,rfl,?_⟩;refine⟨Za rfl,?_⟩;refine⟨Za rfl,?_⟩;refine⟨[.k 0,.k 1,.k 2],_,_,_,_,E,?_,rfl,?_⟩
   ·show[V.p (.k 0) 0,V.z H.length (sub (bv H) 0 H.length)]=_;rw[g8 rfl,hH]
   refine⟨Za rfl,?_⟩;refine⟨Za rfl,?_⟩;refine⟨_,rfl,_,rfl,?_⟩;refine⟨_,_,?_,.ret (.refl _),w6.refl _⟩;exact⟨_,rfl,[.k 0,.k 1,.k 2,.k 3,.d 19 3],rfl,⟨_,rfl,rfl⟩,⟨_,rfl,rfl⟩,⟨_,rfl,rfl⟩,⟨_,rfl,rfl⟩,⟨_,rfl,rfl⟩,tq⟩
theorem Ix {t mode pad md:Int} {back:Bool} {k m n:Nat} {e:Int} {xs:List V} {iv d7 p6 H:Bs} {st st':MS} {x:HK} {vr:List Value} (hx:x= .n/\m=0/\H=[]\/x= .o H/\H.length=m)
  (E:a9 C 98 [.p (.k 0) 0,.z m (bv H)] [l9 false t mode pad back k xs iv .n d7,j4 (f7 t k xs) md back st 2,j6 st.row st.gone] (.pan (.i Y4 (i64 e))) [l9 false t mode pad back k xs iv .n p6,j4 (f7 t k xs) md back st' 3,.dead,j6 st'.row st'.gone]):
  a9 C 34 [.p (.k 0) 0] [l9 true t mode pad back k xs iv x d7,j4 (f7 t k xs) md back st 2,j6 st.row st.gone,x.b] (.ret (.t [.z 0 [],i64 e])) [l9 false t mode pad back k xs iv .n p6,j4 (f7 t k xs) md back st' 4,.dead,.dead,j6 st'.row st'.gone]:=by
 have NE:=kp (t:=t) (mode:=mode) (pad:=pad) (md:=md) (back:=back) (k:=k) (xs:=xs) (iv:=iv) (d7:=d7) (st:=st) (x:=x);obtain⟨ch,row,g⟩:=st;obtain⟨ch1,row1,g1⟩:=st';rcases hx with ⟨rfl,rfl,rfl⟩|⟨rfl,hH⟩
 ·rcases row with _|⟨a,r⟩<;>rcases row1 with _|⟨a1,r1⟩;all_goals
   refine eC.d Y9 ?_;refine⟨⟨[(0,.p (.k 0) 0),(2,.p (.k 4) 0),(3,.p (.k 5) 0)],[_,_,_,_,.sc [.slice none 0 0],.sc [.int .i64 0]]⟩,4,5,by decide,⟨[.k 0,.k 1,.k 2,.k 3,.d 2 0,.d 3 0],⟨rfl,rfl,rfl,tq⟩,⟨_,rfl,rfl⟩,⟨_,rfl,rfl⟩,⟨_,rfl,rfl⟩,⟨_,rfl,rfl⟩,⟨_,rfl,rfl⟩,⟨_,rfl,rfl⟩,tq⟩,rfl,rfl,rfl,?_⟩;refine⟨[.k 0,.k 1,.k 2,.k 3],_,_,_,_,NE,rfl,rfl,?_⟩;refine⟨_,rfl,?_⟩;refine⟨Za rfl,?_⟩;refine⟨Za rfl,?_⟩;refine⟨[.k 0,.k 1,.k 2],_,_,_,_,a9.args E (ys0:=[.p (.k 0) 0,i6]) (.cons (.refl _) (.cons .nl .nil)),rfl,rfl,?_⟩;refine⟨_,rfl,_,rfl,?_⟩;refine⟨_,_,?_,.ret (.t (.cons .nl (.cons (.refl _) .nil))),w6.refl _⟩;exact⟨_,rfl,[.k 0,.k 1,.k 2,.k 3,.d 19 3],rfl,⟨_,rfl,rfl⟩,⟨_,rfl,rfl⟩,⟨_,rfl,rfl⟩,⟨_,rfl,rfl⟩,⟨_,rfl,rfl⟩,tq⟩
 ·rcases row with _|⟨a,r⟩<;>rcases row1 with _|⟨a1,r1⟩;all_goals
   refine eC.d Y9 ?_;refine⟨⟨[(0,.p (.k 0) 0),(2,.p (.k 4) 0),(3,.p (.k 5) 0)],[_,_,_,_,.sc [.slice none 0 0],.sc [.int .i64 0]]⟩,4,5,by decide,⟨[.k 0,.k 1,.k 2,.k 3,.d 2 0,.d 3 0],⟨rfl,rfl,rfl,tq⟩,⟨_,rfl,rfl⟩,⟨_,rfl,rfl⟩,⟨_,rfl,rfl⟩,⟨_,rfl,rfl⟩,⟨_,rfl,rfl⟩,⟨_,rfl,rfl⟩,tq⟩,rfl,rfl,rfl,?_⟩;refine⟨[.k 0,.k 1,.k 2,.k 3],_,_,_,_,NE,rfl,rfl,?_⟩;refine⟨_,rfl,?_⟩;refine⟨Za rfl,?_⟩;refine⟨Za rfl,?_⟩;refine⟨[.k 0,.k 1,.k 2],_,_,_,_,E,?_,rfl,?_⟩
   ·show[V.p (.k 0) 0,V.z H.length (sub (bv H) 0 H.length)]=_;rw[g8 rfl,hH]
   refine⟨_,rfl,_,rfl,?_⟩;refine⟨_,_,?_,.ret (.t (.cons .nl (.cons (.refl _) .nil))),w6.refl _⟩;exact⟨_,rfl,[.k 0,.k 1,.k 2,.k 3,.d 19 3],rfl,⟨_,rfl,rfl⟩,⟨_,rfl,rfl⟩,⟨_,rfl,rfl⟩,⟨_,rfl,rfl⟩,⟨_,rfl,rfl⟩,tq⟩
theorem Iw {t mode pad md:Int} {back:Bool} {k m n:Nat} {e:Int} {xs:List V} {iv d7 p6 H:Bs} {st st':MS} {x:HK} {vr:List Value} (hx:x= .n/\m=0/\H=[]\/x= .o H/\H.length=m)
  (E:a9 C 98 [.p (.k 0) 0,.z m (bv H)] [l9 false t mode pad back k xs iv .n d7,j4 (f7 t k xs) md back st 2,j6 st.row st.gone] (.ret (.z n vr)) [l9 false t mode pad back k xs iv .n p6,j4 (f7 t k xs) md back st' 2,j6 st'.row st'.gone]):
  a9 C 34 [.p (.k 0) 0] [l9 true t mode pad back k xs iv x d7,j4 (f7 t k xs) md back st 2,j6 st.row st.gone,x.b] (.ret (.t [.z n vr,i64 0])) [l9 false t mode pad back k xs iv .n p6,j4 (f7 t k xs) md back st' 2,j6 st'.row st'.gone,.dead]:=by
 have NE:=kp (t:=t) (mode:=mode) (pad:=pad) (md:=md) (back:=back) (k:=k) (xs:=xs) (iv:=iv) (d7:=d7) (st:=st) (x:=x);obtain⟨ch,row,g⟩:=st;obtain⟨ch1,row1,g1⟩:=st';rcases hx with ⟨rfl,rfl,rfl⟩|⟨rfl,hH⟩
 ·rcases row with _|⟨a,r⟩<;>rcases row1 with _|⟨a1,r1⟩;all_goals
   refine eC.d Y9 ?_;refine⟨⟨[(0,.p (.k 0) 0),(2,.p (.k 4) 0),(3,.p (.k 5) 0)],[_,_,_,_,.sc [.slice none 0 0],.sc [.int .i64 0]]⟩,4,5,by decide,⟨[.k 0,.k 1,.k 2,.k 3,.d 2 0,.d 3 0],⟨rfl,rfl,rfl,tq⟩,⟨_,rfl,rfl⟩,⟨_,rfl,rfl⟩,⟨_,rfl,rfl⟩,⟨_,rfl,rfl⟩,⟨_,rfl,rfl⟩,⟨_,rfl,rfl⟩,tq⟩,rfl,rfl,rfl,?_⟩;refine⟨[.k 0,.k 1,.k 2,.k 3],_,_,_,_,NE,rfl,rfl,?_⟩;refine⟨_,rfl,?_⟩;refine⟨Za rfl,?_⟩;refine⟨Za rfl,?_⟩;refine⟨[.k 0,.k 1,.k 2],_,_,_,_,a9.args E (ys0:=[.p (.k 0) 0,i6]) (.cons (.refl _) (.cons .nl .nil)),rfl,rfl,?_⟩;refine⟨Za rfl,?_⟩;refine⟨Za rfl,?_⟩;refine⟨_,rfl,_,rfl,?_⟩;refine⟨_,_,?_,.ret (.refl _),w6.refl _⟩;exact⟨_,rfl,[.k 0,.k 1,.k 2,.k 3],rfl,⟨_,rfl,rfl⟩,⟨_,rfl,rfl⟩,⟨_,rfl,rfl⟩,⟨_,rfl,rfl⟩,tq⟩
 ·rcases row with _|⟨a,r⟩<;>rcases row1 with _|⟨a1,r1⟩;all_goals
   refine eC.d Y9 ?_;refine⟨⟨[(0,.p (.k 0) 0),(2,.p (.k 4) 0),(3,.p (.k 5) 0)],[_,_,_,_,.sc [.slice none 0 0],.sc [.int .i64 0]]⟩,4,5,by decide,⟨[.k 0,.k 1,.k 2,.k 3,.d 2 0,.d 3 0],⟨rfl,rfl,rfl,tq⟩,⟨_,rfl,rfl⟩,⟨_,rfl,rfl⟩,⟨_,rfl,rfl⟩,⟨_,rfl,rfl⟩,⟨_,rfl,rfl⟩,⟨_,rfl,rfl⟩,tq⟩,rfl,rfl,rfl,?_⟩;refine⟨[.k 0,.k 1,.k 2,.k 3],_,_,_,_,NE,rfl,rfl,?_⟩;refine⟨_,rfl,?_⟩;refine⟨Za rfl,?_⟩;refine⟨Za rfl,?_⟩;refine⟨[.k 0,.k 1,.k 2],_,_,_,_,E,?_,rfl,?_⟩
   ·show[V.p (.k 0) 0,V.z H.length (sub (bv H) 0 H.length)]=_;rw[g8 rfl,hH]
   refine⟨Za rfl,?_⟩;refine⟨Za rfl,?_⟩;refine⟨_,rfl,_,rfl,?_⟩;refine⟨_,_,?_,.ret (.refl _),w6.refl _⟩;exact⟨_,rfl,[.k 0,.k 1,.k 2,.k 3],rfl,⟨_,rfl,rfl⟩,⟨_,rfl,rfl⟩,⟨_,rfl,rfl⟩,⟨_,rfl,rfl⟩,tq⟩
theorem Iv {t mode pad md:Int} {back:Bool} {k m n:Nat} {e:Int} {xs:List V} {iv d7 p6 H:Bs} {st st':MS} {x:HK} {vr:List Value} (hx:x= .n/\m=0/\H=[]\/x= .o H/\H.length=m)
  (E:a9 C 98 [.p (.k 0) 0,.z m (bv H)] [l9 false t mode pad back k xs iv .n d7,j4 (f7 t k xs) md back st 2,j6 st.row st.gone] (.pan (.i Y4 (i64 e))) [l9 false t mode pad back k xs iv .n p6,j4 (f7 t k xs) md back st' 2,j6 st'.row st'.gone]):
  a9 C 34 [.p (.k 0) 0] [l9 true t mode pad back k xs iv x d7,j4 (f7 t k xs) md back st 2,j6 st.row st.gone,x.b] (.ret (.t [.z 0 [],i64 e])) [l9 false t mode pad back k xs iv .n p6,j4 (f7 t k xs) md back st' 2,j6 st'.row st'.gone,.dead]:=by
 have NE:=kp (t:=t) (mode:=mode) (pad:=pad) (md:=md) (back:=back) (k:=k) (xs:=xs) (iv:=iv) (d7:=d7) (st:=st) (x:=x);obtain⟨ch,row,g⟩:=st;obtain⟨ch1,row1,g1⟩:=st';rcases hx with ⟨rfl,rfl,rfl⟩|⟨rfl,hH⟩
 ·rcases row with _|⟨a,r⟩<;>rcases row1 with _|⟨a1,r1⟩;all_goals
   refine eC.d Y9 ?_;refine⟨⟨[(0,.p (.k 0) 0),(2,.p (.k 4) 0),(3,.p (.k 5) 0)],[_,_,_,_,.sc [.slice none 0 0],.sc [.int .i64 0]]⟩,4,5,by decide,⟨[.k 0,.k 1,.k 2,.k 3,.d 2 0,.d 3 0],⟨rfl,rfl,rfl,tq⟩,⟨_,rfl,rfl⟩,⟨_,rfl,rfl⟩,⟨_,rfl,rfl⟩,⟨_,rfl,rfl⟩,⟨_,rfl,rfl⟩,⟨_,rfl,rfl⟩,tq⟩,rfl,rfl,rfl,?_⟩;refine⟨[.k 0,.k 1,.k 2,.k 3],_,_,_,_,NE,rfl,rfl,?_⟩;refine⟨_,rfl,?_⟩;refine⟨Za rfl,?_⟩;refine⟨Za rfl,?_⟩;refine⟨[.k 0,.k 1,.k 2],_,_,_,_,a9.args E (ys0:=[.p (.k 0) 0,i6]) (.cons (.refl _) (.cons .nl .nil)),rfl,rfl,?_⟩;refine⟨_,rfl,_,rfl,?_⟩;refine⟨_,_,?_,.ret (.t (.cons .nl (.cons (.refl _) .nil))),w6.refl _⟩;exact⟨_,rfl,[.k 0,.k 1,.k 2,.k 3],rfl,⟨_,rfl,rfl⟩,⟨_,rfl,rfl⟩,⟨_,rfl,rfl⟩,⟨_,rfl,rfl⟩,tq⟩
 ·rcases row with _|⟨a,r⟩<;>rcases row1 with _|⟨a1,r1⟩;all_goals
   refine eC.d Y9 ?_;refine⟨⟨[(0,.p (.k 0) 0),(2,.p (.k 4) 0),(3,.p (.k 5) 0)],[_,_,_,_,.sc [.slice none 0 0],.sc [.int .i64 0]]⟩,4,5,by decide,⟨[.k 0,.k 1,.k 2,.k 3,.d 2 0,.d 3 0],⟨rfl,rfl,rfl,tq⟩,⟨_,rfl,rfl⟩,⟨_,rfl,rfl⟩,⟨_,rfl,rfl⟩,⟨_,rfl,rfl⟩,⟨_,rfl,rfl⟩,⟨_,rfl,rfl⟩,tq⟩,rfl,rfl,rfl,?_⟩;refine⟨[.k 0,.k 1,.k 2,.k 3],_,_,_,_,NE,rfl,rfl,?_⟩;refine⟨_,rfl,?_⟩;refine⟨Za rfl,?_⟩;refine⟨Za rfl,?_⟩;refine⟨[.k 0,.k 1,.k 2],_,_,_,_,E,?_,rfl,?_⟩
   ·show[V.p (.k 0) 0,V.z H.length (sub (bv H) 0 H.length)]=_;rw[g8 rfl,hH]
   refine⟨_,rfl,_,rfl,?_⟩;refine⟨_,_,?_,.ret (.t (.cons .nl (.cons (.refl _) .nil))),w6.refl _⟩;exact⟨_,rfl,[.k 0,.k 1,.k 2,.k 3],rfl,⟨_,rfl,rfl⟩,⟨_,rfl,rfl⟩,⟨_,rfl,rfl⟩,⟨_,rfl,rfl⟩,tq⟩
abbrev cS (t:Int) (key:Bs) (s:Nat) (mode pad:Int) (back:Bool) (iv M:Bs):MS:=(E5 (cF t key false) (cF t key true) s mode pad back iv M).2
abbrev cT (t:Int) (key:Bs) (s:Nat) (mode pad:Int) (back:Bool) (iv M:Bs):Bs:=(E5 (cF t key false) (cF t key true) s mode pad back iv M).1
abbrev cL (t:Int) (key:Bs) (s:Nat) (mode pad:Int) (back:Bool) (iv M:Bs):Bs:=ek (cF t key false) (cF t key true) s mode pad back iv M
theorem yD {t key s k xs rs} (h:k9 t key s k xs rs) {mode pad:Int} {back:Bool} {iv M:Bs} (ok:D0 s mode pad iv):MK s (j9 mode) (cS t key s mode pad back iv M):=by
 have hs:=h.s_le;have K0:MK s (j9 mode) ⟨iv,[],[]⟩:=MK.new (cB ok).1 (by
  have:=(cB ok).2;by_cases h1:j9 mode=1
  ·exact .inl h1
  ·rw[if_neg h1]at this;exact .inr this)
 exact K0.step h.ci (by omega)
theorem Hn {t key s k xs rs} (h:k9 t key s k xs rs) {mode pad:Int} {back:Bool} {iv M:Bs} (ok:D0 s mode pad iv) (h7:7<=mode):(cL t key s mode pad back iv M).length=s:=by
 have hs:=h.s_le;have hT:=jh (back:=back) (M:=M) h.ci (by omega) ok;obtain⟨f1,f2⟩:=cA (back:=back) (by omega) ok M.length;have lt:(M.take (t5 s mode pad back M.length)).length=t5 s mode pad back M.length:=by rw[Zf];omega
 unfold cL ek L5;rw[lt];by_cases hn:s<=t5 s mode pad back M.length
 ·rw[if_pos ⟨h7,hn⟩,Zh];split
  ·rw[lt];omega
  ·rw[hT];omega
 ·rw[if_neg (fun hh=>hn hh.2)];have:=ok.2.2.2;rw[if_neg (by omega)]at this;exact this
theorem tA {t key s} {mode pad:Int} {back:Bool} {iv:Bs} (hs:0<s) (ok:D0 s mode pad iv):E5 (cF t key false) (cF t key true) s mode pad back iv []=([],⟨iv,[],[]⟩):=by
 unfold E5;rw[Jg,qT]
theorem kn {t key s} {mode pad:Int} {back:Bool} {iv:Bs} (hs:0<s) (ok:D0 s mode pad iv):cS t key s mode pad back iv []=⟨iv,[],[]⟩:=congrArg Prod.snd (tA hs ok)
theorem pi {t key s} {mode pad:Int} {back:Bool} {iv:Bs} (hs:0<s) (ok:D0 s mode pad iv):cL t key s mode pad back iv []=iv:=by
 unfold cL ek L5;rw[Jg,if_neg (by simp;omega)]
theorem pM {s:Nat} {mode pad:Int} {back:Bool}:o8 s mode pad back []=[]:=by unfold o8;rw[List.drop_nil]
theorem ux {t key s k xs rs} (h:k9 t key s k xs rs) {mode pad:Int} {back:Bool} {iv M b:Bs} {m:Nat} {x:HK} (ok:D0 s mode pad iv) (hx:x= .n/\o8 s mode pad back M=[]\/x= .o (o8 s mode pad back M)) (hb:b.length=m) (hL:M.length+m<=100000):
  ∃(n:Nat) (o:Bs),o.length=n/\t5 s mode pad back (M++b).length=t5 s mode pad back M.length+n/\cT t key s mode pad back iv (M++b)=cT t key s mode pad back iv M++o/\
  (a9 C 33 [.p (.k 0) 0,.z m (bv b)] [l9 true t mode pad back k xs iv x (cL t key s mode pad back iv M),j4 (f7 t k xs) (j9 mode) back (cS t key s mode pad back iv M) 2,j6 (cS t key s mode pad back iv M).row (cS t key s mode pad back iv M).gone,x.b]
   (.ret (.t [.z n (bv o),i64 0]))
   [o9 true true t mode pad back (f7 t k xs) (.z iv.length (bv iv)) (.p (.k 1) 0) (.o 1 (.k 5) 0 (o8 s mode pad back (M++b)).length) (.z (cL t key s mode pad back iv (M++b)).length (bv (cL t key s mode pad back iv (M++b)))),
    j4 (f7 t k xs) (j9 mode) back (cS t key s mode pad back iv (M++b)) 4,.dead,.dead,j6 (cS t key s mode pad back iv (M++b)).row (cS t key s mode pad back iv (M++b)).gone,.sc (bv (o8 s mode pad back (M++b)))]\/
   (cS t key s mode pad back iv M).row≠[]/\a9 C 33 [.p (.k 0) 0,.z m (bv b)] [l9 true t mode pad back k xs iv x (cL t key s mode pad back iv M),j4 (f7 t k xs) (j9 mode) back (cS t key s mode pad back iv M) 2,j6 (cS t key s mode pad back iv M).row (cS t key s mode pad back iv M).gone,x.b]
   (.ret (.t [.z n (bv o),i64 0]))
   [o9 true true t mode pad back (f7 t k xs) (.z iv.length (bv iv)) (.p (.k 1) 0) (.o 1 (.k 4) 0 (o8 s mode pad back (M++b)).length) (.z (cL t key s mode pad back iv (M++b)).length (bv (cL t key s mode pad back iv (M++b)))),
    j4 (f7 t k xs) (j9 mode) back (cS t key s mode pad back iv (M++b)) 2,j6 (cS t key s mode pad back iv (M++b)).row (cS t key s mode pad back iv (M++b)).gone,.dead,.sc (bv (o8 s mode pad back (M++b)))]):=by
 have hs:=h.s_le;have K:=yD h (back:=back) (M:=M) ok;have hm9:mode<=9:=ok.1.2;have hxl:x.l=o8 s mode pad back M:=by
  rcases hx with ⟨rfl,e⟩|rfl
  ·exact e.symm
  ·rfl
 have hxo:x= .n\/∃H,x= .o H:=by
  rcases hx with ⟨rfl,e⟩|rfl
  ·exact .inl rfl
  ·exact .inr ⟨_,rfl⟩
 obtain⟨a,ha⟩:∃a,a=t5 s mode pad back ((o8 s mode pad back M).length+b.length):=⟨_,rfl⟩;obtain⟨u1,u2,u3⟩:=Oz (E:=cF t key false) (D:=cF t key true) (iv:=iv) (M:=M) (b:=b) h.ci (by omega) ok ha;have hF:t5 s mode pad back (M++b).length=t5 s mode pad back M.length+a:=by
  rw[Zb,uu (by omega) ok,ha,gF]
 obtain⟨f1,f2⟩:=cA (back:=back) (by omega) ok ((o8 s mode pad back M).length+b.length);rw[<-ha]at f1 f2;have hHl:=gF (n:=s) (mode:=mode) (pad:=pad) (back:=back) M;have l0:((o8 s mode pad back M++b).take a).length=a:=by rw[Zf,Zb];omega
 have lo:(k5 (cF t key false) (cF t key true) s (j9 mode) back (cS t key s mode pad back iv M) ((o8 s mode pad back M++b).take a)).1.length=a:=by
  rw[aB h.ci K.ok (by rw[l0];exact f2),l0]
 have eH:(o8 s mode pad back M).length+m-a=(o8 s mode pad back (M++b)).length:=by rw[<-u3,Zh,Zb,hb]
 refine⟨a,(k5 (cF t key false) (cF t key true) s (j9 mode) back (cS t key s mode pad back iv M) ((o8 s mode pad back M++b).take a)).1,lo,hF,by rw[show cT t key s mode pad back iv (M++b)=(E5 (cF t key false) (cF t key true) s mode pad back iv (M++b)).1 from rfl,u1],?_⟩;have e1:cS t key s mode pad back iv (M++b)=(k5 (cF t key false) (cF t key true) s (j9 mode) back (cS t key s mode pad back iv M) ((o8 s mode pad back M++b).take a)).2:=by
  rw[show cS t key s mode pad back iv (M++b)=(E5 (cF t key false) (cF t key true) s mode pad back iv (M++b)).2 from rfl,u1]
 rw[e1,show cL t key s mode pad back iv (M++b)=ek (cF t key false) (cF t key true) s mode pad back iv (M++b) from rfl,<-u2,<-u3];by_cases hne:0<a\/(cS t key s mode pad back iv M).row=[]
 ·left;have:=IU h (mode:=mode) (pad:=pad) (back:=back) (iv:=iv) (d7:=cL t key s mode pad back iv M) (st:=cS t key s mode pad back iv M) (x:=x) (L:=(o8 s mode pad back M).length+m) (at':=a) hxo hb (by rw[hxl]) (by omega) K hm9 rfl (by rw[ha,hb];rfl) hne;rw[hxl]at this;rw[Zh,Zb,hb];exact this
 ·right;have hrow:(cS t key s mode pad back iv M).row≠[]:=fun hh=>hne (.inr hh);have h3:3<=j9 mode:=by
   have h1:=K.ok.m;rcases Nat.lt_or_ge 0 1 with _|_
   ·by_cases h2:3<=j9 mode
    ·exact h2
    ·exact absurd (K.ok.blk (by omega)) hrow
   ·omega
  have g1:o6 s (j9 mode)=1:=if_neg (by omega);have a0:a=0:=by omega
  have hL0:(o8 s mode pad back M).length+m=0:=by
   have hz:t5 s mode pad back ((o8 s mode pad back M).length+b.length)=(o8 s mode pad back M).length+b.length:=by
    unfold t5 D3 D9;rw[g1,if_pos h3];simp
   rw[<-ha,hb]at hz;omega
  have:=IW h (mode:=mode) (pad:=pad) (back:=back) (iv:=iv) (d7:=cL t key s mode pad back iv M) (st:=cS t key s mode pad back iv M) (x:=x) (L:=(o8 s mode pad back M).length+m) (at':=a) hxo hb (by rw[hxl]) hL0 h3 K hm9 rfl (by rw[ha,hb];rfl);have hHb:o8 s mode pad back M++b=[]:=Ze (by rw[Zb,hb];exact hL0);subst a0;rw[hHb,Jg,qT,List.drop_nil];have eL:L5 s mode back [] [] (cL t key s mode pad back iv M)=cL t key s mode pad back iv M:=by unfold L5;rw[if_neg (by simp;omega)]
  rw[eL];exact⟨hrow,this⟩
abbrev G0 (t mode pad:Int) (back:Bool) (k:Nat) (xs:List V) (iv d7:Bs):B:=o9 true false t mode pad back (f7 t k xs) (.z iv.length (bv iv)) (.p (.k 1) 0) i6 (.z d7.length (bv d7))
theorem IC {t mode pad:Int} {back:Bool} {k:Nat} {xs:List V} {iv d7:Bs}:a9 C 40 [.p (.k 0) 0] [G0 t mode pad back k xs iv d7,.dead] (.ret (i64 0)) [G0 t mode pad back k xs iv d7,.dead]:=by
 refine uN.c ?_;refine⟨_,rfl,?_⟩;exact⟨_,rfl,[.k 0,.k 1],rfl,⟨_,rfl,rfl⟩,⟨_,rfl,rfl⟩,tq⟩
theorem yS {t mode pad:Int} {back:Bool} {k:Nat} {xs:List V} {iv d7:Bs}:a9 C 94 [.p (.k 0) 0] [G0 t mode pad back k xs iv d7,.dead] (.pan (.i Y4 (i64 6))) [G0 t mode pad back k xs iv d7,.dead]:=by
 refine uQ.c ?_;refine⟨_,rfl,?_⟩;refine⟨[],_,_,_,_,kD (e:=6) (by decide),rfl,rfl,?_⟩;exact⟨_,rfl,[.k 0,.k 1],rfl,⟨_,rfl,rfl⟩,⟨_,rfl,rfl⟩,tq⟩
theorem IX {t mode pad:Int} {back:Bool} {k m:Nat} {xs:List V} {iv d7:Bs} {vb:List Value}:a9 C 33 [.p (.k 0) 0,.z m vb] [G0 t mode pad back k xs iv d7,.dead] (.ret (.t [.z 0 [],i64 6])) [G0 t mode pad back k xs iv d7,.dead]:=by
 refine kQ.d Y9 ?_;refine⟨⟨[(0,.p (.k 0) 0),(1,.z m vb),(4,.p (.k 2) 0),(5,.p (.k 3) 0)],[_,_,.sc [.slice none 0 0],.sc [.int .i64 0]]⟩,2,3,by decide,⟨[.k 0,.k 1,.d 4 0,.d 5 0],⟨rfl,rfl,rfl,rfl,tq⟩,⟨_,rfl,rfl⟩,⟨_,rfl,rfl⟩,⟨_,rfl,rfl⟩,⟨_,rfl,rfl⟩,tq⟩,rfl,rfl,rfl,?_⟩;refine⟨0,Unit,fun _=>⟨[],[]⟩,fun _=>False,fun _=>0,?_,fun _ h=>h.elim⟩;refine⟨[.k 0,.k 1],_,_,_,_,yS,rfl,rfl,?_⟩;refine⟨_,rfl,_,rfl,?_⟩;refine⟨_,_,?_,.ret (.t (.cons .nl (.cons (.refl _) .nil))),w6.refl _⟩;exact⟨_,rfl,[.k 0,.k 1],rfl,⟨_,rfl,rfl⟩,⟨_,rfl,rfl⟩,tq⟩
theorem Iu {t mode pad:Int} {back:Bool} {k:Nat} {xs:List V} {iv d7:Bs}:a9 C 34 [.p (.k 0) 0] [G0 t mode pad back k xs iv d7,.dead] (.ret (.t [.z 0 [],i64 6])) [G0 t mode pad back k xs iv d7,.dead]:=by
 refine eC.d Y9 ?_;refine⟨⟨[(0,.p (.k 0) 0),(2,.p (.k 2) 0),(3,.p (.k 3) 0)],[_,_,.sc [.slice none 0 0],.sc [.int .i64 0]]⟩,2,3,by decide,⟨[.k 0,.k 1,.d 2 0,.d 3 0],⟨rfl,rfl,rfl,tq⟩,⟨_,rfl,rfl⟩,⟨_,rfl,rfl⟩,⟨_,rfl,rfl⟩,⟨_,rfl,rfl⟩,tq⟩,rfl,rfl,rfl,?_⟩;refine⟨[.k 0,.k 1],_,_,_,_,yS,rfl,rfl,?_⟩;refine⟨_,rfl,_,rfl,?_⟩;refine⟨_,_,?_,.ret (.t (.cons .nl (.cons (.refl _) .nil))),w6.refl _⟩;exact⟨_,rfl,[.k 0,.k 1],rfl,⟨_,rfl,rfl⟩,⟨_,rfl,rfl⟩,tq⟩
theorem nn {t key s k xs rs} (h:k9 t key s k xs rs) {mode pad:Int} {back:Bool} {iv M:Bs} {x:HK} {r:Bs×Int} (ok:D0 s mode pad iv) (hx:x= .n/\o8 s mode pad back M=[]\/x= .o (o8 s mode pad back M)) (hL:M.length<=100000)
  (hr:r=jg (cF t key false) (cF t key true) s mode pad back (cS t key s mode pad back iv M) (cL t key s mode pad back iv M) (o8 s mode pad back M)):
  r.1.length<=2*s/\∃p6,a9 C 34 [.p (.k 0) 0] [l9 true t mode pad back k xs iv x (cL t key s mode pad back iv M),j4 (f7 t k xs) (j9 mode) back (cS t key s mode pad back iv M) 2,j6 (cS t key s mode pad back iv M).row (cS t key s mode pad back iv M).gone,x.b]
   (.ret (.t [.z r.1.length (bv r.1),i64 r.2])) [G0 t mode pad back k xs iv p6,.dead,.dead,.dead,.dead]:=by
 have hs:=h.s_le;have K:=yD h (back:=back) (M:=M) ok;have hl:=Hn h (back:=back) (M:=M) ok;obtain⟨f1,f2⟩:=cA (back:=back) (by omega) ok M.length;have hHl:=gF (n:=s) (mode:=mode) (pad:=pad) (back:=back) M;obtain⟨g0,g1,g2⟩:=kH (back:=back) (by omega) ok;have hmost:(o8 s mode pad back M).length<=D9 s (j9 mode) mode pad back:=by
  rw[hHl];refine Zk fun hh=> ?_;have:=(bH (most:=D9 s (j9 mode) mode pad back) (L:=M.length) (i:=D3 (o6 s (j9 mode)) (D9 s (j9 mode) mode pad back) M.length) g0).2 (by show _+t5 s mode pad back M.length<_;omega);exact absurd this (Z8 _)
 have hHb:(o8 s mode pad back M).length<=100000:=by omega
 generalize hSt:cS t key s mode pad back iv M=st at*
 generalize hLa:cL t key s mode pad back iv M=d7 at*
 generalize o8 s mode pad back M=H at*
 have hx':x= .n/\H.length=0/\H=[]\/x= .o H/\H.length=H.length:=by
  rcases hx with ⟨e1,e2⟩|e1
  ·exact .inl ⟨e1,by rw[e2];rfl,e2⟩
  ·exact .inr ⟨e1,rfl⟩
 have fT:∀{n} {vr:List Value} {p6 st'},a9 C 98 [.p (.k 0) 0,.z H.length (bv H)] [l9 false t mode pad back k xs iv .n d7,j4 (f7 t k xs) (j9 mode) back st 2,j6 st.row st.gone] (.ret (.z n vr)) [l9 false t mode pad back k xs iv .n p6,j4 (f7 t k xs) (j9 mode) back st' 3,.dead,j6 st'.row st'.gone]->
   ∃p6,a9 C 34 [.p (.k 0) 0] [l9 true t mode pad back k xs iv x d7,j4 (f7 t k xs) (j9 mode) back st 2,j6 st.row st.gone,x.b] (.ret (.t [.z n vr,i64 0])) [G0 t mode pad back k xs iv p6,.dead,.dead,.dead,.dead]:=
  fun E=>⟨_,(Iy (e:=0) hx' E).fg (.keep (.drop (.drop (.drop (.drop .nil)))))⟩
 have fTp:∀{e p6 st'},a9 C 98 [.p (.k 0) 0,.z H.length (bv H)] [l9 false t mode pad back k xs iv .n d7,j4 (f7 t k xs) (j9 mode) back st 2,j6 st.row st.gone] (.pan (.i Y4 (i64 e))) [l9 false t mode pad back k xs iv .n p6,j4 (f7 t k xs) (j9 mode) back st' 3,.dead,j6 st'.row st'.gone]->
   ∃p6,a9 C 34 [.p (.k 0) 0] [l9 true t mode pad back k xs iv x d7,j4 (f7 t k xs) (j9 mode) back st 2,j6 st.row st.gone,x.b] (.ret (.t [.z 0 [],i64 e])) [G0 t mode pad back k xs iv p6,.dead,.dead,.dead,.dead]:=
  fun E=>⟨_,(Ix (n:=0) (vr:=[]) hx' E).fg (.keep (.drop (.drop (.drop (.drop .nil)))))⟩
 have fN:∀{n} {vr:List Value} {p6 st'},a9 C 98 [.p (.k 0) 0,.z H.length (bv H)] [l9 false t mode pad back k xs iv .n d7,j4 (f7 t k xs) (j9 mode) back st 2,j6 st.row st.gone] (.ret (.z n vr)) [l9 false t mode pad back k xs iv .n p6,j4 (f7 t k xs) (j9 mode) back st' 2,j6 st'.row st'.gone]->
   ∃p6,a9 C 34 [.p (.k 0) 0] [l9 true t mode pad back k xs iv x d7,j4 (f7 t k xs) (j9 mode) back st 2,j6 st.row st.gone,x.b] (.ret (.t [.z n vr,i64 0])) [G0 t mode pad back k xs iv p6,.dead,.dead,.dead,.dead]:=
  fun E=>⟨_,(Iw (e:=0) hx' E).fg (.keep (.drop (.drop (.drop (.dd .nil)))))⟩
 have fNp:∀{e p6 st'},a9 C 98 [.p (.k 0) 0,.z H.length (bv H)] [l9 false t mode pad back k xs iv .n d7,j4 (f7 t k xs) (j9 mode) back st 2,j6 st.row st.gone] (.pan (.i Y4 (i64 e))) [l9 false t mode pad back k xs iv .n p6,j4 (f7 t k xs) (j9 mode) back st' 2,j6 st'.row st'.gone]->
   ∃p6,a9 C 34 [.p (.k 0) 0] [l9 true t mode pad back k xs iv x d7,j4 (f7 t k xs) (j9 mode) back st 2,j6 st.row st.gone,x.b] (.ret (.t [.z 0 [],i64 e])) [G0 t mode pad back k xs iv p6,.dead,.dead,.dead,.dead]:=
  fun E=>⟨_,(Iv (n:=0) (vr:=[]) hx' E).fg (.keep (.drop (.drop (.drop (.dd .nil)))))⟩
 unfold jg at hr;by_cases h7:7<=mode
 ·have e2:j9 mode=2:=if_pos h7;have hmo:H.length<=2*s:=by unfold D9 at hmost;rw[e2,if_neg (by decide),if_pos h7]at hmost;exact hmost
  rw[if_pos h7]at hr;by_cases hsm:H.length<s
  ·rw[if_pos hsm]at hr;subst hr;exact⟨Zg _,fNp (Is h (hl h7) rfl ⟨h7,ok.1.2⟩ hsm)⟩
  ·rw[if_neg hsm]at hr;subst hr;have ll:(P2 (cF t key false) (cF t key true) s mode back d7 H).length=H.length:=stT_len h.ci (hl h7) (by omega) hmo;refine⟨by show(P2 (cF t key false) (cF t key true) s mode back d7 H).length<=_;rw[ll];exact hmo,?_⟩;have:=fN (Ir h (pad:=pad) (md:=j9 mode) (back:=back) (iv:=iv) (st:=st) (hl h7) rfl ⟨h7,ok.1.2⟩ (by omega) hmo);rw[<-ll]at this;exact this
 ·have e2:j9 mode=mode:=if_neg h7;rw[if_neg h7]at hr;by_cases h4:pad=4
  ·rw[if_pos h4]at hr;by_cases hz:H.length%o6 s (j9 mode)=0
   ·rw[if_pos hz]at hr;have lo:(k5 (cF t key false) (cF t key true) s (j9 mode) back st H).1.length=H.length:=aB h.ci K.ok hz;have hb2:H.length<=2*s:=by
     unfold D9 at hmost;rw[if_neg h7]at hmost;split at hmost
     ·omega
     ·split at hmost<;>omega
    subst hr;refine⟨by show(k5 (cF t key false) (cF t key true) s (j9 mode) back st H).1.length<=_;rw[lo];exact hb2,?_⟩;by_cases hne:0<H.length\/st.row=[]
    ·have:=fT (Il h (mode:=mode) (pad:=pad) (back:=back) (iv:=iv) (d7:=d7) rfl hHb K (by omega) h4 hz hne);rw[<-lo]at this;rw[lo]at this ⊢;exact this
    ·have hrow:st.row≠[]:=fun hh=>hne (.inr hh);have h3:3<=j9 mode:=by
      have h1:=K.ok.m;by_cases h2:3<=j9 mode
      ·exact h2
      ·exact absurd (K.ok.blk (by omega)) hrow
     have h0:H.length=0:=by omega
     have:=fN (Im h (H:=H) (mode:=mode) (pad:=pad) (back:=back) (iv:=iv) (d7:=d7) (st:=st) h0 h3 (by omega) h4);obtain rfl:=Ze h0;rw[qT];exact this
   ·rw[if_neg hz]at hr;subst hr;exact⟨Zg _,fNp (Ip h K (by omega) h4 hz)⟩
  ·have hm2:mode<=2:=ok.2.2.1.resolve_left h4;have hp:pad=1\/pad=2\/pad=3:=by have:=ok.2.1;omega
   have gn:o6 s (j9 mode)=s:=if_pos (by have:=ok.1;omega);rw[if_neg h4]at hr;have hmo:H.length<=(if back=true then s else s-1):=by
    unfold D9 at hmost;rw[if_neg (by omega),if_neg h7]at hmost;cases back
    ·rw[if_neg (by simp)]at hmost;exact hmost
    ·rw[if_pos ⟨h4,rfl⟩]at hmost;exact hmost
   cases back
   ·rw[if_pos rfl]at hr;rw[if_neg (by decide)]at hmo;have lp:(L8 pad s H).length=s:=mf (by omega);have lo:(k5 (cF t key false) (cF t key true) s (j9 mode) false st (L8 pad s H)).1.length=s:=by rw[aB h.ci K.ok (by rw[lp,gn,Zl]),lp]
    subst hr;refine⟨by show(k5 (cF t key false) (cF t key true) s (j9 mode) false st (L8 pad s H)).1.length<=_;rw[lo];omega,?_⟩;have:=fT (Iq h (m:=H.length) (mode:=mode) (pad:=pad) (back:=false) (iv:=iv) (d7:=d7) rfl rfl (by omega) K (by omega) hp gn);rw[<-lo]at this;rw[lo]at this ⊢;exact this
   ·rw[if_neg (by decide)]at hr;by_cases hsz:H.length=s
    ·rw[if_pos hsz]at hr;have lo:(k5 (cF t key false) (cF t key true) s (j9 mode) true st H).1.length=s:=by rw[aB h.ci K.ok (by rw[hsz,gn,Zl]),hsz]
     by_cases h0:A3 pad (k5 (cF t key false) (cF t key true) s (j9 mode) true st H).1=0
     ·rw[if_pos h0]at hr;subst hr;have:=Ii h (m:=0) (mode:=mode) (pad:=pad) (back:=true) (iv:=iv) (d7:=d7) rfl hsz K (by omega) hp gn h0;exact⟨Zg _,fTp (by rw[hsz];exact this)⟩
     ·rw[if_neg h0]at hr;subst hr;have ls:(V7 pad (k5 (cF t key false) (cF t key true) s (j9 mode) true st H).1).length=s-A3 pad (k5 (cF t key false) (cF t key true) s (j9 mode) true st H).1:=by
       unfold V7;rw[Zf,lo];omega
      refine⟨by show(V7 pad (k5 (cF t key false) (cF t key true) s (j9 mode) true st H).1).length<=_;rw[ls];omega,?_⟩;have:=Ij h (m:=0) (mode:=mode) (pad:=pad) (back:=true) (iv:=iv) (d7:=d7) rfl hsz K (by omega) hp gn h0;rw[<-ls]at this;exact fT (by rw[hsz];exact this)
    ·rw[if_neg hsz]at hr;subst hr;exact⟨Zg _,fNp (Ih h rfl rfl hHb hsz (by omega) hp)⟩
theorem Gl {ps:List (Bs)} {i:Nat} (h:i<ps.length):(ps.map zc)[((i:Nat):Int).toNat]? =some (.z ps[i].length (bv ps[i])):=by
 rw[Zd,List.getElem?_map,Zp h];rfl
def B3 (ps:List (Bs)) (i:Nat):Bs:=(ps.take i).flatten
theorem uj {ps:List (Bs)} {i:Nat} (h:i<ps.length):B3 ps (i+1)=B3 ps i++ps[i]:=by
 unfold B3;rw[List.take_succ_eq_append_getElem h,List.flatten_append,List.flatten_singleton]
theorem NK (ps:List (Bs)):B3 ps ps.length=ps.flatten:=by unfold B3;rw[Z9]
theorem zY (ps:List (Bs)) (i:Nat):(B3 ps i).length<=ps.flatten.length:=by
 have:ps.flatten=B3 ps i++(ps.drop i).flatten:=by unfold B3;rw[<-List.flatten_append,Zn]
 rw[this,Zb];omega
theorem sK {m:Nat} {s:S} {d d':D} (e:d=d') (h:Mt m s d'):Mt m s d:=e▸h
theorem Yb {t key s k xs rs} (h:k9 t key s k xs rs) {mode pad:Int} {back:Bool} {m:Nat} {iv msg:Bs} (ok:D0 s mode pad iv) (hmm:msg.length=m) (hmb:m<=100000):
  a9 C 48 [D2 t mode pad back,.z key.length (bv key),.z iv.length (bv iv),.z m (bv msg)] [] (.ret (bV (aI (cF t key false) (cF t key true) s mode pad back iv msg))) []:=by
 have hs:=h.s_le;have hci:=h.ci;obtain⟨o1,o2,o3,o4⟩:=ok;have ok:D0 s mode pad iv:=⟨o1,o2,o3,o4⟩;by_cases hm7:7<=mode
 ·have e0:aI (cF t key false) (cF t key true) s mode pad back iv msg=aJ (cF t key false) (cF t key true) s mode back iv msg:=by unfold aI;rw[if_pos hm7]
  by_cases hms:s<=m
  ·have hi:iv.length=s:=by rw[o4,if_neg (by omega)]
   have e1:aJ (cF t key false) (cF t key true) s mode back iv msg=((aJ (cF t key false) (cF t key true) s mode back iv msg).1,0):=by
    refine Prod.ext rfl ?_;unfold aJ;rw[if_neg (by omega)]
   have hl:(aJ (cF t key false) (cF t key true) s mode back iv msg).1.length=m:=by rw[a0G hci (by omega) hi (by omega),hmm]
   exact rk (e0.trans e1) hl (MG h rfl rfl rfl ok hmm hmb hm7 hms)
  ·have e1:aJ (cF t key false) (cF t key true) s mode back iv msg=([],7):=by unfold aJ;rw[if_pos (by omega)]
   exact ou (e0.trans e1) (MH h rfl ok hm7 (by omega))
 ·have hm6:1<=mode/\mode<=6:=by omega
  have K0:MK s mode ⟨iv,[],[]⟩:=MK.new hm6 (by
   by_cases h1:mode=1
   ·exact .inl h1
   ·rw[if_neg h1]at o4;exact .inr o4)
  by_cases hp4:pad=4
  ·subst hp4;have e0:aI (cF t key false) (cF t key true) s mode 4 back iv msg=if msg.length%o6 s mode=0 then ((k5 (cF t key false) (cF t key true) s mode back ⟨iv,[],[]⟩ msg).1,0)else ([],7):=by unfold aI;rw[if_neg hm7,if_pos rfl]
   by_cases hg:m%o6 s mode=0
   ·rw[hmm,if_pos hg]at e0;have hl:(k5 (cF t key false) (cF t key true) s mode back ⟨iv,[],[]⟩ msg).1.length=m:=by rw[aB hci K0.ok (by rw[hmm];exact hg),hmm]
    exact rk e0 hl (ME h rfl rfl rfl o4 hmm hmb hm6 hg)
   ·rw[hmm,if_neg hg]at e0;exact ou e0 (MB h rfl rfl rfl o4 hmm hmb hm6 hg)
  ·have hm2:1<=mode/\mode<=2:=by omega
   have hp3:pad=1\/pad=2\/pad=3:=by omega
   cases back
   ·have e0:aI (cF t key false) (cF t key true) s mode pad false iv msg=((k5 (cF t key false) (cF t key true) s mode false ⟨iv,[],[]⟩ (am pad s msg)).1,0):=by unfold aI;rw[if_neg hm7,if_neg hp4,if_pos rfl]
    have lU:(am pad s msg).length=m/s*s+s:=by rw[WS (by omega),hmm]
    have hg:(am pad s msg).length%o6 s mode=0:=by
     rw[lU];unfold o6;rw[if_pos (by omega),Nat.add_mod_right,Nat.mul_mod_left]
    have hl:(k5 (cF t key false) (cF t key true) s mode false ⟨iv,[],[]⟩ (am pad s msg)).1.length=m/s*s+s:=by rw[aB hci K0.ok hg,lU]
    exact rk e0 hl (MF h rfl rfl rfl o4 hmm hmb hm2 hp3)
   ·by_cases h0:m=0\/m%s≠0
    ·have e0:aI (cF t key false) (cF t key true) s mode pad true iv msg=([],7):=by unfold aI;rw[if_neg hm7,if_neg hp4,if_neg (by decide),hmm,if_pos h0]
     exact ou e0 (Mz h rfl rfl rfl o4 hmm hmb hm2 hp3 h0)
    ·have hpos:0<m:=by omega
     have hz:m%s=0:=Classical.byContradiction fun x=>h0 (.inr x);have hsm:s<=m:=Jf hpos (Zm hz);have e:(k5 (cF t key false) (cF t key true) s mode true ⟨iv,[],[]⟩ msg).1=(t4 (cF t key false) (cF t key true) mode true s msg iv (m/s)).1:=by
      unfold k5;rw[if_pos (by omega),hmm]
     have hg:m%o6 s mode=0:=by unfold o6;rw[if_pos (by omega)];exact hz
     have lo:(k5 (cF t key false) (cF t key true) s mode true ⟨iv,[],[]⟩ msg).1.length=m:=by rw[aB hci K0.ok (by rw[hmm];exact hg),hmm]
     have e0:aI (cF t key false) (cF t key true) s mode pad true iv msg=if A3 pad ((k5 (cF t key false) (cF t key true) s mode true ⟨iv,[],[]⟩ msg).1.drop (m-s))=0 then ([],8)else ((k5 (cF t key false) (cF t key true) s mode true ⟨iv,[],[]⟩ msg).1.take (m-s)++V7 pad ((k5 (cF t key false) (cF t key true) s mode true ⟨iv,[],[]⟩ msg).1.drop (m-s)),0):=by
      unfold aI;rw[if_neg hm7,if_neg hp4,if_neg (by decide),hmm,if_neg h0];simp only[lo]
     by_cases hL:A3 pad ((k5 (cF t key false) (cF t key true) s mode true ⟨iv,[],[]⟩ msg).1.drop (m-s))=0
     ·rw[if_pos hL]at e0;exact ou e0 (MA h rfl rfl rfl o4 hmm hmb hm2 hp3 hpos hz (e▸hL))
     ·rw[if_neg hL]at e0;have Q:=MC h (vk:=bv key) (vi:=bv iv) (vm:=bv msg) rfl rfl rfl o4 hmm hmb hm2 hp3 hpos hz (e▸hL);rw[<-e]at Q;have hle:=rq pad ((k5 (cF t key false) (cF t key true) s mode true ⟨iv,[],[]⟩ msg).1.drop (m-s));refine rk e0 ?_ Q;all_goals
       rw[Zb];unfold V7;rw[Zf,Zf,Zh,lo];rw[Zh,lo]at hle;omega
theorem My {t key s k xs rs} (h:k9 t key s k xs rs) {mode pad:Int} {back:Bool} {lk li m:Nat} {iv msg:Bs} {vk vi vm:List Value} (hvk:vk=bv key) (hvi:vi=bv iv) (hvm:vm=bv msg) (hk:key.length=lk) (hi:iv.length=li) (hm:msg.length=m) (hmb:m<=100000) (ok:D0 s mode pad iv):
  a9 C 48 [D2 t mode pad back,.z lk vk,.z li vi,.z m vm] [] (.ret (bV (aI (cF t key false) (cF t key true) s mode pad back iv msg))) []:=by
 subst hvk;subst hvi;subst hvm;subst hk;subst hi;exact Yb h ok hm hmb
theorem IM {t mode pad:Int} {back:Bool} {k:Nat} {xs:List V} {iv d7:Bs} (hm:mode<=9):a9 C 158 [.p (.k 0) 0] [G0 t mode pad back k xs iv d7,.dead] (.ret (bool (decide (7<=mode)))) [G0 t mode pad back k xs iv d7,.dead]:=by
 refine nF.c ?_;refine⟨_,rfl,?_⟩;refine d9 (fun h7=> ?_) (fun h7=> ?_)
 ·refine⟨_,rfl,?_⟩;refine⟨_,rfl,[.k 0,.k 1],?_,⟨_,rfl,rfl⟩,⟨_,rfl,rfl⟩,tq⟩;exact congrArg bool (by rw[decide_eq_true hm,decide_eq_true h7])
 ·refine⟨_,rfl,[.k 0,.k 1],?_,⟨_,rfl,rfl⟩,⟨_,rfl,rfl⟩,tq⟩;exact congrArg bool (by rw[decide_eq_false h7])
theorem yN {t key s k xs rs} (h:k9 t key s k xs rs) {mode pad:Int} {back:Bool} {iv G7:Bs} (ok:D0 s mode pad iv):
  a9 C 91 [.p (.k 0) 0] [G0 t mode pad back k xs iv G7,.dead] (.ret (.t []))
   [o9 true true t mode pad back (f7 t k xs) (.z iv.length (bv iv)) (.p (.k 2) 0) i6 (.z iv.length (bv iv)),.dead,j4 (f7 t k xs) (j9 mode) back ⟨iv,[],[]⟩ 3,.dead,.dead]:=by
 have hs:=h.s_le;obtain⟨m1,hiv⟩:=cB ok;have T0:=tV h (mode:=j9 mode) (back:=back) (i:=1) (vi:=bv iv) (iv:=iv) rfl rfl m1 hiv;have hl16:iv.length<=16:=by rw[hiv];split<;>omega
 have S:=IM (t:=t) (mode:=mode) (pad:=pad) (back:=back) (k:=k) (xs:=xs) (iv:=iv) (d7:=G7) ok.1.2;refine uP.c ?_;refine⟨_,rfl,?_⟩;refine⟨[.k 0,.k 1],_,_,_,_,S,rfl,rfl,?_⟩;refine d9 (fun h7=> ?_) (fun h7=> ?_);all_goals
  first
   |rw[show j9 mode=2 from if_pos h7]at T0 ⊢
   |rw[show j9 mode=mode from if_neg h7]at T0 ⊢
  refine⟨_,rfl,?_⟩;refine⟨_,rfl,?_⟩;refine⟨_,rfl,?_⟩;refine⟨[],_,_,_,_,T0,rfl,rfl,?_⟩;refine⟨Za rfl,?_⟩;refine⟨_,rfl,?_⟩;refine⟨[],_,_,_,_,W6 (l:=iv) rfl rfl (by omega),rfl,rfl,?_⟩;refine⟨Za rfl,?_⟩;refine⟨Za rfl,?_⟩;refine⟨Za rfl,?_⟩;exact⟨_,rfl,[.k 0,.k 1,.d 26 0,.d 26 1,.d 26 2],rfl,⟨_,rfl,rfl⟩,⟨_,rfl,rfl⟩,⟨_,rfl,rfl⟩,⟨_,rfl,rfl⟩,⟨_,rfl,rfl⟩,tq⟩
theorem IJ {t key s k xs rs} (h:k9 t key s k xs rs) {mode pad:Int} {back:Bool} {iv G7:Bs} (ok:D0 s mode pad iv):
  a9 C 35 [.p (.k 0) 0] [G0 t mode pad back k xs iv G7,.dead] (.ret (i64 0))
   [o9 true true t mode pad back (f7 t k xs) (.z iv.length (bv iv)) (.p (.k 2) 0) i6 (.z iv.length (bv iv)),.dead,j4 (f7 t k xs) (j9 mode) back ⟨iv,[],[]⟩ 3,.dead,.dead]:=by
 refine uO.c ?_;refine⟨_,rfl,?_⟩;refine⟨[.k 0,.k 1],_,_,_,_,yN h ok,rfl,rfl,?_⟩;exact⟨_,rfl,[.k 0,.k 1,.d 9 2,.d 9 3,.d 9 4],rfl,⟨_,rfl,rfl⟩,⟨_,rfl,rfl⟩,⟨_,rfl,rfl⟩,⟨_,rfl,rfl⟩,⟨_,rfl,rfl⟩,tq⟩
theorem uw {n:Nat} {mode pad:Int} {iv:Bs} {back:Bool} (hn:0<n) (ok:D0 n mode pad iv) (L:Nat):
  L-t5 n mode pad back L<=D9 n (j9 mode) mode pad back/\(t5 n mode pad back L=0\/D9 n (j9 mode) mode pad back+1<=L-t5 n mode pad back L+o6 n (j9 mode)):=by
 obtain⟨g0,g1,g2⟩:=kH (back:=back) hn ok;obtain⟨f1,f2⟩:=cA (back:=back) hn ok L;unfold t5 at*
 generalize o6 n (j9 mode)=g at*
 generalize D9 n (j9 mode) mode pad back=mo at*
 refine⟨Zk fun hh=> ?_,?_⟩
 ·have:=(bH (most:=mo) (L:=L) (i:=D3 g mo L) g0).2 (by omega);exact absurd this (Z8 _)
 ·by_cases h:D3 g mo L=0
  ·exact .inl (by rw[h,Ji])
  ·obtain⟨k,hk⟩:∃k,D3 g mo L=k+1:=⟨D3 g mo L-1,by omega⟩;have:=(bH (most:=mo) (L:=L) (i:=k) g0).1 (by omega);rw[hk,Zu]at*
   exact .inr (by omega)
theorem Vg {s L m L' F F' n mo g:Nat} (hL:L'=L+m) (hF:F'=F+n) (f1:F<=L) (f1':F'<=L') (h1:L-F<=mo) (h2:F'=0\/mo+1<=L'-F'+g) (hg:g<=s):
  n<=m+s/\¬(((L'-F':Nat):Int)<(if (mo:Int)-s+1<(L':Int)then (mo:Int)-s+1 else (L':Int))):=by
 refine⟨by omega,?_⟩;split<;>omega
structure Cf where
 t:Int
 mode:Int
 pad:Int
 back:Bool
 key:Bs
 iv:Bs
inductive CX where
 |nw
 |op (c:Cf) (m:Option (Bs))
 |cl (c:Cf)
structure Cl where
 kind:Int
 c:Cf
 inp:Bs
structure To where
 out:Bs
 e:Int
 held:Nat
noncomputable def Cf.s (c:Cf):Nat:=(q9 c.t).toNat
noncomputable def Cf.err (c:Cf):Int:=C6 c.t c.mode c.pad c.s c.key.length c.iv.length
noncomputable def nm (t:Int) (key:Bs):Nat×List V:=open Classical in if h:∃p:Nat×List V,∃rs,k9 t key (q9 t).toNat p.1 p.2 rs then Classical.choose h else (0,[])
theorem NO {t:Int} {key:Bs} {s k:Nat} {xs rs:List V} (h:k9 t key s k xs rs):∃rs,k9 t key (q9 t).toNat (nm t key).1 (nm t key).2 rs:=by
 have h0:∃p:Nat×List V,∃rs,k9 t key (q9 t).toNat p.1 p.2 rs:=⟨(k,xs),rs,by rw[h.hs];exact h⟩;unfold nm;rw[dif_pos h0];exact Classical.choose_spec h0
noncomputable abbrev Cf.k (c:Cf):Nat:=(nm c.t c.key).1
noncomputable abbrev Cf.xs (c:Cf):List V:=(nm c.t c.key).2
noncomputable abbrev Cf.S (c:Cf) (M:Bs):MS:=cS c.t c.key c.s c.mode c.pad c.back c.iv M
noncomputable abbrev Cf.L (c:Cf) (M:Bs):Bs:=cL c.t c.key c.s c.mode c.pad c.back c.iv M
noncomputable abbrev Cf.T (c:Cf) (M:Bs):Bs:=cT c.t c.key c.s c.mode c.pad c.back c.iv M
noncomputable abbrev Cf.H (c:Cf) (M:Bs):Bs:=o8 c.s c.mode c.pad c.back M
noncomputable abbrev Cf.fin (c:Cf) (M:Bs):Bs×Int:=jg (cF c.t c.key false) (cF c.t c.key true) c.s c.mode c.pad c.back (c.S M) (c.L M) (c.H M)
theorem Cf.ok {c:Cf} (h:c.err=0) (hk:c.key.length<=1000):(∃rs,k9 c.t c.key c.s c.k c.xs rs)/\D0 c.s c.mode c.pad c.iv:=by
 rcases wE c.t (key:=c.key) rfl hk c.mode c.pad c.back (iv:=c.iv) rfl with ⟨e,s,k,xs,rs,h,ok⟩|⟨he,P,Q⟩
 ·refine⟨NO h,?_⟩;have hs:c.s=s:=by unfold Cf.s;rw[h.hs];rfl
  rw[hs];exact ok
 ·exact absurd h he
noncomputable def rJ:CX->Nat
 | .op c (some M)=>(c.H M).length
 |_=>0
noncomputable def F8 (σ:CX) (x:Cl):CX:=open Classical in
 if x.kind=1 then (if x.c.err=0 then .op x.c none else σ)
 else if x.kind=2 then (match σ with
  | .op c m=> .op c (some (m.getD []++x.inp))
  |σ=>σ)
 else if x.kind=3 then (match σ with
  | .op c _=> .cl c
  |σ=>σ)
 else if x.kind=4 then (match σ with
  | .nw=> .nw
  | .op c _=> .op c none
  | .cl c=> .op c none)
 else σ
noncomputable def C5 (σ:CX) (x:Cl):Bs×Int:=
 if x.kind=1 then ([],x.c.err)
 else if x.kind=2 then (match σ with
  | .op c m=>((c.T (m.getD []++x.inp)).drop (c.T (m.getD [])).length,0)
  |_=>([],6))
 else if x.kind=3 then (match σ with
  | .op c m=>c.fin (m.getD [])
  |_=>([],6))
 else if x.kind=4 then (match σ with
  | .nw=>([],6)
  |_=>([],0))
 else ([],1)
noncomputable def X9 (σ:CX) (x:Cl):To:=⟨(C5 σ x).1,(C5 σ x).2,rJ (F8 σ x)⟩
noncomputable def Q9:CX->List Cl->List To
 |_,[]=>[]
 |σ,x::l=>X9 σ x::Q9 (F8 σ x) l
noncomputable def X8 (σ:CX) (l:List Cl):CX:=l.foldl F8 σ
theorem DF:∀(l:List Cl) (σ:CX),(Q9 σ l).length=l.length
 |[],_=>rfl
 |x::l,σ=>congrArg (· +1) (DF l _)
theorem DE:∀(l m:List Cl) (σ:CX),Q9 σ (l++m)=Q9 σ l++Q9 (X8 σ l) m
 |[],_,_=>rfl
 |x::l,m,σ=>congrArg (X9 σ x:: ·) (DE l m _)
def gq (n:Nat):CX->Prop
 | .nw=>True
 | .op c m=>c.err=0/\c.key.length<=1000/\(m.getD []).length<=n
 | .cl c=>c.err=0/\c.key.length<=1000
def iL (x:Cl):Prop:=(-9223372036854775808<=x.kind/\x.kind<=9223372036854775807)/\x.c.key.length<=1000/\x.c.iv.length<=1000/\x.inp.length<=1000
theorem gq.next {n:Nat} {σ:CX} {x:Cl} (h:gq n σ) (hx:iL x):gq (n+x.inp.length) (F8 σ x):=by
 have up:gq (n+x.inp.length) σ:=by
  cases σ with
  |nw=>trivial
  |op c m=>exact⟨h.1,h.2.1,Zi h.2.2 (by omega)⟩
  |cl c=>exact h
 unfold F8;by_cases h1:x.kind=1
 ·rw[if_pos h1];by_cases he:x.c.err=0
  ·rw[if_pos he];exact⟨he,hx.2.1,Zg _⟩
  ·rw[if_neg he];exact up
 ·rw[if_neg h1];by_cases h2:x.kind=2
  ·rw[if_pos h2];cases σ with
   |nw=>trivial
   |op c m=>exact⟨h.1,h.2.1,by show(m.getD []++x.inp).length<=_;rw[Zb];have:=h.2.2;omega⟩
   |cl c=>exact h
  ·rw[if_neg h2];by_cases h3:x.kind=3
   ·rw[if_pos h3];cases σ with
    |nw=>trivial
    |op c m=>exact⟨h.1,h.2.1⟩
    |cl c=>exact h
   ·rw[if_neg h3];by_cases h4:x.kind=4
    ·rw[if_pos h4];cases σ with
     |nw=>trivial
     |op c m=>exact⟨h.1,h.2.1,Zg _⟩
     |cl c=>exact⟨h.1,h.2,Zg _⟩
    ·rw[if_neg h4];exact up
theorem IE {t key s k xs rs} (h:k9 t key s k xs rs) {mode pad:Int} {back:Bool} {lk li:Nat} {iv:Bs} {t0 mode0 pad0:Int} {I4:Bool} {k0:Nat} {xs0:List V} {iv0 G7:Bs} (hk:key.length=lk) (hlk:lk<=1000) (hi:iv.length=li) (ok:D0 s mode pad iv):
  a9 C 30 [.p (.k 0) 0,D2 t mode pad back,.z lk (bv key),.z li (bv iv)] [G0 t0 mode0 pad0 I4 k0 xs0 iv0 G7,.dead] (.ret (i64 0))
   [o9 true true t mode pad back (f7 t k xs) (.z iv.length (bv iv)) (.p (.k 2) 0) i6 (.z iv.length (bv iv)),.dead,j4 (f7 t k xs) (j9 mode) back ⟨iv,[],[]⟩ 3,.dead,.dead]:=by
 have hs:=h.s_le;obtain⟨m1,hiv⟩:=cB ok;have hl16:iv.length<=16:=by rw[hiv];split<;>omega
 have CK:=(kG t hk hlk mode pad back hi).1;rw[wD h hk hi ok]at CK;subst hi;have BG:=yN h (back:=back) (G7:=G7) ok;refine kP.c ?_;refine⟨[i64 t,i64 mode,i64 pad,bool back],rfl,rfl,?_⟩;refine⟨[],_,_,_,_,CK,rfl,rfl,?_⟩;refine⟨_,rfl,?_⟩;refine⟨[],_,_,_,_,h.new' (n:=lk) hk rfl,rfl,rfl,?_⟩;refine⟨Za rfl,?_⟩;refine⟨[i64 t,i64 mode,i64 pad,bool back],rfl,rfl,?_⟩;refine⟨[],_,_,_,_,W6 (l:=iv) rfl rfl (by omega),rfl,rfl,?_⟩;refine⟨Za rfl,?_⟩;refine⟨Za rfl,?_⟩;refine⟨Za rfl,?_⟩;refine⟨[.k 0,.k 1],_,_,_,_,BG,rfl,rfl,?_⟩;exact⟨_,rfl,[.k 0,.k 1,.d 40 2,.d 40 3,.d 40 4],rfl,⟨_,rfl,rfl⟩,⟨_,rfl,rfl⟩,⟨_,rfl,rfl⟩,⟨_,rfl,rfl⟩,⟨_,rfl,rfl⟩,tq⟩
theorem IG {t mode pad:Int} {back:Bool} {lk li:Nat} {key iv:Bs} {t0 mode0 pad0:Int} {I4:Bool} {k0:Nat} {xs0:List V} {iv0 G7:Bs} (hk:key.length=lk) (hlk:lk<=1000) (hi:iv.length=li) (he:C6 t mode pad (q9 t).toNat lk li≠0):
  a9 C 30 [.p (.k 0) 0,D2 t mode pad back,.z lk (bv key),.z li (bv iv)] [G0 t0 mode0 pad0 I4 k0 xs0 iv0 G7,.dead] (.ret (i64 (C6 t mode pad (q9 t).toNat lk li))) [G0 t0 mode0 pad0 I4 k0 xs0 iv0 G7,.dead]:=by
 have CK:=(kG t hk hlk mode pad back hi).1;generalize C6 t mode pad (q9 t).toNat lk li=e at*
 refine kP.c ?_;refine⟨[i64 t,i64 mode,i64 pad,bool back],rfl,rfl,?_⟩;refine⟨[],_,_,_,_,CK,rfl,rfl,?_⟩;refine n7 (fun _=> ?_) (fun hh=>absurd hh he);exact⟨_,rfl,[.k 0,.k 1],rfl,⟨_,rfl,rfl⟩,⟨_,rfl,rfl⟩,tq⟩
abbrev Ak (t mode pad:Int) (back:Bool) (k:Nat) (xs:List V) (iv d7:Bs) (j:Nat):B:=o9 true false t mode pad back (f7 t k xs) (.z iv.length (bv iv)) (.p (.k j) 0) i6 (.z d7.length (bv d7))
def HK.w (x:HK) (j:Nat):V:=match x with
 | .n=>i6
 | .o H=> .o 1 (.k j) 0 H.length
 | .f H=> .z H.length (bv H)
def tB (o:Option (Nat×List Value)) (e:Int) (h:Int):B:=match o with
 |none=> .mx [i6,i64 e,i64 h]
 |some p=> .mx [.z p.1 p.2,i64 e,i64 h]
theorem np {o e h0}:iM C 160 [.p (.k 0) 0,.p (.k 1) 0] [.mx [.p (.k 2) 0],tB o e h0,o9 false false 0 0 0 false j7 i6 j7 i6 i6] (.ret (.t [])) [.mx [.p (.k 2) 0],tB o e 0,o9 false false 0 0 0 false j7 i6 j7 i6 i6]:=by
 rcases o with _|⟨n,vs⟩;all_goals
  refine uZ.e ?_;refine⟨_,rfl,?_⟩;refine⟨[.k 2],_,_,_,_,IB,rfl,rfl,?_⟩;refine⟨Za rfl,?_⟩;exact⟨_,rfl,[.k 0,.k 1,.k 2],rfl,⟨_,rfl,rfl⟩,⟨_,rfl,rfl⟩,⟨_,rfl,rfl⟩,tq⟩
theorem nq {o e h0} {t mode pad:Int} {back:Bool} {k:Nat} {xs:List V} {iv d7:Bs}:iM C 160 [.p (.k 0) 0,.p (.k 1) 0] [.mx [.p (.k 2) 0],tB o e h0,Ak t mode pad back k xs iv d7 3,.dead] (.ret (.t [])) [.mx [.p (.k 2) 0],tB o e 0,Ak t mode pad back k xs iv d7 3,.dead]:=by
 rcases o with _|⟨n,vs⟩;all_goals
  refine uZ.e ?_;refine⟨_,rfl,?_⟩;refine⟨[.k 2,.k 3],_,_,_,_,IC (d7:=d7),rfl,rfl,?_⟩;refine⟨Za rfl,?_⟩;exact⟨_,rfl,[.k 0,.k 1,.k 2,.k 3],rfl,⟨_,rfl,rfl⟩,⟨_,rfl,rfl⟩,⟨_,rfl,rfl⟩,⟨_,rfl,rfl⟩,tq⟩
theorem bI {o e h0} {t mode pad:Int} {back:Bool} {k:Nat} {xs:List V} {iv d7:Bs} {st:MS} {x:HK}:iM C 160 [.p (.k 0) 0,.p (.k 1) 0]
  [.mx [.p (.k 2) 0],tB o e h0,o9 true true t mode pad back (f7 t k xs) (.z iv.length (bv iv)) (.p (.k 3) 0) (x.w 5) (.z d7.length (bv d7)),j4 (f7 t k xs) (j9 mode) back st 4,j6 st.row st.gone,x.b] (.ret (.t []))
  [.mx [.p (.k 2) 0],tB o e x.l.length,o9 true true t mode pad back (f7 t k xs) (.z iv.length (bv iv)) (.p (.k 3) 0) (x.w 5) (.z d7.length (bv d7)),j4 (f7 t k xs) (j9 mode) back st 4,j6 st.row st.gone,x.b]:=by
 have H:=fun st x=>IA (t:=t) (mode:=mode) (pad:=pad) (md:=j9 mode) (op:=true) (back:=back) (k:=k) (xs:=xs) (iv:=iv) (d7:=d7) (st:=st) (x:=x);obtain⟨ch,row,g⟩:=st;rcases row with _|⟨a,r⟩<;>rcases x with _|H'|H'<;>rcases o with _|⟨n,vs⟩;all_goals
  refine uZ.e ?_;refine⟨_,rfl,?_⟩;first
   |refine⟨[.k 2,.k 3,.k 4,.k 5],_,_,_,_,H _ .n,rfl,rfl,?_⟩
   |refine⟨[.k 2,.k 3,.k 4,.k 5],_,_,_,_,H _ (.o H'),rfl,rfl,?_⟩
   |refine⟨[.k 2,.k 3,.k 4,.k 5],_,_,_,_,H _ (.f H'),rfl,rfl,?_⟩
  refine⟨Za rfl,?_⟩;exact⟨_,rfl,[.k 0,.k 1,.k 2,.k 3,.k 4,.k 5],rfl,⟨_,rfl,rfl⟩,⟨_,rfl,rfl⟩,⟨_,rfl,rfl⟩,⟨_,rfl,rfl⟩,⟨_,rfl,rfl⟩,⟨_,rfl,rfl⟩,tq⟩
theorem a9.wka {C:m6} {f:Nat} {args xs ys:List V} {bs bs':List B} (h:a9 C f args bs (.ret (.a xs)) bs') (hw:aS xs ys):a9 C f args bs (.ret (.a ys)) bs':=
 ⟨h.1,fun w F ι vs st hgl hdm hl=>Calls.mono (h.2 w F ι vs st hgl hdm hl) fun e w' ⟨F',ι',h1,h2,h3,h4,h5,h6⟩=>⟨F',ι',h1,h2,h3,h4,h5,by
  obtain⟨x,he,hR⟩:=h6;refine⟨x,he,?_⟩;cases hR with
  |fz h=>cases h with|a hl=>exact .fz (.a (hw.rf hl))
  |a hl=>exact .a (hw.r hl)⟩⟩
theorem Wu {kind:Int} {t' s3 t6:Int} {w5:Bool} {lk' li' lb':Nat} {vk' vi' vb':List Value} (k1:kind≠1) (k2:kind≠2) (k3:kind≠3) (k4:kind≠4):
  a9 C 104 [.p (.k 0) 0,.a [i64 kind,i64 t',i64 s3,i64 t6,bool w5,.z lk' vk',.z li' vi',.z lb' vb']] [o9 false false 0 0 0 false j7 i6 j7 i6 i6,.dead,.dead,.dead] (.ret (.a [.z 0 [],i64 1,i64 0])) [o9 false false 0 0 0 false j7 i6 j7 i6 i6,.dead,.dead,.dead]:=by
 refine a9.wka (T6.p ?_) (.cons .nl (.cons (.refl _) (.cons (.refl _) .nil)));refine⟨⟨[(2,.p (.k 4) 0),(3,.p (.k 5) 0),(4,.p (.k 6) 0),(5,.f (.func 160) [] [.p (.k 4) 0,.p (.k 6) 0])],[_,_,_,_,_,_,_]⟩,⟨[.k 0,.k 1,.k 2,.k 3,.d 2 0,.d 3 0,.d 4 0],⟨rfl,rfl,rfl,rfl,tq⟩,⟨_,rfl,rfl⟩,⟨_,rfl,rfl⟩,⟨_,rfl,rfl⟩,⟨_,rfl,rfl⟩,⟨_,rfl,rfl⟩,⟨_,rfl,rfl⟩,⟨_,rfl,rfl⟩,tq⟩,_,_,rfl,rfl,?_⟩;refine⟨_,rfl,?_⟩;refine j5 (fun hh=>absurd hh k1) (fun _=> ?_);refine j5 (fun hh=>absurd hh k2) (fun _=> ?_);refine j5 (fun hh=>absurd hh k3) (fun _=> ?_);refine j5 (fun hh=>absurd hh k4) (fun _=> ?_);refine⟨Za rfl,?_⟩;refine⟨[.slice none 0 0,.int .i64 1,.int .i64 0],rfl,rfl,?_⟩;refine⟨Za rfl,?_⟩;refine⟨[.k 4,.k 6,.k 0],_,_,_,_,np (o:=none),rfl,rfl,_,rfl,?_⟩;refine⟨[i6,i64 1,i64 0],rfl,rfl,?_⟩;refine⟨_,_,?_,E4.refl _,w6.refl _⟩;exact⟨_,rfl,[.k 0,.k 1,.k 2,.k 3],rfl,⟨_,rfl,rfl⟩,⟨_,rfl,rfl⟩,⟨_,rfl,rfl⟩,⟨_,rfl,rfl⟩,tq⟩
theorem CL {kind:Int} {t' s3 t6:Int} {w5:Bool} {lk' li' lb':Nat} {vk' vi' vb':List Value} {t mode pad:Int} {back:Bool} {k:Nat} {xs:List V} {iv d7:Bs} {st:MS} {x:HK} (k1:kind≠1) (k2:kind≠2) (k3:kind≠3) (k4:kind≠4):
  a9 C 104 [.p (.k 0) 0,.a [i64 kind,i64 t',i64 s3,i64 t6,bool w5,.z lk' vk',.z li' vi',.z lb' vb']] [l9 true t mode pad back k xs iv x d7,j4 (f7 t k xs) (j9 mode) back st 2,j6 st.row st.gone,x.b] (.ret (.a [.z 0 [],i64 1,i64 x.l.length])) [l9 true t mode pad back k xs iv x d7,j4 (f7 t k xs) (j9 mode) back st 2,j6 st.row st.gone,x.b]:=by
 obtain⟨ch,row,g⟩:=st;rcases row with _|⟨a,r⟩<;>rcases x with _|H|H;all_goals
  refine a9.wka (T6.p ?_) (.cons .nl (.cons (.refl _) (.cons (.refl _) .nil)));refine⟨⟨[(2,.p (.k 4) 0),(3,.p (.k 5) 0),(4,.p (.k 6) 0),(5,.f (.func 160) [] [.p (.k 4) 0,.p (.k 6) 0])],[_,_,_,_,_,_,_]⟩,⟨[.k 0,.k 1,.k 2,.k 3,.d 2 0,.d 3 0,.d 4 0],⟨rfl,rfl,rfl,rfl,tq⟩,⟨_,rfl,rfl⟩,⟨_,rfl,rfl⟩,⟨_,rfl,rfl⟩,⟨_,rfl,rfl⟩,⟨_,rfl,rfl⟩,⟨_,rfl,rfl⟩,⟨_,rfl,rfl⟩,tq⟩,_,_,rfl,rfl,?_⟩;refine⟨_,rfl,?_⟩;refine j5 (fun hh=>absurd hh k1) (fun _=> ?_);refine j5 (fun hh=>absurd hh k2) (fun _=> ?_);refine j5 (fun hh=>absurd hh k3) (fun _=> ?_);refine j5 (fun hh=>absurd hh k4) (fun _=> ?_);refine⟨Za rfl,?_⟩;first
   |refine⟨[.slice none 0 0,.int .i64 1,.int .i64 0],rfl,rfl,?_⟩
    refine⟨Za rfl,?_⟩;refine⟨[.k 4,.k 6,.k 0,.k 1,.k 2,.k 3],_,_,_,_,bI (o:=none) (d7:=d7) (x:= .n),rfl,rfl,_,rfl,?_⟩;refine⟨[i6,i64 1,i64 0],rfl,rfl,?_⟩;refine⟨_,_,?_,E4.refl _,w6.refl _⟩;exact⟨_,rfl,[.k 0,.k 1,.k 2,.k 3],rfl,⟨_,rfl,rfl⟩,⟨_,rfl,rfl⟩,⟨_,rfl,rfl⟩,⟨_,rfl,rfl⟩,tq⟩
   |refine⟨[.slice none 0 0,.int .i64 1,.int .i64 0],rfl,rfl,?_⟩
    refine⟨Za rfl,?_⟩;refine⟨[.k 4,.k 6,.k 0,.k 1,.k 2,.k 3],_,_,_,_,bI (o:=none) (d7:=d7) (x:=(.o H)),rfl,rfl,_,rfl,?_⟩;refine⟨[i6,i64 1,i64 H.length],rfl,rfl,?_⟩;refine⟨_,_,?_,E4.refl _,w6.refl _⟩;exact⟨_,rfl,[.k 0,.k 1,.k 2,.k 3],rfl,⟨_,rfl,rfl⟩,⟨_,rfl,rfl⟩,⟨_,rfl,rfl⟩,⟨_,rfl,rfl⟩,tq⟩
   |refine⟨[.slice none 0 0,.int .i64 1,.int .i64 0],rfl,rfl,?_⟩
    refine⟨Za rfl,?_⟩;refine⟨[.k 4,.k 6,.k 0,.k 1,.k 2,.k 3],_,_,_,_,bI (o:=none) (d7:=d7) (x:=(.f H)),rfl,rfl,_,rfl,?_⟩;refine⟨[i6,i64 1,i64 H.length],rfl,rfl,?_⟩;refine⟨_,_,?_,E4.refl _,w6.refl _⟩;exact⟨_,rfl,[.k 0,.k 1,.k 2,.k 3],rfl,⟨_,rfl,rfl⟩,⟨_,rfl,rfl⟩,⟨_,rfl,rfl⟩,⟨_,rfl,rfl⟩,tq⟩
theorem Wv {kind:Int} {t' s3 t6:Int} {w5:Bool} {lk' li' lb':Nat} {vk' vi' vb':List Value} {t mode pad:Int} {back:Bool} {k:Nat} {xs:List V} {iv d7:Bs} (k1:kind≠1) (k2:kind≠2) (k3:kind≠3) (k4:kind≠4):
  a9 C 104 [.p (.k 0) 0,.a [i64 kind,i64 t',i64 s3,i64 t6,bool w5,.z lk' vk',.z li' vi',.z lb' vb']] [G0 t mode pad back k xs iv d7,.dead,.dead,.dead] (.ret (.a [.z 0 [],i64 1,i64 0])) [G0 t mode pad back k xs iv d7,.dead,.dead,.dead]:=by
 refine a9.wka (T6.p ?_) (.cons .nl (.cons (.refl _) (.cons (.refl _) .nil)));refine⟨⟨[(2,.p (.k 4) 0),(3,.p (.k 5) 0),(4,.p (.k 6) 0),(5,.f (.func 160) [] [.p (.k 4) 0,.p (.k 6) 0])],[_,_,_,_,_,_,_]⟩,⟨[.k 0,.k 1,.k 2,.k 3,.d 2 0,.d 3 0,.d 4 0],⟨rfl,rfl,rfl,rfl,tq⟩,⟨_,rfl,rfl⟩,⟨_,rfl,rfl⟩,⟨_,rfl,rfl⟩,⟨_,rfl,rfl⟩,⟨_,rfl,rfl⟩,⟨_,rfl,rfl⟩,⟨_,rfl,rfl⟩,tq⟩,_,_,rfl,rfl,?_⟩;refine⟨_,rfl,?_⟩;refine j5 (fun hh=>absurd hh k1) (fun _=> ?_);refine j5 (fun hh=>absurd hh k2) (fun _=> ?_);refine j5 (fun hh=>absurd hh k3) (fun _=> ?_);refine j5 (fun hh=>absurd hh k4) (fun _=> ?_);refine⟨Za rfl,?_⟩;refine⟨[.slice none 0 0,.int .i64 1,.int .i64 0],rfl,rfl,?_⟩;refine⟨Za rfl,?_⟩;refine⟨[.k 4,.k 6,.k 0,.k 1],_,_,_,_,nq (o:=none) (d7:=d7),rfl,rfl,_,rfl,?_⟩;refine⟨[i6,i64 1,i64 0],rfl,rfl,?_⟩;refine⟨_,_,?_,E4.refl _,w6.refl _⟩;exact⟨_,rfl,[.k 0,.k 1,.k 2,.k 3],rfl,⟨_,rfl,rfl⟩,⟨_,rfl,rfl⟩,⟨_,rfl,rfl⟩,⟨_,rfl,rfl⟩,tq⟩
theorem Wy {t' s3 t6:Int} {w5:Bool} {lk' li' lb':Nat} {vk' vi' vb':List Value}:
  a9 C 104 [.p (.k 0) 0,.a [i64 2,i64 t',i64 s3,i64 t6,bool w5,.z lk' vk',.z li' vi',.z lb' vb']] [o9 false false 0 0 0 false j7 i6 j7 i6 i6,.dead,.dead,.dead] (.ret (.a [.z 0 [],i64 6,i64 0])) [o9 false false 0 0 0 false j7 i6 j7 i6 i6,.dead,.dead,.dead]:=by
 refine T6.p ?_;refine⟨⟨[(2,.p (.k 4) 0),(3,.p (.k 5) 0),(4,.p (.k 6) 0),(5,.f (.func 160) [] [.p (.k 4) 0,.p (.k 6) 0])],[_,_,_,_,_,_,_]⟩,⟨[.k 0,.k 1,.k 2,.k 3,.d 2 0,.d 3 0,.d 4 0],⟨rfl,rfl,rfl,rfl,tq⟩,⟨_,rfl,rfl⟩,⟨_,rfl,rfl⟩,⟨_,rfl,rfl⟩,⟨_,rfl,rfl⟩,⟨_,rfl,rfl⟩,⟨_,rfl,rfl⟩,⟨_,rfl,rfl⟩,tq⟩,_,_,rfl,rfl,?_⟩;refine⟨_,rfl,?_⟩;refine⟨_,rfl,?_⟩;refine⟨_,rfl,?_⟩;refine⟨[.k 0],_,_,_,_,IY,rfl,rfl,?_⟩;refine⟨Za rfl,?_⟩;refine⟨Za rfl,?_⟩;refine⟨[.z 0 [],i64 6,i64 0],rfl,rfl,?_⟩;refine⟨Za rfl,?_⟩;refine⟨[.k 4,.k 6,.k 0],_,_,_,_,np (o:=some (0,[])),rfl,rfl,_,rfl,?_⟩;refine⟨[.z 0 [],i64 6,i64 0],rfl,rfl,?_⟩;refine⟨_,_,?_,E4.refl _,w6.refl _⟩;exact⟨_,rfl,[.k 0,.k 1,.k 2,.k 3],rfl,⟨_,rfl,rfl⟩,⟨_,rfl,rfl⟩,⟨_,rfl,rfl⟩,⟨_,rfl,rfl⟩,tq⟩
theorem WG {t' s3 t6:Int} {w5:Bool} {lk' li' lb':Nat} {vk' vi' vb':List Value}:
  a9 C 104 [.p (.k 0) 0,.a [i64 3,i64 t',i64 s3,i64 t6,bool w5,.z lk' vk',.z li' vi',.z lb' vb']] [o9 false false 0 0 0 false j7 i6 j7 i6 i6,.dead,.dead,.dead] (.ret (.a [.z 0 [],i64 6,i64 0])) [o9 false false 0 0 0 false j7 i6 j7 i6 i6,.dead,.dead,.dead]:=by
 refine T6.p ?_;refine⟨⟨[(2,.p (.k 4) 0),(3,.p (.k 5) 0),(4,.p (.k 6) 0),(5,.f (.func 160) [] [.p (.k 4) 0,.p (.k 6) 0])],[_,_,_,_,_,_,_]⟩,⟨[.k 0,.k 1,.k 2,.k 3,.d 2 0,.d 3 0,.d 4 0],⟨rfl,rfl,rfl,rfl,tq⟩,⟨_,rfl,rfl⟩,⟨_,rfl,rfl⟩,⟨_,rfl,rfl⟩,⟨_,rfl,rfl⟩,⟨_,rfl,rfl⟩,⟨_,rfl,rfl⟩,⟨_,rfl,rfl⟩,tq⟩,_,_,rfl,rfl,?_⟩;refine⟨_,rfl,?_⟩;refine⟨_,rfl,?_⟩;refine⟨[.k 0],_,_,_,_,Iz,rfl,rfl,?_⟩;refine⟨Za rfl,?_⟩;refine⟨Za rfl,?_⟩;refine⟨[.z 0 [],i64 6,i64 0],rfl,rfl,?_⟩;refine⟨Za rfl,?_⟩;refine⟨[.k 4,.k 6,.k 0],_,_,_,_,np (o:=some (0,[])),rfl,rfl,_,rfl,?_⟩;refine⟨[.z 0 [],i64 6,i64 0],rfl,rfl,?_⟩;refine⟨_,_,?_,E4.refl _,w6.refl _⟩;exact⟨_,rfl,[.k 0,.k 1,.k 2,.k 3],rfl,⟨_,rfl,rfl⟩,⟨_,rfl,rfl⟩,⟨_,rfl,rfl⟩,⟨_,rfl,rfl⟩,tq⟩
theorem WF {t' s3 t6:Int} {w5:Bool} {lk' li' lb':Nat} {vk' vi' vb':List Value} {t mode pad:Int} {back:Bool} {k:Nat} {xs:List V} {iv d7:Bs}:
  a9 C 104 [.p (.k 0) 0,.a [i64 2,i64 t',i64 s3,i64 t6,bool w5,.z lk' vk',.z li' vi',.z lb' vb']] [G0 t mode pad back k xs iv d7,.dead,.dead,.dead] (.ret (.a [.z 0 [],i64 6,i64 0])) [G0 t mode pad back k xs iv d7,.dead,.dead,.dead]:=by
 refine T6.p ?_;refine⟨⟨[(2,.p (.k 4) 0),(3,.p (.k 5) 0),(4,.p (.k 6) 0),(5,.f (.func 160) [] [.p (.k 4) 0,.p (.k 6) 0])],[_,_,_,_,_,_,_]⟩,⟨[.k 0,.k 1,.k 2,.k 3,.d 2 0,.d 3 0,.d 4 0],⟨rfl,rfl,rfl,rfl,tq⟩,⟨_,rfl,rfl⟩,⟨_,rfl,rfl⟩,⟨_,rfl,rfl⟩,⟨_,rfl,rfl⟩,⟨_,rfl,rfl⟩,⟨_,rfl,rfl⟩,⟨_,rfl,rfl⟩,tq⟩,_,_,rfl,rfl,?_⟩;refine⟨_,rfl,?_⟩;refine⟨_,rfl,?_⟩;refine⟨_,rfl,?_⟩;refine⟨[.k 0,.k 1],_,_,_,_,IX,rfl,rfl,?_⟩;refine⟨Za rfl,?_⟩;refine⟨Za rfl,?_⟩;refine⟨[.z 0 [],i64 6,i64 0],rfl,rfl,?_⟩;refine⟨Za rfl,?_⟩;refine⟨[.k 4,.k 6,.k 0,.k 1],_,_,_,_,nq (o:=some (0,[])) (d7:=d7),rfl,rfl,_,rfl,?_⟩;refine⟨[.z 0 [],i64 6,i64 0],rfl,rfl,?_⟩;refine⟨_,_,?_,E4.refl _,w6.refl _⟩;exact⟨_,rfl,[.k 0,.k 1,.k 2,.k 3],rfl,⟨_,rfl,rfl⟩,⟨_,rfl,rfl⟩,⟨_,rfl,rfl⟩,⟨_,rfl,rfl⟩,tq⟩
theorem WH {t' s3 t6:Int} {w5:Bool} {lk' li' lb':Nat} {vk' vi' vb':List Value} {t mode pad:Int} {back:Bool} {k:Nat} {xs:List V} {iv d7:Bs}:
  a9 C 104 [.p (.k 0) 0,.a [i64 3,i64 t',i64 s3,i64 t6,bool w5,.z lk' vk',.z li' vi',.z lb' vb']] [G0 t mode pad back k xs iv d7,.dead,.dead,.dead] (.ret (.a [.z 0 [],i64 6,i64 0])) [G0 t mode pad back k xs iv d7,.dead,.dead,.dead]:=by
 refine T6.p ?_;refine⟨⟨[(2,.p (.k 4) 0),(3,.p (.k 5) 0),(4,.p (.k 6) 0),(5,.f (.func 160) [] [.p (.k 4) 0,.p (.k 6) 0])],[_,_,_,_,_,_,_]⟩,⟨[.k 0,.k 1,.k 2,.k 3,.d 2 0,.d 3 0,.d 4 0],⟨rfl,rfl,rfl,rfl,tq⟩,⟨_,rfl,rfl⟩,⟨_,rfl,rfl⟩,⟨_,rfl,rfl⟩,⟨_,rfl,rfl⟩,⟨_,rfl,rfl⟩,⟨_,rfl,rfl⟩,⟨_,rfl,rfl⟩,tq⟩,_,_,rfl,rfl,?_⟩;refine⟨_,rfl,?_⟩;refine⟨_,rfl,?_⟩;refine⟨[.k 0,.k 1],_,_,_,_,Iu,rfl,rfl,?_⟩;refine⟨Za rfl,?_⟩;refine⟨Za rfl,?_⟩;refine⟨[.z 0 [],i64 6,i64 0],rfl,rfl,?_⟩;refine⟨Za rfl,?_⟩;refine⟨[.k 4,.k 6,.k 0,.k 1],_,_,_,_,nq (o:=some (0,[])) (d7:=d7),rfl,rfl,_,rfl,?_⟩;refine⟨[.z 0 [],i64 6,i64 0],rfl,rfl,?_⟩;refine⟨_,_,?_,E4.refl _,w6.refl _⟩;exact⟨_,rfl,[.k 0,.k 1,.k 2,.k 3],rfl,⟨_,rfl,rfl⟩,⟨_,rfl,rfl⟩,⟨_,rfl,rfl⟩,⟨_,rfl,rfl⟩,tq⟩
theorem WI {t' s3 t6:Int} {w5:Bool} {lk' li' lb':Nat} {vk' vi' vb':List Value}:
  a9 C 104 [.p (.k 0) 0,.a [i64 4,i64 t',i64 s3,i64 t6,bool w5,.z lk' vk',.z li' vi',.z lb' vb']] [o9 false false 0 0 0 false j7 i6 j7 i6 i6,.dead,.dead,.dead] (.ret (.a [.z 0 [],i64 6,i64 0])) [o9 false false 0 0 0 false j7 i6 j7 i6 i6,.dead,.dead,.dead]:=by
 refine a9.wka (T6.p ?_) (.cons .nl (.cons (.refl _) (.cons (.refl _) .nil)));refine⟨⟨[(2,.p (.k 4) 0),(3,.p (.k 5) 0),(4,.p (.k 6) 0),(5,.f (.func 160) [] [.p (.k 4) 0,.p (.k 6) 0])],[_,_,_,_,_,_,_]⟩,⟨[.k 0,.k 1,.k 2,.k 3,.d 2 0,.d 3 0,.d 4 0],⟨rfl,rfl,rfl,rfl,tq⟩,⟨_,rfl,rfl⟩,⟨_,rfl,rfl⟩,⟨_,rfl,rfl⟩,⟨_,rfl,rfl⟩,⟨_,rfl,rfl⟩,⟨_,rfl,rfl⟩,⟨_,rfl,rfl⟩,tq⟩,_,_,rfl,rfl,?_⟩;refine⟨_,rfl,?_⟩;refine⟨_,rfl,?_⟩;refine⟨[.k 0],_,_,_,_,IH,rfl,rfl,?_⟩;refine⟨Za rfl,?_⟩;refine⟨[.slice none 0 0,.int .i64 6,.int .i64 0],rfl,rfl,?_⟩;refine⟨Za rfl,?_⟩;refine⟨[.k 4,.k 6,.k 0],_,_,_,_,np (o:=none),rfl,rfl,_,rfl,?_⟩;refine⟨[i6,i64 6,i64 0],rfl,rfl,?_⟩;refine⟨_,_,?_,E4.refl _,w6.refl _⟩;exact⟨_,rfl,[.k 0,.k 1,.k 2,.k 3],rfl,⟨_,rfl,rfl⟩,⟨_,rfl,rfl⟩,⟨_,rfl,rfl⟩,⟨_,rfl,rfl⟩,tq⟩
theorem Ww {t' s3 t6:Int} {w5:Bool} {k' s':Nat} {xs' rs':List V} {key' iv':Bs} {lk' li' lb':Nat} {vb':List Value} (h:k9 t' key' s' k' xs' rs') (hk:key'.length=lk') (hlk:lk'<=1000) (hi:iv'.length=li') (ok:D0 s' s3 t6 iv'):
  a9 C 104 [.p (.k 0) 0,.a [i64 1,i64 t',i64 s3,i64 t6,bool w5,.z lk' (bv key'),.z li' (bv iv'),.z lb' vb']] [o9 false false 0 0 0 false j7 i6 j7 i6 i6,.dead,.dead,.dead] (.ret (.a [.z 0 [],i64 0,i64 0])) [o9 true true t' s3 t6 w5 (f7 t' k' xs') (.z iv'.length (bv iv')) (.p (.k 4) 0) i6 (.z iv'.length (bv iv')),.dead,.dead,.dead,j4 (f7 t' k' xs') (j9 s3) w5 ⟨iv',[],[]⟩ 5,.dead,.dead]:=by
 have IN:=yO h (back:=w5) hk hlk hi ok;refine a9.wka (T6.p ?_) (.cons .nl (.cons (.refl _) (.cons (.refl _) .nil)));refine⟨⟨[(2,.p (.k 4) 0),(3,.p (.k 5) 0),(4,.p (.k 6) 0),(5,.f (.func 160) [] [.p (.k 4) 0,.p (.k 6) 0])],[_,_,_,_,_,_,_]⟩,⟨[.k 0,.k 1,.k 2,.k 3,.d 2 0,.d 3 0,.d 4 0],⟨rfl,rfl,rfl,rfl,tq⟩,⟨_,rfl,rfl⟩,⟨_,rfl,rfl⟩,⟨_,rfl,rfl⟩,⟨_,rfl,rfl⟩,⟨_,rfl,rfl⟩,⟨_,rfl,rfl⟩,⟨_,rfl,rfl⟩,tq⟩,_,_,rfl,rfl,?_⟩;refine⟨_,rfl,?_⟩;refine⟨_,rfl,?_⟩;refine⟨[i64 t',i64 s3,i64 t6,bool w5],rfl,rfl,?_⟩;refine⟨_,rfl,?_⟩;refine⟨_,rfl,?_⟩;refine⟨[.k 0],_,_,_,_,IN,rfl,rfl,?_⟩;refine⟨Za rfl,?_⟩;refine⟨[.slice none 0 0,.int .i64 0,.int .i64 0],rfl,rfl,?_⟩;refine⟨Za rfl,?_⟩;refine⟨[.k 4,.k 6,.k 0,.d 18 1,.d 18 2,.d 18 3],_,_,_,_,bI (o:=none) (st:=⟨iv',[],[]⟩) (d7:=iv') (x:= .n),rfl,rfl,_,rfl,?_⟩;refine⟨[i6,i64 0,i64 0],rfl,rfl,?_⟩;refine⟨_,_,?_,E4.refl _,w6.refl _⟩;exact⟨_,rfl,[.k 0,.k 1,.k 2,.k 3,.d 18 1,.d 18 2,.d 18 3],rfl,⟨_,rfl,rfl⟩,⟨_,rfl,rfl⟩,⟨_,rfl,rfl⟩,⟨_,rfl,rfl⟩,⟨_,rfl,rfl⟩,⟨_,rfl,rfl⟩,⟨_,rfl,rfl⟩,tq⟩
theorem CM {t' s3 t6:Int} {w5:Bool} {k' s':Nat} {xs' rs':List V} {key' iv':Bs} {lk' li' lb':Nat} {vb':List Value} (h:k9 t' key' s' k' xs' rs') (hk:key'.length=lk') (hlk:lk'<=1000) (hi:iv'.length=li') (ok:D0 s' s3 t6 iv') {t mode pad:Int} {back:Bool} {k:Nat} {xs:List V} {iv d7:Bs} {st:MS} {x:HK}:
  a9 C 104 [.p (.k 0) 0,.a [i64 1,i64 t',i64 s3,i64 t6,bool w5,.z lk' (bv key'),.z li' (bv iv'),.z lb' vb']] [l9 true t mode pad back k xs iv x d7,j4 (f7 t k xs) (j9 mode) back st 2,j6 st.row st.gone,x.b] (.ret (.a [.z 0 [],i64 0,i64 0])) [o9 true true t' s3 t6 w5 (f7 t' k' xs') (.z iv'.length (bv iv')) (.p (.k 4) 0) i6 (.z iv'.length (bv iv')),.dead,.dead,.dead,j4 (f7 t' k' xs') (j9 s3) w5 ⟨iv',[],[]⟩ 5,.dead,.dead]:=by
 have IN:=(ID h (back:=w5) (t0:=t) (mode0:=mode) (pad0:=pad) (md0:=j9 mode) (op:=true) (I4:=back) (k0:=k) (xs0:=xs) (iv0:=iv) (G7:=d7) (st0:=st) (x0:=x) hk hlk hi ok).fg (.keep (.drop (.drop (.drop (.keep (.keep (.keep .nil)))))));obtain⟨ch,row,g⟩:=st;rcases row with _|⟨a,r⟩<;>rcases x with _|H|H;all_goals
  refine a9.wka (T6.p ?_) (.cons .nl (.cons (.refl _) (.cons (.refl _) .nil)));refine⟨⟨[(2,.p (.k 4) 0),(3,.p (.k 5) 0),(4,.p (.k 6) 0),(5,.f (.func 160) [] [.p (.k 4) 0,.p (.k 6) 0])],[_,_,_,_,_,_,_]⟩,⟨[.k 0,.k 1,.k 2,.k 3,.d 2 0,.d 3 0,.d 4 0],⟨rfl,rfl,rfl,rfl,tq⟩,⟨_,rfl,rfl⟩,⟨_,rfl,rfl⟩,⟨_,rfl,rfl⟩,⟨_,rfl,rfl⟩,⟨_,rfl,rfl⟩,⟨_,rfl,rfl⟩,⟨_,rfl,rfl⟩,tq⟩,_,_,rfl,rfl,?_⟩;refine⟨_,rfl,?_⟩;refine⟨_,rfl,?_⟩;refine⟨[i64 t',i64 s3,i64 t6,bool w5],rfl,rfl,?_⟩;refine⟨_,rfl,?_⟩;refine⟨_,rfl,?_⟩;refine⟨[.k 0,.k 1,.k 2,.k 3],_,_,_,_,IN,rfl,rfl,?_⟩;refine⟨Za rfl,?_⟩;refine⟨[.slice none 0 0,.int .i64 0,.int .i64 0],rfl,rfl,?_⟩;refine⟨Za rfl,?_⟩;refine⟨[.k 4,.k 6,.k 0,.d 18 4,.d 18 5,.d 18 6],_,_,_,_,bI (o:=none) (st:=⟨iv',[],[]⟩) (d7:=iv') (x:= .n),rfl,rfl,_,rfl,?_⟩;refine⟨[i6,i64 0,i64 0],rfl,rfl,?_⟩;refine⟨_,_,?_,E4.refl _,w6.refl _⟩;exact⟨_,rfl,[.k 0,.k 1,.k 2,.k 3,.d 18 4,.d 18 5,.d 18 6],rfl,⟨_,rfl,rfl⟩,⟨_,rfl,rfl⟩,⟨_,rfl,rfl⟩,⟨_,rfl,rfl⟩,⟨_,rfl,rfl⟩,⟨_,rfl,rfl⟩,⟨_,rfl,rfl⟩,tq⟩
theorem Wx {t' s3 t6:Int} {w5:Bool} {k' s':Nat} {xs' rs':List V} {key' iv':Bs} {lk' li' lb':Nat} {vb':List Value} (h:k9 t' key' s' k' xs' rs') (hk:key'.length=lk') (hlk:lk'<=1000) (hi:iv'.length=li') (ok:D0 s' s3 t6 iv') {t mode pad:Int} {back:Bool} {k:Nat} {xs:List V} {iv d7:Bs}:
  a9 C 104 [.p (.k 0) 0,.a [i64 1,i64 t',i64 s3,i64 t6,bool w5,.z lk' (bv key'),.z li' (bv iv'),.z lb' vb']] [G0 t mode pad back k xs iv d7,.dead,.dead,.dead] (.ret (.a [.z 0 [],i64 0,i64 0])) [o9 true true t' s3 t6 w5 (f7 t' k' xs') (.z iv'.length (bv iv')) (.p (.k 4) 0) i6 (.z iv'.length (bv iv')),.dead,.dead,.dead,j4 (f7 t' k' xs') (j9 s3) w5 ⟨iv',[],[]⟩ 5,.dead,.dead]:=by
 have IN:=IE h (back:=w5) (t0:=t) (mode0:=mode) (pad0:=pad) (I4:=back) (k0:=k) (xs0:=xs) (iv0:=iv) (G7:=d7) hk hlk hi ok;refine a9.wka (T6.p ?_) (.cons .nl (.cons (.refl _) (.cons (.refl _) .nil)));refine⟨⟨[(2,.p (.k 4) 0),(3,.p (.k 5) 0),(4,.p (.k 6) 0),(5,.f (.func 160) [] [.p (.k 4) 0,.p (.k 6) 0])],[_,_,_,_,_,_,_]⟩,⟨[.k 0,.k 1,.k 2,.k 3,.d 2 0,.d 3 0,.d 4 0],⟨rfl,rfl,rfl,rfl,tq⟩,⟨_,rfl,rfl⟩,⟨_,rfl,rfl⟩,⟨_,rfl,rfl⟩,⟨_,rfl,rfl⟩,⟨_,rfl,rfl⟩,⟨_,rfl,rfl⟩,⟨_,rfl,rfl⟩,tq⟩,_,_,rfl,rfl,?_⟩;refine⟨_,rfl,?_⟩;refine⟨_,rfl,?_⟩;refine⟨[i64 t',i64 s3,i64 t6,bool w5],rfl,rfl,?_⟩;refine⟨_,rfl,?_⟩;refine⟨_,rfl,?_⟩;refine⟨[.k 0,.k 1],_,_,_,_,IN,rfl,rfl,?_⟩;refine⟨Za rfl,?_⟩;refine⟨[.slice none 0 0,.int .i64 0,.int .i64 0],rfl,rfl,?_⟩;refine⟨Za rfl,?_⟩;refine⟨[.k 4,.k 6,.k 0,.d 18 2,.d 18 3,.d 18 4],_,_,_,_,bI (o:=none) (st:=⟨iv',[],[]⟩) (d7:=iv') (x:= .n),rfl,rfl,_,rfl,?_⟩;refine⟨[i6,i64 0,i64 0],rfl,rfl,?_⟩;refine⟨_,_,?_,E4.refl _,w6.refl _⟩;exact⟨_,rfl,[.k 0,.k 1,.k 2,.k 3,.d 18 2,.d 18 3,.d 18 4],rfl,⟨_,rfl,rfl⟩,⟨_,rfl,rfl⟩,⟨_,rfl,rfl⟩,⟨_,rfl,rfl⟩,⟨_,rfl,rfl⟩,⟨_,rfl,rfl⟩,⟨_,rfl,rfl⟩,tq⟩
theorem WK {t' s3 t6:Int} {w5:Bool} {key' iv':Bs} {lk' li' lb':Nat} {vb':List Value} (hk:key'.length=lk') (hlk:lk'<=1000) (hi:iv'.length=li') (he:C6 t' s3 t6 (q9 t').toNat lk' li'≠0):
  a9 C 104 [.p (.k 0) 0,.a [i64 1,i64 t',i64 s3,i64 t6,bool w5,.z lk' (bv key'),.z li' (bv iv'),.z lb' vb']] [o9 false false 0 0 0 false j7 i6 j7 i6 i6,.dead,.dead,.dead] (.ret (.a [.z 0 [],i64 (C6 t' s3 t6 (q9 t').toNat lk' li'),i64 0])) [o9 false false 0 0 0 false j7 i6 j7 i6 i6,.dead,.dead,.dead]:=by
 have IN:=yP (back:=w5) hk hlk hi he;generalize C6 t' s3 t6 (q9 t').toNat lk' li'=e at*
 refine a9.wka (T6.p ?_) (.cons .nl (.cons (.refl _) (.cons (.refl _) .nil)));refine⟨⟨[(2,.p (.k 4) 0),(3,.p (.k 5) 0),(4,.p (.k 6) 0),(5,.f (.func 160) [] [.p (.k 4) 0,.p (.k 6) 0])],[_,_,_,_,_,_,_]⟩,⟨[.k 0,.k 1,.k 2,.k 3,.d 2 0,.d 3 0,.d 4 0],⟨rfl,rfl,rfl,rfl,tq⟩,⟨_,rfl,rfl⟩,⟨_,rfl,rfl⟩,⟨_,rfl,rfl⟩,⟨_,rfl,rfl⟩,⟨_,rfl,rfl⟩,⟨_,rfl,rfl⟩,⟨_,rfl,rfl⟩,tq⟩,_,_,rfl,rfl,?_⟩;refine⟨_,rfl,?_⟩;refine⟨_,rfl,?_⟩;refine⟨[i64 t',i64 s3,i64 t6,bool w5],rfl,rfl,?_⟩;refine⟨_,rfl,?_⟩;refine⟨_,rfl,?_⟩;refine⟨[.k 0],_,_,_,_,IN,rfl,rfl,?_⟩;refine⟨Za rfl,?_⟩;refine⟨[.slice none 0 0,.int .i64 e,.int .i64 0],rfl,rfl,?_⟩;refine⟨Za rfl,?_⟩;refine⟨[.k 4,.k 6,.k 0],_,_,_,_,np (o:=none),rfl,rfl,_,rfl,?_⟩;refine⟨[i6,i64 e,i64 0],rfl,rfl,?_⟩;refine⟨_,_,?_,E4.refl _,w6.refl _⟩;exact⟨_,rfl,[.k 0,.k 1,.k 2,.k 3],rfl,⟨_,rfl,rfl⟩,⟨_,rfl,rfl⟩,⟨_,rfl,rfl⟩,⟨_,rfl,rfl⟩,tq⟩
theorem CQ {t' s3 t6:Int} {w5:Bool} {key' iv':Bs} {lk' li' lb':Nat} {vb':List Value} (hk:key'.length=lk') (hlk:lk'<=1000) (hi:iv'.length=li') (he:C6 t' s3 t6 (q9 t').toNat lk' li'≠0) {t mode pad:Int} {back:Bool} {k:Nat} {xs:List V} {iv d7:Bs} {st:MS} {x:HK}:
  a9 C 104 [.p (.k 0) 0,.a [i64 1,i64 t',i64 s3,i64 t6,bool w5,.z lk' (bv key'),.z li' (bv iv'),.z lb' vb']] [l9 true t mode pad back k xs iv x d7,j4 (f7 t k xs) (j9 mode) back st 2,j6 st.row st.gone,x.b] (.ret (.a [.z 0 [],i64 (C6 t' s3 t6 (q9 t').toNat lk' li'),i64 x.l.length])) [l9 true t mode pad back k xs iv x d7,j4 (f7 t k xs) (j9 mode) back st 2,j6 st.row st.gone,x.b]:=by
 have IN:=IF (back:=w5) (t0:=t) (mode0:=mode) (pad0:=pad) (md0:=j9 mode) (op:=true) (I4:=back) (k0:=k) (xs0:=xs) (iv0:=iv) (G7:=d7) (st0:=st) (x0:=x) hk hlk hi he;generalize C6 t' s3 t6 (q9 t').toNat lk' li'=e at*
 obtain⟨ch,row,g⟩:=st;rcases row with _|⟨a,r⟩<;>rcases x with _|H|H;all_goals
  refine a9.wka (T6.p ?_) (.cons .nl (.cons (.refl _) (.cons (.refl _) .nil)));refine⟨⟨[(2,.p (.k 4) 0),(3,.p (.k 5) 0),(4,.p (.k 6) 0),(5,.f (.func 160) [] [.p (.k 4) 0,.p (.k 6) 0])],[_,_,_,_,_,_,_]⟩,⟨[.k 0,.k 1,.k 2,.k 3,.d 2 0,.d 3 0,.d 4 0],⟨rfl,rfl,rfl,rfl,tq⟩,⟨_,rfl,rfl⟩,⟨_,rfl,rfl⟩,⟨_,rfl,rfl⟩,⟨_,rfl,rfl⟩,⟨_,rfl,rfl⟩,⟨_,rfl,rfl⟩,⟨_,rfl,rfl⟩,tq⟩,_,_,rfl,rfl,?_⟩;refine⟨_,rfl,?_⟩;refine⟨_,rfl,?_⟩;refine⟨[i64 t',i64 s3,i64 t6,bool w5],rfl,rfl,?_⟩;refine⟨_,rfl,?_⟩;refine⟨_,rfl,?_⟩;refine⟨[.k 0,.k 1,.k 2,.k 3],_,_,_,_,IN,rfl,rfl,?_⟩;refine⟨Za rfl,?_⟩;first
   |refine⟨[.slice none 0 0,.int .i64 e,.int .i64 0],rfl,rfl,?_⟩
    refine⟨Za rfl,?_⟩;refine⟨[.k 4,.k 6,.k 0,.k 1,.k 2,.k 3],_,_,_,_,bI (o:=none) (d7:=d7) (x:= .n),rfl,rfl,_,rfl,?_⟩;refine⟨[i6,i64 e,i64 0],rfl,rfl,?_⟩;refine⟨_,_,?_,E4.refl _,w6.refl _⟩;exact⟨_,rfl,[.k 0,.k 1,.k 2,.k 3],rfl,⟨_,rfl,rfl⟩,⟨_,rfl,rfl⟩,⟨_,rfl,rfl⟩,⟨_,rfl,rfl⟩,tq⟩
   |refine⟨[.slice none 0 0,.int .i64 e,.int .i64 0],rfl,rfl,?_⟩
    refine⟨Za rfl,?_⟩;refine⟨[.k 4,.k 6,.k 0,.k 1,.k 2,.k 3],_,_,_,_,bI (o:=none) (d7:=d7) (x:=(.o H)),rfl,rfl,_,rfl,?_⟩;refine⟨[i6,i64 e,i64 H.length],rfl,rfl,?_⟩;refine⟨_,_,?_,E4.refl _,w6.refl _⟩;exact⟨_,rfl,[.k 0,.k 1,.k 2,.k 3],rfl,⟨_,rfl,rfl⟩,⟨_,rfl,rfl⟩,⟨_,rfl,rfl⟩,⟨_,rfl,rfl⟩,tq⟩
   |refine⟨[.slice none 0 0,.int .i64 e,.int .i64 0],rfl,rfl,?_⟩
    refine⟨Za rfl,?_⟩;refine⟨[.k 4,.k 6,.k 0,.k 1,.k 2,.k 3],_,_,_,_,bI (o:=none) (d7:=d7) (x:=(.f H)),rfl,rfl,_,rfl,?_⟩;refine⟨[i6,i64 e,i64 H.length],rfl,rfl,?_⟩;refine⟨_,_,?_,E4.refl _,w6.refl _⟩;exact⟨_,rfl,[.k 0,.k 1,.k 2,.k 3],rfl,⟨_,rfl,rfl⟩,⟨_,rfl,rfl⟩,⟨_,rfl,rfl⟩,⟨_,rfl,rfl⟩,tq⟩
theorem WL {t' s3 t6:Int} {w5:Bool} {key' iv':Bs} {lk' li' lb':Nat} {vb':List Value} (hk:key'.length=lk') (hlk:lk'<=1000) (hi:iv'.length=li') (he:C6 t' s3 t6 (q9 t').toNat lk' li'≠0) {t mode pad:Int} {back:Bool} {k:Nat} {xs:List V} {iv d7:Bs}:
  a9 C 104 [.p (.k 0) 0,.a [i64 1,i64 t',i64 s3,i64 t6,bool w5,.z lk' (bv key'),.z li' (bv iv'),.z lb' vb']] [G0 t mode pad back k xs iv d7,.dead,.dead,.dead] (.ret (.a [.z 0 [],i64 (C6 t' s3 t6 (q9 t').toNat lk' li'),i64 0])) [G0 t mode pad back k xs iv d7,.dead,.dead,.dead]:=by
 have IN:=IG (back:=w5) (t0:=t) (mode0:=mode) (pad0:=pad) (I4:=back) (k0:=k) (xs0:=xs) (iv0:=iv) (G7:=d7) hk hlk hi he;generalize C6 t' s3 t6 (q9 t').toNat lk' li'=e at*
 refine a9.wka (T6.p ?_) (.cons .nl (.cons (.refl _) (.cons (.refl _) .nil)));refine⟨⟨[(2,.p (.k 4) 0),(3,.p (.k 5) 0),(4,.p (.k 6) 0),(5,.f (.func 160) [] [.p (.k 4) 0,.p (.k 6) 0])],[_,_,_,_,_,_,_]⟩,⟨[.k 0,.k 1,.k 2,.k 3,.d 2 0,.d 3 0,.d 4 0],⟨rfl,rfl,rfl,rfl,tq⟩,⟨_,rfl,rfl⟩,⟨_,rfl,rfl⟩,⟨_,rfl,rfl⟩,⟨_,rfl,rfl⟩,⟨_,rfl,rfl⟩,⟨_,rfl,rfl⟩,⟨_,rfl,rfl⟩,tq⟩,_,_,rfl,rfl,?_⟩;refine⟨_,rfl,?_⟩;refine⟨_,rfl,?_⟩;refine⟨[i64 t',i64 s3,i64 t6,bool w5],rfl,rfl,?_⟩;refine⟨_,rfl,?_⟩;refine⟨_,rfl,?_⟩;refine⟨[.k 0,.k 1],_,_,_,_,IN,rfl,rfl,?_⟩;refine⟨Za rfl,?_⟩;refine⟨[.slice none 0 0,.int .i64 e,.int .i64 0],rfl,rfl,?_⟩;refine⟨Za rfl,?_⟩;refine⟨[.k 4,.k 6,.k 0,.k 1],_,_,_,_,nq (o:=none) (d7:=d7),rfl,rfl,_,rfl,?_⟩;refine⟨[i6,i64 e,i64 0],rfl,rfl,?_⟩;refine⟨_,_,?_,E4.refl _,w6.refl _⟩;exact⟨_,rfl,[.k 0,.k 1,.k 2,.k 3],rfl,⟨_,rfl,rfl⟩,⟨_,rfl,rfl⟩,⟨_,rfl,rfl⟩,⟨_,rfl,rfl⟩,tq⟩
theorem CP {t' s3 t6:Int} {w5:Bool} {lk' li' lb':Nat} {vk' vi' vb':List Value} {t mode pad:Int} {back:Bool} {k:Nat} {xs:List V} {iv d7:Bs} {st:MS} {x:HK} {s:Nat} {rs:List V} {key:Bs} (h:k9 t key s k xs rs) (ok:D0 s mode pad iv):
  a9 C 104 [.p (.k 0) 0,.a [i64 4,i64 t',i64 s3,i64 t6,bool w5,.z lk' vk',.z li' vi',.z lb' vb']] [l9 true t mode pad back k xs iv x d7,j4 (f7 t k xs) (j9 mode) back st 2,j6 st.row st.gone,x.b] (.ret (.a [.z 0 [],i64 0,i64 0])) [o9 true true t mode pad back (f7 t k xs) (.z iv.length (bv iv)) (.p (.k 4) 0) i6 (.z iv.length (bv iv)),.dead,.dead,.dead,j4 (f7 t k xs) (j9 mode) back ⟨iv,[],[]⟩ 5,.dead,.dead]:=by
 have IN:=(II h (md0:=j9 mode) (op:=true) (back:=back) (G7:=d7) (st0:=st) (x0:=x) ok).fg (.keep (.drop (.drop (.drop (.keep (.keep (.keep .nil)))))));obtain⟨ch,row,g⟩:=st;rcases row with _|⟨a,r⟩<;>rcases x with _|H|H;all_goals
  refine a9.wka (T6.p ?_) (.cons .nl (.cons (.refl _) (.cons (.refl _) .nil)));refine⟨⟨[(2,.p (.k 4) 0),(3,.p (.k 5) 0),(4,.p (.k 6) 0),(5,.f (.func 160) [] [.p (.k 4) 0,.p (.k 6) 0])],[_,_,_,_,_,_,_]⟩,⟨[.k 0,.k 1,.k 2,.k 3,.d 2 0,.d 3 0,.d 4 0],⟨rfl,rfl,rfl,rfl,tq⟩,⟨_,rfl,rfl⟩,⟨_,rfl,rfl⟩,⟨_,rfl,rfl⟩,⟨_,rfl,rfl⟩,⟨_,rfl,rfl⟩,⟨_,rfl,rfl⟩,⟨_,rfl,rfl⟩,tq⟩,_,_,rfl,rfl,?_⟩;refine⟨_,rfl,?_⟩;refine⟨_,rfl,?_⟩;refine⟨[.k 0,.k 1,.k 2,.k 3],_,_,_,_,IN,rfl,rfl,?_⟩;refine⟨Za rfl,?_⟩;refine⟨[.slice none 0 0,.int .i64 0,.int .i64 0],rfl,rfl,?_⟩;refine⟨Za rfl,?_⟩;refine⟨[.k 4,.k 6,.k 0,.d 43 4,.d 43 5,.d 43 6],_,_,_,_,bI (o:=none) (st:=⟨iv,[],[]⟩) (d7:=iv) (x:= .n),rfl,rfl,_,rfl,?_⟩;refine⟨[i6,i64 0,i64 0],rfl,rfl,?_⟩;refine⟨_,_,?_,E4.refl _,w6.refl _⟩;exact⟨_,rfl,[.k 0,.k 1,.k 2,.k 3,.d 43 4,.d 43 5,.d 43 6],rfl,⟨_,rfl,rfl⟩,⟨_,rfl,rfl⟩,⟨_,rfl,rfl⟩,⟨_,rfl,rfl⟩,⟨_,rfl,rfl⟩,⟨_,rfl,rfl⟩,⟨_,rfl,rfl⟩,tq⟩
theorem WJ {t' s3 t6:Int} {w5:Bool} {lk' li' lb':Nat} {vk' vi' vb':List Value} {t mode pad:Int} {back:Bool} {k:Nat} {xs:List V} {iv d7:Bs} {s:Nat} {rs:List V} {key:Bs} (h:k9 t key s k xs rs) (ok:D0 s mode pad iv):
  a9 C 104 [.p (.k 0) 0,.a [i64 4,i64 t',i64 s3,i64 t6,bool w5,.z lk' vk',.z li' vi',.z lb' vb']] [G0 t mode pad back k xs iv d7,.dead,.dead,.dead] (.ret (.a [.z 0 [],i64 0,i64 0])) [o9 true true t mode pad back (f7 t k xs) (.z iv.length (bv iv)) (.p (.k 4) 0) i6 (.z iv.length (bv iv)),.dead,.dead,.dead,j4 (f7 t k xs) (j9 mode) back ⟨iv,[],[]⟩ 5,.dead,.dead]:=by
 have IN:=IJ h (back:=back) (G7:=d7) ok;refine a9.wka (T6.p ?_) (.cons .nl (.cons (.refl _) (.cons (.refl _) .nil)));refine⟨⟨[(2,.p (.k 4) 0),(3,.p (.k 5) 0),(4,.p (.k 6) 0),(5,.f (.func 160) [] [.p (.k 4) 0,.p (.k 6) 0])],[_,_,_,_,_,_,_]⟩,⟨[.k 0,.k 1,.k 2,.k 3,.d 2 0,.d 3 0,.d 4 0],⟨rfl,rfl,rfl,rfl,tq⟩,⟨_,rfl,rfl⟩,⟨_,rfl,rfl⟩,⟨_,rfl,rfl⟩,⟨_,rfl,rfl⟩,⟨_,rfl,rfl⟩,⟨_,rfl,rfl⟩,⟨_,rfl,rfl⟩,tq⟩,_,_,rfl,rfl,?_⟩;refine⟨_,rfl,?_⟩;refine⟨_,rfl,?_⟩;refine⟨[.k 0,.k 1],_,_,_,_,IN,rfl,rfl,?_⟩;refine⟨Za rfl,?_⟩;refine⟨[.slice none 0 0,.int .i64 0,.int .i64 0],rfl,rfl,?_⟩;refine⟨Za rfl,?_⟩;refine⟨[.k 4,.k 6,.k 0,.d 43 2,.d 43 3,.d 43 4],_,_,_,_,bI (o:=none) (st:=⟨iv,[],[]⟩) (d7:=iv) (x:= .n),rfl,rfl,_,rfl,?_⟩;refine⟨[i6,i64 0,i64 0],rfl,rfl,?_⟩;refine⟨_,_,?_,E4.refl _,w6.refl _⟩;exact⟨_,rfl,[.k 0,.k 1,.k 2,.k 3,.d 43 2,.d 43 3,.d 43 4],rfl,⟨_,rfl,rfl⟩,⟨_,rfl,rfl⟩,⟨_,rfl,rfl⟩,⟨_,rfl,rfl⟩,⟨_,rfl,rfl⟩,⟨_,rfl,rfl⟩,⟨_,rfl,rfl⟩,tq⟩
theorem CN {t' s3 t6:Int} {w5:Bool} {lk' li' lb':Nat} {vk' vi' vb':List Value} {t mode pad:Int} {back:Bool} {k:Nat} {xs:List V} {iv d7:Bs} {st:MS} {x:HK} {st':MS} {p6 H' o':Bs} {n':Nat} (U:a9 C 33 [.p (.k 0) 0,.z lb' vb'] [l9 true t mode pad back k xs iv x d7,j4 (f7 t k xs) (j9 mode) back st 2,j6 st.row st.gone,x.b] (.ret (.t [.z n' (bv o'),i64 0])) [o9 true true t mode pad back (f7 t k xs) (.z iv.length (bv iv)) (.p (.k 1) 0) (.o 1 (.k 5) 0 H'.length) (.z p6.length (bv p6)),j4 (f7 t k xs) (j9 mode) back st' 4,.dead,.dead,j6 st'.row st'.gone,.sc (bv H')]):
  a9 C 104 [.p (.k 0) 0,.a [i64 2,i64 t',i64 s3,i64 t6,bool w5,.z lk' vk',.z li' vi',.z lb' vb']] [l9 true t mode pad back k xs iv x d7,j4 (f7 t k xs) (j9 mode) back st 2,j6 st.row st.gone,x.b] (.ret (.a [(.z n' (bv o')),i64 0,i64 H'.length])) [o9 true true t mode pad back (f7 t k xs) (.z iv.length (bv iv)) (.p (.k 1) 0) (.o 1 (.k 5) 0 H'.length) (.z p6.length (bv p6)),j4 (f7 t k xs) (j9 mode) back st' 4,.dead,.dead,j6 st'.row st'.gone,.sc (bv H')]:=by
 obtain⟨ch,row,g⟩:=st;obtain⟨ch',row',g'⟩:=st';rcases row with _|⟨a,r⟩<;>rcases row' with _|⟨a',r'⟩<;>rcases x with _|H|H;all_goals
  refine T6.p ?_;refine⟨⟨[(2,.p (.k 4) 0),(3,.p (.k 5) 0),(4,.p (.k 6) 0),(5,.f (.func 160) [] [.p (.k 4) 0,.p (.k 6) 0])],[_,_,_,_,_,_,_]⟩,⟨[.k 0,.k 1,.k 2,.k 3,.d 2 0,.d 3 0,.d 4 0],⟨rfl,rfl,rfl,rfl,tq⟩,⟨_,rfl,rfl⟩,⟨_,rfl,rfl⟩,⟨_,rfl,rfl⟩,⟨_,rfl,rfl⟩,⟨_,rfl,rfl⟩,⟨_,rfl,rfl⟩,⟨_,rfl,rfl⟩,tq⟩,_,_,rfl,rfl,?_⟩;refine⟨_,rfl,?_⟩;refine⟨_,rfl,?_⟩;refine⟨_,rfl,?_⟩;refine⟨[.k 0,.k 1,.k 2,.k 3],_,_,_,_,U,rfl,rfl,?_⟩;refine⟨Za rfl,?_⟩;refine⟨Za rfl,?_⟩;refine⟨[.z n' (bv o'),i64 0,i64 0],rfl,rfl,?_⟩;refine⟨Za rfl,?_⟩;refine⟨[.k 4,.k 6,.k 0,.k 1,.d 26 4,.d 26 5],_,_,_,_,bI (o:=some (n',bv o')) (d7:=p6) (x:= .o H'),rfl,rfl,_,rfl,?_⟩;refine⟨[.z n' (bv o'),i64 0,i64 H'.length],rfl,rfl,?_⟩;refine⟨_,_,?_,E4.refl _,w6.refl _⟩;exact⟨_,rfl,[.k 0,.k 1,.k 2,.k 3,.d 26 4,.d 26 5],rfl,⟨_,rfl,rfl⟩,⟨_,rfl,rfl⟩,⟨_,rfl,rfl⟩,⟨_,rfl,rfl⟩,⟨_,rfl,rfl⟩,⟨_,rfl,rfl⟩,tq⟩
theorem Wz {t' s3 t6:Int} {w5:Bool} {lk' li' lb':Nat} {vk' vi' vb':List Value} {t mode pad:Int} {back:Bool} {k:Nat} {xs:List V} {iv d7:Bs} {st:MS} {x:HK} {st':MS} {p6 H' o':Bs} {n':Nat} (U:a9 C 33 [.p (.k 0) 0,.z lb' vb'] [l9 true t mode pad back k xs iv x d7,j4 (f7 t k xs) (j9 mode) back st 2,j6 st.row st.gone,x.b] (.ret (.t [.z n' (bv o'),i64 0])) [o9 true true t mode pad back (f7 t k xs) (.z iv.length (bv iv)) (.p (.k 1) 0) (.o 1 (.k 4) 0 H'.length) (.z p6.length (bv p6)),j4 (f7 t k xs) (j9 mode) back st' 2,j6 st'.row st'.gone,.dead,.sc (bv H')]):
  a9 C 104 [.p (.k 0) 0,.a [i64 2,i64 t',i64 s3,i64 t6,bool w5,.z lk' vk',.z li' vi',.z lb' vb']] [l9 true t mode pad back k xs iv x d7,j4 (f7 t k xs) (j9 mode) back st 2,j6 st.row st.gone,x.b] (.ret (.a [(.z n' (bv o')),i64 0,i64 H'.length])) [o9 true true t mode pad back (f7 t k xs) (.z iv.length (bv iv)) (.p (.k 1) 0) (.o 1 (.k 4) 0 H'.length) (.z p6.length (bv p6)),j4 (f7 t k xs) (j9 mode) back st' 2,j6 st'.row st'.gone,.dead,.sc (bv H')]:=by
 obtain⟨ch,row,g⟩:=st;obtain⟨ch',row',g'⟩:=st';rcases row with _|⟨a,r⟩<;>rcases row' with _|⟨a',r'⟩<;>rcases x with _|H|H;all_goals
  refine T6.p ?_;refine⟨⟨[(2,.p (.k 4) 0),(3,.p (.k 5) 0),(4,.p (.k 6) 0),(5,.f (.func 160) [] [.p (.k 4) 0,.p (.k 6) 0])],[_,_,_,_,_,_,_]⟩,⟨[.k 0,.k 1,.k 2,.k 3,.d 2 0,.d 3 0,.d 4 0],⟨rfl,rfl,rfl,rfl,tq⟩,⟨_,rfl,rfl⟩,⟨_,rfl,rfl⟩,⟨_,rfl,rfl⟩,⟨_,rfl,rfl⟩,⟨_,rfl,rfl⟩,⟨_,rfl,rfl⟩,⟨_,rfl,rfl⟩,tq⟩,_,_,rfl,rfl,?_⟩;refine⟨_,rfl,?_⟩;refine⟨_,rfl,?_⟩;refine⟨_,rfl,?_⟩;refine⟨[.k 0,.k 1,.k 2,.k 3],_,_,_,_,U,rfl,rfl,?_⟩;refine⟨Za rfl,?_⟩;refine⟨Za rfl,?_⟩;refine⟨[.z n' (bv o'),i64 0,i64 0],rfl,rfl,?_⟩;refine⟨Za rfl,?_⟩;refine⟨[.k 4,.k 6,.k 0,.k 1,.k 2,.d 26 4],_,_,_,_,bI (o:=some (n',bv o')) (d7:=p6) (x:= .o H'),rfl,rfl,_,rfl,?_⟩;refine⟨[.z n' (bv o'),i64 0,i64 H'.length],rfl,rfl,?_⟩;refine⟨_,_,?_,E4.refl _,w6.refl _⟩;exact⟨_,rfl,[.k 0,.k 1,.k 2,.k 3,.d 26 4],rfl,⟨_,rfl,rfl⟩,⟨_,rfl,rfl⟩,⟨_,rfl,rfl⟩,⟨_,rfl,rfl⟩,⟨_,rfl,rfl⟩,tq⟩
theorem CO {t' s3 t6:Int} {w5:Bool} {lk' li' lb':Nat} {vk' vi' vb':List Value} {t mode pad:Int} {back:Bool} {k:Nat} {xs:List V} {iv d7:Bs} {st:MS} {x:HK} {p6 o':Bs} {n':Nat} {e':Int} (U:a9 C 34 [.p (.k 0) 0] [l9 true t mode pad back k xs iv x d7,j4 (f7 t k xs) (j9 mode) back st 2,j6 st.row st.gone,x.b] (.ret (.t [.z n' (bv o'),i64 e'])) [G0 t mode pad back k xs iv p6,.dead,.dead,.dead,.dead]):
  a9 C 104 [.p (.k 0) 0,.a [i64 3,i64 t',i64 s3,i64 t6,bool w5,.z lk' vk',.z li' vi',.z lb' vb']] [l9 true t mode pad back k xs iv x d7,j4 (f7 t k xs) (j9 mode) back st 2,j6 st.row st.gone,x.b] (.ret (.a [(.z n' (bv o')),i64 e',i64 0])) [G0 t mode pad back k xs iv p6,.dead,.dead,.dead]:=by
 obtain⟨ch,row,g⟩:=st;rcases row with _|⟨a,r⟩<;>rcases x with _|H|H;all_goals
  refine T6.p ?_;refine⟨⟨[(2,.p (.k 4) 0),(3,.p (.k 5) 0),(4,.p (.k 6) 0),(5,.f (.func 160) [] [.p (.k 4) 0,.p (.k 6) 0])],[_,_,_,_,_,_,_]⟩,⟨[.k 0,.k 1,.k 2,.k 3,.d 2 0,.d 3 0,.d 4 0],⟨rfl,rfl,rfl,rfl,tq⟩,⟨_,rfl,rfl⟩,⟨_,rfl,rfl⟩,⟨_,rfl,rfl⟩,⟨_,rfl,rfl⟩,⟨_,rfl,rfl⟩,⟨_,rfl,rfl⟩,⟨_,rfl,rfl⟩,tq⟩,_,_,rfl,rfl,?_⟩;refine⟨_,rfl,?_⟩;refine⟨_,rfl,?_⟩;refine⟨[.k 0,.k 1,.k 2,.k 3],_,_,_,_,U,rfl,rfl,?_⟩;refine⟨Za rfl,?_⟩;refine⟨Za rfl,?_⟩;refine⟨[.z n' (bv o'),i64 e',i64 0],rfl,rfl,?_⟩;refine⟨Za rfl,?_⟩;refine⟨[.k 4,.k 6,.k 0,.k 1],_,_,_,_,nq (o:=some (n',bv o')) (d7:=p6),rfl,rfl,_,rfl,?_⟩;refine⟨[.z n' (bv o'),i64 e',i64 0],rfl,rfl,?_⟩;refine⟨_,_,?_,E4.refl _,w6.refl _⟩;exact⟨_,rfl,[.k 0,.k 1,.k 2,.k 3],rfl,⟨_,rfl,rfl⟩,⟨_,rfl,rfl⟩,⟨_,rfl,rfl⟩,⟨_,rfl,rfl⟩,tq⟩
abbrev L4 (x:Cl):List V:=[i64 x.kind,i64 x.c.t,i64 x.c.mode,i64 x.c.pad,bool x.c.back,.z x.c.key.length (bv x.c.key),.z x.c.iv.length (bv x.c.iv),.z x.inp.length (bv x.inp)]
abbrev R4 (τ:To):List V:=[.z τ.out.length (bv τ.out),i64 τ.e,i64 τ.held]
noncomputable def mn:CX->Bs->List B
 | .nw,_=>[o9 false false 0 0 0 false j7 i6 j7 i6 i6,.dead,.dead,.dead]
 | .op c none,_=>[l9 true c.t c.mode c.pad c.back c.k c.xs c.iv .n c.iv,j4 (f7 c.t c.k c.xs) (j9 c.mode) c.back ⟨c.iv,[],[]⟩ 2,.dead,.dead]
 | .op c (some M),_=>[l9 true c.t c.mode c.pad c.back c.k c.xs c.iv (.o (c.H M)) (c.L M),j4 (f7 c.t c.k c.xs) (j9 c.mode) c.back (c.S M) 2,j6 (c.S M).row (c.S M).gone,.sc (bv (c.H M))]
 | .cl c,d7=>[G0 c.t c.mode c.pad c.back c.k c.xs c.iv d7,.dead,.dead,.dead]
noncomputable abbrev Du (c:Cf) (M:Bs):List B:=[o9 true true c.t c.mode c.pad c.back (f7 c.t c.k c.xs) (.z c.iv.length (bv c.iv)) (.p (.k 1) 0) (.o 1 (.k 5) 0 (c.H M).length) (.z (c.L M).length (bv (c.L M))),j4 (f7 c.t c.k c.xs) (j9 c.mode) c.back (c.S M) 4,.dead,.dead,j6 (c.S M).row (c.S M).gone,.sc (bv (c.H M))]
noncomputable abbrev Dv (c:Cf) (M:Bs):List B:=[o9 true true c.t c.mode c.pad c.back (f7 c.t c.k c.xs) (.z c.iv.length (bv c.iv)) (.p (.k 1) 0) (.o 1 (.k 4) 0 (c.H M).length) (.z (c.L M).length (bv (c.L M))),j4 (f7 c.t c.k c.xs) (j9 c.mode) c.back (c.S M) 2,j6 (c.S M).row (c.S M).gone,.dead,.sc (bv (c.H M))]
noncomputable abbrev rN (c:Cf):List B:=[o9 true true c.t c.mode c.pad c.back (f7 c.t c.k c.xs) (.z c.iv.length (bv c.iv)) (.p (.k 4) 0) i6 (.z c.iv.length (bv c.iv)),.dead,.dead,.dead,j4 (f7 c.t c.k c.xs) (j9 c.mode) c.back ⟨c.iv,[],[]⟩ 5,.dead,.dead]
theorem lQ:¬((2:Int)=1):=by decide
theorem lR:¬((3:Int)=1):=by decide
theorem lW:¬((3:Int)=2):=by decide
theorem lZ:¬((4:Int)=1):=by decide
theorem ma:¬((4:Int)=2):=by decide
theorem mb:¬((4:Int)=3):=by decide
def oS (σ:CX) (d7:Bs) (bs:List B):Prop:=bs=mn σ d7\/(∃c M,σ= .op c (some M)/\bs=Du c M)\/(∃c M,σ= .op c (some M)/\bs=Dv c M)\/(∃c,σ= .op c none/\bs=rN c)
theorem M6 {σ:CX} {x:Cl} {d7:Bs} {r:V} {bs:List B} {o:Bs×Int} {σ':CX} {p6:Bs} (h:a9 C 104 [.p (.k 0) 0,.a (L4 x)] (mn σ d7) (.ret r) bs) (ho:C5 σ x=o) (hn:F8 σ x=σ') (hr:r= .a (R4 ⟨o.1,o.2,rJ σ'⟩)) (hl:oS σ' p6 bs):
  ∃p6 bs,oS (F8 σ x) p6 bs/\a9 C 104 [.p (.k 0) 0,.a (L4 x)] (mn σ d7) (.ret (.a (R4 (X9 σ x)))) bs:=by
 refine⟨p6,bs,by rw[hn];exact hl,?_⟩;have e:X9 σ x=⟨o.1,o.2,rJ σ'⟩:=by unfold X9;rw[ho,hn]
 rw[e,<-hr];exact h
theorem Mx {n:Nat} {σ:CX} {x:Cl} {d7:Bs} (hσ:gq n σ) (hx:iL x) (hb:n+x.inp.length<=100000):
  ∃p6 bs,oS (F8 σ x) p6 bs/\a9 C 104 [.p (.k 0) 0,.a (L4 x)] (mn σ d7) (.ret (.a (R4 (X9 σ x)))) bs:=by
 obtain⟨hk,hx1,hx2,hx3⟩:=hx;by_cases h1:x.kind=1
 ·obtain⟨kind,c,inp⟩:=x;obtain rfl:kind=1:=h1;by_cases he:c.err=0
  ·obtain⟨⟨rs,h⟩,ok⟩:=Cf.ok he hx1;have ho:∀σ,C5 σ ⟨1,c,inp⟩=([],0):=fun σ=>by unfold C5;rw[if_pos rfl,he]
   have hn:∀σ,F8 σ ⟨1,c,inp⟩= .op c none:=fun σ=>by unfold F8;rw[if_pos rfl,if_pos he]
   have L:oS (.op c none) [] (rN c):= .inr (.inr (.inr ⟨c,rfl,rfl⟩));rcases σ with _|⟨d,_|M⟩|d
   ·exact M6 (Ww h rfl hx1 rfl ok) (ho _) (hn _) rfl L
   ·exact M6 (CM (t:=d.t) (mode:=d.mode) (pad:=d.pad) (back:=d.back) (k:=d.k) (xs:=d.xs) (iv:=d.iv) (d7:=d.iv) (st:=⟨d.iv,[],[]⟩) (x:= .n) h rfl hx1 rfl ok) (ho _) (hn _) rfl L
   ·exact M6 (CM (t:=d.t) (mode:=d.mode) (pad:=d.pad) (back:=d.back) (k:=d.k) (xs:=d.xs) (iv:=d.iv) (d7:=d.L M) (st:=d.S M) (x:= .o (d.H M)) h rfl hx1 rfl ok) (ho _) (hn _) rfl L
   ·exact M6 (Wx (t:=d.t) (mode:=d.mode) (pad:=d.pad) (back:=d.back) (k:=d.k) (xs:=d.xs) (iv:=d.iv) (d7:=d7) h rfl hx1 rfl ok) (ho _) (hn _) rfl L
  ·have ho:∀σ,C5 σ ⟨1,c,inp⟩=([],c.err):=fun σ=>by unfold C5;rw[if_pos rfl]
   have hn:∀σ,F8 σ ⟨1,c,inp⟩=σ:=fun σ=>by unfold F8;rw[if_pos rfl,if_neg he]
   rcases σ with _|⟨d,_|M⟩|d
   ·exact M6 (WK rfl hx1 rfl he) (ho _) (hn _) rfl (.inl rfl) (p6:=[])
   ·exact M6 (CQ (t:=d.t) (mode:=d.mode) (pad:=d.pad) (back:=d.back) (k:=d.k) (xs:=d.xs) (iv:=d.iv) (d7:=d.iv) (st:=⟨d.iv,[],[]⟩) (x:= .n) rfl hx1 rfl he) (ho _) (hn _) rfl (.inl rfl) (p6:=[])
   ·exact M6 (CQ (t:=d.t) (mode:=d.mode) (pad:=d.pad) (back:=d.back) (k:=d.k) (xs:=d.xs) (iv:=d.iv) (d7:=d.L M) (st:=d.S M) (x:= .o (d.H M)) rfl hx1 rfl he) (ho _) (hn _) rfl (.inl rfl) (p6:=[])
   ·exact M6 (WL (t:=d.t) (mode:=d.mode) (pad:=d.pad) (back:=d.back) (k:=d.k) (xs:=d.xs) (iv:=d.iv) (d7:=d7) rfl hx1 rfl he) (ho _) (hn _) rfl (.inl rfl)
 by_cases h2:x.kind=2
 ·obtain⟨kind,c,inp⟩:=x;obtain rfl:kind=2:=h2;rcases σ with _|⟨d,m⟩|d
  ·exact M6 (Wy) (by unfold C5;rw[if_neg lQ,if_pos rfl]) (by unfold F8;rw[if_neg lQ,if_pos rfl]) rfl (.inl rfl) (p6:=[])
  ·obtain⟨he,hkl,hml⟩:=hσ;obtain⟨⟨rs,h⟩,ok⟩:=Cf.ok he hkl;have hs:=h.s_le;have hn:F8 (.op d m) ⟨2,c,inp⟩= .op d (some (m.getD []++inp)):=by unfold F8;rw[if_neg lQ,if_pos rfl]
   have ho:C5 (.op d m) ⟨2,c,inp⟩=((d.T (m.getD []++inp)).drop (d.T (m.getD [])).length,0):=by unfold C5;rw[if_neg lQ,if_pos rfl]
   have hb':(m.getD []).length+inp.length<=100000:=Zi (Nat.add_le_add_right hml _) hb;rcases m with _|M
   ·obtain⟨n1,o,hn1,_,hT,U⟩:=ux h (b:=inp) (back:=d.back) (M:=[]) (x:= .n) ok (.inl ⟨rfl,pM⟩) rfl (by simpa using hb');have U:=U.resolve_right (fun hh=>hh.1 (by rw[kn (by omega) ok]));rw[pi (by omega) ok,kn (by omega) ok]at U;have ho':(d.T ([]++inp)).drop (d.T []).length=o:=by rw[show d.T ([]++inp)=d.T []++o from hT,Je]
    refine M6 (o:=(o,0)) (p6:=[]) (CN (t:=d.t) (mode:=d.mode) (pad:=d.pad) (back:=d.back) (k:=d.k) (xs:=d.xs) (iv:=d.iv) (d7:=d.iv) (st:=⟨d.iv,[],[]⟩) (x:= .n) U) (by rw[ho];exact congrArg (fun z=>(z,(0:Int))) ho') hn ?_ (.inr (.inl ⟨d,[]++inp,rfl,rfl⟩));rw[<-hn1];rfl
   ·obtain⟨n1,o,hn1,_,hT,U⟩:=ux h (b:=inp) (back:=d.back) (M:=M) (x:= .o (d.H M)) ok (.inr rfl) rfl hb';have ho':(d.T (M++inp)).drop (d.T M).length=o:=by rw[show d.T (M++inp)=d.T M++o from hT,Je]
    rcases U with U|⟨_,U⟩
    ·refine M6 (o:=(o,0)) (p6:=[]) (CN (t:=d.t) (mode:=d.mode) (pad:=d.pad) (back:=d.back) (k:=d.k) (xs:=d.xs) (iv:=d.iv) (d7:=d.L M) (st:=d.S M) (x:= .o (d.H M)) U) (by rw[ho];exact congrArg (fun z=>(z,(0:Int))) ho') hn ?_ (.inr (.inl ⟨d,M++inp,rfl,rfl⟩));rw[<-hn1];rfl
    ·refine M6 (o:=(o,0)) (p6:=[]) (Wz (t:=d.t) (mode:=d.mode) (pad:=d.pad) (back:=d.back) (k:=d.k) (xs:=d.xs) (iv:=d.iv) (d7:=d.L M) (st:=d.S M) (x:= .o (d.H M)) U) (by rw[ho];exact congrArg (fun z=>(z,(0:Int))) ho') hn ?_ (.inr (.inr (.inl ⟨d,M++inp,rfl,rfl⟩)));rw[<-hn1];rfl
  ·exact M6 (WF (d7:=d7)) (by unfold C5;rw[if_neg lQ,if_pos rfl]) (by unfold F8;rw[if_neg lQ,if_pos rfl]) rfl (.inl rfl)
 by_cases h3:x.kind=3
 ·obtain⟨kind,c,inp⟩:=x;obtain rfl:kind=3:=h3;rcases σ with _|⟨d,m⟩|d
  ·exact M6 (WG) (by unfold C5;rw[if_neg lR,if_neg lW,if_pos rfl]) (by unfold F8;rw[if_neg lR,if_neg lW,if_pos rfl]) rfl (.inl rfl) (p6:=[])
  ·obtain⟨he,hkl,hml⟩:=hσ;obtain⟨⟨rs,h⟩,ok⟩:=Cf.ok he hkl;have hs:=h.s_le;have hn:F8 (.op d m) ⟨3,c,inp⟩= .cl d:=by unfold F8;rw[if_neg lR,if_neg lW,if_pos rfl]
   have ho:C5 (.op d m) ⟨3,c,inp⟩=d.fin (m.getD []):=by unfold C5;rw[if_neg lR,if_neg lW,if_pos rfl]
   rcases m with _|M
   ·obtain⟨_,l',F⟩:=nn h (back:=d.back) (M:=[]) (x:= .n) (r:=d.fin []) ok (.inl ⟨rfl,pM⟩) (by simp) rfl;rw[pi (by omega) ok,kn (by omega) ok]at F;exact M6 (CO (t:=d.t) (mode:=d.mode) (pad:=d.pad) (back:=d.back) (k:=d.k) (xs:=d.xs) (iv:=d.iv) (d7:=d.iv) (st:=⟨d.iv,[],[]⟩) (x:= .n) F) ho hn rfl (.inl rfl)
   ·obtain⟨_,l',F⟩:=nn h (back:=d.back) (M:=M) (x:= .o (d.H M)) (r:=d.fin M) ok (.inr rfl) (Zi (Zi hml (Nat.le_add_right _ _)) hb) rfl;exact M6 (CO (t:=d.t) (mode:=d.mode) (pad:=d.pad) (back:=d.back) (k:=d.k) (xs:=d.xs) (iv:=d.iv) (d7:=d.L M) (st:=d.S M) (x:= .o (d.H M)) F) ho hn rfl (.inl rfl)
  ·exact M6 (WH (d7:=d7)) (by unfold C5;rw[if_neg lR,if_neg lW,if_pos rfl]) (by unfold F8;rw[if_neg lR,if_neg lW,if_pos rfl]) rfl (.inl rfl)
 by_cases h4:x.kind=4
 ·obtain⟨kind,c,inp⟩:=x;obtain rfl:kind=4:=h4;rcases σ with _|⟨d,m⟩|d
  ·exact M6 (WI) (by unfold C5;rw[if_neg lZ,if_neg ma,if_neg mb,if_pos rfl]) (by unfold F8;rw[if_neg lZ,if_neg ma,if_neg mb,if_pos rfl]) rfl (.inl rfl) (p6:=[])
  ·obtain⟨⟨rs,h⟩,ok⟩:=Cf.ok hσ.1 hσ.2.1;have hn:F8 (.op d m) ⟨4,c,inp⟩= .op d none:=by unfold F8;rw[if_neg lZ,if_neg ma,if_neg mb,if_pos rfl]
   have ho:C5 (.op d m) ⟨4,c,inp⟩=([],0):=by unfold C5;rw[if_neg lZ,if_neg ma,if_neg mb,if_pos rfl]
   rcases m with _|M
   ·exact M6 (CP (d7:=d.iv) (st:=⟨d.iv,[],[]⟩) (x:= .n) h ok) ho hn rfl (.inr (.inr (.inr ⟨d,rfl,rfl⟩))) (p6:=[])
   ·exact M6 (CP (d7:=d.L M) (st:=d.S M) (x:= .o (d.H M)) h ok) ho hn rfl (.inr (.inr (.inr ⟨d,rfl,rfl⟩))) (p6:=[])
  ·obtain⟨⟨rs,h⟩,ok⟩:=Cf.ok hσ.1 hσ.2;exact M6 (WJ (d7:=d7) h ok) (by unfold C5;rw[if_neg lZ,if_neg ma,if_neg mb,if_pos rfl]) (by unfold F8;rw[if_neg lZ,if_neg ma,if_neg mb,if_pos rfl]) rfl (.inr (.inr (.inr ⟨d,rfl,rfl⟩))) (p6:=[])
 have ho:∀σ,C5 σ x=([],1):=fun σ=>by unfold C5;rw[if_neg h1,if_neg h2,if_neg h3,if_neg h4]
 have hn:∀σ,F8 σ x=σ:=fun σ=>by unfold F8;rw[if_neg h1,if_neg h2,if_neg h3,if_neg h4]
 rcases σ with _|⟨d,_|M⟩|d
 ·exact M6 (Wu h1 h2 h3 h4) (ho _) (hn _) rfl (.inl rfl) (p6:=[])
 ·exact M6 (CL (d7:=d.iv) (st:=⟨d.iv,[],[]⟩) (x:= .n) h1 h2 h3 h4) (ho _) (hn _) rfl (.inl rfl) (p6:=[])
 ·exact M6 (CL (d7:=d.L M) (st:=d.S M) (x:= .o (d.H M)) h1 h2 h3 h4) (ho _) (hn _) rfl (.inl rfl) (p6:=[])
 ·exact M6 (Wv (d7:=d7) h1 h2 h3 h4) (ho _) (hn _) rfl (.inl rfl)
theorem vh {α β:Type} {f:α->List β} {e:Nat} (hf:∀x,(f x).length=e):∀(l:List α) (i:Nat) (h:i<l.length),sub (l.flatMap f) (i*e) e=f l[i]
 |[],_,h=>absurd h (by simp)
 |x::r,0,_=>by
  show sub ((x::r).flatMap f) (0*e) e=f x;rw[Zs,Nat.zero_mul];unfold sub;rw[List.drop_zero,List.take_append_of_le_length (by rw[hf];exact Z1 _),Jb (by rw[hf];exact Z1 _)]
 |x::r,i+1,h=>by
  have ih:=vh hf r i (by simpa using h);rw[Zs];unfold sub at ih ⊢;rw[show (i+1)*e=(f x).length+i*e by rw[hf,Nat.succ_mul,Nat.add_comm],Z0,Zr (Nat.le_add_right _ _),Zo,Zz];exact ih
theorem vg {α β:Type} {f:α->List β} {e:Nat} (hf:∀x,(f x).length=e):∀(l:List α),(l.flatMap f).length=l.length*e
 |[]=>(Nat.zero_mul e).symm
 |x::r=>by rw[Zs,Zb,hf,vg hf r,List.length_cons,Nat.succ_mul,Nat.add_comm]
theorem a0A {α:Type} {C:m6} {rt:Rt} {m:Nat} {c:Code} {s:S} {K:X->S->Prop} (l:Nat) {p q:Code} (hs:I3 c l=some (p,q)) (I:α->D) (Q:α->Prop) (μ:α->Nat) (h0:vc C rt m p s fun e s'=>match e with
   | .normal=>∃(l:List (Nat×Nat×B)) (y:α),Q y/\ak l 0 s' fun s'=>Mt m s' (I y)
   | .goto l'=>l'=l/\∃y:α,Q y/\Mt m s' (I y)
   |e=>K e s') (h:∀x,Q x->vc C rt m q (I x).s fun e s'=>match e with
   | .goto l'=>l'=l/\∃y:α,Q y/\μ y<μ x/\Mt m s' (I y)
   |e=>K e s'):jB C rt m c s K:=
 ⟨l,α,I,Q,μ,by rw[hs];exact⟨h0,h⟩⟩
noncomputable def rD (n i:Nat) (cs ts:List V) (σ:CX) (d7:Bs):D:=⟨[(0,.zz 8 n cs),(3,.o 3 (.k 4) 0 i),(4,.p (.k 0) 0),(5,i64 i)],mn σ d7++[.pl ts]⟩
noncomputable def Dt (c:Cf) (H L:Bs) (st:MS):List B:=[l9 true c.t c.mode c.pad c.back c.k c.xs c.iv (.o H) L,j4 (f7 c.t c.k c.xs) (j9 c.mode) c.back st 2,j6 st.row st.gone,.sc (bv H)]
theorem XE {c:Cf} {M d7:Bs}:mn (.op c (some M)) d7=Dt c (c.H M) (c.L M) (c.S M):=rfl
noncomputable def XF (n i:Nat) (cs ts:List V) (c:Cf) (H L:Bs) (st:MS):D:=⟨[(0,.zz 8 n cs),(3,.o 3 (.k 4) 0 i),(4,.p (.k 0) 0),(5,i64 i)],Dt c H L st++[.pl ts]⟩
theorem wo {n i:Nat} {cs ts:List V} {c:Cf} {M d7:Bs}:rD n i cs ts (.op c (some M)) d7=XF n i cs ts c (c.H M) (c.L M) (c.S M):=rfl
noncomputable def XK (c:Cf) (H L:Bs) (st:MS):List B:=[o9 true true c.t c.mode c.pad c.back (f7 c.t c.k c.xs) (.z c.iv.length (bv c.iv)) (.p (.k 1) 0) (.o 1 (.k 5) 0 H.length) (.z L.length (bv L)),j4 (f7 c.t c.k c.xs) (j9 c.mode) c.back st 4,.dead,.dead,j6 st.row st.gone,.sc (bv H)]
noncomputable def XL (c:Cf) (H L:Bs) (st:MS):List B:=[o9 true true c.t c.mode c.pad c.back (f7 c.t c.k c.xs) (.z c.iv.length (bv c.iv)) (.p (.k 1) 0) (.o 1 (.k 4) 0 H.length) (.z L.length (bv L)),j4 (f7 c.t c.k c.xs) (j9 c.mode) c.back st 2,j6 st.row st.gone,.dead,.sc (bv H)]
theorem XI {c:Cf} {M:Bs}:Du c M=XK c (c.H M) (c.L M) (c.S M):=rfl
theorem XJ {c:Cf} {M:Bs}:Dv c M=XL c (c.H M) (c.L M) (c.S M):=rfl
theorem DG {l:List Cl} (hl:∀x∈l,iL x):∀i,i<=l.length->gq (1000*i) (X8 .nw (l.take i))
 |0,_=>by rw[List.take_zero];exact trivial
 |i+1,h=>by
  have ih:=DG hl i (by omega);have hx:=hl l[i] (Zq (by omega));rw[Z7,Zp (by omega:i<l.length)];unfold X8 at ih ⊢;rw[Z3,List.foldl_append,List.foldl_cons,List.foldl_nil];have:=ih.next hx;generalize F8 _ _=τ at this ⊢;cases τ with
  |nw=>trivial
  |op c m=>exact⟨this.1,this.2.1,Zi this.2.2 (by have:=hx.2.2.2;omega)⟩
  |cl c=>exact this
theorem XS {l:List Cl} {i:Nat} (h:i<l.length):X8 .nw (l.take (i+1))=F8 (X8 .nw (l.take i)) l[i]/\Q9 .nw (l.take (i+1))=Q9 .nw (l.take i)++[X9 (X8 .nw (l.take i)) l[i]]:=by
 rw[Z7,Zp h,Z3,DE];refine⟨?_,rfl⟩;unfold X8;rw[List.foldl_append];rfl
set_option maxHeartbeats 4000000 in
theorem zF {l:List Cl} {n:Nat} (hn:l.length=n) (hl:∀x∈l,iL x) (hb:n<=99):
  a9 C 46 [.zz 8 n (l.flatMap L4)] [] (.ret (.zz 3 n ((Q9 .nw l).flatMap R4))) []:=by
 subst hn;refine Tj.c ?_;refine a0A (α:=Nat×Bs) 0 rfl (fun p=>rD l.length p.1 (l.flatMap L4) ((Q9 .nw (l.take p.1)).flatMap R4) (X8 .nw (l.take p.1)) p.2) (fun p=>p.1<=l.length) (fun p=>l.length-p.1) ?_ fun p hp=> ?_
 ·refine⟨Int.le_refl _,by omega,by omega,?_⟩;refine⟨[],_,_,_,_,tJ.fg (.keep (.dd (.dd (.dd .nil)))),rfl,rfl,?_⟩;exact⟨[],(0,[]),Zg _,[.d 9 0,.d 9 1,.d 9 2,.d 9 3,.d 8 0],⟨rfl,rfl,rfl,rfl,tq⟩,⟨_,rfl,rfl⟩,⟨_,rfl,rfl⟩,⟨_,rfl,rfl⟩,⟨_,rfl,rfl⟩,⟨_,rfl,rfl⟩,tq⟩
 ·obtain⟨i,d7⟩:=p;show vc _ _ _ _ (rD l.length i (l.flatMap L4) ((Q9 .nw (l.take i)).flatMap R4) (X8 .nw (l.take i)) d7).s _;have hi:i<=l.length:=hp;have ho:=DG hl i hi;have hTl:((Q9 .nw (l.take i)).flatMap R4).length=i*3:=by rw[vg (e:=3) (fun _=>rfl),DF,Zf,Zw hi]
  by_cases d8:i<l.length
  ·obtain⟨s1,s2⟩:=XS d8;obtain⟨p6,bs,hL,ONE⟩:=Mx (d7:=d7) ho (hl l[i] (Zq d8)) (by have:=(hl l[i] (Zq d8)).2.2.2;omega);have hT2:((Q9 .nw (l.take (i+1))).flatMap R4)=((Q9 .nw (l.take i)).flatMap R4)++R4 (X9 (X8 .nw (l.take i)) l[i]):=by rw[s2,List.flatMap_append];rfl
   have hX:sub (l.flatMap L4) (((i:Nat):Int).toNat*8) 8=L4 l[i]:=by rw[Zd];exact vh (f:=L4) (e:=8) (fun _=>rfl) l i d8
   have goal:rD l.length (i+1) (l.flatMap L4) ((Q9 .nw (l.take (i+1))).flatMap R4) (X8 .nw (l.take (i+1))) p6=rD l.length (i+1) (l.flatMap L4) ((Q9 .nw (l.take i)).flatMap R4++R4 (X9 (X8 .nw (l.take i)) l[i])) (F8 (X8 .nw (l.take i)) l[i]) p6:=by rw[hT2,s1]
   clear hT2 s1 s2 ho;generalize X9 (X8 .nw (l.take i)) l[i]=τ at*
   generalize F8 (X8 .nw (l.take i)) l[i]=σ' at*
   generalize (Q9 .nw (l.take i)).flatMap R4=ts at*
   generalize X8 .nw (l.take i)=σ at*
   have hts:sub ts 0 (i*3)++sub (R4 τ) 0 (1*3)=ts++R4 τ:=by rw[C2 hTl];rfl
   rcases hL with h0|⟨d',M',rfl,rfl⟩|⟨d',M',rfl,rfl⟩|⟨d',rfl,rfl⟩;all_goals try (obtain rfl:=h0;rcases σ' with _|⟨d',_|M'⟩|d')
   all_goals rcases σ with _|⟨d,_|M⟩|d
   all_goals try simp only[XE,XI,XJ]at ONE
   all_goals try rw[wo]at goal
   all_goals try rw[wo]
   all_goals try (generalize d.S M=st at *;obtain⟨ch,row,g⟩:=st;rcases row with _|⟨a,r⟩)
   all_goals try (generalize d'.S M'=st' at *;obtain⟨ch',row',g'⟩:=st';rcases row' with _|⟨a',r'⟩)
   all_goals
    refine d9 (fun _=> ?_) (fun hh=>absurd (by omega) hh);refine⟨by omega,by omega,?_⟩;refine⟨L4 l[i],hX,rfl,?_⟩;refine⟨[.k 0,.k 1,.k 2,.k 3],_,_,_,_,ONE,rfl,rfl,?_⟩;refine⟨Za rfl,by omega,by omega,?_⟩;refine⟨rfl,(i+1,p6),d8,by show l.length-(i+1)<l.length-i;omega,sK goal ?_⟩;first
     |exact⟨[.k 0,.k 1,.k 2,.k 3,.d 22 0],⟨rfl,rfl,rfl,f6 (by simp(disch:=omega)only[Zc];omega),tq⟩,⟨_,rfl,rfl⟩,⟨_,rfl,rfl⟩,⟨_,rfl,rfl⟩,⟨_,rfl,rfl⟩,⟨_,rfl,congrArg B.pl hts⟩,tq⟩
     |exact⟨[.k 0,.k 1,.d 20 4,.d 20 5,.d 22 0],⟨rfl,rfl,rfl,f6 (by simp(disch:=omega)only[Zc];omega),tq⟩,⟨_,rfl,rfl⟩,⟨_,rfl,rfl⟩,⟨_,rfl,rfl⟩,⟨_,rfl,rfl⟩,⟨_,rfl,congrArg B.pl hts⟩,tq⟩
     |exact⟨[.k 0,.k 1,.k 2,.d 20 4,.d 22 0],⟨rfl,rfl,rfl,f6 (by simp(disch:=omega)only[Zc];omega),tq⟩,⟨_,rfl,rfl⟩,⟨_,rfl,rfl⟩,⟨_,rfl,rfl⟩,⟨_,rfl,rfl⟩,⟨_,rfl,congrArg B.pl hts⟩,tq⟩
     |exact⟨[.k 0,.d 20 4,.d 20 5,.d 20 6,.d 22 0],⟨rfl,rfl,rfl,f6 (by simp(disch:=omega)only[Zc];omega),tq⟩,⟨_,rfl,rfl⟩,⟨_,rfl,rfl⟩,⟨_,rfl,rfl⟩,⟨_,rfl,rfl⟩,⟨_,rfl,congrArg B.pl hts⟩,tq⟩
  ·have hni:i=l.length:=by omega
   subst hni;rw[Z9]at*
   generalize X8 .nw l=σ at*
   generalize (Q9 .nw l).flatMap R4=ts at*
   rcases σ with _|⟨d,_|M⟩|d;all_goals try rw[wo]
   all_goals try (generalize d.S M=st at *;obtain⟨ch,row,g⟩:=st;rcases row with _|⟨a,r⟩)
   all_goals
    refine d9 (fun hh=>absurd hh (by omega)) (fun _=> ?_);exact⟨_,rfl,[],congrArg (V.zz 3 l.length) (C2 hTl),tq⟩
theorem a9.argz {C:m6} {f e n:Nat} {xs ys:List V} {bs bs':List B} {r:Oc} (h:a9 C f [.zz e n ys] bs r bs') (hw:aS xs ys):a9 C f [.zz e n xs] bs r bs':=
 ⟨h.1,fun w F ι vs st hgl hdm hl=>h.2 w F ι vs st hgl hdm (by
  generalize vs.toList=l at hl;cases hl with
  |cons h1 h2=>
   refine .cons ?_ h2;cases h1 with
   |fz h1=>
    cases h1 with
    |zz0=>cases hw;exact .fz .zz0
    |zz a b c=>exact .fz (.zz a (hw.rf b) c))⟩
theorem xB {w:World} {F:Nat->Prop}:∀(vs:List Value),m7 w F (vs.map .s) vs
 |[]=> .nil
 |_::r=> .cons .s (xB r)
theorem a9.lentS {C:m6} {f e n:Nat} {ys:List V} {r:Oc} {us:List Value} (h:a9 C f [.zz e n ys] [] r []) (hx:sub (us.map .s) 0 (n*e)=ys):a9 C f [.o e (.k 0) 0 n] [.sc us] r [.dead]:=by
 refine⟨h.1,fun w F ι vs st hgl hdm hl=> ?_⟩;have hH:∀{id X},Hof [B.pl (us.map .s)] id=some X->id= .k 0/\X= .pl (us.map .s):=by
  intro id X h;cases id with
  |d=>simp[Hof]at h
  |k k=>
   cases k with
   |zero=>simp[Hof]at h;exact⟨rfl,h.symm⟩
   |succ k=>simp[Hof]at h
 have st2:St w (Lb ι [.sc us]) w F ι (Hof [.pl (us.map .s)]):={
  os:=st.os,tape:=st.tape,output:=st.output,size:=st.size,old:=st.old,shp:=st.shp,fr:=st.fr
  own:=fun id X h hX=>by
   obtain⟨rfl,rfl⟩:=hH h;rcases st.own (.k 0) (.sc us) rfl (by simp)with ⟨h0,hi⟩|⟨b,base,hi,hF,hL,arr,t,fr,hh,hfr,vs,hc,hb⟩
   ·exact .inl ⟨by simpa [B.len]using h0,hi⟩
   ·refine .inr ⟨b,base,hi,hF,hL,arr,t,fr,hh,hfr,vs,hc,?_⟩;have hb:us=vs:=hb;subst hb;exact xB us
  inj:=fun id id' X X' b base base' h _ h' _ _ _=>by
   obtain⟨rfl,_⟩:=hH h;obtain⟨rfl,_⟩:=hH h';rfl}
 have sk:=St.keep st2 (Hr:=Hof [.pl (us.map .s)]) (fun _ _ h=>h) [] List.nodup_nil (bs:=[]) (by simp);have hRL:RL w (Fx F ι (Hof [.pl (us.map .s)]) []) (Ik ι []) [.zz e n ys] vs.toList:=by
  generalize vs.toList=l at hl;cases hl with
  |cons h1 h2=>
   cases h2;refine .cons (.fz ?_) .nil;have:=rP (b9:=[]) st2 (Hr:=Hof [.pl (us.map .s)]) (fun _ _ h=>h) 6 h1;rw[<-hx];exact this
 refine Calls.mono (h.2 w _ (Ik ι []) vs (jO sk) (fun g=>(hgl g).mono fun _=> .inl) (fun id x hx=>by cases id<;>simp[Ik]at hx) hRL) ?_;rintro e' w' ⟨F1,ι1,g1,g2,g3,st1,g5,g6⟩;have hL:∀b,Fx F ι (Hof [.pl (us.map .s)]) [] b->F b\/Lb ι [.sc us] b:=by
  rintro b (h|⟨id,X,base,h1,_,_,h4⟩)
  ·exact .inl h
  ·obtain⟨rfl,rfl⟩:=hH h1;exact .inr ⟨0,.sc us,base,rfl,by simp,h4⟩
 refine⟨F1,ι,fun b hb=>g1 b (.inl hb),fun b hb=> ?_,fun _ _ h=>h,?_,fun id x hx=> ?_,?_⟩
 ·rcases g2 b hb with h|⟨k,X,base,h,_⟩|h
  ·exact(hL b h).imp id .inl
  ·simp at h
  ·exact .inr (.inr h)
 ·refine⟨st1.os,st1.tape,st1.output,st1.size,fun b hb hn=>st1.old b hb ?_,st1.shp,st1.fr,?_,?_⟩
  ·rintro ⟨k,X,base,h,_⟩;simp at h
  ·intro id X h hX;cases id with
   |d=>simp[Hof]at h
   |k k=>
    cases k with
    |zero=>simp[Hof]at h;exact absurd h.symm hX
    |succ k=>simp[Hof]at h
  ·intro id id' X X' b base base' h hX;cases id with
   |d=>simp[Hof]at h
   |k k=>
    cases k with
    |zero=>simp[Hof]at h;exact absurd h.symm hX
    |succ k=>simp[Hof]at h
 ·obtain⟨k,hk,rfl⟩:=hdm id x hx;exact⟨k,hk,rfl⟩
 ·have him:∀id x,ι1 id=some x->ι id=some x:=fun id x h=>by
   obtain⟨k,hk,_⟩:=g5 id x h;simp at hk
  cases r with
  |ret v=>obtain⟨x,he,hR⟩:=g6;exact⟨x,he,R.ev (Ev.refl _ _) (fun _ h=>h) him hR⟩
  |pan v=>obtain⟨x,he,hR⟩:=g6;exact⟨x,he,R.ev (Ev.refl _ _) (fun _ h=>h) him hR⟩
theorem zU {a n:Int} (hn:0<n) (hn2:n<=4611686018427387904) (ha: -9223372036854775808<=a/\a<=9223372036854775807):a9 C 103 [i64 a,i64 n] [] (.ret (i64 (a%n))) []:=by
 refine Qm.c ?_;have h1: -n<a.tmod n:=Int.lt_tmod_of_pos a hn;have h2:a.tmod n<n:=Int.tmod_lt_of_pos a hn;refine⟨by omega,?_⟩;refine d9 (fun h=> ?_) (fun h=> ?_)
 ·refine⟨_,rfl,[],f6 ?_,tq⟩;rw[Zc _ (by omega)];rw[<-eV a n hn,Z5 (a:=a.tmod n+n) (by omega),Int.emod_eq_of_lt (by omega) (by omega)]
 ·refine⟨_,rfl,[],f6 ?_,tq⟩;rw[<-eV a n hn,Z5 (a:=a.tmod n+n) (by omega),Int.add_emod_right,Int.emod_eq_of_lt (by omega) (by omega)]
theorem XQ {x:Cl} (h:x.kind=3):C5 .nw x=([],6)/\F8 .nw x= .nw:=by
 unfold C5 F8;rw[if_neg (by omega),if_neg (by omega),if_pos h,if_neg (by omega),if_neg (by omega),if_pos h];exact⟨rfl,rfl⟩
theorem XP {x:Cl} (σ:CX) (h1:x.kind≠1) (h2:x.kind≠2) (h3:x.kind≠3) (h4:x.kind≠4):C5 σ x=([],1)/\F8 σ x=σ:=by
 unfold C5 F8;rw[if_neg h1,if_neg h2,if_neg h3,if_neg h4,if_neg h1,if_neg h2,if_neg h3,if_neg h4];exact⟨rfl,rfl⟩
def jf (kind:Int):Cl:=⟨kind,⟨0,0,0,false,[],[]⟩,[]⟩
theorem a3h:a9 C 43 [] [] (.ret (bool true)) []:=by
 have R0:=zF (l:=[]) (n:=0) rfl (by simp) (by omega);have ok:∀k:Int,(-9223372036854775808<=k/\k<=9223372036854775807)->iL (jf k):=fun k hk=>⟨hk,Zg _,Zg _,Zg _⟩;have R2:=zF (l:=[jf 3,jf 9]) (n:=2) rfl (by
  intro x hx;rcases Jh.1 hx with rfl|hx
  ·exact ok 3 (by omega)
  ·rcases Jh.1 hx with rfl|hx
   ·exact ok 9 (by omega)
   ·simp at hx) (by omega)
 have e:(Q9 .nw [jf 3,jf 9]).flatMap R4=[.z 0 (bv []),i64 6,i64 0,.z 0 (bv []),i64 1,i64 0]:=by
  obtain⟨o1,s1⟩:=XQ (x:=jf 3) rfl;obtain⟨o2,s2⟩:=XP (x:=jf 9) .nw (show (9:Int)≠1 by decide) (show (9:Int)≠2 by decide) (show (9:Int)≠3 by decide) (show (9:Int)≠4 by decide);unfold Q9 Q9 Q9 X9;rw[s1,o1,o2,s2];rfl
 rw[e]at R2;have R2:=R2.argz (xs:=[i64 3,i64 0,i64 0,i64 0,bool false,i6,i6,i6,i64 9,i64 0,i64 0,i64 0,bool false,i6,i6,i6]) (.cons (.refl _) (.cons (.refl _) (.cons (.refl _) (.cons (.refl _) (.cons (.refl _) (.cons .nl (.cons .nl (.cons .nl (.cons (.refl _) (.cons (.refl _) (.cons (.refl _) (.cons (.refl _) (.cons (.refl _) (.cons .nl (.cons .nl (.cons .nl .nil))))))))))))))));refine Ql.c ?_;refine⟨[.d 4 0],_,_,_,_,a9.lentS (us:=[.int .i64 3,.int .i64 0,.int .i64 0,.int .i64 0,.bool false,.slice none 0 0,.slice none 0 0,.slice none 0 0,.int .i64 9,.int .i64 0,.int .i64 0,.int .i64 0,.bool false,.slice none 0 0,.slice none 0 0,.slice none 0 0]) R2 rfl,rfl,rfl,?_⟩;refine⟨[],_,_,_,_,(a9.args R0 (ys0:=[i6]) (.cons .nlz .nil)),rfl,rfl,?_⟩;refine⟨by omega,by omega,_,rfl,?_⟩;refine⟨by omega,by omega,_,rfl,?_⟩;exact⟨_,rfl,[],rfl,tq⟩
structure RawL where
 kind:Int
 tag:Int
 n:Int
 mode:Int
 pad:Int
 back:Bool
 key:Bs
 iv:Bs
 inp:Bs
 ct:Int
 cm:Int
 cp:Int
 cb:Bool
abbrev rwV (x:RawL):List V:=[i64 x.kind,i64 x.tag,i64 x.n,i64 x.mode,i64 x.pad,bool x.back,.z x.key.length (bv x.key),.z x.iv.length (bv x.iv),.z x.inp.length (bv x.inp),i64 x.ct,i64 x.cm,i64 x.cp,bool x.cb]
def RawOk (x:RawL):Prop:=aP x.kind/\aP x.tag/\aP x.n/\aP x.mode/\aP x.pad
def mT (x:RawL):Prop:=(x.key.length<=100/\x.iv.length<=100)/\x.inp.length<=60
theorem nM {α β:Type} {f:α->List β} {e:Nat} (hf:∀x,(f x).length=e) (l:List α) (i:Nat) (h:i<l.length) (k m:Nat) (hk:k+m<=e):sub (l.flatMap f) (i*e+k) m=sub (f l[i]) k m:=by
 have h0:=vh hf l i h;rw[<-h0];unfold sub;rw[List.drop_take,List.drop_drop,List.take_take,Zw (by omega)]
theorem nL {α β:Type} {f:α->List β} {e:Nat} (hf:∀x,(f x).length=e) (l:List α) (i:Nat) (h:i<l.length) (k:Nat) (hk:k<e):(l.flatMap f)[i*e+k]? =(f l[i])[k]? :=by
 have h0:=congrArg (fun z:List β=>z[0]?) (nM hf l i h k 1 (by omega));unfold sub at h0;simpa using h0
theorem Bo {α:Type} {p:α->Prop}:∀(l:List α),¬(∀x∈l,p x)->∃(m:Nat) (h:m<l.length),¬p l[m]/\∀(j:Nat) (hj:j<m),p (l[j]'(Nat.lt_trans hj h))
 |[],h=>absurd (by simp) h
 |x::r,h=>by
  by_cases hx:p x
  ·obtain⟨m,hm,h1,h2⟩:=Bo r (fun hr=>h (by
    intro y hy;rcases Jh.1 hy with rfl|hy
    ·exact hx
    ·exact hr y hy))
   refine⟨m+1,by simpa using hm,by simpa using h1,fun j hj=> ?_⟩;cases j with
   |zero=>exact hx
   |succ j=>exact h2 j (by omega)
  ·exact⟨0,by simp,hx,fun j hj=>absurd hj (by omega)⟩
theorem a3g {l:List RawL} {n:Nat} (hn:l.length=n) (hb:n<=9223372036854775807) (hf:∀x∈l,mT x):a9 C 44 [.zz 13 n (l.flatMap rwV)] [] (.ret (bool true)) []:=by
 subst hn;refine AK.c ?_;refine m5 (fun i=>⟨[(0,.zz 13 l.length (l.flatMap rwV)),(3,i64 i)],[]⟩) l.length ⟨[],⟨rfl,rfl,tq⟩,tq⟩ fun i hi=> ?_;refine d9 (fun d8=> ?_) (fun hge=> ?_)
 ·have hl:i<l.length:=by omega
  have hF:=hf l[i] (Zq hl);have e1:sub (l.flatMap rwV) (((i:Nat):Int).toNat*13+1) 7=sub (rwV l[i]) 1 7:=by rw[Zd];exact nM (f:=rwV) (e:=13) (fun _=>rfl) l i hl 1 7 (by decide)
  have e8:(l.flatMap rwV)[((i:Nat):Int).toNat*13+8]? =(rwV l[i])[8]? :=by rw[Zd];exact nL (f:=rwV) (e:=13) (fun _=>rfl) l i hl 8 (by decide)
  refine⟨by omega,by omega,?_⟩;refine⟨_,e1,rfl,?_⟩;refine⟨[],_,_,_,_,yX (tag:=l[i].tag) (n:=l[i].n) (mode:=l[i].mode) (pad:=l[i].pad) (back:=l[i].back) (k:=l[i].key) (iv:=l[i].iv) hF.1,rfl,rfl,?_⟩;refine⟨by omega,by omega,?_⟩;refine⟨_,e8,?_⟩;refine d9 (fun hh=>absurd hh (by have:=hF.2;omega)) (fun _=> ?_);exact⟨i+1,by omega,by omega,[],⟨rfl,f6 (by simp(disch:=omega)only[Zc];omega),tq⟩,tq⟩
 ·exact⟨_,rfl,[],rfl,tq⟩
theorem a3f {l:List RawL} {n:Nat} (hn:l.length=n) (hb:n<=9223372036854775807) (hf:¬∀x∈l,mT x):a9 C 44 [.zz 13 n (l.flatMap rwV)] [] (.ret (bool false)) []:=by
 subst hn;obtain⟨m,hm,hm1,hm2⟩:=Bo l hf;refine AK.c ?_;refine m5 (fun i=>⟨[(0,.zz 13 l.length (l.flatMap rwV)),(3,i64 i)],[]⟩) m ⟨[],⟨rfl,rfl,tq⟩,tq⟩ fun i hi=> ?_;have hl:i<l.length:=by omega
 have e1:sub (l.flatMap rwV) (((i:Nat):Int).toNat*13+1) 7=sub (rwV l[i]) 1 7:=by rw[Zd];exact nM (f:=rwV) (e:=13) (fun _=>rfl) l i hl 1 7 (by decide)
 have e8:(l.flatMap rwV)[((i:Nat):Int).toNat*13+8]? =(rwV l[i])[8]? :=by rw[Zd];exact nL (f:=rwV) (e:=13) (fun _=>rfl) l i hl 8 (by decide)
 refine d9 (fun d8=> ?_) (fun hge=>absurd (by omega) hge);refine⟨by omega,by omega,?_⟩;refine⟨_,e1,rfl,?_⟩;by_cases h1:l[i].key.length<=100/\l[i].iv.length<=100
 ·refine⟨[],_,_,_,_,yX (tag:=l[i].tag) (n:=l[i].n) (mode:=l[i].mode) (pad:=l[i].pad) (back:=l[i].back) (k:=l[i].key) (iv:=l[i].iv) h1,rfl,rfl,?_⟩;refine⟨by omega,by omega,?_⟩;refine⟨_,e8,?_⟩;refine d9 (fun hh=> ?_) (fun hh=> ?_)
  ·exact⟨_,rfl,[],rfl,tq⟩
  ·have hF:mT l[i]:=⟨h1,by omega⟩;have hne:i≠m:=fun e=>by subst e;exact hm1 hF
   exact⟨i+1,by omega,by omega,[],⟨rfl,f6 (by simp(disch:=omega)only[Zc];omega),tq⟩,tq⟩
 ·refine⟨[],_,_,_,_,JJ (tag:=l[i].tag) (n:=l[i].n) (mode:=l[i].mode) (pad:=l[i].pad) (back:=l[i].back) (k:=l[i].key) (iv:=l[i].iv) h1,rfl,rfl,?_⟩;exact⟨_,rfl,[],rfl,tq⟩
def ic:List Int:=[1,2,2,2,2,2,3,3,4,1,0,5]
def eN (x:RawL):Int:=if ic.getD (x.kind%12).toNat 0=0 then (if 1<=x.kind/\x.kind<=4 then 7 else x.kind)else ic.getD (x.kind%12).toNat 0
noncomputable def ia (x:RawL):Cf:=if (x.kind.tdiv 12)%9=0 then ⟨x.ct,x.cm,x.cp,x.cb,aW (C3 x.tag) x.n x.key,bN (O7 x.mode) (q9 (C3 x.tag)).toNat x.iv⟩else ⟨C3 x.tag,O7 x.mode,jX x.mode x.pad,x.back,aW (C3 x.tag) x.n x.key,bN (O7 x.mode) (q9 (C3 x.tag)).toNat x.iv⟩
noncomputable def dB (x:RawL):Cl:=⟨eN x,ia x,x.inp⟩
noncomputable abbrev ib (l:List RawL):List Cl:=(l.take 25).map dB
theorem Af {H:Hp} {b9:List Id} {n:Nat}:∀(l:List Cl),(l.flatMap L4).map (o5 H b9 (n+1))=l.flatMap L4
 |[]=>rfl
 |x::r=>by rw[Zs,Z2,Af r];rfl
theorem Ag {H:Hp} {b9:List Id} {n:Nat}:∀(l:List Cl),(l.flatMap L4).map (E9 H b9 (n+1))=l.flatMap L4
 |[]=>rfl
 |x::r=>by rw[Zs,Z2,Ag r];rfl
theorem z3 (l:Bs):V.z (0+l.length) (sub (sub ([]:List Value) 0 (0*1)++bv l) 0 (0+l.length))=V.z l.length (bv l):=by
 rw[Nat.zero_add,show sub ([]:List Value) 0 (0*1)++bv l=bv l from rfl,g8 rfl]
theorem Wc (j:Nat) (h:j<12):([.int .i64 1,.int .i64 2,.int .i64 2,.int .i64 2,.int .i64 2,.int .i64 2,.int .i64 3,.int .i64 3,.int .i64 4,.int .i64 1,.int .i64 0,.int .i64 5]:List Value)[j]? =some (.int .i64 (ic.getD j 0)):=by
 rcases j with _|_|_|_|_|_|_|_|_|_|_|_|j<;>first|rfl|omega
theorem a07 {x:Int} (h:aP x):I6.wrap (x.tdiv 12)=x.tdiv 12/\(-9223372036854775808<=I6.wrap (x.tdiv 12)/\I6.wrap (x.tdiv 12)<=9223372036854775807):=by
 unfold aP at h;have e:I6.wrap (x.tdiv 12)=x.tdiv 12:=Zc _ (by
  have h1:(x.tdiv 12).natAbs=x.natAbs/12:=Int.natAbs_tdiv x 12;omega)
 exact⟨e,by rw[IntKind.wrap_i64];omega⟩
set_option maxHeartbeats 4000000 in
theorem a3i {l:List RawL} {n:Nat} (hn:l.length=n) (hb:n<=9223372036854775807) (hr:∀x∈l,RawOk x) (hf:∀x∈l,mT x):
  a9 C 45 [.zz 13 n (l.flatMap rwV)] [] (.ret (.t [.zz 8 (ib l).length ((ib l).flatMap L4),.zz 8 (ib l).length ((ib l).flatMap L4)])) []:=by
 subst hn;obtain⟨N0,hN0⟩:∃N0,N0=min l.length 25:=⟨_,rfl⟩;have hml:(ib l).length=N0:=by rw[Jd,Zf,hN0,Nat.min_comm]
 have hmt:(l.take N0).map dB=ib l:=by
  have:l.take N0=l.take 25:=by rw[hN0,Nat.min_comm,<-List.take_take,Z9]
  rw[this]
 obtain⟨cs,hcs⟩:∃cs:Nat->List V,cs=fun i=>((l.take i).map dB).flatMap L4:=⟨_,rfl⟩;have hcl:∀i,i<=l.length->(cs i).length=i*8:=fun i hi=>by rw[hcs];show(((l.take i).map dB).flatMap L4).length=_;rw[vg (e:=8) (fun _=>rfl),Jd,Zf,Zw hi]
 have hcn:∀i (hi:i<l.length),cs (i+1)=cs i++L4 (dB l[i]):=fun i hi=>by
  rw[hcs];show((l.take (i+1)).map dB).flatMap L4=_;rw[Z7,Zp hi,Z3,Z2,List.flatMap_append];rfl
 have hcd:∀i (H:Hp) (b9:List Id) (k:Nat),(cs i).map (o5 H b9 (k+1))=cs i:=fun i H b9 k=>by rw[hcs];exact Af _
 have hcp:∀i (H:Hp) (b9:List Id) (k:Nat),(cs i).map (E9 H b9 (k+1))=cs i:=fun i H b9 k=>by rw[hcs];exact Ag _
 refine Qk.c ?_;refine D6 (fun i=>⟨[(0,.zz 13 l.length (l.flatMap rwV)),(4,.o 8 (.k 0) 0 i),(5,.o 8 (.k 1) 0 i),(6,i64 i)],[.mx (cs i),.pl (cs i)]⟩) N0 [(4,8,.mx []),(5,8,.pl [])] ⟨[.d 900000 0,.d 900000 1],⟨rfl,rfl,rfl,rfl,tq⟩,⟨_,rfl,by rw[hcs];rfl⟩,⟨_,rfl,by rw[hcs];rfl⟩,tq⟩ fun i hi=> ?_;refine d9 (fun d8=> ?_) (fun hge=> ?_)
 ·refine d9 (fun h25=> ?_) (fun h25=> ?_)
  ·have hl:i<l.length:=by omega
   obtain⟨r0,r1,r2,r3,r4⟩:=hr l[i] (Zq hl);obtain⟨f1,f2⟩:=hf l[i] (Zq hl);have e0:(l.flatMap rwV)[((i:Nat):Int).toNat*13+0]? =(rwV l[i])[0]? :=by rw[Zd];exact nL (f:=rwV) (e:=13) (fun _=>rfl) l i hl 0 (by decide)
   have e8:(l.flatMap rwV)[((i:Nat):Int).toNat*13+8]? =(rwV l[i])[8]? :=by rw[Zd];exact nL (f:=rwV) (e:=13) (fun _=>rfl) l i hl 8 (by decide)
   have e1:sub (l.flatMap rwV) (((i:Nat):Int).toNat*13+1) 7=sub (rwV l[i]) 1 7:=by rw[Zd];exact nM (f:=rwV) (e:=13) (fun _=>rfl) l i hl 1 7 (by decide)
   have e9:sub (l.flatMap rwV) (((i:Nat):Int).toNat*13+9) 4=sub (rwV l[i]) 9 4:=by rw[Zd];exact nM (f:=rwV) (e:=13) (fun _=>rfl) l i hl 9 4 (by decide)
   have hcl0:=hcl i (by omega);have hcn0:=hcn i hl;have hmC:dB l[i]=⟨eN l[i],ia l[i],l[i].inp⟩:=rfl;have hmK:eN l[i]=if ic.getD (l[i].kind%12).toNat 0=0 then (if 1<=l[i].kind/\l[i].kind<=4 then 7 else l[i].kind)else ic.getD (l[i].kind%12).toNat 0:=rfl;have hmF:ia l[i]=if (l[i].kind.tdiv 12)%9=0 then ⟨l[i].ct,l[i].cm,l[i].cp,l[i].cb,aW (C3 l[i].tag) l[i].n l[i].key,bN (O7 l[i].mode) (q9 (C3 l[i].tag)).toNat l[i].iv⟩else ⟨C3 l[i].tag,O7 l[i].mode,jX l[i].mode l[i].pad,l[i].back,aW (C3 l[i].tag) l[i].n l[i].key,bN (O7 l[i].mode) (q9 (C3 l[i].tag)).toNat l[i].iv⟩:=rfl;rw[hmC]at hcn0;obtain⟨s,q,xs,rs,h⟩:=yk l[i].tag l[i].n l[i].key;have hs:=h.s_le;have hM:=HI (back:=l[i].back) r1 r2 r3 r4 (rfl:l[i].key.length=_) (rfl:l[i].iv.length=_) h.hs hs.2;have lK:=vG (C3 l[i].tag) l[i].n l[i].key;have lV:=BH (O7 l[i].mode) s l[i].iv;have hkl:=vF (jG l[i].tag) l[i].n;have es:(q9 (C3 l[i].tag)).toNat=s:=by rw[h.hs];rfl
   rw[es]at hmF;rw[<-lK,<-lV]at hM;have hKb:(aW (C3 l[i].tag) l[i].n l[i].key).length<=1000:=by omega
   have hVb:(bN (O7 l[i].mode) s l[i].iv).length<=1000:=by rw[lV];unfold gS;split<;>omega
   clear hcs hmC lK lV;generalize hrw:l.flatMap rwV=rw0 at*
   generalize hx:l[i]=x at*
   generalize aW (C3 x.tag) x.n x.key=K at*
   generalize bN (O7 x.mode) s x.iv=W at*
   have m0:=Int.emod_nonneg x.kind (show (12:Int)≠0 by decide);have m12:=Int.emod_lt_of_pos x.kind (show (0:Int)<12 by decide);obtain⟨ew,wb⟩:=a07 r0;have b1:(0:Int)<=(i:Int):=Int.natCast_nonneg i;have c1:0+K.length<=1073741824:=by omega
   have c2:0+W.length<=1073741824:=by omega
   have c3:0+x.inp.length<=1073741824:=by omega
   have c4:i+1<=1073741824:=by omega
   have c5:0+i*8<=(cs i).length:=by omega
   have c6:i+1<=N0:=by omega
   have c7:N0-(i+1)<N0-i:=by omega
   have c8:I6.wrap ((i:Int)+1)=((i+1:Nat):Int):=by rw[Zc _ (by omega)];omega
   refine⟨b1,d8,?_⟩;refine⟨_,e0,?_⟩;refine⟨[],_,_,_,_,zU (n:=12) (by omega) (by omega) r0,rfl,rfl,?_⟩;refine⟨m0,m12,?_⟩;obtain⟨tv,htv⟩:∃tv,ic.getD (x.kind%12).toNat 0=tv:=⟨_,rfl⟩;rw[htv]at hmK;refine⟨.int .i64 tv,by rw[Nat.zero_add,Zy,<-htv];exact Wc _ (by omega),?_⟩;refine⟨b1,d8,?_⟩;refine⟨_,e8,?_⟩;refine⟨Za rfl,?_⟩;refine⟨b1,d8,?_⟩;refine⟨_,e1,rfl,?_⟩;refine⟨[],_,_,_,_,hM,rfl,rfl,?_⟩;refine⟨Za rfl,?_⟩;refine⟨Za rfl,?_⟩;refine⟨Za rfl,?_⟩;refine⟨b1,d8,?_⟩;refine⟨_,e0,?_⟩;refine⟨by decide,?_⟩;refine⟨[],_,_,_,_,zU (n:=9) (by omega) (by omega) wb,rfl,rfl,?_⟩;have F2:(x.kind.tdiv 12%9=0/\ia x=⟨x.ct,x.cm,x.cp,x.cb,K,W⟩)\/(¬x.kind.tdiv 12%9=0/\ia x=⟨C3 x.tag,O7 x.mode,jX x.mode x.pad,x.back,K,W⟩):=by
    by_cases h:x.kind.tdiv 12%9=0
    ·exact .inl ⟨h,hmF.trans (if_pos h)⟩
    ·exact .inr ⟨h,hmF.trans (if_neg h)⟩
   have K4:(tv≠0/\eN x=tv)\/(tv=0/\1<=x.kind/\x.kind<=4/\eN x=7)\/(tv=0/\1<=x.kind/\¬x.kind<=4/\eN x=x.kind)\/(tv=0/\¬1<=x.kind/\eN x=x.kind):=by
    by_cases h0:tv=0
    ·rw[if_pos h0]at hmK;by_cases h1:1<=x.kind
     ·by_cases h2:x.kind<=4
      ·exact .inr (.inl ⟨h0,h1,h2,hmK.trans (if_pos ⟨h1,h2⟩)⟩)
      ·exact .inr (.inr (.inl ⟨h0,h1,h2,hmK.trans (if_neg (fun hh=>h2 hh.2))⟩))
     ·exact .inr (.inr (.inr ⟨h0,h1,hmK.trans (if_neg (fun hh=>h1 hh.1))⟩))
    ·exact .inl ⟨h0,hmK.trans (if_neg h0)⟩
   clear hmK hmF hkl htv r0 r1 r2 r3 r4 f1 f2 hr hf hcl hcn hcp hb hN0 hml hmt;rw[<-ew]at F2;rcases F2 with ⟨h9,hF⟩|⟨h9,hF⟩<;>rcases K4 with ⟨h0,hK⟩|⟨h0,h1,h2,hK⟩|⟨h0,h1,h2,hK⟩|⟨h0,h1,hK⟩;all_goals
    rw[hF,hK]at hcn0;first
     |refine j5 (fun _=> ?_) (fun hh=>absurd h9 hh)
      refine⟨b1,d8,?_⟩;refine⟨_,e9,rfl,?_⟩;refine⟨Za rfl,?_⟩
     |refine j5 (fun hh=>absurd hh h9) (fun _=> ?_)
    refine⟨_,rfl,?_⟩;first
     |refine j5 (fun hh=>absurd hh h0) (fun _=> ?_)
     |refine j5 (fun _=> ?_) (fun hh=>absurd h0 hh)
      refine⟨b1,d8,?_⟩;refine⟨_,e0,?_⟩;refine⟨Za rfl,?_⟩;refine⟨_,rfl,?_⟩;first
       |refine d9 (fun _=> ?_) (fun hh=>absurd h1 hh)
        refine⟨_,rfl,?_⟩;first
         |refine d9 (fun _=> ?_) (fun hh=>absurd h2 hh)
          refine⟨Za rfl,?_⟩
         |refine d9 (fun hh=>absurd hh h2) (fun _=> ?_)
       |refine d9 (fun hh=>absurd hh h1) (fun _=> ?_)
    refine⟨_,rfl,?_⟩;refine⟨_,rfl,rfl,?_⟩;refine⟨_,rfl,?_⟩;refine⟨i9 _,c1,Z1 _,?_⟩;refine⟨_,rfl,?_⟩;refine⟨i9 _,c2,Z1 _,?_⟩;refine⟨_,rfl,?_⟩;refine⟨i9 _,c3,Z1 _,?_⟩;refine⟨Za rfl,c4,c5,?_⟩;refine⟨_,rfl,rfl,?_⟩;refine⟨Za rfl,c4,c5,?_⟩;refine⟨i+1,c6,c7,[.d 97 0,.d 101 0],⟨rfl,rfl,rfl,f6 c8,tq⟩,⟨_,rfl,congrArg B.mx ?_⟩,⟨_,rfl,congrArg B.pl ?_⟩,tq⟩
    ·rw[Z2,C2 hcl0,hcd,hcn0];refine congrArg (cs i++ ·) ?_;show[_,_,_,_,_,V.z (0+K.length) _,V.z (0+W.length) _,V.z (0+x.inp.length) _]=_;rw[z3,z3,z3];rfl
    ·rw[C2 hcl0,hcn0];rfl
  ·have he:i=N0:=by omega
   subst he;refine⟨_,rfl,[],?_,tq⟩;show V.t [V.zz 8 i ((sub (cs i) 0 (i*8)).map _),V.zz 8 i (sub (cs i) 0 (i*8))]=_;rw[C2 (hcl i (by omega)),hcp,hml,hcs];show V.t [V.zz 8 i (((l.take i).map dB).flatMap L4),V.zz 8 i (((l.take i).map dB).flatMap L4)]=_;rw[hmt]
 ·have he:i=N0:=by omega
  subst he;refine⟨_,rfl,[],?_,tq⟩;show V.t [V.zz 8 i ((sub (cs i) 0 (i*8)).map _),V.zz 8 i (sub (cs i) 0 (i*8))]=_;rw[C2 (hcl i (by omega)),hcp,hml,hcs];show V.t [V.zz 8 i (((l.take i).map dB).flatMap L4),V.zz 8 i (((l.take i).map dB).flatMap L4)]=_;rw[hmt]
theorem a3n {l:List RawL} (hf:∀x∈l,mT x) (hr:∀x∈l,RawOk x):∀x∈ib l,iL x:=by
 intro y hy;obtain⟨x,hx,rfl⟩:=List.mem_map.1 hy;have hx:=List.mem_of_mem_take hx;obtain⟨r0,_⟩:=hr x hx;obtain⟨_,f2⟩:=hf x hx;have hK:(ia x).key.length<=1000/\(ia x).iv.length<=1000:=by
  have lK:=vG (C3 x.tag) x.n x.key;have hkl:=vF (jG x.tag) x.n;have lV:=BH (O7 x.mode) (q9 (C3 x.tag)).toNat x.iv;obtain⟨s,q,xs,rs,h⟩:=yk x.tag x.n x.key;have hs:=h.s_le;have es:(q9 (C3 x.tag)).toNat=s:=by rw[h.hs];rfl
  have hV:gS (O7 x.mode) (q9 (C3 x.tag)).toNat<=1000:=by rw[es];unfold gS;split<;>omega
  unfold ia;split
  ·exact⟨by show(aW _ _ _).length<=_;omega,by show(bN _ _ _).length<=_;omega⟩
  ·exact⟨by show(aW _ _ _).length<=_;omega,by show(bN _ _ _).length<=_;omega⟩
 refine⟨?_,hK.1,hK.2,Zi f2 (by decide)⟩;show -9223372036854775808<=eN x/\eN x<=9223372036854775807;unfold aP at r0;unfold eN;have m0:=Int.emod_nonneg x.kind (show (12:Int)≠0 by decide);have m12:=Int.emod_lt_of_pos x.kind (show (0:Int)<12 by decide);have ht:∀j:Nat,j<12->0<=ic.getD j 0/\ic.getD j 0<=5:=by
  intro j hj;rcases j with _|_|_|_|_|_|_|_|_|_|_|_|j<;>first|exact⟨by decide,by decide⟩|omega
 have:=ht (x.kind%12).toNat (by omega);split
 ·split<;>omega
 ·omega
theorem a3m (l:List RawL):(ib l).length<=25:=by rw[Jd,Zf];omega
theorem a3r {ts:List To} {i:Nat} (h:i<ts.length) (k:Nat) (hk:k<3) {j:Nat} (hj:j=i*3+k):(ts.flatMap R4)[j]? =(R4 ts[i])[k]? :=by
 subst hj;exact nL (f:=R4) (e:=3) (fun _=>rfl) ts i h k hk
theorem Wg {n:Nat} {md mode pad:Int} {back:Bool} (hn:n<=16):D9 n md mode pad back<=32:=by
 unfold D9;split
 ·omega
 ·split
  ·omega
  ·split<;>omega
theorem XR {n:Nat} {σ:CX} (h:gq n σ):rJ σ<=32:=by
 rcases σ with _|⟨c,_|M⟩|c
 ·exact Zg _
 ·exact Zg _
 ·obtain⟨⟨rs,hc⟩,ok⟩:=Cf.ok h.1 h.2.1;have hs:=hc.s_le;have h1:=(uw (back:=c.back) (by omega) ok M.length).1;have h2:=Wg (md:=j9 c.mode) (mode:=c.mode) (pad:=c.pad) (back:=c.back) hs.2;show(o8 c.s c.mode c.pad c.back M).length<=32;rw[gF];omega
 ·exact Zg _
theorem a3o {n:Nat} {σ:CX} {x:Cl} (h:gq n σ) (hx:iL x) (hb:n+x.inp.length<=100000):
  (X9 σ x).held<=32/\((X9 σ x).e≠0->(X9 σ x).out=[])/\(x.kind=2->(X9 σ x).out.length<=x.inp.length+16)/\(x.kind=3->(X9 σ x).out.length<=32)/\(x.kind≠2->x.kind≠3->(X9 σ x).out=[]):=by
 refine⟨XR (h.next hx),?_⟩;show((C5 σ x).2≠0->(C5 σ x).1=[])/\(x.kind=2->(C5 σ x).1.length<=x.inp.length+16)/\(x.kind=3->(C5 σ x).1.length<=32)/\(x.kind≠2->x.kind≠3->(C5 σ x).1=[]);by_cases h2:x.kind=2
 ·have on:∀σ,(∀c m,σ≠ .op c m)->C5 σ x=([],6):=fun σ hσ=>by
   unfold C5;rw[if_neg (by omega),if_pos h2];cases σ with
   |op c m=>exact absurd rfl (hσ c m)
   |nw=>rfl
   |cl c=>rfl
  have oo:∀c m,C5 (.op c m) x=((c.T (m.getD []++x.inp)).drop (c.T (m.getD [])).length,0):=fun c m=>by
   unfold C5;rw[if_neg (by omega),if_pos h2]
  refine⟨?_,fun _=> ?_,fun h3=>by omega,fun hh=>absurd h2 hh⟩
  ·cases σ with
   |op c m=>rw[oo];exact fun hh=>absurd rfl hh
   |nw=>rw[on _ (by simp)];exact fun _=>rfl
   |cl c=>rw[on _ (by simp)];exact fun _=>rfl
  ·cases σ with
   |nw=>rw[on _ (by simp)];exact Zg _
   |cl c=>rw[on _ (by simp)];exact Zg _
   |op c m=>
    rw[oo];obtain⟨⟨rs,hc⟩,ok⟩:=Cf.ok h.1 h.2.1;have hs:=hc.s_le;have h0:0<c.s:=by omega
    show((c.T (m.getD []++x.inp)).drop (c.T (m.getD [])).length).length<=_;generalize m.getD []=M;have t1:(c.T (M++x.inp)).length=_:=jh (back:=c.back) (M:=M++x.inp) hc.ci h0 ok;have t2:(c.T M).length=_:=jh (back:=c.back) (M:=M) hc.ci h0 ok;have f1:=(cA (back:=c.back) h0 ok M.length).1;have f2:=(cA (back:=c.back) h0 ok (M++x.inp).length).1;have g1:=(uw (back:=c.back) h0 ok M.length).1;have g2:=(uw (back:=c.back) h0 ok (M++x.inp).length).2;have ad:=uu (back:=c.back) h0 ok M.length x.inp.length;rw[<-Zb]at ad;have gr:o6 c.s (j9 c.mode)<=c.s:=by rcases (kH (back:=c.back) h0 ok).2.2 with hh|hh<;>omega
    have:=(Vg (s:=c.s) (L:=M.length) (m:=x.inp.length) (L':=(M++x.inp).length) (n:=t5 c.s c.mode c.pad c.back (M++x.inp).length-t5 c.s c.mode c.pad c.back M.length) Zb (by omega) f1 f2 g1 g2 gr).1;rw[Zh,t1,t2];omega
 ·by_cases h3:x.kind=3
  ·have on:∀σ,(∀c m,σ≠ .op c m)->C5 σ x=([],6):=fun σ hσ=>by
    unfold C5;rw[if_neg (by omega),if_neg h2,if_pos h3];cases σ with
    |op c m=>exact absurd rfl (hσ c m)
    |nw=>rfl
    |cl c=>rfl
   have oo:∀c m,C5 (.op c m) x=c.fin (m.getD []):=fun c m=>by
    unfold C5;rw[if_neg (by omega),if_neg h2,if_pos h3]
   cases σ with
   |nw=>rw[on _ (by simp)];exact⟨fun _=>rfl,fun hh=>absurd hh h2,fun _=>Zg _,fun _ hh=>absurd h3 hh⟩
   |cl c=>rw[on _ (by simp)];exact⟨fun _=>rfl,fun hh=>absurd hh h2,fun _=>Zg _,fun _ hh=>absurd h3 hh⟩
   |op c m=>
    rw[oo];obtain⟨⟨rs,hc⟩,ok⟩:=Cf.ok h.1 h.2.1;have hs:=hc.s_le;have h5:(m.getD []).length<=100000:=Zi h.2.2 (by omega);obtain⟨r1,_⟩:=nn hc (back:=c.back) (M:=m.getD []) (x:= .o (c.H (m.getD []))) (r:=c.fin (m.getD [])) ok (.inr rfl) h5 rfl;have r2:=(uv (M:=m.getD []) (back:=c.back) hc.ci (by omega) ok (rfl:c.fin (m.getD [])=_)).2;exact⟨r2,fun hh=>absurd hh h2,fun _=>by show(c.fin (m.getD [])).1.length<=32;omega,fun _ hh=>absurd h3 hh⟩
  ·have ho:(C5 σ x).1=[]:=by
    unfold C5;by_cases h1:x.kind=1
    ·rw[if_pos h1]
    ·rw[if_neg h1,if_neg h2,if_neg h3];by_cases h4:x.kind=4
     ·rw[if_pos h4];cases σ<;>rfl
     ·rw[if_neg h4]
   exact⟨fun _=>ho,fun hh=>absurd hh h2,fun hh=>absurd hh h3,fun _ _=>ho⟩
def wG (cv:V) (t mode pad md:Int) (back:Bool) (iv:Bs) (ps:List (Bs)) (i:Nat) (st:MS) (la H T:Bs):D:=
 ⟨[(10,.p (.k 0) 0),(28,.zz 1 ps.length (ps.map zc)),(29,i64 ps.length),(12,.o 1 (.k 6) 0 T.length),(30,i64 i)],
  [o9 true true t mode pad back cv (.z iv.length (bv iv)) (.p (.k 1) 0) (.o 1 (.k 5) 0 H.length) (.z la.length (bv la)),j4 cv md back st 4,.dead,.dead,j6 st.row st.gone,.sc (bv H),.sc (bv T)]⟩
def DO (cv:V) (t mode pad md:Int) (back:Bool) (k:Nat) (xs:List V) (iv:Bs) (ps:List (Bs)) (A:Nat->MS×Bs×Bs×Bs):Nat->D
 |0=>⟨[(10,.p (.k 0) 0),(28,.zz 1 ps.length (ps.map zc)),(29,i64 ps.length),(12,.o 1 (.k 4) 0 0),(30,i64 0)],[l9 true t mode pad back k xs iv .n iv,j4 cv md back ⟨iv,[],[]⟩ 2,.dead,.dead,.sc []]⟩
 |i+1=>wG cv t mode pad md back iv ps (i+1) (A (i+1)).1 (A (i+1)).2.1 (A (i+1)).2.2.1 (A (i+1)).2.2.2
theorem wF {cv:V} {t mode pad md:Int} {back:Bool} {k:Nat} {xs:List V} {iv:Bs} {ps:List (Bs)} {A:Nat->MS×Bs×Bs×Bs} {i:Nat} {st:MS} {la H T:Bs} (e:A (i+1)=(st,la,H,T)):
  DO cv t mode pad md back k xs iv ps A (i+1)=wG cv t mode pad md back iv ps (i+1) st la H T:=by
 show wG cv t mode pad md back iv ps (i+1) (A (i+1)).1 (A (i+1)).2.1 (A (i+1)).2.2.1 (A (i+1)).2.2.2=_;rw[e]
theorem mP (T:Bs):V.z T.length (sub (bv T) 0 T.length)=V.z T.length (bv T):=by rw[g8 rfl]
theorem MP {t key s k xs rs} (h:k9 t key s k xs rs) {mode pad:Int} {back:Bool} {lk li:Nat} {iv:Bs} (hk:key.length=lk) (hlk:lk<=1000) (hi:iv.length=li) (ok:D0 s mode pad iv) {ps:List (Bs)} {r:Bs×Int} (hps:ps.flatten.length<=100000) (hpn:ps.length<=100000)
  (hr:r=jg (cF t key false) (cF t key true) s mode pad back (cS t key s mode pad back iv ps.flatten) (cL t key s mode pad back iv ps.flatten) (o8 s mode pad back ps.flatten)):
  a9 C 49 [D2 t mode pad back,.z lk (bv key),.z li (bv iv),.zz 1 ps.length (ps.map zc)] [] (.ret (bV (if r.2=0 then cT t key s mode pad back iv ps.flatten++r.1 else [],r.2))) []:=by
 have hs:=h.s_le;have hc0:B3 ps 0=[]:=by unfold B3;rw[List.take_zero];rfl
 obtain⟨A,hA⟩:∃A:Nat->MS×Bs×Bs×Bs,A=fun i=>(cS t key s mode pad back iv (B3 ps i),cL t key s mode pad back iv (B3 ps i),o8 s mode pad back (B3 ps i),cT t key s mode pad back iv (B3 ps i)):=⟨_,rfl⟩;obtain⟨e1,e2⟩:=uv (M:=ps.flatten) h.ci (by omega) ok hr;have is:r.2≠0->r.1.length=0:=fun hh=>by rw[e2 hh];rfl
 have hF:∀{x:HK},(x= .n/\o8 s mode pad back ps.flatten=[]\/x= .o (o8 s mode pad back ps.flatten))->_:=fun hx=>(nn h ok hx hps hr).2;have hr2:=(nn h (x:= .o (o8 s mode pad back ps.flatten)) ok (.inr rfl) hps hr).1;have hTb:(cT t key s mode pad back iv ps.flatten).length<=100000:=by
  have h1:=jh (back:=back) (M:=ps.flatten) h.ci (by omega) ok;have h2:=(cA (back:=back) (by omega) ok ps.flatten.length).1;show(E5 (cF t key false) (cF t key true) s mode pad back iv ps.flatten).1.length<=_;omega
 have hU:∀i (hi:i<ps.length) {x:HK},(x= .n/\o8 s mode pad back (B3 ps i)=[]\/x= .o (o8 s mode pad back (B3 ps i)))->_:=fun i hi x hx=>ux h (b:=ps[i]) ok hx rfl (by
  have h1:=zY ps (i+1);rw[uj hi,Zb]at h1;omega)
 have hTi:∀i,(cT t key s mode pad back iv (B3 ps i)).length<=100000:=fun i=>by
  have h1:=jh (back:=back) (M:=B3 ps i) h.ci (by omega) ok;have h2:=(cA (back:=back) (by omega) ok (B3 ps i).length).1;have h3:=zY ps i;show(E5 (cF t key false) (cF t key true) s mode pad back iv (B3 ps i)).1.length<=_;omega
 have IN:=yO h (back:=back) hk hlk hi ok;refine AV.x ?_;refine⟨[],_,_,_,_,tJ,rfl,rfl,?_⟩;refine⟨[i64 t,i64 mode,i64 pad,bool back],rfl,rfl,?_⟩;refine⟨[.d 19 0],_,_,_,_,IN,rfl,rfl,?_⟩;refine D6 (DO (f7 t k xs) t mode pad (j9 mode) back k xs iv ps A) ps.length [(12,1,.sc [])] ⟨[.d 19 0,.d 24 1,.d 24 2,.d 24 3,.d 900000 0],⟨rfl,rfl,rfl,rfl,rfl,tq⟩,⟨_,rfl,rfl⟩,⟨_,rfl,rfl⟩,⟨_,rfl,rfl⟩,⟨_,rfl,rfl⟩,⟨_,rfl,rfl⟩,tq⟩ fun i hi=> ?_;rcases i with _|i
 ·refine d9 (fun d8=> ?_) (fun hge=> ?_)
  ·have hl:0<ps.length:=by omega
   obtain⟨n,o,hn,_,hT,U⟩:=hU 0 hl (x:= .n) (.inl ⟨rfl,by rw[hc0];exact pM⟩);rw[<-uj hl,hc0]at hT U;have U:=U.resolve_right (fun hh=>hh.1 (by rw[kn (by omega) ok]));rw[pi (by omega) ok,kn (by omega) ok]at U;rw[show cT t key s mode pad back iv []=[] from congrArg Prod.fst (tA (by omega) ok),Zo]at hT;refine⟨by omega,by omega,?_⟩;refine⟨_,Gl (i:=0) hl,?_⟩;have hA1:A 1=(cS t key s mode pad back iv (B3 ps (0+1)),cL t key s mode pad back iv (B3 ps (0+1)),o8 s mode pad back (B3 ps (0+1)),cT t key s mode pad back iv (B3 ps (0+1))):=by rw[hA]
   rw[hT]at hA1;generalize cS t key s mode pad back iv (B3 ps (0+1))=st1 at*
   generalize cL t key s mode pad back iv (B3 ps (0+1))=la1 at*
   generalize o8 s mode pad back (B3 ps (0+1))=H1 at*
   have hTi1:=hTi 1;rw[hT]at hTi1;obtain⟨ch,row,g⟩:=st1;rcases row with _|⟨a,rr⟩;all_goals
    refine⟨[.k 0,.k 1,.k 2,.k 3],_,_,_,_,U,rfl,rfl,?_⟩;refine⟨by rw[i9,hn],by omega,Z1 _,?_⟩;refine⟨1,by omega,by omega,sK (wF hA1) ?_⟩;refine⟨[.k 0,.k 1,.k 2,.k 3,.d 37 4,.d 37 5,.d 45 0],⟨rfl,rfl,rfl,?_,rfl,tq⟩,⟨_,rfl,rfl⟩,⟨_,rfl,rfl⟩,⟨_,rfl,rfl⟩,⟨_,rfl,rfl⟩,⟨_,rfl,rfl⟩,⟨_,rfl,rfl⟩,⟨_,rfl,?_⟩,tq⟩
    ·exact congrArg (V.o 1 (.k 6) 0) (show 0+n=o.length by omega)
    ·exact g9 (show sub ([]:List Value) 0 (0*1)++bv o=bv o from rfl)
  ·have h0:ps.length=0:=by omega
   have hp0:ps=[]:=Ze h0;subst hp0;obtain⟨la',F⟩:=hF (x:= .n) (.inl ⟨rfl,pM⟩);rw[show ([]:List (Bs)).flatten=[] from rfl]at*
   rw[pi (by omega) ok,kn (by omega) ok]at F;rw[show cT t key s mode pad back iv []=[] from congrArg Prod.fst (tA (by omega) ok)];refine⟨[.k 0,.k 1,.k 2,.k 3],_,_,_,_,F,rfl,rfl,?_⟩;refine n7 (fun h2=> ?_) (fun h2=> ?_)
   ·rw[if_neg h2];exact⟨.ret (.t [i6,i64 r.2]),[],⟨_,rfl,[],rfl,tq⟩,.ret (.t (.cons .nl (.cons (.refl _) .nil))),.nil⟩
   ·rw[if_pos h2,h2];by_cases hz:0<(([]:Bs)++r.1).length
    ·have CC:=cw (ls:=[([]:Bs),r.1]) (t:=([]:Bs)++r.1) (n:=2) (by simp) rfl rfl hz (by rw[Zb];omega) (by decide);refine⟨[],_,_,_,_,CC,?_,rfl,?_⟩
     ·exact congrArg (fun z=>[V.zz 1 2 [z,V.z r.1.length (bv r.1)]]) (mP ([]:Bs))
     exact⟨.ret (bV (([]:Bs)++r.1,0)),[],⟨_,rfl,[],congrArg (fun z=>V.t [z,i64 0]) (mP _),tq⟩,.ret (.refl _),.nil⟩
    ·have hz0:=Jc.1 (Ze (Ja hz));refine⟨[],_,_,_,_,yK,?_,rfl,?_⟩
     ·show[V.zz 1 2 [V.z (([]:Bs)).length (sub (bv ([]:Bs)) 0 (([]:Bs)).length),V.z r.1.length (bv r.1)]]=_;rw[mP,hz0.2,show([]:Bs)=[] from hz0.1];rfl
     refine⟨.ret (bV ([],0)),[],⟨_,rfl,[],rfl,tq⟩,?_,.nil⟩;rw[hz0.2,show([]:Bs)=[] from hz0.1];exact .ret (.refl _)
 ·have hA1:A (i+1)=(cS t key s mode pad back iv (B3 ps (i+1)),cL t key s mode pad back iv (B3 ps (i+1)),o8 s mode pad back (B3 ps (i+1)),cT t key s mode pad back iv (B3 ps (i+1))):=by rw[hA]
  rw[wF hA1];have hT0:=hTi (i+1);refine d9 (fun d8=> ?_) (fun hge=> ?_)
  ·have hl:i+1<ps.length:=by omega
   obtain⟨n,o,hn,_,hT,U⟩:=hU (i+1) hl (x:= .o (o8 s mode pad back (B3 ps (i+1)))) (.inr rfl);have hT1:=hTi (i+1+1);rw[<-uj hl]at hT U;refine⟨by omega,by omega,?_⟩;refine⟨.z ps[i+1].length (bv ps[i+1]),by rw[Zy];exact Gl hl,?_⟩;have hA2:A (i+1+1)=(cS t key s mode pad back iv (B3 ps (i+1+1)),cL t key s mode pad back iv (B3 ps (i+1+1)),o8 s mode pad back (B3 ps (i+1+1)),cT t key s mode pad back iv (B3 ps (i+1+1))):=by rw[hA]
   rw[hT]at hA2 hT1;generalize cS t key s mode pad back iv (B3 ps (i+1+1))=st1 at*
   generalize cL t key s mode pad back iv (B3 ps (i+1+1))=la1 at*
   generalize o8 s mode pad back (B3 ps (i+1+1))=H1 at*
   generalize cS t key s mode pad back iv (B3 ps (i+1))=st0 at*
   generalize cL t key s mode pad back iv (B3 ps (i+1))=la0 at*
   generalize o8 s mode pad back (B3 ps (i+1))=H0 at*
   generalize cT t key s mode pad back iv (B3 ps (i+1))=T0 at*
   rw[Zb,hn]at hT1;obtain⟨ch,row,g⟩:=st1;obtain⟨L3,row0,g0⟩:=st0;rcases U with U|⟨_,U⟩<;>rcases row0 with _|⟨a0,rr0⟩<;>rcases row with _|⟨a,rr⟩;all_goals
    refine⟨[.k 0,.k 1,.k 4,.k 5],_,_,_,_,U,rfl,rfl,?_⟩;refine⟨by rw[i9,hn],by omega,by rw[i9];omega,?_⟩;refine⟨i+1+1,by omega,by omega,sK (wF hA2) ?_⟩;first
     |refine⟨[.k 0,.k 1,.k 2,.k 3,.d 37 4,.d 37 5,.d 45 0],⟨rfl,rfl,rfl,?_,f6 (by simp(disch:=omega)only[Zc];omega),tq⟩,⟨_,rfl,rfl⟩,⟨_,rfl,rfl⟩,⟨_,rfl,rfl⟩,⟨_,rfl,rfl⟩,⟨_,rfl,rfl⟩,⟨_,rfl,rfl⟩,⟨_,rfl,?_⟩,tq⟩
     |refine⟨[.k 0,.k 1,.k 2,.k 3,.k 4,.d 37 4,.d 45 0],⟨rfl,rfl,rfl,?_,f6 (by simp(disch:=omega)only[Zc];omega),tq⟩,⟨_,rfl,rfl⟩,⟨_,rfl,rfl⟩,⟨_,rfl,rfl⟩,⟨_,rfl,rfl⟩,⟨_,rfl,rfl⟩,⟨_,rfl,rfl⟩,⟨_,rfl,?_⟩,tq⟩
    ·exact congrArg (V.o 1 (.k 6) 0) (show T0.length+n=(T0++o).length by rw[Zb,hn])
    ·exact g9 (show sub (bv T0) 0 (T0.length*1)++bv o=bv (T0++o) by rw[Zy,g8 rfl,A5])
  ·have hn1:i+1=ps.length:=by omega
   rw[show B3 ps (i+1)=ps.flatten by rw[hn1];exact NK ps]at*
   obtain⟨la',F⟩:=hF (x:= .o (o8 s mode pad back ps.flatten)) (.inr rfl);generalize cS t key s mode pad back iv ps.flatten=st0 at*
   generalize cL t key s mode pad back iv ps.flatten=la0 at*
   generalize o8 s mode pad back ps.flatten=H0 at*
   generalize cT t key s mode pad back iv ps.flatten=T0 at*
   obtain⟨L3,row0,g0⟩:=st0;rcases row0 with _|⟨a0,rr0⟩;all_goals
    refine⟨[.k 0,.k 1,.k 4,.k 5],_,_,_,_,F,rfl,rfl,?_⟩;refine n7 (fun h2=> ?_) (fun h2=> ?_)
    ·rw[if_neg h2];exact⟨.ret (.t [i6,i64 r.2]),[],⟨_,rfl,[],rfl,tq⟩,.ret (.t (.cons .nl (.cons (.refl _) .nil))),.nil⟩
    ·rw[if_pos h2,h2];by_cases hz:0<(T0++r.1).length
     ·have CC:=cw (ls:=[T0,r.1]) (t:=T0++r.1) (n:=2) (by simp) rfl rfl hz (by rw[Zb];omega) (by decide);refine⟨[],_,_,_,_,CC,?_,rfl,?_⟩
      ·exact congrArg (fun z=>[V.zz 1 2 [z,V.z r.1.length (bv r.1)]]) (mP T0)
      exact⟨.ret (bV (T0++r.1,0)),[],⟨_,rfl,[],congrArg (fun z=>V.t [z,i64 0]) (mP _),tq⟩,.ret (.refl _),.nil⟩
     ·have hz0:=Jc.1 (Ze (Ja hz));refine⟨[],_,_,_,_,yK,?_,rfl,?_⟩
      ·show[V.zz 1 2 [V.z (T0).length (sub (bv T0) 0 (T0).length),V.z r.1.length (bv r.1)]]=_;rw[mP,hz0.2,show T0=[] from hz0.1];rfl
      refine⟨.ret (bV ([],0)),[],⟨_,rfl,[],rfl,tq⟩,?_,.nil⟩;rw[hz0.2,show T0=[] from hz0.1];exact .ret (.refl _)
theorem MQ {t key s k xs rs} (h:k9 t key s k xs rs) {mode pad:Int} {back:Bool} {lk li:Nat} {iv b:Bs} {ps:List (Bs)} (hk:key.length=lk) (hlk:lk<=1000) (hi:iv.length=li) (hps:ps.flatten=b) (hm:b.length<=100000) (hpn:ps.length<=100000) (ok:D0 s mode pad iv):
  a9 C 49 [D2 t mode pad back,.z lk (bv key),.z li (bv iv),.zz 1 ps.length (ps.map zc)] [] (.ret (bV (aI (cF t key false) (cF t key true) s mode pad back iv b))) []:=by
 have hs:=h.s_le;subst hps;obtain⟨r,hr⟩:∃r,r=jg (cF t key false) (cF t key true) s mode pad back (cS t key s mode pad back iv ps.flatten) (cL t key s mode pad back iv ps.flatten) (o8 s mode pad back ps.flatten):=⟨_,rfl⟩;have S:=MP h hk hlk hi ok (ps:=ps) hm hpn hr;obtain⟨e1,e2⟩:=uv (M:=ps.flatten) h.ci (by omega) ok hr;rw[e1];exact S
theorem MR {t mode pad:Int} {back:Bool} {lk li n:Nat} {key iv:Bs} {ys:List V} (hk:key.length=lk) (hlk:lk<=1000) (hi:iv.length=li) (he:C6 t mode pad (q9 t).toNat lk li≠0):
  a9 C 49 [D2 t mode pad back,.z lk (bv key),.z li (bv iv),.zz 1 n ys] [] (.ret (bV ([],C6 t mode pad (q9 t).toNat lk li))) []:=by
 have IN:=yP (back:=back) hk hlk hi he;generalize C6 t mode pad (q9 t).toNat lk li=e at*
 refine AV.x ?_;refine⟨[],_,_,_,_,tJ,rfl,rfl,?_⟩;refine⟨[i64 t,i64 mode,i64 pad,bool back],rfl,rfl,?_⟩;refine⟨[.d 19 0],_,_,_,_,IN,rfl,rfl,?_⟩;refine n7 (fun _=> ?_) (fun hh=>absurd hh he);exact⟨.ret (.t [i6,i64 e]),[],⟨_,rfl,[],rfl,tq⟩,.ret (.t (.cons .nl (.cons (.refl _) .nil))),.nil⟩
theorem a3q (t:Int) {key:Bs} {lk:Nat} (hk:key.length=lk) (hlk:lk<=1000) (mode pad:Int) (back:Bool) {m:Nat} {iv msg:Bs} {li:Nat} (hi:iv.length=li) (hmm:msg.length=m) (hmb:m<=100000):
  ∃r:Bs×Int,a9 C 49 [D2 t mode pad back,.z lk (bv key),.z li (bv iv),.zz 1 1 [.z m (bv msg)]] [] (.ret (bV r)) []/\a9 C 48 [D2 t mode pad back,.z lk (bv key),.z li (bv iv),.z m (bv msg)] [] (.ret (bV r)) []:=by
 rcases wE t hk hlk mode pad back hi with ⟨_,s,k,xs,rs,h,ok⟩|⟨he,P,Q⟩
 ·have S:=MQ h (back:=back) hk hlk hi (ps:=[msg]) (b:=msg) (by simp) (by omega) (show 1<=100000 by decide) ok;have e:([msg].map zc)=[V.z m (bv msg)]:=by subst hmm;rfl
  rw[e]at S;exact⟨_,S,My h rfl rfl rfl hk hi hmm hmb ok⟩
 ·exact⟨_,MR hk hlk hi he,ou rfl (MD Q he)⟩
end Go.Scr
