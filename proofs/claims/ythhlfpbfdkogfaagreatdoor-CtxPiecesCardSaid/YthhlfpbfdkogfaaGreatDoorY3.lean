/-
  What the functions of the given program reckon, each by a contract, up to the law. It is no claim by itself; each contract bears its own conditions.
-/
import Derived.Test.YthhlfpbfdkogfaaGreatDoorY2
set_option linter.unusedVariables false
set_option linter.unusedSimpArgs false
set_option maxRecDepth 100000
namespace Go.Scr
open Go.Proofs
open Nat renaming le_of_ble_eq_true → Za, le_refl → Ze, zero_add → Zj, mul_one → Zo, zero_le → Zv, add_sub_cancel_left → Zw, sub_self → Zy, add_zero → Zz, div_add_mod → Z4, mul_succ → Z6, add_sub_cancel → Z7, lt_of_mul_lt_mul_left → Z8, mul_div_cancel_left → Jb, min_eq_left → Jd, sub_zero → Ji
open Int renaming toNat_natCast → Zb, tmod_eq_emod_of_nonneg → Zl, emod_eq_of_lt → Z1, ofNat_inj → Ja, tmod_one → Jj
open List renaming length_append → Zc, length_drop → Zf, length_replicate → Zg, replicate → Zh, eq_nil_of_length_eq_zero → Zi, getD_eq_getElem?_getD → Zk, nil_append → Zm, length_take → Zn, take_of_length_le → Zp, length_map → Zq, set_append_right → Zs, length_eq_zero_iff → Zt, getElem?_eq_getElem → Zu, getElem?_replicate → Zx, drop_of_length_le → Z0, replicate_succ' → Z2, append_nil → Z5, drop_append → Jc, map_append → Je, take_append_drop → Jf, length_singleton → Jg, drop_drop → Jh, map → Jk
open IntWalk renaming i64_in → Zd
open UInt8 renaming ofNat → Zr, toNat_inj → Z3
open Option renaming isSome_iff_exists → Z9
open Go.IntKind renaming i64 → I6, u8 → U8
theorem JH {t key s k xs rs} (h:k5 t key s k xs rs) {mode:Int} {back:Bool} {A8 g0:Bs} {i0:Nat} {p:UInt8} (hl:A8.length=s):
  b9 C 121 [.p (.k 0) 0,y7 p] [j7 (f9 t k xs) mode back ⟨A8,[],g0⟩ i0,.dead] (.ret (y7 (x8 (cF t key false) mode back ⟨A8,[],g0⟩ p).1)) [j7 (f9 t k xs) mode back (x8 (cF t key false) mode back ⟨A8,[],g0⟩ p).2 2,.dead,j5 (x8 (cF t key false) mode back ⟨A8,[],g0⟩ p).2.row (x8 (cF t key false) mode back ⟨A8,[],g0⟩ p).2.gone]:=by
 have hs:=h.s_le;have hrl:=h.len (back:=false) hl;have HB:=IX h (mode:=mode) (back:=back) (rv:= .z 0 []) (gv:= .u) rfl hl;have eo:x8 (cF t key false) mode back ⟨A8,[],g0⟩ p=L5 mode back ⟨(cO (cF t key false) mode ⟨A8,[],[]⟩).ch,cF t key false A8,[]⟩ p:=rfl;have hcl:(cO (cF t key false) mode ⟨A8,[],[]⟩).ch.length=s:=by
  show(if mode=5 then cF t key false A8 else if mode=6 then X9 A8 else A8).length=s;split
  ·exact hrl
  ·split
   ·rw[ov,hl]
   ·exact hl
 have hX:j7 (f9 t k xs) mode back ⟨A8,[],g0⟩ i0= .mx [f9 t k xs,i64 mode,bool back,.z s (bv A8),.z 0 [],.u]:=by
  unfold j7;rw[<-hl];rfl
 rw[hX,eo];generalize (cO (cF t key false) mode ⟨A8,[],[]⟩).ch=ch at*
 generalize cF t key false A8=row at*
 clear hX eo;have hc0:2<=ch.length:=by omega
 have hr:row.length<=1000:=by omega
 refine Bz.w ?_;refine⟨_,rfl,?_⟩;refine⟨[.k 0],_,_,_,_,HB,rfl,rfl,?_⟩;refine⟨_,rfl,?_⟩;refine⟨by omega,by omega,_,p9 (k:=row) (i:=0) (by omega),?_⟩;refine⟨_,rfl,?_⟩;refine⟨by omega,by omega,by omega,by omega,?_⟩;refine⟨Za rfl,?_⟩;refine⟨_,rfl,?_⟩;cases back
 ·refine⟨_,rfl,?_⟩;refine⟨Ze _,by omega,?_⟩;refine⟨Za rfl,?_⟩;refine⟨_,rfl,?_⟩;refine i7 (fun h3=> ?_) (fun h3=> ?_)
  ·subst h3;rw[oF];have ld:(ch.drop 1).length=s-1:=by rw[Zf,hcl]
   have lc:(ch.drop 1++[n8 false p (p^^^row.getD 0 0)]).length=s:=by rw[Zc,ld];show s-1+1=s;omega
   refine⟨_,rfl,?_⟩;refine⟨by omega,by omega,by omega,by omega,?_⟩;refine⟨[],_,_,_,_,eA (n:=s-1) (va:=sub (bv ch) 1 (s-1)) (l:=ch.drop 1) (A3 hcl (by omega)) ld (by omega) (by omega),rfl,rfl,?_⟩;refine⟨Ze _,by omega,by rw[j6,ld];omega,?_⟩;refine⟨Za rfl,?_⟩;refine⟨Za rfl,?_⟩;refine⟨.ret (y7 (p^^^row.getD 0 0)),[.mx [f9 t k xs,i64 3,bool false,.z s (bv (ch.drop 1++[n8 false p (p^^^row.getD 0 0)])),g9,.z (0+1) (bv ([]++[n8 false p (p^^^row.getD 0 0)]))],.dead],⟨_,rfl,[.k 0,.k 1],?_,⟨_,rfl,?_⟩,?_⟩,?_⟩
   ·show V.s (.int .u8 (U8.wrap _))=_;rw[o5]
   ·show B.mx [f9 t k xs,i64 3,bool false,.z (s-1+1) (sub (sub (bv (ch.drop 1)) 0 ((s-1)*1)++sub [Value.int .u8 _] 0 (1*1)) 0 (s-1+1)),g9,.z (0+1) (sub (sub ([]:List Value) 0 (0*1)++sub [Value.int .u8 _] 0 (1*1)) 0 (0+1))]=_;rw[U0 ld (o5 _ _),iC (o5 _ _),show s-1+1=s by omega];rfl
   ·exact⟨⟨_,rfl,rfl⟩,tq⟩
   ·refine⟨.ret (.refl _),.cons (.mx (.cons (.refl _) (.cons (.refl _) (.cons (.refl _) (.cons ?_ (.cons .nl (.cons .u .nil))))))) (.cons (.refl _) (.dd .nil))⟩;show Wk _ (.z (ch.drop 1++[n8 false p (p^^^row.getD 0 0)]).length _);rw[lc];exact .refl _
  refine i7 (fun h4=> ?_) (fun h4=> ?_)
  ·subst h4;refine⟨_,rfl,?_⟩;refine i7 (fun hr1=> ?_) (fun hr1=> ?_)
   ·have hr1:s=1:=by have:=(rfl:Int.toNat 1=1);omega
    have lG:([]++[n8 false p (p^^^row.getD 0 0)]).length=0+1:=by rw[Zc];rfl
    rw[oG (by omega)];refine⟨_,rfl,?_⟩;refine⟨Za rfl,?_⟩;refine⟨.ret (y7 (p^^^row.getD 0 0)),[.mx [f9 t k xs,i64 4,bool false,.z (0+1) (bv ([]++[n8 false p (p^^^row.getD 0 0)])),.z (s-1) (bv (row.drop 1)),.z (0+1) (bv ([]++[n8 false p (p^^^row.getD 0 0)]))],.dead],⟨_,rfl,[.k 0,.k 1],?_,⟨_,rfl,?_⟩,?_⟩,?_⟩
    ·show V.s (.int .u8 (U8.wrap _))=_;rw[o5]
    ·show B.mx [f9 t k xs,i64 4,bool false,.z (0+1) (sub (sub ([]:List Value) 0 (0*1)++sub [Value.int .u8 _] 0 (1*1)) 0 (0+1)),.z (s-1) (sub (bv row) 1 (s-1)),.z (0+1) (sub (sub ([]:List Value) 0 (0*1)++sub [Value.int .u8 _] 0 (1*1)) 0 (0+1))]=_;rw[iC (o5 _ _),A3 hrl (by omega)];rfl
    ·exact⟨⟨_,rfl,rfl⟩,tq⟩
    ·refine⟨.ret (.refl _),.cons (.mx (.cons (.refl _) (.cons (.refl _) (.cons (.refl _) (.cons ?_ (.cons ?_ (.cons .u .nil))))))) (.cons (.refl _) (.dd .nil))⟩
     ·show Wk _ (.z ([]++[n8 false p (p^^^row.getD 0 0)]).length _);rw[lG];exact .refl _
     ·rw[show s-1=0 by omega];exact .z0
   ·have hr2:s≠1:=by have:=(rfl:Int.toNat 1=1);omega
    have lr:(row.drop 1).length=s-1:=by rw[Zf,hrl]
    rw[dO (by decide) (fun e=>hr2 (by omega))];by_cases hr1:s=1
    ·have e0:row.drop 1=[]:=Zt.1 (by omega);rw[e0];refine⟨.ret (y7 (p^^^row.getD 0 0)),[.mx [f9 t k xs,i64 4,bool false,.z s (bv ch),.z (s-1) (bv (row.drop 1)),.z (0+1) (bv ([]++[n8 false p (p^^^row.getD 0 0)]))],.dead],⟨_,rfl,[.k 0,.k 1],?_,⟨_,rfl,?_⟩,?_⟩,?_⟩
     ·show V.s (.int .u8 (U8.wrap _))=_;rw[o5]
     ·show B.mx [f9 t k xs,i64 4,bool false,.z s (bv ch),.z (s-1) (sub (bv row) 1 (s-1)),.z (0+1) (sub (sub ([]:List Value) 0 (0*1)++sub [Value.int .u8 _] 0 (1*1)) 0 (0+1))]=_;rw[iC (o5 _ _),A3 hrl (by omega)];rfl
     ·exact⟨⟨_,rfl,rfl⟩,tq⟩
     ·refine⟨.ret (.refl _),.cons (.mx (.cons (.refl _) (.cons (.refl _) (.cons (.refl _) (.cons ?_ (.cons ?_ (.cons .u .nil))))))) (.cons (.refl _) (.dd .nil))⟩
      ·show Wk _ (.z ch.length _);rw[hcl];exact .refl _
      ·rw[show s-1=0 by omega];exact .z0
    ·rw[cG (row:=row.drop 1) (by omega)];refine⟨.ret (y7 (p^^^row.getD 0 0)),[.mx [f9 t k xs,i64 4,bool false,.z s (bv ch),.z (s-1) (bv (row.drop 1)),.o 1 (.k 2) 0 (0+1)],.dead,.sc (bv ([]++[n8 false p (p^^^row.getD 0 0)]))],⟨_,rfl,[.k 0,.k 1,.d 44 0],?_,⟨_,rfl,?_⟩,⟨_,rfl,rfl⟩,⟨_,rfl,i6 ?_⟩,tq⟩,?_⟩
     ·show V.s (.int .u8 (U8.wrap _))=_;rw[o5]
     ·show B.mx [f9 t k xs,i64 4,bool false,.z s (bv ch),.z (s-1) (sub (bv row) 1 (s-1)),.o 1 (.k 2) 0 (0+1)]=_;rw[A3 hrl (by omega)]
     ·exact X0 (o5 _ _)
     ·refine⟨.ret (.refl _),.cons (.mx (.cons (.refl _) (.cons (.refl _) (.cons (.refl _) (.cons ?_ (.cons ?_ (.cons ?_ .nil))))))) (.cons (.refl _) (.cons (.refl _) .nil))⟩
      ·show Wk _ (.z ch.length _);rw[hcl];exact .refl _
      ·show Wk _ (.z (row.drop 1).length _);rw[lr];exact .refl _
      ·show Wk _ (dH (row.drop 1) ([]++[n8 false p (p^^^row.getD 0 0)]) 2);rw[eX (row:=row.drop 1) (by omega),Zc];exact .refl _
  ·have lr:(row.drop 1).length=s-1:=by rw[Zf,hrl]
   rw[dO h3 (fun e=>h4 e.1)];by_cases hr1:s=1
   ·have e0:row.drop 1=[]:=Zt.1 (by omega);rw[e0];refine⟨.ret (y7 (p^^^row.getD 0 0)),[.mx [f9 t k xs,i64 mode,bool false,.z s (bv ch),.z (s-1) (bv (row.drop 1)),.z (0+1) (bv ([]++[n8 false p (p^^^row.getD 0 0)]))],.dead],⟨_,rfl,[.k 0,.k 1],?_,⟨_,rfl,?_⟩,?_⟩,?_⟩
    ·show V.s (.int .u8 (U8.wrap _))=_;rw[o5]
    ·show B.mx [f9 t k xs,i64 mode,bool false,.z s (bv ch),.z (s-1) (sub (bv row) 1 (s-1)),.z (0+1) (sub (sub ([]:List Value) 0 (0*1)++sub [Value.int .u8 _] 0 (1*1)) 0 (0+1))]=_;rw[iC (o5 _ _),A3 hrl (by omega)];rfl
    ·exact⟨⟨_,rfl,rfl⟩,tq⟩
    ·refine⟨.ret (.refl _),.cons (.mx (.cons (.refl _) (.cons (.refl _) (.cons (.refl _) (.cons ?_ (.cons ?_ (.cons .u .nil))))))) (.cons (.refl _) (.dd .nil))⟩
     ·show Wk _ (.z ch.length _);rw[hcl];exact .refl _
     ·rw[show s-1=0 by omega];exact .z0
   ·rw[cG (row:=row.drop 1) (by omega)];refine⟨.ret (y7 (p^^^row.getD 0 0)),[.mx [f9 t k xs,i64 mode,bool false,.z s (bv ch),.z (s-1) (bv (row.drop 1)),.o 1 (.k 2) 0 (0+1)],.dead,.sc (bv ([]++[n8 false p (p^^^row.getD 0 0)]))],⟨_,rfl,[.k 0,.k 1,.d 44 0],?_,⟨_,rfl,?_⟩,⟨_,rfl,rfl⟩,⟨_,rfl,i6 ?_⟩,tq⟩,?_⟩
    ·show V.s (.int .u8 (U8.wrap _))=_;rw[o5]
    ·show B.mx [f9 t k xs,i64 mode,bool false,.z s (bv ch),.z (s-1) (sub (bv row) 1 (s-1)),.o 1 (.k 2) 0 (0+1)]=_;rw[A3 hrl (by omega)]
    ·exact X0 (o5 _ _)
    ·refine⟨.ret (.refl _),.cons (.mx (.cons (.refl _) (.cons (.refl _) (.cons (.refl _) (.cons ?_ (.cons ?_ (.cons ?_ .nil))))))) (.cons (.refl _) (.cons (.refl _) .nil))⟩
     ·show Wk _ (.z ch.length _);rw[hcl];exact .refl _
     ·show Wk _ (.z (row.drop 1).length _);rw[lr];exact .refl _
     ·show Wk _ (dH (row.drop 1) ([]++[n8 false p (p^^^row.getD 0 0)]) 2);rw[eX (row:=row.drop 1) (by omega),Zc];exact .refl _
 ·refine⟨_,rfl,?_⟩;refine⟨Ze _,by omega,?_⟩;refine⟨Za rfl,?_⟩;refine⟨_,rfl,?_⟩;refine i7 (fun h3=> ?_) (fun h3=> ?_)
  ·subst h3;rw[oF];have ld:(ch.drop 1).length=s-1:=by rw[Zf,hcl]
   have lc:(ch.drop 1++[n8 true p (p^^^row.getD 0 0)]).length=s:=by rw[Zc,ld];show s-1+1=s;omega
   refine⟨_,rfl,?_⟩;refine⟨by omega,by omega,by omega,by omega,?_⟩;refine⟨[],_,_,_,_,eA (n:=s-1) (va:=sub (bv ch) 1 (s-1)) (l:=ch.drop 1) (A3 hcl (by omega)) ld (by omega) (by omega),rfl,rfl,?_⟩;refine⟨Ze _,by omega,by rw[j6,ld];omega,?_⟩;refine⟨Za rfl,?_⟩;refine⟨Za rfl,?_⟩;refine⟨.ret (y7 (p^^^row.getD 0 0)),[.mx [f9 t k xs,i64 3,bool true,.z s (bv (ch.drop 1++[n8 true p (p^^^row.getD 0 0)])),g9,.z (0+1) (bv ([]++[n8 true p (p^^^row.getD 0 0)]))],.dead],⟨_,rfl,[.k 0,.k 1],?_,⟨_,rfl,?_⟩,?_⟩,?_⟩
   ·show V.s (.int .u8 (U8.wrap _))=_;rw[o5]
   ·show B.mx [f9 t k xs,i64 3,bool true,.z (s-1+1) (sub (sub (bv (ch.drop 1)) 0 ((s-1)*1)++sub [Value.int .u8 _] 0 (1*1)) 0 (s-1+1)),g9,.z (0+1) (sub (sub ([]:List Value) 0 (0*1)++sub [Value.int .u8 _] 0 (1*1)) 0 (0+1))]=_;rw[U0 ld rfl,iC rfl,show s-1+1=s by omega];rfl
   ·exact⟨⟨_,rfl,rfl⟩,tq⟩
   ·refine⟨.ret (.refl _),.cons (.mx (.cons (.refl _) (.cons (.refl _) (.cons (.refl _) (.cons ?_ (.cons .nl (.cons .u .nil))))))) (.cons (.refl _) (.dd .nil))⟩;show Wk _ (.z (ch.drop 1++[n8 true p (p^^^row.getD 0 0)]).length _);rw[lc];exact .refl _
  refine i7 (fun h4=> ?_) (fun h4=> ?_)
  ·subst h4;refine⟨_,rfl,?_⟩;refine i7 (fun hr1=> ?_) (fun hr1=> ?_)
   ·have hr1:s=1:=by have:=(rfl:Int.toNat 1=1);omega
    have lG:([]++[n8 true p (p^^^row.getD 0 0)]).length=0+1:=by rw[Zc];rfl
    rw[oG (by omega)];refine⟨_,rfl,?_⟩;refine⟨Za rfl,?_⟩;refine⟨.ret (y7 (p^^^row.getD 0 0)),[.mx [f9 t k xs,i64 4,bool true,.z (0+1) (bv ([]++[n8 true p (p^^^row.getD 0 0)])),.z (s-1) (bv (row.drop 1)),.z (0+1) (bv ([]++[n8 true p (p^^^row.getD 0 0)]))],.dead],⟨_,rfl,[.k 0,.k 1],?_,⟨_,rfl,?_⟩,?_⟩,?_⟩
    ·show V.s (.int .u8 (U8.wrap _))=_;rw[o5]
    ·show B.mx [f9 t k xs,i64 4,bool true,.z (0+1) (sub (sub ([]:List Value) 0 (0*1)++sub [Value.int .u8 _] 0 (1*1)) 0 (0+1)),.z (s-1) (sub (bv row) 1 (s-1)),.z (0+1) (sub (sub ([]:List Value) 0 (0*1)++sub [Value.int .u8 _] 0 (1*1)) 0 (0+1))]=_;rw[iC rfl,A3 hrl (by omega)];rfl
    ·exact⟨⟨_,rfl,rfl⟩,tq⟩
    ·refine⟨.ret (.refl _),.cons (.mx (.cons (.refl _) (.cons (.refl _) (.cons (.refl _) (.cons ?_ (.cons ?_ (.cons .u .nil))))))) (.cons (.refl _) (.dd .nil))⟩
     ·show Wk _ (.z ([]++[n8 true p (p^^^row.getD 0 0)]).length _);rw[lG];exact .refl _
     ·rw[show s-1=0 by omega];exact .z0
   ·have hr2:s≠1:=by have:=(rfl:Int.toNat 1=1);omega
    have lr:(row.drop 1).length=s-1:=by rw[Zf,hrl]
    rw[dO (by decide) (fun e=>hr2 (by omega))];by_cases hr1:s=1
    ·have e0:row.drop 1=[]:=Zt.1 (by omega);rw[e0];refine⟨.ret (y7 (p^^^row.getD 0 0)),[.mx [f9 t k xs,i64 4,bool true,.z s (bv ch),.z (s-1) (bv (row.drop 1)),.z (0+1) (bv ([]++[n8 true p (p^^^row.getD 0 0)]))],.dead],⟨_,rfl,[.k 0,.k 1],?_,⟨_,rfl,?_⟩,?_⟩,?_⟩
     ·show V.s (.int .u8 (U8.wrap _))=_;rw[o5]
     ·show B.mx [f9 t k xs,i64 4,bool true,.z s (bv ch),.z (s-1) (sub (bv row) 1 (s-1)),.z (0+1) (sub (sub ([]:List Value) 0 (0*1)++sub [Value.int .u8 _] 0 (1*1)) 0 (0+1))]=_;rw[iC rfl,A3 hrl (by omega)];rfl
     ·exact⟨⟨_,rfl,rfl⟩,tq⟩
     ·refine⟨.ret (.refl _),.cons (.mx (.cons (.refl _) (.cons (.refl _) (.cons (.refl _) (.cons ?_ (.cons ?_ (.cons .u .nil))))))) (.cons (.refl _) (.dd .nil))⟩
      ·show Wk _ (.z ch.length _);rw[hcl];exact .refl _
      ·rw[show s-1=0 by omega];exact .z0
    ·rw[cG (row:=row.drop 1) (by omega)];refine⟨.ret (y7 (p^^^row.getD 0 0)),[.mx [f9 t k xs,i64 4,bool true,.z s (bv ch),.z (s-1) (bv (row.drop 1)),.o 1 (.k 2) 0 (0+1)],.dead,.sc (bv ([]++[n8 true p (p^^^row.getD 0 0)]))],⟨_,rfl,[.k 0,.k 1,.d 44 0],?_,⟨_,rfl,?_⟩,⟨_,rfl,rfl⟩,⟨_,rfl,i6 ?_⟩,tq⟩,?_⟩
     ·show V.s (.int .u8 (U8.wrap _))=_;rw[o5]
     ·show B.mx [f9 t k xs,i64 4,bool true,.z s (bv ch),.z (s-1) (sub (bv row) 1 (s-1)),.o 1 (.k 2) 0 (0+1)]=_;rw[A3 hrl (by omega)]
     ·exact X0 rfl
     ·refine⟨.ret (.refl _),.cons (.mx (.cons (.refl _) (.cons (.refl _) (.cons (.refl _) (.cons ?_ (.cons ?_ (.cons ?_ .nil))))))) (.cons (.refl _) (.cons (.refl _) .nil))⟩
      ·show Wk _ (.z ch.length _);rw[hcl];exact .refl _
      ·show Wk _ (.z (row.drop 1).length _);rw[lr];exact .refl _
      ·show Wk _ (dH (row.drop 1) ([]++[n8 true p (p^^^row.getD 0 0)]) 2);rw[eX (row:=row.drop 1) (by omega),Zc];exact .refl _
  ·have lr:(row.drop 1).length=s-1:=by rw[Zf,hrl]
   rw[dO h3 (fun e=>h4 e.1)];by_cases hr1:s=1
   ·have e0:row.drop 1=[]:=Zt.1 (by omega);rw[e0];refine⟨.ret (y7 (p^^^row.getD 0 0)),[.mx [f9 t k xs,i64 mode,bool true,.z s (bv ch),.z (s-1) (bv (row.drop 1)),.z (0+1) (bv ([]++[n8 true p (p^^^row.getD 0 0)]))],.dead],⟨_,rfl,[.k 0,.k 1],?_,⟨_,rfl,?_⟩,?_⟩,?_⟩
    ·show V.s (.int .u8 (U8.wrap _))=_;rw[o5]
    ·show B.mx [f9 t k xs,i64 mode,bool true,.z s (bv ch),.z (s-1) (sub (bv row) 1 (s-1)),.z (0+1) (sub (sub ([]:List Value) 0 (0*1)++sub [Value.int .u8 _] 0 (1*1)) 0 (0+1))]=_;rw[iC rfl,A3 hrl (by omega)];rfl
    ·exact⟨⟨_,rfl,rfl⟩,tq⟩
    ·refine⟨.ret (.refl _),.cons (.mx (.cons (.refl _) (.cons (.refl _) (.cons (.refl _) (.cons ?_ (.cons ?_ (.cons .u .nil))))))) (.cons (.refl _) (.dd .nil))⟩
     ·show Wk _ (.z ch.length _);rw[hcl];exact .refl _
     ·rw[show s-1=0 by omega];exact .z0
   ·rw[cG (row:=row.drop 1) (by omega)];refine⟨.ret (y7 (p^^^row.getD 0 0)),[.mx [f9 t k xs,i64 mode,bool true,.z s (bv ch),.z (s-1) (bv (row.drop 1)),.o 1 (.k 2) 0 (0+1)],.dead,.sc (bv ([]++[n8 true p (p^^^row.getD 0 0)]))],⟨_,rfl,[.k 0,.k 1,.d 44 0],?_,⟨_,rfl,?_⟩,⟨_,rfl,rfl⟩,⟨_,rfl,i6 ?_⟩,tq⟩,?_⟩
    ·show V.s (.int .u8 (U8.wrap _))=_;rw[o5]
    ·show B.mx [f9 t k xs,i64 mode,bool true,.z s (bv ch),.z (s-1) (sub (bv row) 1 (s-1)),.o 1 (.k 2) 0 (0+1)]=_;rw[A3 hrl (by omega)]
    ·exact X0 rfl
    ·refine⟨.ret (.refl _),.cons (.mx (.cons (.refl _) (.cons (.refl _) (.cons (.refl _) (.cons ?_ (.cons ?_ (.cons ?_ .nil))))))) (.cons (.refl _) (.cons (.refl _) .nil))⟩
     ·show Wk _ (.z ch.length _);rw[hcl];exact .refl _
     ·show Wk _ (.z (row.drop 1).length _);rw[lr];exact .refl _
     ·show Wk _ (dH (row.drop 1) ([]++[n8 true p (p^^^row.getD 0 0)]) 2);rw[eX (row:=row.drop 1) (by omega),Zc];exact .refl _
def jb (n:Nat) (s:MS):Prop:=s.row.length=0\/s.gone.length+s.row.length=n
theorem Dn {E D:Bs->Bs} {n:Nat} {mode:Int} {back:Bool} {s:MS} (h:CI E D n) (hn:0<n) (hm:3<=mode) (ok:aa n mode s) (g:jb n s) (p:UInt8):jb n (x8 E mode back s p).2:=by
 obtain⟨t,ht,h1,h2⟩:∃t,t=(if s.row.length=0 then cO E mode s else s)/\0<t.row.length/\t.gone.length+t.row.length=n:=by
  refine⟨_,rfl,?_⟩;split
  ·obtain⟨b1,b2,b3⟩:=Dg h hm ok;exact⟨by omega,by rw[b3,b2];simp⟩
  ·rename_i hr;exact⟨by omega,g.resolve_left hr⟩
 have e:(x8 E mode back s p).2=(L5 mode back t p).2:=by rw[ht];rfl
 rw[e];unfold L5;dsimp only
 split
 ·exact .inl rfl
 ·split
  ·split
   ·exact .inl rfl
   ·exact .inr (by show(t.gone++[_]).length+(t.row.drop 1).length=n;rw[Zc,Jg,Zf];omega)
  ·exact .inr (by show(t.gone++[_]).length+(t.row.drop 1).length=n;rw[Zc,Jg,Zf];omega)
theorem wu {E D:Bs->Bs} {n:Nat} {mode:Int} {back:Bool} (h:CI E D n) (hn:0<n) (hm:3<=mode):∀(l:Bs) {s:MS},aa n mode s->jb n s->jb n (y8 E mode back s l).2
 |[],_,_,g=>g
 |p::l,_,ok,g=>wu h hn hm l (rI h hn hm ok p) (Dn h hn hm ok g p)
theorem Xm {E D:Bs->Bs} {n:Nat} {mode:Int} {back:Bool} {s:MS} {b:Bs} (h:CI E D n) (hn:0<n) (ok:aa n mode s) (g:jb n s):jb n (k9 E D n mode back s b).2:=by
 unfold k9;by_cases hm:mode=1\/mode=2
 ·simp only[if_pos hm];exact g
 ·simp only[if_neg hm];exact wu h hn (by have:=ok.m;omega) b ok g
structure MK (n:Nat) (mode:Int) (s:MS):Prop where
 ok:aa n mode s
 g:jb n s
theorem MK.glen {n mode s} (h:MK n mode s) (hr:s.row.length≠0):s.gone.length<=n:=by
 have:=h.g.resolve_left hr;omega
theorem MK.step {E D:Bs->Bs} {n:Nat} {mode:Int} {back:Bool} {s:MS} {b:Bs} (k:MK n mode s) (h:CI E D n) (hn:0<n):MK n mode (k9 E D n mode back s b).2:=⟨Do h hn k.ok,Xm h hn k.ok k.g⟩
theorem MK.one {E D:Bs->Bs} {n:Nat} {mode:Int} {back:Bool} {s:MS} (k:MK n mode s) (h:CI E D n) (hn:0<n) (hm:3<=mode) (p:UInt8):MK n mode (x8 E mode back s p).2:=⟨rI h hn hm k.ok p,Dn h hn hm k.ok k.g p⟩
theorem MK.many {E D:Bs->Bs} {n:Nat} {mode:Int} {back:Bool} {s:MS} (k:MK n mode s) (h:CI E D n) (hn:0<n) (hm:3<=mode) (l:Bs):MK n mode (y8 E mode back s l).2:=⟨ww h hn hm l k.ok,wu h hn hm l k.ok k.g⟩
theorem MK.new {n:Nat} {mode:Int} {iv:Bs} (hm:1<=mode/\mode<=6) (hc:mode=1\/iv.length=n):MK n mode ⟨iv,[],[]⟩:=⟨⟨hm,hc,Zv _,fun _=>rfl,fun _=> .inl rfl⟩,.inl rfl⟩
def P9 (E:Bs->Bs) (mode:Int) (back:Bool) (x:MS×Bs×Nat) (p:UInt8):MS×Bs×Nat:=
 ((x8 E mode back x.1 p).2,if mode=3 then x.2 else if x.1.row.length=0 then (E x.1.ch,1)else (x.2.1,x.2.2+1))
def L7 (E:Bs->Bs) (mode:Int) (back:Bool):MS×Bs×Nat->Bs->MS×Bs×Nat
 |x,[]=>x
 |x,p::l=>L7 E mode back (P9 E mode back x p) l
theorem wU (E mode back):∀(l:Bs) (x),(L7 E mode back x l).1=(y8 E mode back x.1 l).2
 |[],_=>rfl
 |p::l,x=>wU E mode back l (P9 E mode back x p)
theorem wW (E mode back):∀(l:Bs) (x) (p:UInt8),L7 E mode back x (l++[p])=P9 E mode back (L7 E mode back x l) p
 |[],_,_=>rfl
 |a::l,x,p=>wW E mode back l (P9 E mode back x a) p
structure bF (n:Nat) (mode:Int) (x:MS×Bs×Nat):Prop where
 le:x.2.2<=x.2.1.length
 row:x.1.row=x.2.1.drop x.2.2
 len:x.2.1.length<=n
 made:x.1.row.length≠0->x.1.gone.length=x.2.2
 three:mode=3->x.1.row=[]
 blk:mode=1\/mode=2->x.2=([],0)
theorem Dl {mode:Int} {back:Bool} {t:MS} {p:UInt8} (h3:mode≠3) (h:0<t.row.length):(L5 mode back t p).2.row=t.row.drop 1:=by
 unfold L5;simp only[if_neg h3];by_cases h4:mode=4
 ·rw[if_pos h4];by_cases h5:t.row.length=1
  ·rw[if_pos h5];exact(List.drop_eq_nil_of_le (by omega)).symm
  ·rw[if_neg h5]
 ·rw[if_neg h4]
theorem Dk {mode:Int} {back:Bool} {t:MS} {p:UInt8}:(L5 mode back t p).2.gone=t.gone++[n8 back p (p^^^t.row.getD 0 0)]:=by
 unfold L5;dsimp only
 split
 ·rfl
 ·split
  ·split<;>rfl
  ·rfl
theorem wX {E D:Bs->Bs} {n:Nat} {mode:Int} {back:Bool} {x:MS×Bs×Nat} (h:CI E D n) (hn:0<n) (hm:3<=mode) (ok:aa n mode x.1) (r:bF n mode x) (p:UInt8):bF n mode (P9 E mode back x p):=by
 obtain⟨s,R,u⟩:=x;obtain⟨r1,r2,r3,r4,r5,r6⟩:=r;dsimp only at r1 r2 r3 r4 r5 ok;have hc:s.ch.length=n:=ok.ch.resolve_left (by omega);by_cases h3:mode=3
 ·subst h3;unfold P9;rw[if_pos rfl];have ho:(x8 E 3 back s p).2.row=[]:=by unfold x8 L5;rfl
  refine⟨r1,?_,r3,fun h=>absurd ?_ h,fun _=>ho,fun h=>by omega⟩
  ·show(x8 E 3 back s p).2.row=R.drop u;rw[ho,<-r2,r5 rfl]
  ·show(x8 E 3 back s p).2.row.length=0;rw[ho];rfl
 ·unfold P9;rw[if_neg h3];by_cases h0:s.row.length=0
  ·rw[if_pos h0];have l0:=h.le hc;have ho:x8 E mode back s p=L5 mode back (cO E mode s) p:=by unfold x8;rw[if_pos h0]
   refine⟨by show 1<=(E s.ch).length;omega,?_,by show(E s.ch).length<=n;omega,fun _=> ?_,fun h=>absurd h h3,fun h=>by omega⟩
   ·show(x8 E mode back s p).2.row=(E s.ch).drop 1;rw[ho];exact Dl h3 (by show 0<(E s.ch).length;omega)
   ·show(x8 E mode back s p).2.gone.length=1;rw[ho,Dk];rfl
  ·rw[if_neg h0];have ho:x8 E mode back s p=L5 mode back s p:=by unfold x8;rw[if_neg h0]
   have lr:s.row.length=R.length-u:=by rw[r2,Zf]
   refine⟨by show u+1<=R.length;omega,?_,r3,fun _=> ?_,fun h=>absurd h h3,fun h=>by omega⟩
   ·show(x8 E mode back s p).2.row=R.drop (u+1);rw[ho,Dl h3 (by omega),r2,Jh]
   ·show(x8 E mode back s p).2.gone.length=u+1;rw[ho,Dk,Zc,r4 h0];rfl
theorem wV {E D:Bs->Bs} {n:Nat} {mode:Int} {back:Bool} (h:CI E D n) (hn:0<n) (hm:3<=mode):∀(l:Bs) {x:MS×Bs×Nat},aa n mode x.1->bF n mode x->bF n mode (L7 E mode back x l)
 |[],_,_,r=>r
 |p::l,x,ok,r=>wV h hn hm l (x:=P9 E mode back x p) (rI h hn hm ok p) (wX h hn hm ok r p)
theorem bF.new {n:Nat} {mode:Int} {iv:Bs}:bF n mode (⟨iv,[],[]⟩,[],0):=⟨Ze _,rfl,Zv _,fun h=>absurd rfl h,fun _=>rfl,fun _=>rfl⟩
def gp (E D:Bs->Bs) (n:Nat) (mode:Int) (back:Bool) (x:MS×Bs×Nat) (b:Bs):MS×Bs×Nat:=
 if mode=1\/mode=2 then ((k9 E D n mode back x.1 b).2,x.2)else L7 E mode back x b
theorem JE {t key s k xs rs} (h:k5 t key s k xs rs) {mode:Int} {back:Bool} {c:Nat} {p ch:Bs} {vp vch:List Value} (hvp:vp=bv p) (hvc:vch=bv ch) (hp:p.length=s) (hc:ch.length=c) (hm:mode=1\/mode=2/\c=s):
  b9 C 122 [.p (.k 0) 0,.z s vp] [.mx [f9 t k xs,i64 mode,bool back,.z c vch,.z 0 [],.u]] (.ret (.z s (bv (T9 (cF t key false) (cF t key true) mode back ch p).1))) [.mx [f9 t k xs,i64 mode,bool back,.z c (bv (T9 (cF t key false) (cF t key true) mode back ch p).2),.z 0 [],.u]]:=by
 subst hvp;subst hvc;have hs:=h.s_le;have lE:=h.len (back:=false) hp;have lD:=h.len (back:=true) hp;refine Sp.c ?_;refine⟨_,rfl,?_⟩;refine i7 (fun h1=> ?_) (fun h1=> ?_)
 ·subst h1;refine⟨_,rfl,?_⟩;cases back
  ·refine⟨_,rfl,?_⟩;refine⟨_,rfl,?_⟩;refine⟨[],_,_,_,_,h.enc hp rfl,rfl,rfl,?_⟩;refine⟨_,rfl,[.k 0],?_,⟨_,rfl,?_⟩,tq⟩
   ·show V.z s (sub (bv (cF t key false p)) 0 s)=_;rw[g8 lE];rfl
   ·rfl
  ·refine⟨_,rfl,?_⟩;refine⟨[],_,_,_,_,h.dec hp rfl,rfl,rfl,?_⟩;refine⟨_,rfl,[.k 0],?_,⟨_,rfl,?_⟩,tq⟩
   ·show V.z s (sub (bv (cF t key true p)) 0 s)=_;rw[g8 lD];rfl
   ·rfl
 ·obtain⟨rfl,rfl⟩:=hm.resolve_left h1;refine⟨_,rfl,?_⟩;refine⟨_,rfl,?_⟩;cases back
  ·have lx:=B5 hp hc;have lX:=h.len (back:=false) lx;refine⟨_,rfl,?_⟩;refine⟨[],_,_,_,_,N4 (a:=p) (b:=ch) rfl rfl hp hc (by omega),rfl,rfl,?_⟩;refine⟨_,rfl,?_⟩;refine⟨[],_,_,_,_,h.enc (b:=j9 p ch) lx (g8 lx),rfl,rfl,?_⟩;refine⟨[],_,_,_,_,eA (l:=cF t key false (j9 p ch)) (g8 lX) lX (by omega) (by omega),rfl,rfl,?_⟩;refine⟨Za rfl,?_⟩;refine⟨_,rfl,[.k 0],?_,⟨_,rfl,?_⟩,tq⟩
   ·show V.z c (sub (bv (cF t key false (j9 p ch))) 0 c)=_;rw[g8 lX];rfl
   ·show B.mx [f9 t k xs,i64 2,bool false,.z c (sub (bv (cF t key false (j9 p ch))) 0 c),.z 0 [],.u]=_;rw[g8 lX];rfl
  ·have lx:=B5 lD hc;refine⟨_,rfl,?_⟩;refine⟨[],_,_,_,_,h.dec hp rfl,rfl,rfl,?_⟩;refine⟨_,rfl,?_⟩;refine⟨[],_,_,_,_,N4 (a:=cF t key true p) (b:=ch) (g8 lD) rfl lD hc (by omega),rfl,rfl,?_⟩;refine⟨[],_,_,_,_,eA (l:=p) rfl hp (by omega) (by omega),rfl,rfl,?_⟩;refine⟨Za rfl,?_⟩;refine⟨_,rfl,[.k 0],?_,⟨_,rfl,?_⟩,tq⟩
   ·show V.z c (sub (bv (j9 (cF t key true p) ch)) 0 c)=_;rw[g8 lx];rfl
   ·show B.mx [f9 t k xs,i64 2,bool true,.z c (sub (bv p) 0 c),.z 0 [],.u]=_;rw[g8 hp];rfl
theorem ur {t key s k xs rs} (h:k5 t key s k xs rs) {mode:Int} {back:Bool} {st:MS} (hm:3<=mode):
  b9 C 96 [.p (.k 0) 0] [j7 (f9 t k xs) mode back st 1,j5 st.row st.gone] (.ret (i64 1)) [j7 (f9 t k xs) mode back st 1,j5 st.row st.gone]:=by
 obtain⟨ch,row,g⟩:=st;refine vz.c ?_;refine⟨_,rfl,?_⟩;refine i7 (fun h1=>absurd h1 (by omega)) (fun _=> ?_);refine i7 (fun h1=>absurd h1 (by omega)) (fun _=> ?_);cases row<;>exact⟨_,rfl,[.k 0,.k 1],rfl,⟨_,rfl,rfl⟩,⟨_,rfl,rfl⟩,tq⟩
theorem zJ {t key s k xs rs} (h:k5 t key s k xs rs) {mode:Int} {back:Bool} {c:Nat} {vc:List Value} (hm:mode=1\/mode=2):
  b9 C 96 [.p (.k 0) 0] [.mx [f9 t k xs,i64 mode,bool back,.z c vc,.z 0 [],.u]] (.ret (i64 s)) [.mx [f9 t k xs,i64 mode,bool back,.z c vc,.z 0 [],.u]]:=by
 refine vz.c ?_;refine⟨_,rfl,?_⟩;refine i7 (fun h1=> ?_) (fun h1=> ?_)
 ·refine⟨_,rfl,?_⟩;refine⟨[],_,_,_,_,h.size,rfl,rfl,?_⟩;exact⟨_,rfl,[.k 0],rfl,⟨_,rfl,rfl⟩,tq⟩
 refine i7 (fun h2=> ?_) (fun h2=>absurd h2 (by omega))
 ·refine⟨_,rfl,?_⟩;refine⟨[],_,_,_,_,h.size,rfl,rfl,?_⟩;exact⟨_,rfl,[.k 0],rfl,⟨_,rfl,rfl⟩,tq⟩
theorem ux {t key s k xs rs} (h:k5 t key s k xs rs) {mode:Int} {back:Bool} {l i:Nat} {vi:List Value} {iv:Bs} (hvi:vi=bv iv) (hl:iv.length=l) (hm:1<=mode/\mode<=6) (hi:l=if mode=1 then 0 else s):
  b9 C 62 [f9 t k xs,i64 mode,bool back,.z l vi] [] (.ret (.t [.p (.k 0) 0,i64 0])) [j7 (f9 t k xs) mode back ⟨iv,[],[]⟩ i,.dead,.dead]:=by
 subst hvi;have hs:=h.s_le;have hX:j7 (f9 t k xs) mode back ⟨iv,[],[]⟩ i= .mx [f9 t k xs,i64 mode,bool back,.z l (bv iv),.z 0 [],.u]:=by
  unfold j7;rw[hl];rfl
 rw[hX];have hm':mode=1\/mode=2\/mode=3\/mode=4\/mode=5\/mode=6:=by omega
 rcases hm' with rfl|rfl|rfl|rfl|rfl|rfl
 ·rw[if_pos rfl]at hi;refine lj.w ?_;refine⟨[],_,_,_,_,h.size,rfl,rfl,?_⟩;refine p6 (fun hh=>absurd hh (by omega)) (fun _=> ?_);refine⟨[],_,_,_,_,X7 rfl hl (by omega),rfl,rfl,?_⟩;exact⟨.ret (.t [.p (.k 0) 0,i64 0]),[.mx [f9 t k xs,i64 1,bool back,.z l (bv iv),g9,g9]],⟨_,rfl,[.d 32 0],rfl,⟨_,rfl,rfl⟩,tq⟩,.ret (.refl _),.cons (.mx (.cons (.refl _) (.cons (.refl _) (.cons (.refl _) (.cons (.refl _) (.cons .nl (.cons .u .nil))))))) (.dd (.dd .nil))⟩
 ·rw[if_neg (by decide)]at hi;refine lj.w ?_;refine⟨[],_,_,_,_,h.size,rfl,rfl,?_⟩;refine p6 (fun hh=>absurd hh (by omega)) (fun _=> ?_);refine⟨[],_,_,_,_,X7 rfl hl (by omega),rfl,rfl,?_⟩;exact⟨.ret (.t [.p (.k 0) 0,i64 0]),[.mx [f9 t k xs,i64 2,bool back,.z l (bv iv),g9,g9]],⟨_,rfl,[.d 32 0],rfl,⟨_,rfl,rfl⟩,tq⟩,.ret (.refl _),.cons (.mx (.cons (.refl _) (.cons (.refl _) (.cons (.refl _) (.cons (.refl _) (.cons .nl (.cons .u .nil))))))) (.dd (.dd .nil))⟩
 ·rw[if_neg (by decide)]at hi;refine lj.w ?_;refine⟨[],_,_,_,_,h.size,rfl,rfl,?_⟩;refine p6 (fun hh=>absurd hh (by omega)) (fun _=> ?_);refine⟨[],_,_,_,_,X7 rfl hl (by omega),rfl,rfl,?_⟩;exact⟨.ret (.t [.p (.k 0) 0,i64 0]),[.mx [f9 t k xs,i64 3,bool back,.z l (bv iv),g9,g9]],⟨_,rfl,[.d 32 0],rfl,⟨_,rfl,rfl⟩,tq⟩,.ret (.refl _),.cons (.mx (.cons (.refl _) (.cons (.refl _) (.cons (.refl _) (.cons (.refl _) (.cons .nl (.cons .u .nil))))))) (.dd (.dd .nil))⟩
 ·rw[if_neg (by decide)]at hi;refine lj.w ?_;refine⟨[],_,_,_,_,h.size,rfl,rfl,?_⟩;refine p6 (fun hh=>absurd hh (by omega)) (fun _=> ?_);refine⟨[],_,_,_,_,X7 rfl hl (by omega),rfl,rfl,?_⟩;exact⟨.ret (.t [.p (.k 0) 0,i64 0]),[.mx [f9 t k xs,i64 4,bool back,.z l (bv iv),g9,g9]],⟨_,rfl,[.d 32 0],rfl,⟨_,rfl,rfl⟩,tq⟩,.ret (.refl _),.cons (.mx (.cons (.refl _) (.cons (.refl _) (.cons (.refl _) (.cons (.refl _) (.cons .nl (.cons .u .nil))))))) (.dd (.dd .nil))⟩
 ·rw[if_neg (by decide)]at hi;refine lj.w ?_;refine⟨[],_,_,_,_,h.size,rfl,rfl,?_⟩;refine p6 (fun hh=>absurd hh (by omega)) (fun _=> ?_);refine⟨[],_,_,_,_,X7 rfl hl (by omega),rfl,rfl,?_⟩;exact⟨.ret (.t [.p (.k 0) 0,i64 0]),[.mx [f9 t k xs,i64 5,bool back,.z l (bv iv),g9,g9]],⟨_,rfl,[.d 32 0],rfl,⟨_,rfl,rfl⟩,tq⟩,.ret (.refl _),.cons (.mx (.cons (.refl _) (.cons (.refl _) (.cons (.refl _) (.cons (.refl _) (.cons .nl (.cons .u .nil))))))) (.dd (.dd .nil))⟩
 ·rw[if_neg (by decide)]at hi;refine lj.w ?_;refine⟨[],_,_,_,_,h.size,rfl,rfl,?_⟩;refine p6 (fun hh=>absurd hh (by omega)) (fun _=> ?_);refine⟨[],_,_,_,_,X7 rfl hl (by omega),rfl,rfl,?_⟩;exact⟨.ret (.t [.p (.k 0) 0,i64 0]),[.mx [f9 t k xs,i64 6,bool back,.z l (bv iv),g9,g9]],⟨_,rfl,[.d 32 0],rfl,⟨_,rfl,rfl⟩,tq⟩,.ret (.refl _),.cons (.mx (.cons (.refl _) (.cons (.refl _) (.cons (.refl _) (.cons (.refl _) (.cons .nl (.cons .u .nil))))))) (.dd (.dd .nil))⟩
theorem zt {t key s k xs rs} (h:k5 t key s k xs rs) {mode:Int} {back:Bool} {st:MS} {p:UInt8} (hm:3<=mode) (K:MK s mode st):
  b9 C 121 [.p (.k 0) 0,y7 p] [j7 (f9 t k xs) mode back st 1,j5 st.row st.gone] (.ret (y7 (x8 (cF t key false) mode back st p).1)) [j7 (f9 t k xs) mode back (x8 (cF t key false) mode back st p).2 2,.dead,j5 (x8 (cF t key false) mode back st p).2.row (x8 (cF t key false) mode back st p).2.gone]:=by
 have hs:=h.s_le;have hc:st.ch.length=s:=K.ok.ch.resolve_left (by omega);have hr:=K.ok.row;have hg:=K.glen;obtain⟨ch,row,g⟩:=st;dsimp only at hc hr hg;by_cases h0:row.length=0
 ·obtain rfl:=Zi h0;exact JH h hc
 ·have e:x8 (cF t key false) mode back ⟨ch,row,g⟩ p=L5 mode back ⟨ch,row,g⟩ p:=by unfold x8;rw[if_neg h0]
  rw[e];have hg:=hg h0;exact JI (by omega) (by omega) (by omega) (by omega) (by omega)
def Xo (cv:V) (mode:Int) (back:Bool) (m:Nat) (b:Bs):Bool×Nat×MS×Bs->D
 |(false,i,st,o)=>⟨[(0,.p (.k 0) 0),(1,.z m (bv b)),(6,i64 1),(7,.o 1 (.k 2) 0 0)],[j7 cv mode back st 1,j5 st.row st.gone,.sc []]⟩
 |(true,i,st,o)=>⟨[(0,.p (.k 0) 0),(1,.z (m-i) (bv (b.drop i))),(6,i64 1),(7,.o 1 (.k 3) 0 i)],[j7 cv mode back st 2,.dead,j5 st.row st.gone,.sc (bv o)]⟩
theorem jT {b:Bs} {i:Nat} (h:i<b.length):b.take (i+1)=b.take i++[(b.drop i).getD 0 0]:=by
 rw[List.take_add_one,Zu h,Zk,List.getElem?_drop,Zz,Zu h];rfl
theorem OB {t key s k xs rs} (h:k5 t key s k xs rs) {mode:Int} {back:Bool} {st:MS} {m:Nat} {vb:List Value} {b:Bs} (hvb:vb=bv b) (hb:b.length=m) (hbm:m<=1000000) (hm:3<=mode) (K:MK s mode st) (hne:0<m\/st.row=[]):
  b9 C 66 [.p (.k 0) 0,.z m vb] [j7 (f9 t k xs) mode back st 1,j5 st.row st.gone] (.ret (.t [.z m (bv (y8 (cF t key false) mode back st b).1),i64 0])) [j7 (f9 t k xs) mode back (y8 (cF t key false) mode back st b).2 2,.dead,j5 (y8 (cF t key false) mode back st b).2.row (y8 (cF t key false) mode back st b).2.gone]:=by
 subst hvb;have hs:=h.s_le;have hci:=h.ci;have G:=ur h (back:=back) (st:=st) hm;refine qI.w ?_;refine⟨0,Bool×Nat×MS×Bs,Xo (f9 t k xs) mode back m b,fun x=>x.2.1<=m/\(y8 (cF t key false) mode back st (b.take x.2.1))=(x.2.2.2,x.2.2.1)/\MK s mode x.2.2.1/\(x.1=false->x.2.1=0),fun x=>m-x.2.1,?_,fun x hx=> ?_⟩
 ·obtain⟨ch,row,g⟩:=st;cases row;all_goals
   refine⟨[.k 0,.k 1],_,_,_,_,G,rfl,rfl,?_⟩;refine⟨by decide,?_⟩;refine d9 (fun h=>absurd h (by rw[Jj];decide)) (fun _=> ?_);refine⟨by decide,by omega,by omega,?_⟩;exact⟨[],(false,0,_,[]),⟨Zv _,rfl,K,fun _=>rfl⟩,[.k 0,.k 1,.d 17 0],⟨rfl,rfl,rfl,rfl,tq⟩,⟨_,rfl,rfl⟩,⟨_,rfl,rfl⟩,⟨_,rfl,rfl⟩,tq⟩
 ·obtain⟨f,i,⟨ch,row,g⟩,o⟩:=x;obtain⟨h1,h2,h3,h4⟩:=hx;dsimp only at h1 h2 h3 h4;cases f
  ·obtain rfl:=h4 rfl;have e:(([]:Bs),st)=(o,⟨ch,row,g⟩):=h2;obtain⟨rfl,rfl⟩:=Prod.mk.inj e;refine i7 (fun h0=> ?_) (fun h0=> ?_)
   ·obtain rfl:m=0:=by omega
    obtain rfl:=Zi hb;obtain rfl:row=[]:=hne.resolve_left (by omega);exact⟨.ret (.t [.z 0 [],i64 0]),[j7 (f9 t k xs) mode back ⟨ch,[],g⟩ 2,.dead],⟨_,rfl,[.k 0,.k 1],rfl,⟨_,rfl,rfl⟩,⟨_,rfl,rfl⟩,tq⟩,.ret (.refl _),.cons (.refl _) (.cons (.refl _) (.dd .nil))⟩
   ·have HB:=zt h (back:=back) (p:=b.getD 0 0) hm K;have hN:=K.one hci (by omega) hm (back:=back) (b.getD 0 0);have hT:y8 (cF t key false) mode back ⟨ch,row,g⟩ (b.take (0+1))=([(x8 (cF t key false) mode back ⟨ch,row,g⟩ (b.getD 0 0)).1],(x8 (cF t key false) mode back ⟨ch,row,g⟩ (b.getD 0 0)).2):=by
     rw[jT (by omega),ml];rfl
    generalize x8 (cF t key false) mode back ⟨ch,row,g⟩ (b.getD 0 0)=x at*
    obtain⟨o',⟨ch',row',g'⟩⟩:=x;dsimp only at HB hN hT;have hsl:sub (bv b) 1 (m-1)=bv (b.drop 1):=A3 hb (by omega);cases row<;>cases row'<;>(
     refine⟨by omega,by omega,_,p9 (k:=b) (i:=0) (by omega),?_⟩;refine⟨[.k 0,.k 1],_,_,_,_,HB,rfl,rfl,?_⟩;refine⟨Ze _,by omega,by decide,?_⟩;refine⟨by omega,by omega,by omega,by omega,?_⟩;exact⟨rfl,(true,0+1,⟨ch',_,g'⟩,[o']),⟨by show 0+1<=m;omega,hT,hN,fun h=>by cases h⟩,(by show m-(0+1)<m-0;omega),[.k 0,.k 1,.d 38 2,.d 40 0],⟨rfl,congrArg (V.z _) hsl,rfl,rfl,tq⟩,⟨_,rfl,rfl⟩,⟨_,rfl,rfl⟩,⟨_,rfl,rfl⟩,⟨_,rfl,i6 (X0 rfl)⟩,tq⟩)
  ·have lo:o.length=i:=by
    have:=rH (cF t key false) mode back (b.take i) st;rw[h2,Zn]at this;dsimp only at this;omega
   refine i7 (fun h0=> ?_) (fun h0=> ?_)
   ·obtain rfl:i=m:=by omega
    rw[Zp (by omega)]at h2;rw[h2];rcases row with _|⟨a,r⟩
    ·exact⟨_,[j7 (f9 t k xs) mode back ⟨ch,[],g⟩ 2,.dead,j5 [] g],⟨_,rfl,[.k 0,.k 1,.k 2],congrArg (fun x=>V.t [x,i64 0]) (congrArg (V.z i) (g8 lo)),⟨_,rfl,rfl⟩,⟨_,rfl,rfl⟩,⟨_,rfl,rfl⟩,tq⟩,.ret (.refl _),.cons (.refl _) (.cons (.refl _) (.cons (.refl _) .nil))⟩
    ·exact⟨_,[j7 (f9 t k xs) mode back ⟨ch,a::r,g⟩ 2,.dead,j5 (a::r) g],⟨_,rfl,[.k 0,.k 1,.k 2],congrArg (fun x=>V.t [x,i64 0]) (congrArg (V.z i) (g8 lo)),⟨_,rfl,rfl⟩,⟨_,rfl,rfl⟩,⟨_,rfl,rfl⟩,tq⟩,.ret (.refl _),.cons (.refl _) (.cons (.refl _) (.cons (.refl _) .nil))⟩
   ·have lt:i<m:=by omega
    have ld:(b.drop i).length=m-i:=by rw[Zf,hb]
    have HB:=zt h (back:=back) (p:=(b.drop i).getD 0 0) hm h3;have hN:=h3.one hci (by omega) hm (back:=back) ((b.drop i).getD 0 0);have hT:y8 (cF t key false) mode back st (b.take (i+1))=(o++[(x8 (cF t key false) mode back ⟨ch,row,g⟩ ((b.drop i).getD 0 0)).1],(x8 (cF t key false) mode back ⟨ch,row,g⟩ ((b.drop i).getD 0 0)).2):=by
     rw[jT (by omega),ml,h2]
    generalize x8 (cF t key false) mode back ⟨ch,row,g⟩ ((b.drop i).getD 0 0)=x at*
    obtain⟨o',⟨ch',row',g'⟩⟩:=x;dsimp only at HB hN hT;have hsl:sub (bv (b.drop i)) 1 (m-i-1)=bv (b.drop (i+1)):=by rw[A3 ld (by omega),Jh]
    cases row<;>cases row'<;>(
     refine⟨by omega,by omega,_,p9 (k:=b.drop i) (i:=0) (by omega),?_⟩;refine⟨[.k 0,.k 2],_,_,_,_,HB,rfl,rfl,?_⟩;refine⟨Ze _,by omega,by rw[j6,lo];omega,?_⟩;refine⟨by omega,by omega,by omega,by omega,?_⟩;exact⟨rfl,(true,i+1,⟨ch',_,g'⟩,o++[o']),⟨by show i+1<=m;omega,hT,hN,fun h=>by cases h⟩,(by show m-(i+1)<m-i;omega),[.k 0,.k 1,.d 38 2,.d 40 0],⟨rfl,congrArg (V.z _) hsl,rfl,rfl,tq⟩,⟨_,rfl,rfl⟩,⟨_,rfl,rfl⟩,⟨_,rfl,rfl⟩,⟨_,rfl,i6 (br lo rfl)⟩,tq⟩)
theorem Ar {t key s k xs rs} (h:k5 t key s k xs rs) {mode:Int} {back:Bool} {st:MS} {vb:List Value} (hm:3<=mode):
  b9 C 66 [.p (.k 0) 0,.z 0 vb] [j7 (f9 t k xs) mode back st 1,j5 st.row st.gone] (.ret (.t [.z 0 [],i64 0])) [j7 (f9 t k xs) mode back st 1,j5 st.row st.gone]:=by
 have G:=ur h (back:=back) (st:=st) hm;refine qI.c ?_;refine⟨0,Unit,fun _=>⟨[(0,.p (.k 0) 0),(1,.z 0 vb),(6,i64 1),(7,.o 1 (.k 2) 0 0)],[j7 (f9 t k xs) mode back st 1,j5 st.row st.gone,.sc []]⟩,fun _=>True,fun _=>0,?_,fun x hx=> ?_⟩
 ·obtain⟨ch,row,g⟩:=st;cases row;all_goals
   refine⟨[.k 0,.k 1],_,_,_,_,G,rfl,rfl,?_⟩;refine⟨by decide,?_⟩;refine⟨by decide,by omega,by omega,?_⟩;exact⟨[],(),tq,[.k 0,.k 1,.d 17 0],⟨rfl,rfl,rfl,rfl,tq⟩,⟨_,rfl,rfl⟩,⟨_,rfl,rfl⟩,⟨_,rfl,rfl⟩,tq⟩
 ·obtain⟨ch,row,g⟩:=st;cases row;all_goals
   exact⟨_,rfl,[.k 0,.k 1],rfl,⟨_,rfl,rfl⟩,⟨_,rfl,rfl⟩,tq⟩
def Xn (cv:V) (mode:Int) (back:Bool) (m s c:Nat) (b:Bs):Nat×Nat×Bs×Bs->D
 |(i,q,o,c')=>⟨[(0,.p (.k 0) 0),(1,.z (m-q) (bv (b.drop q))),(6,i64 s),(7,.o 1 (.k 2) 0 q)],[.mx [cv,i64 mode,bool back,.z c (bv c'),.z 0 [],.u],.dead,.sc (bv o)]⟩
theorem OA {t key s k xs rs} (h:k5 t key s k xs rs) {mode:Int} {back:Bool} {c m:Nat} {vb:List Value} {ch b:Bs} (hvb:vb=bv b) (hb:b.length=m) (hbm:m<=1000000) (hm:mode=1\/mode=2/\c=s) (hc:ch.length=c) (hg:m%s=0):
  b9 C 66 [.p (.k 0) 0,.z m vb] [.mx [f9 t k xs,i64 mode,bool back,.z c (bv ch),.z 0 [],.u],.dead] (.ret (.t [.z m (bv (A7 (cF t key false) (cF t key true) mode back s b ch (m/s)).1),i64 0])) [.mx [f9 t k xs,i64 mode,bool back,.z c (bv (A7 (cF t key false) (cF t key true) mode back s b ch (m/s)).2),.z 0 [],.u],.dead,.dead]:=by
 subst hvb;have hs:=h.s_le;have hci:=h.ci;have hdm:=Z4 m s;have hm12:mode=1\/mode=2:=by omega
 have G:=zJ h (back:=back) (c:=c) (vc:=bv ch) hm12;refine qI.w ?_;refine⟨0,Nat×Nat×Bs×Bs,Xn (f9 t k xs) mode back m s c b,fun x=>x.2.1=s*x.1/\x.2.1<=m/\A7 (cF t key false) (cF t key true) mode back s b ch x.1=(x.2.2.1,x.2.2.2)/\x.2.2.1.length=x.2.1/\x.2.2.2.length=c,fun x=>m-x.2.1,?_,fun x hx=> ?_⟩
 ·refine⟨[.k 0],_,_,_,_,G,rfl,rfl,?_⟩;refine⟨by omega,?_⟩;refine d9 (fun h=>absurd h ?_) (fun _=> ?_)
  ·have:((m:Int).tmod (s:Int))=((m%s:Nat):Int):=by rw[Zl (by omega)];rfl
   rw[this,hg];decide
  refine⟨by decide,by omega,by omega,?_⟩;exact⟨[],(0,0,[],ch),⟨by show 0=s*0;omega,Zv _,rfl,rfl,hc⟩,[.k 0,.k 1,.d 17 0],⟨rfl,rfl,rfl,rfl,tq⟩,⟨_,rfl,rfl⟩,⟨_,rfl,rfl⟩,⟨_,rfl,rfl⟩,tq⟩
 ·obtain⟨i,q,o,c'⟩:=x;obtain⟨h1,h2,h3,h4,h5⟩:=hx;dsimp only at h1 h2 h3 h4 h5;have ld:(b.drop q).length=m-q:=by rw[Zf,hb]
  refine i7 (fun h0=> ?_) (fun h0=> ?_)
  ·obtain rfl:q=m:=by omega
   have hi:q/s=i:=by rw[h1,Jb _ (by omega)]
   rw[hi,h3];exact⟨_,[.mx [f9 t k xs,i64 mode,bool back,.z c (bv c'),.z 0 [],.u],.dead],⟨_,rfl,[.k 0,.k 1],congrArg (fun x=>V.t [x,i64 0]) (congrArg (V.z q) (g8 h4)),⟨_,rfl,rfl⟩,⟨_,rfl,rfl⟩,tq⟩,.ret (.refl _),.cons (.refl _) (.cons (.refl _) (.dd .nil))⟩
  ·have hq:q+s<=m:=by
    have e1:m=s*(m/s):=by omega
    have:i<m/s:=by
     refine Z8 (a:=s) ?_;omega
    have:=Nat.mul_le_mul_left s this;rw[Z6]at this;omega
   have lp:(sub b q s).length=s:=by rw[m5];omega
   have hvp:sub (bv (b.drop q)) 0 s=bv (sub b q s):=o6 _ _ _;have hn:A7 (cF t key false) (cF t key true) mode back s b ch (i+1)=(o++(T9 (cF t key false) (cF t key true) mode back c' (sub b q s)).1,(T9 (cF t key false) (cF t key true) mode back c' (sub b q s)).2):=by
    rw[mj,h3,<-h1]
   have HB:=JE h (mode:=mode) (back:=back) hvp rfl lp h5 hm;have hl:=wr (back:=back) hci hm12 (c:=c') (p:=sub b q s) (by omega) lp;have hl2:(T9 (cF t key false) (cF t key true) mode back c' (sub b q s)).2.length=c:=by
    rcases hm with rfl|⟨rfl,rfl⟩
    ·rw[<-h5];rfl
    ·exact hl.2.resolve_left (by decide)
   have hl1:=hl.1;generalize T9 (cF t key false) (cF t key true) mode back c' (sub b q s)=x at*
   obtain⟨o',c2⟩:=x;dsimp only at HB hn hl1 hl2;have hsl:sub (bv (b.drop q)) s (m-q-s)=bv (b.drop (q+s)):=by rw[A3 ld (by omega),Jh]
   refine i7 (fun h=>absurd h (by omega)) (fun _=> ?_);refine⟨by omega,by omega,by omega,by omega,?_⟩;refine⟨[.k 0],_,_,_,_,HB,rfl,rfl,?_⟩;refine⟨by first|omega|(rw [j6];omega),by omega,by rw[j6,h4];omega,?_⟩;refine⟨by omega,by omega,by omega,by omega,?_⟩;refine⟨rfl,(i+1,q+s,o++o',c2),⟨by show q+s=s*(i+1);rw[Z6];omega,hq,hn,by rw[Zc,h4,hl1],hl2⟩,(by show m-(q+s)<m-q;omega),[.k 0,.k 1,.d 24 0],⟨rfl,?_,rfl,rfl,tq⟩,⟨_,rfl,rfl⟩,⟨_,rfl,rfl⟩,⟨_,rfl,i6 ?_⟩,tq⟩
   ·show V.z (m-q-s) (sub (bv (b.drop q)) s (m-q-s))=V.z (m-(q+s)) _;rw[hsl,Nat.sub_sub]
   ·show sub (bv o) 0 (q*1)++bv o'=_;rw[Zo,g8 h4,B7]
theorem Di (E D back n) (b c:Bs):∀i,(A7 E D 1 back n b c i).2=c
 |0=>rfl
 |i+1=>by
  rw[mj];show(T9 E D 1 back (A7 E D 1 back n b c i).2 (sub b (n*i) n)).2=c;unfold T9;rw[if_pos rfl];exact Di E D back n b c i
theorem mh {E D:Bs->Bs} {n:Nat} {mode:Int} {back:Bool} {b c:Bs} (h:CI E D n) (hm:mode=1\/mode=2/\c.length=n) {i:Nat} (hi:n*i<=b.length):(A7 E D mode back n b c i).2.length=c.length:=by
 rcases hm with rfl|⟨rfl,hc⟩
 ·rw[Di]
 ·rw[((mi (back:=back) h (.inr rfl) (.inr hc) i hi).2).resolve_left (by decide),hc]
theorem Aq {t key s k xs rs} (h:k5 t key s k xs rs) {mode:Int} {back:Bool} {st:MS} {m:Nat} {vb:List Value} {b:Bs} (hvb:vb=bv b) (hb:b.length=m) (hbm:m<=1000000) (K:MK s mode st) (hg:m%r8 s mode=0) (hne:0<m\/st.row=[]):
  b9 C 66 [.p (.k 0) 0,.z m vb] [j7 (f9 t k xs) mode back st 1,j5 st.row st.gone] (.ret (.t [.z m (bv (k9 (cF t key false) (cF t key true) s mode back st b).1),i64 0])) [j7 (f9 t k xs) mode back (k9 (cF t key false) (cF t key true) s mode back st b).2 2,.dead,j5 (k9 (cF t key false) (cF t key true) s mode back st b).2.row (k9 (cF t key false) (cF t key true) s mode back st b).2.gone]:=by
 by_cases hm:mode=1\/mode=2
 ·have hr:=K.ok.blk hm;have hc:=K.ok.ch;obtain⟨ch,row,g⟩:=st;dsimp only at hr hc;subst hr;have e:k9 (cF t key false) (cF t key true) s mode back ⟨ch,[],g⟩ b=((A7 (cF t key false) (cF t key true) mode back s b ch (m/s)).1,⟨(A7 (cF t key false) (cF t key true) mode back s b ch (m/s)).2,[],g⟩):=by
   unfold k9;rw[if_pos hm,hb]
  have hg':m%s=0:=by unfold r8 at hg;rwa [if_pos hm]at hg
  have hdm:=Z4 m s;have hl:=mh (back:=back) h.ci (b:=b) (c:=ch) (i:=m/s) (mode:=mode) (by omega) (by omega);have HB:=OA h (back:=back) hvb hb hbm (ch:=ch) (c:=ch.length) (mode:=mode) (by omega) rfl hg';rw[e];show b9 C 66 [.p (.k 0) 0,.z m vb] [.mx [f9 t k xs,i64 mode,bool back,.z ch.length (bv ch),.z 0 [],.u],.dead] _ [.mx [f9 t k xs,i64 mode,bool back,.z (A7 (cF t key false) (cF t key true) mode back s b ch (m/s)).2.length (bv (A7 (cF t key false) (cF t key true) mode back s b ch (m/s)).2),.z 0 [],.u],.dead,.dead];rw[hl];exact HB
 ·have e:k9 (cF t key false) (cF t key true) s mode back st b=y8 (cF t key false) mode back st b:=by
   unfold k9;rw[if_neg hm]
  rw[e];exact OB h hvb hb hbm (by have:=K.ok.m;omega) K hne
theorem Oz {t key s k xs rs} (h:k5 t key s k xs rs) {mode:Int} {back:Bool} {st:MS} {m:Nat} {vb:List Value} (K:MK s mode st) (hg:m%r8 s mode≠0):
  b9 C 66 [.p (.k 0) 0,.z m vb] [j7 (f9 t k xs) mode back st 1,j5 st.row st.gone] (.ret (.t [g9,i64 7])) [j7 (f9 t k xs) mode back st 1,j5 st.row st.gone]:=by
 have hs:=h.s_le;have hm:mode=1\/mode=2:=by
  refine Classical.byContradiction fun hm=>hg ?_;unfold r8;rw[if_neg hm,Nat.mod_one]
 have hr:=K.ok.blk hm;obtain⟨ch,row,g⟩:=st;dsimp only at hr;subst hr;have hg':m%s≠0:=by unfold r8 at hg;rwa [if_pos hm]at hg
 have G:=zJ h (back:=back) (c:=ch.length) (vc:=bv ch) hm;refine qI.c ?_;refine⟨0,Unit,fun _=>⟨[],[]⟩,fun _=>False,fun _=>0,?_,fun x hx=>hx.elim⟩;refine⟨[.k 0],_,_,_,_,G,rfl,rfl,?_⟩;refine⟨by omega,?_⟩;refine d9 (fun _=> ?_) (fun h=>absurd ?_ h)
 ·exact⟨_,rfl,[.k 0,.k 1],rfl,⟨_,rfl,rfl⟩,⟨_,rfl,rfl⟩,tq⟩
 ·have:((m:Int).tmod (s:Int))=((m%s:Nat):Int):=by rw[Zl (by omega)];rfl
  rw[this];omega
theorem MH {t key s k xs rs} (h:k5 t key s k xs rs) {mode:Int} {back:Bool} {c:Nat} {p ch:Bs} {vp vch:List Value} (hvp:vp=bv p) (hvc:vch=bv ch) (hp:p.length=s) (hc:ch.length=c) (hm:mode=1\/mode=2/\c=s):
  b9 C 69 [.p (.k 0) 0,.z s vp] [.mx [.q rs 0,i64 mode,bool back,.z c vch,.z 0 [],i64 0,.u]] (.ret (.z s (bv (T9 (cF t key false) (cF t key true) mode back ch p).1))) [.mx [.q rs 0,i64 mode,bool back,.z c (bv (T9 (cF t key false) (cF t key true) mode back ch p).2),.z 0 [],i64 0,.u]]:=by
 subst hvp;subst hvc;have hs:=h.s_le;have lE:=h.len (back:=false) hp;have lD:=h.len (back:=true) hp;refine Td.c ?_;refine⟨_,rfl,?_⟩;refine i7 (fun h1=> ?_) (fun h1=> ?_)
 ·subst h1;refine⟨_,rfl,?_⟩;cases back
  ·refine⟨_,rfl,?_⟩;refine⟨_,rfl,?_⟩;refine⟨[],_,_,_,_,h.E hp rfl,rfl,rfl,?_⟩;refine⟨_,rfl,[.k 0],?_,⟨_,rfl,?_⟩,tq⟩
   ·show V.z s (sub (bv (cF t key false p)) 0 s)=_;rw[g8 lE];rfl
   ·rfl
  ·refine⟨_,rfl,?_⟩;refine⟨[],_,_,_,_,h.Un hp rfl,rfl,rfl,?_⟩;refine⟨_,rfl,[.k 0],?_,⟨_,rfl,?_⟩,tq⟩
   ·show V.z s (sub (bv (cF t key true p)) 0 s)=_;rw[g8 lD];rfl
   ·rfl
 ·obtain⟨rfl,rfl⟩:=hm.resolve_left h1;refine⟨_,rfl,?_⟩;refine⟨_,rfl,?_⟩;cases back
  ·have lx:=B5 hp hc;have lX:=h.len (back:=false) lx;refine⟨_,rfl,?_⟩;refine⟨_,rfl,?_⟩;refine⟨[],_,_,_,_,I0 (a:=p) (b:=ch) rfl rfl hp hc (by omega),rfl,rfl,?_⟩;refine⟨[],_,_,_,_,h.E (b:=j9 p ch) lx (g8 lx),rfl,rfl,?_⟩;refine⟨Za rfl,?_⟩;refine⟨_,rfl,?_⟩;refine⟨_,rfl,[.k 0],?_,⟨_,rfl,?_⟩,tq⟩
   ·show V.z c (sub (bv (cF t key false (j9 p ch))) 0 c)=_;rw[g8 lX];rfl
   ·show B.mx [.q rs 0,i64 2,bool false,.z c (sub (bv (cF t key false (j9 p ch))) 0 c),.z 0 [],i64 0,.u]=_;rw[g8 lX];rfl
  ·have lx:=B5 lD hc;refine⟨_,rfl,?_⟩;refine⟨[],_,_,_,_,h.Un hp rfl,rfl,rfl,?_⟩;refine⟨_,rfl,?_⟩;refine⟨[],_,_,_,_,I0 (a:=cF t key true p) (b:=ch) (g8 lD) rfl lD hc (by omega),rfl,rfl,?_⟩;refine⟨by rw[j6];omega,by omega,by decide,?_⟩;refine⟨Za rfl,?_⟩;refine⟨_,rfl,[.k 0],?_,⟨_,rfl,?_⟩,tq⟩
   ·show V.z c (sub (bv (j9 (cF t key true p) ch)) 0 c)=_;rw[g8 lx];rfl
   ·show B.mx [.q rs 0,i64 2,bool true,.z (0+c) (sub ([]++bv p) 0 (0+c)),.z 0 [],i64 0,.u]=_;rw[Zj,Zm,g8 hp];rfl
theorem Ov {t key s k xs rs} (h:k5 t key s k xs rs) {mode:Int} {back:Bool} {r u:Nat} {p:UInt8} {ch:Bs} {vch vr:List Value} (hvc:vch=bv ch) (hl:ch.length=s):
  b9 C 70 [.p (.k 0) 0,y7 p] [.mx [.q rs 0,i64 mode,bool back,.z s vch,.z r vr,i64 u,.u]] (.ret (y7 (p^^^(cF t key false ch).getD 0 0))) [.mx [.q rs 0,i64 mode,bool back,.z s (bv (ch.drop 1++[n8 back p (p^^^(cF t key false ch).getD 0 0)])),.z r vr,i64 u,.u]]:=by
 subst hvc;have hs:=h.s_le;have lE:=h.len (back:=false) hl;have ld:(ch.drop 1).length=s-1:=by rw[Zf,hl]
 refine Te.c ?_;refine⟨_,rfl,?_⟩;refine⟨_,rfl,?_⟩;refine⟨[],_,_,_,_,h.E hl rfl,rfl,rfl,?_⟩;generalize cF t key false ch=E at*
 refine⟨by omega,by omega,_,p9 (k:=E) (i:=0) (by omega),?_⟩;refine⟨_,rfl,?_⟩;cases back
 ·refine⟨_,rfl,?_⟩;refine⟨by omega,by omega,by omega,by omega,?_⟩;refine⟨by rw[m5,j6];omega,by omega,by decide,?_⟩;refine⟨Ze _,by omega,by show 0+(0+(s-1))*1<=_;rw[Zc,m5,m5,j6];omega,?_⟩;refine⟨Za rfl,?_⟩;refine⟨_,rfl,[.k 0],?_,⟨_,rfl,?_⟩,tq⟩
  ·show V.s (.int .u8 (U8.wrap _))=_;rw[o5]
  ·show B.mx [.q rs 0,i64 mode,bool false,.z (0+(s-1)+1) (sub (sub ([]++sub (bv ch) 1 (s-1)) 0 ((0+(s-1))*1)++sub [Value.int .u8 _] 0 (1*1)) 0 (0+(s-1)+1)),.z r vr,i64 u,.u]=_;rw[Zj,Zm,A3 hl (by omega),U0 ld (o5 _ _),show s-1+1=s by omega];rfl
 ·refine⟨_,rfl,?_⟩;refine⟨by omega,by omega,by omega,by omega,?_⟩;refine⟨by rw[m5,j6];omega,by omega,by decide,?_⟩;refine⟨Ze _,by omega,by show 0+(0+(s-1))*1<=_;rw[Zc,m5,m5,j6];omega,?_⟩;refine⟨Za rfl,?_⟩;refine⟨_,rfl,[.k 0],?_,⟨_,rfl,?_⟩,tq⟩
  ·show V.s (.int .u8 (U8.wrap _))=_;rw[o5]
  ·show B.mx [.q rs 0,i64 mode,bool true,.z (0+(s-1)+1) (sub (sub ([]++sub (bv ch) 1 (s-1)) 0 ((0+(s-1))*1)++sub [Value.int .u8 _] 0 (1*1)) 0 (0+(s-1)+1)),.z r vr,i64 u,.u]=_;rw[Zj,Zm,A3 hl (by omega),U0 ld rfl,show s-1+1=s by omega];rfl
theorem JF {t key s k xs rs} (h:k5 t key s k xs rs) {mode:Int} {back:Bool} {r u:Nat} {p:UInt8} {ch:Bs} {vch vr:List Value} (hvc:vch=bv ch) (hl:ch.length=s) (hm:mode=4\/mode=5\/mode=6) (hr:r=0\/u=r):
  b9 C 71 [.p (.k 0) 0,y7 p] [.mx [.q rs 0,i64 mode,bool back,.z s vch,.z r vr,i64 u,.u],.dead] (.ret (y7 (p^^^(cF t key false ch).getD 0 0))) [.mx [.q rs 0,i64 mode,bool back,.z s (bv (cQ (cF t key false) mode ch)),.z s (bv (cF t key false ch)),i64 1,.o 1 (.k 2) 0 1],.dead,.sc (bv ([]++[n8 back p (p^^^(cF t key false ch).getD 0 0)]))]:=by
 subst hvc;have hs:=h.s_le;have lE:=h.len (back:=false) hl;have hE:=h.E hl (va:=bv ch) rfl;have lI:(X9 ch).length=s:=by rw[ov,hl]
 rcases hm with rfl|rfl|rfl
 ·have e:cQ (cF t key false) 4 ch=ch:=by unfold cQ;rw[if_neg (by decide),if_neg (by decide)]
  rw[e];generalize cF t key false ch=E at*
  cases back
  ·refine V9.c ?_;refine⟨_,rfl,?_⟩;refine i7 (fun h0=> ?_) (fun h0=> ?_)
   ·refine⟨_,rfl,?_⟩;refine⟨_,rfl,?_⟩;refine⟨[],_,_,_,_,hE,rfl,rfl,?_⟩;refine⟨Za rfl,?_⟩;refine⟨Za rfl,?_⟩;refine⟨_,rfl,?_⟩;refine⟨Za rfl,?_⟩;refine⟨_,rfl,?_⟩;refine⟨_,rfl,?_⟩;refine⟨by omega,by omega,_,p9 (k:=E) (i:=0) (by omega),?_⟩;refine⟨_,rfl,?_⟩;refine⟨Za rfl,?_⟩;refine⟨_,rfl,?_⟩;refine⟨_,rfl,?_⟩;refine⟨Ze _,by omega,?_⟩;refine⟨Za rfl,?_⟩;refine⟨_,rfl,?_⟩;refine⟨_,rfl,?_⟩;refine⟨_,rfl,?_⟩;refine i7 (fun hh=>absurd hh (by omega)) (fun _=> ?_);refine⟨_,rfl,[.k 0,.k 1,.d 98 0],?_,⟨_,rfl,?_⟩,⟨_,rfl,rfl⟩,⟨_,rfl,i6 ?_⟩,tq⟩
    ·show V.s (.int .u8 (U8.wrap _))=_;rw[o5]
    ·show B.mx [.q rs 0,i64 4,bool false,.z s (bv ch),.z s (sub (bv E) 0 s),i64 1,.o 1 (.k 2) 0 1]=_;rw[g8 lE]
    ·exact X0 (o5 _ _)
   ·refine⟨_,rfl,?_⟩;refine⟨_,rfl,?_⟩;refine i7 (fun _=> ?_) (fun hh=>absurd (show (u:Int)=(r:Int) by omega) hh);refine⟨_,rfl,?_⟩;refine⟨_,rfl,?_⟩;refine⟨[],_,_,_,_,hE,rfl,rfl,?_⟩;refine⟨Za rfl,?_⟩;refine⟨Za rfl,?_⟩;refine⟨_,rfl,?_⟩;refine⟨Za rfl,?_⟩;refine⟨_,rfl,?_⟩;refine⟨_,rfl,?_⟩;refine⟨by omega,by omega,_,p9 (k:=E) (i:=0) (by omega),?_⟩;refine⟨_,rfl,?_⟩;refine⟨Za rfl,?_⟩;refine⟨_,rfl,?_⟩;refine⟨_,rfl,?_⟩;refine⟨Ze _,by omega,?_⟩;refine⟨Za rfl,?_⟩;refine⟨_,rfl,?_⟩;refine⟨_,rfl,?_⟩;refine⟨_,rfl,?_⟩;refine i7 (fun hh=>absurd hh (by omega)) (fun _=> ?_);refine⟨_,rfl,[.k 0,.k 1,.d 98 0],?_,⟨_,rfl,?_⟩,⟨_,rfl,rfl⟩,⟨_,rfl,i6 ?_⟩,tq⟩
    ·show V.s (.int .u8 (U8.wrap _))=_;rw[o5]
    ·show B.mx [.q rs 0,i64 4,bool false,.z s (bv ch),.z s (sub (bv E) 0 s),i64 1,.o 1 (.k 2) 0 1]=_;rw[g8 lE]
    ·exact X0 (o5 _ _)
  ·refine V9.c ?_;refine⟨_,rfl,?_⟩;refine i7 (fun h0=> ?_) (fun h0=> ?_)
   ·refine⟨_,rfl,?_⟩;refine⟨_,rfl,?_⟩;refine⟨[],_,_,_,_,hE,rfl,rfl,?_⟩;refine⟨Za rfl,?_⟩;refine⟨Za rfl,?_⟩;refine⟨_,rfl,?_⟩;refine⟨Za rfl,?_⟩;refine⟨_,rfl,?_⟩;refine⟨_,rfl,?_⟩;refine⟨by omega,by omega,_,p9 (k:=E) (i:=0) (by omega),?_⟩;refine⟨_,rfl,?_⟩;refine⟨Za rfl,?_⟩;refine⟨_,rfl,?_⟩;refine⟨_,rfl,?_⟩;refine⟨Ze _,by omega,?_⟩;refine⟨Za rfl,?_⟩;refine⟨_,rfl,?_⟩;refine⟨_,rfl,?_⟩;refine⟨_,rfl,?_⟩;refine i7 (fun hh=>absurd hh (by omega)) (fun _=> ?_);refine⟨_,rfl,[.k 0,.k 1,.d 98 0],?_,⟨_,rfl,?_⟩,⟨_,rfl,rfl⟩,⟨_,rfl,i6 ?_⟩,tq⟩
    ·show V.s (.int .u8 (U8.wrap _))=_;rw[o5]
    ·show B.mx [.q rs 0,i64 4,bool true,.z s (bv ch),.z s (sub (bv E) 0 s),i64 1,.o 1 (.k 2) 0 1]=_;rw[g8 lE]
    ·exact X0 rfl
   ·refine⟨_,rfl,?_⟩;refine⟨_,rfl,?_⟩;refine i7 (fun _=> ?_) (fun hh=>absurd (show (u:Int)=(r:Int) by omega) hh);refine⟨_,rfl,?_⟩;refine⟨_,rfl,?_⟩;refine⟨[],_,_,_,_,hE,rfl,rfl,?_⟩;refine⟨Za rfl,?_⟩;refine⟨Za rfl,?_⟩;refine⟨_,rfl,?_⟩;refine⟨Za rfl,?_⟩;refine⟨_,rfl,?_⟩;refine⟨_,rfl,?_⟩;refine⟨by omega,by omega,_,p9 (k:=E) (i:=0) (by omega),?_⟩;refine⟨_,rfl,?_⟩;refine⟨Za rfl,?_⟩;refine⟨_,rfl,?_⟩;refine⟨_,rfl,?_⟩;refine⟨Ze _,by omega,?_⟩;refine⟨Za rfl,?_⟩;refine⟨_,rfl,?_⟩;refine⟨_,rfl,?_⟩;refine⟨_,rfl,?_⟩;refine i7 (fun hh=>absurd hh (by omega)) (fun _=> ?_);refine⟨_,rfl,[.k 0,.k 1,.d 98 0],?_,⟨_,rfl,?_⟩,⟨_,rfl,rfl⟩,⟨_,rfl,i6 ?_⟩,tq⟩
    ·show V.s (.int .u8 (U8.wrap _))=_;rw[o5]
    ·show B.mx [.q rs 0,i64 4,bool true,.z s (bv ch),.z s (sub (bv E) 0 s),i64 1,.o 1 (.k 2) 0 1]=_;rw[g8 lE]
    ·exact X0 rfl
 ·have e:cQ (cF t key false) 5 ch=cF t key false ch:=by unfold cQ;rw[if_pos rfl]
  rw[e];generalize cF t key false ch=E at*
  cases back
  ·refine V9.c ?_;refine⟨_,rfl,?_⟩;refine i7 (fun h0=> ?_) (fun h0=> ?_)
   ·refine⟨_,rfl,?_⟩;refine⟨_,rfl,?_⟩;refine⟨[],_,_,_,_,hE,rfl,rfl,?_⟩;refine⟨Za rfl,?_⟩;refine⟨Za rfl,?_⟩;refine⟨_,rfl,?_⟩;refine⟨_,rfl,?_⟩;refine⟨Za rfl,?_⟩;refine⟨Za rfl,?_⟩;refine⟨_,rfl,?_⟩;refine⟨_,rfl,?_⟩;refine⟨by omega,by omega,_,p9 (k:=E) (i:=0) (by omega),?_⟩;refine⟨_,rfl,?_⟩;refine⟨Za rfl,?_⟩;refine⟨_,rfl,?_⟩;refine⟨_,rfl,?_⟩;refine⟨Ze _,by omega,?_⟩;refine⟨Za rfl,?_⟩;refine⟨_,rfl,?_⟩;refine⟨_,rfl,[.k 0,.k 1,.d 98 0],?_,⟨_,rfl,?_⟩,⟨_,rfl,rfl⟩,⟨_,rfl,i6 ?_⟩,tq⟩
    ·show V.s (.int .u8 (U8.wrap _))=_;rw[o5]
    ·show B.mx [.q rs 0,i64 5,bool false,.z s (sub (bv E) 0 s),.z s (sub (bv E) 0 s),i64 1,.o 1 (.k 2) 0 1]=_;rw[g8 lE]
    ·exact X0 (o5 _ _)
   ·refine⟨_,rfl,?_⟩;refine⟨_,rfl,?_⟩;refine i7 (fun _=> ?_) (fun hh=>absurd (show (u:Int)=(r:Int) by omega) hh);refine⟨_,rfl,?_⟩;refine⟨_,rfl,?_⟩;refine⟨[],_,_,_,_,hE,rfl,rfl,?_⟩;refine⟨Za rfl,?_⟩;refine⟨Za rfl,?_⟩;refine⟨_,rfl,?_⟩;refine⟨_,rfl,?_⟩;refine⟨Za rfl,?_⟩;refine⟨Za rfl,?_⟩;refine⟨_,rfl,?_⟩;refine⟨_,rfl,?_⟩;refine⟨by omega,by omega,_,p9 (k:=E) (i:=0) (by omega),?_⟩;refine⟨_,rfl,?_⟩;refine⟨Za rfl,?_⟩;refine⟨_,rfl,?_⟩;refine⟨_,rfl,?_⟩;refine⟨Ze _,by omega,?_⟩;refine⟨Za rfl,?_⟩;refine⟨_,rfl,?_⟩;refine⟨_,rfl,[.k 0,.k 1,.d 98 0],?_,⟨_,rfl,?_⟩,⟨_,rfl,rfl⟩,⟨_,rfl,i6 ?_⟩,tq⟩
    ·show V.s (.int .u8 (U8.wrap _))=_;rw[o5]
    ·show B.mx [.q rs 0,i64 5,bool false,.z s (sub (bv E) 0 s),.z s (sub (bv E) 0 s),i64 1,.o 1 (.k 2) 0 1]=_;rw[g8 lE]
    ·exact X0 (o5 _ _)
  ·refine V9.c ?_;refine⟨_,rfl,?_⟩;refine i7 (fun h0=> ?_) (fun h0=> ?_)
   ·refine⟨_,rfl,?_⟩;refine⟨_,rfl,?_⟩;refine⟨[],_,_,_,_,hE,rfl,rfl,?_⟩;refine⟨Za rfl,?_⟩;refine⟨Za rfl,?_⟩;refine⟨_,rfl,?_⟩;refine⟨_,rfl,?_⟩;refine⟨Za rfl,?_⟩;refine⟨Za rfl,?_⟩;refine⟨_,rfl,?_⟩;refine⟨_,rfl,?_⟩;refine⟨by omega,by omega,_,p9 (k:=E) (i:=0) (by omega),?_⟩;refine⟨_,rfl,?_⟩;refine⟨Za rfl,?_⟩;refine⟨_,rfl,?_⟩;refine⟨_,rfl,?_⟩;refine⟨Ze _,by omega,?_⟩;refine⟨Za rfl,?_⟩;refine⟨_,rfl,?_⟩;refine⟨_,rfl,[.k 0,.k 1,.d 98 0],?_,⟨_,rfl,?_⟩,⟨_,rfl,rfl⟩,⟨_,rfl,i6 ?_⟩,tq⟩
    ·show V.s (.int .u8 (U8.wrap _))=_;rw[o5]
    ·show B.mx [.q rs 0,i64 5,bool true,.z s (sub (bv E) 0 s),.z s (sub (bv E) 0 s),i64 1,.o 1 (.k 2) 0 1]=_;rw[g8 lE]
    ·exact X0 rfl
   ·refine⟨_,rfl,?_⟩;refine⟨_,rfl,?_⟩;refine i7 (fun _=> ?_) (fun hh=>absurd (show (u:Int)=(r:Int) by omega) hh);refine⟨_,rfl,?_⟩;refine⟨_,rfl,?_⟩;refine⟨[],_,_,_,_,hE,rfl,rfl,?_⟩;refine⟨Za rfl,?_⟩;refine⟨Za rfl,?_⟩;refine⟨_,rfl,?_⟩;refine⟨_,rfl,?_⟩;refine⟨Za rfl,?_⟩;refine⟨Za rfl,?_⟩;refine⟨_,rfl,?_⟩;refine⟨_,rfl,?_⟩;refine⟨by omega,by omega,_,p9 (k:=E) (i:=0) (by omega),?_⟩;refine⟨_,rfl,?_⟩;refine⟨Za rfl,?_⟩;refine⟨_,rfl,?_⟩;refine⟨_,rfl,?_⟩;refine⟨Ze _,by omega,?_⟩;refine⟨Za rfl,?_⟩;refine⟨_,rfl,?_⟩;refine⟨_,rfl,[.k 0,.k 1,.d 98 0],?_,⟨_,rfl,?_⟩,⟨_,rfl,rfl⟩,⟨_,rfl,i6 ?_⟩,tq⟩
    ·show V.s (.int .u8 (U8.wrap _))=_;rw[o5]
    ·show B.mx [.q rs 0,i64 5,bool true,.z s (sub (bv E) 0 s),.z s (sub (bv E) 0 s),i64 1,.o 1 (.k 2) 0 1]=_;rw[g8 lE]
    ·exact X0 rfl
 ·have e:cQ (cF t key false) 6 ch=X9 ch:=by unfold cQ;rw[if_neg (by decide),if_pos rfl]
  rw[e];generalize cF t key false ch=E at*
  cases back
  ·refine V9.c ?_;refine⟨_,rfl,?_⟩;refine i7 (fun h0=> ?_) (fun h0=> ?_)
   ·refine⟨_,rfl,?_⟩;refine⟨_,rfl,?_⟩;refine⟨[],_,_,_,_,hE,rfl,rfl,?_⟩;refine⟨Za rfl,?_⟩;refine⟨Za rfl,?_⟩;refine⟨_,rfl,?_⟩;refine⟨_,rfl,?_⟩;refine⟨[],_,_,_,_,pU rfl hl (by omega),rfl,rfl,?_⟩;refine⟨Za rfl,?_⟩;refine⟨Za rfl,?_⟩;refine⟨_,rfl,?_⟩;refine⟨_,rfl,?_⟩;refine⟨by omega,by omega,_,p9 (k:=E) (i:=0) (by omega),?_⟩;refine⟨_,rfl,?_⟩;refine⟨Za rfl,?_⟩;refine⟨_,rfl,?_⟩;refine⟨_,rfl,?_⟩;refine⟨Ze _,by omega,?_⟩;refine⟨Za rfl,?_⟩;refine⟨_,rfl,?_⟩;refine⟨_,rfl,[.k 0,.k 1,.d 98 0],?_,⟨_,rfl,?_⟩,⟨_,rfl,rfl⟩,⟨_,rfl,i6 ?_⟩,tq⟩
    ·show V.s (.int .u8 (U8.wrap _))=_;rw[o5]
    ·show B.mx [.q rs 0,i64 6,bool false,.z s (sub (bv (X9 ch)) 0 s),.z s (sub (bv E) 0 s),i64 1,.o 1 (.k 2) 0 1]=_;rw[g8 lE,g8 lI]
    ·exact X0 (o5 _ _)
   ·refine⟨_,rfl,?_⟩;refine⟨_,rfl,?_⟩;refine i7 (fun _=> ?_) (fun hh=>absurd (show (u:Int)=(r:Int) by omega) hh);refine⟨_,rfl,?_⟩;refine⟨_,rfl,?_⟩;refine⟨[],_,_,_,_,hE,rfl,rfl,?_⟩;refine⟨Za rfl,?_⟩;refine⟨Za rfl,?_⟩;refine⟨_,rfl,?_⟩;refine⟨_,rfl,?_⟩;refine⟨[],_,_,_,_,pU rfl hl (by omega),rfl,rfl,?_⟩;refine⟨Za rfl,?_⟩;refine⟨Za rfl,?_⟩;refine⟨_,rfl,?_⟩;refine⟨_,rfl,?_⟩;refine⟨by omega,by omega,_,p9 (k:=E) (i:=0) (by omega),?_⟩;refine⟨_,rfl,?_⟩;refine⟨Za rfl,?_⟩;refine⟨_,rfl,?_⟩;refine⟨_,rfl,?_⟩;refine⟨Ze _,by omega,?_⟩;refine⟨Za rfl,?_⟩;refine⟨_,rfl,?_⟩;refine⟨_,rfl,[.k 0,.k 1,.d 98 0],?_,⟨_,rfl,?_⟩,⟨_,rfl,rfl⟩,⟨_,rfl,i6 ?_⟩,tq⟩
    ·show V.s (.int .u8 (U8.wrap _))=_;rw[o5]
    ·show B.mx [.q rs 0,i64 6,bool false,.z s (sub (bv (X9 ch)) 0 s),.z s (sub (bv E) 0 s),i64 1,.o 1 (.k 2) 0 1]=_;rw[g8 lE,g8 lI]
    ·exact X0 (o5 _ _)
  ·refine V9.c ?_;refine⟨_,rfl,?_⟩;refine i7 (fun h0=> ?_) (fun h0=> ?_)
   ·refine⟨_,rfl,?_⟩;refine⟨_,rfl,?_⟩;refine⟨[],_,_,_,_,hE,rfl,rfl,?_⟩;refine⟨Za rfl,?_⟩;refine⟨Za rfl,?_⟩;refine⟨_,rfl,?_⟩;refine⟨_,rfl,?_⟩;refine⟨[],_,_,_,_,pU rfl hl (by omega),rfl,rfl,?_⟩;refine⟨Za rfl,?_⟩;refine⟨Za rfl,?_⟩;refine⟨_,rfl,?_⟩;refine⟨_,rfl,?_⟩;refine⟨by omega,by omega,_,p9 (k:=E) (i:=0) (by omega),?_⟩;refine⟨_,rfl,?_⟩;refine⟨Za rfl,?_⟩;refine⟨_,rfl,?_⟩;refine⟨_,rfl,?_⟩;refine⟨Ze _,by omega,?_⟩;refine⟨Za rfl,?_⟩;refine⟨_,rfl,?_⟩;refine⟨_,rfl,[.k 0,.k 1,.d 98 0],?_,⟨_,rfl,?_⟩,⟨_,rfl,rfl⟩,⟨_,rfl,i6 ?_⟩,tq⟩
    ·show V.s (.int .u8 (U8.wrap _))=_;rw[o5]
    ·show B.mx [.q rs 0,i64 6,bool true,.z s (sub (bv (X9 ch)) 0 s),.z s (sub (bv E) 0 s),i64 1,.o 1 (.k 2) 0 1]=_;rw[g8 lE,g8 lI]
    ·exact X0 rfl
   ·refine⟨_,rfl,?_⟩;refine⟨_,rfl,?_⟩;refine i7 (fun _=> ?_) (fun hh=>absurd (show (u:Int)=(r:Int) by omega) hh);refine⟨_,rfl,?_⟩;refine⟨_,rfl,?_⟩;refine⟨[],_,_,_,_,hE,rfl,rfl,?_⟩;refine⟨Za rfl,?_⟩;refine⟨Za rfl,?_⟩;refine⟨_,rfl,?_⟩;refine⟨_,rfl,?_⟩;refine⟨[],_,_,_,_,pU rfl hl (by omega),rfl,rfl,?_⟩;refine⟨Za rfl,?_⟩;refine⟨Za rfl,?_⟩;refine⟨_,rfl,?_⟩;refine⟨_,rfl,?_⟩;refine⟨by omega,by omega,_,p9 (k:=E) (i:=0) (by omega),?_⟩;refine⟨_,rfl,?_⟩;refine⟨Za rfl,?_⟩;refine⟨_,rfl,?_⟩;refine⟨_,rfl,?_⟩;refine⟨Ze _,by omega,?_⟩;refine⟨Za rfl,?_⟩;refine⟨_,rfl,?_⟩;refine⟨_,rfl,[.k 0,.k 1,.d 98 0],?_,⟨_,rfl,?_⟩,⟨_,rfl,rfl⟩,⟨_,rfl,i6 ?_⟩,tq⟩
    ·show V.s (.int .u8 (U8.wrap _))=_;rw[o5]
    ·show B.mx [.q rs 0,i64 6,bool true,.z s (sub (bv (X9 ch)) 0 s),.z s (sub (bv E) 0 s),i64 1,.o 1 (.k 2) 0 1]=_;rw[g8 lE,g8 lI]
    ·exact X0 rfl
theorem JG {t key s k xs rs} (h:k5 t key s k xs rs) {mode:Int} {back:Bool} {c r u:Nat} {p:UInt8} {ch R g:Bs} (hl:ch.length=c) (hc:c<=1000) (hm:mode=4\/mode=5\/mode=6) (hR:R.length=r) (hrb:r<=1000) (hu:u<r) (hg:g.length=u):
  b9 C 71 [.p (.k 0) 0,y7 p] [.mx [.q rs 0,i64 mode,bool back,.z c (bv ch),.z r (bv R),i64 u,.o 1 (.k 1) 0 u],.sc (bv g)] (.ret (y7 (p^^^R.getD u 0)))
   (if u+1=r then [.mx [.q rs 0,i64 mode,bool back,.z (if mode=4 then u+1 else c) (bv (if mode=4 then g++[n8 back p (p^^^R.getD u 0)]else ch)),.z r (bv R),i64 (u+1:Nat),.u],.dead,.dead]else [.mx [.q rs 0,i64 mode,bool back,.z c (bv ch),.z r (bv R),i64 (u+1:Nat),.o 1 (.k 2) 0 (u+1)],.dead,.sc (bv (g++[n8 back p (p^^^R.getD u 0)]))]):=by
 have w1:I6.wrap ((u:Int)+1)=((u+1:Nat):Int):=by rw[Zd _ (by omega)];rfl
 rcases hm with rfl|rfl|rfl
 ·cases back
  ·by_cases he:u+1=r
   ·rw[if_pos he,if_pos rfl,if_pos rfl];refine V9.w ?_;refine⟨_,rfl,?_⟩;refine i7 (fun h0=>absurd h0 (by omega)) (fun _=> ?_);refine⟨_,rfl,?_⟩;refine⟨_,rfl,?_⟩;refine i7 (fun hh=>absurd hh (by omega)) (fun _=> ?_);refine⟨_,rfl,?_⟩;refine⟨_,rfl,?_⟩;refine⟨by omega,by omega,_,by rw[Zb];exact p9 (k:=R) (i:=u) (by omega),?_⟩;refine⟨_,rfl,?_⟩;refine⟨Za rfl,?_⟩;refine⟨_,rfl,?_⟩;refine⟨_,rfl,?_⟩;refine⟨Ze _,by omega,by rw[j6,hg];omega,?_⟩;refine⟨Za rfl,?_⟩;refine⟨_,rfl,?_⟩;refine⟨_,rfl,?_⟩;refine⟨_,rfl,?_⟩;refine i7 (fun hh=> ?_) (fun hh=>absurd (show ((u+1:Nat):Int)=(r:Int) by omega) hh);refine⟨_,rfl,?_⟩;refine⟨Za rfl,?_⟩;refine⟨.ret (y7 (p^^^R.getD u 0)),[.mx [.q rs 0,i64 4,bool false,.z (u+1) (bv (g++[n8 false p (p^^^R.getD u 0)])),.z r (bv R),i64 (u+1:Nat),.z (u+1) (bv (g++[n8 false p (p^^^R.getD u 0)]))],.dead],⟨_,rfl,[.k 0,.k 1],?_,⟨_,rfl,?_⟩,⟨_,rfl,rfl⟩,tq⟩,.ret (.refl _),.cons (.mx (.cons (.refl _) (.cons (.refl _) (.cons (.refl _) (.cons (.refl _) (.cons (.refl _) (.cons (.refl _) (.cons .u .nil)))))))) (.cons (.refl _) (.dd .nil))⟩
    ·show V.s (.int .u8 (U8.wrap _))=_;rw[o5]
    ·show B.mx [.q rs 0,i64 4,bool false,.z (u+1) (sub (sub (bv g) 0 (u*1)++sub [Value.int .u8 _] 0 (1*1)) 0 (u+1)),.z r (bv R),i64 (I6.wrap ((u:Int)+1)),.z (u+1) (sub (sub (bv g) 0 (u*1)++sub [Value.int .u8 _] 0 (1*1)) 0 (u+1))]=_;rw[w1,U0 hg (o5 _ _)];rfl
   ·rw[if_neg he];refine V9.w ?_;refine⟨_,rfl,?_⟩;refine i7 (fun h0=>absurd h0 (by omega)) (fun _=> ?_);refine⟨_,rfl,?_⟩;refine⟨_,rfl,?_⟩;refine i7 (fun hh=>absurd hh (by omega)) (fun _=> ?_);refine⟨_,rfl,?_⟩;refine⟨_,rfl,?_⟩;refine⟨by omega,by omega,_,by rw[Zb];exact p9 (k:=R) (i:=u) (by omega),?_⟩;refine⟨_,rfl,?_⟩;refine⟨Za rfl,?_⟩;refine⟨_,rfl,?_⟩;refine⟨_,rfl,?_⟩;refine⟨Ze _,by omega,by rw[j6,hg];omega,?_⟩;refine⟨Za rfl,?_⟩;refine⟨_,rfl,?_⟩;refine⟨_,rfl,?_⟩;refine⟨_,rfl,?_⟩;refine i7 (fun hh=>absurd hh (by omega)) (fun _=> ?_);refine⟨.ret (y7 (p^^^R.getD u 0)),[.mx [.q rs 0,i64 4,bool false,.z c (bv ch),.z r (bv R),i64 (u+1:Nat),.o 1 (.k 2) 0 (u+1)],.dead,.sc (bv (g++[n8 false p (p^^^R.getD u 0)]))],⟨_,rfl,[.k 0,.k 1,.d 98 0],?_,⟨_,rfl,?_⟩,⟨_,rfl,rfl⟩,⟨_,rfl,i6 ?_⟩,tq⟩,.ret (.refl _),.cons (.refl _) (.cons (.refl _) (.cons (.refl _) .nil))⟩
    ·show V.s (.int .u8 (U8.wrap _))=_;rw[o5]
    ·show B.mx [.q rs 0,i64 4,bool false,.z c (bv ch),.z r (bv R),i64 (I6.wrap ((u:Int)+1)),.o 1 (.k 2) 0 (u+1)]=_;rw[w1]
    ·exact br hg (o5 _ _)
  ·by_cases he:u+1=r
   ·rw[if_pos he,if_pos rfl,if_pos rfl];refine V9.w ?_;refine⟨_,rfl,?_⟩;refine i7 (fun h0=>absurd h0 (by omega)) (fun _=> ?_);refine⟨_,rfl,?_⟩;refine⟨_,rfl,?_⟩;refine i7 (fun hh=>absurd hh (by omega)) (fun _=> ?_);refine⟨_,rfl,?_⟩;refine⟨_,rfl,?_⟩;refine⟨by omega,by omega,_,by rw[Zb];exact p9 (k:=R) (i:=u) (by omega),?_⟩;refine⟨_,rfl,?_⟩;refine⟨Za rfl,?_⟩;refine⟨_,rfl,?_⟩;refine⟨_,rfl,?_⟩;refine⟨Ze _,by omega,by rw[j6,hg];omega,?_⟩;refine⟨Za rfl,?_⟩;refine⟨_,rfl,?_⟩;refine⟨_,rfl,?_⟩;refine⟨_,rfl,?_⟩;refine i7 (fun hh=> ?_) (fun hh=>absurd (show ((u+1:Nat):Int)=(r:Int) by omega) hh);refine⟨_,rfl,?_⟩;refine⟨Za rfl,?_⟩;refine⟨.ret (y7 (p^^^R.getD u 0)),[.mx [.q rs 0,i64 4,bool true,.z (u+1) (bv (g++[n8 true p (p^^^R.getD u 0)])),.z r (bv R),i64 (u+1:Nat),.z (u+1) (bv (g++[n8 true p (p^^^R.getD u 0)]))],.dead],⟨_,rfl,[.k 0,.k 1],?_,⟨_,rfl,?_⟩,⟨_,rfl,rfl⟩,tq⟩,.ret (.refl _),.cons (.mx (.cons (.refl _) (.cons (.refl _) (.cons (.refl _) (.cons (.refl _) (.cons (.refl _) (.cons (.refl _) (.cons .u .nil)))))))) (.cons (.refl _) (.dd .nil))⟩
    ·show V.s (.int .u8 (U8.wrap _))=_;rw[o5]
    ·show B.mx [.q rs 0,i64 4,bool true,.z (u+1) (sub (sub (bv g) 0 (u*1)++sub [Value.int .u8 _] 0 (1*1)) 0 (u+1)),.z r (bv R),i64 (I6.wrap ((u:Int)+1)),.z (u+1) (sub (sub (bv g) 0 (u*1)++sub [Value.int .u8 _] 0 (1*1)) 0 (u+1))]=_;rw[w1,U0 hg rfl];rfl
   ·rw[if_neg he];refine V9.w ?_;refine⟨_,rfl,?_⟩;refine i7 (fun h0=>absurd h0 (by omega)) (fun _=> ?_);refine⟨_,rfl,?_⟩;refine⟨_,rfl,?_⟩;refine i7 (fun hh=>absurd hh (by omega)) (fun _=> ?_);refine⟨_,rfl,?_⟩;refine⟨_,rfl,?_⟩;refine⟨by omega,by omega,_,by rw[Zb];exact p9 (k:=R) (i:=u) (by omega),?_⟩;refine⟨_,rfl,?_⟩;refine⟨Za rfl,?_⟩;refine⟨_,rfl,?_⟩;refine⟨_,rfl,?_⟩;refine⟨Ze _,by omega,by rw[j6,hg];omega,?_⟩;refine⟨Za rfl,?_⟩;refine⟨_,rfl,?_⟩;refine⟨_,rfl,?_⟩;refine⟨_,rfl,?_⟩;refine i7 (fun hh=>absurd hh (by omega)) (fun _=> ?_);refine⟨.ret (y7 (p^^^R.getD u 0)),[.mx [.q rs 0,i64 4,bool true,.z c (bv ch),.z r (bv R),i64 (u+1:Nat),.o 1 (.k 2) 0 (u+1)],.dead,.sc (bv (g++[n8 true p (p^^^R.getD u 0)]))],⟨_,rfl,[.k 0,.k 1,.d 98 0],?_,⟨_,rfl,?_⟩,⟨_,rfl,rfl⟩,⟨_,rfl,i6 ?_⟩,tq⟩,.ret (.refl _),.cons (.refl _) (.cons (.refl _) (.cons (.refl _) .nil))⟩
    ·show V.s (.int .u8 (U8.wrap _))=_;rw[o5]
    ·show B.mx [.q rs 0,i64 4,bool true,.z c (bv ch),.z r (bv R),i64 (I6.wrap ((u:Int)+1)),.o 1 (.k 2) 0 (u+1)]=_;rw[w1]
    ·exact br hg rfl
 ·cases back
  ·by_cases he:u+1=r
   ·rw[if_pos he,if_neg (by decide),if_neg (by decide)];refine V9.w ?_;refine⟨_,rfl,?_⟩;refine i7 (fun h0=>absurd h0 (by omega)) (fun _=> ?_);refine⟨_,rfl,?_⟩;refine⟨_,rfl,?_⟩;refine i7 (fun hh=>absurd hh (by omega)) (fun _=> ?_);refine⟨_,rfl,?_⟩;refine⟨_,rfl,?_⟩;refine⟨by omega,by omega,_,by rw[Zb];exact p9 (k:=R) (i:=u) (by omega),?_⟩;refine⟨_,rfl,?_⟩;refine⟨Za rfl,?_⟩;refine⟨_,rfl,?_⟩;refine⟨_,rfl,?_⟩;refine⟨Ze _,by omega,by rw[j6,hg];omega,?_⟩;refine⟨Za rfl,?_⟩;refine⟨_,rfl,?_⟩;refine⟨.ret (y7 (p^^^R.getD u 0)),[.mx [.q rs 0,i64 5,bool false,.z c (bv ch),.z r (bv R),i64 (u+1:Nat),.z (u+1) (bv (g++[n8 false p (p^^^R.getD u 0)]))],.dead],⟨_,rfl,[.k 0,.k 1],?_,⟨_,rfl,?_⟩,⟨_,rfl,rfl⟩,tq⟩,.ret (.refl _),.cons (.mx (.cons (.refl _) (.cons (.refl _) (.cons (.refl _) (.cons (.refl _) (.cons (.refl _) (.cons (.refl _) (.cons .u .nil)))))))) (.cons (.refl _) (.dd .nil))⟩
    ·show V.s (.int .u8 (U8.wrap _))=_;rw[o5]
    ·show B.mx [.q rs 0,i64 5,bool false,.z c (bv ch),.z r (bv R),i64 (I6.wrap ((u:Int)+1)),.z (u+1) (sub (sub (bv g) 0 (u*1)++sub [Value.int .u8 _] 0 (1*1)) 0 (u+1))]=_;rw[w1,U0 hg (o5 _ _)];rfl
   ·rw[if_neg he];refine V9.w ?_;refine⟨_,rfl,?_⟩;refine i7 (fun h0=>absurd h0 (by omega)) (fun _=> ?_);refine⟨_,rfl,?_⟩;refine⟨_,rfl,?_⟩;refine i7 (fun hh=>absurd hh (by omega)) (fun _=> ?_);refine⟨_,rfl,?_⟩;refine⟨_,rfl,?_⟩;refine⟨by omega,by omega,_,by rw[Zb];exact p9 (k:=R) (i:=u) (by omega),?_⟩;refine⟨_,rfl,?_⟩;refine⟨Za rfl,?_⟩;refine⟨_,rfl,?_⟩;refine⟨_,rfl,?_⟩;refine⟨Ze _,by omega,by rw[j6,hg];omega,?_⟩;refine⟨Za rfl,?_⟩;refine⟨_,rfl,?_⟩;refine⟨.ret (y7 (p^^^R.getD u 0)),[.mx [.q rs 0,i64 5,bool false,.z c (bv ch),.z r (bv R),i64 (u+1:Nat),.o 1 (.k 2) 0 (u+1)],.dead,.sc (bv (g++[n8 false p (p^^^R.getD u 0)]))],⟨_,rfl,[.k 0,.k 1,.d 98 0],?_,⟨_,rfl,?_⟩,⟨_,rfl,rfl⟩,⟨_,rfl,i6 ?_⟩,tq⟩,.ret (.refl _),.cons (.refl _) (.cons (.refl _) (.cons (.refl _) .nil))⟩
    ·show V.s (.int .u8 (U8.wrap _))=_;rw[o5]
    ·show B.mx [.q rs 0,i64 5,bool false,.z c (bv ch),.z r (bv R),i64 (I6.wrap ((u:Int)+1)),.o 1 (.k 2) 0 (u+1)]=_;rw[w1]
    ·exact br hg (o5 _ _)
  ·by_cases he:u+1=r
   ·rw[if_pos he,if_neg (by decide),if_neg (by decide)];refine V9.w ?_;refine⟨_,rfl,?_⟩;refine i7 (fun h0=>absurd h0 (by omega)) (fun _=> ?_);refine⟨_,rfl,?_⟩;refine⟨_,rfl,?_⟩;refine i7 (fun hh=>absurd hh (by omega)) (fun _=> ?_);refine⟨_,rfl,?_⟩;refine⟨_,rfl,?_⟩;refine⟨by omega,by omega,_,by rw[Zb];exact p9 (k:=R) (i:=u) (by omega),?_⟩;refine⟨_,rfl,?_⟩;refine⟨Za rfl,?_⟩;refine⟨_,rfl,?_⟩;refine⟨_,rfl,?_⟩;refine⟨Ze _,by omega,by rw[j6,hg];omega,?_⟩;refine⟨Za rfl,?_⟩;refine⟨_,rfl,?_⟩;refine⟨.ret (y7 (p^^^R.getD u 0)),[.mx [.q rs 0,i64 5,bool true,.z c (bv ch),.z r (bv R),i64 (u+1:Nat),.z (u+1) (bv (g++[n8 true p (p^^^R.getD u 0)]))],.dead],⟨_,rfl,[.k 0,.k 1],?_,⟨_,rfl,?_⟩,⟨_,rfl,rfl⟩,tq⟩,.ret (.refl _),.cons (.mx (.cons (.refl _) (.cons (.refl _) (.cons (.refl _) (.cons (.refl _) (.cons (.refl _) (.cons (.refl _) (.cons .u .nil)))))))) (.cons (.refl _) (.dd .nil))⟩
    ·show V.s (.int .u8 (U8.wrap _))=_;rw[o5]
    ·show B.mx [.q rs 0,i64 5,bool true,.z c (bv ch),.z r (bv R),i64 (I6.wrap ((u:Int)+1)),.z (u+1) (sub (sub (bv g) 0 (u*1)++sub [Value.int .u8 _] 0 (1*1)) 0 (u+1))]=_;rw[w1,U0 hg rfl];rfl
   ·rw[if_neg he];refine V9.w ?_;refine⟨_,rfl,?_⟩;refine i7 (fun h0=>absurd h0 (by omega)) (fun _=> ?_);refine⟨_,rfl,?_⟩;refine⟨_,rfl,?_⟩;refine i7 (fun hh=>absurd hh (by omega)) (fun _=> ?_);refine⟨_,rfl,?_⟩;refine⟨_,rfl,?_⟩;refine⟨by omega,by omega,_,by rw[Zb];exact p9 (k:=R) (i:=u) (by omega),?_⟩;refine⟨_,rfl,?_⟩;refine⟨Za rfl,?_⟩;refine⟨_,rfl,?_⟩;refine⟨_,rfl,?_⟩;refine⟨Ze _,by omega,by rw[j6,hg];omega,?_⟩;refine⟨Za rfl,?_⟩;refine⟨_,rfl,?_⟩;refine⟨.ret (y7 (p^^^R.getD u 0)),[.mx [.q rs 0,i64 5,bool true,.z c (bv ch),.z r (bv R),i64 (u+1:Nat),.o 1 (.k 2) 0 (u+1)],.dead,.sc (bv (g++[n8 true p (p^^^R.getD u 0)]))],⟨_,rfl,[.k 0,.k 1,.d 98 0],?_,⟨_,rfl,?_⟩,⟨_,rfl,rfl⟩,⟨_,rfl,i6 ?_⟩,tq⟩,.ret (.refl _),.cons (.refl _) (.cons (.refl _) (.cons (.refl _) .nil))⟩
    ·show V.s (.int .u8 (U8.wrap _))=_;rw[o5]
    ·show B.mx [.q rs 0,i64 5,bool true,.z c (bv ch),.z r (bv R),i64 (I6.wrap ((u:Int)+1)),.o 1 (.k 2) 0 (u+1)]=_;rw[w1]
    ·exact br hg rfl
 ·cases back
  ·by_cases he:u+1=r
   ·rw[if_pos he,if_neg (by decide),if_neg (by decide)];refine V9.w ?_;refine⟨_,rfl,?_⟩;refine i7 (fun h0=>absurd h0 (by omega)) (fun _=> ?_);refine⟨_,rfl,?_⟩;refine⟨_,rfl,?_⟩;refine i7 (fun hh=>absurd hh (by omega)) (fun _=> ?_);refine⟨_,rfl,?_⟩;refine⟨_,rfl,?_⟩;refine⟨by omega,by omega,_,by rw[Zb];exact p9 (k:=R) (i:=u) (by omega),?_⟩;refine⟨_,rfl,?_⟩;refine⟨Za rfl,?_⟩;refine⟨_,rfl,?_⟩;refine⟨_,rfl,?_⟩;refine⟨Ze _,by omega,by rw[j6,hg];omega,?_⟩;refine⟨Za rfl,?_⟩;refine⟨_,rfl,?_⟩;refine⟨.ret (y7 (p^^^R.getD u 0)),[.mx [.q rs 0,i64 6,bool false,.z c (bv ch),.z r (bv R),i64 (u+1:Nat),.z (u+1) (bv (g++[n8 false p (p^^^R.getD u 0)]))],.dead],⟨_,rfl,[.k 0,.k 1],?_,⟨_,rfl,?_⟩,⟨_,rfl,rfl⟩,tq⟩,.ret (.refl _),.cons (.mx (.cons (.refl _) (.cons (.refl _) (.cons (.refl _) (.cons (.refl _) (.cons (.refl _) (.cons (.refl _) (.cons .u .nil)))))))) (.cons (.refl _) (.dd .nil))⟩
    ·show V.s (.int .u8 (U8.wrap _))=_;rw[o5]
    ·show B.mx [.q rs 0,i64 6,bool false,.z c (bv ch),.z r (bv R),i64 (I6.wrap ((u:Int)+1)),.z (u+1) (sub (sub (bv g) 0 (u*1)++sub [Value.int .u8 _] 0 (1*1)) 0 (u+1))]=_;rw[w1,U0 hg (o5 _ _)];rfl
   ·rw[if_neg he];refine V9.w ?_;refine⟨_,rfl,?_⟩;refine i7 (fun h0=>absurd h0 (by omega)) (fun _=> ?_);refine⟨_,rfl,?_⟩;refine⟨_,rfl,?_⟩;refine i7 (fun hh=>absurd hh (by omega)) (fun _=> ?_);refine⟨_,rfl,?_⟩;refine⟨_,rfl,?_⟩;refine⟨by omega,by omega,_,by rw[Zb];exact p9 (k:=R) (i:=u) (by omega),?_⟩;refine⟨_,rfl,?_⟩;refine⟨Za rfl,?_⟩;refine⟨_,rfl,?_⟩;refine⟨_,rfl,?_⟩;refine⟨Ze _,by omega,by rw[j6,hg];omega,?_⟩;refine⟨Za rfl,?_⟩;refine⟨_,rfl,?_⟩;refine⟨.ret (y7 (p^^^R.getD u 0)),[.mx [.q rs 0,i64 6,bool false,.z c (bv ch),.z r (bv R),i64 (u+1:Nat),.o 1 (.k 2) 0 (u+1)],.dead,.sc (bv (g++[n8 false p (p^^^R.getD u 0)]))],⟨_,rfl,[.k 0,.k 1,.d 98 0],?_,⟨_,rfl,?_⟩,⟨_,rfl,rfl⟩,⟨_,rfl,i6 ?_⟩,tq⟩,.ret (.refl _),.cons (.refl _) (.cons (.refl _) (.cons (.refl _) .nil))⟩
    ·show V.s (.int .u8 (U8.wrap _))=_;rw[o5]
    ·show B.mx [.q rs 0,i64 6,bool false,.z c (bv ch),.z r (bv R),i64 (I6.wrap ((u:Int)+1)),.o 1 (.k 2) 0 (u+1)]=_;rw[w1]
    ·exact br hg (o5 _ _)
  ·by_cases he:u+1=r
   ·rw[if_pos he,if_neg (by decide),if_neg (by decide)];refine V9.w ?_;refine⟨_,rfl,?_⟩;refine i7 (fun h0=>absurd h0 (by omega)) (fun _=> ?_);refine⟨_,rfl,?_⟩;refine⟨_,rfl,?_⟩;refine i7 (fun hh=>absurd hh (by omega)) (fun _=> ?_);refine⟨_,rfl,?_⟩;refine⟨_,rfl,?_⟩;refine⟨by omega,by omega,_,by rw[Zb];exact p9 (k:=R) (i:=u) (by omega),?_⟩;refine⟨_,rfl,?_⟩;refine⟨Za rfl,?_⟩;refine⟨_,rfl,?_⟩;refine⟨_,rfl,?_⟩;refine⟨Ze _,by omega,by rw[j6,hg];omega,?_⟩;refine⟨Za rfl,?_⟩;refine⟨_,rfl,?_⟩;refine⟨.ret (y7 (p^^^R.getD u 0)),[.mx [.q rs 0,i64 6,bool true,.z c (bv ch),.z r (bv R),i64 (u+1:Nat),.z (u+1) (bv (g++[n8 true p (p^^^R.getD u 0)]))],.dead],⟨_,rfl,[.k 0,.k 1],?_,⟨_,rfl,?_⟩,⟨_,rfl,rfl⟩,tq⟩,.ret (.refl _),.cons (.mx (.cons (.refl _) (.cons (.refl _) (.cons (.refl _) (.cons (.refl _) (.cons (.refl _) (.cons (.refl _) (.cons .u .nil)))))))) (.cons (.refl _) (.dd .nil))⟩
    ·show V.s (.int .u8 (U8.wrap _))=_;rw[o5]
    ·show B.mx [.q rs 0,i64 6,bool true,.z c (bv ch),.z r (bv R),i64 (I6.wrap ((u:Int)+1)),.z (u+1) (sub (sub (bv g) 0 (u*1)++sub [Value.int .u8 _] 0 (1*1)) 0 (u+1))]=_;rw[w1,U0 hg rfl];rfl
   ·rw[if_neg he];refine V9.w ?_;refine⟨_,rfl,?_⟩;refine i7 (fun h0=>absurd h0 (by omega)) (fun _=> ?_);refine⟨_,rfl,?_⟩;refine⟨_,rfl,?_⟩;refine i7 (fun hh=>absurd hh (by omega)) (fun _=> ?_);refine⟨_,rfl,?_⟩;refine⟨_,rfl,?_⟩;refine⟨by omega,by omega,_,by rw[Zb];exact p9 (k:=R) (i:=u) (by omega),?_⟩;refine⟨_,rfl,?_⟩;refine⟨Za rfl,?_⟩;refine⟨_,rfl,?_⟩;refine⟨_,rfl,?_⟩;refine⟨Ze _,by omega,by rw[j6,hg];omega,?_⟩;refine⟨Za rfl,?_⟩;refine⟨_,rfl,?_⟩;refine⟨.ret (y7 (p^^^R.getD u 0)),[.mx [.q rs 0,i64 6,bool true,.z c (bv ch),.z r (bv R),i64 (u+1:Nat),.o 1 (.k 2) 0 (u+1)],.dead,.sc (bv (g++[n8 true p (p^^^R.getD u 0)]))],⟨_,rfl,[.k 0,.k 1,.d 98 0],?_,⟨_,rfl,?_⟩,⟨_,rfl,rfl⟩,⟨_,rfl,i6 ?_⟩,tq⟩,.ret (.refl _),.cons (.refl _) (.cons (.refl _) (.cons (.refl _) .nil))⟩
    ·show V.s (.int .u8 (U8.wrap _))=_;rw[o5]
    ·show B.mx [.q rs 0,i64 6,bool true,.z c (bv ch),.z r (bv R),i64 (I6.wrap ((u:Int)+1)),.o 1 (.k 2) 0 (u+1)]=_;rw[w1]
    ·exact br hg rfl
def C9 (rs:List V) (mode:Int) (back:Bool) (x:MS×Bs×Nat) (i:Nat):B:= .mx [.q rs 0,i64 mode,bool back,.z x.1.ch.length (bv x.1.ch),.z x.2.1.length (bv x.2.1),i64 x.2.2,dH x.1.row x.1.gone i]
theorem iM {rs:List V} {mode:Int} {back:Bool} {ch row g R:Bs} {u i c r:Nat} (hc:ch.length=c) (hr:R.length=r) (h0:row=[]):C9 rs mode back (⟨ch,row,g⟩,R,u) i= .mx [.q rs 0,i64 mode,bool back,.z c (bv ch),.z r (bv R),i64 u,.u]:=by
 subst hc;subst hr;subst h0;rfl
theorem wY {rs:List V} {mode:Int} {back:Bool} {ch row g R:Bs} {u i j c r:Nat} (hc:ch.length=c) (hr:R.length=r) (h0:0<row.length) (hg:g.length=j):C9 rs mode back (⟨ch,row,g⟩,R,u) i= .mx [.q rs 0,i64 mode,bool back,.z c (bv ch),.z r (bv R),i64 u,.o 1 (.k i) 0 j]:=by
 subst hc;subst hr;subst hg;unfold C9;rw[eX h0]
theorem kY {R:Bs} {u:Nat}:(R.drop u).getD 0 0=R.getD u 0:=by simp[Zk]
theorem Ad {t key s k xs rs} (h:k5 t key s k xs rs) {mode:Int} {back:Bool} {x:MS×Bs×Nat} {p:UInt8} (hm:4<=mode) (K:MK s mode x.1) (D:bF s mode x):
  b9 C 71 [.p (.k 0) 0,y7 p] [C9 rs mode back x 1,j5 x.1.row x.1.gone] (.ret (y7 (x8 (cF t key false) mode back x.1 p).1)) [C9 rs mode back (P9 (cF t key false) mode back x p) 2,.dead,j5 (P9 (cF t key false) mode back x p).1.row (P9 (cF t key false) mode back x p).1.gone]:=by
 have hs:=h.s_le;have hm3:mode=4\/mode=5\/mode=6:=by have:=K.ok.m;omega
 have hc:=K.ok.ch.resolve_left (by omega);obtain⟨⟨ch,row,g⟩,R,u⟩:=x;obtain⟨d1,d2,d3,d4,d5,d6⟩:=D;dsimp only at d1 d2 d3 d4 d5 d6 hc;have lE:=h.len (back:=false) hc;have lr:row.length=R.length-u:=by rw[d2,Zf]
 by_cases h0:row.length=0
 ·obtain rfl:=Zi h0;have lN:(cQ (cF t key false) mode ch).length=s:=by
   unfold cQ;split
   ·exact lE
   ·split
    ·rw[ov,hc]
    ·exact hc
  have e1:x8 (cF t key false) mode back ⟨ch,[],g⟩ p=(p^^^(cF t key false ch).getD 0 0,⟨cQ (cF t key false) mode ch,(cF t key false ch).drop 1,[]++[n8 back p (p^^^(cF t key false ch).getD 0 0)]⟩):=by
   show L5 mode back ⟨cQ (cF t key false) mode ch,cF t key false ch,[]⟩ p=_;exact dO (by omega) (by omega)
  have e2:P9 (cF t key false) mode back (⟨ch,[],g⟩,R,u) p=(⟨cQ (cF t key false) mode ch,(cF t key false ch).drop 1,[]++[n8 back p (p^^^(cF t key false ch).getD 0 0)]⟩,cF t key false ch,1):=by
   unfold P9;rw[e1,if_neg (by omega),if_pos (show ([]:Bs).length=0 from rfl)]
  have ld:0<((cF t key false ch).drop 1).length:=by rw[Zf];omega
  rw[e1,e2,iM hc rfl rfl,wY lN lE ld (j:=1) rfl];show b9 C 71 [.p (.k 0) 0,y7 p] [_,.dead] _ [_,.dead,j5 ((cF t key false ch).drop 1) ([]++[n8 back p (p^^^(cF t key false ch).getD 0 0)])];rw[cG ld];exact JF h rfl hc hm3 (.inr (by omega))
 ·have hg:=d4 h0;have hgd:row.getD 0 0=R.getD u 0:=by rw[d2,kY]
  have e0:x8 (cF t key false) mode back ⟨ch,row,g⟩ p=L5 mode back ⟨ch,row,g⟩ p:=by unfold x8;rw[if_neg h0]
  have HB:=JG h (mode:=mode) (back:=back) (p:=p) hc (by omega) hm3 (R:=R) (u:=u) rfl (by omega) (by omega) hg;have e2:∀y,x8 (cF t key false) mode back ⟨ch,row,g⟩ p=y->P9 (cF t key false) mode back (⟨ch,row,g⟩,R,u) p=(y.2,R,u+1):=by
   rintro y rfl;unfold P9;rw[if_neg (by omega),if_neg h0]
  rw[wY hc rfl (by omega) hg,cG (row:=row) (by omega)];have l1:(row.drop 1).length=R.length-u-1:=by rw[Zf,lr]
  by_cases he:u+1=R.length
  ·rw[if_pos he]at HB;have r1:row.drop 1=[]:=Zi (by omega);by_cases h4:mode=4
   ·subst h4;rw[if_pos rfl,if_pos rfl]at HB;have e3:=oG (back:=back) (ch:=ch) (g:=g) (p:=p) (show row.length=1 by omega);rw[hgd]at e3;have e4:=e2 _ (e0.trans e3);rw[e0,e3,e4,iM (c:=u+1) (by rw[Zc,hg];rfl) rfl rfl];exact HB
   ·rw[if_neg h4,if_neg h4]at HB;have e3:=dO (back:=back) (ch:=ch) (row:=row) (g:=g) (p:=p) (show mode≠3 by omega) (fun e=>h4 e.1);rw[hgd,r1]at e3;have e4:=e2 _ (e0.trans e3);rw[e0,e3,e4,iM hc rfl rfl];exact HB
  ·rw[if_neg he]at HB;have e3:=dO (back:=back) (ch:=ch) (row:=row) (g:=g) (p:=p) (show mode≠3 by omega) (fun e=>by omega);rw[hgd]at e3;have e4:=e2 _ (e0.trans e3);rw[e0,e3,e4,wY (j:=u+1) hc rfl (by omega) (by rw[Zc,hg];rfl)];show b9 C 71 [.p (.k 0) 0,y7 p] _ _ [_,.dead,j5 (row.drop 1) (g++[n8 back p (p^^^R.getD u 0)])];rw[cG (row:=row.drop 1) (by omega)];exact HB
theorem MI {t key s k xs rs} (h:k5 t key s k xs rs) {mode:Int} {back:Bool} {l i:Nat} {vi:List Value} {iv:Bs} (hvi:vi=bv iv) (hl:iv.length=l) (hm:1<=mode/\mode<=6) (hi:l=if mode=1 then 0 else s):
  b9 C 17 [.q rs 0,i64 mode,bool back,.z l vi] [] (.ret (.t [.p (.k 0) 0,i64 0])) [C9 rs mode back (⟨iv,[],[]⟩,[],0) i,.dead,.dead]:=by
 subst hvi;have hs:=h.s_le;rw[iM hl rfl rfl];have hm':mode=1\/mode=2\/mode=3\/mode=4\/mode=5\/mode=6:=by omega
 rcases hm' with rfl|rfl|rfl|rfl|rfl|rfl
 ·rw[if_pos rfl]at hi;refine lu.w ?_;refine p6 (fun hh=>absurd hh (by omega)) (fun _=> ?_);refine⟨by rw[j6];omega,by omega,by decide,?_⟩;refine⟨.ret (.t [.p (.k 0) 0,i64 0]),[.mx [.q rs 0,i64 1,bool back,.z l (bv iv),g9,i64 0,g9]],⟨_,rfl,[.d 41 0],rfl,⟨_,rfl,?_⟩,tq⟩,.ret (.refl _),.cons (.mx (.cons (.refl _) (.cons (.refl _) (.cons (.refl _) (.cons (.refl _) (.cons .nl (.cons (.refl _) (.cons .u .nil)))))))) (.dd (.dd .nil))⟩;show B.mx [.q rs 0,i64 1,bool back,.z (0+l) (sub ([]++bv iv) 0 (0+l)),g9,i64 0,g9]=_;rw[Zj,Zm,g8 hl]
 ·rw[if_neg (by decide)]at hi;refine lu.w ?_;refine⟨[],_,_,_,_,h.rsize,rfl,rfl,?_⟩;refine p6 (fun hh=>absurd hh (by omega)) (fun _=> ?_);refine⟨by rw[j6];omega,by omega,by decide,?_⟩;refine⟨.ret (.t [.p (.k 0) 0,i64 0]),[.mx [.q rs 0,i64 2,bool back,.z l (bv iv),g9,i64 0,g9]],⟨_,rfl,[.d 41 0],rfl,⟨_,rfl,?_⟩,tq⟩,.ret (.refl _),.cons (.mx (.cons (.refl _) (.cons (.refl _) (.cons (.refl _) (.cons (.refl _) (.cons .nl (.cons (.refl _) (.cons .u .nil)))))))) (.dd (.dd .nil))⟩;show B.mx [.q rs 0,i64 2,bool back,.z (0+l) (sub ([]++bv iv) 0 (0+l)),g9,i64 0,g9]=_;rw[Zj,Zm,g8 hl]
 ·rw[if_neg (by decide)]at hi;refine lu.w ?_;refine⟨[],_,_,_,_,h.rsize,rfl,rfl,?_⟩;refine p6 (fun hh=>absurd hh (by omega)) (fun _=> ?_);refine⟨by rw[j6];omega,by omega,by decide,?_⟩;refine⟨.ret (.t [.p (.k 0) 0,i64 0]),[.mx [.q rs 0,i64 3,bool back,.z l (bv iv),g9,i64 0,g9]],⟨_,rfl,[.d 41 0],rfl,⟨_,rfl,?_⟩,tq⟩,.ret (.refl _),.cons (.mx (.cons (.refl _) (.cons (.refl _) (.cons (.refl _) (.cons (.refl _) (.cons .nl (.cons (.refl _) (.cons .u .nil)))))))) (.dd (.dd .nil))⟩;show B.mx [.q rs 0,i64 3,bool back,.z (0+l) (sub ([]++bv iv) 0 (0+l)),g9,i64 0,g9]=_;rw[Zj,Zm,g8 hl]
 ·rw[if_neg (by decide)]at hi;refine lu.w ?_;refine⟨[],_,_,_,_,h.rsize,rfl,rfl,?_⟩;refine p6 (fun hh=>absurd hh (by omega)) (fun _=> ?_);refine⟨by rw[j6];omega,by omega,by decide,?_⟩;refine⟨.ret (.t [.p (.k 0) 0,i64 0]),[.mx [.q rs 0,i64 4,bool back,.z l (bv iv),g9,i64 0,g9]],⟨_,rfl,[.d 41 0],rfl,⟨_,rfl,?_⟩,tq⟩,.ret (.refl _),.cons (.mx (.cons (.refl _) (.cons (.refl _) (.cons (.refl _) (.cons (.refl _) (.cons .nl (.cons (.refl _) (.cons .u .nil)))))))) (.dd (.dd .nil))⟩;show B.mx [.q rs 0,i64 4,bool back,.z (0+l) (sub ([]++bv iv) 0 (0+l)),g9,i64 0,g9]=_;rw[Zj,Zm,g8 hl]
 ·rw[if_neg (by decide)]at hi;refine lu.w ?_;refine⟨[],_,_,_,_,h.rsize,rfl,rfl,?_⟩;refine p6 (fun hh=>absurd hh (by omega)) (fun _=> ?_);refine⟨by rw[j6];omega,by omega,by decide,?_⟩;refine⟨.ret (.t [.p (.k 0) 0,i64 0]),[.mx [.q rs 0,i64 5,bool back,.z l (bv iv),g9,i64 0,g9]],⟨_,rfl,[.d 41 0],rfl,⟨_,rfl,?_⟩,tq⟩,.ret (.refl _),.cons (.mx (.cons (.refl _) (.cons (.refl _) (.cons (.refl _) (.cons (.refl _) (.cons .nl (.cons (.refl _) (.cons .u .nil)))))))) (.dd (.dd .nil))⟩;show B.mx [.q rs 0,i64 5,bool back,.z (0+l) (sub ([]++bv iv) 0 (0+l)),g9,i64 0,g9]=_;rw[Zj,Zm,g8 hl]
 ·rw[if_neg (by decide)]at hi;refine lu.w ?_;refine⟨[],_,_,_,_,h.rsize,rfl,rfl,?_⟩;refine p6 (fun hh=>absurd hh (by omega)) (fun _=> ?_);refine⟨by rw[j6];omega,by omega,by decide,?_⟩;refine⟨.ret (.t [.p (.k 0) 0,i64 0]),[.mx [.q rs 0,i64 6,bool back,.z l (bv iv),g9,i64 0,g9]],⟨_,rfl,[.d 41 0],rfl,⟨_,rfl,?_⟩,tq⟩,.ret (.refl _),.cons (.mx (.cons (.refl _) (.cons (.refl _) (.cons (.refl _) (.cons (.refl _) (.cons .nl (.cons (.refl _) (.cons .u .nil)))))))) (.dd (.dd .nil))⟩;show B.mx [.q rs 0,i64 6,bool back,.z (0+l) (sub ([]++bv iv) 0 (0+l)),g9,i64 0,g9]=_;rw[Zj,Zm,g8 hl]
theorem qc {t key s k xs rs} (h:k5 t key s k xs rs) {mode:Int} {back:Bool} {x:MS×Bs×Nat} (hm:3<=mode):
  b9 C 68 [.p (.k 0) 0] [C9 rs mode back x 1,j5 x.1.row x.1.gone] (.ret (i64 1)) [C9 rs mode back x 1,j5 x.1.row x.1.gone]:=by
 obtain⟨⟨ch,row,g⟩,R,u⟩:=x;refine vE.c ?_;refine⟨_,rfl,?_⟩;refine d9 (fun h1=>absurd h1 (by omega)) (fun _=> ?_);cases row<;>exact⟨_,rfl,[.k 0,.k 1],rfl,⟨_,rfl,rfl⟩,⟨_,rfl,rfl⟩,tq⟩
theorem Ai {t key s k xs rs} (h:k5 t key s k xs rs) {mode:Int} {back:Bool} {c:Nat} {vc:List Value} (hm:mode=1\/mode=2):
  b9 C 68 [.p (.k 0) 0] [.mx [.q rs 0,i64 mode,bool back,.z c vc,.z 0 [],i64 0,.u]] (.ret (i64 s)) [.mx [.q rs 0,i64 mode,bool back,.z c vc,.z 0 [],i64 0,.u]]:=by
 refine vE.c ?_;refine⟨_,rfl,?_⟩;refine d9 (fun h1=> ?_) (fun h1=>absurd h1 (by omega));refine⟨_,rfl,?_⟩;refine⟨[],_,_,_,_,h.rsize,rfl,rfl,?_⟩;exact⟨_,rfl,[.k 0],rfl,⟨_,rfl,rfl⟩,tq⟩
def rsB (rs:List V) (mode:Int) (back:Bool) (m s c:Nat) (b:Bs):Nat×Nat×Bs×Bs->D
 |(i,q,o,c')=>⟨[(0,.p (.k 0) 0),(1,.z m (bv b)),(6,i64 s),(7,.o 1 (.k 2) 0 q),(8,i64 q)],[.mx [.q rs 0,i64 mode,bool back,.z c (bv c'),.z 0 [],i64 0,.u],.dead,.sc (bv o)]⟩
theorem nI {t key s k xs rs} (h:k5 t key s k xs rs) {mode:Int} {back:Bool} {c m:Nat} {vb:List Value} {ch b:Bs} (hvb:vb=bv b) (hb:b.length=m) (hbm:m<=1000000) (hm:mode=1\/mode=2/\c=s) (hc:ch.length=c) (hg:m%s=0):
  b9 C 18 [.p (.k 0) 0,.z m vb] [.mx [.q rs 0,i64 mode,bool back,.z c (bv ch),.z 0 [],i64 0,.u],.dead] (.ret (.t [.z m (bv (A7 (cF t key false) (cF t key true) mode back s b ch (m/s)).1),i64 0])) [.mx [.q rs 0,i64 mode,bool back,.z c (bv (A7 (cF t key false) (cF t key true) mode back s b ch (m/s)).2),.z 0 [],i64 0,.u],.dead,.dead]:=by
 subst hvb;have hs:=h.s_le;have hci:=h.ci;have hdm:=Z4 m s;have hm12:mode=1\/mode=2:=by omega
 have G:=Ai h (back:=back) (c:=c) (vc:=bv ch) hm12;refine qJ.w ?_;refine⟨[.k 0],_,_,_,_,G,rfl,rfl,?_⟩;refine⟨by omega,?_⟩;refine p6 (fun h=>absurd ?_ h) (fun _=> ?_)
 ·have:((m:Int).tmod (s:Int))=((m%s:Nat):Int):=by rw[Zl (by omega)];rfl
  rw[this,hg];rfl
 refine⟨Nat×Nat×Bs×Bs,rsB rs mode back m s c b,fun x=>x.2.1=s*x.1/\x.2.1<=m/\A7 (cF t key false) (cF t key true) mode back s b ch x.1=(x.2.2.1,x.2.2.2)/\x.2.2.1.length=x.2.1/\x.2.2.2.length=c,fun x=>m-x.2.1,?_,fun x hx=> ?_⟩
 ·exact⟨[(7,1,.sc [])],(0,0,[],ch),⟨by show 0=s*0;omega,Zv _,rfl,rfl,hc⟩,[.k 0,.k 1,.d 900000 0],⟨rfl,rfl,rfl,rfl,rfl,tq⟩,⟨_,rfl,rfl⟩,⟨_,rfl,rfl⟩,⟨_,rfl,rfl⟩,tq⟩
 ·obtain⟨i,q,o,c'⟩:=x;obtain⟨h1,h2,h3,h4,h5⟩:=hx;dsimp only at h1 h2 h3 h4 h5;refine d9 (fun h0=> ?_) (fun h0=> ?_)
  ·have hq:q+s<=m:=by
    have e1:m=s*(m/s):=by omega
    have:i<m/s:=by
     refine Z8 (a:=s) ?_;omega
    have:=Nat.mul_le_mul_left s this;rw[Z6]at this;omega
   have lp:(sub b q s).length=s:=by rw[m5];omega
   have hn:A7 (cF t key false) (cF t key true) mode back s b ch (i+1)=(o++(T9 (cF t key false) (cF t key true) mode back c' (sub b q s)).1,(T9 (cF t key false) (cF t key true) mode back c' (sub b q s)).2):=by
    rw[mj,h3,<-h1]
   have HB:=MH h (mode:=mode) (back:=back) (vp:=sub (bv b) q s) (o6 _ _ _) rfl lp h5 hm;have hl:=wr (back:=back) hci hm12 (c:=c') (p:=sub b q s) (by omega) lp;have hl2:(T9 (cF t key false) (cF t key true) mode back c' (sub b q s)).2.length=c:=by
    rcases hm with rfl|⟨rfl,rfl⟩
    ·rw[<-h5];rfl
    ·exact hl.2.resolve_left (by decide)
   have hl1:=hl.1;generalize T9 (cF t key false) (cF t key true) mode back c' (sub b q s)=x at*
   obtain⟨o',c2⟩:=x;dsimp only at HB hn hl1 hl2;have e1:I6.wrap ((q:Int)+(s:Int))=((q+s:Nat):Int):=by rw[Zd _ (by omega)];omega
   rcases hm12 with rfl|rfl;all_goals
    refine⟨_,rfl,?_⟩;refine⟨by first|omega|(rw [e1];omega),by first|omega|(rw [e1];omega),by first|omega|(rw [e1];omega),by first|omega|(rw [e1];omega),by first|omega|(rw [e1];omega),?_⟩;refine⟨[.k 0],_,_,_,_,HB,?_,rfl,?_⟩
    ·rw[e1];show[V.p (.k 0) 0,V.z (q+s-q) (sub (bv b) q (q+s-q))]=_;rw[Zw]
    refine⟨by first|omega|(rw [j6];omega),by omega,by rw[j6,h4];omega,?_⟩;refine⟨(i+1,q+s,o++o',c2),⟨by show q+s=s*(i+1);rw[Z6];omega,hq,hn,by rw[Zc,h4,hl1],hl2⟩,(by show m-(q+s)<m-q;omega),[.k 0,.k 1,.d 48 0],⟨rfl,rfl,rfl,rfl,f8 e1,tq⟩,⟨_,rfl,rfl⟩,⟨_,rfl,rfl⟩,⟨_,rfl,i6 ?_⟩,tq⟩;show sub (bv o) 0 (q*1)++bv o'=_;rw[Zo,g8 h4,B7]
  ·obtain rfl:q=m:=by omega
   have hi:q/s=i:=by rw[h1,Jb _ (by omega)]
   rw[hi,h3];exact⟨_,[.mx [.q rs 0,i64 mode,bool back,.z c (bv c'),.z 0 [],i64 0,.u],.dead],⟨_,rfl,[.k 0,.k 1],congrArg (fun x=>V.t [x,i64 0]) (congrArg (V.z q) (g8 h4)),⟨_,rfl,rfl⟩,⟨_,rfl,rfl⟩,tq⟩,.ret (.refl _),.cons (.refl _) (.cons (.refl _) (.dd .nil))⟩
def rsT (rs:List V) (back:Bool) (m s r u:Nat) (vr:List Value) (b:Bs):Nat×Bs×Bs->D
 |(i,o,c')=>⟨[(0,.p (.k 0) 0),(1,.z m (bv b)),(6,i64 1),(7,.o 1 (.k 2) 0 i),(8,i64 i)],[.mx [.q rs 0,i64 3,bool back,.z s (bv c'),.z r vr,i64 u,.u],.dead,.sc (bv o)]⟩
theorem Xl {E:Bs->Bs} {back:Bool} {ch g:Bs} {p:UInt8}:x8 E 3 back ⟨ch,[],g⟩ p=(p^^^(E ch).getD 0 0,⟨ch.drop 1++[n8 back p (p^^^(E ch).getD 0 0)],[],[]++[n8 back p (p^^^(E ch).getD 0 0)]⟩):=by
 show L5 3 back ⟨ch,E ch,[]⟩ p=_;exact oF
theorem On {t key s k xs rs} (h:k5 t key s k xs rs) {back:Bool} {m r u:Nat} {vb vr:List Value} {ch g b:Bs} (hvb:vb=bv b) (hb:b.length=m) (hbm:m<=1000000) (hc:ch.length=s):
  b9 C 18 [.p (.k 0) 0,.z m vb] [.mx [.q rs 0,i64 3,bool back,.z s (bv ch),.z r vr,i64 u,.u],.dead] (.ret (.t [.z m (bv (y8 (cF t key false) 3 back ⟨ch,[],g⟩ b).1),i64 0])) [.mx [.q rs 0,i64 3,bool back,.z s (bv (y8 (cF t key false) 3 back ⟨ch,[],g⟩ b).2.ch),.z r vr,i64 u,.u],.dead,.dead]:=by
 subst hvb;have hs:=h.s_le;refine qJ.w ?_;have G:b9 C 68 [.p (.k 0) 0] [.mx [.q rs 0,i64 3,bool back,.z s (bv ch),.z r vr,i64 u,.u]] (.ret (i64 1)) [.mx [.q rs 0,i64 3,bool back,.z s (bv ch),.z r vr,i64 u,.u]]:=by
  refine vE.c ?_;refine⟨_,rfl,?_⟩;exact⟨_,rfl,[.k 0],rfl,⟨_,rfl,rfl⟩,tq⟩
 refine⟨[.k 0],_,_,_,_,G,rfl,rfl,?_⟩;refine⟨by decide,?_⟩;refine p6 (fun h=>absurd (Jj _) h) (fun _=> ?_);refine⟨Nat×Bs×Bs,rsT rs back m s r u vr b,fun x=>x.1<=m/\(∃g',y8 (cF t key false) 3 back ⟨ch,[],g⟩ (b.take x.1)=(x.2.1,⟨x.2.2,[],g'⟩))/\x.2.1.length=x.1/\x.2.2.length=s,fun x=>m-x.1,?_,fun x hx=> ?_⟩
 ·exact⟨[(7,1,.sc [])],(0,[],ch),⟨Zv _,⟨g,rfl⟩,rfl,hc⟩,[.k 0,.k 1,.d 900000 0],⟨rfl,rfl,rfl,rfl,rfl,tq⟩,⟨_,rfl,rfl⟩,⟨_,rfl,rfl⟩,⟨_,rfl,rfl⟩,tq⟩
 ·obtain⟨i,o,c'⟩:=x;obtain⟨h1,⟨g',h2⟩,h3,h4⟩:=hx;dsimp only at h1 h2 h3 h4;refine d9 (fun h0=> ?_) (fun h0=> ?_)
  ·have lt:i<m:=by omega
   have e1:I6.wrap ((i:Int)+1)=((i+1:Nat):Int):=by rw[Zd _ (by omega)];rfl
   have hT:y8 (cF t key false) 3 back ⟨ch,[],g⟩ (b.take (i+1))=(o++[(b.getD i 0)^^^(cF t key false c').getD 0 0],⟨c'.drop 1++[n8 back (b.getD i 0) ((b.getD i 0)^^^(cF t key false c').getD 0 0)],[],[]++[n8 back (b.getD i 0) ((b.getD i 0)^^^(cF t key false c').getD 0 0)]⟩):=by
    rw[jT (by omega),kY,ml,h2,Xl]
   have HB:=Ov h (mode:=3) (back:=back) (r:=r) (u:=u) (vr:=vr) (p:=b.getD i 0) rfl h4;refine⟨_,rfl,?_⟩;refine⟨by omega,by omega,_,by rw[Zb];exact p9 (k:=b) (i:=i) (by omega),?_⟩;refine⟨[.k 0],_,_,_,_,HB,rfl,rfl,?_⟩;refine⟨Ze _,by omega,by rw[j6,h3];omega,?_⟩;exact⟨(i+1,_,_),⟨lt,⟨_,hT⟩,by rw[Zc,h3];rfl,by rw[Zc,Zf,h4];show s-1+1=s;omega⟩,(by show m-(i+1)<m-i;omega),[.k 0,.k 1,.d 59 0],⟨rfl,rfl,rfl,rfl,f8 e1,tq⟩,⟨_,rfl,rfl⟩,⟨_,rfl,rfl⟩,⟨_,rfl,i6 (br h3 rfl)⟩,tq⟩
  ·obtain rfl:i=m:=by omega
   rw[Zp (by omega)]at h2;rw[h2];exact⟨_,[.mx [.q rs 0,i64 3,bool back,.z s (bv c'),.z r vr,i64 u,.u],.dead],⟨_,rfl,[.k 0,.k 1],congrArg (fun x=>V.t [x,i64 0]) (congrArg (V.z i) (g8 h3)),⟨_,rfl,rfl⟩,⟨_,rfl,rfl⟩,tq⟩,.ret (.refl _),.cons (.refl _) (.cons (.refl _) (.dd .nil))⟩
theorem MK.rd {E D:Bs->Bs} {n:Nat} {mode:Int} {back:Bool} {x:MS×Bs×Nat} (k:MK n mode x.1) (h:CI E D n) (hn:0<n) (hm:3<=mode) (p:UInt8):MK n mode (P9 E mode back x p).1:=k.one h hn hm p
def rsD (rs:List V) (mode:Int) (back:Bool) (m:Nat) (b:Bs):Bool×Nat×(MS×Bs×Nat)×Bs->D
 |(false,i,x,o)=>⟨[(0,.p (.k 0) 0),(1,.z m (bv b)),(6,i64 1),(7,.o 1 (.k 2) 0 0),(8,i64 (0:Nat))],[C9 rs mode back x 1,j5 x.1.row x.1.gone,.sc []]⟩
 |(true,i,x,o)=>⟨[(0,.p (.k 0) 0),(1,.z m (bv b)),(6,i64 1),(7,.o 1 (.k 3) 0 i),(8,i64 i)],[C9 rs mode back x 2,.dead,j5 x.1.row x.1.gone,.sc (bv o)]⟩
theorem Ol {t key s k xs rs} (h:k5 t key s k xs rs) {mode:Int} {back:Bool} {x0:MS×Bs×Nat} {m:Nat} {vb:List Value} {b:Bs} (hvb:vb=bv b) (hb:b.length=m) (hbm:m<=1000000) (hm:4<=mode) (K:MK s mode x0.1) (R:bF s mode x0) (hne:0<m\/x0.1.row=[]):
  b9 C 18 [.p (.k 0) 0,.z m vb] [C9 rs mode back x0 1,j5 x0.1.row x0.1.gone] (.ret (.t [.z m (bv (y8 (cF t key false) mode back x0.1 b).1),i64 0])) [C9 rs mode back (L7 (cF t key false) mode back x0 b) 2,.dead,j5 (L7 (cF t key false) mode back x0 b).1.row (L7 (cF t key false) mode back x0 b).1.gone]:=by
 subst hvb;have hs:=h.s_le;have hci:=h.ci
 suffices H:∀x1:MS×Bs×Nat,x1=x0->b9 C 18 [.p (.k 0) 0,.z m (bv b)] [C9 rs mode back x0 1,j5 x0.1.row x0.1.gone] (.ret (.t [.z m (bv (y8 (cF t key false) mode back x1.1 b).1),i64 0])) [C9 rs mode back (L7 (cF t key false) mode back x1 b) 2,.dead,j5 (L7 (cF t key false) mode back x1 b).1.row (L7 (cF t key false) mode back x1 b).1.gone] from H x0 rfl
 intro x1 hx1;rw[<-hx1]at K R hne;have G:=qc h (back:=back) (x:=x0) (show 3<=mode by omega);refine qJ.w ?_;obtain⟨⟨A8,row0,g0⟩,R0,u0⟩:=x0;rcases row0 with _|⟨a0,r0⟩;all_goals
  refine⟨[.k 0,.k 1],_,_,_,_,G,rfl,rfl,?_⟩;refine⟨by decide,?_⟩;refine p6 (fun h=>absurd (Jj _) h) (fun _=> ?_);refine⟨Bool×Nat×(MS×Bs×Nat)×Bs,rsD rs mode back m b,fun x=>x.2.1<=m/\(y8 (cF t key false) mode back x1.1 (b.take x.2.1)).1=x.2.2.2/\L7 (cF t key false) mode back x1 (b.take x.2.1)=x.2.2.1/\MK s mode x.2.2.1.1/\bF s mode x.2.2.1/\(x.1=false->x.2.1=0),fun x=>m-x.2.1,⟨[(7,1,.sc [])],(false,0,_,[]),⟨Zv _,rfl,hx1,hx1▸K,hx1▸R,fun _=>rfl⟩,[.k 0,.k 1,.d 900000 0],⟨rfl,rfl,rfl,rfl,rfl,tq⟩,⟨_,rfl,rfl⟩,⟨_,rfl,rfl⟩,⟨_,rfl,rfl⟩,tq⟩,fun x hx=> ?_⟩;obtain⟨f,i,⟨⟨ch,row,g⟩,R',u⟩,o⟩:=x;obtain⟨h1,h2,h3,h4,h5,h6⟩:=hx;dsimp only at h1 h2 h3 h4 h5 h6;have lo:o.length=i:=by
   rw[<-h2,rH,Zn];omega
  have hms:(y8 (cF t key false) mode back x1.1 (b.take i)).2=⟨ch,row,g⟩:=by rw[<-wU,h3]
  cases f
  ·obtain rfl:=h6 rfl;obtain rfl:=Zi lo;refine d9 (fun h0=> ?_) (fun h0=> ?_)
   ·have HB:=Ad h (back:=back) (p:=b.getD 0 0) hm h4 h5;have hN:=MK.rd (mode:=mode) (x:=(⟨ch,row,g⟩,R',u)) h4 hci (by omega) (by omega) (back:=back) (b.getD 0 0);have hD:=wX (mode:=mode) (x:=(⟨ch,row,g⟩,R',u)) hci (by omega) (by omega) h4.ok h5 (back:=back) (b.getD 0 0);have hT:(y8 (cF t key false) mode back x1.1 (b.take (0+1))).1=[(x8 (cF t key false) mode back ⟨ch,row,g⟩ (b.getD 0 0)).1]:=by
     rw[jT (by omega),kY,ml,h2,hms];rfl
    have hU:L7 (cF t key false) mode back x1 (b.take (0+1))=P9 (cF t key false) mode back (⟨ch,row,g⟩,R',u) (b.getD 0 0):=by
     rw[jT (by omega),kY,wW,h3]
    generalize (x8 (cF t key false) mode back ⟨ch,row,g⟩ (b.getD 0 0)).1=o' at*
    generalize P9 (cF t key false) mode back (⟨ch,row,g⟩,R',u) (b.getD 0 0)=x at*
    obtain⟨⟨ch',row',g'⟩,R2,u2⟩:=x;dsimp only at HB hN hD hU;have k1:¬mode=1:=by omega
    have k2:¬mode=2:=by omega
    have k3:¬mode=3:=by omega
    cases row<;>cases row'<;>(
     refine⟨_,rfl,?_⟩;refine i7 (fun h=>absurd h k1) (fun _=> ?_);refine i7 (fun h=>absurd h k2) (fun _=> ?_);refine i7 (fun h=>absurd h k3) (fun _=> ?_);refine⟨by omega,by omega,_,p9 (k:=b) (i:=0) (by omega),?_⟩;refine⟨[.k 0,.k 1],_,_,_,_,HB,rfl,rfl,?_⟩;refine⟨Ze _,by omega,by decide,?_⟩;exact⟨(true,0+1,(⟨ch',_,g'⟩,R2,u2),[o']),⟨by show 0+1<=m;omega,hT,hU,hN,hD,fun h=>by cases h⟩,(by show m-(0+1)<m-0;omega),[.k 0,.k 1,.d 33 2,.d 35 0],⟨rfl,rfl,rfl,rfl,rfl,tq⟩,⟨_,rfl,rfl⟩,⟨_,rfl,rfl⟩,⟨_,rfl,rfl⟩,⟨_,rfl,i6 (X0 rfl)⟩,tq⟩)
   ·have hm0:m=0:=by omega
    rw[Zp (by omega)]at h2 h3;rw[h2,h3];subst hm0;have hr0:row=[]:=by
     have hb0:=Zi hb;rw[hb0]at h3;have h3:x1=_:=h3;rw[h3]at hne;exact hne.resolve_left (by omega)
    subst hr0;exact⟨.ret (.t [.z 0 [],i64 0]),[C9 rs mode back (⟨ch,[],g⟩,R',u) 2,.dead],⟨_,rfl,[.k 0,.k 1],rfl,⟨_,rfl,rfl⟩,⟨_,rfl,rfl⟩,tq⟩,.ret (.refl _),.cons (.refl _) (.cons (.refl _) (.dd .nil))⟩
  ·refine d9 (fun h0=> ?_) (fun h0=> ?_)
   ·have lt:i<m:=by omega
    have e1:I6.wrap ((i:Int)+1)=((i+1:Nat):Int):=by rw[Zd _ (by omega)];rfl
    have HB:=Ad h (back:=back) (p:=b.getD i 0) hm h4 h5;have hN:=MK.rd (mode:=mode) (x:=(⟨ch,row,g⟩,R',u)) h4 hci (by omega) (by omega) (back:=back) (b.getD i 0);have hD:=wX (mode:=mode) (x:=(⟨ch,row,g⟩,R',u)) hci (by omega) (by omega) h4.ok h5 (back:=back) (b.getD i 0);have hT:(y8 (cF t key false) mode back x1.1 (b.take (i+1))).1=o++[(x8 (cF t key false) mode back ⟨ch,row,g⟩ (b.getD i 0)).1]:=by
     rw[jT (by omega),kY,ml,h2,hms]
    have hU:L7 (cF t key false) mode back x1 (b.take (i+1))=P9 (cF t key false) mode back (⟨ch,row,g⟩,R',u) (b.getD i 0):=by
     rw[jT (by omega),kY,wW,h3]
    generalize (x8 (cF t key false) mode back ⟨ch,row,g⟩ (b.getD i 0)).1=o' at*
    generalize P9 (cF t key false) mode back (⟨ch,row,g⟩,R',u) (b.getD i 0)=x at*
    obtain⟨⟨ch',row',g'⟩,R2,u2⟩:=x;dsimp only at HB hN hD hU;have k1:¬mode=1:=by omega
    have k2:¬mode=2:=by omega
    have k3:¬mode=3:=by omega
    cases row<;>cases row'<;>(
     refine⟨_,rfl,?_⟩;refine i7 (fun h=>absurd h k1) (fun _=> ?_);refine i7 (fun h=>absurd h k2) (fun _=> ?_);refine i7 (fun h=>absurd h k3) (fun _=> ?_);refine⟨by omega,by omega,_,by rw[Zb];exact p9 (k:=b) (i:=i) (by omega),?_⟩;refine⟨[.k 0,.k 2],_,_,_,_,HB,rfl,rfl,?_⟩;refine⟨Ze _,by omega,by rw[j6,lo];omega,?_⟩;exact⟨(true,i+1,(⟨ch',_,g'⟩,R2,u2),o++[o']),⟨by show i+1<=m;omega,hT,hU,hN,hD,fun h=>by cases h⟩,(by show m-(i+1)<m-i;omega),[.k 0,.k 1,.d 33 2,.d 35 0],⟨rfl,rfl,rfl,rfl,f8 e1,tq⟩,⟨_,rfl,rfl⟩,⟨_,rfl,rfl⟩,⟨_,rfl,rfl⟩,⟨_,rfl,i6 (br lo rfl)⟩,tq⟩)
   ·obtain rfl:i=m:=by omega
    rw[Zp (by omega)]at h2 h3;rw[h2,h3];rcases row with _|⟨a,r⟩
    ·exact⟨_,[C9 rs mode back (⟨ch,[],g⟩,R',u) 2,.dead,j5 [] g],⟨_,rfl,[.k 0,.k 1,.k 2],congrArg (fun x=>V.t [x,i64 0]) (congrArg (V.z i) (g8 lo)),⟨_,rfl,rfl⟩,⟨_,rfl,rfl⟩,⟨_,rfl,rfl⟩,tq⟩,.ret (.refl _),.cons (.refl _) (.cons (.refl _) (.cons (.refl _) .nil))⟩
    ·exact⟨_,[C9 rs mode back (⟨ch,a::r,g⟩,R',u) 2,.dead,j5 (a::r) g],⟨_,rfl,[.k 0,.k 1,.k 2],congrArg (fun x=>V.t [x,i64 0]) (congrArg (V.z i) (g8 lo)),⟨_,rfl,rfl⟩,⟨_,rfl,rfl⟩,⟨_,rfl,rfl⟩,tq⟩,.ret (.refl _),.cons (.refl _) (.cons (.refl _) (.cons (.refl _) .nil))⟩
theorem Eo (E back):∀(l:Bs) (x:MS×Bs×Nat),L7 E 3 back x l=((y8 E 3 back x.1 l).2,x.2)
 |[],_=>rfl
 |p::l,x=>Eo E back l (P9 E 3 back x p)
theorem Ok {t key s k xs rs} (h:k5 t key s k xs rs) {mode:Int} {back:Bool} {x:MS×Bs×Nat} {m:Nat} {vb:List Value} {b:Bs} (hvb:vb=bv b) (hb:b.length=m) (hbm:m<=1000000) (K:MK s mode x.1) (R:bF s mode x) (hg:m%r8 s mode=0) (hne:0<m\/x.1.row=[]):
  b9 C 18 [.p (.k 0) 0,.z m vb] [C9 rs mode back x 1,j5 x.1.row x.1.gone] (.ret (.t [.z m (bv (k9 (cF t key false) (cF t key true) s mode back x.1 b).1),i64 0])) [C9 rs mode back (gp (cF t key false) (cF t key true) s mode back x b) 2,.dead,j5 (gp (cF t key false) (cF t key true) s mode back x b).1.row (gp (cF t key false) (cF t key true) s mode back x b).1.gone]:=by
 have hs:=h.s_le;have hci:=h.ci;by_cases hm:mode=1\/mode=2
 ·have hr:=K.ok.blk hm;have hc:=K.ok.ch;have hx:=R.blk hm;obtain⟨⟨ch,row,g⟩,x2⟩:=x;dsimp only at hr hc hx;subst hr;subst hx;have e:k9 (cF t key false) (cF t key true) s mode back ⟨ch,[],g⟩ b=((A7 (cF t key false) (cF t key true) mode back s b ch (m/s)).1,⟨(A7 (cF t key false) (cF t key true) mode back s b ch (m/s)).2,[],g⟩):=by
   unfold k9;rw[if_pos hm,hb]
  have e2:gp (cF t key false) (cF t key true) s mode back (⟨ch,[],g⟩,[],0) b=(⟨(A7 (cF t key false) (cF t key true) mode back s b ch (m/s)).2,[],g⟩,[],0):=by
   unfold gp;rw[if_pos hm];show((k9 (cF t key false) (cF t key true) s mode back ⟨ch,[],g⟩ b).2,_)=_;rw[e]
  have hg':m%s=0:=by unfold r8 at hg;rwa [if_pos hm]at hg
  have hdm:=Z4 m s;have hl:=mh (back:=back) hci (b:=b) (c:=ch) (i:=m/s) (mode:=mode) (by omega) (by omega);have HB:=nI h (back:=back) hvb hb hbm (ch:=ch) (c:=ch.length) (mode:=mode) (by omega) rfl hg';rw[e2,iM rfl rfl rfl,iM hl rfl rfl];show b9 C 18 _ _ (.ret (.t [.z m (bv (k9 (cF t key false) (cF t key true) s mode back ⟨ch,[],g⟩ b).1),i64 0])) _;rw[e];exact HB
 ·have hm3:3<=mode:=by have:=K.ok.m;omega
  have e:k9 (cF t key false) (cF t key true) s mode back x.1 b=y8 (cF t key false) mode back x.1 b:=by
   unfold k9;rw[if_neg hm]
  have e2:gp (cF t key false) (cF t key true) s mode back x b=L7 (cF t key false) mode back x b:=by
   unfold gp;rw[if_neg hm]
  rw[e,e2];by_cases h3:mode=3
  ·subst h3;have R2:=wV hci (by omega) hm3 (back:=back) b K.ok R;have K2:=K.many hci (by omega) hm3 (back:=back) b;have hc:=K.ok.ch.resolve_left (by decide);have hr:=R.three rfl;have hc2:=K2.ok.ch.resolve_left (by decide);have hr2:=R2.three rfl;rw[Eo]at hr2 ⊢;obtain⟨⟨ch,row,g⟩,R',u⟩:=x;dsimp only at hr hc hc2 hr2;subst hr;have HB:=On h (back:=back) (r:=R'.length) (u:=u) (vr:=bv R') (g:=g) hvb hb hbm hc;show b9 C 18 _ [C9 rs 3 back (⟨ch,[],g⟩,R',u) 1,.dead] (.ret (.t [.z m (bv (y8 (cF t key false) 3 back ⟨ch,[],g⟩ b).1),i64 0])) [C9 rs 3 back ((y8 (cF t key false) 3 back ⟨ch,[],g⟩ b).2,R',u) 2,.dead,j5 (y8 (cF t key false) 3 back ⟨ch,[],g⟩ b).2.row (y8 (cF t key false) 3 back ⟨ch,[],g⟩ b).2.gone];generalize y8 (cF t key false) 3 back ⟨ch,[],g⟩ b=y at*
   obtain⟨o,⟨ch2,row2,g2⟩⟩:=y;dsimp only at hr2 hc2 HB ⊢;subst hr2;rw[iM hc rfl rfl,iM hc2 rfl rfl];exact HB
  ·exact Ol h hvb hb hbm (by omega) K R hne
theorem Om {t key s k xs rs} (h:k5 t key s k xs rs) {mode:Int} {back:Bool} {x:MS×Bs×Nat} {vb:List Value} (hm:3<=mode):
  b9 C 18 [.p (.k 0) 0,.z 0 vb] [C9 rs mode back x 1,j5 x.1.row x.1.gone] (.ret (.t [.z 0 [],i64 0])) [C9 rs mode back x 1,j5 x.1.row x.1.gone]:=by
 have G:=qc h (back:=back) (x:=x) hm;refine qJ.w ?_;obtain⟨⟨ch,row,g⟩,R,u⟩:=x;rcases row with _|⟨a,r⟩
 ·refine⟨[.k 0,.k 1],_,_,_,_,G,rfl,rfl,?_⟩;refine⟨by decide,?_⟩;refine⟨Unit,fun _=>⟨[(0,.p (.k 0) 0),(1,.z 0 vb),(6,i64 1),(7,g9),(8,i64 0)],[C9 rs mode back (⟨ch,[],g⟩,R,u) 1,.dead]⟩,fun _=>True,fun _=>0,⟨[],(),tq,[.k 0,.k 1],⟨rfl,rfl,rfl,rfl,rfl,tq⟩,⟨_,rfl,rfl⟩,⟨_,rfl,rfl⟩,tq⟩,fun _ _=> ?_⟩;exact⟨.ret (.t [g9,i64 0]),[C9 rs mode back (⟨ch,[],g⟩,R,u) 1,.dead],⟨_,rfl,[.k 0,.k 1],rfl,⟨_,rfl,rfl⟩,⟨_,rfl,rfl⟩,tq⟩,.ret (.t (.cons .nl (.cons (.refl _) .nil))),.cons (.refl _) (.cons (.refl _) .nil)⟩
 ·refine⟨[.k 0,.k 1],_,_,_,_,G,rfl,rfl,?_⟩;refine⟨by decide,?_⟩;refine⟨Unit,fun _=>⟨[(0,.p (.k 0) 0),(1,.z 0 vb),(6,i64 1),(7,g9),(8,i64 0)],[C9 rs mode back (⟨ch,a::r,g⟩,R,u) 1,.sc (bv g)]⟩,fun _=>True,fun _=>0,⟨[],(),tq,[.k 0,.k 1],⟨rfl,rfl,rfl,rfl,rfl,tq⟩,⟨_,rfl,rfl⟩,⟨_,rfl,rfl⟩,tq⟩,fun _ _=> ?_⟩;exact⟨.ret (.t [g9,i64 0]),[C9 rs mode back (⟨ch,a::r,g⟩,R,u) 1,.sc (bv g)],⟨_,rfl,[.k 0,.k 1],rfl,⟨_,rfl,rfl⟩,⟨_,rfl,rfl⟩,tq⟩,.ret (.t (.cons .nl (.cons (.refl _) .nil))),.cons (.refl _) (.cons (.refl _) .nil)⟩
theorem ut {t key s k xs rs} (h:k5 t key s k xs rs) {mode:Int} {back:Bool} {st:MS} (K:MK s mode st):
  b9 C 96 [.p (.k 0) 0] [j7 (f9 t k xs) mode back st 1,j5 st.row st.gone] (.ret (i64 (r8 s mode))) [j7 (f9 t k xs) mode back st 1,j5 st.row st.gone]:=by
 by_cases hm:mode=1\/mode=2
 ·have hr:=K.ok.blk hm;obtain⟨ch,row,g⟩:=st;dsimp only at hr;subst hr;have e:r8 s mode=s:=by unfold r8;rw[if_pos hm]
  rw[e];refine vz.c ?_;refine⟨_,rfl,?_⟩;rcases hm with rfl|rfl;all_goals
   refine⟨_,rfl,?_⟩;refine⟨[],_,_,_,_,h.size,rfl,rfl,?_⟩;exact⟨_,rfl,[.k 0,.k 1],rfl,⟨_,rfl,rfl⟩,⟨_,rfl,rfl⟩,tq⟩
 ·have e:r8 s mode=1:=by unfold r8;rw[if_neg hm]
  rw[e];exact ur h (by have:=K.ok.m;omega)
theorem uK {a n:Int} (hn:0<n) (hn2:n<=4611686018427387904) (ha: -9223372036854775808<=a/\a<=9223372036854775807):b9 C 92 [i64 a,i64 n] [] (.ret (i64 (a%n))) []:=by
 refine Sf.c ?_;have h1: -n<a.tmod n:=Int.lt_tmod_of_pos a hn;have h2:a.tmod n<n:=Int.tmod_lt_of_pos a hn;refine⟨by omega,?_⟩;refine d9 (fun h=> ?_) (fun h=> ?_)
 ·refine⟨_,rfl,[],f8 ?_,tq⟩;rw[Zd _ (by omega)];rw[<-fo a n hn,Zl (a:=a.tmod n+n) (by omega),Z1 (by omega) (by omega)]
 ·refine⟨_,rfl,[],f8 ?_,tq⟩;rw[<-fo a n hn,Zl (a:=a.tmod n+n) (by omega),Int.add_emod_right,Z1 (by omega) (by omega)]
def aY (mode:Int) (s:Nat) (b:Bs):Bs:=if mode=1 then []else kE s b
def ic (mode:Int) (s:Nat):Nat:=if mode=1 then 0 else s
theorem vZ (mode s b):(aY mode s b).length=ic mode s:=by
 unfold aY ic;split
 ·rfl
 ·exact pG _ _
theorem LT {mode:Int} {s m:Nat} {vb:List Value} {b:Bs} (hv:vb=bv b) (hb:b.length=m) (hs:s<=1000):b9 C 52 [i64 mode,i64 s,.z m vb] [] (.ret (.z (ic mode s) (bv (aY mode s b)))) []:=by
 unfold aY ic;by_cases h1:mode=1
 ·rw[if_pos h1,if_pos h1];refine Bv.w ?_;refine i7 (fun _=> ?_) (fun h=>absurd h1 h);exact⟨.ret g9,[],⟨_,rfl,[],rfl,tq⟩,.ret .nl,.nil⟩
 ·rw[if_neg h1,if_neg h1];refine Bv.c ?_;refine i7 (fun h=>absurd h h1) (fun _=> ?_);refine⟨[],_,_,_,_,zu hv hb (by omega),rfl,rfl,?_⟩;exact⟨_,rfl,[],congrArg (V.z s) (g8 (pG _ _)),tq⟩
def kk (x:Int):Int:=if I6.wrap (x.tdiv 40)%3=0 then 8*(x%5)else x%40
def kN (x:Int) (m:Nat):Nat:=min (kk x).toNat m
theorem WH (x:Int):0<=kk x/\kk x<=39:=by unfold kk;split<;>omega
theorem WF (x m):kN x m<=m:=Nat.min_le_right _ _
theorem Cz {x:Int} {m:Nat} {a:Int} (h:a=kk x):(if (m:Int)<a then (m:Int)else a)=((kN x m:Nat):Int):=by
 subst h;have:=WH x;unfold kN;split<;>omega
def o7 (ns:List Int) (b:Bs):Nat->List (Bs)×Bs
 |0=>([],b)
 |i+1=>((o7 ns b i).1++[(o7 ns b i).2.take (kN (ns.getD i 0) (o7 ns b i).2.length)],(o7 ns b i).2.drop (kN (ns.getD i 0) (o7 ns b i).2.length))
def eK (ns:List Int) (b:Bs):List (Bs):=(o7 ns b (min ns.length 40)).1++[(o7 ns b (min ns.length 40)).2]
def zc (p:Bs):V:= .z p.length (bv p)
theorem uT (ns b):∀i,(o7 ns b i).1.length=i
 |0=>rfl
 |i+1=>by
  show((o7 ns b i).1++[_]).length=i+1;rw[Zc,uT ns b i];rfl
theorem AP (ns b):∀i,(o7 ns b i).2.length<=b.length/\∀p∈(o7 ns b i).1,p.length<=b.length
 |0=>⟨Ze _,fun p hp=>by cases hp⟩
 |i+1=>by
  obtain⟨h1,h2⟩:=AP ns b i;refine⟨?_,fun p hp=> ?_⟩
  ·show((o7 ns b i).2.drop _).length<=_;rw[Zf];omega
  ·have hp:p∈(o7 ns b i).1++[(o7 ns b i).2.take (kN (ns.getD i 0) (o7 ns b i).2.length)]:=hp;rcases List.mem_append.1 hp with hp|hp
   ·exact h2 p hp
   ·rw[List.mem_singleton.1 hp,Zn];omega
theorem AQ (ns b):(eK ns b).length=min ns.length 40+1:=by
 unfold eK;rw[Zc,uT];rfl
theorem He (H d7) (l:List (Bs)):(l.map zc).map (p5 H d7 6)=l.map zc:=by
 rw[List.map_map];exact List.map_congr_left fun _ _=>rfl
theorem Hf (H d7) (l:List (Bs)) (n):(l.map zc).map (F7 H d7 (n+1))=l.map zc:=by
 rw[List.map_map];exact List.map_congr_left fun _ _=>rfl
theorem a35 {ln:Nat} {vn:List Value} {b:Bs} {ns:List Int} (hvn:vn=iv ns) (hn:ns.length=ln) (hlb:b.length<=1000) (hns:∀x∈ns, -9223372036854775808<=x/\x<=9223372036854775807):
  b9 C 32 [.z b.length (bv b),.z ln vn] [] (.ret (.zz 1 (eK ns b).length ((eK ns b).map zc))) []:=by
 subst hvn;obtain⟨N0,hN0⟩:∃N0,N0=min ns.length 40:=⟨_,rfl⟩;refine Se.c ?_;refine E9 (fun i=>⟨[(0,.z (o7 ns b i).2.length (bv (o7 ns b i).2)),(1,.z ln (iv ns)),(5,.o 1 (.k 0) 0 i),(6,i64 i)],[.mx ((o7 ns b i).1.map zc)]⟩) N0 [(5,1,.mx [])] ⟨[.d 900000 0],⟨rfl,rfl,rfl,rfl,tq⟩,⟨_,rfl,rfl⟩,tq⟩ fun i hi=> ?_;have hl:=(AP ns b i).1;have hl1:=uT ns b i;refine d9 (fun h1=> ?_) (fun h1=> ?_)
 ·refine d9 (fun h2=> ?_) (fun h2=> ?_)
  ·obtain⟨x,hx⟩:∃x,ns.getD i 0=x:=⟨_,rfl⟩;have d8:i<ns.length:=by omega
   have hxe:ns[i]=x:=by rw[<-hx,Zk,Zu d8];rfl
   have hxb: -9223372036854775808<=x/\x<=9223372036854775807:=hns x (hxe▸List.getElem_mem d8);have hv:(iv ns)[((i:Nat):Int).toNat]? =some (Value.int .i64 x):=by rw[Zb,wa d8,hxe]
   have hstep:o7 ns b (i+1)=((o7 ns b i).1++[(o7 ns b i).2.take (kN x (o7 ns b i).2.length)],(o7 ns b i).2.drop (kN x (o7 ns b i).2.length)):=by rw[<-hx];rfl
   have hk:=WF x (o7 ns b i).2.length;have hst:sub ((o7 ns b i).1.map zc) 0 (i*1)++[V.z (kN x (o7 ns b i).2.length) (sub (bv (o7 ns b i).2) 0 (kN x (o7 ns b i).2.length))]=((o7 ns b i).1++[(o7 ns b i).2.take (kN x (o7 ns b i).2.length)]).map zc:=by
    have e9:((o7 ns b i).2.take (kN x (o7 ns b i).2.length)).length=kN x (o7 ns b i).2.length:=by rw[Zn,Jd hk]
    rw[Zo,C3 (l:=(o7 ns b i).1.map zc) (by rw[Zq,hl1]),Je,o6];show _=(o7 ns b i).1.map zc++[V.z ((o7 ns b i).2.take (kN x (o7 ns b i).2.length)).length (bv ((o7 ns b i).2.take (kN x (o7 ns b i).2.length)))];rw[e9];rfl
   have hb5:=Int.emod_nonneg x (show (5:Int)≠0 by decide);have hb6:=Int.emod_lt_of_pos x (show (0:Int)<5 by decide);have w8:I6.wrap (8*(x%5))=8*(x%5):=Zd _ (by omega);have hwr: -9223372036854775808<=I6.wrap (x.tdiv 40)/\I6.wrap (x.tdiv 40)<=9223372036854775807:=by rw[IntKind.wrap_i64];omega
   refine⟨by omega,by omega,_,hv,?_⟩;refine⟨[],_,_,_,_,uK (a:=x) (n:=40) (by omega) (by omega) hxb,rfl,rfl,?_⟩;refine⟨by omega,by omega,_,hv,?_⟩;refine⟨by decide,?_⟩;refine⟨[],_,_,_,_,uK (a:=I6.wrap (x.tdiv 40)) (n:=3) (by omega) (by omega) hwr,rfl,rfl,?_⟩;refine i7 (fun h3=> ?_) (fun h3=> ?_)
   ·refine⟨by omega,by omega,_,hv,?_⟩;refine⟨[],_,_,_,_,uK (a:=x) (n:=5) (by omega) (by omega) hxb,rfl,rfl,?_⟩;have e3:(if (((o7 ns b i).2.length:Nat):Int)<I6.wrap (8*(x%5))then (((o7 ns b i).2.length:Nat):Int)else I6.wrap (8*(x%5)))=((kN x (o7 ns b i).2.length:Nat):Int):=Cz (by rw[w8];unfold kk;rw[if_pos h3]);refine⟨(by first|omega|(rw [e3];omega)|(rw [e3,Zb];omega)),(by first|omega|(rw [e3];omega)|(rw [e3,Zb];omega)),(by first|omega|(rw [e3];omega)|(rw [e3,Zb];omega)),(by first|omega|(rw [e3];omega)|(rw [e3,Zb];omega)),?_⟩;refine⟨Ze _,by omega,by rw[Zq,hl1];omega,?_⟩;refine⟨(by first|omega|(rw [e3];omega)|(rw [e3,Zb];omega)),(by first|omega|(rw [e3];omega)|(rw [e3,Zb];omega)),(by first|omega|(rw [e3];omega)|(rw [e3,Zb];omega)),(by first|omega|(rw [e3];omega)|(rw [e3,Zb];omega)),?_⟩;refine⟨i+1,by omega,by omega,[.d 45 0],⟨?_,rfl,rfl,f8 (by simp(disch:=omega)only[Zd];omega),tq⟩,⟨_,rfl,?_⟩,tq⟩
    ·rw[e3,hstep];show V.z ((o7 ns b i).2.length-kN x (o7 ns b i).2.length) (sub (bv (o7 ns b i).2) (kN x (o7 ns b i).2.length) ((o7 ns b i).2.length-kN x (o7 ns b i).2.length))=V.z ((o7 ns b i).2.drop (kN x (o7 ns b i).2.length)).length (bv ((o7 ns b i).2.drop (kN x (o7 ns b i).2.length)));rw[A3 rfl hk,Zf]
    ·rw[e3,hstep];show B.mx (Jk (p5 _ _ 6) (sub ((o7 ns b i).1.map zc) 0 (i*1)++[V.z (kN x (o7 ns b i).2.length) (sub (bv (o7 ns b i).2) 0 (kN x (o7 ns b i).2.length))]))=B.mx (((o7 ns b i).1++[(o7 ns b i).2.take (kN x (o7 ns b i).2.length)]).map zc);rw[hst];exact congrArg B.mx (He _ _ _)
   ·have e3:(if (((o7 ns b i).2.length:Nat):Int)<x%40 then (((o7 ns b i).2.length:Nat):Int)else x%40)=((kN x (o7 ns b i).2.length:Nat):Int):=Cz (by unfold kk;rw[if_neg h3]);refine⟨(by first|omega|(rw [e3];omega)|(rw [e3,Zb];omega)),(by first|omega|(rw [e3];omega)|(rw [e3,Zb];omega)),(by first|omega|(rw [e3];omega)|(rw [e3,Zb];omega)),(by first|omega|(rw [e3];omega)|(rw [e3,Zb];omega)),?_⟩;refine⟨Ze _,by omega,by rw[Zq,hl1];omega,?_⟩;refine⟨(by first|omega|(rw [e3];omega)|(rw [e3,Zb];omega)),(by first|omega|(rw [e3];omega)|(rw [e3,Zb];omega)),(by first|omega|(rw [e3];omega)|(rw [e3,Zb];omega)),(by first|omega|(rw [e3];omega)|(rw [e3,Zb];omega)),?_⟩;refine⟨i+1,by omega,by omega,[.d 45 0],⟨?_,rfl,rfl,f8 (by simp(disch:=omega)only[Zd];omega),tq⟩,⟨_,rfl,?_⟩,tq⟩
    ·rw[e3,hstep];show V.z ((o7 ns b i).2.length-kN x (o7 ns b i).2.length) (sub (bv (o7 ns b i).2) (kN x (o7 ns b i).2.length) ((o7 ns b i).2.length-kN x (o7 ns b i).2.length))=V.z ((o7 ns b i).2.drop (kN x (o7 ns b i).2.length)).length (bv ((o7 ns b i).2.drop (kN x (o7 ns b i).2.length)));rw[A3 rfl hk,Zf]
    ·rw[e3,hstep];show B.mx (Jk (p5 _ _ 6) (sub ((o7 ns b i).1.map zc) 0 (i*1)++[V.z (kN x (o7 ns b i).2.length) (sub (bv (o7 ns b i).2) 0 (kN x (o7 ns b i).2.length))]))=B.mx (((o7 ns b i).1++[(o7 ns b i).2.take (kN x (o7 ns b i).2.length)]).map zc);rw[hst];exact congrArg B.mx (He _ _ _)
  ·have hi0:i=min ns.length 40:=by omega
   have lc:=AQ ns b;refine⟨Ze _,by omega,by rw[Zq,hl1];omega,?_⟩;refine⟨_,rfl,[],?_,tq⟩;rw[lc,<-hi0];have hcl:(o7 ns b i).1.map zc++[zc (o7 ns b i).2]=(eK ns b).map zc:=by unfold eK;rw[<-hi0,Je];rfl
   refine(congrArg (V.zz 1 (i+1)) ((congrArg (Jk _) ?_).trans (Hf _ _ (eK ns b) 3)));rw[<-hcl,Zo,Zo];rw[C3 (l:=(o7 ns b i).1.map zc) (by rw[Zq,hl1])];exact C3 (n:=(i+1)*1) (by rw[Zc,Zq,hl1,Zo];rfl)
 ·have hi0:i=min ns.length 40:=by omega
  have lc:=AQ ns b;refine⟨Ze _,by omega,by rw[Zq,hl1];omega,?_⟩;refine⟨_,rfl,[],?_,tq⟩;rw[lc,<-hi0];have hcl:(o7 ns b i).1.map zc++[zc (o7 ns b i).2]=(eK ns b).map zc:=by unfold eK;rw[<-hi0,Je];rfl
  refine(congrArg (V.zz 1 (i+1)) ((congrArg (Jk _) ?_).trans (Hf _ _ (eK ns b) 3)));rw[<-hcl,Zo,Zo];rw[C3 (l:=(o7 ns b i).1.map zc) (by rw[Zq,hl1])];exact C3 (n:=(i+1)*1) (by rw[Zc,Zq,hl1,Zo];rfl)
theorem oI {E D:Bs->Bs} {n:Nat} {mode:Int} {back:Bool} {s:MS}:k9 E D n mode back s []=([],s):=by
 unfold k9;by_cases hm:mode=1\/mode=2
 ·rw[if_pos hm];show((A7 E D mode back n [] s.ch (0/n)).1,(⟨(A7 E D mode back n [] s.ch (0/n)).2,s.row,s.gone⟩:MS))=_;rw[Nat.zero_div];rfl
 ·rw[if_neg hm];rfl
theorem uJ {kind:Int} (hk:kind=1\/kind=2\/kind=3):b9 C 117 [i64 kind] [] (.ret (bool true)) []:=by
 refine Sv.c ?_;rcases hk with rfl|rfl|rfl<;>exact⟨_,rfl,[],rfl,tq⟩
theorem uI {n:Nat} (h:n=8\/n=16):b9 C 118 [i64 n] [] (.ret (bool true)) []:=by
 refine Su.c ?_;rcases h with rfl|rfl<;>exact⟨_,rfl,[],rfl,tq⟩
theorem Er {i n:Nat} {x y:UInt8} (h:i<n):(Zh i x++Zh (n-i) y).set i x=Zh (i+1) x++Zh (n-(i+1)) y:=by
 rw[show n-i=(n-(i+1))+1 by omega,List.replicate_succ,Zs _ _ (by rw[Zg];exact Ze _),Zg,Zy,List.set_cons_zero,Z2];simp
theorem xc {n:Nat} {x y:UInt8} (h:0<n):(Zh n y).set (n-1) x=Zh (n-1) y++[x]:=by
 obtain⟨m,rfl⟩:∃m,n=m+1:=⟨n-1,by omega⟩;rw[Z7,Z2,Zs _ _ (by rw[Zg];exact Ze _),Zg,Zy];rfl
theorem ZS {n:Nat} {x:UInt8} (h:0<n):(Zh n x).set (n-1) x=Zh n x:=by
 obtain⟨m,rfl⟩:∃m,n=m+1:=⟨n-1,by omega⟩;rw[xc h,Z7,Z2]
theorem uw {kind:Int} {n:Nat} (hk:kind=1\/kind=2\/kind=3) (h0:0<n) (h16:n<=16):b9 C 119 [i64 kind,i64 n] [] (.ret (.o 1 (.k 0) 0 n)) [.sc (bv (M8 kind n))]:=by
 have e1:I6.wrap ((n:Int)-1)=((n-1:Nat):Int):=by rw[Zd _ (by omega)];omega
 refine Ss.c ?_;refine⟨by omega,by omega,by omega,?_⟩;rcases hk with rfl|rfl|rfl
 ·refine m9 (fun i=>⟨[(1,i64 n),(5,.o 1 (.k 0) 0 n),(17,i64 n),(18,i64 i)],[.sc (bv (Zh i (Zr n)++Zh (n-i) 0))]⟩) n ⟨[.d 8 0],⟨rfl,rfl,rfl,rfl,tq⟩,⟨_,rfl,i6 ?_⟩,tq⟩ fun i hi=> ?_
  ·rw[Zb,U4];rfl
  refine d9 (fun d8=> ?_) (fun hge=> ?_)
  ·have d8:i<n:=by omega
   refine⟨by omega,by omega,by rw[Zb,j6,Zc,Zg,Zg];omega,?_⟩;refine⟨i+1,by omega,by omega,[.k 0],⟨rfl,rfl,rfl,f8 (by simp(disch:=omega)only[Zd];omega),tq⟩,⟨_,rfl,i6 ?_⟩,tq⟩;rw[Zb,Zo,Zj,Y5,L4,Er d8]
  ·obtain rfl:i=n:=by omega
   refine⟨by rw[e1];omega,by rw[e1];omega,by rw[e1,Zb,j6,Zc,Zg,Zg];omega,?_⟩;refine⟨_,rfl,[.k 0],rfl,⟨_,rfl,i6 ?_⟩,tq⟩;rw[e1,Zb,Zo,Zj,Y5,L4,Zy,List.replicate_zero,Z5,ZS h0];rfl
 ·refine⟨by decide,by omega,by rw[Zb,Zg];show 0+0*1<n;omega,?_⟩;refine⟨_,rfl,[.d 8 0],rfl,⟨_,rfl,i6 ?_⟩,tq⟩;rw[Zb,U4];show(bv (Zh n 0)).set 0 (Value.int .u8 ((128:UInt8).toNat:Int))=_;rw[L4];obtain⟨m,rfl⟩:∃m,n=m+1:=⟨n-1,by omega⟩;rfl
 ·refine⟨by rw[e1];omega,by rw[e1];omega,by rw[e1,Zb,Zb,Zg];omega,?_⟩;refine⟨_,rfl,[.d 8 0],rfl,⟨_,rfl,i6 ?_⟩,tq⟩;rw[e1,Zb,Zb,Zo,Zj,Y5,U4,L4,xc h0];rfl
theorem Mj {kind:Int} {s m:Nat} {vt:List Value} {tail:Bs} (hk:kind=1\/kind=2\/kind=3) (hs:s=8\/s=16) (hv:vt=bv tail) (hm:tail.length=m) (hms:m<s):
  b9 C 64 [i64 kind,i64 s,.z m vt] [] (C6 s) [.sc (bv (G9 kind s tail))]:=by
 subst hv;have e1:I6.wrap ((s:Int)-(m:Int))=((s-m:Nat):Int):=by rw[Zd _ (by omega)];omega
 have lp:=oR (kind:=kind) (tail:=tail) (size:=s) (by omega);have lm:=oS (kind:=kind) (n:=s-m) (by omega);refine Sq.c ?_;refine⟨[],_,_,_,_,uJ hk,rfl,rfl,?_⟩;refine⟨[],_,_,_,_,uI hs,rfl,rfl,?_⟩;refine d9 (fun h=>absurd h (by omega)) (fun _=> ?_);refine⟨[],_,_,_,_,uw (n:=s-m) hk (by omega) (by omega),?_,rfl,?_⟩
 ·rw[e1];rfl
 have hpe:tail++M8 kind (s-m)=G9 kind s tail:=by rw[G9,hm]
 refine⟨[],_,_,_,_,eB (n:=2) (ls:=[tail,M8 kind (s-m)]) (t:=G9 kind s tail) (by rw[<-hpe];simp) ?_ rfl (by omega) (by omega),rfl,rfl,?_⟩
 ·show[V.z m (bv tail),V.z (s-m) (sub (bv (M8 kind (s-m))) 0 (s-m))]=[V.z _ _,V.z _ _];rw[g8 lm,hm,lm]
 rw[lp];exact⟨_,rfl,[.d 28 0],rfl,⟨_,rfl,rfl⟩,tq⟩
theorem Xg {t:Bs} {m i s:Nat} {x y:UInt8} (hm:t.length=m) (h1:m<=i) (h2:i<s):(t++(Zh (i-m) x++Zh (s-i) y)).set i x=t++(Zh (i+1-m) x++Zh (s-(i+1)) y):=by
 rw[Zs _ _ (by omega),hm];have:=Er (i:=i-m) (n:=s-m) (x:=x) (y:=y) (by omega);rw[show s-m-(i-m)=s-i by omega,show s-m-(i-m+1)=s-(i+1) by omega,show i-m+1=i+1-m by omega]at this;rw[this]
theorem MN {kind:Int} {s m:Nat} {vt:List Value} {tail:Bs} (hk:kind=1\/kind=2\/kind=3) (hs:s=8\/s=16) (hv:vt=bv tail) (hm:tail.length=m) (hms:m<s):
  b9 C 107 [i64 kind,i64 s,.z m vt] [] (C6 s) [.sc (bv (G9 kind s tail))]:=by
 subst hv;have e1:I6.wrap ((s:Int)-(m:Int))=((s-m:Nat):Int):=by rw[Zd _ (by omega)];omega
 have e2:I6.wrap ((s:Int)-1)=((s-1:Nat):Int):=by rw[Zd _ (by omega)];omega
 have hw:∀x:List Value,sub (sub [] 0 (0*1)++bv tail) 0 ((0+m)*1)++x=bv tail++x:=fun x=>by
  show sub (bv tail) 0 ((0+m)*1)++x=_;rw[Zj,Zo,g8 hm]
 have lz:∀k,(bv tail++Zh k (Value.int .u8 0)).length=m+k:=fun k=>by rw[Zc,j6,Zg,hm]
 have hbz:∀k,bv tail++Zh k (Value.int .u8 0)=bv (tail++Zh k 0):=fun k=>by rw[U4,B7]
 have hpe:tail++M8 kind (s-m)=G9 kind s tail:=by rw[G9,hm]
 rw[<-hpe];have hx0:∀k:Nat,(bv tail++Zh (((k:Nat):Int)).toNat (Value.int .u8 0))=bv (tail++Zh k 0):=fun k=>by rw[Zb,hbz]
 refine Tg.c ?_;rcases hk with rfl|rfl|rfl
 ·have hsS:=hs;rcases hs with hs|hs;all_goals
   first
    |(refine p6 (fun h=>absurd (show (s:Int)=8 by omega) h) (fun _=> ?_);refine d9 (fun h=>absurd h (by omega)) (fun _=> ?_))
    |(refine p6 (fun _=> ?_) (fun h=>absurd h (show (s:Int)≠8 by omega));refine p6 (fun h=>absurd (show (s:Int)=16 by omega) h) (fun _=> ?_);refine d9 (fun h=>absurd h (by omega)) (fun _=> ?_))
   refine⟨by rw[j6];omega,by omega,by decide,?_⟩;refine⟨by rw[e1];omega,by rw[e1];omega,by rw[e1,Zb];omega,by show 0+(0+m)*1<=(bv tail).length;rw[j6,hm];omega,_,rfl,?_⟩;refine⟨Nat,fun i=>⟨[(1,i64 s),(8,i64 (s-m:Nat)),(9,.o 1 (.k 0) 0 s),(10,i64 i)],[.sc (bv (tail++(Zh (i-m) (Zr (s-m))++Zh (s-i) 0)))]⟩,fun i=>m<=i/\i<=s,fun i=>s-i,⟨[],m,⟨Ze _,by omega⟩,[.d 37 0],⟨rfl,f8 e1,congrArg (V.o 1 (.k 0) 0) (by rw[e1,Zb];omega),rfl,tq⟩,⟨_,rfl,i6 ?_⟩,tq⟩,fun i hi=> ?_⟩
   ·rw[hw,e1,hx0,Zy];rfl
   obtain⟨h1,h2⟩:=hi;refine d9 (fun d8=> ?_) (fun hge=> ?_)
   ·have d8:i<s:=by omega
    refine⟨by omega,by omega,by rw[Zb,j6,Zc,Zc,Zg,Zg,hm];omega,?_⟩;refine⟨i+1,⟨by omega,by omega⟩,(by show s-(i+1)<s-i;omega),[.k 0],⟨rfl,rfl,rfl,f8 (by simp(disch:=omega)only[Zd];omega),tq⟩,⟨_,rfl,i6 ?_⟩,tq⟩;rw[Zb,Zo,Zj,Y5,L4,Xg hm h1 d8]
   ·obtain rfl:i=s:=by omega
    refine⟨_,rfl,[.k 0],rfl,⟨_,rfl,i6 ?_⟩,tq⟩;rw[Zy,List.replicate_zero,Z5];rfl
 ·have hsS:=hs;rcases hs with hs|hs;all_goals
   first
    |(refine p6 (fun h=>absurd (show (s:Int)=8 by omega) h) (fun _=> ?_);refine d9 (fun h=>absurd h (by omega)) (fun _=> ?_))
    |(refine p6 (fun _=> ?_) (fun h=>absurd h (show (s:Int)≠8 by omega));refine p6 (fun h=>absurd (show (s:Int)=16 by omega) h) (fun _=> ?_);refine d9 (fun h=>absurd h (by omega)) (fun _=> ?_))
   refine⟨by rw[j6];omega,by omega,by decide,?_⟩;refine⟨by rw[e1];omega,by rw[e1];omega,by rw[e1,Zb];omega,by show 0+(0+m)*1<=(bv tail).length;rw[j6,hm];omega,_,rfl,?_⟩;refine⟨by omega,by rw[e1,Zb];omega,by rw[hw,e1,hx0,j6,Zc,Zg,hm,Zb];omega,?_⟩;refine⟨_,rfl,[.d 37 0],congrArg (fun z=>V.t [V.o 1 (.k 0) 0 z,i64 0]) (by rw[e1,Zb];omega),⟨_,rfl,i6 ?_⟩,tq⟩;rw[hw,e1,hx0,Zb,Zo,Zj];show(bv (tail++Zh (s-m) 0)).set m (Value.int .u8 ((128:UInt8).toNat:Int))=_;rw[L4,Zs _ _ (by omega),hm,Zy];obtain⟨z,hz⟩:∃z,s-m=z+1:=⟨s-m-1,by omega⟩;rw[hz];rfl
 ·have hsS:=hs;rcases hs with hs|hs;all_goals
   first
    |(refine p6 (fun h=>absurd (show (s:Int)=8 by omega) h) (fun _=> ?_);refine d9 (fun h=>absurd h (by omega)) (fun _=> ?_))
    |(refine p6 (fun _=> ?_) (fun h=>absurd h (show (s:Int)≠8 by omega));refine p6 (fun h=>absurd (show (s:Int)=16 by omega) h) (fun _=> ?_);refine d9 (fun h=>absurd h (by omega)) (fun _=> ?_))
   refine⟨by rw[j6];omega,by omega,by decide,?_⟩;refine⟨by rw[e1];omega,by rw[e1];omega,by rw[e1,Zb];omega,by show 0+(0+m)*1<=(bv tail).length;rw[j6,hm];omega,_,rfl,?_⟩;refine⟨by rw[e2];omega,by rw[e2,e1,Zb];omega,by rw[hw,e1,hx0,j6,Zc,Zg,hm,e2,Zb];omega,?_⟩;refine⟨_,rfl,[.d 37 0],congrArg (fun z=>V.t [V.o 1 (.k 0) 0 z,i64 0]) (by rw[e1,Zb];omega),⟨_,rfl,i6 ?_⟩,tq⟩;rw[hw,e1,hx0,e2,Zb,Zo,Zj,Y5,L4,Zs _ _ (by omega),hm];have:=xc (n:=s-m) (x:=Zr (s-m)) (y:=0) (by omega);rw[show s-1-m=s-m-1 by omega,this];rfl
theorem zH {n m:Nat} {va vb:List Value} {a b:Bs} (ha:va=bv a) (hb:vb=bv b) (la:a.length=n) (lb:b.length=m):b9 C 181 [.z n va,.z m vb] [] (.ret (bool (decide (a=b)))) []:=by
 subst ha;subst hb;refine Rc.c ?_;refine⟨by rw[j6];exact la,_,rfl,?_⟩;refine⟨by rw[j6];exact lb,_,rfl,?_⟩;refine⟨_,rfl,[],congrArg bool ?_,tq⟩;exact a1M _ _
theorem LV {n:Nat} {vb:List Value} {b:Bs} (hv:vb=bv b) (hl:b.length=n) (hn:n<=1000):b9 C 231 [.z n vb,.s (.int .u8 128)] [] (.ret (i64 ((U9 b n:Int)-1))) []:=by
 subst hv;refine Rb.c ?_;refine⟨Nat,fun j=>⟨[(0,.z n (bv b)),(1,.s (.int .u8 128)),(5,i64 ((j:Int)-1))],[]⟩,fun j=>j<=n/\U9 b n=U9 b j,fun j=>j,?_,fun j hj=> ?_⟩
 ·exact⟨[],n,⟨Ze _,rfl⟩,[],⟨rfl,rfl,f8 (by rw[Zd _ (by omega)]),tq⟩,tq⟩
 ·obtain⟨h1,h2⟩:=hj;refine d9 (fun hp=> ?_) (fun hp=> ?_)
  ·obtain⟨i,rfl⟩:∃i,j=i+1:=⟨j-1,by omega⟩;have e1:(((i+1:Nat):Int)-1)=(i:Int):=by omega
   refine⟨by omega,by omega,.int .u8 ((b.getD i 0).toNat:Int),by rw[e1,Zb];exact p9 (by omega),?_⟩;refine i7 (fun hz=> ?_) (fun hz=> ?_)
   ·have hz':b.getD i 0=128:=Z3.1 (by have:(128:UInt8).toNat=128:=rfl;omega);have e:U9 b (i+1)=i+1:=by unfold U9;rw[if_pos hz']
    rw[h2,e];exact⟨_,rfl,[],rfl,tq⟩
   ·have hz':¬b.getD i 0=128:=fun e=>hz (by rw[e];rfl);have e:U9 b (i+1)=U9 b i:=by rw[U9,if_neg hz']
    exact⟨i,⟨by omega,by rw[h2,e]⟩,(by show i<i+1;omega),[],⟨rfl,rfl,f8 (by rw[e1,Zd _ (by omega)]),tq⟩,tq⟩
  ·obtain rfl:j=0:=by omega
   rw[h2];exact⟨_,rfl,[],rfl,tq⟩
theorem LW {n:Nat} {vb:List Value} {b:Bs} (hv:vb=bv b) (hl:b.length=n) (hn:n<=1000):b9 C 182 [.z n vb,.s (.int .u8 128)] [] (.ret (i64 ((U9 b n:Int)-1))) []:=by
 refine Rd.c ?_;refine⟨[],_,_,_,_,LV hv hl hn,rfl,rfl,?_⟩;exact⟨_,rfl,[],rfl,tq⟩
theorem zR {kind:Int} {s:Nat} {vb:List Value} {b:Bs} (hv:vb=bv b) (hk:kind=1\/kind=2\/kind=3) (hs:s=8\/s=16) (hl:b.length=s):b9 C 123 [i64 kind,.z s vb] [] (.ret (i64 (D4 kind b))) []:=by
 subst hv;have w1:I6.wrap ((s:Int)-1)=((s-1:Nat):Int):=by rw[Zd _ (by omega)];omega
 obtain⟨y,hy⟩:∃y,y=b.getD (s-1) 0:=⟨_,rfl⟩;have hv:(bv b)[(I6.wrap ((s:Int)-1)).toNat]? =some (.int .u8 (y.toNat:Int)):=by rw[w1,Zb,hy];exact p9 (by omega)
 obtain⟨c,hc⟩:∃c,c=y.toNat:=⟨_,rfl⟩;have w2:I6.wrap (y.toNat:Int)=(c:Int):=by rw[fw,hc]
 have hcb:c<256:=by rw[hc];exact y.toNat_lt
 have hC:∀k:Int,k≠2->au k b=c:=fun k hk=>by unfold au;rw[if_neg hk,hl,<-hy,hc]
 refine Sr.c ?_;rcases hk with rfl|rfl|rfl
 ·have hP:D4 1 b=if c<1\/s<c\/b.drop (s-c)≠M8 1 c then 0 else c:=by
   unfold D4;rw[hC 1 (by decide),hl];by_cases h1:c<1\/s<c\/b.drop (s-c)≠M8 1 c
   ·rw[if_pos h1,if_pos (by rcases h1 with h|h|h;exact .inl h;exact .inr (.inl h);exact .inr (.inr ⟨by decide,h⟩))]
   ·rw[if_neg h1,if_neg (fun h=>h1 (by rcases h with h|h|h;exact .inl h;exact .inr (.inl h);exact .inr (.inr h.2)))]
  refine⟨0,Unit,fun _=>⟨[],[]⟩,fun _=>False,fun _=>0,?_,fun x hx=>hx.elim⟩;refine⟨by rw[w1];omega,by rw[w1];omega,_,hv,?_⟩;refine d9 (fun h=> ?_) (fun h=> ?_)
  ·rw[w2]at h;refine⟨_,rfl,[],f8 ?_,tq⟩;rw[hP,if_pos (.inl (by omega))];rfl
  rw[w2]at h;refine d9 (fun h2=> ?_) (fun h2=> ?_)
  ·rw[w2]at h2;refine⟨_,rfl,[],f8 ?_,tq⟩;rw[hP,if_pos (.inr (.inl (by omega)))];rfl
  rw[w2]at h2;have w3:I6.wrap ((s:Int)-I6.wrap (y.toNat:Int))=((s-c:Nat):Int):=by rw[w2,Zd _ (by omega)];omega
  have lm:=oS (kind:=1) (n:=c) (by omega);have ld:(b.drop (s-c)).length=c:=by rw[Zf];omega
  refine⟨by rw[w3];omega,by rw[w3];omega,by first|omega|(rw [w3];omega),by first|omega|(rw [w3];omega),?_⟩;refine⟨[],_,_,_,_,uw (kind:=1) (n:=c) (.inl rfl) (by omega) (by omega),?_,rfl,?_⟩
  ·rw[w2];rfl
  refine⟨[],_,_,_,_,zH (a:=b.drop (s-c)) (b:=M8 1 c) (n:=c) (m:=c) (va:=bv (b.drop (s-c))) (vb:=bv (M8 1 c)) rfl rfl ld lm,?_,rfl,?_⟩
  ·rw[w3];show[V.z (s-(s-c)) (sub (bv b) (s-c) (s-(s-c))),V.z c (sub (bv (M8 1 c)) 0 c)]=_;rw[A3 hl (by omega),g8 lm,show s-(s-c)=c by omega]
  refine iP (fun h3=> ?_) (fun h3=> ?_)
  ·refine⟨_,rfl,[],f8 ?_,tq⟩;rw[hP,if_pos (.inr (.inr (by simpa using h3)))];rfl
  ·refine⟨_,rfl,[],f8 ?_,tq⟩;rw[w2,hP,if_neg];rintro (h4|h4|h4)
   ·omega
   ·omega
   ·exact h4 (by simpa using h3)
 ·obtain⟨L,hL⟩:∃L,L=U9 b s:=⟨_,rfl⟩;have hLs:L<=s:=by rw[hL];exact CG b s
  obtain⟨e,he⟩:∃e,e=s+1-L:=⟨_,rfl⟩;have hC2:au 2 b=e:=by unfold au;rw[if_pos rfl,hl,<-hL,he]
  have hP:D4 2 b=if s<e\/b.drop (s-e)≠M8 2 e then 0 else e:=by
   unfold D4;rw[hC2,hl];by_cases h1:s<e\/b.drop (s-e)≠M8 2 e
   ·rw[if_pos h1,if_pos (by rcases h1 with h|h;exact .inr (.inl h);exact .inr (.inr ⟨by decide,h⟩))]
   ·rw[if_neg h1,if_neg (fun h=>by
     rcases h with h|h|h
     ·omega
     ·exact h1 (.inl h)
     ·exact h1 (.inr h.2))]
  have w3:I6.wrap ((s:Int)-((U9 b s:Int)-1))=(e:Int):=by rw[<-hL,Zd _ (by omega)];omega
  refine⟨0,Unit,fun _=>⟨[(0,i64 2),(1,.z s (bv b)),(5,i64 s)],[]⟩,fun _=>True,fun _=>0,?_,fun x hx=> ?_⟩
  ·refine⟨by rw[w1];omega,by rw[w1];omega,_,hv,?_⟩;exact⟨rfl,(),tq,[],⟨rfl,rfl,rfl,tq⟩,tq⟩
  ·refine⟨[],_,_,_,_,LW rfl hl (by omega),rfl,rfl,?_⟩;refine d9 (fun h2=> ?_) (fun h2=> ?_)
   ·rw[w3]at h2;refine⟨_,rfl,[],f8 ?_,tq⟩;rw[hP,if_pos (.inl (by omega))];rfl
   rw[w3]at h2;have w4:I6.wrap ((s:Int)-I6.wrap ((s:Int)-((U9 b s:Int)-1)))=((s-e:Nat):Int):=by rw[w3,Zd _ (by omega)];omega
   have lm:=oS (kind:=2) (n:=e) (by omega);have ld:(b.drop (s-e)).length=e:=by rw[Zf];omega
   refine⟨by rw[w4];omega,by rw[w4];omega,by first|omega|(rw [w4];omega),by first|omega|(rw [w4];omega),?_⟩;refine⟨[],_,_,_,_,uw (kind:=2) (n:=e) (.inr (.inl rfl)) (by omega) (by omega),?_,rfl,?_⟩
   ·rw[w3];rfl
   refine⟨[],_,_,_,_,zH (a:=b.drop (s-e)) (b:=M8 2 e) (n:=e) (m:=e) (va:=bv (b.drop (s-e))) (vb:=bv (M8 2 e)) rfl rfl ld lm,?_,rfl,?_⟩
   ·rw[w4];show[V.z (s-(s-e)) (sub (bv b) (s-e) (s-(s-e))),V.z e (sub (bv (M8 2 e)) 0 e)]=_;rw[A3 hl (by omega),g8 lm,show s-(s-e)=e by omega]
   refine iP (fun h3=> ?_) (fun h3=> ?_)
   ·refine⟨_,rfl,[],f8 ?_,tq⟩;rw[hP,if_pos (.inr (by simpa using h3))];rfl
   ·refine⟨_,rfl,[],f8 ?_,tq⟩;rw[w3,hP,if_neg];rintro (h4|h4)
    ·omega
    ·exact h4 (by simpa using h3)
 ·have hP:D4 3 b=if c<1\/s<c then 0 else c:=by
   unfold D4;rw[hC 3 (by decide),hl];by_cases h1:c<1\/s<c
   ·rw[if_pos h1,if_pos (by rcases h1 with h|h;exact .inl h;exact .inr (.inl h))]
   ·rw[if_neg h1,if_neg (fun h=>by
     rcases h with h|h|h
     ·exact h1 (.inl h)
     ·exact h1 (.inr h)
     ·exact h.1 rfl)]
  refine⟨0,Unit,fun _=>⟨[],[]⟩,fun _=>False,fun _=>0,?_,fun x hx=>hx.elim⟩;refine⟨by rw[w1];omega,by rw[w1];omega,_,hv,?_⟩;refine d9 (fun h=> ?_) (fun h=> ?_)
  ·rw[w2]at h;refine⟨_,rfl,[],f8 ?_,tq⟩;rw[hP,if_pos (.inl (by omega))];rfl
  rw[w2]at h;refine d9 (fun h2=> ?_) (fun h2=> ?_)
  ·rw[w2]at h2;refine⟨_,rfl,[],f8 ?_,tq⟩;rw[hP,if_pos (.inr (by omega))];rfl
  rw[w2]at h2;refine⟨_,rfl,[],f8 ?_,tq⟩;rw[w2,hP,if_neg];omega
theorem OD {kind:Int} {s:Nat} {vb:List Value} {b:Bs} (hv:vb=bv b) (hk:kind=1\/kind=2\/kind=3) (hs:s=8\/s=16) (hl:b.length=s) (h0:D4 kind b≠0):b9 C 67 [i64 kind,i64 s,.z s vb] [] (.ret (.t [.z (s-D4 kind b) (bv (bW kind b)),i64 0])) []:=by
 subst hv;have HL:=zR (vb:=bv b) rfl hk hs hl;have hle:=DP kind b;have hst:bW kind b=sub b 0 (s-D4 kind b):=by unfold bW;rw[hl];rfl
 rw[hst];generalize D4 kind b=c at*
 have w1:I6.wrap ((s:Int)-(c:Int))=((s-c:Nat):Int):=by rw[Zd _ (by omega)];omega
 have lp:(sub b 0 (s-c)).length=s-c:=by rw[m5];omega
 have hv1:sub (bv b) 0 (s-c)=bv (sub b 0 (s-c)):=o6 _ _ _;refine BA.c ?_;refine⟨[],_,_,_,_,uJ hk,rfl,rfl,?_⟩;refine⟨[],_,_,_,_,uI hs,rfl,rfl,?_⟩;refine p6 (fun h=>absurd rfl h) (fun _=> ?_);refine⟨[],_,_,_,_,HL,rfl,rfl,?_⟩;refine i7 (fun h=>absurd h (by omega)) (fun _=> ?_);refine⟨by rw[w1];omega,by rw[w1];omega,by first|omega|(rw [w1];omega),by first|omega|(rw [w1];omega),?_⟩;refine⟨[],_,_,_,_,X7 (n:=s-c) (va:=bv (sub b 0 (s-c))) rfl lp (by omega),?_,rfl,?_⟩
 ·rw[w1];show[V.z (s-c) (sub (bv b) 0 (s-c))]=_;rw[hv1]
 exact⟨_,rfl,[],rfl,tq⟩
theorem OE {kind:Int} {s:Nat} {vb:List Value} {b:Bs} (hv:vb=bv b) (hk:kind=1\/kind=2\/kind=3) (hs:s=8\/s=16) (hl:b.length=s) (h0:D4 kind b=0):b9 C 67 [i64 kind,i64 s,.z s vb] [] (.ret (.t [g9,i64 8])) []:=by
 subst hv;have HL:=zR (vb:=bv b) rfl hk hs hl;rw[h0]at HL;refine BA.c ?_;refine⟨[],_,_,_,_,uJ hk,rfl,rfl,?_⟩;refine⟨[],_,_,_,_,uI hs,rfl,rfl,?_⟩;refine p6 (fun h=>absurd rfl h) (fun _=> ?_);refine⟨[],_,_,_,_,HL,rfl,rfl,?_⟩;exact⟨_,rfl,[],rfl,tq⟩
def W6 (b:Bs):Nat->Nat
 |0=>0
 |k+1=>if b.getD (k+1) 0=0 then W6 b k else k+1
theorem CH (b:Bs):∀k,W6 b k<=k/\(∀j,W6 b k<j->j<=k->b.getD j 0=0)/\(W6 b k=0\/b.getD (W6 b k) 0≠0)
 |0=>⟨Ze _,fun j h1 h2=>by unfold W6 at h1;omega,.inl rfl⟩
 |k+1=>by
  obtain⟨h1,h2,h3⟩:=CH b k;unfold W6;by_cases h:b.getD (k+1) 0=0
  ·rw[if_pos h];refine⟨by omega,fun j g1 g2=> ?_,h3⟩;by_cases e:j=k+1
   ·rw[e];exact h
   ·exact h2 j g1 (by omega)
  ·rw[if_neg h];exact⟨Ze _,fun j g1 g2=>by omega,.inr h⟩
theorem DQ {n j:Nat} (h0:0<n):(M8 2 n).getD j 0=if j=0 then 128 else 0:=by
 unfold M8;rw[if_neg (by decide),if_pos rfl];rcases j with _|j
 ·rfl
 ·rw[if_neg (by omega)];simp only[Zk,List.getElem?_cons_succ,Zx];split<;>rfl
theorem qy {b:Bs} {m j:Nat}:(b.drop m).getD j 0=b.getD (m+j) 0:=by
 simp[Zk,List.getElem?_drop]
theorem Ya {b:Bs} {s:Nat} (hl:b.length=s) (hs:0<s):D4 2 b=if b.getD (W6 b (s-1)) 0=128 then s-W6 b (s-1)else 0:=by
 obtain⟨z1,z2,z3⟩:=CH b (s-1);generalize W6 b (s-1)=K at*
 by_cases hK:b.getD K 0=128
 ·rw[if_pos hK];have hM:U9 b s=K+1:=CE b hK s (by omega) (fun i g1 g2=>by rw[z2 i g1 (by omega)];decide);have hC:au 2 b=s-K:=by unfold au;rw[if_pos rfl,hl,hM];omega
  have lm:=oS (kind:=2) (n:=s-K) (by omega);have hd:b.drop (s-(s-K))=M8 2 (s-K):=by
   rw[show s-(s-K)=K by omega];refine jy (by rw[Zf,hl,lm]) fun j hj=> ?_;rw[Zf,hl]at hj;rw[qy,DQ (by omega)];by_cases e:j=0
   ·rw[if_pos e,e,Zz];exact hK
   ·rw[if_neg e];exact z2 _ (by omega) (by omega)
  unfold D4;rw[hC,hl,if_neg];rintro (h|h|h)
  ·omega
  ·omega
  ·exact h.2 hd
 ·rw[if_neg hK];unfold D4;rw[hl];split
  ·rfl
  ·rename_i h;exfalso;obtain⟨e,he⟩:∃e,e=au 2 b:=⟨_,rfl⟩;rw[<-he]at h;have g1:¬e<1:=fun x=>h (.inl x);have g2:¬s<e:=fun x=>h (.inr (.inl x));have g3:b.drop (s-e)=M8 2 e:=Classical.byContradiction fun x=>h (.inr (.inr ⟨by decide,x⟩));have hat:∀j,b.getD (s-e+j) 0=if j=0 then 128 else 0:=fun j=>by rw[<-qy,g3,DQ (by omega)]
   rcases Nat.lt_trichotomy K (s-e)with hh|hh|hh
   ·have:=hat 0;rw[if_pos rfl,Zz,z2 _ hh (by omega)]at this;exact absurd this (by decide)
   ·have:=hat 0;rw[if_pos rfl,Zz,<-hh]at this;exact hK this
   ·have:=hat (K-(s-e));rw[if_neg (by omega),show s-e+(K-(s-e))=K by omega]at this;rcases z3 with z3|z3
    ·omega
    ·exact z3 this
def iF (kind:Int) (b:Bs):Int:=if D4 kind b=0 then -1 else ((b.length-D4 kind b:Nat):Int)
theorem jK {kind:Int} {b:Bs} (h:D4 kind b=0):iF kind b= -1:=by
 unfold iF;rw[if_pos h]
theorem rX {kind:Int} {b:Bs} {s c:Nat} (hl:b.length=s) (h:D4 kind b=c) (h0:0<c):iF kind b=((s-c:Nat):Int):=by
 unfold iF;rw[if_neg (by omega),h,hl]
theorem XW {b:Bs} {s c:Nat} (hl:b.length=s) (hs:0<s) (hc:c=(b.getD (s-1) 0).toNat):
  ((c<1\/s<c\/(∃i,s-c<=i/\i<s/\b.getD i 0≠Zr c))->D4 1 b=0)/\(¬(c<1\/s<c\/(∃i,s-c<=i/\i<s/\b.getD i 0≠Zr c))->D4 1 b=c):=by
 have hC:au 1 b=c:=by unfold au;rw[if_neg (by decide),hl,hc]
 have hM:M8 1 c=Zh c (Zr c):=by unfold M8;rw[if_pos rfl]
 have hd:c<=s->(b.drop (s-c)=M8 1 c↔∀i,s-c<=i->i<s->b.getD i 0=Zr c):=fun hcs=>by
  constructor
  ·intro h i g1 g2;have:(b.drop (s-c)).getD (i-(s-c)) 0=b.getD i 0:=by rw[qy,show s-c+(i-(s-c))=i by omega]
   rw[<-this,h,hM,Zk,Zx,if_pos (by omega)];rfl
  ·intro h;refine jy (by rw[Zf,hl,hM,Zg];omega) fun j hj=> ?_;rw[Zf,hl]at hj;rw[qy,h _ (by omega) (by omega),hM,Zk,Zx,if_pos (by omega)];rfl
 unfold D4;rw[hC,hl];refine⟨fun h=>if_pos ?_,fun h=>if_neg ?_⟩
 ·by_cases h1:c<1
  ·exact .inl h1
  by_cases h2:s<c
  ·exact .inr (.inl h2)
  rcases h with h|h|⟨i,g1,g2,g3⟩
  ·exact .inl h
  ·exact .inr (.inl h)
  ·exact .inr (.inr ⟨by decide,fun e=>g3 ((hd (by omega)).1 e i g1 g2)⟩)
 ·rintro (k|k|k)
  ·exact h (.inl k)
  ·exact h (.inr (.inl k))
  ·by_cases h2:s<c
   ·exact h (.inr (.inl h2))
   ·exact k.2 ((hd (by omega)).2 fun i g1 g2=>Classical.byContradiction fun g3=>h (.inr (.inr ⟨i,g1,g2,g3⟩)))
theorem XX {b:Bs} {s c:Nat} (hl:b.length=s) (hc:c=(b.getD (s-1) 0).toNat):D4 3 b=if c<1\/s<c then 0 else c:=by
 have hC:au 3 b=c:=by unfold au;rw[if_neg (by decide),hl,hc]
 unfold D4;rw[hC,hl];by_cases h1:c<1\/s<c
 ·rw[if_pos h1,if_pos (by rcases h1 with h|h;exact .inl h;exact .inr (.inl h))]
 ·rw[if_neg h1,if_neg (fun h=>by
   rcases h with h|h|h
   ·exact h1 (.inl h)
   ·exact h1 (.inr h)
   ·exact h.1 rfl)]
theorem zp {kind:Int} {s:Nat} {vb:List Value} {b:Bs} (hv:vb=bv b) (hk:kind=1\/kind=2\/kind=3) (hs:s=8\/s=16) (hl:b.length=s):b9 C 161 [i64 kind,.z s vb] [] (.ret (i64 (iF kind b))) []:=by
 subst hv;have w1:I6.wrap ((s:Int)-1)=((s-1:Nat):Int):=by rw[Zd _ (by omega)];omega
 have hg:∀i:Nat,i<s->(bv b)[((i:Nat):Int).toNat]? =some (.int .u8 ((b.getD i 0).toNat:Int)):=fun i hi=>by rw[Zb];exact p9 (by omega)
 refine Th.c ?_;rcases hk with rfl|rfl|rfl
 ·obtain⟨c,hc⟩:∃c,c=(b.getD (s-1) 0).toNat:=⟨_,rfl⟩;have hcb:c<256:=by rw[hc];exact UInt8.toNat_lt _
  have w2:I6.wrap (((b.getD (s-1) 0).toNat:Nat):Int)=(c:Int):=by rw[fw,hc]
  have hP:=XW hl (by omega) hc;refine⟨by rw[w1];omega,by rw[w1];omega,_,by rw[w1];exact hg _ (by omega),?_⟩;refine d9 (fun h=> ?_) (fun h=> ?_)
  ·rw[w2]at h;refine⟨_,rfl,[],f8 ?_,tq⟩;exact(jK (hP.1 (.inl (by omega)))).symm
  rw[w2]at h;refine d9 (fun h2=> ?_) (fun h2=> ?_)
  ·rw[w2]at h2;refine⟨_,rfl,[],f8 ?_,tq⟩;exact(jK (hP.1 (.inr (.inl (by omega))))).symm
  rw[w2]at h2;have w3:I6.wrap ((s:Int)-I6.wrap (((b.getD (s-1) 0).toNat:Nat):Int))=((s-c:Nat):Int):=by rw[w2,Zd _ (by omega)];omega
  refine⟨Nat,fun i=>⟨[(0,i64 1),(1,.z s (bv b)),(5,i64 s),(7,i64 c),(8,i64 i)],[]⟩,fun i=>s-c<=i/\i<=s/\∀j,s-c<=j->j<i->b.getD j 0=Zr c,fun i=>s-i,⟨[],s-c,⟨Ze _,by omega,fun j g1 g2=>by omega⟩,[],⟨rfl,rfl,rfl,f8 w2,f8 w3,tq⟩,tq⟩,fun i hi=> ?_⟩;obtain⟨g1,g2,g3⟩:=hi;refine d9 (fun d8=> ?_) (fun hge=> ?_)
  ·have d8:i<s:=by omega
   refine⟨by omega,by omega,_,hg i d8,?_⟩;refine p6 (fun hne=> ?_) (fun heq=> ?_)
   ·rw[Y5]at hne;have hne:b.getD i 0≠Zr c:=fun e=>hne (by rw[e]);refine⟨_,rfl,[],f8 ?_,tq⟩;exact(jK (hP.1 (.inr (.inr ⟨i,g1,d8,hne⟩)))).symm
   ·rw[Y5]at heq;have heq:b.getD i 0=Zr c:=Z3.1 (by omega);refine⟨i+1,⟨by omega,by omega,fun j k1 k2=> ?_⟩,(by show s-(i+1)<s-i;omega),[],⟨rfl,rfl,rfl,rfl,f8 (by simp(disch:=omega)only[Zd];omega),tq⟩,tq⟩;by_cases e:j=i
    ·rw[e];exact heq
    ·exact g3 j k1 (by omega)
  ·have hi:i=s:=by omega
   subst hi;have w4:I6.wrap ((i:Int)-(c:Int))=((i-c:Nat):Int):=by rw[Zd _ (by omega)];omega
   refine⟨_,rfl,[],f8 ?_,tq⟩;rw[w4];have hn:¬(c<1\/i<c\/∃j,i-c<=j/\j<i/\b.getD j 0≠Zr c):=by
    rintro (k1|k1|⟨j,k1,k2,k3⟩)
    ·omega
    ·omega
    ·exact k3 (g3 j k1 k2)
   exact(rX hl (hP.2 hn) (by omega)).symm
 ·have hP:=Ya hl (by omega);refine⟨Nat,fun k=>⟨[(1,.z s (bv b)),(6,i64 k)],[]⟩,fun k=>k<=s-1/\W6 b (s-1)=W6 b k,fun k=>k,⟨[],s-1,⟨Ze _,rfl⟩,[],⟨rfl,f8 w1,tq⟩,tq⟩,fun k hk=> ?_⟩;obtain⟨g1,g2⟩:=hk;have fin:∀K:Nat,K<=s-1->W6 b (s-1)=K->(b.getD K 0=128->iF 2 b=(K:Int))/\(b.getD K 0≠128->iF 2 b= -1):=fun K hK hZ=>by
   rw[hZ]at hP;refine⟨fun h=> ?_,fun h=> ?_⟩
   ·rw[rX hl (hP.trans (if_pos h)) (by omega)];omega
   ·exact jK (hP.trans (if_neg h))
  have w128:((128:UInt8).toNat:Int)=128:=rfl;refine d9 (fun hp=> ?_) (fun hp=> ?_)
  ·obtain⟨i,rfl⟩:∃i,k=i+1:=⟨k-1,by omega⟩;refine⟨by omega,by omega,_,hg (i+1) (by omega),?_⟩;refine i7 (fun hz=> ?_) (fun hz=> ?_)
   ·have hz':b.getD (i+1) 0=0:=(na _).1 hz;have e:W6 b (i+1)=W6 b i:=by rw[W6,if_pos hz']
    exact⟨i,⟨by omega,by rw[g2,e]⟩,(by show i<i+1;omega),[],⟨rfl,f8 (by simp(disch:=omega)only[Zd];omega),tq⟩,tq⟩
   ·have hz':¬b.getD (i+1) 0=0:=fun e=>hz ((na _).2 e);have e:W6 b (i+1)=i+1:=by rw[W6,if_neg hz']
    have F:=fin (i+1) g1 (g2.trans e);refine⟨by omega,by omega,_,hg (i+1) (by omega),?_⟩;refine i7 (fun hm=> ?_) (fun hm=> ?_)
    ·exact⟨_,rfl,[],f8 (F.1 (Z3.1 (by omega))).symm,tq⟩
    ·exact⟨_,rfl,[],f8 (F.2 (fun e=>hm (by rw[e];exact w128))).symm,tq⟩
  ·obtain rfl:k=0:=by omega
   have F:=fin 0 g1 g2;refine⟨by omega,by omega,_,hg 0 (by omega),?_⟩;refine i7 (fun hm=> ?_) (fun hm=> ?_)
   ·exact⟨_,rfl,[],f8 (F.1 (Z3.1 (by omega))).symm,tq⟩
   ·exact⟨_,rfl,[],f8 (F.2 (fun e=>hm (by rw[e];exact w128))).symm,tq⟩
 ·obtain⟨c,hc⟩:∃c,c=(b.getD (s-1) 0).toNat:=⟨_,rfl⟩;have hcb:c<256:=by rw[hc];exact UInt8.toNat_lt _
  have w2:I6.wrap (((b.getD (s-1) 0).toNat:Nat):Int)=(c:Int):=by rw[fw,hc]
  have hP:=XX hl hc;refine⟨by rw[w1];omega,by rw[w1];omega,_,by rw[w1];exact hg _ (by omega),?_⟩;refine d9 (fun h=> ?_) (fun h=> ?_)
  ·rw[w2]at h;refine⟨_,rfl,[],f8 ?_,tq⟩;exact(jK (hP.trans (if_pos (.inl (by omega))))).symm
  rw[w2]at h;refine d9 (fun h2=> ?_) (fun h2=> ?_)
  ·rw[w2]at h2;refine⟨_,rfl,[],f8 ?_,tq⟩;exact(jK (hP.trans (if_pos (.inr (by omega))))).symm
  rw[w2]at h2;have w3:I6.wrap ((s:Int)-I6.wrap (((b.getD (s-1) 0).toNat:Nat):Int))=((s-c:Nat):Int):=by rw[w2,Zd _ (by omega)];omega
  have w4:I6.wrap ((s:Int)-(c:Int))=((s-c:Nat):Int):=by rw[Zd _ (by omega)];omega
  refine⟨Unit,fun _=>⟨[(0,i64 3),(1,.z s (bv b)),(5,i64 s),(7,i64 c),(8,i64 (s-c:Nat))],[]⟩,fun _=>True,fun _=>0,⟨[],(),tq,[],⟨rfl,rfl,rfl,f8 w2,f8 w3,tq⟩,tq⟩,fun _ _=> ?_⟩;have hres:iF 3 b=((s-c:Nat):Int):=by
   exact rX hl (hP.trans (if_neg (by omega))) (by omega)
  refine d9 (fun d8=> ?_) (fun hge=> ?_)
  ·refine⟨_,rfl,[],f8 ?_,tq⟩;rw[w4,hres]
  ·refine⟨_,rfl,[],f8 ?_,tq⟩;rw[w4,hres]
theorem MQ {kind:Int} {s:Nat} {vb:List Value} {b:Bs} (hv:vb=bv b) (hk:kind=1\/kind=2\/kind=3) (hs:s=8\/s=16) (hl:b.length=s) (h0:D4 kind b=0):b9 C 108 [i64 kind,i64 s,.z s vb] [] (.ret (.t [g9,i64 8])) []:=by
 subst hv;have HA:=zp (vb:=bv b) rfl hk hs hl;rw[jK h0]at HA;refine BD.c ?_;refine d9 (fun h=>absurd h (by omega)) (fun _=> ?_);refine d9 (fun h=>absurd h (by omega)) (fun _=> ?_);rcases hs with rfl|rfl;all_goals
  refine⟨[],_,_,_,_,HA,rfl,rfl,?_⟩;exact⟨_,rfl,[],rfl,tq⟩
theorem MP {kind:Int} {s:Nat} {vb:List Value} {b:Bs} (hv:vb=bv b) (hk:kind=1\/kind=2\/kind=3) (hs:s=8\/s=16) (hl:b.length=s) (h0:D4 kind b≠0):b9 C 108 [i64 kind,i64 s,.z s vb] [] (.ret (.t [.z (s-D4 kind b) (bv (bW kind b)),i64 0])) []:=by
 subst hv;have HA:=zp (vb:=bv b) rfl hk hs hl;have hle:=DP kind b;rw[rX hl rfl (by omega)]at HA;have hst:bW kind b=sub b 0 (s-D4 kind b):=by unfold bW;rw[hl];rfl
 rw[hst];generalize D4 kind b=c at*
 obtain⟨d,hd⟩:∃d,d=s-c:=⟨_,rfl⟩;rw[<-hd]at HA ⊢;have lp:(sub b 0 d).length=d:=by rw[m5];omega
 have hv1:sub (bv b) 0 d=bv (sub b 0 d):=o6 _ _ _;refine BD.c ?_;refine d9 (fun h=>absurd h (by omega)) (fun _=> ?_);refine d9 (fun h=>absurd h (by omega)) (fun _=> ?_);have hds:d<=s:=by omega
 rcases hs with rfl|rfl;all_goals
  refine⟨[],_,_,_,_,HA,rfl,rfl,?_⟩;first|refine d9 (fun h=>absurd h (show ¬((d:Int)<0) by omega)) (fun _=> ?_)|skip
  refine⟨by omega,by omega,by omega,by omega,?_⟩;refine⟨by rw[Zb,Ji,hv1,j6,lp],by omega,by decide,?_⟩;refine⟨_,rfl,[],congrArg (fun z=>V.t [z,i64 0]) ?_,tq⟩;rw[Zb,Ji];show V.z (0+d) (sub (sub (bv b) 0 d) 0 (0+d))=_;rw[Zj,hv1,g8 lp]
def Y4 (mode:Int):Int:=if mode=1\/mode=2 then 1 else if 3<=mode/\mode<=6 then 2 else if 7<=mode/\mode<=9 then 3 else 0
theorem uv (mode:Int):b9 C 60 [i64 mode] [] (.ret (i64 (Y4 mode))) []:=by
 refine Vb.c ?_;by_cases hm:1<=mode/\mode<=9
 ·have h9:mode=1\/mode=2\/mode=3\/mode=4\/mode=5\/mode=6\/mode=7\/mode=8\/mode=9:=by omega
  rcases h9 with rfl|rfl|rfl|rfl|rfl|rfl|rfl|rfl|rfl<;>exact⟨_,rfl,[],rfl,tq⟩
 ·have e:Y4 mode=0:=by unfold Y4;rw[if_neg (by omega),if_neg (by omega),if_neg (by omega)]
  rw[e];refine i7 (fun h=>absurd h (by omega)) (fun _=> ?_);refine i7 (fun h=>absurd h (by omega)) (fun _=> ?_);refine i7 (fun h=>absurd h (by omega)) (fun _=> ?_);refine i7 (fun h=>absurd h (by omega)) (fun _=> ?_);refine i7 (fun h=>absurd h (by omega)) (fun _=> ?_);refine i7 (fun h=>absurd h (by omega)) (fun _=> ?_);refine i7 (fun h=>absurd h (by omega)) (fun _=> ?_);refine i7 (fun h=>absurd h (by omega)) (fun _=> ?_);refine i7 (fun h=>absurd h (by omega)) (fun _=> ?_);exact⟨_,rfl,[],rfl,tq⟩
abbrev R9 (t mode pad:Int) (back:Bool):V:= .a [i64 t,i64 mode,i64 pad,bool back]
theorem Mi {t key s k xs rs} (h:k5 t key s k xs rs) {mode pad:Int} {back:Bool} {li:Nat} {vk vi:List Value} (hvk:vk=bv key) (hm:1<=mode/\mode<=9) (hp:1<=pad/\pad<=4) (hpm:pad=4\/mode<=2) (hi:li=if mode=1 then 0 else s):
  b9 C 59 [R9 t mode pad back,.z key.length vk,.z li vi] [] (.ret (.t [f9 t k xs,i64 0])) []:=by
 subst hvk;have hs:=h.s_le;refine qP.c ?_;refine⟨_,rfl,?_⟩;refine⟨[],_,_,_,_,h.new,rfl,rfl,?_⟩;refine⟨_,rfl,?_⟩;refine⟨[],_,_,_,_,uv mode,rfl,rfl,?_⟩;refine⟨[],_,_,_,_,h.size,rfl,rfl,?_⟩;refine⟨_,rfl,?_⟩;have hk0:Y4 mode≠0:=by unfold Y4;split;decide;split;decide;rw[if_pos (by omega)];decide
 have hk1:pad≠4->Y4 mode=1:=fun hp4=>by unfold Y4;rw[if_pos (by omega)]
 refine i7 (fun h1=> ?_) (fun h1=> ?_);all_goals
  refine i7 (fun h=>absurd h hk0) (fun _=> ?_);refine⟨_,rfl,?_⟩;refine d9 (fun h=>absurd h (by omega)) (fun _=> ?_);refine⟨_,rfl,?_⟩;refine d9 (fun h=>absurd h (by omega)) (fun _=> ?_);refine⟨_,rfl,?_⟩;refine p6 (fun h4=> ?_) (fun h4=> ?_)
  ·refine p6 (fun h=>absurd (hk1 h4) h) (fun _=> ?_);refine p6 (fun h=>absurd (show (li:Int)=_ by first|(rw [hi,if_pos h1];rfl)|rw[hi,if_neg h1]) h) (fun _=> ?_);exact⟨_,rfl,[],rfl,tq⟩
  ·refine p6 (fun h=>absurd (show (li:Int)=_ by first|(rw [hi,if_pos h1];rfl)|rw[hi,if_neg h1]) h) (fun _=> ?_);exact⟨_,rfl,[],rfl,tq⟩
theorem Mg {t key s k xs rs} (h:k5 t key s k xs rs) {mode pad:Int} {back:Bool} {li:Nat} {vk vi:List Value} (hvk:vk=bv key) (hm:1<=mode/\mode<=9) (hp:1<=pad/\pad<=4) (hpm:pad=4\/mode<=2) (hi:li≠if mode=1 then 0 else s):
  b9 C 59 [R9 t mode pad back,.z key.length vk,.z li vi] [] (.ret (.t [j8,i64 5])) []:=by
 subst hvk;have hs:=h.s_le;refine qP.c ?_;refine⟨_,rfl,?_⟩;refine⟨[],_,_,_,_,h.new,rfl,rfl,?_⟩;refine⟨_,rfl,?_⟩;refine⟨[],_,_,_,_,uv mode,rfl,rfl,?_⟩;refine⟨[],_,_,_,_,h.size,rfl,rfl,?_⟩;refine⟨_,rfl,?_⟩;have hk0:Y4 mode≠0:=by unfold Y4;split;decide;split;decide;rw[if_pos (by omega)];decide
 have hk1:pad≠4->Y4 mode=1:=fun hp4=>by unfold Y4;rw[if_pos (by omega)]
 refine i7 (fun h1=> ?_) (fun h1=> ?_);all_goals
  refine i7 (fun h=>absurd h hk0) (fun _=> ?_);refine⟨_,rfl,?_⟩;refine d9 (fun h=>absurd h (by omega)) (fun _=> ?_);refine⟨_,rfl,?_⟩;refine d9 (fun h=>absurd h (by omega)) (fun _=> ?_);refine⟨_,rfl,?_⟩;refine p6 (fun h4=> ?_) (fun h4=> ?_)
  ·refine p6 (fun h=>absurd (hk1 h4) h) (fun _=> ?_);refine p6 (fun _=> ?_) (fun h=>absurd ?_ hi)
   ·exact⟨_,rfl,[],rfl,tq⟩
   ·simp only[h1,if_true,if_false];exact Ja.1 h
  ·refine p6 (fun _=> ?_) (fun h=>absurd ?_ hi)
   ·exact⟨_,rfl,[],rfl,tq⟩
   ·simp only[h1,if_true,if_false];exact Ja.1 h
theorem zT {t mode pad e:Int} {back:Bool} {lk li:Nat} {vk vi:List Value} (HN:b9 C 25 [i64 t,.z lk vk] [] (.ret (.t [j8,i64 e])) []) (he:e≠0):
  b9 C 59 [R9 t mode pad back,.z lk vk,.z li vi] [] (.ret (.t [j8,i64 e])) []:=by
 refine qP.c ?_;refine⟨_,rfl,?_⟩;refine⟨[],_,_,_,_,HN,rfl,rfl,?_⟩;refine p6 (fun _=> ?_) (fun h=>absurd h he);exact⟨_,rfl,[],rfl,tq⟩
theorem NX {t key s k xs rs} (h:k5 t key s k xs rs) {mode pad:Int} {back:Bool} {li:Nat} {vk vi:List Value} (hvk:vk=bv key) (hm:1<=mode/\mode<=9) (hp:1<=pad/\pad<=4) (hpm:pad=4\/mode<=2) (hi:li=if mode=1 then 0 else s):
  b9 C 99 [R9 t mode pad back,.z key.length vk,.z li vi] [] (.ret (i64 0)) []:=by
 subst hvk;refine qK.c ?_;refine⟨_,rfl,?_⟩;refine⟨[],_,_,_,_,h.rnew,rfl,rfl,?_⟩;refine⟨_,rfl,?_⟩;refine d9 (fun h=>absurd h (by omega)) (fun _=> ?_);refine⟨_,rfl,?_⟩;refine d9 (fun h=>absurd h (by omega)) (fun _=> ?_);refine⟨_,rfl,?_⟩;refine d9 (fun h=>absurd h (by omega)) (fun _=> ?_);refine⟨_,rfl,?_⟩;refine d9 (fun h=>absurd h (by omega)) (fun _=> ?_);refine⟨_,rfl,?_⟩;refine p6 (fun h4=> ?_) (fun h4=> ?_)
 ·refine⟨_,rfl,?_⟩;refine d9 (fun h=>absurd h (by omega)) (fun _=> ?_);refine⟨_,rfl,?_⟩;refine⟨[],_,_,_,_,h.rS,rfl,rfl,?_⟩;refine⟨_,rfl,?_⟩;refine i7 (fun h1=> ?_) (fun h1=> ?_);all_goals
   refine p6 (fun h=>absurd (show (li:Int)=_ by first|(rw [hi,if_pos h1];rfl)|rw[hi,if_neg h1]) h) (fun _=> ?_);exact⟨_,rfl,[],rfl,tq⟩
 ·refine⟨_,rfl,?_⟩;refine⟨[],_,_,_,_,h.rS,rfl,rfl,?_⟩;refine⟨_,rfl,?_⟩;refine i7 (fun h1=> ?_) (fun h1=> ?_);all_goals
   refine p6 (fun h=>absurd (show (li:Int)=_ by first|(rw [hi,if_pos h1];rfl)|rw[hi,if_neg h1]) h) (fun _=> ?_);exact⟨_,rfl,[],rfl,tq⟩
theorem NU {t key s k xs rs} (h:k5 t key s k xs rs) {mode pad:Int} {back:Bool} {li:Nat} {vk vi:List Value} (hvk:vk=bv key) (hm:1<=mode/\mode<=9) (hp:1<=pad/\pad<=4) (hpm:pad=4\/mode<=2) (hi:li≠if mode=1 then 0 else s):
  b9 C 99 [R9 t mode pad back,.z key.length vk,.z li vi] [] (.ret (i64 5)) []:=by
 subst hvk;refine qK.c ?_;refine⟨_,rfl,?_⟩;refine⟨[],_,_,_,_,h.rnew,rfl,rfl,?_⟩;refine⟨_,rfl,?_⟩;refine d9 (fun h=>absurd h (by omega)) (fun _=> ?_);refine⟨_,rfl,?_⟩;refine d9 (fun h=>absurd h (by omega)) (fun _=> ?_);refine⟨_,rfl,?_⟩;refine d9 (fun h=>absurd h (by omega)) (fun _=> ?_);refine⟨_,rfl,?_⟩;refine d9 (fun h=>absurd h (by omega)) (fun _=> ?_);refine⟨_,rfl,?_⟩;refine p6 (fun h4=> ?_) (fun h4=> ?_)
 ·refine⟨_,rfl,?_⟩;refine d9 (fun h=>absurd h (by omega)) (fun _=> ?_);refine⟨_,rfl,?_⟩;refine⟨[],_,_,_,_,h.rS,rfl,rfl,?_⟩;refine⟨_,rfl,?_⟩;refine i7 (fun h1=> ?_) (fun h1=> ?_);all_goals
   refine p6 (fun _=> ?_) (fun h=>absurd ?_ hi)
   ·exact⟨_,rfl,[],rfl,tq⟩
   ·simp only[h1,if_true,if_false];exact Ja.1 h
 ·refine⟨_,rfl,?_⟩;refine⟨[],_,_,_,_,h.rS,rfl,rfl,?_⟩;refine⟨_,rfl,?_⟩;refine i7 (fun h1=> ?_) (fun h1=> ?_);all_goals
   refine p6 (fun _=> ?_) (fun h=>absurd ?_ hi)
   ·exact⟨_,rfl,[],rfl,tq⟩
   ·simp only[h1,if_true,if_false];exact Ja.1 h
theorem NV {t key s k xs rs} (h:k5 t key s k xs rs) {mode pad:Int} {back:Bool} {li:Nat} {vk vi:List Value} (hvk:vk=bv key) (hb:¬((1<=mode/\mode<=9)/\(1<=pad/\pad<=4)/\(pad=4\/mode<=2))):
  b9 C 99 [R9 t mode pad back,.z key.length vk,.z li vi] [] (.ret (i64 3)) []:=by
 subst hvk;refine qK.c ?_;refine⟨_,rfl,?_⟩;refine⟨[],_,_,_,_,h.rnew,rfl,rfl,?_⟩;refine⟨_,rfl,?_⟩;refine d9 (fun _=>⟨_,rfl,[],rfl,tq⟩) (fun a1=> ?_);refine⟨_,rfl,?_⟩;refine d9 (fun _=>⟨_,rfl,[],rfl,tq⟩) (fun a2=> ?_);refine⟨_,rfl,?_⟩;refine d9 (fun _=>⟨_,rfl,[],rfl,tq⟩) (fun a3=> ?_);refine⟨_,rfl,?_⟩;refine d9 (fun _=>⟨_,rfl,[],rfl,tq⟩) (fun a4=> ?_);refine⟨_,rfl,?_⟩;refine p6 (fun h4=> ?_) (fun h4=> ?_)
 ·refine⟨_,rfl,?_⟩;refine d9 (fun _=>⟨_,rfl,[],rfl,tq⟩) (fun a5=> ?_);exact absurd ⟨⟨by omega,by omega⟩,⟨by omega,by omega⟩,.inr (by omega)⟩ hb
 ·exact absurd ⟨⟨by omega,by omega⟩,⟨by omega,by omega⟩,.inl h4⟩ hb
theorem Ae {t mode pad e:Int} {back:Bool} {lk li:Nat} {vk vi:List Value} (HN:b9 C 14 [i64 t,.z lk vk] [] (.ret (.t [j8,i64 e])) []) (he:e≠0):
  b9 C 99 [R9 t mode pad back,.z lk vk,.z li vi] [] (.ret (i64 e)) []:=by
 refine qK.c ?_;refine⟨_,rfl,?_⟩;refine⟨[],_,_,_,_,HN,rfl,rfl,?_⟩;refine p6 (fun _=> ?_) (fun h=>absurd h he);exact⟨_,rfl,[],rfl,tq⟩
theorem Mh {t key s k xs rs} (h:k5 t key s k xs rs) {mode pad:Int} {back:Bool} {li:Nat} {vk vi:List Value} (hvk:vk=bv key) (hb:¬((1<=mode/\mode<=9)/\(1<=pad/\pad<=4)/\(pad=4\/mode<=2))):
  b9 C 59 [R9 t mode pad back,.z key.length vk,.z li vi] [] (.ret (.t [j8,i64 3])) []:=by
 subst hvk;have hs:=h.s_le;have hk0:(1<=mode/\mode<=9)->Y4 mode≠0:=fun hm=>by unfold Y4;split;decide;split;decide;rw[if_pos (by omega)];decide
 have hkz:¬(1<=mode/\mode<=9)->Y4 mode=0:=fun hm=>by unfold Y4;rw[if_neg (by omega),if_neg (by omega),if_neg (by omega)]
 have hk1:Y4 mode=1->mode<=2:=fun hh=>by
  unfold Y4 at hh;split at hh
  ·omega
  ·split at hh
   ·exact absurd hh (by decide)
   ·split at hh<;>exact absurd hh (by decide)
 refine qP.c ?_;refine⟨_,rfl,?_⟩;refine⟨[],_,_,_,_,h.new,rfl,rfl,?_⟩;refine⟨_,rfl,?_⟩;refine⟨[],_,_,_,_,uv mode,rfl,rfl,?_⟩;refine⟨[],_,_,_,_,h.size,rfl,rfl,?_⟩;refine⟨_,rfl,?_⟩;refine i7 (fun h1=> ?_) (fun h1=> ?_);all_goals
  refine i7 (fun hz=> ?_) (fun hz=> ?_)
  ·refine i7 (fun _=>⟨_,rfl,[],rfl,tq⟩) (fun h=>absurd hz h)
  refine⟨_,rfl,?_⟩;refine d9 (fun hz2=> ?_) (fun a3=> ?_)
  ·refine d9 (fun _=>⟨_,rfl,[],rfl,tq⟩) (fun h=>absurd hz2 h)
  refine⟨_,rfl,?_⟩;refine d9 (fun hz2=> ?_) (fun a4=> ?_)
  ·refine d9 (fun _=>⟨_,rfl,[],rfl,tq⟩) (fun h=>absurd hz2 h)
  refine⟨_,rfl,?_⟩;refine p6 (fun h4=> ?_) (fun h4=> ?_)
  ·refine p6 (fun _=>⟨_,rfl,[],rfl,tq⟩) (fun hk=> ?_);have:=hk1 hk;have hm:1<=mode/\mode<=9:=Classical.byContradiction fun x=>hz (hkz x);exact absurd ⟨hm,⟨by omega,by omega⟩,.inr this⟩ hb
  ·have hm:1<=mode/\mode<=9:=Classical.byContradiction fun x=>hz (hkz x);exact absurd ⟨hm,⟨by omega,by omega⟩,.inl h4⟩ hb
theorem k5.s_two {t key s k xs rs} (h:k5 t key s k xs rs):s=8\/s=16:=by
 have:=h.hs;rcases h.ht with e|e|e|e|e|e|e|e<;>(subst e;simp[q9]at this;omega)
theorem b9.out {f:FuncId} {args:List V} {r r':V} (hc:b9 C f args [] (.ret r) []) (h:Wk r r'):b9 C f args [] (.ret r') []:=
 ⟨hc.1,fun w F ι vs a b c d=>(hc.2 w F ι vs a b c d).mono fun e w' ⟨F',ι',h1,h2,h3,h4,h5,hoc⟩=>⟨F',ι',h1,h2,h3,h4,h5,E8.oc (.ret h) hoc⟩⟩
theorem EH (t:Int) {key:Bs} {lk:Nat} (hk:key.length=lk) (hlk:lk<=1000) (mode pad:Int) (back:Bool) {iv:Bs} {li:Nat} (hi:iv.length=li):
  (C2 t mode pad (q9 t).toNat lk li=0/\∃s k xs rs,k5 t key s k xs rs/\D5 s mode pad iv)\/
  (C2 t mode pad (q9 t).toNat lk li≠0/\b9 C 59 [R9 t mode pad back,.z lk (bv key),.z li (bv iv)] [] (.ret (.t [j8,i64 (C2 t mode pad (q9 t).toNat lk li)])) []/\
   b9 C 99 [R9 t mode pad back,.z lk (bv key),.z li (bv iv)] [] (.ret (i64 (C2 t mode pad (q9 t).toNat lk li))) []):=by
 subst hk;subst hi;by_cases ht:A1 t
 ·by_cases hv:(key.length:Int)∈r9 t
  ·obtain⟨s,k,xs,rs,h⟩:=AH (key:=key) ht hv;have hs:(q9 t).toNat=s:=by rw[h.hs,Zb]
   rw[hs];by_cases hmp:(1<=mode/\mode<=9)/\(1<=pad/\pad<=4)/\(pad=4\/mode<=2)
   ·by_cases hli:iv.length=if mode=1 then 0 else s
    ·left;refine⟨?_,s,k,xs,rs,h,hmp.1,hmp.2.1,hmp.2.2,hli⟩;unfold C2;rw[if_neg (by exact fun x=>x ht),if_neg (by exact fun x=>x hv),if_neg (by exact fun x=>x hmp),if_neg (by exact fun x=>x hli)]
    ·right;have e:C2 t mode pad s key.length iv.length=5:=by
      unfold C2;rw[if_neg (by exact fun x=>x ht),if_neg (by exact fun x=>x hv),if_neg (by exact fun x=>x hmp),if_pos hli]
     rw[e];exact⟨by decide,Mg h rfl hmp.1 hmp.2.1 hmp.2.2 hli,NU h rfl hmp.1 hmp.2.1 hmp.2.2 hli⟩
   ·right;have e:C2 t mode pad s key.length iv.length=3:=by
     unfold C2;rw[if_neg (by exact fun x=>x ht),if_neg (by exact fun x=>x hv),if_pos hmp]
    rw[e];exact⟨by decide,Mh h rfl hmp,NV h rfl hmp⟩
  ·right;have e:C2 t mode pad (q9 t).toNat key.length iv.length=4:=by
    unfold C2;rw[if_neg (by exact fun x=>x ht),if_pos hv]
   rw[e];exact⟨by decide,zT (Mc ht (by omega) hv) (by decide),Ae (ME ht hv) (by decide)⟩
 ·right;have e:C2 t mode pad (q9 t).toNat key.length iv.length=2:=by
   unfold C2;rw[if_pos ht]
  rw[e];exact⟨by decide,zT (Md ht) (by decide),Ae (MG ht) (by decide)⟩
theorem uL {a n:Int} (hn:0<n) (hn2:n<=4611686018427387904) (ha: -9223372036854775808<=a/\a<=9223372036854775807):b9 C 51 [i64 a,i64 n] [] (.ret (i64 (a%n))) []:=by
 refine Si.c ?_;have h1: -n<a.tmod n:=Int.lt_tmod_of_pos a hn;have h2:a.tmod n<n:=Int.tmod_lt_of_pos a hn;refine⟨by omega,?_⟩;refine d9 (fun h=> ?_) (fun h=> ?_)
 ·refine⟨_,rfl,[],f8 ?_,tq⟩;rw[Zd _ (by omega)];rw[<-fo a n hn,Zl (a:=a.tmod n+n) (by omega),Z1 (by omega) (by omega)]
 ·refine⟨_,rfl,[],f8 ?_,tq⟩;rw[<-fo a n hn,Zl (a:=a.tmod n+n) (by omega),Int.add_emod_right,Z1 (by omega) (by omega)]
abbrev pC (tag n mode pad:Int) (back:Bool) (lk:Nat) (k:Bs) (li:Nat) (iv:Bs):V:= .a [i64 tag,i64 n,i64 mode,i64 pad,bool back,.z lk (bv k),.z li (bv iv)]
abbrev aS (a:Int):Prop:= -9223372036854775808<=a/\a<=9223372036854775807
theorem zI {tag n mode pad:Int} {back:Bool} {lk li:Nat} {k iv:Bs} (h:lk<=100/\li<=100):b9 C 11 [pC tag n mode pad back lk k li iv] [] (.ret (bool true)) []:=by
 refine Bw.c ?_;refine⟨_,rfl,?_⟩;refine d9 (fun _=> ?_) (fun hh=>absurd hh (by omega));refine⟨_,rfl,?_⟩;exact⟨_,rfl,[],congrArg bool (decide_eq_true (by omega)),tq⟩
theorem LF {tag n mode pad:Int} {back:Bool} {lk li:Nat} {k iv:Bs} (h:¬(lk<=100/\li<=100)):b9 C 11 [pC tag n mode pad back lk k li iv] [] (.ret (bool false)) []:=by
 refine Bw.c ?_;refine⟨_,rfl,?_⟩;refine d9 (fun _=> ?_) (fun hh=> ?_)
 ·refine⟨_,rfl,?_⟩;exact⟨_,rfl,[],congrArg bool (decide_eq_false (by omega)),tq⟩
 ·exact⟨_,rfl,[],rfl,tq⟩
def K5 (mode:Int):Int:=1+mode%9
def du (mode pad:Int):Int:=if K5 mode<=2 then 1+pad%4 else 4
theorem Hz (mode:Int):1<=K5 mode/\K5 mode<=9:=by unfold K5;omega
theorem yL (mode pad:Int):(1<=du mode pad/\du mode pad<=4)/\(du mode pad=4\/K5 mode<=2):=by
 unfold du;split
 ·omega
 ·exact⟨by decide,.inl rfl⟩
theorem a33 (mode pad:Int) (s:Nat) (iv:Bs):D5 s (K5 mode) (du mode pad) (aY (K5 mode) s iv):=
 ⟨Hz _,(yL mode pad).1,(yL mode pad).2,vZ _ _ _⟩
theorem IT {tag n mode pad:Int} {back:Bool} {lk li s:Nat} {k iv:Bs} (h0:aS tag) (h1:aS n) (h2:aS mode) (h3:aS pad) (hk:k.length=lk) (hi:iv.length=li) (hs:q9 (D1 tag)=s) (hs2:s<=16):
  b9 C 13 [pC tag n mode pad back lk k li iv] [] (.ret (.t [R9 (D1 tag) (K5 mode) (du mode pad) back,.z (cH (D1 tag) n) (bv (ba (D1 tag) n k)),.z (ic (K5 mode) s) (bv (aY (K5 mode) s iv))])) []:=by
 have e1:I6.wrap (1+mode%9)=K5 mode:=by rw[Zd _ (by omega)];rfl
 have e2:I6.wrap (1+pad%4)=1+pad%4:=by rw[Zd _ (by omega)]
 have hR:b9 C 23 [i64 (D1 tag)] [] (.ret (i64 s)) []:=by rw[<-hs];exact pT (jS _)
 refine Sg.c ?_;refine⟨_,rfl,?_⟩;refine⟨[],_,_,_,_,Ax h0,rfl,rfl,?_⟩;refine⟨_,rfl,?_⟩;refine⟨[],_,_,_,_,uL (a:=mode) (n:=9) (by omega) (by omega) h2,rfl,rfl,?_⟩;refine⟨_,rfl,?_⟩;refine⟨Za rfl,?_⟩;refine⟨_,rfl,?_⟩;have hL:∀{vk:List Value},vk=bv k->b9 C 21 [i64 (D1 tag),i64 n,.z lk vk] [] (.ret (.z (cH (D1 tag) n) (bv (ba (D1 tag) n k)))) []:=fun e=>LU (jS _) h1 e hk;have hI:=LT (mode:=K5 mode) (s:=s) (vb:=bv iv) rfl hi (by omega);refine d9 (fun hm=> ?_) (fun hm=> ?_)
 ·rw[e1]at hm;refine⟨_,rfl,?_⟩;refine⟨[],_,_,_,_,uL (a:=pad) (n:=4) (by omega) (by omega) h3,rfl,rfl,?_⟩;refine⟨Za rfl,?_⟩;rw[e1,e2];have hp:du mode pad=1+pad%4:=if_pos hm;rw[hp];refine⟨[i64 (D1 tag),i64 (K5 mode),i64 (1+pad%4),bool back],rfl,rfl,?_⟩;refine⟨_,rfl,?_⟩;refine⟨_,rfl,?_⟩;refine⟨[],_,_,_,_,hL rfl,rfl,rfl,?_⟩;refine⟨_,rfl,?_⟩;refine⟨[],_,_,_,_,hR,rfl,rfl,?_⟩;refine⟨_,rfl,?_⟩;refine⟨[],_,_,_,_,hI,rfl,rfl,?_⟩;refine⟨Za rfl,?_⟩;refine⟨[i64 (D1 tag),i64 (K5 mode),i64 (1+pad%4),bool back],rfl,rfl,?_⟩;exact⟨_,rfl,[],rfl,tq⟩
 ·rw[e1]at hm;rw[e1];have hp:du mode pad=4:=if_neg hm;rw[hp];refine⟨[i64 (D1 tag),i64 (K5 mode),i64 4,bool back],rfl,rfl,?_⟩;refine⟨_,rfl,?_⟩;refine⟨_,rfl,?_⟩;refine⟨[],_,_,_,_,hL rfl,rfl,rfl,?_⟩;refine⟨_,rfl,?_⟩;refine⟨[],_,_,_,_,hR,rfl,rfl,?_⟩;refine⟨_,rfl,?_⟩;refine⟨[],_,_,_,_,hI,rfl,rfl,?_⟩;refine⟨Za rfl,?_⟩;refine⟨[i64 (D1 tag),i64 (K5 mode),i64 4,bool back],rfl,rfl,?_⟩;exact⟨_,rfl,[],rfl,tq⟩
def py (n:Int) (s l:Nat):Nat:=if 0<(n.tdiv 3)%3 then l/s*s else l
abbrev tL (n:Int) (s:Nat) (m:Bs):Bs:=m.take (py n s m.length)
theorem Qd {l s:Nat} (hs:0<s) (hl:l<=1000):I6.wrap (I6.wrap ((l:Int).tdiv s)*s)=((l/s*s:Nat):Int):=by
 have h1:=Nat.div_le_self l s;have h2:=Nat.div_mul_le_self l s;have e:(l:Int).tdiv s=((l/s:Nat):Int):=by rw[Int.tdiv_eq_ediv_of_nonneg (by omega)];rfl
 rw[e];clear e;generalize l/s=q at h1 h2 ⊢;rw[Zd (q:Int) (by omega),<-Int.natCast_mul,Zd _ (by omega)]
theorem a4b {tag n mode pad:Int} {back:Bool} {lk li s l:Nat} {k iv b:Bs} (h0:aS tag) (h1:aS n) (hs:q9 (D1 tag)=s) (hs2:0<s/\s<=16) (hb:b.length=l) (hl:l<=1000):
  b9 C 28 [pC tag n mode pad back lk k li iv,.z l (bv b)] [] (.ret (.z (py n s l) (bv (tL n s b)))) []:=by
 have hR:b9 C 23 [i64 (D1 tag)] [] (.ret (i64 s)) []:=by rw[<-hs];exact pT (jS _)
 have h3: -9223372036854775808<=n.tdiv 3/\n.tdiv 3<=9223372036854775807:=by
  have e:Int.sign 3=1:=rfl;rw[Int.tdiv_eq_ediv,e];split<;>omega
 refine Sh.c ?_;refine⟨_,rfl,?_⟩;refine⟨[],_,_,_,_,Ax h0,rfl,rfl,?_⟩;refine⟨[],_,_,_,_,hR,rfl,rfl,?_⟩;refine⟨_,rfl,?_⟩;have e3:I6.wrap (n.tdiv 3)=n.tdiv 3:=Zd _ (by omega);refine⟨by omega,?_⟩;refine⟨[],_,_,_,_,uL (a:=I6.wrap (n.tdiv 3)) (n:=3) (by omega) (by omega) (by rw[e3];exact h3),rfl,rfl,?_⟩;rw[e3];refine d9 (fun hm=> ?_) (fun hm=> ?_)
 ·have hq:l/s*s<=l:=Nat.div_mul_le_self _ _;have hv:=Qd (l:=l) (s:=s) (by omega) hl;refine⟨by omega,?_⟩;refine⟨by rw[hv];omega,by rw[hv];omega,by rw[hv];omega,by rw[hv];omega,?_⟩;refine⟨_,rfl,[],?_,tq⟩;have e4:py n s l=l/s*s:=if_pos hm;show V.z ((I6.wrap (I6.wrap ((l:Int).tdiv s)*s)).toNat-0) (sub (bv b) 0 ((I6.wrap (I6.wrap ((l:Int).tdiv s)*s)).toNat-0))=_;rw[hv,e4,Zb,Ji,tL,hb,e4,o6];rfl
 ·refine⟨_,rfl,[],?_,tq⟩;have e4:py n s l=l:=if_neg hm;rw[tL,hb,e4,Zp (by omega)];rfl
theorem yR (tag n:Int) (k:Bs):∃s q xs rs,k5 (D1 tag) (ba (D1 tag) n k) s q xs rs:=Ph tag n k
theorem gM (t:Int) {key:Bs} {lk:Nat} (hk:key.length=lk) (hlk:lk<=1000) (mode pad:Int) (back:Bool) {iv:Bs} {li:Nat} (hi:iv.length=li):
  b9 C 89 [R9 t mode pad back,.z lk (bv key),.z li (bv iv)] [] (.ret (i64 (C2 t mode pad (q9 t).toNat lk li))) []/\
  b9 C 99 [R9 t mode pad back,.z lk (bv key),.z li (bv iv)] [] (.ret (i64 (C2 t mode pad (q9 t).toNat lk li))) []:=by
 rcases EH t hk hlk mode pad back hi with ⟨e,s,k,xs,rs,h,ok⟩|⟨he,P,Q⟩
 ·obtain⟨o1,o2,o3,o4⟩:=ok;subst hk;subst hi;have P:=Mi h (back:=back) (vi:=bv iv) rfl o1 o2 o3 o4;have Q:=NX h (back:=back) (vi:=bv iv) rfl o1 o2 o3 o4;rw[e];refine⟨?_,Q⟩;refine BN.c ?_;refine⟨[i64 t,i64 mode,i64 pad,bool back],rfl,rfl,?_⟩;refine⟨[],_,_,_,_,P,rfl,rfl,?_⟩;exact⟨_,rfl,[],rfl,tq⟩
 ·refine⟨?_,Q⟩;generalize C2 t mode pad (q9 t).toNat lk li=e at*
  refine BN.c ?_;refine⟨[i64 t,i64 mode,i64 pad,bool back],rfl,rfl,?_⟩;refine⟨[],_,_,_,_,P,rfl,rfl,?_⟩;exact⟨_,rfl,[],rfl,tq⟩
theorem Pb (x y:Value) (w:World):
  CallsD PP 93 #[x,y] .returning w fun e u' w'=>e= .returned (.tuple #[])/\u'= .returning/\w'=w:=by
 refine callsD_of_wpS qH.f rfl fun c₀ cs hu=> ?_;apply wpS_seq;apply wpS_region;simp[wpOpsS,go_sem,recoverD,hu,Exit.thenS];refine wpS_of_wp ?_;refine wp_block ?_;refine wp_seq ?_;refine wp_region ?_;simp[wpOps,go_sem,Exit.then];refine .inl ?_;refine wp_cond (t:=true) ?_ ?_
 ·simp[go_sem]
 simp only[if_true];refine wp_region ?_;simp[wpOps,go_sem,Exit.then,bodyPostS,results];cases c₀
 simp_all
theorem Pc (p q:Addr) (n:Int) (w:World) (h1:(w.cell? p).isSome=true) (h2:w.frozen? p=false) (h3:((w.setCell p (.slice none 0 0)).cell? q).isSome=true) (h4:(w.setCell p (.slice none 0 0)).frozen? q=false):
  CallsD PP 93 #[.pointer (some p),.pointer (some q)] (.panicking [{v:= .iface Y8 (.int .i64 n),recovered:=false}]) w fun e u' w'=>
   e= .returned (.tuple #[])/\u'= .panicking [{v:= .iface Y8 (.int .i64 n),recovered:=true}]/\w'=(w.setCell p (.slice none 0 0)).setCell q (.int .i64 n):=by
 obtain⟨x1,hx1⟩:=Z9.1 h1;obtain⟨x2,hx2⟩:=Z9.1 h3;have hta:∀(v:Value) (w:World),(Instr.typeAssert (.iface Y8 v) a1P Y8 true).run PP w= .ok (.tuple #[v,.bool true]) w:=fun v w=>by kernel_rfl
 refine callsD_of_wpS qH.f rfl fun c₀ cs hu=> ?_;apply wpS_seq;apply wpS_region;simp[wpOpsS,go_sem,recoverD,hu,Exit.thenS];refine wpS_of_wp ?_;refine wp_block ?_;refine wp_seq ?_;refine wp_region ?_;simp[wpOps,go_sem,Exit.then];refine .inl ?_;refine wp_cond (t:=false) ?_ ?_
 ·simp[go_sem]
 simp only[if_false,Bool.false_eq_true];refine wp_seq ?_;refine wp_region ?_;simp[wpOps,go_sem,Exit.then,hta];refine .inl (.inl (.inl ?_));refine wp_cond (t:=true) ?_ ?_
 ·simp[go_sem]
 simp only[if_true];refine wp_seq ?_;refine wp_region ?_;simp[wpOps,go_sem,Exit.then];refine .inl ?_;refine wp_region ?_;simp[wpOps,go_sem,Exit.then,hx1,h2,hx2,h4,bodyPostS,results]
theorem af:tc PP 93 Y8:=⟨fun z w=>js qH.f qH.name rfl z w,Pb,Pc⟩
theorem fH:b9 C 159 [i64 0] [] (.ret (.t [])) []:=by
 refine Bq.c ?_;exact⟨_,rfl,[],rfl,tq⟩
theorem kQ {e:Int} (h:e≠0):b9 C 159 [i64 e] [] (.pan (.i Y8 (i64 e))) []:=by
 refine Bq.c ?_;refine p6 (fun _=> ?_) (fun hh=>absurd hh h);exact⟨_,rfl,[],rfl,tq⟩
abbrev p8 (bg op:Bool) (t mode pad:Int) (back:Bool) (cv iv by' held a9:V):B:= .mx [bool bg,bool op,i64 t,i64 mode,i64 pad,bool back,cv,iv,by',held,a9]
theorem Lf:b9 C 29 [] [] (.ret (.p (.k 0) 0)) [p8 false false 0 0 0 false j8 g9 j8 g9 g9]:=by
 refine Ri.c ?_;exact⟨_,rfl,[.d 2 0],rfl,⟨_,rfl,rfl⟩,tq⟩
inductive HK where
 |n
 |o (H:Bs)
 |f (H:Bs)
def HK.v:HK->V
 | .n=>g9
 | .o H=> .o 1 (.k 3) 0 H.length
 | .f H=> .z H.length (bv H)
def HK.b:HK->B
 | .o H=> .sc (bv H)
 |_=> .dead
def HK.l:HK->Bs
 | .n=>[]
 | .o H=>H
 | .f H=>H
abbrev m8 (op:Bool) (t mode pad:Int) (back:Bool) (k:Nat) (xs:List V) (iv:Bs) (x:HK) (a9:Bs):B:=p8 true op t mode pad back (f9 t k xs) (.z iv.length (bv iv)) (.p (.k 1) 0) x.v (.z a9.length (bv a9))
theorem KV {t mode pad md:Int} {op back:Bool} {k:Nat} {xs:List V} {iv a9:Bs} {st:MS} {x:HK}:b9 C 40 [.p (.k 0) 0] [m8 op t mode pad back k xs iv x a9,j7 (f9 t k xs) md back st 2,j5 st.row st.gone,x.b] (.ret (i64 x.l.length)) [m8 op t mode pad back k xs iv x a9,j7 (f9 t k xs) md back st 2,j5 st.row st.gone,x.b]:=by
 obtain⟨ch,row,g⟩:=st;rcases row with _|⟨a,r⟩<;>rcases x with _|H|H;all_goals
  refine vv.c ?_;refine⟨_,rfl,?_⟩;exact⟨_,rfl,[.k 0,.k 1,.k 2,.k 3],rfl,⟨_,rfl,rfl⟩,⟨_,rfl,rfl⟩,⟨_,rfl,rfl⟩,⟨_,rfl,rfl⟩,tq⟩
theorem kH {t mode pad md:Int} {back:Bool} {k:Nat} {xs:List V} {iv a9:Bs} {st:MS} {x:HK}:b9 C 94 [.p (.k 0) 0] [m8 true t mode pad back k xs iv x a9,j7 (f9 t k xs) md back st 2,j5 st.row st.gone,x.b] (.ret (.t [])) [m8 true t mode pad back k xs iv x a9,j7 (f9 t k xs) md back st 2,j5 st.row st.gone,x.b]:=by
 obtain⟨ch,row,g⟩:=st;rcases row with _|⟨a,r⟩<;>rcases x with _|H|H;all_goals
  refine vy.c ?_;refine⟨_,rfl,?_⟩;exact⟨_,rfl,[.k 0,.k 1,.k 2,.k 3],rfl,⟨_,rfl,rfl⟩,⟨_,rfl,rfl⟩,⟨_,rfl,rfl⟩,⟨_,rfl,rfl⟩,tq⟩
theorem uo {t mode pad md:Int} {op back:Bool} {k:Nat} {xs:List V} {iv a9:Bs} {st:MS} {x:HK} (hm:mode<=9):b9 C 158 [.p (.k 0) 0] [m8 op t mode pad back k xs iv x a9,j7 (f9 t k xs) md back st 2,j5 st.row st.gone,x.b] (.ret (bool (decide (7<=mode)))) [m8 op t mode pad back k xs iv x a9,j7 (f9 t k xs) md back st 2,j5 st.row st.gone,x.b]:=by
 obtain⟨ch,row,g⟩:=st;rcases row with _|⟨a,r⟩<;>rcases x with _|H|H;all_goals
  refine nY.c ?_;refine⟨_,rfl,?_⟩;refine d9 (fun h7=> ?_) (fun h7=> ?_)
  ·refine⟨_,rfl,?_⟩;refine⟨_,rfl,[.k 0,.k 1,.k 2,.k 3],?_,⟨_,rfl,rfl⟩,⟨_,rfl,rfl⟩,⟨_,rfl,rfl⟩,⟨_,rfl,rfl⟩,tq⟩;exact congrArg bool (by rw[decide_eq_true hm,decide_eq_true h7])
  ·refine⟨_,rfl,[.k 0,.k 1,.k 2,.k 3],?_,⟨_,rfl,rfl⟩,⟨_,rfl,rfl⟩,⟨_,rfl,rfl⟩,⟨_,rfl,rfl⟩,tq⟩;exact congrArg bool (by rw[decide_eq_false h7])
def B8 (s:Nat) (md mode pad:Int) (back:Bool):Nat:=if 3<=md then 0 else if 7<=mode then 2*s else if pad≠4/\back=true then s else s-1
theorem zy {t key s k xs rs} (h:k5 t key s k xs rs) {mode pad md:Int} {op back:Bool} {iv a9:Bs} {st:MS} {x:HK} (K:MK s md st) (hm:mode<=9):
  b9 C 95 [.p (.k 0) 0] [m8 op t mode pad back k xs iv x a9,j7 (f9 t k xs) md back st 2,j5 st.row st.gone,x.b] (.ret (i64 (B8 s md mode pad back))) [m8 op t mode pad back k xs iv x a9,j7 (f9 t k xs) md back st 2,j5 st.row st.gone,x.b]:=by
 have hs:=h.s_le;have G:=ut h (back:=back) K;have S:=uo (t:=t) (mode:=mode) (pad:=pad) (md:=md) (op:=op) (back:=back) (k:=k) (xs:=xs) (iv:=iv) (a9:=a9) (st:=st) (x:=x) hm;have hg:r8 s md=if 3<=md then 1 else s:=by
  have:=K.ok.m;unfold r8;by_cases h3:3<=md
  ·rw[if_pos h3,if_neg (by omega)]
  ·rw[if_neg h3,if_pos (by omega)]
 generalize r8 s md=gr at*
 have e2:I6.wrap (2*(s:Int))=((2*s:Nat):Int):=by rw[Zd _ (by omega)];omega
 have e3:I6.wrap ((s:Int)-1)=((s-1:Nat):Int):=by rw[Zd _ (by omega)];omega
 obtain⟨ch,row,g⟩:=st;rcases row with _|⟨a,r⟩<;>rcases x with _|H|H;all_goals
  refine Rh.c ?_;refine⟨_,rfl,?_⟩;refine⟨[],_,_,_,_,h.size,rfl,rfl,?_⟩;refine⟨_,rfl,?_⟩;refine⟨[.k 1,.k 2],_,_,_,_,G,rfl,rfl,?_⟩;by_cases h3:3<=md
  ·rw[if_pos h3]at hg;refine i7 (fun _=> ?_) (fun hh=>absurd (by omega) hh);refine⟨_,rfl,[.k 0,.k 1,.k 2,.k 3],?_,⟨_,rfl,rfl⟩,⟨_,rfl,rfl⟩,⟨_,rfl,rfl⟩,⟨_,rfl,rfl⟩,tq⟩;exact f8 (by unfold B8;rw[if_pos h3];rfl)
  ·rw[if_neg h3]at hg;refine i7 (fun hh=>absurd hh (by omega)) (fun _=> ?_);refine⟨[.k 0,.k 1,.k 2,.k 3],_,_,_,_,S,rfl,rfl,?_⟩;refine d9 (fun h7=> ?_) (fun h7=> ?_)
   ·refine⟨_,rfl,[.k 0,.k 1,.k 2,.k 3],?_,⟨_,rfl,rfl⟩,⟨_,rfl,rfl⟩,⟨_,rfl,rfl⟩,⟨_,rfl,rfl⟩,tq⟩;exact f8 (by unfold B8;rw[if_neg h3,if_pos h7];exact e2)
   ·refine⟨_,rfl,?_⟩;refine p6 (fun h4=> ?_) (fun h4=> ?_)
    ·refine⟨_,rfl,?_⟩;cases back
     ·refine⟨_,rfl,[.k 0,.k 1,.k 2,.k 3],?_,⟨_,rfl,rfl⟩,⟨_,rfl,rfl⟩,⟨_,rfl,rfl⟩,⟨_,rfl,rfl⟩,tq⟩;exact f8 (by unfold B8;rw[if_neg h3,if_neg h7,if_neg (by simp)];exact e3)
     ·refine⟨_,rfl,[.k 0,.k 1,.k 2,.k 3],?_,⟨_,rfl,rfl⟩,⟨_,rfl,rfl⟩,⟨_,rfl,rfl⟩,⟨_,rfl,rfl⟩,tq⟩;exact f8 (by unfold B8;rw[if_neg h3,if_neg h7,if_pos ⟨h4,rfl⟩])
    ·refine⟨_,rfl,[.k 0,.k 1,.k 2,.k 3],?_,⟨_,rfl,rfl⟩,⟨_,rfl,rfl⟩,⟨_,rfl,rfl⟩,⟨_,rfl,rfl⟩,tq⟩;exact f8 (by unfold B8;rw[if_neg h3,if_neg h7,if_neg (by simp[h4])];exact e3)
def E3 (s:Nat) (mode:Int) (back:Bool) (b o a9:Bs):Bs:=if 7<=mode/\s<=b.length then (if back then b else o).drop (b.length-s)else a9
theorem Lm {t key s k xs rs} (h:k5 t key s k xs rs) {mode pad md:Int} {op back:Bool} {iv a9 H b:Bs} {st:MS} {m:Nat} (hb:b.length=m) (hmb:m<=100000) (K:MK s md st) (hm:mode<=9) (hg:m%r8 s md=0) (hne:0<m\/st.row=[]):
  b9 C 97 [.p (.k 0) 0,.z m (bv b)] [m8 op t mode pad back k xs iv (.f H) a9,j7 (f9 t k xs) md back st 2,j5 st.row st.gone,.dead]
   (.ret (.z m (bv (k9 (cF t key false) (cF t key true) s md back st b).1)))
   [m8 op t mode pad back k xs iv (.f H) (E3 s mode back b (k9 (cF t key false) (cF t key true) s md back st b).1 a9),j7 (f9 t k xs) md back (k9 (cF t key false) (cF t key true) s md back st b).2 4,.dead,.dead,j5 (k9 (cF t key false) (cF t key true) s md back st b).2.row (k9 (cF t key false) (cF t key true) s md back st b).2.gone]:=by
 have hs:=h.s_le;have lo:(k9 (cF t key false) (cF t key true) s md back st b).1.length=m:=by rw[bU h.ci K.ok (by rw[hb];exact hg),hb]
 have T0:=Aq h (back:=back) (st:=st) (b:=b) rfl hb (by omega) K hg hne;have S:=fun(st':MS)=>uo (t:=t) (mode:=mode) (pad:=pad) (md:=md) (op:=op) (back:=back) (k:=k) (xs:=xs) (iv:=iv) (a9:=a9) (st:=st') (x:= .f H) hm;generalize k9 (cF t key false) (cF t key true) s md back st b=S0 at*
 obtain⟨o,st1⟩:=S0;have S1:=S st1;obtain⟨c1,row1,g1⟩:=st1;dsimp only at T0 lo ⊢;have eS:I6.wrap ((m:Int)-(s:Int))=(m:Int)-s:=Zd _ (by omega);by_cases hL:7<=mode/\s<=m
 ·have eL:E3 s mode back b o a9=(if back then b else o).drop (m-s):=by unfold E3;rw[hb,if_pos hL]
  rw[eL];cases back;all_goals
   obtain⟨ch,row,g⟩:=st;rcases row with _|⟨a,r⟩<;>rcases row1 with _|⟨a1,r1⟩
  all_goals
   refine jA.c ?_;refine⟨_,rfl,?_⟩;refine⟨[.k 1,.k 2],_,_,_,_,T0,rfl,rfl,?_⟩;refine⟨[],_,_,_,_,fH,rfl,rfl,?_⟩;refine⟨_,rfl,?_⟩;refine⟨[],_,_,_,_,h.size,rfl,rfl,?_⟩;refine⟨[.k 0,.k 1,.d 15 2,.k 3],_,_,_,_,S1,rfl,rfl,?_⟩;refine d9 (fun h7=> ?_) (fun h7=>absurd hL.1 h7);refine d9 (fun h7=> ?_) (fun h7=>absurd hL.2 (by omega));refine⟨_,rfl,?_⟩;refine⟨by rw[eS];omega,by rw[eS];omega,by omega,by omega,?_⟩;first
    |refine⟨[],_,_,_,_,X7 (n:=s) (l:=o.drop (m-s)) (va:=bv (o.drop (m-s))) rfl (by rw[Zf,lo];omega) (by omega),?_,rfl,?_⟩
     ·show[V.z (m-(I6.wrap ((m:Int)-(s:Int))).toNat) (sub (bv o) (I6.wrap ((m:Int)-(s:Int))).toNat (m-(I6.wrap ((m:Int)-(s:Int))).toNat))]=_;rw[eS,show((m:Int)-s).toNat=m-s by omega,A3 lo (by omega),show m-(m-s)=s by omega]
     refine⟨Za rfl,?_⟩;refine⟨_,rfl,[.k 0,.k 1,.k 2,.k 3,.d 15 2],rfl,⟨_,rfl,?_⟩,⟨_,rfl,rfl⟩,⟨_,rfl,rfl⟩,⟨_,rfl,rfl⟩,⟨_,rfl,rfl⟩,tq⟩;have ll:(o.drop (m-s)).length=s:=by rw[Zf,lo];omega
     show _=m8 op t mode pad false k xs iv (.f H) (o.drop (m-s));unfold m8;rw[ll];rfl
    |refine⟨[],_,_,_,_,X7 (n:=s) (l:=b.drop (m-s)) (va:=bv (b.drop (m-s))) rfl (by rw[Zf,hb];omega) (by omega),?_,rfl,?_⟩
     ·show[V.z (m-(I6.wrap ((m:Int)-(s:Int))).toNat) (sub (bv b) (I6.wrap ((m:Int)-(s:Int))).toNat (m-(I6.wrap ((m:Int)-(s:Int))).toNat))]=_;rw[eS,show((m:Int)-s).toNat=m-s by omega,A3 hb (by omega),show m-(m-s)=s by omega]
     refine⟨Za rfl,?_⟩;refine⟨_,rfl,[.k 0,.k 1,.k 2,.k 3,.d 15 2],rfl,⟨_,rfl,?_⟩,⟨_,rfl,rfl⟩,⟨_,rfl,rfl⟩,⟨_,rfl,rfl⟩,⟨_,rfl,rfl⟩,tq⟩;have ll:(b.drop (m-s)).length=s:=by rw[Zf,hb];omega
     show _=m8 op t mode pad true k xs iv (.f H) (b.drop (m-s));unfold m8;rw[ll];rfl
 ·have eL:E3 s mode back b o a9=a9:=by unfold E3;rw[hb,if_neg hL]
  rw[eL];obtain⟨ch,row,g⟩:=st;rcases row with _|⟨a,r⟩<;>rcases row1 with _|⟨a1,r1⟩;all_goals
   refine jA.c ?_;refine⟨_,rfl,?_⟩;refine⟨[.k 1,.k 2],_,_,_,_,T0,rfl,rfl,?_⟩;refine⟨[],_,_,_,_,fH,rfl,rfl,?_⟩;refine⟨_,rfl,?_⟩;refine⟨[],_,_,_,_,h.size,rfl,rfl,?_⟩;refine⟨[.k 0,.k 1,.d 15 2,.k 3],_,_,_,_,S1,rfl,rfl,?_⟩;refine d9 (fun h7=> ?_) (fun h7=> ?_)
   ·refine d9 (fun h8=>absurd ⟨h7,by omega⟩ hL) (fun h8=> ?_);exact⟨_,rfl,[.k 0,.k 1,.k 2,.k 3,.d 15 2],rfl,⟨_,rfl,rfl⟩,⟨_,rfl,rfl⟩,⟨_,rfl,rfl⟩,⟨_,rfl,rfl⟩,⟨_,rfl,rfl⟩,tq⟩
   ·exact⟨_,rfl,[.k 0,.k 1,.k 2,.k 3,.d 15 2],rfl,⟨_,rfl,rfl⟩,⟨_,rfl,rfl⟩,⟨_,rfl,rfl⟩,⟨_,rfl,rfl⟩,⟨_,rfl,rfl⟩,tq⟩
theorem Ln {t key s k xs rs} (h:k5 t key s k xs rs) {mode pad md:Int} {op back:Bool} {iv a9 H:Bs} {st:MS} {vb:List Value} (h3:3<=md) (hm:mode<=9):
  b9 C 97 [.p (.k 0) 0,.z 0 vb] [m8 op t mode pad back k xs iv (.f H) a9,j7 (f9 t k xs) md back st 2,j5 st.row st.gone,.dead]
   (.ret (.z 0 [])) [m8 op t mode pad back k xs iv (.f H) a9,j7 (f9 t k xs) md back st 2,j5 st.row st.gone,.dead]:=by
 have hs:=h.s_le;have T0:=Ar h (back:=back) (st:=st) (vb:=vb) h3;have S:=uo (t:=t) (mode:=mode) (pad:=pad) (md:=md) (op:=op) (back:=back) (k:=k) (xs:=xs) (iv:=iv) (a9:=a9) (st:=st) (x:= .f H) hm;obtain⟨ch,row,g⟩:=st;rcases row with _|⟨a,r⟩;all_goals
  refine jA.c ?_;refine⟨_,rfl,?_⟩;refine⟨[.k 1,.k 2],_,_,_,_,T0,rfl,rfl,?_⟩;refine⟨[],_,_,_,_,fH,rfl,rfl,?_⟩;refine⟨_,rfl,?_⟩;refine⟨[],_,_,_,_,h.size,rfl,rfl,?_⟩;refine⟨[.k 0,.k 1,.k 2,.k 3],_,_,_,_,S,rfl,rfl,?_⟩;refine d9 (fun h7=> ?_) (fun h7=> ?_)
  ·refine d9 (fun h8=>absurd h8 (by omega)) (fun h8=> ?_);exact⟨_,rfl,[.k 0,.k 1,.k 2,.k 3],rfl,⟨_,rfl,rfl⟩,⟨_,rfl,rfl⟩,⟨_,rfl,rfl⟩,⟨_,rfl,rfl⟩,tq⟩
  ·exact⟨_,rfl,[.k 0,.k 1,.k 2,.k 3],rfl,⟨_,rfl,rfl⟩,⟨_,rfl,rfl⟩,⟨_,rfl,rfl⟩,⟨_,rfl,rfl⟩,tq⟩
def j4 (mode:Int):Int:=if 7<=mode then 2 else mode
theorem Lk {t t0 mode pad md:Int} {op back K6:Bool} {k k0:Nat} {xs xs0:List V} {iv a9:Bs} {st:MS} {x:HK} (hm:mode<=9):b9 C 158 [.p (.k 0) 0] [m8 op t mode pad back k xs iv x a9,j7 (f9 t0 k0 xs0) md K6 st 2,j5 st.row st.gone,x.b] (.ret (bool (decide (7<=mode)))) [m8 op t mode pad back k xs iv x a9,j7 (f9 t0 k0 xs0) md K6 st 2,j5 st.row st.gone,x.b]:=by
 obtain⟨ch,row,g⟩:=st;rcases row with _|⟨a,r⟩<;>rcases x with _|H|H;all_goals
  refine nY.c ?_;refine⟨_,rfl,?_⟩;refine d9 (fun h7=> ?_) (fun h7=> ?_)
  ·refine⟨_,rfl,?_⟩;refine⟨_,rfl,[.k 0,.k 1,.k 2,.k 3],?_,⟨_,rfl,rfl⟩,⟨_,rfl,rfl⟩,⟨_,rfl,rfl⟩,⟨_,rfl,rfl⟩,tq⟩;exact congrArg bool (by rw[decide_eq_true hm,decide_eq_true h7])
  ·refine⟨_,rfl,[.k 0,.k 1,.k 2,.k 3],?_,⟨_,rfl,rfl⟩,⟨_,rfl,rfl⟩,⟨_,rfl,rfl⟩,⟨_,rfl,rfl⟩,tq⟩;exact congrArg bool (by rw[decide_eq_false h7])
theorem Lj {t mode pad:Int} {op bg back:Bool} {k:Nat} {xs:List V} {iv:Bs} (hm:mode<=9):b9 C 158 [.p (.k 0) 0] [p8 bg op t mode pad back (f9 t k xs) (.z iv.length (bv iv)) j8 g9 g9] (.ret (bool (decide (7<=mode)))) [p8 bg op t mode pad back (f9 t k xs) (.z iv.length (bv iv)) j8 g9 g9]:=by
 refine nY.c ?_;refine⟨_,rfl,?_⟩;refine d9 (fun h7=> ?_) (fun h7=> ?_)
 ·refine⟨_,rfl,?_⟩;exact⟨_,rfl,[.k 0],congrArg bool (by rw[decide_eq_true hm,decide_eq_true h7]),⟨_,rfl,rfl⟩,tq⟩
 ·exact⟨_,rfl,[.k 0],congrArg bool (by rw[decide_eq_false h7]),⟨_,rfl,rfl⟩,tq⟩
theorem ag {s:Nat} {mode pad:Int} {iv:Bs} (ok:D5 s mode pad iv):(1<=j4 mode/\j4 mode<=6)/\iv.length=if j4 mode=1 then 0 else s:=by
 obtain⟨o1,o2,o3,o4⟩:=ok;unfold j4;by_cases h7:7<=mode
 ·rw[if_pos h7];exact⟨by decide,by rw[o4,if_neg (by omega),if_neg (by decide)]⟩
 ·rw[if_neg h7];exact⟨by omega,o4⟩
theorem JN {t key s k xs rs} (h:k5 t key s k xs rs) {mode pad:Int} {op back:Bool} {iv:Bs} (ok:D5 s mode pad iv):
  b9 C 91 [.p (.k 0) 0] [p8 true op t mode pad back (f9 t k xs) (.z iv.length (bv iv)) j8 g9 g9] (.ret (.t []))
   [m8 true t mode pad back k xs iv .n iv,j7 (f9 t k xs) (j4 mode) back ⟨iv,[],[]⟩ 2,.dead,.dead]:=by
 have hs:=h.s_le;obtain⟨m1,hiv⟩:=ag ok;have T0:=ux h (mode:=j4 mode) (back:=back) (i:=1) (vi:=bv iv) (iv:=iv) rfl rfl m1 hiv;have hl16:iv.length<=16:=by rw[hiv];split<;>omega
 have S:=Lj (t:=t) (mode:=mode) (pad:=pad) (op:=op) (bg:=true) (back:=back) (k:=k) (xs:=xs) (iv:=iv) ok.1.2;refine vx.c ?_;refine⟨_,rfl,?_⟩;refine⟨[.k 0],_,_,_,_,S,rfl,rfl,?_⟩;refine d9 (fun h7=> ?_) (fun h7=> ?_);all_goals
  first
   |rw[show j4 mode=2 from if_pos h7]at T0 ⊢
   |rw[show j4 mode=mode from if_neg h7]at T0 ⊢
  refine⟨_,rfl,?_⟩;refine⟨_,rfl,?_⟩;refine⟨_,rfl,?_⟩;refine⟨[],_,_,_,_,T0,rfl,rfl,?_⟩;refine⟨Za rfl,?_⟩;refine⟨_,rfl,?_⟩;refine⟨[],_,_,_,_,X7 (l:=iv) rfl rfl (by omega),rfl,rfl,?_⟩;refine⟨Za rfl,?_⟩;refine⟨Za rfl,?_⟩;refine⟨Za rfl,?_⟩;exact⟨_,rfl,[.k 0,.d 26 0,.d 26 1,.d 26 2],rfl,⟨_,rfl,rfl⟩,⟨_,rfl,rfl⟩,⟨_,rfl,rfl⟩,⟨_,rfl,rfl⟩,tq⟩
theorem zw {t key s k xs rs} (h:k5 t key s k xs rs) {mode pad md0 t0:Int} {k0:Nat} {xs0:List V} {op back K6:Bool} {iv H6:Bs} {st0:MS} {x0:HK} (ok:D5 s mode pad iv):
  b9 C 91 [.p (.k 0) 0] [m8 op t mode pad back k xs iv x0 H6,j7 (f9 t0 k0 xs0) md0 K6 st0 2,j5 st0.row st0.gone,x0.b] (.ret (.t []))
   [p8 true true t mode pad back (f9 t k xs) (.z iv.length (bv iv)) (.p (.k 4) 0) g9 (.z iv.length (bv iv)),j7 (f9 t0 k0 xs0) md0 K6 st0 2,j5 st0.row st0.gone,x0.b,j7 (f9 t k xs) (j4 mode) back ⟨iv,[],[]⟩ 5,.dead,.dead]:=by
 have hs:=h.s_le;obtain⟨m1,hiv⟩:=ag ok;have T0:=ux h (mode:=j4 mode) (back:=back) (i:=1) (vi:=bv iv) (iv:=iv) rfl rfl m1 hiv;have hl16:iv.length<=16:=by rw[hiv];split<;>omega
 have S:=Lk (t:=t) (mode:=mode) (pad:=pad) (md:=md0) (op:=op) (back:=back) (K6:=K6) (t0:=t0) (k:=k) (k0:=k0) (xs:=xs) (xs0:=xs0) (iv:=iv) (a9:=H6) (st:=st0) (x:=x0) ok.1.2;obtain⟨ch,row,g⟩:=st0;rcases row with _|⟨a,r⟩<;>rcases x0 with _|H|H;all_goals
  refine vx.c ?_;refine⟨_,rfl,?_⟩;refine⟨[.k 0,.k 1,.k 2,.k 3],_,_,_,_,S,rfl,rfl,?_⟩;refine d9 (fun h7=> ?_) (fun h7=> ?_);all_goals
   first
    |rw[show j4 mode=2 from if_pos h7]at T0 ⊢
    |rw[show j4 mode=mode from if_neg h7]at T0 ⊢
   refine⟨_,rfl,?_⟩;refine⟨_,rfl,?_⟩;refine⟨_,rfl,?_⟩;refine⟨[],_,_,_,_,T0,rfl,rfl,?_⟩;refine⟨Za rfl,?_⟩;refine⟨_,rfl,?_⟩;refine⟨[],_,_,_,_,X7 (l:=iv) rfl rfl (by omega),rfl,rfl,?_⟩;refine⟨Za rfl,?_⟩;refine⟨Za rfl,?_⟩;refine⟨Za rfl,?_⟩;exact⟨_,rfl,[.k 0,.k 1,.k 2,.k 3,.d 26 0,.d 26 1,.d 26 2],rfl,⟨_,rfl,rfl⟩,⟨_,rfl,rfl⟩,⟨_,rfl,rfl⟩,⟨_,rfl,rfl⟩,⟨_,rfl,rfl⟩,⟨_,rfl,rfl⟩,⟨_,rfl,rfl⟩,tq⟩
theorem su {t key s k xs rs} (h:k5 t key s k xs rs) {mode pad:Int} {lk li:Nat} {iv:Bs} (hk:key.length=lk) (hi:iv.length=li) (ok:D5 s mode pad iv):C2 t mode pad (q9 t).toNat lk li=0:=by
 obtain⟨o1,o2,o3,o4⟩:=ok;unfold C2;rw[if_neg (by exact fun x=>x h.ht),if_neg (by rw[<-hk];exact fun x=>x h.kl),if_neg (by exact fun x=>x ⟨o1,o2,o3⟩),if_neg (by rw[h.hs,Zb,<-hi];exact fun x=>x o4)]
theorem KY {t key s k xs rs} (h:k5 t key s k xs rs) {mode pad:Int} {back:Bool} {lk li:Nat} {iv:Bs} (hk:key.length=lk) (hlk:lk<=1000) (hi:iv.length=li) (ok:D5 s mode pad iv):
  b9 C 30 [.p (.k 0) 0,R9 t mode pad back,.z lk (bv key),.z li (bv iv)] [p8 false false 0 0 0 false j8 g9 j8 g9 g9] (.ret (i64 0))
   [m8 true t mode pad back k xs iv .n iv,j7 (f9 t k xs) (j4 mode) back ⟨iv,[],[]⟩ 2,.dead,.dead]:=by
 have hs:=h.s_le;obtain⟨m1,hiv⟩:=ag ok;have hl16:iv.length<=16:=by rw[hiv];split<;>omega
 have CK:=(gM t hk hlk mode pad back hi).1;rw[su h hk hi ok]at CK;subst hi;refine lg.c ?_;refine⟨[i64 t,i64 mode,i64 pad,bool back],rfl,rfl,?_⟩;refine⟨[],_,_,_,_,CK,rfl,rfl,?_⟩;refine⟨_,rfl,?_⟩;refine⟨[],_,_,_,_,h.new' (n:=lk) hk rfl,rfl,rfl,?_⟩;refine⟨Za rfl,?_⟩;refine⟨[i64 t,i64 mode,i64 pad,bool back],rfl,rfl,?_⟩;refine⟨[],_,_,_,_,X7 (l:=iv) rfl rfl (by omega),rfl,rfl,?_⟩;refine⟨Za rfl,?_⟩;refine⟨Za rfl,?_⟩;refine⟨Za rfl,?_⟩;refine⟨[.k 0],_,_,_,_,JN h (op:=false) ok,rfl,rfl,?_⟩;exact⟨_,rfl,[.k 0,.d 40 1,.d 40 2,.d 40 3],rfl,⟨_,rfl,rfl⟩,⟨_,rfl,rfl⟩,⟨_,rfl,rfl⟩,⟨_,rfl,rfl⟩,tq⟩
theorem KZ {t key s k xs rs} (h:k5 t key s k xs rs) {mode pad:Int} {back:Bool} {lk li:Nat} {iv:Bs} {t0 mode0 pad0 md0:Int} {op K6:Bool} {k0:Nat} {xs0:List V} {iv0 H6:Bs} {st0:MS} {x0:HK} (hk:key.length=lk) (hlk:lk<=1000) (hi:iv.length=li) (ok:D5 s mode pad iv):
  b9 C 30 [.p (.k 0) 0,R9 t mode pad back,.z lk (bv key),.z li (bv iv)] [m8 op t0 mode0 pad0 K6 k0 xs0 iv0 x0 H6,j7 (f9 t0 k0 xs0) md0 K6 st0 2,j5 st0.row st0.gone,x0.b] (.ret (i64 0))
   [p8 true true t mode pad back (f9 t k xs) (.z iv.length (bv iv)) (.p (.k 4) 0) g9 (.z iv.length (bv iv)),j7 (f9 t0 k0 xs0) md0 K6 st0 2,j5 st0.row st0.gone,x0.b,j7 (f9 t k xs) (j4 mode) back ⟨iv,[],[]⟩ 5,.dead,.dead]:=by
 have hs:=h.s_le;obtain⟨m1,hiv⟩:=ag ok;have hl16:iv.length<=16:=by rw[hiv];split<;>omega
 have CK:=(gM t hk hlk mode pad back hi).1;rw[su h hk hi ok]at CK;subst hi;have BG:=zw h (back:=back) (md0:=md0) (t0:=t0) (k0:=k0) (xs0:=xs0) (op:=op) (K6:=K6) (H6:=H6) (st0:=st0) (x0:=x0) ok;obtain⟨ch,row,g⟩:=st0;rcases row with _|⟨a,r⟩<;>rcases x0 with _|H|H;all_goals
  refine lg.c ?_;refine⟨[i64 t,i64 mode,i64 pad,bool back],rfl,rfl,?_⟩;refine⟨[],_,_,_,_,CK,rfl,rfl,?_⟩;refine⟨_,rfl,?_⟩;refine⟨[],_,_,_,_,h.new' (n:=lk) hk rfl,rfl,rfl,?_⟩;refine⟨Za rfl,?_⟩;refine⟨[i64 t,i64 mode,i64 pad,bool back],rfl,rfl,?_⟩;refine⟨[],_,_,_,_,X7 (l:=iv) rfl rfl (by omega),rfl,rfl,?_⟩;refine⟨Za rfl,?_⟩;refine⟨Za rfl,?_⟩;refine⟨Za rfl,?_⟩;refine⟨[.k 0,.k 1,.k 2,.k 3],_,_,_,_,BG,rfl,rfl,?_⟩;exact⟨_,rfl,[.k 0,.k 1,.k 2,.k 3,.d 40 4,.d 40 5,.d 40 6],rfl,⟨_,rfl,rfl⟩,⟨_,rfl,rfl⟩,⟨_,rfl,rfl⟩,⟨_,rfl,rfl⟩,⟨_,rfl,rfl⟩,⟨_,rfl,rfl⟩,⟨_,rfl,rfl⟩,tq⟩
theorem Lc {t mode pad:Int} {back:Bool} {lk li:Nat} {key iv:Bs} (hk:key.length=lk) (hlk:lk<=1000) (hi:iv.length=li) (he:C2 t mode pad (q9 t).toNat lk li≠0):
  b9 C 30 [.p (.k 0) 0,R9 t mode pad back,.z lk (bv key),.z li (bv iv)] [p8 false false 0 0 0 false j8 g9 j8 g9 g9] (.ret (i64 (C2 t mode pad (q9 t).toNat lk li))) [p8 false false 0 0 0 false j8 g9 j8 g9 g9]:=by
 have CK:=(gM t hk hlk mode pad back hi).1;generalize C2 t mode pad (q9 t).toNat lk li=e at*
 refine lg.c ?_;refine⟨[i64 t,i64 mode,i64 pad,bool back],rfl,rfl,?_⟩;refine⟨[],_,_,_,_,CK,rfl,rfl,?_⟩;refine p6 (fun _=> ?_) (fun hh=>absurd hh he);exact⟨_,rfl,[.k 0],rfl,⟨_,rfl,rfl⟩,tq⟩
theorem Ld {t mode pad:Int} {back:Bool} {lk li:Nat} {key iv:Bs} {t0 mode0 pad0 md0:Int} {op K6:Bool} {k0:Nat} {xs0:List V} {iv0 H6:Bs} {st0:MS} {x0:HK} (hk:key.length=lk) (hlk:lk<=1000) (hi:iv.length=li) (he:C2 t mode pad (q9 t).toNat lk li≠0):
  b9 C 30 [.p (.k 0) 0,R9 t mode pad back,.z lk (bv key),.z li (bv iv)] [m8 op t0 mode0 pad0 K6 k0 xs0 iv0 x0 H6,j7 (f9 t0 k0 xs0) md0 K6 st0 2,j5 st0.row st0.gone,x0.b] (.ret (i64 (C2 t mode pad (q9 t).toNat lk li))) [m8 op t0 mode0 pad0 K6 k0 xs0 iv0 x0 H6,j7 (f9 t0 k0 xs0) md0 K6 st0 2,j5 st0.row st0.gone,x0.b]:=by
 have CK:=(gM t hk hlk mode pad back hi).1;generalize C2 t mode pad (q9 t).toNat lk li=e at*
 obtain⟨ch,row,g⟩:=st0;rcases row with _|⟨a,r⟩<;>rcases x0 with _|H|H;all_goals
  refine lg.c ?_;refine⟨[i64 t,i64 mode,i64 pad,bool back],rfl,rfl,?_⟩;refine⟨[],_,_,_,_,CK,rfl,rfl,?_⟩;refine p6 (fun _=> ?_) (fun hh=>absurd hh he);exact⟨_,rfl,[.k 0,.k 1,.k 2,.k 3],rfl,⟨_,rfl,rfl⟩,⟨_,rfl,rfl⟩,⟨_,rfl,rfl⟩,⟨_,rfl,rfl⟩,tq⟩
theorem Lg:b9 C 35 [.p (.k 0) 0] [p8 false false 0 0 0 false j8 g9 j8 g9 g9] (.ret (i64 6)) [p8 false false 0 0 0 false j8 g9 j8 g9 g9]:=by
 refine vw.c ?_;refine⟨_,rfl,?_⟩;exact⟨_,rfl,[.k 0],rfl,⟨_,rfl,rfl⟩,tq⟩
theorem KW:b9 C 40 [.p (.k 0) 0] [p8 false false 0 0 0 false j8 g9 j8 g9 g9] (.ret (i64 0)) [p8 false false 0 0 0 false j8 g9 j8 g9 g9]:=by
 refine vv.c ?_;refine⟨_,rfl,?_⟩;exact⟨_,rfl,[.k 0],rfl,⟨_,rfl,rfl⟩,tq⟩
theorem zB:b9 C 94 [.p (.k 0) 0] [p8 false false 0 0 0 false j8 g9 j8 g9 g9] (.pan (.i Y8 (i64 6))) [p8 false false 0 0 0 false j8 g9 j8 g9 g9]:=by
 refine vy.c ?_;refine⟨_,rfl,?_⟩;refine⟨[],_,_,_,_,kQ (e:=6) (by decide),rfl,rfl,?_⟩;exact⟨_,rfl,[.k 0],rfl,⟨_,rfl,rfl⟩,tq⟩
theorem Lh {t key s k xs rs} (h:k5 t key s k xs rs) {mode pad md0:Int} {op back:Bool} {iv H6:Bs} {st0:MS} {x0:HK} (ok:D5 s mode pad iv):
  b9 C 35 [.p (.k 0) 0] [m8 op t mode pad back k xs iv x0 H6,j7 (f9 t k xs) md0 back st0 2,j5 st0.row st0.gone,x0.b] (.ret (i64 0))
   [p8 true true t mode pad back (f9 t k xs) (.z iv.length (bv iv)) (.p (.k 4) 0) g9 (.z iv.length (bv iv)),j7 (f9 t k xs) md0 back st0 2,j5 st0.row st0.gone,x0.b,j7 (f9 t k xs) (j4 mode) back ⟨iv,[],[]⟩ 5,.dead,.dead]:=by
 have BG:=zw h (back:=back) (md0:=md0) (t0:=t) (k0:=k) (xs0:=xs) (op:=op) (K6:=back) (H6:=H6) (st0:=st0) (x0:=x0) ok;obtain⟨ch,row,g⟩:=st0;rcases row with _|⟨a,r⟩<;>rcases x0 with _|H|H;all_goals
  refine vw.c ?_;refine⟨_,rfl,?_⟩;refine⟨[.k 0,.k 1,.k 2,.k 3],_,_,_,_,BG,rfl,rfl,?_⟩;exact⟨_,rfl,[.k 0,.k 1,.k 2,.k 3,.d 9 4,.d 9 5,.d 9 6],rfl,⟨_,rfl,rfl⟩,⟨_,rfl,rfl⟩,⟨_,rfl,rfl⟩,⟨_,rfl,rfl⟩,⟨_,rfl,rfl⟩,⟨_,rfl,rfl⟩,⟨_,rfl,rfl⟩,tq⟩
def F9 (g most L:Nat):Nat:=(L-most+(g-1))/g
theorem bL {g most L i:Nat} (hg:0<g):i<F9 g most L↔most+g*i<L:=by
 unfold F9;rw[Nat.lt_iff_add_one_le,Nat.le_div_iff_mul_le hg,Nat.add_mul,Nat.one_mul,Nat.mul_comm i g];omega
theorem nM {g most L:Nat} (hg:0<g) (hm:g-1<=most):g*F9 g most L<=L:=by
 by_cases h:F9 g most L=0
 ·rw[h];omega
 ·have:=(bL (most:=most) (L:=L) (i:=F9 g most L-1) hg).1 (by omega);have e:g*F9 g most L=g*(F9 g most L-1)+g:=by
   obtain⟨k,hk⟩:∃k,F9 g most L=k+1:=⟨F9 g most L-1,by omega⟩;rw[hk,Z7,Z6]
  omega
theorem PL {g most L m:Nat} (hg:0<g) (hm:g-1<=most):F9 g most (L+m)=F9 g most L+F9 g most (L-g*F9 g most L+m):=by
 have hle:=nM (L:=L) hg hm;refine Nat.le_antisymm ?_ ?_
 ·refine Nat.le_of_not_lt fun h=> ?_;have h1:=(bL hg).1 h;rw[Nat.mul_add]at h1;have h2:=(bL (most:=most) (L:=L-g*F9 g most L+m) (i:=F9 g most (L-g*F9 g most L+m)) hg).2 (by omega);exact absurd h2 (Nat.lt_irrefl _)
 ·by_cases h0:F9 g most (L-g*F9 g most L+m)=0
  ·rw[h0,Zz];refine Nat.le_of_not_lt fun h=> ?_;have h1:=(bL hg).1 h;have h2:=(bL (most:=most) (L:=L) (i:=F9 g most (L+m)) hg).1 h;have h3:=(bL (most:=most) (L:=L+m) (i:=F9 g most (L+m)) hg).2 (by omega);exact absurd h3 (Nat.lt_irrefl _)
  ·obtain⟨k,hk⟩:∃k,F9 g most (L-g*F9 g most L+m)=k+1:=⟨F9 g most (L-g*F9 g most L+m)-1,by omega⟩;rw[hk];have h1:=(bL (most:=most) (L:=L-g*F9 g most L+m) (i:=k) hg).1 (by omega);have h2:=(bL (most:=most) (L:=L+m) (i:=F9 g most L+k) hg).2 (by rw[Nat.mul_add];omega);omega
theorem AV {n:Nat} {mode pad:Int} {iv:Bs} (ok:D5 n mode pad iv):(7<=mode/\j4 mode=2)\/(mode<=6/\j4 mode=mode):=by
 unfold j4;by_cases h7:7<=mode
 ·exact .inl ⟨h7,if_pos h7⟩
 ·exact .inr ⟨by omega,if_neg h7⟩
theorem nN {n:Nat} {mode pad:Int} {iv:Bs} {back:Bool} (hn:0<n) (ok:D5 n mode pad iv):
  0<r8 n (j4 mode)/\r8 n (j4 mode)-1<=B8 n (j4 mode) mode pad back/\(r8 n (j4 mode)=n/\j4 mode<=2\/r8 n (j4 mode)=1/\3<=j4 mode/\mode<=6):=by
 have hm:=ok.1;rcases AV ok with ⟨h1,h2⟩|⟨h1,h2⟩
 ·rw[h2];refine⟨hn,?_,.inl ⟨rfl,by decide⟩⟩;show n-1<=_;unfold B8;rw[if_neg (by decide),if_pos h1];omega
 ·rw[h2];unfold r8 B8;by_cases h3:3<=mode
  ·rw[if_neg (by omega),if_pos h3];exact⟨by omega,by omega,.inr ⟨rfl,h3,h1⟩⟩
  ·rw[if_pos (by omega),if_neg h3,if_neg (by omega)];refine⟨hn,?_,.inl ⟨rfl,by omega⟩⟩;split<;>omega
def C5 (n:Nat) (mode pad:Int) (back:Bool) (L:Nat):Nat:=r8 n (j4 mode)*F9 (r8 n (j4 mode)) (B8 n (j4 mode) mode pad back) L
def M4 (E D:Bs->Bs) (n:Nat) (mode pad:Int) (back:Bool) (iv M:Bs):Bs×MS:=k9 E D n (j4 mode) back ⟨iv,[],[]⟩ (M.take (C5 n mode pad back M.length))
def o8 (n:Nat) (mode pad:Int) (back:Bool) (M:Bs):Bs:=M.drop (C5 n mode pad back M.length)
def ju (E D:Bs->Bs) (n:Nat) (mode pad:Int) (back:Bool) (iv M:Bs):Bs:=E3 n mode back (M.take (C5 n mode pad back M.length)) (M4 E D n mode pad back iv M).1 iv
theorem gO {n:Nat} {mode pad:Int} {iv:Bs} {back:Bool} (hn:0<n) (ok:D5 n mode pad iv) (L:Nat):C5 n mode pad back L<=L/\C5 n mode pad back L%r8 n (j4 mode)=0:=by
 obtain⟨g0,g1,g2⟩:=nN (back:=back) hn ok;exact⟨nM g0 g1,Nat.mul_mod_right _ _⟩
theorem AT {n:Nat} {mode pad:Int} {iv:Bs} {back:Bool} (hn:0<n) (ok:D5 n mode pad iv) (L m:Nat):C5 n mode pad back (L+m)=C5 n mode pad back L+C5 n mode pad back (L-C5 n mode pad back L+m):=by
 obtain⟨g0,g1,g2⟩:=nN (back:=back) hn ok;unfold C5;rw[PL g0 g1,Nat.mul_add]
theorem gP {n:Nat} {mode pad:Int} {back:Bool} (M:Bs):(o8 n mode pad back M).length=M.length-C5 n mode pad back M.length:=by
 unfold o8;rw[Zf]
theorem AX {E D:Bs->Bs} {n:Nat} {mode pad:Int} {iv M:Bs} {back:Bool} (h:CI E D n) (hn:0<n) (ok:D5 n mode pad iv):(M4 E D n mode pad back iv M).1.length=C5 n mode pad back M.length:=by
 obtain⟨f1,f2⟩:=gO (back:=back) hn ok M.length;have lt:(M.take (C5 n mode pad back M.length)).length=C5 n mode pad back M.length:=by rw[Zn];omega
 unfold M4;rw[bU h (wy (ag ok).1 (ag ok).2) (by rw[lt];exact f2),lt]
theorem PN {A b:Bs} {F a:Nat} (h:F<=A.length):A.take F++(A.drop F++b).take a=(A++b).take (F+a):=by
 have e:A++b=A.take F++(A.drop F++b):=by rw[<-List.append_assoc,Jf]
 rw[e];generalize A.drop F++b=R;rw[List.take_append,Zn,Jd h,Zw,Zp (show (A.take F).length<=F+a by rw[Zn];omega)]
theorem PM {A b:Bs} {F a:Nat} (h:F<=A.length):(A.drop F++b).drop a=(A++b).drop (F+a):=by
 have e:A++b=A.take F++(A.drop F++b):=by rw[<-List.append_assoc,Jf]
 rw[e];generalize A.drop F++b=R;rw[Jc,Zn,Jd h,Zw,Z0 (show (A.take F).length<=F+a by rw[Zn];omega),Zm]
theorem AZ {E D:Bs->Bs} {n:Nat} {mode pad:Int} {iv M b:Bs} {back:Bool} {a:Nat} (h:CI E D n) (hn:0<n) (ok:D5 n mode pad iv) (ha:a=C5 n mode pad back ((o8 n mode pad back M).length+b.length)):
  M4 E D n mode pad back iv (M++b)=((M4 E D n mode pad back iv M).1++(k9 E D n (j4 mode) back (M4 E D n mode pad back iv M).2 ((o8 n mode pad back M++b).take a)).1,(k9 E D n (j4 mode) back (M4 E D n mode pad back iv M).2 ((o8 n mode pad back M++b).take a)).2)
  /\E3 n mode back ((o8 n mode pad back M++b).take a) (k9 E D n (j4 mode) back (M4 E D n mode pad back iv M).2 ((o8 n mode pad back M++b).take a)).1 (ju E D n mode pad back iv M)=ju E D n mode pad back iv (M++b)
  /\(o8 n mode pad back M++b).drop a=o8 n mode pad back (M++b):=by
 obtain⟨f1,f2⟩:=gO (back:=back) hn ok M.length;obtain⟨g0,g1,g2⟩:=nN (back:=back) hn ok;have hF:C5 n mode pad back (M++b).length=C5 n mode pad back M.length+a:=by
  rw[Zc,AT hn ok,ha,gP]
 have ha1:=gO (back:=back) hn ok ((o8 n mode pad back M).length+b.length);rw[<-ha,gP]at ha1;have lb:((o8 n mode pad back M++b).take a).length=a:=by rw[Zn,Zc,gP];omega
 have lt:(M.take (C5 n mode pad back M.length)).length=C5 n mode pad back M.length:=by rw[Zn];omega
 have eT:(M++b).take (C5 n mode pad back (M++b).length)=M.take (C5 n mode pad back M.length)++(o8 n mode pad back M++b).take a:=by
  rw[hF];unfold o8;rw[PN f1]
 have eS:M4 E D n mode pad back iv (M++b)=((M4 E D n mode pad back iv M).1++(k9 E D n (j4 mode) back (M4 E D n mode pad back iv M).2 ((o8 n mode pad back M++b).take a)).1,(k9 E D n (j4 mode) back (M4 E D n mode pad back iv M).2 ((o8 n mode pad back M++b).take a)).2):=by
  show k9 E D n (j4 mode) back ⟨iv,[],[]⟩ ((M++b).take (C5 n mode pad back (M++b).length))=_;rw[eT,wx hn (by rw[lt];exact f2) (by rw[lb];exact ha1.2)];rfl
 have lT:=AX (back:=back) (M:=M) h hn ok;refine⟨eS,?_,?_⟩
 ·show _=E3 n mode back ((M++b).take (C5 n mode pad back (M++b).length)) (M4 E D n mode pad back iv (M++b)).1 iv;rw[eS,eT];have K:aa n (j4 mode) (M4 E D n mode pad back iv M).2:=Do h hn (wy (ag ok).1 (ag ok).2);have lo:(k9 E D n (j4 mode) back (M4 E D n mode pad back iv M).2 ((o8 n mode pad back M++b).take a)).1.length=a:=by
   rw[bU h K (by rw[lb];exact ha1.2),lb]
  simp only
  generalize k9 E D n (j4 mode) back (M4 E D n mode pad back iv M).2 ((o8 n mode pad back M++b).take a)=o at*
  unfold ju;generalize (o8 n mode pad back M++b).take a=c at*
  generalize (M4 E D n mode pad back iv M).1=T at*
  generalize M.take (C5 n mode pad back M.length)=A at*
  generalize C5 n mode pad back M.length=F at*
  unfold E3;rw[lb,lt,Zc,lt,lb];by_cases h7:7<=mode
  ·have gn:r8 n (j4 mode)=n:=by
    rcases AV ok with ⟨_,h2⟩|⟨h1,_⟩
    ·rw[h2];rfl
    ·omega
   rw[gn]at ha1;by_cases ha0:n<=a
   ·rw[if_pos (show 7<=mode/\n<=a from ⟨h7,ha0⟩),if_pos (show 7<=mode/\n<=F+a from ⟨h7,by omega⟩)];cases back
    ·simp only[Bool.false_eq_true,if_false];rw[Jc,lT,Z0 (show T.length<=F+a-n by omega),Zm,show F+a-n-F=a-n by omega]
    ·simp only[if_true];rw[Jc,lt,Z0 (show A.length<=F+a-n by omega),Zm,show F+a-n-F=a-n by omega]
   ·have a0:a=0:=by
     rcases Nat.eq_zero_or_pos a with h0|h0
     ·exact h0
     ·exact absurd (Nat.le_of_dvd h0 (Nat.dvd_of_mod_eq_zero ha1.2)) ha0
    subst a0;obtain rfl:=Zi lb;rw[if_neg (show ¬(7<=mode/\n<=0) by omega),Zz,Z5,Zi lo,Z5]
  ·rw[if_neg (show ¬(7<=mode/\n<=a) by omega),if_neg (show ¬(7<=mode/\n<=F) by omega),if_neg (show ¬(7<=mode/\n<=F+a) by omega)]
 ·show _=(M++b).drop (C5 n mode pad back (M++b).length);rw[hF];exact PM f1
def nL (E D:Bs->Bs) (n:Nat) (mode pad:Int) (back:Bool) (st:MS) (a9 H:Bs):Bs×Int:=
 if 7<=mode then (if H.length<n then ([],7)else (P2 E D n mode back a9 H,0))
 else if pad=4 then (if H.length%r8 n (j4 mode)=0 then ((k9 E D n (j4 mode) back st H).1,0)else ([],7))
 else if back=false then ((k9 E D n (j4 mode) back st (G9 pad n H)).1,0)
 else if H.length=n then (if D4 pad (k9 E D n (j4 mode) back st H).1=0 then ([],8)else (bW pad (k9 E D n (j4 mode) back st H).1,0))
 else ([],7)
theorem cD {b:Bool} {P:Prop} (h:b=true) (p:P):w6 b P:=by rw[h];exact p
theorem V7 {i:C1} {d:Option Nat} {T:Nat->V} {H Hr:Hp} {id:Id} {b:B} {r:List (Id×B)} (h:H id=some b) (hr:(Hr id).isSome=true) (h2:i.ck d T H Hr r=true):i.ck d T H Hr ((id,b)::r)=true:=by
 unfold C1.ck xr;rw[hr,h2];simp[h]
theorem pM {n:Nat} {va:List Value} {l:Bs} (ha:va=bv l) (hn:l.length=n) (hm:n<=1073741824):b9 C 90 [.z n va] [] (.ret (.o 1 (.k 0) 0 n)) [.sc (bv l)]:=by
 by_cases h0:0<n
 ·exact eA ha hn h0 hm
 ·subst ha;obtain rfl:n=0:=(by omega);obtain rfl:=Zi hn;refine qQ.n ?_;refine .inr ⟨?_,?_⟩
  ·exact⟨[(2,1,.sc [])],_,rfl,[.d 900000 0],rfl,⟨_,rfl,rfl⟩,tq⟩
  ·refine⟨rfl,by decide,by decide,?_⟩;exact⟨[],_,rfl,[.d 7 0],rfl,⟨_,rfl,rfl⟩,tq⟩
end Go.Scr
