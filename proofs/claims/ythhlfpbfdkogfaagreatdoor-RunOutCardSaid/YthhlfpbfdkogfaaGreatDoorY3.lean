/-
  What the functions of the given program reckon, each by a contract, up to the law. It is no claim by itself; each contract bears its own conditions.
-/
import Derived.Test.YthhlfpbfdkogfaaGreatDoorY2
set_option linter.unusedVariables false
set_option linter.unusedSimpArgs false
set_option maxRecDepth 100000
namespace Go.Scr
open Go.Proofs
open Nat renaming le_of_ble_eq_true → Za, le_refl → Zf, mul_one → Zj, zero_add → Zk, div_add_mod → Zo, lt_of_mul_lt_mul_left → Zu, mul_succ → Zv, zero_le → Zx, sub_zero → Zy, mul_le_mul_left → Zz, mul_div_cancel_left → Z1, sub_self → Z3, dvd_of_mod_eq_zero → Z4, div_mul_le_self → Z8, add_sub_cancel → Z9, add_sub_cancel_left → Je, add_zero → Jf
open Int renaming toNat_natCast → Zb, tmod_eq_emod_of_nonneg → Zi, emod_eq_of_lt → Z5, tdiv_eq_ediv_of_nonneg → Jb, ofNat_inj → Jd, tmod_one → Ji
open List renaming length_append → Zc, length_drop → Ze, length_replicate → Zg, replicate → Zh, getD_eq_getElem?_getD → Zl, eq_nil_of_length_eq_zero → Zm, nil_append → Zn, length_map → Zp, take_of_length_le → Zq, length_take → Zs, set_append_right → Zt, length_eq_zero_iff → Zw, getElem?_eq_getElem → Z0, getElem?_replicate → Z2, replicate_succ' → Z6, drop_drop → Ja, map_append → Jg, length_singleton → Jh, map → Jj
open IntWalk renaming i64_in → Zd
open UInt8 renaming ofNat → Zr, toNat_inj → Z7
open Option renaming isSome_iff_exists → Jc
open Go.IntKind renaming i64 → I6, u8 → U8
theorem HZ {t key s k xs rs} (h:k9 t key s k xs rs) {mode:Int} {back:Bool} {L3 g0:Bs} {i0:Nat} {p:UInt8} (hl:L3.length=s):
  a9 C 121 [.p (.k 0) 0,y3 p] [j4 (f7 t k xs) mode back ⟨L3,[],g0⟩ i0,.dead] (.ret (y3 (w7 (cF t key false) mode back ⟨L3,[],g0⟩ p).1)) [j4 (f7 t k xs) mode back (w7 (cF t key false) mode back ⟨L3,[],g0⟩ p).2 2,.dead,j6 (w7 (cF t key false) mode back ⟨L3,[],g0⟩ p).2.row (w7 (cF t key false) mode back ⟨L3,[],g0⟩ p).2.gone]:=by
 have hs:=h.s_le;have hrl:=h.len (back:=false) hl;have HB:=HP h (mode:=mode) (back:=back) (rv:= .z 0 []) (gv:= .u) rfl hl;have eo:w7 (cF t key false) mode back ⟨L3,[],g0⟩ p=K7 mode back ⟨(cK (cF t key false) mode ⟨L3,[],[]⟩).ch,cF t key false L3,[]⟩ p:=rfl;have hcl:(cK (cF t key false) mode ⟨L3,[],[]⟩).ch.length=s:=by
  show(if mode=5 then cF t key false L3 else if mode=6 then W9 L3 else L3).length=s;split
  ·exact hrl
  ·split
   ·rw[nS,hl]
   ·exact hl
 have hX:j4 (f7 t k xs) mode back ⟨L3,[],g0⟩ i0= .mx [f7 t k xs,i64 mode,bool back,.z s (bv L3),.z 0 [],.u]:=by
  unfold j4;rw[<-hl];rfl
 rw[hX,eo];generalize (cK (cF t key false) mode ⟨L3,[],[]⟩).ch=ch at*
 generalize cF t key false L3=row at*
 clear hX eo;have hc0:2<=ch.length:=by omega
 have hr:row.length<=1000:=by omega
 refine AL.w ?_;refine⟨_,rfl,?_⟩;refine⟨[.k 0],_,_,_,_,HB,rfl,rfl,?_⟩;refine⟨_,rfl,?_⟩;refine⟨by omega,by omega,_,p5 (k:=row) (i:=0) (by omega),?_⟩;refine⟨_,rfl,?_⟩;refine⟨by omega,by omega,by omega,by omega,?_⟩;refine⟨Za rfl,?_⟩;refine⟨_,rfl,?_⟩;cases back
 ·refine⟨_,rfl,?_⟩;refine⟨Zf _,by omega,?_⟩;refine⟨Za rfl,?_⟩;refine⟨_,rfl,?_⟩;refine j5 (fun h3=> ?_) (fun h3=> ?_)
  ·subst h3;rw[oa];have ld:(ch.drop 1).length=s-1:=by rw[Ze,hcl]
   have lc:(ch.drop 1++[m9 false p (p^^^row.getD 0 0)]).length=s:=by rw[Zc,ld];show s-1+1=s;omega
   refine⟨_,rfl,?_⟩;refine⟨by omega,by omega,by omega,by omega,?_⟩;refine⟨[],_,_,_,_,dV (n:=s-1) (va:=sub (bv ch) 1 (s-1)) (l:=ch.drop 1) (y4 hcl (by omega)) ld (by omega) (by omega),rfl,rfl,?_⟩;refine⟨Zf _,by omega,by rw[i9,ld];omega,?_⟩;refine⟨Za rfl,?_⟩;refine⟨Za rfl,?_⟩;refine⟨.ret (y3 (p^^^row.getD 0 0)),[.mx [f7 t k xs,i64 3,bool false,.z s (bv (ch.drop 1++[m9 false p (p^^^row.getD 0 0)])),i6,.z (0+1) (bv ([]++[m9 false p (p^^^row.getD 0 0)]))],.dead],⟨_,rfl,[.k 0,.k 1],?_,⟨_,rfl,?_⟩,?_⟩,?_⟩
   ·show V.s (.int .u8 (U8.wrap _))=_;rw[n5]
   ·show B.mx [f7 t k xs,i64 3,bool false,.z (s-1+1) (sub (sub (bv (ch.drop 1)) 0 ((s-1)*1)++sub [Value.int .u8 _] 0 (1*1)) 0 (s-1+1)),i6,.z (0+1) (sub (sub ([]:List Value) 0 (0*1)++sub [Value.int .u8 _] 0 (1*1)) 0 (0+1))]=_;rw[T2 ld (n5 _ _),ik (n5 _ _),show s-1+1=s by omega];rfl
   ·exact⟨⟨_,rfl,rfl⟩,tq⟩
   ·refine⟨.ret (.refl _),.cons (.mx (.cons (.refl _) (.cons (.refl _) (.cons (.refl _) (.cons ?_ (.cons .nl (.cons .u .nil))))))) (.cons (.refl _) (.dd .nil))⟩;show Wk _ (.z (ch.drop 1++[m9 false p (p^^^row.getD 0 0)]).length _);rw[lc];exact .refl _
  refine j5 (fun h4=> ?_) (fun h4=> ?_)
  ·subst h4;refine⟨_,rfl,?_⟩;refine j5 (fun hr1=> ?_) (fun hr1=> ?_)
   ·have hr1:s=1:=by have:=(rfl:Int.toNat 1=1);omega
    have lG:([]++[m9 false p (p^^^row.getD 0 0)]).length=0+1:=by rw[Zc];rfl
    rw[oe (by omega)];refine⟨_,rfl,?_⟩;refine⟨Za rfl,?_⟩;refine⟨.ret (y3 (p^^^row.getD 0 0)),[.mx [f7 t k xs,i64 4,bool false,.z (0+1) (bv ([]++[m9 false p (p^^^row.getD 0 0)])),.z (s-1) (bv (row.drop 1)),.z (0+1) (bv ([]++[m9 false p (p^^^row.getD 0 0)]))],.dead],⟨_,rfl,[.k 0,.k 1],?_,⟨_,rfl,?_⟩,?_⟩,?_⟩
    ·show V.s (.int .u8 (U8.wrap _))=_;rw[n5]
    ·show B.mx [f7 t k xs,i64 4,bool false,.z (0+1) (sub (sub ([]:List Value) 0 (0*1)++sub [Value.int .u8 _] 0 (1*1)) 0 (0+1)),.z (s-1) (sub (bv row) 1 (s-1)),.z (0+1) (sub (sub ([]:List Value) 0 (0*1)++sub [Value.int .u8 _] 0 (1*1)) 0 (0+1))]=_;rw[ik (n5 _ _),y4 hrl (by omega)];rfl
    ·exact⟨⟨_,rfl,rfl⟩,tq⟩
    ·refine⟨.ret (.refl _),.cons (.mx (.cons (.refl _) (.cons (.refl _) (.cons (.refl _) (.cons ?_ (.cons ?_ (.cons .u .nil))))))) (.cons (.refl _) (.dd .nil))⟩
     ·show Wk _ (.z ([]++[m9 false p (p^^^row.getD 0 0)]).length _);rw[lG];exact .refl _
     ·rw[show s-1=0 by omega];exact .z0
   ·have hr2:s≠1:=by have:=(rfl:Int.toNat 1=1);omega
    have lr:(row.drop 1).length=s-1:=by rw[Ze,hrl]
    rw[dC (by decide) (fun e=>hr2 (by omega))];by_cases hr1:s=1
    ·have e0:row.drop 1=[]:=Zw.1 (by omega);rw[e0];refine⟨.ret (y3 (p^^^row.getD 0 0)),[.mx [f7 t k xs,i64 4,bool false,.z s (bv ch),.z (s-1) (bv (row.drop 1)),.z (0+1) (bv ([]++[m9 false p (p^^^row.getD 0 0)]))],.dead],⟨_,rfl,[.k 0,.k 1],?_,⟨_,rfl,?_⟩,?_⟩,?_⟩
     ·show V.s (.int .u8 (U8.wrap _))=_;rw[n5]
     ·show B.mx [f7 t k xs,i64 4,bool false,.z s (bv ch),.z (s-1) (sub (bv row) 1 (s-1)),.z (0+1) (sub (sub ([]:List Value) 0 (0*1)++sub [Value.int .u8 _] 0 (1*1)) 0 (0+1))]=_;rw[ik (n5 _ _),y4 hrl (by omega)];rfl
     ·exact⟨⟨_,rfl,rfl⟩,tq⟩
     ·refine⟨.ret (.refl _),.cons (.mx (.cons (.refl _) (.cons (.refl _) (.cons (.refl _) (.cons ?_ (.cons ?_ (.cons .u .nil))))))) (.cons (.refl _) (.dd .nil))⟩
      ·show Wk _ (.z ch.length _);rw[hcl];exact .refl _
      ·rw[show s-1=0 by omega];exact .z0
    ·rw[cD (row:=row.drop 1) (by omega)];refine⟨.ret (y3 (p^^^row.getD 0 0)),[.mx [f7 t k xs,i64 4,bool false,.z s (bv ch),.z (s-1) (bv (row.drop 1)),.o 1 (.k 2) 0 (0+1)],.dead,.sc (bv ([]++[m9 false p (p^^^row.getD 0 0)]))],⟨_,rfl,[.k 0,.k 1,.d 44 0],?_,⟨_,rfl,?_⟩,⟨_,rfl,rfl⟩,⟨_,rfl,g9 ?_⟩,tq⟩,?_⟩
     ·show V.s (.int .u8 (U8.wrap _))=_;rw[n5]
     ·show B.mx [f7 t k xs,i64 4,bool false,.z s (bv ch),.z (s-1) (sub (bv row) 1 (s-1)),.o 1 (.k 2) 0 (0+1)]=_;rw[y4 hrl (by omega)]
     ·exact V6 (n5 _ _)
     ·refine⟨.ret (.refl _),.cons (.mx (.cons (.refl _) (.cons (.refl _) (.cons (.refl _) (.cons ?_ (.cons ?_ (.cons ?_ .nil))))))) (.cons (.refl _) (.cons (.refl _) .nil))⟩
      ·show Wk _ (.z ch.length _);rw[hcl];exact .refl _
      ·show Wk _ (.z (row.drop 1).length _);rw[lr];exact .refl _
      ·show Wk _ (dw (row.drop 1) ([]++[m9 false p (p^^^row.getD 0 0)]) 2);rw[eI (row:=row.drop 1) (by omega),Zc];exact .refl _
  ·have lr:(row.drop 1).length=s-1:=by rw[Ze,hrl]
   rw[dC h3 (fun e=>h4 e.1)];by_cases hr1:s=1
   ·have e0:row.drop 1=[]:=Zw.1 (by omega);rw[e0];refine⟨.ret (y3 (p^^^row.getD 0 0)),[.mx [f7 t k xs,i64 mode,bool false,.z s (bv ch),.z (s-1) (bv (row.drop 1)),.z (0+1) (bv ([]++[m9 false p (p^^^row.getD 0 0)]))],.dead],⟨_,rfl,[.k 0,.k 1],?_,⟨_,rfl,?_⟩,?_⟩,?_⟩
    ·show V.s (.int .u8 (U8.wrap _))=_;rw[n5]
    ·show B.mx [f7 t k xs,i64 mode,bool false,.z s (bv ch),.z (s-1) (sub (bv row) 1 (s-1)),.z (0+1) (sub (sub ([]:List Value) 0 (0*1)++sub [Value.int .u8 _] 0 (1*1)) 0 (0+1))]=_;rw[ik (n5 _ _),y4 hrl (by omega)];rfl
    ·exact⟨⟨_,rfl,rfl⟩,tq⟩
    ·refine⟨.ret (.refl _),.cons (.mx (.cons (.refl _) (.cons (.refl _) (.cons (.refl _) (.cons ?_ (.cons ?_ (.cons .u .nil))))))) (.cons (.refl _) (.dd .nil))⟩
     ·show Wk _ (.z ch.length _);rw[hcl];exact .refl _
     ·rw[show s-1=0 by omega];exact .z0
   ·rw[cD (row:=row.drop 1) (by omega)];refine⟨.ret (y3 (p^^^row.getD 0 0)),[.mx [f7 t k xs,i64 mode,bool false,.z s (bv ch),.z (s-1) (bv (row.drop 1)),.o 1 (.k 2) 0 (0+1)],.dead,.sc (bv ([]++[m9 false p (p^^^row.getD 0 0)]))],⟨_,rfl,[.k 0,.k 1,.d 44 0],?_,⟨_,rfl,?_⟩,⟨_,rfl,rfl⟩,⟨_,rfl,g9 ?_⟩,tq⟩,?_⟩
    ·show V.s (.int .u8 (U8.wrap _))=_;rw[n5]
    ·show B.mx [f7 t k xs,i64 mode,bool false,.z s (bv ch),.z (s-1) (sub (bv row) 1 (s-1)),.o 1 (.k 2) 0 (0+1)]=_;rw[y4 hrl (by omega)]
    ·exact V6 (n5 _ _)
    ·refine⟨.ret (.refl _),.cons (.mx (.cons (.refl _) (.cons (.refl _) (.cons (.refl _) (.cons ?_ (.cons ?_ (.cons ?_ .nil))))))) (.cons (.refl _) (.cons (.refl _) .nil))⟩
     ·show Wk _ (.z ch.length _);rw[hcl];exact .refl _
     ·show Wk _ (.z (row.drop 1).length _);rw[lr];exact .refl _
     ·show Wk _ (dw (row.drop 1) ([]++[m9 false p (p^^^row.getD 0 0)]) 2);rw[eI (row:=row.drop 1) (by omega),Zc];exact .refl _
 ·refine⟨_,rfl,?_⟩;refine⟨Zf _,by omega,?_⟩;refine⟨Za rfl,?_⟩;refine⟨_,rfl,?_⟩;refine j5 (fun h3=> ?_) (fun h3=> ?_)
  ·subst h3;rw[oa];have ld:(ch.drop 1).length=s-1:=by rw[Ze,hcl]
   have lc:(ch.drop 1++[m9 true p (p^^^row.getD 0 0)]).length=s:=by rw[Zc,ld];show s-1+1=s;omega
   refine⟨_,rfl,?_⟩;refine⟨by omega,by omega,by omega,by omega,?_⟩;refine⟨[],_,_,_,_,dV (n:=s-1) (va:=sub (bv ch) 1 (s-1)) (l:=ch.drop 1) (y4 hcl (by omega)) ld (by omega) (by omega),rfl,rfl,?_⟩;refine⟨Zf _,by omega,by rw[i9,ld];omega,?_⟩;refine⟨Za rfl,?_⟩;refine⟨Za rfl,?_⟩;refine⟨.ret (y3 (p^^^row.getD 0 0)),[.mx [f7 t k xs,i64 3,bool true,.z s (bv (ch.drop 1++[m9 true p (p^^^row.getD 0 0)])),i6,.z (0+1) (bv ([]++[m9 true p (p^^^row.getD 0 0)]))],.dead],⟨_,rfl,[.k 0,.k 1],?_,⟨_,rfl,?_⟩,?_⟩,?_⟩
   ·show V.s (.int .u8 (U8.wrap _))=_;rw[n5]
   ·show B.mx [f7 t k xs,i64 3,bool true,.z (s-1+1) (sub (sub (bv (ch.drop 1)) 0 ((s-1)*1)++sub [Value.int .u8 _] 0 (1*1)) 0 (s-1+1)),i6,.z (0+1) (sub (sub ([]:List Value) 0 (0*1)++sub [Value.int .u8 _] 0 (1*1)) 0 (0+1))]=_;rw[T2 ld rfl,ik rfl,show s-1+1=s by omega];rfl
   ·exact⟨⟨_,rfl,rfl⟩,tq⟩
   ·refine⟨.ret (.refl _),.cons (.mx (.cons (.refl _) (.cons (.refl _) (.cons (.refl _) (.cons ?_ (.cons .nl (.cons .u .nil))))))) (.cons (.refl _) (.dd .nil))⟩;show Wk _ (.z (ch.drop 1++[m9 true p (p^^^row.getD 0 0)]).length _);rw[lc];exact .refl _
  refine j5 (fun h4=> ?_) (fun h4=> ?_)
  ·subst h4;refine⟨_,rfl,?_⟩;refine j5 (fun hr1=> ?_) (fun hr1=> ?_)
   ·have hr1:s=1:=by have:=(rfl:Int.toNat 1=1);omega
    have lG:([]++[m9 true p (p^^^row.getD 0 0)]).length=0+1:=by rw[Zc];rfl
    rw[oe (by omega)];refine⟨_,rfl,?_⟩;refine⟨Za rfl,?_⟩;refine⟨.ret (y3 (p^^^row.getD 0 0)),[.mx [f7 t k xs,i64 4,bool true,.z (0+1) (bv ([]++[m9 true p (p^^^row.getD 0 0)])),.z (s-1) (bv (row.drop 1)),.z (0+1) (bv ([]++[m9 true p (p^^^row.getD 0 0)]))],.dead],⟨_,rfl,[.k 0,.k 1],?_,⟨_,rfl,?_⟩,?_⟩,?_⟩
    ·show V.s (.int .u8 (U8.wrap _))=_;rw[n5]
    ·show B.mx [f7 t k xs,i64 4,bool true,.z (0+1) (sub (sub ([]:List Value) 0 (0*1)++sub [Value.int .u8 _] 0 (1*1)) 0 (0+1)),.z (s-1) (sub (bv row) 1 (s-1)),.z (0+1) (sub (sub ([]:List Value) 0 (0*1)++sub [Value.int .u8 _] 0 (1*1)) 0 (0+1))]=_;rw[ik rfl,y4 hrl (by omega)];rfl
    ·exact⟨⟨_,rfl,rfl⟩,tq⟩
    ·refine⟨.ret (.refl _),.cons (.mx (.cons (.refl _) (.cons (.refl _) (.cons (.refl _) (.cons ?_ (.cons ?_ (.cons .u .nil))))))) (.cons (.refl _) (.dd .nil))⟩
     ·show Wk _ (.z ([]++[m9 true p (p^^^row.getD 0 0)]).length _);rw[lG];exact .refl _
     ·rw[show s-1=0 by omega];exact .z0
   ·have hr2:s≠1:=by have:=(rfl:Int.toNat 1=1);omega
    have lr:(row.drop 1).length=s-1:=by rw[Ze,hrl]
    rw[dC (by decide) (fun e=>hr2 (by omega))];by_cases hr1:s=1
    ·have e0:row.drop 1=[]:=Zw.1 (by omega);rw[e0];refine⟨.ret (y3 (p^^^row.getD 0 0)),[.mx [f7 t k xs,i64 4,bool true,.z s (bv ch),.z (s-1) (bv (row.drop 1)),.z (0+1) (bv ([]++[m9 true p (p^^^row.getD 0 0)]))],.dead],⟨_,rfl,[.k 0,.k 1],?_,⟨_,rfl,?_⟩,?_⟩,?_⟩
     ·show V.s (.int .u8 (U8.wrap _))=_;rw[n5]
     ·show B.mx [f7 t k xs,i64 4,bool true,.z s (bv ch),.z (s-1) (sub (bv row) 1 (s-1)),.z (0+1) (sub (sub ([]:List Value) 0 (0*1)++sub [Value.int .u8 _] 0 (1*1)) 0 (0+1))]=_;rw[ik rfl,y4 hrl (by omega)];rfl
     ·exact⟨⟨_,rfl,rfl⟩,tq⟩
     ·refine⟨.ret (.refl _),.cons (.mx (.cons (.refl _) (.cons (.refl _) (.cons (.refl _) (.cons ?_ (.cons ?_ (.cons .u .nil))))))) (.cons (.refl _) (.dd .nil))⟩
      ·show Wk _ (.z ch.length _);rw[hcl];exact .refl _
      ·rw[show s-1=0 by omega];exact .z0
    ·rw[cD (row:=row.drop 1) (by omega)];refine⟨.ret (y3 (p^^^row.getD 0 0)),[.mx [f7 t k xs,i64 4,bool true,.z s (bv ch),.z (s-1) (bv (row.drop 1)),.o 1 (.k 2) 0 (0+1)],.dead,.sc (bv ([]++[m9 true p (p^^^row.getD 0 0)]))],⟨_,rfl,[.k 0,.k 1,.d 44 0],?_,⟨_,rfl,?_⟩,⟨_,rfl,rfl⟩,⟨_,rfl,g9 ?_⟩,tq⟩,?_⟩
     ·show V.s (.int .u8 (U8.wrap _))=_;rw[n5]
     ·show B.mx [f7 t k xs,i64 4,bool true,.z s (bv ch),.z (s-1) (sub (bv row) 1 (s-1)),.o 1 (.k 2) 0 (0+1)]=_;rw[y4 hrl (by omega)]
     ·exact V6 rfl
     ·refine⟨.ret (.refl _),.cons (.mx (.cons (.refl _) (.cons (.refl _) (.cons (.refl _) (.cons ?_ (.cons ?_ (.cons ?_ .nil))))))) (.cons (.refl _) (.cons (.refl _) .nil))⟩
      ·show Wk _ (.z ch.length _);rw[hcl];exact .refl _
      ·show Wk _ (.z (row.drop 1).length _);rw[lr];exact .refl _
      ·show Wk _ (dw (row.drop 1) ([]++[m9 true p (p^^^row.getD 0 0)]) 2);rw[eI (row:=row.drop 1) (by omega),Zc];exact .refl _
  ·have lr:(row.drop 1).length=s-1:=by rw[Ze,hrl]
   rw[dC h3 (fun e=>h4 e.1)];by_cases hr1:s=1
   ·have e0:row.drop 1=[]:=Zw.1 (by omega);rw[e0];refine⟨.ret (y3 (p^^^row.getD 0 0)),[.mx [f7 t k xs,i64 mode,bool true,.z s (bv ch),.z (s-1) (bv (row.drop 1)),.z (0+1) (bv ([]++[m9 true p (p^^^row.getD 0 0)]))],.dead],⟨_,rfl,[.k 0,.k 1],?_,⟨_,rfl,?_⟩,?_⟩,?_⟩
    ·show V.s (.int .u8 (U8.wrap _))=_;rw[n5]
    ·show B.mx [f7 t k xs,i64 mode,bool true,.z s (bv ch),.z (s-1) (sub (bv row) 1 (s-1)),.z (0+1) (sub (sub ([]:List Value) 0 (0*1)++sub [Value.int .u8 _] 0 (1*1)) 0 (0+1))]=_;rw[ik rfl,y4 hrl (by omega)];rfl
    ·exact⟨⟨_,rfl,rfl⟩,tq⟩
    ·refine⟨.ret (.refl _),.cons (.mx (.cons (.refl _) (.cons (.refl _) (.cons (.refl _) (.cons ?_ (.cons ?_ (.cons .u .nil))))))) (.cons (.refl _) (.dd .nil))⟩
     ·show Wk _ (.z ch.length _);rw[hcl];exact .refl _
     ·rw[show s-1=0 by omega];exact .z0
   ·rw[cD (row:=row.drop 1) (by omega)];refine⟨.ret (y3 (p^^^row.getD 0 0)),[.mx [f7 t k xs,i64 mode,bool true,.z s (bv ch),.z (s-1) (bv (row.drop 1)),.o 1 (.k 2) 0 (0+1)],.dead,.sc (bv ([]++[m9 true p (p^^^row.getD 0 0)]))],⟨_,rfl,[.k 0,.k 1,.d 44 0],?_,⟨_,rfl,?_⟩,⟨_,rfl,rfl⟩,⟨_,rfl,g9 ?_⟩,tq⟩,?_⟩
    ·show V.s (.int .u8 (U8.wrap _))=_;rw[n5]
    ·show B.mx [f7 t k xs,i64 mode,bool true,.z s (bv ch),.z (s-1) (sub (bv row) 1 (s-1)),.o 1 (.k 2) 0 (0+1)]=_;rw[y4 hrl (by omega)]
    ·exact V6 rfl
    ·refine⟨.ret (.refl _),.cons (.mx (.cons (.refl _) (.cons (.refl _) (.cons (.refl _) (.cons ?_ (.cons ?_ (.cons ?_ .nil))))))) (.cons (.refl _) (.cons (.refl _) .nil))⟩
     ·show Wk _ (.z ch.length _);rw[hcl];exact .refl _
     ·show Wk _ (.z (row.drop 1).length _);rw[lr];exact .refl _
     ·show Wk _ (dw (row.drop 1) ([]++[m9 true p (p^^^row.getD 0 0)]) 2);rw[eI (row:=row.drop 1) (by omega),Zc];exact .refl _
def iN (n:Nat) (s:MS):Prop:=s.row.length=0\/s.gone.length+s.row.length=n
theorem Cv {E D:Bs->Bs} {n:Nat} {mode:Int} {back:Bool} {s:MS} (h:CI E D n) (hn:0<n) (hm:3<=mode) (ok:W1 n mode s) (g:iN n s) (p:UInt8):iN n (w7 E mode back s p).2:=by
 obtain⟨t,ht,h1,h2⟩:∃t,t=(if s.row.length=0 then cK E mode s else s)/\0<t.row.length/\t.gone.length+t.row.length=n:=by
  refine⟨_,rfl,?_⟩;split
  ·obtain⟨b1,b2,b3⟩:=Cn h hm ok;exact⟨by omega,by rw[b3,b2];simp⟩
  ·rename_i hr;exact⟨by omega,g.resolve_left hr⟩
 have e:(w7 E mode back s p).2=(K7 mode back t p).2:=by rw[ht];rfl
 rw[e];unfold K7;dsimp only
 split
 ·exact .inl rfl
 ·split
  ·split
   ·exact .inl rfl
   ·exact .inr (by show(t.gone++[_]).length+(t.row.drop 1).length=n;rw[Zc,Jh,Ze];omega)
  ·exact .inr (by show(t.gone++[_]).length+(t.row.drop 1).length=n;rw[Zc,Jh,Ze];omega)
theorem vP {E D:Bs->Bs} {n:Nat} {mode:Int} {back:Bool} (h:CI E D n) (hn:0<n) (hm:3<=mode):∀(l:Bs) {s:MS},W1 n mode s->iN n s->iN n (A2 E mode back s l).2
 |[],_,_,g=>g
 |p::l,_,ok,g=>vP h hn hm l (qR h hn hm ok p) (Cv h hn hm ok g p)
theorem Wf {E D:Bs->Bs} {n:Nat} {mode:Int} {back:Bool} {s:MS} {b:Bs} (h:CI E D n) (hn:0<n) (ok:W1 n mode s) (g:iN n s):iN n (k5 E D n mode back s b).2:=by
 unfold k5;by_cases hm:mode=1\/mode=2
 ·simp only[if_pos hm];exact g
 ·simp only[if_neg hm];exact vP h hn (by have:=ok.m;omega) b ok g
structure MK (n:Nat) (mode:Int) (s:MS):Prop where
 ok:W1 n mode s
 g:iN n s
theorem MK.glen {n mode s} (h:MK n mode s) (hr:s.row.length≠0):s.gone.length<=n:=by
 have:=h.g.resolve_left hr;omega
theorem MK.step {E D:Bs->Bs} {n:Nat} {mode:Int} {back:Bool} {s:MS} {b:Bs} (k:MK n mode s) (h:CI E D n) (hn:0<n):MK n mode (k5 E D n mode back s b).2:=⟨vR h hn k.ok,Wf h hn k.ok k.g⟩
theorem MK.one {E D:Bs->Bs} {n:Nat} {mode:Int} {back:Bool} {s:MS} (k:MK n mode s) (h:CI E D n) (hn:0<n) (hm:3<=mode) (p:UInt8):MK n mode (w7 E mode back s p).2:=⟨qR h hn hm k.ok p,Cv h hn hm k.ok k.g p⟩
theorem MK.many {E D:Bs->Bs} {n:Nat} {mode:Int} {back:Bool} {s:MS} (k:MK n mode s) (h:CI E D n) (hn:0<n) (hm:3<=mode) (l:Bs):MK n mode (A2 E mode back s l).2:=⟨vQ h hn hm l k.ok,vP h hn hm l k.ok k.g⟩
theorem MK.new {n:Nat} {mode:Int} {iv:Bs} (hm:1<=mode/\mode<=6) (hc:mode=1\/iv.length=n):MK n mode ⟨iv,[],[]⟩:=⟨⟨hm,hc,Zx _,fun _=>rfl,fun _=> .inl rfl⟩,.inl rfl⟩
def Q8 (E:Bs->Bs) (mode:Int) (back:Bool) (x:MS×Bs×Nat) (p:UInt8):MS×Bs×Nat:=
 ((w7 E mode back x.1 p).2,if mode=3 then x.2 else if x.1.row.length=0 then (E x.1.ch,1)else (x.2.1,x.2.2+1))
def X7 (E:Bs->Bs) (mode:Int) (back:Bool):MS×Bs×Nat->Bs->MS×Bs×Nat
 |x,[]=>x
 |x,p::l=>X7 E mode back (Q8 E mode back x p) l
theorem Dx (E mode back):∀(l:Bs) (x),(X7 E mode back x l).1=(A2 E mode back x.1 l).2
 |[],_=>rfl
 |p::l,x=>Dx E mode back l (Q8 E mode back x p)
theorem wq (E mode back):∀(l:Bs) (x) (p:UInt8),X7 E mode back x (l++[p])=Q8 E mode back (X7 E mode back x l) p
 |[],_,_=>rfl
 |a::l,x,p=>wq E mode back l (Q8 E mode back x a) p
structure W3 (n:Nat) (mode:Int) (x:MS×Bs×Nat):Prop where
 le:x.2.2<=x.2.1.length
 row:x.1.row=x.2.1.drop x.2.2
 len:x.2.1.length<=n
 made:x.1.row.length≠0->x.1.gone.length=x.2.2
 three:mode=3->x.1.row=[]
 blk:mode=1\/mode=2->x.2=([],0)
theorem Ct {mode:Int} {back:Bool} {t:MS} {p:UInt8} (h3:mode≠3) (h:0<t.row.length):(K7 mode back t p).2.row=t.row.drop 1:=by
 unfold K7;simp only[if_neg h3];by_cases h4:mode=4
 ·rw[if_pos h4];by_cases h5:t.row.length=1
  ·rw[if_pos h5];exact(List.drop_eq_nil_of_le (by omega)).symm
  ·rw[if_neg h5]
 ·rw[if_neg h4]
theorem Cs {mode:Int} {back:Bool} {t:MS} {p:UInt8}:(K7 mode back t p).2.gone=t.gone++[m9 back p (p^^^t.row.getD 0 0)]:=by
 unfold K7;dsimp only
 split
 ·rfl
 ·split
  ·split<;>rfl
  ·rfl
theorem wr {E D:Bs->Bs} {n:Nat} {mode:Int} {back:Bool} {x:MS×Bs×Nat} (h:CI E D n) (hn:0<n) (hm:3<=mode) (ok:W1 n mode x.1) (r:W3 n mode x) (p:UInt8):W3 n mode (Q8 E mode back x p):=by
 obtain⟨s,R,u⟩:=x;obtain⟨r1,r2,r3,r4,r5,r6⟩:=r;dsimp only at r1 r2 r3 r4 r5 ok;have hc:s.ch.length=n:=ok.ch.resolve_left (by omega);by_cases h3:mode=3
 ·subst h3;unfold Q8;rw[if_pos rfl];have ho:(w7 E 3 back s p).2.row=[]:=by unfold w7 K7;rfl
  refine⟨r1,?_,r3,fun h=>absurd ?_ h,fun _=>ho,fun h=>by omega⟩
  ·show(w7 E 3 back s p).2.row=R.drop u;rw[ho,<-r2,r5 rfl]
  ·show(w7 E 3 back s p).2.row.length=0;rw[ho];rfl
 ·unfold Q8;rw[if_neg h3];by_cases h0:s.row.length=0
  ·rw[if_pos h0];have l0:=h.le hc;have ho:w7 E mode back s p=K7 mode back (cK E mode s) p:=by unfold w7;rw[if_pos h0]
   refine⟨by show 1<=(E s.ch).length;omega,?_,by show(E s.ch).length<=n;omega,fun _=> ?_,fun h=>absurd h h3,fun h=>by omega⟩
   ·show(w7 E mode back s p).2.row=(E s.ch).drop 1;rw[ho];exact Ct h3 (by show 0<(E s.ch).length;omega)
   ·show(w7 E mode back s p).2.gone.length=1;rw[ho,Cs];rfl
  ·rw[if_neg h0];have ho:w7 E mode back s p=K7 mode back s p:=by unfold w7;rw[if_neg h0]
   have lr:s.row.length=R.length-u:=by rw[r2,Ze]
   refine⟨by show u+1<=R.length;omega,?_,r3,fun _=> ?_,fun h=>absurd h h3,fun h=>by omega⟩
   ·show(w7 E mode back s p).2.row=R.drop (u+1);rw[ho,Ct h3 (by omega),r2,Ja]
   ·show(w7 E mode back s p).2.gone.length=u+1;rw[ho,Cs,Zc,r4 h0];rfl
theorem Dy {E D:Bs->Bs} {n:Nat} {mode:Int} {back:Bool} (h:CI E D n) (hn:0<n) (hm:3<=mode):∀(l:Bs) {x:MS×Bs×Nat},W1 n mode x.1->W3 n mode x->W3 n mode (X7 E mode back x l)
 |[],_,_,r=>r
 |p::l,x,ok,r=>Dy h hn hm l (x:=Q8 E mode back x p) (qR h hn hm ok p) (wr h hn hm ok r p)
theorem W3.new {n:Nat} {mode:Int} {iv:Bs}:W3 n mode (⟨iv,[],[]⟩,[],0):=⟨Zf _,rfl,Zx _,fun h=>absurd rfl h,fun _=>rfl,fun _=>rfl⟩
def fV (E D:Bs->Bs) (n:Nat) (mode:Int) (back:Bool) (x:MS×Bs×Nat) (b:Bs):MS×Bs×Nat:=
 if mode=1\/mode=2 then ((k5 E D n mode back x.1 b).2,x.2)else X7 E mode back x b
theorem HW {t key s k xs rs} (h:k9 t key s k xs rs) {mode:Int} {back:Bool} {c:Nat} {p ch:Bs} {vp vch:List Value} (hvp:vp=bv p) (hvc:vch=bv ch) (hp:p.length=s) (hc:ch.length=c) (hm:mode=1\/mode=2/\c=s):
  a9 C 122 [.p (.k 0) 0,.z s vp] [.mx [f7 t k xs,i64 mode,bool back,.z c vch,.z 0 [],.u]] (.ret (.z s (bv (N5 (cF t key false) (cF t key true) mode back ch p).1))) [.mx [f7 t k xs,i64 mode,bool back,.z c (bv (N5 (cF t key false) (cF t key true) mode back ch p).2),.z 0 [],.u]]:=by
 subst hvp;subst hvc;have hs:=h.s_le;have lE:=h.len (back:=false) hp;have lD:=h.len (back:=true) hp;refine Qo.c ?_;refine⟨_,rfl,?_⟩;refine j5 (fun h1=> ?_) (fun h1=> ?_)
 ·subst h1;refine⟨_,rfl,?_⟩;cases back
  ·refine⟨_,rfl,?_⟩;refine⟨_,rfl,?_⟩;refine⟨[],_,_,_,_,h.enc hp rfl,rfl,rfl,?_⟩;refine⟨_,rfl,[.k 0],?_,⟨_,rfl,?_⟩,tq⟩
   ·show V.z s (sub (bv (cF t key false p)) 0 s)=_;rw[g8 lE];rfl
   ·rfl
  ·refine⟨_,rfl,?_⟩;refine⟨[],_,_,_,_,h.dec hp rfl,rfl,rfl,?_⟩;refine⟨_,rfl,[.k 0],?_,⟨_,rfl,?_⟩,tq⟩
   ·show V.z s (sub (bv (cF t key true p)) 0 s)=_;rw[g8 lD];rfl
   ·rfl
 ·obtain⟨rfl,rfl⟩:=hm.resolve_left h1;refine⟨_,rfl,?_⟩;refine⟨_,rfl,?_⟩;cases back
  ·have lx:=B0 hp hc;have lX:=h.len (back:=false) lx;refine⟨_,rfl,?_⟩;refine⟨[],_,_,_,_,M4 (a:=p) (b:=ch) rfl rfl hp hc (by omega),rfl,rfl,?_⟩;refine⟨_,rfl,?_⟩;refine⟨[],_,_,_,_,h.enc (b:=j8 p ch) lx (g8 lx),rfl,rfl,?_⟩;refine⟨[],_,_,_,_,dV (l:=cF t key false (j8 p ch)) (g8 lX) lX (by omega) (by omega),rfl,rfl,?_⟩;refine⟨Za rfl,?_⟩;refine⟨_,rfl,[.k 0],?_,⟨_,rfl,?_⟩,tq⟩
   ·show V.z c (sub (bv (cF t key false (j8 p ch))) 0 c)=_;rw[g8 lX];rfl
   ·show B.mx [f7 t k xs,i64 2,bool false,.z c (sub (bv (cF t key false (j8 p ch))) 0 c),.z 0 [],.u]=_;rw[g8 lX];rfl
  ·have lx:=B0 lD hc;refine⟨_,rfl,?_⟩;refine⟨[],_,_,_,_,h.dec hp rfl,rfl,rfl,?_⟩;refine⟨_,rfl,?_⟩;refine⟨[],_,_,_,_,M4 (a:=cF t key true p) (b:=ch) (g8 lD) rfl lD hc (by omega),rfl,rfl,?_⟩;refine⟨[],_,_,_,_,dV (l:=p) rfl hp (by omega) (by omega),rfl,rfl,?_⟩;refine⟨Za rfl,?_⟩;refine⟨_,rfl,[.k 0],?_,⟨_,rfl,?_⟩,tq⟩
   ·show V.z c (sub (bv (j8 (cF t key true p) ch)) 0 c)=_;rw[g8 lx];rfl
   ·show B.mx [f7 t k xs,i64 2,bool true,.z c (sub (bv p) 0 c),.z 0 [],.u]=_;rw[g8 hp];rfl
theorem tN {t key s k xs rs} (h:k9 t key s k xs rs) {mode:Int} {back:Bool} {st:MS} (hm:3<=mode):
  a9 C 96 [.p (.k 0) 0] [j4 (f7 t k xs) mode back st 1,j6 st.row st.gone] (.ret (i64 1)) [j4 (f7 t k xs) mode back st 1,j6 st.row st.gone]:=by
 obtain⟨ch,row,g⟩:=st;refine uR.c ?_;refine⟨_,rfl,?_⟩;refine j5 (fun h1=>absurd h1 (by omega)) (fun _=> ?_);refine j5 (fun h1=>absurd h1 (by omega)) (fun _=> ?_);cases row<;>exact⟨_,rfl,[.k 0,.k 1],rfl,⟨_,rfl,rfl⟩,⟨_,rfl,rfl⟩,tq⟩
theorem yY {t key s k xs rs} (h:k9 t key s k xs rs) {mode:Int} {back:Bool} {c:Nat} {vc:List Value} (hm:mode=1\/mode=2):
  a9 C 96 [.p (.k 0) 0] [.mx [f7 t k xs,i64 mode,bool back,.z c vc,.z 0 [],.u]] (.ret (i64 s)) [.mx [f7 t k xs,i64 mode,bool back,.z c vc,.z 0 [],.u]]:=by
 refine uR.c ?_;refine⟨_,rfl,?_⟩;refine j5 (fun h1=> ?_) (fun h1=> ?_)
 ·refine⟨_,rfl,?_⟩;refine⟨[],_,_,_,_,h.size,rfl,rfl,?_⟩;exact⟨_,rfl,[.k 0],rfl,⟨_,rfl,rfl⟩,tq⟩
 refine j5 (fun h2=> ?_) (fun h2=>absurd h2 (by omega))
 ·refine⟨_,rfl,?_⟩;refine⟨[],_,_,_,_,h.size,rfl,rfl,?_⟩;exact⟨_,rfl,[.k 0],rfl,⟨_,rfl,rfl⟩,tq⟩
theorem tV {t key s k xs rs} (h:k9 t key s k xs rs) {mode:Int} {back:Bool} {l i:Nat} {vi:List Value} {iv:Bs} (hvi:vi=bv iv) (hl:iv.length=l) (hm:1<=mode/\mode<=6) (hi:l=if mode=1 then 0 else s):
  a9 C 62 [f7 t k xs,i64 mode,bool back,.z l vi] [] (.ret (.t [.p (.k 0) 0,i64 0])) [j4 (f7 t k xs) mode back ⟨iv,[],[]⟩ i,.dead,.dead]:=by
 subst hvi;have hs:=h.s_le;have hX:j4 (f7 t k xs) mode back ⟨iv,[],[]⟩ i= .mx [f7 t k xs,i64 mode,bool back,.z l (bv iv),.z 0 [],.u]:=by
  unfold j4;rw[hl];rfl
 rw[hX];have hm':mode=1\/mode=2\/mode=3\/mode=4\/mode=5\/mode=6:=by omega
 rcases hm' with rfl|rfl|rfl|rfl|rfl|rfl
 ·rw[if_pos rfl]at hi;refine kR.w ?_;refine⟨[],_,_,_,_,h.size,rfl,rfl,?_⟩;refine n7 (fun hh=>absurd hh (by omega)) (fun _=> ?_);refine⟨[],_,_,_,_,W6 rfl hl (by omega),rfl,rfl,?_⟩;exact⟨.ret (.t [.p (.k 0) 0,i64 0]),[.mx [f7 t k xs,i64 1,bool back,.z l (bv iv),i6,i6]],⟨_,rfl,[.d 32 0],rfl,⟨_,rfl,rfl⟩,tq⟩,.ret (.refl _),.cons (.mx (.cons (.refl _) (.cons (.refl _) (.cons (.refl _) (.cons (.refl _) (.cons .nl (.cons .u .nil))))))) (.dd (.dd .nil))⟩
 ·rw[if_neg (by decide)]at hi;refine kR.w ?_;refine⟨[],_,_,_,_,h.size,rfl,rfl,?_⟩;refine n7 (fun hh=>absurd hh (by omega)) (fun _=> ?_);refine⟨[],_,_,_,_,W6 rfl hl (by omega),rfl,rfl,?_⟩;exact⟨.ret (.t [.p (.k 0) 0,i64 0]),[.mx [f7 t k xs,i64 2,bool back,.z l (bv iv),i6,i6]],⟨_,rfl,[.d 32 0],rfl,⟨_,rfl,rfl⟩,tq⟩,.ret (.refl _),.cons (.mx (.cons (.refl _) (.cons (.refl _) (.cons (.refl _) (.cons (.refl _) (.cons .nl (.cons .u .nil))))))) (.dd (.dd .nil))⟩
 ·rw[if_neg (by decide)]at hi;refine kR.w ?_;refine⟨[],_,_,_,_,h.size,rfl,rfl,?_⟩;refine n7 (fun hh=>absurd hh (by omega)) (fun _=> ?_);refine⟨[],_,_,_,_,W6 rfl hl (by omega),rfl,rfl,?_⟩;exact⟨.ret (.t [.p (.k 0) 0,i64 0]),[.mx [f7 t k xs,i64 3,bool back,.z l (bv iv),i6,i6]],⟨_,rfl,[.d 32 0],rfl,⟨_,rfl,rfl⟩,tq⟩,.ret (.refl _),.cons (.mx (.cons (.refl _) (.cons (.refl _) (.cons (.refl _) (.cons (.refl _) (.cons .nl (.cons .u .nil))))))) (.dd (.dd .nil))⟩
 ·rw[if_neg (by decide)]at hi;refine kR.w ?_;refine⟨[],_,_,_,_,h.size,rfl,rfl,?_⟩;refine n7 (fun hh=>absurd hh (by omega)) (fun _=> ?_);refine⟨[],_,_,_,_,W6 rfl hl (by omega),rfl,rfl,?_⟩;exact⟨.ret (.t [.p (.k 0) 0,i64 0]),[.mx [f7 t k xs,i64 4,bool back,.z l (bv iv),i6,i6]],⟨_,rfl,[.d 32 0],rfl,⟨_,rfl,rfl⟩,tq⟩,.ret (.refl _),.cons (.mx (.cons (.refl _) (.cons (.refl _) (.cons (.refl _) (.cons (.refl _) (.cons .nl (.cons .u .nil))))))) (.dd (.dd .nil))⟩
 ·rw[if_neg (by decide)]at hi;refine kR.w ?_;refine⟨[],_,_,_,_,h.size,rfl,rfl,?_⟩;refine n7 (fun hh=>absurd hh (by omega)) (fun _=> ?_);refine⟨[],_,_,_,_,W6 rfl hl (by omega),rfl,rfl,?_⟩;exact⟨.ret (.t [.p (.k 0) 0,i64 0]),[.mx [f7 t k xs,i64 5,bool back,.z l (bv iv),i6,i6]],⟨_,rfl,[.d 32 0],rfl,⟨_,rfl,rfl⟩,tq⟩,.ret (.refl _),.cons (.mx (.cons (.refl _) (.cons (.refl _) (.cons (.refl _) (.cons (.refl _) (.cons .nl (.cons .u .nil))))))) (.dd (.dd .nil))⟩
 ·rw[if_neg (by decide)]at hi;refine kR.w ?_;refine⟨[],_,_,_,_,h.size,rfl,rfl,?_⟩;refine n7 (fun hh=>absurd hh (by omega)) (fun _=> ?_);refine⟨[],_,_,_,_,W6 rfl hl (by omega),rfl,rfl,?_⟩;exact⟨.ret (.t [.p (.k 0) 0,i64 0]),[.mx [f7 t k xs,i64 6,bool back,.z l (bv iv),i6,i6]],⟨_,rfl,[.d 32 0],rfl,⟨_,rfl,rfl⟩,tq⟩,.ret (.refl _),.cons (.mx (.cons (.refl _) (.cons (.refl _) (.cons (.refl _) (.cons (.refl _) (.cons .nl (.cons .u .nil))))))) (.dd (.dd .nil))⟩
theorem yI {t key s k xs rs} (h:k9 t key s k xs rs) {mode:Int} {back:Bool} {st:MS} {p:UInt8} (hm:3<=mode) (K:MK s mode st):
  a9 C 121 [.p (.k 0) 0,y3 p] [j4 (f7 t k xs) mode back st 1,j6 st.row st.gone] (.ret (y3 (w7 (cF t key false) mode back st p).1)) [j4 (f7 t k xs) mode back (w7 (cF t key false) mode back st p).2 2,.dead,j6 (w7 (cF t key false) mode back st p).2.row (w7 (cF t key false) mode back st p).2.gone]:=by
 have hs:=h.s_le;have hc:st.ch.length=s:=K.ok.ch.resolve_left (by omega);have hr:=K.ok.row;have hg:=K.glen;obtain⟨ch,row,g⟩:=st;dsimp only at hc hr hg;by_cases h0:row.length=0
 ·obtain rfl:=Zm h0;exact HZ h hc
 ·have e:w7 (cF t key false) mode back ⟨ch,row,g⟩ p=K7 mode back ⟨ch,row,g⟩ p:=by unfold w7;rw[if_neg h0]
  rw[e];have hg:=hg h0;exact Ia (by omega) (by omega) (by omega) (by omega) (by omega)
def Wi (cv:V) (mode:Int) (back:Bool) (m:Nat) (b:Bs):Bool×Nat×MS×Bs->D
 |(false,i,st,o)=>⟨[(0,.p (.k 0) 0),(1,.z m (bv b)),(6,i64 1),(7,.o 1 (.k 2) 0 0)],[j4 cv mode back st 1,j6 st.row st.gone,.sc []]⟩
 |(true,i,st,o)=>⟨[(0,.p (.k 0) 0),(1,.z (m-i) (bv (b.drop i))),(6,i64 1),(7,.o 1 (.k 3) 0 i)],[j4 cv mode back st 2,.dead,j6 st.row st.gone,.sc (bv o)]⟩
theorem jH {b:Bs} {i:Nat} (h:i<b.length):b.take (i+1)=b.take i++[(b.drop i).getD 0 0]:=by
 rw[List.take_add_one,Z0 h,Zl,List.getElem?_drop,Jf,Z0 h];rfl
theorem Na {t key s k xs rs} (h:k9 t key s k xs rs) {mode:Int} {back:Bool} {st:MS} {m:Nat} {vb:List Value} {b:Bs} (hvb:vb=bv b) (hb:b.length=m) (hbm:m<=1000000) (hm:3<=mode) (K:MK s mode st) (hne:0<m\/st.row=[]):
  a9 C 66 [.p (.k 0) 0,.z m vb] [j4 (f7 t k xs) mode back st 1,j6 st.row st.gone] (.ret (.t [.z m (bv (A2 (cF t key false) mode back st b).1),i64 0])) [j4 (f7 t k xs) mode back (A2 (cF t key false) mode back st b).2 2,.dead,j6 (A2 (cF t key false) mode back st b).2.row (A2 (cF t key false) mode back st b).2.gone]:=by
 subst hvb;have hs:=h.s_le;have hci:=h.ci;have G:=tN h (back:=back) (st:=st) hm;refine qj.w ?_;refine⟨0,Bool×Nat×MS×Bs,Wi (f7 t k xs) mode back m b,fun x=>x.2.1<=m/\(A2 (cF t key false) mode back st (b.take x.2.1))=(x.2.2.2,x.2.2.1)/\MK s mode x.2.2.1/\(x.1=false->x.2.1=0),fun x=>m-x.2.1,?_,fun x hx=> ?_⟩
 ·obtain⟨ch,row,g⟩:=st;cases row;all_goals
   refine⟨[.k 0,.k 1],_,_,_,_,G,rfl,rfl,?_⟩;refine⟨by decide,?_⟩;refine d9 (fun h=>absurd h (by rw[Ji];decide)) (fun _=> ?_);refine⟨by decide,by omega,by omega,?_⟩;exact⟨[],(false,0,_,[]),⟨Zx _,rfl,K,fun _=>rfl⟩,[.k 0,.k 1,.d 17 0],⟨rfl,rfl,rfl,rfl,tq⟩,⟨_,rfl,rfl⟩,⟨_,rfl,rfl⟩,⟨_,rfl,rfl⟩,tq⟩
 ·obtain⟨f,i,⟨ch,row,g⟩,o⟩:=x;obtain⟨h1,h2,h3,h4⟩:=hx;dsimp only at h1 h2 h3 h4;cases f
  ·obtain rfl:=h4 rfl;have e:(([]:Bs),st)=(o,⟨ch,row,g⟩):=h2;obtain⟨rfl,rfl⟩:=Prod.mk.inj e;refine j5 (fun h0=> ?_) (fun h0=> ?_)
   ·obtain rfl:m=0:=by omega
    obtain rfl:=Zm hb;obtain rfl:row=[]:=hne.resolve_left (by omega);exact⟨.ret (.t [.z 0 [],i64 0]),[j4 (f7 t k xs) mode back ⟨ch,[],g⟩ 2,.dead],⟨_,rfl,[.k 0,.k 1],rfl,⟨_,rfl,rfl⟩,⟨_,rfl,rfl⟩,tq⟩,.ret (.refl _),.cons (.refl _) (.cons (.refl _) (.dd .nil))⟩
   ·have HB:=yI h (back:=back) (p:=b.getD 0 0) hm K;have hN:=K.one hci (by omega) hm (back:=back) (b.getD 0 0);have hT:A2 (cF t key false) mode back ⟨ch,row,g⟩ (b.take (0+1))=([(w7 (cF t key false) mode back ⟨ch,row,g⟩ (b.getD 0 0)).1],(w7 (cF t key false) mode back ⟨ch,row,g⟩ (b.getD 0 0)).2):=by
     rw[jH (by omega),lL];rfl
    generalize w7 (cF t key false) mode back ⟨ch,row,g⟩ (b.getD 0 0)=x at*
    obtain⟨o',⟨ch',row',g'⟩⟩:=x;dsimp only at HB hN hT;have hsl:sub (bv b) 1 (m-1)=bv (b.drop 1):=y4 hb (by omega);cases row<;>cases row'<;>(
     refine⟨by omega,by omega,_,p5 (k:=b) (i:=0) (by omega),?_⟩;refine⟨[.k 0,.k 1],_,_,_,_,HB,rfl,rfl,?_⟩;refine⟨Zf _,by omega,by decide,?_⟩;refine⟨by omega,by omega,by omega,by omega,?_⟩;exact⟨rfl,(true,0+1,⟨ch',_,g'⟩,[o']),⟨by show 0+1<=m;omega,hT,hN,fun h=>by cases h⟩,(by show m-(0+1)<m-0;omega),[.k 0,.k 1,.d 38 2,.d 40 0],⟨rfl,congrArg (V.z _) hsl,rfl,rfl,tq⟩,⟨_,rfl,rfl⟩,⟨_,rfl,rfl⟩,⟨_,rfl,rfl⟩,⟨_,rfl,g9 (V6 rfl)⟩,tq⟩)
  ·have lo:o.length=i:=by
    have:=qQ (cF t key false) mode back (b.take i) st;rw[h2,Zs]at this;dsimp only at this;omega
   refine j5 (fun h0=> ?_) (fun h0=> ?_)
   ·obtain rfl:i=m:=by omega
    rw[Zq (by omega)]at h2;rw[h2];rcases row with _|⟨a,r⟩
    ·exact⟨_,[j4 (f7 t k xs) mode back ⟨ch,[],g⟩ 2,.dead,j6 [] g],⟨_,rfl,[.k 0,.k 1,.k 2],congrArg (fun x=>V.t [x,i64 0]) (congrArg (V.z i) (g8 lo)),⟨_,rfl,rfl⟩,⟨_,rfl,rfl⟩,⟨_,rfl,rfl⟩,tq⟩,.ret (.refl _),.cons (.refl _) (.cons (.refl _) (.cons (.refl _) .nil))⟩
    ·exact⟨_,[j4 (f7 t k xs) mode back ⟨ch,a::r,g⟩ 2,.dead,j6 (a::r) g],⟨_,rfl,[.k 0,.k 1,.k 2],congrArg (fun x=>V.t [x,i64 0]) (congrArg (V.z i) (g8 lo)),⟨_,rfl,rfl⟩,⟨_,rfl,rfl⟩,⟨_,rfl,rfl⟩,tq⟩,.ret (.refl _),.cons (.refl _) (.cons (.refl _) (.cons (.refl _) .nil))⟩
   ·have lt:i<m:=by omega
    have ld:(b.drop i).length=m-i:=by rw[Ze,hb]
    have HB:=yI h (back:=back) (p:=(b.drop i).getD 0 0) hm h3;have hN:=h3.one hci (by omega) hm (back:=back) ((b.drop i).getD 0 0);have hT:A2 (cF t key false) mode back st (b.take (i+1))=(o++[(w7 (cF t key false) mode back ⟨ch,row,g⟩ ((b.drop i).getD 0 0)).1],(w7 (cF t key false) mode back ⟨ch,row,g⟩ ((b.drop i).getD 0 0)).2):=by
     rw[jH (by omega),lL,h2]
    generalize w7 (cF t key false) mode back ⟨ch,row,g⟩ ((b.drop i).getD 0 0)=x at*
    obtain⟨o',⟨ch',row',g'⟩⟩:=x;dsimp only at HB hN hT;have hsl:sub (bv (b.drop i)) 1 (m-i-1)=bv (b.drop (i+1)):=by rw[y4 ld (by omega),Ja]
    cases row<;>cases row'<;>(
     refine⟨by omega,by omega,_,p5 (k:=b.drop i) (i:=0) (by omega),?_⟩;refine⟨[.k 0,.k 2],_,_,_,_,HB,rfl,rfl,?_⟩;refine⟨Zf _,by omega,by rw[i9,lo];omega,?_⟩;refine⟨by omega,by omega,by omega,by omega,?_⟩;exact⟨rfl,(true,i+1,⟨ch',_,g'⟩,o++[o']),⟨by show i+1<=m;omega,hT,hN,fun h=>by cases h⟩,(by show m-(i+1)<m-i;omega),[.k 0,.k 1,.d 38 2,.d 40 0],⟨rfl,congrArg (V.z _) hsl,rfl,rfl,tq⟩,⟨_,rfl,rfl⟩,⟨_,rfl,rfl⟩,⟨_,rfl,rfl⟩,⟨_,rfl,g9 (bo lo rfl)⟩,tq⟩)
theorem zJ {t key s k xs rs} (h:k9 t key s k xs rs) {mode:Int} {back:Bool} {st:MS} {vb:List Value} (hm:3<=mode):
  a9 C 66 [.p (.k 0) 0,.z 0 vb] [j4 (f7 t k xs) mode back st 1,j6 st.row st.gone] (.ret (.t [.z 0 [],i64 0])) [j4 (f7 t k xs) mode back st 1,j6 st.row st.gone]:=by
 have G:=tN h (back:=back) (st:=st) hm;refine qj.c ?_;refine⟨0,Unit,fun _=>⟨[(0,.p (.k 0) 0),(1,.z 0 vb),(6,i64 1),(7,.o 1 (.k 2) 0 0)],[j4 (f7 t k xs) mode back st 1,j6 st.row st.gone,.sc []]⟩,fun _=>True,fun _=>0,?_,fun x hx=> ?_⟩
 ·obtain⟨ch,row,g⟩:=st;cases row;all_goals
   refine⟨[.k 0,.k 1],_,_,_,_,G,rfl,rfl,?_⟩;refine⟨by decide,?_⟩;refine⟨by decide,by omega,by omega,?_⟩;exact⟨[],(),tq,[.k 0,.k 1,.d 17 0],⟨rfl,rfl,rfl,rfl,tq⟩,⟨_,rfl,rfl⟩,⟨_,rfl,rfl⟩,⟨_,rfl,rfl⟩,tq⟩
 ·obtain⟨ch,row,g⟩:=st;cases row;all_goals
   exact⟨_,rfl,[.k 0,.k 1],rfl,⟨_,rfl,rfl⟩,⟨_,rfl,rfl⟩,tq⟩
def Wh (cv:V) (mode:Int) (back:Bool) (m s c:Nat) (b:Bs):Nat×Nat×Bs×Bs->D
 |(i,q,o,c')=>⟨[(0,.p (.k 0) 0),(1,.z (m-q) (bv (b.drop q))),(6,i64 s),(7,.o 1 (.k 2) 0 q)],[.mx [cv,i64 mode,bool back,.z c (bv c'),.z 0 [],.u],.dead,.sc (bv o)]⟩
theorem MZ {t key s k xs rs} (h:k9 t key s k xs rs) {mode:Int} {back:Bool} {c m:Nat} {vb:List Value} {ch b:Bs} (hvb:vb=bv b) (hb:b.length=m) (hbm:m<=1000000) (hm:mode=1\/mode=2/\c=s) (hc:ch.length=c) (hg:m%s=0):
  a9 C 66 [.p (.k 0) 0,.z m vb] [.mx [f7 t k xs,i64 mode,bool back,.z c (bv ch),.z 0 [],.u],.dead] (.ret (.t [.z m (bv (t4 (cF t key false) (cF t key true) mode back s b ch (m/s)).1),i64 0])) [.mx [f7 t k xs,i64 mode,bool back,.z c (bv (t4 (cF t key false) (cF t key true) mode back s b ch (m/s)).2),.z 0 [],.u],.dead,.dead]:=by
 subst hvb;have hs:=h.s_le;have hci:=h.ci;have hdm:=Zo m s;have hm12:mode=1\/mode=2:=by omega
 have G:=yY h (back:=back) (c:=c) (vc:=bv ch) hm12;refine qj.w ?_;refine⟨0,Nat×Nat×Bs×Bs,Wh (f7 t k xs) mode back m s c b,fun x=>x.2.1=s*x.1/\x.2.1<=m/\t4 (cF t key false) (cF t key true) mode back s b ch x.1=(x.2.2.1,x.2.2.2)/\x.2.2.1.length=x.2.1/\x.2.2.2.length=c,fun x=>m-x.2.1,?_,fun x hx=> ?_⟩
 ·refine⟨[.k 0],_,_,_,_,G,rfl,rfl,?_⟩;refine⟨by omega,?_⟩;refine d9 (fun h=>absurd h ?_) (fun _=> ?_)
  ·have:((m:Int).tmod (s:Int))=((m%s:Nat):Int):=by rw[Zi (by omega)];rfl
   rw[this,hg];decide
  refine⟨by decide,by omega,by omega,?_⟩;exact⟨[],(0,0,[],ch),⟨by show 0=s*0;omega,Zx _,rfl,rfl,hc⟩,[.k 0,.k 1,.d 17 0],⟨rfl,rfl,rfl,rfl,tq⟩,⟨_,rfl,rfl⟩,⟨_,rfl,rfl⟩,⟨_,rfl,rfl⟩,tq⟩
 ·obtain⟨i,q,o,c'⟩:=x;obtain⟨h1,h2,h3,h4,h5⟩:=hx;dsimp only at h1 h2 h3 h4 h5;have ld:(b.drop q).length=m-q:=by rw[Ze,hb]
  refine j5 (fun h0=> ?_) (fun h0=> ?_)
  ·obtain rfl:q=m:=by omega
   have hi:q/s=i:=by rw[h1,Z1 _ (by omega)]
   rw[hi,h3];exact⟨_,[.mx [f7 t k xs,i64 mode,bool back,.z c (bv c'),.z 0 [],.u],.dead],⟨_,rfl,[.k 0,.k 1],congrArg (fun x=>V.t [x,i64 0]) (congrArg (V.z q) (g8 h4)),⟨_,rfl,rfl⟩,⟨_,rfl,rfl⟩,tq⟩,.ret (.refl _),.cons (.refl _) (.cons (.refl _) (.dd .nil))⟩
  ·have hq:q+s<=m:=by
    have e1:m=s*(m/s):=by omega
    have:i<m/s:=by
     refine Zu (a:=s) ?_;omega
    have:=Zz s this;rw[Zv]at this;omega
   have lp:(sub b q s).length=s:=by rw[l4];omega
   have hvp:sub (bv (b.drop q)) 0 s=bv (sub b q s):=m8 _ _ _;have hn:t4 (cF t key false) (cF t key true) mode back s b ch (i+1)=(o++(N5 (cF t key false) (cF t key true) mode back c' (sub b q s)).1,(N5 (cF t key false) (cF t key true) mode back c' (sub b q s)).2):=by
    rw[jt,h3,<-h1]
   have HB:=HW h (mode:=mode) (back:=back) hvp rfl lp h5 hm;have hl:=qP (back:=back) hci hm12 (c:=c') (p:=sub b q s) (by omega) lp;have hl2:(N5 (cF t key false) (cF t key true) mode back c' (sub b q s)).2.length=c:=by
    rcases hm with rfl|⟨rfl,rfl⟩
    ·rw[<-h5];rfl
    ·exact hl.2.resolve_left (by decide)
   have hl1:=hl.1;generalize N5 (cF t key false) (cF t key true) mode back c' (sub b q s)=x at*
   obtain⟨o',c2⟩:=x;dsimp only at HB hn hl1 hl2;have hsl:sub (bv (b.drop q)) s (m-q-s)=bv (b.drop (q+s)):=by rw[y4 ld (by omega),Ja]
   refine j5 (fun h=>absurd h (by omega)) (fun _=> ?_);refine⟨by omega,by omega,by omega,by omega,?_⟩;refine⟨[.k 0],_,_,_,_,HB,rfl,rfl,?_⟩;refine⟨by first|omega|(rw [i9];omega),by omega,by rw[i9,h4];omega,?_⟩;refine⟨by omega,by omega,by omega,by omega,?_⟩;refine⟨rfl,(i+1,q+s,o++o',c2),⟨by show q+s=s*(i+1);rw[Zv];omega,hq,hn,by rw[Zc,h4,hl1],hl2⟩,(by show m-(q+s)<m-q;omega),[.k 0,.k 1,.d 24 0],⟨rfl,?_,rfl,rfl,tq⟩,⟨_,rfl,rfl⟩,⟨_,rfl,rfl⟩,⟨_,rfl,g9 ?_⟩,tq⟩
   ·show V.z (m-q-s) (sub (bv (b.drop q)) s (m-q-s))=V.z (m-(q+s)) _;rw[hsl,Nat.sub_sub]
   ·show sub (bv o) 0 (q*1)++bv o'=_;rw[Zj,g8 h4,A5]
theorem Cp (E D back n) (b c:Bs):∀i,(t4 E D 1 back n b c i).2=c
 |0=>rfl
 |i+1=>by
  rw[jt];show(N5 E D 1 back (t4 E D 1 back n b c i).2 (sub b (n*i) n)).2=c;unfold N5;rw[if_pos rfl];exact Cp E D back n b c i
theorem Cq {E D:Bs->Bs} {n:Nat} {mode:Int} {back:Bool} {b c:Bs} (h:CI E D n) (hm:mode=1\/mode=2/\c.length=n) {i:Nat} (hi:n*i<=b.length):(t4 E D mode back n b c i).2.length=c.length:=by
 rcases hm with rfl|⟨rfl,hc⟩
 ·rw[Cp]
 ·rw[((js (back:=back) h (.inr rfl) (.inr hc) i hi).2).resolve_left (by decide),hc]
theorem zI {t key s k xs rs} (h:k9 t key s k xs rs) {mode:Int} {back:Bool} {st:MS} {m:Nat} {vb:List Value} {b:Bs} (hvb:vb=bv b) (hb:b.length=m) (hbm:m<=1000000) (K:MK s mode st) (hg:m%o6 s mode=0) (hne:0<m\/st.row=[]):
  a9 C 66 [.p (.k 0) 0,.z m vb] [j4 (f7 t k xs) mode back st 1,j6 st.row st.gone] (.ret (.t [.z m (bv (k5 (cF t key false) (cF t key true) s mode back st b).1),i64 0])) [j4 (f7 t k xs) mode back (k5 (cF t key false) (cF t key true) s mode back st b).2 2,.dead,j6 (k5 (cF t key false) (cF t key true) s mode back st b).2.row (k5 (cF t key false) (cF t key true) s mode back st b).2.gone]:=by
 by_cases hm:mode=1\/mode=2
 ·have hr:=K.ok.blk hm;have hc:=K.ok.ch;obtain⟨ch,row,g⟩:=st;dsimp only at hr hc;subst hr;have e:k5 (cF t key false) (cF t key true) s mode back ⟨ch,[],g⟩ b=((t4 (cF t key false) (cF t key true) mode back s b ch (m/s)).1,⟨(t4 (cF t key false) (cF t key true) mode back s b ch (m/s)).2,[],g⟩):=by
   unfold k5;rw[if_pos hm,hb]
  have hg':m%s=0:=by unfold o6 at hg;rwa [if_pos hm]at hg
  have hdm:=Zo m s;have hl:=Cq (back:=back) h.ci (b:=b) (c:=ch) (i:=m/s) (mode:=mode) (by omega) (by omega);have HB:=MZ h (back:=back) hvb hb hbm (ch:=ch) (c:=ch.length) (mode:=mode) (by omega) rfl hg';rw[e];show a9 C 66 [.p (.k 0) 0,.z m vb] [.mx [f7 t k xs,i64 mode,bool back,.z ch.length (bv ch),.z 0 [],.u],.dead] _ [.mx [f7 t k xs,i64 mode,bool back,.z (t4 (cF t key false) (cF t key true) mode back s b ch (m/s)).2.length (bv (t4 (cF t key false) (cF t key true) mode back s b ch (m/s)).2),.z 0 [],.u],.dead,.dead];rw[hl];exact HB
 ·have e:k5 (cF t key false) (cF t key true) s mode back st b=A2 (cF t key false) mode back st b:=by
   unfold k5;rw[if_neg hm]
  rw[e];exact Na h hvb hb hbm (by have:=K.ok.m;omega) K hne
theorem MY {t key s k xs rs} (h:k9 t key s k xs rs) {mode:Int} {back:Bool} {st:MS} {m:Nat} {vb:List Value} (K:MK s mode st) (hg:m%o6 s mode≠0):
  a9 C 66 [.p (.k 0) 0,.z m vb] [j4 (f7 t k xs) mode back st 1,j6 st.row st.gone] (.ret (.t [i6,i64 7])) [j4 (f7 t k xs) mode back st 1,j6 st.row st.gone]:=by
 have hs:=h.s_le;have hm:mode=1\/mode=2:=by
  refine Classical.byContradiction fun hm=>hg ?_;unfold o6;rw[if_neg hm,Nat.mod_one]
 have hr:=K.ok.blk hm;obtain⟨ch,row,g⟩:=st;dsimp only at hr;subst hr;have hg':m%s≠0:=by unfold o6 at hg;rwa [if_pos hm]at hg
 have G:=yY h (back:=back) (c:=ch.length) (vc:=bv ch) hm;refine qj.c ?_;refine⟨0,Unit,fun _=>⟨[],[]⟩,fun _=>False,fun _=>0,?_,fun x hx=>hx.elim⟩;refine⟨[.k 0],_,_,_,_,G,rfl,rfl,?_⟩;refine⟨by omega,?_⟩;refine d9 (fun _=> ?_) (fun h=>absurd ?_ h)
 ·exact⟨_,rfl,[.k 0,.k 1],rfl,⟨_,rfl,rfl⟩,⟨_,rfl,rfl⟩,tq⟩
 ·have:((m:Int).tmod (s:Int))=((m%s:Nat):Int):=by rw[Zi (by omega)];rfl
  rw[this];omega
theorem zk {t key s k xs rs} (h:k9 t key s k xs rs) {mode:Int} {back:Bool} {c:Nat} {p ch:Bs} {vp vch:List Value} (hvp:vp=bv p) (hvc:vch=bv ch) (hp:p.length=s) (hc:ch.length=c) (hm:mode=1\/mode=2/\c=s):
  a9 C 69 [.p (.k 0) 0,.z s vp] [.mx [.q rs 0,i64 mode,bool back,.z c vch,.z 0 [],i64 0,.u]] (.ret (.z s (bv (N5 (cF t key false) (cF t key true) mode back ch p).1))) [.mx [.q rs 0,i64 mode,bool back,.z c (bv (N5 (cF t key false) (cF t key true) mode back ch p).2),.z 0 [],i64 0,.u]]:=by
 subst hvp;subst hvc;have hs:=h.s_le;have lE:=h.len (back:=false) hp;have lD:=h.len (back:=true) hp;refine Rb.c ?_;refine⟨_,rfl,?_⟩;refine j5 (fun h1=> ?_) (fun h1=> ?_)
 ·subst h1;refine⟨_,rfl,?_⟩;cases back
  ·refine⟨_,rfl,?_⟩;refine⟨_,rfl,?_⟩;refine⟨[],_,_,_,_,h.E hp rfl,rfl,rfl,?_⟩;refine⟨_,rfl,[.k 0],?_,⟨_,rfl,?_⟩,tq⟩
   ·show V.z s (sub (bv (cF t key false p)) 0 s)=_;rw[g8 lE];rfl
   ·rfl
  ·refine⟨_,rfl,?_⟩;refine⟨[],_,_,_,_,h.Un hp rfl,rfl,rfl,?_⟩;refine⟨_,rfl,[.k 0],?_,⟨_,rfl,?_⟩,tq⟩
   ·show V.z s (sub (bv (cF t key true p)) 0 s)=_;rw[g8 lD];rfl
   ·rfl
 ·obtain⟨rfl,rfl⟩:=hm.resolve_left h1;refine⟨_,rfl,?_⟩;refine⟨_,rfl,?_⟩;cases back
  ·have lx:=B0 hp hc;have lX:=h.len (back:=false) lx;refine⟨_,rfl,?_⟩;refine⟨_,rfl,?_⟩;refine⟨[],_,_,_,_,H4 (a:=p) (b:=ch) rfl rfl hp hc (by omega),rfl,rfl,?_⟩;refine⟨[],_,_,_,_,h.E (b:=j8 p ch) lx (g8 lx),rfl,rfl,?_⟩;refine⟨Za rfl,?_⟩;refine⟨_,rfl,?_⟩;refine⟨_,rfl,[.k 0],?_,⟨_,rfl,?_⟩,tq⟩
   ·show V.z c (sub (bv (cF t key false (j8 p ch))) 0 c)=_;rw[g8 lX];rfl
   ·show B.mx [.q rs 0,i64 2,bool false,.z c (sub (bv (cF t key false (j8 p ch))) 0 c),.z 0 [],i64 0,.u]=_;rw[g8 lX];rfl
  ·have lx:=B0 lD hc;refine⟨_,rfl,?_⟩;refine⟨[],_,_,_,_,h.Un hp rfl,rfl,rfl,?_⟩;refine⟨_,rfl,?_⟩;refine⟨[],_,_,_,_,H4 (a:=cF t key true p) (b:=ch) (g8 lD) rfl lD hc (by omega),rfl,rfl,?_⟩;refine⟨by rw[i9];omega,by omega,by decide,?_⟩;refine⟨Za rfl,?_⟩;refine⟨_,rfl,[.k 0],?_,⟨_,rfl,?_⟩,tq⟩
   ·show V.z c (sub (bv (j8 (cF t key true p) ch)) 0 c)=_;rw[g8 lx];rfl
   ·show B.mx [.q rs 0,i64 2,bool true,.z (0+c) (sub ([]++bv p) 0 (0+c)),.z 0 [],i64 0,.u]=_;rw[Zk,Zn,g8 hp];rfl
theorem MU {t key s k xs rs} (h:k9 t key s k xs rs) {mode:Int} {back:Bool} {r u:Nat} {p:UInt8} {ch:Bs} {vch vr:List Value} (hvc:vch=bv ch) (hl:ch.length=s):
  a9 C 70 [.p (.k 0) 0,y3 p] [.mx [.q rs 0,i64 mode,bool back,.z s vch,.z r vr,i64 u,.u]] (.ret (y3 (p^^^(cF t key false ch).getD 0 0))) [.mx [.q rs 0,i64 mode,bool back,.z s (bv (ch.drop 1++[m9 back p (p^^^(cF t key false ch).getD 0 0)])),.z r vr,i64 u,.u]]:=by
 subst hvc;have hs:=h.s_le;have lE:=h.len (back:=false) hl;have ld:(ch.drop 1).length=s-1:=by rw[Ze,hl]
 refine Rc.c ?_;refine⟨_,rfl,?_⟩;refine⟨_,rfl,?_⟩;refine⟨[],_,_,_,_,h.E hl rfl,rfl,rfl,?_⟩;generalize cF t key false ch=E at*
 refine⟨by omega,by omega,_,p5 (k:=E) (i:=0) (by omega),?_⟩;refine⟨_,rfl,?_⟩;cases back
 ·refine⟨_,rfl,?_⟩;refine⟨by omega,by omega,by omega,by omega,?_⟩;refine⟨by rw[l4,i9];omega,by omega,by decide,?_⟩;refine⟨Zf _,by omega,by show 0+(0+(s-1))*1<=_;rw[Zc,l4,l4,i9];omega,?_⟩;refine⟨Za rfl,?_⟩;refine⟨_,rfl,[.k 0],?_,⟨_,rfl,?_⟩,tq⟩
  ·show V.s (.int .u8 (U8.wrap _))=_;rw[n5]
  ·show B.mx [.q rs 0,i64 mode,bool false,.z (0+(s-1)+1) (sub (sub ([]++sub (bv ch) 1 (s-1)) 0 ((0+(s-1))*1)++sub [Value.int .u8 _] 0 (1*1)) 0 (0+(s-1)+1)),.z r vr,i64 u,.u]=_;rw[Zk,Zn,y4 hl (by omega),T2 ld (n5 _ _),show s-1+1=s by omega];rfl
 ·refine⟨_,rfl,?_⟩;refine⟨by omega,by omega,by omega,by omega,?_⟩;refine⟨by rw[l4,i9];omega,by omega,by decide,?_⟩;refine⟨Zf _,by omega,by show 0+(0+(s-1))*1<=_;rw[Zc,l4,l4,i9];omega,?_⟩;refine⟨Za rfl,?_⟩;refine⟨_,rfl,[.k 0],?_,⟨_,rfl,?_⟩,tq⟩
  ·show V.s (.int .u8 (U8.wrap _))=_;rw[n5]
  ·show B.mx [.q rs 0,i64 mode,bool true,.z (0+(s-1)+1) (sub (sub ([]++sub (bv ch) 1 (s-1)) 0 ((0+(s-1))*1)++sub [Value.int .u8 _] 0 (1*1)) 0 (0+(s-1)+1)),.z r vr,i64 u,.u]=_;rw[Zk,Zn,y4 hl (by omega),T2 ld rfl,show s-1+1=s by omega];rfl
theorem HX {t key s k xs rs} (h:k9 t key s k xs rs) {mode:Int} {back:Bool} {r u:Nat} {p:UInt8} {ch:Bs} {vch vr:List Value} (hvc:vch=bv ch) (hl:ch.length=s) (hm:mode=4\/mode=5\/mode=6) (hr:r=0\/u=r):
  a9 C 71 [.p (.k 0) 0,y3 p] [.mx [.q rs 0,i64 mode,bool back,.z s vch,.z r vr,i64 u,.u],.dead] (.ret (y3 (p^^^(cF t key false ch).getD 0 0))) [.mx [.q rs 0,i64 mode,bool back,.z s (bv (cM (cF t key false) mode ch)),.z s (bv (cF t key false ch)),i64 1,.o 1 (.k 2) 0 1],.dead,.sc (bv ([]++[m9 back p (p^^^(cF t key false ch).getD 0 0)]))]:=by
 subst hvc;have hs:=h.s_le;have lE:=h.len (back:=false) hl;have hE:=h.E hl (va:=bv ch) rfl;have lI:(W9 ch).length=s:=by rw[nS,hl]
 rcases hm with rfl|rfl|rfl
 ·have e:cM (cF t key false) 4 ch=ch:=by unfold cM;rw[if_neg (by decide),if_neg (by decide)]
  rw[e];generalize cF t key false ch=E at*
  cases back
  ·refine U9.c ?_;refine⟨_,rfl,?_⟩;refine j5 (fun h0=> ?_) (fun h0=> ?_)
   ·refine⟨_,rfl,?_⟩;refine⟨_,rfl,?_⟩;refine⟨[],_,_,_,_,hE,rfl,rfl,?_⟩;refine⟨Za rfl,?_⟩;refine⟨Za rfl,?_⟩;refine⟨_,rfl,?_⟩;refine⟨Za rfl,?_⟩;refine⟨_,rfl,?_⟩;refine⟨_,rfl,?_⟩;refine⟨by omega,by omega,_,p5 (k:=E) (i:=0) (by omega),?_⟩;refine⟨_,rfl,?_⟩;refine⟨Za rfl,?_⟩;refine⟨_,rfl,?_⟩;refine⟨_,rfl,?_⟩;refine⟨Zf _,by omega,?_⟩;refine⟨Za rfl,?_⟩;refine⟨_,rfl,?_⟩;refine⟨_,rfl,?_⟩;refine⟨_,rfl,?_⟩;refine j5 (fun hh=>absurd hh (by omega)) (fun _=> ?_);refine⟨_,rfl,[.k 0,.k 1,.d 98 0],?_,⟨_,rfl,?_⟩,⟨_,rfl,rfl⟩,⟨_,rfl,g9 ?_⟩,tq⟩
    ·show V.s (.int .u8 (U8.wrap _))=_;rw[n5]
    ·show B.mx [.q rs 0,i64 4,bool false,.z s (bv ch),.z s (sub (bv E) 0 s),i64 1,.o 1 (.k 2) 0 1]=_;rw[g8 lE]
    ·exact V6 (n5 _ _)
   ·refine⟨_,rfl,?_⟩;refine⟨_,rfl,?_⟩;refine j5 (fun _=> ?_) (fun hh=>absurd (show (u:Int)=(r:Int) by omega) hh);refine⟨_,rfl,?_⟩;refine⟨_,rfl,?_⟩;refine⟨[],_,_,_,_,hE,rfl,rfl,?_⟩;refine⟨Za rfl,?_⟩;refine⟨Za rfl,?_⟩;refine⟨_,rfl,?_⟩;refine⟨Za rfl,?_⟩;refine⟨_,rfl,?_⟩;refine⟨_,rfl,?_⟩;refine⟨by omega,by omega,_,p5 (k:=E) (i:=0) (by omega),?_⟩;refine⟨_,rfl,?_⟩;refine⟨Za rfl,?_⟩;refine⟨_,rfl,?_⟩;refine⟨_,rfl,?_⟩;refine⟨Zf _,by omega,?_⟩;refine⟨Za rfl,?_⟩;refine⟨_,rfl,?_⟩;refine⟨_,rfl,?_⟩;refine⟨_,rfl,?_⟩;refine j5 (fun hh=>absurd hh (by omega)) (fun _=> ?_);refine⟨_,rfl,[.k 0,.k 1,.d 98 0],?_,⟨_,rfl,?_⟩,⟨_,rfl,rfl⟩,⟨_,rfl,g9 ?_⟩,tq⟩
    ·show V.s (.int .u8 (U8.wrap _))=_;rw[n5]
    ·show B.mx [.q rs 0,i64 4,bool false,.z s (bv ch),.z s (sub (bv E) 0 s),i64 1,.o 1 (.k 2) 0 1]=_;rw[g8 lE]
    ·exact V6 (n5 _ _)
  ·refine U9.c ?_;refine⟨_,rfl,?_⟩;refine j5 (fun h0=> ?_) (fun h0=> ?_)
   ·refine⟨_,rfl,?_⟩;refine⟨_,rfl,?_⟩;refine⟨[],_,_,_,_,hE,rfl,rfl,?_⟩;refine⟨Za rfl,?_⟩;refine⟨Za rfl,?_⟩;refine⟨_,rfl,?_⟩;refine⟨Za rfl,?_⟩;refine⟨_,rfl,?_⟩;refine⟨_,rfl,?_⟩;refine⟨by omega,by omega,_,p5 (k:=E) (i:=0) (by omega),?_⟩;refine⟨_,rfl,?_⟩;refine⟨Za rfl,?_⟩;refine⟨_,rfl,?_⟩;refine⟨_,rfl,?_⟩;refine⟨Zf _,by omega,?_⟩;refine⟨Za rfl,?_⟩;refine⟨_,rfl,?_⟩;refine⟨_,rfl,?_⟩;refine⟨_,rfl,?_⟩;refine j5 (fun hh=>absurd hh (by omega)) (fun _=> ?_);refine⟨_,rfl,[.k 0,.k 1,.d 98 0],?_,⟨_,rfl,?_⟩,⟨_,rfl,rfl⟩,⟨_,rfl,g9 ?_⟩,tq⟩
    ·show V.s (.int .u8 (U8.wrap _))=_;rw[n5]
    ·show B.mx [.q rs 0,i64 4,bool true,.z s (bv ch),.z s (sub (bv E) 0 s),i64 1,.o 1 (.k 2) 0 1]=_;rw[g8 lE]
    ·exact V6 rfl
   ·refine⟨_,rfl,?_⟩;refine⟨_,rfl,?_⟩;refine j5 (fun _=> ?_) (fun hh=>absurd (show (u:Int)=(r:Int) by omega) hh);refine⟨_,rfl,?_⟩;refine⟨_,rfl,?_⟩;refine⟨[],_,_,_,_,hE,rfl,rfl,?_⟩;refine⟨Za rfl,?_⟩;refine⟨Za rfl,?_⟩;refine⟨_,rfl,?_⟩;refine⟨Za rfl,?_⟩;refine⟨_,rfl,?_⟩;refine⟨_,rfl,?_⟩;refine⟨by omega,by omega,_,p5 (k:=E) (i:=0) (by omega),?_⟩;refine⟨_,rfl,?_⟩;refine⟨Za rfl,?_⟩;refine⟨_,rfl,?_⟩;refine⟨_,rfl,?_⟩;refine⟨Zf _,by omega,?_⟩;refine⟨Za rfl,?_⟩;refine⟨_,rfl,?_⟩;refine⟨_,rfl,?_⟩;refine⟨_,rfl,?_⟩;refine j5 (fun hh=>absurd hh (by omega)) (fun _=> ?_);refine⟨_,rfl,[.k 0,.k 1,.d 98 0],?_,⟨_,rfl,?_⟩,⟨_,rfl,rfl⟩,⟨_,rfl,g9 ?_⟩,tq⟩
    ·show V.s (.int .u8 (U8.wrap _))=_;rw[n5]
    ·show B.mx [.q rs 0,i64 4,bool true,.z s (bv ch),.z s (sub (bv E) 0 s),i64 1,.o 1 (.k 2) 0 1]=_;rw[g8 lE]
    ·exact V6 rfl
 ·have e:cM (cF t key false) 5 ch=cF t key false ch:=by unfold cM;rw[if_pos rfl]
  rw[e];generalize cF t key false ch=E at*
  cases back
  ·refine U9.c ?_;refine⟨_,rfl,?_⟩;refine j5 (fun h0=> ?_) (fun h0=> ?_)
   ·refine⟨_,rfl,?_⟩;refine⟨_,rfl,?_⟩;refine⟨[],_,_,_,_,hE,rfl,rfl,?_⟩;refine⟨Za rfl,?_⟩;refine⟨Za rfl,?_⟩;refine⟨_,rfl,?_⟩;refine⟨_,rfl,?_⟩;refine⟨Za rfl,?_⟩;refine⟨Za rfl,?_⟩;refine⟨_,rfl,?_⟩;refine⟨_,rfl,?_⟩;refine⟨by omega,by omega,_,p5 (k:=E) (i:=0) (by omega),?_⟩;refine⟨_,rfl,?_⟩;refine⟨Za rfl,?_⟩;refine⟨_,rfl,?_⟩;refine⟨_,rfl,?_⟩;refine⟨Zf _,by omega,?_⟩;refine⟨Za rfl,?_⟩;refine⟨_,rfl,?_⟩;refine⟨_,rfl,[.k 0,.k 1,.d 98 0],?_,⟨_,rfl,?_⟩,⟨_,rfl,rfl⟩,⟨_,rfl,g9 ?_⟩,tq⟩
    ·show V.s (.int .u8 (U8.wrap _))=_;rw[n5]
    ·show B.mx [.q rs 0,i64 5,bool false,.z s (sub (bv E) 0 s),.z s (sub (bv E) 0 s),i64 1,.o 1 (.k 2) 0 1]=_;rw[g8 lE]
    ·exact V6 (n5 _ _)
   ·refine⟨_,rfl,?_⟩;refine⟨_,rfl,?_⟩;refine j5 (fun _=> ?_) (fun hh=>absurd (show (u:Int)=(r:Int) by omega) hh);refine⟨_,rfl,?_⟩;refine⟨_,rfl,?_⟩;refine⟨[],_,_,_,_,hE,rfl,rfl,?_⟩;refine⟨Za rfl,?_⟩;refine⟨Za rfl,?_⟩;refine⟨_,rfl,?_⟩;refine⟨_,rfl,?_⟩;refine⟨Za rfl,?_⟩;refine⟨Za rfl,?_⟩;refine⟨_,rfl,?_⟩;refine⟨_,rfl,?_⟩;refine⟨by omega,by omega,_,p5 (k:=E) (i:=0) (by omega),?_⟩;refine⟨_,rfl,?_⟩;refine⟨Za rfl,?_⟩;refine⟨_,rfl,?_⟩;refine⟨_,rfl,?_⟩;refine⟨Zf _,by omega,?_⟩;refine⟨Za rfl,?_⟩;refine⟨_,rfl,?_⟩;refine⟨_,rfl,[.k 0,.k 1,.d 98 0],?_,⟨_,rfl,?_⟩,⟨_,rfl,rfl⟩,⟨_,rfl,g9 ?_⟩,tq⟩
    ·show V.s (.int .u8 (U8.wrap _))=_;rw[n5]
    ·show B.mx [.q rs 0,i64 5,bool false,.z s (sub (bv E) 0 s),.z s (sub (bv E) 0 s),i64 1,.o 1 (.k 2) 0 1]=_;rw[g8 lE]
    ·exact V6 (n5 _ _)
  ·refine U9.c ?_;refine⟨_,rfl,?_⟩;refine j5 (fun h0=> ?_) (fun h0=> ?_)
   ·refine⟨_,rfl,?_⟩;refine⟨_,rfl,?_⟩;refine⟨[],_,_,_,_,hE,rfl,rfl,?_⟩;refine⟨Za rfl,?_⟩;refine⟨Za rfl,?_⟩;refine⟨_,rfl,?_⟩;refine⟨_,rfl,?_⟩;refine⟨Za rfl,?_⟩;refine⟨Za rfl,?_⟩;refine⟨_,rfl,?_⟩;refine⟨_,rfl,?_⟩;refine⟨by omega,by omega,_,p5 (k:=E) (i:=0) (by omega),?_⟩;refine⟨_,rfl,?_⟩;refine⟨Za rfl,?_⟩;refine⟨_,rfl,?_⟩;refine⟨_,rfl,?_⟩;refine⟨Zf _,by omega,?_⟩;refine⟨Za rfl,?_⟩;refine⟨_,rfl,?_⟩;refine⟨_,rfl,[.k 0,.k 1,.d 98 0],?_,⟨_,rfl,?_⟩,⟨_,rfl,rfl⟩,⟨_,rfl,g9 ?_⟩,tq⟩
    ·show V.s (.int .u8 (U8.wrap _))=_;rw[n5]
    ·show B.mx [.q rs 0,i64 5,bool true,.z s (sub (bv E) 0 s),.z s (sub (bv E) 0 s),i64 1,.o 1 (.k 2) 0 1]=_;rw[g8 lE]
    ·exact V6 rfl
   ·refine⟨_,rfl,?_⟩;refine⟨_,rfl,?_⟩;refine j5 (fun _=> ?_) (fun hh=>absurd (show (u:Int)=(r:Int) by omega) hh);refine⟨_,rfl,?_⟩;refine⟨_,rfl,?_⟩;refine⟨[],_,_,_,_,hE,rfl,rfl,?_⟩;refine⟨Za rfl,?_⟩;refine⟨Za rfl,?_⟩;refine⟨_,rfl,?_⟩;refine⟨_,rfl,?_⟩;refine⟨Za rfl,?_⟩;refine⟨Za rfl,?_⟩;refine⟨_,rfl,?_⟩;refine⟨_,rfl,?_⟩;refine⟨by omega,by omega,_,p5 (k:=E) (i:=0) (by omega),?_⟩;refine⟨_,rfl,?_⟩;refine⟨Za rfl,?_⟩;refine⟨_,rfl,?_⟩;refine⟨_,rfl,?_⟩;refine⟨Zf _,by omega,?_⟩;refine⟨Za rfl,?_⟩;refine⟨_,rfl,?_⟩;refine⟨_,rfl,[.k 0,.k 1,.d 98 0],?_,⟨_,rfl,?_⟩,⟨_,rfl,rfl⟩,⟨_,rfl,g9 ?_⟩,tq⟩
    ·show V.s (.int .u8 (U8.wrap _))=_;rw[n5]
    ·show B.mx [.q rs 0,i64 5,bool true,.z s (sub (bv E) 0 s),.z s (sub (bv E) 0 s),i64 1,.o 1 (.k 2) 0 1]=_;rw[g8 lE]
    ·exact V6 rfl
 ·have e:cM (cF t key false) 6 ch=W9 ch:=by unfold cM;rw[if_neg (by decide),if_pos rfl]
  rw[e];generalize cF t key false ch=E at*
  cases back
  ·refine U9.c ?_;refine⟨_,rfl,?_⟩;refine j5 (fun h0=> ?_) (fun h0=> ?_)
   ·refine⟨_,rfl,?_⟩;refine⟨_,rfl,?_⟩;refine⟨[],_,_,_,_,hE,rfl,rfl,?_⟩;refine⟨Za rfl,?_⟩;refine⟨Za rfl,?_⟩;refine⟨_,rfl,?_⟩;refine⟨_,rfl,?_⟩;refine⟨[],_,_,_,_,pA rfl hl (by omega),rfl,rfl,?_⟩;refine⟨Za rfl,?_⟩;refine⟨Za rfl,?_⟩;refine⟨_,rfl,?_⟩;refine⟨_,rfl,?_⟩;refine⟨by omega,by omega,_,p5 (k:=E) (i:=0) (by omega),?_⟩;refine⟨_,rfl,?_⟩;refine⟨Za rfl,?_⟩;refine⟨_,rfl,?_⟩;refine⟨_,rfl,?_⟩;refine⟨Zf _,by omega,?_⟩;refine⟨Za rfl,?_⟩;refine⟨_,rfl,?_⟩;refine⟨_,rfl,[.k 0,.k 1,.d 98 0],?_,⟨_,rfl,?_⟩,⟨_,rfl,rfl⟩,⟨_,rfl,g9 ?_⟩,tq⟩
    ·show V.s (.int .u8 (U8.wrap _))=_;rw[n5]
    ·show B.mx [.q rs 0,i64 6,bool false,.z s (sub (bv (W9 ch)) 0 s),.z s (sub (bv E) 0 s),i64 1,.o 1 (.k 2) 0 1]=_;rw[g8 lE,g8 lI]
    ·exact V6 (n5 _ _)
   ·refine⟨_,rfl,?_⟩;refine⟨_,rfl,?_⟩;refine j5 (fun _=> ?_) (fun hh=>absurd (show (u:Int)=(r:Int) by omega) hh);refine⟨_,rfl,?_⟩;refine⟨_,rfl,?_⟩;refine⟨[],_,_,_,_,hE,rfl,rfl,?_⟩;refine⟨Za rfl,?_⟩;refine⟨Za rfl,?_⟩;refine⟨_,rfl,?_⟩;refine⟨_,rfl,?_⟩;refine⟨[],_,_,_,_,pA rfl hl (by omega),rfl,rfl,?_⟩;refine⟨Za rfl,?_⟩;refine⟨Za rfl,?_⟩;refine⟨_,rfl,?_⟩;refine⟨_,rfl,?_⟩;refine⟨by omega,by omega,_,p5 (k:=E) (i:=0) (by omega),?_⟩;refine⟨_,rfl,?_⟩;refine⟨Za rfl,?_⟩;refine⟨_,rfl,?_⟩;refine⟨_,rfl,?_⟩;refine⟨Zf _,by omega,?_⟩;refine⟨Za rfl,?_⟩;refine⟨_,rfl,?_⟩;refine⟨_,rfl,[.k 0,.k 1,.d 98 0],?_,⟨_,rfl,?_⟩,⟨_,rfl,rfl⟩,⟨_,rfl,g9 ?_⟩,tq⟩
    ·show V.s (.int .u8 (U8.wrap _))=_;rw[n5]
    ·show B.mx [.q rs 0,i64 6,bool false,.z s (sub (bv (W9 ch)) 0 s),.z s (sub (bv E) 0 s),i64 1,.o 1 (.k 2) 0 1]=_;rw[g8 lE,g8 lI]
    ·exact V6 (n5 _ _)
  ·refine U9.c ?_;refine⟨_,rfl,?_⟩;refine j5 (fun h0=> ?_) (fun h0=> ?_)
   ·refine⟨_,rfl,?_⟩;refine⟨_,rfl,?_⟩;refine⟨[],_,_,_,_,hE,rfl,rfl,?_⟩;refine⟨Za rfl,?_⟩;refine⟨Za rfl,?_⟩;refine⟨_,rfl,?_⟩;refine⟨_,rfl,?_⟩;refine⟨[],_,_,_,_,pA rfl hl (by omega),rfl,rfl,?_⟩;refine⟨Za rfl,?_⟩;refine⟨Za rfl,?_⟩;refine⟨_,rfl,?_⟩;refine⟨_,rfl,?_⟩;refine⟨by omega,by omega,_,p5 (k:=E) (i:=0) (by omega),?_⟩;refine⟨_,rfl,?_⟩;refine⟨Za rfl,?_⟩;refine⟨_,rfl,?_⟩;refine⟨_,rfl,?_⟩;refine⟨Zf _,by omega,?_⟩;refine⟨Za rfl,?_⟩;refine⟨_,rfl,?_⟩;refine⟨_,rfl,[.k 0,.k 1,.d 98 0],?_,⟨_,rfl,?_⟩,⟨_,rfl,rfl⟩,⟨_,rfl,g9 ?_⟩,tq⟩
    ·show V.s (.int .u8 (U8.wrap _))=_;rw[n5]
    ·show B.mx [.q rs 0,i64 6,bool true,.z s (sub (bv (W9 ch)) 0 s),.z s (sub (bv E) 0 s),i64 1,.o 1 (.k 2) 0 1]=_;rw[g8 lE,g8 lI]
    ·exact V6 rfl
   ·refine⟨_,rfl,?_⟩;refine⟨_,rfl,?_⟩;refine j5 (fun _=> ?_) (fun hh=>absurd (show (u:Int)=(r:Int) by omega) hh);refine⟨_,rfl,?_⟩;refine⟨_,rfl,?_⟩;refine⟨[],_,_,_,_,hE,rfl,rfl,?_⟩;refine⟨Za rfl,?_⟩;refine⟨Za rfl,?_⟩;refine⟨_,rfl,?_⟩;refine⟨_,rfl,?_⟩;refine⟨[],_,_,_,_,pA rfl hl (by omega),rfl,rfl,?_⟩;refine⟨Za rfl,?_⟩;refine⟨Za rfl,?_⟩;refine⟨_,rfl,?_⟩;refine⟨_,rfl,?_⟩;refine⟨by omega,by omega,_,p5 (k:=E) (i:=0) (by omega),?_⟩;refine⟨_,rfl,?_⟩;refine⟨Za rfl,?_⟩;refine⟨_,rfl,?_⟩;refine⟨_,rfl,?_⟩;refine⟨Zf _,by omega,?_⟩;refine⟨Za rfl,?_⟩;refine⟨_,rfl,?_⟩;refine⟨_,rfl,[.k 0,.k 1,.d 98 0],?_,⟨_,rfl,?_⟩,⟨_,rfl,rfl⟩,⟨_,rfl,g9 ?_⟩,tq⟩
    ·show V.s (.int .u8 (U8.wrap _))=_;rw[n5]
    ·show B.mx [.q rs 0,i64 6,bool true,.z s (sub (bv (W9 ch)) 0 s),.z s (sub (bv E) 0 s),i64 1,.o 1 (.k 2) 0 1]=_;rw[g8 lE,g8 lI]
    ·exact V6 rfl
theorem HY {t key s k xs rs} (h:k9 t key s k xs rs) {mode:Int} {back:Bool} {c r u:Nat} {p:UInt8} {ch R g:Bs} (hl:ch.length=c) (hc:c<=1000) (hm:mode=4\/mode=5\/mode=6) (hR:R.length=r) (hrb:r<=1000) (hu:u<r) (hg:g.length=u):
  a9 C 71 [.p (.k 0) 0,y3 p] [.mx [.q rs 0,i64 mode,bool back,.z c (bv ch),.z r (bv R),i64 u,.o 1 (.k 1) 0 u],.sc (bv g)] (.ret (y3 (p^^^R.getD u 0)))
   (if u+1=r then [.mx [.q rs 0,i64 mode,bool back,.z (if mode=4 then u+1 else c) (bv (if mode=4 then g++[m9 back p (p^^^R.getD u 0)]else ch)),.z r (bv R),i64 (u+1:Nat),.u],.dead,.dead]else [.mx [.q rs 0,i64 mode,bool back,.z c (bv ch),.z r (bv R),i64 (u+1:Nat),.o 1 (.k 2) 0 (u+1)],.dead,.sc (bv (g++[m9 back p (p^^^R.getD u 0)]))]):=by
 have w1:I6.wrap ((u:Int)+1)=((u+1:Nat):Int):=by rw[Zd _ (by omega)];rfl
 rcases hm with rfl|rfl|rfl
 ·cases back
  ·by_cases he:u+1=r
   ·rw[if_pos he,if_pos rfl,if_pos rfl];refine U9.w ?_;refine⟨_,rfl,?_⟩;refine j5 (fun h0=>absurd h0 (by omega)) (fun _=> ?_);refine⟨_,rfl,?_⟩;refine⟨_,rfl,?_⟩;refine j5 (fun hh=>absurd hh (by omega)) (fun _=> ?_);refine⟨_,rfl,?_⟩;refine⟨_,rfl,?_⟩;refine⟨by omega,by omega,_,by rw[Zb];exact p5 (k:=R) (i:=u) (by omega),?_⟩;refine⟨_,rfl,?_⟩;refine⟨Za rfl,?_⟩;refine⟨_,rfl,?_⟩;refine⟨_,rfl,?_⟩;refine⟨Zf _,by omega,by rw[i9,hg];omega,?_⟩;refine⟨Za rfl,?_⟩;refine⟨_,rfl,?_⟩;refine⟨_,rfl,?_⟩;refine⟨_,rfl,?_⟩;refine j5 (fun hh=> ?_) (fun hh=>absurd (show ((u+1:Nat):Int)=(r:Int) by omega) hh);refine⟨_,rfl,?_⟩;refine⟨Za rfl,?_⟩;refine⟨.ret (y3 (p^^^R.getD u 0)),[.mx [.q rs 0,i64 4,bool false,.z (u+1) (bv (g++[m9 false p (p^^^R.getD u 0)])),.z r (bv R),i64 (u+1:Nat),.z (u+1) (bv (g++[m9 false p (p^^^R.getD u 0)]))],.dead],⟨_,rfl,[.k 0,.k 1],?_,⟨_,rfl,?_⟩,⟨_,rfl,rfl⟩,tq⟩,.ret (.refl _),.cons (.mx (.cons (.refl _) (.cons (.refl _) (.cons (.refl _) (.cons (.refl _) (.cons (.refl _) (.cons (.refl _) (.cons .u .nil)))))))) (.cons (.refl _) (.dd .nil))⟩
    ·show V.s (.int .u8 (U8.wrap _))=_;rw[n5]
    ·show B.mx [.q rs 0,i64 4,bool false,.z (u+1) (sub (sub (bv g) 0 (u*1)++sub [Value.int .u8 _] 0 (1*1)) 0 (u+1)),.z r (bv R),i64 (I6.wrap ((u:Int)+1)),.z (u+1) (sub (sub (bv g) 0 (u*1)++sub [Value.int .u8 _] 0 (1*1)) 0 (u+1))]=_;rw[w1,T2 hg (n5 _ _)];rfl
   ·rw[if_neg he];refine U9.w ?_;refine⟨_,rfl,?_⟩;refine j5 (fun h0=>absurd h0 (by omega)) (fun _=> ?_);refine⟨_,rfl,?_⟩;refine⟨_,rfl,?_⟩;refine j5 (fun hh=>absurd hh (by omega)) (fun _=> ?_);refine⟨_,rfl,?_⟩;refine⟨_,rfl,?_⟩;refine⟨by omega,by omega,_,by rw[Zb];exact p5 (k:=R) (i:=u) (by omega),?_⟩;refine⟨_,rfl,?_⟩;refine⟨Za rfl,?_⟩;refine⟨_,rfl,?_⟩;refine⟨_,rfl,?_⟩;refine⟨Zf _,by omega,by rw[i9,hg];omega,?_⟩;refine⟨Za rfl,?_⟩;refine⟨_,rfl,?_⟩;refine⟨_,rfl,?_⟩;refine⟨_,rfl,?_⟩;refine j5 (fun hh=>absurd hh (by omega)) (fun _=> ?_);refine⟨.ret (y3 (p^^^R.getD u 0)),[.mx [.q rs 0,i64 4,bool false,.z c (bv ch),.z r (bv R),i64 (u+1:Nat),.o 1 (.k 2) 0 (u+1)],.dead,.sc (bv (g++[m9 false p (p^^^R.getD u 0)]))],⟨_,rfl,[.k 0,.k 1,.d 98 0],?_,⟨_,rfl,?_⟩,⟨_,rfl,rfl⟩,⟨_,rfl,g9 ?_⟩,tq⟩,.ret (.refl _),.cons (.refl _) (.cons (.refl _) (.cons (.refl _) .nil))⟩
    ·show V.s (.int .u8 (U8.wrap _))=_;rw[n5]
    ·show B.mx [.q rs 0,i64 4,bool false,.z c (bv ch),.z r (bv R),i64 (I6.wrap ((u:Int)+1)),.o 1 (.k 2) 0 (u+1)]=_;rw[w1]
    ·exact bo hg (n5 _ _)
  ·by_cases he:u+1=r
   ·rw[if_pos he,if_pos rfl,if_pos rfl];refine U9.w ?_;refine⟨_,rfl,?_⟩;refine j5 (fun h0=>absurd h0 (by omega)) (fun _=> ?_);refine⟨_,rfl,?_⟩;refine⟨_,rfl,?_⟩;refine j5 (fun hh=>absurd hh (by omega)) (fun _=> ?_);refine⟨_,rfl,?_⟩;refine⟨_,rfl,?_⟩;refine⟨by omega,by omega,_,by rw[Zb];exact p5 (k:=R) (i:=u) (by omega),?_⟩;refine⟨_,rfl,?_⟩;refine⟨Za rfl,?_⟩;refine⟨_,rfl,?_⟩;refine⟨_,rfl,?_⟩;refine⟨Zf _,by omega,by rw[i9,hg];omega,?_⟩;refine⟨Za rfl,?_⟩;refine⟨_,rfl,?_⟩;refine⟨_,rfl,?_⟩;refine⟨_,rfl,?_⟩;refine j5 (fun hh=> ?_) (fun hh=>absurd (show ((u+1:Nat):Int)=(r:Int) by omega) hh);refine⟨_,rfl,?_⟩;refine⟨Za rfl,?_⟩;refine⟨.ret (y3 (p^^^R.getD u 0)),[.mx [.q rs 0,i64 4,bool true,.z (u+1) (bv (g++[m9 true p (p^^^R.getD u 0)])),.z r (bv R),i64 (u+1:Nat),.z (u+1) (bv (g++[m9 true p (p^^^R.getD u 0)]))],.dead],⟨_,rfl,[.k 0,.k 1],?_,⟨_,rfl,?_⟩,⟨_,rfl,rfl⟩,tq⟩,.ret (.refl _),.cons (.mx (.cons (.refl _) (.cons (.refl _) (.cons (.refl _) (.cons (.refl _) (.cons (.refl _) (.cons (.refl _) (.cons .u .nil)))))))) (.cons (.refl _) (.dd .nil))⟩
    ·show V.s (.int .u8 (U8.wrap _))=_;rw[n5]
    ·show B.mx [.q rs 0,i64 4,bool true,.z (u+1) (sub (sub (bv g) 0 (u*1)++sub [Value.int .u8 _] 0 (1*1)) 0 (u+1)),.z r (bv R),i64 (I6.wrap ((u:Int)+1)),.z (u+1) (sub (sub (bv g) 0 (u*1)++sub [Value.int .u8 _] 0 (1*1)) 0 (u+1))]=_;rw[w1,T2 hg rfl];rfl
   ·rw[if_neg he];refine U9.w ?_;refine⟨_,rfl,?_⟩;refine j5 (fun h0=>absurd h0 (by omega)) (fun _=> ?_);refine⟨_,rfl,?_⟩;refine⟨_,rfl,?_⟩;refine j5 (fun hh=>absurd hh (by omega)) (fun _=> ?_);refine⟨_,rfl,?_⟩;refine⟨_,rfl,?_⟩;refine⟨by omega,by omega,_,by rw[Zb];exact p5 (k:=R) (i:=u) (by omega),?_⟩;refine⟨_,rfl,?_⟩;refine⟨Za rfl,?_⟩;refine⟨_,rfl,?_⟩;refine⟨_,rfl,?_⟩;refine⟨Zf _,by omega,by rw[i9,hg];omega,?_⟩;refine⟨Za rfl,?_⟩;refine⟨_,rfl,?_⟩;refine⟨_,rfl,?_⟩;refine⟨_,rfl,?_⟩;refine j5 (fun hh=>absurd hh (by omega)) (fun _=> ?_);refine⟨.ret (y3 (p^^^R.getD u 0)),[.mx [.q rs 0,i64 4,bool true,.z c (bv ch),.z r (bv R),i64 (u+1:Nat),.o 1 (.k 2) 0 (u+1)],.dead,.sc (bv (g++[m9 true p (p^^^R.getD u 0)]))],⟨_,rfl,[.k 0,.k 1,.d 98 0],?_,⟨_,rfl,?_⟩,⟨_,rfl,rfl⟩,⟨_,rfl,g9 ?_⟩,tq⟩,.ret (.refl _),.cons (.refl _) (.cons (.refl _) (.cons (.refl _) .nil))⟩
    ·show V.s (.int .u8 (U8.wrap _))=_;rw[n5]
    ·show B.mx [.q rs 0,i64 4,bool true,.z c (bv ch),.z r (bv R),i64 (I6.wrap ((u:Int)+1)),.o 1 (.k 2) 0 (u+1)]=_;rw[w1]
    ·exact bo hg rfl
 ·cases back
  ·by_cases he:u+1=r
   ·rw[if_pos he,if_neg (by decide),if_neg (by decide)];refine U9.w ?_;refine⟨_,rfl,?_⟩;refine j5 (fun h0=>absurd h0 (by omega)) (fun _=> ?_);refine⟨_,rfl,?_⟩;refine⟨_,rfl,?_⟩;refine j5 (fun hh=>absurd hh (by omega)) (fun _=> ?_);refine⟨_,rfl,?_⟩;refine⟨_,rfl,?_⟩;refine⟨by omega,by omega,_,by rw[Zb];exact p5 (k:=R) (i:=u) (by omega),?_⟩;refine⟨_,rfl,?_⟩;refine⟨Za rfl,?_⟩;refine⟨_,rfl,?_⟩;refine⟨_,rfl,?_⟩;refine⟨Zf _,by omega,by rw[i9,hg];omega,?_⟩;refine⟨Za rfl,?_⟩;refine⟨_,rfl,?_⟩;refine⟨.ret (y3 (p^^^R.getD u 0)),[.mx [.q rs 0,i64 5,bool false,.z c (bv ch),.z r (bv R),i64 (u+1:Nat),.z (u+1) (bv (g++[m9 false p (p^^^R.getD u 0)]))],.dead],⟨_,rfl,[.k 0,.k 1],?_,⟨_,rfl,?_⟩,⟨_,rfl,rfl⟩,tq⟩,.ret (.refl _),.cons (.mx (.cons (.refl _) (.cons (.refl _) (.cons (.refl _) (.cons (.refl _) (.cons (.refl _) (.cons (.refl _) (.cons .u .nil)))))))) (.cons (.refl _) (.dd .nil))⟩
    ·show V.s (.int .u8 (U8.wrap _))=_;rw[n5]
    ·show B.mx [.q rs 0,i64 5,bool false,.z c (bv ch),.z r (bv R),i64 (I6.wrap ((u:Int)+1)),.z (u+1) (sub (sub (bv g) 0 (u*1)++sub [Value.int .u8 _] 0 (1*1)) 0 (u+1))]=_;rw[w1,T2 hg (n5 _ _)];rfl
   ·rw[if_neg he];refine U9.w ?_;refine⟨_,rfl,?_⟩;refine j5 (fun h0=>absurd h0 (by omega)) (fun _=> ?_);refine⟨_,rfl,?_⟩;refine⟨_,rfl,?_⟩;refine j5 (fun hh=>absurd hh (by omega)) (fun _=> ?_);refine⟨_,rfl,?_⟩;refine⟨_,rfl,?_⟩;refine⟨by omega,by omega,_,by rw[Zb];exact p5 (k:=R) (i:=u) (by omega),?_⟩;refine⟨_,rfl,?_⟩;refine⟨Za rfl,?_⟩;refine⟨_,rfl,?_⟩;refine⟨_,rfl,?_⟩;refine⟨Zf _,by omega,by rw[i9,hg];omega,?_⟩;refine⟨Za rfl,?_⟩;refine⟨_,rfl,?_⟩;refine⟨.ret (y3 (p^^^R.getD u 0)),[.mx [.q rs 0,i64 5,bool false,.z c (bv ch),.z r (bv R),i64 (u+1:Nat),.o 1 (.k 2) 0 (u+1)],.dead,.sc (bv (g++[m9 false p (p^^^R.getD u 0)]))],⟨_,rfl,[.k 0,.k 1,.d 98 0],?_,⟨_,rfl,?_⟩,⟨_,rfl,rfl⟩,⟨_,rfl,g9 ?_⟩,tq⟩,.ret (.refl _),.cons (.refl _) (.cons (.refl _) (.cons (.refl _) .nil))⟩
    ·show V.s (.int .u8 (U8.wrap _))=_;rw[n5]
    ·show B.mx [.q rs 0,i64 5,bool false,.z c (bv ch),.z r (bv R),i64 (I6.wrap ((u:Int)+1)),.o 1 (.k 2) 0 (u+1)]=_;rw[w1]
    ·exact bo hg (n5 _ _)
  ·by_cases he:u+1=r
   ·rw[if_pos he,if_neg (by decide),if_neg (by decide)];refine U9.w ?_;refine⟨_,rfl,?_⟩;refine j5 (fun h0=>absurd h0 (by omega)) (fun _=> ?_);refine⟨_,rfl,?_⟩;refine⟨_,rfl,?_⟩;refine j5 (fun hh=>absurd hh (by omega)) (fun _=> ?_);refine⟨_,rfl,?_⟩;refine⟨_,rfl,?_⟩;refine⟨by omega,by omega,_,by rw[Zb];exact p5 (k:=R) (i:=u) (by omega),?_⟩;refine⟨_,rfl,?_⟩;refine⟨Za rfl,?_⟩;refine⟨_,rfl,?_⟩;refine⟨_,rfl,?_⟩;refine⟨Zf _,by omega,by rw[i9,hg];omega,?_⟩;refine⟨Za rfl,?_⟩;refine⟨_,rfl,?_⟩;refine⟨.ret (y3 (p^^^R.getD u 0)),[.mx [.q rs 0,i64 5,bool true,.z c (bv ch),.z r (bv R),i64 (u+1:Nat),.z (u+1) (bv (g++[m9 true p (p^^^R.getD u 0)]))],.dead],⟨_,rfl,[.k 0,.k 1],?_,⟨_,rfl,?_⟩,⟨_,rfl,rfl⟩,tq⟩,.ret (.refl _),.cons (.mx (.cons (.refl _) (.cons (.refl _) (.cons (.refl _) (.cons (.refl _) (.cons (.refl _) (.cons (.refl _) (.cons .u .nil)))))))) (.cons (.refl _) (.dd .nil))⟩
    ·show V.s (.int .u8 (U8.wrap _))=_;rw[n5]
    ·show B.mx [.q rs 0,i64 5,bool true,.z c (bv ch),.z r (bv R),i64 (I6.wrap ((u:Int)+1)),.z (u+1) (sub (sub (bv g) 0 (u*1)++sub [Value.int .u8 _] 0 (1*1)) 0 (u+1))]=_;rw[w1,T2 hg rfl];rfl
   ·rw[if_neg he];refine U9.w ?_;refine⟨_,rfl,?_⟩;refine j5 (fun h0=>absurd h0 (by omega)) (fun _=> ?_);refine⟨_,rfl,?_⟩;refine⟨_,rfl,?_⟩;refine j5 (fun hh=>absurd hh (by omega)) (fun _=> ?_);refine⟨_,rfl,?_⟩;refine⟨_,rfl,?_⟩;refine⟨by omega,by omega,_,by rw[Zb];exact p5 (k:=R) (i:=u) (by omega),?_⟩;refine⟨_,rfl,?_⟩;refine⟨Za rfl,?_⟩;refine⟨_,rfl,?_⟩;refine⟨_,rfl,?_⟩;refine⟨Zf _,by omega,by rw[i9,hg];omega,?_⟩;refine⟨Za rfl,?_⟩;refine⟨_,rfl,?_⟩;refine⟨.ret (y3 (p^^^R.getD u 0)),[.mx [.q rs 0,i64 5,bool true,.z c (bv ch),.z r (bv R),i64 (u+1:Nat),.o 1 (.k 2) 0 (u+1)],.dead,.sc (bv (g++[m9 true p (p^^^R.getD u 0)]))],⟨_,rfl,[.k 0,.k 1,.d 98 0],?_,⟨_,rfl,?_⟩,⟨_,rfl,rfl⟩,⟨_,rfl,g9 ?_⟩,tq⟩,.ret (.refl _),.cons (.refl _) (.cons (.refl _) (.cons (.refl _) .nil))⟩
    ·show V.s (.int .u8 (U8.wrap _))=_;rw[n5]
    ·show B.mx [.q rs 0,i64 5,bool true,.z c (bv ch),.z r (bv R),i64 (I6.wrap ((u:Int)+1)),.o 1 (.k 2) 0 (u+1)]=_;rw[w1]
    ·exact bo hg rfl
 ·cases back
  ·by_cases he:u+1=r
   ·rw[if_pos he,if_neg (by decide),if_neg (by decide)];refine U9.w ?_;refine⟨_,rfl,?_⟩;refine j5 (fun h0=>absurd h0 (by omega)) (fun _=> ?_);refine⟨_,rfl,?_⟩;refine⟨_,rfl,?_⟩;refine j5 (fun hh=>absurd hh (by omega)) (fun _=> ?_);refine⟨_,rfl,?_⟩;refine⟨_,rfl,?_⟩;refine⟨by omega,by omega,_,by rw[Zb];exact p5 (k:=R) (i:=u) (by omega),?_⟩;refine⟨_,rfl,?_⟩;refine⟨Za rfl,?_⟩;refine⟨_,rfl,?_⟩;refine⟨_,rfl,?_⟩;refine⟨Zf _,by omega,by rw[i9,hg];omega,?_⟩;refine⟨Za rfl,?_⟩;refine⟨_,rfl,?_⟩;refine⟨.ret (y3 (p^^^R.getD u 0)),[.mx [.q rs 0,i64 6,bool false,.z c (bv ch),.z r (bv R),i64 (u+1:Nat),.z (u+1) (bv (g++[m9 false p (p^^^R.getD u 0)]))],.dead],⟨_,rfl,[.k 0,.k 1],?_,⟨_,rfl,?_⟩,⟨_,rfl,rfl⟩,tq⟩,.ret (.refl _),.cons (.mx (.cons (.refl _) (.cons (.refl _) (.cons (.refl _) (.cons (.refl _) (.cons (.refl _) (.cons (.refl _) (.cons .u .nil)))))))) (.cons (.refl _) (.dd .nil))⟩
    ·show V.s (.int .u8 (U8.wrap _))=_;rw[n5]
    ·show B.mx [.q rs 0,i64 6,bool false,.z c (bv ch),.z r (bv R),i64 (I6.wrap ((u:Int)+1)),.z (u+1) (sub (sub (bv g) 0 (u*1)++sub [Value.int .u8 _] 0 (1*1)) 0 (u+1))]=_;rw[w1,T2 hg (n5 _ _)];rfl
   ·rw[if_neg he];refine U9.w ?_;refine⟨_,rfl,?_⟩;refine j5 (fun h0=>absurd h0 (by omega)) (fun _=> ?_);refine⟨_,rfl,?_⟩;refine⟨_,rfl,?_⟩;refine j5 (fun hh=>absurd hh (by omega)) (fun _=> ?_);refine⟨_,rfl,?_⟩;refine⟨_,rfl,?_⟩;refine⟨by omega,by omega,_,by rw[Zb];exact p5 (k:=R) (i:=u) (by omega),?_⟩;refine⟨_,rfl,?_⟩;refine⟨Za rfl,?_⟩;refine⟨_,rfl,?_⟩;refine⟨_,rfl,?_⟩;refine⟨Zf _,by omega,by rw[i9,hg];omega,?_⟩;refine⟨Za rfl,?_⟩;refine⟨_,rfl,?_⟩;refine⟨.ret (y3 (p^^^R.getD u 0)),[.mx [.q rs 0,i64 6,bool false,.z c (bv ch),.z r (bv R),i64 (u+1:Nat),.o 1 (.k 2) 0 (u+1)],.dead,.sc (bv (g++[m9 false p (p^^^R.getD u 0)]))],⟨_,rfl,[.k 0,.k 1,.d 98 0],?_,⟨_,rfl,?_⟩,⟨_,rfl,rfl⟩,⟨_,rfl,g9 ?_⟩,tq⟩,.ret (.refl _),.cons (.refl _) (.cons (.refl _) (.cons (.refl _) .nil))⟩
    ·show V.s (.int .u8 (U8.wrap _))=_;rw[n5]
    ·show B.mx [.q rs 0,i64 6,bool false,.z c (bv ch),.z r (bv R),i64 (I6.wrap ((u:Int)+1)),.o 1 (.k 2) 0 (u+1)]=_;rw[w1]
    ·exact bo hg (n5 _ _)
  ·by_cases he:u+1=r
   ·rw[if_pos he,if_neg (by decide),if_neg (by decide)];refine U9.w ?_;refine⟨_,rfl,?_⟩;refine j5 (fun h0=>absurd h0 (by omega)) (fun _=> ?_);refine⟨_,rfl,?_⟩;refine⟨_,rfl,?_⟩;refine j5 (fun hh=>absurd hh (by omega)) (fun _=> ?_);refine⟨_,rfl,?_⟩;refine⟨_,rfl,?_⟩;refine⟨by omega,by omega,_,by rw[Zb];exact p5 (k:=R) (i:=u) (by omega),?_⟩;refine⟨_,rfl,?_⟩;refine⟨Za rfl,?_⟩;refine⟨_,rfl,?_⟩;refine⟨_,rfl,?_⟩;refine⟨Zf _,by omega,by rw[i9,hg];omega,?_⟩;refine⟨Za rfl,?_⟩;refine⟨_,rfl,?_⟩;refine⟨.ret (y3 (p^^^R.getD u 0)),[.mx [.q rs 0,i64 6,bool true,.z c (bv ch),.z r (bv R),i64 (u+1:Nat),.z (u+1) (bv (g++[m9 true p (p^^^R.getD u 0)]))],.dead],⟨_,rfl,[.k 0,.k 1],?_,⟨_,rfl,?_⟩,⟨_,rfl,rfl⟩,tq⟩,.ret (.refl _),.cons (.mx (.cons (.refl _) (.cons (.refl _) (.cons (.refl _) (.cons (.refl _) (.cons (.refl _) (.cons (.refl _) (.cons .u .nil)))))))) (.cons (.refl _) (.dd .nil))⟩
    ·show V.s (.int .u8 (U8.wrap _))=_;rw[n5]
    ·show B.mx [.q rs 0,i64 6,bool true,.z c (bv ch),.z r (bv R),i64 (I6.wrap ((u:Int)+1)),.z (u+1) (sub (sub (bv g) 0 (u*1)++sub [Value.int .u8 _] 0 (1*1)) 0 (u+1))]=_;rw[w1,T2 hg rfl];rfl
   ·rw[if_neg he];refine U9.w ?_;refine⟨_,rfl,?_⟩;refine j5 (fun h0=>absurd h0 (by omega)) (fun _=> ?_);refine⟨_,rfl,?_⟩;refine⟨_,rfl,?_⟩;refine j5 (fun hh=>absurd hh (by omega)) (fun _=> ?_);refine⟨_,rfl,?_⟩;refine⟨_,rfl,?_⟩;refine⟨by omega,by omega,_,by rw[Zb];exact p5 (k:=R) (i:=u) (by omega),?_⟩;refine⟨_,rfl,?_⟩;refine⟨Za rfl,?_⟩;refine⟨_,rfl,?_⟩;refine⟨_,rfl,?_⟩;refine⟨Zf _,by omega,by rw[i9,hg];omega,?_⟩;refine⟨Za rfl,?_⟩;refine⟨_,rfl,?_⟩;refine⟨.ret (y3 (p^^^R.getD u 0)),[.mx [.q rs 0,i64 6,bool true,.z c (bv ch),.z r (bv R),i64 (u+1:Nat),.o 1 (.k 2) 0 (u+1)],.dead,.sc (bv (g++[m9 true p (p^^^R.getD u 0)]))],⟨_,rfl,[.k 0,.k 1,.d 98 0],?_,⟨_,rfl,?_⟩,⟨_,rfl,rfl⟩,⟨_,rfl,g9 ?_⟩,tq⟩,.ret (.refl _),.cons (.refl _) (.cons (.refl _) (.cons (.refl _) .nil))⟩
    ·show V.s (.int .u8 (U8.wrap _))=_;rw[n5]
    ·show B.mx [.q rs 0,i64 6,bool true,.z c (bv ch),.z r (bv R),i64 (I6.wrap ((u:Int)+1)),.o 1 (.k 2) 0 (u+1)]=_;rw[w1]
    ·exact bo hg rfl
def O3 (rs:List V) (mode:Int) (back:Bool) (x:MS×Bs×Nat) (i:Nat):B:= .mx [.q rs 0,i64 mode,bool back,.z x.1.ch.length (bv x.1.ch),.z x.2.1.length (bv x.2.1),i64 x.2.2,dw x.1.row x.1.gone i]
theorem fW {rs:List V} {mode:Int} {back:Bool} {ch row g R:Bs} {u i c r:Nat} (hc:ch.length=c) (hr:R.length=r) (h0:row=[]):O3 rs mode back (⟨ch,row,g⟩,R,u) i= .mx [.q rs 0,i64 mode,bool back,.z c (bv ch),.z r (bv R),i64 u,.u]:=by
 subst hc;subst hr;subst h0;rfl
theorem wu {rs:List V} {mode:Int} {back:Bool} {ch row g R:Bs} {u i j c r:Nat} (hc:ch.length=c) (hr:R.length=r) (h0:0<row.length) (hg:g.length=j):O3 rs mode back (⟨ch,row,g⟩,R,u) i= .mx [.q rs 0,i64 mode,bool back,.z c (bv ch),.z r (bv R),i64 u,.o 1 (.k i) 0 j]:=by
 subst hc;subst hr;subst hg;unfold O3;rw[eI h0]
theorem kL {R:Bs} {u:Nat}:(R.drop u).getD 0 0=R.getD u 0:=by simp[Zl]
theorem zw {t key s k xs rs} (h:k9 t key s k xs rs) {mode:Int} {back:Bool} {x:MS×Bs×Nat} {p:UInt8} (hm:4<=mode) (K:MK s mode x.1) (D:W3 s mode x):
  a9 C 71 [.p (.k 0) 0,y3 p] [O3 rs mode back x 1,j6 x.1.row x.1.gone] (.ret (y3 (w7 (cF t key false) mode back x.1 p).1)) [O3 rs mode back (Q8 (cF t key false) mode back x p) 2,.dead,j6 (Q8 (cF t key false) mode back x p).1.row (Q8 (cF t key false) mode back x p).1.gone]:=by
 have hs:=h.s_le;have hm3:mode=4\/mode=5\/mode=6:=by have:=K.ok.m;omega
 have hc:=K.ok.ch.resolve_left (by omega);obtain⟨⟨ch,row,g⟩,R,u⟩:=x;obtain⟨d1,d2,d3,d4,d5,d6⟩:=D;dsimp only at d1 d2 d3 d4 d5 d6 hc;have lE:=h.len (back:=false) hc;have lr:row.length=R.length-u:=by rw[d2,Ze]
 by_cases h0:row.length=0
 ·obtain rfl:=Zm h0;have lN:(cM (cF t key false) mode ch).length=s:=by
   unfold cM;split
   ·exact lE
   ·split
    ·rw[nS,hc]
    ·exact hc
  have e1:w7 (cF t key false) mode back ⟨ch,[],g⟩ p=(p^^^(cF t key false ch).getD 0 0,⟨cM (cF t key false) mode ch,(cF t key false ch).drop 1,[]++[m9 back p (p^^^(cF t key false ch).getD 0 0)]⟩):=by
   show K7 mode back ⟨cM (cF t key false) mode ch,cF t key false ch,[]⟩ p=_;exact dC (by omega) (by omega)
  have e2:Q8 (cF t key false) mode back (⟨ch,[],g⟩,R,u) p=(⟨cM (cF t key false) mode ch,(cF t key false ch).drop 1,[]++[m9 back p (p^^^(cF t key false ch).getD 0 0)]⟩,cF t key false ch,1):=by
   unfold Q8;rw[e1,if_neg (by omega),if_pos (show ([]:Bs).length=0 from rfl)]
  have ld:0<((cF t key false ch).drop 1).length:=by rw[Ze];omega
  rw[e1,e2,fW hc rfl rfl,wu lN lE ld (j:=1) rfl];show a9 C 71 [.p (.k 0) 0,y3 p] [_,.dead] _ [_,.dead,j6 ((cF t key false ch).drop 1) ([]++[m9 back p (p^^^(cF t key false ch).getD 0 0)])];rw[cD ld];exact HX h rfl hc hm3 (.inr (by omega))
 ·have hg:=d4 h0;have hgd:row.getD 0 0=R.getD u 0:=by rw[d2,kL]
  have e0:w7 (cF t key false) mode back ⟨ch,row,g⟩ p=K7 mode back ⟨ch,row,g⟩ p:=by unfold w7;rw[if_neg h0]
  have HB:=HY h (mode:=mode) (back:=back) (p:=p) hc (by omega) hm3 (R:=R) (u:=u) rfl (by omega) (by omega) hg;have e2:∀y,w7 (cF t key false) mode back ⟨ch,row,g⟩ p=y->Q8 (cF t key false) mode back (⟨ch,row,g⟩,R,u) p=(y.2,R,u+1):=by
   rintro y rfl;unfold Q8;rw[if_neg (by omega),if_neg h0]
  rw[wu hc rfl (by omega) hg,cD (row:=row) (by omega)];have l1:(row.drop 1).length=R.length-u-1:=by rw[Ze,lr]
  by_cases he:u+1=R.length
  ·rw[if_pos he]at HB;have r1:row.drop 1=[]:=Zm (by omega);by_cases h4:mode=4
   ·subst h4;rw[if_pos rfl,if_pos rfl]at HB;have e3:=oe (back:=back) (ch:=ch) (g:=g) (p:=p) (show row.length=1 by omega);rw[hgd]at e3;have e4:=e2 _ (e0.trans e3);rw[e0,e3,e4,fW (c:=u+1) (by rw[Zc,hg];rfl) rfl rfl];exact HB
   ·rw[if_neg h4,if_neg h4]at HB;have e3:=dC (back:=back) (ch:=ch) (row:=row) (g:=g) (p:=p) (show mode≠3 by omega) (fun e=>h4 e.1);rw[hgd,r1]at e3;have e4:=e2 _ (e0.trans e3);rw[e0,e3,e4,fW hc rfl rfl];exact HB
  ·rw[if_neg he]at HB;have e3:=dC (back:=back) (ch:=ch) (row:=row) (g:=g) (p:=p) (show mode≠3 by omega) (fun e=>by omega);rw[hgd]at e3;have e4:=e2 _ (e0.trans e3);rw[e0,e3,e4,wu (j:=u+1) hc rfl (by omega) (by rw[Zc,hg];rfl)];show a9 C 71 [.p (.k 0) 0,y3 p] _ _ [_,.dead,j6 (row.drop 1) (g++[m9 back p (p^^^R.getD u 0)])];rw[cD (row:=row.drop 1) (by omega)];exact HB
theorem jc {t key s k xs rs} (h:k9 t key s k xs rs) {mode:Int} {back:Bool} {l i:Nat} {vi:List Value} {iv:Bs} (hvi:vi=bv iv) (hl:iv.length=l) (hm:1<=mode/\mode<=6) (hi:l=if mode=1 then 0 else s):
  a9 C 17 [.q rs 0,i64 mode,bool back,.z l vi] [] (.ret (.t [.p (.k 0) 0,i64 0])) [O3 rs mode back (⟨iv,[],[]⟩,[],0) i,.dead,.dead]:=by
 subst hvi;have hs:=h.s_le;rw[fW hl rfl rfl];have hm':mode=1\/mode=2\/mode=3\/mode=4\/mode=5\/mode=6:=by omega
 rcases hm' with rfl|rfl|rfl|rfl|rfl|rfl
 ·rw[if_pos rfl]at hi;refine kS.w ?_;refine n7 (fun hh=>absurd hh (by omega)) (fun _=> ?_);refine⟨by rw[i9];omega,by omega,by decide,?_⟩;refine⟨.ret (.t [.p (.k 0) 0,i64 0]),[.mx [.q rs 0,i64 1,bool back,.z l (bv iv),i6,i64 0,i6]],⟨_,rfl,[.d 41 0],rfl,⟨_,rfl,?_⟩,tq⟩,.ret (.refl _),.cons (.mx (.cons (.refl _) (.cons (.refl _) (.cons (.refl _) (.cons (.refl _) (.cons .nl (.cons (.refl _) (.cons .u .nil)))))))) (.dd (.dd .nil))⟩;show B.mx [.q rs 0,i64 1,bool back,.z (0+l) (sub ([]++bv iv) 0 (0+l)),i6,i64 0,i6]=_;rw[Zk,Zn,g8 hl]
 ·rw[if_neg (by decide)]at hi;refine kS.w ?_;refine⟨[],_,_,_,_,h.rsize,rfl,rfl,?_⟩;refine n7 (fun hh=>absurd hh (by omega)) (fun _=> ?_);refine⟨by rw[i9];omega,by omega,by decide,?_⟩;refine⟨.ret (.t [.p (.k 0) 0,i64 0]),[.mx [.q rs 0,i64 2,bool back,.z l (bv iv),i6,i64 0,i6]],⟨_,rfl,[.d 41 0],rfl,⟨_,rfl,?_⟩,tq⟩,.ret (.refl _),.cons (.mx (.cons (.refl _) (.cons (.refl _) (.cons (.refl _) (.cons (.refl _) (.cons .nl (.cons (.refl _) (.cons .u .nil)))))))) (.dd (.dd .nil))⟩;show B.mx [.q rs 0,i64 2,bool back,.z (0+l) (sub ([]++bv iv) 0 (0+l)),i6,i64 0,i6]=_;rw[Zk,Zn,g8 hl]
 ·rw[if_neg (by decide)]at hi;refine kS.w ?_;refine⟨[],_,_,_,_,h.rsize,rfl,rfl,?_⟩;refine n7 (fun hh=>absurd hh (by omega)) (fun _=> ?_);refine⟨by rw[i9];omega,by omega,by decide,?_⟩;refine⟨.ret (.t [.p (.k 0) 0,i64 0]),[.mx [.q rs 0,i64 3,bool back,.z l (bv iv),i6,i64 0,i6]],⟨_,rfl,[.d 41 0],rfl,⟨_,rfl,?_⟩,tq⟩,.ret (.refl _),.cons (.mx (.cons (.refl _) (.cons (.refl _) (.cons (.refl _) (.cons (.refl _) (.cons .nl (.cons (.refl _) (.cons .u .nil)))))))) (.dd (.dd .nil))⟩;show B.mx [.q rs 0,i64 3,bool back,.z (0+l) (sub ([]++bv iv) 0 (0+l)),i6,i64 0,i6]=_;rw[Zk,Zn,g8 hl]
 ·rw[if_neg (by decide)]at hi;refine kS.w ?_;refine⟨[],_,_,_,_,h.rsize,rfl,rfl,?_⟩;refine n7 (fun hh=>absurd hh (by omega)) (fun _=> ?_);refine⟨by rw[i9];omega,by omega,by decide,?_⟩;refine⟨.ret (.t [.p (.k 0) 0,i64 0]),[.mx [.q rs 0,i64 4,bool back,.z l (bv iv),i6,i64 0,i6]],⟨_,rfl,[.d 41 0],rfl,⟨_,rfl,?_⟩,tq⟩,.ret (.refl _),.cons (.mx (.cons (.refl _) (.cons (.refl _) (.cons (.refl _) (.cons (.refl _) (.cons .nl (.cons (.refl _) (.cons .u .nil)))))))) (.dd (.dd .nil))⟩;show B.mx [.q rs 0,i64 4,bool back,.z (0+l) (sub ([]++bv iv) 0 (0+l)),i6,i64 0,i6]=_;rw[Zk,Zn,g8 hl]
 ·rw[if_neg (by decide)]at hi;refine kS.w ?_;refine⟨[],_,_,_,_,h.rsize,rfl,rfl,?_⟩;refine n7 (fun hh=>absurd hh (by omega)) (fun _=> ?_);refine⟨by rw[i9];omega,by omega,by decide,?_⟩;refine⟨.ret (.t [.p (.k 0) 0,i64 0]),[.mx [.q rs 0,i64 5,bool back,.z l (bv iv),i6,i64 0,i6]],⟨_,rfl,[.d 41 0],rfl,⟨_,rfl,?_⟩,tq⟩,.ret (.refl _),.cons (.mx (.cons (.refl _) (.cons (.refl _) (.cons (.refl _) (.cons (.refl _) (.cons .nl (.cons (.refl _) (.cons .u .nil)))))))) (.dd (.dd .nil))⟩;show B.mx [.q rs 0,i64 5,bool back,.z (0+l) (sub ([]++bv iv) 0 (0+l)),i6,i64 0,i6]=_;rw[Zk,Zn,g8 hl]
 ·rw[if_neg (by decide)]at hi;refine kS.w ?_;refine⟨[],_,_,_,_,h.rsize,rfl,rfl,?_⟩;refine n7 (fun hh=>absurd hh (by omega)) (fun _=> ?_);refine⟨by rw[i9];omega,by omega,by decide,?_⟩;refine⟨.ret (.t [.p (.k 0) 0,i64 0]),[.mx [.q rs 0,i64 6,bool back,.z l (bv iv),i6,i64 0,i6]],⟨_,rfl,[.d 41 0],rfl,⟨_,rfl,?_⟩,tq⟩,.ret (.refl _),.cons (.mx (.cons (.refl _) (.cons (.refl _) (.cons (.refl _) (.cons (.refl _) (.cons .nl (.cons (.refl _) (.cons .u .nil)))))))) (.dd (.dd .nil))⟩;show B.mx [.q rs 0,i64 6,bool back,.z (0+l) (sub ([]++bv iv) 0 (0+l)),i6,i64 0,i6]=_;rw[Zk,Zn,g8 hl]
theorem Mw {t key s k xs rs} (h:k9 t key s k xs rs) {mode:Int} {back:Bool} {x:MS×Bs×Nat} (hm:3<=mode):
  a9 C 68 [.p (.k 0) 0] [O3 rs mode back x 1,j6 x.1.row x.1.gone] (.ret (i64 1)) [O3 rs mode back x 1,j6 x.1.row x.1.gone]:=by
 obtain⟨⟨ch,row,g⟩,R,u⟩:=x;refine uW.c ?_;refine⟨_,rfl,?_⟩;refine d9 (fun h1=>absurd h1 (by omega)) (fun _=> ?_);cases row<;>exact⟨_,rfl,[.k 0,.k 1],rfl,⟨_,rfl,rfl⟩,⟨_,rfl,rfl⟩,tq⟩
theorem ud {t key s k xs rs} (h:k9 t key s k xs rs) {mode:Int} {back:Bool} {c:Nat} {vc:List Value} (hm:mode=1\/mode=2):
  a9 C 68 [.p (.k 0) 0] [.mx [.q rs 0,i64 mode,bool back,.z c vc,.z 0 [],i64 0,.u]] (.ret (i64 s)) [.mx [.q rs 0,i64 mode,bool back,.z c vc,.z 0 [],i64 0,.u]]:=by
 refine uW.c ?_;refine⟨_,rfl,?_⟩;refine d9 (fun h1=> ?_) (fun h1=>absurd h1 (by omega));refine⟨_,rfl,?_⟩;refine⟨[],_,_,_,_,h.rsize,rfl,rfl,?_⟩;exact⟨_,rfl,[.k 0],rfl,⟨_,rfl,rfl⟩,tq⟩
def DI (rs:List V) (mode:Int) (back:Bool) (m s c:Nat) (b:Bs):Nat×Nat×Bs×Bs->D
 |(i,q,o,c')=>⟨[(0,.p (.k 0) 0),(1,.z m (bv b)),(6,i64 s),(7,.o 1 (.k 2) 0 q),(8,i64 q)],[.mx [.q rs 0,i64 mode,bool back,.z c (bv c'),.z 0 [],i64 0,.u],.dead,.sc (bv o)]⟩
theorem zD {t key s k xs rs} (h:k9 t key s k xs rs) {mode:Int} {back:Bool} {c m:Nat} {vb:List Value} {ch b:Bs} (hvb:vb=bv b) (hb:b.length=m) (hbm:m<=1000000) (hm:mode=1\/mode=2/\c=s) (hc:ch.length=c) (hg:m%s=0):
  a9 C 18 [.p (.k 0) 0,.z m vb] [.mx [.q rs 0,i64 mode,bool back,.z c (bv ch),.z 0 [],i64 0,.u],.dead] (.ret (.t [.z m (bv (t4 (cF t key false) (cF t key true) mode back s b ch (m/s)).1),i64 0])) [.mx [.q rs 0,i64 mode,bool back,.z c (bv (t4 (cF t key false) (cF t key true) mode back s b ch (m/s)).2),.z 0 [],i64 0,.u],.dead,.dead]:=by
 subst hvb;have hs:=h.s_le;have hci:=h.ci;have hdm:=Zo m s;have hm12:mode=1\/mode=2:=by omega
 have G:=ud h (back:=back) (c:=c) (vc:=bv ch) hm12;refine nH.w ?_;refine⟨[.k 0],_,_,_,_,G,rfl,rfl,?_⟩;refine⟨by omega,?_⟩;refine n7 (fun h=>absurd ?_ h) (fun _=> ?_)
 ·have:((m:Int).tmod (s:Int))=((m%s:Nat):Int):=by rw[Zi (by omega)];rfl
  rw[this,hg];rfl
 refine⟨Nat×Nat×Bs×Bs,DI rs mode back m s c b,fun x=>x.2.1=s*x.1/\x.2.1<=m/\t4 (cF t key false) (cF t key true) mode back s b ch x.1=(x.2.2.1,x.2.2.2)/\x.2.2.1.length=x.2.1/\x.2.2.2.length=c,fun x=>m-x.2.1,?_,fun x hx=> ?_⟩
 ·exact⟨[(7,1,.sc [])],(0,0,[],ch),⟨by show 0=s*0;omega,Zx _,rfl,rfl,hc⟩,[.k 0,.k 1,.d 900000 0],⟨rfl,rfl,rfl,rfl,rfl,tq⟩,⟨_,rfl,rfl⟩,⟨_,rfl,rfl⟩,⟨_,rfl,rfl⟩,tq⟩
 ·obtain⟨i,q,o,c'⟩:=x;obtain⟨h1,h2,h3,h4,h5⟩:=hx;dsimp only at h1 h2 h3 h4 h5;refine d9 (fun h0=> ?_) (fun h0=> ?_)
  ·have hq:q+s<=m:=by
    have e1:m=s*(m/s):=by omega
    have:i<m/s:=by
     refine Zu (a:=s) ?_;omega
    have:=Zz s this;rw[Zv]at this;omega
   have lp:(sub b q s).length=s:=by rw[l4];omega
   have hn:t4 (cF t key false) (cF t key true) mode back s b ch (i+1)=(o++(N5 (cF t key false) (cF t key true) mode back c' (sub b q s)).1,(N5 (cF t key false) (cF t key true) mode back c' (sub b q s)).2):=by
    rw[jt,h3,<-h1]
   have HB:=zk h (mode:=mode) (back:=back) (vp:=sub (bv b) q s) (m8 _ _ _) rfl lp h5 hm;have hl:=qP (back:=back) hci hm12 (c:=c') (p:=sub b q s) (by omega) lp;have hl2:(N5 (cF t key false) (cF t key true) mode back c' (sub b q s)).2.length=c:=by
    rcases hm with rfl|⟨rfl,rfl⟩
    ·rw[<-h5];rfl
    ·exact hl.2.resolve_left (by decide)
   have hl1:=hl.1;generalize N5 (cF t key false) (cF t key true) mode back c' (sub b q s)=x at*
   obtain⟨o',c2⟩:=x;dsimp only at HB hn hl1 hl2;have e1:I6.wrap ((q:Int)+(s:Int))=((q+s:Nat):Int):=by rw[Zd _ (by omega)];omega
   rcases hm12 with rfl|rfl;all_goals
    refine⟨_,rfl,?_⟩;refine⟨by first|omega|(rw [e1];omega),by first|omega|(rw [e1];omega),by first|omega|(rw [e1];omega),by first|omega|(rw [e1];omega),by first|omega|(rw [e1];omega),?_⟩;refine⟨[.k 0],_,_,_,_,HB,?_,rfl,?_⟩
    ·rw[e1];show[V.p (.k 0) 0,V.z (q+s-q) (sub (bv b) q (q+s-q))]=_;rw[Je]
    refine⟨by first|omega|(rw [i9];omega),by omega,by rw[i9,h4];omega,?_⟩;refine⟨(i+1,q+s,o++o',c2),⟨by show q+s=s*(i+1);rw[Zv];omega,hq,hn,by rw[Zc,h4,hl1],hl2⟩,(by show m-(q+s)<m-q;omega),[.k 0,.k 1,.d 48 0],⟨rfl,rfl,rfl,rfl,f6 e1,tq⟩,⟨_,rfl,rfl⟩,⟨_,rfl,rfl⟩,⟨_,rfl,g9 ?_⟩,tq⟩;show sub (bv o) 0 (q*1)++bv o'=_;rw[Zj,g8 h4,A5]
  ·obtain rfl:q=m:=by omega
   have hi:q/s=i:=by rw[h1,Z1 _ (by omega)]
   rw[hi,h3];exact⟨_,[.mx [.q rs 0,i64 mode,bool back,.z c (bv c'),.z 0 [],i64 0,.u],.dead],⟨_,rfl,[.k 0,.k 1],congrArg (fun x=>V.t [x,i64 0]) (congrArg (V.z q) (g8 h4)),⟨_,rfl,rfl⟩,⟨_,rfl,rfl⟩,tq⟩,.ret (.refl _),.cons (.refl _) (.cons (.refl _) (.dd .nil))⟩
def XX (rs:List V) (back:Bool) (m s r u:Nat) (vr:List Value) (b:Bs):Nat×Bs×Bs->D
 |(i,o,c')=>⟨[(0,.p (.k 0) 0),(1,.z m (bv b)),(6,i64 1),(7,.o 1 (.k 2) 0 i),(8,i64 i)],[.mx [.q rs 0,i64 3,bool back,.z s (bv c'),.z r vr,i64 u,.u],.dead,.sc (bv o)]⟩
theorem Wd {E:Bs->Bs} {back:Bool} {ch g:Bs} {p:UInt8}:w7 E 3 back ⟨ch,[],g⟩ p=(p^^^(E ch).getD 0 0,⟨ch.drop 1++[m9 back p (p^^^(E ch).getD 0 0)],[],[]++[m9 back p (p^^^(E ch).getD 0 0)]⟩):=by
 show K7 3 back ⟨ch,E ch,[]⟩ p=_;exact oa
theorem ML {t key s k xs rs} (h:k9 t key s k xs rs) {back:Bool} {m r u:Nat} {vb vr:List Value} {ch g b:Bs} (hvb:vb=bv b) (hb:b.length=m) (hbm:m<=1000000) (hc:ch.length=s):
  a9 C 18 [.p (.k 0) 0,.z m vb] [.mx [.q rs 0,i64 3,bool back,.z s (bv ch),.z r vr,i64 u,.u],.dead] (.ret (.t [.z m (bv (A2 (cF t key false) 3 back ⟨ch,[],g⟩ b).1),i64 0])) [.mx [.q rs 0,i64 3,bool back,.z s (bv (A2 (cF t key false) 3 back ⟨ch,[],g⟩ b).2.ch),.z r vr,i64 u,.u],.dead,.dead]:=by
 subst hvb;have hs:=h.s_le;refine nH.w ?_;have G:a9 C 68 [.p (.k 0) 0] [.mx [.q rs 0,i64 3,bool back,.z s (bv ch),.z r vr,i64 u,.u]] (.ret (i64 1)) [.mx [.q rs 0,i64 3,bool back,.z s (bv ch),.z r vr,i64 u,.u]]:=by
  refine uW.c ?_;refine⟨_,rfl,?_⟩;exact⟨_,rfl,[.k 0],rfl,⟨_,rfl,rfl⟩,tq⟩
 refine⟨[.k 0],_,_,_,_,G,rfl,rfl,?_⟩;refine⟨by decide,?_⟩;refine n7 (fun h=>absurd (Ji _) h) (fun _=> ?_);refine⟨Nat×Bs×Bs,XX rs back m s r u vr b,fun x=>x.1<=m/\(∃g',A2 (cF t key false) 3 back ⟨ch,[],g⟩ (b.take x.1)=(x.2.1,⟨x.2.2,[],g'⟩))/\x.2.1.length=x.1/\x.2.2.length=s,fun x=>m-x.1,?_,fun x hx=> ?_⟩
 ·exact⟨[(7,1,.sc [])],(0,[],ch),⟨Zx _,⟨g,rfl⟩,rfl,hc⟩,[.k 0,.k 1,.d 900000 0],⟨rfl,rfl,rfl,rfl,rfl,tq⟩,⟨_,rfl,rfl⟩,⟨_,rfl,rfl⟩,⟨_,rfl,rfl⟩,tq⟩
 ·obtain⟨i,o,c'⟩:=x;obtain⟨h1,⟨g',h2⟩,h3,h4⟩:=hx;dsimp only at h1 h2 h3 h4;refine d9 (fun h0=> ?_) (fun h0=> ?_)
  ·have lt:i<m:=by omega
   have e1:I6.wrap ((i:Int)+1)=((i+1:Nat):Int):=by rw[Zd _ (by omega)];rfl
   have hT:A2 (cF t key false) 3 back ⟨ch,[],g⟩ (b.take (i+1))=(o++[(b.getD i 0)^^^(cF t key false c').getD 0 0],⟨c'.drop 1++[m9 back (b.getD i 0) ((b.getD i 0)^^^(cF t key false c').getD 0 0)],[],[]++[m9 back (b.getD i 0) ((b.getD i 0)^^^(cF t key false c').getD 0 0)]⟩):=by
    rw[jH (by omega),kL,lL,h2,Wd]
   have HB:=MU h (mode:=3) (back:=back) (r:=r) (u:=u) (vr:=vr) (p:=b.getD i 0) rfl h4;refine⟨_,rfl,?_⟩;refine⟨by omega,by omega,_,by rw[Zb];exact p5 (k:=b) (i:=i) (by omega),?_⟩;refine⟨[.k 0],_,_,_,_,HB,rfl,rfl,?_⟩;refine⟨Zf _,by omega,by rw[i9,h3];omega,?_⟩;exact⟨(i+1,_,_),⟨lt,⟨_,hT⟩,by rw[Zc,h3];rfl,by rw[Zc,Ze,h4];show s-1+1=s;omega⟩,(by show m-(i+1)<m-i;omega),[.k 0,.k 1,.d 59 0],⟨rfl,rfl,rfl,rfl,f6 e1,tq⟩,⟨_,rfl,rfl⟩,⟨_,rfl,rfl⟩,⟨_,rfl,g9 (bo h3 rfl)⟩,tq⟩
  ·obtain rfl:i=m:=by omega
   rw[Zq (by omega)]at h2;rw[h2];exact⟨_,[.mx [.q rs 0,i64 3,bool back,.z s (bv c'),.z r vr,i64 u,.u],.dead],⟨_,rfl,[.k 0,.k 1],congrArg (fun x=>V.t [x,i64 0]) (congrArg (V.z i) (g8 h3)),⟨_,rfl,rfl⟩,⟨_,rfl,rfl⟩,tq⟩,.ret (.refl _),.cons (.refl _) (.cons (.refl _) (.dd .nil))⟩
theorem MK.rd {E D:Bs->Bs} {n:Nat} {mode:Int} {back:Bool} {x:MS×Bs×Nat} (k:MK n mode x.1) (h:CI E D n) (hn:0<n) (hm:3<=mode) (p:UInt8):MK n mode (Q8 E mode back x p).1:=k.one h hn hm p
def XW (rs:List V) (mode:Int) (back:Bool) (m:Nat) (b:Bs):Bool×Nat×(MS×Bs×Nat)×Bs->D
 |(false,i,x,o)=>⟨[(0,.p (.k 0) 0),(1,.z m (bv b)),(6,i64 1),(7,.o 1 (.k 2) 0 0),(8,i64 (0:Nat))],[O3 rs mode back x 1,j6 x.1.row x.1.gone,.sc []]⟩
 |(true,i,x,o)=>⟨[(0,.p (.k 0) 0),(1,.z m (bv b)),(6,i64 1),(7,.o 1 (.k 3) 0 i),(8,i64 i)],[O3 rs mode back x 2,.dead,j6 x.1.row x.1.gone,.sc (bv o)]⟩
theorem MJ {t key s k xs rs} (h:k9 t key s k xs rs) {mode:Int} {back:Bool} {x0:MS×Bs×Nat} {m:Nat} {vb:List Value} {b:Bs} (hvb:vb=bv b) (hb:b.length=m) (hbm:m<=1000000) (hm:4<=mode) (K:MK s mode x0.1) (R:W3 s mode x0) (hne:0<m\/x0.1.row=[]):
  a9 C 18 [.p (.k 0) 0,.z m vb] [O3 rs mode back x0 1,j6 x0.1.row x0.1.gone] (.ret (.t [.z m (bv (A2 (cF t key false) mode back x0.1 b).1),i64 0])) [O3 rs mode back (X7 (cF t key false) mode back x0 b) 2,.dead,j6 (X7 (cF t key false) mode back x0 b).1.row (X7 (cF t key false) mode back x0 b).1.gone]:=by
 subst hvb;have hs:=h.s_le;have hci:=h.ci
 suffices H:∀x1:MS×Bs×Nat,x1=x0->a9 C 18 [.p (.k 0) 0,.z m (bv b)] [O3 rs mode back x0 1,j6 x0.1.row x0.1.gone] (.ret (.t [.z m (bv (A2 (cF t key false) mode back x1.1 b).1),i64 0])) [O3 rs mode back (X7 (cF t key false) mode back x1 b) 2,.dead,j6 (X7 (cF t key false) mode back x1 b).1.row (X7 (cF t key false) mode back x1 b).1.gone] from H x0 rfl
 intro x1 hx1;rw[<-hx1]at K R hne;have G:=Mw h (back:=back) (x:=x0) (show 3<=mode by omega);refine nH.w ?_;obtain⟨⟨L3,row0,g0⟩,R0,u0⟩:=x0;rcases row0 with _|⟨a0,r0⟩;all_goals
  refine⟨[.k 0,.k 1],_,_,_,_,G,rfl,rfl,?_⟩;refine⟨by decide,?_⟩;refine n7 (fun h=>absurd (Ji _) h) (fun _=> ?_);refine⟨Bool×Nat×(MS×Bs×Nat)×Bs,XW rs mode back m b,fun x=>x.2.1<=m/\(A2 (cF t key false) mode back x1.1 (b.take x.2.1)).1=x.2.2.2/\X7 (cF t key false) mode back x1 (b.take x.2.1)=x.2.2.1/\MK s mode x.2.2.1.1/\W3 s mode x.2.2.1/\(x.1=false->x.2.1=0),fun x=>m-x.2.1,⟨[(7,1,.sc [])],(false,0,_,[]),⟨Zx _,rfl,hx1,hx1▸K,hx1▸R,fun _=>rfl⟩,[.k 0,.k 1,.d 900000 0],⟨rfl,rfl,rfl,rfl,rfl,tq⟩,⟨_,rfl,rfl⟩,⟨_,rfl,rfl⟩,⟨_,rfl,rfl⟩,tq⟩,fun x hx=> ?_⟩;obtain⟨f,i,⟨⟨ch,row,g⟩,R',u⟩,o⟩:=x;obtain⟨h1,h2,h3,h4,h5,h6⟩:=hx;dsimp only at h1 h2 h3 h4 h5 h6;have lo:o.length=i:=by
   rw[<-h2,qQ,Zs];omega
  have hms:(A2 (cF t key false) mode back x1.1 (b.take i)).2=⟨ch,row,g⟩:=by rw[<-Dx,h3]
  cases f
  ·obtain rfl:=h6 rfl;obtain rfl:=Zm lo;refine d9 (fun h0=> ?_) (fun h0=> ?_)
   ·have HB:=zw h (back:=back) (p:=b.getD 0 0) hm h4 h5;have hN:=MK.rd (mode:=mode) (x:=(⟨ch,row,g⟩,R',u)) h4 hci (by omega) (by omega) (back:=back) (b.getD 0 0);have hD:=wr (mode:=mode) (x:=(⟨ch,row,g⟩,R',u)) hci (by omega) (by omega) h4.ok h5 (back:=back) (b.getD 0 0);have hT:(A2 (cF t key false) mode back x1.1 (b.take (0+1))).1=[(w7 (cF t key false) mode back ⟨ch,row,g⟩ (b.getD 0 0)).1]:=by
     rw[jH (by omega),kL,lL,h2,hms];rfl
    have hU:X7 (cF t key false) mode back x1 (b.take (0+1))=Q8 (cF t key false) mode back (⟨ch,row,g⟩,R',u) (b.getD 0 0):=by
     rw[jH (by omega),kL,wq,h3]
    generalize (w7 (cF t key false) mode back ⟨ch,row,g⟩ (b.getD 0 0)).1=o' at*
    generalize Q8 (cF t key false) mode back (⟨ch,row,g⟩,R',u) (b.getD 0 0)=x at*
    obtain⟨⟨ch',row',g'⟩,R2,u2⟩:=x;dsimp only at HB hN hD hU;have k1:¬mode=1:=by omega
    have k2:¬mode=2:=by omega
    have k3:¬mode=3:=by omega
    cases row<;>cases row'<;>(
     refine⟨_,rfl,?_⟩;refine j5 (fun h=>absurd h k1) (fun _=> ?_);refine j5 (fun h=>absurd h k2) (fun _=> ?_);refine j5 (fun h=>absurd h k3) (fun _=> ?_);refine⟨by omega,by omega,_,p5 (k:=b) (i:=0) (by omega),?_⟩;refine⟨[.k 0,.k 1],_,_,_,_,HB,rfl,rfl,?_⟩;refine⟨Zf _,by omega,by decide,?_⟩;exact⟨(true,0+1,(⟨ch',_,g'⟩,R2,u2),[o']),⟨by show 0+1<=m;omega,hT,hU,hN,hD,fun h=>by cases h⟩,(by show m-(0+1)<m-0;omega),[.k 0,.k 1,.d 33 2,.d 35 0],⟨rfl,rfl,rfl,rfl,rfl,tq⟩,⟨_,rfl,rfl⟩,⟨_,rfl,rfl⟩,⟨_,rfl,rfl⟩,⟨_,rfl,g9 (V6 rfl)⟩,tq⟩)
   ·have hm0:m=0:=by omega
    rw[Zq (by omega)]at h2 h3;rw[h2,h3];subst hm0;have hr0:row=[]:=by
     have hb0:=Zm hb;rw[hb0]at h3;have h3:x1=_:=h3;rw[h3]at hne;exact hne.resolve_left (by omega)
    subst hr0;exact⟨.ret (.t [.z 0 [],i64 0]),[O3 rs mode back (⟨ch,[],g⟩,R',u) 2,.dead],⟨_,rfl,[.k 0,.k 1],rfl,⟨_,rfl,rfl⟩,⟨_,rfl,rfl⟩,tq⟩,.ret (.refl _),.cons (.refl _) (.cons (.refl _) (.dd .nil))⟩
  ·refine d9 (fun h0=> ?_) (fun h0=> ?_)
   ·have lt:i<m:=by omega
    have e1:I6.wrap ((i:Int)+1)=((i+1:Nat):Int):=by rw[Zd _ (by omega)];rfl
    have HB:=zw h (back:=back) (p:=b.getD i 0) hm h4 h5;have hN:=MK.rd (mode:=mode) (x:=(⟨ch,row,g⟩,R',u)) h4 hci (by omega) (by omega) (back:=back) (b.getD i 0);have hD:=wr (mode:=mode) (x:=(⟨ch,row,g⟩,R',u)) hci (by omega) (by omega) h4.ok h5 (back:=back) (b.getD i 0);have hT:(A2 (cF t key false) mode back x1.1 (b.take (i+1))).1=o++[(w7 (cF t key false) mode back ⟨ch,row,g⟩ (b.getD i 0)).1]:=by
     rw[jH (by omega),kL,lL,h2,hms]
    have hU:X7 (cF t key false) mode back x1 (b.take (i+1))=Q8 (cF t key false) mode back (⟨ch,row,g⟩,R',u) (b.getD i 0):=by
     rw[jH (by omega),kL,wq,h3]
    generalize (w7 (cF t key false) mode back ⟨ch,row,g⟩ (b.getD i 0)).1=o' at*
    generalize Q8 (cF t key false) mode back (⟨ch,row,g⟩,R',u) (b.getD i 0)=x at*
    obtain⟨⟨ch',row',g'⟩,R2,u2⟩:=x;dsimp only at HB hN hD hU;have k1:¬mode=1:=by omega
    have k2:¬mode=2:=by omega
    have k3:¬mode=3:=by omega
    cases row<;>cases row'<;>(
     refine⟨_,rfl,?_⟩;refine j5 (fun h=>absurd h k1) (fun _=> ?_);refine j5 (fun h=>absurd h k2) (fun _=> ?_);refine j5 (fun h=>absurd h k3) (fun _=> ?_);refine⟨by omega,by omega,_,by rw[Zb];exact p5 (k:=b) (i:=i) (by omega),?_⟩;refine⟨[.k 0,.k 2],_,_,_,_,HB,rfl,rfl,?_⟩;refine⟨Zf _,by omega,by rw[i9,lo];omega,?_⟩;exact⟨(true,i+1,(⟨ch',_,g'⟩,R2,u2),o++[o']),⟨by show i+1<=m;omega,hT,hU,hN,hD,fun h=>by cases h⟩,(by show m-(i+1)<m-i;omega),[.k 0,.k 1,.d 33 2,.d 35 0],⟨rfl,rfl,rfl,rfl,f6 e1,tq⟩,⟨_,rfl,rfl⟩,⟨_,rfl,rfl⟩,⟨_,rfl,rfl⟩,⟨_,rfl,g9 (bo lo rfl)⟩,tq⟩)
   ·obtain rfl:i=m:=by omega
    rw[Zq (by omega)]at h2 h3;rw[h2,h3];rcases row with _|⟨a,r⟩
    ·exact⟨_,[O3 rs mode back (⟨ch,[],g⟩,R',u) 2,.dead,j6 [] g],⟨_,rfl,[.k 0,.k 1,.k 2],congrArg (fun x=>V.t [x,i64 0]) (congrArg (V.z i) (g8 lo)),⟨_,rfl,rfl⟩,⟨_,rfl,rfl⟩,⟨_,rfl,rfl⟩,tq⟩,.ret (.refl _),.cons (.refl _) (.cons (.refl _) (.cons (.refl _) .nil))⟩
    ·exact⟨_,[O3 rs mode back (⟨ch,a::r,g⟩,R',u) 2,.dead,j6 (a::r) g],⟨_,rfl,[.k 0,.k 1,.k 2],congrArg (fun x=>V.t [x,i64 0]) (congrArg (V.z i) (g8 lo)),⟨_,rfl,rfl⟩,⟨_,rfl,rfl⟩,⟨_,rfl,rfl⟩,tq⟩,.ret (.refl _),.cons (.refl _) (.cons (.refl _) (.cons (.refl _) .nil))⟩
theorem Dw (E back):∀(l:Bs) (x:MS×Bs×Nat),X7 E 3 back x l=((A2 E 3 back x.1 l).2,x.2)
 |[],_=>rfl
 |p::l,x=>Dw E back l (Q8 E 3 back x p)
theorem zC {t key s k xs rs} (h:k9 t key s k xs rs) {mode:Int} {back:Bool} {x:MS×Bs×Nat} {m:Nat} {vb:List Value} {b:Bs} (hvb:vb=bv b) (hb:b.length=m) (hbm:m<=1000000) (K:MK s mode x.1) (R:W3 s mode x) (hg:m%o6 s mode=0) (hne:0<m\/x.1.row=[]):
  a9 C 18 [.p (.k 0) 0,.z m vb] [O3 rs mode back x 1,j6 x.1.row x.1.gone] (.ret (.t [.z m (bv (k5 (cF t key false) (cF t key true) s mode back x.1 b).1),i64 0])) [O3 rs mode back (fV (cF t key false) (cF t key true) s mode back x b) 2,.dead,j6 (fV (cF t key false) (cF t key true) s mode back x b).1.row (fV (cF t key false) (cF t key true) s mode back x b).1.gone]:=by
 have hs:=h.s_le;have hci:=h.ci;by_cases hm:mode=1\/mode=2
 ·have hr:=K.ok.blk hm;have hc:=K.ok.ch;have hx:=R.blk hm;obtain⟨⟨ch,row,g⟩,x2⟩:=x;dsimp only at hr hc hx;subst hr;subst hx;have e:k5 (cF t key false) (cF t key true) s mode back ⟨ch,[],g⟩ b=((t4 (cF t key false) (cF t key true) mode back s b ch (m/s)).1,⟨(t4 (cF t key false) (cF t key true) mode back s b ch (m/s)).2,[],g⟩):=by
   unfold k5;rw[if_pos hm,hb]
  have e2:fV (cF t key false) (cF t key true) s mode back (⟨ch,[],g⟩,[],0) b=(⟨(t4 (cF t key false) (cF t key true) mode back s b ch (m/s)).2,[],g⟩,[],0):=by
   unfold fV;rw[if_pos hm];show((k5 (cF t key false) (cF t key true) s mode back ⟨ch,[],g⟩ b).2,_)=_;rw[e]
  have hg':m%s=0:=by unfold o6 at hg;rwa [if_pos hm]at hg
  have hdm:=Zo m s;have hl:=Cq (back:=back) hci (b:=b) (c:=ch) (i:=m/s) (mode:=mode) (by omega) (by omega);have HB:=zD h (back:=back) hvb hb hbm (ch:=ch) (c:=ch.length) (mode:=mode) (by omega) rfl hg';rw[e2,fW rfl rfl rfl,fW hl rfl rfl];show a9 C 18 _ _ (.ret (.t [.z m (bv (k5 (cF t key false) (cF t key true) s mode back ⟨ch,[],g⟩ b).1),i64 0])) _;rw[e];exact HB
 ·have hm3:3<=mode:=by have:=K.ok.m;omega
  have e:k5 (cF t key false) (cF t key true) s mode back x.1 b=A2 (cF t key false) mode back x.1 b:=by
   unfold k5;rw[if_neg hm]
  have e2:fV (cF t key false) (cF t key true) s mode back x b=X7 (cF t key false) mode back x b:=by
   unfold fV;rw[if_neg hm]
  rw[e,e2];by_cases h3:mode=3
  ·subst h3;have R2:=Dy hci (by omega) hm3 (back:=back) b K.ok R;have K2:=K.many hci (by omega) hm3 (back:=back) b;have hc:=K.ok.ch.resolve_left (by decide);have hr:=R.three rfl;have hc2:=K2.ok.ch.resolve_left (by decide);have hr2:=R2.three rfl;rw[Dw]at hr2 ⊢;obtain⟨⟨ch,row,g⟩,R',u⟩:=x;dsimp only at hr hc hc2 hr2;subst hr;have HB:=ML h (back:=back) (r:=R'.length) (u:=u) (vr:=bv R') (g:=g) hvb hb hbm hc;show a9 C 18 _ [O3 rs 3 back (⟨ch,[],g⟩,R',u) 1,.dead] (.ret (.t [.z m (bv (A2 (cF t key false) 3 back ⟨ch,[],g⟩ b).1),i64 0])) [O3 rs 3 back ((A2 (cF t key false) 3 back ⟨ch,[],g⟩ b).2,R',u) 2,.dead,j6 (A2 (cF t key false) 3 back ⟨ch,[],g⟩ b).2.row (A2 (cF t key false) 3 back ⟨ch,[],g⟩ b).2.gone];generalize A2 (cF t key false) 3 back ⟨ch,[],g⟩ b=y at*
   obtain⟨o,⟨ch2,row2,g2⟩⟩:=y;dsimp only at hr2 hc2 HB ⊢;subst hr2;rw[fW hc rfl rfl,fW hc2 rfl rfl];exact HB
  ·exact MJ h hvb hb hbm (by omega) K R hne
theorem MI {t key s k xs rs} (h:k9 t key s k xs rs) {mode:Int} {back:Bool} {x:MS×Bs×Nat} {m:Nat} {vb:List Value} (K:MK s mode x.1) (R:W3 s mode x) (hg:m%o6 s mode≠0):
  a9 C 18 [.p (.k 0) 0,.z m vb] [O3 rs mode back x 1,j6 x.1.row x.1.gone] (.ret (.t [i6,i64 7])) [O3 rs mode back x 1,j6 x.1.row x.1.gone]:=by
 have hs:=h.s_le;have hm:mode=1\/mode=2:=by
  refine Classical.byContradiction fun hm=>hg ?_;unfold o6;rw[if_neg hm,Nat.mod_one]
 have hr:=K.ok.blk hm;have hx:=R.blk hm;obtain⟨⟨ch,row,g⟩,x2⟩:=x;dsimp only at hr hx;subst hr;subst hx;have hg':m%s≠0:=by unfold o6 at hg;rwa [if_pos hm]at hg
 have G:=ud h (back:=back) (c:=ch.length) (vc:=bv ch) hm;refine nH.c ?_;refine⟨[.k 0],_,_,_,_,G,rfl,rfl,?_⟩;refine⟨by omega,?_⟩;refine n7 (fun _=> ?_) (fun h=>absurd h ?_)
 ·exact⟨_,rfl,[.k 0,.k 1],rfl,⟨_,rfl,rfl⟩,⟨_,rfl,rfl⟩,tq⟩
 ·have:((m:Int).tmod (s:Int))=((m%s:Nat):Int):=by rw[Zi (by omega)];rfl
  rw[this];omega
theorem tO {t key s k xs rs} (h:k9 t key s k xs rs) {mode:Int} {back:Bool} {st:MS} (K:MK s mode st):
  a9 C 96 [.p (.k 0) 0] [j4 (f7 t k xs) mode back st 1,j6 st.row st.gone] (.ret (i64 (o6 s mode))) [j4 (f7 t k xs) mode back st 1,j6 st.row st.gone]:=by
 by_cases hm:mode=1\/mode=2
 ·have hr:=K.ok.blk hm;obtain⟨ch,row,g⟩:=st;dsimp only at hr;subst hr;have e:o6 s mode=s:=by unfold o6;rw[if_pos hm]
  rw[e];refine uR.c ?_;refine⟨_,rfl,?_⟩;rcases hm with rfl|rfl;all_goals
   refine⟨_,rfl,?_⟩;refine⟨[],_,_,_,_,h.size,rfl,rfl,?_⟩;exact⟨_,rfl,[.k 0,.k 1],rfl,⟨_,rfl,rfl⟩,⟨_,rfl,rfl⟩,tq⟩
 ·have e:o6 s mode=1:=by unfold o6;rw[if_neg hm]
  rw[e];exact tN h (by have:=K.ok.m;omega)
theorem ug {a n:Int} (hn:0<n) (hn2:n<=4611686018427387904) (ha: -9223372036854775808<=a/\a<=9223372036854775807):a9 C 92 [i64 a,i64 n] [] (.ret (i64 (a%n))) []:=by
 refine Qg.c ?_;have h1: -n<a.tmod n:=Int.lt_tmod_of_pos a hn;have h2:a.tmod n<n:=Int.tmod_lt_of_pos a hn;refine⟨by omega,?_⟩;refine d9 (fun h=> ?_) (fun h=> ?_)
 ·refine⟨_,rfl,[],f6 ?_,tq⟩;rw[Zd _ (by omega)];rw[<-eV a n hn,Zi (a:=a.tmod n+n) (by omega),Z5 (by omega) (by omega)]
 ·refine⟨_,rfl,[],f6 ?_,tq⟩;rw[<-eV a n hn,Zi (a:=a.tmod n+n) (by omega),Int.add_emod_right,Z5 (by omega) (by omega)]
def bN (mode:Int) (s:Nat) (b:Bs):Bs:=if mode=1 then []else ki s b
def gS (mode:Int) (s:Nat):Nat:=if mode=1 then 0 else s
theorem BH (mode s b):(bN mode s b).length=gS mode s:=by
 unfold bN gS;split
 ·rfl
 ·exact ph _ _
theorem JX {mode:Int} {s m:Nat} {vb:List Value} {b:Bs} (hv:vb=bv b) (hb:b.length=m) (hs:s<=1000):a9 C 52 [i64 mode,i64 s,.z m vb] [] (.ret (.z (gS mode s) (bv (bN mode s b)))) []:=by
 unfold bN gS;by_cases h1:mode=1
 ·rw[if_pos h1,if_pos h1];refine AI.w ?_;refine j5 (fun _=> ?_) (fun h=>absurd h1 h);exact⟨.ret i6,[],⟨_,rfl,[],rfl,tq⟩,.ret .nl,.nil⟩
 ·rw[if_neg h1,if_neg h1];refine AI.c ?_;refine j5 (fun h=>absurd h h1) (fun _=> ?_);refine⟨[],_,_,_,_,yJ hv hb (by omega),rfl,rfl,?_⟩;exact⟨_,rfl,[],congrArg (V.z s) (g8 (ph _ _)),tq⟩
def kk (x:Int):Int:=if I6.wrap (x.tdiv 40)%3=0 then 8*(x%5)else x%40
def kN (x:Int) (m:Nat):Nat:=min (kk x).toNat m
theorem Vw (x:Int):0<=kk x/\kk x<=39:=by unfold kk;split<;>omega
theorem Vu (x m):kN x m<=m:=Nat.min_le_right _ _
theorem BL {x:Int} {m:Nat} {a:Int} (h:a=kk x):(if (m:Int)<a then (m:Int)else a)=((kN x m:Nat):Int):=by
 subst h;have:=Vw x;unfold kN;split<;>omega
def n6 (ns:List Int) (b:Bs):Nat->List (Bs)×Bs
 |0=>([],b)
 |i+1=>((n6 ns b i).1++[(n6 ns b i).2.take (kN (ns.getD i 0) (n6 ns b i).2.length)],(n6 ns b i).2.drop (kN (ns.getD i 0) (n6 ns b i).2.length))
def ej (ns:List Int) (b:Bs):List (Bs):=(n6 ns b (min ns.length 40)).1++[(n6 ns b (min ns.length 40)).2]
def zc (p:Bs):V:= .z p.length (bv p)
theorem ut (ns b):∀i,(n6 ns b i).1.length=i
 |0=>rfl
 |i+1=>by
  show((n6 ns b i).1++[_]).length=i+1;rw[Zc,ut ns b i];rfl
theorem Ah (ns b):∀i,(n6 ns b i).2.length<=b.length/\∀p∈(n6 ns b i).1,p.length<=b.length
 |0=>⟨Zf _,fun p hp=>by cases hp⟩
 |i+1=>by
  obtain⟨h1,h2⟩:=Ah ns b i;refine⟨?_,fun p hp=> ?_⟩
  ·show((n6 ns b i).2.drop _).length<=_;rw[Ze];omega
  ·have hp:p∈(n6 ns b i).1++[(n6 ns b i).2.take (kN (ns.getD i 0) (n6 ns b i).2.length)]:=hp;rcases List.mem_append.1 hp with hp|hp
   ·exact h2 p hp
   ·rw[List.mem_singleton.1 hp,Zs];omega
theorem Ai (ns b):(ej ns b).length=min ns.length 40+1:=by
 unfold ej;rw[Zc,ut];rfl
theorem Gm (H b9) (l:List (Bs)):(l.map zc).map (o5 H b9 6)=l.map zc:=by
 rw[List.map_map];exact List.map_congr_left fun _ _=>rfl
theorem Gn (H b9) (l:List (Bs)) (n):(l.map zc).map (E9 H b9 (n+1))=l.map zc:=by
 rw[List.map_map];exact List.map_congr_left fun _ _=>rfl
theorem a3e {ln:Nat} {vn:List Value} {b:Bs} {ns:List Int} (hvn:vn=iv ns) (hn:ns.length=ln) (hlb:b.length<=1000) (hns:∀x∈ns, -9223372036854775808<=x/\x<=9223372036854775807):
  a9 C 32 [.z b.length (bv b),.z ln vn] [] (.ret (.zz 1 (ej ns b).length ((ej ns b).map zc))) []:=by
 subst hvn;obtain⟨N0,hN0⟩:∃N0,N0=min ns.length 40:=⟨_,rfl⟩;refine Qf.c ?_;refine D6 (fun i=>⟨[(0,.z (n6 ns b i).2.length (bv (n6 ns b i).2)),(1,.z ln (iv ns)),(5,.o 1 (.k 0) 0 i),(6,i64 i)],[.mx ((n6 ns b i).1.map zc)]⟩) N0 [(5,1,.mx [])] ⟨[.d 900000 0],⟨rfl,rfl,rfl,rfl,tq⟩,⟨_,rfl,rfl⟩,tq⟩ fun i hi=> ?_;have hl:=(Ah ns b i).1;have hl1:=ut ns b i;refine d9 (fun h1=> ?_) (fun h1=> ?_)
 ·refine d9 (fun h2=> ?_) (fun h2=> ?_)
  ·obtain⟨x,hx⟩:∃x,ns.getD i 0=x:=⟨_,rfl⟩;have d8:i<ns.length:=by omega
   have hxe:ns[i]=x:=by rw[<-hx,Zl,Z0 d8];rfl
   have hxb: -9223372036854775808<=x/\x<=9223372036854775807:=hns x (hxe▸List.getElem_mem d8);have hv:(iv ns)[((i:Nat):Int).toNat]? =some (Value.int .i64 x):=by rw[Zb,vD d8,hxe]
   have hstep:n6 ns b (i+1)=((n6 ns b i).1++[(n6 ns b i).2.take (kN x (n6 ns b i).2.length)],(n6 ns b i).2.drop (kN x (n6 ns b i).2.length)):=by rw[<-hx];rfl
   have hk:=Vu x (n6 ns b i).2.length;have hst:sub ((n6 ns b i).1.map zc) 0 (i*1)++[V.z (kN x (n6 ns b i).2.length) (sub (bv (n6 ns b i).2) 0 (kN x (n6 ns b i).2.length))]=((n6 ns b i).1++[(n6 ns b i).2.take (kN x (n6 ns b i).2.length)]).map zc:=by
    have e9:((n6 ns b i).2.take (kN x (n6 ns b i).2.length)).length=kN x (n6 ns b i).2.length:=by rw[Zs,Nat.min_eq_left hk]
    rw[Zj,C2 (l:=(n6 ns b i).1.map zc) (by rw[Zp,hl1]),Jg,m8];show _=(n6 ns b i).1.map zc++[V.z ((n6 ns b i).2.take (kN x (n6 ns b i).2.length)).length (bv ((n6 ns b i).2.take (kN x (n6 ns b i).2.length)))];rw[e9];rfl
   have hb5:=Int.emod_nonneg x (show (5:Int)≠0 by decide);have hb6:=Int.emod_lt_of_pos x (show (0:Int)<5 by decide);have w8:I6.wrap (8*(x%5))=8*(x%5):=Zd _ (by omega);have hwr: -9223372036854775808<=I6.wrap (x.tdiv 40)/\I6.wrap (x.tdiv 40)<=9223372036854775807:=by rw[IntKind.wrap_i64];omega
   refine⟨by omega,by omega,_,hv,?_⟩;refine⟨[],_,_,_,_,ug (a:=x) (n:=40) (by omega) (by omega) hxb,rfl,rfl,?_⟩;refine⟨by omega,by omega,_,hv,?_⟩;refine⟨by decide,?_⟩;refine⟨[],_,_,_,_,ug (a:=I6.wrap (x.tdiv 40)) (n:=3) (by omega) (by omega) hwr,rfl,rfl,?_⟩;refine j5 (fun h3=> ?_) (fun h3=> ?_)
   ·refine⟨by omega,by omega,_,hv,?_⟩;refine⟨[],_,_,_,_,ug (a:=x) (n:=5) (by omega) (by omega) hxb,rfl,rfl,?_⟩;have e3:(if (((n6 ns b i).2.length:Nat):Int)<I6.wrap (8*(x%5))then (((n6 ns b i).2.length:Nat):Int)else I6.wrap (8*(x%5)))=((kN x (n6 ns b i).2.length:Nat):Int):=BL (by rw[w8];unfold kk;rw[if_pos h3]);refine⟨(by first|omega|(rw [e3];omega)|(rw [e3,Zb];omega)),(by first|omega|(rw [e3];omega)|(rw [e3,Zb];omega)),(by first|omega|(rw [e3];omega)|(rw [e3,Zb];omega)),(by first|omega|(rw [e3];omega)|(rw [e3,Zb];omega)),?_⟩;refine⟨Zf _,by omega,by rw[Zp,hl1];omega,?_⟩;refine⟨(by first|omega|(rw [e3];omega)|(rw [e3,Zb];omega)),(by first|omega|(rw [e3];omega)|(rw [e3,Zb];omega)),(by first|omega|(rw [e3];omega)|(rw [e3,Zb];omega)),(by first|omega|(rw [e3];omega)|(rw [e3,Zb];omega)),?_⟩;refine⟨i+1,by omega,by omega,[.d 45 0],⟨?_,rfl,rfl,f6 (by simp(disch:=omega)only[Zd];omega),tq⟩,⟨_,rfl,?_⟩,tq⟩
    ·rw[e3,hstep];show V.z ((n6 ns b i).2.length-kN x (n6 ns b i).2.length) (sub (bv (n6 ns b i).2) (kN x (n6 ns b i).2.length) ((n6 ns b i).2.length-kN x (n6 ns b i).2.length))=V.z ((n6 ns b i).2.drop (kN x (n6 ns b i).2.length)).length (bv ((n6 ns b i).2.drop (kN x (n6 ns b i).2.length)));rw[y4 rfl hk,Ze]
    ·rw[e3,hstep];show B.mx (Jj (o5 _ _ 6) (sub ((n6 ns b i).1.map zc) 0 (i*1)++[V.z (kN x (n6 ns b i).2.length) (sub (bv (n6 ns b i).2) 0 (kN x (n6 ns b i).2.length))]))=B.mx (((n6 ns b i).1++[(n6 ns b i).2.take (kN x (n6 ns b i).2.length)]).map zc);rw[hst];exact congrArg B.mx (Gm _ _ _)
   ·have e3:(if (((n6 ns b i).2.length:Nat):Int)<x%40 then (((n6 ns b i).2.length:Nat):Int)else x%40)=((kN x (n6 ns b i).2.length:Nat):Int):=BL (by unfold kk;rw[if_neg h3]);refine⟨(by first|omega|(rw [e3];omega)|(rw [e3,Zb];omega)),(by first|omega|(rw [e3];omega)|(rw [e3,Zb];omega)),(by first|omega|(rw [e3];omega)|(rw [e3,Zb];omega)),(by first|omega|(rw [e3];omega)|(rw [e3,Zb];omega)),?_⟩;refine⟨Zf _,by omega,by rw[Zp,hl1];omega,?_⟩;refine⟨(by first|omega|(rw [e3];omega)|(rw [e3,Zb];omega)),(by first|omega|(rw [e3];omega)|(rw [e3,Zb];omega)),(by first|omega|(rw [e3];omega)|(rw [e3,Zb];omega)),(by first|omega|(rw [e3];omega)|(rw [e3,Zb];omega)),?_⟩;refine⟨i+1,by omega,by omega,[.d 45 0],⟨?_,rfl,rfl,f6 (by simp(disch:=omega)only[Zd];omega),tq⟩,⟨_,rfl,?_⟩,tq⟩
    ·rw[e3,hstep];show V.z ((n6 ns b i).2.length-kN x (n6 ns b i).2.length) (sub (bv (n6 ns b i).2) (kN x (n6 ns b i).2.length) ((n6 ns b i).2.length-kN x (n6 ns b i).2.length))=V.z ((n6 ns b i).2.drop (kN x (n6 ns b i).2.length)).length (bv ((n6 ns b i).2.drop (kN x (n6 ns b i).2.length)));rw[y4 rfl hk,Ze]
    ·rw[e3,hstep];show B.mx (Jj (o5 _ _ 6) (sub ((n6 ns b i).1.map zc) 0 (i*1)++[V.z (kN x (n6 ns b i).2.length) (sub (bv (n6 ns b i).2) 0 (kN x (n6 ns b i).2.length))]))=B.mx (((n6 ns b i).1++[(n6 ns b i).2.take (kN x (n6 ns b i).2.length)]).map zc);rw[hst];exact congrArg B.mx (Gm _ _ _)
  ·have hi0:i=min ns.length 40:=by omega
   have lc:=Ai ns b;refine⟨Zf _,by omega,by rw[Zp,hl1];omega,?_⟩;refine⟨_,rfl,[],?_,tq⟩;rw[lc,<-hi0];have hcl:(n6 ns b i).1.map zc++[zc (n6 ns b i).2]=(ej ns b).map zc:=by unfold ej;rw[<-hi0,Jg];rfl
   refine(congrArg (V.zz 1 (i+1)) ((congrArg (Jj _) ?_).trans (Gn _ _ (ej ns b) 3)));rw[<-hcl,Zj,Zj];rw[C2 (l:=(n6 ns b i).1.map zc) (by rw[Zp,hl1])];exact C2 (n:=(i+1)*1) (by rw[Zc,Zp,hl1,Zj];rfl)
 ·have hi0:i=min ns.length 40:=by omega
  have lc:=Ai ns b;refine⟨Zf _,by omega,by rw[Zp,hl1];omega,?_⟩;refine⟨_,rfl,[],?_,tq⟩;rw[lc,<-hi0];have hcl:(n6 ns b i).1.map zc++[zc (n6 ns b i).2]=(ej ns b).map zc:=by unfold ej;rw[<-hi0,Jg];rfl
  refine(congrArg (V.zz 1 (i+1)) ((congrArg (Jj _) ?_).trans (Gn _ _ (ej ns b) 3)));rw[<-hcl,Zj,Zj];rw[C2 (l:=(n6 ns b i).1.map zc) (by rw[Zp,hl1])];exact C2 (n:=(i+1)*1) (by rw[Zc,Zp,hl1,Zj];rfl)
theorem Vi {a g:Nat} (ha:a<=1000000):I6.wrap ((a:Int).tdiv (g:Int))=((a/g:Nat):Int):=by
 have:((a:Int).tdiv (g:Int))=((a/g:Nat):Int):=by rw[Jb (by omega)];rfl
 have h2:=Nat.div_le_self a g;rw[this];generalize a/g=z at*
 rw[Zd _ (by omega)]
theorem Vj {a g:Nat} (ha:a<=1000000):I6.wrap (I6.wrap ((a:Int).tdiv (g:Int))*(g:Int))=((a/g*g:Nat):Int):=by
 have h2:=Z8 a g;have:((a/g:Nat):Int)*(g:Int)=((a/g*g:Nat):Int):=by rw[Int.natCast_mul]
 rw[Vi ha,this];generalize a/g*g=z at*
 rw[Zd _ (by omega)]
theorem qT {E D:Bs->Bs} {n:Nat} {mode:Int} {back:Bool} {s:MS}:k5 E D n mode back s []=([],s):=by
 unfold k5;by_cases hm:mode=1\/mode=2
 ·rw[if_pos hm];show((t4 E D mode back n [] s.ch (0/n)).1,(⟨(t4 E D mode back n [] s.ch (0/n)).2,s.row,s.gone⟩:MS))=_;rw[Nat.zero_div];rfl
 ·rw[if_neg hm];rfl
theorem uf {kind:Int} (hk:kind=1\/kind=2\/kind=3):a9 C 117 [i64 kind] [] (.ret (bool true)) []:=by
 refine Qt.c ?_;rcases hk with rfl|rfl|rfl<;>exact⟨_,rfl,[],rfl,tq⟩
theorem ue {n:Nat} (h:n=8\/n=16):a9 C 118 [i64 n] [] (.ret (bool true)) []:=by
 refine Qs.c ?_;rcases h with rfl|rfl<;>exact⟨_,rfl,[],rfl,tq⟩
theorem Dz {i n:Nat} {x y:UInt8} (h:i<n):(Zh i x++Zh (n-i) y).set i x=Zh (i+1) x++Zh (n-(i+1)) y:=by
 rw[show n-i=(n-(i+1))+1 by omega,List.replicate_succ,Zt _ _ (by rw[Zg];exact Zf _),Zg,Z3,List.set_cons_zero,Z6];simp
theorem wx {n:Nat} {x y:UInt8} (h:0<n):(Zh n y).set (n-1) x=Zh (n-1) y++[x]:=by
 obtain⟨m,rfl⟩:∃m,n=m+1:=⟨n-1,by omega⟩;rw[Z9,Z6,Zt _ _ (by rw[Zg];exact Zf _),Zg,Z3];rfl
theorem XN {n:Nat} {x:UInt8} (h:0<n):(Zh n x).set (n-1) x=Zh n x:=by
 obtain⟨m,rfl⟩:∃m,n=m+1:=⟨n-1,by omega⟩;rw[wx h,Z9,Z6]
theorem tU {kind:Int} {n:Nat} (hk:kind=1\/kind=2\/kind=3) (h0:0<n) (h16:n<=16):a9 C 119 [i64 kind,i64 n] [] (.ret (.o 1 (.k 0) 0 n)) [.sc (bv (L9 kind n))]:=by
 have e1:I6.wrap ((n:Int)-1)=((n-1:Nat):Int):=by rw[Zd _ (by omega)];omega
 refine Qr.c ?_;refine⟨by omega,by omega,by omega,?_⟩;rcases hk with rfl|rfl|rfl
 ·refine m5 (fun i=>⟨[(1,i64 n),(5,.o 1 (.k 0) 0 n),(17,i64 n),(18,i64 i)],[.sc (bv (Zh i (Zr n)++Zh (n-i) 0))]⟩) n ⟨[.d 8 0],⟨rfl,rfl,rfl,rfl,tq⟩,⟨_,rfl,g9 ?_⟩,tq⟩ fun i hi=> ?_
  ·rw[Zb,T5];rfl
  refine d9 (fun d8=> ?_) (fun hge=> ?_)
  ·have d8:i<n:=by omega
   refine⟨by omega,by omega,by rw[Zb,i9,Zc,Zg,Zg];omega,?_⟩;refine⟨i+1,by omega,by omega,[.k 0],⟨rfl,rfl,rfl,f6 (by simp(disch:=omega)only[Zd];omega),tq⟩,⟨_,rfl,g9 ?_⟩,tq⟩;rw[Zb,Zj,Zk,X5,K6,Dz d8]
  ·obtain rfl:i=n:=by omega
   refine⟨by rw[e1];omega,by rw[e1];omega,by rw[e1,Zb,i9,Zc,Zg,Zg];omega,?_⟩;refine⟨_,rfl,[.k 0],rfl,⟨_,rfl,g9 ?_⟩,tq⟩;rw[e1,Zb,Zj,Zk,X5,K6,Z3,List.replicate_zero,List.append_nil,XN h0];rfl
 ·refine⟨by decide,by omega,by rw[Zb,Zg];show 0+0*1<n;omega,?_⟩;refine⟨_,rfl,[.d 8 0],rfl,⟨_,rfl,g9 ?_⟩,tq⟩;rw[Zb,T5];show(bv (Zh n 0)).set 0 (Value.int .u8 ((128:UInt8).toNat:Int))=_;rw[K6];obtain⟨m,rfl⟩:∃m,n=m+1:=⟨n-1,by omega⟩;rfl
 ·refine⟨by rw[e1];omega,by rw[e1];omega,by rw[e1,Zb,Zb,Zg];omega,?_⟩;refine⟨_,rfl,[.d 8 0],rfl,⟨_,rfl,g9 ?_⟩,tq⟩;rw[e1,Zb,Zb,Zj,Zk,X5,T5,K6,wx h0];rfl
theorem Lf {kind:Int} {s m:Nat} {vt:List Value} {tail:Bs} (hk:kind=1\/kind=2\/kind=3) (hs:s=8\/s=16) (hv:vt=bv tail) (hm:tail.length=m) (hms:m<s):
  a9 C 64 [i64 kind,i64 s,.z m vt] [] (C0 s) [.sc (bv (L8 kind s tail))]:=by
 subst hv;have e1:I6.wrap ((s:Int)-(m:Int))=((s-m:Nat):Int):=by rw[Zd _ (by omega)];omega
 have lp:=mf (kind:=kind) (tail:=tail) (size:=s) (by omega);have lm:=oy (kind:=kind) (n:=s-m) (by omega);refine Qp.c ?_;refine⟨[],_,_,_,_,uf hk,rfl,rfl,?_⟩;refine⟨[],_,_,_,_,ue hs,rfl,rfl,?_⟩;refine d9 (fun h=>absurd h (by omega)) (fun _=> ?_);refine⟨[],_,_,_,_,tU (n:=s-m) hk (by omega) (by omega),?_,rfl,?_⟩
 ·rw[e1];rfl
 have hpe:tail++L9 kind (s-m)=L8 kind s tail:=by rw[L8,hm]
 refine⟨[],_,_,_,_,cw (n:=2) (ls:=[tail,L9 kind (s-m)]) (t:=L8 kind s tail) (by rw[<-hpe];simp) ?_ rfl (by omega) (by omega),rfl,rfl,?_⟩
 ·show[V.z m (bv tail),V.z (s-m) (sub (bv (L9 kind (s-m))) 0 (s-m))]=[V.z _ _,V.z _ _];rw[g8 lm,hm,lm]
 rw[lp];exact⟨_,rfl,[.d 28 0],rfl,⟨_,rfl,rfl⟩,tq⟩
theorem VY {t:Bs} {m i s:Nat} {x y:UInt8} (hm:t.length=m) (h1:m<=i) (h2:i<s):(t++(Zh (i-m) x++Zh (s-i) y)).set i x=t++(Zh (i+1-m) x++Zh (s-(i+1)) y):=by
 rw[Zt _ _ (by omega),hm];have:=Dz (i:=i-m) (n:=s-m) (x:=x) (y:=y) (by omega);rw[show s-m-(i-m)=s-i by omega,show s-m-(i-m+1)=s-(i+1) by omega,show i-m+1=i+1-m by omega]at this;rw[this]
theorem Lz {kind:Int} {s m:Nat} {vt:List Value} {tail:Bs} (hk:kind=1\/kind=2\/kind=3) (hs:s=8\/s=16) (hv:vt=bv tail) (hm:tail.length=m) (hms:m<s):
  a9 C 107 [i64 kind,i64 s,.z m vt] [] (C0 s) [.sc (bv (L8 kind s tail))]:=by
 subst hv;have e1:I6.wrap ((s:Int)-(m:Int))=((s-m:Nat):Int):=by rw[Zd _ (by omega)];omega
 have e2:I6.wrap ((s:Int)-1)=((s-1:Nat):Int):=by rw[Zd _ (by omega)];omega
 have hw:∀x:List Value,sub (sub [] 0 (0*1)++bv tail) 0 ((0+m)*1)++x=bv tail++x:=fun x=>by
  show sub (bv tail) 0 ((0+m)*1)++x=_;rw[Zk,Zj,g8 hm]
 have lz:∀k,(bv tail++Zh k (Value.int .u8 0)).length=m+k:=fun k=>by rw[Zc,i9,Zg,hm]
 have hbz:∀k,bv tail++Zh k (Value.int .u8 0)=bv (tail++Zh k 0):=fun k=>by rw[T5,A5]
 have hpe:tail++L9 kind (s-m)=L8 kind s tail:=by rw[L8,hm]
 rw[<-hpe];have hx0:∀k:Nat,(bv tail++Zh (((k:Nat):Int)).toNat (Value.int .u8 0))=bv (tail++Zh k 0):=fun k=>by rw[Zb,hbz]
 refine Rf.c ?_;rcases hk with rfl|rfl|rfl
 ·have hsS:=hs;rcases hs with hs|hs;all_goals
   first
    |(refine n7 (fun h=>absurd (show (s:Int)=8 by omega) h) (fun _=> ?_);refine d9 (fun h=>absurd h (by omega)) (fun _=> ?_))
    |(refine n7 (fun _=> ?_) (fun h=>absurd h (show (s:Int)≠8 by omega));refine n7 (fun h=>absurd (show (s:Int)=16 by omega) h) (fun _=> ?_);refine d9 (fun h=>absurd h (by omega)) (fun _=> ?_))
   refine⟨by rw[i9];omega,by omega,by decide,?_⟩;refine⟨by rw[e1];omega,by rw[e1];omega,by rw[e1,Zb];omega,by show 0+(0+m)*1<=(bv tail).length;rw[i9,hm];omega,_,rfl,?_⟩;refine⟨Nat,fun i=>⟨[(1,i64 s),(8,i64 (s-m:Nat)),(9,.o 1 (.k 0) 0 s),(10,i64 i)],[.sc (bv (tail++(Zh (i-m) (Zr (s-m))++Zh (s-i) 0)))]⟩,fun i=>m<=i/\i<=s,fun i=>s-i,⟨[],m,⟨Zf _,by omega⟩,[.d 37 0],⟨rfl,f6 e1,congrArg (V.o 1 (.k 0) 0) (by rw[e1,Zb];omega),rfl,tq⟩,⟨_,rfl,g9 ?_⟩,tq⟩,fun i hi=> ?_⟩
   ·rw[hw,e1,hx0,Z3];rfl
   obtain⟨h1,h2⟩:=hi;refine d9 (fun d8=> ?_) (fun hge=> ?_)
   ·have d8:i<s:=by omega
    refine⟨by omega,by omega,by rw[Zb,i9,Zc,Zc,Zg,Zg,hm];omega,?_⟩;refine⟨i+1,⟨by omega,by omega⟩,(by show s-(i+1)<s-i;omega),[.k 0],⟨rfl,rfl,rfl,f6 (by simp(disch:=omega)only[Zd];omega),tq⟩,⟨_,rfl,g9 ?_⟩,tq⟩;rw[Zb,Zj,Zk,X5,K6,VY hm h1 d8]
   ·obtain rfl:i=s:=by omega
    refine⟨_,rfl,[.k 0],rfl,⟨_,rfl,g9 ?_⟩,tq⟩;rw[Z3,List.replicate_zero,List.append_nil];rfl
 ·have hsS:=hs;rcases hs with hs|hs;all_goals
   first
    |(refine n7 (fun h=>absurd (show (s:Int)=8 by omega) h) (fun _=> ?_);refine d9 (fun h=>absurd h (by omega)) (fun _=> ?_))
    |(refine n7 (fun _=> ?_) (fun h=>absurd h (show (s:Int)≠8 by omega));refine n7 (fun h=>absurd (show (s:Int)=16 by omega) h) (fun _=> ?_);refine d9 (fun h=>absurd h (by omega)) (fun _=> ?_))
   refine⟨by rw[i9];omega,by omega,by decide,?_⟩;refine⟨by rw[e1];omega,by rw[e1];omega,by rw[e1,Zb];omega,by show 0+(0+m)*1<=(bv tail).length;rw[i9,hm];omega,_,rfl,?_⟩;refine⟨by omega,by rw[e1,Zb];omega,by rw[hw,e1,hx0,i9,Zc,Zg,hm,Zb];omega,?_⟩;refine⟨_,rfl,[.d 37 0],congrArg (fun z=>V.t [V.o 1 (.k 0) 0 z,i64 0]) (by rw[e1,Zb];omega),⟨_,rfl,g9 ?_⟩,tq⟩;rw[hw,e1,hx0,Zb,Zj,Zk];show(bv (tail++Zh (s-m) 0)).set m (Value.int .u8 ((128:UInt8).toNat:Int))=_;rw[K6,Zt _ _ (by omega),hm,Z3];obtain⟨z,hz⟩:∃z,s-m=z+1:=⟨s-m-1,by omega⟩;rw[hz];rfl
 ·have hsS:=hs;rcases hs with hs|hs;all_goals
   first
    |(refine n7 (fun h=>absurd (show (s:Int)=8 by omega) h) (fun _=> ?_);refine d9 (fun h=>absurd h (by omega)) (fun _=> ?_))
    |(refine n7 (fun _=> ?_) (fun h=>absurd h (show (s:Int)≠8 by omega));refine n7 (fun h=>absurd (show (s:Int)=16 by omega) h) (fun _=> ?_);refine d9 (fun h=>absurd h (by omega)) (fun _=> ?_))
   refine⟨by rw[i9];omega,by omega,by decide,?_⟩;refine⟨by rw[e1];omega,by rw[e1];omega,by rw[e1,Zb];omega,by show 0+(0+m)*1<=(bv tail).length;rw[i9,hm];omega,_,rfl,?_⟩;refine⟨by rw[e2];omega,by rw[e2,e1,Zb];omega,by rw[hw,e1,hx0,i9,Zc,Zg,hm,e2,Zb];omega,?_⟩;refine⟨_,rfl,[.d 37 0],congrArg (fun z=>V.t [V.o 1 (.k 0) 0 z,i64 0]) (by rw[e1,Zb];omega),⟨_,rfl,g9 ?_⟩,tq⟩;rw[hw,e1,hx0,e2,Zb,Zj,Zk,X5,K6,Zt _ _ (by omega),hm];have:=wx (n:=s-m) (x:=Zr (s-m)) (y:=0) (by omega);rw[show s-1-m=s-m-1 by omega,this];rfl
theorem yW {n m:Nat} {va vb:List Value} {a b:Bs} (ha:va=bv a) (hb:vb=bv b) (la:a.length=n) (lb:b.length=m):a9 C 181 [.z n va,.z m vb] [] (.ret (bool (decide (a=b)))) []:=by
 subst ha;subst hb;refine Pq.c ?_;refine⟨by rw[i9];exact la,_,rfl,?_⟩;refine⟨by rw[i9];exact lb,_,rfl,?_⟩;refine⟨_,rfl,[],congrArg bool ?_,tq⟩;exact a0W _ _
theorem JZ {n:Nat} {vb:List Value} {b:Bs} (hv:vb=bv b) (hl:b.length=n) (hn:n<=1000):a9 C 231 [.z n vb,.s (.int .u8 128)] [] (.ret (i64 ((T8 b n:Int)-1))) []:=by
 subst hv;refine Pp.c ?_;refine⟨Nat,fun j=>⟨[(0,.z n (bv b)),(1,.s (.int .u8 128)),(5,i64 ((j:Int)-1))],[]⟩,fun j=>j<=n/\T8 b n=T8 b j,fun j=>j,?_,fun j hj=> ?_⟩
 ·exact⟨[],n,⟨Zf _,rfl⟩,[],⟨rfl,rfl,f6 (by rw[Zd _ (by omega)]),tq⟩,tq⟩
 ·obtain⟨h1,h2⟩:=hj;refine d9 (fun hp=> ?_) (fun hp=> ?_)
  ·obtain⟨i,rfl⟩:∃i,j=i+1:=⟨j-1,by omega⟩;have e1:(((i+1:Nat):Int)-1)=(i:Int):=by omega
   refine⟨by omega,by omega,.int .u8 ((b.getD i 0).toNat:Int),by rw[e1,Zb];exact p5 (by omega),?_⟩;refine j5 (fun hz=> ?_) (fun hz=> ?_)
   ·have hz':b.getD i 0=128:=Z7.1 (by have:(128:UInt8).toNat=128:=rfl;omega);have e:T8 b (i+1)=i+1:=by unfold T8;rw[if_pos hz']
    rw[h2,e];exact⟨_,rfl,[],rfl,tq⟩
   ·have hz':¬b.getD i 0=128:=fun e=>hz (by rw[e];rfl);have e:T8 b (i+1)=T8 b i:=by rw[T8,if_neg hz']
    exact⟨i,⟨by omega,by rw[h2,e]⟩,(by show i<i+1;omega),[],⟨rfl,rfl,f6 (by rw[e1,Zd _ (by omega)]),tq⟩,tq⟩
  ·obtain rfl:j=0:=by omega
   rw[h2];exact⟨_,rfl,[],rfl,tq⟩
theorem KM {n:Nat} {vb:List Value} {b:Bs} (hv:vb=bv b) (hl:b.length=n) (hn:n<=1000):a9 C 182 [.z n vb,.s (.int .u8 128)] [] (.ret (i64 ((T8 b n:Int)-1))) []:=by
 refine Pr.c ?_;refine⟨[],_,_,_,_,JZ hv hl hn,rfl,rfl,?_⟩;exact⟨_,rfl,[],rfl,tq⟩
theorem zf {kind:Int} {s:Nat} {vb:List Value} {b:Bs} (hv:vb=bv b) (hk:kind=1\/kind=2\/kind=3) (hs:s=8\/s=16) (hl:b.length=s):a9 C 123 [i64 kind,.z s vb] [] (.ret (i64 (A3 kind b))) []:=by
 subst hv;have w1:I6.wrap ((s:Int)-1)=((s-1:Nat):Int):=by rw[Zd _ (by omega)];omega
 obtain⟨y,hy⟩:∃y,y=b.getD (s-1) 0:=⟨_,rfl⟩;have hv:(bv b)[(I6.wrap ((s:Int)-1)).toNat]? =some (.int .u8 (y.toNat:Int)):=by rw[w1,Zb,hy];exact p5 (by omega)
 obtain⟨c,hc⟩:∃c,c=y.toNat:=⟨_,rfl⟩;have w2:I6.wrap (y.toNat:Int)=(c:Int):=by rw[eY,hc]
 have hcb:c<256:=by rw[hc];exact y.toNat_lt
 have hC:∀k:Int,k≠2->ao k b=c:=fun k hk=>by unfold ao;rw[if_neg hk,hl,<-hy,hc]
 refine Qq.c ?_;rcases hk with rfl|rfl|rfl
 ·have hP:A3 1 b=if c<1\/s<c\/b.drop (s-c)≠L9 1 c then 0 else c:=by
   unfold A3;rw[hC 1 (by decide),hl];by_cases h1:c<1\/s<c\/b.drop (s-c)≠L9 1 c
   ·rw[if_pos h1,if_pos (by rcases h1 with h|h|h;exact .inl h;exact .inr (.inl h);exact .inr (.inr ⟨by decide,h⟩))]
   ·rw[if_neg h1,if_neg (fun h=>h1 (by rcases h with h|h|h;exact .inl h;exact .inr (.inl h);exact .inr (.inr h.2)))]
  refine⟨0,Unit,fun _=>⟨[],[]⟩,fun _=>False,fun _=>0,?_,fun x hx=>hx.elim⟩;refine⟨by rw[w1];omega,by rw[w1];omega,_,hv,?_⟩;refine d9 (fun h=> ?_) (fun h=> ?_)
  ·rw[w2]at h;refine⟨_,rfl,[],f6 ?_,tq⟩;rw[hP,if_pos (.inl (by omega))];rfl
  rw[w2]at h;refine d9 (fun h2=> ?_) (fun h2=> ?_)
  ·rw[w2]at h2;refine⟨_,rfl,[],f6 ?_,tq⟩;rw[hP,if_pos (.inr (.inl (by omega)))];rfl
  rw[w2]at h2;have w3:I6.wrap ((s:Int)-I6.wrap (y.toNat:Int))=((s-c:Nat):Int):=by rw[w2,Zd _ (by omega)];omega
  have lm:=oy (kind:=1) (n:=c) (by omega);have ld:(b.drop (s-c)).length=c:=by rw[Ze];omega
  refine⟨by rw[w3];omega,by rw[w3];omega,by first|omega|(rw [w3];omega),by first|omega|(rw [w3];omega),?_⟩;refine⟨[],_,_,_,_,tU (kind:=1) (n:=c) (.inl rfl) (by omega) (by omega),?_,rfl,?_⟩
  ·rw[w2];rfl
  refine⟨[],_,_,_,_,yW (a:=b.drop (s-c)) (b:=L9 1 c) (n:=c) (m:=c) (va:=bv (b.drop (s-c))) (vb:=bv (L9 1 c)) rfl rfl ld lm,?_,rfl,?_⟩
  ·rw[w3];show[V.z (s-(s-c)) (sub (bv b) (s-c) (s-(s-c))),V.z c (sub (bv (L9 1 c)) 0 c)]=_;rw[y4 hl (by omega),g8 lm,show s-(s-c)=c by omega]
  refine iB (fun h3=> ?_) (fun h3=> ?_)
  ·refine⟨_,rfl,[],f6 ?_,tq⟩;rw[hP,if_pos (.inr (.inr (by simpa using h3)))];rfl
  ·refine⟨_,rfl,[],f6 ?_,tq⟩;rw[w2,hP,if_neg];rintro (h4|h4|h4)
   ·omega
   ·omega
   ·exact h4 (by simpa using h3)
 ·obtain⟨L,hL⟩:∃L,L=T8 b s:=⟨_,rfl⟩;have hLs:L<=s:=by rw[hL];exact BQ b s
  obtain⟨e,he⟩:∃e,e=s+1-L:=⟨_,rfl⟩;have hC2:ao 2 b=e:=by unfold ao;rw[if_pos rfl,hl,<-hL,he]
  have hP:A3 2 b=if s<e\/b.drop (s-e)≠L9 2 e then 0 else e:=by
   unfold A3;rw[hC2,hl];by_cases h1:s<e\/b.drop (s-e)≠L9 2 e
   ·rw[if_pos h1,if_pos (by rcases h1 with h|h;exact .inr (.inl h);exact .inr (.inr ⟨by decide,h⟩))]
   ·rw[if_neg h1,if_neg (fun h=>by
     rcases h with h|h|h
     ·omega
     ·exact h1 (.inl h)
     ·exact h1 (.inr h.2))]
  have w3:I6.wrap ((s:Int)-((T8 b s:Int)-1))=(e:Int):=by rw[<-hL,Zd _ (by omega)];omega
  refine⟨0,Unit,fun _=>⟨[(0,i64 2),(1,.z s (bv b)),(5,i64 s)],[]⟩,fun _=>True,fun _=>0,?_,fun x hx=> ?_⟩
  ·refine⟨by rw[w1];omega,by rw[w1];omega,_,hv,?_⟩;exact⟨rfl,(),tq,[],⟨rfl,rfl,rfl,tq⟩,tq⟩
  ·refine⟨[],_,_,_,_,KM rfl hl (by omega),rfl,rfl,?_⟩;refine d9 (fun h2=> ?_) (fun h2=> ?_)
   ·rw[w3]at h2;refine⟨_,rfl,[],f6 ?_,tq⟩;rw[hP,if_pos (.inl (by omega))];rfl
   rw[w3]at h2;have w4:I6.wrap ((s:Int)-I6.wrap ((s:Int)-((T8 b s:Int)-1)))=((s-e:Nat):Int):=by rw[w3,Zd _ (by omega)];omega
   have lm:=oy (kind:=2) (n:=e) (by omega);have ld:(b.drop (s-e)).length=e:=by rw[Ze];omega
   refine⟨by rw[w4];omega,by rw[w4];omega,by first|omega|(rw [w4];omega),by first|omega|(rw [w4];omega),?_⟩;refine⟨[],_,_,_,_,tU (kind:=2) (n:=e) (.inr (.inl rfl)) (by omega) (by omega),?_,rfl,?_⟩
   ·rw[w3];rfl
   refine⟨[],_,_,_,_,yW (a:=b.drop (s-e)) (b:=L9 2 e) (n:=e) (m:=e) (va:=bv (b.drop (s-e))) (vb:=bv (L9 2 e)) rfl rfl ld lm,?_,rfl,?_⟩
   ·rw[w4];show[V.z (s-(s-e)) (sub (bv b) (s-e) (s-(s-e))),V.z e (sub (bv (L9 2 e)) 0 e)]=_;rw[y4 hl (by omega),g8 lm,show s-(s-e)=e by omega]
   refine iB (fun h3=> ?_) (fun h3=> ?_)
   ·refine⟨_,rfl,[],f6 ?_,tq⟩;rw[hP,if_pos (.inr (by simpa using h3))];rfl
   ·refine⟨_,rfl,[],f6 ?_,tq⟩;rw[w3,hP,if_neg];rintro (h4|h4)
    ·omega
    ·exact h4 (by simpa using h3)
 ·have hP:A3 3 b=if c<1\/s<c then 0 else c:=by
   unfold A3;rw[hC 3 (by decide),hl];by_cases h1:c<1\/s<c
   ·rw[if_pos h1,if_pos (by rcases h1 with h|h;exact .inl h;exact .inr (.inl h))]
   ·rw[if_neg h1,if_neg (fun h=>by
     rcases h with h|h|h
     ·exact h1 (.inl h)
     ·exact h1 (.inr h)
     ·exact h.1 rfl)]
  refine⟨0,Unit,fun _=>⟨[],[]⟩,fun _=>False,fun _=>0,?_,fun x hx=>hx.elim⟩;refine⟨by rw[w1];omega,by rw[w1];omega,_,hv,?_⟩;refine d9 (fun h=> ?_) (fun h=> ?_)
  ·rw[w2]at h;refine⟨_,rfl,[],f6 ?_,tq⟩;rw[hP,if_pos (.inl (by omega))];rfl
  rw[w2]at h;refine d9 (fun h2=> ?_) (fun h2=> ?_)
  ·rw[w2]at h2;refine⟨_,rfl,[],f6 ?_,tq⟩;rw[hP,if_pos (.inr (by omega))];rfl
  rw[w2]at h2;refine⟨_,rfl,[],f6 ?_,tq⟩;rw[w2,hP,if_neg];omega
theorem Nc {kind:Int} {s:Nat} {vb:List Value} {b:Bs} (hv:vb=bv b) (hk:kind=1\/kind=2\/kind=3) (hs:s=8\/s=16) (hl:b.length=s) (h0:A3 kind b≠0):a9 C 67 [i64 kind,i64 s,.z s vb] [] (.ret (.t [.z (s-A3 kind b) (bv (V7 kind b)),i64 0])) []:=by
 subst hv;have HL:=zf (vb:=bv b) rfl hk hs hl;have hle:=rq kind b;have hst:V7 kind b=sub b 0 (s-A3 kind b):=by unfold V7;rw[hl];rfl
 rw[hst];generalize A3 kind b=c at*
 have w1:I6.wrap ((s:Int)-(c:Int))=((s-c:Nat):Int):=by rw[Zd _ (by omega)];omega
 have lp:(sub b 0 (s-c)).length=s-c:=by rw[l4];omega
 have hv1:sub (bv b) 0 (s-c)=bv (sub b 0 (s-c)):=m8 _ _ _;refine AM.c ?_;refine⟨[],_,_,_,_,uf hk,rfl,rfl,?_⟩;refine⟨[],_,_,_,_,ue hs,rfl,rfl,?_⟩;refine n7 (fun h=>absurd rfl h) (fun _=> ?_);refine⟨[],_,_,_,_,HL,rfl,rfl,?_⟩;refine j5 (fun h=>absurd h (by omega)) (fun _=> ?_);refine⟨by rw[w1];omega,by rw[w1];omega,by first|omega|(rw [w1];omega),by first|omega|(rw [w1];omega),?_⟩;refine⟨[],_,_,_,_,W6 (n:=s-c) (va:=bv (sub b 0 (s-c))) rfl lp (by omega),?_,rfl,?_⟩
 ·rw[w1];show[V.z (s-c) (sub (bv b) 0 (s-c))]=_;rw[hv1]
 exact⟨_,rfl,[],rfl,tq⟩
theorem Nd {kind:Int} {s:Nat} {vb:List Value} {b:Bs} (hv:vb=bv b) (hk:kind=1\/kind=2\/kind=3) (hs:s=8\/s=16) (hl:b.length=s) (h0:A3 kind b=0):a9 C 67 [i64 kind,i64 s,.z s vb] [] (.ret (.t [i6,i64 8])) []:=by
 subst hv;have HL:=zf (vb:=bv b) rfl hk hs hl;rw[h0]at HL;refine AM.c ?_;refine⟨[],_,_,_,_,uf hk,rfl,rfl,?_⟩;refine⟨[],_,_,_,_,ue hs,rfl,rfl,?_⟩;refine n7 (fun h=>absurd rfl h) (fun _=> ?_);refine⟨[],_,_,_,_,HL,rfl,rfl,?_⟩;exact⟨_,rfl,[],rfl,tq⟩
def V3 (b:Bs):Nat->Nat
 |0=>0
 |k+1=>if b.getD (k+1) 0=0 then V3 b k else k+1
theorem BS (b:Bs):∀k,V3 b k<=k/\(∀j,V3 b k<j->j<=k->b.getD j 0=0)/\(V3 b k=0\/b.getD (V3 b k) 0≠0)
 |0=>⟨Zf _,fun j h1 h2=>by unfold V3 at h1;omega,.inl rfl⟩
 |k+1=>by
  obtain⟨h1,h2,h3⟩:=BS b k;unfold V3;by_cases h:b.getD (k+1) 0=0
  ·rw[if_pos h];refine⟨by omega,fun j g1 g2=> ?_,h3⟩;by_cases e:j=k+1
   ·rw[e];exact h
   ·exact h2 j g1 (by omega)
  ·rw[if_neg h];exact⟨Zf _,fun j g1 g2=>by omega,.inr h⟩
theorem Db {n j:Nat} (h0:0<n):(L9 2 n).getD j 0=if j=0 then 128 else 0:=by
 unfold L9;rw[if_neg (by decide),if_pos rfl];rcases j with _|j
 ·rfl
 ·rw[if_neg (by omega)];simp only[Zl,List.getElem?_cons_succ,Z2];split<;>rfl
theorem pY {b:Bs} {m j:Nat}:(b.drop m).getD j 0=b.getD (m+j) 0:=by
 simp[Zl,List.getElem?_drop]
theorem WZ {b:Bs} {s:Nat} (hl:b.length=s) (hs:0<s):A3 2 b=if b.getD (V3 b (s-1)) 0=128 then s-V3 b (s-1)else 0:=by
 obtain⟨z1,z2,z3⟩:=BS b (s-1);generalize V3 b (s-1)=K at*
 by_cases hK:b.getD K 0=128
 ·rw[if_pos hK];have hM:T8 b s=K+1:=BP b hK s (by omega) (fun i g1 g2=>by rw[z2 i g1 (by omega)];decide);have hC:ao 2 b=s-K:=by unfold ao;rw[if_pos rfl,hl,hM];omega
  have lm:=oy (kind:=2) (n:=s-K) (by omega);have hd:b.drop (s-(s-K))=L9 2 (s-K):=by
   rw[show s-(s-K)=K by omega];refine jk (by rw[Ze,hl,lm]) fun j hj=> ?_;rw[Ze,hl]at hj;rw[pY,Db (by omega)];by_cases e:j=0
   ·rw[if_pos e,e,Jf];exact hK
   ·rw[if_neg e];exact z2 _ (by omega) (by omega)
  unfold A3;rw[hC,hl,if_neg];rintro (h|h|h)
  ·omega
  ·omega
  ·exact h.2 hd
 ·rw[if_neg hK];unfold A3;rw[hl];split
  ·rfl
  ·rename_i h;exfalso;obtain⟨e,he⟩:∃e,e=ao 2 b:=⟨_,rfl⟩;rw[<-he]at h;have g1:¬e<1:=fun x=>h (.inl x);have g2:¬s<e:=fun x=>h (.inr (.inl x));have g3:b.drop (s-e)=L9 2 e:=Classical.byContradiction fun x=>h (.inr (.inr ⟨by decide,x⟩));have hat:∀j,b.getD (s-e+j) 0=if j=0 then 128 else 0:=fun j=>by rw[<-pY,g3,Db (by omega)]
   rcases Nat.lt_trichotomy K (s-e)with hh|hh|hh
   ·have:=hat 0;rw[if_pos rfl,Jf,z2 _ hh (by omega)]at this;exact absurd this (by decide)
   ·have:=hat 0;rw[if_pos rfl,Jf,<-hh]at this;exact hK this
   ·have:=hat (K-(s-e));rw[if_neg (by omega),show s-e+(K-(s-e))=K by omega]at this;rcases z3 with z3|z3
    ·omega
    ·exact z3 this
def iq (kind:Int) (b:Bs):Int:=if A3 kind b=0 then -1 else ((b.length-A3 kind b:Nat):Int)
theorem jy {kind:Int} {b:Bs} (h:A3 kind b=0):iq kind b= -1:=by
 unfold iq;rw[if_pos h]
theorem ro {kind:Int} {b:Bs} {s c:Nat} (hl:b.length=s) (h:A3 kind b=c) (h0:0<c):iq kind b=((s-c:Nat):Int):=by
 unfold iq;rw[if_neg (by omega),h,hl]
theorem WX {b:Bs} {s c:Nat} (hl:b.length=s) (hs:0<s) (hc:c=(b.getD (s-1) 0).toNat):
  ((c<1\/s<c\/(∃i,s-c<=i/\i<s/\b.getD i 0≠Zr c))->A3 1 b=0)/\(¬(c<1\/s<c\/(∃i,s-c<=i/\i<s/\b.getD i 0≠Zr c))->A3 1 b=c):=by
 have hC:ao 1 b=c:=by unfold ao;rw[if_neg (by decide),hl,hc]
 have hM:L9 1 c=Zh c (Zr c):=by unfold L9;rw[if_pos rfl]
 have hd:c<=s->(b.drop (s-c)=L9 1 c↔∀i,s-c<=i->i<s->b.getD i 0=Zr c):=fun hcs=>by
  constructor
  ·intro h i g1 g2;have:(b.drop (s-c)).getD (i-(s-c)) 0=b.getD i 0:=by rw[pY,show s-c+(i-(s-c))=i by omega]
   rw[<-this,h,hM,Zl,Z2,if_pos (by omega)];rfl
  ·intro h;refine jk (by rw[Ze,hl,hM,Zg];omega) fun j hj=> ?_;rw[Ze,hl]at hj;rw[pY,h _ (by omega) (by omega),hM,Zl,Z2,if_pos (by omega)];rfl
 unfold A3;rw[hC,hl];refine⟨fun h=>if_pos ?_,fun h=>if_neg ?_⟩
 ·by_cases h1:c<1
  ·exact .inl h1
  by_cases h2:s<c
  ·exact .inr (.inl h2)
  rcases h with h|h|⟨i,g1,g2,g3⟩
  ·exact .inl h
  ·exact .inr (.inl h)
  ·exact .inr (.inr ⟨by decide,fun e=>g3 ((hd (by omega)).1 e i g1 g2)⟩)
 ·rintro (k|k|k)
  ·exact h (.inl k)
  ·exact h (.inr (.inl k))
  ·by_cases h2:s<c
   ·exact h (.inr (.inl h2))
   ·exact k.2 ((hd (by omega)).2 fun i g1 g2=>Classical.byContradiction fun g3=>h (.inr (.inr ⟨i,g1,g2,g3⟩)))
theorem WY {b:Bs} {s c:Nat} (hl:b.length=s) (hc:c=(b.getD (s-1) 0).toNat):A3 3 b=if c<1\/s<c then 0 else c:=by
 have hC:ao 3 b=c:=by unfold ao;rw[if_neg (by decide),hl,hc]
 unfold A3;rw[hC,hl];by_cases h1:c<1\/s<c
 ·rw[if_pos h1,if_pos (by rcases h1 with h|h;exact .inl h;exact .inr (.inl h))]
 ·rw[if_neg h1,if_neg (fun h=>by
   rcases h with h|h|h
   ·exact h1 (.inl h)
   ·exact h1 (.inr h)
   ·exact h.1 rfl)]
theorem yF {kind:Int} {s:Nat} {vb:List Value} {b:Bs} (hv:vb=bv b) (hk:kind=1\/kind=2\/kind=3) (hs:s=8\/s=16) (hl:b.length=s):a9 C 161 [i64 kind,.z s vb] [] (.ret (i64 (iq kind b))) []:=by
 subst hv;have w1:I6.wrap ((s:Int)-1)=((s-1:Nat):Int):=by rw[Zd _ (by omega)];omega
 have hg:∀i:Nat,i<s->(bv b)[((i:Nat):Int).toNat]? =some (.int .u8 ((b.getD i 0).toNat:Int)):=fun i hi=>by rw[Zb];exact p5 (by omega)
 refine Rg.c ?_;rcases hk with rfl|rfl|rfl
 ·obtain⟨c,hc⟩:∃c,c=(b.getD (s-1) 0).toNat:=⟨_,rfl⟩;have hcb:c<256:=by rw[hc];exact UInt8.toNat_lt _
  have w2:I6.wrap (((b.getD (s-1) 0).toNat:Nat):Int)=(c:Int):=by rw[eY,hc]
  have hP:=WX hl (by omega) hc;refine⟨by rw[w1];omega,by rw[w1];omega,_,by rw[w1];exact hg _ (by omega),?_⟩;refine d9 (fun h=> ?_) (fun h=> ?_)
  ·rw[w2]at h;refine⟨_,rfl,[],f6 ?_,tq⟩;exact(jy (hP.1 (.inl (by omega)))).symm
  rw[w2]at h;refine d9 (fun h2=> ?_) (fun h2=> ?_)
  ·rw[w2]at h2;refine⟨_,rfl,[],f6 ?_,tq⟩;exact(jy (hP.1 (.inr (.inl (by omega))))).symm
  rw[w2]at h2;have w3:I6.wrap ((s:Int)-I6.wrap (((b.getD (s-1) 0).toNat:Nat):Int))=((s-c:Nat):Int):=by rw[w2,Zd _ (by omega)];omega
  refine⟨Nat,fun i=>⟨[(0,i64 1),(1,.z s (bv b)),(5,i64 s),(7,i64 c),(8,i64 i)],[]⟩,fun i=>s-c<=i/\i<=s/\∀j,s-c<=j->j<i->b.getD j 0=Zr c,fun i=>s-i,⟨[],s-c,⟨Zf _,by omega,fun j g1 g2=>by omega⟩,[],⟨rfl,rfl,rfl,f6 w2,f6 w3,tq⟩,tq⟩,fun i hi=> ?_⟩;obtain⟨g1,g2,g3⟩:=hi;refine d9 (fun d8=> ?_) (fun hge=> ?_)
  ·have d8:i<s:=by omega
   refine⟨by omega,by omega,_,hg i d8,?_⟩;refine n7 (fun hne=> ?_) (fun heq=> ?_)
   ·rw[X5]at hne;have hne:b.getD i 0≠Zr c:=fun e=>hne (by rw[e]);refine⟨_,rfl,[],f6 ?_,tq⟩;exact(jy (hP.1 (.inr (.inr ⟨i,g1,d8,hne⟩)))).symm
   ·rw[X5]at heq;have heq:b.getD i 0=Zr c:=Z7.1 (by omega);refine⟨i+1,⟨by omega,by omega,fun j k1 k2=> ?_⟩,(by show s-(i+1)<s-i;omega),[],⟨rfl,rfl,rfl,rfl,f6 (by simp(disch:=omega)only[Zd];omega),tq⟩,tq⟩;by_cases e:j=i
    ·rw[e];exact heq
    ·exact g3 j k1 (by omega)
  ·have hi:i=s:=by omega
   subst hi;have w4:I6.wrap ((i:Int)-(c:Int))=((i-c:Nat):Int):=by rw[Zd _ (by omega)];omega
   refine⟨_,rfl,[],f6 ?_,tq⟩;rw[w4];have hn:¬(c<1\/i<c\/∃j,i-c<=j/\j<i/\b.getD j 0≠Zr c):=by
    rintro (k1|k1|⟨j,k1,k2,k3⟩)
    ·omega
    ·omega
    ·exact k3 (g3 j k1 k2)
   exact(ro hl (hP.2 hn) (by omega)).symm
 ·have hP:=WZ hl (by omega);refine⟨Nat,fun k=>⟨[(1,.z s (bv b)),(6,i64 k)],[]⟩,fun k=>k<=s-1/\V3 b (s-1)=V3 b k,fun k=>k,⟨[],s-1,⟨Zf _,rfl⟩,[],⟨rfl,f6 w1,tq⟩,tq⟩,fun k hk=> ?_⟩;obtain⟨g1,g2⟩:=hk;have fin:∀K:Nat,K<=s-1->V3 b (s-1)=K->(b.getD K 0=128->iq 2 b=(K:Int))/\(b.getD K 0≠128->iq 2 b= -1):=fun K hK hZ=>by
   rw[hZ]at hP;refine⟨fun h=> ?_,fun h=> ?_⟩
   ·rw[ro hl (hP.trans (if_pos h)) (by omega)];omega
   ·exact jy (hP.trans (if_neg h))
  have w128:((128:UInt8).toNat:Int)=128:=rfl;refine d9 (fun hp=> ?_) (fun hp=> ?_)
  ·obtain⟨i,rfl⟩:∃i,k=i+1:=⟨k-1,by omega⟩;refine⟨by omega,by omega,_,hg (i+1) (by omega),?_⟩;refine j5 (fun hz=> ?_) (fun hz=> ?_)
   ·have hz':b.getD (i+1) 0=0:=(mJ _).1 hz;have e:V3 b (i+1)=V3 b i:=by rw[V3,if_pos hz']
    exact⟨i,⟨by omega,by rw[g2,e]⟩,(by show i<i+1;omega),[],⟨rfl,f6 (by simp(disch:=omega)only[Zd];omega),tq⟩,tq⟩
   ·have hz':¬b.getD (i+1) 0=0:=fun e=>hz ((mJ _).2 e);have e:V3 b (i+1)=i+1:=by rw[V3,if_neg hz']
    have F:=fin (i+1) g1 (g2.trans e);refine⟨by omega,by omega,_,hg (i+1) (by omega),?_⟩;refine j5 (fun hm=> ?_) (fun hm=> ?_)
    ·exact⟨_,rfl,[],f6 (F.1 (Z7.1 (by omega))).symm,tq⟩
    ·exact⟨_,rfl,[],f6 (F.2 (fun e=>hm (by rw[e];exact w128))).symm,tq⟩
  ·obtain rfl:k=0:=by omega
   have F:=fin 0 g1 g2;refine⟨by omega,by omega,_,hg 0 (by omega),?_⟩;refine j5 (fun hm=> ?_) (fun hm=> ?_)
   ·exact⟨_,rfl,[],f6 (F.1 (Z7.1 (by omega))).symm,tq⟩
   ·exact⟨_,rfl,[],f6 (F.2 (fun e=>hm (by rw[e];exact w128))).symm,tq⟩
 ·obtain⟨c,hc⟩:∃c,c=(b.getD (s-1) 0).toNat:=⟨_,rfl⟩;have hcb:c<256:=by rw[hc];exact UInt8.toNat_lt _
  have w2:I6.wrap (((b.getD (s-1) 0).toNat:Nat):Int)=(c:Int):=by rw[eY,hc]
  have hP:=WY hl hc;refine⟨by rw[w1];omega,by rw[w1];omega,_,by rw[w1];exact hg _ (by omega),?_⟩;refine d9 (fun h=> ?_) (fun h=> ?_)
  ·rw[w2]at h;refine⟨_,rfl,[],f6 ?_,tq⟩;exact(jy (hP.trans (if_pos (.inl (by omega))))).symm
  rw[w2]at h;refine d9 (fun h2=> ?_) (fun h2=> ?_)
  ·rw[w2]at h2;refine⟨_,rfl,[],f6 ?_,tq⟩;exact(jy (hP.trans (if_pos (.inr (by omega))))).symm
  rw[w2]at h2;have w3:I6.wrap ((s:Int)-I6.wrap (((b.getD (s-1) 0).toNat:Nat):Int))=((s-c:Nat):Int):=by rw[w2,Zd _ (by omega)];omega
  have w4:I6.wrap ((s:Int)-(c:Int))=((s-c:Nat):Int):=by rw[Zd _ (by omega)];omega
  refine⟨Unit,fun _=>⟨[(0,i64 3),(1,.z s (bv b)),(5,i64 s),(7,i64 c),(8,i64 (s-c:Nat))],[]⟩,fun _=>True,fun _=>0,⟨[],(),tq,[],⟨rfl,rfl,rfl,f6 w2,f6 w3,tq⟩,tq⟩,fun _ _=> ?_⟩;have hres:iq 3 b=((s-c:Nat):Int):=by
   exact ro hl (hP.trans (if_neg (by omega))) (by omega)
  refine d9 (fun d8=> ?_) (fun hge=> ?_)
  ·refine⟨_,rfl,[],f6 ?_,tq⟩;rw[w4,hres]
  ·refine⟨_,rfl,[],f6 ?_,tq⟩;rw[w4,hres]
theorem LA {kind:Int} {s:Nat} {vb:List Value} {b:Bs} (hv:vb=bv b) (hk:kind=1\/kind=2\/kind=3) (hs:s=8\/s=16) (hl:b.length=s) (h0:A3 kind b=0):a9 C 108 [i64 kind,i64 s,.z s vb] [] (.ret (.t [i6,i64 8])) []:=by
 subst hv;have HA:=yF (vb:=bv b) rfl hk hs hl;rw[jy h0]at HA;refine AN.c ?_;refine d9 (fun h=>absurd h (by omega)) (fun _=> ?_);refine d9 (fun h=>absurd h (by omega)) (fun _=> ?_);rcases hs with rfl|rfl;all_goals
  refine⟨[],_,_,_,_,HA,rfl,rfl,?_⟩;exact⟨_,rfl,[],rfl,tq⟩
def X3 (mode:Int):Int:=if mode=1\/mode=2 then 1 else if 3<=mode/\mode<=6 then 2 else if 7<=mode/\mode<=9 then 3 else 0
theorem tT (mode:Int):a9 C 60 [i64 mode] [] (.ret (i64 (X3 mode))) []:=by
 refine Tk.c ?_;by_cases hm:1<=mode/\mode<=9
 ·have h9:mode=1\/mode=2\/mode=3\/mode=4\/mode=5\/mode=6\/mode=7\/mode=8\/mode=9:=by omega
  rcases h9 with rfl|rfl|rfl|rfl|rfl|rfl|rfl|rfl|rfl<;>exact⟨_,rfl,[],rfl,tq⟩
 ·have e:X3 mode=0:=by unfold X3;rw[if_neg (by omega),if_neg (by omega),if_neg (by omega)]
  rw[e];refine j5 (fun h=>absurd h (by omega)) (fun _=> ?_);refine j5 (fun h=>absurd h (by omega)) (fun _=> ?_);refine j5 (fun h=>absurd h (by omega)) (fun _=> ?_);refine j5 (fun h=>absurd h (by omega)) (fun _=> ?_);refine j5 (fun h=>absurd h (by omega)) (fun _=> ?_);refine j5 (fun h=>absurd h (by omega)) (fun _=> ?_);refine j5 (fun h=>absurd h (by omega)) (fun _=> ?_);refine j5 (fun h=>absurd h (by omega)) (fun _=> ?_);refine j5 (fun h=>absurd h (by omega)) (fun _=> ?_);exact⟨_,rfl,[],rfl,tq⟩
abbrev D2 (t mode pad:Int) (back:Bool):V:= .a [i64 t,i64 mode,i64 pad,bool back]
theorem Le {t key s k xs rs} (h:k9 t key s k xs rs) {mode pad:Int} {back:Bool} {li:Nat} {vk vi:List Value} (hvk:vk=bv key) (hm:1<=mode/\mode<=9) (hp:1<=pad/\pad<=4) (hpm:pad=4\/mode<=2) (hi:li=if mode=1 then 0 else s):
  a9 C 59 [D2 t mode pad back,.z key.length vk,.z li vi] [] (.ret (.t [f7 t k xs,i64 0])) []:=by
 subst hvk;have hs:=h.s_le;refine qm.c ?_;refine⟨_,rfl,?_⟩;refine⟨[],_,_,_,_,h.new,rfl,rfl,?_⟩;refine⟨_,rfl,?_⟩;refine⟨[],_,_,_,_,tT mode,rfl,rfl,?_⟩;refine⟨[],_,_,_,_,h.size,rfl,rfl,?_⟩;refine⟨_,rfl,?_⟩;have hk0:X3 mode≠0:=by unfold X3;split;decide;split;decide;rw[if_pos (by omega)];decide
 have hk1:pad≠4->X3 mode=1:=fun hp4=>by unfold X3;rw[if_pos (by omega)]
 refine j5 (fun h1=> ?_) (fun h1=> ?_);all_goals
  refine j5 (fun h=>absurd h hk0) (fun _=> ?_);refine⟨_,rfl,?_⟩;refine d9 (fun h=>absurd h (by omega)) (fun _=> ?_);refine⟨_,rfl,?_⟩;refine d9 (fun h=>absurd h (by omega)) (fun _=> ?_);refine⟨_,rfl,?_⟩;refine n7 (fun h4=> ?_) (fun h4=> ?_)
  ·refine n7 (fun h=>absurd (hk1 h4) h) (fun _=> ?_);refine n7 (fun h=>absurd (show (li:Int)=_ by first|(rw [hi,if_pos h1];rfl)|rw[hi,if_neg h1]) h) (fun _=> ?_);exact⟨_,rfl,[],rfl,tq⟩
  ·refine n7 (fun h=>absurd (show (li:Int)=_ by first|(rw [hi,if_pos h1];rfl)|rw[hi,if_neg h1]) h) (fun _=> ?_);exact⟨_,rfl,[],rfl,tq⟩
theorem Lc {t key s k xs rs} (h:k9 t key s k xs rs) {mode pad:Int} {back:Bool} {li:Nat} {vk vi:List Value} (hvk:vk=bv key) (hm:1<=mode/\mode<=9) (hp:1<=pad/\pad<=4) (hpm:pad=4\/mode<=2) (hi:li≠if mode=1 then 0 else s):
  a9 C 59 [D2 t mode pad back,.z key.length vk,.z li vi] [] (.ret (.t [j7,i64 5])) []:=by
 subst hvk;have hs:=h.s_le;refine qm.c ?_;refine⟨_,rfl,?_⟩;refine⟨[],_,_,_,_,h.new,rfl,rfl,?_⟩;refine⟨_,rfl,?_⟩;refine⟨[],_,_,_,_,tT mode,rfl,rfl,?_⟩;refine⟨[],_,_,_,_,h.size,rfl,rfl,?_⟩;refine⟨_,rfl,?_⟩;have hk0:X3 mode≠0:=by unfold X3;split;decide;split;decide;rw[if_pos (by omega)];decide
 have hk1:pad≠4->X3 mode=1:=fun hp4=>by unfold X3;rw[if_pos (by omega)]
 refine j5 (fun h1=> ?_) (fun h1=> ?_);all_goals
  refine j5 (fun h=>absurd h hk0) (fun _=> ?_);refine⟨_,rfl,?_⟩;refine d9 (fun h=>absurd h (by omega)) (fun _=> ?_);refine⟨_,rfl,?_⟩;refine d9 (fun h=>absurd h (by omega)) (fun _=> ?_);refine⟨_,rfl,?_⟩;refine n7 (fun h4=> ?_) (fun h4=> ?_)
  ·refine n7 (fun h=>absurd (hk1 h4) h) (fun _=> ?_);refine n7 (fun _=> ?_) (fun h=>absurd ?_ hi)
   ·exact⟨_,rfl,[],rfl,tq⟩
   ·simp only[h1,if_true,if_false];exact Jd.1 h
  ·refine n7 (fun _=> ?_) (fun h=>absurd ?_ hi)
   ·exact⟨_,rfl,[],rfl,tq⟩
   ·simp only[h1,if_true,if_false];exact Jd.1 h
theorem zi {t mode pad e:Int} {back:Bool} {lk li:Nat} {vk vi:List Value} (HN:a9 C 25 [i64 t,.z lk vk] [] (.ret (.t [j7,i64 e])) []) (he:e≠0):
  a9 C 59 [D2 t mode pad back,.z lk vk,.z li vi] [] (.ret (.t [j7,i64 e])) []:=by
 refine qm.c ?_;refine⟨_,rfl,?_⟩;refine⟨[],_,_,_,_,HN,rfl,rfl,?_⟩;refine n7 (fun _=> ?_) (fun h=>absurd h he);exact⟨_,rfl,[],rfl,tq⟩
theorem fu {t key s k xs rs} (h:k9 t key s k xs rs) {mode pad:Int} {back:Bool} {li:Nat} {vk vi:List Value} (hvk:vk=bv key) (hm:1<=mode/\mode<=9) (hp:1<=pad/\pad<=4) (hpm:pad=4\/mode<=2) (hi:li=if mode=1 then 0 else s):
  a9 C 99 [D2 t mode pad back,.z key.length vk,.z li vi] [] (.ret (i64 0)) []:=by
 subst hvk;refine qk.c ?_;refine⟨_,rfl,?_⟩;refine⟨[],_,_,_,_,h.rnew,rfl,rfl,?_⟩;refine⟨_,rfl,?_⟩;refine d9 (fun h=>absurd h (by omega)) (fun _=> ?_);refine⟨_,rfl,?_⟩;refine d9 (fun h=>absurd h (by omega)) (fun _=> ?_);refine⟨_,rfl,?_⟩;refine d9 (fun h=>absurd h (by omega)) (fun _=> ?_);refine⟨_,rfl,?_⟩;refine d9 (fun h=>absurd h (by omega)) (fun _=> ?_);refine⟨_,rfl,?_⟩;refine n7 (fun h4=> ?_) (fun h4=> ?_)
 ·refine⟨_,rfl,?_⟩;refine d9 (fun h=>absurd h (by omega)) (fun _=> ?_);refine⟨_,rfl,?_⟩;refine⟨[],_,_,_,_,h.rS,rfl,rfl,?_⟩;refine⟨_,rfl,?_⟩;refine j5 (fun h1=> ?_) (fun h1=> ?_);all_goals
   refine n7 (fun h=>absurd (show (li:Int)=_ by first|(rw [hi,if_pos h1];rfl)|rw[hi,if_neg h1]) h) (fun _=> ?_);exact⟨_,rfl,[],rfl,tq⟩
 ·refine⟨_,rfl,?_⟩;refine⟨[],_,_,_,_,h.rS,rfl,rfl,?_⟩;refine⟨_,rfl,?_⟩;refine j5 (fun h1=> ?_) (fun h1=> ?_);all_goals
   refine n7 (fun h=>absurd (show (li:Int)=_ by first|(rw [hi,if_pos h1];rfl)|rw[hi,if_neg h1]) h) (fun _=> ?_);exact⟨_,rfl,[],rfl,tq⟩
theorem Mu {t key s k xs rs} (h:k9 t key s k xs rs) {mode pad:Int} {back:Bool} {li:Nat} {vk vi:List Value} (hvk:vk=bv key) (hm:1<=mode/\mode<=9) (hp:1<=pad/\pad<=4) (hpm:pad=4\/mode<=2) (hi:li≠if mode=1 then 0 else s):
  a9 C 99 [D2 t mode pad back,.z key.length vk,.z li vi] [] (.ret (i64 5)) []:=by
 subst hvk;refine qk.c ?_;refine⟨_,rfl,?_⟩;refine⟨[],_,_,_,_,h.rnew,rfl,rfl,?_⟩;refine⟨_,rfl,?_⟩;refine d9 (fun h=>absurd h (by omega)) (fun _=> ?_);refine⟨_,rfl,?_⟩;refine d9 (fun h=>absurd h (by omega)) (fun _=> ?_);refine⟨_,rfl,?_⟩;refine d9 (fun h=>absurd h (by omega)) (fun _=> ?_);refine⟨_,rfl,?_⟩;refine d9 (fun h=>absurd h (by omega)) (fun _=> ?_);refine⟨_,rfl,?_⟩;refine n7 (fun h4=> ?_) (fun h4=> ?_)
 ·refine⟨_,rfl,?_⟩;refine d9 (fun h=>absurd h (by omega)) (fun _=> ?_);refine⟨_,rfl,?_⟩;refine⟨[],_,_,_,_,h.rS,rfl,rfl,?_⟩;refine⟨_,rfl,?_⟩;refine j5 (fun h1=> ?_) (fun h1=> ?_);all_goals
   refine n7 (fun _=> ?_) (fun h=>absurd ?_ hi)
   ·exact⟨_,rfl,[],rfl,tq⟩
   ·simp only[h1,if_true,if_false];exact Jd.1 h
 ·refine⟨_,rfl,?_⟩;refine⟨[],_,_,_,_,h.rS,rfl,rfl,?_⟩;refine⟨_,rfl,?_⟩;refine j5 (fun h1=> ?_) (fun h1=> ?_);all_goals
   refine n7 (fun _=> ?_) (fun h=>absurd ?_ hi)
   ·exact⟨_,rfl,[],rfl,tq⟩
   ·simp only[h1,if_true,if_false];exact Jd.1 h
theorem Mv {t key s k xs rs} (h:k9 t key s k xs rs) {mode pad:Int} {back:Bool} {li:Nat} {vk vi:List Value} (hvk:vk=bv key) (hb:¬((1<=mode/\mode<=9)/\(1<=pad/\pad<=4)/\(pad=4\/mode<=2))):
  a9 C 99 [D2 t mode pad back,.z key.length vk,.z li vi] [] (.ret (i64 3)) []:=by
 subst hvk;refine qk.c ?_;refine⟨_,rfl,?_⟩;refine⟨[],_,_,_,_,h.rnew,rfl,rfl,?_⟩;refine⟨_,rfl,?_⟩;refine d9 (fun _=>⟨_,rfl,[],rfl,tq⟩) (fun a1=> ?_);refine⟨_,rfl,?_⟩;refine d9 (fun _=>⟨_,rfl,[],rfl,tq⟩) (fun a2=> ?_);refine⟨_,rfl,?_⟩;refine d9 (fun _=>⟨_,rfl,[],rfl,tq⟩) (fun a3=> ?_);refine⟨_,rfl,?_⟩;refine d9 (fun _=>⟨_,rfl,[],rfl,tq⟩) (fun a4=> ?_);refine⟨_,rfl,?_⟩;refine n7 (fun h4=> ?_) (fun h4=> ?_)
 ·refine⟨_,rfl,?_⟩;refine d9 (fun _=>⟨_,rfl,[],rfl,tq⟩) (fun a5=> ?_);exact absurd ⟨⟨by omega,by omega⟩,⟨by omega,by omega⟩,.inr (by omega)⟩ hb
 ·exact absurd ⟨⟨by omega,by omega⟩,⟨by omega,by omega⟩,.inl h4⟩ hb
theorem zx {t mode pad e:Int} {back:Bool} {lk li:Nat} {vk vi:List Value} (HN:a9 C 14 [i64 t,.z lk vk] [] (.ret (.t [j7,i64 e])) []) (he:e≠0):
  a9 C 99 [D2 t mode pad back,.z lk vk,.z li vi] [] (.ret (i64 e)) []:=by
 refine qk.c ?_;refine⟨_,rfl,?_⟩;refine⟨[],_,_,_,_,HN,rfl,rfl,?_⟩;refine n7 (fun _=> ?_) (fun h=>absurd h he);exact⟨_,rfl,[],rfl,tq⟩
theorem Ld {t key s k xs rs} (h:k9 t key s k xs rs) {mode pad:Int} {back:Bool} {li:Nat} {vk vi:List Value} (hvk:vk=bv key) (hb:¬((1<=mode/\mode<=9)/\(1<=pad/\pad<=4)/\(pad=4\/mode<=2))):
  a9 C 59 [D2 t mode pad back,.z key.length vk,.z li vi] [] (.ret (.t [j7,i64 3])) []:=by
 subst hvk;have hs:=h.s_le;have hk0:(1<=mode/\mode<=9)->X3 mode≠0:=fun hm=>by unfold X3;split;decide;split;decide;rw[if_pos (by omega)];decide
 have hkz:¬(1<=mode/\mode<=9)->X3 mode=0:=fun hm=>by unfold X3;rw[if_neg (by omega),if_neg (by omega),if_neg (by omega)]
 have hk1:X3 mode=1->mode<=2:=fun hh=>by
  unfold X3 at hh;split at hh
  ·omega
  ·split at hh
   ·exact absurd hh (by decide)
   ·split at hh<;>exact absurd hh (by decide)
 refine qm.c ?_;refine⟨_,rfl,?_⟩;refine⟨[],_,_,_,_,h.new,rfl,rfl,?_⟩;refine⟨_,rfl,?_⟩;refine⟨[],_,_,_,_,tT mode,rfl,rfl,?_⟩;refine⟨[],_,_,_,_,h.size,rfl,rfl,?_⟩;refine⟨_,rfl,?_⟩;refine j5 (fun h1=> ?_) (fun h1=> ?_);all_goals
  refine j5 (fun hz=> ?_) (fun hz=> ?_)
  ·refine j5 (fun _=>⟨_,rfl,[],rfl,tq⟩) (fun h=>absurd hz h)
  refine⟨_,rfl,?_⟩;refine d9 (fun hz2=> ?_) (fun a3=> ?_)
  ·refine d9 (fun _=>⟨_,rfl,[],rfl,tq⟩) (fun h=>absurd hz2 h)
  refine⟨_,rfl,?_⟩;refine d9 (fun hz2=> ?_) (fun a4=> ?_)
  ·refine d9 (fun _=>⟨_,rfl,[],rfl,tq⟩) (fun h=>absurd hz2 h)
  refine⟨_,rfl,?_⟩;refine n7 (fun h4=> ?_) (fun h4=> ?_)
  ·refine n7 (fun _=>⟨_,rfl,[],rfl,tq⟩) (fun hk=> ?_);have:=hk1 hk;have hm:1<=mode/\mode<=9:=Classical.byContradiction fun x=>hz (hkz x);exact absurd ⟨hm,⟨by omega,by omega⟩,.inr this⟩ hb
  ·have hm:1<=mode/\mode<=9:=Classical.byContradiction fun x=>hz (hkz x);exact absurd ⟨hm,⟨by omega,by omega⟩,.inl h4⟩ hb
theorem UT {n l:Nat} (hn:0<n) (h:n<=l) (hp:0<D4 n l):n+1<=l-D4 n l:=by
 unfold D4 at hp ⊢;have hd:=Zo (l-n-1) n;have:n+1<=l:=by
  refine Classical.byContradiction fun hh=> ?_;have:l-n-1=0:=by omega
  rw[this,Nat.zero_div]at hp;omega
 generalize n*((l-n-1)/n)=z at*
 omega
theorem UU {n l f j:Nat} (hn:0<n) (h:n<=l) (hf:f=n*j) (hle:f<=D4 n l):(2*n<l-f->f+n<=D4 n l)/\(¬2*n<l-f->f=D4 n l):=by
 obtain⟨a1,a2,a3,a4,a5⟩:=kU hn h;have hfl:f<D4 n l->f+n<=D4 n l:=fun d8=>by
  obtain⟨u,hu⟩:=Z4 a4;have:j<u:=by
   refine Zu (a:=n) ?_;omega
  have:=Zz n this;rw[Zv]at this;omega
 constructor
 ·intro h2;exact hfl (by omega)
 ·intro h2;refine Classical.byContradiction fun hne=> ?_;have d8:f<D4 n l:=by omega
  have:=hfl d8;have:=UT hn h (by omega);omega
theorem k9.s_two {t key s k xs rs} (h:k9 t key s k xs rs):s=8\/s=16:=by
 have:=h.hs;rcases h.ht with e|e|e|e|e|e|e|e<;>(subst e;simp[q9]at this;omega)
theorem JN:a9 C 120 [.s (.slice none 0 0),i64 0] [] (.ret i6) []:=by
 refine AY.c ?_;exact⟨_,rfl,[],rfl,tq⟩
theorem yK:a9 C 65 [.zz 1 2 [.z 0 [],.z 0 []]] [] (.ret (.z 0 [])) []:=by
 have get:∀i:Nat,i<2->([V.z 0 [],V.z 0 []]:List V)[((i:Nat):Int).toNat*1]? =some (.z 0 []):=fun i hi=>by
  rw[Zb,Zj];rcases i with _|_|i
  ·rfl
  ·rfl
  ·omega
 refine AX.c ?_;refine m5 (fun i=>⟨[(0,.zz 1 2 [.z 0 [],.z 0 []]),(3,i64 0),(9,.zz 1 2 [.z 0 [],.z 0 []]),(10,i64 2),(11,i64 i)],[]⟩) 2 ⟨[],⟨rfl,rfl,rfl,rfl,rfl,tq⟩,tq⟩ fun i hi=> ?_;refine d9 (fun d8=> ?_) (fun hge=> ?_)
 ·refine⟨by omega,by omega,?_⟩;refine⟨_,get i (by omega),?_⟩;exact⟨i+1,by omega,by omega,[],⟨rfl,rfl,rfl,rfl,f6 (by simp(disch:=omega)only[Zd];omega),tq⟩,tq⟩
 ·refine⟨[],_,_,_,_,JN,rfl,rfl,?_⟩;refine D6 (fun i=>⟨[(6,.o 1 (.k 0) 0 0),(25,.zz 1 2 [.z 0 [],.z 0 []]),(26,i64 2),(27,i64 i)],[.sc []]⟩) 2 [(6,1,.sc [])] ⟨[.d 900000 0],⟨rfl,rfl,rfl,rfl,tq⟩,⟨_,rfl,rfl⟩,tq⟩ fun i hi=> ?_;refine d9 (fun d8=> ?_) (fun hge=> ?_)
  ·refine⟨by omega,by omega,?_⟩;refine⟨_,get i (by omega),?_⟩;refine⟨rfl,by omega,Zf _,?_⟩;exact⟨i+1,by omega,by omega,[.d 33 0],⟨rfl,rfl,rfl,f6 (by simp(disch:=omega)only[Zd];omega),tq⟩,⟨_,rfl,rfl⟩,tq⟩
  ·exact⟨_,rfl,[],rfl,tq⟩
theorem LB {kind:Int} {s:Nat} {vb:List Value} {b:Bs} (hv:vb=bv b) (hk:kind=1\/kind=2\/kind=3) (hs:s=8\/s=16) (hl:b.length=s) (h0:A3 kind b≠0):a9 C 108 [i64 kind,i64 s,.z s vb] [] (.ret (.t [.o 1 (.k 0) 0 (s-A3 kind b),i64 0])) [.sc (bv (V7 kind b))]:=by
 subst hv;have HA:=yF (vb:=bv b) rfl hk hs hl;have hle:=rq kind b;rw[ro hl rfl (by omega)]at HA;have hst:V7 kind b=sub b 0 (s-A3 kind b):=by unfold V7;rw[hl];rfl
 rw[hst];generalize A3 kind b=c at*
 obtain⟨d,hd⟩:∃d,d=s-c:=⟨_,rfl⟩;rw[<-hd]at HA ⊢;have lp:(sub b 0 d).length=d:=by rw[l4];omega
 have hv1:sub (bv b) 0 d=bv (sub b 0 d):=m8 _ _ _;refine AN.c ?_;refine d9 (fun h=>absurd h (by omega)) (fun _=> ?_);refine d9 (fun h=>absurd h (by omega)) (fun _=> ?_);have hds:d<=s:=by omega
 rcases hs with rfl|rfl;all_goals
  refine⟨[],_,_,_,_,HA,rfl,rfl,?_⟩;first|refine d9 (fun h=>absurd h (show ¬((d:Int)<0) by omega)) (fun _=> ?_)|skip
  refine⟨by omega,by omega,by omega,by omega,?_⟩;refine⟨by rw[Zb,Zy,hv1,i9,lp],by omega,by decide,?_⟩;refine⟨_,rfl,[.d 36 0],congrArg (fun z=>V.t [V.o 1 (.k 0) 0 z,i64 0]) (by rw[Zb,Zy,Zk]),⟨_,rfl,g9 ?_⟩,tq⟩;rw[Zb,Zy];show sub (bv b) 0 d=_;rw[hv1]
theorem zE {t key s k xs rs} (h:k9 t key s k xs rs) {mode:Int} {back:Bool} {c m:Nat} {vb:List Value} {ch b:Bs} (hvb:vb=bv b) (hb:b.length=m) (hbm:m<=1000000) (hm:mode=1\/mode=2/\c=s) (hc:ch.length=c) (hg:m%s=0):
  a9 C 18 [.p (.k 0) 0,.z m vb] [.mx [.q rs 0,i64 mode,bool back,.z c (bv ch),.z 0 [],i64 0,.u],.dead] (.ret (.t [.o 1 (.k 2) 0 m,i64 0])) [.mx [.q rs 0,i64 mode,bool back,.z c (bv (t4 (cF t key false) (cF t key true) mode back s b ch (m/s)).2),.z 0 [],i64 0,.u],.dead,.sc (bv (t4 (cF t key false) (cF t key true) mode back s b ch (m/s)).1)]:=by
 subst hvb;have hs:=h.s_le;have hci:=h.ci;have hdm:=Zo m s;have hm12:mode=1\/mode=2:=by omega
 have G:=ud h (back:=back) (c:=c) (vc:=bv ch) hm12;refine nH.w ?_;refine⟨[.k 0],_,_,_,_,G,rfl,rfl,?_⟩;refine⟨by omega,?_⟩;refine n7 (fun h=>absurd ?_ h) (fun _=> ?_)
 ·have:((m:Int).tmod (s:Int))=((m%s:Nat):Int):=by rw[Zi (by omega)];rfl
  rw[this,hg];rfl
 refine⟨Nat×Nat×Bs×Bs,DI rs mode back m s c b,fun x=>x.2.1=s*x.1/\x.2.1<=m/\t4 (cF t key false) (cF t key true) mode back s b ch x.1=(x.2.2.1,x.2.2.2)/\x.2.2.1.length=x.2.1/\x.2.2.2.length=c,fun x=>m-x.2.1,?_,fun x hx=> ?_⟩
 ·exact⟨[(7,1,.sc [])],(0,0,[],ch),⟨by show 0=s*0;omega,Zx _,rfl,rfl,hc⟩,[.k 0,.k 1,.d 900000 0],⟨rfl,rfl,rfl,rfl,rfl,tq⟩,⟨_,rfl,rfl⟩,⟨_,rfl,rfl⟩,⟨_,rfl,rfl⟩,tq⟩
 ·obtain⟨i,q,o,c'⟩:=x;obtain⟨h1,h2,h3,h4,h5⟩:=hx;dsimp only at h1 h2 h3 h4 h5;refine d9 (fun h0=> ?_) (fun h0=> ?_)
  ·have hq:q+s<=m:=by
    have e1:m=s*(m/s):=by omega
    have:i<m/s:=by
     refine Zu (a:=s) ?_;omega
    have:=Zz s this;rw[Zv]at this;omega
   have lp:(sub b q s).length=s:=by rw[l4];omega
   have hn:t4 (cF t key false) (cF t key true) mode back s b ch (i+1)=(o++(N5 (cF t key false) (cF t key true) mode back c' (sub b q s)).1,(N5 (cF t key false) (cF t key true) mode back c' (sub b q s)).2):=by
    rw[jt,h3,<-h1]
   have HB:=zk h (mode:=mode) (back:=back) (vp:=sub (bv b) q s) (m8 _ _ _) rfl lp h5 hm;have hl:=qP (back:=back) hci hm12 (c:=c') (p:=sub b q s) (by omega) lp;have hl2:(N5 (cF t key false) (cF t key true) mode back c' (sub b q s)).2.length=c:=by
    rcases hm with rfl|⟨rfl,rfl⟩
    ·rw[<-h5];rfl
    ·exact hl.2.resolve_left (by decide)
   have hl1:=hl.1;generalize N5 (cF t key false) (cF t key true) mode back c' (sub b q s)=x at*
   obtain⟨o',c2⟩:=x;dsimp only at HB hn hl1 hl2;have e1:I6.wrap ((q:Int)+(s:Int))=((q+s:Nat):Int):=by rw[Zd _ (by omega)];omega
   rcases hm12 with rfl|rfl;all_goals
    refine⟨_,rfl,?_⟩;refine⟨by first|omega|(rw [e1];omega),by first|omega|(rw [e1];omega),by first|omega|(rw [e1];omega),by first|omega|(rw [e1];omega),by first|omega|(rw [e1];omega),?_⟩;refine⟨[.k 0],_,_,_,_,HB,?_,rfl,?_⟩
    ·rw[e1];show[V.p (.k 0) 0,V.z (q+s-q) (sub (bv b) q (q+s-q))]=_;rw[Je]
    refine⟨by first|omega|(rw [i9];omega),by omega,by rw[i9,h4];omega,?_⟩;refine⟨(i+1,q+s,o++o',c2),⟨by show q+s=s*(i+1);rw[Zv];omega,hq,hn,by rw[Zc,h4,hl1],hl2⟩,(by show m-(q+s)<m-q;omega),[.k 0,.k 1,.d 48 0],⟨rfl,rfl,rfl,rfl,f6 e1,tq⟩,⟨_,rfl,rfl⟩,⟨_,rfl,rfl⟩,⟨_,rfl,g9 ?_⟩,tq⟩;show sub (bv o) 0 (q*1)++bv o'=_;rw[Zj,g8 h4,A5]
  ·obtain rfl:q=m:=by omega
   have hi:q/s=i:=by rw[h1,Z1 _ (by omega)]
   rw[hi,h3];exact⟨_,[.mx [.q rs 0,i64 mode,bool back,.z c (bv c'),.z 0 [],i64 0,.u],.dead,.sc (bv o)],⟨_,rfl,[.k 0,.k 1,.k 2],rfl,⟨_,rfl,rfl⟩,⟨_,rfl,rfl⟩,⟨_,rfl,rfl⟩,tq⟩,.ret (.refl _),.cons (.refl _) (.cons (.refl _) (.cons (.refl _) .nil))⟩
theorem We {E D:Bs->Bs} {n:Nat} {back:Bool} {ch p:Bs}:k5 E D n 2 back ⟨ch,[],[]⟩ p=((t4 E D 2 back n p ch (p.length/n)).1,⟨(t4 E D 2 back n p ch (p.length/n)).2,[],[]⟩):=by
 unfold k5;rw[if_pos (by decide)]
def XO (rs:List V) (t mode pad:Int) (back:Bool) (s m:Nat) (msg:Bs):Nat×Nat×Bs×Bs×Bs->D
 |(j,f,o,ch,L)=>⟨[(0,.q rs 0),(3,.z (m-f) (bv (msg.drop f))),(5,.p (.k 0) 0),(10,i64 s),(11,.o 1 (.k 3) 0 f),(12,.z s (bv L)),(13,.p (.k 1) 0)],[.mx [i64 t,i64 mode,i64 pad,bool back],.mx [.q rs 0,i64 2,bool back,.z s (bv ch),.z 0 [],i64 0,.u],.dead,.sc (bv o)]⟩
theorem MN {t key s k xs rs} (h:k9 t key s k xs rs) {mode pad:Int} {back:Bool} {li m:Nat} {vi vm:List Value} (hms:m<s):
  a9 C 106 [.q rs 0,D2 t mode pad back,.z li vi,.z m vm] [] (.ret (.t [i6,i64 7])) []:=by
 refine AO.c ?_;refine⟨[],_,_,_,_,h.rsize,rfl,rfl,?_⟩;refine d9 (fun _=> ?_) (fun h=>absurd (show (m:Int)<(s:Int) by omega) h);exact⟨_,rfl,[],rfl,tq⟩
theorem MM {t key s k xs rs} (h:k9 t key s k xs rs) {mode pad:Int} {back:Bool} {m:Nat} {vi vm:List Value} {iv msg:Bs} (hvi:vi=bv iv) (hvm:vm=bv msg) (hi:iv.length=s) (hmm:msg.length=m) (hms:s<=m) (hmb:m<=100000) (hm:7<=mode/\mode<=9):
  a9 C 106 [.q rs 0,D2 t mode pad back,.z s vi,.z m vm] [] (.ret (.t [.z m (bv (aJ (cF t key false) (cF t key true) s mode back iv msg).1),i64 0])) []:=by
 subst hvi;subst hvm;have hs:=h.s_le;have hci:=h.ci;obtain⟨F,hF⟩:∃F,F=D4 s m:=⟨_,rfl⟩;obtain⟨a1,a2,a3,a4,a5⟩:=kU (n:=s) (l:=m) (by omega) hms;have hstep:=fun j f=>UU (n:=s) (l:=m) (f:=f) (j:=j) (by omega) hms;rw[<-hF]at a1 a2 a3 a4 a5 hstep;have hres:(aJ (cF t key false) (cF t key true) s mode back iv msg).1=(k5 (cF t key false) (cF t key true) s 2 back ⟨iv,[],[]⟩ (msg.take F)).1++P2 (cF t key false) (cF t key true) s mode back (gd s back iv msg (k5 (cF t key false) (cF t key true) s 2 back ⟨iv,[],[]⟩ (msg.take F)).1) (msg.drop F):=by
  unfold aJ;rw[if_neg (by omega),hmm,<-hF]
 have hLast:∀o,gd s back iv msg o=if F=0 then iv else if back then sub msg (F-s) s else o.drop (F-s):=fun o=>by unfold gd;rw[hmm,<-hF]
 rw[hres];clear hres;refine AO.c ?_;refine⟨[],_,_,_,_,h.rsize,rfl,rfl,?_⟩;refine d9 (fun h=>absurd h (by omega)) (fun _=> ?_);refine⟨_,rfl,?_⟩;have cN:=jc h (mode:=2) (back:=back) (i:=1) (vi:=bv iv) rfl hi (by decide) rfl;rw[fW hi rfl rfl]at cN;refine⟨[],_,_,_,_,cN,rfl,rfl,?_⟩;refine⟨Nat×Nat×Bs×Bs×Bs,XO rs t mode pad back s m msg,fun x=>x.2.1=s*x.1/\x.2.1<=F/\k5 (cF t key false) (cF t key true) s 2 back ⟨iv,[],[]⟩ (msg.take x.2.1)=(x.2.2.1,⟨x.2.2.2.1,[],[]⟩)/\x.2.2.1.length=x.2.1/\x.2.2.2.1.length=s/\x.2.2.2.2=(if x.2.1=0 then iv else if back then sub msg (x.2.1-s) s else x.2.2.1.drop (x.2.1-s))/\x.2.2.2.2.length=s,fun x=>F-x.2.1,⟨[(11,1,.sc [])],(0,0,[],iv,iv),⟨by show 0=s*0;omega,Zx _,qT,rfl,hi,rfl,hi⟩,[.d 5 0,.d 31 0,.d 31 1,.d 900000 0],⟨rfl,rfl,rfl,rfl,rfl,rfl,rfl,tq⟩,⟨_,rfl,rfl⟩,⟨_,rfl,rfl⟩,⟨_,rfl,rfl⟩,⟨_,rfl,rfl⟩,tq⟩,fun x hx=> ?_⟩;obtain⟨j,f,o,ch,L⟩:=x;obtain⟨h1,h2,h3,h4,h5,h6,h7⟩:=hx;dsimp only at h1 h2 h3 h4 h5 h6 h7;have ld:(msg.drop f).length=m-f:=by rw[Ze,hmm]
 have e2:I6.wrap (2*(s:Int))=((2*s:Nat):Int):=by rw[Zd _ (by omega)];omega
 obtain⟨s1,s2⟩:=hstep j f h1 h2;refine d9 (fun hgt=> ?_) (fun hle=> ?_)
 ·rw[e2]at hgt;have hfF:=s1 (by omega);have lq:(sub (msg.drop f) 0 s).length=s:=by rw[l4];omega
  have hvq:sub (bv (msg.drop f)) 0 s=bv (sub (msg.drop f) 0 s):=m8 _ _ _;have T0:=zD h (mode:=2) (back:=back) (b:=sub (msg.drop f) 0 s) (ch:=ch) (c:=s) rfl lq (by omega) (.inr ⟨rfl,rfl⟩) h5 (Nat.mod_self s);have htk:msg.take (f+s)=msg.take f++sub (msg.drop f) 0 s:=by rw[List.take_add];rfl
  have ltk:(msg.take f).length=f:=by rw[Zs];omega
  have hfs:f%s=0:=by rw[h1];exact Nat.mul_mod_right _ _
  have hnx:=og (E:=cF t key false) (D:=cF t key true) (n:=s) (mode:=2) (back:=back) (s:=⟨iv,[],[]⟩) (a:=msg.take f) (b:=sub (msg.drop f) 0 s) (by omega) (by rw[ltk];exact hfs) (by rw[lq];exact Nat.mod_self s);rw[<-htk,h3]at hnx;dsimp only at hnx;rw[We (ch:=ch) (p:=sub (msg.drop f) 0 s),lq]at hnx;have hbl:=js (mode:=2) (back:=back) (b:=sub (msg.drop f) 0 s) hci (.inr rfl) (.inr h5) (s/s) (by rw[Nat.div_self (by omega),Zj,lq];exact Zf _);obtain⟨b1,b2⟩:=hbl;rw[show s*(s/s)=s by rw[Nat.div_self (by omega),Zj]]at b1;have b2:=b2.resolve_left (by decide);generalize t4 (cF t key false) (cF t key true) 2 back s (sub (msg.drop f) 0 s) ch (s/s)=y at*
  obtain⟨o1,ch1⟩:=y;dsimp only at T0 hnx b1 b2;have hsl:sub (bv (msg.drop f)) s (m-f-s)=bv (msg.drop (f+s)):=by rw[y4 ld (by omega),Ja]
  have hLn:(if back then sub (msg.drop f) 0 s else o1)=(if f+s=0 then iv else if back then sub msg (f+s-s) s else (o++o1).drop (f+s-s)):=by
   rw[if_neg (show ¬f+s=0 by omega),Z9];cases back
   ·simp only[Bool.false_eq_true,if_false];rw[List.drop_append_of_le_length (show f<=o.length by omega),List.drop_of_length_le (show o.length<=f by omega),Zn]
   ·simp only[if_true];rfl
  refine⟨by omega,by omega,by omega,by omega,?_⟩;refine⟨[.k 1,.k 2],_,_,_,_,T0,?_,rfl,?_⟩
  ·show[V.p (.k 0) 0,V.z (((s:Nat):Int).toNat) (sub (bv (msg.drop f)) 0 (((s:Nat):Int).toNat))]=_;rw[Zb,hvq]
  refine⟨_,rfl,?_⟩;cases back
  ·refine⟨by first|omega|(rw [i9];omega),by omega,by rw[i9,h4];omega,?_⟩;refine⟨by omega,by omega,by omega,by omega,?_⟩;refine⟨(j+1,f+s,o++o1,ch1,o1),⟨by show f+s=s*(j+1);rw[Zv];omega,hfF,hnx,by show(o++o1).length=f+s;rw[Zc,h4,b1],b2,hLn,b1⟩,(by show F-(f+s)<F-f;omega),[.k 0,.k 1,.k 2,.d 55 0],⟨rfl,?_,rfl,rfl,rfl,rfl,rfl,tq⟩,⟨_,rfl,rfl⟩,⟨_,rfl,rfl⟩,⟨_,rfl,rfl⟩,⟨_,rfl,g9 ?_⟩,tq⟩
   ·show V.z (m-f-((s:Nat):Int).toNat) (sub (bv (msg.drop f)) ((s:Nat):Int).toNat (m-f-((s:Nat):Int).toNat))=V.z (m-(f+s)) _;rw[Zb,hsl,Nat.sub_sub]
   ·show sub (bv o) 0 (f*1)++bv o1=_;rw[Zj,g8 h4,A5]
  ·refine⟨by omega,by omega,by omega,by omega,?_⟩;refine⟨by first|omega|(rw [i9];omega),by omega,by rw[i9,h4];omega,?_⟩;refine⟨by omega,by omega,by omega,by omega,?_⟩;refine⟨(j+1,f+s,o++o1,ch1,sub (msg.drop f) 0 s),⟨by show f+s=s*(j+1);rw[Zv];omega,hfF,hnx,by show(o++o1).length=f+s;rw[Zc,h4,b1],b2,hLn,lq⟩,(by show F-(f+s)<F-f;omega),[.k 0,.k 1,.k 2,.d 55 0],⟨rfl,?_,rfl,rfl,rfl,?_,rfl,tq⟩,⟨_,rfl,rfl⟩,⟨_,rfl,rfl⟩,⟨_,rfl,rfl⟩,⟨_,rfl,g9 ?_⟩,tq⟩
   ·show V.z (m-f-((s:Nat):Int).toNat) (sub (bv (msg.drop f)) ((s:Nat):Int).toNat (m-f-((s:Nat):Int).toNat))=V.z (m-(f+s)) _;rw[Zb,hsl,Nat.sub_sub]
   ·show V.z (((s:Nat):Int).toNat) (sub (bv (msg.drop f)) 0 (((s:Nat):Int).toNat))=_;rw[Zb,hvq]
   ·show sub (bv o) 0 (f*1)++bv o1=_;rw[Zj,g8 h4,A5]
 ·rw[e2]at hle;have hfF:f=F:=s2 (by omega);subst hfF;rw[h3];have hL:gd s back iv msg o=L:=by rw[hLast,h6]
  dsimp only
  rw[hL];have lT:=h.stT_len (mode:=mode) (back:=back) (d7:=L) (b:=msg.drop f) h7 ld a2 a3;have cT:=Ly h (mode:=mode) (back:=back) (vl:=bv L) (vb:=bv (msg.drop f)) (d7:=L) (b:=msg.drop f) rfl rfl h7 ld hm a2 a3;generalize P2 (cF t key false) (cF t key true) s mode back L (msg.drop f)=TT at*
  refine⟨_,rfl,?_⟩;refine⟨_,rfl,?_⟩;refine⟨[],_,_,_,_,cT,rfl,rfl,?_⟩;refine⟨by first|omega|(rw [i9];omega),by omega,by rw[i9,h4];omega,?_⟩;have lc:(o++TT).length=m:=by rw[Zc];omega
  refine⟨_,rfl,[],congrArg (fun z=>V.t [z,i64 0]) ?_,tq⟩;show V.z (f+(m-f)) (sub (sub (bv o) 0 (f*1)++sub (bv TT) 0 ((m-f)*1)) 0 (f+(m-f)))=_;rw[Zj,Zj,g8 h4,g8 lT,A5,show f+(m-f)=m by omega,g8 lc]
theorem MD {t mode pad e:Int} {back:Bool} {lk li m:Nat} {vk vi vm:List Value} (HO:a9 C 99 [D2 t mode pad back,.z lk vk,.z li vi] [] (.ret (i64 e)) []) (he:e≠0):
  a9 C 48 [D2 t mode pad back,.z lk vk,.z li vi,.z m vm] [] (.ret (.t [i6,i64 e])) []:=by
 refine fD.c ?_;refine⟨[i64 t,i64 mode,i64 pad,bool back],rfl,rfl,?_⟩;refine⟨[],_,_,_,_,HO,rfl,rfl,?_⟩;refine n7 (fun _=> ?_) (fun h=>absurd h he);exact⟨_,rfl,[],rfl,tq⟩
theorem MG {t key s k xs rs} (h:k9 t key s k xs rs) {mode pad:Int} {back:Bool} {m:Nat} {vk vi vm:List Value} {iv msg:Bs} (hvk:vk=bv key) (hvi:vi=bv iv) (hvm:vm=bv msg) (ok:D0 s mode pad iv) (hmm:msg.length=m) (hmb:m<=100000) (hm:7<=mode) (hms:s<=m):
  a9 C 48 [D2 t mode pad back,.z key.length vk,.z iv.length vi,.z m vm] [] (.ret (.t [.z m (bv (aJ (cF t key false) (cF t key true) s mode back iv msg).1),i64 0])) []:=by
 subst hvk;subst hvi;subst hvm;obtain⟨o1,o2,o3,o4⟩:=ok;have hi:iv.length=s:=by rw[o4,if_neg (by omega)]
 have cS:=MM h (pad:=pad) (back:=back) (vi:=bv iv) (vm:=bv msg) rfl rfl hi hmm hms hmb ⟨hm,o1.2⟩;refine fD.c ?_;refine⟨[i64 t,i64 mode,i64 pad,bool back],rfl,rfl,?_⟩;refine⟨[],_,_,_,_,fu h rfl o1 o2 o3 o4,rfl,rfl,?_⟩;refine⟨_,rfl,?_⟩;refine⟨[],_,_,_,_,h.rnew,rfl,rfl,?_⟩;refine⟨_,rfl,?_⟩;refine d9 (fun _=> ?_) (fun hh=>absurd hm hh);refine⟨[i64 t,i64 mode,i64 pad,bool back],rfl,rfl,?_⟩;rw[hi];refine⟨[],_,_,_,_,cS,rfl,rfl,?_⟩;exact⟨_,rfl,[],rfl,tq⟩
theorem MH {t key s k xs rs} (h:k9 t key s k xs rs) {mode pad:Int} {back:Bool} {m:Nat} {vk vi vm:List Value} {iv:Bs} (hvk:vk=bv key) (ok:D0 s mode pad iv) (hm:7<=mode) (hms:m<s):
  a9 C 48 [D2 t mode pad back,.z key.length vk,.z iv.length vi,.z m vm] [] (.ret (.t [i6,i64 7])) []:=by
 subst hvk;obtain⟨o1,o2,o3,o4⟩:=ok;refine fD.c ?_;refine⟨[i64 t,i64 mode,i64 pad,bool back],rfl,rfl,?_⟩;refine⟨[],_,_,_,_,fu h rfl o1 o2 o3 o4,rfl,rfl,?_⟩;refine⟨_,rfl,?_⟩;refine⟨[],_,_,_,_,h.rnew,rfl,rfl,?_⟩;refine⟨_,rfl,?_⟩;refine d9 (fun _=> ?_) (fun hh=>absurd hm hh);refine⟨[i64 t,i64 mode,i64 pad,bool back],rfl,rfl,?_⟩;refine⟨[],_,_,_,_,MN h hms,rfl,rfl,?_⟩;exact⟨_,rfl,[],rfl,tq⟩
theorem ME {t key s k xs rs} (h:k9 t key s k xs rs) {mode:Int} {back:Bool} {m:Nat} {vk vi vm:List Value} {iv msg:Bs} (hvk:vk=bv key) (hvi:vi=bv iv) (hvm:vm=bv msg) (hi:iv.length=if mode=1 then 0 else s) (hmm:msg.length=m) (hmb:m<=100000) (hm:1<=mode/\mode<=6) (hg:m%o6 s mode=0):
  a9 C 48 [D2 t mode 4 back,.z key.length vk,.z iv.length vi,.z m vm] [] (.ret (.t [.z m (bv (k5 (cF t key false) (cF t key true) s mode back ⟨iv,[],[]⟩ msg).1),i64 0])) []:=by
 subst hvk;subst hvi;subst hvm;have hs:=h.s_le;have K0:MK s mode ⟨iv,[],[]⟩:=MK.new (by omega) (by
  by_cases h1:mode=1
  ·exact .inl h1
  ·rw[if_neg h1]at hi;exact .inr hi)
 have R0:W3 s mode (⟨iv,[],[]⟩,[],0):=W3.new;have T0:=zC h (back:=back) (x:=(⟨iv,[],[]⟩,[],0)) (b:=msg) rfl hmm (by omega) K0 R0 hg (.inr rfl);generalize fV (cF t key false) (cF t key true) s mode back (⟨iv,[],[]⟩,[],0) msg=Y at*
 obtain⟨⟨c1,row1,g1⟩,R1,u1⟩:=Y;dsimp only at T0;refine fD.c ?_;refine⟨[i64 t,i64 mode,i64 4,bool back],rfl,rfl,?_⟩;refine⟨[],_,_,_,_,fu h rfl ⟨hm.1,by omega⟩ (by decide) (.inl rfl) hi,rfl,rfl,?_⟩;refine⟨_,rfl,?_⟩;refine⟨[],_,_,_,_,h.rnew,rfl,rfl,?_⟩;refine⟨_,rfl,?_⟩;refine d9 (fun hh=>absurd hh (by omega)) (fun _=> ?_);refine⟨[],_,_,_,_,h.rsize,rfl,rfl,?_⟩;refine⟨_,rfl,?_⟩;refine⟨_,rfl,?_⟩;refine⟨[],_,_,_,_,jc h (mode:=mode) (back:=back) (i:=1) (vi:=bv iv) (iv:=iv) rfl rfl hm hi,rfl,rfl,?_⟩;refine⟨_,rfl,?_⟩;rcases row1 with _|⟨a1,r1⟩;all_goals
  refine⟨[.d 56 0,.d 56 1],_,_,_,_,T0,rfl,rfl,?_⟩;exact⟨_,rfl,[],rfl,tq⟩
theorem MB {t key s k xs rs} (h:k9 t key s k xs rs) {mode:Int} {back:Bool} {m:Nat} {vk vi vm:List Value} {iv msg:Bs} (hvk:vk=bv key) (hvi:vi=bv iv) (hvm:vm=bv msg) (hi:iv.length=if mode=1 then 0 else s) (hmm:msg.length=m) (hmb:m<=100000) (hm:1<=mode/\mode<=6) (hg:m%o6 s mode≠0):
  a9 C 48 [D2 t mode 4 back,.z key.length vk,.z iv.length vi,.z m vm] [] (.ret (.t [i6,i64 7])) []:=by
 subst hvk;subst hvi;subst hvm;have hs:=h.s_le;have K0:MK s mode ⟨iv,[],[]⟩:=MK.new (by omega) (by
  by_cases h1:mode=1
  ·exact .inl h1
  ·rw[if_neg h1]at hi;exact .inr hi)
 have R0:W3 s mode (⟨iv,[],[]⟩,[],0):=W3.new;have T0:=MI h (back:=back) (x:=(⟨iv,[],[]⟩,[],0)) (m:=m) (vb:=bv msg) K0 R0 hg;refine fD.c ?_;refine⟨[i64 t,i64 mode,i64 4,bool back],rfl,rfl,?_⟩;refine⟨[],_,_,_,_,fu h rfl ⟨hm.1,by omega⟩ (by decide) (.inl rfl) hi,rfl,rfl,?_⟩;refine⟨_,rfl,?_⟩;refine⟨[],_,_,_,_,h.rnew,rfl,rfl,?_⟩;refine⟨_,rfl,?_⟩;refine d9 (fun hh=>absurd hh (by omega)) (fun _=> ?_);refine⟨[],_,_,_,_,h.rsize,rfl,rfl,?_⟩;refine⟨_,rfl,?_⟩;refine⟨_,rfl,?_⟩;refine⟨[],_,_,_,_,jc h (mode:=mode) (back:=back) (i:=1) (vi:=bv iv) (iv:=iv) rfl rfl hm hi,rfl,rfl,?_⟩;refine⟨_,rfl,?_⟩;refine⟨[.d 56 0,.d 56 1],_,_,_,_,T0,rfl,rfl,?_⟩;exact⟨_,rfl,[],rfl,tq⟩
theorem MF {t key s k xs rs} (h:k9 t key s k xs rs) {mode pad:Int} {m:Nat} {vk vi vm:List Value} {iv msg:Bs} (hvk:vk=bv key) (hvi:vi=bv iv) (hvm:vm=bv msg) (hi:iv.length=if mode=1 then 0 else s) (hmm:msg.length=m) (hmb:m<=100000) (hm:1<=mode/\mode<=2) (hp:pad=1\/pad=2\/pad=3):
  a9 C 48 [D2 t mode pad false,.z key.length vk,.z iv.length vi,.z m vm] [] (.ret (.t [.z (m/s*s+s) (bv (k5 (cF t key false) (cF t key true) s mode false ⟨iv,[],[]⟩ (am pad s msg)).1),i64 0])) []:=by
 subst hvk;subst hvi;subst hvm;have hs:=h.s_le;have K0:MK s mode ⟨iv,[],[]⟩:=MK.new (by omega) (by
  by_cases h1:mode=1
  ·exact .inl h1
  ·rw[if_neg h1]at hi;exact .inr hi)
 have R0:W3 s mode (⟨iv,[],[]⟩,[],0):=W3.new;have hs8:s=8\/s=16:=h.s_two;have e1:I6.wrap (I6.wrap ((m:Int).tdiv (s:Int))*(s:Int))=((m/s*s:Nat):Int):=Vj (by omega);obtain⟨a,ha⟩:∃a,a=m-m%s:=⟨_,rfl⟩;have hml:=Nat.mod_lt m (show 0<s by omega);have hmle:=Nat.mod_le m s;have hdm:=Zo m s;have ham:m/s*s=a:=by rw[Nat.mul_comm]at hdm;omega
 have lT:(msg.drop a).length=m%s:=by rw[Ze];omega
 have lA:(sub msg 0 a).length=a:=by rw[l4];omega
 have hvA:sub (bv msg) 0 a=bv (sub msg 0 a):=m8 _ _ _;have hvT:sub (bv msg) a (m-a)=bv (msg.drop a):=y4 hmm (by omega);have hma:m-a=m%s:=by omega
 have hPU:am pad s msg=sub msg 0 a++L8 pad s (msg.drop a):=by unfold am;rw[hmm,<-ha];rfl
 have lP:=mf (kind:=pad) (tail:=msg.drop a) (size:=s) (by omega);have lU:(am pad s msg).length=a+s:=by rw[hPU,Zc,lA,lP]
 have hg:(a+s)%o6 s mode=0:=by
  unfold o6;rw[if_pos (by omega),<-ham,Nat.add_mod_right,Nat.mul_mod_left]
 have cP:=Lz (kind:=pad) (s:=s) (vt:=bv (msg.drop a)) hp hs8 rfl lT hml;have T0:=zC h (back:=false) (x:=(⟨iv,[],[]⟩,[],0)) (b:=am pad s msg) rfl lU (by omega) K0 R0 hg (.inr rfl);rw[ham]at e1 ⊢;generalize fV (cF t key false) (cF t key true) s mode false (⟨iv,[],[]⟩,[],0) (am pad s msg)=Y at*
 obtain⟨⟨c1,row1,g1⟩,R1,u1⟩:=Y;dsimp only at T0;generalize (k5 (cF t key false) (cF t key true) s mode false ⟨iv,[],[]⟩ (am pad s msg)).1=OO at*
 generalize am pad s msg=U at*
 generalize L8 pad s (msg.drop a)=PA at*
 refine fD.c ?_;refine⟨[i64 t,i64 mode,i64 pad,bool false],rfl,rfl,?_⟩;refine⟨[],_,_,_,_,fu h rfl ⟨hm.1,by omega⟩ (by omega) (.inr hm.2) hi,rfl,rfl,?_⟩;refine⟨_,rfl,?_⟩;refine⟨[],_,_,_,_,h.rnew,rfl,rfl,?_⟩;refine⟨_,rfl,?_⟩;refine d9 (fun hh=>absurd hh (by omega)) (fun _=> ?_);refine⟨[],_,_,_,_,h.rsize,rfl,rfl,?_⟩;refine⟨_,rfl,?_⟩;refine⟨_,rfl,?_⟩;refine⟨[],_,_,_,_,jc h (mode:=mode) (back:=false) (i:=1) (vi:=bv iv) (iv:=iv) rfl rfl ⟨hm.1,by omega⟩ hi,rfl,rfl,?_⟩;refine⟨_,rfl,?_⟩;refine j5 (fun h4=>absurd h4 (by omega)) (fun _=> ?_);refine⟨_,rfl,?_⟩;refine⟨by omega,?_⟩;refine⟨_,rfl,?_⟩;refine⟨by rw[e1];omega,by rw[e1];omega,by first|omega|(rw [e1];omega),by first|omega|(rw [e1];omega),?_⟩;refine⟨[],_,_,_,_,cP,?_,rfl,?_⟩
 ·rw[e1];show[i64 pad,i64 s,V.z (m-((a:Nat):Int).toNat) (sub (bv msg) ((a:Nat):Int).toNat (m-((a:Nat):Int).toNat))]=_;rw[Zb,hvT,hma]
 refine⟨by rw[e1];omega,by rw[e1];omega,by first|omega|(rw [e1];omega),by first|omega|(rw [e1];omega),?_⟩;refine⟨by rw[e1,Zb,Zy,hvA,i9,lA],by rw[e1];omega,by decide,?_⟩;refine⟨by first|omega|(rw [i9];omega),by rw[e1];omega,by rw[e1,Zb,Zy,hvA];show 0+(0+a)*1<=(bv (sub msg 0 a)).length;rw[i9,lA];omega,?_⟩;rcases row1 with _|⟨a1,r1⟩;all_goals
  refine⟨[.d 56 0,.d 56 1],_,_,_,_,T0,?_,rfl,?_⟩
  ·rw[e1];show[V.p (.k 0) 0,V.z (0+(((a:Nat):Int).toNat-0)+s) (sub (sub (sub (bv msg) 0 (((a:Nat):Int).toNat-0)) 0 ((0+(((a:Nat):Int).toNat-0))*1)++sub (bv PA) 0 (s*1)) 0 (0+(((a:Nat):Int).toNat-0)+s))]=_;rw[Zb,Zy,Zk,Zj,Zj,hvA,g8 lA,g8 lP,A5,<-hPU,g8 lU]
  exact⟨_,rfl,[],rfl,tq⟩
theorem Mz {t key s k xs rs} (h:k9 t key s k xs rs) {mode pad:Int} {m:Nat} {vk vi vm:List Value} {iv msg:Bs} (hvk:vk=bv key) (hvi:vi=bv iv) (hvm:vm=bv msg) (hi:iv.length=if mode=1 then 0 else s) (hmm:msg.length=m) (hmb:m<=100000) (hm:1<=mode/\mode<=2) (hp:pad=1\/pad=2\/pad=3) (h0:m=0\/m%s≠0):
  a9 C 48 [D2 t mode pad true,.z key.length vk,.z iv.length vi,.z m vm] [] (.ret (.t [i6,i64 7])) []:=by
 subst hvk;subst hvi;subst hvm;have hs:=h.s_le;have em:((m:Int).tmod (s:Int))=((m%s:Nat):Int):=by rw[Zi (by omega)];rfl
 refine fD.c ?_;refine⟨[i64 t,i64 mode,i64 pad,bool true],rfl,rfl,?_⟩;refine⟨[],_,_,_,_,fu h rfl ⟨hm.1,by omega⟩ (by omega) (.inr hm.2) hi,rfl,rfl,?_⟩;refine⟨_,rfl,?_⟩;refine⟨[],_,_,_,_,h.rnew,rfl,rfl,?_⟩;refine⟨_,rfl,?_⟩;refine d9 (fun hh=>absurd hh (by omega)) (fun _=> ?_);refine⟨[],_,_,_,_,h.rsize,rfl,rfl,?_⟩;refine⟨_,rfl,?_⟩;refine⟨_,rfl,?_⟩;refine⟨[],_,_,_,_,jc h (mode:=mode) (back:=true) (i:=1) (vi:=bv iv) (iv:=iv) rfl rfl ⟨hm.1,by omega⟩ hi,rfl,rfl,?_⟩;refine⟨_,rfl,?_⟩;refine j5 (fun h4=>absurd h4 (by omega)) (fun _=> ?_);refine⟨_,rfl,?_⟩;refine j5 (fun hz=> ?_) (fun hz=> ?_)
 ·exact⟨_,rfl,[],rfl,tq⟩
 ·refine⟨by omega,?_⟩;refine n7 (fun _=> ?_) (fun hh=>absurd hh (by rw[em];omega));exact⟨_,rfl,[],rfl,tq⟩
theorem MA {t key s k xs rs} (h:k9 t key s k xs rs) {mode pad:Int} {m:Nat} {vk vi vm:List Value} {iv msg:Bs} (hvk:vk=bv key) (hvi:vi=bv iv) (hvm:vm=bv msg) (hi:iv.length=if mode=1 then 0 else s) (hmm:msg.length=m) (hmb:m<=100000) (hm:1<=mode/\mode<=2) (hp:pad=1\/pad=2\/pad=3) (h0:0<m) (hz:m%s=0) (hL:A3 pad ((t4 (cF t key false) (cF t key true) mode true s msg iv (m/s)).1.drop (m-s))=0):
  a9 C 48 [D2 t mode pad true,.z key.length vk,.z iv.length vi,.z m vm] [] (.ret (.t [i6,i64 8])) []:=by
 subst hvk;subst hvi;subst hvm;have hs:=h.s_le;have em:((m:Int).tmod (s:Int))=((m%s:Nat):Int):=by rw[Zi (by omega)];rfl
 have hs8:s=8\/s=16:=h.s_two;have hci:=h.ci;have hsm:s<=m:=Nat.le_of_dvd (by omega) (Z4 hz);have hdm:=Zo m s;have hc:mode=1\/mode=2/\iv.length=s:=by
  by_cases h1:mode=1
  ·exact .inl h1
  ·rw[if_neg h1]at hi;exact .inr ⟨by omega,hi⟩
 have lo:(t4 (cF t key false) (cF t key true) mode true s msg iv (m/s)).1.length=m:=by
  rw[(js hci (by omega) (by omega) (m/s) (by omega)).1];omega
 have T0:=zE h (mode:=mode) (back:=true) (b:=msg) (ch:=iv) (c:=iv.length) (vb:=bv msg) rfl hmm (by omega) hc rfl hz;generalize t4 (cF t key false) (cF t key true) mode true s msg iv (m/s)=S0 at*
 obtain⟨o,c1⟩:=S0;dsimp only at T0 lo hL ⊢;have lD:(o.drop (m-s)).length=s:=by rw[Ze,lo];omega
 have e1:I6.wrap ((m:Int)-(s:Int))=((m-s:Nat):Int):=by rw[Zd _ (by omega)];omega
 have hvD:sub (bv o) (m-s) s=bv (o.drop (m-s)):=by
  have:=y4 lo (show m-s<=m by omega)
  rwa [show m-(m-s)=s by omega]at this
 have cS:=LA (vb:=bv (o.drop (m-s))) rfl hp hs8 lD hL;refine fD.c ?_;refine⟨[i64 t,i64 mode,i64 pad,bool true],rfl,rfl,?_⟩;refine⟨[],_,_,_,_,fu h rfl ⟨hm.1,by omega⟩ (by omega) (.inr hm.2) hi,rfl,rfl,?_⟩;refine⟨_,rfl,?_⟩;refine⟨[],_,_,_,_,h.rnew,rfl,rfl,?_⟩;refine⟨_,rfl,?_⟩;refine d9 (fun hh=>absurd hh (by omega)) (fun _=> ?_);refine⟨[],_,_,_,_,h.rsize,rfl,rfl,?_⟩;refine⟨_,rfl,?_⟩;refine⟨_,rfl,?_⟩;refine⟨[],_,_,_,_,jc h (mode:=mode) (back:=true) (i:=1) (vi:=bv iv) (iv:=iv) rfl rfl ⟨hm.1,by omega⟩ hi,rfl,rfl,?_⟩;refine⟨_,rfl,?_⟩;refine j5 (fun h4=>absurd h4 (by omega)) (fun _=> ?_);refine⟨_,rfl,?_⟩;refine j5 (fun h4=>absurd h4 (by omega)) (fun _=> ?_);refine⟨by omega,?_⟩;refine n7 (fun hh=>absurd (by rw[em,hz];rfl) hh) (fun _=> ?_);refine⟨[.d 56 0,.d 56 1],_,_,_,_,T0,rfl,rfl,?_⟩;refine⟨_,rfl,?_⟩;refine⟨by rw[e1];omega,by rw[e1];omega,by first|omega|(rw [e1];omega),by first|omega|(rw [e1];omega),?_⟩;refine⟨[],_,_,_,_,cS,?_,rfl,?_⟩
 ·rw[e1];show[i64 pad,i64 s,V.z (m-((m-s:Nat):Int).toNat) (sub (bv o) (0+((m-s:Nat):Int).toNat*1) (m-((m-s:Nat):Int).toNat))]=_;rw[Zb,Zj,Zk,show m-(m-s)=s by omega,hvD]
 exact⟨_,rfl,[],rfl,tq⟩
theorem MC {t key s k xs rs} (h:k9 t key s k xs rs) {mode pad:Int} {m:Nat} {vk vi vm:List Value} {iv msg:Bs} (hvk:vk=bv key) (hvi:vi=bv iv) (hvm:vm=bv msg) (hi:iv.length=if mode=1 then 0 else s) (hmm:msg.length=m) (hmb:m<=100000) (hm:1<=mode/\mode<=2) (hp:pad=1\/pad=2\/pad=3) (h0:0<m) (hz:m%s=0) (hL:A3 pad ((t4 (cF t key false) (cF t key true) mode true s msg iv (m/s)).1.drop (m-s))≠0):
  a9 C 48 [D2 t mode pad true,.z key.length vk,.z iv.length vi,.z m vm] [] (.ret (.t [.z (m-A3 pad ((t4 (cF t key false) (cF t key true) mode true s msg iv (m/s)).1.drop (m-s))) (bv ((t4 (cF t key false) (cF t key true) mode true s msg iv (m/s)).1.take (m-s)++V7 pad ((t4 (cF t key false) (cF t key true) mode true s msg iv (m/s)).1.drop (m-s)))),i64 0])) []:=by
 subst hvk;subst hvi;subst hvm;have hs:=h.s_le;have em:((m:Int).tmod (s:Int))=((m%s:Nat):Int):=by rw[Zi (by omega)];rfl
 have hs8:s=8\/s=16:=h.s_two;have hci:=h.ci;have hsm:s<=m:=Nat.le_of_dvd (by omega) (Z4 hz);have hdm:=Zo m s;have hc:mode=1\/mode=2/\iv.length=s:=by
  by_cases h1:mode=1
  ·exact .inl h1
  ·rw[if_neg h1]at hi;exact .inr ⟨by omega,hi⟩
 have lo:(t4 (cF t key false) (cF t key true) mode true s msg iv (m/s)).1.length=m:=by
  rw[(js hci (by omega) (by omega) (m/s) (by omega)).1];omega
 have T0:=zE h (mode:=mode) (back:=true) (b:=msg) (ch:=iv) (c:=iv.length) (vb:=bv msg) rfl hmm (by omega) hc rfl hz;generalize t4 (cF t key false) (cF t key true) mode true s msg iv (m/s)=S0 at*
 obtain⟨o,c1⟩:=S0;dsimp only at T0 lo hL ⊢;have lD:(o.drop (m-s)).length=s:=by rw[Ze,lo];omega
 have e1:I6.wrap ((m:Int)-(s:Int))=((m-s:Nat):Int):=by rw[Zd _ (by omega)];omega
 have hvD:sub (bv o) (m-s) s=bv (o.drop (m-s)):=by
  have:=y4 lo (show m-s<=m by omega)
  rwa [show m-(m-s)=s by omega]at this
 have cS:=LB (vb:=bv (o.drop (m-s))) rfl hp hs8 lD hL;have hle:=rq pad (o.drop (m-s));rw[lD]at hle;have lSt:(V7 pad (o.drop (m-s))).length=s-A3 pad (o.drop (m-s)):=by unfold V7;rw[Zs,lD];omega
 have lTk:(o.take (m-s)).length=m-s:=by rw[Zs,lo];omega
 have hvT:sub (bv o) 0 (m-s)=bv (o.take (m-s)):=m8 _ _ _;generalize V7 pad (o.drop (m-s))=ST at*
 generalize A3 pad (o.drop (m-s))=c at*
 generalize o.take (m-s)=TK at*
 have lc:(TK++ST).length=m-c:=by rw[Zc];omega
 refine fD.c ?_;refine⟨[i64 t,i64 mode,i64 pad,bool true],rfl,rfl,?_⟩;refine⟨[],_,_,_,_,fu h rfl ⟨hm.1,by omega⟩ (by omega) (.inr hm.2) hi,rfl,rfl,?_⟩;refine⟨_,rfl,?_⟩;refine⟨[],_,_,_,_,h.rnew,rfl,rfl,?_⟩;refine⟨_,rfl,?_⟩;refine d9 (fun hh=>absurd hh (by omega)) (fun _=> ?_);refine⟨[],_,_,_,_,h.rsize,rfl,rfl,?_⟩;refine⟨_,rfl,?_⟩;refine⟨_,rfl,?_⟩;refine⟨[],_,_,_,_,jc h (mode:=mode) (back:=true) (i:=1) (vi:=bv iv) (iv:=iv) rfl rfl ⟨hm.1,by omega⟩ hi,rfl,rfl,?_⟩;refine⟨_,rfl,?_⟩;refine j5 (fun h4=>absurd h4 (by omega)) (fun _=> ?_);refine⟨_,rfl,?_⟩;refine j5 (fun h4=>absurd h4 (by omega)) (fun _=> ?_);refine⟨by omega,?_⟩;refine n7 (fun hh=>absurd (by rw[em,hz];rfl) hh) (fun _=> ?_);refine⟨[.d 56 0,.d 56 1],_,_,_,_,T0,rfl,rfl,?_⟩;refine⟨_,rfl,?_⟩;refine⟨by rw[e1];omega,by rw[e1];omega,by first|omega|(rw [e1];omega),by first|omega|(rw [e1];omega),?_⟩;refine⟨[],_,_,_,_,cS,?_,rfl,?_⟩
 ·rw[e1];show[i64 pad,i64 s,V.z (m-((m-s:Nat):Int).toNat) (sub (bv o) (0+((m-s:Nat):Int).toNat*1) (m-((m-s:Nat):Int).toNat))]=_;rw[Zb,Zj,Zk,show m-(m-s)=s by omega,hvD]
 refine⟨by rw[e1];omega,by rw[e1];omega,by first|omega|(rw [e1];omega),by first|omega|(rw [e1];omega),?_⟩;refine⟨by first|omega|(rw [i9];omega),by rw[e1,Zb];omega,by rw[e1,Zb,i9,lo];omega,?_⟩;refine⟨_,rfl,[],congrArg (fun z=>V.t [z,i64 0]) ?_,tq⟩;rw[e1,Zb];show V.z (m-s-0+(s-c)) (sub (sub (bv o) 0 ((m-s-0)*1)++sub (bv ST) 0 ((s-c)*1)) 0 (m-s-0+(s-c)))=_;rw[Zy,Zj,Zj,hvT,g8 lSt,A5,show m-s+(s-c)=m-c by omega,g8 lc]
theorem a9.out {f:FuncId} {args:List V} {r r':V} (hc:a9 C f args [] (.ret r) []) (h:Wk r r'):a9 C f args [] (.ret r') []:=
 ⟨hc.1,fun w F ι vs a b c d=>(hc.2 w F ι vs a b c d).mono fun e w' ⟨F',ι',h1,h2,h3,h4,h5,hoc⟩=>⟨F',ι',h1,h2,h3,h4,h5,E4.oc (.ret h) hoc⟩⟩
abbrev bV (r:Bs×Int):V:= .t [.z r.1.length (bv r.1),i64 r.2]
theorem rk {f args} {r:Bs×Int} {l:Nat} {o:Bs} (e:r=(o,0)) (hl:o.length=l) (P:a9 C f args [] (.ret (.t [.z l (bv o),i64 0])) []):a9 C f args [] (.ret (bV r)) []:=by
 subst e;subst hl;exact P
theorem ou {f args} {r:Bs×Int} {e:Int} (h:r=([],e)) (P:a9 C f args [] (.ret (.t [i6,i64 e])) []):a9 C f args [] (.ret (bV r)) []:=by
 subst h;exact P.out (.t (.cons .nl (.cons (.refl _) .nil)))
theorem wE (t:Int) {key:Bs} {lk:Nat} (hk:key.length=lk) (hlk:lk<=1000) (mode pad:Int) (back:Bool) {iv:Bs} {li:Nat} (hi:iv.length=li):
  (C6 t mode pad (q9 t).toNat lk li=0/\∃s k xs rs,k9 t key s k xs rs/\D0 s mode pad iv)\/
  (C6 t mode pad (q9 t).toNat lk li≠0/\a9 C 59 [D2 t mode pad back,.z lk (bv key),.z li (bv iv)] [] (.ret (.t [j7,i64 (C6 t mode pad (q9 t).toNat lk li)])) []/\
   a9 C 99 [D2 t mode pad back,.z lk (bv key),.z li (bv iv)] [] (.ret (i64 (C6 t mode pad (q9 t).toNat lk li))) []):=by
 subst hk;subst hi;by_cases ht:y7 t
 ·by_cases hv:(key.length:Int)∈p9 t
  ·obtain⟨s,k,xs,rs,h⟩:=Aa (key:=key) ht hv;have hs:(q9 t).toNat=s:=by rw[h.hs,Zb]
   rw[hs];by_cases hmp:(1<=mode/\mode<=9)/\(1<=pad/\pad<=4)/\(pad=4\/mode<=2)
   ·by_cases hli:iv.length=if mode=1 then 0 else s
    ·left;refine⟨?_,s,k,xs,rs,h,hmp.1,hmp.2.1,hmp.2.2,hli⟩;unfold C6;rw[if_neg (by exact fun x=>x ht),if_neg (by exact fun x=>x hv),if_neg (by exact fun x=>x hmp),if_neg (by exact fun x=>x hli)]
    ·right;have e:C6 t mode pad s key.length iv.length=5:=by
      unfold C6;rw[if_neg (by exact fun x=>x ht),if_neg (by exact fun x=>x hv),if_neg (by exact fun x=>x hmp),if_pos hli]
     rw[e];exact⟨by decide,Lc h rfl hmp.1 hmp.2.1 hmp.2.2 hli,Mu h rfl hmp.1 hmp.2.1 hmp.2.2 hli⟩
   ·right;have e:C6 t mode pad s key.length iv.length=3:=by
     unfold C6;rw[if_neg (by exact fun x=>x ht),if_neg (by exact fun x=>x hv),if_pos hmp]
    rw[e];exact⟨by decide,Ld h rfl hmp,Mv h rfl hmp⟩
  ·right;have e:C6 t mode pad (q9 t).toNat key.length iv.length=4:=by
    unfold C6;rw[if_neg (by exact fun x=>x ht),if_pos hv]
   rw[e];exact⟨by decide,zi (KX ht (by omega) hv) (by decide),zx (Lv ht hv) (by decide)⟩
 ·right;have e:C6 t mode pad (q9 t).toNat key.length iv.length=2:=by
   unfold C6;rw[if_pos ht]
  rw[e];exact⟨by decide,zi (KY ht) (by decide),zx (Lw ht) (by decide)⟩
theorem uh {a n:Int} (hn:0<n) (hn2:n<=4611686018427387904) (ha: -9223372036854775808<=a/\a<=9223372036854775807):a9 C 51 [i64 a,i64 n] [] (.ret (i64 (a%n))) []:=by
 refine Qj.c ?_;have h1: -n<a.tmod n:=Int.lt_tmod_of_pos a hn;have h2:a.tmod n<n:=Int.tmod_lt_of_pos a hn;refine⟨by omega,?_⟩;refine d9 (fun h=> ?_) (fun h=> ?_)
 ·refine⟨_,rfl,[],f6 ?_,tq⟩;rw[Zd _ (by omega)];rw[<-eV a n hn,Zi (a:=a.tmod n+n) (by omega),Z5 (by omega) (by omega)]
 ·refine⟨_,rfl,[],f6 ?_,tq⟩;rw[<-eV a n hn,Zi (a:=a.tmod n+n) (by omega),Int.add_emod_right,Z5 (by omega) (by omega)]
abbrev pb (tag n mode pad:Int) (back:Bool) (lk:Nat) (k:Bs) (li:Nat) (iv:Bs):V:= .a [i64 tag,i64 n,i64 mode,i64 pad,bool back,.z lk (bv k),.z li (bv iv)]
abbrev aP (a:Int):Prop:= -9223372036854775808<=a/\a<=9223372036854775807
theorem yX {tag n mode pad:Int} {back:Bool} {lk li:Nat} {k iv:Bs} (h:lk<=100/\li<=100):a9 C 11 [pb tag n mode pad back lk k li iv] [] (.ret (bool true)) []:=by
 refine AJ.c ?_;refine⟨_,rfl,?_⟩;refine d9 (fun _=> ?_) (fun hh=>absurd hh (by omega));refine⟨_,rfl,?_⟩;exact⟨_,rfl,[],congrArg bool (decide_eq_true (by omega)),tq⟩
theorem JJ {tag n mode pad:Int} {back:Bool} {lk li:Nat} {k iv:Bs} (h:¬(lk<=100/\li<=100)):a9 C 11 [pb tag n mode pad back lk k li iv] [] (.ret (bool false)) []:=by
 refine AJ.c ?_;refine⟨_,rfl,?_⟩;refine d9 (fun _=> ?_) (fun hh=> ?_)
 ·refine⟨_,rfl,?_⟩;exact⟨_,rfl,[],congrArg bool (decide_eq_false (by omega)),tq⟩
 ·exact⟨_,rfl,[],rfl,tq⟩
def O7 (mode:Int):Int:=1+mode%9
def jX (mode pad:Int):Int:=if O7 mode<=2 then 1+pad%4 else 4
theorem HI {tag n mode pad:Int} {back:Bool} {lk li s:Nat} {k iv:Bs} (h0:aP tag) (h1:aP n) (h2:aP mode) (h3:aP pad) (hk:k.length=lk) (hi:iv.length=li) (hs:q9 (C3 tag)=s) (hs2:s<=16):
  a9 C 13 [pb tag n mode pad back lk k li iv] [] (.ret (.t [D2 (C3 tag) (O7 mode) (jX mode pad) back,.z (cE (C3 tag) n) (bv (aW (C3 tag) n k)),.z (gS (O7 mode) s) (bv (bN (O7 mode) s iv))])) []:=by
 have e1:I6.wrap (1+mode%9)=O7 mode:=by rw[Zd _ (by omega)];rfl
 have e2:I6.wrap (1+pad%4)=1+pad%4:=by rw[Zd _ (by omega)]
 have hR:a9 C 23 [i64 (C3 tag)] [] (.ret (i64 s)) []:=by rw[<-hs];exact pz (jG _)
 refine Qh.c ?_;refine⟨_,rfl,?_⟩;refine⟨[],_,_,_,_,zO h0,rfl,rfl,?_⟩;refine⟨_,rfl,?_⟩;refine⟨[],_,_,_,_,uh (a:=mode) (n:=9) (by omega) (by omega) h2,rfl,rfl,?_⟩;refine⟨_,rfl,?_⟩;refine⟨Za rfl,?_⟩;refine⟨_,rfl,?_⟩;have hL:∀{vk:List Value},vk=bv k->a9 C 21 [i64 (C3 tag),i64 n,.z lk vk] [] (.ret (.z (cE (C3 tag) n) (bv (aW (C3 tag) n k)))) []:=fun e=>JY (jG _) h1 e hk;have hI:=JX (mode:=O7 mode) (s:=s) (vb:=bv iv) rfl hi (by omega);refine d9 (fun hm=> ?_) (fun hm=> ?_)
 ·rw[e1]at hm;refine⟨_,rfl,?_⟩;refine⟨[],_,_,_,_,uh (a:=pad) (n:=4) (by omega) (by omega) h3,rfl,rfl,?_⟩;refine⟨Za rfl,?_⟩;rw[e1,e2];have hp:jX mode pad=1+pad%4:=if_pos hm;rw[hp];refine⟨[i64 (C3 tag),i64 (O7 mode),i64 (1+pad%4),bool back],rfl,rfl,?_⟩;refine⟨_,rfl,?_⟩;refine⟨_,rfl,?_⟩;refine⟨[],_,_,_,_,hL rfl,rfl,rfl,?_⟩;refine⟨_,rfl,?_⟩;refine⟨[],_,_,_,_,hR,rfl,rfl,?_⟩;refine⟨_,rfl,?_⟩;refine⟨[],_,_,_,_,hI,rfl,rfl,?_⟩;refine⟨Za rfl,?_⟩;refine⟨[i64 (C3 tag),i64 (O7 mode),i64 (1+pad%4),bool back],rfl,rfl,?_⟩;exact⟨_,rfl,[],rfl,tq⟩
 ·rw[e1]at hm;rw[e1];have hp:jX mode pad=4:=if_neg hm;rw[hp];refine⟨[i64 (C3 tag),i64 (O7 mode),i64 4,bool back],rfl,rfl,?_⟩;refine⟨_,rfl,?_⟩;refine⟨_,rfl,?_⟩;refine⟨[],_,_,_,_,hL rfl,rfl,rfl,?_⟩;refine⟨_,rfl,?_⟩;refine⟨[],_,_,_,_,hR,rfl,rfl,?_⟩;refine⟨_,rfl,?_⟩;refine⟨[],_,_,_,_,hI,rfl,rfl,?_⟩;refine⟨Za rfl,?_⟩;refine⟨[i64 (C3 tag),i64 (O7 mode),i64 4,bool back],rfl,rfl,?_⟩;exact⟨_,rfl,[],rfl,tq⟩
def oX (n:Int) (s l:Nat):Nat:=if 0<(n.tdiv 3)%3 then l/s*s else l
abbrev sW (n:Int) (s:Nat) (m:Bs):Bs:=m.take (oX n s m.length)
theorem OP {l s:Nat} (hs:0<s) (hl:l<=1000):I6.wrap (I6.wrap ((l:Int).tdiv s)*s)=((l/s*s:Nat):Int):=by
 have h1:=Nat.div_le_self l s;have h2:=Z8 l s;have e:(l:Int).tdiv s=((l/s:Nat):Int):=by rw[Jb (by omega)];rfl
 rw[e];clear e;generalize l/s=q at h1 h2 ⊢;rw[Zd (q:Int) (by omega),<-Int.natCast_mul,Zd _ (by omega)]
theorem a3j {tag n mode pad:Int} {back:Bool} {lk li s l:Nat} {k iv b:Bs} (h0:aP tag) (h1:aP n) (hs:q9 (C3 tag)=s) (hs2:0<s/\s<=16) (hb:b.length=l) (hl:l<=1000):
  a9 C 28 [pb tag n mode pad back lk k li iv,.z l (bv b)] [] (.ret (.z (oX n s l) (bv (sW n s b)))) []:=by
 have hR:a9 C 23 [i64 (C3 tag)] [] (.ret (i64 s)) []:=by rw[<-hs];exact pz (jG _)
 have h3: -9223372036854775808<=n.tdiv 3/\n.tdiv 3<=9223372036854775807:=by
  have e:Int.sign 3=1:=rfl;rw[Int.tdiv_eq_ediv,e];split<;>omega
 refine Qi.c ?_;refine⟨_,rfl,?_⟩;refine⟨[],_,_,_,_,zO h0,rfl,rfl,?_⟩;refine⟨[],_,_,_,_,hR,rfl,rfl,?_⟩;refine⟨_,rfl,?_⟩;have e3:I6.wrap (n.tdiv 3)=n.tdiv 3:=Zd _ (by omega);refine⟨by omega,?_⟩;refine⟨[],_,_,_,_,uh (a:=I6.wrap (n.tdiv 3)) (n:=3) (by omega) (by omega) (by rw[e3];exact h3),rfl,rfl,?_⟩;rw[e3];refine d9 (fun hm=> ?_) (fun hm=> ?_)
 ·have hq:l/s*s<=l:=Z8 _ _;have hv:=OP (l:=l) (s:=s) (by omega) hl;refine⟨by omega,?_⟩;refine⟨by rw[hv];omega,by rw[hv];omega,by rw[hv];omega,by rw[hv];omega,?_⟩;refine⟨_,rfl,[],?_,tq⟩;have e4:oX n s l=l/s*s:=if_pos hm;show V.z ((I6.wrap (I6.wrap ((l:Int).tdiv s)*s)).toNat-0) (sub (bv b) 0 ((I6.wrap (I6.wrap ((l:Int).tdiv s)*s)).toNat-0))=_;rw[hv,e4,Zb,Zy,sW,hb,e4,m8];rfl
 ·refine⟨_,rfl,[],?_,tq⟩;have e4:oX n s l=l:=if_neg hm;rw[sW,hb,e4,Zq (by omega)];rfl
theorem yk (tag n:Int) (k:Bs):∃s q xs rs,k9 (C3 tag) (aW (C3 tag) n k) s q xs rs:=NR tag n k
theorem kG (t:Int) {key:Bs} {lk:Nat} (hk:key.length=lk) (hlk:lk<=1000) (mode pad:Int) (back:Bool) {iv:Bs} {li:Nat} (hi:iv.length=li):
  a9 C 89 [D2 t mode pad back,.z lk (bv key),.z li (bv iv)] [] (.ret (i64 (C6 t mode pad (q9 t).toNat lk li))) []/\
  a9 C 99 [D2 t mode pad back,.z lk (bv key),.z li (bv iv)] [] (.ret (i64 (C6 t mode pad (q9 t).toNat lk li))) []:=by
 rcases wE t hk hlk mode pad back hi with ⟨e,s,k,xs,rs,h,ok⟩|⟨he,P,Q⟩
 ·obtain⟨o1,o2,o3,o4⟩:=ok;subst hk;subst hi;have P:=Le h (back:=back) (vi:=bv iv) rfl o1 o2 o3 o4;have Q:=fu h (back:=back) (vi:=bv iv) rfl o1 o2 o3 o4;rw[e];refine⟨?_,Q⟩;refine AW.c ?_;refine⟨[i64 t,i64 mode,i64 pad,bool back],rfl,rfl,?_⟩;refine⟨[],_,_,_,_,P,rfl,rfl,?_⟩;exact⟨_,rfl,[],rfl,tq⟩
 ·refine⟨?_,Q⟩;generalize C6 t mode pad (q9 t).toNat lk li=e at*
  refine AW.c ?_;refine⟨[i64 t,i64 mode,i64 pad,bool back],rfl,rfl,?_⟩;refine⟨[],_,_,_,_,P,rfl,rfl,?_⟩;exact⟨_,rfl,[],rfl,tq⟩
theorem NL (x y:Value) (w:World):
  CallsD PP 93 #[x,y] .returning w fun e u' w'=>e= .returned (.tuple #[])/\u'= .returning/\w'=w:=by
 refine callsD_of_wpS qh.f rfl fun c₀ cs hu=> ?_;apply wpS_seq;apply wpS_region;simp[wpOpsS,go_sem,recoverD,hu,Exit.thenS];refine wpS_of_wp ?_;refine wp_block ?_;refine wp_seq ?_;refine wp_region ?_;simp[wpOps,go_sem,Exit.then];refine .inl ?_;refine wp_cond (t:=true) ?_ ?_
 ·simp[go_sem]
 simp only[if_true];refine wp_region ?_;simp[wpOps,go_sem,Exit.then,bodyPostS,results];cases c₀
 simp_all
theorem NM (p q:Addr) (n:Int) (w:World) (h1:(w.cell? p).isSome=true) (h2:w.frozen? p=false) (h3:((w.setCell p (.slice none 0 0)).cell? q).isSome=true) (h4:(w.setCell p (.slice none 0 0)).frozen? q=false):
  CallsD PP 93 #[.pointer (some p),.pointer (some q)] (.panicking [{v:= .iface Y4 (.int .i64 n),recovered:=false}]) w fun e u' w'=>
   e= .returned (.tuple #[])/\u'= .panicking [{v:= .iface Y4 (.int .i64 n),recovered:=true}]/\w'=(w.setCell p (.slice none 0 0)).setCell q (.int .i64 n):=by
 obtain⟨x1,hx1⟩:=Jc.1 h1;obtain⟨x2,hx2⟩:=Jc.1 h3;have hta:∀(v:Value) (w:World),(Instr.typeAssert (.iface Y4 v) a0Z Y4 true).run PP w= .ok (.tuple #[v,.bool true]) w:=fun v w=>by kernel_rfl
 refine callsD_of_wpS qh.f rfl fun c₀ cs hu=> ?_;apply wpS_seq;apply wpS_region;simp[wpOpsS,go_sem,recoverD,hu,Exit.thenS];refine wpS_of_wp ?_;refine wp_block ?_;refine wp_seq ?_;refine wp_region ?_;simp[wpOps,go_sem,Exit.then];refine .inl ?_;refine wp_cond (t:=false) ?_ ?_
 ·simp[go_sem]
 simp only[if_false,Bool.false_eq_true];refine wp_seq ?_;refine wp_region ?_;simp[wpOps,go_sem,Exit.then,hta];refine .inl (.inl (.inl ?_));refine wp_cond (t:=true) ?_ ?_
 ·simp[go_sem]
 simp only[if_true];refine wp_seq ?_;refine wp_region ?_;simp[wpOps,go_sem,Exit.then];refine .inl ?_;refine wp_region ?_;simp[wpOps,go_sem,Exit.then,hx1,h2,hx2,h4,bodyPostS,results]
theorem Y9:sD PP 93 Y4:=⟨fun z w=>je qh.f qh.name rfl z w,NL,NM⟩
theorem fv:a9 C 159 [i64 0] [] (.ret (.t [])) []:=by
 refine AE.c ?_;exact⟨_,rfl,[],rfl,tq⟩
theorem kD {e:Int} (h:e≠0):a9 C 159 [i64 e] [] (.pan (.i Y4 (i64 e))) []:=by
 refine AE.c ?_;refine n7 (fun _=> ?_) (fun hh=>absurd hh h);exact⟨_,rfl,[],rfl,tq⟩
abbrev o9 (bg op:Bool) (t mode pad:Int) (back:Bool) (cv iv by' held d7:V):B:= .mx [bool bg,bool op,i64 t,i64 mode,i64 pad,bool back,cv,iv,by',held,d7]
theorem tJ:a9 C 29 [] [] (.ret (.p (.k 0) 0)) [o9 false false 0 0 0 false j7 i6 j7 i6 i6]:=by
 refine Pw.c ?_;exact⟨_,rfl,[.d 2 0],rfl,⟨_,rfl,rfl⟩,tq⟩
inductive HK where
 |n
 |o (H:Bs)
 |f (H:Bs)
def HK.v:HK->V
 | .n=>i6
 | .o H=> .o 1 (.k 3) 0 H.length
 | .f H=> .z H.length (bv H)
def HK.b:HK->B
 | .o H=> .sc (bv H)
 |_=> .dead
def HK.l:HK->Bs
 | .n=>[]
 | .o H=>H
 | .f H=>H
abbrev l9 (op:Bool) (t mode pad:Int) (back:Bool) (k:Nat) (xs:List V) (iv:Bs) (x:HK) (d7:Bs):B:=o9 true op t mode pad back (f7 t k xs) (.z iv.length (bv iv)) (.p (.k 1) 0) x.v (.z d7.length (bv d7))
theorem IA {t mode pad md:Int} {op back:Bool} {k:Nat} {xs:List V} {iv d7:Bs} {st:MS} {x:HK}:a9 C 40 [.p (.k 0) 0] [l9 op t mode pad back k xs iv x d7,j4 (f7 t k xs) md back st 2,j6 st.row st.gone,x.b] (.ret (i64 x.l.length)) [l9 op t mode pad back k xs iv x d7,j4 (f7 t k xs) md back st 2,j6 st.row st.gone,x.b]:=by
 obtain⟨ch,row,g⟩:=st;rcases row with _|⟨a,r⟩<;>rcases x with _|H|H;all_goals
  refine uN.c ?_;refine⟨_,rfl,?_⟩;exact⟨_,rfl,[.k 0,.k 1,.k 2,.k 3],rfl,⟨_,rfl,rfl⟩,⟨_,rfl,rfl⟩,⟨_,rfl,rfl⟩,⟨_,rfl,rfl⟩,tq⟩
theorem kp {t mode pad md:Int} {back:Bool} {k:Nat} {xs:List V} {iv d7:Bs} {st:MS} {x:HK}:a9 C 94 [.p (.k 0) 0] [l9 true t mode pad back k xs iv x d7,j4 (f7 t k xs) md back st 2,j6 st.row st.gone,x.b] (.ret (.t [])) [l9 true t mode pad back k xs iv x d7,j4 (f7 t k xs) md back st 2,j6 st.row st.gone,x.b]:=by
 obtain⟨ch,row,g⟩:=st;rcases row with _|⟨a,r⟩<;>rcases x with _|H|H;all_goals
  refine uQ.c ?_;refine⟨_,rfl,?_⟩;exact⟨_,rfl,[.k 0,.k 1,.k 2,.k 3],rfl,⟨_,rfl,rfl⟩,⟨_,rfl,rfl⟩,⟨_,rfl,rfl⟩,⟨_,rfl,rfl⟩,tq⟩
theorem tL {t mode pad md:Int} {op back:Bool} {k:Nat} {xs:List V} {iv d7:Bs} {st:MS} {x:HK} (hm:mode<=9):a9 C 158 [.p (.k 0) 0] [l9 op t mode pad back k xs iv x d7,j4 (f7 t k xs) md back st 2,j6 st.row st.gone,x.b] (.ret (bool (decide (7<=mode)))) [l9 op t mode pad back k xs iv x d7,j4 (f7 t k xs) md back st 2,j6 st.row st.gone,x.b]:=by
 obtain⟨ch,row,g⟩:=st;rcases row with _|⟨a,r⟩<;>rcases x with _|H|H;all_goals
  refine nF.c ?_;refine⟨_,rfl,?_⟩;refine d9 (fun h7=> ?_) (fun h7=> ?_)
  ·refine⟨_,rfl,?_⟩;refine⟨_,rfl,[.k 0,.k 1,.k 2,.k 3],?_,⟨_,rfl,rfl⟩,⟨_,rfl,rfl⟩,⟨_,rfl,rfl⟩,⟨_,rfl,rfl⟩,tq⟩;exact congrArg bool (by rw[decide_eq_true hm,decide_eq_true h7])
  ·refine⟨_,rfl,[.k 0,.k 1,.k 2,.k 3],?_,⟨_,rfl,rfl⟩,⟨_,rfl,rfl⟩,⟨_,rfl,rfl⟩,⟨_,rfl,rfl⟩,tq⟩;exact congrArg bool (by rw[decide_eq_false h7])
def D9 (s:Nat) (md mode pad:Int) (back:Bool):Nat:=if 3<=md then 0 else if 7<=mode then 2*s else if pad≠4/\back=true then s else s-1
theorem yQ {t key s k xs rs} (h:k9 t key s k xs rs) {mode pad md:Int} {op back:Bool} {iv d7:Bs} {st:MS} {x:HK} (K:MK s md st) (hm:mode<=9):
  a9 C 95 [.p (.k 0) 0] [l9 op t mode pad back k xs iv x d7,j4 (f7 t k xs) md back st 2,j6 st.row st.gone,x.b] (.ret (i64 (D9 s md mode pad back))) [l9 op t mode pad back k xs iv x d7,j4 (f7 t k xs) md back st 2,j6 st.row st.gone,x.b]:=by
 have hs:=h.s_le;have G:=tO h (back:=back) K;have S:=tL (t:=t) (mode:=mode) (pad:=pad) (md:=md) (op:=op) (back:=back) (k:=k) (xs:=xs) (iv:=iv) (d7:=d7) (st:=st) (x:=x) hm;have hg:o6 s md=if 3<=md then 1 else s:=by
  have:=K.ok.m;unfold o6;by_cases h3:3<=md
  ·rw[if_pos h3,if_neg (by omega)]
  ·rw[if_neg h3,if_pos (by omega)]
 generalize o6 s md=gr at*
 have e2:I6.wrap (2*(s:Int))=((2*s:Nat):Int):=by rw[Zd _ (by omega)];omega
 have e3:I6.wrap ((s:Int)-1)=((s-1:Nat):Int):=by rw[Zd _ (by omega)];omega
 obtain⟨ch,row,g⟩:=st;rcases row with _|⟨a,r⟩<;>rcases x with _|H|H;all_goals
  refine Pv.c ?_;refine⟨_,rfl,?_⟩;refine⟨[],_,_,_,_,h.size,rfl,rfl,?_⟩;refine⟨_,rfl,?_⟩;refine⟨[.k 1,.k 2],_,_,_,_,G,rfl,rfl,?_⟩;by_cases h3:3<=md
  ·rw[if_pos h3]at hg;refine j5 (fun _=> ?_) (fun hh=>absurd (by omega) hh);refine⟨_,rfl,[.k 0,.k 1,.k 2,.k 3],?_,⟨_,rfl,rfl⟩,⟨_,rfl,rfl⟩,⟨_,rfl,rfl⟩,⟨_,rfl,rfl⟩,tq⟩;exact f6 (by unfold D9;rw[if_pos h3];rfl)
  ·rw[if_neg h3]at hg;refine j5 (fun hh=>absurd hh (by omega)) (fun _=> ?_);refine⟨[.k 0,.k 1,.k 2,.k 3],_,_,_,_,S,rfl,rfl,?_⟩;refine d9 (fun h7=> ?_) (fun h7=> ?_)
   ·refine⟨_,rfl,[.k 0,.k 1,.k 2,.k 3],?_,⟨_,rfl,rfl⟩,⟨_,rfl,rfl⟩,⟨_,rfl,rfl⟩,⟨_,rfl,rfl⟩,tq⟩;exact f6 (by unfold D9;rw[if_neg h3,if_pos h7];exact e2)
   ·refine⟨_,rfl,?_⟩;refine n7 (fun h4=> ?_) (fun h4=> ?_)
    ·refine⟨_,rfl,?_⟩;cases back
     ·refine⟨_,rfl,[.k 0,.k 1,.k 2,.k 3],?_,⟨_,rfl,rfl⟩,⟨_,rfl,rfl⟩,⟨_,rfl,rfl⟩,⟨_,rfl,rfl⟩,tq⟩;exact f6 (by unfold D9;rw[if_neg h3,if_neg h7,if_neg (by simp)];exact e3)
     ·refine⟨_,rfl,[.k 0,.k 1,.k 2,.k 3],?_,⟨_,rfl,rfl⟩,⟨_,rfl,rfl⟩,⟨_,rfl,rfl⟩,⟨_,rfl,rfl⟩,tq⟩;exact f6 (by unfold D9;rw[if_neg h3,if_neg h7,if_pos ⟨h4,rfl⟩])
    ·refine⟨_,rfl,[.k 0,.k 1,.k 2,.k 3],?_,⟨_,rfl,rfl⟩,⟨_,rfl,rfl⟩,⟨_,rfl,rfl⟩,⟨_,rfl,rfl⟩,tq⟩;exact f6 (by unfold D9;rw[if_neg h3,if_neg h7,if_neg (by simp[h4])];exact e3)
def L5 (s:Nat) (mode:Int) (back:Bool) (b o d7:Bs):Bs:=if 7<=mode/\s<=b.length then (if back then b else o).drop (b.length-s)else d7
theorem IP {t key s k xs rs} (h:k9 t key s k xs rs) {mode pad md:Int} {op back:Bool} {iv d7 H b:Bs} {st:MS} {m:Nat} (hb:b.length=m) (hmb:m<=100000) (K:MK s md st) (hm:mode<=9) (hg:m%o6 s md=0) (hne:0<m\/st.row=[]):
  a9 C 97 [.p (.k 0) 0,.z m (bv b)] [l9 op t mode pad back k xs iv (.f H) d7,j4 (f7 t k xs) md back st 2,j6 st.row st.gone,.dead]
   (.ret (.z m (bv (k5 (cF t key false) (cF t key true) s md back st b).1)))
   [l9 op t mode pad back k xs iv (.f H) (L5 s mode back b (k5 (cF t key false) (cF t key true) s md back st b).1 d7),j4 (f7 t k xs) md back (k5 (cF t key false) (cF t key true) s md back st b).2 4,.dead,.dead,j6 (k5 (cF t key false) (cF t key true) s md back st b).2.row (k5 (cF t key false) (cF t key true) s md back st b).2.gone]:=by
 have hs:=h.s_le;have lo:(k5 (cF t key false) (cF t key true) s md back st b).1.length=m:=by rw[aB h.ci K.ok (by rw[hb];exact hg),hb]
 have T0:=zI h (back:=back) (st:=st) (b:=b) rfl hb (by omega) K hg hne;have S:=fun(st':MS)=>tL (t:=t) (mode:=mode) (pad:=pad) (md:=md) (op:=op) (back:=back) (k:=k) (xs:=xs) (iv:=iv) (d7:=d7) (st:=st') (x:= .f H) hm;generalize k5 (cF t key false) (cF t key true) s md back st b=S0 at*
 obtain⟨o,st1⟩:=S0;have S1:=S st1;obtain⟨c1,row1,g1⟩:=st1;dsimp only at T0 lo ⊢;have eS:I6.wrap ((m:Int)-(s:Int))=(m:Int)-s:=Zd _ (by omega);by_cases hL:7<=mode/\s<=m
 ·have eL:L5 s mode back b o d7=(if back then b else o).drop (m-s):=by unfold L5;rw[hb,if_pos hL]
  rw[eL];cases back;all_goals
   obtain⟨ch,row,g⟩:=st;rcases row with _|⟨a,r⟩<;>rcases row1 with _|⟨a1,r1⟩
  all_goals
   refine jm.c ?_;refine⟨_,rfl,?_⟩;refine⟨[.k 1,.k 2],_,_,_,_,T0,rfl,rfl,?_⟩;refine⟨[],_,_,_,_,fv,rfl,rfl,?_⟩;refine⟨_,rfl,?_⟩;refine⟨[],_,_,_,_,h.size,rfl,rfl,?_⟩;refine⟨[.k 0,.k 1,.d 15 2,.k 3],_,_,_,_,S1,rfl,rfl,?_⟩;refine d9 (fun h7=> ?_) (fun h7=>absurd hL.1 h7);refine d9 (fun h7=> ?_) (fun h7=>absurd hL.2 (by omega));refine⟨_,rfl,?_⟩;refine⟨by rw[eS];omega,by rw[eS];omega,by omega,by omega,?_⟩;first
    |refine⟨[],_,_,_,_,W6 (n:=s) (l:=o.drop (m-s)) (va:=bv (o.drop (m-s))) rfl (by rw[Ze,lo];omega) (by omega),?_,rfl,?_⟩
     ·show[V.z (m-(I6.wrap ((m:Int)-(s:Int))).toNat) (sub (bv o) (I6.wrap ((m:Int)-(s:Int))).toNat (m-(I6.wrap ((m:Int)-(s:Int))).toNat))]=_;rw[eS,show((m:Int)-s).toNat=m-s by omega,y4 lo (by omega),show m-(m-s)=s by omega]
     refine⟨Za rfl,?_⟩;refine⟨_,rfl,[.k 0,.k 1,.k 2,.k 3,.d 15 2],rfl,⟨_,rfl,?_⟩,⟨_,rfl,rfl⟩,⟨_,rfl,rfl⟩,⟨_,rfl,rfl⟩,⟨_,rfl,rfl⟩,tq⟩;have ll:(o.drop (m-s)).length=s:=by rw[Ze,lo];omega
     show _=l9 op t mode pad false k xs iv (.f H) (o.drop (m-s));unfold l9;rw[ll];rfl
    |refine⟨[],_,_,_,_,W6 (n:=s) (l:=b.drop (m-s)) (va:=bv (b.drop (m-s))) rfl (by rw[Ze,hb];omega) (by omega),?_,rfl,?_⟩
     ·show[V.z (m-(I6.wrap ((m:Int)-(s:Int))).toNat) (sub (bv b) (I6.wrap ((m:Int)-(s:Int))).toNat (m-(I6.wrap ((m:Int)-(s:Int))).toNat))]=_;rw[eS,show((m:Int)-s).toNat=m-s by omega,y4 hb (by omega),show m-(m-s)=s by omega]
     refine⟨Za rfl,?_⟩;refine⟨_,rfl,[.k 0,.k 1,.k 2,.k 3,.d 15 2],rfl,⟨_,rfl,?_⟩,⟨_,rfl,rfl⟩,⟨_,rfl,rfl⟩,⟨_,rfl,rfl⟩,⟨_,rfl,rfl⟩,tq⟩;have ll:(b.drop (m-s)).length=s:=by rw[Ze,hb];omega
     show _=l9 op t mode pad true k xs iv (.f H) (b.drop (m-s));unfold l9;rw[ll];rfl
 ·have eL:L5 s mode back b o d7=d7:=by unfold L5;rw[hb,if_neg hL]
  rw[eL];obtain⟨ch,row,g⟩:=st;rcases row with _|⟨a,r⟩<;>rcases row1 with _|⟨a1,r1⟩;all_goals
   refine jm.c ?_;refine⟨_,rfl,?_⟩;refine⟨[.k 1,.k 2],_,_,_,_,T0,rfl,rfl,?_⟩;refine⟨[],_,_,_,_,fv,rfl,rfl,?_⟩;refine⟨_,rfl,?_⟩;refine⟨[],_,_,_,_,h.size,rfl,rfl,?_⟩;refine⟨[.k 0,.k 1,.d 15 2,.k 3],_,_,_,_,S1,rfl,rfl,?_⟩;refine d9 (fun h7=> ?_) (fun h7=> ?_)
   ·refine d9 (fun h8=>absurd ⟨h7,by omega⟩ hL) (fun h8=> ?_);exact⟨_,rfl,[.k 0,.k 1,.k 2,.k 3,.d 15 2],rfl,⟨_,rfl,rfl⟩,⟨_,rfl,rfl⟩,⟨_,rfl,rfl⟩,⟨_,rfl,rfl⟩,⟨_,rfl,rfl⟩,tq⟩
   ·exact⟨_,rfl,[.k 0,.k 1,.k 2,.k 3,.d 15 2],rfl,⟨_,rfl,rfl⟩,⟨_,rfl,rfl⟩,⟨_,rfl,rfl⟩,⟨_,rfl,rfl⟩,⟨_,rfl,rfl⟩,tq⟩
theorem IQ {t key s k xs rs} (h:k9 t key s k xs rs) {mode pad md:Int} {op back:Bool} {iv d7 H:Bs} {st:MS} {vb:List Value} (h3:3<=md) (hm:mode<=9):
  a9 C 97 [.p (.k 0) 0,.z 0 vb] [l9 op t mode pad back k xs iv (.f H) d7,j4 (f7 t k xs) md back st 2,j6 st.row st.gone,.dead]
   (.ret (.z 0 [])) [l9 op t mode pad back k xs iv (.f H) d7,j4 (f7 t k xs) md back st 2,j6 st.row st.gone,.dead]:=by
 have hs:=h.s_le;have T0:=zJ h (back:=back) (st:=st) (vb:=vb) h3;have S:=tL (t:=t) (mode:=mode) (pad:=pad) (md:=md) (op:=op) (back:=back) (k:=k) (xs:=xs) (iv:=iv) (d7:=d7) (st:=st) (x:= .f H) hm;obtain⟨ch,row,g⟩:=st;rcases row with _|⟨a,r⟩;all_goals
  refine jm.c ?_;refine⟨_,rfl,?_⟩;refine⟨[.k 1,.k 2],_,_,_,_,T0,rfl,rfl,?_⟩;refine⟨[],_,_,_,_,fv,rfl,rfl,?_⟩;refine⟨_,rfl,?_⟩;refine⟨[],_,_,_,_,h.size,rfl,rfl,?_⟩;refine⟨[.k 0,.k 1,.k 2,.k 3],_,_,_,_,S,rfl,rfl,?_⟩;refine d9 (fun h7=> ?_) (fun h7=> ?_)
  ·refine d9 (fun h8=>absurd h8 (by omega)) (fun h8=> ?_);exact⟨_,rfl,[.k 0,.k 1,.k 2,.k 3],rfl,⟨_,rfl,rfl⟩,⟨_,rfl,rfl⟩,⟨_,rfl,rfl⟩,⟨_,rfl,rfl⟩,tq⟩
  ·exact⟨_,rfl,[.k 0,.k 1,.k 2,.k 3],rfl,⟨_,rfl,rfl⟩,⟨_,rfl,rfl⟩,⟨_,rfl,rfl⟩,⟨_,rfl,rfl⟩,tq⟩
def j9 (mode:Int):Int:=if 7<=mode then 2 else mode
theorem IL {t t0 mode pad md:Int} {op back I4:Bool} {k k0:Nat} {xs xs0:List V} {iv d7:Bs} {st:MS} {x:HK} (hm:mode<=9):a9 C 158 [.p (.k 0) 0] [l9 op t mode pad back k xs iv x d7,j4 (f7 t0 k0 xs0) md I4 st 2,j6 st.row st.gone,x.b] (.ret (bool (decide (7<=mode)))) [l9 op t mode pad back k xs iv x d7,j4 (f7 t0 k0 xs0) md I4 st 2,j6 st.row st.gone,x.b]:=by
 obtain⟨ch,row,g⟩:=st;rcases row with _|⟨a,r⟩<;>rcases x with _|H|H;all_goals
  refine nF.c ?_;refine⟨_,rfl,?_⟩;refine d9 (fun h7=> ?_) (fun h7=> ?_)
  ·refine⟨_,rfl,?_⟩;refine⟨_,rfl,[.k 0,.k 1,.k 2,.k 3],?_,⟨_,rfl,rfl⟩,⟨_,rfl,rfl⟩,⟨_,rfl,rfl⟩,⟨_,rfl,rfl⟩,tq⟩;exact congrArg bool (by rw[decide_eq_true hm,decide_eq_true h7])
  ·refine⟨_,rfl,[.k 0,.k 1,.k 2,.k 3],?_,⟨_,rfl,rfl⟩,⟨_,rfl,rfl⟩,⟨_,rfl,rfl⟩,⟨_,rfl,rfl⟩,tq⟩;exact congrArg bool (by rw[decide_eq_false h7])
end Go.Scr
