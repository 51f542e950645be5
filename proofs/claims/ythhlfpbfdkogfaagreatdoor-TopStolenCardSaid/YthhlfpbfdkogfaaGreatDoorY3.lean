/-
  What the functions of the given program reckon, each by a contract, up to the law. It is no claim by itself; each contract bears its own conditions.
-/
import Derived.Test.YthhlfpbfdkogfaaGreatDoorY2
set_option linter.unusedVariables false
set_option linter.unusedSimpArgs false
set_option maxRecDepth 100000
namespace Go.Scr
open Go.Proofs
open Nat renaming le_of_ble_eq_true → Za, mul_le_mul_left → Zh, dvd_of_mod_eq_zero → Zm, le_refl → Zn, mul_succ → Zp, zero_add → Zq, zero_le → Zr, mul_one → Zs, le_of_not_lt → Zt, mod_self → Zu, le_trans → Zv, add_sub_cancel → Zw, div_add_mod → Zx, sub_succ_lt_self → Zz, div_eq_of_lt → Z0, lt_of_mul_lt_mul_left → Z1, le_antisymm → Z2, add_sub_cancel_left → Z3, mul_mod_right → Z6, le_of_dvd → Z8, mul_div_cancel_left → Jb, add_zero → Jd, sub_self → Ji
open List renaming length_append → Zb, length_drop → Zd, eq_nil_of_length_eq_zero → Zf, length_replicate → Zg, length_take → Zi, length_eq_zero_iff → Zj, nil_append → Zk, replicate → Zo, take_append_drop → Zy, drop_of_length_le → Z4, replicate_succ' → Z5, getElem?_eq_getElem → Z9, drop_append → Jc, take_of_length_le → Je, append_nil → Jf, set_append_right → Jg, length_singleton → Jh
open Int renaming toNat_natCast → Zc, tmod_eq_emod_of_nonneg → Zl, ofNat_inj → Ja
open IntWalk renaming i64_in → Ze
open Option renaming isSome_iff_exists → Z7
open Go.IntKind renaming i64 → I6, u8 → U8
theorem FB {ct:Int} {cq:Nat} {cx:List V} {mode:Int} {back:Bool} {ch g row:Bs} {p:UInt8} (hc0:2<=ch.length) (hc:ch.length<=1000) (h0:0<row.length) (hr:row.length<=1000) (hg:g.length<=1000):
  a7 C 121 [.p (.k 0) 0,E6 p] [f8 (d7 ct cq cx) mode back ⟨ch,row,g⟩ 1,i6 row g] (.ret (E6 (Q7 mode back ⟨ch,row,g⟩ p).1)) [f8 (d7 ct cq cx) mode back (Q7 mode back ⟨ch,row,g⟩ p).2 2,.dead,i6 (Q7 mode back ⟨ch,row,g⟩ p).2.row (Q7 mode back ⟨ch,row,g⟩ p).2.gone]:=by
 obtain⟨c,hcl⟩:∃c,ch.length=c:=⟨_,rfl⟩;obtain⟨r,hrl⟩:∃r,row.length=r:=⟨_,rfl⟩;obtain⟨j,hgl⟩:∃j,g.length=j:=⟨_,rfl⟩;have hX:f8 (d7 ct cq cx) mode back ⟨ch,row,g⟩ 1= .mx [d7 ct cq cx,i64 mode,bool back,.z c (bv ch),.z r (bv row),.o 1 (.k 1) 0 j]:=by
  unfold f8;rw[dW h0,<-hcl,<-hrl,<-hgl]
 rw[hX,dV h0];refine yy.w ?_;refine⟨_,rfl,?_⟩;refine i9 (fun h=>absurd h (by omega)) (fun _=> ?_);refine⟨_,rfl,?_⟩;refine⟨by omega,by omega,_,y7 (k:=row) (i:=0) (by omega),?_⟩;refine⟨_,rfl,?_⟩;refine⟨by omega,by omega,by omega,by omega,?_⟩;refine⟨Za rfl,?_⟩;refine⟨_,rfl,?_⟩;cases back
 ·refine⟨_,rfl,?_⟩;refine⟨Zn _,by omega,by rw[f9,hgl];omega,?_⟩;refine⟨Za rfl,?_⟩;refine⟨_,rfl,?_⟩;refine i9 (fun h3=> ?_) (fun h3=> ?_)
  ·subst h3;rw[pi];have ld:(ch.drop 1).length=c-1:=by rw[Zd,hcl]
   have lc:(ch.drop 1++[m8 false p (p^^^row.getD 0 0)]).length=c:=by rw[Zb,ld];show c-1+1=c;omega
   refine⟨_,rfl,?_⟩;refine⟨by omega,by omega,by omega,by omega,?_⟩;refine⟨[],_,_,_,_,cJ (n:=c-1) (va:=sub (bv ch) 1 (c-1)) (l:=ch.drop 1) (q7 hcl (by omega)) ld (by omega) (by omega),rfl,rfl,?_⟩;refine⟨Zn _,by omega,by rw[f9,ld];omega,?_⟩;refine⟨Za rfl,?_⟩;refine⟨Za rfl,?_⟩;refine⟨.ret (E6 (p^^^row.getD 0 0)),[.mx [d7 ct cq cx,i64 3,bool false,.z c (bv (ch.drop 1++[m8 false p (p^^^row.getD 0 0)])),g8,.z (j+1) (bv (g++[m8 false p (p^^^row.getD 0 0)]))],.dead],⟨_,rfl,[.k 0,.k 1],?_,⟨_,rfl,?_⟩,?_⟩,?_⟩
   ·show V.s (.int .u8 (U8.wrap _))=_;rw[s6]
   ·show B.mx [d7 ct cq cx,i64 3,bool false,.z (c-1+1) (sub (sub (bv (ch.drop 1)) 0 ((c-1)*1)++sub [Value.int .u8 _] 0 (1*1)) 0 (c-1+1)),g8,.z (j+1) (sub (sub (bv g) 0 (j*1)++sub [Value.int .u8 _] 0 (1*1)) 0 (j+1))]=_;rw[bB ld (s6 _ _),bB hgl (s6 _ _),show c-1+1=c by omega];rfl
   ·exact⟨⟨_,rfl,rfl⟩,tq⟩
   ·refine⟨.ret (.refl _),.cons (.mx (.cons (.refl _) (.cons (.refl _) (.cons (.refl _) (.cons ?_ (.cons .nl (.cons .u .nil))))))) (.cons (.refl _) (.dd .nil))⟩;show Wk _ (.z (ch.drop 1++[m8 false p (p^^^row.getD 0 0)]).length _);rw[lc];exact .refl _
  refine i9 (fun h4=> ?_) (fun h4=> ?_)
  ·subst h4;refine⟨_,rfl,?_⟩;refine i9 (fun hr1=> ?_) (fun hr1=> ?_)
   ·have hr1:r=1:=by have:=(rfl:Int.toNat 1=1);omega
    have lG:(g++[m8 false p (p^^^row.getD 0 0)]).length=j+1:=by rw[Zb,hgl];rfl
    rw[pj (by omega)];refine⟨_,rfl,?_⟩;refine⟨Za rfl,?_⟩;refine⟨.ret (E6 (p^^^row.getD 0 0)),[.mx [d7 ct cq cx,i64 4,bool false,.z (j+1) (bv (g++[m8 false p (p^^^row.getD 0 0)])),.z (r-1) (bv (row.drop 1)),.z (j+1) (bv (g++[m8 false p (p^^^row.getD 0 0)]))],.dead],⟨_,rfl,[.k 0,.k 1],?_,⟨_,rfl,?_⟩,?_⟩,?_⟩
    ·show V.s (.int .u8 (U8.wrap _))=_;rw[s6]
    ·show B.mx [d7 ct cq cx,i64 4,bool false,.z (j+1) (sub (sub (bv g) 0 (j*1)++sub [Value.int .u8 _] 0 (1*1)) 0 (j+1)),.z (r-1) (sub (bv row) 1 (r-1)),.z (j+1) (sub (sub (bv g) 0 (j*1)++sub [Value.int .u8 _] 0 (1*1)) 0 (j+1))]=_;rw[bB hgl (s6 _ _),q7 hrl (by omega)];rfl
    ·exact⟨⟨_,rfl,rfl⟩,tq⟩
    ·refine⟨.ret (.refl _),.cons (.mx (.cons (.refl _) (.cons (.refl _) (.cons (.refl _) (.cons ?_ (.cons ?_ (.cons .u .nil))))))) (.cons (.refl _) (.dd .nil))⟩
     ·show Wk _ (.z (g++[m8 false p (p^^^row.getD 0 0)]).length _);rw[lG];exact .refl _
     ·rw[show r-1=0 by omega];exact .z0
   ·have hr2:r≠1:=by have:=(rfl:Int.toNat 1=1);omega
    have lr:(row.drop 1).length=r-1:=by rw[Zd,hrl]
    rw[fK (by decide) (fun e=>hr2 (by omega))];by_cases hr1:r=1
    ·have e0:row.drop 1=[]:=Zj.1 (by omega);rw[e0];refine⟨.ret (E6 (p^^^row.getD 0 0)),[.mx [d7 ct cq cx,i64 4,bool false,.z c (bv ch),.z (r-1) (bv (row.drop 1)),.z (j+1) (bv (g++[m8 false p (p^^^row.getD 0 0)]))],.dead],⟨_,rfl,[.k 0,.k 1],?_,⟨_,rfl,?_⟩,?_⟩,?_⟩
     ·show V.s (.int .u8 (U8.wrap _))=_;rw[s6]
     ·show B.mx [d7 ct cq cx,i64 4,bool false,.z c (bv ch),.z (r-1) (sub (bv row) 1 (r-1)),.z (j+1) (sub (sub (bv g) 0 (j*1)++sub [Value.int .u8 _] 0 (1*1)) 0 (j+1))]=_;rw[bB hgl (s6 _ _),q7 hrl (by omega)];rfl
     ·exact⟨⟨_,rfl,rfl⟩,tq⟩
     ·refine⟨.ret (.refl _),.cons (.mx (.cons (.refl _) (.cons (.refl _) (.cons (.refl _) (.cons ?_ (.cons ?_ (.cons .u .nil))))))) (.cons (.refl _) (.dd .nil))⟩
      ·show Wk _ (.z ch.length _);rw[hcl];exact .refl _
      ·rw[show r-1=0 by omega];exact .z0
    ·rw[dV (row:=row.drop 1) (by omega)];refine⟨.ret (E6 (p^^^row.getD 0 0)),[.mx [d7 ct cq cx,i64 4,bool false,.z c (bv ch),.z (r-1) (bv (row.drop 1)),.o 1 (.k 2) 0 (j+1)],.dead,.sc (bv (g++[m8 false p (p^^^row.getD 0 0)]))],⟨_,rfl,[.k 0,.k 1,.d 44 0],?_,⟨_,rfl,?_⟩,⟨_,rfl,rfl⟩,⟨_,rfl,d8 ?_⟩,tq⟩,?_⟩
     ·show V.s (.int .u8 (U8.wrap _))=_;rw[s6]
     ·show B.mx [d7 ct cq cx,i64 4,bool false,.z c (bv ch),.z (r-1) (sub (bv row) 1 (r-1)),.o 1 (.k 2) 0 (j+1)]=_;rw[q7 hrl (by omega)]
     ·exact jX hgl (s6 _ _)
     ·refine⟨.ret (.refl _),.cons (.mx (.cons (.refl _) (.cons (.refl _) (.cons (.refl _) (.cons ?_ (.cons ?_ (.cons ?_ .nil))))))) (.cons (.refl _) (.cons (.refl _) .nil))⟩
      ·show Wk _ (.z ch.length _);rw[hcl];exact .refl _
      ·show Wk _ (.z (row.drop 1).length _);rw[lr];exact .refl _
      ·show Wk _ (ca (row.drop 1) (g++[m8 false p (p^^^row.getD 0 0)]) 2);rw[dW (row:=row.drop 1) (by omega),Zb,hgl];exact .refl _
  ·have lr:(row.drop 1).length=r-1:=by rw[Zd,hrl]
   rw[fK h3 (fun e=>h4 e.1)];by_cases hr1:r=1
   ·have e0:row.drop 1=[]:=Zj.1 (by omega);rw[e0];refine⟨.ret (E6 (p^^^row.getD 0 0)),[.mx [d7 ct cq cx,i64 mode,bool false,.z c (bv ch),.z (r-1) (bv (row.drop 1)),.z (j+1) (bv (g++[m8 false p (p^^^row.getD 0 0)]))],.dead],⟨_,rfl,[.k 0,.k 1],?_,⟨_,rfl,?_⟩,?_⟩,?_⟩
    ·show V.s (.int .u8 (U8.wrap _))=_;rw[s6]
    ·show B.mx [d7 ct cq cx,i64 mode,bool false,.z c (bv ch),.z (r-1) (sub (bv row) 1 (r-1)),.z (j+1) (sub (sub (bv g) 0 (j*1)++sub [Value.int .u8 _] 0 (1*1)) 0 (j+1))]=_;rw[bB hgl (s6 _ _),q7 hrl (by omega)];rfl
    ·exact⟨⟨_,rfl,rfl⟩,tq⟩
    ·refine⟨.ret (.refl _),.cons (.mx (.cons (.refl _) (.cons (.refl _) (.cons (.refl _) (.cons ?_ (.cons ?_ (.cons .u .nil))))))) (.cons (.refl _) (.dd .nil))⟩
     ·show Wk _ (.z ch.length _);rw[hcl];exact .refl _
     ·rw[show r-1=0 by omega];exact .z0
   ·rw[dV (row:=row.drop 1) (by omega)];refine⟨.ret (E6 (p^^^row.getD 0 0)),[.mx [d7 ct cq cx,i64 mode,bool false,.z c (bv ch),.z (r-1) (bv (row.drop 1)),.o 1 (.k 2) 0 (j+1)],.dead,.sc (bv (g++[m8 false p (p^^^row.getD 0 0)]))],⟨_,rfl,[.k 0,.k 1,.d 44 0],?_,⟨_,rfl,?_⟩,⟨_,rfl,rfl⟩,⟨_,rfl,d8 ?_⟩,tq⟩,?_⟩
    ·show V.s (.int .u8 (U8.wrap _))=_;rw[s6]
    ·show B.mx [d7 ct cq cx,i64 mode,bool false,.z c (bv ch),.z (r-1) (sub (bv row) 1 (r-1)),.o 1 (.k 2) 0 (j+1)]=_;rw[q7 hrl (by omega)]
    ·exact jX hgl (s6 _ _)
    ·refine⟨.ret (.refl _),.cons (.mx (.cons (.refl _) (.cons (.refl _) (.cons (.refl _) (.cons ?_ (.cons ?_ (.cons ?_ .nil))))))) (.cons (.refl _) (.cons (.refl _) .nil))⟩
     ·show Wk _ (.z ch.length _);rw[hcl];exact .refl _
     ·show Wk _ (.z (row.drop 1).length _);rw[lr];exact .refl _
     ·show Wk _ (ca (row.drop 1) (g++[m8 false p (p^^^row.getD 0 0)]) 2);rw[dW (row:=row.drop 1) (by omega),Zb,hgl];exact .refl _
 ·refine⟨_,rfl,?_⟩;refine⟨Zn _,by omega,by rw[f9,hgl];omega,?_⟩;refine⟨Za rfl,?_⟩;refine⟨_,rfl,?_⟩;refine i9 (fun h3=> ?_) (fun h3=> ?_)
  ·subst h3;rw[pi];have ld:(ch.drop 1).length=c-1:=by rw[Zd,hcl]
   have lc:(ch.drop 1++[m8 true p (p^^^row.getD 0 0)]).length=c:=by rw[Zb,ld];show c-1+1=c;omega
   refine⟨_,rfl,?_⟩;refine⟨by omega,by omega,by omega,by omega,?_⟩;refine⟨[],_,_,_,_,cJ (n:=c-1) (va:=sub (bv ch) 1 (c-1)) (l:=ch.drop 1) (q7 hcl (by omega)) ld (by omega) (by omega),rfl,rfl,?_⟩;refine⟨Zn _,by omega,by rw[f9,ld];omega,?_⟩;refine⟨Za rfl,?_⟩;refine⟨Za rfl,?_⟩;refine⟨.ret (E6 (p^^^row.getD 0 0)),[.mx [d7 ct cq cx,i64 3,bool true,.z c (bv (ch.drop 1++[m8 true p (p^^^row.getD 0 0)])),g8,.z (j+1) (bv (g++[m8 true p (p^^^row.getD 0 0)]))],.dead],⟨_,rfl,[.k 0,.k 1],?_,⟨_,rfl,?_⟩,?_⟩,?_⟩
   ·show V.s (.int .u8 (U8.wrap _))=_;rw[s6]
   ·show B.mx [d7 ct cq cx,i64 3,bool true,.z (c-1+1) (sub (sub (bv (ch.drop 1)) 0 ((c-1)*1)++sub [Value.int .u8 _] 0 (1*1)) 0 (c-1+1)),g8,.z (j+1) (sub (sub (bv g) 0 (j*1)++sub [Value.int .u8 _] 0 (1*1)) 0 (j+1))]=_;rw[bB ld rfl,bB hgl rfl,show c-1+1=c by omega];rfl
   ·exact⟨⟨_,rfl,rfl⟩,tq⟩
   ·refine⟨.ret (.refl _),.cons (.mx (.cons (.refl _) (.cons (.refl _) (.cons (.refl _) (.cons ?_ (.cons .nl (.cons .u .nil))))))) (.cons (.refl _) (.dd .nil))⟩;show Wk _ (.z (ch.drop 1++[m8 true p (p^^^row.getD 0 0)]).length _);rw[lc];exact .refl _
  refine i9 (fun h4=> ?_) (fun h4=> ?_)
  ·subst h4;refine⟨_,rfl,?_⟩;refine i9 (fun hr1=> ?_) (fun hr1=> ?_)
   ·have hr1:r=1:=by have:=(rfl:Int.toNat 1=1);omega
    have lG:(g++[m8 true p (p^^^row.getD 0 0)]).length=j+1:=by rw[Zb,hgl];rfl
    rw[pj (by omega)];refine⟨_,rfl,?_⟩;refine⟨Za rfl,?_⟩;refine⟨.ret (E6 (p^^^row.getD 0 0)),[.mx [d7 ct cq cx,i64 4,bool true,.z (j+1) (bv (g++[m8 true p (p^^^row.getD 0 0)])),.z (r-1) (bv (row.drop 1)),.z (j+1) (bv (g++[m8 true p (p^^^row.getD 0 0)]))],.dead],⟨_,rfl,[.k 0,.k 1],?_,⟨_,rfl,?_⟩,?_⟩,?_⟩
    ·show V.s (.int .u8 (U8.wrap _))=_;rw[s6]
    ·show B.mx [d7 ct cq cx,i64 4,bool true,.z (j+1) (sub (sub (bv g) 0 (j*1)++sub [Value.int .u8 _] 0 (1*1)) 0 (j+1)),.z (r-1) (sub (bv row) 1 (r-1)),.z (j+1) (sub (sub (bv g) 0 (j*1)++sub [Value.int .u8 _] 0 (1*1)) 0 (j+1))]=_;rw[bB hgl rfl,q7 hrl (by omega)];rfl
    ·exact⟨⟨_,rfl,rfl⟩,tq⟩
    ·refine⟨.ret (.refl _),.cons (.mx (.cons (.refl _) (.cons (.refl _) (.cons (.refl _) (.cons ?_ (.cons ?_ (.cons .u .nil))))))) (.cons (.refl _) (.dd .nil))⟩
     ·show Wk _ (.z (g++[m8 true p (p^^^row.getD 0 0)]).length _);rw[lG];exact .refl _
     ·rw[show r-1=0 by omega];exact .z0
   ·have hr2:r≠1:=by have:=(rfl:Int.toNat 1=1);omega
    have lr:(row.drop 1).length=r-1:=by rw[Zd,hrl]
    rw[fK (by decide) (fun e=>hr2 (by omega))];by_cases hr1:r=1
    ·have e0:row.drop 1=[]:=Zj.1 (by omega);rw[e0];refine⟨.ret (E6 (p^^^row.getD 0 0)),[.mx [d7 ct cq cx,i64 4,bool true,.z c (bv ch),.z (r-1) (bv (row.drop 1)),.z (j+1) (bv (g++[m8 true p (p^^^row.getD 0 0)]))],.dead],⟨_,rfl,[.k 0,.k 1],?_,⟨_,rfl,?_⟩,?_⟩,?_⟩
     ·show V.s (.int .u8 (U8.wrap _))=_;rw[s6]
     ·show B.mx [d7 ct cq cx,i64 4,bool true,.z c (bv ch),.z (r-1) (sub (bv row) 1 (r-1)),.z (j+1) (sub (sub (bv g) 0 (j*1)++sub [Value.int .u8 _] 0 (1*1)) 0 (j+1))]=_;rw[bB hgl rfl,q7 hrl (by omega)];rfl
     ·exact⟨⟨_,rfl,rfl⟩,tq⟩
     ·refine⟨.ret (.refl _),.cons (.mx (.cons (.refl _) (.cons (.refl _) (.cons (.refl _) (.cons ?_ (.cons ?_ (.cons .u .nil))))))) (.cons (.refl _) (.dd .nil))⟩
      ·show Wk _ (.z ch.length _);rw[hcl];exact .refl _
      ·rw[show r-1=0 by omega];exact .z0
    ·rw[dV (row:=row.drop 1) (by omega)];refine⟨.ret (E6 (p^^^row.getD 0 0)),[.mx [d7 ct cq cx,i64 4,bool true,.z c (bv ch),.z (r-1) (bv (row.drop 1)),.o 1 (.k 2) 0 (j+1)],.dead,.sc (bv (g++[m8 true p (p^^^row.getD 0 0)]))],⟨_,rfl,[.k 0,.k 1,.d 44 0],?_,⟨_,rfl,?_⟩,⟨_,rfl,rfl⟩,⟨_,rfl,d8 ?_⟩,tq⟩,?_⟩
     ·show V.s (.int .u8 (U8.wrap _))=_;rw[s6]
     ·show B.mx [d7 ct cq cx,i64 4,bool true,.z c (bv ch),.z (r-1) (sub (bv row) 1 (r-1)),.o 1 (.k 2) 0 (j+1)]=_;rw[q7 hrl (by omega)]
     ·exact jX hgl rfl
     ·refine⟨.ret (.refl _),.cons (.mx (.cons (.refl _) (.cons (.refl _) (.cons (.refl _) (.cons ?_ (.cons ?_ (.cons ?_ .nil))))))) (.cons (.refl _) (.cons (.refl _) .nil))⟩
      ·show Wk _ (.z ch.length _);rw[hcl];exact .refl _
      ·show Wk _ (.z (row.drop 1).length _);rw[lr];exact .refl _
      ·show Wk _ (ca (row.drop 1) (g++[m8 true p (p^^^row.getD 0 0)]) 2);rw[dW (row:=row.drop 1) (by omega),Zb,hgl];exact .refl _
  ·have lr:(row.drop 1).length=r-1:=by rw[Zd,hrl]
   rw[fK h3 (fun e=>h4 e.1)];by_cases hr1:r=1
   ·have e0:row.drop 1=[]:=Zj.1 (by omega);rw[e0];refine⟨.ret (E6 (p^^^row.getD 0 0)),[.mx [d7 ct cq cx,i64 mode,bool true,.z c (bv ch),.z (r-1) (bv (row.drop 1)),.z (j+1) (bv (g++[m8 true p (p^^^row.getD 0 0)]))],.dead],⟨_,rfl,[.k 0,.k 1],?_,⟨_,rfl,?_⟩,?_⟩,?_⟩
    ·show V.s (.int .u8 (U8.wrap _))=_;rw[s6]
    ·show B.mx [d7 ct cq cx,i64 mode,bool true,.z c (bv ch),.z (r-1) (sub (bv row) 1 (r-1)),.z (j+1) (sub (sub (bv g) 0 (j*1)++sub [Value.int .u8 _] 0 (1*1)) 0 (j+1))]=_;rw[bB hgl rfl,q7 hrl (by omega)];rfl
    ·exact⟨⟨_,rfl,rfl⟩,tq⟩
    ·refine⟨.ret (.refl _),.cons (.mx (.cons (.refl _) (.cons (.refl _) (.cons (.refl _) (.cons ?_ (.cons ?_ (.cons .u .nil))))))) (.cons (.refl _) (.dd .nil))⟩
     ·show Wk _ (.z ch.length _);rw[hcl];exact .refl _
     ·rw[show r-1=0 by omega];exact .z0
   ·rw[dV (row:=row.drop 1) (by omega)];refine⟨.ret (E6 (p^^^row.getD 0 0)),[.mx [d7 ct cq cx,i64 mode,bool true,.z c (bv ch),.z (r-1) (bv (row.drop 1)),.o 1 (.k 2) 0 (j+1)],.dead,.sc (bv (g++[m8 true p (p^^^row.getD 0 0)]))],⟨_,rfl,[.k 0,.k 1,.d 44 0],?_,⟨_,rfl,?_⟩,⟨_,rfl,rfl⟩,⟨_,rfl,d8 ?_⟩,tq⟩,?_⟩
    ·show V.s (.int .u8 (U8.wrap _))=_;rw[s6]
    ·show B.mx [d7 ct cq cx,i64 mode,bool true,.z c (bv ch),.z (r-1) (sub (bv row) 1 (r-1)),.o 1 (.k 2) 0 (j+1)]=_;rw[q7 hrl (by omega)]
    ·exact jX hgl rfl
    ·refine⟨.ret (.refl _),.cons (.mx (.cons (.refl _) (.cons (.refl _) (.cons (.refl _) (.cons ?_ (.cons ?_ (.cons ?_ .nil))))))) (.cons (.refl _) (.cons (.refl _) .nil))⟩
     ·show Wk _ (.z ch.length _);rw[hcl];exact .refl _
     ·show Wk _ (.z (row.drop 1).length _);rw[lr];exact .refl _
     ·show Wk _ (ca (row.drop 1) (g++[m8 true p (p^^^row.getD 0 0)]) 2);rw[dW (row:=row.drop 1) (by omega),Zb,hgl];exact .refl _
theorem FA {t key s k xs rs} (h:g9 t key s k xs rs) {mode:Int} {back:Bool} {H7 g0:Bs} {i0:Nat} {p:UInt8} (hl:H7.length=s):
  a7 C 121 [.p (.k 0) 0,E6 p] [f8 (d7 t k xs) mode back ⟨H7,[],g0⟩ i0,.dead] (.ret (E6 (y3 (cF t key false) mode back ⟨H7,[],g0⟩ p).1)) [f8 (d7 t k xs) mode back (y3 (cF t key false) mode back ⟨H7,[],g0⟩ p).2 2,.dead,i6 (y3 (cF t key false) mode back ⟨H7,[],g0⟩ p).2.row (y3 (cF t key false) mode back ⟨H7,[],g0⟩ p).2.gone]:=by
 have hs:=h.s_le;have hrl:=h.len (back:=false) hl;have HB:=Fr h (mode:=mode) (back:=back) (rv:= .z 0 []) (gv:= .u) rfl hl;have eo:y3 (cF t key false) mode back ⟨H7,[],g0⟩ p=Q7 mode back ⟨(bt (cF t key false) mode ⟨H7,[],[]⟩).ch,cF t key false H7,[]⟩ p:=rfl;have hcl:(bt (cF t key false) mode ⟨H7,[],[]⟩).ch.length=s:=by
  show(if mode=5 then cF t key false H7 else if mode=6 then fA H7 else H7).length=s;split
  ·exact hrl
  ·split
   ·rw[tc,hl]
   ·exact hl
 have hX:f8 (d7 t k xs) mode back ⟨H7,[],g0⟩ i0= .mx [d7 t k xs,i64 mode,bool back,.z s (bv H7),.z 0 [],.u]:=by
  unfold f8;rw[<-hl];rfl
 rw[hX,eo];generalize (bt (cF t key false) mode ⟨H7,[],[]⟩).ch=ch at*
 generalize cF t key false H7=row at*
 clear hX eo;have hc0:2<=ch.length:=by omega
 have hr:row.length<=1000:=by omega
 refine yy.w ?_;refine⟨_,rfl,?_⟩;refine⟨[.k 0],_,_,_,_,HB,rfl,rfl,?_⟩;refine⟨_,rfl,?_⟩;refine⟨by omega,by omega,_,y7 (k:=row) (i:=0) (by omega),?_⟩;refine⟨_,rfl,?_⟩;refine⟨by omega,by omega,by omega,by omega,?_⟩;refine⟨Za rfl,?_⟩;refine⟨_,rfl,?_⟩;cases back
 ·refine⟨_,rfl,?_⟩;refine⟨Zn _,by omega,?_⟩;refine⟨Za rfl,?_⟩;refine⟨_,rfl,?_⟩;refine i9 (fun h3=> ?_) (fun h3=> ?_)
  ·subst h3;rw[pi];have ld:(ch.drop 1).length=s-1:=by rw[Zd,hcl]
   have lc:(ch.drop 1++[m8 false p (p^^^row.getD 0 0)]).length=s:=by rw[Zb,ld];show s-1+1=s;omega
   refine⟨_,rfl,?_⟩;refine⟨by omega,by omega,by omega,by omega,?_⟩;refine⟨[],_,_,_,_,cJ (n:=s-1) (va:=sub (bv ch) 1 (s-1)) (l:=ch.drop 1) (q7 hcl (by omega)) ld (by omega) (by omega),rfl,rfl,?_⟩;refine⟨Zn _,by omega,by rw[f9,ld];omega,?_⟩;refine⟨Za rfl,?_⟩;refine⟨Za rfl,?_⟩;refine⟨.ret (E6 (p^^^row.getD 0 0)),[.mx [d7 t k xs,i64 3,bool false,.z s (bv (ch.drop 1++[m8 false p (p^^^row.getD 0 0)])),g8,.z (0+1) (bv ([]++[m8 false p (p^^^row.getD 0 0)]))],.dead],⟨_,rfl,[.k 0,.k 1],?_,⟨_,rfl,?_⟩,?_⟩,?_⟩
   ·show V.s (.int .u8 (U8.wrap _))=_;rw[s6]
   ·show B.mx [d7 t k xs,i64 3,bool false,.z (s-1+1) (sub (sub (bv (ch.drop 1)) 0 ((s-1)*1)++sub [Value.int .u8 _] 0 (1*1)) 0 (s-1+1)),g8,.z (0+1) (sub (sub ([]:List Value) 0 (0*1)++sub [Value.int .u8 _] 0 (1*1)) 0 (0+1))]=_;rw[bB ld (s6 _ _),fQ (s6 _ _),show s-1+1=s by omega];rfl
   ·exact⟨⟨_,rfl,rfl⟩,tq⟩
   ·refine⟨.ret (.refl _),.cons (.mx (.cons (.refl _) (.cons (.refl _) (.cons (.refl _) (.cons ?_ (.cons .nl (.cons .u .nil))))))) (.cons (.refl _) (.dd .nil))⟩;show Wk _ (.z (ch.drop 1++[m8 false p (p^^^row.getD 0 0)]).length _);rw[lc];exact .refl _
  refine i9 (fun h4=> ?_) (fun h4=> ?_)
  ·subst h4;refine⟨_,rfl,?_⟩;refine i9 (fun hr1=> ?_) (fun hr1=> ?_)
   ·have hr1:s=1:=by have:=(rfl:Int.toNat 1=1);omega
    have lG:([]++[m8 false p (p^^^row.getD 0 0)]).length=0+1:=by rw[Zb];rfl
    rw[pj (by omega)];refine⟨_,rfl,?_⟩;refine⟨Za rfl,?_⟩;refine⟨.ret (E6 (p^^^row.getD 0 0)),[.mx [d7 t k xs,i64 4,bool false,.z (0+1) (bv ([]++[m8 false p (p^^^row.getD 0 0)])),.z (s-1) (bv (row.drop 1)),.z (0+1) (bv ([]++[m8 false p (p^^^row.getD 0 0)]))],.dead],⟨_,rfl,[.k 0,.k 1],?_,⟨_,rfl,?_⟩,?_⟩,?_⟩
    ·show V.s (.int .u8 (U8.wrap _))=_;rw[s6]
    ·show B.mx [d7 t k xs,i64 4,bool false,.z (0+1) (sub (sub ([]:List Value) 0 (0*1)++sub [Value.int .u8 _] 0 (1*1)) 0 (0+1)),.z (s-1) (sub (bv row) 1 (s-1)),.z (0+1) (sub (sub ([]:List Value) 0 (0*1)++sub [Value.int .u8 _] 0 (1*1)) 0 (0+1))]=_;rw[fQ (s6 _ _),q7 hrl (by omega)];rfl
    ·exact⟨⟨_,rfl,rfl⟩,tq⟩
    ·refine⟨.ret (.refl _),.cons (.mx (.cons (.refl _) (.cons (.refl _) (.cons (.refl _) (.cons ?_ (.cons ?_ (.cons .u .nil))))))) (.cons (.refl _) (.dd .nil))⟩
     ·show Wk _ (.z ([]++[m8 false p (p^^^row.getD 0 0)]).length _);rw[lG];exact .refl _
     ·rw[show s-1=0 by omega];exact .z0
   ·have hr2:s≠1:=by have:=(rfl:Int.toNat 1=1);omega
    have lr:(row.drop 1).length=s-1:=by rw[Zd,hrl]
    rw[fK (by decide) (fun e=>hr2 (by omega))];by_cases hr1:s=1
    ·have e0:row.drop 1=[]:=Zj.1 (by omega);rw[e0];refine⟨.ret (E6 (p^^^row.getD 0 0)),[.mx [d7 t k xs,i64 4,bool false,.z s (bv ch),.z (s-1) (bv (row.drop 1)),.z (0+1) (bv ([]++[m8 false p (p^^^row.getD 0 0)]))],.dead],⟨_,rfl,[.k 0,.k 1],?_,⟨_,rfl,?_⟩,?_⟩,?_⟩
     ·show V.s (.int .u8 (U8.wrap _))=_;rw[s6]
     ·show B.mx [d7 t k xs,i64 4,bool false,.z s (bv ch),.z (s-1) (sub (bv row) 1 (s-1)),.z (0+1) (sub (sub ([]:List Value) 0 (0*1)++sub [Value.int .u8 _] 0 (1*1)) 0 (0+1))]=_;rw[fQ (s6 _ _),q7 hrl (by omega)];rfl
     ·exact⟨⟨_,rfl,rfl⟩,tq⟩
     ·refine⟨.ret (.refl _),.cons (.mx (.cons (.refl _) (.cons (.refl _) (.cons (.refl _) (.cons ?_ (.cons ?_ (.cons .u .nil))))))) (.cons (.refl _) (.dd .nil))⟩
      ·show Wk _ (.z ch.length _);rw[hcl];exact .refl _
      ·rw[show s-1=0 by omega];exact .z0
    ·rw[dV (row:=row.drop 1) (by omega)];refine⟨.ret (E6 (p^^^row.getD 0 0)),[.mx [d7 t k xs,i64 4,bool false,.z s (bv ch),.z (s-1) (bv (row.drop 1)),.o 1 (.k 2) 0 (0+1)],.dead,.sc (bv ([]++[m8 false p (p^^^row.getD 0 0)]))],⟨_,rfl,[.k 0,.k 1,.d 44 0],?_,⟨_,rfl,?_⟩,⟨_,rfl,rfl⟩,⟨_,rfl,d8 ?_⟩,tq⟩,?_⟩
     ·show V.s (.int .u8 (U8.wrap _))=_;rw[s6]
     ·show B.mx [d7 t k xs,i64 4,bool false,.z s (bv ch),.z (s-1) (sub (bv row) 1 (s-1)),.o 1 (.k 2) 0 (0+1)]=_;rw[q7 hrl (by omega)]
     ·exact mw (s6 _ _)
     ·refine⟨.ret (.refl _),.cons (.mx (.cons (.refl _) (.cons (.refl _) (.cons (.refl _) (.cons ?_ (.cons ?_ (.cons ?_ .nil))))))) (.cons (.refl _) (.cons (.refl _) .nil))⟩
      ·show Wk _ (.z ch.length _);rw[hcl];exact .refl _
      ·show Wk _ (.z (row.drop 1).length _);rw[lr];exact .refl _
      ·show Wk _ (ca (row.drop 1) ([]++[m8 false p (p^^^row.getD 0 0)]) 2);rw[dW (row:=row.drop 1) (by omega),Zb];exact .refl _
  ·have lr:(row.drop 1).length=s-1:=by rw[Zd,hrl]
   rw[fK h3 (fun e=>h4 e.1)];by_cases hr1:s=1
   ·have e0:row.drop 1=[]:=Zj.1 (by omega);rw[e0];refine⟨.ret (E6 (p^^^row.getD 0 0)),[.mx [d7 t k xs,i64 mode,bool false,.z s (bv ch),.z (s-1) (bv (row.drop 1)),.z (0+1) (bv ([]++[m8 false p (p^^^row.getD 0 0)]))],.dead],⟨_,rfl,[.k 0,.k 1],?_,⟨_,rfl,?_⟩,?_⟩,?_⟩
    ·show V.s (.int .u8 (U8.wrap _))=_;rw[s6]
    ·show B.mx [d7 t k xs,i64 mode,bool false,.z s (bv ch),.z (s-1) (sub (bv row) 1 (s-1)),.z (0+1) (sub (sub ([]:List Value) 0 (0*1)++sub [Value.int .u8 _] 0 (1*1)) 0 (0+1))]=_;rw[fQ (s6 _ _),q7 hrl (by omega)];rfl
    ·exact⟨⟨_,rfl,rfl⟩,tq⟩
    ·refine⟨.ret (.refl _),.cons (.mx (.cons (.refl _) (.cons (.refl _) (.cons (.refl _) (.cons ?_ (.cons ?_ (.cons .u .nil))))))) (.cons (.refl _) (.dd .nil))⟩
     ·show Wk _ (.z ch.length _);rw[hcl];exact .refl _
     ·rw[show s-1=0 by omega];exact .z0
   ·rw[dV (row:=row.drop 1) (by omega)];refine⟨.ret (E6 (p^^^row.getD 0 0)),[.mx [d7 t k xs,i64 mode,bool false,.z s (bv ch),.z (s-1) (bv (row.drop 1)),.o 1 (.k 2) 0 (0+1)],.dead,.sc (bv ([]++[m8 false p (p^^^row.getD 0 0)]))],⟨_,rfl,[.k 0,.k 1,.d 44 0],?_,⟨_,rfl,?_⟩,⟨_,rfl,rfl⟩,⟨_,rfl,d8 ?_⟩,tq⟩,?_⟩
    ·show V.s (.int .u8 (U8.wrap _))=_;rw[s6]
    ·show B.mx [d7 t k xs,i64 mode,bool false,.z s (bv ch),.z (s-1) (sub (bv row) 1 (s-1)),.o 1 (.k 2) 0 (0+1)]=_;rw[q7 hrl (by omega)]
    ·exact mw (s6 _ _)
    ·refine⟨.ret (.refl _),.cons (.mx (.cons (.refl _) (.cons (.refl _) (.cons (.refl _) (.cons ?_ (.cons ?_ (.cons ?_ .nil))))))) (.cons (.refl _) (.cons (.refl _) .nil))⟩
     ·show Wk _ (.z ch.length _);rw[hcl];exact .refl _
     ·show Wk _ (.z (row.drop 1).length _);rw[lr];exact .refl _
     ·show Wk _ (ca (row.drop 1) ([]++[m8 false p (p^^^row.getD 0 0)]) 2);rw[dW (row:=row.drop 1) (by omega),Zb];exact .refl _
 ·refine⟨_,rfl,?_⟩;refine⟨Zn _,by omega,?_⟩;refine⟨Za rfl,?_⟩;refine⟨_,rfl,?_⟩;refine i9 (fun h3=> ?_) (fun h3=> ?_)
  ·subst h3;rw[pi];have ld:(ch.drop 1).length=s-1:=by rw[Zd,hcl]
   have lc:(ch.drop 1++[m8 true p (p^^^row.getD 0 0)]).length=s:=by rw[Zb,ld];show s-1+1=s;omega
   refine⟨_,rfl,?_⟩;refine⟨by omega,by omega,by omega,by omega,?_⟩;refine⟨[],_,_,_,_,cJ (n:=s-1) (va:=sub (bv ch) 1 (s-1)) (l:=ch.drop 1) (q7 hcl (by omega)) ld (by omega) (by omega),rfl,rfl,?_⟩;refine⟨Zn _,by omega,by rw[f9,ld];omega,?_⟩;refine⟨Za rfl,?_⟩;refine⟨Za rfl,?_⟩;refine⟨.ret (E6 (p^^^row.getD 0 0)),[.mx [d7 t k xs,i64 3,bool true,.z s (bv (ch.drop 1++[m8 true p (p^^^row.getD 0 0)])),g8,.z (0+1) (bv ([]++[m8 true p (p^^^row.getD 0 0)]))],.dead],⟨_,rfl,[.k 0,.k 1],?_,⟨_,rfl,?_⟩,?_⟩,?_⟩
   ·show V.s (.int .u8 (U8.wrap _))=_;rw[s6]
   ·show B.mx [d7 t k xs,i64 3,bool true,.z (s-1+1) (sub (sub (bv (ch.drop 1)) 0 ((s-1)*1)++sub [Value.int .u8 _] 0 (1*1)) 0 (s-1+1)),g8,.z (0+1) (sub (sub ([]:List Value) 0 (0*1)++sub [Value.int .u8 _] 0 (1*1)) 0 (0+1))]=_;rw[bB ld rfl,fQ rfl,show s-1+1=s by omega];rfl
   ·exact⟨⟨_,rfl,rfl⟩,tq⟩
   ·refine⟨.ret (.refl _),.cons (.mx (.cons (.refl _) (.cons (.refl _) (.cons (.refl _) (.cons ?_ (.cons .nl (.cons .u .nil))))))) (.cons (.refl _) (.dd .nil))⟩;show Wk _ (.z (ch.drop 1++[m8 true p (p^^^row.getD 0 0)]).length _);rw[lc];exact .refl _
  refine i9 (fun h4=> ?_) (fun h4=> ?_)
  ·subst h4;refine⟨_,rfl,?_⟩;refine i9 (fun hr1=> ?_) (fun hr1=> ?_)
   ·have hr1:s=1:=by have:=(rfl:Int.toNat 1=1);omega
    have lG:([]++[m8 true p (p^^^row.getD 0 0)]).length=0+1:=by rw[Zb];rfl
    rw[pj (by omega)];refine⟨_,rfl,?_⟩;refine⟨Za rfl,?_⟩;refine⟨.ret (E6 (p^^^row.getD 0 0)),[.mx [d7 t k xs,i64 4,bool true,.z (0+1) (bv ([]++[m8 true p (p^^^row.getD 0 0)])),.z (s-1) (bv (row.drop 1)),.z (0+1) (bv ([]++[m8 true p (p^^^row.getD 0 0)]))],.dead],⟨_,rfl,[.k 0,.k 1],?_,⟨_,rfl,?_⟩,?_⟩,?_⟩
    ·show V.s (.int .u8 (U8.wrap _))=_;rw[s6]
    ·show B.mx [d7 t k xs,i64 4,bool true,.z (0+1) (sub (sub ([]:List Value) 0 (0*1)++sub [Value.int .u8 _] 0 (1*1)) 0 (0+1)),.z (s-1) (sub (bv row) 1 (s-1)),.z (0+1) (sub (sub ([]:List Value) 0 (0*1)++sub [Value.int .u8 _] 0 (1*1)) 0 (0+1))]=_;rw[fQ rfl,q7 hrl (by omega)];rfl
    ·exact⟨⟨_,rfl,rfl⟩,tq⟩
    ·refine⟨.ret (.refl _),.cons (.mx (.cons (.refl _) (.cons (.refl _) (.cons (.refl _) (.cons ?_ (.cons ?_ (.cons .u .nil))))))) (.cons (.refl _) (.dd .nil))⟩
     ·show Wk _ (.z ([]++[m8 true p (p^^^row.getD 0 0)]).length _);rw[lG];exact .refl _
     ·rw[show s-1=0 by omega];exact .z0
   ·have hr2:s≠1:=by have:=(rfl:Int.toNat 1=1);omega
    have lr:(row.drop 1).length=s-1:=by rw[Zd,hrl]
    rw[fK (by decide) (fun e=>hr2 (by omega))];by_cases hr1:s=1
    ·have e0:row.drop 1=[]:=Zj.1 (by omega);rw[e0];refine⟨.ret (E6 (p^^^row.getD 0 0)),[.mx [d7 t k xs,i64 4,bool true,.z s (bv ch),.z (s-1) (bv (row.drop 1)),.z (0+1) (bv ([]++[m8 true p (p^^^row.getD 0 0)]))],.dead],⟨_,rfl,[.k 0,.k 1],?_,⟨_,rfl,?_⟩,?_⟩,?_⟩
     ·show V.s (.int .u8 (U8.wrap _))=_;rw[s6]
     ·show B.mx [d7 t k xs,i64 4,bool true,.z s (bv ch),.z (s-1) (sub (bv row) 1 (s-1)),.z (0+1) (sub (sub ([]:List Value) 0 (0*1)++sub [Value.int .u8 _] 0 (1*1)) 0 (0+1))]=_;rw[fQ rfl,q7 hrl (by omega)];rfl
     ·exact⟨⟨_,rfl,rfl⟩,tq⟩
     ·refine⟨.ret (.refl _),.cons (.mx (.cons (.refl _) (.cons (.refl _) (.cons (.refl _) (.cons ?_ (.cons ?_ (.cons .u .nil))))))) (.cons (.refl _) (.dd .nil))⟩
      ·show Wk _ (.z ch.length _);rw[hcl];exact .refl _
      ·rw[show s-1=0 by omega];exact .z0
    ·rw[dV (row:=row.drop 1) (by omega)];refine⟨.ret (E6 (p^^^row.getD 0 0)),[.mx [d7 t k xs,i64 4,bool true,.z s (bv ch),.z (s-1) (bv (row.drop 1)),.o 1 (.k 2) 0 (0+1)],.dead,.sc (bv ([]++[m8 true p (p^^^row.getD 0 0)]))],⟨_,rfl,[.k 0,.k 1,.d 44 0],?_,⟨_,rfl,?_⟩,⟨_,rfl,rfl⟩,⟨_,rfl,d8 ?_⟩,tq⟩,?_⟩
     ·show V.s (.int .u8 (U8.wrap _))=_;rw[s6]
     ·show B.mx [d7 t k xs,i64 4,bool true,.z s (bv ch),.z (s-1) (sub (bv row) 1 (s-1)),.o 1 (.k 2) 0 (0+1)]=_;rw[q7 hrl (by omega)]
     ·exact mw rfl
     ·refine⟨.ret (.refl _),.cons (.mx (.cons (.refl _) (.cons (.refl _) (.cons (.refl _) (.cons ?_ (.cons ?_ (.cons ?_ .nil))))))) (.cons (.refl _) (.cons (.refl _) .nil))⟩
      ·show Wk _ (.z ch.length _);rw[hcl];exact .refl _
      ·show Wk _ (.z (row.drop 1).length _);rw[lr];exact .refl _
      ·show Wk _ (ca (row.drop 1) ([]++[m8 true p (p^^^row.getD 0 0)]) 2);rw[dW (row:=row.drop 1) (by omega),Zb];exact .refl _
  ·have lr:(row.drop 1).length=s-1:=by rw[Zd,hrl]
   rw[fK h3 (fun e=>h4 e.1)];by_cases hr1:s=1
   ·have e0:row.drop 1=[]:=Zj.1 (by omega);rw[e0];refine⟨.ret (E6 (p^^^row.getD 0 0)),[.mx [d7 t k xs,i64 mode,bool true,.z s (bv ch),.z (s-1) (bv (row.drop 1)),.z (0+1) (bv ([]++[m8 true p (p^^^row.getD 0 0)]))],.dead],⟨_,rfl,[.k 0,.k 1],?_,⟨_,rfl,?_⟩,?_⟩,?_⟩
    ·show V.s (.int .u8 (U8.wrap _))=_;rw[s6]
    ·show B.mx [d7 t k xs,i64 mode,bool true,.z s (bv ch),.z (s-1) (sub (bv row) 1 (s-1)),.z (0+1) (sub (sub ([]:List Value) 0 (0*1)++sub [Value.int .u8 _] 0 (1*1)) 0 (0+1))]=_;rw[fQ rfl,q7 hrl (by omega)];rfl
    ·exact⟨⟨_,rfl,rfl⟩,tq⟩
    ·refine⟨.ret (.refl _),.cons (.mx (.cons (.refl _) (.cons (.refl _) (.cons (.refl _) (.cons ?_ (.cons ?_ (.cons .u .nil))))))) (.cons (.refl _) (.dd .nil))⟩
     ·show Wk _ (.z ch.length _);rw[hcl];exact .refl _
     ·rw[show s-1=0 by omega];exact .z0
   ·rw[dV (row:=row.drop 1) (by omega)];refine⟨.ret (E6 (p^^^row.getD 0 0)),[.mx [d7 t k xs,i64 mode,bool true,.z s (bv ch),.z (s-1) (bv (row.drop 1)),.o 1 (.k 2) 0 (0+1)],.dead,.sc (bv ([]++[m8 true p (p^^^row.getD 0 0)]))],⟨_,rfl,[.k 0,.k 1,.d 44 0],?_,⟨_,rfl,?_⟩,⟨_,rfl,rfl⟩,⟨_,rfl,d8 ?_⟩,tq⟩,?_⟩
    ·show V.s (.int .u8 (U8.wrap _))=_;rw[s6]
    ·show B.mx [d7 t k xs,i64 mode,bool true,.z s (bv ch),.z (s-1) (sub (bv row) 1 (s-1)),.o 1 (.k 2) 0 (0+1)]=_;rw[q7 hrl (by omega)]
    ·exact mw rfl
    ·refine⟨.ret (.refl _),.cons (.mx (.cons (.refl _) (.cons (.refl _) (.cons (.refl _) (.cons ?_ (.cons ?_ (.cons ?_ .nil))))))) (.cons (.refl _) (.cons (.refl _) .nil))⟩
     ·show Wk _ (.z ch.length _);rw[hcl];exact .refl _
     ·show Wk _ (.z (row.drop 1).length _);rw[lr];exact .refl _
     ·show Wk _ (ca (row.drop 1) ([]++[m8 true p (p^^^row.getD 0 0)]) 2);rw[dW (row:=row.drop 1) (by omega),Zb];exact .refl _
def gE (n:Nat) (s:MS):Prop:=s.row.length=0\/s.gone.length+s.row.length=n
theorem Ag {E D:Bs->Bs} {n:Nat} {mode:Int} {back:Bool} {s:MS} (h:CI E D n) (hn:0<n) (hm:3<=mode) (ok:S9 n mode s) (g:gE n s) (p:UInt8):gE n (y3 E mode back s p).2:=by
 obtain⟨t,ht,h1,h2⟩:∃t,t=(if s.row.length=0 then bt E mode s else s)/\0<t.row.length/\t.gone.length+t.row.length=n:=by
  refine⟨_,rfl,?_⟩;split
  ·obtain⟨b1,b2,b3⟩:=zX h hm ok;exact⟨by omega,by rw[b3,b2];simp⟩
  ·rename_i hr;exact⟨by omega,g.resolve_left hr⟩
 have e:(y3 E mode back s p).2=(Q7 mode back t p).2:=by rw[ht];rfl
 rw[e];unfold Q7;dsimp only
 split
 ·exact .inl rfl
 ·split
  ·split
   ·exact .inl rfl
   ·exact .inr (by show(t.gone++[_]).length+(t.row.drop 1).length=n;rw[Zb,Jh,Zd];omega)
  ·exact .inr (by show(t.gone++[_]).length+(t.row.drop 1).length=n;rw[Zb,Jh,Zd];omega)
theorem Ad {E D:Bs->Bs} {n:Nat} {mode:Int} {back:Bool} (h:CI E D n) (hn:0<n) (hm:3<=mode):∀(l:Bs) {s:MS},S9 n mode s->gE n s->gE n (B8 E mode back s l).2
 |[],_,_,g=>g
 |p::l,_,ok,g=>Ad h hn hm l (tI h hn hm ok p) (Ag h hn hm ok g p)
theorem Sa {E D:Bs->Bs} {n:Nat} {mode:Int} {back:Bool} {s:MS} {b:Bs} (h:CI E D n) (hn:0<n) (ok:S9 n mode s) (g:gE n s):gE n (f7 E D n mode back s b).2:=by
 unfold f7;by_cases hm:mode=1\/mode=2
 ·simp only[if_pos hm];exact g
 ·simp only[if_neg hm];exact Ad h hn (by have:=ok.m;omega) b ok g
structure MK (n:Nat) (mode:Int) (s:MS):Prop where
 ok:S9 n mode s
 g:gE n s
theorem MK.glen {n mode s} (h:MK n mode s) (hr:s.row.length≠0):s.gone.length<=n:=by
 have:=h.g.resolve_left hr;omega
theorem MK.step {E D:Bs->Bs} {n:Nat} {mode:Int} {back:Bool} {s:MS} {b:Bs} (k:MK n mode s) (h:CI E D n) (hn:0<n):MK n mode (f7 E D n mode back s b).2:=⟨tM h hn k.ok,Sa h hn k.ok k.g⟩
theorem MK.one {E D:Bs->Bs} {n:Nat} {mode:Int} {back:Bool} {s:MS} (k:MK n mode s) (h:CI E D n) (hn:0<n) (hm:3<=mode) (p:UInt8):MK n mode (y3 E mode back s p).2:=⟨tI h hn hm k.ok p,Ag h hn hm k.ok k.g p⟩
theorem MK.new {n:Nat} {mode:Int} {iv:Bs} (hm:1<=mode/\mode<=6) (hc:mode=1\/iv.length=n):MK n mode ⟨iv,[],[]⟩:=⟨⟨hm,hc,Zr _,fun _=>rfl,fun _=> .inl rfl⟩,.inl rfl⟩
structure vo (n:Nat) (mode:Int) (x:MS×Bs×Nat):Prop where
 le:x.2.2<=x.2.1.length
 row:x.1.row=x.2.1.drop x.2.2
 len:x.2.1.length<=n
 made:x.1.row.length≠0->x.1.gone.length=x.2.2
 three:mode=3->x.1.row=[]
 blk:mode=1\/mode=2->x.2=([],0)
theorem vo.new {n:Nat} {mode:Int} {iv:Bs}:vo n mode (⟨iv,[],[]⟩,[],0):=⟨Zn _,rfl,Zr _,fun h=>absurd rfl h,fun _=>rfl,fun _=>rfl⟩
theorem Fz {t key s k xs rs} (h:g9 t key s k xs rs) {mode:Int} {back:Bool} {c:Nat} {p ch:Bs} {vp vch:List Value} (hvp:vp=bv p) (hvc:vch=bv ch) (hp:p.length=s) (hc:ch.length=c) (hm:mode=1\/mode=2/\c=s):
  a7 C 122 [.p (.k 0) 0,.z s vp] [.mx [d7 t k xs,i64 mode,bool back,.z c vch,.z 0 [],.u]] (.ret (.z s (bv (D9 (cF t key false) (cF t key true) mode back ch p).1))) [.mx [d7 t k xs,i64 mode,bool back,.z c (bv (D9 (cF t key false) (cF t key true) mode back ch p).2),.z 0 [],.u]]:=by
 subst hvp;subst hvc;have hs:=h.s_le;have lE:=h.len (back:=false) hp;have lD:=h.len (back:=true) hp;refine MY.c ?_;refine⟨_,rfl,?_⟩;refine i9 (fun h1=> ?_) (fun h1=> ?_)
 ·subst h1;refine⟨_,rfl,?_⟩;cases back
  ·refine⟨_,rfl,?_⟩;refine⟨_,rfl,?_⟩;refine⟨[],_,_,_,_,h.enc hp rfl,rfl,rfl,?_⟩;refine⟨_,rfl,[.k 0],?_,⟨_,rfl,?_⟩,tq⟩
   ·show V.z s (sub (bv (cF t key false p)) 0 s)=_;rw[b9 lE];rfl
   ·rfl
  ·refine⟨_,rfl,?_⟩;refine⟨[],_,_,_,_,h.dec hp rfl,rfl,rfl,?_⟩;refine⟨_,rfl,[.k 0],?_,⟨_,rfl,?_⟩,tq⟩
   ·show V.z s (sub (bv (cF t key true p)) 0 s)=_;rw[b9 lD];rfl
   ·rfl
 ·obtain⟨rfl,rfl⟩:=hm.resolve_left h1;refine⟨_,rfl,?_⟩;refine⟨_,rfl,?_⟩;cases back
  ·have lx:=t9 hp hc;have lX:=h.len (back:=false) lx;refine⟨_,rfl,?_⟩;refine⟨[],_,_,_,_,H6 (a:=p) (b:=ch) rfl rfl hp hc (by omega),rfl,rfl,?_⟩;refine⟨_,rfl,?_⟩;refine⟨[],_,_,_,_,h.enc (b:=f6 p ch) lx (b9 lx),rfl,rfl,?_⟩;refine⟨[],_,_,_,_,cJ (l:=cF t key false (f6 p ch)) (b9 lX) lX (by omega) (by omega),rfl,rfl,?_⟩;refine⟨Za rfl,?_⟩;refine⟨_,rfl,[.k 0],?_,⟨_,rfl,?_⟩,tq⟩
   ·show V.z c (sub (bv (cF t key false (f6 p ch))) 0 c)=_;rw[b9 lX];rfl
   ·show B.mx [d7 t k xs,i64 2,bool false,.z c (sub (bv (cF t key false (f6 p ch))) 0 c),.z 0 [],.u]=_;rw[b9 lX];rfl
  ·have lx:=t9 lD hc;refine⟨_,rfl,?_⟩;refine⟨[],_,_,_,_,h.dec hp rfl,rfl,rfl,?_⟩;refine⟨_,rfl,?_⟩;refine⟨[],_,_,_,_,H6 (a:=cF t key true p) (b:=ch) (b9 lD) rfl lD hc (by omega),rfl,rfl,?_⟩;refine⟨[],_,_,_,_,cJ (l:=p) rfl hp (by omega) (by omega),rfl,rfl,?_⟩;refine⟨Za rfl,?_⟩;refine⟨_,rfl,[.k 0],?_,⟨_,rfl,?_⟩,tq⟩
   ·show V.z c (sub (bv (f6 (cF t key true p) ch)) 0 c)=_;rw[b9 lx];rfl
   ·show B.mx [d7 t k xs,i64 2,bool true,.z c (sub (bv p) 0 c),.z 0 [],.u]=_;rw[b9 hp];rfl
theorem rM {t key s k xs rs} (h:g9 t key s k xs rs) {mode:Int} {back:Bool} {st:MS} (hm:3<=mode):
  a7 C 96 [.p (.k 0) 0] [f8 (d7 t k xs) mode back st 1,i6 st.row st.gone] (.ret (i64 1)) [f8 (d7 t k xs) mode back st 1,i6 st.row st.gone]:=by
 obtain⟨ch,row,g⟩:=st;refine sJ.c ?_;refine⟨_,rfl,?_⟩;refine i9 (fun h1=>absurd h1 (by omega)) (fun _=> ?_);refine i9 (fun h1=>absurd h1 (by omega)) (fun _=> ?_);cases row<;>exact⟨_,rfl,[.k 0,.k 1],rfl,⟨_,rfl,rfl⟩,⟨_,rfl,rfl⟩,tq⟩
theorem wL {t key s k xs rs} (h:g9 t key s k xs rs) {mode:Int} {back:Bool} {c:Nat} {vc:List Value} (hm:mode=1\/mode=2):
  a7 C 96 [.p (.k 0) 0] [.mx [d7 t k xs,i64 mode,bool back,.z c vc,.z 0 [],.u]] (.ret (i64 s)) [.mx [d7 t k xs,i64 mode,bool back,.z c vc,.z 0 [],.u]]:=by
 refine sJ.c ?_;refine⟨_,rfl,?_⟩;refine i9 (fun h1=> ?_) (fun h1=> ?_)
 ·refine⟨_,rfl,?_⟩;refine⟨[],_,_,_,_,h.size,rfl,rfl,?_⟩;exact⟨_,rfl,[.k 0],rfl,⟨_,rfl,rfl⟩,tq⟩
 refine i9 (fun h2=> ?_) (fun h2=>absurd h2 (by omega))
 ·refine⟨_,rfl,?_⟩;refine⟨[],_,_,_,_,h.size,rfl,rfl,?_⟩;exact⟨_,rfl,[.k 0],rfl,⟨_,rfl,rfl⟩,tq⟩
theorem dG {t key s k xs rs} (h:g9 t key s k xs rs) {mode:Int} {back:Bool} {l i:Nat} {vi:List Value} {iv:Bs} (hvi:vi=bv iv) (hl:iv.length=l) (hm:1<=mode/\mode<=6) (hi:l=if mode=1 then 0 else s):
  a7 C 62 [d7 t k xs,i64 mode,bool back,.z l vi] [] (.ret (.t [.p (.k 0) 0,i64 0])) [f8 (d7 t k xs) mode back ⟨iv,[],[]⟩ i,.dead,.dead]:=by
 subst hvi;have hs:=h.s_le;have hX:f8 (d7 t k xs) mode back ⟨iv,[],[]⟩ i= .mx [d7 t k xs,i64 mode,bool back,.z l (bv iv),.z 0 [],.u]:=by
  unfold f8;rw[hl];rfl
 rw[hX];have hm':mode=1\/mode=2\/mode=3\/mode=4\/mode=5\/mode=6:=by omega
 rcases hm' with rfl|rfl|rfl|rfl|rfl|rfl
 ·rw[if_pos rfl]at hi;refine jq.w ?_;refine⟨[],_,_,_,_,h.size,rfl,rfl,?_⟩;refine n7 (fun hh=>absurd hh (by omega)) (fun _=> ?_);refine⟨[],_,_,_,_,av rfl hl (by omega),rfl,rfl,?_⟩;exact⟨.ret (.t [.p (.k 0) 0,i64 0]),[.mx [d7 t k xs,i64 1,bool back,.z l (bv iv),g8,g8]],⟨_,rfl,[.d 32 0],rfl,⟨_,rfl,rfl⟩,tq⟩,.ret (.refl _),.cons (.mx (.cons (.refl _) (.cons (.refl _) (.cons (.refl _) (.cons (.refl _) (.cons .nl (.cons .u .nil))))))) (.dd (.dd .nil))⟩
 ·rw[if_neg (by decide)]at hi;refine jq.w ?_;refine⟨[],_,_,_,_,h.size,rfl,rfl,?_⟩;refine n7 (fun hh=>absurd hh (by omega)) (fun _=> ?_);refine⟨[],_,_,_,_,av rfl hl (by omega),rfl,rfl,?_⟩;exact⟨.ret (.t [.p (.k 0) 0,i64 0]),[.mx [d7 t k xs,i64 2,bool back,.z l (bv iv),g8,g8]],⟨_,rfl,[.d 32 0],rfl,⟨_,rfl,rfl⟩,tq⟩,.ret (.refl _),.cons (.mx (.cons (.refl _) (.cons (.refl _) (.cons (.refl _) (.cons (.refl _) (.cons .nl (.cons .u .nil))))))) (.dd (.dd .nil))⟩
 ·rw[if_neg (by decide)]at hi;refine jq.w ?_;refine⟨[],_,_,_,_,h.size,rfl,rfl,?_⟩;refine n7 (fun hh=>absurd hh (by omega)) (fun _=> ?_);refine⟨[],_,_,_,_,av rfl hl (by omega),rfl,rfl,?_⟩;exact⟨.ret (.t [.p (.k 0) 0,i64 0]),[.mx [d7 t k xs,i64 3,bool back,.z l (bv iv),g8,g8]],⟨_,rfl,[.d 32 0],rfl,⟨_,rfl,rfl⟩,tq⟩,.ret (.refl _),.cons (.mx (.cons (.refl _) (.cons (.refl _) (.cons (.refl _) (.cons (.refl _) (.cons .nl (.cons .u .nil))))))) (.dd (.dd .nil))⟩
 ·rw[if_neg (by decide)]at hi;refine jq.w ?_;refine⟨[],_,_,_,_,h.size,rfl,rfl,?_⟩;refine n7 (fun hh=>absurd hh (by omega)) (fun _=> ?_);refine⟨[],_,_,_,_,av rfl hl (by omega),rfl,rfl,?_⟩;exact⟨.ret (.t [.p (.k 0) 0,i64 0]),[.mx [d7 t k xs,i64 4,bool back,.z l (bv iv),g8,g8]],⟨_,rfl,[.d 32 0],rfl,⟨_,rfl,rfl⟩,tq⟩,.ret (.refl _),.cons (.mx (.cons (.refl _) (.cons (.refl _) (.cons (.refl _) (.cons (.refl _) (.cons .nl (.cons .u .nil))))))) (.dd (.dd .nil))⟩
 ·rw[if_neg (by decide)]at hi;refine jq.w ?_;refine⟨[],_,_,_,_,h.size,rfl,rfl,?_⟩;refine n7 (fun hh=>absurd hh (by omega)) (fun _=> ?_);refine⟨[],_,_,_,_,av rfl hl (by omega),rfl,rfl,?_⟩;exact⟨.ret (.t [.p (.k 0) 0,i64 0]),[.mx [d7 t k xs,i64 5,bool back,.z l (bv iv),g8,g8]],⟨_,rfl,[.d 32 0],rfl,⟨_,rfl,rfl⟩,tq⟩,.ret (.refl _),.cons (.mx (.cons (.refl _) (.cons (.refl _) (.cons (.refl _) (.cons (.refl _) (.cons .nl (.cons .u .nil))))))) (.dd (.dd .nil))⟩
 ·rw[if_neg (by decide)]at hi;refine jq.w ?_;refine⟨[],_,_,_,_,h.size,rfl,rfl,?_⟩;refine n7 (fun hh=>absurd hh (by omega)) (fun _=> ?_);refine⟨[],_,_,_,_,av rfl hl (by omega),rfl,rfl,?_⟩;exact⟨.ret (.t [.p (.k 0) 0,i64 0]),[.mx [d7 t k xs,i64 6,bool back,.z l (bv iv),g8,g8]],⟨_,rfl,[.d 32 0],rfl,⟨_,rfl,rfl⟩,tq⟩,.ret (.refl _),.cons (.mx (.cons (.refl _) (.cons (.refl _) (.cons (.refl _) (.cons (.refl _) (.cons .nl (.cons .u .nil))))))) (.dd (.dd .nil))⟩
theorem wC {t key s k xs rs} (h:g9 t key s k xs rs) {mode:Int} {back:Bool} {st:MS} {p:UInt8} (hm:3<=mode) (K:MK s mode st):
  a7 C 121 [.p (.k 0) 0,E6 p] [f8 (d7 t k xs) mode back st 1,i6 st.row st.gone] (.ret (E6 (y3 (cF t key false) mode back st p).1)) [f8 (d7 t k xs) mode back (y3 (cF t key false) mode back st p).2 2,.dead,i6 (y3 (cF t key false) mode back st p).2.row (y3 (cF t key false) mode back st p).2.gone]:=by
 have hs:=h.s_le;have hc:st.ch.length=s:=K.ok.ch.resolve_left (by omega);have hr:=K.ok.row;have hg:=K.glen;obtain⟨ch,row,g⟩:=st;dsimp only at hc hr hg;by_cases h0:row.length=0
 ·obtain rfl:=Zf h0;exact FA h hc
 ·have e:y3 (cF t key false) mode back ⟨ch,row,g⟩ p=Q7 mode back ⟨ch,row,g⟩ p:=by unfold y3;rw[if_neg h0]
  rw[e];have hg:=hg h0;exact FB (by omega) (by omega) (by omega) (by omega) (by omega)
def Sc (cv:V) (mode:Int) (back:Bool) (m:Nat) (b:Bs):Bool×Nat×MS×Bs->D
 |(false,i,st,o)=>⟨[(0,.p (.k 0) 0),(1,.z m (bv b)),(6,i64 1),(7,.o 1 (.k 2) 0 0)],[f8 cv mode back st 1,i6 st.row st.gone,.sc []]⟩
 |(true,i,st,o)=>⟨[(0,.p (.k 0) 0),(1,.z (m-i) (bv (b.drop i))),(6,i64 1),(7,.o 1 (.k 3) 0 i)],[f8 cv mode back st 2,.dead,i6 st.row st.gone,.sc (bv o)]⟩
theorem BJ {b:Bs} {i:Nat} (h:i<b.length):b.take (i+1)=b.take i++[(b.drop i).getD 0 0]:=by
 rw[List.take_add_one,Z9 h,List.getD_eq_getElem?_getD,List.getElem?_drop,Jd,Z9 h];rfl
theorem IM {t key s k xs rs} (h:g9 t key s k xs rs) {mode:Int} {back:Bool} {st:MS} {m:Nat} {vb:List Value} {b:Bs} (hvb:vb=bv b) (hb:b.length=m) (hbm:m<=1000000) (hm:3<=mode) (K:MK s mode st) (hne:0<m\/st.row=[]):
  a7 C 66 [.p (.k 0) 0,.z m vb] [f8 (d7 t k xs) mode back st 1,i6 st.row st.gone] (.ret (.t [.z m (bv (B8 (cF t key false) mode back st b).1),i64 0])) [f8 (d7 t k xs) mode back (B8 (cF t key false) mode back st b).2 2,.dead,i6 (B8 (cF t key false) mode back st b).2.row (B8 (cF t key false) mode back st b).2.gone]:=by
 subst hvb;have hs:=h.s_le;have hci:=h.ci;have G:=rM h (back:=back) (st:=st) hm;refine oC.w ?_;refine⟨0,Bool×Nat×MS×Bs,Sc (d7 t k xs) mode back m b,fun x=>x.2.1<=m/\(B8 (cF t key false) mode back st (b.take x.2.1))=(x.2.2.2,x.2.2.1)/\MK s mode x.2.2.1/\(x.1=false->x.2.1=0),fun x=>m-x.2.1,?_,fun x hx=> ?_⟩
 ·obtain⟨ch,row,g⟩:=st;cases row;all_goals
   refine⟨[.k 0,.k 1],_,_,_,_,G,rfl,rfl,?_⟩;refine⟨by decide,?_⟩;refine b8 (fun h=>absurd h (by rw[Int.tmod_one];decide)) (fun _=> ?_);refine⟨by decide,by omega,by omega,?_⟩;exact⟨[],(false,0,_,[]),⟨Zr _,rfl,K,fun _=>rfl⟩,[.k 0,.k 1,.d 17 0],⟨rfl,rfl,rfl,rfl,tq⟩,⟨_,rfl,rfl⟩,⟨_,rfl,rfl⟩,⟨_,rfl,rfl⟩,tq⟩
 ·obtain⟨f,i,⟨ch,row,g⟩,o⟩:=x;obtain⟨h1,h2,h3,h4⟩:=hx;dsimp only at h1 h2 h3 h4;cases f
  ·obtain rfl:=h4 rfl;have e:(([]:Bs),st)=(o,⟨ch,row,g⟩):=h2;obtain⟨rfl,rfl⟩:=Prod.mk.inj e;refine i9 (fun h0=> ?_) (fun h0=> ?_)
   ·obtain rfl:m=0:=by omega
    obtain rfl:=Zf hb;obtain rfl:row=[]:=hne.resolve_left (by omega);exact⟨.ret (.t [.z 0 [],i64 0]),[f8 (d7 t k xs) mode back ⟨ch,[],g⟩ 2,.dead],⟨_,rfl,[.k 0,.k 1],rfl,⟨_,rfl,rfl⟩,⟨_,rfl,rfl⟩,tq⟩,.ret (.refl _),.cons (.refl _) (.cons (.refl _) (.dd .nil))⟩
   ·have HB:=wC h (back:=back) (p:=b.getD 0 0) hm K;have hN:=K.one hci (by omega) hm (back:=back) (b.getD 0 0);have hT:B8 (cF t key false) mode back ⟨ch,row,g⟩ (b.take (0+1))=([(y3 (cF t key false) mode back ⟨ch,row,g⟩ (b.getD 0 0)).1],(y3 (cF t key false) mode back ⟨ch,row,g⟩ (b.getD 0 0)).2):=by
     rw[BJ (by omega),tG];rfl
    generalize y3 (cF t key false) mode back ⟨ch,row,g⟩ (b.getD 0 0)=x at*
    obtain⟨o',⟨ch',row',g'⟩⟩:=x;dsimp only at HB hN hT;have hsl:sub (bv b) 1 (m-1)=bv (b.drop 1):=q7 hb (by omega);cases row<;>cases row'<;>(
     refine⟨by omega,by omega,_,y7 (k:=b) (i:=0) (by omega),?_⟩;refine⟨[.k 0,.k 1],_,_,_,_,HB,rfl,rfl,?_⟩;refine⟨Zn _,by omega,by decide,?_⟩;refine⟨by omega,by omega,by omega,by omega,?_⟩;exact⟨rfl,(true,0+1,⟨ch',_,g'⟩,[o']),⟨by show 0+1<=m;omega,hT,hN,fun h=>by cases h⟩,(by show m-(0+1)<m-0;omega),[.k 0,.k 1,.d 38 2,.d 40 0],⟨rfl,congrArg (V.z _) hsl,rfl,rfl,tq⟩,⟨_,rfl,rfl⟩,⟨_,rfl,rfl⟩,⟨_,rfl,rfl⟩,⟨_,rfl,d8 (mw rfl)⟩,tq⟩)
  ·have lo:o.length=i:=by
    have:=tF (cF t key false) mode back (b.take i) st;rw[h2,Zi]at this;dsimp only at this;omega
   refine i9 (fun h0=> ?_) (fun h0=> ?_)
   ·obtain rfl:i=m:=by omega
    rw[Je (by omega)]at h2;rw[h2];rcases row with _|⟨a,r⟩
    ·exact⟨_,[f8 (d7 t k xs) mode back ⟨ch,[],g⟩ 2,.dead,i6 [] g],⟨_,rfl,[.k 0,.k 1,.k 2],congrArg (fun x=>V.t [x,i64 0]) (congrArg (V.z i) (b9 lo)),⟨_,rfl,rfl⟩,⟨_,rfl,rfl⟩,⟨_,rfl,rfl⟩,tq⟩,.ret (.refl _),.cons (.refl _) (.cons (.refl _) (.cons (.refl _) .nil))⟩
    ·exact⟨_,[f8 (d7 t k xs) mode back ⟨ch,a::r,g⟩ 2,.dead,i6 (a::r) g],⟨_,rfl,[.k 0,.k 1,.k 2],congrArg (fun x=>V.t [x,i64 0]) (congrArg (V.z i) (b9 lo)),⟨_,rfl,rfl⟩,⟨_,rfl,rfl⟩,⟨_,rfl,rfl⟩,tq⟩,.ret (.refl _),.cons (.refl _) (.cons (.refl _) (.cons (.refl _) .nil))⟩
   ·have lt:i<m:=by omega
    have ld:(b.drop i).length=m-i:=by rw[Zd,hb]
    have HB:=wC h (back:=back) (p:=(b.drop i).getD 0 0) hm h3;have hN:=h3.one hci (by omega) hm (back:=back) ((b.drop i).getD 0 0);have hT:B8 (cF t key false) mode back st (b.take (i+1))=(o++[(y3 (cF t key false) mode back ⟨ch,row,g⟩ ((b.drop i).getD 0 0)).1],(y3 (cF t key false) mode back ⟨ch,row,g⟩ ((b.drop i).getD 0 0)).2):=by
     rw[BJ (by omega),tG,h2]
    generalize y3 (cF t key false) mode back ⟨ch,row,g⟩ ((b.drop i).getD 0 0)=x at*
    obtain⟨o',⟨ch',row',g'⟩⟩:=x;dsimp only at HB hN hT;have hsl:sub (bv (b.drop i)) 1 (m-i-1)=bv (b.drop (i+1)):=by rw[q7 ld (by omega),List.drop_drop]
    cases row<;>cases row'<;>(
     refine⟨by omega,by omega,_,y7 (k:=b.drop i) (i:=0) (by omega),?_⟩;refine⟨[.k 0,.k 2],_,_,_,_,HB,rfl,rfl,?_⟩;refine⟨Zn _,by omega,by rw[f9,lo];omega,?_⟩;refine⟨by omega,by omega,by omega,by omega,?_⟩;exact⟨rfl,(true,i+1,⟨ch',_,g'⟩,o++[o']),⟨by show i+1<=m;omega,hT,hN,fun h=>by cases h⟩,(by show m-(i+1)<m-i;omega),[.k 0,.k 1,.d 38 2,.d 40 0],⟨rfl,congrArg (V.z _) hsl,rfl,rfl,tq⟩,⟨_,rfl,rfl⟩,⟨_,rfl,rfl⟩,⟨_,rfl,rfl⟩,⟨_,rfl,d8 (jX lo rfl)⟩,tq⟩)
theorem xr {t key s k xs rs} (h:g9 t key s k xs rs) {mode:Int} {back:Bool} {st:MS} {vb:List Value} (hm:3<=mode):
  a7 C 66 [.p (.k 0) 0,.z 0 vb] [f8 (d7 t k xs) mode back st 1,i6 st.row st.gone] (.ret (.t [.z 0 [],i64 0])) [f8 (d7 t k xs) mode back st 1,i6 st.row st.gone]:=by
 have G:=rM h (back:=back) (st:=st) hm;refine oC.c ?_;refine⟨0,Unit,fun _=>⟨[(0,.p (.k 0) 0),(1,.z 0 vb),(6,i64 1),(7,.o 1 (.k 2) 0 0)],[f8 (d7 t k xs) mode back st 1,i6 st.row st.gone,.sc []]⟩,fun _=>True,fun _=>0,?_,fun x hx=> ?_⟩
 ·obtain⟨ch,row,g⟩:=st;cases row;all_goals
   refine⟨[.k 0,.k 1],_,_,_,_,G,rfl,rfl,?_⟩;refine⟨by decide,?_⟩;refine⟨by decide,by omega,by omega,?_⟩;exact⟨[],(),tq,[.k 0,.k 1,.d 17 0],⟨rfl,rfl,rfl,rfl,tq⟩,⟨_,rfl,rfl⟩,⟨_,rfl,rfl⟩,⟨_,rfl,rfl⟩,tq⟩
 ·obtain⟨ch,row,g⟩:=st;cases row;all_goals
   exact⟨_,rfl,[.k 0,.k 1],rfl,⟨_,rfl,rfl⟩,⟨_,rfl,rfl⟩,tq⟩
def Sb (cv:V) (mode:Int) (back:Bool) (m s c:Nat) (b:Bs):Nat×Nat×Bs×Bs->D
 |(i,q,o,c')=>⟨[(0,.p (.k 0) 0),(1,.z (m-q) (bv (b.drop q))),(6,i64 s),(7,.o 1 (.k 2) 0 q)],[.mx [cv,i64 mode,bool back,.z c (bv c'),.z 0 [],.u],.dead,.sc (bv o)]⟩
theorem IL {t key s k xs rs} (h:g9 t key s k xs rs) {mode:Int} {back:Bool} {c m:Nat} {vb:List Value} {ch b:Bs} (hvb:vb=bv b) (hb:b.length=m) (hbm:m<=1000000) (hm:mode=1\/mode=2/\c=s) (hc:ch.length=c) (hg:m%s=0):
  a7 C 66 [.p (.k 0) 0,.z m vb] [.mx [d7 t k xs,i64 mode,bool back,.z c (bv ch),.z 0 [],.u],.dead] (.ret (.t [.z m (bv (t4 (cF t key false) (cF t key true) mode back s b ch (m/s)).1),i64 0])) [.mx [d7 t k xs,i64 mode,bool back,.z c (bv (t4 (cF t key false) (cF t key true) mode back s b ch (m/s)).2),.z 0 [],.u],.dead,.dead]:=by
 subst hvb;have hs:=h.s_le;have hci:=h.ci;have hdm:=Zx m s;have hm12:mode=1\/mode=2:=by omega
 have G:=wL h (back:=back) (c:=c) (vc:=bv ch) hm12;refine oC.w ?_;refine⟨0,Nat×Nat×Bs×Bs,Sb (d7 t k xs) mode back m s c b,fun x=>x.2.1=s*x.1/\x.2.1<=m/\t4 (cF t key false) (cF t key true) mode back s b ch x.1=(x.2.2.1,x.2.2.2)/\x.2.2.1.length=x.2.1/\x.2.2.2.length=c,fun x=>m-x.2.1,?_,fun x hx=> ?_⟩
 ·refine⟨[.k 0],_,_,_,_,G,rfl,rfl,?_⟩;refine⟨by omega,?_⟩;refine b8 (fun h=>absurd h ?_) (fun _=> ?_)
  ·have:((m:Int).tmod (s:Int))=((m%s:Nat):Int):=by rw[Zl (by omega)];rfl
   rw[this,hg];decide
  refine⟨by decide,by omega,by omega,?_⟩;exact⟨[],(0,0,[],ch),⟨by show 0=s*0;omega,Zr _,rfl,rfl,hc⟩,[.k 0,.k 1,.d 17 0],⟨rfl,rfl,rfl,rfl,tq⟩,⟨_,rfl,rfl⟩,⟨_,rfl,rfl⟩,⟨_,rfl,rfl⟩,tq⟩
 ·obtain⟨i,q,o,c'⟩:=x;obtain⟨h1,h2,h3,h4,h5⟩:=hx;dsimp only at h1 h2 h3 h4 h5;have ld:(b.drop q).length=m-q:=by rw[Zd,hb]
  refine i9 (fun h0=> ?_) (fun h0=> ?_)
  ·obtain rfl:q=m:=by omega
   have hi:q/s=i:=by rw[h1,Jb _ (by omega)]
   rw[hi,h3];exact⟨_,[.mx [d7 t k xs,i64 mode,bool back,.z c (bv c'),.z 0 [],.u],.dead],⟨_,rfl,[.k 0,.k 1],congrArg (fun x=>V.t [x,i64 0]) (congrArg (V.z q) (b9 h4)),⟨_,rfl,rfl⟩,⟨_,rfl,rfl⟩,tq⟩,.ret (.refl _),.cons (.refl _) (.cons (.refl _) (.dd .nil))⟩
  ·have hq:q+s<=m:=by
    have e1:m=s*(m/s):=by omega
    have:i<m/s:=by
     refine Z1 (a:=s) ?_;omega
    have:=Zh s this;rw[Zp]at this;omega
   have lp:(sub b q s).length=s:=by rw[j5];omega
   have hvp:sub (bv (b.drop q)) 0 s=bv (sub b q s):=k5 _ _ _;have hn:t4 (cF t key false) (cF t key true) mode back s b ch (i+1)=(o++(D9 (cF t key false) (cF t key true) mode back c' (sub b q s)).1,(D9 (cF t key false) (cF t key true) mode back c' (sub b q s)).2):=by
    rw[io,h3,<-h1]
   have HB:=Fz h (mode:=mode) (back:=back) hvp rfl lp h5 hm;have hl:=ph (back:=back) hci hm12 (c:=c') (p:=sub b q s) (by omega) lp;have hl2:(D9 (cF t key false) (cF t key true) mode back c' (sub b q s)).2.length=c:=by
    rcases hm with rfl|⟨rfl,rfl⟩
    ·rw[<-h5];rfl
    ·exact hl.2.resolve_left (by decide)
   have hl1:=hl.1;generalize D9 (cF t key false) (cF t key true) mode back c' (sub b q s)=x at*
   obtain⟨o',c2⟩:=x;dsimp only at HB hn hl1 hl2;have hsl:sub (bv (b.drop q)) s (m-q-s)=bv (b.drop (q+s)):=by rw[q7 ld (by omega),List.drop_drop]
   refine i9 (fun h=>absurd h (by omega)) (fun _=> ?_);refine⟨by omega,by omega,by omega,by omega,?_⟩;refine⟨[.k 0],_,_,_,_,HB,rfl,rfl,?_⟩;refine⟨by first|omega|(rw [f9];omega),by omega,by rw[f9,h4];omega,?_⟩;refine⟨by omega,by omega,by omega,by omega,?_⟩;refine⟨rfl,(i+1,q+s,o++o',c2),⟨by show q+s=s*(i+1);rw[Zp];omega,hq,hn,by rw[Zb,h4,hl1],hl2⟩,(by show m-(q+s)<m-q;omega),[.k 0,.k 1,.d 24 0],⟨rfl,?_,rfl,rfl,tq⟩,⟨_,rfl,rfl⟩,⟨_,rfl,rfl⟩,⟨_,rfl,d8 ?_⟩,tq⟩
   ·show V.z (m-q-s) (sub (bv (b.drop q)) s (m-q-s))=V.z (m-(q+s)) _;rw[hsl,Nat.sub_sub]
   ·show sub (bv o) 0 (q*1)++bv o'=_;rw[Zs,b9 h4,z5]
theorem zZ (E D back n) (b c:Bs):∀i,(t4 E D 1 back n b c i).2=c
 |0=>rfl
 |i+1=>by
  rw[io];show(D9 E D 1 back (t4 E D 1 back n b c i).2 (sub b (n*i) n)).2=c;unfold D9;rw[if_pos rfl];exact zZ E D back n b c i
theorem RY {E D:Bs->Bs} {n:Nat} {mode:Int} {back:Bool} {b c:Bs} (h:CI E D n) (hm:mode=1\/mode=2/\c.length=n) {i:Nat} (hi:n*i<=b.length):(t4 E D mode back n b c i).2.length=c.length:=by
 rcases hm with rfl|⟨rfl,hc⟩
 ·rw[zZ]
 ·rw[((mq (back:=back) h (.inr rfl) (.inr hc) i hi).2).resolve_left (by decide),hc]
theorem gU {t key s k xs rs} (h:g9 t key s k xs rs) {mode:Int} {back:Bool} {st:MS} {m:Nat} {vb:List Value} {b:Bs} (hvb:vb=bv b) (hb:b.length=m) (hbm:m<=1000000) (K:MK s mode st) (hg:m%k6 s mode=0) (hne:0<m\/st.row=[]):
  a7 C 66 [.p (.k 0) 0,.z m vb] [f8 (d7 t k xs) mode back st 1,i6 st.row st.gone] (.ret (.t [.z m (bv (f7 (cF t key false) (cF t key true) s mode back st b).1),i64 0])) [f8 (d7 t k xs) mode back (f7 (cF t key false) (cF t key true) s mode back st b).2 2,.dead,i6 (f7 (cF t key false) (cF t key true) s mode back st b).2.row (f7 (cF t key false) (cF t key true) s mode back st b).2.gone]:=by
 by_cases hm:mode=1\/mode=2
 ·have hr:=K.ok.blk hm;have hc:=K.ok.ch;obtain⟨ch,row,g⟩:=st;dsimp only at hr hc;subst hr;have e:f7 (cF t key false) (cF t key true) s mode back ⟨ch,[],g⟩ b=((t4 (cF t key false) (cF t key true) mode back s b ch (m/s)).1,⟨(t4 (cF t key false) (cF t key true) mode back s b ch (m/s)).2,[],g⟩):=by
   unfold f7;rw[if_pos hm,hb]
  have hg':m%s=0:=by unfold k6 at hg;rwa [if_pos hm]at hg
  have hdm:=Zx m s;have hl:=RY (back:=back) h.ci (b:=b) (c:=ch) (i:=m/s) (mode:=mode) (by omega) (by omega);have HB:=IL h (back:=back) hvb hb hbm (ch:=ch) (c:=ch.length) (mode:=mode) (by omega) rfl hg';rw[e];show a7 C 66 [.p (.k 0) 0,.z m vb] [.mx [d7 t k xs,i64 mode,bool back,.z ch.length (bv ch),.z 0 [],.u],.dead] _ [.mx [d7 t k xs,i64 mode,bool back,.z (t4 (cF t key false) (cF t key true) mode back s b ch (m/s)).2.length (bv (t4 (cF t key false) (cF t key true) mode back s b ch (m/s)).2),.z 0 [],.u],.dead,.dead];rw[hl];exact HB
 ·have e:f7 (cF t key false) (cF t key true) s mode back st b=B8 (cF t key false) mode back st b:=by
   unfold f7;rw[if_neg hm]
  rw[e];exact IM h hvb hb hbm (by have:=K.ok.m;omega) K hne
theorem sb {t key s k xs rs} (h:g9 t key s k xs rs) {mode:Int} {back:Bool} {st:MS} {m:Nat} {vb:List Value} (K:MK s mode st) (hg:m%k6 s mode≠0):
  a7 C 66 [.p (.k 0) 0,.z m vb] [f8 (d7 t k xs) mode back st 1,i6 st.row st.gone] (.ret (.t [g8,i64 7])) [f8 (d7 t k xs) mode back st 1,i6 st.row st.gone]:=by
 have hs:=h.s_le;have hm:mode=1\/mode=2:=by
  refine Classical.byContradiction fun hm=>hg ?_;unfold k6;rw[if_neg hm,Nat.mod_one]
 have hr:=K.ok.blk hm;obtain⟨ch,row,g⟩:=st;dsimp only at hr;subst hr;have hg':m%s≠0:=by unfold k6 at hg;rwa [if_pos hm]at hg
 have G:=wL h (back:=back) (c:=ch.length) (vc:=bv ch) hm;refine oC.c ?_;refine⟨0,Unit,fun _=>⟨[],[]⟩,fun _=>False,fun _=>0,?_,fun x hx=>hx.elim⟩;refine⟨[.k 0],_,_,_,_,G,rfl,rfl,?_⟩;refine⟨by omega,?_⟩;refine b8 (fun _=> ?_) (fun h=>absurd ?_ h)
 ·exact⟨_,rfl,[.k 0,.k 1],rfl,⟨_,rfl,rfl⟩,⟨_,rfl,rfl⟩,tq⟩
 ·have:((m:Int).tmod (s:Int))=((m%s:Nat):Int):=by rw[Zl (by omega)];rfl
  rw[this];omega
theorem Hi {t key s k xs rs} (h:g9 t key s k xs rs) {mode:Int} {back:Bool} {c:Nat} {p ch:Bs} {vp vch:List Value} (hvp:vp=bv p) (hvc:vch=bv ch) (hp:p.length=s) (hc:ch.length=c) (hm:mode=1\/mode=2/\c=s):
  a7 C 69 [.p (.k 0) 0,.z s vp] [.mx [.q rs 0,i64 mode,bool back,.z c vch,.z 0 [],i64 0,.u]] (.ret (.z s (bv (D9 (cF t key false) (cF t key true) mode back ch p).1))) [.mx [.q rs 0,i64 mode,bool back,.z c (bv (D9 (cF t key false) (cF t key true) mode back ch p).2),.z 0 [],i64 0,.u]]:=by
 subst hvp;subst hvc;have hs:=h.s_le;have lE:=h.len (back:=false) hp;have lD:=h.len (back:=true) hp;refine Np.c ?_;refine⟨_,rfl,?_⟩;refine i9 (fun h1=> ?_) (fun h1=> ?_)
 ·subst h1;refine⟨_,rfl,?_⟩;cases back
  ·refine⟨_,rfl,?_⟩;refine⟨_,rfl,?_⟩;refine⟨[],_,_,_,_,h.E hp rfl,rfl,rfl,?_⟩;refine⟨_,rfl,[.k 0],?_,⟨_,rfl,?_⟩,tq⟩
   ·show V.z s (sub (bv (cF t key false p)) 0 s)=_;rw[b9 lE];rfl
   ·rfl
  ·refine⟨_,rfl,?_⟩;refine⟨[],_,_,_,_,h.Un hp rfl,rfl,rfl,?_⟩;refine⟨_,rfl,[.k 0],?_,⟨_,rfl,?_⟩,tq⟩
   ·show V.z s (sub (bv (cF t key true p)) 0 s)=_;rw[b9 lD];rfl
   ·rfl
 ·obtain⟨rfl,rfl⟩:=hm.resolve_left h1;refine⟨_,rfl,?_⟩;refine⟨_,rfl,?_⟩;cases back
  ·have lx:=t9 hp hc;have lX:=h.len (back:=false) lx;refine⟨_,rfl,?_⟩;refine⟨_,rfl,?_⟩;refine⟨[],_,_,_,_,D5 (a:=p) (b:=ch) rfl rfl hp hc (by omega),rfl,rfl,?_⟩;refine⟨[],_,_,_,_,h.E (b:=f6 p ch) lx (b9 lx),rfl,rfl,?_⟩;refine⟨Za rfl,?_⟩;refine⟨_,rfl,?_⟩;refine⟨_,rfl,[.k 0],?_,⟨_,rfl,?_⟩,tq⟩
   ·show V.z c (sub (bv (cF t key false (f6 p ch))) 0 c)=_;rw[b9 lX];rfl
   ·show B.mx [.q rs 0,i64 2,bool false,.z c (sub (bv (cF t key false (f6 p ch))) 0 c),.z 0 [],i64 0,.u]=_;rw[b9 lX];rfl
  ·have lx:=t9 lD hc;refine⟨_,rfl,?_⟩;refine⟨[],_,_,_,_,h.Un hp rfl,rfl,rfl,?_⟩;refine⟨_,rfl,?_⟩;refine⟨[],_,_,_,_,D5 (a:=cF t key true p) (b:=ch) (b9 lD) rfl lD hc (by omega),rfl,rfl,?_⟩;refine⟨by rw[f9];omega,by omega,by decide,?_⟩;refine⟨Za rfl,?_⟩;refine⟨_,rfl,[.k 0],?_,⟨_,rfl,?_⟩,tq⟩
   ·show V.z c (sub (bv (f6 (cF t key true p) ch)) 0 c)=_;rw[b9 lx];rfl
   ·show B.mx [.q rs 0,i64 2,bool true,.z (0+c) (sub ([]++bv p) 0 (0+c)),.z 0 [],i64 0,.u]=_;rw[Zq,Zk,b9 hp];rfl
def AU (rs:List V) (mode:Int) (back:Bool) (x:MS×Bs×Nat) (i:Nat):B:= .mx [.q rs 0,i64 mode,bool back,.z x.1.ch.length (bv x.1.ch),.z x.2.1.length (bv x.2.1),i64 x.2.2,ca x.1.row x.1.gone i]
theorem Ud {rs:List V} {mode:Int} {back:Bool} {ch row g R:Bs} {u i c r:Nat} (hc:ch.length=c) (hr:R.length=r) (h0:row=[]):AU rs mode back (⟨ch,row,g⟩,R,u) i= .mx [.q rs 0,i64 mode,bool back,.z c (bv ch),.z r (bv R),i64 u,.u]:=by
 subst hc;subst hr;subst h0;rfl
theorem a0z {t key s k xs rs} (h:g9 t key s k xs rs) {mode:Int} {back:Bool} {l i:Nat} {vi:List Value} {iv:Bs} (hvi:vi=bv iv) (hl:iv.length=l) (hm:1<=mode/\mode<=6) (hi:l=if mode=1 then 0 else s):
  a7 C 17 [.q rs 0,i64 mode,bool back,.z l vi] [] (.ret (.t [.p (.k 0) 0,i64 0])) [AU rs mode back (⟨iv,[],[]⟩,[],0) i,.dead,.dead]:=by
 subst hvi;have hs:=h.s_le;rw[Ud hl rfl rfl];have hm':mode=1\/mode=2\/mode=3\/mode=4\/mode=5\/mode=6:=by omega
 rcases hm' with rfl|rfl|rfl|rfl|rfl|rfl
 ·rw[if_pos rfl]at hi;refine jr.w ?_;refine n7 (fun hh=>absurd hh (by omega)) (fun _=> ?_);refine⟨by rw[f9];omega,by omega,by decide,?_⟩;refine⟨.ret (.t [.p (.k 0) 0,i64 0]),[.mx [.q rs 0,i64 1,bool back,.z l (bv iv),g8,i64 0,g8]],⟨_,rfl,[.d 41 0],rfl,⟨_,rfl,?_⟩,tq⟩,.ret (.refl _),.cons (.mx (.cons (.refl _) (.cons (.refl _) (.cons (.refl _) (.cons (.refl _) (.cons .nl (.cons (.refl _) (.cons .u .nil)))))))) (.dd (.dd .nil))⟩;show B.mx [.q rs 0,i64 1,bool back,.z (0+l) (sub ([]++bv iv) 0 (0+l)),g8,i64 0,g8]=_;rw[Zq,Zk,b9 hl]
 ·rw[if_neg (by decide)]at hi;refine jr.w ?_;refine⟨[],_,_,_,_,h.rsize,rfl,rfl,?_⟩;refine n7 (fun hh=>absurd hh (by omega)) (fun _=> ?_);refine⟨by rw[f9];omega,by omega,by decide,?_⟩;refine⟨.ret (.t [.p (.k 0) 0,i64 0]),[.mx [.q rs 0,i64 2,bool back,.z l (bv iv),g8,i64 0,g8]],⟨_,rfl,[.d 41 0],rfl,⟨_,rfl,?_⟩,tq⟩,.ret (.refl _),.cons (.mx (.cons (.refl _) (.cons (.refl _) (.cons (.refl _) (.cons (.refl _) (.cons .nl (.cons (.refl _) (.cons .u .nil)))))))) (.dd (.dd .nil))⟩;show B.mx [.q rs 0,i64 2,bool back,.z (0+l) (sub ([]++bv iv) 0 (0+l)),g8,i64 0,g8]=_;rw[Zq,Zk,b9 hl]
 ·rw[if_neg (by decide)]at hi;refine jr.w ?_;refine⟨[],_,_,_,_,h.rsize,rfl,rfl,?_⟩;refine n7 (fun hh=>absurd hh (by omega)) (fun _=> ?_);refine⟨by rw[f9];omega,by omega,by decide,?_⟩;refine⟨.ret (.t [.p (.k 0) 0,i64 0]),[.mx [.q rs 0,i64 3,bool back,.z l (bv iv),g8,i64 0,g8]],⟨_,rfl,[.d 41 0],rfl,⟨_,rfl,?_⟩,tq⟩,.ret (.refl _),.cons (.mx (.cons (.refl _) (.cons (.refl _) (.cons (.refl _) (.cons (.refl _) (.cons .nl (.cons (.refl _) (.cons .u .nil)))))))) (.dd (.dd .nil))⟩;show B.mx [.q rs 0,i64 3,bool back,.z (0+l) (sub ([]++bv iv) 0 (0+l)),g8,i64 0,g8]=_;rw[Zq,Zk,b9 hl]
 ·rw[if_neg (by decide)]at hi;refine jr.w ?_;refine⟨[],_,_,_,_,h.rsize,rfl,rfl,?_⟩;refine n7 (fun hh=>absurd hh (by omega)) (fun _=> ?_);refine⟨by rw[f9];omega,by omega,by decide,?_⟩;refine⟨.ret (.t [.p (.k 0) 0,i64 0]),[.mx [.q rs 0,i64 4,bool back,.z l (bv iv),g8,i64 0,g8]],⟨_,rfl,[.d 41 0],rfl,⟨_,rfl,?_⟩,tq⟩,.ret (.refl _),.cons (.mx (.cons (.refl _) (.cons (.refl _) (.cons (.refl _) (.cons (.refl _) (.cons .nl (.cons (.refl _) (.cons .u .nil)))))))) (.dd (.dd .nil))⟩;show B.mx [.q rs 0,i64 4,bool back,.z (0+l) (sub ([]++bv iv) 0 (0+l)),g8,i64 0,g8]=_;rw[Zq,Zk,b9 hl]
 ·rw[if_neg (by decide)]at hi;refine jr.w ?_;refine⟨[],_,_,_,_,h.rsize,rfl,rfl,?_⟩;refine n7 (fun hh=>absurd hh (by omega)) (fun _=> ?_);refine⟨by rw[f9];omega,by omega,by decide,?_⟩;refine⟨.ret (.t [.p (.k 0) 0,i64 0]),[.mx [.q rs 0,i64 5,bool back,.z l (bv iv),g8,i64 0,g8]],⟨_,rfl,[.d 41 0],rfl,⟨_,rfl,?_⟩,tq⟩,.ret (.refl _),.cons (.mx (.cons (.refl _) (.cons (.refl _) (.cons (.refl _) (.cons (.refl _) (.cons .nl (.cons (.refl _) (.cons .u .nil)))))))) (.dd (.dd .nil))⟩;show B.mx [.q rs 0,i64 5,bool back,.z (0+l) (sub ([]++bv iv) 0 (0+l)),g8,i64 0,g8]=_;rw[Zq,Zk,b9 hl]
 ·rw[if_neg (by decide)]at hi;refine jr.w ?_;refine⟨[],_,_,_,_,h.rsize,rfl,rfl,?_⟩;refine n7 (fun hh=>absurd hh (by omega)) (fun _=> ?_);refine⟨by rw[f9];omega,by omega,by decide,?_⟩;refine⟨.ret (.t [.p (.k 0) 0,i64 0]),[.mx [.q rs 0,i64 6,bool back,.z l (bv iv),g8,i64 0,g8]],⟨_,rfl,[.d 41 0],rfl,⟨_,rfl,?_⟩,tq⟩,.ret (.refl _),.cons (.mx (.cons (.refl _) (.cons (.refl _) (.cons (.refl _) (.cons (.refl _) (.cons .nl (.cons (.refl _) (.cons .u .nil)))))))) (.dd (.dd .nil))⟩;show B.mx [.q rs 0,i64 6,bool back,.z (0+l) (sub ([]++bv iv) 0 (0+l)),g8,i64 0,g8]=_;rw[Zq,Zk,b9 hl]
theorem Ir {t key s k xs rs} (h:g9 t key s k xs rs) {mode:Int} {back:Bool} {c:Nat} {vc:List Value} (hm:mode=1\/mode=2):
  a7 C 68 [.p (.k 0) 0] [.mx [.q rs 0,i64 mode,bool back,.z c vc,.z 0 [],i64 0,.u]] (.ret (i64 s)) [.mx [.q rs 0,i64 mode,bool back,.z c vc,.z 0 [],i64 0,.u]]:=by
 refine Nn.c ?_;refine⟨_,rfl,?_⟩;refine b8 (fun h1=> ?_) (fun h1=>absurd h1 (by omega));refine⟨_,rfl,?_⟩;refine⟨[],_,_,_,_,h.rsize,rfl,rfl,?_⟩;exact⟨_,rfl,[.k 0],rfl,⟨_,rfl,rfl⟩,tq⟩
def Uk (rs:List V) (mode:Int) (back:Bool) (m s c:Nat) (b:Bs):Nat×Nat×Bs×Bs->D
 |(i,q,o,c')=>⟨[(0,.p (.k 0) 0),(1,.z m (bv b)),(6,i64 s),(7,.o 1 (.k 2) 0 q),(8,i64 q)],[.mx [.q rs 0,i64 mode,bool back,.z c (bv c'),.z 0 [],i64 0,.u],.dead,.sc (bv o)]⟩
theorem a0B {t key s k xs rs} (h:g9 t key s k xs rs) {mode:Int} {back:Bool} {c m:Nat} {vb:List Value} {ch b:Bs} (hvb:vb=bv b) (hb:b.length=m) (hbm:m<=1000000) (hm:mode=1\/mode=2/\c=s) (hc:ch.length=c) (hg:m%s=0):
  a7 C 18 [.p (.k 0) 0,.z m vb] [.mx [.q rs 0,i64 mode,bool back,.z c (bv ch),.z 0 [],i64 0,.u],.dead] (.ret (.t [.z m (bv (t4 (cF t key false) (cF t key true) mode back s b ch (m/s)).1),i64 0])) [.mx [.q rs 0,i64 mode,bool back,.z c (bv (t4 (cF t key false) (cF t key true) mode back s b ch (m/s)).2),.z 0 [],i64 0,.u],.dead,.dead]:=by
 subst hvb;have hs:=h.s_le;have hci:=h.ci;have hdm:=Zx m s;have hm12:mode=1\/mode=2:=by omega
 have G:=Ir h (back:=back) (c:=c) (vc:=bv ch) hm12;refine No.w ?_;refine⟨[.k 0],_,_,_,_,G,rfl,rfl,?_⟩;refine⟨by omega,?_⟩;refine n7 (fun h=>absurd ?_ h) (fun _=> ?_)
 ·have:((m:Int).tmod (s:Int))=((m%s:Nat):Int):=by rw[Zl (by omega)];rfl
  rw[this,hg];rfl
 refine⟨Nat×Nat×Bs×Bs,Uk rs mode back m s c b,fun x=>x.2.1=s*x.1/\x.2.1<=m/\t4 (cF t key false) (cF t key true) mode back s b ch x.1=(x.2.2.1,x.2.2.2)/\x.2.2.1.length=x.2.1/\x.2.2.2.length=c,fun x=>m-x.2.1,?_,fun x hx=> ?_⟩
 ·exact⟨[(7,1,.sc [])],(0,0,[],ch),⟨by show 0=s*0;omega,Zr _,rfl,rfl,hc⟩,[.k 0,.k 1,.d 900000 0],⟨rfl,rfl,rfl,rfl,rfl,tq⟩,⟨_,rfl,rfl⟩,⟨_,rfl,rfl⟩,⟨_,rfl,rfl⟩,tq⟩
 ·obtain⟨i,q,o,c'⟩:=x;obtain⟨h1,h2,h3,h4,h5⟩:=hx;dsimp only at h1 h2 h3 h4 h5;refine b8 (fun h0=> ?_) (fun h0=> ?_)
  ·have hq:q+s<=m:=by
    have e1:m=s*(m/s):=by omega
    have:i<m/s:=by
     refine Z1 (a:=s) ?_;omega
    have:=Zh s this;rw[Zp]at this;omega
   have lp:(sub b q s).length=s:=by rw[j5];omega
   have hn:t4 (cF t key false) (cF t key true) mode back s b ch (i+1)=(o++(D9 (cF t key false) (cF t key true) mode back c' (sub b q s)).1,(D9 (cF t key false) (cF t key true) mode back c' (sub b q s)).2):=by
    rw[io,h3,<-h1]
   have HB:=Hi h (mode:=mode) (back:=back) (vp:=sub (bv b) q s) (k5 _ _ _) rfl lp h5 hm;have hl:=ph (back:=back) hci hm12 (c:=c') (p:=sub b q s) (by omega) lp;have hl2:(D9 (cF t key false) (cF t key true) mode back c' (sub b q s)).2.length=c:=by
    rcases hm with rfl|⟨rfl,rfl⟩
    ·rw[<-h5];rfl
    ·exact hl.2.resolve_left (by decide)
   have hl1:=hl.1;generalize D9 (cF t key false) (cF t key true) mode back c' (sub b q s)=x at*
   obtain⟨o',c2⟩:=x;dsimp only at HB hn hl1 hl2;have e1:I6.wrap ((q:Int)+(s:Int))=((q+s:Nat):Int):=by rw[Ze _ (by omega)];omega
   rcases hm12 with rfl|rfl;all_goals
    refine⟨_,rfl,?_⟩;refine⟨by first|omega|(rw [e1];omega),by first|omega|(rw [e1];omega),by first|omega|(rw [e1];omega),by first|omega|(rw [e1];omega),by first|omega|(rw [e1];omega),?_⟩;refine⟨[.k 0],_,_,_,_,HB,?_,rfl,?_⟩
    ·rw[e1];show[V.p (.k 0) 0,V.z (q+s-q) (sub (bv b) q (q+s-q))]=_;rw[Z3]
    refine⟨by first|omega|(rw [f9];omega),by omega,by rw[f9,h4];omega,?_⟩;refine⟨(i+1,q+s,o++o',c2),⟨by show q+s=s*(i+1);rw[Zp];omega,hq,hn,by rw[Zb,h4,hl1],hl2⟩,(by show m-(q+s)<m-q;omega),[.k 0,.k 1,.d 48 0],⟨rfl,rfl,rfl,rfl,c9 e1,tq⟩,⟨_,rfl,rfl⟩,⟨_,rfl,rfl⟩,⟨_,rfl,d8 ?_⟩,tq⟩;show sub (bv o) 0 (q*1)++bv o'=_;rw[Zs,b9 h4,z5]
  ·obtain rfl:q=m:=by omega
   have hi:q/s=i:=by rw[h1,Jb _ (by omega)]
   rw[hi,h3];exact⟨_,[.mx [.q rs 0,i64 mode,bool back,.z c (bv c'),.z 0 [],i64 0,.u],.dead],⟨_,rfl,[.k 0,.k 1],congrArg (fun x=>V.t [x,i64 0]) (congrArg (V.z q) (b9 h4)),⟨_,rfl,rfl⟩,⟨_,rfl,rfl⟩,tq⟩,.ret (.refl _),.cons (.refl _) (.cons (.refl _) (.dd .nil))⟩
theorem rO {t key s k xs rs} (h:g9 t key s k xs rs) {mode:Int} {back:Bool} {st:MS} (K:MK s mode st):
  a7 C 96 [.p (.k 0) 0] [f8 (d7 t k xs) mode back st 1,i6 st.row st.gone] (.ret (i64 (k6 s mode))) [f8 (d7 t k xs) mode back st 1,i6 st.row st.gone]:=by
 by_cases hm:mode=1\/mode=2
 ·have hr:=K.ok.blk hm;obtain⟨ch,row,g⟩:=st;dsimp only at hr;subst hr;have e:k6 s mode=s:=by unfold k6;rw[if_pos hm]
  rw[e];refine sJ.c ?_;refine⟨_,rfl,?_⟩;rcases hm with rfl|rfl;all_goals
   refine⟨_,rfl,?_⟩;refine⟨[],_,_,_,_,h.size,rfl,rfl,?_⟩;exact⟨_,rfl,[.k 0,.k 1],rfl,⟨_,rfl,rfl⟩,⟨_,rfl,rfl⟩,tq⟩
 ·have e:k6 s mode=1:=by unfold k6;rw[if_neg hm]
  rw[e];exact rM h (by have:=K.ok.m;omega)
def jy (mode:Int) (s:Nat) (b:Bs):Bs:=if mode=1 then []else iX s b
def mg (mode:Int) (s:Nat):Nat:=if mode=1 then 0 else s
theorem Qt (mode s b):(jy mode s b).length=mg mode s:=by
 unfold jy mg;split
 ·rfl
 ·exact nn _ _
theorem GA {mode:Int} {s m:Nat} {vb:List Value} {b:Bs} (hv:vb=bv b) (hb:b.length=m) (hs:s<=1000):a7 C 52 [i64 mode,i64 s,.z m vb] [] (.ret (.z (mg mode s) (bv (jy mode s b)))) []:=by
 unfold jy mg;by_cases h1:mode=1
 ·rw[if_pos h1,if_pos h1];refine yw.w ?_;refine i9 (fun _=> ?_) (fun h=>absurd h1 h);exact⟨.ret g8,[],⟨_,rfl,[],rfl,tq⟩,.ret .nl,.nil⟩
 ·rw[if_neg h1,if_neg h1];refine yw.c ?_;refine i9 (fun h=>absurd h h1) (fun _=> ?_);refine⟨[],_,_,_,_,wD hv hb (by omega),rfl,rfl,?_⟩;exact⟨_,rfl,[],congrArg (V.z s) (b9 (nn _ _)),tq⟩
def zc (p:Bs):V:= .z p.length (bv p)
theorem tL {E D:Bs->Bs} {n:Nat} {mode:Int} {back:Bool} {s:MS}:f7 E D n mode back s []=([],s):=by
 unfold f7;by_cases hm:mode=1\/mode=2
 ·rw[if_pos hm];show((t4 E D mode back n [] s.ch (0/n)).1,(⟨(t4 E D mode back n [] s.ch (0/n)).2,s.row,s.gone⟩:MS))=_;rw[Nat.zero_div];rfl
 ·rw[if_neg hm];rfl
theorem sd {kind:Int} (hk:kind=1\/kind=2\/kind=3):a7 C 117 [i64 kind] [] (.ret (bool true)) []:=by
 refine Nd.c ?_;rcases hk with rfl|rfl|rfl<;>exact⟨_,rfl,[],rfl,tq⟩
theorem sa {n:Nat} (h:n=8\/n=16):a7 C 118 [i64 n] [] (.ret (bool true)) []:=by
 refine Nc.c ?_;rcases h with rfl|rfl<;>exact⟨_,rfl,[],rfl,tq⟩
theorem Ug {i n:Nat} {x y:UInt8} (h:i<n):(Zo i x++Zo (n-i) y).set i x=Zo (i+1) x++Zo (n-(i+1)) y:=by
 rw[show n-i=(n-(i+1))+1 by omega,List.replicate_succ,Jg _ _ (by rw[Zg];exact Zn _),Zg,Ji,List.set_cons_zero,Z5];simp
theorem AV {n:Nat} {x y:UInt8} (h:0<n):(Zo n y).set (n-1) x=Zo (n-1) y++[x]:=by
 obtain⟨m,rfl⟩:∃m,n=m+1:=⟨n-1,by omega⟩;rw[Zw,Z5,Jg _ _ (by rw[Zg];exact Zn _),Zg,Ji];rfl
theorem Uf {n:Nat} {x:UInt8} (h:0<n):(Zo n x).set (n-1) x=Zo n x:=by
 obtain⟨m,rfl⟩:∃m,n=m+1:=⟨n-1,by omega⟩;rw[AV h,Zw,Z5]
theorem rQ {kind:Int} {n:Nat} (hk:kind=1\/kind=2\/kind=3) (h0:0<n) (h16:n<=16):a7 C 119 [i64 kind,i64 n] [] (.ret (.o 1 (.k 0) 0 n)) [.sc (bv (O3 kind n))]:=by
 have e1:I6.wrap ((n:Int)-1)=((n-1:Nat):Int):=by rw[Ze _ (by omega)];omega
 refine Nb.c ?_;refine⟨by omega,by omega,by omega,?_⟩;rcases hk with rfl|rfl|rfl
 ·refine j4 (fun i=>⟨[(1,i64 n),(5,.o 1 (.k 0) 0 n),(17,i64 n),(18,i64 i)],[.sc (bv (Zo i (UInt8.ofNat n)++Zo (n-i) 0))]⟩) n ⟨[.d 8 0],⟨rfl,rfl,rfl,rfl,tq⟩,⟨_,rfl,d8 ?_⟩,tq⟩ fun i hi=> ?_
  ·rw[Zc,P4];rfl
  refine b8 (fun a8=> ?_) (fun hge=> ?_)
  ·have a8:i<n:=by omega
   refine⟨by omega,by omega,by rw[Zc,f9,Zb,Zg,Zg];omega,?_⟩;refine⟨i+1,by omega,by omega,[.k 0],⟨rfl,rfl,rfl,c9 (by simp(disch:=omega)only[Ze];omega),tq⟩,⟨_,rfl,d8 ?_⟩,tq⟩;rw[Zc,Zs,Zq,aG,K3,Ug a8]
  ·obtain rfl:i=n:=by omega
   refine⟨by rw[e1];omega,by rw[e1];omega,by rw[e1,Zc,f9,Zb,Zg,Zg];omega,?_⟩;refine⟨_,rfl,[.k 0],rfl,⟨_,rfl,d8 ?_⟩,tq⟩;rw[e1,Zc,Zs,Zq,aG,K3,Ji,List.replicate_zero,Jf,Uf h0];rfl
 ·refine⟨by decide,by omega,by rw[Zc,Zg];show 0+0*1<n;omega,?_⟩;refine⟨_,rfl,[.d 8 0],rfl,⟨_,rfl,d8 ?_⟩,tq⟩;rw[Zc,P4];show(bv (Zo n 0)).set 0 (Value.int .u8 ((128:UInt8).toNat:Int))=_;rw[K3];obtain⟨m,rfl⟩:∃m,n=m+1:=⟨n-1,by omega⟩;rfl
 ·refine⟨by rw[e1];omega,by rw[e1];omega,by rw[e1,Zc,Zc,Zg];omega,?_⟩;refine⟨_,rfl,[.d 8 0],rfl,⟨_,rfl,d8 ?_⟩,tq⟩;rw[e1,Zc,Zc,Zs,Zq,aG,P4,K3,AV h0];rfl
theorem wU {kind:Int} {s m:Nat} {vt:List Value} {tail:Bs} (hk:kind=1\/kind=2\/kind=3) (hs:s=8\/s=16) (hv:vt=bv tail) (hm:tail.length=m) (hms:m<s):
  a7 C 64 [i64 kind,i64 s,.z m vt] [] (y4 s) [.sc (bv (F8 kind s tail))]:=by
 subst hv;have e1:I6.wrap ((s:Int)-(m:Int))=((s-m:Nat):Int):=by rw[Ze _ (by omega)];omega
 have lp:=eE (kind:=kind) (tail:=tail) (size:=s) (by omega);have lm:=pD (kind:=kind) (n:=s-m) (by omega);refine MZ.c ?_;refine⟨[],_,_,_,_,sd hk,rfl,rfl,?_⟩;refine⟨[],_,_,_,_,sa hs,rfl,rfl,?_⟩;refine b8 (fun h=>absurd h (by omega)) (fun _=> ?_);refine⟨[],_,_,_,_,rQ (n:=s-m) hk (by omega) (by omega),?_,rfl,?_⟩
 ·rw[e1];rfl
 have hpe:tail++O3 kind (s-m)=F8 kind s tail:=by rw[F8,hm]
 refine⟨[],_,_,_,_,R7 (n:=2) (ls:=[tail,O3 kind (s-m)]) (t:=F8 kind s tail) (by rw[<-hpe];simp) ?_ rfl (by omega) (by omega),rfl,rfl,?_⟩
 ·show[V.z m (bv tail),V.z (s-m) (sub (bv (O3 kind (s-m))) 0 (s-m))]=[V.z _ _,V.z _ _];rw[b9 lm,hm,lm]
 rw[lp];exact⟨_,rfl,[.d 28 0],rfl,⟨_,rfl,rfl⟩,tq⟩
theorem wK {n m:Nat} {va vb:List Value} {a b:Bs} (ha:va=bv a) (hb:vb=bv b) (la:a.length=n) (lb:b.length=m):a7 C 181 [.z n va,.z m vb] [] (.ret (bool (decide (a=b)))) []:=by
 subst ha;subst hb;refine Me.c ?_;refine⟨by rw[f9];exact la,_,rfl,?_⟩;refine⟨by rw[f9];exact lb,_,rfl,?_⟩;refine⟨_,rfl,[],congrArg bool ?_,tq⟩;exact BC _ _
theorem GC {n:Nat} {vb:List Value} {b:Bs} (hv:vb=bv b) (hl:b.length=n) (hn:n<=1000):a7 C 231 [.z n vb,.s (.int .u8 128)] [] (.ret (i64 ((O8 b n:Int)-1))) []:=by
 subst hv;refine Md.c ?_;refine⟨Nat,fun j=>⟨[(0,.z n (bv b)),(1,.s (.int .u8 128)),(5,i64 ((j:Int)-1))],[]⟩,fun j=>j<=n/\O8 b n=O8 b j,fun j=>j,?_,fun j hj=> ?_⟩
 ·exact⟨[],n,⟨Zn _,rfl⟩,[],⟨rfl,rfl,c9 (by rw[Ze _ (by omega)]),tq⟩,tq⟩
 ·obtain⟨h1,h2⟩:=hj;refine b8 (fun hp=> ?_) (fun hp=> ?_)
  ·obtain⟨i,rfl⟩:∃i,j=i+1:=⟨j-1,by omega⟩;have e1:(((i+1:Nat):Int)-1)=(i:Int):=by omega
   refine⟨by omega,by omega,.int .u8 ((b.getD i 0).toNat:Int),by rw[e1,Zc];exact y7 (by omega),?_⟩;refine i9 (fun hz=> ?_) (fun hz=> ?_)
   ·have hz':b.getD i 0=128:=UInt8.toNat_inj.1 (by have:(128:UInt8).toNat=128:=rfl;omega);have e:O8 b (i+1)=i+1:=by unfold O8;rw[if_pos hz']
    rw[h2,e];exact⟨_,rfl,[],rfl,tq⟩
   ·have hz':¬b.getD i 0=128:=fun e=>hz (by rw[e];rfl);have e:O8 b (i+1)=O8 b i:=by rw[O8,if_neg hz']
    exact⟨i,⟨by omega,by rw[h2,e]⟩,(by show i<i+1;omega),[],⟨rfl,rfl,c9 (by rw[e1,Ze _ (by omega)]),tq⟩,tq⟩
  ·obtain rfl:j=0:=by omega
   rw[h2];exact⟨_,rfl,[],rfl,tq⟩
theorem GD {n:Nat} {vb:List Value} {b:Bs} (hv:vb=bv b) (hl:b.length=n) (hn:n<=1000):a7 C 182 [.z n vb,.s (.int .u8 128)] [] (.ret (i64 ((O8 b n:Int)-1))) []:=by
 refine Mf.c ?_;refine⟨[],_,_,_,_,GC hv hl hn,rfl,rfl,?_⟩;exact⟨_,rfl,[],rfl,tq⟩
theorem wR {kind:Int} {s:Nat} {vb:List Value} {b:Bs} (hv:vb=bv b) (hk:kind=1\/kind=2\/kind=3) (hs:s=8\/s=16) (hl:b.length=s):a7 C 123 [i64 kind,.z s vb] [] (.ret (i64 (C3 kind b))) []:=by
 subst hv;have w1:I6.wrap ((s:Int)-1)=((s-1:Nat):Int):=by rw[Ze _ (by omega)];omega
 obtain⟨y,hy⟩:∃y,y=b.getD (s-1) 0:=⟨_,rfl⟩;have hv:(bv b)[(I6.wrap ((s:Int)-1)).toNat]? =some (.int .u8 (y.toNat:Int)):=by rw[w1,Zc,hy];exact y7 (by omega)
 obtain⟨c,hc⟩:∃c,c=y.toNat:=⟨_,rfl⟩;have w2:I6.wrap (y.toNat:Int)=(c:Int):=by rw[gz,hc]
 have hcb:c<256:=by rw[hc];exact y.toNat_lt
 have hC:∀k:Int,k≠2->cy k b=c:=fun k hk=>by unfold cy;rw[if_neg hk,hl,<-hy,hc]
 refine Na.c ?_;rcases hk with rfl|rfl|rfl
 ·have hP:C3 1 b=if c<1\/s<c\/b.drop (s-c)≠O3 1 c then 0 else c:=by
   unfold C3;rw[hC 1 (by decide),hl];by_cases h1:c<1\/s<c\/b.drop (s-c)≠O3 1 c
   ·rw[if_pos h1,if_pos (by rcases h1 with h|h|h;exact .inl h;exact .inr (.inl h);exact .inr (.inr ⟨by decide,h⟩))]
   ·rw[if_neg h1,if_neg (fun h=>h1 (by rcases h with h|h|h;exact .inl h;exact .inr (.inl h);exact .inr (.inr h.2)))]
  refine⟨0,Unit,fun _=>⟨[],[]⟩,fun _=>False,fun _=>0,?_,fun x hx=>hx.elim⟩;refine⟨by rw[w1];omega,by rw[w1];omega,_,hv,?_⟩;refine b8 (fun h=> ?_) (fun h=> ?_)
  ·rw[w2]at h;refine⟨_,rfl,[],c9 ?_,tq⟩;rw[hP,if_pos (.inl (by omega))];rfl
  rw[w2]at h;refine b8 (fun h2=> ?_) (fun h2=> ?_)
  ·rw[w2]at h2;refine⟨_,rfl,[],c9 ?_,tq⟩;rw[hP,if_pos (.inr (.inl (by omega)))];rfl
  rw[w2]at h2;have w3:I6.wrap ((s:Int)-I6.wrap (y.toNat:Int))=((s-c:Nat):Int):=by rw[w2,Ze _ (by omega)];omega
  have lm:=pD (kind:=1) (n:=c) (by omega);have ld:(b.drop (s-c)).length=c:=by rw[Zd];omega
  refine⟨by rw[w3];omega,by rw[w3];omega,by first|omega|(rw [w3];omega),by first|omega|(rw [w3];omega),?_⟩;refine⟨[],_,_,_,_,rQ (kind:=1) (n:=c) (.inl rfl) (by omega) (by omega),?_,rfl,?_⟩
  ·rw[w2];rfl
  refine⟨[],_,_,_,_,wK (a:=b.drop (s-c)) (b:=O3 1 c) (n:=c) (m:=c) (va:=bv (b.drop (s-c))) (vb:=bv (O3 1 c)) rfl rfl ld lm,?_,rfl,?_⟩
  ·rw[w3];show[V.z (s-(s-c)) (sub (bv b) (s-c) (s-(s-c))),V.z c (sub (bv (O3 1 c)) 0 c)]=_;rw[q7 hl (by omega),b9 lm,show s-(s-c)=c by omega]
  refine gg (fun h3=> ?_) (fun h3=> ?_)
  ·refine⟨_,rfl,[],c9 ?_,tq⟩;rw[hP,if_pos (.inr (.inr (by simpa using h3)))];rfl
  ·refine⟨_,rfl,[],c9 ?_,tq⟩;rw[w2,hP,if_neg];rintro (h4|h4|h4)
   ·omega
   ·omega
   ·exact h4 (by simpa using h3)
 ·obtain⟨L,hL⟩:∃L,L=O8 b s:=⟨_,rfl⟩;have hLs:L<=s:=by rw[hL];exact zB b s
  obtain⟨e,he⟩:∃e,e=s+1-L:=⟨_,rfl⟩;have hC2:cy 2 b=e:=by unfold cy;rw[if_pos rfl,hl,<-hL,he]
  have hP:C3 2 b=if s<e\/b.drop (s-e)≠O3 2 e then 0 else e:=by
   unfold C3;rw[hC2,hl];by_cases h1:s<e\/b.drop (s-e)≠O3 2 e
   ·rw[if_pos h1,if_pos (by rcases h1 with h|h;exact .inr (.inl h);exact .inr (.inr ⟨by decide,h⟩))]
   ·rw[if_neg h1,if_neg (fun h=>by
     rcases h with h|h|h
     ·omega
     ·exact h1 (.inl h)
     ·exact h1 (.inr h.2))]
  have w3:I6.wrap ((s:Int)-((O8 b s:Int)-1))=(e:Int):=by rw[<-hL,Ze _ (by omega)];omega
  refine⟨0,Unit,fun _=>⟨[(0,i64 2),(1,.z s (bv b)),(5,i64 s)],[]⟩,fun _=>True,fun _=>0,?_,fun x hx=> ?_⟩
  ·refine⟨by rw[w1];omega,by rw[w1];omega,_,hv,?_⟩;exact⟨rfl,(),tq,[],⟨rfl,rfl,rfl,tq⟩,tq⟩
  ·refine⟨[],_,_,_,_,GD rfl hl (by omega),rfl,rfl,?_⟩;refine b8 (fun h2=> ?_) (fun h2=> ?_)
   ·rw[w3]at h2;refine⟨_,rfl,[],c9 ?_,tq⟩;rw[hP,if_pos (.inl (by omega))];rfl
   rw[w3]at h2;have w4:I6.wrap ((s:Int)-I6.wrap ((s:Int)-((O8 b s:Int)-1)))=((s-e:Nat):Int):=by rw[w3,Ze _ (by omega)];omega
   have lm:=pD (kind:=2) (n:=e) (by omega);have ld:(b.drop (s-e)).length=e:=by rw[Zd];omega
   refine⟨by rw[w4];omega,by rw[w4];omega,by first|omega|(rw [w4];omega),by first|omega|(rw [w4];omega),?_⟩;refine⟨[],_,_,_,_,rQ (kind:=2) (n:=e) (.inr (.inl rfl)) (by omega) (by omega),?_,rfl,?_⟩
   ·rw[w3];rfl
   refine⟨[],_,_,_,_,wK (a:=b.drop (s-e)) (b:=O3 2 e) (n:=e) (m:=e) (va:=bv (b.drop (s-e))) (vb:=bv (O3 2 e)) rfl rfl ld lm,?_,rfl,?_⟩
   ·rw[w4];show[V.z (s-(s-e)) (sub (bv b) (s-e) (s-(s-e))),V.z e (sub (bv (O3 2 e)) 0 e)]=_;rw[q7 hl (by omega),b9 lm,show s-(s-e)=e by omega]
   refine gg (fun h3=> ?_) (fun h3=> ?_)
   ·refine⟨_,rfl,[],c9 ?_,tq⟩;rw[hP,if_pos (.inr (by simpa using h3))];rfl
   ·refine⟨_,rfl,[],c9 ?_,tq⟩;rw[w3,hP,if_neg];rintro (h4|h4)
    ·omega
    ·exact h4 (by simpa using h3)
 ·have hP:C3 3 b=if c<1\/s<c then 0 else c:=by
   unfold C3;rw[hC 3 (by decide),hl];by_cases h1:c<1\/s<c
   ·rw[if_pos h1,if_pos (by rcases h1 with h|h;exact .inl h;exact .inr (.inl h))]
   ·rw[if_neg h1,if_neg (fun h=>by
     rcases h with h|h|h
     ·exact h1 (.inl h)
     ·exact h1 (.inr h)
     ·exact h.1 rfl)]
  refine⟨0,Unit,fun _=>⟨[],[]⟩,fun _=>False,fun _=>0,?_,fun x hx=>hx.elim⟩;refine⟨by rw[w1];omega,by rw[w1];omega,_,hv,?_⟩;refine b8 (fun h=> ?_) (fun h=> ?_)
  ·rw[w2]at h;refine⟨_,rfl,[],c9 ?_,tq⟩;rw[hP,if_pos (.inl (by omega))];rfl
  rw[w2]at h;refine b8 (fun h2=> ?_) (fun h2=> ?_)
  ·rw[w2]at h2;refine⟨_,rfl,[],c9 ?_,tq⟩;rw[hP,if_pos (.inr (by omega))];rfl
  rw[w2]at h2;refine⟨_,rfl,[],c9 ?_,tq⟩;rw[w2,hP,if_neg];omega
theorem xy {kind:Int} {s:Nat} {vb:List Value} {b:Bs} (hv:vb=bv b) (hk:kind=1\/kind=2\/kind=3) (hs:s=8\/s=16) (hl:b.length=s) (h0:C3 kind b≠0):a7 C 67 [i64 kind,i64 s,.z s vb] [] (.ret (.t [.z (s-C3 kind b) (bv (S4 kind b)),i64 0])) []:=by
 subst hv;have HL:=wR (vb:=bv b) rfl hk hs hl;have hle:=ue kind b;have hst:S4 kind b=sub b 0 (s-C3 kind b):=by unfold S4;rw[hl];rfl
 rw[hst];generalize C3 kind b=c at*
 have w1:I6.wrap ((s:Int)-(c:Int))=((s-c:Nat):Int):=by rw[Ze _ (by omega)];omega
 have lp:(sub b 0 (s-c)).length=s-c:=by rw[j5];omega
 have hv1:sub (bv b) 0 (s-c)=bv (sub b 0 (s-c)):=k5 _ _ _;refine yz.c ?_;refine⟨[],_,_,_,_,sd hk,rfl,rfl,?_⟩;refine⟨[],_,_,_,_,sa hs,rfl,rfl,?_⟩;refine n7 (fun h=>absurd rfl h) (fun _=> ?_);refine⟨[],_,_,_,_,HL,rfl,rfl,?_⟩;refine i9 (fun h=>absurd h (by omega)) (fun _=> ?_);refine⟨by rw[w1];omega,by rw[w1];omega,by first|omega|(rw [w1];omega),by first|omega|(rw [w1];omega),?_⟩;refine⟨[],_,_,_,_,av (n:=s-c) (va:=bv (sub b 0 (s-c))) rfl lp (by omega),?_,rfl,?_⟩
 ·rw[w1];show[V.z (s-c) (sub (bv b) 0 (s-c))]=_;rw[hv1]
 exact⟨_,rfl,[],rfl,tq⟩
theorem xz {kind:Int} {s:Nat} {vb:List Value} {b:Bs} (hv:vb=bv b) (hk:kind=1\/kind=2\/kind=3) (hs:s=8\/s=16) (hl:b.length=s) (h0:C3 kind b=0):a7 C 67 [i64 kind,i64 s,.z s vb] [] (.ret (.t [g8,i64 8])) []:=by
 subst hv;have HL:=wR (vb:=bv b) rfl hk hs hl;rw[h0]at HL;refine yz.c ?_;refine⟨[],_,_,_,_,sd hk,rfl,rfl,?_⟩;refine⟨[],_,_,_,_,sa hs,rfl,rfl,?_⟩;refine n7 (fun h=>absurd rfl h) (fun _=> ?_);refine⟨[],_,_,_,_,HL,rfl,rfl,?_⟩;exact⟨_,rfl,[],rfl,tq⟩
def B7 (mode:Int):Int:=if mode=1\/mode=2 then 1 else if 3<=mode/\mode<=6 then 2 else if 7<=mode/\mode<=9 then 3 else 0
theorem ba (mode:Int):a7 C 60 [i64 mode] [] (.ret (i64 (B7 mode))) []:=by
 refine OQ.c ?_;by_cases hm:1<=mode/\mode<=9
 ·have h9:mode=1\/mode=2\/mode=3\/mode=4\/mode=5\/mode=6\/mode=7\/mode=8\/mode=9:=by omega
  rcases h9 with rfl|rfl|rfl|rfl|rfl|rfl|rfl|rfl|rfl<;>exact⟨_,rfl,[],rfl,tq⟩
 ·have e:B7 mode=0:=by unfold B7;rw[if_neg (by omega),if_neg (by omega),if_neg (by omega)]
  rw[e];refine i9 (fun h=>absurd h (by omega)) (fun _=> ?_);refine i9 (fun h=>absurd h (by omega)) (fun _=> ?_);refine i9 (fun h=>absurd h (by omega)) (fun _=> ?_);refine i9 (fun h=>absurd h (by omega)) (fun _=> ?_);refine i9 (fun h=>absurd h (by omega)) (fun _=> ?_);refine i9 (fun h=>absurd h (by omega)) (fun _=> ?_);refine i9 (fun h=>absurd h (by omega)) (fun _=> ?_);refine i9 (fun h=>absurd h (by omega)) (fun _=> ?_);refine i9 (fun h=>absurd h (by omega)) (fun _=> ?_);exact⟨_,rfl,[],rfl,tq⟩
abbrev C6 (t mode pad:Int) (back:Bool):V:= .a [i64 t,i64 mode,i64 pad,bool back]
theorem cK {t key s k xs rs} (h:g9 t key s k xs rs) {mode pad:Int} {back:Bool} {li:Nat} {vk vi:List Value} (hvk:vk=bv key) (hm:1<=mode/\mode<=9) (hp:1<=pad/\pad<=4) (hpm:pad=4\/mode<=2) (hi:li=if mode=1 then 0 else s):
  a7 C 59 [C6 t mode pad back,.z key.length vk,.z li vi] [] (.ret (.t [d7 t k xs,i64 0])) []:=by
 subst hvk;have hs:=h.s_le;refine oF.c ?_;refine⟨_,rfl,?_⟩;refine⟨[],_,_,_,_,h.new,rfl,rfl,?_⟩;refine⟨_,rfl,?_⟩;refine⟨[],_,_,_,_,ba mode,rfl,rfl,?_⟩;refine⟨[],_,_,_,_,h.size,rfl,rfl,?_⟩;refine⟨_,rfl,?_⟩;have hk0:B7 mode≠0:=by unfold B7;split;decide;split;decide;rw[if_pos (by omega)];decide
 have hk1:pad≠4->B7 mode=1:=fun hp4=>by unfold B7;rw[if_pos (by omega)]
 refine i9 (fun h1=> ?_) (fun h1=> ?_);all_goals
  refine i9 (fun h=>absurd h hk0) (fun _=> ?_);refine⟨_,rfl,?_⟩;refine b8 (fun h=>absurd h (by omega)) (fun _=> ?_);refine⟨_,rfl,?_⟩;refine b8 (fun h=>absurd h (by omega)) (fun _=> ?_);refine⟨_,rfl,?_⟩;refine n7 (fun h4=> ?_) (fun h4=> ?_)
  ·refine n7 (fun h=>absurd (hk1 h4) h) (fun _=> ?_);refine n7 (fun h=>absurd (show (li:Int)=_ by first|(rw [hi,if_pos h1];rfl)|rw[hi,if_neg h1]) h) (fun _=> ?_);exact⟨_,rfl,[],rfl,tq⟩
  ·refine n7 (fun h=>absurd (show (li:Int)=_ by first|(rw [hi,if_pos h1];rfl)|rw[hi,if_neg h1]) h) (fun _=> ?_);exact⟨_,rfl,[],rfl,tq⟩
theorem GN {t key s k xs rs} (h:g9 t key s k xs rs) {mode pad:Int} {back:Bool} {li:Nat} {vk vi:List Value} (hvk:vk=bv key) (hm:1<=mode/\mode<=9) (hp:1<=pad/\pad<=4) (hpm:pad=4\/mode<=2) (hi:li≠if mode=1 then 0 else s):
  a7 C 59 [C6 t mode pad back,.z key.length vk,.z li vi] [] (.ret (.t [j6,i64 5])) []:=by
 subst hvk;have hs:=h.s_le;refine oF.c ?_;refine⟨_,rfl,?_⟩;refine⟨[],_,_,_,_,h.new,rfl,rfl,?_⟩;refine⟨_,rfl,?_⟩;refine⟨[],_,_,_,_,ba mode,rfl,rfl,?_⟩;refine⟨[],_,_,_,_,h.size,rfl,rfl,?_⟩;refine⟨_,rfl,?_⟩;have hk0:B7 mode≠0:=by unfold B7;split;decide;split;decide;rw[if_pos (by omega)];decide
 have hk1:pad≠4->B7 mode=1:=fun hp4=>by unfold B7;rw[if_pos (by omega)]
 refine i9 (fun h1=> ?_) (fun h1=> ?_);all_goals
  refine i9 (fun h=>absurd h hk0) (fun _=> ?_);refine⟨_,rfl,?_⟩;refine b8 (fun h=>absurd h (by omega)) (fun _=> ?_);refine⟨_,rfl,?_⟩;refine b8 (fun h=>absurd h (by omega)) (fun _=> ?_);refine⟨_,rfl,?_⟩;refine n7 (fun h4=> ?_) (fun h4=> ?_)
  ·refine n7 (fun h=>absurd (hk1 h4) h) (fun _=> ?_);refine n7 (fun _=> ?_) (fun h=>absurd ?_ hi)
   ·exact⟨_,rfl,[],rfl,tq⟩
   ·simp only[h1,if_true,if_false];exact Ja.1 h
  ·refine n7 (fun _=> ?_) (fun h=>absurd ?_ hi)
   ·exact⟨_,rfl,[],rfl,tq⟩
   ·simp only[h1,if_true,if_false];exact Ja.1 h
theorem wT {t mode pad e:Int} {back:Bool} {lk li:Nat} {vk vi:List Value} (HN:a7 C 25 [i64 t,.z lk vk] [] (.ret (.t [j6,i64 e])) []) (he:e≠0):
  a7 C 59 [C6 t mode pad back,.z lk vk,.z li vi] [] (.ret (.t [j6,i64 e])) []:=by
 refine oF.c ?_;refine⟨_,rfl,?_⟩;refine⟨[],_,_,_,_,HN,rfl,rfl,?_⟩;refine n7 (fun _=> ?_) (fun h=>absurd h he);exact⟨_,rfl,[],rfl,tq⟩
theorem Iq {t key s k xs rs} (h:g9 t key s k xs rs) {mode pad:Int} {back:Bool} {li:Nat} {vk vi:List Value} (hvk:vk=bv key) (hm:1<=mode/\mode<=9) (hp:1<=pad/\pad<=4) (hpm:pad=4\/mode<=2) (hi:li=if mode=1 then 0 else s):
  a7 C 99 [C6 t mode pad back,.z key.length vk,.z li vi] [] (.ret (i64 0)) []:=by
 subst hvk;refine oD.c ?_;refine⟨_,rfl,?_⟩;refine⟨[],_,_,_,_,h.rnew,rfl,rfl,?_⟩;refine⟨_,rfl,?_⟩;refine b8 (fun h=>absurd h (by omega)) (fun _=> ?_);refine⟨_,rfl,?_⟩;refine b8 (fun h=>absurd h (by omega)) (fun _=> ?_);refine⟨_,rfl,?_⟩;refine b8 (fun h=>absurd h (by omega)) (fun _=> ?_);refine⟨_,rfl,?_⟩;refine b8 (fun h=>absurd h (by omega)) (fun _=> ?_);refine⟨_,rfl,?_⟩;refine n7 (fun h4=> ?_) (fun h4=> ?_)
 ·refine⟨_,rfl,?_⟩;refine b8 (fun h=>absurd h (by omega)) (fun _=> ?_);refine⟨_,rfl,?_⟩;refine⟨[],_,_,_,_,h.rS,rfl,rfl,?_⟩;refine⟨_,rfl,?_⟩;refine i9 (fun h1=> ?_) (fun h1=> ?_);all_goals
   refine n7 (fun h=>absurd (show (li:Int)=_ by first|(rw [hi,if_pos h1];rfl)|rw[hi,if_neg h1]) h) (fun _=> ?_);exact⟨_,rfl,[],rfl,tq⟩
 ·refine⟨_,rfl,?_⟩;refine⟨[],_,_,_,_,h.rS,rfl,rfl,?_⟩;refine⟨_,rfl,?_⟩;refine i9 (fun h1=> ?_) (fun h1=> ?_);all_goals
   refine n7 (fun h=>absurd (show (li:Int)=_ by first|(rw [hi,if_pos h1];rfl)|rw[hi,if_neg h1]) h) (fun _=> ?_);exact⟨_,rfl,[],rfl,tq⟩
theorem Im {t key s k xs rs} (h:g9 t key s k xs rs) {mode pad:Int} {back:Bool} {li:Nat} {vk vi:List Value} (hvk:vk=bv key) (hm:1<=mode/\mode<=9) (hp:1<=pad/\pad<=4) (hpm:pad=4\/mode<=2) (hi:li≠if mode=1 then 0 else s):
  a7 C 99 [C6 t mode pad back,.z key.length vk,.z li vi] [] (.ret (i64 5)) []:=by
 subst hvk;refine oD.c ?_;refine⟨_,rfl,?_⟩;refine⟨[],_,_,_,_,h.rnew,rfl,rfl,?_⟩;refine⟨_,rfl,?_⟩;refine b8 (fun h=>absurd h (by omega)) (fun _=> ?_);refine⟨_,rfl,?_⟩;refine b8 (fun h=>absurd h (by omega)) (fun _=> ?_);refine⟨_,rfl,?_⟩;refine b8 (fun h=>absurd h (by omega)) (fun _=> ?_);refine⟨_,rfl,?_⟩;refine b8 (fun h=>absurd h (by omega)) (fun _=> ?_);refine⟨_,rfl,?_⟩;refine n7 (fun h4=> ?_) (fun h4=> ?_)
 ·refine⟨_,rfl,?_⟩;refine b8 (fun h=>absurd h (by omega)) (fun _=> ?_);refine⟨_,rfl,?_⟩;refine⟨[],_,_,_,_,h.rS,rfl,rfl,?_⟩;refine⟨_,rfl,?_⟩;refine i9 (fun h1=> ?_) (fun h1=> ?_);all_goals
   refine n7 (fun _=> ?_) (fun h=>absurd ?_ hi)
   ·exact⟨_,rfl,[],rfl,tq⟩
   ·simp only[h1,if_true,if_false];exact Ja.1 h
 ·refine⟨_,rfl,?_⟩;refine⟨[],_,_,_,_,h.rS,rfl,rfl,?_⟩;refine⟨_,rfl,?_⟩;refine i9 (fun h1=> ?_) (fun h1=> ?_);all_goals
   refine n7 (fun _=> ?_) (fun h=>absurd ?_ hi)
   ·exact⟨_,rfl,[],rfl,tq⟩
   ·simp only[h1,if_true,if_false];exact Ja.1 h
theorem Ip {t key s k xs rs} (h:g9 t key s k xs rs) {mode pad:Int} {back:Bool} {li:Nat} {vk vi:List Value} (hvk:vk=bv key) (hb:¬((1<=mode/\mode<=9)/\(1<=pad/\pad<=4)/\(pad=4\/mode<=2))):
  a7 C 99 [C6 t mode pad back,.z key.length vk,.z li vi] [] (.ret (i64 3)) []:=by
 subst hvk;refine oD.c ?_;refine⟨_,rfl,?_⟩;refine⟨[],_,_,_,_,h.rnew,rfl,rfl,?_⟩;refine⟨_,rfl,?_⟩;refine b8 (fun _=>⟨_,rfl,[],rfl,tq⟩) (fun a1=> ?_);refine⟨_,rfl,?_⟩;refine b8 (fun _=>⟨_,rfl,[],rfl,tq⟩) (fun a2=> ?_);refine⟨_,rfl,?_⟩;refine b8 (fun _=>⟨_,rfl,[],rfl,tq⟩) (fun a3=> ?_);refine⟨_,rfl,?_⟩;refine b8 (fun _=>⟨_,rfl,[],rfl,tq⟩) (fun a4=> ?_);refine⟨_,rfl,?_⟩;refine n7 (fun h4=> ?_) (fun h4=> ?_)
 ·refine⟨_,rfl,?_⟩;refine b8 (fun _=>⟨_,rfl,[],rfl,tq⟩) (fun a5=> ?_);exact absurd ⟨⟨by omega,by omega⟩,⟨by omega,by omega⟩,.inr (by omega)⟩ hb
 ·exact absurd ⟨⟨by omega,by omega⟩,⟨by omega,by omega⟩,.inl h4⟩ hb
theorem xi {t mode pad e:Int} {back:Bool} {lk li:Nat} {vk vi:List Value} (HN:a7 C 14 [i64 t,.z lk vk] [] (.ret (.t [j6,i64 e])) []) (he:e≠0):
  a7 C 99 [C6 t mode pad back,.z lk vk,.z li vi] [] (.ret (i64 e)) []:=by
 refine oD.c ?_;refine⟨_,rfl,?_⟩;refine⟨[],_,_,_,_,HN,rfl,rfl,?_⟩;refine n7 (fun _=> ?_) (fun h=>absurd h he);exact⟨_,rfl,[],rfl,tq⟩
theorem GO {t key s k xs rs} (h:g9 t key s k xs rs) {mode pad:Int} {back:Bool} {li:Nat} {vk vi:List Value} (hvk:vk=bv key) (hb:¬((1<=mode/\mode<=9)/\(1<=pad/\pad<=4)/\(pad=4\/mode<=2))):
  a7 C 59 [C6 t mode pad back,.z key.length vk,.z li vi] [] (.ret (.t [j6,i64 3])) []:=by
 subst hvk;have hs:=h.s_le;have hk0:(1<=mode/\mode<=9)->B7 mode≠0:=fun hm=>by unfold B7;split;decide;split;decide;rw[if_pos (by omega)];decide
 have hkz:¬(1<=mode/\mode<=9)->B7 mode=0:=fun hm=>by unfold B7;rw[if_neg (by omega),if_neg (by omega),if_neg (by omega)]
 have hk1:B7 mode=1->mode<=2:=fun hh=>by
  unfold B7 at hh;split at hh
  ·omega
  ·split at hh
   ·exact absurd hh (by decide)
   ·split at hh<;>exact absurd hh (by decide)
 refine oF.c ?_;refine⟨_,rfl,?_⟩;refine⟨[],_,_,_,_,h.new,rfl,rfl,?_⟩;refine⟨_,rfl,?_⟩;refine⟨[],_,_,_,_,ba mode,rfl,rfl,?_⟩;refine⟨[],_,_,_,_,h.size,rfl,rfl,?_⟩;refine⟨_,rfl,?_⟩;refine i9 (fun h1=> ?_) (fun h1=> ?_);all_goals
  refine i9 (fun hz=> ?_) (fun hz=> ?_)
  ·refine i9 (fun _=>⟨_,rfl,[],rfl,tq⟩) (fun h=>absurd hz h)
  refine⟨_,rfl,?_⟩;refine b8 (fun hz2=> ?_) (fun a3=> ?_)
  ·refine b8 (fun _=>⟨_,rfl,[],rfl,tq⟩) (fun h=>absurd hz2 h)
  refine⟨_,rfl,?_⟩;refine b8 (fun hz2=> ?_) (fun a4=> ?_)
  ·refine b8 (fun _=>⟨_,rfl,[],rfl,tq⟩) (fun h=>absurd hz2 h)
  refine⟨_,rfl,?_⟩;refine n7 (fun h4=> ?_) (fun h4=> ?_)
  ·refine n7 (fun _=>⟨_,rfl,[],rfl,tq⟩) (fun hk=> ?_);have:=hk1 hk;have hm:1<=mode/\mode<=9:=Classical.byContradiction fun x=>hz (hkz x);exact absurd ⟨hm,⟨by omega,by omega⟩,.inr this⟩ hb
  ·have hm:1<=mode/\mode<=9:=Classical.byContradiction fun x=>hz (hkz x);exact absurd ⟨hm,⟨by omega,by omega⟩,.inl h4⟩ hb
theorem PX {n l:Nat} (hn:0<n) (h:n<=l) (hp:0<r8 n l):n+1<=l-r8 n l:=by
 unfold r8 at hp ⊢;have hd:=Zx (l-n-1) n;have:n+1<=l:=by
  refine Classical.byContradiction fun hh=> ?_;have:l-n-1=0:=by omega
  rw[this,Nat.zero_div]at hp;omega
 generalize n*((l-n-1)/n)=z at*
 omega
theorem PY {n l f j:Nat} (hn:0<n) (h:n<=l) (hf:f=n*j) (hle:f<=r8 n l):(2*n<l-f->f+n<=r8 n l)/\(¬2*n<l-f->f=r8 n l):=by
 obtain⟨a1,a2,a3,a4,a5⟩:=ic hn h;have hfl:f<r8 n l->f+n<=r8 n l:=fun a8=>by
  obtain⟨u,hu⟩:=Zm a4;have:j<u:=by
   refine Z1 (a:=n) ?_;omega
  have:=Zh n this;rw[Zp]at this;omega
 constructor
 ·intro h2;exact hfl (by omega)
 ·intro h2;refine Classical.byContradiction fun hne=> ?_;have a8:f<r8 n l:=by omega
  have:=hfl a8;have:=PX hn h (by omega);omega
def Wx (cv:V) (t mode pad:Int) (back:Bool) (s m:Nat) (iv msg:Bs):Nat×Nat->D
 |(j,f)=>⟨[(0,cv),(2,.z s (bv iv)),(3,.z m (bv msg)),(5,.p (.k 0) 0),(10,i64 s),(11,i64 f)],[.mx [i64 t,i64 mode,i64 pad,bool back]]⟩
theorem IK {t key s k xs rs} (h:g9 t key s k xs rs) {mode pad:Int} {back:Bool} {li m:Nat} {vi vm:List Value} (hms:m<s):
  a7 C 61 [d7 t k xs,C6 t mode pad back,.z li vi,.z m vm] [] (.ret (.t [g8,i64 7])) []:=by
 refine yH.c ?_;refine⟨[],_,_,_,_,h.size,rfl,rfl,?_⟩;refine b8 (fun _=> ?_) (fun h=>absurd (show (m:Int)<(s:Int) by omega) h);exact⟨_,rfl,[],rfl,tq⟩
theorem IJ {t key s k xs rs} (h:g9 t key s k xs rs) {mode pad:Int} {back:Bool} {m:Nat} {vi vm:List Value} {iv msg:Bs} (hvi:vi=bv iv) (hvm:vm=bv msg) (hi:iv.length=s) (hmm:msg.length=m) (hms:s<=m) (hmb:m<=100000) (hm:7<=mode/\mode<=9):
  a7 C 61 [d7 t k xs,C6 t mode pad back,.z s vi,.z m vm] [] (y4 m) [.sc (bv (L0 (cF t key false) (cF t key true) s mode back iv msg).1)]:=by
 subst hvi;subst hvm;have hs:=h.s_le;have hci:=h.ci;obtain⟨f,hf⟩:∃f,f=r8 s m:=⟨_,rfl⟩;obtain⟨a1,a2,a3,a4,a5⟩:=ic (n:=s) (l:=m) (by omega) hms;have hstep:=fun j f=>PY (n:=s) (l:=m) (f:=f) (j:=j) (by omega) hms;rw[<-hf]at a1 a2 a3 a4 a5 hstep;have lfr:(sub msg 0 f).length=f:=by rw[j5];omega
 have hvf:sub (bv msg) 0 f=bv (sub msg 0 f):=k5 _ _ _;have K0:MK s 2 ⟨iv,[],[]⟩:=MK.new (by decide) (.inr hi);have T0:=gU h (mode:=2) (back:=back) (st:=⟨iv,[],[]⟩) (b:=sub msg 0 f) rfl lfr (by omega) K0 a4 (.inr rfl);have lo:(f7 (cF t key false) (cF t key true) s 2 back ⟨iv,[],[]⟩ (sub msg 0 f)).1.length=f:=by rw[H9 hci K0.ok (by rw[lfr];exact a4),lfr]
 have hr0:(f7 (cF t key false) (cF t key true) s 2 back ⟨iv,[],[]⟩ (sub msg 0 f)).2.row=[]:=by unfold f7;rw[if_pos (by decide)]
 have hres:L0 (cF t key false) (cF t key true) s mode back iv msg=((f7 (cF t key false) (cF t key true) s 2 back ⟨iv,[],[]⟩ (sub msg 0 f)).1++A9 (cF t key false) (cF t key true) s mode back (W8 s back iv msg (f7 (cF t key false) (cF t key true) s 2 back ⟨iv,[],[]⟩ (sub msg 0 f)).1) (msg.drop f),0):=by
  unfold L0;rw[if_neg (by omega),hmm,<-hf];rfl
 have hLast:∀o,W8 s back iv msg o=if f=0 then iv else if back then sub msg (f-s) s else o.drop (f-s):=fun o=>by unfold W8;rw[hmm,<-hf]
 rw[hres];generalize f7 (cF t key false) (cF t key true) s 2 back ⟨iv,[],[]⟩ (sub msg 0 f)=S0 at*
 obtain⟨o,⟨c1,row1,g1⟩⟩:=S0;dsimp only at T0 lo hr0 hres ⊢;subst hr0;have hL:=hLast o;clear hres hLast;have ld:(msg.drop f).length=m-f:=by rw[Zd,hmm]
 refine yH.c ?_;refine⟨[],_,_,_,_,h.size,rfl,rfl,?_⟩;refine b8 (fun h=>absurd h (by omega)) (fun _=> ?_);refine⟨Nat×Nat,Wx (d7 t k xs) t mode pad back s m iv msg,fun x=>x.2=s*x.1/\x.2<=f,fun x=>f-x.2,⟨[],(0,0),⟨by show 0=s*0;omega,Zr _⟩,[.d 5 0],⟨rfl,rfl,rfl,rfl,rfl,rfl,tq⟩,⟨_,rfl,rfl⟩,tq⟩,fun x hx=> ?_⟩;obtain⟨j,g⟩:=x;obtain⟨hg1,hg2⟩:=hx;dsimp only at hg1 hg2;have e1:I6.wrap ((m:Int)-(g:Int))=((m-g:Nat):Int):=by rw[Ze _ (by omega)];omega
 have e2:I6.wrap (2*(s:Int))=((2*s:Nat):Int):=by rw[Ze _ (by omega)];omega
 obtain⟨s1,s2⟩:=hstep j g hg1 hg2;refine b8 (fun hgt=> ?_) (fun hle=> ?_)
 ·rw[e1,e2]at hgt;have hgf:=s1 (by omega);have e3:I6.wrap ((g:Int)+(s:Int))=((g+s:Nat):Int):=by rw[Ze _ (by omega)];omega
  exact⟨(j+1,g+s),⟨by show g+s=s*(j+1);rw[Zp];omega,hgf⟩,(by show f-(g+s)<f-g;omega),[.k 0],⟨rfl,rfl,rfl,rfl,rfl,c9 e3,tq⟩,⟨_,rfl,rfl⟩,tq⟩
 ·rw[e1,e2]at hle;have hgf:g=f:=s2 (by omega);subst hgf;clear s1 s2 hstep hg2 hle;refine⟨_,rfl,?_⟩;refine⟨[],_,_,_,_,dG h (mode:=2) (back:=back) (i:=1) (iv:=iv) rfl hi (by decide) rfl,rfl,rfl,?_⟩;refine⟨by omega,by omega,by omega,by omega,?_⟩;refine⟨[.d 40 0,.d 40 1],_,_,_,_,T0,?_,rfl,?_⟩
  ·show[V.p (.k 0) 0,V.z (((g:Nat):Int).toNat) (sub (bv msg) 0 (((g:Nat):Int).toNat))]=_;rw[Zc,hvf]
  refine b8 (fun hpos=> ?_) (fun hz=> ?_)
  ·have hgs:s<=g:=a5.resolve_left (by omega);have e4:I6.wrap ((g:Int)-(s:Int))=((g-s:Nat):Int):=by rw[Ze _ (by omega)];omega
   rw[if_neg (by omega)]at hL;rw[hL];refine⟨by rw[e4];omega,by rw[e4];omega,by first|omega|(rw [e4];omega),by first|omega|(rw [e4];omega),?_⟩;refine⟨_,rfl,?_⟩;cases back
   ·have ll:(o.drop (g-s)).length=s:=by rw[Zd];omega
    have e9:g-(g-s)=s:=by omega
    have hvd:sub (bv o) (g-s) (g-(g-s))=bv (o.drop (g-s)):=q7 lo (by omega);rw[if_neg (by decide)];refine⟨_,rfl,?_⟩;refine⟨_,rfl,?_⟩;refine⟨by omega,by omega,by omega,by omega,?_⟩;have lT:=h.stT_len (mode:=mode) (back:=false) (a9:=o.drop (g-s)) (b:=msg.drop g) ll ld a2 a3;have cT:=nP h (mode:=mode) (back:=false) (vl:=bv (o.drop (g-s))) (vb:=bv (msg.drop g)) (a9:=o.drop (g-s)) (b:=msg.drop g) rfl rfl ll ld hm a2 a3;generalize A9 (cF t key false) (cF t key true) s mode false (o.drop (g-s)) (msg.drop g)=TT at*
    refine⟨[],_,_,_,_,cT,?_,rfl,?_⟩
    ·show[d7 t k xs,i64 mode,bool false,V.z (g-(I6.wrap ((g:Int)-(s:Int))).toNat) (sub (bv o) (I6.wrap ((g:Int)-(s:Int))).toNat (g-(I6.wrap ((g:Int)-(s:Int))).toNat)),V.z (m-((g:Nat):Int).toNat) (sub (bv msg) ((g:Nat):Int).toNat (m-((g:Nat):Int).toNat))]=_;rw[e4,Zc,hvd,e9,Zc,q7 hmm a1]
    refine⟨[],_,_,_,_,R7 (n:=2) (ls:=[o,TT]) (t:=o++TT) (by simp) ?_ rfl (by rw[Zb];omega) (by rw[Zb];omega),rfl,rfl,?_⟩
    ·show[V.z g (bv o),V.z (m-g) (sub (bv TT) 0 (m-g))]=[V.z _ _,V.z _ _];rw[lo,lT,b9 lT]
    have lc:(o++TT).length=m:=by rw[Zb];omega
    rw[lc];exact⟨_,rfl,[.d 83 0],rfl,⟨_,rfl,rfl⟩,tq⟩
   ·have ll:(sub msg (g-s) s).length=s:=by rw[j5];omega
    have e9:g-(g-s)=s:=by omega
    have hvd:sub (bv msg) (g-s) s=bv (sub msg (g-s) s):=k5 _ _ _;rw[if_pos rfl];refine⟨by first|omega|(rw [e4];omega),by first|omega|(rw [e4];omega),by first|omega|(rw [e4];omega),by first|omega|(rw [e4];omega),by first|omega|(rw [e4];omega),?_⟩;refine⟨_,rfl,?_⟩;refine⟨_,rfl,?_⟩;refine⟨by omega,by omega,by omega,by omega,?_⟩;have lT:=h.stT_len (mode:=mode) (back:=true) (a9:=sub msg (g-s) s) (b:=msg.drop g) ll ld a2 a3;have cT:=nP h (mode:=mode) (back:=true) (vl:=bv (sub msg (g-s) s)) (vb:=bv (msg.drop g)) (a9:=sub msg (g-s) s) (b:=msg.drop g) rfl rfl ll ld hm a2 a3;generalize A9 (cF t key false) (cF t key true) s mode true (sub msg (g-s) s) (msg.drop g)=TT at*
    refine⟨[],_,_,_,_,cT,?_,rfl,?_⟩
    ·show[d7 t k xs,i64 mode,bool true,V.z (((g:Nat):Int).toNat-(I6.wrap ((g:Int)-(s:Int))).toNat) (sub (bv msg) (I6.wrap ((g:Int)-(s:Int))).toNat (((g:Nat):Int).toNat-(I6.wrap ((g:Int)-(s:Int))).toNat)),V.z (m-((g:Nat):Int).toNat) (sub (bv msg) ((g:Nat):Int).toNat (m-((g:Nat):Int).toNat))]=_;rw[e4,Zc,Zc,e9,hvd,q7 hmm a1]
    refine⟨[],_,_,_,_,R7 (n:=2) (ls:=[o,TT]) (t:=o++TT) (by simp) ?_ rfl (by rw[Zb];omega) (by rw[Zb];omega),rfl,rfl,?_⟩
    ·show[V.z g (bv o),V.z (m-g) (sub (bv TT) 0 (m-g))]=[V.z _ _,V.z _ _];rw[lo,lT,b9 lT]
    have lc:(o++TT).length=m:=by rw[Zb];omega
    rw[lc];exact⟨_,rfl,[.d 83 0],rfl,⟨_,rfl,rfl⟩,tq⟩
  ·have hg0:g=0:=by omega
   rw[if_pos hg0]at hL;rw[hL];refine⟨_,rfl,?_⟩;refine⟨_,rfl,?_⟩;refine⟨by omega,by omega,by omega,by omega,?_⟩;have lT:=h.stT_len (mode:=mode) (back:=back) (a9:=iv) (b:=msg.drop g) hi ld a2 a3;have cT:=nP h (mode:=mode) (back:=back) (vl:=bv (iv)) (vb:=bv (msg.drop g)) (a9:=iv) (b:=msg.drop g) rfl rfl hi ld hm a2 a3;generalize A9 (cF t key false) (cF t key true) s mode back (iv) (msg.drop g)=TT at*
   refine⟨[],_,_,_,_,cT,?_,rfl,?_⟩
   ·show[d7 t k xs,i64 mode,bool back,V.z s (bv iv),V.z (m-((g:Nat):Int).toNat) (sub (bv msg) ((g:Nat):Int).toNat (m-((g:Nat):Int).toNat))]=_;rw[Zc,q7 hmm a1]
   refine⟨[],_,_,_,_,R7 (n:=2) (ls:=[o,TT]) (t:=o++TT) (by simp) ?_ rfl (by rw[Zb];omega) (by rw[Zb];omega),rfl,rfl,?_⟩
   ·show[V.z g (bv o),V.z (m-g) (sub (bv TT) 0 (m-g))]=[V.z _ _,V.z _ _];rw[lo,lT,b9 lT]
   have lc:(o++TT).length=m:=by rw[Zb];omega
   rw[lc];exact⟨_,rfl,[.d 83 0],rfl,⟨_,rfl,rfl⟩,tq⟩
theorem IE {t key s k xs rs} (h:g9 t key s k xs rs) {mode pad:Int} {back:Bool} {m:Nat} {vk vi vm:List Value} {iv msg:Bs} (hvk:vk=bv key) (hvi:vi=bv iv) (hvm:vm=bv msg) (ok:D1 s mode pad iv) (hmm:msg.length=m) (hmb:m<=100000) (hm:7<=mode) (hms:s<=m):
  a7 C 16 [C6 t mode pad back,.z key.length vk,.z iv.length vi,.z m vm] [] (.ret (.t [.z m (bv (L0 (cF t key false) (cF t key true) s mode back iv msg).1),i64 0])) []:=by
 subst hvk;subst hvi;subst hvm;obtain⟨o1,o2,o3,o4⟩:=ok;have hs:=h.s_le;have hi:iv.length=s:=by rw[o4,if_neg (by omega)]
 have lS:(L0 (cF t key false) (cF t key true) s mode back iv msg).1.length=m:=by rw[pP h.ci (by omega) hi (by omega),hmm]
 have cS:=IJ h (pad:=pad) (back:=back) (vi:=bv iv) (vm:=bv msg) rfl rfl hi hmm hms hmb ⟨hm,o1.2⟩;refine dR.c ?_;refine⟨0,Unit,fun _=>⟨[],[]⟩,fun _=>False,fun _=>0,?_,fun x hx=>hx.elim⟩;refine⟨[i64 t,i64 mode,i64 pad,bool back],rfl,rfl,?_⟩;refine⟨[],_,_,_,_,cK h rfl o1 o2 o3 o4,rfl,rfl,?_⟩;refine⟨_,rfl,?_⟩;refine⟨[],_,_,_,_,ba mode,rfl,rfl,?_⟩;refine i9 (fun _=> ?_) (fun hh=>absurd (by unfold B7;rw[if_neg (by omega),if_neg (by omega),if_pos (by omega)]) hh);refine⟨[i64 t,i64 mode,i64 pad,bool back],rfl,rfl,?_⟩;rw[hi];refine⟨[],_,_,_,_,cS,rfl,rfl,?_⟩;refine⟨_,rfl,[],congrArg (fun z=>V.t [z,i64 0]) (congrArg (V.z m) (b9 lS)),tq⟩
theorem IF {t key s k xs rs} (h:g9 t key s k xs rs) {mode pad:Int} {back:Bool} {m:Nat} {vk vi vm:List Value} {iv:Bs} (hvk:vk=bv key) (ok:D1 s mode pad iv) (hm:7<=mode) (hms:m<s):
  a7 C 16 [C6 t mode pad back,.z key.length vk,.z iv.length vi,.z m vm] [] (.ret (.t [g8,i64 7])) []:=by
 subst hvk;obtain⟨o1,o2,o3,o4⟩:=ok;refine dR.c ?_;refine⟨0,Unit,fun _=>⟨[],[]⟩,fun _=>False,fun _=>0,?_,fun x hx=>hx.elim⟩;refine⟨[i64 t,i64 mode,i64 pad,bool back],rfl,rfl,?_⟩;refine⟨[],_,_,_,_,cK h rfl o1 o2 o3 o4,rfl,rfl,?_⟩;refine⟨_,rfl,?_⟩;refine⟨[],_,_,_,_,ba mode,rfl,rfl,?_⟩;refine i9 (fun _=> ?_) (fun hh=>absurd (by unfold B7;rw[if_neg (by omega),if_neg (by omega),if_pos (by omega)]) hh);refine⟨[i64 t,i64 mode,i64 pad,bool back],rfl,rfl,?_⟩;refine⟨[],_,_,_,_,IK h hms,rfl,rfl,?_⟩;exact⟨_,rfl,[],rfl,tq⟩
theorem IC {t key s k xs rs} (h:g9 t key s k xs rs) {mode:Int} {back:Bool} {m:Nat} {vk vi vm:List Value} {iv msg:Bs} (hvk:vk=bv key) (hvi:vi=bv iv) (hvm:vm=bv msg) (hm:1<=mode/\mode<=6) (hi:iv.length=if mode=1 then 0 else s) (hmm:msg.length=m) (hmb:m<=100000) (hg:m%k6 s mode=0):
  a7 C 16 [C6 t mode 4 back,.z key.length vk,.z iv.length vi,.z m vm] [] (.ret (.t [.z m (bv (f7 (cF t key false) (cF t key true) s mode back ⟨iv,[],[]⟩ msg).1),i64 0])) []:=by
 subst hvk;subst hvi;subst hvm;have hs:=h.s_le;have K0:MK s mode ⟨iv,[],[]⟩:=MK.new hm (by
  by_cases h1:mode=1
  ·exact .inl h1
  ·rw[if_neg h1]at hi;exact .inr hi)
 have lo:(f7 (cF t key false) (cF t key true) s mode back ⟨iv,[],[]⟩ msg).1.length=m:=by rw[H9 h.ci K0.ok (by rw[hmm];exact hg),hmm]
 have T0:=gU h (back:=back) (st:=⟨iv,[],[]⟩) (b:=msg) rfl hmm (by omega) K0 hg (.inr rfl);have hk3:B7 mode≠3:=by unfold B7;split;decide;rw[if_pos (by omega)];decide
 generalize f7 (cF t key false) (cF t key true) s mode back ⟨iv,[],[]⟩ msg=S0 at*
 obtain⟨o,⟨c1,row1,g1⟩⟩:=S0;dsimp only at T0 lo;refine dR.c ?_;refine⟨0,Unit,fun _=>⟨[(3,.z m (bv msg)),(4,.p (.k 0) 0),(12,.p (.k 1) 0),(14,i64 s)],[.mx [i64 t,i64 mode,i64 4,bool back],f8 (d7 t k xs) mode back ⟨iv,[],[]⟩ 2,.dead]⟩,fun _=>True,fun _=>0,?_,fun x hx=> ?_⟩
 ·refine⟨[i64 t,i64 mode,i64 4,bool back],rfl,rfl,?_⟩;refine⟨[],_,_,_,_,cK h rfl ⟨hm.1,by omega⟩ (by decide) (.inl rfl) hi,rfl,rfl,?_⟩;refine⟨_,rfl,?_⟩;refine⟨[],_,_,_,_,ba mode,rfl,rfl,?_⟩;refine i9 (fun hh=>absurd hh hk3) (fun _=> ?_);refine⟨_,rfl,?_⟩;refine⟨_,rfl,?_⟩;refine⟨[],_,_,_,_,dG h (mode:=mode) (back:=back) (i:=1) (iv:=iv) rfl rfl hm hi,rfl,rfl,?_⟩;refine⟨[],_,_,_,_,h.size,rfl,rfl,?_⟩;exact⟨[],(),tq,[.d 4 0,.d 49 0,.d 49 1],⟨rfl,rfl,rfl,rfl,tq⟩,⟨_,rfl,rfl⟩,⟨_,rfl,rfl⟩,⟨_,rfl,rfl⟩,tq⟩
 ·refine⟨Unit,fun _=>⟨[(3,.z m (bv msg)),(4,.p (.k 0) 0),(12,.p (.k 1) 0),(14,i64 s)],[.mx [i64 t,i64 mode,i64 4,bool back],f8 (d7 t k xs) mode back ⟨iv,[],[]⟩ 2,.dead]⟩,fun _=>True,fun _=>0,⟨[],(),tq,[.k 0,.k 1,.k 2],⟨rfl,rfl,rfl,rfl,tq⟩,⟨_,rfl,rfl⟩,⟨_,rfl,rfl⟩,⟨_,rfl,rfl⟩,tq⟩,fun _ _=> ?_⟩;refine⟨_,rfl,?_⟩;rcases row1 with _|⟨a1,r1⟩;all_goals
   refine⟨[.k 1,.k 2],_,_,_,_,T0,rfl,rfl,?_⟩;refine⟨_,rfl,?_⟩;exact⟨_,rfl,[],rfl,tq⟩
theorem g9.s_two {t key s k xs rs} (h:g9 t key s k xs rs):s=8\/s=16:=by
 have:=h.hs;rcases h.ht with e|e|e|e|e|e|e|e<;>(subst e;simp[B6]at this;omega)
theorem IA {t key s k xs rs} (h:g9 t key s k xs rs) {mode:Int} {back:Bool} {m:Nat} {vk vi vm:List Value} {iv msg:Bs} (hvk:vk=bv key) (hvi:vi=bv iv) (hvm:vm=bv msg) (hi:iv.length=if mode=1 then 0 else s) (hmm:msg.length=m) (hmb:m<=100000) (hm:1<=mode/\mode<=6) (hg:m%k6 s mode≠0):
  a7 C 16 [C6 t mode 4 back,.z key.length vk,.z iv.length vi,.z m vm] [] (.ret (.t [g8,i64 7])) []:=by
 subst hvk;subst hvi;subst hvm;have hs:=h.s_le;have K0:MK s mode ⟨iv,[],[]⟩:=MK.new (by omega) (by
  by_cases h1:mode=1
  ·exact .inl h1
  ·rw[if_neg h1]at hi;exact .inr hi)
 have T0:=sb h (back:=back) (st:=⟨iv,[],[]⟩) (m:=m) (vb:=bv msg) K0 hg;have hk3:B7 mode≠3:=by unfold B7;split;decide;rw[if_pos (by omega)];decide
 refine dR.c ?_;refine⟨0,Unit,fun _=>⟨[(3,.z m (bv msg)),(4,.p (.k 0) 0),(12,.p (.k 1) 0),(14,i64 s)],[.mx [i64 t,i64 mode,i64 4,bool back],f8 (d7 t k xs) mode back ⟨iv,[],[]⟩ 2,.dead]⟩,fun _=>True,fun _=>0,?_,fun x hx=> ?_⟩
 ·refine⟨[i64 t,i64 mode,i64 4,bool back],rfl,rfl,?_⟩;refine⟨[],_,_,_,_,cK h rfl ⟨hm.1,by omega⟩ (by decide) (.inl rfl) hi,rfl,rfl,?_⟩;refine⟨_,rfl,?_⟩;refine⟨[],_,_,_,_,ba mode,rfl,rfl,?_⟩;refine i9 (fun hh=>absurd hh hk3) (fun _=> ?_);refine⟨_,rfl,?_⟩;refine⟨_,rfl,?_⟩;refine⟨[],_,_,_,_,dG h (mode:=mode) (back:=back) (i:=1) (iv:=iv) rfl rfl hm hi,rfl,rfl,?_⟩;refine⟨[],_,_,_,_,h.size,rfl,rfl,?_⟩;exact⟨[],(),tq,[.d 4 0,.d 49 0,.d 49 1],⟨rfl,rfl,rfl,rfl,tq⟩,⟨_,rfl,rfl⟩,⟨_,rfl,rfl⟩,⟨_,rfl,rfl⟩,tq⟩
 ·refine⟨Unit,fun _=>⟨[(3,.z m (bv msg)),(4,.p (.k 0) 0),(12,.p (.k 1) 0),(14,i64 s)],[.mx [i64 t,i64 mode,i64 4,bool back],f8 (d7 t k xs) mode back ⟨iv,[],[]⟩ 2,.dead]⟩,fun _=>True,fun _=>0,⟨[],(),tq,[.k 0,.k 1,.k 2],⟨rfl,rfl,rfl,rfl,tq⟩,⟨_,rfl,rfl⟩,⟨_,rfl,rfl⟩,⟨_,rfl,rfl⟩,tq⟩,fun _ _=> ?_⟩;refine⟨_,rfl,?_⟩;refine⟨[.k 1,.k 2],_,_,_,_,T0,rfl,rfl,?_⟩;exact⟨_,rfl,[],rfl,tq⟩
theorem ID {t key s k xs rs} (h:g9 t key s k xs rs) {mode pad:Int} {m:Nat} {vk vi vm:List Value} {iv msg:Bs} (hvk:vk=bv key) (hvi:vi=bv iv) (hvm:vm=bv msg) (hi:iv.length=if mode=1 then 0 else s) (hmm:msg.length=m) (hmb:m<=100000) (hm:1<=mode/\mode<=2) (hp:pad=1\/pad=2\/pad=3):
  a7 C 16 [C6 t mode pad false,.z key.length vk,.z iv.length vi,.z m vm] [] (.ret (.t [.z (m/s*s+s) (bv (f7 (cF t key false) (cF t key true) s mode false ⟨iv,[],[]⟩ (K9 pad s msg)).1),i64 0])) []:=by
 subst hvk;subst hvi;subst hvm;have hs:=h.s_le;have K0:MK s mode ⟨iv,[],[]⟩:=MK.new (by omega) (by
  by_cases h1:mode=1
  ·exact .inl h1
  ·rw[if_neg h1]at hi;exact .inr hi)
 have hs8:s=8\/s=16:=h.s_two;obtain⟨a,ha⟩:∃a,a=m-m%s:=⟨_,rfl⟩;have hml:=Nat.mod_lt m (show 0<s by omega);have hmle:=Nat.mod_le m s;have hdm:=Zx m s;have ham:m/s*s=a:=by rw[Nat.mul_comm]at hdm;omega
 have lT:(msg.drop a).length=m%s:=by rw[Zd];omega
 have lA:(sub msg 0 a).length=a:=by rw[j5];omega
 have hvA:sub (bv msg) 0 a=bv (sub msg 0 a):=k5 _ _ _;have hvT:sub (bv msg) a (m-a)=bv (msg.drop a):=q7 hmm (by omega);have hma:m-a=m%s:=by omega
 have hPU:K9 pad s msg=sub msg 0 a++F8 pad s (msg.drop a):=by unfold K9;rw[hmm,<-ha];rfl
 have lP:=eE (kind:=pad) (tail:=msg.drop a) (size:=s) (by omega);have lU:(K9 pad s msg).length=a+s:=by rw[hPU,Zb,lA,lP]
 have hg:(a+s)%k6 s mode=0:=by
  unfold k6;rw[if_pos (by omega),<-ham,Nat.add_mod_right,Nat.mul_mod_left]
 have cP:=wU (kind:=pad) (s:=s) (vt:=bv (msg.drop a)) hp hs8 rfl lT hml;have lo:(f7 (cF t key false) (cF t key true) s mode false ⟨iv,[],[]⟩ (K9 pad s msg)).1.length=a+s:=by rw[H9 h.ci K0.ok (by rw[lU];exact hg),lU]
 have T0:=gU h (back:=false) (st:=⟨iv,[],[]⟩) (b:=K9 pad s msg) rfl lU (by omega) K0 hg (.inr rfl);rw[ham];generalize f7 (cF t key false) (cF t key true) s mode false ⟨iv,[],[]⟩ (K9 pad s msg)=S0 at*
 obtain⟨o,⟨c1,row1,g1⟩⟩:=S0;dsimp only at T0 lo ⊢;generalize K9 pad s msg=U at*
 generalize F8 pad s (msg.drop a)=PA at*
 have e0:((m:Int).tmod (s:Int))=((m%s:Nat):Int):=by rw[Zl (by omega)];rfl
 have e1:I6.wrap ((m:Int)-(m:Int).tmod (s:Int))=((a:Nat):Int):=by rw[e0,Ze _ (by omega)];omega
 have hk3:B7 mode≠3:=by unfold B7;rw[if_pos (by omega)];decide
 refine dR.c ?_;refine⟨0,Unit,fun _=>⟨[(3,.z m (bv msg)),(4,.p (.k 0) 0),(12,.p (.k 1) 0),(14,i64 s)],[.mx [i64 t,i64 mode,i64 pad,bool false],f8 (d7 t k xs) mode false ⟨iv,[],[]⟩ 2,.dead]⟩,fun _=>True,fun _=>0,?_,fun x hx=> ?_⟩
 ·refine⟨[i64 t,i64 mode,i64 pad,bool false],rfl,rfl,?_⟩;refine⟨[],_,_,_,_,cK h rfl ⟨hm.1,by omega⟩ (by omega) (.inr hm.2) hi,rfl,rfl,?_⟩;refine⟨_,rfl,?_⟩;refine⟨[],_,_,_,_,ba mode,rfl,rfl,?_⟩;refine i9 (fun hh=>absurd hh hk3) (fun _=> ?_);refine⟨_,rfl,?_⟩;refine⟨_,rfl,?_⟩;refine⟨[],_,_,_,_,dG h (mode:=mode) (back:=false) (i:=1) (iv:=iv) rfl rfl ⟨hm.1,by omega⟩ hi,rfl,rfl,?_⟩;refine⟨[],_,_,_,_,h.size,rfl,rfl,?_⟩;exact⟨[],(),tq,[.d 4 0,.d 49 0,.d 49 1],⟨rfl,rfl,rfl,rfl,tq⟩,⟨_,rfl,rfl⟩,⟨_,rfl,rfl⟩,⟨_,rfl,rfl⟩,tq⟩
 ·refine⟨Unit,fun _=>⟨[(3,.z m (bv msg)),(4,.p (.k 0) 0),(12,.p (.k 1) 0),(14,i64 s)],[.mx [i64 t,i64 mode,i64 pad,bool false],f8 (d7 t k xs) mode false ⟨iv,[],[]⟩ 2,.dead]⟩,fun _=>True,fun _=>0,⟨[],(),tq,[.k 0,.k 1,.k 2],⟨rfl,rfl,rfl,rfl,tq⟩,⟨_,rfl,rfl⟩,⟨_,rfl,rfl⟩,⟨_,rfl,rfl⟩,tq⟩,fun _ _=> ?_⟩;refine⟨_,rfl,?_⟩;refine n7 (fun _=> ?_) (fun h4=>absurd h4 (by omega));refine⟨_,rfl,?_⟩;refine⟨by omega,?_⟩;refine⟨_,rfl,?_⟩;refine⟨by rw[e1];omega,by rw[e1];omega,by first|omega|(rw [e1];omega),by first|omega|(rw [e1];omega),?_⟩;refine⟨[],_,_,_,_,cP,?_,rfl,?_⟩
  ·rw[e1];show[i64 pad,i64 s,V.z (m-((a:Nat):Int).toNat) (sub (bv msg) ((a:Nat):Int).toNat (m-((a:Nat):Int).toNat))]=_;rw[Zc,hvT,hma]
  refine⟨by rw[e1];omega,by rw[e1];omega,by first|omega|(rw [e1];omega),by first|omega|(rw [e1];omega),?_⟩;refine⟨[],_,_,_,_,R7 (n:=2) (ls:=[sub msg 0 a,PA]) (t:=U) (by rw[hPU];simp) ?_ rfl (by omega) (by omega),rfl,rfl,?_⟩
  ·rw[e1];show[V.z (((a:Nat):Int).toNat) (sub (bv msg) 0 (((a:Nat):Int).toNat)),V.z s (sub (bv PA) 0 s)]=[V.z _ _,V.z _ _];rw[Zc,hvA,lA,lP,b9 lP]
  rcases row1 with _|⟨a1,r1⟩;all_goals
   refine⟨[.k 1,.k 2],_,_,_,_,T0,?_,rfl,?_⟩
   ·show[V.p (.k 0) 0,V.z U.length (sub (bv U) 0 U.length)]=_;rw[lU,b9 lU]
   refine⟨_,rfl,?_⟩;refine i9 (fun h4=>absurd h4 (by omega)) (fun _=> ?_);refine⟨_,rfl,?_⟩;exact⟨_,rfl,[],rfl,tq⟩
theorem Ix {t key s k xs rs} (h:g9 t key s k xs rs) {mode pad:Int} {m:Nat} {vk vi vm:List Value} {iv msg:Bs} (hvk:vk=bv key) (hvi:vi=bv iv) (hvm:vm=bv msg) (hi:iv.length=if mode=1 then 0 else s) (hmm:msg.length=m) (hmb:m<=100000) (hm:1<=mode/\mode<=2) (hp:pad=1\/pad=2\/pad=3) (h0:m=0):
  a7 C 16 [C6 t mode pad true,.z key.length vk,.z iv.length vi,.z m vm] [] (.ret (.t [g8,i64 7])) []:=by
 subst hvk;subst hvi;subst hvm;have hs:=h.s_le;have hk3:B7 mode≠3:=by unfold B7;rw[if_pos (by omega)];decide
 refine dR.c ?_;refine⟨0,Unit,fun _=>⟨[(3,.z m (bv msg)),(4,.p (.k 0) 0),(12,.p (.k 1) 0),(14,i64 s)],[.mx [i64 t,i64 mode,i64 pad,bool true],f8 (d7 t k xs) mode true ⟨iv,[],[]⟩ 2,.dead]⟩,fun _=>True,fun _=>0,?_,fun x hx=> ?_⟩
 ·refine⟨[i64 t,i64 mode,i64 pad,bool true],rfl,rfl,?_⟩;refine⟨[],_,_,_,_,cK h rfl ⟨hm.1,by omega⟩ (by omega) (.inr hm.2) hi,rfl,rfl,?_⟩;refine⟨_,rfl,?_⟩;refine⟨[],_,_,_,_,ba mode,rfl,rfl,?_⟩;refine i9 (fun hh=>absurd hh hk3) (fun _=> ?_);refine⟨_,rfl,?_⟩;refine⟨_,rfl,?_⟩;refine⟨[],_,_,_,_,dG h (mode:=mode) (back:=true) (i:=1) (iv:=iv) rfl rfl ⟨hm.1,by omega⟩ hi,rfl,rfl,?_⟩;refine⟨[],_,_,_,_,h.size,rfl,rfl,?_⟩;exact⟨[],(),tq,[.d 4 0,.d 49 0,.d 49 1],⟨rfl,rfl,rfl,rfl,tq⟩,⟨_,rfl,rfl⟩,⟨_,rfl,rfl⟩,⟨_,rfl,rfl⟩,tq⟩
 ·refine⟨Unit,fun _=>⟨[(3,.z m (bv msg)),(4,.p (.k 0) 0),(12,.p (.k 1) 0),(14,i64 s)],[.mx [i64 t,i64 mode,i64 pad,bool true],f8 (d7 t k xs) mode true ⟨iv,[],[]⟩ 2,.dead]⟩,fun _=>True,fun _=>0,⟨[],(),tq,[.k 0,.k 1,.k 2],⟨rfl,rfl,rfl,rfl,tq⟩,⟨_,rfl,rfl⟩,⟨_,rfl,rfl⟩,⟨_,rfl,rfl⟩,tq⟩,fun _ _=> ?_⟩;refine⟨_,rfl,?_⟩;refine n7 (fun _=> ?_) (fun h4=>absurd h4 (by omega));refine⟨_,rfl,?_⟩;refine i9 (fun _=> ?_) (fun h4=>absurd (by omega) h4);exact⟨_,rfl,[],rfl,tq⟩
theorem Iy {t key s k xs rs} (h:g9 t key s k xs rs) {mode pad:Int} {m:Nat} {vk vi vm:List Value} {iv msg:Bs} (hvk:vk=bv key) (hvi:vi=bv iv) (hvm:vm=bv msg) (hi:iv.length=if mode=1 then 0 else s) (hmm:msg.length=m) (hmb:m<=100000) (hm:1<=mode/\mode<=2) (hp:pad=1\/pad=2\/pad=3) (h0:m%s≠0):
  a7 C 16 [C6 t mode pad true,.z key.length vk,.z iv.length vi,.z m vm] [] (.ret (.t [g8,i64 7])) []:=by
 subst hvk;subst hvi;subst hvm;have hs:=h.s_le;have K0:MK s mode ⟨iv,[],[]⟩:=MK.new (by omega) (by
  by_cases h1:mode=1
  ·exact .inl h1
  ·rw[if_neg h1]at hi;exact .inr hi)
 have T0:=sb h (back:=true) (st:=⟨iv,[],[]⟩) (m:=m) (vb:=bv msg) K0 (by unfold k6;rw[if_pos (by omega)];exact h0);have hk3:B7 mode≠3:=by unfold B7;rw[if_pos (by omega)];decide
 refine dR.c ?_;refine⟨0,Unit,fun _=>⟨[(3,.z m (bv msg)),(4,.p (.k 0) 0),(12,.p (.k 1) 0),(14,i64 s)],[.mx [i64 t,i64 mode,i64 pad,bool true],f8 (d7 t k xs) mode true ⟨iv,[],[]⟩ 2,.dead]⟩,fun _=>True,fun _=>0,?_,fun x hx=> ?_⟩
 ·refine⟨[i64 t,i64 mode,i64 pad,bool true],rfl,rfl,?_⟩;refine⟨[],_,_,_,_,cK h rfl ⟨hm.1,by omega⟩ (by omega) (.inr hm.2) hi,rfl,rfl,?_⟩;refine⟨_,rfl,?_⟩;refine⟨[],_,_,_,_,ba mode,rfl,rfl,?_⟩;refine i9 (fun hh=>absurd hh hk3) (fun _=> ?_);refine⟨_,rfl,?_⟩;refine⟨_,rfl,?_⟩;refine⟨[],_,_,_,_,dG h (mode:=mode) (back:=true) (i:=1) (iv:=iv) rfl rfl ⟨hm.1,by omega⟩ hi,rfl,rfl,?_⟩;refine⟨[],_,_,_,_,h.size,rfl,rfl,?_⟩;exact⟨[],(),tq,[.d 4 0,.d 49 0,.d 49 1],⟨rfl,rfl,rfl,rfl,tq⟩,⟨_,rfl,rfl⟩,⟨_,rfl,rfl⟩,⟨_,rfl,rfl⟩,tq⟩
 ·refine⟨Unit,fun _=>⟨[(3,.z m (bv msg)),(4,.p (.k 0) 0),(12,.p (.k 1) 0),(14,i64 s)],[.mx [i64 t,i64 mode,i64 pad,bool true],f8 (d7 t k xs) mode true ⟨iv,[],[]⟩ 2,.dead]⟩,fun _=>True,fun _=>0,⟨[],(),tq,[.k 0,.k 1,.k 2],⟨rfl,rfl,rfl,rfl,tq⟩,⟨_,rfl,rfl⟩,⟨_,rfl,rfl⟩,⟨_,rfl,rfl⟩,tq⟩,fun _ _=> ?_⟩;refine⟨_,rfl,?_⟩;refine n7 (fun _=> ?_) (fun h4=>absurd h4 (by omega));refine⟨_,rfl,?_⟩;refine i9 (fun h4=> ?_) (fun _=> ?_)
  ·exact⟨_,rfl,[],rfl,tq⟩
  refine⟨[.k 1,.k 2],_,_,_,_,T0,rfl,rfl,?_⟩;exact⟨_,rfl,[],rfl,tq⟩
theorem Gq:a7 C 120 [.s (.slice none 0 0),i64 0] [] (.ret g8) []:=by
 refine yJ.c ?_;exact⟨_,rfl,[],rfl,tq⟩
theorem rJ:a7 C 65 [.zz 1 2 [.z 0 [],.z 0 []]] [] (.ret (.z 0 [])) []:=by
 have get:∀i:Nat,i<2->([V.z 0 [],V.z 0 []]:List V)[((i:Nat):Int).toNat*1]? =some (.z 0 []):=fun i hi=>by
  rw[Zc,Zs];rcases i with _|_|i
  ·rfl
  ·rfl
  ·omega
 refine yI.c ?_;refine j4 (fun i=>⟨[(0,.zz 1 2 [.z 0 [],.z 0 []]),(3,i64 0),(9,.zz 1 2 [.z 0 [],.z 0 []]),(10,i64 2),(11,i64 i)],[]⟩) 2 ⟨[],⟨rfl,rfl,rfl,rfl,rfl,tq⟩,tq⟩ fun i hi=> ?_;refine b8 (fun a8=> ?_) (fun hge=> ?_)
 ·refine⟨by omega,by omega,?_⟩;refine⟨_,get i (by omega),?_⟩;exact⟨i+1,by omega,by omega,[],⟨rfl,rfl,rfl,rfl,c9 (by simp(disch:=omega)only[Ze];omega),tq⟩,tq⟩
 ·refine⟨[],_,_,_,_,Gq,rfl,rfl,?_⟩;refine A5 (fun i=>⟨[(6,.o 1 (.k 0) 0 0),(25,.zz 1 2 [.z 0 [],.z 0 []]),(26,i64 2),(27,i64 i)],[.sc []]⟩) 2 [(6,1,.sc [])] ⟨[.d 900000 0],⟨rfl,rfl,rfl,rfl,tq⟩,⟨_,rfl,rfl⟩,tq⟩ fun i hi=> ?_;refine b8 (fun a8=> ?_) (fun hge=> ?_)
  ·refine⟨by omega,by omega,?_⟩;refine⟨_,get i (by omega),?_⟩;refine⟨rfl,by omega,Zn _,?_⟩;exact⟨i+1,by omega,by omega,[.d 33 0],⟨rfl,rfl,rfl,c9 (by simp(disch:=omega)only[Ze];omega),tq⟩,⟨_,rfl,rfl⟩,tq⟩
  ·exact⟨_,rfl,[],rfl,tq⟩
theorem Iz {t key s k xs rs} (h:g9 t key s k xs rs) {mode pad:Int} {m:Nat} {vk vi vm:List Value} {iv msg:Bs} (hvk:vk=bv key) (hvi:vi=bv iv) (hvm:vm=bv msg) (hi:iv.length=if mode=1 then 0 else s) (hmm:msg.length=m) (hmb:m<=100000) (hm:1<=mode/\mode<=2) (hp:pad=1\/pad=2\/pad=3) (h0:0<m) (hz:m%s=0) (hL:C3 pad ((f7 (cF t key false) (cF t key true) s mode true ⟨iv,[],[]⟩ msg).1.drop (m-s))=0):
  a7 C 16 [C6 t mode pad true,.z key.length vk,.z iv.length vi,.z m vm] [] (.ret (.t [g8,i64 8])) []:=by
 subst hvk;subst hvi;subst hvm;have hs:=h.s_le;have K0:MK s mode ⟨iv,[],[]⟩:=MK.new (by omega) (by
  by_cases h1:mode=1
  ·exact .inl h1
  ·rw[if_neg h1]at hi;exact .inr hi)
 have hs8:s=8\/s=16:=h.s_two;have hsm:s<=m:=Z8 (by omega) (Zm hz);have hg:m%k6 s mode=0:=by unfold k6;rw[if_pos (by omega)];exact hz
 have lo:(f7 (cF t key false) (cF t key true) s mode true ⟨iv,[],[]⟩ msg).1.length=m:=by rw[H9 h.ci K0.ok (by rw[hmm];exact hg),hmm]
 have T0:=gU h (back:=true) (st:=⟨iv,[],[]⟩) (b:=msg) rfl hmm (by omega) K0 hg (.inr rfl);generalize f7 (cF t key false) (cF t key true) s mode true ⟨iv,[],[]⟩ msg=S0 at*
 obtain⟨o,⟨c1,row1,g1⟩⟩:=S0;dsimp only at T0 lo hL ⊢;have lD:(o.drop (m-s)).length=s:=by rw[Zd,lo];omega
 have e1:I6.wrap ((m:Int)-(s:Int))=((m-s:Nat):Int):=by rw[Ze _ (by omega)];omega
 have hvD:sub (bv o) (m-s) (m-(m-s))=bv (o.drop (m-s)):=q7 lo (by omega);have cS:=xz (vb:=bv (o.drop (m-s))) rfl hp hs8 lD hL;have hk3:B7 mode≠3:=by unfold B7;rw[if_pos (by omega)];decide
 refine dR.c ?_;refine⟨0,Unit,fun _=>⟨[(3,.z m (bv msg)),(4,.p (.k 0) 0),(12,.p (.k 1) 0),(14,i64 s)],[.mx [i64 t,i64 mode,i64 pad,bool true],f8 (d7 t k xs) mode true ⟨iv,[],[]⟩ 2,.dead]⟩,fun _=>True,fun _=>0,?_,fun x hx=> ?_⟩
 ·refine⟨[i64 t,i64 mode,i64 pad,bool true],rfl,rfl,?_⟩;refine⟨[],_,_,_,_,cK h rfl ⟨hm.1,by omega⟩ (by omega) (.inr hm.2) hi,rfl,rfl,?_⟩;refine⟨_,rfl,?_⟩;refine⟨[],_,_,_,_,ba mode,rfl,rfl,?_⟩;refine i9 (fun hh=>absurd hh hk3) (fun _=> ?_);refine⟨_,rfl,?_⟩;refine⟨_,rfl,?_⟩;refine⟨[],_,_,_,_,dG h (mode:=mode) (back:=true) (i:=1) (iv:=iv) rfl rfl ⟨hm.1,by omega⟩ hi,rfl,rfl,?_⟩;refine⟨[],_,_,_,_,h.size,rfl,rfl,?_⟩;exact⟨[],(),tq,[.d 4 0,.d 49 0,.d 49 1],⟨rfl,rfl,rfl,rfl,tq⟩,⟨_,rfl,rfl⟩,⟨_,rfl,rfl⟩,⟨_,rfl,rfl⟩,tq⟩
 ·refine⟨Unit,fun _=>⟨[(3,.z m (bv msg)),(4,.p (.k 0) 0),(12,.p (.k 1) 0),(14,i64 s)],[.mx [i64 t,i64 mode,i64 pad,bool true],f8 (d7 t k xs) mode true ⟨iv,[],[]⟩ 2,.dead]⟩,fun _=>True,fun _=>0,⟨[],(),tq,[.k 0,.k 1,.k 2],⟨rfl,rfl,rfl,rfl,tq⟩,⟨_,rfl,rfl⟩,⟨_,rfl,rfl⟩,⟨_,rfl,rfl⟩,tq⟩,fun _ _=> ?_⟩;refine⟨_,rfl,?_⟩;refine n7 (fun _=> ?_) (fun h4=>absurd h4 (by omega));refine⟨_,rfl,?_⟩;refine i9 (fun h4=>absurd h4 (by omega)) (fun _=> ?_);rcases row1 with _|⟨a1,r1⟩;all_goals
   refine⟨[.k 1,.k 2],_,_,_,_,T0,rfl,rfl,?_⟩;refine⟨_,rfl,?_⟩;refine i9 (fun h4=>absurd h4 (by omega)) (fun _=> ?_);refine⟨_,rfl,?_⟩;refine⟨_,rfl,?_⟩;refine⟨by rw[e1];omega,by rw[e1];omega,by first|omega|(rw [e1];omega),by first|omega|(rw [e1];omega),?_⟩;refine⟨[],_,_,_,_,cS,?_,rfl,?_⟩
   ·rw[e1];show[i64 pad,i64 s,V.z (m-((m-s:Nat):Int).toNat) (sub (bv o) ((m-s:Nat):Int).toNat (m-((m-s:Nat):Int).toNat))]=_;rw[Zc,hvD,show m-(m-s)=s by omega]
   exact⟨_,rfl,[],rfl,tq⟩
theorem IB {t key s k xs rs} (h:g9 t key s k xs rs) {mode pad:Int} {m:Nat} {vk vi vm:List Value} {iv msg:Bs} (hvk:vk=bv key) (hvi:vi=bv iv) (hvm:vm=bv msg) (hi:iv.length=if mode=1 then 0 else s) (hmm:msg.length=m) (hmb:m<=100000) (hm:1<=mode/\mode<=2) (hp:pad=1\/pad=2\/pad=3) (h0:0<m) (hz:m%s=0) (hL:C3 pad ((f7 (cF t key false) (cF t key true) s mode true ⟨iv,[],[]⟩ msg).1.drop (m-s))≠0):
  a7 C 16 [C6 t mode pad true,.z key.length vk,.z iv.length vi,.z m vm] [] (.ret (.t [.z (m-C3 pad ((f7 (cF t key false) (cF t key true) s mode true ⟨iv,[],[]⟩ msg).1.drop (m-s))) (bv ((f7 (cF t key false) (cF t key true) s mode true ⟨iv,[],[]⟩ msg).1.take (m-s)++S4 pad ((f7 (cF t key false) (cF t key true) s mode true ⟨iv,[],[]⟩ msg).1.drop (m-s)))),i64 0])) []:=by
 subst hvk;subst hvi;subst hvm;have hs:=h.s_le;have K0:MK s mode ⟨iv,[],[]⟩:=MK.new (by omega) (by
  by_cases h1:mode=1
  ·exact .inl h1
  ·rw[if_neg h1]at hi;exact .inr hi)
 have hs8:s=8\/s=16:=h.s_two;have hsm:s<=m:=Z8 (by omega) (Zm hz);have hg:m%k6 s mode=0:=by unfold k6;rw[if_pos (by omega)];exact hz
 have lo:(f7 (cF t key false) (cF t key true) s mode true ⟨iv,[],[]⟩ msg).1.length=m:=by rw[H9 h.ci K0.ok (by rw[hmm];exact hg),hmm]
 have T0:=gU h (back:=true) (st:=⟨iv,[],[]⟩) (b:=msg) rfl hmm (by omega) K0 hg (.inr rfl);generalize f7 (cF t key false) (cF t key true) s mode true ⟨iv,[],[]⟩ msg=S0 at*
 obtain⟨o,⟨c1,row1,g1⟩⟩:=S0;dsimp only at T0 lo hL ⊢;have lD:(o.drop (m-s)).length=s:=by rw[Zd,lo];omega
 have e1:I6.wrap ((m:Int)-(s:Int))=((m-s:Nat):Int):=by rw[Ze _ (by omega)];omega
 have hvD:sub (bv o) (m-s) (m-(m-s))=bv (o.drop (m-s)):=q7 lo (by omega);have cS:=xy (vb:=bv (o.drop (m-s))) rfl hp hs8 lD hL;have hle:=ue pad (o.drop (m-s));rw[lD]at hle;have lSt:(S4 pad (o.drop (m-s))).length=s-C3 pad (o.drop (m-s)):=by unfold S4;rw[Zi,lD];omega
 have lTk:(o.take (m-s)).length=m-s:=by rw[Zi,lo];omega
 have hvT:sub (bv o) 0 (m-s)=bv (o.take (m-s)):=k5 _ _ _;generalize S4 pad (o.drop (m-s))=ST at*
 generalize C3 pad (o.drop (m-s))=c at*
 generalize o.take (m-s)=TK at*
 have hk3:B7 mode≠3:=by unfold B7;rw[if_pos (by omega)];decide
 refine dR.c ?_;refine⟨0,Unit,fun _=>⟨[(3,.z m (bv msg)),(4,.p (.k 0) 0),(12,.p (.k 1) 0),(14,i64 s)],[.mx [i64 t,i64 mode,i64 pad,bool true],f8 (d7 t k xs) mode true ⟨iv,[],[]⟩ 2,.dead]⟩,fun _=>True,fun _=>0,?_,fun x hx=> ?_⟩
 ·refine⟨[i64 t,i64 mode,i64 pad,bool true],rfl,rfl,?_⟩;refine⟨[],_,_,_,_,cK h rfl ⟨hm.1,by omega⟩ (by omega) (.inr hm.2) hi,rfl,rfl,?_⟩;refine⟨_,rfl,?_⟩;refine⟨[],_,_,_,_,ba mode,rfl,rfl,?_⟩;refine i9 (fun hh=>absurd hh hk3) (fun _=> ?_);refine⟨_,rfl,?_⟩;refine⟨_,rfl,?_⟩;refine⟨[],_,_,_,_,dG h (mode:=mode) (back:=true) (i:=1) (iv:=iv) rfl rfl ⟨hm.1,by omega⟩ hi,rfl,rfl,?_⟩;refine⟨[],_,_,_,_,h.size,rfl,rfl,?_⟩;exact⟨[],(),tq,[.d 4 0,.d 49 0,.d 49 1],⟨rfl,rfl,rfl,rfl,tq⟩,⟨_,rfl,rfl⟩,⟨_,rfl,rfl⟩,⟨_,rfl,rfl⟩,tq⟩
 ·refine⟨Unit,fun _=>⟨[(3,.z m (bv msg)),(4,.p (.k 0) 0),(12,.p (.k 1) 0),(14,i64 s)],[.mx [i64 t,i64 mode,i64 pad,bool true],f8 (d7 t k xs) mode true ⟨iv,[],[]⟩ 2,.dead]⟩,fun _=>True,fun _=>0,⟨[],(),tq,[.k 0,.k 1,.k 2],⟨rfl,rfl,rfl,rfl,tq⟩,⟨_,rfl,rfl⟩,⟨_,rfl,rfl⟩,⟨_,rfl,rfl⟩,tq⟩,fun _ _=> ?_⟩;refine⟨_,rfl,?_⟩;refine n7 (fun _=> ?_) (fun h4=>absurd h4 (by omega));refine⟨_,rfl,?_⟩;refine i9 (fun h4=>absurd h4 (by omega)) (fun _=> ?_);rcases row1 with _|⟨a1,r1⟩;all_goals
   refine⟨[.k 1,.k 2],_,_,_,_,T0,rfl,rfl,?_⟩;refine⟨_,rfl,?_⟩;refine i9 (fun h4=>absurd h4 (by omega)) (fun _=> ?_);refine⟨_,rfl,?_⟩;refine⟨_,rfl,?_⟩;refine⟨by rw[e1];omega,by rw[e1];omega,by first|omega|(rw [e1];omega),by first|omega|(rw [e1];omega),?_⟩;refine⟨[],_,_,_,_,cS,?_,rfl,?_⟩
   ·rw[e1];show[i64 pad,i64 s,V.z (m-((m-s:Nat):Int).toNat) (sub (bv o) ((m-s:Nat):Int).toNat (m-((m-s:Nat):Int).toNat))]=_;rw[Zc,hvD,show m-(m-s)=s by omega]
   refine⟨by rw[e1];omega,by rw[e1];omega,by first|omega|(rw [e1];omega),by first|omega|(rw [e1];omega),?_⟩;by_cases hne:m-c=0
   ·obtain rfl:TK=[]:=Zf (by omega);obtain rfl:ST=[]:=Zf (by omega);refine⟨[],_,_,_,_,rJ,?_,rfl,?_⟩
    ·rw[e1];show[V.zz 1 2 [V.z (((m-s:Nat):Int).toNat) (sub (bv o) 0 (((m-s:Nat):Int).toNat)),V.z (s-c) (bv [])]]=_;rw[Zc,show m-s=0 by omega,show s-c=0 by omega];rfl
    refine⟨_,rfl,[],?_,tq⟩;rw[hne];rfl
   ·refine⟨[],_,_,_,_,R7 (n:=2) (ls:=[TK,ST]) (t:=TK++ST) (by simp) ?_ rfl (by rw[Zb];omega) (by rw[Zb];omega),rfl,rfl,?_⟩
    ·rw[e1];show[V.z (((m-s:Nat):Int).toNat) (sub (bv o) 0 (((m-s:Nat):Int).toNat)),V.z (s-c) (bv ST)]=[V.z _ _,V.z _ _];rw[Zc,hvT,lTk,lSt]
    have lc:(TK++ST).length=m-c:=by rw[Zb];omega
    rw[lc];exact⟨_,rfl,[],congrArg (fun z=>V.t [z,i64 0]) (congrArg (V.z (m-c)) (b9 lc)),tq⟩
theorem a7.out {f:FuncId} {args:List V} {r r':V} (hc:a7 C f args [] (.ret r) []) (h:Wk r r'):a7 C f args [] (.ret r') []:=
 ⟨hc.1,fun w F ι vs a b c d=>(hc.2 w F ι vs a b c d).mono fun e w' ⟨F',ι',h1,h2,h3,h4,h5,hoc⟩=>⟨F',ι',h1,h2,h3,h4,h5,ap.oc (.ret h) hoc⟩⟩
abbrev bA (r:Bs×Int):V:= .t [.z r.1.length (bv r.1),i64 r.2]
theorem pB {f args} {r:Bs×Int} {l:Nat} {o:Bs} (e:r=(o,0)) (hl:o.length=l) (P:a7 C f args [] (.ret (.t [.z l (bv o),i64 0])) []):a7 C f args [] (.ret (bA r)) []:=by
 subst e;subst hl;exact P
theorem mz {f args} {r:Bs×Int} {e:Int} (h:r=([],e)) (P:a7 C f args [] (.ret (.t [g8,i64 e])) []):a7 C f args [] (.ret (bA r)) []:=by
 subst h;exact P.out (.t (.cons .nl (.cons (.refl _) .nil)))
theorem Bj (t:Int) {key:Bs} {lk:Nat} (hk:key.length=lk) (hlk:lk<=1000) (mode pad:Int) (back:Bool) {iv:Bs} {li:Nat} (hi:iv.length=li):
  (P0 t mode pad (B6 t).toNat lk li=0/\∃s k xs rs,g9 t key s k xs rs/\D1 s mode pad iv)\/
  (P0 t mode pad (B6 t).toNat lk li≠0/\a7 C 59 [C6 t mode pad back,.z lk (bv key),.z li (bv iv)] [] (.ret (.t [j6,i64 (P0 t mode pad (B6 t).toNat lk li)])) []/\
   a7 C 99 [C6 t mode pad back,.z lk (bv key),.z li (bv iv)] [] (.ret (i64 (P0 t mode pad (B6 t).toNat lk li))) []):=by
 subst hk;subst hi;by_cases ht:q6 t
 ·by_cases hv:(key.length:Int)∈m7 t
  ·obtain⟨s,k,xs,rs,h⟩:=xO (key:=key) ht hv;have hs:(B6 t).toNat=s:=by rw[h.hs,Zc]
   rw[hs];by_cases hmp:(1<=mode/\mode<=9)/\(1<=pad/\pad<=4)/\(pad=4\/mode<=2)
   ·by_cases hli:iv.length=if mode=1 then 0 else s
    ·left;refine⟨?_,s,k,xs,rs,h,hmp.1,hmp.2.1,hmp.2.2,hli⟩;unfold P0;rw[if_neg (by exact fun x=>x ht),if_neg (by exact fun x=>x hv),if_neg (by exact fun x=>x hmp),if_neg (by exact fun x=>x hli)]
    ·right;have e:P0 t mode pad s key.length iv.length=5:=by
      unfold P0;rw[if_neg (by exact fun x=>x ht),if_neg (by exact fun x=>x hv),if_neg (by exact fun x=>x hmp),if_pos hli]
     rw[e];exact⟨by decide,GN h rfl hmp.1 hmp.2.1 hmp.2.2 hli,Im h rfl hmp.1 hmp.2.1 hmp.2.2 hli⟩
   ·right;have e:P0 t mode pad s key.length iv.length=3:=by
     unfold P0;rw[if_neg (by exact fun x=>x ht),if_neg (by exact fun x=>x hv),if_pos hmp]
    rw[e];exact⟨by decide,GO h rfl hmp,Ip h rfl hmp⟩
  ·right;have e:P0 t mode pad (B6 t).toNat key.length iv.length=4:=by
    unfold P0;rw[if_neg (by exact fun x=>x ht),if_pos hv]
   rw[e];exact⟨by decide,wT (GJ ht (by omega) hv) (by decide),xi (Hf ht hv) (by decide)⟩
 ·right;have e:P0 t mode pad (B6 t).toNat key.length iv.length=2:=by
   unfold P0;rw[if_pos ht]
  rw[e];exact⟨by decide,wT (GK ht) (by decide),xi (Hg ht) (by decide)⟩
theorem xG {a n:Int} (hn:0<n) (hn2:n<=4611686018427387904) (ha: -9223372036854775808<=a/\a<=9223372036854775807):a7 C 51 [i64 a,i64 n] [] (.ret (i64 (a%n))) []:=by
 refine MW.c ?_;have h1: -n<a.tmod n:=Int.lt_tmod_of_pos a hn;have h2:a.tmod n<n:=Int.tmod_lt_of_pos a hn;refine⟨by omega,?_⟩;refine b8 (fun h=> ?_) (fun h=> ?_)
 ·refine⟨_,rfl,[],c9 ?_,tq⟩;rw[Ze _ (by omega)];rw[<-jQ a n hn,Zl (a:=a.tmod n+n) (by omega),Int.emod_eq_of_lt (by omega) (by omega)]
 ·refine⟨_,rfl,[],c9 ?_,tq⟩;rw[<-jQ a n hn,Zl (a:=a.tmod n+n) (by omega),Int.add_emod_right,Int.emod_eq_of_lt (by omega) (by omega)]
abbrev ra (tag n mode pad:Int) (back:Bool) (lk:Nat) (k:Bs) (li:Nat) (iv:Bs):V:= .a [i64 tag,i64 n,i64 mode,i64 pad,bool back,.z lk (bv k),.z li (bv iv)]
abbrev mZ (a:Int):Prop:= -9223372036854775808<=a/\a<=9223372036854775807
theorem a0x {tag n mode pad:Int} {back:Bool} {lk li:Nat} {k iv:Bs} (h:lk<=100/\li<=100):a7 C 11 [ra tag n mode pad back lk k li iv] [] (.ret (bool true)) []:=by
 refine yx.c ?_;refine⟨_,rfl,?_⟩;refine b8 (fun _=> ?_) (fun hh=>absurd hh (by omega));refine⟨_,rfl,?_⟩;exact⟨_,rfl,[],congrArg bool (decide_eq_true (by omega)),tq⟩
theorem a0w {tag n mode pad:Int} {back:Bool} {lk li:Nat} {k iv:Bs} (h:¬(lk<=100/\li<=100)):a7 C 11 [ra tag n mode pad back lk k li iv] [] (.ret (bool false)) []:=by
 refine yx.c ?_;refine⟨_,rfl,?_⟩;refine b8 (fun _=> ?_) (fun hh=> ?_)
 ·refine⟨_,rfl,?_⟩;exact⟨_,rfl,[],congrArg bool (decide_eq_false (by omega)),tq⟩
 ·exact⟨_,rfl,[],rfl,tq⟩
def T3 (mode:Int):Int:=1+mode%9
def eV (mode pad:Int):Int:=if T3 mode<=2 then 1+pad%4 else 4
theorem El (mode:Int):1<=T3 mode/\T3 mode<=9:=by unfold T3;omega
theorem vR (mode pad:Int):(1<=eV mode pad/\eV mode pad<=4)/\(eV mode pad=4\/T3 mode<=2):=by
 unfold eV;split
 ·omega
 ·exact⟨by decide,.inl rfl⟩
theorem a0s (mode pad:Int) (s:Nat) (iv:Bs):D1 s (T3 mode) (eV mode pad) (jy (T3 mode) s iv):=
 ⟨El _,(vR mode pad).1,(vR mode pad).2,Qt _ _ _⟩
theorem a0v {tag n mode pad:Int} {back:Bool} {lk li s:Nat} {k iv:Bs} (h0:mZ tag) (h1:mZ n) (h2:mZ mode) (h3:mZ pad) (hk:k.length=lk) (hi:iv.length=li) (hs:B6 (O4 tag)=s) (hs2:s<=16):
  a7 C 13 [ra tag n mode pad back lk k li iv] [] (.ret (.t [C6 (O4 tag) (T3 mode) (eV mode pad) back,.z (bn (O4 tag) n) (bv (jA (O4 tag) n k)),.z (mg (T3 mode) s) (bv (jy (T3 mode) s iv))])) []:=by
 have e1:I6.wrap (1+mode%9)=T3 mode:=by rw[Ze _ (by omega)];rfl
 have e2:I6.wrap (1+pad%4)=1+pad%4:=by rw[Ze _ (by omega)]
 have hR:a7 C 23 [i64 (O4 tag)] [] (.ret (i64 s)) []:=by rw[<-hs];exact rV (pZ _)
 refine MV.c ?_;refine⟨_,rfl,?_⟩;refine⟨[],_,_,_,_,IR h0,rfl,rfl,?_⟩;refine⟨_,rfl,?_⟩;refine⟨[],_,_,_,_,xG (a:=mode) (n:=9) (by omega) (by omega) h2,rfl,rfl,?_⟩;refine⟨_,rfl,?_⟩;refine⟨Za rfl,?_⟩;refine⟨_,rfl,?_⟩;have hL:∀{vk:List Value},vk=bv k->a7 C 21 [i64 (O4 tag),i64 n,.z lk vk] [] (.ret (.z (bn (O4 tag) n) (bv (jA (O4 tag) n k)))) []:=fun e=>GB (pZ _) h1 e hk;have hI:=GA (mode:=T3 mode) (s:=s) (vb:=bv iv) rfl hi (by omega);refine b8 (fun hm=> ?_) (fun hm=> ?_)
 ·rw[e1]at hm;refine⟨_,rfl,?_⟩;refine⟨[],_,_,_,_,xG (a:=pad) (n:=4) (by omega) (by omega) h3,rfl,rfl,?_⟩;refine⟨Za rfl,?_⟩;rw[e1,e2];have hp:eV mode pad=1+pad%4:=if_pos hm;rw[hp];refine⟨[i64 (O4 tag),i64 (T3 mode),i64 (1+pad%4),bool back],rfl,rfl,?_⟩;refine⟨_,rfl,?_⟩;refine⟨_,rfl,?_⟩;refine⟨[],_,_,_,_,hL rfl,rfl,rfl,?_⟩;refine⟨_,rfl,?_⟩;refine⟨[],_,_,_,_,hR,rfl,rfl,?_⟩;refine⟨_,rfl,?_⟩;refine⟨[],_,_,_,_,hI,rfl,rfl,?_⟩;refine⟨Za rfl,?_⟩;refine⟨[i64 (O4 tag),i64 (T3 mode),i64 (1+pad%4),bool back],rfl,rfl,?_⟩;exact⟨_,rfl,[],rfl,tq⟩
 ·rw[e1]at hm;rw[e1];have hp:eV mode pad=4:=if_neg hm;rw[hp];refine⟨[i64 (O4 tag),i64 (T3 mode),i64 4,bool back],rfl,rfl,?_⟩;refine⟨_,rfl,?_⟩;refine⟨_,rfl,?_⟩;refine⟨[],_,_,_,_,hL rfl,rfl,rfl,?_⟩;refine⟨_,rfl,?_⟩;refine⟨[],_,_,_,_,hR,rfl,rfl,?_⟩;refine⟨_,rfl,?_⟩;refine⟨[],_,_,_,_,hI,rfl,rfl,?_⟩;refine⟨Za rfl,?_⟩;refine⟨[i64 (O4 tag),i64 (T3 mode),i64 4,bool back],rfl,rfl,?_⟩;exact⟨_,rfl,[],rfl,tq⟩
theorem a0u (tag n:Int) (k:Bs):∃s q xs rs,g9 (O4 tag) (jA (O4 tag) n k) s q xs rs:=JT tag n k
theorem JQ (t:Int) {key:Bs} {lk:Nat} (hk:key.length=lk) (hlk:lk<=1000) (mode pad:Int) (back:Bool) {iv:Bs} {li:Nat} (hi:iv.length=li):
  a7 C 89 [C6 t mode pad back,.z lk (bv key),.z li (bv iv)] [] (.ret (i64 (P0 t mode pad (B6 t).toNat lk li))) []/\
  a7 C 99 [C6 t mode pad back,.z lk (bv key),.z li (bv iv)] [] (.ret (i64 (P0 t mode pad (B6 t).toNat lk li))) []:=by
 rcases Bj t hk hlk mode pad back hi with ⟨e,s,k,xs,rs,h,ok⟩|⟨he,P,Q⟩
 ·obtain⟨o1,o2,o3,o4⟩:=ok;subst hk;subst hi;have P:=cK h (back:=back) (vi:=bv iv) rfl o1 o2 o3 o4;have Q:=Iq h (back:=back) (vi:=bv iv) rfl o1 o2 o3 o4;rw[e];refine⟨?_,Q⟩;refine yG.c ?_;refine⟨[i64 t,i64 mode,i64 pad,bool back],rfl,rfl,?_⟩;refine⟨[],_,_,_,_,P,rfl,rfl,?_⟩;exact⟨_,rfl,[],rfl,tq⟩
 ·refine⟨?_,Q⟩;generalize P0 t mode pad (B6 t).toNat lk li=e at*
  refine yG.c ?_;refine⟨[i64 t,i64 mode,i64 pad,bool back],rfl,rfl,?_⟩;refine⟨[],_,_,_,_,P,rfl,rfl,?_⟩;exact⟨_,rfl,[],rfl,tq⟩
theorem JN (x y:Value) (w:World):
  CallsD PP 93 #[x,y] .returning w fun e u' w'=>e= .returned (.tuple #[])/\u'= .returning/\w'=w:=by
 refine callsD_of_wpS oB.f rfl fun c₀ cs hu=> ?_;apply wpS_seq;apply wpS_region;simp[wpOpsS,go_sem,recoverD,hu,Exit.thenS];refine wpS_of_wp ?_;refine wp_block ?_;refine wp_seq ?_;refine wp_region ?_;simp[wpOps,go_sem,Exit.then];refine .inl ?_;refine wp_cond (t:=true) ?_ ?_
 ·simp[go_sem]
 simp only[if_true];refine wp_region ?_;simp[wpOps,go_sem,Exit.then,bodyPostS,results];cases c₀
 simp_all
theorem JO (p q:Addr) (n:Int) (w:World) (h1:(w.cell? p).isSome=true) (h2:w.frozen? p=false) (h3:((w.setCell p (.slice none 0 0)).cell? q).isSome=true) (h4:(w.setCell p (.slice none 0 0)).frozen? q=false):
  CallsD PP 93 #[.pointer (some p),.pointer (some q)] (.panicking [{v:= .iface X0 (.int .i64 n),recovered:=false}]) w fun e u' w'=>
   e= .returned (.tuple #[])/\u'= .panicking [{v:= .iface X0 (.int .i64 n),recovered:=true}]/\w'=(w.setCell p (.slice none 0 0)).setCell q (.int .i64 n):=by
 obtain⟨x1,hx1⟩:=Z7.1 h1;obtain⟨x2,hx2⟩:=Z7.1 h3;have hta:∀(v:Value) (w:World),(Instr.typeAssert (.iface X0 v) WG X0 true).run PP w= .ok (.tuple #[v,.bool true]) w:=fun v w=>by kernel_rfl
 refine callsD_of_wpS oB.f rfl fun c₀ cs hu=> ?_;apply wpS_seq;apply wpS_region;simp[wpOpsS,go_sem,recoverD,hu,Exit.thenS];refine wpS_of_wp ?_;refine wp_block ?_;refine wp_seq ?_;refine wp_region ?_;simp[wpOps,go_sem,Exit.then];refine .inl ?_;refine wp_cond (t:=false) ?_ ?_
 ·simp[go_sem]
 simp only[if_false,Bool.false_eq_true];refine wp_seq ?_;refine wp_region ?_;simp[wpOps,go_sem,Exit.then,hta];refine .inl (.inl (.inl ?_));refine wp_cond (t:=true) ?_ ?_
 ·simp[go_sem]
 simp only[if_true];refine wp_seq ?_;refine wp_region ?_;simp[wpOps,go_sem,Exit.then];refine .inl ?_;refine wp_region ?_;simp[wpOps,go_sem,Exit.then,hx1,h2,hx2,h4,bodyPostS,results]
theorem bd:qz PP 93 X0:=⟨fun z w=>gV oB.f oB.name rfl z w,JN,JO⟩
theorem dI:a7 C 159 [i64 0] [] (.ret (.t [])) []:=by
 refine yr.c ?_;exact⟨_,rfl,[],rfl,tq⟩
theorem nM {e:Int} (h:e≠0):a7 C 159 [i64 e] [] (.pan (.i X0 (i64 e))) []:=by
 refine yr.c ?_;refine n7 (fun _=> ?_) (fun hh=>absurd hh h);exact⟨_,rfl,[],rfl,tq⟩
abbrev D6 (bg op:Bool) (t mode pad:Int) (back:Bool) (cv iv by' held a9:V):B:= .mx [bool bg,bool op,i64 t,i64 mode,i64 pad,bool back,cv,iv,by',held,a9]
theorem wG:a7 C 29 [] [] (.ret (.p (.k 0) 0)) [D6 false false 0 0 0 false j6 g8 j6 g8 g8]:=by
 refine Mn.c ?_;exact⟨_,rfl,[.d 2 0],rfl,⟨_,rfl,rfl⟩,tq⟩
inductive HK where
 |n
 |o (H:Bs)
 |f (H:Bs)
def HK.v:HK->V
 | .n=>g8
 | .o H=> .o 1 (.k 3) 0 H.length
 | .f H=> .z H.length (bv H)
def HK.b:HK->B
 | .o H=> .sc (bv H)
 |_=> .dead
def HK.l:HK->Bs
 | .n=>[]
 | .o H=>H
 | .f H=>H
abbrev k7 (op:Bool) (t mode pad:Int) (back:Bool) (k:Nat) (xs:List V) (iv:Bs) (x:HK) (a9:Bs):B:=D6 true op t mode pad back (d7 t k xs) (.z iv.length (bv iv)) (.p (.k 1) 0) x.v (.z a9.length (bv a9))
theorem ja {t mode pad md:Int} {back:Bool} {k:Nat} {xs:List V} {iv a9:Bs} {st:MS} {x:HK}:a7 C 94 [.p (.k 0) 0] [k7 true t mode pad back k xs iv x a9,f8 (d7 t k xs) md back st 2,i6 st.row st.gone,x.b] (.ret (.t [])) [k7 true t mode pad back k xs iv x a9,f8 (d7 t k xs) md back st 2,i6 st.row st.gone,x.b]:=by
 obtain⟨ch,row,g⟩:=st;rcases row with _|⟨a,r⟩<;>rcases x with _|H|H;all_goals
  refine Mm.c ?_;refine⟨_,rfl,?_⟩;exact⟨_,rfl,[.k 0,.k 1,.k 2,.k 3],rfl,⟨_,rfl,rfl⟩,⟨_,rfl,rfl⟩,⟨_,rfl,rfl⟩,⟨_,rfl,rfl⟩,tq⟩
theorem rK {t mode pad md:Int} {op back:Bool} {k:Nat} {xs:List V} {iv a9:Bs} {st:MS} {x:HK} (hm:mode<=9):a7 C 158 [.p (.k 0) 0] [k7 op t mode pad back k xs iv x a9,f8 (d7 t k xs) md back st 2,i6 st.row st.gone,x.b] (.ret (bool (decide (7<=mode)))) [k7 op t mode pad back k xs iv x a9,f8 (d7 t k xs) md back st 2,i6 st.row st.gone,x.b]:=by
 obtain⟨ch,row,g⟩:=st;rcases row with _|⟨a,r⟩<;>rcases x with _|H|H;all_goals
  refine sI.c ?_;refine⟨_,rfl,?_⟩;refine b8 (fun h7=> ?_) (fun h7=> ?_)
  ·refine⟨_,rfl,?_⟩;refine⟨_,rfl,[.k 0,.k 1,.k 2,.k 3],?_,⟨_,rfl,rfl⟩,⟨_,rfl,rfl⟩,⟨_,rfl,rfl⟩,⟨_,rfl,rfl⟩,tq⟩;exact congrArg bool (by rw[decide_eq_true hm,decide_eq_true h7])
  ·refine⟨_,rfl,[.k 0,.k 1,.k 2,.k 3],?_,⟨_,rfl,rfl⟩,⟨_,rfl,rfl⟩,⟨_,rfl,rfl⟩,⟨_,rfl,rfl⟩,tq⟩;exact congrArg bool (by rw[decide_eq_false h7])
def C1 (s:Nat) (md mode pad:Int) (back:Bool):Nat:=if 3<=md then 0 else if 7<=mode then 2*s else if pad≠4/\back=true then s else s-1
theorem wF {t key s k xs rs} (h:g9 t key s k xs rs) {mode pad md:Int} {op back:Bool} {iv a9:Bs} {st:MS} {x:HK} (K:MK s md st) (hm:mode<=9):
  a7 C 95 [.p (.k 0) 0] [k7 op t mode pad back k xs iv x a9,f8 (d7 t k xs) md back st 2,i6 st.row st.gone,x.b] (.ret (i64 (C1 s md mode pad back))) [k7 op t mode pad back k xs iv x a9,f8 (d7 t k xs) md back st 2,i6 st.row st.gone,x.b]:=by
 have hs:=h.s_le;have G:=rO h (back:=back) K;have S:=rK (t:=t) (mode:=mode) (pad:=pad) (md:=md) (op:=op) (back:=back) (k:=k) (xs:=xs) (iv:=iv) (a9:=a9) (st:=st) (x:=x) hm;have hg:k6 s md=if 3<=md then 1 else s:=by
  have:=K.ok.m;unfold k6;by_cases h3:3<=md
  ·rw[if_pos h3,if_neg (by omega)]
  ·rw[if_neg h3,if_pos (by omega)]
 generalize k6 s md=gr at*
 have e2:I6.wrap (2*(s:Int))=((2*s:Nat):Int):=by rw[Ze _ (by omega)];omega
 have e3:I6.wrap ((s:Int)-1)=((s-1:Nat):Int):=by rw[Ze _ (by omega)];omega
 obtain⟨ch,row,g⟩:=st;rcases row with _|⟨a,r⟩<;>rcases x with _|H|H;all_goals
  refine Ml.c ?_;refine⟨_,rfl,?_⟩;refine⟨[],_,_,_,_,h.size,rfl,rfl,?_⟩;refine⟨_,rfl,?_⟩;refine⟨[.k 1,.k 2],_,_,_,_,G,rfl,rfl,?_⟩;by_cases h3:3<=md
  ·rw[if_pos h3]at hg;refine i9 (fun _=> ?_) (fun hh=>absurd (by omega) hh);refine⟨_,rfl,[.k 0,.k 1,.k 2,.k 3],?_,⟨_,rfl,rfl⟩,⟨_,rfl,rfl⟩,⟨_,rfl,rfl⟩,⟨_,rfl,rfl⟩,tq⟩;exact c9 (by unfold C1;rw[if_pos h3];rfl)
  ·rw[if_neg h3]at hg;refine i9 (fun hh=>absurd hh (by omega)) (fun _=> ?_);refine⟨[.k 0,.k 1,.k 2,.k 3],_,_,_,_,S,rfl,rfl,?_⟩;refine b8 (fun h7=> ?_) (fun h7=> ?_)
   ·refine⟨_,rfl,[.k 0,.k 1,.k 2,.k 3],?_,⟨_,rfl,rfl⟩,⟨_,rfl,rfl⟩,⟨_,rfl,rfl⟩,⟨_,rfl,rfl⟩,tq⟩;exact c9 (by unfold C1;rw[if_neg h3,if_pos h7];exact e2)
   ·refine⟨_,rfl,?_⟩;refine n7 (fun h4=> ?_) (fun h4=> ?_)
    ·refine⟨_,rfl,?_⟩;cases back
     ·refine⟨_,rfl,[.k 0,.k 1,.k 2,.k 3],?_,⟨_,rfl,rfl⟩,⟨_,rfl,rfl⟩,⟨_,rfl,rfl⟩,⟨_,rfl,rfl⟩,tq⟩;exact c9 (by unfold C1;rw[if_neg h3,if_neg h7,if_neg (by simp)];exact e3)
     ·refine⟨_,rfl,[.k 0,.k 1,.k 2,.k 3],?_,⟨_,rfl,rfl⟩,⟨_,rfl,rfl⟩,⟨_,rfl,rfl⟩,⟨_,rfl,rfl⟩,tq⟩;exact c9 (by unfold C1;rw[if_neg h3,if_neg h7,if_pos ⟨h4,rfl⟩])
    ·refine⟨_,rfl,[.k 0,.k 1,.k 2,.k 3],?_,⟨_,rfl,rfl⟩,⟨_,rfl,rfl⟩,⟨_,rfl,rfl⟩,⟨_,rfl,rfl⟩,tq⟩;exact c9 (by unfold C1;rw[if_neg h3,if_neg h7,if_neg (by simp[h4])];exact e3)
def G8 (s:Nat) (mode:Int) (back:Bool) (b o a9:Bs):Bs:=if 7<=mode/\s<=b.length then (if back then b else o).drop (b.length-s)else a9
theorem FW {t key s k xs rs} (h:g9 t key s k xs rs) {mode pad md:Int} {op back:Bool} {iv a9 H b:Bs} {st:MS} {m:Nat} (hb:b.length=m) (hmb:m<=100000) (K:MK s md st) (hm:mode<=9) (hg:m%k6 s md=0) (hne:0<m\/st.row=[]):
  a7 C 97 [.p (.k 0) 0,.z m (bv b)] [k7 op t mode pad back k xs iv (.f H) a9,f8 (d7 t k xs) md back st 2,i6 st.row st.gone,.dead]
   (.ret (.z m (bv (f7 (cF t key false) (cF t key true) s md back st b).1)))
   [k7 op t mode pad back k xs iv (.f H) (G8 s mode back b (f7 (cF t key false) (cF t key true) s md back st b).1 a9),f8 (d7 t k xs) md back (f7 (cF t key false) (cF t key true) s md back st b).2 4,.dead,.dead,i6 (f7 (cF t key false) (cF t key true) s md back st b).2.row (f7 (cF t key false) (cF t key true) s md back st b).2.gone]:=by
 have hs:=h.s_le;have lo:(f7 (cF t key false) (cF t key true) s md back st b).1.length=m:=by rw[H9 h.ci K.ok (by rw[hb];exact hg),hb]
 have T0:=gU h (back:=back) (st:=st) (b:=b) rfl hb (by omega) K hg hne;have S:=fun(st':MS)=>rK (t:=t) (mode:=mode) (pad:=pad) (md:=md) (op:=op) (back:=back) (k:=k) (xs:=xs) (iv:=iv) (a9:=a9) (st:=st') (x:= .f H) hm;generalize f7 (cF t key false) (cF t key true) s md back st b=S0 at*
 obtain⟨o,st1⟩:=S0;have S1:=S st1;obtain⟨c1,row1,g1⟩:=st1;dsimp only at T0 lo ⊢;have eS:I6.wrap ((m:Int)-(s:Int))=(m:Int)-s:=Ze _ (by omega);by_cases hL:7<=mode/\s<=m
 ·have eL:G8 s mode back b o a9=(if back then b else o).drop (m-s):=by unfold G8;rw[hb,if_pos hL]
  rw[eL];cases back;all_goals
   obtain⟨ch,row,g⟩:=st;rcases row with _|⟨a,r⟩<;>rcases row1 with _|⟨a1,r1⟩
  all_goals
   refine ia.c ?_;refine⟨_,rfl,?_⟩;refine⟨[.k 1,.k 2],_,_,_,_,T0,rfl,rfl,?_⟩;refine⟨[],_,_,_,_,dI,rfl,rfl,?_⟩;refine⟨_,rfl,?_⟩;refine⟨[],_,_,_,_,h.size,rfl,rfl,?_⟩;refine⟨[.k 0,.k 1,.d 15 2,.k 3],_,_,_,_,S1,rfl,rfl,?_⟩;refine b8 (fun h7=> ?_) (fun h7=>absurd hL.1 h7);refine b8 (fun h7=> ?_) (fun h7=>absurd hL.2 (by omega));refine⟨_,rfl,?_⟩;refine⟨by rw[eS];omega,by rw[eS];omega,by omega,by omega,?_⟩;first
    |refine⟨[],_,_,_,_,av (n:=s) (l:=o.drop (m-s)) (va:=bv (o.drop (m-s))) rfl (by rw[Zd,lo];omega) (by omega),?_,rfl,?_⟩
     ·show[V.z (m-(I6.wrap ((m:Int)-(s:Int))).toNat) (sub (bv o) (I6.wrap ((m:Int)-(s:Int))).toNat (m-(I6.wrap ((m:Int)-(s:Int))).toNat))]=_;rw[eS,show((m:Int)-s).toNat=m-s by omega,q7 lo (by omega),show m-(m-s)=s by omega]
     refine⟨Za rfl,?_⟩;refine⟨_,rfl,[.k 0,.k 1,.k 2,.k 3,.d 15 2],rfl,⟨_,rfl,?_⟩,⟨_,rfl,rfl⟩,⟨_,rfl,rfl⟩,⟨_,rfl,rfl⟩,⟨_,rfl,rfl⟩,tq⟩;have ll:(o.drop (m-s)).length=s:=by rw[Zd,lo];omega
     show _=k7 op t mode pad false k xs iv (.f H) (o.drop (m-s));unfold k7;rw[ll];rfl
    |refine⟨[],_,_,_,_,av (n:=s) (l:=b.drop (m-s)) (va:=bv (b.drop (m-s))) rfl (by rw[Zd,hb];omega) (by omega),?_,rfl,?_⟩
     ·show[V.z (m-(I6.wrap ((m:Int)-(s:Int))).toNat) (sub (bv b) (I6.wrap ((m:Int)-(s:Int))).toNat (m-(I6.wrap ((m:Int)-(s:Int))).toNat))]=_;rw[eS,show((m:Int)-s).toNat=m-s by omega,q7 hb (by omega),show m-(m-s)=s by omega]
     refine⟨Za rfl,?_⟩;refine⟨_,rfl,[.k 0,.k 1,.k 2,.k 3,.d 15 2],rfl,⟨_,rfl,?_⟩,⟨_,rfl,rfl⟩,⟨_,rfl,rfl⟩,⟨_,rfl,rfl⟩,⟨_,rfl,rfl⟩,tq⟩;have ll:(b.drop (m-s)).length=s:=by rw[Zd,hb];omega
     show _=k7 op t mode pad true k xs iv (.f H) (b.drop (m-s));unfold k7;rw[ll];rfl
 ·have eL:G8 s mode back b o a9=a9:=by unfold G8;rw[hb,if_neg hL]
  rw[eL];obtain⟨ch,row,g⟩:=st;rcases row with _|⟨a,r⟩<;>rcases row1 with _|⟨a1,r1⟩;all_goals
   refine ia.c ?_;refine⟨_,rfl,?_⟩;refine⟨[.k 1,.k 2],_,_,_,_,T0,rfl,rfl,?_⟩;refine⟨[],_,_,_,_,dI,rfl,rfl,?_⟩;refine⟨_,rfl,?_⟩;refine⟨[],_,_,_,_,h.size,rfl,rfl,?_⟩;refine⟨[.k 0,.k 1,.d 15 2,.k 3],_,_,_,_,S1,rfl,rfl,?_⟩;refine b8 (fun h7=> ?_) (fun h7=> ?_)
   ·refine b8 (fun h8=>absurd ⟨h7,by omega⟩ hL) (fun h8=> ?_);exact⟨_,rfl,[.k 0,.k 1,.k 2,.k 3,.d 15 2],rfl,⟨_,rfl,rfl⟩,⟨_,rfl,rfl⟩,⟨_,rfl,rfl⟩,⟨_,rfl,rfl⟩,⟨_,rfl,rfl⟩,tq⟩
   ·exact⟨_,rfl,[.k 0,.k 1,.k 2,.k 3,.d 15 2],rfl,⟨_,rfl,rfl⟩,⟨_,rfl,rfl⟩,⟨_,rfl,rfl⟩,⟨_,rfl,rfl⟩,⟨_,rfl,rfl⟩,tq⟩
theorem FX {t key s k xs rs} (h:g9 t key s k xs rs) {mode pad md:Int} {op back:Bool} {iv a9 H:Bs} {st:MS} {vb:List Value} (h3:3<=md) (hm:mode<=9):
  a7 C 97 [.p (.k 0) 0,.z 0 vb] [k7 op t mode pad back k xs iv (.f H) a9,f8 (d7 t k xs) md back st 2,i6 st.row st.gone,.dead]
   (.ret (.z 0 [])) [k7 op t mode pad back k xs iv (.f H) a9,f8 (d7 t k xs) md back st 2,i6 st.row st.gone,.dead]:=by
 have hs:=h.s_le;have T0:=xr h (back:=back) (st:=st) (vb:=vb) h3;have S:=rK (t:=t) (mode:=mode) (pad:=pad) (md:=md) (op:=op) (back:=back) (k:=k) (xs:=xs) (iv:=iv) (a9:=a9) (st:=st) (x:= .f H) hm;obtain⟨ch,row,g⟩:=st;rcases row with _|⟨a,r⟩;all_goals
  refine ia.c ?_;refine⟨_,rfl,?_⟩;refine⟨[.k 1,.k 2],_,_,_,_,T0,rfl,rfl,?_⟩;refine⟨[],_,_,_,_,dI,rfl,rfl,?_⟩;refine⟨_,rfl,?_⟩;refine⟨[],_,_,_,_,h.size,rfl,rfl,?_⟩;refine⟨[.k 0,.k 1,.k 2,.k 3],_,_,_,_,S,rfl,rfl,?_⟩;refine b8 (fun h7=> ?_) (fun h7=> ?_)
  ·refine b8 (fun h8=>absurd h8 (by omega)) (fun h8=> ?_);exact⟨_,rfl,[.k 0,.k 1,.k 2,.k 3],rfl,⟨_,rfl,rfl⟩,⟨_,rfl,rfl⟩,⟨_,rfl,rfl⟩,⟨_,rfl,rfl⟩,tq⟩
  ·exact⟨_,rfl,[.k 0,.k 1,.k 2,.k 3],rfl,⟨_,rfl,rfl⟩,⟨_,rfl,rfl⟩,⟨_,rfl,rfl⟩,⟨_,rfl,rfl⟩,tq⟩
def j9 (mode:Int):Int:=if 7<=mode then 2 else mode
theorem FV {t mode pad:Int} {op bg back:Bool} {k:Nat} {xs:List V} {iv:Bs} (hm:mode<=9):a7 C 158 [.p (.k 0) 0] [D6 bg op t mode pad back (d7 t k xs) (.z iv.length (bv iv)) j6 g8 g8] (.ret (bool (decide (7<=mode)))) [D6 bg op t mode pad back (d7 t k xs) (.z iv.length (bv iv)) j6 g8 g8]:=by
 refine sI.c ?_;refine⟨_,rfl,?_⟩;refine b8 (fun h7=> ?_) (fun h7=> ?_)
 ·refine⟨_,rfl,?_⟩;exact⟨_,rfl,[.k 0],congrArg bool (by rw[decide_eq_true hm,decide_eq_true h7]),⟨_,rfl,rfl⟩,tq⟩
 ·exact⟨_,rfl,[.k 0],congrArg bool (by rw[decide_eq_false h7]),⟨_,rfl,rfl⟩,tq⟩
theorem fb {s:Nat} {mode pad:Int} {iv:Bs} (ok:D1 s mode pad iv):(1<=j9 mode/\j9 mode<=6)/\iv.length=if j9 mode=1 then 0 else s:=by
 obtain⟨o1,o2,o3,o4⟩:=ok;unfold j9;by_cases h7:7<=mode
 ·rw[if_pos h7];exact⟨by decide,by rw[o4,if_neg (by omega),if_neg (by decide)]⟩
 ·rw[if_neg h7];exact⟨by omega,o4⟩
theorem FG {t key s k xs rs} (h:g9 t key s k xs rs) {mode pad:Int} {op back:Bool} {iv:Bs} (ok:D1 s mode pad iv):
  a7 C 91 [.p (.k 0) 0] [D6 true op t mode pad back (d7 t k xs) (.z iv.length (bv iv)) j6 g8 g8] (.ret (.t []))
   [k7 true t mode pad back k xs iv .n iv,f8 (d7 t k xs) (j9 mode) back ⟨iv,[],[]⟩ 2,.dead,.dead]:=by
 have hs:=h.s_le;obtain⟨m1,hiv⟩:=fb ok;have T0:=dG h (mode:=j9 mode) (back:=back) (i:=1) (vi:=bv iv) (iv:=iv) rfl rfl m1 hiv;have hl16:iv.length<=16:=by rw[hiv];split<;>omega
 have S:=FV (t:=t) (mode:=mode) (pad:=pad) (op:=op) (bg:=true) (back:=back) (k:=k) (xs:=xs) (iv:=iv) ok.1.2;refine Mk.c ?_;refine⟨_,rfl,?_⟩;refine⟨[.k 0],_,_,_,_,S,rfl,rfl,?_⟩;refine b8 (fun h7=> ?_) (fun h7=> ?_);all_goals
  first
   |rw[show j9 mode=2 from if_pos h7]at T0 ⊢
   |rw[show j9 mode=mode from if_neg h7]at T0 ⊢
  refine⟨_,rfl,?_⟩;refine⟨_,rfl,?_⟩;refine⟨_,rfl,?_⟩;refine⟨[],_,_,_,_,T0,rfl,rfl,?_⟩;refine⟨Za rfl,?_⟩;refine⟨_,rfl,?_⟩;refine⟨[],_,_,_,_,av (l:=iv) rfl rfl (by omega),rfl,rfl,?_⟩;refine⟨Za rfl,?_⟩;refine⟨Za rfl,?_⟩;refine⟨Za rfl,?_⟩;exact⟨_,rfl,[.k 0,.d 26 0,.d 26 1,.d 26 2],rfl,⟨_,rfl,rfl⟩,⟨_,rfl,rfl⟩,⟨_,rfl,rfl⟩,⟨_,rfl,rfl⟩,tq⟩
theorem Wd {t key s k xs rs} (h:g9 t key s k xs rs) {mode pad:Int} {lk li:Nat} {iv:Bs} (hk:key.length=lk) (hi:iv.length=li) (ok:D1 s mode pad iv):P0 t mode pad (B6 t).toNat lk li=0:=by
 obtain⟨o1,o2,o3,o4⟩:=ok;unfold P0;rw[if_neg (by exact fun x=>x h.ht),if_neg (by rw[<-hk];exact fun x=>x h.kl),if_neg (by exact fun x=>x ⟨o1,o2,o3⟩),if_neg (by rw[h.hs,Zc,<-hi];exact fun x=>x o4)]
theorem FU {t key s k xs rs} (h:g9 t key s k xs rs) {mode pad:Int} {back:Bool} {lk li:Nat} {iv:Bs} (hk:key.length=lk) (hlk:lk<=1000) (hi:iv.length=li) (ok:D1 s mode pad iv):
  a7 C 30 [.p (.k 0) 0,C6 t mode pad back,.z lk (bv key),.z li (bv iv)] [D6 false false 0 0 0 false j6 g8 j6 g8 g8] (.ret (i64 0))
   [k7 true t mode pad back k xs iv .n iv,f8 (d7 t k xs) (j9 mode) back ⟨iv,[],[]⟩ 2,.dead,.dead]:=by
 have hs:=h.s_le;obtain⟨m1,hiv⟩:=fb ok;have hl16:iv.length<=16:=by rw[hiv];split<;>omega
 have CK:=(JQ t hk hlk mode pad back hi).1;rw[Wd h hk hi ok]at CK;subst hi;refine Mj.c ?_;refine⟨[i64 t,i64 mode,i64 pad,bool back],rfl,rfl,?_⟩;refine⟨[],_,_,_,_,CK,rfl,rfl,?_⟩;refine⟨_,rfl,?_⟩;refine⟨[],_,_,_,_,h.new' (n:=lk) hk rfl,rfl,rfl,?_⟩;refine⟨Za rfl,?_⟩;refine⟨[i64 t,i64 mode,i64 pad,bool back],rfl,rfl,?_⟩;refine⟨[],_,_,_,_,av (l:=iv) rfl rfl (by omega),rfl,rfl,?_⟩;refine⟨Za rfl,?_⟩;refine⟨Za rfl,?_⟩;refine⟨Za rfl,?_⟩;refine⟨[.k 0],_,_,_,_,FG h (op:=false) ok,rfl,rfl,?_⟩;exact⟨_,rfl,[.k 0,.d 40 1,.d 40 2,.d 40 3],rfl,⟨_,rfl,rfl⟩,⟨_,rfl,rfl⟩,⟨_,rfl,rfl⟩,⟨_,rfl,rfl⟩,tq⟩
def B2 (g most L:Nat):Nat:=(L-most+(g-1))/g
theorem bV {g most L i:Nat} (hg:0<g):i<B2 g most L↔most+g*i<L:=by
 unfold B2;rw[Nat.lt_iff_add_one_le,Nat.le_div_iff_mul_le hg,Nat.add_mul,Nat.one_mul,Nat.mul_comm i g];omega
theorem nT {g most L:Nat} (hg:0<g) (hm:g-1<=most):g*B2 g most L<=L:=by
 by_cases h:B2 g most L=0
 ·rw[h];omega
 ·have:=(bV (most:=most) (L:=L) (i:=B2 g most L-1) hg).1 (by omega);have e:g*B2 g most L=g*(B2 g most L-1)+g:=by
   obtain⟨k,hk⟩:∃k,B2 g most L=k+1:=⟨B2 g most L-1,by omega⟩;rw[hk,Zw,Zp]
  omega
theorem Lj {g most L m:Nat} (hg:0<g) (hm:g-1<=most):B2 g most (L+m)=B2 g most L+B2 g most (L-g*B2 g most L+m):=by
 have hle:=nT (L:=L) hg hm;refine Z2 ?_ ?_
 ·refine Zt fun h=> ?_;have h1:=(bV hg).1 h;rw[Nat.mul_add]at h1;have h2:=(bV (most:=most) (L:=L-g*B2 g most L+m) (i:=B2 g most (L-g*B2 g most L+m)) hg).2 (by omega);exact absurd h2 (Nat.lt_irrefl _)
 ·by_cases h0:B2 g most (L-g*B2 g most L+m)=0
  ·rw[h0,Jd];refine Zt fun h=> ?_;have h1:=(bV hg).1 h;have h2:=(bV (most:=most) (L:=L) (i:=B2 g most (L+m)) hg).1 h;have h3:=(bV (most:=most) (L:=L+m) (i:=B2 g most (L+m)) hg).2 (by omega);exact absurd h3 (Nat.lt_irrefl _)
  ·obtain⟨k,hk⟩:∃k,B2 g most (L-g*B2 g most L+m)=k+1:=⟨B2 g most (L-g*B2 g most L+m)-1,by omega⟩;rw[hk];have h1:=(bV (most:=most) (L:=L-g*B2 g most L+m) (i:=k) hg).1 (by omega);have h2:=(bV (most:=most) (L:=L+m) (i:=B2 g most L+k) hg).2 (by rw[Nat.mul_add];omega);omega
theorem xY {n:Nat} {mode pad:Int} {iv:Bs} (ok:D1 n mode pad iv):(7<=mode/\j9 mode=2)\/(mode<=6/\j9 mode=mode):=by
 unfold j9;by_cases h7:7<=mode
 ·exact .inl ⟨h7,if_pos h7⟩
 ·exact .inr ⟨by omega,if_neg h7⟩
theorem nU {n:Nat} {mode pad:Int} {iv:Bs} {back:Bool} (hn:0<n) (ok:D1 n mode pad iv):
  0<k6 n (j9 mode)/\k6 n (j9 mode)-1<=C1 n (j9 mode) mode pad back/\(k6 n (j9 mode)=n/\j9 mode<=2\/k6 n (j9 mode)=1/\3<=j9 mode/\mode<=6):=by
 have hm:=ok.1;rcases xY ok with ⟨h1,h2⟩|⟨h1,h2⟩
 ·rw[h2];refine⟨hn,?_,.inl ⟨rfl,by decide⟩⟩;show n-1<=_;unfold C1;rw[if_neg (by decide),if_pos h1];omega
 ·rw[h2];unfold k6 C1;by_cases h3:3<=mode
  ·rw[if_neg (by omega),if_pos h3];exact⟨by omega,by omega,.inr ⟨rfl,h3,h1⟩⟩
  ·rw[if_pos (by omega),if_neg h3,if_neg (by omega)];refine⟨hn,?_,.inl ⟨rfl,by omega⟩⟩;split<;>omega
def q5 (n:Nat) (mode pad:Int) (back:Bool) (L:Nat):Nat:=k6 n (j9 mode)*B2 (k6 n (j9 mode)) (C1 n (j9 mode) mode pad back) L
def A4 (E D:Bs->Bs) (n:Nat) (mode pad:Int) (back:Bool) (iv M:Bs):Bs×MS:=f7 E D n (j9 mode) back ⟨iv,[],[]⟩ (M.take (q5 n mode pad back M.length))
def l4 (n:Nat) (mode pad:Int) (back:Bool) (M:Bs):Bs:=M.drop (q5 n mode pad back M.length)
def cR (E D:Bs->Bs) (n:Nat) (mode pad:Int) (back:Bool) (iv M:Bs):Bs:=G8 n mode back (M.take (q5 n mode pad back M.length)) (A4 E D n mode pad back iv M).1 iv
theorem dK {n:Nat} {mode pad:Int} {iv:Bs} {back:Bool} (hn:0<n) (ok:D1 n mode pad iv) (L:Nat):q5 n mode pad back L<=L/\q5 n mode pad back L%k6 n (j9 mode)=0:=by
 obtain⟨g0,g1,g2⟩:=nU (back:=back) hn ok;exact⟨nT g0 g1,Z6 _ _⟩
theorem xV {n:Nat} {mode pad:Int} {iv:Bs} {back:Bool} (hn:0<n) (ok:D1 n mode pad iv) (L m:Nat):q5 n mode pad back (L+m)=q5 n mode pad back L+q5 n mode pad back (L-q5 n mode pad back L+m):=by
 obtain⟨g0,g1,g2⟩:=nU (back:=back) hn ok;unfold q5;rw[Lj g0 g1,Nat.mul_add]
theorem gW {n:Nat} {mode pad:Int} {back:Bool} (M:Bs):(l4 n mode pad back M).length=M.length-q5 n mode pad back M.length:=by
 unfold l4;rw[Zd]
theorem kU {E D:Bs->Bs} {n:Nat} {mode pad:Int} {iv M:Bs} {back:Bool} (h:CI E D n) (hn:0<n) (ok:D1 n mode pad iv):(A4 E D n mode pad back iv M).1.length=q5 n mode pad back M.length:=by
 obtain⟨f1,f2⟩:=dK (back:=back) hn ok M.length;have lt:(M.take (q5 n mode pad back M.length)).length=q5 n mode pad back M.length:=by rw[Zi];omega
 unfold A4;rw[H9 h (co (fb ok).1 (fb ok).2) (by rw[lt];exact f2),lt]
theorem Lm {A b:Bs} {F a:Nat} (h:F<=A.length):A.take F++(A.drop F++b).take a=(A++b).take (F+a):=by
 have e:A++b=A.take F++(A.drop F++b):=by rw[<-List.append_assoc,Zy]
 rw[e];generalize A.drop F++b=R;rw[List.take_append,Zi,Nat.min_eq_left h,Z3,Je (show (A.take F).length<=F+a by rw[Zi];omega)]
theorem Lk {A b:Bs} {F a:Nat} (h:F<=A.length):(A.drop F++b).drop a=(A++b).drop (F+a):=by
 have e:A++b=A.take F++(A.drop F++b):=by rw[<-List.append_assoc,Zy]
 rw[e];generalize A.drop F++b=R;rw[Jc,Zi,Nat.min_eq_left h,Z3,Z4 (show (A.take F).length<=F+a by rw[Zi];omega),Zk]
theorem Lo {E D:Bs->Bs} {n:Nat} {mode pad:Int} {iv M b:Bs} {back:Bool} {a:Nat} (h:CI E D n) (hn:0<n) (ok:D1 n mode pad iv) (ha:a=q5 n mode pad back ((l4 n mode pad back M).length+b.length)):
  A4 E D n mode pad back iv (M++b)=((A4 E D n mode pad back iv M).1++(f7 E D n (j9 mode) back (A4 E D n mode pad back iv M).2 ((l4 n mode pad back M++b).take a)).1,(f7 E D n (j9 mode) back (A4 E D n mode pad back iv M).2 ((l4 n mode pad back M++b).take a)).2)
  /\G8 n mode back ((l4 n mode pad back M++b).take a) (f7 E D n (j9 mode) back (A4 E D n mode pad back iv M).2 ((l4 n mode pad back M++b).take a)).1 (cR E D n mode pad back iv M)=cR E D n mode pad back iv (M++b)
  /\(l4 n mode pad back M++b).drop a=l4 n mode pad back (M++b):=by
 obtain⟨f1,f2⟩:=dK (back:=back) hn ok M.length;obtain⟨g0,g1,g2⟩:=nU (back:=back) hn ok;have hF:q5 n mode pad back (M++b).length=q5 n mode pad back M.length+a:=by
  rw[Zb,xV hn ok,ha,gW]
 have ha1:=dK (back:=back) hn ok ((l4 n mode pad back M).length+b.length);rw[<-ha,gW]at ha1;have lb:((l4 n mode pad back M++b).take a).length=a:=by rw[Zi,Zb,gW];omega
 have lt:(M.take (q5 n mode pad back M.length)).length=q5 n mode pad back M.length:=by rw[Zi];omega
 have eT:(M++b).take (q5 n mode pad back (M++b).length)=M.take (q5 n mode pad back M.length)++(l4 n mode pad back M++b).take a:=by
  rw[hF];unfold l4;rw[Lm f1]
 have eS:A4 E D n mode pad back iv (M++b)=((A4 E D n mode pad back iv M).1++(f7 E D n (j9 mode) back (A4 E D n mode pad back iv M).2 ((l4 n mode pad back M++b).take a)).1,(f7 E D n (j9 mode) back (A4 E D n mode pad back iv M).2 ((l4 n mode pad back M++b).take a)).2):=by
  show f7 E D n (j9 mode) back ⟨iv,[],[]⟩ ((M++b).take (q5 n mode pad back (M++b).length))=_;rw[eT,pk hn (by rw[lt];exact f2) (by rw[lb];exact ha1.2)];rfl
 have lT:=kU (back:=back) (M:=M) h hn ok;refine⟨eS,?_,?_⟩
 ·show _=G8 n mode back ((M++b).take (q5 n mode pad back (M++b).length)) (A4 E D n mode pad back iv (M++b)).1 iv;rw[eS,eT];have K:S9 n (j9 mode) (A4 E D n mode pad back iv M).2:=tM h hn (co (fb ok).1 (fb ok).2);have lo:(f7 E D n (j9 mode) back (A4 E D n mode pad back iv M).2 ((l4 n mode pad back M++b).take a)).1.length=a:=by
   rw[H9 h K (by rw[lb];exact ha1.2),lb]
  simp only
  generalize f7 E D n (j9 mode) back (A4 E D n mode pad back iv M).2 ((l4 n mode pad back M++b).take a)=o at*
  unfold cR;generalize (l4 n mode pad back M++b).take a=c at*
  generalize (A4 E D n mode pad back iv M).1=T at*
  generalize M.take (q5 n mode pad back M.length)=A at*
  generalize q5 n mode pad back M.length=F at*
  unfold G8;rw[lb,lt,Zb,lt,lb];by_cases h7:7<=mode
  ·have gn:k6 n (j9 mode)=n:=by
    rcases xY ok with ⟨_,h2⟩|⟨h1,_⟩
    ·rw[h2];rfl
    ·omega
   rw[gn]at ha1;by_cases ha0:n<=a
   ·rw[if_pos (show 7<=mode/\n<=a from ⟨h7,ha0⟩),if_pos (show 7<=mode/\n<=F+a from ⟨h7,by omega⟩)];cases back
    ·simp only[Bool.false_eq_true,if_false];rw[Jc,lT,Z4 (show T.length<=F+a-n by omega),Zk,show F+a-n-F=a-n by omega]
    ·simp only[if_true];rw[Jc,lt,Z4 (show A.length<=F+a-n by omega),Zk,show F+a-n-F=a-n by omega]
   ·have a0:a=0:=by
     rcases Nat.eq_zero_or_pos a with h0|h0
     ·exact h0
     ·exact absurd (Z8 h0 (Zm ha1.2)) ha0
    subst a0;obtain rfl:=Zf lb;rw[if_neg (show ¬(7<=mode/\n<=0) by omega),Jd,Jf,Zf lo,Jf]
  ·rw[if_neg (show ¬(7<=mode/\n<=a) by omega),if_neg (show ¬(7<=mode/\n<=F) by omega),if_neg (show ¬(7<=mode/\n<=F+a) by omega)]
 ·show _=(M++b).drop (q5 n mode pad back (M++b).length);rw[hF];exact Lk f1
def jk (E D:Bs->Bs) (n:Nat) (mode pad:Int) (back:Bool) (st:MS) (a9 H:Bs):Bs×Int:=
 if 7<=mode then (if H.length<n then ([],7)else (A9 E D n mode back a9 H,0))
 else if pad=4 then (if H.length%k6 n (j9 mode)=0 then ((f7 E D n (j9 mode) back st H).1,0)else ([],7))
 else if back=false then ((f7 E D n (j9 mode) back st (F8 pad n H)).1,0)
 else if H.length=n then (if C3 pad (f7 E D n (j9 mode) back st H).1=0 then ([],8)else (S4 pad (f7 E D n (j9 mode) back st H).1,0))
 else ([],7)
theorem Ll {n L:Nat} (hn:0<n):n*((L-2*n+(n-1))/n)=r8 n L:=by
 unfold r8;by_cases h:2*n<=L
 ·rw[show L-2*n+(n-1)=L-n-1 by omega]
 ·rw[show L-2*n+(n-1)=n-1 by omega,Z0 (by omega),Z0 (by omega)]
theorem xZ {E D:Bs->Bs} {n:Nat} {mode pad:Int} {iv M:Bs} {back:Bool} (h:CI E D n) (hn:0<n) (ok:D1 n mode pad iv) {r:Bs×Int}
  (hr:r=jk E D n mode pad back (A4 E D n mode pad back iv M).2 (cR E D n mode pad back iv M) (l4 n mode pad back M)):
  D2 E D n mode pad back iv M=(if r.2=0 then (A4 E D n mode pad back iv M).1++r.1 else [],r.2)/\(r.2≠0->r.1=[]):=by
 obtain⟨f1,f2⟩:=dK (back:=back) hn ok M.length;have lT:=kU (back:=back) (M:=M) h hn ok;have lt:(M.take (q5 n mode pad back M.length)).length=q5 n mode pad back M.length:=by rw[Zi];omega
 have lH:=gW (n:=n) (mode:=mode) (pad:=pad) (back:=back) M;have hd:=Zx M.length n;have hm:=Nat.mod_lt M.length hn;unfold jk at hr;unfold D2;by_cases h7:7<=mode
 ·have e2:j9 mode=2:=if_pos h7;have eF:q5 n mode pad back M.length=r8 n M.length:=by
   unfold q5 B2 C1;rw[e2,if_neg (by decide),if_pos h7];exact Ll hn
  have hiv:iv.length=n:=by have:=ok.2.2.2;rw[if_neg (by omega)]at this;exact this
  rw[if_pos h7]at hr;rw[if_pos h7];unfold L0;by_cases hl:M.length<n
  ·have:r8 n M.length=0:=by rw[<-eF];have:=Zm f2;rw[e2,sV]at this;rcases Nat.eq_zero_or_pos (q5 n mode pad back M.length)with h0|h0;exact h0;have:=Z8 h0 this;omega
   rw[if_pos (by omega)]at hr;rw[if_pos hl,hr];exact⟨rfl,fun _=>rfl⟩
  ·obtain⟨a1,a2,a3,a4,a5⟩:=ic hn (by omega:n<=M.length);rw[if_neg (by omega)]at hr;rw[if_neg hl,hr];refine⟨?_,fun hh=>absurd rfl hh⟩;simp only[if_true];have e1:A4 E D n mode pad back iv M=f7 E D n 2 back ⟨iv,[],[]⟩ (M.take (r8 n M.length)):=by unfold A4;rw[e2,eF]
   have eL:cR E D n mode pad back iv M=W8 n back iv M (f7 E D n 2 back ⟨iv,[],[]⟩ (M.take (r8 n M.length))).1:=by
    unfold cR G8 W8;rw[e1,eF];rw[eF]at lt;rw[lt];by_cases h0:r8 n M.length=0
    ·rw[if_pos h0,if_neg (by omega)]
    ·rw[if_neg h0,if_pos (show 7<=mode/\n<=r8 n M.length from ⟨h7,by omega⟩)];cases back
     ·rfl
     ·simp only[if_true];unfold sub;rw[List.drop_take,show r8 n M.length-(r8 n M.length-n)=n by omega]
   have eH:l4 n mode pad back M=M.drop (r8 n M.length):=by unfold l4;rw[eF]
   rw[eL,e1,eH]
 ·have e2:j9 mode=mode:=if_neg h7;rw[if_neg h7]at hr;rw[if_neg h7];rw[e2]at hr f2;have K0:S9 n mode ⟨iv,[],[]⟩:=co (by have:=ok.1;omega) ok.2.2.2;by_cases h4:pad=4
  ·rw[if_pos h4]at hr;rw[if_pos h4];have hiff:(l4 n mode pad back M).length%k6 n mode=M.length%k6 n mode:=by
    rw[lH];obtain⟨q,hq⟩:=Zm f2;rw[hq,Nat.sub_mul_mod (by omega)]
   rw[hiff]at hr;by_cases hz:M.length%k6 n mode=0
   ·rw[if_pos hz]at hr;rw[if_pos hz,hr];refine⟨?_,fun hh=>absurd rfl hh⟩;simp only[if_true];have:=pk (E:=E) (D:=D) (mode:=mode) (back:=back) (s:=⟨iv,[],[]⟩) (a:=M.take (q5 n mode pad back M.length)) (b:=l4 n mode pad back M) hn (by rw[lt];exact f2) (by rw[hiff];exact hz);unfold l4 at this ⊢;rw[Zy]at this;unfold A4;rw[this,e2]
   ·rw[if_neg hz]at hr;rw[if_neg hz,hr];exact⟨rfl,fun _=>rfl⟩
  ·have hm2:mode<=2:=ok.2.2.1.resolve_left h4;have gn:k6 n mode=n:=if_pos (by have:=ok.1;omega);rw[gn]at f2;rw[if_neg h4]at hr;rw[if_neg h4];cases back
   ·rw[if_pos rfl]at hr;rw[if_pos rfl,hr];refine⟨?_,fun hh=>absurd rfl hh⟩;simp only[if_true];have eF:q5 n mode pad false M.length=M.length-M.length%n:=by
     unfold q5 B2 C1;rw[e2,gn,if_neg (by omega),if_neg h7,if_neg (by simp)];by_cases hl:n-1<=M.length
     ·rw[Nat.sub_add_cancel hl];omega
     ·rw[show M.length-(n-1)+(n-1)=n-1 by omega,Z0 (by omega),Nat.mod_eq_of_lt (by omega)];omega
    have lp:(F8 pad n (M.drop (M.length-M.length%n))).length=n:=eE (by rw[Zd];omega);rw[eF]at lt f2;unfold K9 A4 l4;rw[e2,eF];rw[pk hn (by rw[lt,gn];exact f2) (by rw[lp,gn,Zu])]
   ·rw[if_neg (by decide)]at hr;rw[if_neg (by decide)];have eF:q5 n mode pad true M.length=n*((M.length-n+(n-1))/n):=by
     unfold q5 B2 C1;rw[e2,gn,if_neg (by omega),if_neg h7,if_pos ⟨h4,rfl⟩]
    have hHn:(l4 n mode pad true M).length=n↔¬(M.length=0\/M.length%n≠0):=by
     rw[lH];rcases Nat.lt_or_ge M.length n with hl|hl
     ·rw[Nat.mod_eq_of_lt hl];have:q5 n mode pad true M.length=0:=by
       rw[eF,Z0 (by omega),Nat.mul_zero]
      omega
     ·constructor
      ·intro he;have:M.length=n+q5 n mode pad true M.length:=by omega
       rw[this,Nat.add_mod_left,f2];omega
      ·intro hno;have hz:M.length%n=0:=Classical.byContradiction fun hh=>hno (.inr hh);obtain⟨q,hq⟩:=Zm hz;have hq0:q≠0:=fun h0=>by rw[h0,Nat.mul_zero]at hq;omega
       obtain⟨p,rfl⟩:∃p,q=p+1:=⟨q-1,by omega⟩;rw[Zp]at hq;rw[eF,hq,Zw,Nat.mul_add_div hn,Z0 (by omega:n-1<n),Jd];omega
    by_cases hb:M.length=0\/M.length%n≠0
    ·rw[if_neg (fun hh=>(hHn.1 hh) hb)]at hr;rw[if_pos hb,hr];exact⟨rfl,fun _=>rfl⟩
    ·have hHl:=hHn.2 hb;rw[if_pos hHl]at hr;rw[if_neg hb];simp only
     have hap:=pk (E:=E) (D:=D) (mode:=mode) (back:=true) (s:=⟨iv,[],[]⟩) (a:=M.take (q5 n mode pad true M.length)) (b:=l4 n mode pad true M) hn (by rw[lt,gn];exact f2) (by rw[hHl,gn,Zu]);have eM:M.take (q5 n mode pad true M.length)++l4 n mode pad true M=M:=by unfold l4;exact Zy _ _
     rw[eM]at hap;have e1:A4 E D n mode pad true iv M=f7 E D n mode true ⟨iv,[],[]⟩ (M.take (q5 n mode pad true M.length)):=by unfold A4;rw[e2]
     rw[<-e1]at hap;have lo:(f7 E D n mode true (A4 E D n mode pad true iv M).2 (l4 n mode pad true M)).1.length=n:=by
      rw[H9 h (by rw[e1];exact tM h hn K0) (by rw[hHl,gn,Zu]),hHl]
     rw[hap];simp only
     generalize (f7 E D n mode true (A4 E D n mode pad true iv M).2 (l4 n mode pad true M)).1=o at*
     generalize (A4 E D n mode pad true iv M).1=T at*
     rw[Zb,lo,Zw,List.drop_left,List.take_left];by_cases hp:C3 pad o=0
     ·rw[if_pos hp]at hr;rw[if_pos hp,hr];exact⟨rfl,fun _=>rfl⟩
     ·rw[if_neg hp]at hr;rw[if_neg hp,hr];exact⟨rfl,fun hh=>absurd rfl hh⟩
theorem bi {b:Bool} {P:Prop} (h:b=true) (p:P):o8 b P:=by rw[h];exact p
theorem P6 {i:x6} {d:Option Nat} {T:Nat->V} {H Hr:Hp} {id:Id} {b:B} {r:List (Id×B)} (h:H id=some b) (hr:(Hr id).isSome=true) (h2:i.ck d T H Hr r=true):i.ck d T H Hr ((id,b)::r)=true:=by
 unfold x6.ck uo;rw[hr,h2];simp[h]
theorem ny {n:Nat} {va:List Value} {l:Bs} (ha:va=bv l) (hn:l.length=n) (hm:n<=1073741824):a7 C 90 [.z n va] [] (.ret (.o 1 (.k 0) 0 n)) [.sc (bv l)]:=by
 by_cases h0:0<n
 ·exact cJ ha hn h0 hm
 ·subst ha;obtain rfl:n=0:=(by omega);obtain rfl:=Zf hn;refine oG.n ?_;refine .inr ⟨?_,?_⟩
  ·exact⟨[(2,1,.sc [])],_,rfl,[.d 900000 0],rfl,⟨_,rfl,rfl⟩,tq⟩
  ·refine⟨rfl,by decide,by decide,?_⟩;exact⟨[],_,rfl,[.d 7 0],rfl,⟨_,rfl,rfl⟩,tq⟩
theorem Ga {t key s k xs rs} (h:g9 t key s k xs rs) {mode pad md:Int} {back:Bool} {iv a9 b:Bs} {st:MS} {x:HK} {m L n0 at':Nat} (hx:x= .n\/∃H,x= .o H) (hb:b.length=m) (hL:x.l.length+m=L) (hLb:L<=100000) (K:MK s md st) (hm:mode<=9)
  (hN:n0=B2 (k6 s md) (C1 s md mode pad back) L) (hat:at'=k6 s md*n0) (hne:0<at'\/st.row=[]):
  a7 C 33 [.p (.k 0) 0,.z m (bv b)] [k7 true t mode pad back k xs iv x a9,f8 (d7 t k xs) md back st 2,i6 st.row st.gone,x.b]
   (.ret (.t [.z at' (bv (f7 (cF t key false) (cF t key true) s md back st ((x.l++b).take at')).1),i64 0]))
   [D6 true true t mode pad back (d7 t k xs) (.z iv.length (bv iv)) (.p (.k 1) 0) (.o 1 (.k 5) 0 (L-at')) (.z (G8 s mode back ((x.l++b).take at') (f7 (cF t key false) (cF t key true) s md back st ((x.l++b).take at')).1 a9).length (bv (G8 s mode back ((x.l++b).take at') (f7 (cF t key false) (cF t key true) s md back st ((x.l++b).take at')).1 a9))),
    f8 (d7 t k xs) md back (f7 (cF t key false) (cF t key true) s md back st ((x.l++b).take at')).2 4,.dead,.dead,i6 (f7 (cF t key false) (cF t key true) s md back st ((x.l++b).take at')).2.row (f7 (cF t key false) (cF t key true) s md back st ((x.l++b).take at')).2.gone,.sc (bv ((x.l++b).drop at'))]:=by
 have hs:=h.s_le;have hg0:0<k6 s md:=by unfold k6;split<;>omega
 have hgm:k6 s md-1<=C1 s md mode pad back:=by
  have:=K.ok.m;unfold k6 C1;by_cases h3:3<=md
  ·rw[if_neg (by omega),if_pos h3];omega
  ·rw[if_pos (by omega),if_neg h3];split<;>(try split)<;>omega
 have hle:=nT (L:=L) hg0 hgm;have a8:=fun i=>bV (most:=C1 s md mode pad back) (L:=L) (i:=i) hg0;rw[<-hN]at hle a8;have G:=rO h (back:=back) K;have hz:at'%k6 s md=0:=by rw[hat];exact Z6 _ _
 have lB:(x.l++b).length=L:=by rw[Zb,hb,hL]
 have lT:((x.l++b).take at').length=at':=by rw[Zi];omega
 have lD:((x.l++b).drop at').length=L-at':=by rw[Zd,lB]
 have NE:=ja (t:=t) (mode:=mode) (pad:=pad) (md:=md) (back:=back) (k:=k) (xs:=xs) (iv:=iv) (a9:=a9) (st:=st) (x:=x);have MO:∀(n':Nat) (vb:List Value),(∃H:Bs,n'=H.length/\vb=bv H)->a7 C 95 [.p (.k 0) 0] [D6 true true t mode pad back (d7 t k xs) (.z iv.length (bv iv)) (.p (.k 1) 0) (.o 1 (.k 3) 0 n') (.z a9.length (bv a9)),f8 (d7 t k xs) md back st 2,i6 st.row st.gone,.sc vb] (.ret (i64 (C1 s md mode pad back))) [D6 true true t mode pad back (d7 t k xs) (.z iv.length (bv iv)) (.p (.k 1) 0) (.o 1 (.k 3) 0 n') (.z a9.length (bv a9)),f8 (d7 t k xs) md back st 2,i6 st.row st.gone,.sc vb]:=by
  rintro _ _ ⟨H,rfl,rfl⟩;exact wF h (mode:=mode) (pad:=pad) (op:=true) (back:=back) (iv:=iv) (a9:=a9) (x:= .o H) K hm
 have TU:=FW h (op:=true) (back:=back) (pad:=pad) (iv:=iv) (a9:=a9) (H:=x.l++b) (b:=(x.l++b).take at') lT (by omega) K hm hz hne;generalize f7 (cF t key false) (cF t key true) s md back st ((x.l++b).take at')=S0 at*
 obtain⟨o,c1,row1,g1⟩:=S0;dsimp only[k7,HK.v,HK.b]at TU ⊢;rw[lB]at TU;generalize G8 s mode back ((x.l++b).take at') o a9=la at*
 generalize hgr:k6 s md=gr at*
 generalize C1 s md mode pad back=mo at*
 obtain⟨ch,row,g⟩:=st;rcases hx with rfl|⟨H,rfl⟩<;>dsimp only[HK.l,HK.v,HK.b,Zk]at*
 ·have hmL:m=L:=by simpa using hL
  refine oA.d bd ?_;refine⟨⟨[(0,.p (.k 0) 0),(1,.z m (bv b)),(4,.p (.k 4) 0),(5,.p (.k 5) 0)],[D6 true true t mode pad back (d7 t k xs) (.z iv.length (bv iv)) (.p (.k 1) 0) (g8) (.z a9.length (bv a9)),f8 (d7 t k xs) md back ⟨ch,row,g⟩ 2,i6 row g,.dead,.sc [.slice none 0 0],.sc [.int .i64 0]]⟩,4,5,by decide,⟨[.k 0,.k 1,.k 2,.k 3,.d 4 0,.d 5 0],⟨rfl,rfl,rfl,rfl,tq⟩,⟨_,rfl,rfl⟩,⟨_,rfl,by cases row<;>rfl⟩,⟨_,rfl,by cases row<;>rfl⟩,⟨_,rfl,rfl⟩,⟨_,rfl,rfl⟩,⟨_,rfl,rfl⟩,tq⟩,rfl,rfl,rfl,?_⟩;refine⟨0,Nat,fun i=>⟨[(0,.p (.k 0) 0),(4,.p (.k 4) 0),(5,.p (.k 5) 0),(6,i64 (gr*i:Nat)),(7,i64 mo),(8,i64 gr)],[D6 true true t mode pad back (d7 t k xs) (.z iv.length (bv iv)) (.p (.k 1) 0) (.z L (bv b)) (.z a9.length (bv a9)),f8 (d7 t k xs) md back ⟨ch,row,g⟩ 2,i6 row g,.dead,.sc [.slice none 0 0],.sc [.int .i64 0]]⟩,fun i=>i<=n0,fun i=>n0-i,?_,fun i hi=> ?_⟩
  ·rcases row with _|⟨a,r⟩;all_goals
    refine⟨[.k 0,.k 1,.k 2,.k 3],_,_,_,_,NE,rfl,rfl,?_⟩;refine⟨_,rfl,?_⟩;refine⟨by rw[f9,hb],by omega,?_⟩;refine⟨Za rfl,?_⟩;refine⟨[.k 0,.k 1,.k 2,.d 17 0],_,_,_,_,MO (m) (bv b) ⟨b,hb.symm,rfl⟩,rfl,rfl,?_⟩;refine bi rfl ?_;refine bi (P6 rfl rfl (P6 rfl rfl (P6 rfl rfl (P6 rfl rfl rfl)))) ?_;refine⟨_,rfl,?_⟩;refine⟨[.k 1,.k 2],_,_,_,_,G,rfl,rfl,?_⟩;refine⟨[],0,Zr _,[.k 0,.k 1,.k 2,.k 3,.k 4,.k 5],⟨rfl,rfl,rfl,rfl,rfl,rfl,tq⟩,⟨_,rfl,?_⟩,⟨_,rfl,rfl⟩,⟨_,rfl,rfl⟩,⟨_,rfl,rfl⟩,⟨_,rfl,rfl⟩,⟨_,rfl,rfl⟩,tq⟩;show D6 true true t mode pad back (d7 t k xs) (.z iv.length (bv iv)) (.p (.k 1) 0) (.z (m) (sub (bv b) 0 (m))) (.z a9.length (bv a9))=_;rw[b9 hb,hmL]
  ·rcases row with _|⟨a,r⟩<;>rcases row1 with _|⟨a1,r1⟩;all_goals
    have e1:gr*i<=L:=Zv (Zh gr hi) hle;refine⟨_,rfl,?_⟩;refine b8 (fun hc=> ?_) (fun hc=> ?_)
    ·have hc':(mo:Int)<I6.wrap ((L:Int)-((gr*i:Nat):Int)):=hc;rw[Ze _ (by omega)]at hc';have hli:i<n0:=(a8 i).2 (by omega);have hle2:gr*(i+1)<=L:=Zv (Zh gr hli) hle;refine⟨rfl,i+1,hli,Zz _ _ hli,[.k 0,.k 1,.k 2,.k 3,.k 4,.k 5],⟨rfl,rfl,rfl,c9 ?_,rfl,rfl,tq⟩,⟨_,rfl,rfl⟩,⟨_,rfl,rfl⟩,⟨_,rfl,rfl⟩,⟨_,rfl,rfl⟩,⟨_,rfl,rfl⟩,⟨_,rfl,rfl⟩,tq⟩;rw[Zp]at hle2 ⊢;rw[Ze _ (by omega)];omega
    ·have hc':¬(mo:Int)<I6.wrap ((L:Int)-((gr*i:Nat):Int)):=hc;rw[Ze _ (by omega)]at hc';obtain rfl:i=n0:=Z2 hi (Zt fun hh=>by have:=(a8 i).1 hh;omega);refine⟨_,rfl,?_⟩;refine⟨by omega,by omega,by omega,by omega,?_⟩;refine⟨[.k 0,.k 1,.k 2,.k 3],_,_,_,_,TU,?_,rfl,?_⟩
     ·show[V.p (.k 0) 0,V.z ((gr*i:Nat):Int).toNat (sub (bv b) 0 ((gr*i:Nat):Int).toNat)]=_;rw[Zc,<-hat];exact congrArg (fun v=>[V.p (.k 0) 0,V.z at' v]) (k5 _ 0 at')
     refine⟨Za rfl,?_⟩;refine⟨_,rfl,?_⟩;refine⟨by omega,by omega,by omega,by omega,?_⟩;refine⟨[],_,_,_,_,ny (n:=L-at') (l:=b.drop at') rfl lD (by omega),?_,rfl,?_⟩
     ·show[V.z (L-((gr*i:Nat):Int).toNat) (sub (bv b) ((gr*i:Nat):Int).toNat (L-((gr*i:Nat):Int).toNat))]=_;rw[Zc,<-hat,q7 lB (by omega)]
     refine⟨Za rfl,?_⟩;refine⟨_,rfl,?_⟩;refine⟨Za rfl,?_⟩;refine⟨Za rfl,?_⟩;refine⟨_,rfl,_,rfl,?_⟩;refine⟨_,_,?_,.ret (.refl _),G2.refl _⟩;exact⟨_,rfl,[.k 0,.k 1,.k 2,.k 3,.d 46 4,.d 54 0],rfl,⟨_,rfl,rfl⟩,⟨_,rfl,rfl⟩,⟨_,rfl,rfl⟩,⟨_,rfl,rfl⟩,⟨_,rfl,rfl⟩,⟨_,rfl,rfl⟩,tq⟩
 ·refine oA.d bd ?_;refine⟨⟨[(0,.p (.k 0) 0),(1,.z m (bv b)),(4,.p (.k 4) 0),(5,.p (.k 5) 0)],[D6 true true t mode pad back (d7 t k xs) (.z iv.length (bv iv)) (.p (.k 1) 0) (.o 1 (.k 3) 0 H.length) (.z a9.length (bv a9)),f8 (d7 t k xs) md back ⟨ch,row,g⟩ 2,i6 row g,.sc (bv H),.sc [.slice none 0 0],.sc [.int .i64 0]]⟩,4,5,by decide,⟨[.k 0,.k 1,.k 2,.k 3,.d 4 0,.d 5 0],⟨rfl,rfl,rfl,rfl,tq⟩,⟨_,rfl,rfl⟩,⟨_,rfl,by cases row<;>rfl⟩,⟨_,rfl,by cases row<;>rfl⟩,⟨_,rfl,rfl⟩,⟨_,rfl,rfl⟩,⟨_,rfl,rfl⟩,tq⟩,rfl,rfl,rfl,?_⟩;refine⟨0,Nat,fun i=>⟨[(0,.p (.k 0) 0),(4,.p (.k 4) 0),(5,.p (.k 5) 0),(6,i64 (gr*i:Nat)),(7,i64 mo),(8,i64 gr)],[D6 true true t mode pad back (d7 t k xs) (.z iv.length (bv iv)) (.p (.k 1) 0) (.z L (bv (H++b))) (.z a9.length (bv a9)),f8 (d7 t k xs) md back ⟨ch,row,g⟩ 2,i6 row g,.dead,.sc [.slice none 0 0],.sc [.int .i64 0]]⟩,fun i=>i<=n0,fun i=>n0-i,?_,fun i hi=> ?_⟩
  ·rcases row with _|⟨a,r⟩;all_goals
    refine⟨[.k 0,.k 1,.k 2,.k 3],_,_,_,_,NE,rfl,rfl,?_⟩;refine⟨_,rfl,?_⟩;refine⟨by rw[f9,hb],by omega,by rw[f9];omega,?_⟩;refine⟨Za rfl,?_⟩;refine⟨[.k 0,.k 1,.k 2,.d 17 0],_,_,_,_,MO (H.length+m) (sub (bv H) 0 (H.length*1)++bv b) ⟨(H++b),by rw[Zb,hb],by rw[Zs,b9 rfl,z5]⟩,rfl,rfl,?_⟩;refine bi rfl ?_;refine bi (P6 rfl rfl (P6 rfl rfl (P6 rfl rfl (P6 rfl rfl rfl)))) ?_;refine⟨_,rfl,?_⟩;refine⟨[.k 1,.k 2],_,_,_,_,G,rfl,rfl,?_⟩;refine⟨[],0,Zr _,[.k 0,.k 1,.k 2,.k 3,.k 4,.k 5],⟨rfl,rfl,rfl,rfl,rfl,rfl,tq⟩,⟨_,rfl,?_⟩,⟨_,rfl,rfl⟩,⟨_,rfl,rfl⟩,⟨_,rfl,rfl⟩,⟨_,rfl,rfl⟩,⟨_,rfl,rfl⟩,tq⟩;show D6 true true t mode pad back (d7 t k xs) (.z iv.length (bv iv)) (.p (.k 1) 0) (.z (H.length+m) (sub (sub (bv H) 0 (H.length*1)++bv b) 0 (H.length+m))) (.z a9.length (bv a9))=_;rw[Zs,b9 rfl,z5,b9 (by rw[Zb,hb]),hL]
  ·rcases row with _|⟨a,r⟩<;>rcases row1 with _|⟨a1,r1⟩;all_goals
    have e1:gr*i<=L:=Zv (Zh gr hi) hle;refine⟨_,rfl,?_⟩;refine b8 (fun hc=> ?_) (fun hc=> ?_)
    ·have hc':(mo:Int)<I6.wrap ((L:Int)-((gr*i:Nat):Int)):=hc;rw[Ze _ (by omega)]at hc';have hli:i<n0:=(a8 i).2 (by omega);have hle2:gr*(i+1)<=L:=Zv (Zh gr hli) hle;refine⟨rfl,i+1,hli,Zz _ _ hli,[.k 0,.k 1,.k 2,.k 3,.k 4,.k 5],⟨rfl,rfl,rfl,c9 ?_,rfl,rfl,tq⟩,⟨_,rfl,rfl⟩,⟨_,rfl,rfl⟩,⟨_,rfl,rfl⟩,⟨_,rfl,rfl⟩,⟨_,rfl,rfl⟩,⟨_,rfl,rfl⟩,tq⟩;rw[Zp]at hle2 ⊢;rw[Ze _ (by omega)];omega
    ·have hc':¬(mo:Int)<I6.wrap ((L:Int)-((gr*i:Nat):Int)):=hc;rw[Ze _ (by omega)]at hc';obtain rfl:i=n0:=Z2 hi (Zt fun hh=>by have:=(a8 i).1 hh;omega);refine⟨_,rfl,?_⟩;refine⟨by omega,by omega,by omega,by omega,?_⟩;refine⟨[.k 0,.k 1,.k 2,.k 3],_,_,_,_,TU,?_,rfl,?_⟩
     ·show[V.p (.k 0) 0,V.z ((gr*i:Nat):Int).toNat (sub (bv (H++b)) 0 ((gr*i:Nat):Int).toNat)]=_;rw[Zc,<-hat];exact congrArg (fun v=>[V.p (.k 0) 0,V.z at' v]) (k5 _ 0 at')
     refine⟨Za rfl,?_⟩;refine⟨_,rfl,?_⟩;refine⟨by omega,by omega,by omega,by omega,?_⟩;refine⟨[],_,_,_,_,ny (n:=L-at') (l:=(H++b).drop at') rfl lD (by omega),?_,rfl,?_⟩
     ·show[V.z (L-((gr*i:Nat):Int).toNat) (sub (bv (H++b)) ((gr*i:Nat):Int).toNat (L-((gr*i:Nat):Int).toNat))]=_;rw[Zc,<-hat,q7 lB (by omega)]
     refine⟨Za rfl,?_⟩;refine⟨_,rfl,?_⟩;refine⟨Za rfl,?_⟩;refine⟨Za rfl,?_⟩;refine⟨_,rfl,_,rfl,?_⟩;refine⟨_,_,?_,.ret (.refl _),G2.refl _⟩;exact⟨_,rfl,[.k 0,.k 1,.k 2,.k 3,.d 46 4,.d 54 0],rfl,⟨_,rfl,rfl⟩,⟨_,rfl,rfl⟩,⟨_,rfl,rfl⟩,⟨_,rfl,rfl⟩,⟨_,rfl,rfl⟩,⟨_,rfl,rfl⟩,tq⟩
theorem Gb {t key s k xs rs} (h:g9 t key s k xs rs) {mode pad md:Int} {back:Bool} {iv a9 b:Bs} {st:MS} {x:HK} {m L n0 at':Nat} (hx:x= .n\/∃H,x= .o H) (hb:b.length=m) (hL:x.l.length+m=L) (hL0:L=0) (h3:3<=md) (K:MK s md st) (hm:mode<=9)
  (hN:n0=B2 (k6 s md) (C1 s md mode pad back) L) (hat:at'=k6 s md*n0):
  a7 C 33 [.p (.k 0) 0,.z m (bv b)] [k7 true t mode pad back k xs iv x a9,f8 (d7 t k xs) md back st 2,i6 st.row st.gone,x.b]
   (.ret (.t [.z 0 [],i64 0]))
   [D6 true true t mode pad back (d7 t k xs) (.z iv.length (bv iv)) (.p (.k 1) 0) (.o 1 (.k 4) 0 0) (.z a9.length (bv a9)),
    f8 (d7 t k xs) md back st 2,i6 st.row st.gone,.dead,.sc []]:=by
 have hs:=h.s_le;have hg0:0<k6 s md:=by unfold k6;split<;>omega
 have hgm:k6 s md-1<=C1 s md mode pad back:=by
  have:=K.ok.m;unfold k6 C1;by_cases h3:3<=md
  ·rw[if_neg (by omega),if_pos h3];omega
  ·rw[if_pos (by omega),if_neg h3];split<;>(try split)<;>omega
 have hLb:L<=100000:=by omega
 have hle:=nT (L:=L) hg0 hgm;have a8:=fun i=>bV (most:=C1 s md mode pad back) (L:=L) (i:=i) hg0;rw[<-hN]at hle a8;have G:=rO h (back:=back) K;have hz:at'%k6 s md=0:=by rw[hat];exact Z6 _ _
 have lB:(x.l++b).length=L:=by rw[Zb,hb,hL]
 have lT:((x.l++b).take at').length=at':=by rw[Zi];omega
 have lD:((x.l++b).drop at').length=L-at':=by rw[Zd,lB]
 have NE:=ja (t:=t) (mode:=mode) (pad:=pad) (md:=md) (back:=back) (k:=k) (xs:=xs) (iv:=iv) (a9:=a9) (st:=st) (x:=x);have MO:∀(n':Nat) (vb:List Value),(∃H:Bs,n'=H.length/\vb=bv H)->a7 C 95 [.p (.k 0) 0] [D6 true true t mode pad back (d7 t k xs) (.z iv.length (bv iv)) (.p (.k 1) 0) (.o 1 (.k 3) 0 n') (.z a9.length (bv a9)),f8 (d7 t k xs) md back st 2,i6 st.row st.gone,.sc vb] (.ret (i64 (C1 s md mode pad back))) [D6 true true t mode pad back (d7 t k xs) (.z iv.length (bv iv)) (.p (.k 1) 0) (.o 1 (.k 3) 0 n') (.z a9.length (bv a9)),f8 (d7 t k xs) md back st 2,i6 st.row st.gone,.sc vb]:=by
  rintro _ _ ⟨H,rfl,rfl⟩;exact wF h (mode:=mode) (pad:=pad) (op:=true) (back:=back) (iv:=iv) (a9:=a9) (x:= .o H) K hm
 have a0:at'=0:=by omega
 have TU:=fun(vb:List Value)=>FX h (op:=true) (back:=back) (pad:=pad) (iv:=iv) (a9:=a9) (H:=x.l++b) (st:=st) (vb:=vb) h3 hm;dsimp only[k7,HK.v,HK.b]at TU ⊢;rw[lB]at TU;generalize hgr:k6 s md=gr at*
 generalize C1 s md mode pad back=mo at*
 obtain⟨ch,row,g⟩:=st;rcases hx with rfl|⟨H,rfl⟩<;>dsimp only[HK.l,HK.v,HK.b,Zk]at*
 ·have hmL:m=L:=by simpa using hL
  refine oA.d bd ?_;refine⟨⟨[(0,.p (.k 0) 0),(1,.z m (bv b)),(4,.p (.k 4) 0),(5,.p (.k 5) 0)],[D6 true true t mode pad back (d7 t k xs) (.z iv.length (bv iv)) (.p (.k 1) 0) (g8) (.z a9.length (bv a9)),f8 (d7 t k xs) md back ⟨ch,row,g⟩ 2,i6 row g,.dead,.sc [.slice none 0 0],.sc [.int .i64 0]]⟩,4,5,by decide,⟨[.k 0,.k 1,.k 2,.k 3,.d 4 0,.d 5 0],⟨rfl,rfl,rfl,rfl,tq⟩,⟨_,rfl,rfl⟩,⟨_,rfl,by cases row<;>rfl⟩,⟨_,rfl,by cases row<;>rfl⟩,⟨_,rfl,rfl⟩,⟨_,rfl,rfl⟩,⟨_,rfl,rfl⟩,tq⟩,rfl,rfl,rfl,?_⟩;refine⟨0,Nat,fun i=>⟨[(0,.p (.k 0) 0),(4,.p (.k 4) 0),(5,.p (.k 5) 0),(6,i64 (gr*i:Nat)),(7,i64 mo),(8,i64 gr)],[D6 true true t mode pad back (d7 t k xs) (.z iv.length (bv iv)) (.p (.k 1) 0) (.z L (bv b)) (.z a9.length (bv a9)),f8 (d7 t k xs) md back ⟨ch,row,g⟩ 2,i6 row g,.dead,.sc [.slice none 0 0],.sc [.int .i64 0]]⟩,fun i=>i<=n0,fun i=>n0-i,?_,fun i hi=> ?_⟩
  ·rcases row with _|⟨a,r⟩;all_goals
    refine⟨[.k 0,.k 1,.k 2,.k 3],_,_,_,_,NE,rfl,rfl,?_⟩;refine⟨_,rfl,?_⟩;refine⟨by rw[f9,hb],by omega,?_⟩;refine⟨Za rfl,?_⟩;refine⟨[.k 0,.k 1,.k 2,.d 17 0],_,_,_,_,MO (m) (bv b) ⟨b,hb.symm,rfl⟩,rfl,rfl,?_⟩;refine bi rfl ?_;refine bi (P6 rfl rfl (P6 rfl rfl (P6 rfl rfl (P6 rfl rfl rfl)))) ?_;refine⟨_,rfl,?_⟩;refine⟨[.k 1,.k 2],_,_,_,_,G,rfl,rfl,?_⟩;refine⟨[],0,Zr _,[.k 0,.k 1,.k 2,.k 3,.k 4,.k 5],⟨rfl,rfl,rfl,rfl,rfl,rfl,tq⟩,⟨_,rfl,?_⟩,⟨_,rfl,rfl⟩,⟨_,rfl,rfl⟩,⟨_,rfl,rfl⟩,⟨_,rfl,rfl⟩,⟨_,rfl,rfl⟩,tq⟩;show D6 true true t mode pad back (d7 t k xs) (.z iv.length (bv iv)) (.p (.k 1) 0) (.z (m) (sub (bv b) 0 (m))) (.z a9.length (bv a9))=_;rw[b9 hb,hmL]
  ·rcases row with _|⟨a,r⟩;all_goals
    have e1:gr*i<=L:=Zv (Zh gr hi) hle;refine⟨_,rfl,?_⟩;refine b8 (fun hc=> ?_) (fun hc=> ?_)
    ·have hc':(mo:Int)<I6.wrap ((L:Int)-((gr*i:Nat):Int)):=hc;rw[Ze _ (by omega)]at hc';have hli:i<n0:=(a8 i).2 (by omega);have hle2:gr*(i+1)<=L:=Zv (Zh gr hli) hle;refine⟨rfl,i+1,hli,Zz _ _ hli,[.k 0,.k 1,.k 2,.k 3,.k 4,.k 5],⟨rfl,rfl,rfl,c9 ?_,rfl,rfl,tq⟩,⟨_,rfl,rfl⟩,⟨_,rfl,rfl⟩,⟨_,rfl,rfl⟩,⟨_,rfl,rfl⟩,⟨_,rfl,rfl⟩,⟨_,rfl,rfl⟩,tq⟩;rw[Zp]at hle2 ⊢;rw[Ze _ (by omega)];omega
    ·have hc':¬(mo:Int)<I6.wrap ((L:Int)-((gr*i:Nat):Int)):=hc;rw[Ze _ (by omega)]at hc';obtain rfl:i=n0:=Z2 hi (Zt fun hh=>by have:=(a8 i).1 hh;omega);refine⟨_,rfl,?_⟩;refine⟨by omega,by omega,by omega,by omega,?_⟩;refine⟨[.k 0,.k 1,.k 2,.k 3],_,_,_,_,TU [],?_,rfl,?_⟩
     ·show[V.p (.k 0) 0,V.z ((gr*i:Nat):Int).toNat (sub (bv b) 0 ((gr*i:Nat):Int).toNat)]=_;rw[Zc,<-hat,a0];rfl
     refine⟨Za rfl,?_⟩;refine⟨_,rfl,?_⟩;refine⟨by omega,by omega,by omega,by omega,?_⟩;refine⟨[],_,_,_,_,ny (n:=L-at') (l:=b.drop at') rfl lD (by omega),?_,rfl,?_⟩
     ·show[V.z (L-((gr*i:Nat):Int).toNat) (sub (bv b) ((gr*i:Nat):Int).toNat (L-((gr*i:Nat):Int).toNat))]=_;rw[Zc,<-hat,q7 lB (by omega)]
     refine⟨Za rfl,?_⟩;refine⟨_,rfl,?_⟩;refine⟨Za rfl,?_⟩;refine⟨Za rfl,?_⟩;refine⟨_,rfl,_,rfl,?_⟩;refine⟨_,_,?_,.ret (.refl _),G2.refl _⟩;refine⟨_,rfl,[.k 0,.k 1,.k 2,.k 3,.d 54 0],rfl,⟨_,rfl,?_⟩,⟨_,rfl,rfl⟩,⟨_,rfl,rfl⟩,⟨_,rfl,rfl⟩,⟨_,rfl,?_⟩,tq⟩
     ·exact congrArg (fun z=>D6 true true t mode pad back (d7 t k xs) (.z iv.length (bv iv)) (.p (.k 1) 0) (.o 1 (.k 4) 0 z) (.z a9.length (bv a9))) (show L-at'=0 by omega)
     ·exact congrArg (fun z=>B.sc (bv z)) (Zf (by rw[lD];omega))
 ·refine oA.d bd ?_;refine⟨⟨[(0,.p (.k 0) 0),(1,.z m (bv b)),(4,.p (.k 4) 0),(5,.p (.k 5) 0)],[D6 true true t mode pad back (d7 t k xs) (.z iv.length (bv iv)) (.p (.k 1) 0) (.o 1 (.k 3) 0 H.length) (.z a9.length (bv a9)),f8 (d7 t k xs) md back ⟨ch,row,g⟩ 2,i6 row g,.sc (bv H),.sc [.slice none 0 0],.sc [.int .i64 0]]⟩,4,5,by decide,⟨[.k 0,.k 1,.k 2,.k 3,.d 4 0,.d 5 0],⟨rfl,rfl,rfl,rfl,tq⟩,⟨_,rfl,rfl⟩,⟨_,rfl,by cases row<;>rfl⟩,⟨_,rfl,by cases row<;>rfl⟩,⟨_,rfl,rfl⟩,⟨_,rfl,rfl⟩,⟨_,rfl,rfl⟩,tq⟩,rfl,rfl,rfl,?_⟩;refine⟨0,Nat,fun i=>⟨[(0,.p (.k 0) 0),(4,.p (.k 4) 0),(5,.p (.k 5) 0),(6,i64 (gr*i:Nat)),(7,i64 mo),(8,i64 gr)],[D6 true true t mode pad back (d7 t k xs) (.z iv.length (bv iv)) (.p (.k 1) 0) (.z L (bv (H++b))) (.z a9.length (bv a9)),f8 (d7 t k xs) md back ⟨ch,row,g⟩ 2,i6 row g,.dead,.sc [.slice none 0 0],.sc [.int .i64 0]]⟩,fun i=>i<=n0,fun i=>n0-i,?_,fun i hi=> ?_⟩
  ·rcases row with _|⟨a,r⟩;all_goals
    refine⟨[.k 0,.k 1,.k 2,.k 3],_,_,_,_,NE,rfl,rfl,?_⟩;refine⟨_,rfl,?_⟩;refine⟨by rw[f9,hb],by omega,by rw[f9];omega,?_⟩;refine⟨Za rfl,?_⟩;refine⟨[.k 0,.k 1,.k 2,.d 17 0],_,_,_,_,MO (H.length+m) (sub (bv H) 0 (H.length*1)++bv b) ⟨(H++b),by rw[Zb,hb],by rw[Zs,b9 rfl,z5]⟩,rfl,rfl,?_⟩;refine bi rfl ?_;refine bi (P6 rfl rfl (P6 rfl rfl (P6 rfl rfl (P6 rfl rfl rfl)))) ?_;refine⟨_,rfl,?_⟩;refine⟨[.k 1,.k 2],_,_,_,_,G,rfl,rfl,?_⟩;refine⟨[],0,Zr _,[.k 0,.k 1,.k 2,.k 3,.k 4,.k 5],⟨rfl,rfl,rfl,rfl,rfl,rfl,tq⟩,⟨_,rfl,?_⟩,⟨_,rfl,rfl⟩,⟨_,rfl,rfl⟩,⟨_,rfl,rfl⟩,⟨_,rfl,rfl⟩,⟨_,rfl,rfl⟩,tq⟩;show D6 true true t mode pad back (d7 t k xs) (.z iv.length (bv iv)) (.p (.k 1) 0) (.z (H.length+m) (sub (sub (bv H) 0 (H.length*1)++bv b) 0 (H.length+m))) (.z a9.length (bv a9))=_;rw[Zs,b9 rfl,z5,b9 (by rw[Zb,hb]),hL]
  ·rcases row with _|⟨a,r⟩;all_goals
    have e1:gr*i<=L:=Zv (Zh gr hi) hle;refine⟨_,rfl,?_⟩;refine b8 (fun hc=> ?_) (fun hc=> ?_)
    ·have hc':(mo:Int)<I6.wrap ((L:Int)-((gr*i:Nat):Int)):=hc;rw[Ze _ (by omega)]at hc';have hli:i<n0:=(a8 i).2 (by omega);have hle2:gr*(i+1)<=L:=Zv (Zh gr hli) hle;refine⟨rfl,i+1,hli,Zz _ _ hli,[.k 0,.k 1,.k 2,.k 3,.k 4,.k 5],⟨rfl,rfl,rfl,c9 ?_,rfl,rfl,tq⟩,⟨_,rfl,rfl⟩,⟨_,rfl,rfl⟩,⟨_,rfl,rfl⟩,⟨_,rfl,rfl⟩,⟨_,rfl,rfl⟩,⟨_,rfl,rfl⟩,tq⟩;rw[Zp]at hle2 ⊢;rw[Ze _ (by omega)];omega
    ·have hc':¬(mo:Int)<I6.wrap ((L:Int)-((gr*i:Nat):Int)):=hc;rw[Ze _ (by omega)]at hc';obtain rfl:i=n0:=Z2 hi (Zt fun hh=>by have:=(a8 i).1 hh;omega);refine⟨_,rfl,?_⟩;refine⟨by omega,by omega,by omega,by omega,?_⟩;refine⟨[.k 0,.k 1,.k 2,.k 3],_,_,_,_,TU [],?_,rfl,?_⟩
     ·show[V.p (.k 0) 0,V.z ((gr*i:Nat):Int).toNat (sub (bv (H++b)) 0 ((gr*i:Nat):Int).toNat)]=_;rw[Zc,<-hat,a0];rfl
     refine⟨Za rfl,?_⟩;refine⟨_,rfl,?_⟩;refine⟨by omega,by omega,by omega,by omega,?_⟩;refine⟨[],_,_,_,_,ny (n:=L-at') (l:=(H++b).drop at') rfl lD (by omega),?_,rfl,?_⟩
     ·show[V.z (L-((gr*i:Nat):Int).toNat) (sub (bv (H++b)) ((gr*i:Nat):Int).toNat (L-((gr*i:Nat):Int).toNat))]=_;rw[Zc,<-hat,q7 lB (by omega)]
     refine⟨Za rfl,?_⟩;refine⟨_,rfl,?_⟩;refine⟨Za rfl,?_⟩;refine⟨Za rfl,?_⟩;refine⟨_,rfl,_,rfl,?_⟩;refine⟨_,_,?_,.ret (.refl _),G2.refl _⟩;refine⟨_,rfl,[.k 0,.k 1,.k 2,.k 3,.d 54 0],rfl,⟨_,rfl,?_⟩,⟨_,rfl,rfl⟩,⟨_,rfl,rfl⟩,⟨_,rfl,rfl⟩,⟨_,rfl,?_⟩,tq⟩
     ·exact congrArg (fun z=>D6 true true t mode pad back (d7 t k xs) (.z iv.length (bv iv)) (.p (.k 1) 0) (.o 1 (.k 4) 0 z) (.z a9.length (bv a9))) (show L-at'=0 by omega)
     ·exact congrArg (fun z=>B.sc (bv z)) (Zf (by rw[lD];omega))
theorem bS {t mode pad md:Int} {op back:Bool} {k:Nat} {xs:List V} {iv a9:Bs} {st:MS} (hm:mode<=9):a7 C 158 [.p (.k 0) 0] [k7 op t mode pad back k xs iv .n a9,f8 (d7 t k xs) md back st 2,i6 st.row st.gone] (.ret (bool (decide (7<=mode)))) [k7 op t mode pad back k xs iv .n a9,f8 (d7 t k xs) md back st 2,i6 st.row st.gone]:=by
 obtain⟨ch,row,g⟩:=st;rcases row with _|⟨a,r⟩;all_goals
  refine sI.c ?_;refine⟨_,rfl,?_⟩;refine b8 (fun h7=> ?_) (fun h7=> ?_)
  ·refine⟨_,rfl,?_⟩;refine⟨_,rfl,[.k 0,.k 1,.k 2],?_,⟨_,rfl,rfl⟩,⟨_,rfl,rfl⟩,⟨_,rfl,rfl⟩,tq⟩;exact congrArg bool (by rw[decide_eq_true hm,decide_eq_true h7])
  ·refine⟨_,rfl,[.k 0,.k 1,.k 2],?_,⟨_,rfl,rfl⟩,⟨_,rfl,rfl⟩,⟨_,rfl,rfl⟩,tq⟩;exact congrArg bool (by rw[decide_eq_false h7])
theorem nB {t key s k xs rs} (h:g9 t key s k xs rs) {mode pad md:Int} {op back:Bool} {iv a9 b:Bs} {st:MS} {m:Nat} (hb:b.length=m) (hmb:m<=100000) (K:MK s md st) (hm:mode<=9) (hg:m%k6 s md=0) (hne:0<m\/st.row=[]):
  a7 C 97 [.p (.k 0) 0,.z m (bv b)] [k7 op t mode pad back k xs iv .n a9,f8 (d7 t k xs) md back st 2,i6 st.row st.gone]
   (.ret (.z m (bv (f7 (cF t key false) (cF t key true) s md back st b).1)))
   [k7 op t mode pad back k xs iv .n (G8 s mode back b (f7 (cF t key false) (cF t key true) s md back st b).1 a9),f8 (d7 t k xs) md back (f7 (cF t key false) (cF t key true) s md back st b).2 3,.dead,i6 (f7 (cF t key false) (cF t key true) s md back st b).2.row (f7 (cF t key false) (cF t key true) s md back st b).2.gone]:=by
 have hs:=h.s_le;have lo:(f7 (cF t key false) (cF t key true) s md back st b).1.length=m:=by rw[H9 h.ci K.ok (by rw[hb];exact hg),hb]
 have T0:=gU h (back:=back) (st:=st) (b:=b) rfl hb (by omega) K hg hne;have S:=fun(st':MS)=>bS (t:=t) (mode:=mode) (pad:=pad) (md:=md) (op:=op) (back:=back) (k:=k) (xs:=xs) (iv:=iv) (a9:=a9) (st:=st') hm;generalize f7 (cF t key false) (cF t key true) s md back st b=S0 at*
 obtain⟨o,st1⟩:=S0;have S1:=S st1;obtain⟨c1,row1,g1⟩:=st1;dsimp only at T0 lo ⊢;have eS:I6.wrap ((m:Int)-(s:Int))=(m:Int)-s:=Ze _ (by omega);by_cases hL:7<=mode/\s<=m
 ·have eL:G8 s mode back b o a9=(if back then b else o).drop (m-s):=by unfold G8;rw[hb,if_pos hL]
  rw[eL];cases back;all_goals
   obtain⟨ch,row,g⟩:=st;rcases row with _|⟨a,r⟩<;>rcases row1 with _|⟨a1,r1⟩
  all_goals
   refine ia.c ?_;refine⟨_,rfl,?_⟩;refine⟨[.k 1,.k 2],_,_,_,_,T0,rfl,rfl,?_⟩;refine⟨[],_,_,_,_,dI,rfl,rfl,?_⟩;refine⟨_,rfl,?_⟩;refine⟨[],_,_,_,_,h.size,rfl,rfl,?_⟩;refine⟨[.k 0,.k 1,.d 15 2],_,_,_,_,S1,rfl,rfl,?_⟩;refine b8 (fun h7=> ?_) (fun h7=>absurd hL.1 h7);refine b8 (fun h7=> ?_) (fun h7=>absurd hL.2 (by omega));refine⟨_,rfl,?_⟩;refine⟨by rw[eS];omega,by rw[eS];omega,by omega,by omega,?_⟩;first
    |refine⟨[],_,_,_,_,av (n:=s) (l:=o.drop (m-s)) (va:=bv (o.drop (m-s))) rfl (by rw[Zd,lo];omega) (by omega),?_,rfl,?_⟩
     ·show[V.z (m-(I6.wrap ((m:Int)-(s:Int))).toNat) (sub (bv o) (I6.wrap ((m:Int)-(s:Int))).toNat (m-(I6.wrap ((m:Int)-(s:Int))).toNat))]=_;rw[eS,show((m:Int)-s).toNat=m-s by omega,q7 lo (by omega),show m-(m-s)=s by omega]
     refine⟨Za rfl,?_⟩;refine⟨_,rfl,[.k 0,.k 1,.k 2,.d 15 2],rfl,⟨_,rfl,?_⟩,⟨_,rfl,rfl⟩,⟨_,rfl,rfl⟩,⟨_,rfl,rfl⟩,tq⟩;have ll:(o.drop (m-s)).length=s:=by rw[Zd,lo];omega
     show _=k7 op t mode pad false k xs iv .n (o.drop (m-s));unfold k7;rw[ll];rfl
    |refine⟨[],_,_,_,_,av (n:=s) (l:=b.drop (m-s)) (va:=bv (b.drop (m-s))) rfl (by rw[Zd,hb];omega) (by omega),?_,rfl,?_⟩
     ·show[V.z (m-(I6.wrap ((m:Int)-(s:Int))).toNat) (sub (bv b) (I6.wrap ((m:Int)-(s:Int))).toNat (m-(I6.wrap ((m:Int)-(s:Int))).toNat))]=_;rw[eS,show((m:Int)-s).toNat=m-s by omega,q7 hb (by omega),show m-(m-s)=s by omega]
     refine⟨Za rfl,?_⟩;refine⟨_,rfl,[.k 0,.k 1,.k 2,.d 15 2],rfl,⟨_,rfl,?_⟩,⟨_,rfl,rfl⟩,⟨_,rfl,rfl⟩,⟨_,rfl,rfl⟩,tq⟩;have ll:(b.drop (m-s)).length=s:=by rw[Zd,hb];omega
     show _=k7 op t mode pad true k xs iv .n (b.drop (m-s));unfold k7;rw[ll];rfl
 ·have eL:G8 s mode back b o a9=a9:=by unfold G8;rw[hb,if_neg hL]
  rw[eL];obtain⟨ch,row,g⟩:=st;rcases row with _|⟨a,r⟩<;>rcases row1 with _|⟨a1,r1⟩;all_goals
   refine ia.c ?_;refine⟨_,rfl,?_⟩;refine⟨[.k 1,.k 2],_,_,_,_,T0,rfl,rfl,?_⟩;refine⟨[],_,_,_,_,dI,rfl,rfl,?_⟩;refine⟨_,rfl,?_⟩;refine⟨[],_,_,_,_,h.size,rfl,rfl,?_⟩;refine⟨[.k 0,.k 1,.d 15 2],_,_,_,_,S1,rfl,rfl,?_⟩;refine b8 (fun h7=> ?_) (fun h7=> ?_)
   ·refine b8 (fun h8=>absurd ⟨h7,by omega⟩ hL) (fun h8=> ?_);exact⟨_,rfl,[.k 0,.k 1,.k 2,.d 15 2],rfl,⟨_,rfl,rfl⟩,⟨_,rfl,rfl⟩,⟨_,rfl,rfl⟩,⟨_,rfl,rfl⟩,tq⟩
   ·exact⟨_,rfl,[.k 0,.k 1,.k 2,.d 15 2],rfl,⟨_,rfl,rfl⟩,⟨_,rfl,rfl⟩,⟨_,rfl,rfl⟩,⟨_,rfl,rfl⟩,tq⟩
theorem FY {t key s k xs rs} (h:g9 t key s k xs rs) {mode pad md:Int} {op back:Bool} {iv a9:Bs} {st:MS} {vb:List Value} (h3:3<=md) (hm:mode<=9):
  a7 C 97 [.p (.k 0) 0,.z 0 vb] [k7 op t mode pad back k xs iv .n a9,f8 (d7 t k xs) md back st 2,i6 st.row st.gone]
   (.ret (.z 0 [])) [k7 op t mode pad back k xs iv .n a9,f8 (d7 t k xs) md back st 2,i6 st.row st.gone]:=by
 have hs:=h.s_le;have T0:=xr h (back:=back) (st:=st) (vb:=vb) h3;have S:=bS (t:=t) (mode:=mode) (pad:=pad) (md:=md) (op:=op) (back:=back) (k:=k) (xs:=xs) (iv:=iv) (a9:=a9) (st:=st) hm;obtain⟨ch,row,g⟩:=st;rcases row with _|⟨a,r⟩;all_goals
  refine ia.c ?_;refine⟨_,rfl,?_⟩;refine⟨[.k 1,.k 2],_,_,_,_,T0,rfl,rfl,?_⟩;refine⟨[],_,_,_,_,dI,rfl,rfl,?_⟩;refine⟨_,rfl,?_⟩;refine⟨[],_,_,_,_,h.size,rfl,rfl,?_⟩;refine⟨[.k 0,.k 1,.k 2],_,_,_,_,S,rfl,rfl,?_⟩;refine b8 (fun h7=> ?_) (fun h7=> ?_)
  ·refine b8 (fun h8=>absurd h8 (by omega)) (fun h8=> ?_);exact⟨_,rfl,[.k 0,.k 1,.k 2],rfl,⟨_,rfl,rfl⟩,⟨_,rfl,rfl⟩,⟨_,rfl,rfl⟩,tq⟩
  ·exact⟨_,rfl,[.k 0,.k 1,.k 2],rfl,⟨_,rfl,rfl⟩,⟨_,rfl,rfl⟩,⟨_,rfl,rfl⟩,tq⟩
theorem FZ {t key s k xs rs} (h:g9 t key s k xs rs) {mode pad md:Int} {op back:Bool} {iv a9:Bs} {st:MS} {m:Nat} {vb:List Value} (K:MK s md st) (hg:m%k6 s md≠0):
  a7 C 97 [.p (.k 0) 0,.z m vb] [k7 op t mode pad back k xs iv .n a9,f8 (d7 t k xs) md back st 2,i6 st.row st.gone]
   (.pan (.i X0 (i64 7))) [k7 op t mode pad back k xs iv .n a9,f8 (d7 t k xs) md back st 2,i6 st.row st.gone]:=by
 have T0:=sb h (back:=back) (st:=st) (vb:=vb) K hg;obtain⟨ch,row,g⟩:=st;rcases row with _|⟨a,r⟩;all_goals
  refine ia.c ?_;refine⟨_,rfl,?_⟩;refine⟨[.k 1,.k 2],_,_,_,_,T0,rfl,rfl,?_⟩;refine⟨[],_,_,_,_,nM (e:=7) (by decide),rfl,rfl,?_⟩;exact⟨_,rfl,[.k 0,.k 1,.k 2],rfl,⟨_,rfl,rfl⟩,⟨_,rfl,rfl⟩,⟨_,rfl,rfl⟩,tq⟩
theorem FO {t key s k xs rs} (h:g9 t key s k xs rs) {mode pad md:Int} {back:Bool} {iv a9 H:Bs} {st:MS} {m:Nat} (hl:a9.length=s) (hH:H.length=m) (hm:7<=mode/\mode<=9) (h1:s<=m) (h2:m<=2*s):
  a7 C 98 [.p (.k 0) 0,.z m (bv H)] [k7 false t mode pad back k xs iv .n a9,f8 (d7 t k xs) md back st 2,i6 st.row st.gone] (.ret (.z m (bv (A9 (cF t key false) (cF t key true) s mode back a9 H)))) [k7 false t mode pad back k xs iv .n a9,f8 (d7 t k xs) md back st 2,i6 st.row st.gone]:=by
 have T0:a7 C 116 [d7 t k xs,i64 mode,bool back,.z a9.length (bv a9),.z m (bv H)] [] (y4 m) [.sc (bv (A9 (cF t key false) (cF t key true) s mode back a9 H))]:=by
  rw[hl];exact nP h rfl rfl hl hH hm h1 h2
 have lo:(A9 (cF t key false) (cF t key true) s mode back a9 H).length=m:=by rw[stT_len h.ci hl (by omega) (by omega),hH]
 have S:=bS (t:=t) (mode:=mode) (pad:=pad) (md:=md) (op:=false) (back:=back) (k:=k) (xs:=xs) (iv:=iv) (a9:=a9) (st:=st) hm.2;obtain⟨ch,row,g⟩:=st;rcases row with _|⟨a,r⟩;all_goals
  refine dP.c ?_;refine⟨_,rfl,?_⟩;refine⟨[],_,_,_,_,h.size,rfl,rfl,?_⟩;refine⟨[.k 0,.k 1,.k 2],_,_,_,_,S,rfl,rfl,?_⟩;refine b8 (fun h7=> ?_) (fun h7=>absurd hm.1 h7);refine⟨_,rfl,?_⟩;refine⟨_,rfl,?_⟩;refine⟨_,rfl,?_⟩;refine⟨_,rfl,?_⟩;refine⟨[],_,_,_,_,T0,rfl,rfl,?_⟩;refine⟨[],_,_,_,_,dI,rfl,rfl,?_⟩;refine⟨_,rfl,[.k 0,.k 1,.k 2],?_,⟨_,rfl,rfl⟩,⟨_,rfl,rfl⟩,⟨_,rfl,rfl⟩,tq⟩;exact congrArg (V.z m) (b9 lo)
theorem FP {t key s k xs rs} (h:g9 t key s k xs rs) {mode pad md:Int} {back:Bool} {iv a9 H:Bs} {st:MS} {m:Nat} (hl:a9.length=s) (hH:H.length=m) (hm:7<=mode/\mode<=9) (h1:m<s):
  a7 C 98 [.p (.k 0) 0,.z m (bv H)] [k7 false t mode pad back k xs iv .n a9,f8 (d7 t k xs) md back st 2,i6 st.row st.gone] (.pan (.i X0 (i64 7))) [k7 false t mode pad back k xs iv .n a9,f8 (d7 t k xs) md back st 2,i6 st.row st.gone]:=by
 have hs:=h.s_le;have e7:mH s mode a9 H=7:=by unfold mH;rw[if_neg (by omega),if_neg (by omega),if_pos (by omega)]
 have T0:=IT h (l:=a9.length) (m:=m) (vl:=bv a9) (vb:=bv H) (mode:=mode) (back:=back) rfl hH (by omega) (by rw[e7];decide);rw[e7]at T0;have S:=bS (t:=t) (mode:=mode) (pad:=pad) (md:=md) (op:=false) (back:=back) (k:=k) (xs:=xs) (iv:=iv) (a9:=a9) (st:=st) hm.2;obtain⟨ch,row,g⟩:=st;rcases row with _|⟨a,r⟩;all_goals
  refine dP.c ?_;refine⟨_,rfl,?_⟩;refine⟨[],_,_,_,_,h.size,rfl,rfl,?_⟩;refine⟨[.k 0,.k 1,.k 2],_,_,_,_,S,rfl,rfl,?_⟩;refine b8 (fun h7=> ?_) (fun h7=>absurd hm.1 h7);refine⟨_,rfl,?_⟩;refine⟨_,rfl,?_⟩;refine⟨_,rfl,?_⟩;refine⟨_,rfl,?_⟩;refine⟨[],_,_,_,_,T0,rfl,rfl,?_⟩;refine⟨[],_,_,_,_,nM (e:=7) (by decide),rfl,rfl,?_⟩;exact⟨_,rfl,[.k 0,.k 1,.k 2],rfl,⟨_,rfl,rfl⟩,⟨_,rfl,rfl⟩,⟨_,rfl,rfl⟩,tq⟩
theorem FK {t key s k xs rs} (h:g9 t key s k xs rs) {mode pad md:Int} {back:Bool} {iv a9 H:Bs} {st:MS} {m:Nat} (hH:H.length=m) (hmb:m<=100000) (K:MK s md st) (hm:mode<=6) (h4:pad=4) (hg:m%k6 s md=0) (hne:0<m\/st.row=[]):
  a7 C 98 [.p (.k 0) 0,.z m (bv H)] [k7 false t mode pad back k xs iv .n a9,f8 (d7 t k xs) md back st 2,i6 st.row st.gone] (.ret (.z m (bv (f7 (cF t key false) (cF t key true) s md back st H).1)))
   [k7 false t mode pad back k xs iv .n (G8 s mode back H (f7 (cF t key false) (cF t key true) s md back st H).1 a9),f8 (d7 t k xs) md back (f7 (cF t key false) (cF t key true) s md back st H).2 3,.dead,i6 (f7 (cF t key false) (cF t key true) s md back st H).2.row (f7 (cF t key false) (cF t key true) s md back st H).2.gone]:=by
 have S:=bS (t:=t) (mode:=mode) (pad:=pad) (md:=md) (op:=false) (back:=back) (k:=k) (xs:=xs) (iv:=iv) (a9:=a9) (st:=st) (by omega);have TU:=nB h (op:=false) (back:=back) (pad:=pad) (iv:=iv) (a9:=a9) (b:=H) hH hmb K (mode:=mode) (by omega) hg hne;generalize f7 (cF t key false) (cF t key true) s md back st H=S0 at*
 obtain⟨o,c1,row1,g1⟩:=S0;obtain⟨ch,row,g⟩:=st;rcases row with _|⟨a,r⟩<;>rcases row1 with _|⟨a1,r1⟩;all_goals
  refine dP.c ?_;refine⟨_,rfl,?_⟩;refine⟨[],_,_,_,_,h.size,rfl,rfl,?_⟩;refine⟨[.k 0,.k 1,.k 2],_,_,_,_,S,rfl,rfl,?_⟩;refine b8 (fun h7=>absurd h7 (by omega)) (fun h7=> ?_);refine⟨_,rfl,?_⟩;refine i9 (fun _=> ?_) (fun hh=>absurd h4 hh);refine⟨[.k 0,.k 1,.k 2],_,_,_,_,TU,rfl,rfl,?_⟩;exact⟨_,rfl,[.k 0,.k 1,.k 2,.d 53 3],rfl,⟨_,rfl,rfl⟩,⟨_,rfl,rfl⟩,⟨_,rfl,rfl⟩,⟨_,rfl,rfl⟩,tq⟩
theorem FL {t key s k xs rs} (h:g9 t key s k xs rs) {mode pad md:Int} {back:Bool} {iv a9 H:Bs} {st:MS} {m:Nat} (hm0:m=0) (h3:3<=md) (hm:mode<=6) (h4:pad=4):
  a7 C 98 [.p (.k 0) 0,.z m (bv H)] [k7 false t mode pad back k xs iv .n a9,f8 (d7 t k xs) md back st 2,i6 st.row st.gone] (.ret (.z 0 [])) [k7 false t mode pad back k xs iv .n a9,f8 (d7 t k xs) md back st 2,i6 st.row st.gone]:=by
 subst hm0;have S:=bS (t:=t) (mode:=mode) (pad:=pad) (md:=md) (op:=false) (back:=back) (k:=k) (xs:=xs) (iv:=iv) (a9:=a9) (st:=st) (by omega);have TU:=FY h (op:=false) (back:=back) (pad:=pad) (iv:=iv) (a9:=a9) (mode:=mode) (st:=st) (vb:=bv H) h3 (by omega);obtain⟨ch,row,g⟩:=st;rcases row with _|⟨a,r⟩;all_goals
  refine dP.c ?_;refine⟨_,rfl,?_⟩;refine⟨[],_,_,_,_,h.size,rfl,rfl,?_⟩;refine⟨[.k 0,.k 1,.k 2],_,_,_,_,S,rfl,rfl,?_⟩;refine b8 (fun h7=>absurd h7 (by omega)) (fun h7=> ?_);refine⟨_,rfl,?_⟩;refine i9 (fun _=> ?_) (fun hh=>absurd h4 hh);refine⟨[.k 0,.k 1,.k 2],_,_,_,_,TU,rfl,rfl,?_⟩;exact⟨_,rfl,[.k 0,.k 1,.k 2],rfl,⟨_,rfl,rfl⟩,⟨_,rfl,rfl⟩,⟨_,rfl,rfl⟩,tq⟩
theorem FM {t key s k xs rs} (h:g9 t key s k xs rs) {mode pad md:Int} {back:Bool} {iv a9 H:Bs} {st:MS} {m:Nat} (K:MK s md st) (hm:mode<=6) (h4:pad=4) (hg:m%k6 s md≠0):
  a7 C 98 [.p (.k 0) 0,.z m (bv H)] [k7 false t mode pad back k xs iv .n a9,f8 (d7 t k xs) md back st 2,i6 st.row st.gone] (.pan (.i X0 (i64 7))) [k7 false t mode pad back k xs iv .n a9,f8 (d7 t k xs) md back st 2,i6 st.row st.gone]:=by
 have S:=bS (t:=t) (mode:=mode) (pad:=pad) (md:=md) (op:=false) (back:=back) (k:=k) (xs:=xs) (iv:=iv) (a9:=a9) (st:=st) (by omega);have TU:=FZ h (op:=false) (back:=back) (pad:=pad) (iv:=iv) (a9:=a9) (mode:=mode) (m:=m) (vb:=bv H) K hg;obtain⟨ch,row,g⟩:=st;rcases row with _|⟨a,r⟩;all_goals
  refine dP.c ?_;refine⟨_,rfl,?_⟩;refine⟨[],_,_,_,_,h.size,rfl,rfl,?_⟩;refine⟨[.k 0,.k 1,.k 2],_,_,_,_,S,rfl,rfl,?_⟩;refine b8 (fun h7=>absurd h7 (by omega)) (fun h7=> ?_);refine⟨_,rfl,?_⟩;refine i9 (fun _=> ?_) (fun hh=>absurd h4 hh);refine⟨[.k 0,.k 1,.k 2],_,_,_,_,TU,rfl,rfl,?_⟩;exact⟨_,rfl,[.k 0,.k 1,.k 2],rfl,⟨_,rfl,rfl⟩,⟨_,rfl,rfl⟩,⟨_,rfl,rfl⟩,tq⟩
theorem FN {t key s k xs rs} (h:g9 t key s k xs rs) {mode pad md:Int} {back:Bool} {iv a9 H:Bs} {st:MS} {m:Nat} (hb:back=false) (hH:H.length=m) (hms:m<s) (K:MK s md st) (hm:mode<=6) (hp:pad=1\/pad=2\/pad=3) (hgr:k6 s md=s):
  a7 C 98 [.p (.k 0) 0,.z m (bv H)] [k7 false t mode pad back k xs iv .n a9,f8 (d7 t k xs) md back st 2,i6 st.row st.gone] (.ret (.z s (bv (f7 (cF t key false) (cF t key true) s md back st (F8 pad s H)).1)))
   [k7 false t mode pad back k xs iv .n (G8 s mode back (F8 pad s H) (f7 (cF t key false) (cF t key true) s md back st (F8 pad s H)).1 a9),f8 (d7 t k xs) md back (f7 (cF t key false) (cF t key true) s md back st (F8 pad s H)).2 3,.dead,i6 (f7 (cF t key false) (cF t key true) s md back st (F8 pad s H)).2.row (f7 (cF t key false) (cF t key true) s md back st (F8 pad s H)).2.gone]:=by
 subst hb;have hs:=h.s_le;have lp:(F8 pad s H).length=s:=eE (by omega);have PA:=wU (vt:=bv H) hp h.s_two rfl hH hms;have S:=bS (t:=t) (mode:=mode) (pad:=pad) (md:=md) (op:=false) (back:=false) (k:=k) (xs:=xs) (iv:=iv) (a9:=a9) (st:=st) (by omega);have TU:=nB h (op:=false) (back:=false) (pad:=pad) (iv:=iv) (a9:=a9) (b:=F8 pad s H) lp (by omega) K (mode:=mode) (by omega) (by rw[hgr,Zu]) (.inl (by omega));generalize F8 pad s H=P at*
 generalize f7 (cF t key false) (cF t key true) s md false st P=S0 at*
 obtain⟨o,c1,row1,g1⟩:=S0;obtain⟨ch,row,g⟩:=st;rcases row with _|⟨a,r⟩<;>rcases row1 with _|⟨a1,r1⟩;all_goals
  refine dP.c ?_;refine⟨_,rfl,?_⟩;refine⟨[],_,_,_,_,h.size,rfl,rfl,?_⟩;refine⟨[.k 0,.k 1,.k 2],_,_,_,_,S,rfl,rfl,?_⟩;refine b8 (fun h7=>absurd h7 (by omega)) (fun h7=> ?_);refine⟨_,rfl,?_⟩;refine i9 (fun hh=>absurd hh (by omega)) (fun _=> ?_);refine⟨_,rfl,?_⟩;refine⟨_,rfl,?_⟩;refine⟨[],_,_,_,_,PA,rfl,rfl,?_⟩;refine⟨[],_,_,_,_,dI,rfl,rfl,?_⟩;refine⟨[.k 0,.k 1,.k 2],_,_,_,_,TU,?_,rfl,?_⟩
  ·exact congrArg (fun v=>[V.p (.k 0) 0,V.z s v]) (b9 lp)
  exact⟨_,rfl,[.k 0,.k 1,.k 2,.d 75 3],rfl,⟨_,rfl,rfl⟩,⟨_,rfl,rfl⟩,⟨_,rfl,rfl⟩,⟨_,rfl,rfl⟩,tq⟩
theorem FH {t key s k xs rs} (h:g9 t key s k xs rs) {mode pad md:Int} {back:Bool} {iv a9 H:Bs} {st:MS} {m:Nat} (hb:back=true) (hH:H.length=m) (hmb:m<=100000) (hms:m≠s) (hm:mode<=6) (hp:pad=1\/pad=2\/pad=3):
  a7 C 98 [.p (.k 0) 0,.z m (bv H)] [k7 false t mode pad back k xs iv .n a9,f8 (d7 t k xs) md back st 2,i6 st.row st.gone] (.pan (.i X0 (i64 7))) [k7 false t mode pad back k xs iv .n a9,f8 (d7 t k xs) md back st 2,i6 st.row st.gone]:=by
 subst hb;have S:=bS (t:=t) (mode:=mode) (pad:=pad) (md:=md) (op:=false) (back:=true) (k:=k) (xs:=xs) (iv:=iv) (a9:=a9) (st:=st) (by omega);obtain⟨ch,row,g⟩:=st;rcases row with _|⟨a,r⟩;all_goals
  refine dP.c ?_;refine⟨_,rfl,?_⟩;refine⟨[],_,_,_,_,h.size,rfl,rfl,?_⟩;refine⟨[.k 0,.k 1,.k 2],_,_,_,_,S,rfl,rfl,?_⟩;refine b8 (fun h7=>absurd h7 (by omega)) (fun h7=> ?_);refine⟨_,rfl,?_⟩;refine i9 (fun hh=>absurd hh (by omega)) (fun _=> ?_);refine⟨_,rfl,?_⟩;refine n7 (fun _=> ?_) (fun hh=>absurd hh (by omega));refine⟨[],_,_,_,_,nM (e:=7) (by decide),rfl,rfl,?_⟩;exact⟨_,rfl,[.k 0,.k 1,.k 2],rfl,⟨_,rfl,rfl⟩,⟨_,rfl,rfl⟩,⟨_,rfl,rfl⟩,tq⟩
theorem xX {s:Nat} {mode:Int} {back:Bool} {b o a9:Bs} (hm:mode<=6):G8 s mode back b o a9=a9:=by unfold G8;rw[if_neg (by omega)]
theorem FI {t key s k xs rs} (h:g9 t key s k xs rs) {mode pad md:Int} {back:Bool} {iv a9 H:Bs} {st:MS} {m:Nat} (hb:back=true) (hH:H.length=s) (K:MK s md st) (hm:mode<=6) (hp:pad=1\/pad=2\/pad=3) (hgr:k6 s md=s) (h0:C3 pad (f7 (cF t key false) (cF t key true) s md back st H).1=0):
  a7 C 98 [.p (.k 0) 0,.z s (bv H)] [k7 false t mode pad back k xs iv .n a9,f8 (d7 t k xs) md back st 2,i6 st.row st.gone] (.pan (.i X0 (i64 8)))
   [k7 false t mode pad back k xs iv .n a9,f8 (d7 t k xs) md back (f7 (cF t key false) (cF t key true) s md back st H).2 3,.dead,i6 (f7 (cF t key false) (cF t key true) s md back st H).2.row (f7 (cF t key false) (cF t key true) s md back st H).2.gone]:=by
 subst hb;have hs:=h.s_le;have lo:(f7 (cF t key false) (cF t key true) s md true st H).1.length=s:=by rw[H9 h.ci K.ok (by rw[hH,hgr,Zu]),hH]
 have PA:=xz (vb:=bv (f7 (cF t key false) (cF t key true) s md true st H).1) rfl hp h.s_two lo h0;have S:=bS (t:=t) (mode:=mode) (pad:=pad) (md:=md) (op:=false) (back:=true) (k:=k) (xs:=xs) (iv:=iv) (a9:=a9) (st:=st) (by omega);have TU:=nB h (op:=false) (back:=true) (pad:=pad) (iv:=iv) (a9:=a9) (b:=H) hH (by omega) K (mode:=mode) (by omega) (by rw[hgr,Zu]) (.inl (by omega));rw[xX hm]at TU;generalize f7 (cF t key false) (cF t key true) s md true st H=S0 at*
 obtain⟨o,c1,row1,g1⟩:=S0;obtain⟨ch,row,g⟩:=st;rcases row with _|⟨a,r⟩<;>rcases row1 with _|⟨a1,r1⟩;all_goals
  refine dP.c ?_;refine⟨_,rfl,?_⟩;refine⟨[],_,_,_,_,h.size,rfl,rfl,?_⟩;refine⟨[.k 0,.k 1,.k 2],_,_,_,_,S,rfl,rfl,?_⟩;refine b8 (fun h7=>absurd h7 (by omega)) (fun h7=> ?_);refine⟨_,rfl,?_⟩;refine i9 (fun hh=>absurd hh (by omega)) (fun _=> ?_);refine⟨_,rfl,?_⟩;refine n7 (fun hh=>absurd rfl hh) (fun _=> ?_);refine⟨_,rfl,?_⟩;refine⟨[.k 0,.k 1,.k 2],_,_,_,_,TU,rfl,rfl,?_⟩;refine bi rfl ?_;refine bi (P6 rfl rfl rfl) ?_;refine⟨[],_,_,_,_,PA,rfl,rfl,?_⟩;refine⟨[],_,_,_,_,nM (e:=8) (by decide),rfl,rfl,?_⟩;exact⟨_,rfl,[.k 0,.k 1,.k 2,.d 90 3],rfl,⟨_,rfl,rfl⟩,⟨_,rfl,rfl⟩,⟨_,rfl,rfl⟩,⟨_,rfl,rfl⟩,tq⟩
theorem FJ {t key s k xs rs} (h:g9 t key s k xs rs) {mode pad md:Int} {back:Bool} {iv a9 H:Bs} {st:MS} {m:Nat} (hb:back=true) (hH:H.length=s) (K:MK s md st) (hm:mode<=6) (hp:pad=1\/pad=2\/pad=3) (hgr:k6 s md=s) (h0:C3 pad (f7 (cF t key false) (cF t key true) s md back st H).1≠0):
  a7 C 98 [.p (.k 0) 0,.z s (bv H)] [k7 false t mode pad back k xs iv .n a9,f8 (d7 t k xs) md back st 2,i6 st.row st.gone] (.ret (.z (s-C3 pad (f7 (cF t key false) (cF t key true) s md back st H).1) (bv (S4 pad (f7 (cF t key false) (cF t key true) s md back st H).1))))
   [k7 false t mode pad back k xs iv .n a9,f8 (d7 t k xs) md back (f7 (cF t key false) (cF t key true) s md back st H).2 3,.dead,i6 (f7 (cF t key false) (cF t key true) s md back st H).2.row (f7 (cF t key false) (cF t key true) s md back st H).2.gone]:=by
 subst hb;have hs:=h.s_le;have lo:(f7 (cF t key false) (cF t key true) s md true st H).1.length=s:=by rw[H9 h.ci K.ok (by rw[hH,hgr,Zu]),hH]
 have PA:=xy (vb:=bv (f7 (cF t key false) (cF t key true) s md true st H).1) rfl hp h.s_two lo h0;have S:=bS (t:=t) (mode:=mode) (pad:=pad) (md:=md) (op:=false) (back:=true) (k:=k) (xs:=xs) (iv:=iv) (a9:=a9) (st:=st) (by omega);have TU:=nB h (op:=false) (back:=true) (pad:=pad) (iv:=iv) (a9:=a9) (b:=H) hH (by omega) K (mode:=mode) (by omega) (by rw[hgr,Zu]) (.inl (by omega));rw[xX hm]at TU;generalize f7 (cF t key false) (cF t key true) s md true st H=S0 at*
 obtain⟨o,c1,row1,g1⟩:=S0;obtain⟨ch,row,g⟩:=st;rcases row with _|⟨a,r⟩<;>rcases row1 with _|⟨a1,r1⟩;all_goals
  refine dP.c ?_;refine⟨_,rfl,?_⟩;refine⟨[],_,_,_,_,h.size,rfl,rfl,?_⟩;refine⟨[.k 0,.k 1,.k 2],_,_,_,_,S,rfl,rfl,?_⟩;refine b8 (fun h7=>absurd h7 (by omega)) (fun h7=> ?_);refine⟨_,rfl,?_⟩;refine i9 (fun hh=>absurd hh (by omega)) (fun _=> ?_);refine⟨_,rfl,?_⟩;refine n7 (fun hh=>absurd rfl hh) (fun _=> ?_);refine⟨_,rfl,?_⟩;refine⟨[.k 0,.k 1,.k 2],_,_,_,_,TU,rfl,rfl,?_⟩;refine bi rfl ?_;refine bi (P6 rfl rfl rfl) ?_;refine⟨[],_,_,_,_,PA,rfl,rfl,?_⟩;refine⟨[],_,_,_,_,dI,rfl,rfl,?_⟩;exact⟨_,rfl,[.k 0,.k 1,.k 2,.d 90 3],rfl,⟨_,rfl,rfl⟩,⟨_,rfl,rfl⟩,⟨_,rfl,rfl⟩,⟨_,rfl,rfl⟩,tq⟩
theorem FT {t mode pad md:Int} {back:Bool} {k m n:Nat} {e:Int} {xs:List V} {iv a9 E9 H:Bs} {st st':MS} {x:HK} {vr:List Value} (hx:x= .n/\m=0/\H=[]\/x= .o H/\H.length=m)
  (E:a7 C 98 [.p (.k 0) 0,.z m (bv H)] [k7 false t mode pad back k xs iv .n a9,f8 (d7 t k xs) md back st 2,i6 st.row st.gone] (.ret (.z n vr)) [k7 false t mode pad back k xs iv .n E9,f8 (d7 t k xs) md back st' 3,.dead,i6 st'.row st'.gone]):
  a7 C 34 [.p (.k 0) 0] [k7 true t mode pad back k xs iv x a9,f8 (d7 t k xs) md back st 2,i6 st.row st.gone,x.b] (.ret (.t [.z n vr,i64 0])) [k7 false t mode pad back k xs iv .n E9,f8 (d7 t k xs) md back st' 4,.dead,.dead,i6 st'.row st'.gone]:=by
 have NE:=ja (t:=t) (mode:=mode) (pad:=pad) (md:=md) (back:=back) (k:=k) (xs:=xs) (iv:=iv) (a9:=a9) (st:=st) (x:=x);obtain⟨ch,row,g⟩:=st;obtain⟨ch1,row1,g1⟩:=st';rcases hx with ⟨rfl,rfl,rfl⟩|⟨rfl,hH⟩
 ·rcases row with _|⟨a,r⟩<;>rcases row1 with _|⟨a1,r1⟩;all_goals
   refine fu.d bd ?_;refine⟨⟨[(0,.p (.k 0) 0),(2,.p (.k 4) 0),(3,.p (.k 5) 0)],[_,_,_,_,.sc [.slice none 0 0],.sc [.int .i64 0]]⟩,4,5,by decide,⟨[.k 0,.k 1,.k 2,.k 3,.d 2 0,.d 3 0],⟨rfl,rfl,rfl,tq⟩,⟨_,rfl,rfl⟩,⟨_,rfl,rfl⟩,⟨_,rfl,rfl⟩,⟨_,rfl,rfl⟩,⟨_,rfl,rfl⟩,⟨_,rfl,rfl⟩,tq⟩,rfl,rfl,rfl,?_⟩;refine⟨[.k 0,.k 1,.k 2,.k 3],_,_,_,_,NE,rfl,rfl,?_⟩;refine⟨_,rfl,?_⟩;refine⟨Za rfl,?_⟩;refine⟨Za rfl,?_⟩;refine⟨[.k 0,.k 1,.k 2],_,_,_,_,a7.args E (ys0:=[.p (.k 0) 0,g8]) (.cons (.refl _) (.cons .nl .nil)),rfl,rfl,?_⟩;refine⟨Za rfl,?_⟩;refine⟨Za rfl,?_⟩;refine⟨_,rfl,_,rfl,?_⟩;refine⟨_,_,?_,.ret (.refl _),G2.refl _⟩;exact⟨_,rfl,[.k 0,.k 1,.k 2,.k 3,.d 19 3],rfl,⟨_,rfl,rfl⟩,⟨_,rfl,rfl⟩,⟨_,rfl,rfl⟩,⟨_,rfl,rfl⟩,⟨_,rfl,rfl⟩,tq⟩
 ·rcases row with _|⟨a,r⟩<;>rcases row1 with _|⟨a1,r1⟩;all_goals
   refine fu.d bd ?_;refine⟨⟨[(0,.p (.k 0) 0),(2,.p (.k 4) 0),(3,.p (.k 5) 0)],[_,_,_,_,.sc [.slice none 0 0],.sc [.int .i64 0]]⟩,4,5,by decide,⟨[.k 0,.k 1,.k 2,.k 3,.d 2 0,.d 3 0],⟨rfl,rfl,rfl,tq⟩,⟨_,rfl,rfl⟩,⟨_,rfl,rfl⟩,⟨_,rfl,rfl⟩,⟨_,rfl,rfl⟩,⟨_,rfl,rfl⟩,⟨_,rfl,rfl⟩,tq⟩,rfl,rfl,rfl,?_⟩;refine⟨[.k 0,.k 1,.k 2,.k 3],_,_,_,_,NE,rfl,rfl,?_⟩;refine⟨_,rfl,?_⟩;refine⟨Za rfl,?_⟩;refine⟨Za rfl,?_⟩;refine⟨[.k 0,.k 1,.k 2],_,_,_,_,E,?_,rfl,?_⟩
   ·show[V.p (.k 0) 0,V.z H.length (sub (bv H) 0 H.length)]=_;rw[b9 rfl,hH]
   refine⟨Za rfl,?_⟩;refine⟨Za rfl,?_⟩;refine⟨_,rfl,_,rfl,?_⟩;refine⟨_,_,?_,.ret (.refl _),G2.refl _⟩;exact⟨_,rfl,[.k 0,.k 1,.k 2,.k 3,.d 19 3],rfl,⟨_,rfl,rfl⟩,⟨_,rfl,rfl⟩,⟨_,rfl,rfl⟩,⟨_,rfl,rfl⟩,⟨_,rfl,rfl⟩,tq⟩
theorem FS {t mode pad md:Int} {back:Bool} {k m n:Nat} {e:Int} {xs:List V} {iv a9 E9 H:Bs} {st st':MS} {x:HK} {vr:List Value} (hx:x= .n/\m=0/\H=[]\/x= .o H/\H.length=m)
  (E:a7 C 98 [.p (.k 0) 0,.z m (bv H)] [k7 false t mode pad back k xs iv .n a9,f8 (d7 t k xs) md back st 2,i6 st.row st.gone] (.pan (.i X0 (i64 e))) [k7 false t mode pad back k xs iv .n E9,f8 (d7 t k xs) md back st' 3,.dead,i6 st'.row st'.gone]):
  a7 C 34 [.p (.k 0) 0] [k7 true t mode pad back k xs iv x a9,f8 (d7 t k xs) md back st 2,i6 st.row st.gone,x.b] (.ret (.t [.z 0 [],i64 e])) [k7 false t mode pad back k xs iv .n E9,f8 (d7 t k xs) md back st' 4,.dead,.dead,i6 st'.row st'.gone]:=by
 have NE:=ja (t:=t) (mode:=mode) (pad:=pad) (md:=md) (back:=back) (k:=k) (xs:=xs) (iv:=iv) (a9:=a9) (st:=st) (x:=x);obtain⟨ch,row,g⟩:=st;obtain⟨ch1,row1,g1⟩:=st';rcases hx with ⟨rfl,rfl,rfl⟩|⟨rfl,hH⟩
 ·rcases row with _|⟨a,r⟩<;>rcases row1 with _|⟨a1,r1⟩;all_goals
   refine fu.d bd ?_;refine⟨⟨[(0,.p (.k 0) 0),(2,.p (.k 4) 0),(3,.p (.k 5) 0)],[_,_,_,_,.sc [.slice none 0 0],.sc [.int .i64 0]]⟩,4,5,by decide,⟨[.k 0,.k 1,.k 2,.k 3,.d 2 0,.d 3 0],⟨rfl,rfl,rfl,tq⟩,⟨_,rfl,rfl⟩,⟨_,rfl,rfl⟩,⟨_,rfl,rfl⟩,⟨_,rfl,rfl⟩,⟨_,rfl,rfl⟩,⟨_,rfl,rfl⟩,tq⟩,rfl,rfl,rfl,?_⟩;refine⟨[.k 0,.k 1,.k 2,.k 3],_,_,_,_,NE,rfl,rfl,?_⟩;refine⟨_,rfl,?_⟩;refine⟨Za rfl,?_⟩;refine⟨Za rfl,?_⟩;refine⟨[.k 0,.k 1,.k 2],_,_,_,_,a7.args E (ys0:=[.p (.k 0) 0,g8]) (.cons (.refl _) (.cons .nl .nil)),rfl,rfl,?_⟩;refine⟨_,rfl,_,rfl,?_⟩;refine⟨_,_,?_,.ret (.t (.cons .nl (.cons (.refl _) .nil))),G2.refl _⟩;exact⟨_,rfl,[.k 0,.k 1,.k 2,.k 3,.d 19 3],rfl,⟨_,rfl,rfl⟩,⟨_,rfl,rfl⟩,⟨_,rfl,rfl⟩,⟨_,rfl,rfl⟩,⟨_,rfl,rfl⟩,tq⟩
 ·rcases row with _|⟨a,r⟩<;>rcases row1 with _|⟨a1,r1⟩;all_goals
   refine fu.d bd ?_;refine⟨⟨[(0,.p (.k 0) 0),(2,.p (.k 4) 0),(3,.p (.k 5) 0)],[_,_,_,_,.sc [.slice none 0 0],.sc [.int .i64 0]]⟩,4,5,by decide,⟨[.k 0,.k 1,.k 2,.k 3,.d 2 0,.d 3 0],⟨rfl,rfl,rfl,tq⟩,⟨_,rfl,rfl⟩,⟨_,rfl,rfl⟩,⟨_,rfl,rfl⟩,⟨_,rfl,rfl⟩,⟨_,rfl,rfl⟩,⟨_,rfl,rfl⟩,tq⟩,rfl,rfl,rfl,?_⟩;refine⟨[.k 0,.k 1,.k 2,.k 3],_,_,_,_,NE,rfl,rfl,?_⟩;refine⟨_,rfl,?_⟩;refine⟨Za rfl,?_⟩;refine⟨Za rfl,?_⟩;refine⟨[.k 0,.k 1,.k 2],_,_,_,_,E,?_,rfl,?_⟩
   ·show[V.p (.k 0) 0,V.z H.length (sub (bv H) 0 H.length)]=_;rw[b9 rfl,hH]
   refine⟨_,rfl,_,rfl,?_⟩;refine⟨_,_,?_,.ret (.t (.cons .nl (.cons (.refl _) .nil))),G2.refl _⟩;exact⟨_,rfl,[.k 0,.k 1,.k 2,.k 3,.d 19 3],rfl,⟨_,rfl,rfl⟩,⟨_,rfl,rfl⟩,⟨_,rfl,rfl⟩,⟨_,rfl,rfl⟩,⟨_,rfl,rfl⟩,tq⟩
end Go.Scr
