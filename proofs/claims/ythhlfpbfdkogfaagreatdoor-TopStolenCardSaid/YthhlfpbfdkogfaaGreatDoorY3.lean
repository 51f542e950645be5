/-
  What the functions of the given program reckon, each by a contract, up to the law. It is no claim by itself; each contract bears its own conditions.
-/
import Derived.Test.YthhlfpbfdkogfaaGreatDoorY2
set_option linter.unusedVariables false
set_option linter.unusedSimpArgs false
set_option maxRecDepth 100000
namespace Go.Scr
open Go.Proofs
open Nat renaming le_of_ble_eq_true → Za, le_refl → Zj, mul_le_mul_left → Zk, mul_one → Zn, dvd_of_mod_eq_zero → Zo, mul_succ → Zq, zero_add → Zs, zero_le → Zt, le_of_not_lt → Zu, le_trans → Zv, add_sub_cancel → Zw, div_add_mod → Zx, sub_succ_lt_self → Zz, div_eq_of_lt → Z0, lt_of_mul_lt_mul_left → Z1, le_antisymm → Z3, add_sub_cancel_left → Z4, div_mul_le_self → Z9, mul_mod_right → Jb, le_of_dvd → Jd, mul_div_cancel_left → Jf, mod_self → Jh, add_zero → Ji, min_eq_left → Jj, sub_self → Jo
open Int renaming toNat_natCast → Zb, tmod_eq_emod_of_nonneg → Zh, emod_eq_of_lt → Z7, ofNat_inj → Je
open List renaming length_append → Zc, length_drop → Ze, eq_nil_of_length_eq_zero → Zf, length_take → Zg, length_replicate → Zi, length_eq_zero_iff → Zl, nil_append → Zm, replicate → Zp, length_map → Zr, take_append_drop → Zy, getElem?_eq_getElem → Z2, take_of_length_le → Z5, drop_of_length_le → Z6, replicate_succ' → Z8, getD_eq_getElem?_getD → Ja, drop_append → Jg, map_append → Jk, append_nil → Jl, set_append_right → Jm, length_singleton → Jn, map → Jp
open IntWalk renaming i64_in → Zd
open Option renaming isSome_iff_exists → Jc
open Go.IntKind renaming i64 → I6, u8 → U8
theorem Im {ct:Int} {cq:Nat} {cx:List V} {mode:Int} {back:Bool} {ch g row:Bs} {p:UInt8} (hc0:2<=ch.length) (hc:ch.length<=1000) (h0:0<row.length) (hr:row.length<=1000) (hg:g.length<=1000):
  a7 C 121 [.p (.k 0) 0,E4 p] [f6 (b9 ct cq cx) mode back ⟨ch,row,g⟩ 1,g9 row g] (.ret (E4 (T3 mode back ⟨ch,row,g⟩ p).1)) [f6 (b9 ct cq cx) mode back (T3 mode back ⟨ch,row,g⟩ p).2 2,.dead,g9 (T3 mode back ⟨ch,row,g⟩ p).2.row (T3 mode back ⟨ch,row,g⟩ p).2.gone]:=by
 obtain⟨c,hcl⟩:∃c,ch.length=c:=⟨_,rfl⟩;obtain⟨r,hrl⟩:∃r,row.length=r:=⟨_,rfl⟩;obtain⟨j,hgl⟩:∃j,g.length=j:=⟨_,rfl⟩;have hX:f6 (b9 ct cq cx) mode back ⟨ch,row,g⟩ 1= .mx [b9 ct cq cx,i64 mode,bool back,.z c (bv ch),.z r (bv row),.o 1 (.k 1) 0 j]:=by
  unfold f6;rw[fo h0,<-hcl,<-hrl,<-hgl]
 rw[hX,fj h0];refine AS.w ?_;refine⟨_,rfl,?_⟩;refine j7 (fun h=>absurd h (by omega)) (fun _=> ?_);refine⟨_,rfl,?_⟩;refine⟨by omega,by omega,_,A1 (k:=row) (i:=0) (by omega),?_⟩;refine⟨_,rfl,?_⟩;refine⟨by omega,by omega,by omega,by omega,?_⟩;refine⟨Za rfl,?_⟩;refine⟨_,rfl,?_⟩;cases back
 ·refine⟨_,rfl,?_⟩;refine⟨Zj _,by omega,by rw[f9,hgl];omega,?_⟩;refine⟨Za rfl,?_⟩;refine⟨_,rfl,?_⟩;refine j7 (fun h3=> ?_) (fun h3=> ?_)
  ·subst h3;rw[qx];have ld:(ch.drop 1).length=c-1:=by rw[Ze,hcl]
   have lc:(ch.drop 1++[p5 false p (p^^^row.getD 0 0)]).length=c:=by rw[Zc,ld];show c-1+1=c;omega
   refine⟨_,rfl,?_⟩;refine⟨by omega,by omega,by omega,by omega,?_⟩;refine⟨[],_,_,_,_,dB (n:=c-1) (va:=sub (bv ch) 1 (c-1)) (l:=ch.drop 1) (p8 hcl (by omega)) ld (by omega) (by omega),rfl,rfl,?_⟩;refine⟨Zj _,by omega,by rw[f9,ld];omega,?_⟩;refine⟨Za rfl,?_⟩;refine⟨Za rfl,?_⟩;refine⟨.ret (E4 (p^^^row.getD 0 0)),[.mx [b9 ct cq cx,i64 3,bool false,.z c (bv (ch.drop 1++[p5 false p (p^^^row.getD 0 0)])),g8,.z (j+1) (bv (g++[p5 false p (p^^^row.getD 0 0)]))],.dead],⟨_,rfl,[.k 0,.k 1],?_,⟨_,rfl,?_⟩,?_⟩,?_⟩
   ·show V.s (.int .u8 (U8.wrap _))=_;rw[u7]
   ·show B.mx [b9 ct cq cx,i64 3,bool false,.z (c-1+1) (sub (sub (bv (ch.drop 1)) 0 ((c-1)*1)++sub [Value.int .u8 _] 0 (1*1)) 0 (c-1+1)),g8,.z (j+1) (sub (sub (bv g) 0 (j*1)++sub [Value.int .u8 _] 0 (1*1)) 0 (j+1))]=_;rw[cg ld (u7 _ _),cg hgl (u7 _ _),show c-1+1=c by omega];rfl
   ·exact⟨⟨_,rfl,rfl⟩,tq⟩
   ·refine⟨.ret (.refl _),.cons (.mx (.cons (.refl _) (.cons (.refl _) (.cons (.refl _) (.cons ?_ (.cons .nl (.cons .u .nil))))))) (.cons (.refl _) (.dd .nil))⟩;show Wk _ (.z (ch.drop 1++[p5 false p (p^^^row.getD 0 0)]).length _);rw[lc];exact .refl _
  refine j7 (fun h4=> ?_) (fun h4=> ?_)
  ·subst h4;refine⟨_,rfl,?_⟩;refine j7 (fun hr1=> ?_) (fun hr1=> ?_)
   ·have hr1:r=1:=by have:=(rfl:Int.toNat 1=1);omega
    have lG:(g++[p5 false p (p^^^row.getD 0 0)]).length=j+1:=by rw[Zc,hgl];rfl
    rw[qy (by omega)];refine⟨_,rfl,?_⟩;refine⟨Za rfl,?_⟩;refine⟨.ret (E4 (p^^^row.getD 0 0)),[.mx [b9 ct cq cx,i64 4,bool false,.z (j+1) (bv (g++[p5 false p (p^^^row.getD 0 0)])),.z (r-1) (bv (row.drop 1)),.z (j+1) (bv (g++[p5 false p (p^^^row.getD 0 0)]))],.dead],⟨_,rfl,[.k 0,.k 1],?_,⟨_,rfl,?_⟩,?_⟩,?_⟩
    ·show V.s (.int .u8 (U8.wrap _))=_;rw[u7]
    ·show B.mx [b9 ct cq cx,i64 4,bool false,.z (j+1) (sub (sub (bv g) 0 (j*1)++sub [Value.int .u8 _] 0 (1*1)) 0 (j+1)),.z (r-1) (sub (bv row) 1 (r-1)),.z (j+1) (sub (sub (bv g) 0 (j*1)++sub [Value.int .u8 _] 0 (1*1)) 0 (j+1))]=_;rw[cg hgl (u7 _ _),p8 hrl (by omega)];rfl
    ·exact⟨⟨_,rfl,rfl⟩,tq⟩
    ·refine⟨.ret (.refl _),.cons (.mx (.cons (.refl _) (.cons (.refl _) (.cons (.refl _) (.cons ?_ (.cons ?_ (.cons .u .nil))))))) (.cons (.refl _) (.dd .nil))⟩
     ·show Wk _ (.z (g++[p5 false p (p^^^row.getD 0 0)]).length _);rw[lG];exact .refl _
     ·rw[show r-1=0 by omega];exact .z0
   ·have hr2:r≠1:=by have:=(rfl:Int.toNat 1=1);omega
    have lr:(row.drop 1).length=r-1:=by rw[Ze,hrl]
    rw[gR (by decide) (fun e=>hr2 (by omega))];by_cases hr1:r=1
    ·have e0:row.drop 1=[]:=Zl.1 (by omega);rw[e0];refine⟨.ret (E4 (p^^^row.getD 0 0)),[.mx [b9 ct cq cx,i64 4,bool false,.z c (bv ch),.z (r-1) (bv (row.drop 1)),.z (j+1) (bv (g++[p5 false p (p^^^row.getD 0 0)]))],.dead],⟨_,rfl,[.k 0,.k 1],?_,⟨_,rfl,?_⟩,?_⟩,?_⟩
     ·show V.s (.int .u8 (U8.wrap _))=_;rw[u7]
     ·show B.mx [b9 ct cq cx,i64 4,bool false,.z c (bv ch),.z (r-1) (sub (bv row) 1 (r-1)),.z (j+1) (sub (sub (bv g) 0 (j*1)++sub [Value.int .u8 _] 0 (1*1)) 0 (j+1))]=_;rw[cg hgl (u7 _ _),p8 hrl (by omega)];rfl
     ·exact⟨⟨_,rfl,rfl⟩,tq⟩
     ·refine⟨.ret (.refl _),.cons (.mx (.cons (.refl _) (.cons (.refl _) (.cons (.refl _) (.cons ?_ (.cons ?_ (.cons .u .nil))))))) (.cons (.refl _) (.dd .nil))⟩
      ·show Wk _ (.z ch.length _);rw[hcl];exact .refl _
      ·rw[show r-1=0 by omega];exact .z0
    ·rw[fj (row:=row.drop 1) (by omega)];refine⟨.ret (E4 (p^^^row.getD 0 0)),[.mx [b9 ct cq cx,i64 4,bool false,.z c (bv ch),.z (r-1) (bv (row.drop 1)),.o 1 (.k 2) 0 (j+1)],.dead,.sc (bv (g++[p5 false p (p^^^row.getD 0 0)]))],⟨_,rfl,[.k 0,.k 1,.d 44 0],?_,⟨_,rfl,?_⟩,⟨_,rfl,rfl⟩,⟨_,rfl,d9 ?_⟩,tq⟩,?_⟩
     ·show V.s (.int .u8 (U8.wrap _))=_;rw[u7]
     ·show B.mx [b9 ct cq cx,i64 4,bool false,.z c (bv ch),.z (r-1) (sub (bv row) 1 (r-1)),.o 1 (.k 2) 0 (j+1)]=_;rw[p8 hrl (by omega)]
     ·exact jk hgl (u7 _ _)
     ·refine⟨.ret (.refl _),.cons (.mx (.cons (.refl _) (.cons (.refl _) (.cons (.refl _) (.cons ?_ (.cons ?_ (.cons ?_ .nil))))))) (.cons (.refl _) (.cons (.refl _) .nil))⟩
      ·show Wk _ (.z ch.length _);rw[hcl];exact .refl _
      ·show Wk _ (.z (row.drop 1).length _);rw[lr];exact .refl _
      ·show Wk _ (cZ (row.drop 1) (g++[p5 false p (p^^^row.getD 0 0)]) 2);rw[fo (row:=row.drop 1) (by omega),Zc,hgl];exact .refl _
  ·have lr:(row.drop 1).length=r-1:=by rw[Ze,hrl]
   rw[gR h3 (fun e=>h4 e.1)];by_cases hr1:r=1
   ·have e0:row.drop 1=[]:=Zl.1 (by omega);rw[e0];refine⟨.ret (E4 (p^^^row.getD 0 0)),[.mx [b9 ct cq cx,i64 mode,bool false,.z c (bv ch),.z (r-1) (bv (row.drop 1)),.z (j+1) (bv (g++[p5 false p (p^^^row.getD 0 0)]))],.dead],⟨_,rfl,[.k 0,.k 1],?_,⟨_,rfl,?_⟩,?_⟩,?_⟩
    ·show V.s (.int .u8 (U8.wrap _))=_;rw[u7]
    ·show B.mx [b9 ct cq cx,i64 mode,bool false,.z c (bv ch),.z (r-1) (sub (bv row) 1 (r-1)),.z (j+1) (sub (sub (bv g) 0 (j*1)++sub [Value.int .u8 _] 0 (1*1)) 0 (j+1))]=_;rw[cg hgl (u7 _ _),p8 hrl (by omega)];rfl
    ·exact⟨⟨_,rfl,rfl⟩,tq⟩
    ·refine⟨.ret (.refl _),.cons (.mx (.cons (.refl _) (.cons (.refl _) (.cons (.refl _) (.cons ?_ (.cons ?_ (.cons .u .nil))))))) (.cons (.refl _) (.dd .nil))⟩
     ·show Wk _ (.z ch.length _);rw[hcl];exact .refl _
     ·rw[show r-1=0 by omega];exact .z0
   ·rw[fj (row:=row.drop 1) (by omega)];refine⟨.ret (E4 (p^^^row.getD 0 0)),[.mx [b9 ct cq cx,i64 mode,bool false,.z c (bv ch),.z (r-1) (bv (row.drop 1)),.o 1 (.k 2) 0 (j+1)],.dead,.sc (bv (g++[p5 false p (p^^^row.getD 0 0)]))],⟨_,rfl,[.k 0,.k 1,.d 44 0],?_,⟨_,rfl,?_⟩,⟨_,rfl,rfl⟩,⟨_,rfl,d9 ?_⟩,tq⟩,?_⟩
    ·show V.s (.int .u8 (U8.wrap _))=_;rw[u7]
    ·show B.mx [b9 ct cq cx,i64 mode,bool false,.z c (bv ch),.z (r-1) (sub (bv row) 1 (r-1)),.o 1 (.k 2) 0 (j+1)]=_;rw[p8 hrl (by omega)]
    ·exact jk hgl (u7 _ _)
    ·refine⟨.ret (.refl _),.cons (.mx (.cons (.refl _) (.cons (.refl _) (.cons (.refl _) (.cons ?_ (.cons ?_ (.cons ?_ .nil))))))) (.cons (.refl _) (.cons (.refl _) .nil))⟩
     ·show Wk _ (.z ch.length _);rw[hcl];exact .refl _
     ·show Wk _ (.z (row.drop 1).length _);rw[lr];exact .refl _
     ·show Wk _ (cZ (row.drop 1) (g++[p5 false p (p^^^row.getD 0 0)]) 2);rw[fo (row:=row.drop 1) (by omega),Zc,hgl];exact .refl _
 ·refine⟨_,rfl,?_⟩;refine⟨Zj _,by omega,by rw[f9,hgl];omega,?_⟩;refine⟨Za rfl,?_⟩;refine⟨_,rfl,?_⟩;refine j7 (fun h3=> ?_) (fun h3=> ?_)
  ·subst h3;rw[qx];have ld:(ch.drop 1).length=c-1:=by rw[Ze,hcl]
   have lc:(ch.drop 1++[p5 true p (p^^^row.getD 0 0)]).length=c:=by rw[Zc,ld];show c-1+1=c;omega
   refine⟨_,rfl,?_⟩;refine⟨by omega,by omega,by omega,by omega,?_⟩;refine⟨[],_,_,_,_,dB (n:=c-1) (va:=sub (bv ch) 1 (c-1)) (l:=ch.drop 1) (p8 hcl (by omega)) ld (by omega) (by omega),rfl,rfl,?_⟩;refine⟨Zj _,by omega,by rw[f9,ld];omega,?_⟩;refine⟨Za rfl,?_⟩;refine⟨Za rfl,?_⟩;refine⟨.ret (E4 (p^^^row.getD 0 0)),[.mx [b9 ct cq cx,i64 3,bool true,.z c (bv (ch.drop 1++[p5 true p (p^^^row.getD 0 0)])),g8,.z (j+1) (bv (g++[p5 true p (p^^^row.getD 0 0)]))],.dead],⟨_,rfl,[.k 0,.k 1],?_,⟨_,rfl,?_⟩,?_⟩,?_⟩
   ·show V.s (.int .u8 (U8.wrap _))=_;rw[u7]
   ·show B.mx [b9 ct cq cx,i64 3,bool true,.z (c-1+1) (sub (sub (bv (ch.drop 1)) 0 ((c-1)*1)++sub [Value.int .u8 _] 0 (1*1)) 0 (c-1+1)),g8,.z (j+1) (sub (sub (bv g) 0 (j*1)++sub [Value.int .u8 _] 0 (1*1)) 0 (j+1))]=_;rw[cg ld rfl,cg hgl rfl,show c-1+1=c by omega];rfl
   ·exact⟨⟨_,rfl,rfl⟩,tq⟩
   ·refine⟨.ret (.refl _),.cons (.mx (.cons (.refl _) (.cons (.refl _) (.cons (.refl _) (.cons ?_ (.cons .nl (.cons .u .nil))))))) (.cons (.refl _) (.dd .nil))⟩;show Wk _ (.z (ch.drop 1++[p5 true p (p^^^row.getD 0 0)]).length _);rw[lc];exact .refl _
  refine j7 (fun h4=> ?_) (fun h4=> ?_)
  ·subst h4;refine⟨_,rfl,?_⟩;refine j7 (fun hr1=> ?_) (fun hr1=> ?_)
   ·have hr1:r=1:=by have:=(rfl:Int.toNat 1=1);omega
    have lG:(g++[p5 true p (p^^^row.getD 0 0)]).length=j+1:=by rw[Zc,hgl];rfl
    rw[qy (by omega)];refine⟨_,rfl,?_⟩;refine⟨Za rfl,?_⟩;refine⟨.ret (E4 (p^^^row.getD 0 0)),[.mx [b9 ct cq cx,i64 4,bool true,.z (j+1) (bv (g++[p5 true p (p^^^row.getD 0 0)])),.z (r-1) (bv (row.drop 1)),.z (j+1) (bv (g++[p5 true p (p^^^row.getD 0 0)]))],.dead],⟨_,rfl,[.k 0,.k 1],?_,⟨_,rfl,?_⟩,?_⟩,?_⟩
    ·show V.s (.int .u8 (U8.wrap _))=_;rw[u7]
    ·show B.mx [b9 ct cq cx,i64 4,bool true,.z (j+1) (sub (sub (bv g) 0 (j*1)++sub [Value.int .u8 _] 0 (1*1)) 0 (j+1)),.z (r-1) (sub (bv row) 1 (r-1)),.z (j+1) (sub (sub (bv g) 0 (j*1)++sub [Value.int .u8 _] 0 (1*1)) 0 (j+1))]=_;rw[cg hgl rfl,p8 hrl (by omega)];rfl
    ·exact⟨⟨_,rfl,rfl⟩,tq⟩
    ·refine⟨.ret (.refl _),.cons (.mx (.cons (.refl _) (.cons (.refl _) (.cons (.refl _) (.cons ?_ (.cons ?_ (.cons .u .nil))))))) (.cons (.refl _) (.dd .nil))⟩
     ·show Wk _ (.z (g++[p5 true p (p^^^row.getD 0 0)]).length _);rw[lG];exact .refl _
     ·rw[show r-1=0 by omega];exact .z0
   ·have hr2:r≠1:=by have:=(rfl:Int.toNat 1=1);omega
    have lr:(row.drop 1).length=r-1:=by rw[Ze,hrl]
    rw[gR (by decide) (fun e=>hr2 (by omega))];by_cases hr1:r=1
    ·have e0:row.drop 1=[]:=Zl.1 (by omega);rw[e0];refine⟨.ret (E4 (p^^^row.getD 0 0)),[.mx [b9 ct cq cx,i64 4,bool true,.z c (bv ch),.z (r-1) (bv (row.drop 1)),.z (j+1) (bv (g++[p5 true p (p^^^row.getD 0 0)]))],.dead],⟨_,rfl,[.k 0,.k 1],?_,⟨_,rfl,?_⟩,?_⟩,?_⟩
     ·show V.s (.int .u8 (U8.wrap _))=_;rw[u7]
     ·show B.mx [b9 ct cq cx,i64 4,bool true,.z c (bv ch),.z (r-1) (sub (bv row) 1 (r-1)),.z (j+1) (sub (sub (bv g) 0 (j*1)++sub [Value.int .u8 _] 0 (1*1)) 0 (j+1))]=_;rw[cg hgl rfl,p8 hrl (by omega)];rfl
     ·exact⟨⟨_,rfl,rfl⟩,tq⟩
     ·refine⟨.ret (.refl _),.cons (.mx (.cons (.refl _) (.cons (.refl _) (.cons (.refl _) (.cons ?_ (.cons ?_ (.cons .u .nil))))))) (.cons (.refl _) (.dd .nil))⟩
      ·show Wk _ (.z ch.length _);rw[hcl];exact .refl _
      ·rw[show r-1=0 by omega];exact .z0
    ·rw[fj (row:=row.drop 1) (by omega)];refine⟨.ret (E4 (p^^^row.getD 0 0)),[.mx [b9 ct cq cx,i64 4,bool true,.z c (bv ch),.z (r-1) (bv (row.drop 1)),.o 1 (.k 2) 0 (j+1)],.dead,.sc (bv (g++[p5 true p (p^^^row.getD 0 0)]))],⟨_,rfl,[.k 0,.k 1,.d 44 0],?_,⟨_,rfl,?_⟩,⟨_,rfl,rfl⟩,⟨_,rfl,d9 ?_⟩,tq⟩,?_⟩
     ·show V.s (.int .u8 (U8.wrap _))=_;rw[u7]
     ·show B.mx [b9 ct cq cx,i64 4,bool true,.z c (bv ch),.z (r-1) (sub (bv row) 1 (r-1)),.o 1 (.k 2) 0 (j+1)]=_;rw[p8 hrl (by omega)]
     ·exact jk hgl rfl
     ·refine⟨.ret (.refl _),.cons (.mx (.cons (.refl _) (.cons (.refl _) (.cons (.refl _) (.cons ?_ (.cons ?_ (.cons ?_ .nil))))))) (.cons (.refl _) (.cons (.refl _) .nil))⟩
      ·show Wk _ (.z ch.length _);rw[hcl];exact .refl _
      ·show Wk _ (.z (row.drop 1).length _);rw[lr];exact .refl _
      ·show Wk _ (cZ (row.drop 1) (g++[p5 true p (p^^^row.getD 0 0)]) 2);rw[fo (row:=row.drop 1) (by omega),Zc,hgl];exact .refl _
  ·have lr:(row.drop 1).length=r-1:=by rw[Ze,hrl]
   rw[gR h3 (fun e=>h4 e.1)];by_cases hr1:r=1
   ·have e0:row.drop 1=[]:=Zl.1 (by omega);rw[e0];refine⟨.ret (E4 (p^^^row.getD 0 0)),[.mx [b9 ct cq cx,i64 mode,bool true,.z c (bv ch),.z (r-1) (bv (row.drop 1)),.z (j+1) (bv (g++[p5 true p (p^^^row.getD 0 0)]))],.dead],⟨_,rfl,[.k 0,.k 1],?_,⟨_,rfl,?_⟩,?_⟩,?_⟩
    ·show V.s (.int .u8 (U8.wrap _))=_;rw[u7]
    ·show B.mx [b9 ct cq cx,i64 mode,bool true,.z c (bv ch),.z (r-1) (sub (bv row) 1 (r-1)),.z (j+1) (sub (sub (bv g) 0 (j*1)++sub [Value.int .u8 _] 0 (1*1)) 0 (j+1))]=_;rw[cg hgl rfl,p8 hrl (by omega)];rfl
    ·exact⟨⟨_,rfl,rfl⟩,tq⟩
    ·refine⟨.ret (.refl _),.cons (.mx (.cons (.refl _) (.cons (.refl _) (.cons (.refl _) (.cons ?_ (.cons ?_ (.cons .u .nil))))))) (.cons (.refl _) (.dd .nil))⟩
     ·show Wk _ (.z ch.length _);rw[hcl];exact .refl _
     ·rw[show r-1=0 by omega];exact .z0
   ·rw[fj (row:=row.drop 1) (by omega)];refine⟨.ret (E4 (p^^^row.getD 0 0)),[.mx [b9 ct cq cx,i64 mode,bool true,.z c (bv ch),.z (r-1) (bv (row.drop 1)),.o 1 (.k 2) 0 (j+1)],.dead,.sc (bv (g++[p5 true p (p^^^row.getD 0 0)]))],⟨_,rfl,[.k 0,.k 1,.d 44 0],?_,⟨_,rfl,?_⟩,⟨_,rfl,rfl⟩,⟨_,rfl,d9 ?_⟩,tq⟩,?_⟩
    ·show V.s (.int .u8 (U8.wrap _))=_;rw[u7]
    ·show B.mx [b9 ct cq cx,i64 mode,bool true,.z c (bv ch),.z (r-1) (sub (bv row) 1 (r-1)),.o 1 (.k 2) 0 (j+1)]=_;rw[p8 hrl (by omega)]
    ·exact jk hgl rfl
    ·refine⟨.ret (.refl _),.cons (.mx (.cons (.refl _) (.cons (.refl _) (.cons (.refl _) (.cons ?_ (.cons ?_ (.cons ?_ .nil))))))) (.cons (.refl _) (.cons (.refl _) .nil))⟩
     ·show Wk _ (.z ch.length _);rw[hcl];exact .refl _
     ·show Wk _ (.z (row.drop 1).length _);rw[lr];exact .refl _
     ·show Wk _ (cZ (row.drop 1) (g++[p5 true p (p^^^row.getD 0 0)]) 2);rw[fo (row:=row.drop 1) (by omega),Zc,hgl];exact .refl _
theorem Il {t key s k xs rs} (h:i6 t key s k xs rs) {mode:Int} {back:Bool} {H3 g0:Bs} {i0:Nat} {p:UInt8} (hl:H3.length=s):
  a7 C 121 [.p (.k 0) 0,E4 p] [f6 (b9 t k xs) mode back ⟨H3,[],g0⟩ i0,.dead] (.ret (E4 (x6 (cF t key false) mode back ⟨H3,[],g0⟩ p).1)) [f6 (b9 t k xs) mode back (x6 (cF t key false) mode back ⟨H3,[],g0⟩ p).2 2,.dead,g9 (x6 (cF t key false) mode back ⟨H3,[],g0⟩ p).2.row (x6 (cF t key false) mode back ⟨H3,[],g0⟩ p).2.gone]:=by
 have hs:=h.s_le;have hrl:=h.len (back:=false) hl;have HB:=If h (mode:=mode) (back:=back) (rv:= .z 0 []) (gv:= .u) rfl hl;have eo:x6 (cF t key false) mode back ⟨H3,[],g0⟩ p=T3 mode back ⟨(bZ (cF t key false) mode ⟨H3,[],[]⟩).ch,cF t key false H3,[]⟩ p:=rfl;have hcl:(bZ (cF t key false) mode ⟨H3,[],[]⟩).ch.length=s:=by
  show(if mode=5 then cF t key false H3 else if mode=6 then gF H3 else H3).length=s;split
  ·exact hrl
  ·split
   ·rw[uy,hl]
   ·exact hl
 have hX:f6 (b9 t k xs) mode back ⟨H3,[],g0⟩ i0= .mx [b9 t k xs,i64 mode,bool back,.z s (bv H3),.z 0 [],.u]:=by
  unfold f6;rw[<-hl];rfl
 rw[hX,eo];generalize (bZ (cF t key false) mode ⟨H3,[],[]⟩).ch=ch at*
 generalize cF t key false H3=row at*
 clear hX eo;have hc0:2<=ch.length:=by omega
 have hr:row.length<=1000:=by omega
 refine AS.w ?_;refine⟨_,rfl,?_⟩;refine⟨[.k 0],_,_,_,_,HB,rfl,rfl,?_⟩;refine⟨_,rfl,?_⟩;refine⟨by omega,by omega,_,A1 (k:=row) (i:=0) (by omega),?_⟩;refine⟨_,rfl,?_⟩;refine⟨by omega,by omega,by omega,by omega,?_⟩;refine⟨Za rfl,?_⟩;refine⟨_,rfl,?_⟩;cases back
 ·refine⟨_,rfl,?_⟩;refine⟨Zj _,by omega,?_⟩;refine⟨Za rfl,?_⟩;refine⟨_,rfl,?_⟩;refine j7 (fun h3=> ?_) (fun h3=> ?_)
  ·subst h3;rw[qx];have ld:(ch.drop 1).length=s-1:=by rw[Ze,hcl]
   have lc:(ch.drop 1++[p5 false p (p^^^row.getD 0 0)]).length=s:=by rw[Zc,ld];show s-1+1=s;omega
   refine⟨_,rfl,?_⟩;refine⟨by omega,by omega,by omega,by omega,?_⟩;refine⟨[],_,_,_,_,dB (n:=s-1) (va:=sub (bv ch) 1 (s-1)) (l:=ch.drop 1) (p8 hcl (by omega)) ld (by omega) (by omega),rfl,rfl,?_⟩;refine⟨Zj _,by omega,by rw[f9,ld];omega,?_⟩;refine⟨Za rfl,?_⟩;refine⟨Za rfl,?_⟩;refine⟨.ret (E4 (p^^^row.getD 0 0)),[.mx [b9 t k xs,i64 3,bool false,.z s (bv (ch.drop 1++[p5 false p (p^^^row.getD 0 0)])),g8,.z (0+1) (bv ([]++[p5 false p (p^^^row.getD 0 0)]))],.dead],⟨_,rfl,[.k 0,.k 1],?_,⟨_,rfl,?_⟩,?_⟩,?_⟩
   ·show V.s (.int .u8 (U8.wrap _))=_;rw[u7]
   ·show B.mx [b9 t k xs,i64 3,bool false,.z (s-1+1) (sub (sub (bv (ch.drop 1)) 0 ((s-1)*1)++sub [Value.int .u8 _] 0 (1*1)) 0 (s-1+1)),g8,.z (0+1) (sub (sub ([]:List Value) 0 (0*1)++sub [Value.int .u8 _] 0 (1*1)) 0 (0+1))]=_;rw[cg ld (u7 _ _),gX (u7 _ _),show s-1+1=s by omega];rfl
   ·exact⟨⟨_,rfl,rfl⟩,tq⟩
   ·refine⟨.ret (.refl _),.cons (.mx (.cons (.refl _) (.cons (.refl _) (.cons (.refl _) (.cons ?_ (.cons .nl (.cons .u .nil))))))) (.cons (.refl _) (.dd .nil))⟩;show Wk _ (.z (ch.drop 1++[p5 false p (p^^^row.getD 0 0)]).length _);rw[lc];exact .refl _
  refine j7 (fun h4=> ?_) (fun h4=> ?_)
  ·subst h4;refine⟨_,rfl,?_⟩;refine j7 (fun hr1=> ?_) (fun hr1=> ?_)
   ·have hr1:s=1:=by have:=(rfl:Int.toNat 1=1);omega
    have lG:([]++[p5 false p (p^^^row.getD 0 0)]).length=0+1:=by rw[Zc];rfl
    rw[qy (by omega)];refine⟨_,rfl,?_⟩;refine⟨Za rfl,?_⟩;refine⟨.ret (E4 (p^^^row.getD 0 0)),[.mx [b9 t k xs,i64 4,bool false,.z (0+1) (bv ([]++[p5 false p (p^^^row.getD 0 0)])),.z (s-1) (bv (row.drop 1)),.z (0+1) (bv ([]++[p5 false p (p^^^row.getD 0 0)]))],.dead],⟨_,rfl,[.k 0,.k 1],?_,⟨_,rfl,?_⟩,?_⟩,?_⟩
    ·show V.s (.int .u8 (U8.wrap _))=_;rw[u7]
    ·show B.mx [b9 t k xs,i64 4,bool false,.z (0+1) (sub (sub ([]:List Value) 0 (0*1)++sub [Value.int .u8 _] 0 (1*1)) 0 (0+1)),.z (s-1) (sub (bv row) 1 (s-1)),.z (0+1) (sub (sub ([]:List Value) 0 (0*1)++sub [Value.int .u8 _] 0 (1*1)) 0 (0+1))]=_;rw[gX (u7 _ _),p8 hrl (by omega)];rfl
    ·exact⟨⟨_,rfl,rfl⟩,tq⟩
    ·refine⟨.ret (.refl _),.cons (.mx (.cons (.refl _) (.cons (.refl _) (.cons (.refl _) (.cons ?_ (.cons ?_ (.cons .u .nil))))))) (.cons (.refl _) (.dd .nil))⟩
     ·show Wk _ (.z ([]++[p5 false p (p^^^row.getD 0 0)]).length _);rw[lG];exact .refl _
     ·rw[show s-1=0 by omega];exact .z0
   ·have hr2:s≠1:=by have:=(rfl:Int.toNat 1=1);omega
    have lr:(row.drop 1).length=s-1:=by rw[Ze,hrl]
    rw[gR (by decide) (fun e=>hr2 (by omega))];by_cases hr1:s=1
    ·have e0:row.drop 1=[]:=Zl.1 (by omega);rw[e0];refine⟨.ret (E4 (p^^^row.getD 0 0)),[.mx [b9 t k xs,i64 4,bool false,.z s (bv ch),.z (s-1) (bv (row.drop 1)),.z (0+1) (bv ([]++[p5 false p (p^^^row.getD 0 0)]))],.dead],⟨_,rfl,[.k 0,.k 1],?_,⟨_,rfl,?_⟩,?_⟩,?_⟩
     ·show V.s (.int .u8 (U8.wrap _))=_;rw[u7]
     ·show B.mx [b9 t k xs,i64 4,bool false,.z s (bv ch),.z (s-1) (sub (bv row) 1 (s-1)),.z (0+1) (sub (sub ([]:List Value) 0 (0*1)++sub [Value.int .u8 _] 0 (1*1)) 0 (0+1))]=_;rw[gX (u7 _ _),p8 hrl (by omega)];rfl
     ·exact⟨⟨_,rfl,rfl⟩,tq⟩
     ·refine⟨.ret (.refl _),.cons (.mx (.cons (.refl _) (.cons (.refl _) (.cons (.refl _) (.cons ?_ (.cons ?_ (.cons .u .nil))))))) (.cons (.refl _) (.dd .nil))⟩
      ·show Wk _ (.z ch.length _);rw[hcl];exact .refl _
      ·rw[show s-1=0 by omega];exact .z0
    ·rw[fj (row:=row.drop 1) (by omega)];refine⟨.ret (E4 (p^^^row.getD 0 0)),[.mx [b9 t k xs,i64 4,bool false,.z s (bv ch),.z (s-1) (bv (row.drop 1)),.o 1 (.k 2) 0 (0+1)],.dead,.sc (bv ([]++[p5 false p (p^^^row.getD 0 0)]))],⟨_,rfl,[.k 0,.k 1,.d 44 0],?_,⟨_,rfl,?_⟩,⟨_,rfl,rfl⟩,⟨_,rfl,d9 ?_⟩,tq⟩,?_⟩
     ·show V.s (.int .u8 (U8.wrap _))=_;rw[u7]
     ·show B.mx [b9 t k xs,i64 4,bool false,.z s (bv ch),.z (s-1) (sub (bv row) 1 (s-1)),.o 1 (.k 2) 0 (0+1)]=_;rw[p8 hrl (by omega)]
     ·exact kM (u7 _ _)
     ·refine⟨.ret (.refl _),.cons (.mx (.cons (.refl _) (.cons (.refl _) (.cons (.refl _) (.cons ?_ (.cons ?_ (.cons ?_ .nil))))))) (.cons (.refl _) (.cons (.refl _) .nil))⟩
      ·show Wk _ (.z ch.length _);rw[hcl];exact .refl _
      ·show Wk _ (.z (row.drop 1).length _);rw[lr];exact .refl _
      ·show Wk _ (cZ (row.drop 1) ([]++[p5 false p (p^^^row.getD 0 0)]) 2);rw[fo (row:=row.drop 1) (by omega),Zc];exact .refl _
  ·have lr:(row.drop 1).length=s-1:=by rw[Ze,hrl]
   rw[gR h3 (fun e=>h4 e.1)];by_cases hr1:s=1
   ·have e0:row.drop 1=[]:=Zl.1 (by omega);rw[e0];refine⟨.ret (E4 (p^^^row.getD 0 0)),[.mx [b9 t k xs,i64 mode,bool false,.z s (bv ch),.z (s-1) (bv (row.drop 1)),.z (0+1) (bv ([]++[p5 false p (p^^^row.getD 0 0)]))],.dead],⟨_,rfl,[.k 0,.k 1],?_,⟨_,rfl,?_⟩,?_⟩,?_⟩
    ·show V.s (.int .u8 (U8.wrap _))=_;rw[u7]
    ·show B.mx [b9 t k xs,i64 mode,bool false,.z s (bv ch),.z (s-1) (sub (bv row) 1 (s-1)),.z (0+1) (sub (sub ([]:List Value) 0 (0*1)++sub [Value.int .u8 _] 0 (1*1)) 0 (0+1))]=_;rw[gX (u7 _ _),p8 hrl (by omega)];rfl
    ·exact⟨⟨_,rfl,rfl⟩,tq⟩
    ·refine⟨.ret (.refl _),.cons (.mx (.cons (.refl _) (.cons (.refl _) (.cons (.refl _) (.cons ?_ (.cons ?_ (.cons .u .nil))))))) (.cons (.refl _) (.dd .nil))⟩
     ·show Wk _ (.z ch.length _);rw[hcl];exact .refl _
     ·rw[show s-1=0 by omega];exact .z0
   ·rw[fj (row:=row.drop 1) (by omega)];refine⟨.ret (E4 (p^^^row.getD 0 0)),[.mx [b9 t k xs,i64 mode,bool false,.z s (bv ch),.z (s-1) (bv (row.drop 1)),.o 1 (.k 2) 0 (0+1)],.dead,.sc (bv ([]++[p5 false p (p^^^row.getD 0 0)]))],⟨_,rfl,[.k 0,.k 1,.d 44 0],?_,⟨_,rfl,?_⟩,⟨_,rfl,rfl⟩,⟨_,rfl,d9 ?_⟩,tq⟩,?_⟩
    ·show V.s (.int .u8 (U8.wrap _))=_;rw[u7]
    ·show B.mx [b9 t k xs,i64 mode,bool false,.z s (bv ch),.z (s-1) (sub (bv row) 1 (s-1)),.o 1 (.k 2) 0 (0+1)]=_;rw[p8 hrl (by omega)]
    ·exact kM (u7 _ _)
    ·refine⟨.ret (.refl _),.cons (.mx (.cons (.refl _) (.cons (.refl _) (.cons (.refl _) (.cons ?_ (.cons ?_ (.cons ?_ .nil))))))) (.cons (.refl _) (.cons (.refl _) .nil))⟩
     ·show Wk _ (.z ch.length _);rw[hcl];exact .refl _
     ·show Wk _ (.z (row.drop 1).length _);rw[lr];exact .refl _
     ·show Wk _ (cZ (row.drop 1) ([]++[p5 false p (p^^^row.getD 0 0)]) 2);rw[fo (row:=row.drop 1) (by omega),Zc];exact .refl _
 ·refine⟨_,rfl,?_⟩;refine⟨Zj _,by omega,?_⟩;refine⟨Za rfl,?_⟩;refine⟨_,rfl,?_⟩;refine j7 (fun h3=> ?_) (fun h3=> ?_)
  ·subst h3;rw[qx];have ld:(ch.drop 1).length=s-1:=by rw[Ze,hcl]
   have lc:(ch.drop 1++[p5 true p (p^^^row.getD 0 0)]).length=s:=by rw[Zc,ld];show s-1+1=s;omega
   refine⟨_,rfl,?_⟩;refine⟨by omega,by omega,by omega,by omega,?_⟩;refine⟨[],_,_,_,_,dB (n:=s-1) (va:=sub (bv ch) 1 (s-1)) (l:=ch.drop 1) (p8 hcl (by omega)) ld (by omega) (by omega),rfl,rfl,?_⟩;refine⟨Zj _,by omega,by rw[f9,ld];omega,?_⟩;refine⟨Za rfl,?_⟩;refine⟨Za rfl,?_⟩;refine⟨.ret (E4 (p^^^row.getD 0 0)),[.mx [b9 t k xs,i64 3,bool true,.z s (bv (ch.drop 1++[p5 true p (p^^^row.getD 0 0)])),g8,.z (0+1) (bv ([]++[p5 true p (p^^^row.getD 0 0)]))],.dead],⟨_,rfl,[.k 0,.k 1],?_,⟨_,rfl,?_⟩,?_⟩,?_⟩
   ·show V.s (.int .u8 (U8.wrap _))=_;rw[u7]
   ·show B.mx [b9 t k xs,i64 3,bool true,.z (s-1+1) (sub (sub (bv (ch.drop 1)) 0 ((s-1)*1)++sub [Value.int .u8 _] 0 (1*1)) 0 (s-1+1)),g8,.z (0+1) (sub (sub ([]:List Value) 0 (0*1)++sub [Value.int .u8 _] 0 (1*1)) 0 (0+1))]=_;rw[cg ld rfl,gX rfl,show s-1+1=s by omega];rfl
   ·exact⟨⟨_,rfl,rfl⟩,tq⟩
   ·refine⟨.ret (.refl _),.cons (.mx (.cons (.refl _) (.cons (.refl _) (.cons (.refl _) (.cons ?_ (.cons .nl (.cons .u .nil))))))) (.cons (.refl _) (.dd .nil))⟩;show Wk _ (.z (ch.drop 1++[p5 true p (p^^^row.getD 0 0)]).length _);rw[lc];exact .refl _
  refine j7 (fun h4=> ?_) (fun h4=> ?_)
  ·subst h4;refine⟨_,rfl,?_⟩;refine j7 (fun hr1=> ?_) (fun hr1=> ?_)
   ·have hr1:s=1:=by have:=(rfl:Int.toNat 1=1);omega
    have lG:([]++[p5 true p (p^^^row.getD 0 0)]).length=0+1:=by rw[Zc];rfl
    rw[qy (by omega)];refine⟨_,rfl,?_⟩;refine⟨Za rfl,?_⟩;refine⟨.ret (E4 (p^^^row.getD 0 0)),[.mx [b9 t k xs,i64 4,bool true,.z (0+1) (bv ([]++[p5 true p (p^^^row.getD 0 0)])),.z (s-1) (bv (row.drop 1)),.z (0+1) (bv ([]++[p5 true p (p^^^row.getD 0 0)]))],.dead],⟨_,rfl,[.k 0,.k 1],?_,⟨_,rfl,?_⟩,?_⟩,?_⟩
    ·show V.s (.int .u8 (U8.wrap _))=_;rw[u7]
    ·show B.mx [b9 t k xs,i64 4,bool true,.z (0+1) (sub (sub ([]:List Value) 0 (0*1)++sub [Value.int .u8 _] 0 (1*1)) 0 (0+1)),.z (s-1) (sub (bv row) 1 (s-1)),.z (0+1) (sub (sub ([]:List Value) 0 (0*1)++sub [Value.int .u8 _] 0 (1*1)) 0 (0+1))]=_;rw[gX rfl,p8 hrl (by omega)];rfl
    ·exact⟨⟨_,rfl,rfl⟩,tq⟩
    ·refine⟨.ret (.refl _),.cons (.mx (.cons (.refl _) (.cons (.refl _) (.cons (.refl _) (.cons ?_ (.cons ?_ (.cons .u .nil))))))) (.cons (.refl _) (.dd .nil))⟩
     ·show Wk _ (.z ([]++[p5 true p (p^^^row.getD 0 0)]).length _);rw[lG];exact .refl _
     ·rw[show s-1=0 by omega];exact .z0
   ·have hr2:s≠1:=by have:=(rfl:Int.toNat 1=1);omega
    have lr:(row.drop 1).length=s-1:=by rw[Ze,hrl]
    rw[gR (by decide) (fun e=>hr2 (by omega))];by_cases hr1:s=1
    ·have e0:row.drop 1=[]:=Zl.1 (by omega);rw[e0];refine⟨.ret (E4 (p^^^row.getD 0 0)),[.mx [b9 t k xs,i64 4,bool true,.z s (bv ch),.z (s-1) (bv (row.drop 1)),.z (0+1) (bv ([]++[p5 true p (p^^^row.getD 0 0)]))],.dead],⟨_,rfl,[.k 0,.k 1],?_,⟨_,rfl,?_⟩,?_⟩,?_⟩
     ·show V.s (.int .u8 (U8.wrap _))=_;rw[u7]
     ·show B.mx [b9 t k xs,i64 4,bool true,.z s (bv ch),.z (s-1) (sub (bv row) 1 (s-1)),.z (0+1) (sub (sub ([]:List Value) 0 (0*1)++sub [Value.int .u8 _] 0 (1*1)) 0 (0+1))]=_;rw[gX rfl,p8 hrl (by omega)];rfl
     ·exact⟨⟨_,rfl,rfl⟩,tq⟩
     ·refine⟨.ret (.refl _),.cons (.mx (.cons (.refl _) (.cons (.refl _) (.cons (.refl _) (.cons ?_ (.cons ?_ (.cons .u .nil))))))) (.cons (.refl _) (.dd .nil))⟩
      ·show Wk _ (.z ch.length _);rw[hcl];exact .refl _
      ·rw[show s-1=0 by omega];exact .z0
    ·rw[fj (row:=row.drop 1) (by omega)];refine⟨.ret (E4 (p^^^row.getD 0 0)),[.mx [b9 t k xs,i64 4,bool true,.z s (bv ch),.z (s-1) (bv (row.drop 1)),.o 1 (.k 2) 0 (0+1)],.dead,.sc (bv ([]++[p5 true p (p^^^row.getD 0 0)]))],⟨_,rfl,[.k 0,.k 1,.d 44 0],?_,⟨_,rfl,?_⟩,⟨_,rfl,rfl⟩,⟨_,rfl,d9 ?_⟩,tq⟩,?_⟩
     ·show V.s (.int .u8 (U8.wrap _))=_;rw[u7]
     ·show B.mx [b9 t k xs,i64 4,bool true,.z s (bv ch),.z (s-1) (sub (bv row) 1 (s-1)),.o 1 (.k 2) 0 (0+1)]=_;rw[p8 hrl (by omega)]
     ·exact kM rfl
     ·refine⟨.ret (.refl _),.cons (.mx (.cons (.refl _) (.cons (.refl _) (.cons (.refl _) (.cons ?_ (.cons ?_ (.cons ?_ .nil))))))) (.cons (.refl _) (.cons (.refl _) .nil))⟩
      ·show Wk _ (.z ch.length _);rw[hcl];exact .refl _
      ·show Wk _ (.z (row.drop 1).length _);rw[lr];exact .refl _
      ·show Wk _ (cZ (row.drop 1) ([]++[p5 true p (p^^^row.getD 0 0)]) 2);rw[fo (row:=row.drop 1) (by omega),Zc];exact .refl _
  ·have lr:(row.drop 1).length=s-1:=by rw[Ze,hrl]
   rw[gR h3 (fun e=>h4 e.1)];by_cases hr1:s=1
   ·have e0:row.drop 1=[]:=Zl.1 (by omega);rw[e0];refine⟨.ret (E4 (p^^^row.getD 0 0)),[.mx [b9 t k xs,i64 mode,bool true,.z s (bv ch),.z (s-1) (bv (row.drop 1)),.z (0+1) (bv ([]++[p5 true p (p^^^row.getD 0 0)]))],.dead],⟨_,rfl,[.k 0,.k 1],?_,⟨_,rfl,?_⟩,?_⟩,?_⟩
    ·show V.s (.int .u8 (U8.wrap _))=_;rw[u7]
    ·show B.mx [b9 t k xs,i64 mode,bool true,.z s (bv ch),.z (s-1) (sub (bv row) 1 (s-1)),.z (0+1) (sub (sub ([]:List Value) 0 (0*1)++sub [Value.int .u8 _] 0 (1*1)) 0 (0+1))]=_;rw[gX rfl,p8 hrl (by omega)];rfl
    ·exact⟨⟨_,rfl,rfl⟩,tq⟩
    ·refine⟨.ret (.refl _),.cons (.mx (.cons (.refl _) (.cons (.refl _) (.cons (.refl _) (.cons ?_ (.cons ?_ (.cons .u .nil))))))) (.cons (.refl _) (.dd .nil))⟩
     ·show Wk _ (.z ch.length _);rw[hcl];exact .refl _
     ·rw[show s-1=0 by omega];exact .z0
   ·rw[fj (row:=row.drop 1) (by omega)];refine⟨.ret (E4 (p^^^row.getD 0 0)),[.mx [b9 t k xs,i64 mode,bool true,.z s (bv ch),.z (s-1) (bv (row.drop 1)),.o 1 (.k 2) 0 (0+1)],.dead,.sc (bv ([]++[p5 true p (p^^^row.getD 0 0)]))],⟨_,rfl,[.k 0,.k 1,.d 44 0],?_,⟨_,rfl,?_⟩,⟨_,rfl,rfl⟩,⟨_,rfl,d9 ?_⟩,tq⟩,?_⟩
    ·show V.s (.int .u8 (U8.wrap _))=_;rw[u7]
    ·show B.mx [b9 t k xs,i64 mode,bool true,.z s (bv ch),.z (s-1) (sub (bv row) 1 (s-1)),.o 1 (.k 2) 0 (0+1)]=_;rw[p8 hrl (by omega)]
    ·exact kM rfl
    ·refine⟨.ret (.refl _),.cons (.mx (.cons (.refl _) (.cons (.refl _) (.cons (.refl _) (.cons ?_ (.cons ?_ (.cons ?_ .nil))))))) (.cons (.refl _) (.cons (.refl _) .nil))⟩
     ·show Wk _ (.z ch.length _);rw[hcl];exact .refl _
     ·show Wk _ (.z (row.drop 1).length _);rw[lr];exact .refl _
     ·show Wk _ (cZ (row.drop 1) ([]++[p5 true p (p^^^row.getD 0 0)]) 2);rw[fo (row:=row.drop 1) (by omega),Zc];exact .refl _
def iD (n:Nat) (s:MS):Prop:=s.row.length=0\/s.gone.length+s.row.length=n
theorem CD {E D:Bs->Bs} {n:Nat} {mode:Int} {back:Bool} {s:MS} (h:CI E D n) (hn:0<n) (hm:3<=mode) (ok:V4 n mode s) (g:iD n s) (p:UInt8):iD n (x6 E mode back s p).2:=by
 obtain⟨t,ht,h1,h2⟩:∃t,t=(if s.row.length=0 then bZ E mode s else s)/\0<t.row.length/\t.gone.length+t.row.length=n:=by
  refine⟨_,rfl,?_⟩;split
  ·obtain⟨b1,b2,b3⟩:=Cs h hm ok;exact⟨by omega,by rw[b3,b2];simp⟩
  ·rename_i hr;exact⟨by omega,g.resolve_left hr⟩
 have e:(x6 E mode back s p).2=(T3 mode back t p).2:=by rw[ht];rfl
 rw[e];unfold T3;dsimp only
 split
 ·exact .inl rfl
 ·split
  ·split
   ·exact .inl rfl
   ·exact .inr (by show(t.gone++[_]).length+(t.row.drop 1).length=n;rw[Zc,Jn,Ze];omega)
  ·exact .inr (by show(t.gone++[_]).length+(t.row.drop 1).length=n;rw[Zc,Jn,Ze];omega)
theorem Cz {E D:Bs->Bs} {n:Nat} {mode:Int} {back:Bool} (h:CI E D n) (hn:0<n) (hm:3<=mode):∀(l:Bs) {s:MS},V4 n mode s->iD n s->iD n (A7 E mode back s l).2
 |[],_,_,g=>g
 |p::l,_,ok,g=>Cz h hn hm l (uQ h hn hm ok p) (CD h hn hm ok g p)
theorem Vz {E D:Bs->Bs} {n:Nat} {mode:Int} {back:Bool} {s:MS} {b:Bs} (h:CI E D n) (hn:0<n) (ok:V4 n mode s) (g:iD n s):iD n (f7 E D n mode back s b).2:=by
 unfold f7;by_cases hm:mode=1\/mode=2
 ·simp only[if_pos hm];exact g
 ·simp only[if_neg hm];exact Cz h hn (by have:=ok.m;omega) b ok g
structure MK (n:Nat) (mode:Int) (s:MS):Prop where
 ok:V4 n mode s
 g:iD n s
theorem MK.glen {n mode s} (h:MK n mode s) (hr:s.row.length≠0):s.gone.length<=n:=by
 have:=h.g.resolve_left hr;omega
theorem MK.step {E D:Bs->Bs} {n:Nat} {mode:Int} {back:Bool} {s:MS} {b:Bs} (k:MK n mode s) (h:CI E D n) (hn:0<n):MK n mode (f7 E D n mode back s b).2:=⟨uS h hn k.ok,Vz h hn k.ok k.g⟩
theorem MK.one {E D:Bs->Bs} {n:Nat} {mode:Int} {back:Bool} {s:MS} (k:MK n mode s) (h:CI E D n) (hn:0<n) (hm:3<=mode) (p:UInt8):MK n mode (x6 E mode back s p).2:=⟨uQ h hn hm k.ok p,CD h hn hm k.ok k.g p⟩
theorem MK.new {n:Nat} {mode:Int} {iv:Bs} (hm:1<=mode/\mode<=6) (hc:mode=1\/iv.length=n):MK n mode ⟨iv,[],[]⟩:=⟨⟨hm,hc,Zt _,fun _=>rfl,fun _=> .inl rfl⟩,.inl rfl⟩
structure wB (n:Nat) (mode:Int) (x:MS×Bs×Nat):Prop where
 le:x.2.2<=x.2.1.length
 row:x.1.row=x.2.1.drop x.2.2
 len:x.2.1.length<=n
 made:x.1.row.length≠0->x.1.gone.length=x.2.2
 three:mode=3->x.1.row=[]
 blk:mode=1\/mode=2->x.2=([],0)
theorem wB.new {n:Nat} {mode:Int} {iv:Bs}:wB n mode (⟨iv,[],[]⟩,[],0):=⟨Zj _,rfl,Zt _,fun h=>absurd rfl h,fun _=>rfl,fun _=>rfl⟩
theorem yf {t key s k xs rs} (h:i6 t key s k xs rs) {mode:Int} {back:Bool} {c:Nat} {p ch:Bs} {vp vch:List Value} (hvp:vp=bv p) (hvc:vch=bv ch) (hp:p.length=s) (hc:ch.length=c) (hm:mode=1\/mode=2/\c=s):
  a7 C 122 [.p (.k 0) 0,.z s vp] [.mx [b9 t k xs,i64 mode,bool back,.z c vch,.z 0 [],.u]] (.ret (.z s (bv (D1 (cF t key false) (cF t key true) mode back ch p).1))) [.mx [b9 t k xs,i64 mode,bool back,.z c (bv (D1 (cF t key false) (cF t key true) mode back ch p).2),.z 0 [],.u]]:=by
 subst hvp;subst hvc;have hs:=h.s_le;have lE:=h.len (back:=false) hp;have lD:=h.len (back:=true) hp;refine PO.c ?_;refine⟨_,rfl,?_⟩;refine j7 (fun h1=> ?_) (fun h1=> ?_)
 ·subst h1;refine⟨_,rfl,?_⟩;cases back
  ·refine⟨_,rfl,?_⟩;refine⟨_,rfl,?_⟩;refine⟨[],_,_,_,_,h.enc hp rfl,rfl,rfl,?_⟩;refine⟨_,rfl,[.k 0],?_,⟨_,rfl,?_⟩,tq⟩
   ·show V.z s (sub (bv (cF t key false p)) 0 s)=_;rw[b8 lE];rfl
   ·rfl
  ·refine⟨_,rfl,?_⟩;refine⟨[],_,_,_,_,h.dec hp rfl,rfl,rfl,?_⟩;refine⟨_,rfl,[.k 0],?_,⟨_,rfl,?_⟩,tq⟩
   ·show V.z s (sub (bv (cF t key true p)) 0 s)=_;rw[b8 lD];rfl
   ·rfl
 ·obtain⟨rfl,rfl⟩:=hm.resolve_left h1;refine⟨_,rfl,?_⟩;refine⟨_,rfl,?_⟩;cases back
  ·have lx:=w6 hp hc;have lX:=h.len (back:=false) lx;refine⟨_,rfl,?_⟩;refine⟨[],_,_,_,_,B5 (a:=p) (b:=ch) rfl rfl hp hc (by omega),rfl,rfl,?_⟩;refine⟨_,rfl,?_⟩;refine⟨[],_,_,_,_,h.enc (b:=f8 p ch) lx (b8 lx),rfl,rfl,?_⟩;refine⟨[],_,_,_,_,dB (l:=cF t key false (f8 p ch)) (b8 lX) lX (by omega) (by omega),rfl,rfl,?_⟩;refine⟨Za rfl,?_⟩;refine⟨_,rfl,[.k 0],?_,⟨_,rfl,?_⟩,tq⟩
   ·show V.z c (sub (bv (cF t key false (f8 p ch))) 0 c)=_;rw[b8 lX];rfl
   ·show B.mx [b9 t k xs,i64 2,bool false,.z c (sub (bv (cF t key false (f8 p ch))) 0 c),.z 0 [],.u]=_;rw[b8 lX];rfl
  ·have lx:=w6 lD hc;refine⟨_,rfl,?_⟩;refine⟨[],_,_,_,_,h.dec hp rfl,rfl,rfl,?_⟩;refine⟨_,rfl,?_⟩;refine⟨[],_,_,_,_,B5 (a:=cF t key true p) (b:=ch) (b8 lD) rfl lD hc (by omega),rfl,rfl,?_⟩;refine⟨[],_,_,_,_,dB (l:=p) rfl hp (by omega) (by omega),rfl,rfl,?_⟩;refine⟨Za rfl,?_⟩;refine⟨_,rfl,[.k 0],?_,⟨_,rfl,?_⟩,tq⟩
   ·show V.z c (sub (bv (f8 (cF t key true p) ch)) 0 c)=_;rw[b8 lx];rfl
   ·show B.mx [b9 t k xs,i64 2,bool true,.z c (sub (bv p) 0 c),.z 0 [],.u]=_;rw[b8 hp];rfl
theorem mN {t key s k xs rs} (h:i6 t key s k xs rs) {mode:Int} {back:Bool} {st:MS} (hm:3<=mode):
  a7 C 96 [.p (.k 0) 0] [f6 (b9 t k xs) mode back st 1,g9 st.row st.gone] (.ret (i64 1)) [f6 (b9 t k xs) mode back st 1,g9 st.row st.gone]:=by
 obtain⟨ch,row,g⟩:=st;refine uf.c ?_;refine⟨_,rfl,?_⟩;refine j7 (fun h1=>absurd h1 (by omega)) (fun _=> ?_);refine j7 (fun h1=>absurd h1 (by omega)) (fun _=> ?_);cases row<;>exact⟨_,rfl,[.k 0,.k 1],rfl,⟨_,rfl,rfl⟩,⟨_,rfl,rfl⟩,tq⟩
theorem sZ {t key s k xs rs} (h:i6 t key s k xs rs) {mode:Int} {back:Bool} {c:Nat} {vc:List Value} (hm:mode=1\/mode=2):
  a7 C 96 [.p (.k 0) 0] [.mx [b9 t k xs,i64 mode,bool back,.z c vc,.z 0 [],.u]] (.ret (i64 s)) [.mx [b9 t k xs,i64 mode,bool back,.z c vc,.z 0 [],.u]]:=by
 refine uf.c ?_;refine⟨_,rfl,?_⟩;refine j7 (fun h1=> ?_) (fun h1=> ?_)
 ·refine⟨_,rfl,?_⟩;refine⟨[],_,_,_,_,h.size,rfl,rfl,?_⟩;exact⟨_,rfl,[.k 0],rfl,⟨_,rfl,rfl⟩,tq⟩
 refine j7 (fun h2=> ?_) (fun h2=>absurd h2 (by omega))
 ·refine⟨_,rfl,?_⟩;refine⟨[],_,_,_,_,h.size,rfl,rfl,?_⟩;exact⟨_,rfl,[.k 0],rfl,⟨_,rfl,rfl⟩,tq⟩
theorem dC {t key s k xs rs} (h:i6 t key s k xs rs) {mode:Int} {back:Bool} {l i:Nat} {vi:List Value} {iv:Bs} (hvi:vi=bv iv) (hl:iv.length=l) (hm:1<=mode/\mode<=6) (hi:l=if mode=1 then 0 else s):
  a7 C 62 [b9 t k xs,i64 mode,bool back,.z l vi] [] (.ret (.t [.p (.k 0) 0,i64 0])) [f6 (b9 t k xs) mode back ⟨iv,[],[]⟩ i,.dead,.dead]:=by
 subst hvi;have hs:=h.s_le;have hX:f6 (b9 t k xs) mode back ⟨iv,[],[]⟩ i= .mx [b9 t k xs,i64 mode,bool back,.z l (bv iv),.z 0 [],.u]:=by
  unfold f6;rw[hl];rfl
 rw[hX];have hm':mode=1\/mode=2\/mode=3\/mode=4\/mode=5\/mode=6:=by omega
 rcases hm' with rfl|rfl|rfl|rfl|rfl|rfl
 ·rw[if_pos rfl]at hi;refine kw.w ?_;refine⟨[],_,_,_,_,h.size,rfl,rfl,?_⟩;refine o9 (fun hh=>absurd hh (by omega)) (fun _=> ?_);refine⟨[],_,_,_,_,aw rfl hl (by omega),rfl,rfl,?_⟩;exact⟨.ret (.t [.p (.k 0) 0,i64 0]),[.mx [b9 t k xs,i64 1,bool back,.z l (bv iv),g8,g8]],⟨_,rfl,[.d 32 0],rfl,⟨_,rfl,rfl⟩,tq⟩,.ret (.refl _),.cons (.mx (.cons (.refl _) (.cons (.refl _) (.cons (.refl _) (.cons (.refl _) (.cons .nl (.cons .u .nil))))))) (.dd (.dd .nil))⟩
 ·rw[if_neg (by decide)]at hi;refine kw.w ?_;refine⟨[],_,_,_,_,h.size,rfl,rfl,?_⟩;refine o9 (fun hh=>absurd hh (by omega)) (fun _=> ?_);refine⟨[],_,_,_,_,aw rfl hl (by omega),rfl,rfl,?_⟩;exact⟨.ret (.t [.p (.k 0) 0,i64 0]),[.mx [b9 t k xs,i64 2,bool back,.z l (bv iv),g8,g8]],⟨_,rfl,[.d 32 0],rfl,⟨_,rfl,rfl⟩,tq⟩,.ret (.refl _),.cons (.mx (.cons (.refl _) (.cons (.refl _) (.cons (.refl _) (.cons (.refl _) (.cons .nl (.cons .u .nil))))))) (.dd (.dd .nil))⟩
 ·rw[if_neg (by decide)]at hi;refine kw.w ?_;refine⟨[],_,_,_,_,h.size,rfl,rfl,?_⟩;refine o9 (fun hh=>absurd hh (by omega)) (fun _=> ?_);refine⟨[],_,_,_,_,aw rfl hl (by omega),rfl,rfl,?_⟩;exact⟨.ret (.t [.p (.k 0) 0,i64 0]),[.mx [b9 t k xs,i64 3,bool back,.z l (bv iv),g8,g8]],⟨_,rfl,[.d 32 0],rfl,⟨_,rfl,rfl⟩,tq⟩,.ret (.refl _),.cons (.mx (.cons (.refl _) (.cons (.refl _) (.cons (.refl _) (.cons (.refl _) (.cons .nl (.cons .u .nil))))))) (.dd (.dd .nil))⟩
 ·rw[if_neg (by decide)]at hi;refine kw.w ?_;refine⟨[],_,_,_,_,h.size,rfl,rfl,?_⟩;refine o9 (fun hh=>absurd hh (by omega)) (fun _=> ?_);refine⟨[],_,_,_,_,aw rfl hl (by omega),rfl,rfl,?_⟩;exact⟨.ret (.t [.p (.k 0) 0,i64 0]),[.mx [b9 t k xs,i64 4,bool back,.z l (bv iv),g8,g8]],⟨_,rfl,[.d 32 0],rfl,⟨_,rfl,rfl⟩,tq⟩,.ret (.refl _),.cons (.mx (.cons (.refl _) (.cons (.refl _) (.cons (.refl _) (.cons (.refl _) (.cons .nl (.cons .u .nil))))))) (.dd (.dd .nil))⟩
 ·rw[if_neg (by decide)]at hi;refine kw.w ?_;refine⟨[],_,_,_,_,h.size,rfl,rfl,?_⟩;refine o9 (fun hh=>absurd hh (by omega)) (fun _=> ?_);refine⟨[],_,_,_,_,aw rfl hl (by omega),rfl,rfl,?_⟩;exact⟨.ret (.t [.p (.k 0) 0,i64 0]),[.mx [b9 t k xs,i64 5,bool back,.z l (bv iv),g8,g8]],⟨_,rfl,[.d 32 0],rfl,⟨_,rfl,rfl⟩,tq⟩,.ret (.refl _),.cons (.mx (.cons (.refl _) (.cons (.refl _) (.cons (.refl _) (.cons (.refl _) (.cons .nl (.cons .u .nil))))))) (.dd (.dd .nil))⟩
 ·rw[if_neg (by decide)]at hi;refine kw.w ?_;refine⟨[],_,_,_,_,h.size,rfl,rfl,?_⟩;refine o9 (fun hh=>absurd hh (by omega)) (fun _=> ?_);refine⟨[],_,_,_,_,aw rfl hl (by omega),rfl,rfl,?_⟩;exact⟨.ret (.t [.p (.k 0) 0,i64 0]),[.mx [b9 t k xs,i64 6,bool back,.z l (bv iv),g8,g8]],⟨_,rfl,[.d 32 0],rfl,⟨_,rfl,rfl⟩,tq⟩,.ret (.refl _),.cons (.mx (.cons (.refl _) (.cons (.refl _) (.cons (.refl _) (.cons (.refl _) (.cons .nl (.cons .u .nil))))))) (.dd (.dd .nil))⟩
theorem oL {t key s k xs rs} (h:i6 t key s k xs rs) {mode:Int} {back:Bool} {st:MS} {p:UInt8} (hm:3<=mode) (K:MK s mode st):
  a7 C 121 [.p (.k 0) 0,E4 p] [f6 (b9 t k xs) mode back st 1,g9 st.row st.gone] (.ret (E4 (x6 (cF t key false) mode back st p).1)) [f6 (b9 t k xs) mode back (x6 (cF t key false) mode back st p).2 2,.dead,g9 (x6 (cF t key false) mode back st p).2.row (x6 (cF t key false) mode back st p).2.gone]:=by
 have hs:=h.s_le;have hc:st.ch.length=s:=K.ok.ch.resolve_left (by omega);have hr:=K.ok.row;have hg:=K.glen;obtain⟨ch,row,g⟩:=st;dsimp only at hc hr hg;by_cases h0:row.length=0
 ·obtain rfl:=Zf h0;exact Il h hc
 ·have e:x6 (cF t key false) mode back ⟨ch,row,g⟩ p=T3 mode back ⟨ch,row,g⟩ p:=by unfold x6;rw[if_neg h0]
  rw[e];have hg:=hg h0;exact Im (by omega) (by omega) (by omega) (by omega) (by omega)
def CH (cv:V) (mode:Int) (back:Bool) (m:Nat) (b:Bs):Bool×Nat×MS×Bs->D
 |(false,i,st,o)=>⟨[(0,.p (.k 0) 0),(1,.z m (bv b)),(6,i64 1),(7,.o 1 (.k 2) 0 0)],[f6 cv mode back st 1,g9 st.row st.gone,.sc []]⟩
 |(true,i,st,o)=>⟨[(0,.p (.k 0) 0),(1,.z (m-i) (bv (b.drop i))),(6,i64 1),(7,.o 1 (.k 3) 0 i)],[f6 cv mode back st 2,.dead,g9 st.row st.gone,.sc (bv o)]⟩
theorem rE {b:Bs} {i:Nat} (h:i<b.length):b.take (i+1)=b.take i++[(b.drop i).getD 0 0]:=by
 rw[List.take_add_one,Z2 h,Ja,List.getElem?_drop,Ji,Z2 h];rfl
theorem Mv {t key s k xs rs} (h:i6 t key s k xs rs) {mode:Int} {back:Bool} {st:MS} {m:Nat} {vb:List Value} {b:Bs} (hvb:vb=bv b) (hb:b.length=m) (hbm:m<=1000000) (hm:3<=mode) (K:MK s mode st) (hne:0<m\/st.row=[]):
  a7 C 66 [.p (.k 0) 0,.z m vb] [f6 (b9 t k xs) mode back st 1,g9 st.row st.gone] (.ret (.t [.z m (bv (A7 (cF t key false) mode back st b).1),i64 0])) [f6 (b9 t k xs) mode back (A7 (cF t key false) mode back st b).2 2,.dead,g9 (A7 (cF t key false) mode back st b).2.row (A7 (cF t key false) mode back st b).2.gone]:=by
 subst hvb;have hs:=h.s_le;have hci:=h.ci;have G:=mN h (back:=back) (st:=st) hm;refine iW.w ?_;refine⟨0,Bool×Nat×MS×Bs,CH (b9 t k xs) mode back m b,fun x=>x.2.1<=m/\(A7 (cF t key false) mode back st (b.take x.2.1))=(x.2.2.2,x.2.2.1)/\MK s mode x.2.2.1/\(x.1=false->x.2.1=0),fun x=>m-x.2.1,?_,fun x hx=> ?_⟩
 ·obtain⟨ch,row,g⟩:=st;cases row;all_goals
   refine⟨[.k 0,.k 1],_,_,_,_,G,rfl,rfl,?_⟩;refine⟨by decide,?_⟩;refine c9 (fun h=>absurd h (by rw[Int.tmod_one];decide)) (fun _=> ?_);refine⟨by decide,by omega,by omega,?_⟩;exact⟨[],(false,0,_,[]),⟨Zt _,rfl,K,fun _=>rfl⟩,[.k 0,.k 1,.d 17 0],⟨rfl,rfl,rfl,rfl,tq⟩,⟨_,rfl,rfl⟩,⟨_,rfl,rfl⟩,⟨_,rfl,rfl⟩,tq⟩
 ·obtain⟨f,i,⟨ch,row,g⟩,o⟩:=x;obtain⟨h1,h2,h3,h4⟩:=hx;dsimp only at h1 h2 h3 h4;cases f
  ·obtain rfl:=h4 rfl;have e:(([]:Bs),st)=(o,⟨ch,row,g⟩):=h2;obtain⟨rfl,rfl⟩:=Prod.mk.inj e;refine j7 (fun h0=> ?_) (fun h0=> ?_)
   ·obtain rfl:m=0:=by omega
    obtain rfl:=Zf hb;obtain rfl:row=[]:=hne.resolve_left (by omega);exact⟨.ret (.t [.z 0 [],i64 0]),[f6 (b9 t k xs) mode back ⟨ch,[],g⟩ 2,.dead],⟨_,rfl,[.k 0,.k 1],rfl,⟨_,rfl,rfl⟩,⟨_,rfl,rfl⟩,tq⟩,.ret (.refl _),.cons (.refl _) (.cons (.refl _) (.dd .nil))⟩
   ·have HB:=oL h (back:=back) (p:=b.getD 0 0) hm K;have hN:=K.one hci (by omega) hm (back:=back) (b.getD 0 0);have hT:A7 (cF t key false) mode back ⟨ch,row,g⟩ (b.take (0+1))=([(x6 (cF t key false) mode back ⟨ch,row,g⟩ (b.getD 0 0)).1],(x6 (cF t key false) mode back ⟨ch,row,g⟩ (b.getD 0 0)).2):=by
     rw[rE (by omega),nC];rfl
    generalize x6 (cF t key false) mode back ⟨ch,row,g⟩ (b.getD 0 0)=x at*
    obtain⟨o',⟨ch',row',g'⟩⟩:=x;dsimp only at HB hN hT;have hsl:sub (bv b) 1 (m-1)=bv (b.drop 1):=p8 hb (by omega);cases row<;>cases row'<;>(
     refine⟨by omega,by omega,_,A1 (k:=b) (i:=0) (by omega),?_⟩;refine⟨[.k 0,.k 1],_,_,_,_,HB,rfl,rfl,?_⟩;refine⟨Zj _,by omega,by decide,?_⟩;refine⟨by omega,by omega,by omega,by omega,?_⟩;exact⟨rfl,(true,0+1,⟨ch',_,g'⟩,[o']),⟨by show 0+1<=m;omega,hT,hN,fun h=>by cases h⟩,(by show m-(0+1)<m-0;omega),[.k 0,.k 1,.d 38 2,.d 40 0],⟨rfl,congrArg (V.z _) hsl,rfl,rfl,tq⟩,⟨_,rfl,rfl⟩,⟨_,rfl,rfl⟩,⟨_,rfl,rfl⟩,⟨_,rfl,d9 (kM rfl)⟩,tq⟩)
  ·have lo:o.length=i:=by
    have:=qz (cF t key false) mode back (b.take i) st;rw[h2,Zg]at this;dsimp only at this;omega
   refine j7 (fun h0=> ?_) (fun h0=> ?_)
   ·obtain rfl:i=m:=by omega
    rw[Z5 (by omega)]at h2;rw[h2];rcases row with _|⟨a,r⟩
    ·exact⟨_,[f6 (b9 t k xs) mode back ⟨ch,[],g⟩ 2,.dead,g9 [] g],⟨_,rfl,[.k 0,.k 1,.k 2],congrArg (fun x=>V.t [x,i64 0]) (congrArg (V.z i) (b8 lo)),⟨_,rfl,rfl⟩,⟨_,rfl,rfl⟩,⟨_,rfl,rfl⟩,tq⟩,.ret (.refl _),.cons (.refl _) (.cons (.refl _) (.cons (.refl _) .nil))⟩
    ·exact⟨_,[f6 (b9 t k xs) mode back ⟨ch,a::r,g⟩ 2,.dead,g9 (a::r) g],⟨_,rfl,[.k 0,.k 1,.k 2],congrArg (fun x=>V.t [x,i64 0]) (congrArg (V.z i) (b8 lo)),⟨_,rfl,rfl⟩,⟨_,rfl,rfl⟩,⟨_,rfl,rfl⟩,tq⟩,.ret (.refl _),.cons (.refl _) (.cons (.refl _) (.cons (.refl _) .nil))⟩
   ·have lt:i<m:=by omega
    have ld:(b.drop i).length=m-i:=by rw[Ze,hb]
    have HB:=oL h (back:=back) (p:=(b.drop i).getD 0 0) hm h3;have hN:=h3.one hci (by omega) hm (back:=back) ((b.drop i).getD 0 0);have hT:A7 (cF t key false) mode back st (b.take (i+1))=(o++[(x6 (cF t key false) mode back ⟨ch,row,g⟩ ((b.drop i).getD 0 0)).1],(x6 (cF t key false) mode back ⟨ch,row,g⟩ ((b.drop i).getD 0 0)).2):=by
     rw[rE (by omega),nC,h2]
    generalize x6 (cF t key false) mode back ⟨ch,row,g⟩ ((b.drop i).getD 0 0)=x at*
    obtain⟨o',⟨ch',row',g'⟩⟩:=x;dsimp only at HB hN hT;have hsl:sub (bv (b.drop i)) 1 (m-i-1)=bv (b.drop (i+1)):=by rw[p8 ld (by omega),List.drop_drop]
    cases row<;>cases row'<;>(
     refine⟨by omega,by omega,_,A1 (k:=b.drop i) (i:=0) (by omega),?_⟩;refine⟨[.k 0,.k 2],_,_,_,_,HB,rfl,rfl,?_⟩;refine⟨Zj _,by omega,by rw[f9,lo];omega,?_⟩;refine⟨by omega,by omega,by omega,by omega,?_⟩;exact⟨rfl,(true,i+1,⟨ch',_,g'⟩,o++[o']),⟨by show i+1<=m;omega,hT,hN,fun h=>by cases h⟩,(by show m-(i+1)<m-i;omega),[.k 0,.k 1,.d 38 2,.d 40 0],⟨rfl,congrArg (V.z _) hsl,rfl,rfl,tq⟩,⟨_,rfl,rfl⟩,⟨_,rfl,rfl⟩,⟨_,rfl,rfl⟩,⟨_,rfl,d9 (jk lo rfl)⟩,tq⟩)
theorem zx {t key s k xs rs} (h:i6 t key s k xs rs) {mode:Int} {back:Bool} {st:MS} {vb:List Value} (hm:3<=mode):
  a7 C 66 [.p (.k 0) 0,.z 0 vb] [f6 (b9 t k xs) mode back st 1,g9 st.row st.gone] (.ret (.t [.z 0 [],i64 0])) [f6 (b9 t k xs) mode back st 1,g9 st.row st.gone]:=by
 have G:=mN h (back:=back) (st:=st) hm;refine iW.c ?_;refine⟨0,Unit,fun _=>⟨[(0,.p (.k 0) 0),(1,.z 0 vb),(6,i64 1),(7,.o 1 (.k 2) 0 0)],[f6 (b9 t k xs) mode back st 1,g9 st.row st.gone,.sc []]⟩,fun _=>True,fun _=>0,?_,fun x hx=> ?_⟩
 ·obtain⟨ch,row,g⟩:=st;cases row;all_goals
   refine⟨[.k 0,.k 1],_,_,_,_,G,rfl,rfl,?_⟩;refine⟨by decide,?_⟩;refine⟨by decide,by omega,by omega,?_⟩;exact⟨[],(),tq,[.k 0,.k 1,.d 17 0],⟨rfl,rfl,rfl,rfl,tq⟩,⟨_,rfl,rfl⟩,⟨_,rfl,rfl⟩,⟨_,rfl,rfl⟩,tq⟩
 ·obtain⟨ch,row,g⟩:=st;cases row;all_goals
   exact⟨_,rfl,[.k 0,.k 1],rfl,⟨_,rfl,rfl⟩,⟨_,rfl,rfl⟩,tq⟩
def CG (cv:V) (mode:Int) (back:Bool) (m s c:Nat) (b:Bs):Nat×Nat×Bs×Bs->D
 |(i,q,o,c')=>⟨[(0,.p (.k 0) 0),(1,.z (m-q) (bv (b.drop q))),(6,i64 s),(7,.o 1 (.k 2) 0 q)],[.mx [cv,i64 mode,bool back,.z c (bv c'),.z 0 [],.u],.dead,.sc (bv o)]⟩
theorem Ms {t key s k xs rs} (h:i6 t key s k xs rs) {mode:Int} {back:Bool} {c m:Nat} {vb:List Value} {ch b:Bs} (hvb:vb=bv b) (hb:b.length=m) (hbm:m<=1000000) (hm:mode=1\/mode=2/\c=s) (hc:ch.length=c) (hg:m%s=0):
  a7 C 66 [.p (.k 0) 0,.z m vb] [.mx [b9 t k xs,i64 mode,bool back,.z c (bv ch),.z 0 [],.u],.dead] (.ret (.t [.z m (bv (q6 (cF t key false) (cF t key true) mode back s b ch (m/s)).1),i64 0])) [.mx [b9 t k xs,i64 mode,bool back,.z c (bv (q6 (cF t key false) (cF t key true) mode back s b ch (m/s)).2),.z 0 [],.u],.dead,.dead]:=by
 subst hvb;have hs:=h.s_le;have hci:=h.ci;have hdm:=Zx m s;have hm12:mode=1\/mode=2:=by omega
 have G:=sZ h (back:=back) (c:=c) (vc:=bv ch) hm12;refine iW.w ?_;refine⟨0,Nat×Nat×Bs×Bs,CG (b9 t k xs) mode back m s c b,fun x=>x.2.1=s*x.1/\x.2.1<=m/\q6 (cF t key false) (cF t key true) mode back s b ch x.1=(x.2.2.1,x.2.2.2)/\x.2.2.1.length=x.2.1/\x.2.2.2.length=c,fun x=>m-x.2.1,?_,fun x hx=> ?_⟩
 ·refine⟨[.k 0],_,_,_,_,G,rfl,rfl,?_⟩;refine⟨by omega,?_⟩;refine c9 (fun h=>absurd h ?_) (fun _=> ?_)
  ·have:((m:Int).tmod (s:Int))=((m%s:Nat):Int):=by rw[Zh (by omega)];rfl
   rw[this,hg];decide
  refine⟨by decide,by omega,by omega,?_⟩;exact⟨[],(0,0,[],ch),⟨by show 0=s*0;omega,Zt _,rfl,rfl,hc⟩,[.k 0,.k 1,.d 17 0],⟨rfl,rfl,rfl,rfl,tq⟩,⟨_,rfl,rfl⟩,⟨_,rfl,rfl⟩,⟨_,rfl,rfl⟩,tq⟩
 ·obtain⟨i,q,o,c'⟩:=x;obtain⟨h1,h2,h3,h4,h5⟩:=hx;dsimp only at h1 h2 h3 h4 h5;have ld:(b.drop q).length=m-q:=by rw[Ze,hb]
  refine j7 (fun h0=> ?_) (fun h0=> ?_)
  ·obtain rfl:q=m:=by omega
   have hi:q/s=i:=by rw[h1,Jf _ (by omega)]
   rw[hi,h3];exact⟨_,[.mx [b9 t k xs,i64 mode,bool back,.z c (bv c'),.z 0 [],.u],.dead],⟨_,rfl,[.k 0,.k 1],congrArg (fun x=>V.t [x,i64 0]) (congrArg (V.z q) (b8 h4)),⟨_,rfl,rfl⟩,⟨_,rfl,rfl⟩,tq⟩,.ret (.refl _),.cons (.refl _) (.cons (.refl _) (.dd .nil))⟩
  ·have hq:q+s<=m:=by
    have e1:m=s*(m/s):=by omega
    have:i<m/s:=by
     refine Z1 (a:=s) ?_;omega
    have:=Zk s this;rw[Zq]at this;omega
   have lp:(sub b q s).length=s:=by rw[j4];omega
   have hvp:sub (bv (b.drop q)) 0 s=bv (sub b q s):=l4 _ _ _;have hn:q6 (cF t key false) (cF t key true) mode back s b ch (i+1)=(o++(D1 (cF t key false) (cF t key true) mode back c' (sub b q s)).1,(D1 (cF t key false) (cF t key true) mode back c' (sub b q s)).2):=by
    rw[gQ,h3,<-h1]
   have HB:=yf h (mode:=mode) (back:=back) hvp rfl lp h5 hm;have hl:=nA (back:=back) hci hm12 (c:=c') (p:=sub b q s) (by omega) lp;have hl2:(D1 (cF t key false) (cF t key true) mode back c' (sub b q s)).2.length=c:=by
    rcases hm with rfl|⟨rfl,rfl⟩
    ·rw[<-h5];rfl
    ·exact hl.2.resolve_left (by decide)
   have hl1:=hl.1;generalize D1 (cF t key false) (cF t key true) mode back c' (sub b q s)=x at*
   obtain⟨o',c2⟩:=x;dsimp only at HB hn hl1 hl2;have hsl:sub (bv (b.drop q)) s (m-q-s)=bv (b.drop (q+s)):=by rw[p8 ld (by omega),List.drop_drop]
   refine j7 (fun h=>absurd h (by omega)) (fun _=> ?_);refine⟨by omega,by omega,by omega,by omega,?_⟩;refine⟨[.k 0],_,_,_,_,HB,rfl,rfl,?_⟩;refine⟨by first|omega|(rw [f9];omega),by omega,by rw[f9,h4];omega,?_⟩;refine⟨by omega,by omega,by omega,by omega,?_⟩;refine⟨rfl,(i+1,q+s,o++o',c2),⟨by show q+s=s*(i+1);rw[Zq];omega,hq,hn,by rw[Zc,h4,hl1],hl2⟩,(by show m-(q+s)<m-q;omega),[.k 0,.k 1,.d 24 0],⟨rfl,?_,rfl,rfl,tq⟩,⟨_,rfl,rfl⟩,⟨_,rfl,rfl⟩,⟨_,rfl,d9 ?_⟩,tq⟩
   ·show V.z (m-q-s) (sub (bv (b.drop q)) s (m-q-s))=V.z (m-(q+s)) _;rw[hsl,Nat.sub_sub]
   ·show sub (bv o) 0 (q*1)++bv o'=_;rw[Zn,b8 h4,x5]
theorem Cu (E D back n) (b c:Bs):∀i,(q6 E D 1 back n b c i).2=c
 |0=>rfl
 |i+1=>by
  rw[gQ];show(D1 E D 1 back (q6 E D 1 back n b c i).2 (sub b (n*i) n)).2=c;unfold D1;rw[if_pos rfl];exact Cu E D back n b c i
theorem Cv {E D:Bs->Bs} {n:Nat} {mode:Int} {back:Bool} {b c:Bs} (h:CI E D n) (hm:mode=1\/mode=2/\c.length=n) {i:Nat} (hi:n*i<=b.length):(q6 E D mode back n b c i).2.length=c.length:=by
 rcases hm with rfl|⟨rfl,hc⟩
 ·rw[Cu]
 ·rw[((nB (back:=back) h (.inr rfl) (.inr hc) i hi).2).resolve_left (by decide),hc]
theorem iQ {t key s k xs rs} (h:i6 t key s k xs rs) {mode:Int} {back:Bool} {st:MS} {m:Nat} {vb:List Value} {b:Bs} (hvb:vb=bv b) (hb:b.length=m) (hbm:m<=1000000) (K:MK s mode st) (hg:m%k7 s mode=0) (hne:0<m\/st.row=[]):
  a7 C 66 [.p (.k 0) 0,.z m vb] [f6 (b9 t k xs) mode back st 1,g9 st.row st.gone] (.ret (.t [.z m (bv (f7 (cF t key false) (cF t key true) s mode back st b).1),i64 0])) [f6 (b9 t k xs) mode back (f7 (cF t key false) (cF t key true) s mode back st b).2 2,.dead,g9 (f7 (cF t key false) (cF t key true) s mode back st b).2.row (f7 (cF t key false) (cF t key true) s mode back st b).2.gone]:=by
 by_cases hm:mode=1\/mode=2
 ·have hr:=K.ok.blk hm;have hc:=K.ok.ch;obtain⟨ch,row,g⟩:=st;dsimp only at hr hc;subst hr;have e:f7 (cF t key false) (cF t key true) s mode back ⟨ch,[],g⟩ b=((q6 (cF t key false) (cF t key true) mode back s b ch (m/s)).1,⟨(q6 (cF t key false) (cF t key true) mode back s b ch (m/s)).2,[],g⟩):=by
   unfold f7;rw[if_pos hm,hb]
  have hg':m%s=0:=by unfold k7 at hg;rwa [if_pos hm]at hg
  have hdm:=Zx m s;have hl:=Cv (back:=back) h.ci (b:=b) (c:=ch) (i:=m/s) (mode:=mode) (by omega) (by omega);have HB:=Ms h (back:=back) hvb hb hbm (ch:=ch) (c:=ch.length) (mode:=mode) (by omega) rfl hg';rw[e];show a7 C 66 [.p (.k 0) 0,.z m vb] [.mx [b9 t k xs,i64 mode,bool back,.z ch.length (bv ch),.z 0 [],.u],.dead] _ [.mx [b9 t k xs,i64 mode,bool back,.z (q6 (cF t key false) (cF t key true) mode back s b ch (m/s)).2.length (bv (q6 (cF t key false) (cF t key true) mode back s b ch (m/s)).2),.z 0 [],.u],.dead,.dead];rw[hl];exact HB
 ·have e:f7 (cF t key false) (cF t key true) s mode back st b=A7 (cF t key false) mode back st b:=by
   unfold f7;rw[if_neg hm]
  rw[e];exact Mv h hvb hb hbm (by have:=K.ok.m;omega) K hne
theorem tp {t key s k xs rs} (h:i6 t key s k xs rs) {mode:Int} {back:Bool} {st:MS} {m:Nat} {vb:List Value} (K:MK s mode st) (hg:m%k7 s mode≠0):
  a7 C 66 [.p (.k 0) 0,.z m vb] [f6 (b9 t k xs) mode back st 1,g9 st.row st.gone] (.ret (.t [g8,i64 7])) [f6 (b9 t k xs) mode back st 1,g9 st.row st.gone]:=by
 have hs:=h.s_le;have hm:mode=1\/mode=2:=by
  refine Classical.byContradiction fun hm=>hg ?_;unfold k7;rw[if_neg hm,Nat.mod_one]
 have hr:=K.ok.blk hm;obtain⟨ch,row,g⟩:=st;dsimp only at hr;subst hr;have hg':m%s≠0:=by unfold k7 at hg;rwa [if_pos hm]at hg
 have G:=sZ h (back:=back) (c:=ch.length) (vc:=bv ch) hm;refine iW.c ?_;refine⟨0,Unit,fun _=>⟨[],[]⟩,fun _=>False,fun _=>0,?_,fun x hx=>hx.elim⟩;refine⟨[.k 0],_,_,_,_,G,rfl,rfl,?_⟩;refine⟨by omega,?_⟩;refine c9 (fun _=> ?_) (fun h=>absurd ?_ h)
 ·exact⟨_,rfl,[.k 0,.k 1],rfl,⟨_,rfl,rfl⟩,⟨_,rfl,rfl⟩,tq⟩
 ·have:((m:Int).tmod (s:Int))=((m%s:Nat):Int):=by rw[Zh (by omega)];rfl
  rw[this];omega
theorem Ls {t key s k xs rs} (h:i6 t key s k xs rs) {mode:Int} {back:Bool} {c:Nat} {p ch:Bs} {vp vch:List Value} (hvp:vp=bv p) (hvc:vch=bv ch) (hp:p.length=s) (hc:ch.length=c) (hm:mode=1\/mode=2/\c=s):
  a7 C 69 [.p (.k 0) 0,.z s vp] [.mx [.q rs 0,i64 mode,bool back,.z c vch,.z 0 [],i64 0,.u]] (.ret (.z s (bv (D1 (cF t key false) (cF t key true) mode back ch p).1))) [.mx [.q rs 0,i64 mode,bool back,.z c (bv (D1 (cF t key false) (cF t key true) mode back ch p).2),.z 0 [],i64 0,.u]]:=by
 subst hvp;subst hvc;have hs:=h.s_le;have lE:=h.len (back:=false) hp;have lD:=h.len (back:=true) hp;refine Qg.c ?_;refine⟨_,rfl,?_⟩;refine j7 (fun h1=> ?_) (fun h1=> ?_)
 ·subst h1;refine⟨_,rfl,?_⟩;cases back
  ·refine⟨_,rfl,?_⟩;refine⟨_,rfl,?_⟩;refine⟨[],_,_,_,_,h.E hp rfl,rfl,rfl,?_⟩;refine⟨_,rfl,[.k 0],?_,⟨_,rfl,?_⟩,tq⟩
   ·show V.z s (sub (bv (cF t key false p)) 0 s)=_;rw[b8 lE];rfl
   ·rfl
  ·refine⟨_,rfl,?_⟩;refine⟨[],_,_,_,_,h.Un hp rfl,rfl,rfl,?_⟩;refine⟨_,rfl,[.k 0],?_,⟨_,rfl,?_⟩,tq⟩
   ·show V.z s (sub (bv (cF t key true p)) 0 s)=_;rw[b8 lD];rfl
   ·rfl
 ·obtain⟨rfl,rfl⟩:=hm.resolve_left h1;refine⟨_,rfl,?_⟩;refine⟨_,rfl,?_⟩;cases back
  ·have lx:=w6 hp hc;have lX:=h.len (back:=false) lx;refine⟨_,rfl,?_⟩;refine⟨_,rfl,?_⟩;refine⟨[],_,_,_,_,G1 (a:=p) (b:=ch) rfl rfl hp hc (by omega),rfl,rfl,?_⟩;refine⟨[],_,_,_,_,h.E (b:=f8 p ch) lx (b8 lx),rfl,rfl,?_⟩;refine⟨Za rfl,?_⟩;refine⟨_,rfl,?_⟩;refine⟨_,rfl,[.k 0],?_,⟨_,rfl,?_⟩,tq⟩
   ·show V.z c (sub (bv (cF t key false (f8 p ch))) 0 c)=_;rw[b8 lX];rfl
   ·show B.mx [.q rs 0,i64 2,bool false,.z c (sub (bv (cF t key false (f8 p ch))) 0 c),.z 0 [],i64 0,.u]=_;rw[b8 lX];rfl
  ·have lx:=w6 lD hc;refine⟨_,rfl,?_⟩;refine⟨[],_,_,_,_,h.Un hp rfl,rfl,rfl,?_⟩;refine⟨_,rfl,?_⟩;refine⟨[],_,_,_,_,G1 (a:=cF t key true p) (b:=ch) (b8 lD) rfl lD hc (by omega),rfl,rfl,?_⟩;refine⟨by rw[f9];omega,by omega,by decide,?_⟩;refine⟨Za rfl,?_⟩;refine⟨_,rfl,[.k 0],?_,⟨_,rfl,?_⟩,tq⟩
   ·show V.z c (sub (bv (f8 (cF t key true p) ch)) 0 c)=_;rw[b8 lx];rfl
   ·show B.mx [.q rs 0,i64 2,bool true,.z (0+c) (sub ([]++bv p) 0 (0+c)),.z 0 [],i64 0,.u]=_;rw[Zs,Zm,b8 hp];rfl
def DC (rs:List V) (mode:Int) (back:Bool) (x:MS×Bs×Nat) (i:Nat):B:= .mx [.q rs 0,i64 mode,bool back,.z x.1.ch.length (bv x.1.ch),.z x.2.1.length (bv x.2.1),i64 x.2.2,cZ x.1.row x.1.gone i]
theorem WH {rs:List V} {mode:Int} {back:Bool} {ch row g R:Bs} {u i c r:Nat} (hc:ch.length=c) (hr:R.length=r) (h0:row=[]):DC rs mode back (⟨ch,row,g⟩,R,u) i= .mx [.q rs 0,i64 mode,bool back,.z c (bv ch),.z r (bv R),i64 u,.u]:=by
 subst hc;subst hr;subst h0;rfl
theorem a2b {t key s k xs rs} (h:i6 t key s k xs rs) {mode:Int} {back:Bool} {l i:Nat} {vi:List Value} {iv:Bs} (hvi:vi=bv iv) (hl:iv.length=l) (hm:1<=mode/\mode<=6) (hi:l=if mode=1 then 0 else s):
  a7 C 17 [.q rs 0,i64 mode,bool back,.z l vi] [] (.ret (.t [.p (.k 0) 0,i64 0])) [DC rs mode back (⟨iv,[],[]⟩,[],0) i,.dead,.dead]:=by
 subst hvi;have hs:=h.s_le;rw[WH hl rfl rfl];have hm':mode=1\/mode=2\/mode=3\/mode=4\/mode=5\/mode=6:=by omega
 rcases hm' with rfl|rfl|rfl|rfl|rfl|rfl
 ·rw[if_pos rfl]at hi;refine kz.w ?_;refine o9 (fun hh=>absurd hh (by omega)) (fun _=> ?_);refine⟨by rw[f9];omega,by omega,by decide,?_⟩;refine⟨.ret (.t [.p (.k 0) 0,i64 0]),[.mx [.q rs 0,i64 1,bool back,.z l (bv iv),g8,i64 0,g8]],⟨_,rfl,[.d 41 0],rfl,⟨_,rfl,?_⟩,tq⟩,.ret (.refl _),.cons (.mx (.cons (.refl _) (.cons (.refl _) (.cons (.refl _) (.cons (.refl _) (.cons .nl (.cons (.refl _) (.cons .u .nil)))))))) (.dd (.dd .nil))⟩;show B.mx [.q rs 0,i64 1,bool back,.z (0+l) (sub ([]++bv iv) 0 (0+l)),g8,i64 0,g8]=_;rw[Zs,Zm,b8 hl]
 ·rw[if_neg (by decide)]at hi;refine kz.w ?_;refine⟨[],_,_,_,_,h.rsize,rfl,rfl,?_⟩;refine o9 (fun hh=>absurd hh (by omega)) (fun _=> ?_);refine⟨by rw[f9];omega,by omega,by decide,?_⟩;refine⟨.ret (.t [.p (.k 0) 0,i64 0]),[.mx [.q rs 0,i64 2,bool back,.z l (bv iv),g8,i64 0,g8]],⟨_,rfl,[.d 41 0],rfl,⟨_,rfl,?_⟩,tq⟩,.ret (.refl _),.cons (.mx (.cons (.refl _) (.cons (.refl _) (.cons (.refl _) (.cons (.refl _) (.cons .nl (.cons (.refl _) (.cons .u .nil)))))))) (.dd (.dd .nil))⟩;show B.mx [.q rs 0,i64 2,bool back,.z (0+l) (sub ([]++bv iv) 0 (0+l)),g8,i64 0,g8]=_;rw[Zs,Zm,b8 hl]
 ·rw[if_neg (by decide)]at hi;refine kz.w ?_;refine⟨[],_,_,_,_,h.rsize,rfl,rfl,?_⟩;refine o9 (fun hh=>absurd hh (by omega)) (fun _=> ?_);refine⟨by rw[f9];omega,by omega,by decide,?_⟩;refine⟨.ret (.t [.p (.k 0) 0,i64 0]),[.mx [.q rs 0,i64 3,bool back,.z l (bv iv),g8,i64 0,g8]],⟨_,rfl,[.d 41 0],rfl,⟨_,rfl,?_⟩,tq⟩,.ret (.refl _),.cons (.mx (.cons (.refl _) (.cons (.refl _) (.cons (.refl _) (.cons (.refl _) (.cons .nl (.cons (.refl _) (.cons .u .nil)))))))) (.dd (.dd .nil))⟩;show B.mx [.q rs 0,i64 3,bool back,.z (0+l) (sub ([]++bv iv) 0 (0+l)),g8,i64 0,g8]=_;rw[Zs,Zm,b8 hl]
 ·rw[if_neg (by decide)]at hi;refine kz.w ?_;refine⟨[],_,_,_,_,h.rsize,rfl,rfl,?_⟩;refine o9 (fun hh=>absurd hh (by omega)) (fun _=> ?_);refine⟨by rw[f9];omega,by omega,by decide,?_⟩;refine⟨.ret (.t [.p (.k 0) 0,i64 0]),[.mx [.q rs 0,i64 4,bool back,.z l (bv iv),g8,i64 0,g8]],⟨_,rfl,[.d 41 0],rfl,⟨_,rfl,?_⟩,tq⟩,.ret (.refl _),.cons (.mx (.cons (.refl _) (.cons (.refl _) (.cons (.refl _) (.cons (.refl _) (.cons .nl (.cons (.refl _) (.cons .u .nil)))))))) (.dd (.dd .nil))⟩;show B.mx [.q rs 0,i64 4,bool back,.z (0+l) (sub ([]++bv iv) 0 (0+l)),g8,i64 0,g8]=_;rw[Zs,Zm,b8 hl]
 ·rw[if_neg (by decide)]at hi;refine kz.w ?_;refine⟨[],_,_,_,_,h.rsize,rfl,rfl,?_⟩;refine o9 (fun hh=>absurd hh (by omega)) (fun _=> ?_);refine⟨by rw[f9];omega,by omega,by decide,?_⟩;refine⟨.ret (.t [.p (.k 0) 0,i64 0]),[.mx [.q rs 0,i64 5,bool back,.z l (bv iv),g8,i64 0,g8]],⟨_,rfl,[.d 41 0],rfl,⟨_,rfl,?_⟩,tq⟩,.ret (.refl _),.cons (.mx (.cons (.refl _) (.cons (.refl _) (.cons (.refl _) (.cons (.refl _) (.cons .nl (.cons (.refl _) (.cons .u .nil)))))))) (.dd (.dd .nil))⟩;show B.mx [.q rs 0,i64 5,bool back,.z (0+l) (sub ([]++bv iv) 0 (0+l)),g8,i64 0,g8]=_;rw[Zs,Zm,b8 hl]
 ·rw[if_neg (by decide)]at hi;refine kz.w ?_;refine⟨[],_,_,_,_,h.rsize,rfl,rfl,?_⟩;refine o9 (fun hh=>absurd hh (by omega)) (fun _=> ?_);refine⟨by rw[f9];omega,by omega,by decide,?_⟩;refine⟨.ret (.t [.p (.k 0) 0,i64 0]),[.mx [.q rs 0,i64 6,bool back,.z l (bv iv),g8,i64 0,g8]],⟨_,rfl,[.d 41 0],rfl,⟨_,rfl,?_⟩,tq⟩,.ret (.refl _),.cons (.mx (.cons (.refl _) (.cons (.refl _) (.cons (.refl _) (.cons (.refl _) (.cons .nl (.cons (.refl _) (.cons .u .nil)))))))) (.dd (.dd .nil))⟩;show B.mx [.q rs 0,i64 6,bool back,.z (0+l) (sub ([]++bv iv) 0 (0+l)),g8,i64 0,g8]=_;rw[Zs,Zm,b8 hl]
theorem LW {t key s k xs rs} (h:i6 t key s k xs rs) {mode:Int} {back:Bool} {c:Nat} {vc:List Value} (hm:mode=1\/mode=2):
  a7 C 68 [.p (.k 0) 0] [.mx [.q rs 0,i64 mode,bool back,.z c vc,.z 0 [],i64 0,.u]] (.ret (i64 s)) [.mx [.q rs 0,i64 mode,bool back,.z c vc,.z 0 [],i64 0,.u]]:=by
 refine Qe.c ?_;refine⟨_,rfl,?_⟩;refine c9 (fun h1=> ?_) (fun h1=>absurd h1 (by omega));refine⟨_,rfl,?_⟩;refine⟨[],_,_,_,_,h.rsize,rfl,rfl,?_⟩;exact⟨_,rfl,[.k 0],rfl,⟨_,rfl,rfl⟩,tq⟩
def WO (rs:List V) (mode:Int) (back:Bool) (m s c:Nat) (b:Bs):Nat×Nat×Bs×Bs->D
 |(i,q,o,c')=>⟨[(0,.p (.k 0) 0),(1,.z m (bv b)),(6,i64 s),(7,.o 1 (.k 2) 0 q),(8,i64 q)],[.mx [.q rs 0,i64 mode,bool back,.z c (bv c'),.z 0 [],i64 0,.u],.dead,.sc (bv o)]⟩
theorem a2d {t key s k xs rs} (h:i6 t key s k xs rs) {mode:Int} {back:Bool} {c m:Nat} {vb:List Value} {ch b:Bs} (hvb:vb=bv b) (hb:b.length=m) (hbm:m<=1000000) (hm:mode=1\/mode=2/\c=s) (hc:ch.length=c) (hg:m%s=0):
  a7 C 18 [.p (.k 0) 0,.z m vb] [.mx [.q rs 0,i64 mode,bool back,.z c (bv ch),.z 0 [],i64 0,.u],.dead] (.ret (.t [.z m (bv (q6 (cF t key false) (cF t key true) mode back s b ch (m/s)).1),i64 0])) [.mx [.q rs 0,i64 mode,bool back,.z c (bv (q6 (cF t key false) (cF t key true) mode back s b ch (m/s)).2),.z 0 [],i64 0,.u],.dead,.dead]:=by
 subst hvb;have hs:=h.s_le;have hci:=h.ci;have hdm:=Zx m s;have hm12:mode=1\/mode=2:=by omega
 have G:=LW h (back:=back) (c:=c) (vc:=bv ch) hm12;refine Qf.w ?_;refine⟨[.k 0],_,_,_,_,G,rfl,rfl,?_⟩;refine⟨by omega,?_⟩;refine o9 (fun h=>absurd ?_ h) (fun _=> ?_)
 ·have:((m:Int).tmod (s:Int))=((m%s:Nat):Int):=by rw[Zh (by omega)];rfl
  rw[this,hg];rfl
 refine⟨Nat×Nat×Bs×Bs,WO rs mode back m s c b,fun x=>x.2.1=s*x.1/\x.2.1<=m/\q6 (cF t key false) (cF t key true) mode back s b ch x.1=(x.2.2.1,x.2.2.2)/\x.2.2.1.length=x.2.1/\x.2.2.2.length=c,fun x=>m-x.2.1,?_,fun x hx=> ?_⟩
 ·exact⟨[(7,1,.sc [])],(0,0,[],ch),⟨by show 0=s*0;omega,Zt _,rfl,rfl,hc⟩,[.k 0,.k 1,.d 900000 0],⟨rfl,rfl,rfl,rfl,rfl,tq⟩,⟨_,rfl,rfl⟩,⟨_,rfl,rfl⟩,⟨_,rfl,rfl⟩,tq⟩
 ·obtain⟨i,q,o,c'⟩:=x;obtain⟨h1,h2,h3,h4,h5⟩:=hx;dsimp only at h1 h2 h3 h4 h5;refine c9 (fun h0=> ?_) (fun h0=> ?_)
  ·have hq:q+s<=m:=by
    have e1:m=s*(m/s):=by omega
    have:i<m/s:=by
     refine Z1 (a:=s) ?_;omega
    have:=Zk s this;rw[Zq]at this;omega
   have lp:(sub b q s).length=s:=by rw[j4];omega
   have hn:q6 (cF t key false) (cF t key true) mode back s b ch (i+1)=(o++(D1 (cF t key false) (cF t key true) mode back c' (sub b q s)).1,(D1 (cF t key false) (cF t key true) mode back c' (sub b q s)).2):=by
    rw[gQ,h3,<-h1]
   have HB:=Ls h (mode:=mode) (back:=back) (vp:=sub (bv b) q s) (l4 _ _ _) rfl lp h5 hm;have hl:=nA (back:=back) hci hm12 (c:=c') (p:=sub b q s) (by omega) lp;have hl2:(D1 (cF t key false) (cF t key true) mode back c' (sub b q s)).2.length=c:=by
    rcases hm with rfl|⟨rfl,rfl⟩
    ·rw[<-h5];rfl
    ·exact hl.2.resolve_left (by decide)
   have hl1:=hl.1;generalize D1 (cF t key false) (cF t key true) mode back c' (sub b q s)=x at*
   obtain⟨o',c2⟩:=x;dsimp only at HB hn hl1 hl2;have e1:I6.wrap ((q:Int)+(s:Int))=((q+s:Nat):Int):=by rw[Zd _ (by omega)];omega
   rcases hm12 with rfl|rfl;all_goals
    refine⟨_,rfl,?_⟩;refine⟨by first|omega|(rw [e1];omega),by first|omega|(rw [e1];omega),by first|omega|(rw [e1];omega),by first|omega|(rw [e1];omega),by first|omega|(rw [e1];omega),?_⟩;refine⟨[.k 0],_,_,_,_,HB,?_,rfl,?_⟩
    ·rw[e1];show[V.p (.k 0) 0,V.z (q+s-q) (sub (bv b) q (q+s-q))]=_;rw[Z4]
    refine⟨by first|omega|(rw [f9];omega),by omega,by rw[f9,h4];omega,?_⟩;refine⟨(i+1,q+s,o++o',c2),⟨by show q+s=s*(i+1);rw[Zq];omega,hq,hn,by rw[Zc,h4,hl1],hl2⟩,(by show m-(q+s)<m-q;omega),[.k 0,.k 1,.d 48 0],⟨rfl,rfl,rfl,rfl,d7 e1,tq⟩,⟨_,rfl,rfl⟩,⟨_,rfl,rfl⟩,⟨_,rfl,d9 ?_⟩,tq⟩;show sub (bv o) 0 (q*1)++bv o'=_;rw[Zn,b8 h4,x5]
  ·obtain rfl:q=m:=by omega
   have hi:q/s=i:=by rw[h1,Jf _ (by omega)]
   rw[hi,h3];exact⟨_,[.mx [.q rs 0,i64 mode,bool back,.z c (bv c'),.z 0 [],i64 0,.u],.dead],⟨_,rfl,[.k 0,.k 1],congrArg (fun x=>V.t [x,i64 0]) (congrArg (V.z q) (b8 h4)),⟨_,rfl,rfl⟩,⟨_,rfl,rfl⟩,tq⟩,.ret (.refl _),.cons (.refl _) (.cons (.refl _) (.dd .nil))⟩
theorem mO {t key s k xs rs} (h:i6 t key s k xs rs) {mode:Int} {back:Bool} {st:MS} (K:MK s mode st):
  a7 C 96 [.p (.k 0) 0] [f6 (b9 t k xs) mode back st 1,g9 st.row st.gone] (.ret (i64 (k7 s mode))) [f6 (b9 t k xs) mode back st 1,g9 st.row st.gone]:=by
 by_cases hm:mode=1\/mode=2
 ·have hr:=K.ok.blk hm;obtain⟨ch,row,g⟩:=st;dsimp only at hr;subst hr;have e:k7 s mode=s:=by unfold k7;rw[if_pos hm]
  rw[e];refine uf.c ?_;refine⟨_,rfl,?_⟩;rcases hm with rfl|rfl;all_goals
   refine⟨_,rfl,?_⟩;refine⟨[],_,_,_,_,h.size,rfl,rfl,?_⟩;exact⟨_,rfl,[.k 0,.k 1],rfl,⟨_,rfl,rfl⟩,⟨_,rfl,rfl⟩,tq⟩
 ·have e:k7 s mode=1:=by unfold k7;rw[if_neg hm]
  rw[e];exact mN h (by have:=K.ok.m;omega)
theorem tz {a n:Int} (hn:0<n) (hn2:n<=4611686018427387904) (ha: -9223372036854775808<=a/\a<=9223372036854775807):a7 C 92 [i64 a,i64 n] [] (.ret (i64 (a%n))) []:=by
 refine PI.c ?_;have h1: -n<a.tmod n:=Int.lt_tmod_of_pos a hn;have h2:a.tmod n<n:=Int.tmod_lt_of_pos a hn;refine⟨by omega,?_⟩;refine c9 (fun h=> ?_) (fun h=> ?_)
 ·refine⟨_,rfl,[],d7 ?_,tq⟩;rw[Zd _ (by omega)];rw[<-ii a n hn,Zh (a:=a.tmod n+n) (by omega),Z7 (by omega) (by omega)]
 ·refine⟨_,rfl,[],d7 ?_,tq⟩;rw[<-ii a n hn,Zh (a:=a.tmod n+n) (by omega),Int.add_emod_right,Z7 (by omega) (by omega)]
def aD (mode:Int) (s:Nat) (b:Bs):Bs:=if mode=1 then []else jL s b
def fp (mode:Int) (s:Nat):Nat:=if mode=1 then 0 else s
theorem BL (mode s b):(aD mode s b).length=fp mode s:=by
 unfold aD fp;split
 ·rfl
 ·exact oG _ _
theorem JY {mode:Int} {s m:Nat} {vb:List Value} {b:Bs} (hv:vb=bv b) (hb:b.length=m) (hs:s<=1000):a7 C 52 [i64 mode,i64 s,.z m vb] [] (.ret (.z (fp mode s) (bv (aD mode s b)))) []:=by
 unfold aD fp;by_cases h1:mode=1
 ·rw[if_pos h1,if_pos h1];refine AQ.w ?_;refine j7 (fun _=> ?_) (fun h=>absurd h1 h);exact⟨.ret g8,[],⟨_,rfl,[],rfl,tq⟩,.ret .nl,.nil⟩
 ·rw[if_neg h1,if_neg h1];refine AQ.c ?_;refine j7 (fun h=>absurd h h1) (fun _=> ?_);refine⟨[],_,_,_,_,yg hv hb (by omega),rfl,rfl,?_⟩;exact⟨_,rfl,[],congrArg (V.z s) (b8 (oG _ _)),tq⟩
def kk (x:Int):Int:=if I6.wrap (x.tdiv 40)%3=0 then 8*(x%5)else x%40
def kN (x:Int) (m:Nat):Nat:=min (kk x).toNat m
theorem UV (x:Int):0<=kk x/\kk x<=39:=by unfold kk;split<;>omega
theorem UT (x m):kN x m<=m:=Nat.min_le_right _ _
theorem BS {x:Int} {m:Nat} {a:Int} (h:a=kk x):(if (m:Int)<a then (m:Int)else a)=((kN x m:Nat):Int):=by
 subst h;have:=UV x;unfold kN;split<;>omega
def l8 (ns:List Int) (b:Bs):Nat->List (Bs)×Bs
 |0=>([],b)
 |i+1=>((l8 ns b i).1++[(l8 ns b i).2.take (kN (ns.getD i 0) (l8 ns b i).2.length)],(l8 ns b i).2.drop (kN (ns.getD i 0) (l8 ns b i).2.length))
def bi (ns:List Int) (b:Bs):List (Bs):=(l8 ns b (min ns.length 40)).1++[(l8 ns b (min ns.length 40)).2]
def zc (p:Bs):V:= .z p.length (bv p)
theorem tL (ns b):∀i,(l8 ns b i).1.length=i
 |0=>rfl
 |i+1=>by
  show((l8 ns b i).1++[_]).length=i+1;rw[Zc,tL ns b i];rfl
theorem Ai (ns b):∀i,(l8 ns b i).2.length<=b.length/\∀p∈(l8 ns b i).1,p.length<=b.length
 |0=>⟨Zj _,fun p hp=>by cases hp⟩
 |i+1=>by
  obtain⟨h1,h2⟩:=Ai ns b i;refine⟨?_,fun p hp=> ?_⟩
  ·show((l8 ns b i).2.drop _).length<=_;rw[Ze];omega
  ·have hp:p∈(l8 ns b i).1++[(l8 ns b i).2.take (kN (ns.getD i 0) (l8 ns b i).2.length)]:=hp;rcases List.mem_append.1 hp with hp|hp
   ·exact h2 p hp
   ·rw[List.mem_singleton.1 hp,Zg];omega
theorem tM (ns b):(bi ns b).length=min ns.length 40+1:=by
 unfold bi;rw[Zc,tL];rfl
theorem Gz (H a6) (l:List (Bs)):(l.map zc).map (m5 H a6 6)=l.map zc:=by
 rw[List.map_map];exact List.map_congr_left fun _ _=>rfl
theorem GA (H a6) (l:List (Bs)) (n):(l.map zc).map (D4 H a6 (n+1))=l.map zc:=by
 rw[List.map_map];exact List.map_congr_left fun _ _=>rfl
theorem Is {ln:Nat} {vn:List Value} {b:Bs} {ns:List Int} (hvn:vn=iv ns) (hn:ns.length=ln) (hlb:b.length<=1000) (hns:∀x∈ns, -9223372036854775808<=x/\x<=9223372036854775807):
  a7 C 32 [.z b.length (bv b),.z ln vn] [] (.ret (.zz 1 (bi ns b).length ((bi ns b).map zc))) []:=by
 subst hvn;obtain⟨N0,hN0⟩:∃N0,N0=min ns.length 40:=⟨_,rfl⟩;refine Pz.c ?_;refine B1 (fun i=>⟨[(0,.z (l8 ns b i).2.length (bv (l8 ns b i).2)),(1,.z ln (iv ns)),(5,.o 1 (.k 0) 0 i),(6,i64 i)],[.mx ((l8 ns b i).1.map zc)]⟩) N0 [(5,1,.mx [])] ⟨[.d 900000 0],⟨rfl,rfl,rfl,rfl,tq⟩,⟨_,rfl,rfl⟩,tq⟩ fun i hi=> ?_;have hl:=(Ai ns b i).1;have hl1:=tL ns b i;refine c9 (fun h1=> ?_) (fun h1=> ?_)
 ·refine c9 (fun h2=> ?_) (fun h2=> ?_)
  ·obtain⟨x,hx⟩:∃x,ns.getD i 0=x:=⟨_,rfl⟩;have a9:i<ns.length:=by omega
   have hxe:ns[i]=x:=by rw[<-hx,Ja,Z2 a9];rfl
   have hxb: -9223372036854775808<=x/\x<=9223372036854775807:=hns x (hxe▸List.getElem_mem a9);have hv:(iv ns)[((i:Nat):Int).toNat]? =some (Value.int .i64 x):=by rw[Zb,uE a9,hxe]
   have hstep:l8 ns b (i+1)=((l8 ns b i).1++[(l8 ns b i).2.take (kN x (l8 ns b i).2.length)],(l8 ns b i).2.drop (kN x (l8 ns b i).2.length)):=by rw[<-hx];rfl
   have hk:=UT x (l8 ns b i).2.length;have hst:sub ((l8 ns b i).1.map zc) 0 (i*1)++[V.z (kN x (l8 ns b i).2.length) (sub (bv (l8 ns b i).2) 0 (kN x (l8 ns b i).2.length))]=((l8 ns b i).1++[(l8 ns b i).2.take (kN x (l8 ns b i).2.length)]).map zc:=by
    have e9:((l8 ns b i).2.take (kN x (l8 ns b i).2.length)).length=kN x (l8 ns b i).2.length:=by rw[Zg,Jj hk]
    rw[Zn,z5 (l:=(l8 ns b i).1.map zc) (by rw[Zr,hl1]),Jk,l4];show _=(l8 ns b i).1.map zc++[V.z ((l8 ns b i).2.take (kN x (l8 ns b i).2.length)).length (bv ((l8 ns b i).2.take (kN x (l8 ns b i).2.length)))];rw[e9];rfl
   have hb5:=Int.emod_nonneg x (show (5:Int)≠0 by decide);have hb6:=Int.emod_lt_of_pos x (show (0:Int)<5 by decide);have w8:I6.wrap (8*(x%5))=8*(x%5):=Zd _ (by omega);have hwr: -9223372036854775808<=I6.wrap (x.tdiv 40)/\I6.wrap (x.tdiv 40)<=9223372036854775807:=by rw[IntKind.wrap_i64];omega
   refine⟨by omega,by omega,_,hv,?_⟩;refine⟨[],_,_,_,_,tz (a:=x) (n:=40) (by omega) (by omega) hxb,rfl,rfl,?_⟩;refine⟨by omega,by omega,_,hv,?_⟩;refine⟨by decide,?_⟩;refine⟨[],_,_,_,_,tz (a:=I6.wrap (x.tdiv 40)) (n:=3) (by omega) (by omega) hwr,rfl,rfl,?_⟩;refine j7 (fun h3=> ?_) (fun h3=> ?_)
   ·refine⟨by omega,by omega,_,hv,?_⟩;refine⟨[],_,_,_,_,tz (a:=x) (n:=5) (by omega) (by omega) hxb,rfl,rfl,?_⟩;have e3:(if (((l8 ns b i).2.length:Nat):Int)<I6.wrap (8*(x%5))then (((l8 ns b i).2.length:Nat):Int)else I6.wrap (8*(x%5)))=((kN x (l8 ns b i).2.length:Nat):Int):=BS (by rw[w8];unfold kk;rw[if_pos h3]);refine⟨(by first|omega|(rw [e3];omega)|(rw [e3,Zb];omega)),(by first|omega|(rw [e3];omega)|(rw [e3,Zb];omega)),(by first|omega|(rw [e3];omega)|(rw [e3,Zb];omega)),(by first|omega|(rw [e3];omega)|(rw [e3,Zb];omega)),?_⟩;refine⟨Zj _,by omega,by rw[Zr,hl1];omega,?_⟩;refine⟨(by first|omega|(rw [e3];omega)|(rw [e3,Zb];omega)),(by first|omega|(rw [e3];omega)|(rw [e3,Zb];omega)),(by first|omega|(rw [e3];omega)|(rw [e3,Zb];omega)),(by first|omega|(rw [e3];omega)|(rw [e3,Zb];omega)),?_⟩;refine⟨i+1,by omega,by omega,[.d 45 0],⟨?_,rfl,rfl,d7 (by simp(disch:=omega)only[Zd];omega),tq⟩,⟨_,rfl,?_⟩,tq⟩
    ·rw[e3,hstep];show V.z ((l8 ns b i).2.length-kN x (l8 ns b i).2.length) (sub (bv (l8 ns b i).2) (kN x (l8 ns b i).2.length) ((l8 ns b i).2.length-kN x (l8 ns b i).2.length))=V.z ((l8 ns b i).2.drop (kN x (l8 ns b i).2.length)).length (bv ((l8 ns b i).2.drop (kN x (l8 ns b i).2.length)));rw[p8 rfl hk,Ze]
    ·rw[e3,hstep];show B.mx (Jp (m5 _ _ 6) (sub ((l8 ns b i).1.map zc) 0 (i*1)++[V.z (kN x (l8 ns b i).2.length) (sub (bv (l8 ns b i).2) 0 (kN x (l8 ns b i).2.length))]))=B.mx (((l8 ns b i).1++[(l8 ns b i).2.take (kN x (l8 ns b i).2.length)]).map zc);rw[hst];exact congrArg B.mx (Gz _ _ _)
   ·have e3:(if (((l8 ns b i).2.length:Nat):Int)<x%40 then (((l8 ns b i).2.length:Nat):Int)else x%40)=((kN x (l8 ns b i).2.length:Nat):Int):=BS (by unfold kk;rw[if_neg h3]);refine⟨(by first|omega|(rw [e3];omega)|(rw [e3,Zb];omega)),(by first|omega|(rw [e3];omega)|(rw [e3,Zb];omega)),(by first|omega|(rw [e3];omega)|(rw [e3,Zb];omega)),(by first|omega|(rw [e3];omega)|(rw [e3,Zb];omega)),?_⟩;refine⟨Zj _,by omega,by rw[Zr,hl1];omega,?_⟩;refine⟨(by first|omega|(rw [e3];omega)|(rw [e3,Zb];omega)),(by first|omega|(rw [e3];omega)|(rw [e3,Zb];omega)),(by first|omega|(rw [e3];omega)|(rw [e3,Zb];omega)),(by first|omega|(rw [e3];omega)|(rw [e3,Zb];omega)),?_⟩;refine⟨i+1,by omega,by omega,[.d 45 0],⟨?_,rfl,rfl,d7 (by simp(disch:=omega)only[Zd];omega),tq⟩,⟨_,rfl,?_⟩,tq⟩
    ·rw[e3,hstep];show V.z ((l8 ns b i).2.length-kN x (l8 ns b i).2.length) (sub (bv (l8 ns b i).2) (kN x (l8 ns b i).2.length) ((l8 ns b i).2.length-kN x (l8 ns b i).2.length))=V.z ((l8 ns b i).2.drop (kN x (l8 ns b i).2.length)).length (bv ((l8 ns b i).2.drop (kN x (l8 ns b i).2.length)));rw[p8 rfl hk,Ze]
    ·rw[e3,hstep];show B.mx (Jp (m5 _ _ 6) (sub ((l8 ns b i).1.map zc) 0 (i*1)++[V.z (kN x (l8 ns b i).2.length) (sub (bv (l8 ns b i).2) 0 (kN x (l8 ns b i).2.length))]))=B.mx (((l8 ns b i).1++[(l8 ns b i).2.take (kN x (l8 ns b i).2.length)]).map zc);rw[hst];exact congrArg B.mx (Gz _ _ _)
  ·have hi0:i=min ns.length 40:=by omega
   have lc:=tM ns b;refine⟨Zj _,by omega,by rw[Zr,hl1];omega,?_⟩;refine⟨_,rfl,[],?_,tq⟩;rw[lc,<-hi0];have hcl:(l8 ns b i).1.map zc++[zc (l8 ns b i).2]=(bi ns b).map zc:=by unfold bi;rw[<-hi0,Jk];rfl
   refine(congrArg (V.zz 1 (i+1)) ((congrArg (Jp _) ?_).trans (GA _ _ (bi ns b) 3)));rw[<-hcl,Zn,Zn];rw[z5 (l:=(l8 ns b i).1.map zc) (by rw[Zr,hl1])];exact z5 (n:=(i+1)*1) (by rw[Zc,Zr,hl1,Zn];rfl)
 ·have hi0:i=min ns.length 40:=by omega
  have lc:=tM ns b;refine⟨Zj _,by omega,by rw[Zr,hl1];omega,?_⟩;refine⟨_,rfl,[],?_,tq⟩;rw[lc,<-hi0];have hcl:(l8 ns b i).1.map zc++[zc (l8 ns b i).2]=(bi ns b).map zc:=by unfold bi;rw[<-hi0,Jk];rfl
  refine(congrArg (V.zz 1 (i+1)) ((congrArg (Jp _) ?_).trans (GA _ _ (bi ns b) 3)));rw[<-hcl,Zn,Zn];rw[z5 (l:=(l8 ns b i).1.map zc) (by rw[Zr,hl1])];exact z5 (n:=(i+1)*1) (by rw[Zc,Zr,hl1,Zn];rfl)
theorem qC {E D:Bs->Bs} {n:Nat} {mode:Int} {back:Bool} {s:MS}:f7 E D n mode back s []=([],s):=by
 unfold f7;by_cases hm:mode=1\/mode=2
 ·rw[if_pos hm];show((q6 E D mode back n [] s.ch (0/n)).1,(⟨(q6 E D mode back n [] s.ch (0/n)).2,s.row,s.gone⟩:MS))=_;rw[Nat.zero_div];rfl
 ·rw[if_neg hm];rfl
theorem tw {kind:Int} (hk:kind=1\/kind=2\/kind=3):a7 C 117 [i64 kind] [] (.ret (bool true)) []:=by
 refine PV.c ?_;rcases hk with rfl|rfl|rfl<;>exact⟨_,rfl,[],rfl,tq⟩
theorem tn {n:Nat} (h:n=8\/n=16):a7 C 118 [i64 n] [] (.ret (bool true)) []:=by
 refine PU.c ?_;rcases h with rfl|rfl<;>exact⟨_,rfl,[],rfl,tq⟩
theorem WK {i n:Nat} {x y:UInt8} (h:i<n):(Zp i x++Zp (n-i) y).set i x=Zp (i+1) x++Zp (n-(i+1)) y:=by
 rw[show n-i=(n-(i+1))+1 by omega,List.replicate_succ,Jm _ _ (by rw[Zi];exact Zj _),Zi,Jo,List.set_cons_zero,Z8];simp
theorem DE {n:Nat} {x y:UInt8} (h:0<n):(Zp n y).set (n-1) x=Zp (n-1) y++[x]:=by
 obtain⟨m,rfl⟩:∃m,n=m+1:=⟨n-1,by omega⟩;rw[Zw,Z8,Jm _ _ (by rw[Zi];exact Zj _),Zi,Jo];rfl
theorem WJ {n:Nat} {x:UInt8} (h:0<n):(Zp n x).set (n-1) x=Zp n x:=by
 obtain⟨m,rfl⟩:∃m,n=m+1:=⟨n-1,by omega⟩;rw[DE h,Zw,Z8]
theorem tg {kind:Int} {n:Nat} (hk:kind=1\/kind=2\/kind=3) (h0:0<n) (h16:n<=16):a7 C 119 [i64 kind,i64 n] [] (.ret (.o 1 (.k 0) 0 n)) [.sc (bv (P6 kind n))]:=by
 have e1:I6.wrap ((n:Int)-1)=((n-1:Nat):Int):=by rw[Zd _ (by omega)];omega
 refine PT.c ?_;refine⟨by omega,by omega,by omega,?_⟩;rcases hk with rfl|rfl|rfl
 ·refine j9 (fun i=>⟨[(1,i64 n),(5,.o 1 (.k 0) 0 n),(17,i64 n),(18,i64 i)],[.sc (bv (Zp i (UInt8.ofNat n)++Zp (n-i) 0))]⟩) n ⟨[.d 8 0],⟨rfl,rfl,rfl,rfl,tq⟩,⟨_,rfl,d9 ?_⟩,tq⟩ fun i hi=> ?_
  ·rw[Zb,S2];rfl
  refine c9 (fun a9=> ?_) (fun hge=> ?_)
  ·have a9:i<n:=by omega
   refine⟨by omega,by omega,by rw[Zb,f9,Zc,Zi,Zi];omega,?_⟩;refine⟨i+1,by omega,by omega,[.k 0],⟨rfl,rfl,rfl,d7 (by simp(disch:=omega)only[Zd];omega),tq⟩,⟨_,rfl,d9 ?_⟩,tq⟩;rw[Zb,Zn,Zs,bA,L0,WK a9]
  ·obtain rfl:i=n:=by omega
   refine⟨by rw[e1];omega,by rw[e1];omega,by rw[e1,Zb,f9,Zc,Zi,Zi];omega,?_⟩;refine⟨_,rfl,[.k 0],rfl,⟨_,rfl,d9 ?_⟩,tq⟩;rw[e1,Zb,Zn,Zs,bA,L0,Jo,List.replicate_zero,Jl,WJ h0];rfl
 ·refine⟨by decide,by omega,by rw[Zb,Zi];show 0+0*1<n;omega,?_⟩;refine⟨_,rfl,[.d 8 0],rfl,⟨_,rfl,d9 ?_⟩,tq⟩;rw[Zb,S2];show(bv (Zp n 0)).set 0 (Value.int .u8 ((128:UInt8).toNat:Int))=_;rw[L0];obtain⟨m,rfl⟩:∃m,n=m+1:=⟨n-1,by omega⟩;rfl
 ·refine⟨by rw[e1];omega,by rw[e1];omega,by rw[e1,Zb,Zb,Zi];omega,?_⟩;refine⟨_,rfl,[.d 8 0],rfl,⟨_,rfl,d9 ?_⟩,tq⟩;rw[e1,Zb,Zb,Zn,Zs,bA,S2,L0,DE h0];rfl
theorem yE {kind:Int} {s m:Nat} {vt:List Value} {tail:Bs} (hk:kind=1\/kind=2\/kind=3) (hs:s=8\/s=16) (hv:vt=bv tail) (hm:tail.length=m) (hms:m<s):
  a7 C 64 [i64 kind,i64 s,.z m vt] [] (A8 s) [.sc (bv (H9 kind s tail))]:=by
 subst hv;have e1:I6.wrap ((s:Int)-(m:Int))=((s-m:Nat):Int):=by rw[Zd _ (by omega)];omega
 have lp:=fE (kind:=kind) (tail:=tail) (size:=s) (by omega);have lm:=qR (kind:=kind) (n:=s-m) (by omega);refine PQ.c ?_;refine⟨[],_,_,_,_,tw hk,rfl,rfl,?_⟩;refine⟨[],_,_,_,_,tn hs,rfl,rfl,?_⟩;refine c9 (fun h=>absurd h (by omega)) (fun _=> ?_);refine⟨[],_,_,_,_,tg (n:=s-m) hk (by omega) (by omega),?_,rfl,?_⟩
 ·rw[e1];rfl
 have hpe:tail++P6 kind (s-m)=H9 kind s tail:=by rw[H9,hm]
 refine⟨[],_,_,_,_,U1 (n:=2) (ls:=[tail,P6 kind (s-m)]) (t:=H9 kind s tail) (by rw[<-hpe];simp) ?_ rfl (by omega) (by omega),rfl,rfl,?_⟩
 ·show[V.z m (bv tail),V.z (s-m) (sub (bv (P6 kind (s-m))) 0 (s-m))]=[V.z _ _,V.z _ _];rw[b8 lm,hm,lm]
 rw[lp];exact⟨_,rfl,[.d 28 0],rfl,⟨_,rfl,rfl⟩,tq⟩
theorem yq {n m:Nat} {va vb:List Value} {a b:Bs} (ha:va=bv a) (hb:vb=bv b) (la:a.length=n) (lb:b.length=m):a7 C 181 [.z n va,.z m vb] [] (.ret (bool (decide (a=b)))) []:=by
 subst ha;subst hb;refine OV.c ?_;refine⟨by rw[f9];exact la,_,rfl,?_⟩;refine⟨by rw[f9];exact lb,_,rfl,?_⟩;refine⟨_,rfl,[],congrArg bool ?_,tq⟩;exact rx _ _
theorem KU {n:Nat} {vb:List Value} {b:Bs} (hv:vb=bv b) (hl:b.length=n) (hn:n<=1000):a7 C 231 [.z n vb,.s (.int .u8 128)] [] (.ret (i64 ((Q8 b n:Int)-1))) []:=by
 subst hv;refine OU.c ?_;refine⟨Nat,fun j=>⟨[(0,.z n (bv b)),(1,.s (.int .u8 128)),(5,i64 ((j:Int)-1))],[]⟩,fun j=>j<=n/\Q8 b n=Q8 b j,fun j=>j,?_,fun j hj=> ?_⟩
 ·exact⟨[],n,⟨Zj _,rfl⟩,[],⟨rfl,rfl,d7 (by rw[Zd _ (by omega)]),tq⟩,tq⟩
 ·obtain⟨h1,h2⟩:=hj;refine c9 (fun hp=> ?_) (fun hp=> ?_)
  ·obtain⟨i,rfl⟩:∃i,j=i+1:=⟨j-1,by omega⟩;have e1:(((i+1:Nat):Int)-1)=(i:Int):=by omega
   refine⟨by omega,by omega,.int .u8 ((b.getD i 0).toNat:Int),by rw[e1,Zb];exact A1 (by omega),?_⟩;refine j7 (fun hz=> ?_) (fun hz=> ?_)
   ·have hz':b.getD i 0=128:=UInt8.toNat_inj.1 (by have:(128:UInt8).toNat=128:=rfl;omega);have e:Q8 b (i+1)=i+1:=by unfold Q8;rw[if_pos hz']
    rw[h2,e];exact⟨_,rfl,[],rfl,tq⟩
   ·have hz':¬b.getD i 0=128:=fun e=>hz (by rw[e];rfl);have e:Q8 b (i+1)=Q8 b i:=by rw[Q8,if_neg hz']
    exact⟨i,⟨by omega,by rw[h2,e]⟩,(by show i<i+1;omega),[],⟨rfl,rfl,d7 (by rw[e1,Zd _ (by omega)]),tq⟩,tq⟩
  ·obtain rfl:j=0:=by omega
   rw[h2];exact⟨_,rfl,[],rfl,tq⟩
theorem KV {n:Nat} {vb:List Value} {b:Bs} (hv:vb=bv b) (hl:b.length=n) (hn:n<=1000):a7 C 182 [.z n vb,.s (.int .u8 128)] [] (.ret (i64 ((Q8 b n:Int)-1))) []:=by
 refine OW.c ?_;refine⟨[],_,_,_,_,KU hv hl hn,rfl,rfl,?_⟩;exact⟨_,rfl,[],rfl,tq⟩
theorem yz {kind:Int} {s:Nat} {vb:List Value} {b:Bs} (hv:vb=bv b) (hk:kind=1\/kind=2\/kind=3) (hs:s=8\/s=16) (hl:b.length=s):a7 C 123 [i64 kind,.z s vb] [] (.ret (i64 (E7 kind b))) []:=by
 subst hv;have w1:I6.wrap ((s:Int)-1)=((s-1:Nat):Int):=by rw[Zd _ (by omega)];omega
 obtain⟨y,hy⟩:∃y,y=b.getD (s-1) 0:=⟨_,rfl⟩;have hv:(bv b)[(I6.wrap ((s:Int)-1)).toNat]? =some (.int .u8 (y.toNat:Int)):=by rw[w1,Zb,hy];exact A1 (by omega)
 obtain⟨c,hc⟩:∃c,c=y.toNat:=⟨_,rfl⟩;have w2:I6.wrap (y.toNat:Int)=(c:Int):=by rw[iA,hc]
 have hcb:c<256:=by rw[hc];exact y.toNat_lt
 have hC:∀k:Int,k≠2->dp k b=c:=fun k hk=>by unfold dp;rw[if_neg hk,hl,<-hy,hc]
 refine PR.c ?_;rcases hk with rfl|rfl|rfl
 ·have hP:E7 1 b=if c<1\/s<c\/b.drop (s-c)≠P6 1 c then 0 else c:=by
   unfold E7;rw[hC 1 (by decide),hl];by_cases h1:c<1\/s<c\/b.drop (s-c)≠P6 1 c
   ·rw[if_pos h1,if_pos (by rcases h1 with h|h|h;exact .inl h;exact .inr (.inl h);exact .inr (.inr ⟨by decide,h⟩))]
   ·rw[if_neg h1,if_neg (fun h=>h1 (by rcases h with h|h|h;exact .inl h;exact .inr (.inl h);exact .inr (.inr h.2)))]
  refine⟨0,Unit,fun _=>⟨[],[]⟩,fun _=>False,fun _=>0,?_,fun x hx=>hx.elim⟩;refine⟨by rw[w1];omega,by rw[w1];omega,_,hv,?_⟩;refine c9 (fun h=> ?_) (fun h=> ?_)
  ·rw[w2]at h;refine⟨_,rfl,[],d7 ?_,tq⟩;rw[hP,if_pos (.inl (by omega))];rfl
  rw[w2]at h;refine c9 (fun h2=> ?_) (fun h2=> ?_)
  ·rw[w2]at h2;refine⟨_,rfl,[],d7 ?_,tq⟩;rw[hP,if_pos (.inr (.inl (by omega)))];rfl
  rw[w2]at h2;have w3:I6.wrap ((s:Int)-I6.wrap (y.toNat:Int))=((s-c:Nat):Int):=by rw[w2,Zd _ (by omega)];omega
  have lm:=qR (kind:=1) (n:=c) (by omega);have ld:(b.drop (s-c)).length=c:=by rw[Ze];omega
  refine⟨by rw[w3];omega,by rw[w3];omega,by first|omega|(rw [w3];omega),by first|omega|(rw [w3];omega),?_⟩;refine⟨[],_,_,_,_,tg (kind:=1) (n:=c) (.inl rfl) (by omega) (by omega),?_,rfl,?_⟩
  ·rw[w2];rfl
  refine⟨[],_,_,_,_,yq (a:=b.drop (s-c)) (b:=P6 1 c) (n:=c) (m:=c) (va:=bv (b.drop (s-c))) (vb:=bv (P6 1 c)) rfl rfl ld lm,?_,rfl,?_⟩
  ·rw[w3];show[V.z (s-(s-c)) (sub (bv b) (s-c) (s-(s-c))),V.z c (sub (bv (P6 1 c)) 0 c)]=_;rw[p8 hl (by omega),b8 lm,show s-(s-c)=c by omega]
  refine ik (fun h3=> ?_) (fun h3=> ?_)
  ·refine⟨_,rfl,[],d7 ?_,tq⟩;rw[hP,if_pos (.inr (.inr (by simpa using h3)))];rfl
  ·refine⟨_,rfl,[],d7 ?_,tq⟩;rw[w2,hP,if_neg];rintro (h4|h4|h4)
   ·omega
   ·omega
   ·exact h4 (by simpa using h3)
 ·obtain⟨L,hL⟩:∃L,L=Q8 b s:=⟨_,rfl⟩;have hLs:L<=s:=by rw[hL];exact BW b s
  obtain⟨e,he⟩:∃e,e=s+1-L:=⟨_,rfl⟩;have hC2:dp 2 b=e:=by unfold dp;rw[if_pos rfl,hl,<-hL,he]
  have hP:E7 2 b=if s<e\/b.drop (s-e)≠P6 2 e then 0 else e:=by
   unfold E7;rw[hC2,hl];by_cases h1:s<e\/b.drop (s-e)≠P6 2 e
   ·rw[if_pos h1,if_pos (by rcases h1 with h|h;exact .inr (.inl h);exact .inr (.inr ⟨by decide,h⟩))]
   ·rw[if_neg h1,if_neg (fun h=>by
     rcases h with h|h|h
     ·omega
     ·exact h1 (.inl h)
     ·exact h1 (.inr h.2))]
  have w3:I6.wrap ((s:Int)-((Q8 b s:Int)-1))=(e:Int):=by rw[<-hL,Zd _ (by omega)];omega
  refine⟨0,Unit,fun _=>⟨[(0,i64 2),(1,.z s (bv b)),(5,i64 s)],[]⟩,fun _=>True,fun _=>0,?_,fun x hx=> ?_⟩
  ·refine⟨by rw[w1];omega,by rw[w1];omega,_,hv,?_⟩;exact⟨rfl,(),tq,[],⟨rfl,rfl,rfl,tq⟩,tq⟩
  ·refine⟨[],_,_,_,_,KV rfl hl (by omega),rfl,rfl,?_⟩;refine c9 (fun h2=> ?_) (fun h2=> ?_)
   ·rw[w3]at h2;refine⟨_,rfl,[],d7 ?_,tq⟩;rw[hP,if_pos (.inl (by omega))];rfl
   rw[w3]at h2;have w4:I6.wrap ((s:Int)-I6.wrap ((s:Int)-((Q8 b s:Int)-1)))=((s-e:Nat):Int):=by rw[w3,Zd _ (by omega)];omega
   have lm:=qR (kind:=2) (n:=e) (by omega);have ld:(b.drop (s-e)).length=e:=by rw[Ze];omega
   refine⟨by rw[w4];omega,by rw[w4];omega,by first|omega|(rw [w4];omega),by first|omega|(rw [w4];omega),?_⟩;refine⟨[],_,_,_,_,tg (kind:=2) (n:=e) (.inr (.inl rfl)) (by omega) (by omega),?_,rfl,?_⟩
   ·rw[w3];rfl
   refine⟨[],_,_,_,_,yq (a:=b.drop (s-e)) (b:=P6 2 e) (n:=e) (m:=e) (va:=bv (b.drop (s-e))) (vb:=bv (P6 2 e)) rfl rfl ld lm,?_,rfl,?_⟩
   ·rw[w4];show[V.z (s-(s-e)) (sub (bv b) (s-e) (s-(s-e))),V.z e (sub (bv (P6 2 e)) 0 e)]=_;rw[p8 hl (by omega),b8 lm,show s-(s-e)=e by omega]
   refine ik (fun h3=> ?_) (fun h3=> ?_)
   ·refine⟨_,rfl,[],d7 ?_,tq⟩;rw[hP,if_pos (.inr (by simpa using h3))];rfl
   ·refine⟨_,rfl,[],d7 ?_,tq⟩;rw[w3,hP,if_neg];rintro (h4|h4)
    ·omega
    ·exact h4 (by simpa using h3)
 ·have hP:E7 3 b=if c<1\/s<c then 0 else c:=by
   unfold E7;rw[hC 3 (by decide),hl];by_cases h1:c<1\/s<c
   ·rw[if_pos h1,if_pos (by rcases h1 with h|h;exact .inl h;exact .inr (.inl h))]
   ·rw[if_neg h1,if_neg (fun h=>by
     rcases h with h|h|h
     ·exact h1 (.inl h)
     ·exact h1 (.inr h)
     ·exact h.1 rfl)]
  refine⟨0,Unit,fun _=>⟨[],[]⟩,fun _=>False,fun _=>0,?_,fun x hx=>hx.elim⟩;refine⟨by rw[w1];omega,by rw[w1];omega,_,hv,?_⟩;refine c9 (fun h=> ?_) (fun h=> ?_)
  ·rw[w2]at h;refine⟨_,rfl,[],d7 ?_,tq⟩;rw[hP,if_pos (.inl (by omega))];rfl
  rw[w2]at h;refine c9 (fun h2=> ?_) (fun h2=> ?_)
  ·rw[w2]at h2;refine⟨_,rfl,[],d7 ?_,tq⟩;rw[hP,if_pos (.inr (by omega))];rfl
  rw[w2]at h2;refine⟨_,rfl,[],d7 ?_,tq⟩;rw[w2,hP,if_neg];omega
theorem zE {kind:Int} {s:Nat} {vb:List Value} {b:Bs} (hv:vb=bv b) (hk:kind=1\/kind=2\/kind=3) (hs:s=8\/s=16) (hl:b.length=s) (h0:E7 kind b≠0):a7 C 67 [i64 kind,i64 s,.z s vb] [] (.ret (.t [.z (s-E7 kind b) (bv (U7 kind b)),i64 0])) []:=by
 subst hv;have HL:=yz (vb:=bv b) rfl hk hs hl;have hle:=vo kind b;have hst:U7 kind b=sub b 0 (s-E7 kind b):=by unfold U7;rw[hl];rfl
 rw[hst];generalize E7 kind b=c at*
 have w1:I6.wrap ((s:Int)-(c:Int))=((s-c:Nat):Int):=by rw[Zd _ (by omega)];omega
 have lp:(sub b 0 (s-c)).length=s-c:=by rw[j4];omega
 have hv1:sub (bv b) 0 (s-c)=bv (sub b 0 (s-c)):=l4 _ _ _;refine AT.c ?_;refine⟨[],_,_,_,_,tw hk,rfl,rfl,?_⟩;refine⟨[],_,_,_,_,tn hs,rfl,rfl,?_⟩;refine o9 (fun h=>absurd rfl h) (fun _=> ?_);refine⟨[],_,_,_,_,HL,rfl,rfl,?_⟩;refine j7 (fun h=>absurd h (by omega)) (fun _=> ?_);refine⟨by rw[w1];omega,by rw[w1];omega,by first|omega|(rw [w1];omega),by first|omega|(rw [w1];omega),?_⟩;refine⟨[],_,_,_,_,aw (n:=s-c) (va:=bv (sub b 0 (s-c))) rfl lp (by omega),?_,rfl,?_⟩
 ·rw[w1];show[V.z (s-c) (sub (bv b) 0 (s-c))]=_;rw[hv1]
 exact⟨_,rfl,[],rfl,tq⟩
theorem zF {kind:Int} {s:Nat} {vb:List Value} {b:Bs} (hv:vb=bv b) (hk:kind=1\/kind=2\/kind=3) (hs:s=8\/s=16) (hl:b.length=s) (h0:E7 kind b=0):a7 C 67 [i64 kind,i64 s,.z s vb] [] (.ret (.t [g8,i64 8])) []:=by
 subst hv;have HL:=yz (vb:=bv b) rfl hk hs hl;rw[h0]at HL;refine AT.c ?_;refine⟨[],_,_,_,_,tw hk,rfl,rfl,?_⟩;refine⟨[],_,_,_,_,tn hs,rfl,rfl,?_⟩;refine o9 (fun h=>absurd rfl h) (fun _=> ?_);refine⟨[],_,_,_,_,HL,rfl,rfl,?_⟩;exact⟨_,rfl,[],rfl,tq⟩
def D9 (mode:Int):Int:=if mode=1\/mode=2 then 1 else if 3<=mode/\mode<=6 then 2 else if 7<=mode/\mode<=9 then 3 else 0
theorem bS (mode:Int):a7 C 60 [i64 mode] [] (.ret (i64 (D9 mode))) []:=by
 refine Sl.c ?_;by_cases hm:1<=mode/\mode<=9
 ·have h9:mode=1\/mode=2\/mode=3\/mode=4\/mode=5\/mode=6\/mode=7\/mode=8\/mode=9:=by omega
  rcases h9 with rfl|rfl|rfl|rfl|rfl|rfl|rfl|rfl|rfl<;>exact⟨_,rfl,[],rfl,tq⟩
 ·have e:D9 mode=0:=by unfold D9;rw[if_neg (by omega),if_neg (by omega),if_neg (by omega)]
  rw[e];refine j7 (fun h=>absurd h (by omega)) (fun _=> ?_);refine j7 (fun h=>absurd h (by omega)) (fun _=> ?_);refine j7 (fun h=>absurd h (by omega)) (fun _=> ?_);refine j7 (fun h=>absurd h (by omega)) (fun _=> ?_);refine j7 (fun h=>absurd h (by omega)) (fun _=> ?_);refine j7 (fun h=>absurd h (by omega)) (fun _=> ?_);refine j7 (fun h=>absurd h (by omega)) (fun _=> ?_);refine j7 (fun h=>absurd h (by omega)) (fun _=> ?_);refine j7 (fun h=>absurd h (by omega)) (fun _=> ?_);exact⟨_,rfl,[],rfl,tq⟩
abbrev D7 (t mode pad:Int) (back:Bool):V:= .a [i64 t,i64 mode,i64 pad,bool back]
theorem dG {t key s k xs rs} (h:i6 t key s k xs rs) {mode pad:Int} {back:Bool} {li:Nat} {vk vi:List Value} (hvk:vk=bv key) (hm:1<=mode/\mode<=9) (hp:1<=pad/\pad<=4) (hpm:pad=4\/mode<=2) (hi:li=if mode=1 then 0 else s):
  a7 C 59 [D7 t mode pad back,.z key.length vk,.z li vi] [] (.ret (.t [b9 t k xs,i64 0])) []:=by
 subst hvk;have hs:=h.s_le;refine pR.c ?_;refine⟨_,rfl,?_⟩;refine⟨[],_,_,_,_,h.new,rfl,rfl,?_⟩;refine⟨_,rfl,?_⟩;refine⟨[],_,_,_,_,bS mode,rfl,rfl,?_⟩;refine⟨[],_,_,_,_,h.size,rfl,rfl,?_⟩;refine⟨_,rfl,?_⟩;have hk0:D9 mode≠0:=by unfold D9;split;decide;split;decide;rw[if_pos (by omega)];decide
 have hk1:pad≠4->D9 mode=1:=fun hp4=>by unfold D9;rw[if_pos (by omega)]
 refine j7 (fun h1=> ?_) (fun h1=> ?_);all_goals
  refine j7 (fun h=>absurd h hk0) (fun _=> ?_);refine⟨_,rfl,?_⟩;refine c9 (fun h=>absurd h (by omega)) (fun _=> ?_);refine⟨_,rfl,?_⟩;refine c9 (fun h=>absurd h (by omega)) (fun _=> ?_);refine⟨_,rfl,?_⟩;refine o9 (fun h4=> ?_) (fun h4=> ?_)
  ·refine o9 (fun h=>absurd (hk1 h4) h) (fun _=> ?_);refine o9 (fun h=>absurd (show (li:Int)=_ by first|(rw [hi,if_pos h1];rfl)|rw[hi,if_neg h1]) h) (fun _=> ?_);exact⟨_,rfl,[],rfl,tq⟩
  ·refine o9 (fun h=>absurd (show (li:Int)=_ by first|(rw [hi,if_pos h1];rfl)|rw[hi,if_neg h1]) h) (fun _=> ?_);exact⟨_,rfl,[],rfl,tq⟩
theorem Lf {t key s k xs rs} (h:i6 t key s k xs rs) {mode pad:Int} {back:Bool} {li:Nat} {vk vi:List Value} (hvk:vk=bv key) (hm:1<=mode/\mode<=9) (hp:1<=pad/\pad<=4) (hpm:pad=4\/mode<=2) (hi:li≠if mode=1 then 0 else s):
  a7 C 59 [D7 t mode pad back,.z key.length vk,.z li vi] [] (.ret (.t [i7,i64 5])) []:=by
 subst hvk;have hs:=h.s_le;refine pR.c ?_;refine⟨_,rfl,?_⟩;refine⟨[],_,_,_,_,h.new,rfl,rfl,?_⟩;refine⟨_,rfl,?_⟩;refine⟨[],_,_,_,_,bS mode,rfl,rfl,?_⟩;refine⟨[],_,_,_,_,h.size,rfl,rfl,?_⟩;refine⟨_,rfl,?_⟩;have hk0:D9 mode≠0:=by unfold D9;split;decide;split;decide;rw[if_pos (by omega)];decide
 have hk1:pad≠4->D9 mode=1:=fun hp4=>by unfold D9;rw[if_pos (by omega)]
 refine j7 (fun h1=> ?_) (fun h1=> ?_);all_goals
  refine j7 (fun h=>absurd h hk0) (fun _=> ?_);refine⟨_,rfl,?_⟩;refine c9 (fun h=>absurd h (by omega)) (fun _=> ?_);refine⟨_,rfl,?_⟩;refine c9 (fun h=>absurd h (by omega)) (fun _=> ?_);refine⟨_,rfl,?_⟩;refine o9 (fun h4=> ?_) (fun h4=> ?_)
  ·refine o9 (fun h=>absurd (hk1 h4) h) (fun _=> ?_);refine o9 (fun _=> ?_) (fun h=>absurd ?_ hi)
   ·exact⟨_,rfl,[],rfl,tq⟩
   ·simp only[h1,if_true,if_false];exact Je.1 h
  ·refine o9 (fun _=> ?_) (fun h=>absurd ?_ hi)
   ·exact⟨_,rfl,[],rfl,tq⟩
   ·simp only[h1,if_true,if_false];exact Je.1 h
theorem yD {t mode pad e:Int} {back:Bool} {lk li:Nat} {vk vi:List Value} (HN:a7 C 25 [i64 t,.z lk vk] [] (.ret (.t [i7,i64 e])) []) (he:e≠0):
  a7 C 59 [D7 t mode pad back,.z lk vk,.z li vi] [] (.ret (.t [i7,i64 e])) []:=by
 refine pR.c ?_;refine⟨_,rfl,?_⟩;refine⟨[],_,_,_,_,HN,rfl,rfl,?_⟩;refine o9 (fun _=> ?_) (fun h=>absurd h he);exact⟨_,rfl,[],rfl,tq⟩
theorem LV {t key s k xs rs} (h:i6 t key s k xs rs) {mode pad:Int} {back:Bool} {li:Nat} {vk vi:List Value} (hvk:vk=bv key) (hm:1<=mode/\mode<=9) (hp:1<=pad/\pad<=4) (hpm:pad=4\/mode<=2) (hi:li=if mode=1 then 0 else s):
  a7 C 99 [D7 t mode pad back,.z key.length vk,.z li vi] [] (.ret (i64 0)) []:=by
 subst hvk;refine pP.c ?_;refine⟨_,rfl,?_⟩;refine⟨[],_,_,_,_,h.rnew,rfl,rfl,?_⟩;refine⟨_,rfl,?_⟩;refine c9 (fun h=>absurd h (by omega)) (fun _=> ?_);refine⟨_,rfl,?_⟩;refine c9 (fun h=>absurd h (by omega)) (fun _=> ?_);refine⟨_,rfl,?_⟩;refine c9 (fun h=>absurd h (by omega)) (fun _=> ?_);refine⟨_,rfl,?_⟩;refine c9 (fun h=>absurd h (by omega)) (fun _=> ?_);refine⟨_,rfl,?_⟩;refine o9 (fun h4=> ?_) (fun h4=> ?_)
 ·refine⟨_,rfl,?_⟩;refine c9 (fun h=>absurd h (by omega)) (fun _=> ?_);refine⟨_,rfl,?_⟩;refine⟨[],_,_,_,_,h.rS,rfl,rfl,?_⟩;refine⟨_,rfl,?_⟩;refine j7 (fun h1=> ?_) (fun h1=> ?_);all_goals
   refine o9 (fun h=>absurd (show (li:Int)=_ by first|(rw [hi,if_pos h1];rfl)|rw[hi,if_neg h1]) h) (fun _=> ?_);exact⟨_,rfl,[],rfl,tq⟩
 ·refine⟨_,rfl,?_⟩;refine⟨[],_,_,_,_,h.rS,rfl,rfl,?_⟩;refine⟨_,rfl,?_⟩;refine j7 (fun h1=> ?_) (fun h1=> ?_);all_goals
   refine o9 (fun h=>absurd (show (li:Int)=_ by first|(rw [hi,if_pos h1];rfl)|rw[hi,if_neg h1]) h) (fun _=> ?_);exact⟨_,rfl,[],rfl,tq⟩
theorem LT {t key s k xs rs} (h:i6 t key s k xs rs) {mode pad:Int} {back:Bool} {li:Nat} {vk vi:List Value} (hvk:vk=bv key) (hm:1<=mode/\mode<=9) (hp:1<=pad/\pad<=4) (hpm:pad=4\/mode<=2) (hi:li≠if mode=1 then 0 else s):
  a7 C 99 [D7 t mode pad back,.z key.length vk,.z li vi] [] (.ret (i64 5)) []:=by
 subst hvk;refine pP.c ?_;refine⟨_,rfl,?_⟩;refine⟨[],_,_,_,_,h.rnew,rfl,rfl,?_⟩;refine⟨_,rfl,?_⟩;refine c9 (fun h=>absurd h (by omega)) (fun _=> ?_);refine⟨_,rfl,?_⟩;refine c9 (fun h=>absurd h (by omega)) (fun _=> ?_);refine⟨_,rfl,?_⟩;refine c9 (fun h=>absurd h (by omega)) (fun _=> ?_);refine⟨_,rfl,?_⟩;refine c9 (fun h=>absurd h (by omega)) (fun _=> ?_);refine⟨_,rfl,?_⟩;refine o9 (fun h4=> ?_) (fun h4=> ?_)
 ·refine⟨_,rfl,?_⟩;refine c9 (fun h=>absurd h (by omega)) (fun _=> ?_);refine⟨_,rfl,?_⟩;refine⟨[],_,_,_,_,h.rS,rfl,rfl,?_⟩;refine⟨_,rfl,?_⟩;refine j7 (fun h1=> ?_) (fun h1=> ?_);all_goals
   refine o9 (fun _=> ?_) (fun h=>absurd ?_ hi)
   ·exact⟨_,rfl,[],rfl,tq⟩
   ·simp only[h1,if_true,if_false];exact Je.1 h
 ·refine⟨_,rfl,?_⟩;refine⟨[],_,_,_,_,h.rS,rfl,rfl,?_⟩;refine⟨_,rfl,?_⟩;refine j7 (fun h1=> ?_) (fun h1=> ?_);all_goals
   refine o9 (fun _=> ?_) (fun h=>absurd ?_ hi)
   ·exact⟨_,rfl,[],rfl,tq⟩
   ·simp only[h1,if_true,if_false];exact Je.1 h
theorem LU {t key s k xs rs} (h:i6 t key s k xs rs) {mode pad:Int} {back:Bool} {li:Nat} {vk vi:List Value} (hvk:vk=bv key) (hb:¬((1<=mode/\mode<=9)/\(1<=pad/\pad<=4)/\(pad=4\/mode<=2))):
  a7 C 99 [D7 t mode pad back,.z key.length vk,.z li vi] [] (.ret (i64 3)) []:=by
 subst hvk;refine pP.c ?_;refine⟨_,rfl,?_⟩;refine⟨[],_,_,_,_,h.rnew,rfl,rfl,?_⟩;refine⟨_,rfl,?_⟩;refine c9 (fun _=>⟨_,rfl,[],rfl,tq⟩) (fun a1=> ?_);refine⟨_,rfl,?_⟩;refine c9 (fun _=>⟨_,rfl,[],rfl,tq⟩) (fun a2=> ?_);refine⟨_,rfl,?_⟩;refine c9 (fun _=>⟨_,rfl,[],rfl,tq⟩) (fun a3=> ?_);refine⟨_,rfl,?_⟩;refine c9 (fun _=>⟨_,rfl,[],rfl,tq⟩) (fun a4=> ?_);refine⟨_,rfl,?_⟩;refine o9 (fun h4=> ?_) (fun h4=> ?_)
 ·refine⟨_,rfl,?_⟩;refine c9 (fun _=>⟨_,rfl,[],rfl,tq⟩) (fun a5=> ?_);exact absurd ⟨⟨by omega,by omega⟩,⟨by omega,by omega⟩,.inr (by omega)⟩ hb
 ·exact absurd ⟨⟨by omega,by omega⟩,⟨by omega,by omega⟩,.inl h4⟩ hb
theorem zr {t mode pad e:Int} {back:Bool} {lk li:Nat} {vk vi:List Value} (HN:a7 C 14 [i64 t,.z lk vk] [] (.ret (.t [i7,i64 e])) []) (he:e≠0):
  a7 C 99 [D7 t mode pad back,.z lk vk,.z li vi] [] (.ret (i64 e)) []:=by
 refine pP.c ?_;refine⟨_,rfl,?_⟩;refine⟨[],_,_,_,_,HN,rfl,rfl,?_⟩;refine o9 (fun _=> ?_) (fun h=>absurd h he);exact⟨_,rfl,[],rfl,tq⟩
theorem Lg {t key s k xs rs} (h:i6 t key s k xs rs) {mode pad:Int} {back:Bool} {li:Nat} {vk vi:List Value} (hvk:vk=bv key) (hb:¬((1<=mode/\mode<=9)/\(1<=pad/\pad<=4)/\(pad=4\/mode<=2))):
  a7 C 59 [D7 t mode pad back,.z key.length vk,.z li vi] [] (.ret (.t [i7,i64 3])) []:=by
 subst hvk;have hs:=h.s_le;have hk0:(1<=mode/\mode<=9)->D9 mode≠0:=fun hm=>by unfold D9;split;decide;split;decide;rw[if_pos (by omega)];decide
 have hkz:¬(1<=mode/\mode<=9)->D9 mode=0:=fun hm=>by unfold D9;rw[if_neg (by omega),if_neg (by omega),if_neg (by omega)]
 have hk1:D9 mode=1->mode<=2:=fun hh=>by
  unfold D9 at hh;split at hh
  ·omega
  ·split at hh
   ·exact absurd hh (by decide)
   ·split at hh<;>exact absurd hh (by decide)
 refine pR.c ?_;refine⟨_,rfl,?_⟩;refine⟨[],_,_,_,_,h.new,rfl,rfl,?_⟩;refine⟨_,rfl,?_⟩;refine⟨[],_,_,_,_,bS mode,rfl,rfl,?_⟩;refine⟨[],_,_,_,_,h.size,rfl,rfl,?_⟩;refine⟨_,rfl,?_⟩;refine j7 (fun h1=> ?_) (fun h1=> ?_);all_goals
  refine j7 (fun hz=> ?_) (fun hz=> ?_)
  ·refine j7 (fun _=>⟨_,rfl,[],rfl,tq⟩) (fun h=>absurd hz h)
  refine⟨_,rfl,?_⟩;refine c9 (fun hz2=> ?_) (fun a3=> ?_)
  ·refine c9 (fun _=>⟨_,rfl,[],rfl,tq⟩) (fun h=>absurd hz2 h)
  refine⟨_,rfl,?_⟩;refine c9 (fun hz2=> ?_) (fun a4=> ?_)
  ·refine c9 (fun _=>⟨_,rfl,[],rfl,tq⟩) (fun h=>absurd hz2 h)
  refine⟨_,rfl,?_⟩;refine o9 (fun h4=> ?_) (fun h4=> ?_)
  ·refine o9 (fun _=>⟨_,rfl,[],rfl,tq⟩) (fun hk=> ?_);have:=hk1 hk;have hm:1<=mode/\mode<=9:=Classical.byContradiction fun x=>hz (hkz x);exact absurd ⟨hm,⟨by omega,by omega⟩,.inr this⟩ hb
  ·have hm:1<=mode/\mode<=9:=Classical.byContradiction fun x=>hz (hkz x);exact absurd ⟨hm,⟨by omega,by omega⟩,.inl h4⟩ hb
theorem Uf {n l:Nat} (hn:0<n) (h:n<=l) (hp:0<t8 n l):n+1<=l-t8 n l:=by
 unfold t8 at hp ⊢;have hd:=Zx (l-n-1) n;have:n+1<=l:=by
  refine Classical.byContradiction fun hh=> ?_;have:l-n-1=0:=by omega
  rw[this,Nat.zero_div]at hp;omega
 generalize n*((l-n-1)/n)=z at*
 omega
theorem Ug {n l f j:Nat} (hn:0<n) (h:n<=l) (hf:f=n*j) (hle:f<=t8 n l):(2*n<l-f->f+n<=t8 n l)/\(¬2*n<l-f->f=t8 n l):=by
 obtain⟨a1,a2,a3,a4,a5⟩:=iY hn h;have hfl:f<t8 n l->f+n<=t8 n l:=fun a9=>by
  obtain⟨u,hu⟩:=Zo a4;have:j<u:=by
   refine Z1 (a:=n) ?_;omega
  have:=Zk n this;rw[Zq]at this;omega
 constructor
 ·intro h2;exact hfl (by omega)
 ·intro h2;refine Classical.byContradiction fun hne=> ?_;have a9:f<t8 n l:=by omega
  have:=hfl a9;have:=Uf hn h (by omega);omega
def ZL (cv:V) (t mode pad:Int) (back:Bool) (s m:Nat) (iv msg:Bs):Nat×Nat->D
 |(j,f)=>⟨[(0,cv),(2,.z s (bv iv)),(3,.z m (bv msg)),(5,.p (.k 0) 0),(10,i64 s),(11,i64 f)],[.mx [i64 t,i64 mode,i64 pad,bool back]]⟩
theorem Mq {t key s k xs rs} (h:i6 t key s k xs rs) {mode pad:Int} {back:Bool} {li m:Nat} {vi vm:List Value} (hms:m<s):
  a7 C 61 [b9 t k xs,D7 t mode pad back,.z li vi,.z m vm] [] (.ret (.t [g8,i64 7])) []:=by
 refine Bb.c ?_;refine⟨[],_,_,_,_,h.size,rfl,rfl,?_⟩;refine c9 (fun _=> ?_) (fun h=>absurd (show (m:Int)<(s:Int) by omega) h);exact⟨_,rfl,[],rfl,tq⟩
theorem Mp {t key s k xs rs} (h:i6 t key s k xs rs) {mode pad:Int} {back:Bool} {m:Nat} {vi vm:List Value} {iv msg:Bs} (hvi:vi=bv iv) (hvm:vm=bv msg) (hi:iv.length=s) (hmm:msg.length=m) (hms:s<=m) (hmb:m<=100000) (hm:7<=mode/\mode<=9):
  a7 C 61 [b9 t k xs,D7 t mode pad back,.z s vi,.z m vm] [] (A8 m) [.sc (bv (M0 (cF t key false) (cF t key true) s mode back iv msg).1)]:=by
 subst hvi;subst hvm;have hs:=h.s_le;have hci:=h.ci;obtain⟨f,hf⟩:∃f,f=t8 s m:=⟨_,rfl⟩;obtain⟨a1,a2,a3,a4,a5⟩:=iY (n:=s) (l:=m) (by omega) hms;have hstep:=fun j f=>Ug (n:=s) (l:=m) (f:=f) (j:=j) (by omega) hms;rw[<-hf]at a1 a2 a3 a4 a5 hstep;have lfr:(sub msg 0 f).length=f:=by rw[j4];omega
 have hvf:sub (bv msg) 0 f=bv (sub msg 0 f):=l4 _ _ _;have K0:MK s 2 ⟨iv,[],[]⟩:=MK.new (by decide) (.inr hi);have T0:=iQ h (mode:=2) (back:=back) (st:=⟨iv,[],[]⟩) (b:=sub msg 0 f) rfl lfr (by omega) K0 a4 (.inr rfl);have lo:(f7 (cF t key false) (cF t key true) s 2 back ⟨iv,[],[]⟩ (sub msg 0 f)).1.length=f:=by rw[I3 hci K0.ok (by rw[lfr];exact a4),lfr]
 have hr0:(f7 (cF t key false) (cF t key true) s 2 back ⟨iv,[],[]⟩ (sub msg 0 f)).2.row=[]:=by unfold f7;rw[if_pos (by decide)]
 have hres:M0 (cF t key false) (cF t key true) s mode back iv msg=((f7 (cF t key false) (cF t key true) s 2 back ⟨iv,[],[]⟩ (sub msg 0 f)).1++C5 (cF t key false) (cF t key true) s mode back (aj s back iv msg (f7 (cF t key false) (cF t key true) s 2 back ⟨iv,[],[]⟩ (sub msg 0 f)).1) (msg.drop f),0):=by
  unfold M0;rw[if_neg (by omega),hmm,<-hf];rfl
 have hLast:∀o,aj s back iv msg o=if f=0 then iv else if back then sub msg (f-s) s else o.drop (f-s):=fun o=>by unfold aj;rw[hmm,<-hf]
 rw[hres];generalize f7 (cF t key false) (cF t key true) s 2 back ⟨iv,[],[]⟩ (sub msg 0 f)=S0 at*
 obtain⟨o,⟨c1,row1,g1⟩⟩:=S0;dsimp only at T0 lo hr0 hres ⊢;subst hr0;have hL:=hLast o;clear hres hLast;have ld:(msg.drop f).length=m-f:=by rw[Ze,hmm]
 refine Bb.c ?_;refine⟨[],_,_,_,_,h.size,rfl,rfl,?_⟩;refine c9 (fun h=>absurd h (by omega)) (fun _=> ?_);refine⟨Nat×Nat,ZL (b9 t k xs) t mode pad back s m iv msg,fun x=>x.2=s*x.1/\x.2<=f,fun x=>f-x.2,⟨[],(0,0),⟨by show 0=s*0;omega,Zt _⟩,[.d 5 0],⟨rfl,rfl,rfl,rfl,rfl,rfl,tq⟩,⟨_,rfl,rfl⟩,tq⟩,fun x hx=> ?_⟩;obtain⟨j,g⟩:=x;obtain⟨hg1,hg2⟩:=hx;dsimp only at hg1 hg2;have e1:I6.wrap ((m:Int)-(g:Int))=((m-g:Nat):Int):=by rw[Zd _ (by omega)];omega
 have e2:I6.wrap (2*(s:Int))=((2*s:Nat):Int):=by rw[Zd _ (by omega)];omega
 obtain⟨s1,s2⟩:=hstep j g hg1 hg2;refine c9 (fun hgt=> ?_) (fun hle=> ?_)
 ·rw[e1,e2]at hgt;have hgf:=s1 (by omega);have e3:I6.wrap ((g:Int)+(s:Int))=((g+s:Nat):Int):=by rw[Zd _ (by omega)];omega
  exact⟨(j+1,g+s),⟨by show g+s=s*(j+1);rw[Zq];omega,hgf⟩,(by show f-(g+s)<f-g;omega),[.k 0],⟨rfl,rfl,rfl,rfl,rfl,d7 e3,tq⟩,⟨_,rfl,rfl⟩,tq⟩
 ·rw[e1,e2]at hle;have hgf:g=f:=s2 (by omega);subst hgf;clear s1 s2 hstep hg2 hle;refine⟨_,rfl,?_⟩;refine⟨[],_,_,_,_,dC h (mode:=2) (back:=back) (i:=1) (iv:=iv) rfl hi (by decide) rfl,rfl,rfl,?_⟩;refine⟨by omega,by omega,by omega,by omega,?_⟩;refine⟨[.d 40 0,.d 40 1],_,_,_,_,T0,?_,rfl,?_⟩
  ·show[V.p (.k 0) 0,V.z (((g:Nat):Int).toNat) (sub (bv msg) 0 (((g:Nat):Int).toNat))]=_;rw[Zb,hvf]
  refine c9 (fun hpos=> ?_) (fun hz=> ?_)
  ·have hgs:s<=g:=a5.resolve_left (by omega);have e4:I6.wrap ((g:Int)-(s:Int))=((g-s:Nat):Int):=by rw[Zd _ (by omega)];omega
   rw[if_neg (by omega)]at hL;rw[hL];refine⟨by rw[e4];omega,by rw[e4];omega,by first|omega|(rw [e4];omega),by first|omega|(rw [e4];omega),?_⟩;refine⟨_,rfl,?_⟩;cases back
   ·have ll:(o.drop (g-s)).length=s:=by rw[Ze];omega
    have e9:g-(g-s)=s:=by omega
    have hvd:sub (bv o) (g-s) (g-(g-s))=bv (o.drop (g-s)):=p8 lo (by omega);rw[if_neg (by decide)];refine⟨_,rfl,?_⟩;refine⟨_,rfl,?_⟩;refine⟨by omega,by omega,by omega,by omega,?_⟩;have lT:=h.stT_len (mode:=mode) (back:=false) (a8:=o.drop (g-s)) (b:=msg.drop g) ll ld a2 a3;have cT:=pi h (mode:=mode) (back:=false) (vl:=bv (o.drop (g-s))) (vb:=bv (msg.drop g)) (a8:=o.drop (g-s)) (b:=msg.drop g) rfl rfl ll ld hm a2 a3;generalize C5 (cF t key false) (cF t key true) s mode false (o.drop (g-s)) (msg.drop g)=TT at*
    refine⟨[],_,_,_,_,cT,?_,rfl,?_⟩
    ·show[b9 t k xs,i64 mode,bool false,V.z (g-(I6.wrap ((g:Int)-(s:Int))).toNat) (sub (bv o) (I6.wrap ((g:Int)-(s:Int))).toNat (g-(I6.wrap ((g:Int)-(s:Int))).toNat)),V.z (m-((g:Nat):Int).toNat) (sub (bv msg) ((g:Nat):Int).toNat (m-((g:Nat):Int).toNat))]=_;rw[e4,Zb,hvd,e9,Zb,p8 hmm a1]
    refine⟨[],_,_,_,_,U1 (n:=2) (ls:=[o,TT]) (t:=o++TT) (by simp) ?_ rfl (by rw[Zc];omega) (by rw[Zc];omega),rfl,rfl,?_⟩
    ·show[V.z g (bv o),V.z (m-g) (sub (bv TT) 0 (m-g))]=[V.z _ _,V.z _ _];rw[lo,lT,b8 lT]
    have lc:(o++TT).length=m:=by rw[Zc];omega
    rw[lc];exact⟨_,rfl,[.d 83 0],rfl,⟨_,rfl,rfl⟩,tq⟩
   ·have ll:(sub msg (g-s) s).length=s:=by rw[j4];omega
    have e9:g-(g-s)=s:=by omega
    have hvd:sub (bv msg) (g-s) s=bv (sub msg (g-s) s):=l4 _ _ _;rw[if_pos rfl];refine⟨by first|omega|(rw [e4];omega),by first|omega|(rw [e4];omega),by first|omega|(rw [e4];omega),by first|omega|(rw [e4];omega),by first|omega|(rw [e4];omega),?_⟩;refine⟨_,rfl,?_⟩;refine⟨_,rfl,?_⟩;refine⟨by omega,by omega,by omega,by omega,?_⟩;have lT:=h.stT_len (mode:=mode) (back:=true) (a8:=sub msg (g-s) s) (b:=msg.drop g) ll ld a2 a3;have cT:=pi h (mode:=mode) (back:=true) (vl:=bv (sub msg (g-s) s)) (vb:=bv (msg.drop g)) (a8:=sub msg (g-s) s) (b:=msg.drop g) rfl rfl ll ld hm a2 a3;generalize C5 (cF t key false) (cF t key true) s mode true (sub msg (g-s) s) (msg.drop g)=TT at*
    refine⟨[],_,_,_,_,cT,?_,rfl,?_⟩
    ·show[b9 t k xs,i64 mode,bool true,V.z (((g:Nat):Int).toNat-(I6.wrap ((g:Int)-(s:Int))).toNat) (sub (bv msg) (I6.wrap ((g:Int)-(s:Int))).toNat (((g:Nat):Int).toNat-(I6.wrap ((g:Int)-(s:Int))).toNat)),V.z (m-((g:Nat):Int).toNat) (sub (bv msg) ((g:Nat):Int).toNat (m-((g:Nat):Int).toNat))]=_;rw[e4,Zb,Zb,e9,hvd,p8 hmm a1]
    refine⟨[],_,_,_,_,U1 (n:=2) (ls:=[o,TT]) (t:=o++TT) (by simp) ?_ rfl (by rw[Zc];omega) (by rw[Zc];omega),rfl,rfl,?_⟩
    ·show[V.z g (bv o),V.z (m-g) (sub (bv TT) 0 (m-g))]=[V.z _ _,V.z _ _];rw[lo,lT,b8 lT]
    have lc:(o++TT).length=m:=by rw[Zc];omega
    rw[lc];exact⟨_,rfl,[.d 83 0],rfl,⟨_,rfl,rfl⟩,tq⟩
  ·have hg0:g=0:=by omega
   rw[if_pos hg0]at hL;rw[hL];refine⟨_,rfl,?_⟩;refine⟨_,rfl,?_⟩;refine⟨by omega,by omega,by omega,by omega,?_⟩;have lT:=h.stT_len (mode:=mode) (back:=back) (a8:=iv) (b:=msg.drop g) hi ld a2 a3;have cT:=pi h (mode:=mode) (back:=back) (vl:=bv (iv)) (vb:=bv (msg.drop g)) (a8:=iv) (b:=msg.drop g) rfl rfl hi ld hm a2 a3;generalize C5 (cF t key false) (cF t key true) s mode back (iv) (msg.drop g)=TT at*
   refine⟨[],_,_,_,_,cT,?_,rfl,?_⟩
   ·show[b9 t k xs,i64 mode,bool back,V.z s (bv iv),V.z (m-((g:Nat):Int).toNat) (sub (bv msg) ((g:Nat):Int).toNat (m-((g:Nat):Int).toNat))]=_;rw[Zb,p8 hmm a1]
   refine⟨[],_,_,_,_,U1 (n:=2) (ls:=[o,TT]) (t:=o++TT) (by simp) ?_ rfl (by rw[Zc];omega) (by rw[Zc];omega),rfl,rfl,?_⟩
   ·show[V.z g (bv o),V.z (m-g) (sub (bv TT) 0 (m-g))]=[V.z _ _,V.z _ _];rw[lo,lT,b8 lT]
   have lc:(o++TT).length=m:=by rw[Zc];omega
   rw[lc];exact⟨_,rfl,[.d 83 0],rfl,⟨_,rfl,rfl⟩,tq⟩
theorem Mh {t key s k xs rs} (h:i6 t key s k xs rs) {mode pad:Int} {back:Bool} {m:Nat} {vk vi vm:List Value} {iv msg:Bs} (hvk:vk=bv key) (hvi:vi=bv iv) (hvm:vm=bv msg) (ok:C0 s mode pad iv) (hmm:msg.length=m) (hmb:m<=100000) (hm:7<=mode) (hms:s<=m):
  a7 C 16 [D7 t mode pad back,.z key.length vk,.z iv.length vi,.z m vm] [] (.ret (.t [.z m (bv (M0 (cF t key false) (cF t key true) s mode back iv msg).1),i64 0])) []:=by
 subst hvk;subst hvi;subst hvm;obtain⟨o1,o2,o3,o4⟩:=ok;have hs:=h.s_le;have hi:iv.length=s:=by rw[o4,if_neg (by omega)]
 have lS:(M0 (cF t key false) (cF t key true) s mode back iv msg).1.length=m:=by rw[rj h.ci (by omega) hi (by omega),hmm]
 have cS:=Mp h (pad:=pad) (back:=back) (vi:=bv iv) (vm:=bv msg) rfl rfl hi hmm hms hmb ⟨hm,o1.2⟩;refine ff.c ?_;refine⟨0,Unit,fun _=>⟨[],[]⟩,fun _=>False,fun _=>0,?_,fun x hx=>hx.elim⟩;refine⟨[i64 t,i64 mode,i64 pad,bool back],rfl,rfl,?_⟩;refine⟨[],_,_,_,_,dG h rfl o1 o2 o3 o4,rfl,rfl,?_⟩;refine⟨_,rfl,?_⟩;refine⟨[],_,_,_,_,bS mode,rfl,rfl,?_⟩;refine j7 (fun _=> ?_) (fun hh=>absurd (by unfold D9;rw[if_neg (by omega),if_neg (by omega),if_pos (by omega)]) hh);refine⟨[i64 t,i64 mode,i64 pad,bool back],rfl,rfl,?_⟩;rw[hi];refine⟨[],_,_,_,_,cS,rfl,rfl,?_⟩;refine⟨_,rfl,[],congrArg (fun z=>V.t [z,i64 0]) (congrArg (V.z m) (b8 lS)),tq⟩
theorem Mi {t key s k xs rs} (h:i6 t key s k xs rs) {mode pad:Int} {back:Bool} {m:Nat} {vk vi vm:List Value} {iv:Bs} (hvk:vk=bv key) (ok:C0 s mode pad iv) (hm:7<=mode) (hms:m<s):
  a7 C 16 [D7 t mode pad back,.z key.length vk,.z iv.length vi,.z m vm] [] (.ret (.t [g8,i64 7])) []:=by
 subst hvk;obtain⟨o1,o2,o3,o4⟩:=ok;refine ff.c ?_;refine⟨0,Unit,fun _=>⟨[],[]⟩,fun _=>False,fun _=>0,?_,fun x hx=>hx.elim⟩;refine⟨[i64 t,i64 mode,i64 pad,bool back],rfl,rfl,?_⟩;refine⟨[],_,_,_,_,dG h rfl o1 o2 o3 o4,rfl,rfl,?_⟩;refine⟨_,rfl,?_⟩;refine⟨[],_,_,_,_,bS mode,rfl,rfl,?_⟩;refine j7 (fun _=> ?_) (fun hh=>absurd (by unfold D9;rw[if_neg (by omega),if_neg (by omega),if_pos (by omega)]) hh);refine⟨[i64 t,i64 mode,i64 pad,bool back],rfl,rfl,?_⟩;refine⟨[],_,_,_,_,Mq h hms,rfl,rfl,?_⟩;exact⟨_,rfl,[],rfl,tq⟩
theorem Mf {t key s k xs rs} (h:i6 t key s k xs rs) {mode:Int} {back:Bool} {m:Nat} {vk vi vm:List Value} {iv msg:Bs} (hvk:vk=bv key) (hvi:vi=bv iv) (hvm:vm=bv msg) (hm:1<=mode/\mode<=6) (hi:iv.length=if mode=1 then 0 else s) (hmm:msg.length=m) (hmb:m<=100000) (hg:m%k7 s mode=0):
  a7 C 16 [D7 t mode 4 back,.z key.length vk,.z iv.length vi,.z m vm] [] (.ret (.t [.z m (bv (f7 (cF t key false) (cF t key true) s mode back ⟨iv,[],[]⟩ msg).1),i64 0])) []:=by
 subst hvk;subst hvi;subst hvm;have hs:=h.s_le;have K0:MK s mode ⟨iv,[],[]⟩:=MK.new hm (by
  by_cases h1:mode=1
  ·exact .inl h1
  ·rw[if_neg h1]at hi;exact .inr hi)
 have lo:(f7 (cF t key false) (cF t key true) s mode back ⟨iv,[],[]⟩ msg).1.length=m:=by rw[I3 h.ci K0.ok (by rw[hmm];exact hg),hmm]
 have T0:=iQ h (back:=back) (st:=⟨iv,[],[]⟩) (b:=msg) rfl hmm (by omega) K0 hg (.inr rfl);have hk3:D9 mode≠3:=by unfold D9;split;decide;rw[if_pos (by omega)];decide
 generalize f7 (cF t key false) (cF t key true) s mode back ⟨iv,[],[]⟩ msg=S0 at*
 obtain⟨o,⟨c1,row1,g1⟩⟩:=S0;dsimp only at T0 lo;refine ff.c ?_;refine⟨0,Unit,fun _=>⟨[(3,.z m (bv msg)),(4,.p (.k 0) 0),(12,.p (.k 1) 0),(14,i64 s)],[.mx [i64 t,i64 mode,i64 4,bool back],f6 (b9 t k xs) mode back ⟨iv,[],[]⟩ 2,.dead]⟩,fun _=>True,fun _=>0,?_,fun x hx=> ?_⟩
 ·refine⟨[i64 t,i64 mode,i64 4,bool back],rfl,rfl,?_⟩;refine⟨[],_,_,_,_,dG h rfl ⟨hm.1,by omega⟩ (by decide) (.inl rfl) hi,rfl,rfl,?_⟩;refine⟨_,rfl,?_⟩;refine⟨[],_,_,_,_,bS mode,rfl,rfl,?_⟩;refine j7 (fun hh=>absurd hh hk3) (fun _=> ?_);refine⟨_,rfl,?_⟩;refine⟨_,rfl,?_⟩;refine⟨[],_,_,_,_,dC h (mode:=mode) (back:=back) (i:=1) (iv:=iv) rfl rfl hm hi,rfl,rfl,?_⟩;refine⟨[],_,_,_,_,h.size,rfl,rfl,?_⟩;exact⟨[],(),tq,[.d 4 0,.d 49 0,.d 49 1],⟨rfl,rfl,rfl,rfl,tq⟩,⟨_,rfl,rfl⟩,⟨_,rfl,rfl⟩,⟨_,rfl,rfl⟩,tq⟩
 ·refine⟨Unit,fun _=>⟨[(3,.z m (bv msg)),(4,.p (.k 0) 0),(12,.p (.k 1) 0),(14,i64 s)],[.mx [i64 t,i64 mode,i64 4,bool back],f6 (b9 t k xs) mode back ⟨iv,[],[]⟩ 2,.dead]⟩,fun _=>True,fun _=>0,⟨[],(),tq,[.k 0,.k 1,.k 2],⟨rfl,rfl,rfl,rfl,tq⟩,⟨_,rfl,rfl⟩,⟨_,rfl,rfl⟩,⟨_,rfl,rfl⟩,tq⟩,fun _ _=> ?_⟩;refine⟨_,rfl,?_⟩;rcases row1 with _|⟨a1,r1⟩;all_goals
   refine⟨[.k 1,.k 2],_,_,_,_,T0,rfl,rfl,?_⟩;refine⟨_,rfl,?_⟩;exact⟨_,rfl,[],rfl,tq⟩
theorem i6.s_two {t key s k xs rs} (h:i6 t key s k xs rs):s=8\/s=16:=by
 have:=h.hs;rcases h.ht with e|e|e|e|e|e|e|e<;>(subst e;simp[C8]at this;omega)
theorem Md {t key s k xs rs} (h:i6 t key s k xs rs) {mode:Int} {back:Bool} {m:Nat} {vk vi vm:List Value} {iv msg:Bs} (hvk:vk=bv key) (hvi:vi=bv iv) (hvm:vm=bv msg) (hi:iv.length=if mode=1 then 0 else s) (hmm:msg.length=m) (hmb:m<=100000) (hm:1<=mode/\mode<=6) (hg:m%k7 s mode≠0):
  a7 C 16 [D7 t mode 4 back,.z key.length vk,.z iv.length vi,.z m vm] [] (.ret (.t [g8,i64 7])) []:=by
 subst hvk;subst hvi;subst hvm;have hs:=h.s_le;have K0:MK s mode ⟨iv,[],[]⟩:=MK.new (by omega) (by
  by_cases h1:mode=1
  ·exact .inl h1
  ·rw[if_neg h1]at hi;exact .inr hi)
 have T0:=tp h (back:=back) (st:=⟨iv,[],[]⟩) (m:=m) (vb:=bv msg) K0 hg;have hk3:D9 mode≠3:=by unfold D9;split;decide;rw[if_pos (by omega)];decide
 refine ff.c ?_;refine⟨0,Unit,fun _=>⟨[(3,.z m (bv msg)),(4,.p (.k 0) 0),(12,.p (.k 1) 0),(14,i64 s)],[.mx [i64 t,i64 mode,i64 4,bool back],f6 (b9 t k xs) mode back ⟨iv,[],[]⟩ 2,.dead]⟩,fun _=>True,fun _=>0,?_,fun x hx=> ?_⟩
 ·refine⟨[i64 t,i64 mode,i64 4,bool back],rfl,rfl,?_⟩;refine⟨[],_,_,_,_,dG h rfl ⟨hm.1,by omega⟩ (by decide) (.inl rfl) hi,rfl,rfl,?_⟩;refine⟨_,rfl,?_⟩;refine⟨[],_,_,_,_,bS mode,rfl,rfl,?_⟩;refine j7 (fun hh=>absurd hh hk3) (fun _=> ?_);refine⟨_,rfl,?_⟩;refine⟨_,rfl,?_⟩;refine⟨[],_,_,_,_,dC h (mode:=mode) (back:=back) (i:=1) (iv:=iv) rfl rfl hm hi,rfl,rfl,?_⟩;refine⟨[],_,_,_,_,h.size,rfl,rfl,?_⟩;exact⟨[],(),tq,[.d 4 0,.d 49 0,.d 49 1],⟨rfl,rfl,rfl,rfl,tq⟩,⟨_,rfl,rfl⟩,⟨_,rfl,rfl⟩,⟨_,rfl,rfl⟩,tq⟩
 ·refine⟨Unit,fun _=>⟨[(3,.z m (bv msg)),(4,.p (.k 0) 0),(12,.p (.k 1) 0),(14,i64 s)],[.mx [i64 t,i64 mode,i64 4,bool back],f6 (b9 t k xs) mode back ⟨iv,[],[]⟩ 2,.dead]⟩,fun _=>True,fun _=>0,⟨[],(),tq,[.k 0,.k 1,.k 2],⟨rfl,rfl,rfl,rfl,tq⟩,⟨_,rfl,rfl⟩,⟨_,rfl,rfl⟩,⟨_,rfl,rfl⟩,tq⟩,fun _ _=> ?_⟩;refine⟨_,rfl,?_⟩;refine⟨[.k 1,.k 2],_,_,_,_,T0,rfl,rfl,?_⟩;exact⟨_,rfl,[],rfl,tq⟩
theorem Mg {t key s k xs rs} (h:i6 t key s k xs rs) {mode pad:Int} {m:Nat} {vk vi vm:List Value} {iv msg:Bs} (hvk:vk=bv key) (hvi:vi=bv iv) (hvm:vm=bv msg) (hi:iv.length=if mode=1 then 0 else s) (hmm:msg.length=m) (hmb:m<=100000) (hm:1<=mode/\mode<=2) (hp:pad=1\/pad=2\/pad=3):
  a7 C 16 [D7 t mode pad false,.z key.length vk,.z iv.length vi,.z m vm] [] (.ret (.t [.z (m/s*s+s) (bv (f7 (cF t key false) (cF t key true) s mode false ⟨iv,[],[]⟩ (L9 pad s msg)).1),i64 0])) []:=by
 subst hvk;subst hvi;subst hvm;have hs:=h.s_le;have K0:MK s mode ⟨iv,[],[]⟩:=MK.new (by omega) (by
  by_cases h1:mode=1
  ·exact .inl h1
  ·rw[if_neg h1]at hi;exact .inr hi)
 have hs8:s=8\/s=16:=h.s_two;obtain⟨a,ha⟩:∃a,a=m-m%s:=⟨_,rfl⟩;have hml:=Nat.mod_lt m (show 0<s by omega);have hmle:=Nat.mod_le m s;have hdm:=Zx m s;have ham:m/s*s=a:=by rw[Nat.mul_comm]at hdm;omega
 have lT:(msg.drop a).length=m%s:=by rw[Ze];omega
 have lA:(sub msg 0 a).length=a:=by rw[j4];omega
 have hvA:sub (bv msg) 0 a=bv (sub msg 0 a):=l4 _ _ _;have hvT:sub (bv msg) a (m-a)=bv (msg.drop a):=p8 hmm (by omega);have hma:m-a=m%s:=by omega
 have hPU:L9 pad s msg=sub msg 0 a++H9 pad s (msg.drop a):=by unfold L9;rw[hmm,<-ha];rfl
 have lP:=fE (kind:=pad) (tail:=msg.drop a) (size:=s) (by omega);have lU:(L9 pad s msg).length=a+s:=by rw[hPU,Zc,lA,lP]
 have hg:(a+s)%k7 s mode=0:=by
  unfold k7;rw[if_pos (by omega),<-ham,Nat.add_mod_right,Nat.mul_mod_left]
 have cP:=yE (kind:=pad) (s:=s) (vt:=bv (msg.drop a)) hp hs8 rfl lT hml;have lo:(f7 (cF t key false) (cF t key true) s mode false ⟨iv,[],[]⟩ (L9 pad s msg)).1.length=a+s:=by rw[I3 h.ci K0.ok (by rw[lU];exact hg),lU]
 have T0:=iQ h (back:=false) (st:=⟨iv,[],[]⟩) (b:=L9 pad s msg) rfl lU (by omega) K0 hg (.inr rfl);rw[ham];generalize f7 (cF t key false) (cF t key true) s mode false ⟨iv,[],[]⟩ (L9 pad s msg)=S0 at*
 obtain⟨o,⟨c1,row1,g1⟩⟩:=S0;dsimp only at T0 lo ⊢;generalize L9 pad s msg=U at*
 generalize H9 pad s (msg.drop a)=PA at*
 have e0:((m:Int).tmod (s:Int))=((m%s:Nat):Int):=by rw[Zh (by omega)];rfl
 have e1:I6.wrap ((m:Int)-(m:Int).tmod (s:Int))=((a:Nat):Int):=by rw[e0,Zd _ (by omega)];omega
 have hk3:D9 mode≠3:=by unfold D9;rw[if_pos (by omega)];decide
 refine ff.c ?_;refine⟨0,Unit,fun _=>⟨[(3,.z m (bv msg)),(4,.p (.k 0) 0),(12,.p (.k 1) 0),(14,i64 s)],[.mx [i64 t,i64 mode,i64 pad,bool false],f6 (b9 t k xs) mode false ⟨iv,[],[]⟩ 2,.dead]⟩,fun _=>True,fun _=>0,?_,fun x hx=> ?_⟩
 ·refine⟨[i64 t,i64 mode,i64 pad,bool false],rfl,rfl,?_⟩;refine⟨[],_,_,_,_,dG h rfl ⟨hm.1,by omega⟩ (by omega) (.inr hm.2) hi,rfl,rfl,?_⟩;refine⟨_,rfl,?_⟩;refine⟨[],_,_,_,_,bS mode,rfl,rfl,?_⟩;refine j7 (fun hh=>absurd hh hk3) (fun _=> ?_);refine⟨_,rfl,?_⟩;refine⟨_,rfl,?_⟩;refine⟨[],_,_,_,_,dC h (mode:=mode) (back:=false) (i:=1) (iv:=iv) rfl rfl ⟨hm.1,by omega⟩ hi,rfl,rfl,?_⟩;refine⟨[],_,_,_,_,h.size,rfl,rfl,?_⟩;exact⟨[],(),tq,[.d 4 0,.d 49 0,.d 49 1],⟨rfl,rfl,rfl,rfl,tq⟩,⟨_,rfl,rfl⟩,⟨_,rfl,rfl⟩,⟨_,rfl,rfl⟩,tq⟩
 ·refine⟨Unit,fun _=>⟨[(3,.z m (bv msg)),(4,.p (.k 0) 0),(12,.p (.k 1) 0),(14,i64 s)],[.mx [i64 t,i64 mode,i64 pad,bool false],f6 (b9 t k xs) mode false ⟨iv,[],[]⟩ 2,.dead]⟩,fun _=>True,fun _=>0,⟨[],(),tq,[.k 0,.k 1,.k 2],⟨rfl,rfl,rfl,rfl,tq⟩,⟨_,rfl,rfl⟩,⟨_,rfl,rfl⟩,⟨_,rfl,rfl⟩,tq⟩,fun _ _=> ?_⟩;refine⟨_,rfl,?_⟩;refine o9 (fun _=> ?_) (fun h4=>absurd h4 (by omega));refine⟨_,rfl,?_⟩;refine⟨by omega,?_⟩;refine⟨_,rfl,?_⟩;refine⟨by rw[e1];omega,by rw[e1];omega,by first|omega|(rw [e1];omega),by first|omega|(rw [e1];omega),?_⟩;refine⟨[],_,_,_,_,cP,?_,rfl,?_⟩
  ·rw[e1];show[i64 pad,i64 s,V.z (m-((a:Nat):Int).toNat) (sub (bv msg) ((a:Nat):Int).toNat (m-((a:Nat):Int).toNat))]=_;rw[Zb,hvT,hma]
  refine⟨by rw[e1];omega,by rw[e1];omega,by first|omega|(rw [e1];omega),by first|omega|(rw [e1];omega),?_⟩;refine⟨[],_,_,_,_,U1 (n:=2) (ls:=[sub msg 0 a,PA]) (t:=U) (by rw[hPU];simp) ?_ rfl (by omega) (by omega),rfl,rfl,?_⟩
  ·rw[e1];show[V.z (((a:Nat):Int).toNat) (sub (bv msg) 0 (((a:Nat):Int).toNat)),V.z s (sub (bv PA) 0 s)]=[V.z _ _,V.z _ _];rw[Zb,hvA,lA,lP,b8 lP]
  rcases row1 with _|⟨a1,r1⟩;all_goals
   refine⟨[.k 1,.k 2],_,_,_,_,T0,?_,rfl,?_⟩
   ·show[V.p (.k 0) 0,V.z U.length (sub (bv U) 0 U.length)]=_;rw[lU,b8 lU]
   refine⟨_,rfl,?_⟩;refine j7 (fun h4=>absurd h4 (by omega)) (fun _=> ?_);refine⟨_,rfl,?_⟩;exact⟨_,rfl,[],rfl,tq⟩
theorem Ma {t key s k xs rs} (h:i6 t key s k xs rs) {mode pad:Int} {m:Nat} {vk vi vm:List Value} {iv msg:Bs} (hvk:vk=bv key) (hvi:vi=bv iv) (hvm:vm=bv msg) (hi:iv.length=if mode=1 then 0 else s) (hmm:msg.length=m) (hmb:m<=100000) (hm:1<=mode/\mode<=2) (hp:pad=1\/pad=2\/pad=3) (h0:m=0):
  a7 C 16 [D7 t mode pad true,.z key.length vk,.z iv.length vi,.z m vm] [] (.ret (.t [g8,i64 7])) []:=by
 subst hvk;subst hvi;subst hvm;have hs:=h.s_le;have hk3:D9 mode≠3:=by unfold D9;rw[if_pos (by omega)];decide
 refine ff.c ?_;refine⟨0,Unit,fun _=>⟨[(3,.z m (bv msg)),(4,.p (.k 0) 0),(12,.p (.k 1) 0),(14,i64 s)],[.mx [i64 t,i64 mode,i64 pad,bool true],f6 (b9 t k xs) mode true ⟨iv,[],[]⟩ 2,.dead]⟩,fun _=>True,fun _=>0,?_,fun x hx=> ?_⟩
 ·refine⟨[i64 t,i64 mode,i64 pad,bool true],rfl,rfl,?_⟩;refine⟨[],_,_,_,_,dG h rfl ⟨hm.1,by omega⟩ (by omega) (.inr hm.2) hi,rfl,rfl,?_⟩;refine⟨_,rfl,?_⟩;refine⟨[],_,_,_,_,bS mode,rfl,rfl,?_⟩;refine j7 (fun hh=>absurd hh hk3) (fun _=> ?_);refine⟨_,rfl,?_⟩;refine⟨_,rfl,?_⟩;refine⟨[],_,_,_,_,dC h (mode:=mode) (back:=true) (i:=1) (iv:=iv) rfl rfl ⟨hm.1,by omega⟩ hi,rfl,rfl,?_⟩;refine⟨[],_,_,_,_,h.size,rfl,rfl,?_⟩;exact⟨[],(),tq,[.d 4 0,.d 49 0,.d 49 1],⟨rfl,rfl,rfl,rfl,tq⟩,⟨_,rfl,rfl⟩,⟨_,rfl,rfl⟩,⟨_,rfl,rfl⟩,tq⟩
 ·refine⟨Unit,fun _=>⟨[(3,.z m (bv msg)),(4,.p (.k 0) 0),(12,.p (.k 1) 0),(14,i64 s)],[.mx [i64 t,i64 mode,i64 pad,bool true],f6 (b9 t k xs) mode true ⟨iv,[],[]⟩ 2,.dead]⟩,fun _=>True,fun _=>0,⟨[],(),tq,[.k 0,.k 1,.k 2],⟨rfl,rfl,rfl,rfl,tq⟩,⟨_,rfl,rfl⟩,⟨_,rfl,rfl⟩,⟨_,rfl,rfl⟩,tq⟩,fun _ _=> ?_⟩;refine⟨_,rfl,?_⟩;refine o9 (fun _=> ?_) (fun h4=>absurd h4 (by omega));refine⟨_,rfl,?_⟩;refine j7 (fun _=> ?_) (fun h4=>absurd (by omega) h4);exact⟨_,rfl,[],rfl,tq⟩
theorem Mb {t key s k xs rs} (h:i6 t key s k xs rs) {mode pad:Int} {m:Nat} {vk vi vm:List Value} {iv msg:Bs} (hvk:vk=bv key) (hvi:vi=bv iv) (hvm:vm=bv msg) (hi:iv.length=if mode=1 then 0 else s) (hmm:msg.length=m) (hmb:m<=100000) (hm:1<=mode/\mode<=2) (hp:pad=1\/pad=2\/pad=3) (h0:m%s≠0):
  a7 C 16 [D7 t mode pad true,.z key.length vk,.z iv.length vi,.z m vm] [] (.ret (.t [g8,i64 7])) []:=by
 subst hvk;subst hvi;subst hvm;have hs:=h.s_le;have K0:MK s mode ⟨iv,[],[]⟩:=MK.new (by omega) (by
  by_cases h1:mode=1
  ·exact .inl h1
  ·rw[if_neg h1]at hi;exact .inr hi)
 have T0:=tp h (back:=true) (st:=⟨iv,[],[]⟩) (m:=m) (vb:=bv msg) K0 (by unfold k7;rw[if_pos (by omega)];exact h0);have hk3:D9 mode≠3:=by unfold D9;rw[if_pos (by omega)];decide
 refine ff.c ?_;refine⟨0,Unit,fun _=>⟨[(3,.z m (bv msg)),(4,.p (.k 0) 0),(12,.p (.k 1) 0),(14,i64 s)],[.mx [i64 t,i64 mode,i64 pad,bool true],f6 (b9 t k xs) mode true ⟨iv,[],[]⟩ 2,.dead]⟩,fun _=>True,fun _=>0,?_,fun x hx=> ?_⟩
 ·refine⟨[i64 t,i64 mode,i64 pad,bool true],rfl,rfl,?_⟩;refine⟨[],_,_,_,_,dG h rfl ⟨hm.1,by omega⟩ (by omega) (.inr hm.2) hi,rfl,rfl,?_⟩;refine⟨_,rfl,?_⟩;refine⟨[],_,_,_,_,bS mode,rfl,rfl,?_⟩;refine j7 (fun hh=>absurd hh hk3) (fun _=> ?_);refine⟨_,rfl,?_⟩;refine⟨_,rfl,?_⟩;refine⟨[],_,_,_,_,dC h (mode:=mode) (back:=true) (i:=1) (iv:=iv) rfl rfl ⟨hm.1,by omega⟩ hi,rfl,rfl,?_⟩;refine⟨[],_,_,_,_,h.size,rfl,rfl,?_⟩;exact⟨[],(),tq,[.d 4 0,.d 49 0,.d 49 1],⟨rfl,rfl,rfl,rfl,tq⟩,⟨_,rfl,rfl⟩,⟨_,rfl,rfl⟩,⟨_,rfl,rfl⟩,tq⟩
 ·refine⟨Unit,fun _=>⟨[(3,.z m (bv msg)),(4,.p (.k 0) 0),(12,.p (.k 1) 0),(14,i64 s)],[.mx [i64 t,i64 mode,i64 pad,bool true],f6 (b9 t k xs) mode true ⟨iv,[],[]⟩ 2,.dead]⟩,fun _=>True,fun _=>0,⟨[],(),tq,[.k 0,.k 1,.k 2],⟨rfl,rfl,rfl,rfl,tq⟩,⟨_,rfl,rfl⟩,⟨_,rfl,rfl⟩,⟨_,rfl,rfl⟩,tq⟩,fun _ _=> ?_⟩;refine⟨_,rfl,?_⟩;refine o9 (fun _=> ?_) (fun h4=>absurd h4 (by omega));refine⟨_,rfl,?_⟩;refine j7 (fun h4=> ?_) (fun _=> ?_)
  ·exact⟨_,rfl,[],rfl,tq⟩
  refine⟨[.k 1,.k 2],_,_,_,_,T0,rfl,rfl,?_⟩;exact⟨_,rfl,[],rfl,tq⟩
theorem JQ:a7 C 120 [.s (.slice none 0 0),i64 0] [] (.ret g8) []:=by
 refine Bd.c ?_;exact⟨_,rfl,[],rfl,tq⟩
theorem sW:a7 C 65 [.zz 1 2 [.z 0 [],.z 0 []]] [] (.ret (.z 0 [])) []:=by
 have get:∀i:Nat,i<2->([V.z 0 [],V.z 0 []]:List V)[((i:Nat):Int).toNat*1]? =some (.z 0 []):=fun i hi=>by
  rw[Zb,Zn];rcases i with _|_|i
  ·rfl
  ·rfl
  ·omega
 refine Bc.c ?_;refine j9 (fun i=>⟨[(0,.zz 1 2 [.z 0 [],.z 0 []]),(3,i64 0),(9,.zz 1 2 [.z 0 [],.z 0 []]),(10,i64 2),(11,i64 i)],[]⟩) 2 ⟨[],⟨rfl,rfl,rfl,rfl,rfl,tq⟩,tq⟩ fun i hi=> ?_;refine c9 (fun a9=> ?_) (fun hge=> ?_)
 ·refine⟨by omega,by omega,?_⟩;refine⟨_,get i (by omega),?_⟩;exact⟨i+1,by omega,by omega,[],⟨rfl,rfl,rfl,rfl,d7 (by simp(disch:=omega)only[Zd];omega),tq⟩,tq⟩
 ·refine⟨[],_,_,_,_,JQ,rfl,rfl,?_⟩;refine B1 (fun i=>⟨[(6,.o 1 (.k 0) 0 0),(25,.zz 1 2 [.z 0 [],.z 0 []]),(26,i64 2),(27,i64 i)],[.sc []]⟩) 2 [(6,1,.sc [])] ⟨[.d 900000 0],⟨rfl,rfl,rfl,rfl,tq⟩,⟨_,rfl,rfl⟩,tq⟩ fun i hi=> ?_;refine c9 (fun a9=> ?_) (fun hge=> ?_)
  ·refine⟨by omega,by omega,?_⟩;refine⟨_,get i (by omega),?_⟩;refine⟨rfl,by omega,Zj _,?_⟩;exact⟨i+1,by omega,by omega,[.d 33 0],⟨rfl,rfl,rfl,d7 (by simp(disch:=omega)only[Zd];omega),tq⟩,⟨_,rfl,rfl⟩,tq⟩
  ·exact⟨_,rfl,[],rfl,tq⟩
theorem Mc {t key s k xs rs} (h:i6 t key s k xs rs) {mode pad:Int} {m:Nat} {vk vi vm:List Value} {iv msg:Bs} (hvk:vk=bv key) (hvi:vi=bv iv) (hvm:vm=bv msg) (hi:iv.length=if mode=1 then 0 else s) (hmm:msg.length=m) (hmb:m<=100000) (hm:1<=mode/\mode<=2) (hp:pad=1\/pad=2\/pad=3) (h0:0<m) (hz:m%s=0) (hL:E7 pad ((f7 (cF t key false) (cF t key true) s mode true ⟨iv,[],[]⟩ msg).1.drop (m-s))=0):
  a7 C 16 [D7 t mode pad true,.z key.length vk,.z iv.length vi,.z m vm] [] (.ret (.t [g8,i64 8])) []:=by
 subst hvk;subst hvi;subst hvm;have hs:=h.s_le;have K0:MK s mode ⟨iv,[],[]⟩:=MK.new (by omega) (by
  by_cases h1:mode=1
  ·exact .inl h1
  ·rw[if_neg h1]at hi;exact .inr hi)
 have hs8:s=8\/s=16:=h.s_two;have hsm:s<=m:=Jd (by omega) (Zo hz);have hg:m%k7 s mode=0:=by unfold k7;rw[if_pos (by omega)];exact hz
 have lo:(f7 (cF t key false) (cF t key true) s mode true ⟨iv,[],[]⟩ msg).1.length=m:=by rw[I3 h.ci K0.ok (by rw[hmm];exact hg),hmm]
 have T0:=iQ h (back:=true) (st:=⟨iv,[],[]⟩) (b:=msg) rfl hmm (by omega) K0 hg (.inr rfl);generalize f7 (cF t key false) (cF t key true) s mode true ⟨iv,[],[]⟩ msg=S0 at*
 obtain⟨o,⟨c1,row1,g1⟩⟩:=S0;dsimp only at T0 lo hL ⊢;have lD:(o.drop (m-s)).length=s:=by rw[Ze,lo];omega
 have e1:I6.wrap ((m:Int)-(s:Int))=((m-s:Nat):Int):=by rw[Zd _ (by omega)];omega
 have hvD:sub (bv o) (m-s) (m-(m-s))=bv (o.drop (m-s)):=p8 lo (by omega);have cS:=zF (vb:=bv (o.drop (m-s))) rfl hp hs8 lD hL;have hk3:D9 mode≠3:=by unfold D9;rw[if_pos (by omega)];decide
 refine ff.c ?_;refine⟨0,Unit,fun _=>⟨[(3,.z m (bv msg)),(4,.p (.k 0) 0),(12,.p (.k 1) 0),(14,i64 s)],[.mx [i64 t,i64 mode,i64 pad,bool true],f6 (b9 t k xs) mode true ⟨iv,[],[]⟩ 2,.dead]⟩,fun _=>True,fun _=>0,?_,fun x hx=> ?_⟩
 ·refine⟨[i64 t,i64 mode,i64 pad,bool true],rfl,rfl,?_⟩;refine⟨[],_,_,_,_,dG h rfl ⟨hm.1,by omega⟩ (by omega) (.inr hm.2) hi,rfl,rfl,?_⟩;refine⟨_,rfl,?_⟩;refine⟨[],_,_,_,_,bS mode,rfl,rfl,?_⟩;refine j7 (fun hh=>absurd hh hk3) (fun _=> ?_);refine⟨_,rfl,?_⟩;refine⟨_,rfl,?_⟩;refine⟨[],_,_,_,_,dC h (mode:=mode) (back:=true) (i:=1) (iv:=iv) rfl rfl ⟨hm.1,by omega⟩ hi,rfl,rfl,?_⟩;refine⟨[],_,_,_,_,h.size,rfl,rfl,?_⟩;exact⟨[],(),tq,[.d 4 0,.d 49 0,.d 49 1],⟨rfl,rfl,rfl,rfl,tq⟩,⟨_,rfl,rfl⟩,⟨_,rfl,rfl⟩,⟨_,rfl,rfl⟩,tq⟩
 ·refine⟨Unit,fun _=>⟨[(3,.z m (bv msg)),(4,.p (.k 0) 0),(12,.p (.k 1) 0),(14,i64 s)],[.mx [i64 t,i64 mode,i64 pad,bool true],f6 (b9 t k xs) mode true ⟨iv,[],[]⟩ 2,.dead]⟩,fun _=>True,fun _=>0,⟨[],(),tq,[.k 0,.k 1,.k 2],⟨rfl,rfl,rfl,rfl,tq⟩,⟨_,rfl,rfl⟩,⟨_,rfl,rfl⟩,⟨_,rfl,rfl⟩,tq⟩,fun _ _=> ?_⟩;refine⟨_,rfl,?_⟩;refine o9 (fun _=> ?_) (fun h4=>absurd h4 (by omega));refine⟨_,rfl,?_⟩;refine j7 (fun h4=>absurd h4 (by omega)) (fun _=> ?_);rcases row1 with _|⟨a1,r1⟩;all_goals
   refine⟨[.k 1,.k 2],_,_,_,_,T0,rfl,rfl,?_⟩;refine⟨_,rfl,?_⟩;refine j7 (fun h4=>absurd h4 (by omega)) (fun _=> ?_);refine⟨_,rfl,?_⟩;refine⟨_,rfl,?_⟩;refine⟨by rw[e1];omega,by rw[e1];omega,by first|omega|(rw [e1];omega),by first|omega|(rw [e1];omega),?_⟩;refine⟨[],_,_,_,_,cS,?_,rfl,?_⟩
   ·rw[e1];show[i64 pad,i64 s,V.z (m-((m-s:Nat):Int).toNat) (sub (bv o) ((m-s:Nat):Int).toNat (m-((m-s:Nat):Int).toNat))]=_;rw[Zb,hvD,show m-(m-s)=s by omega]
   exact⟨_,rfl,[],rfl,tq⟩
theorem Me {t key s k xs rs} (h:i6 t key s k xs rs) {mode pad:Int} {m:Nat} {vk vi vm:List Value} {iv msg:Bs} (hvk:vk=bv key) (hvi:vi=bv iv) (hvm:vm=bv msg) (hi:iv.length=if mode=1 then 0 else s) (hmm:msg.length=m) (hmb:m<=100000) (hm:1<=mode/\mode<=2) (hp:pad=1\/pad=2\/pad=3) (h0:0<m) (hz:m%s=0) (hL:E7 pad ((f7 (cF t key false) (cF t key true) s mode true ⟨iv,[],[]⟩ msg).1.drop (m-s))≠0):
  a7 C 16 [D7 t mode pad true,.z key.length vk,.z iv.length vi,.z m vm] [] (.ret (.t [.z (m-E7 pad ((f7 (cF t key false) (cF t key true) s mode true ⟨iv,[],[]⟩ msg).1.drop (m-s))) (bv ((f7 (cF t key false) (cF t key true) s mode true ⟨iv,[],[]⟩ msg).1.take (m-s)++U7 pad ((f7 (cF t key false) (cF t key true) s mode true ⟨iv,[],[]⟩ msg).1.drop (m-s)))),i64 0])) []:=by
 subst hvk;subst hvi;subst hvm;have hs:=h.s_le;have K0:MK s mode ⟨iv,[],[]⟩:=MK.new (by omega) (by
  by_cases h1:mode=1
  ·exact .inl h1
  ·rw[if_neg h1]at hi;exact .inr hi)
 have hs8:s=8\/s=16:=h.s_two;have hsm:s<=m:=Jd (by omega) (Zo hz);have hg:m%k7 s mode=0:=by unfold k7;rw[if_pos (by omega)];exact hz
 have lo:(f7 (cF t key false) (cF t key true) s mode true ⟨iv,[],[]⟩ msg).1.length=m:=by rw[I3 h.ci K0.ok (by rw[hmm];exact hg),hmm]
 have T0:=iQ h (back:=true) (st:=⟨iv,[],[]⟩) (b:=msg) rfl hmm (by omega) K0 hg (.inr rfl);generalize f7 (cF t key false) (cF t key true) s mode true ⟨iv,[],[]⟩ msg=S0 at*
 obtain⟨o,⟨c1,row1,g1⟩⟩:=S0;dsimp only at T0 lo hL ⊢;have lD:(o.drop (m-s)).length=s:=by rw[Ze,lo];omega
 have e1:I6.wrap ((m:Int)-(s:Int))=((m-s:Nat):Int):=by rw[Zd _ (by omega)];omega
 have hvD:sub (bv o) (m-s) (m-(m-s))=bv (o.drop (m-s)):=p8 lo (by omega);have cS:=zE (vb:=bv (o.drop (m-s))) rfl hp hs8 lD hL;have hle:=vo pad (o.drop (m-s));rw[lD]at hle;have lSt:(U7 pad (o.drop (m-s))).length=s-E7 pad (o.drop (m-s)):=by unfold U7;rw[Zg,lD];omega
 have lTk:(o.take (m-s)).length=m-s:=by rw[Zg,lo];omega
 have hvT:sub (bv o) 0 (m-s)=bv (o.take (m-s)):=l4 _ _ _;generalize U7 pad (o.drop (m-s))=ST at*
 generalize E7 pad (o.drop (m-s))=c at*
 generalize o.take (m-s)=TK at*
 have hk3:D9 mode≠3:=by unfold D9;rw[if_pos (by omega)];decide
 refine ff.c ?_;refine⟨0,Unit,fun _=>⟨[(3,.z m (bv msg)),(4,.p (.k 0) 0),(12,.p (.k 1) 0),(14,i64 s)],[.mx [i64 t,i64 mode,i64 pad,bool true],f6 (b9 t k xs) mode true ⟨iv,[],[]⟩ 2,.dead]⟩,fun _=>True,fun _=>0,?_,fun x hx=> ?_⟩
 ·refine⟨[i64 t,i64 mode,i64 pad,bool true],rfl,rfl,?_⟩;refine⟨[],_,_,_,_,dG h rfl ⟨hm.1,by omega⟩ (by omega) (.inr hm.2) hi,rfl,rfl,?_⟩;refine⟨_,rfl,?_⟩;refine⟨[],_,_,_,_,bS mode,rfl,rfl,?_⟩;refine j7 (fun hh=>absurd hh hk3) (fun _=> ?_);refine⟨_,rfl,?_⟩;refine⟨_,rfl,?_⟩;refine⟨[],_,_,_,_,dC h (mode:=mode) (back:=true) (i:=1) (iv:=iv) rfl rfl ⟨hm.1,by omega⟩ hi,rfl,rfl,?_⟩;refine⟨[],_,_,_,_,h.size,rfl,rfl,?_⟩;exact⟨[],(),tq,[.d 4 0,.d 49 0,.d 49 1],⟨rfl,rfl,rfl,rfl,tq⟩,⟨_,rfl,rfl⟩,⟨_,rfl,rfl⟩,⟨_,rfl,rfl⟩,tq⟩
 ·refine⟨Unit,fun _=>⟨[(3,.z m (bv msg)),(4,.p (.k 0) 0),(12,.p (.k 1) 0),(14,i64 s)],[.mx [i64 t,i64 mode,i64 pad,bool true],f6 (b9 t k xs) mode true ⟨iv,[],[]⟩ 2,.dead]⟩,fun _=>True,fun _=>0,⟨[],(),tq,[.k 0,.k 1,.k 2],⟨rfl,rfl,rfl,rfl,tq⟩,⟨_,rfl,rfl⟩,⟨_,rfl,rfl⟩,⟨_,rfl,rfl⟩,tq⟩,fun _ _=> ?_⟩;refine⟨_,rfl,?_⟩;refine o9 (fun _=> ?_) (fun h4=>absurd h4 (by omega));refine⟨_,rfl,?_⟩;refine j7 (fun h4=>absurd h4 (by omega)) (fun _=> ?_);rcases row1 with _|⟨a1,r1⟩;all_goals
   refine⟨[.k 1,.k 2],_,_,_,_,T0,rfl,rfl,?_⟩;refine⟨_,rfl,?_⟩;refine j7 (fun h4=>absurd h4 (by omega)) (fun _=> ?_);refine⟨_,rfl,?_⟩;refine⟨_,rfl,?_⟩;refine⟨by rw[e1];omega,by rw[e1];omega,by first|omega|(rw [e1];omega),by first|omega|(rw [e1];omega),?_⟩;refine⟨[],_,_,_,_,cS,?_,rfl,?_⟩
   ·rw[e1];show[i64 pad,i64 s,V.z (m-((m-s:Nat):Int).toNat) (sub (bv o) ((m-s:Nat):Int).toNat (m-((m-s:Nat):Int).toNat))]=_;rw[Zb,hvD,show m-(m-s)=s by omega]
   refine⟨by rw[e1];omega,by rw[e1];omega,by first|omega|(rw [e1];omega),by first|omega|(rw [e1];omega),?_⟩;by_cases hne:m-c=0
   ·obtain rfl:TK=[]:=Zf (by omega);obtain rfl:ST=[]:=Zf (by omega);refine⟨[],_,_,_,_,sW,?_,rfl,?_⟩
    ·rw[e1];show[V.zz 1 2 [V.z (((m-s:Nat):Int).toNat) (sub (bv o) 0 (((m-s:Nat):Int).toNat)),V.z (s-c) (bv [])]]=_;rw[Zb,show m-s=0 by omega,show s-c=0 by omega];rfl
    refine⟨_,rfl,[],?_,tq⟩;rw[hne];rfl
   ·refine⟨[],_,_,_,_,U1 (n:=2) (ls:=[TK,ST]) (t:=TK++ST) (by simp) ?_ rfl (by rw[Zc];omega) (by rw[Zc];omega),rfl,rfl,?_⟩
    ·rw[e1];show[V.z (((m-s:Nat):Int).toNat) (sub (bv o) 0 (((m-s:Nat):Int).toNat)),V.z (s-c) (bv ST)]=[V.z _ _,V.z _ _];rw[Zb,hvT,lTk,lSt]
    have lc:(TK++ST).length=m-c:=by rw[Zc];omega
    rw[lc];exact⟨_,rfl,[],congrArg (fun z=>V.t [z,i64 0]) (congrArg (V.z (m-c)) (b8 lc)),tq⟩
theorem a7.out {f:FuncId} {args:List V} {r r':V} (hc:a7 C f args [] (.ret r) []) (h:Wk r r'):a7 C f args [] (.ret r') []:=
 ⟨hc.1,fun w F ι vs a b c d=>(hc.2 w F ι vs a b c d).mono fun e w' ⟨F',ι',h1,h2,h3,h4,h5,hoc⟩=>⟨F',ι',h1,h2,h3,h4,h5,aY.oc (.ret h) hoc⟩⟩
abbrev cf (r:Bs×Int):V:= .t [.z r.1.length (bv r.1),i64 r.2]
theorem qO {f args} {r:Bs×Int} {l:Nat} {o:Bs} (e:r=(o,0)) (hl:o.length=l) (P:a7 C f args [] (.ret (.t [.z l (bv o),i64 0])) []):a7 C f args [] (.ret (cf r)) []:=by
 subst e;subst hl;exact P
theorem nI {f args} {r:Bs×Int} {e:Int} (h:r=([],e)) (P:a7 C f args [] (.ret (.t [g8,i64 e])) []):a7 C f args [] (.ret (cf r)) []:=by
 subst h;exact P.out (.t (.cons .nl (.cons (.refl _) .nil)))
theorem DT (t:Int) {key:Bs} {lk:Nat} (hk:key.length=lk) (hlk:lk<=1000) (mode pad:Int) (back:Bool) {iv:Bs} {li:Nat} (hi:iv.length=li):
  (R4 t mode pad (C8 t).toNat lk li=0/\∃s k xs rs,i6 t key s k xs rs/\C0 s mode pad iv)\/
  (R4 t mode pad (C8 t).toNat lk li≠0/\a7 C 59 [D7 t mode pad back,.z lk (bv key),.z li (bv iv)] [] (.ret (.t [i7,i64 (R4 t mode pad (C8 t).toNat lk li)])) []/\
   a7 C 99 [D7 t mode pad back,.z lk (bv key),.z li (bv iv)] [] (.ret (i64 (R4 t mode pad (C8 t).toNat lk li))) []):=by
 subst hk;subst hi;by_cases ht:m8 t
 ·by_cases hv:(key.length:Int)∈m6 t
  ·obtain⟨s,k,xs,rs,h⟩:=Ab (key:=key) ht hv;have hs:(C8 t).toNat=s:=by rw[h.hs,Zb]
   rw[hs];by_cases hmp:(1<=mode/\mode<=9)/\(1<=pad/\pad<=4)/\(pad=4\/mode<=2)
   ·by_cases hli:iv.length=if mode=1 then 0 else s
    ·left;refine⟨?_,s,k,xs,rs,h,hmp.1,hmp.2.1,hmp.2.2,hli⟩;unfold R4;rw[if_neg (by exact fun x=>x ht),if_neg (by exact fun x=>x hv),if_neg (by exact fun x=>x hmp),if_neg (by exact fun x=>x hli)]
    ·right;have e:R4 t mode pad s key.length iv.length=5:=by
      unfold R4;rw[if_neg (by exact fun x=>x ht),if_neg (by exact fun x=>x hv),if_neg (by exact fun x=>x hmp),if_pos hli]
     rw[e];exact⟨by decide,Lf h rfl hmp.1 hmp.2.1 hmp.2.2 hli,LT h rfl hmp.1 hmp.2.1 hmp.2.2 hli⟩
   ·right;have e:R4 t mode pad s key.length iv.length=3:=by
     unfold R4;rw[if_neg (by exact fun x=>x ht),if_neg (by exact fun x=>x hv),if_pos hmp]
    rw[e];exact⟨by decide,Lg h rfl hmp,LU h rfl hmp⟩
  ·right;have e:R4 t mode pad (C8 t).toNat key.length iv.length=4:=by
    unfold R4;rw[if_neg (by exact fun x=>x ht),if_pos hv]
   rw[e];exact⟨by decide,yD (KZ ht (by omega) hv) (by decide),zr (Lq ht hv) (by decide)⟩
 ·right;have e:R4 t mode pad (C8 t).toNat key.length iv.length=2:=by
   unfold R4;rw[if_pos ht]
  rw[e];exact⟨by decide,yD (La ht) (by decide),zr (Lr ht) (by decide)⟩
theorem tA {a n:Int} (hn:0<n) (hn2:n<=4611686018427387904) (ha: -9223372036854775808<=a/\a<=9223372036854775807):a7 C 51 [i64 a,i64 n] [] (.ret (i64 (a%n))) []:=by
 refine PL.c ?_;have h1: -n<a.tmod n:=Int.lt_tmod_of_pos a hn;have h2:a.tmod n<n:=Int.tmod_lt_of_pos a hn;refine⟨by omega,?_⟩;refine c9 (fun h=> ?_) (fun h=> ?_)
 ·refine⟨_,rfl,[],d7 ?_,tq⟩;rw[Zd _ (by omega)];rw[<-ii a n hn,Zh (a:=a.tmod n+n) (by omega),Z7 (by omega) (by omega)]
 ·refine⟨_,rfl,[],d7 ?_,tq⟩;rw[<-ii a n hn,Zh (a:=a.tmod n+n) (by omega),Int.add_emod_right,Z7 (by omega) (by omega)]
abbrev my (tag n mode pad:Int) (back:Bool) (lk:Nat) (k:Bs) (li:Nat) (iv:Bs):V:= .a [i64 tag,i64 n,i64 mode,i64 pad,bool back,.z lk (bv k),.z li (bv iv)]
abbrev dt (a:Int):Prop:= -9223372036854775808<=a/\a<=9223372036854775807
theorem JN {tag n mode pad:Int} {back:Bool} {lk li:Nat} {k iv:Bs} (h:lk<=100/\li<=100):a7 C 11 [my tag n mode pad back lk k li iv] [] (.ret (bool true)) []:=by
 refine AR.c ?_;refine⟨_,rfl,?_⟩;refine c9 (fun _=> ?_) (fun hh=>absurd hh (by omega));refine⟨_,rfl,?_⟩;exact⟨_,rfl,[],congrArg bool (decide_eq_true (by omega)),tq⟩
theorem JM {tag n mode pad:Int} {back:Bool} {lk li:Nat} {k iv:Bs} (h:¬(lk<=100/\li<=100)):a7 C 11 [my tag n mode pad back lk k li iv] [] (.ret (bool false)) []:=by
 refine AR.c ?_;refine⟨_,rfl,?_⟩;refine c9 (fun _=> ?_) (fun hh=> ?_)
 ·refine⟨_,rfl,?_⟩;exact⟨_,rfl,[],congrArg bool (decide_eq_false (by omega)),tq⟩
 ·exact⟨_,rfl,[],rfl,tq⟩
def C7 (mode:Int):Int:=1+mode%9
def U0 (mode pad:Int):Int:=if C7 mode<=2 then 1+pad%4 else 4
theorem GQ (mode:Int):1<=C7 mode/\C7 mode<=9:=by unfold C7;omega
theorem xd (mode pad:Int):(1<=U0 mode pad/\U0 mode pad<=4)/\(U0 mode pad=4\/C7 mode<=2):=by
 unfold U0;split
 ·omega
 ·exact⟨by decide,.inl rfl⟩
theorem GT (mode pad:Int) (s:Nat) (iv:Bs):C0 s (C7 mode) (U0 mode pad) (aD (C7 mode) s iv):=
 ⟨GQ _,(xd mode pad).1,(xd mode pad).2,BL _ _ _⟩
theorem Ib {tag n mode pad:Int} {back:Bool} {lk li s:Nat} {k iv:Bs} (h0:dt tag) (h1:dt n) (h2:dt mode) (h3:dt pad) (hk:k.length=lk) (hi:iv.length=li) (hs:C8 (m7 tag)=s) (hs2:s<=16):
  a7 C 13 [my tag n mode pad back lk k li iv] [] (.ret (.t [D7 (m7 tag) (C7 mode) (U0 mode pad) back,.z (Y6 (m7 tag) n) (bv (S7 (m7 tag) n k)),.z (fp (C7 mode) s) (bv (aD (C7 mode) s iv))])) []:=by
 have e1:I6.wrap (1+mode%9)=C7 mode:=by rw[Zd _ (by omega)];rfl
 have e2:I6.wrap (1+pad%4)=1+pad%4:=by rw[Zd _ (by omega)]
 have hR:a7 C 23 [i64 (m7 tag)] [] (.ret (i64 s)) []:=by rw[<-hs];exact oU (iw _)
 refine PJ.c ?_;refine⟨_,rfl,?_⟩;refine⟨[],_,_,_,_,zH h0,rfl,rfl,?_⟩;refine⟨_,rfl,?_⟩;refine⟨[],_,_,_,_,tA (a:=mode) (n:=9) (by omega) (by omega) h2,rfl,rfl,?_⟩;refine⟨_,rfl,?_⟩;refine⟨Za rfl,?_⟩;refine⟨_,rfl,?_⟩;have hL:∀{vk:List Value},vk=bv k->a7 C 21 [i64 (m7 tag),i64 n,.z lk vk] [] (.ret (.z (Y6 (m7 tag) n) (bv (S7 (m7 tag) n k)))) []:=fun e=>JZ (iw _) h1 e hk;have hI:=JY (mode:=C7 mode) (s:=s) (vb:=bv iv) rfl hi (by omega);refine c9 (fun hm=> ?_) (fun hm=> ?_)
 ·rw[e1]at hm;refine⟨_,rfl,?_⟩;refine⟨[],_,_,_,_,tA (a:=pad) (n:=4) (by omega) (by omega) h3,rfl,rfl,?_⟩;refine⟨Za rfl,?_⟩;rw[e1,e2];have hp:U0 mode pad=1+pad%4:=if_pos hm;rw[hp];refine⟨[i64 (m7 tag),i64 (C7 mode),i64 (1+pad%4),bool back],rfl,rfl,?_⟩;refine⟨_,rfl,?_⟩;refine⟨_,rfl,?_⟩;refine⟨[],_,_,_,_,hL rfl,rfl,rfl,?_⟩;refine⟨_,rfl,?_⟩;refine⟨[],_,_,_,_,hR,rfl,rfl,?_⟩;refine⟨_,rfl,?_⟩;refine⟨[],_,_,_,_,hI,rfl,rfl,?_⟩;refine⟨Za rfl,?_⟩;refine⟨[i64 (m7 tag),i64 (C7 mode),i64 (1+pad%4),bool back],rfl,rfl,?_⟩;exact⟨_,rfl,[],rfl,tq⟩
 ·rw[e1]at hm;rw[e1];have hp:U0 mode pad=4:=if_neg hm;rw[hp];refine⟨[i64 (m7 tag),i64 (C7 mode),i64 4,bool back],rfl,rfl,?_⟩;refine⟨_,rfl,?_⟩;refine⟨_,rfl,?_⟩;refine⟨[],_,_,_,_,hL rfl,rfl,rfl,?_⟩;refine⟨_,rfl,?_⟩;refine⟨[],_,_,_,_,hR,rfl,rfl,?_⟩;refine⟨_,rfl,?_⟩;refine⟨[],_,_,_,_,hI,rfl,rfl,?_⟩;refine⟨Za rfl,?_⟩;refine⟨[i64 (m7 tag),i64 (C7 mode),i64 4,bool back],rfl,rfl,?_⟩;exact⟨_,rfl,[],rfl,tq⟩
def dx (n:Int) (s l:Nat):Nat:=if 0<(n.tdiv 3)%3 then l/s*s else l
theorem xc (n:Int) (s l:Nat):dx n s l<=l:=by
 unfold dx;split
 ·exact Z9 _ _
 ·exact Zj _
abbrev P8 (n:Int) (s:Nat) (m:Bs):Bs:=m.take (dx n s m.length)
theorem GR (n:Int) (s:Nat) (m:Bs):(P8 n s m).length=dx n s m.length:=by
 rw[Zg];have:=xc n s m.length;omega
theorem Oi {l s:Nat} (hs:0<s) (hl:l<=1000):I6.wrap (I6.wrap ((l:Int).tdiv s)*s)=((l/s*s:Nat):Int):=by
 have h1:=Nat.div_le_self l s;have h2:=Z9 l s;have e:(l:Int).tdiv s=((l/s:Nat):Int):=by rw[Int.tdiv_eq_ediv_of_nonneg (by omega)];rfl
 rw[e];clear e;generalize l/s=q at h1 h2 ⊢;rw[Zd (q:Int) (by omega),<-Int.natCast_mul,Zd _ (by omega)]
theorem Mk {tag n mode pad:Int} {back:Bool} {lk li s l:Nat} {k iv b:Bs} (h0:dt tag) (h1:dt n) (hs:C8 (m7 tag)=s) (hs2:0<s/\s<=16) (hb:b.length=l) (hl:l<=1000):
  a7 C 28 [my tag n mode pad back lk k li iv,.z l (bv b)] [] (.ret (.z (dx n s l) (bv (P8 n s b)))) []:=by
 have hR:a7 C 23 [i64 (m7 tag)] [] (.ret (i64 s)) []:=by rw[<-hs];exact oU (iw _)
 have h3: -9223372036854775808<=n.tdiv 3/\n.tdiv 3<=9223372036854775807:=by
  have e:Int.sign 3=1:=rfl;rw[Int.tdiv_eq_ediv,e];split<;>omega
 refine PK.c ?_;refine⟨_,rfl,?_⟩;refine⟨[],_,_,_,_,zH h0,rfl,rfl,?_⟩;refine⟨[],_,_,_,_,hR,rfl,rfl,?_⟩;refine⟨_,rfl,?_⟩;have e3:I6.wrap (n.tdiv 3)=n.tdiv 3:=Zd _ (by omega);refine⟨by omega,?_⟩;refine⟨[],_,_,_,_,tA (a:=I6.wrap (n.tdiv 3)) (n:=3) (by omega) (by omega) (by rw[e3];exact h3),rfl,rfl,?_⟩;rw[e3];refine c9 (fun hm=> ?_) (fun hm=> ?_)
 ·have hq:l/s*s<=l:=Z9 _ _;have hv:=Oi (l:=l) (s:=s) (by omega) hl;refine⟨by omega,?_⟩;refine⟨by rw[hv];omega,by rw[hv];omega,by rw[hv];omega,by rw[hv];omega,?_⟩;refine⟨_,rfl,[],?_,tq⟩;have e4:dx n s l=l/s*s:=if_pos hm;show V.z ((I6.wrap (I6.wrap ((l:Int).tdiv s)*s)).toNat-0) (sub (bv b) 0 ((I6.wrap (I6.wrap ((l:Int).tdiv s)*s)).toNat-0))=_;rw[hv,e4,Zb,Nat.sub_zero,P8,hb,e4,l4];rfl
 ·refine⟨_,rfl,[],?_,tq⟩;have e4:dx n s l=l:=if_neg hm;rw[P8,hb,e4,Z5 (by omega)];rfl
theorem a2a (tag n:Int) (k:Bs):∃s q xs rs,i6 (m7 tag) (S7 (m7 tag) n k) s q xs rs:=Nb tag n k
theorem zX (t:Int) {key:Bs} {lk:Nat} (hk:key.length=lk) (hlk:lk<=1000) (mode pad:Int) (back:Bool) {iv:Bs} {li:Nat} (hi:iv.length=li):
  a7 C 89 [D7 t mode pad back,.z lk (bv key),.z li (bv iv)] [] (.ret (i64 (R4 t mode pad (C8 t).toNat lk li))) []/\
  a7 C 99 [D7 t mode pad back,.z lk (bv key),.z li (bv iv)] [] (.ret (i64 (R4 t mode pad (C8 t).toNat lk li))) []:=by
 rcases DT t hk hlk mode pad back hi with ⟨e,s,k,xs,rs,h,ok⟩|⟨he,P,Q⟩
 ·obtain⟨o1,o2,o3,o4⟩:=ok;subst hk;subst hi;have P:=dG h (back:=back) (vi:=bv iv) rfl o1 o2 o3 o4;have Q:=LV h (back:=back) (vi:=bv iv) rfl o1 o2 o3 o4;rw[e];refine⟨?_,Q⟩;refine Ba.c ?_;refine⟨[i64 t,i64 mode,i64 pad,bool back],rfl,rfl,?_⟩;refine⟨[],_,_,_,_,P,rfl,rfl,?_⟩;exact⟨_,rfl,[],rfl,tq⟩
 ·refine⟨?_,Q⟩;generalize R4 t mode pad (C8 t).toNat lk li=e at*
  refine Ba.c ?_;refine⟨[i64 t,i64 mode,i64 pad,bool back],rfl,rfl,?_⟩;refine⟨[],_,_,_,_,P,rfl,rfl,?_⟩;exact⟨_,rfl,[],rfl,tq⟩
theorem MU (x y:Value) (w:World):
  CallsD PP 93 #[x,y] .returning w fun e u' w'=>e= .returned (.tuple #[])/\u'= .returning/\w'=w:=by
 refine callsD_of_wpS pO.f rfl fun c₀ cs hu=> ?_;apply wpS_seq;apply wpS_region;simp[wpOpsS,go_sem,recoverD,hu,Exit.thenS];refine wpS_of_wp ?_;refine wp_block ?_;refine wp_seq ?_;refine wp_region ?_;simp[wpOps,go_sem,Exit.then];refine .inl ?_;refine wp_cond (t:=true) ?_ ?_
 ·simp[go_sem]
 simp only[if_true];refine wp_region ?_;simp[wpOps,go_sem,Exit.then,bodyPostS,results];cases c₀
 simp_all
theorem MV (p q:Addr) (n:Int) (w:World) (h1:(w.cell? p).isSome=true) (h2:w.frozen? p=false) (h3:((w.setCell p (.slice none 0 0)).cell? q).isSome=true) (h4:(w.setCell p (.slice none 0 0)).frozen? q=false):
  CallsD PP 93 #[.pointer (some p),.pointer (some q)] (.panicking [{v:= .iface ak (.int .i64 n),recovered:=false}]) w fun e u' w'=>
   e= .returned (.tuple #[])/\u'= .panicking [{v:= .iface ak (.int .i64 n),recovered:=true}]/\w'=(w.setCell p (.slice none 0 0)).setCell q (.int .i64 n):=by
 obtain⟨x1,hx1⟩:=Jc.1 h1;obtain⟨x2,hx2⟩:=Jc.1 h3;have hta:∀(v:Value) (w:World),(Instr.typeAssert (.iface ak v) ZP ak true).run PP w= .ok (.tuple #[v,.bool true]) w:=fun v w=>by kernel_rfl
 refine callsD_of_wpS pO.f rfl fun c₀ cs hu=> ?_;apply wpS_seq;apply wpS_region;simp[wpOpsS,go_sem,recoverD,hu,Exit.thenS];refine wpS_of_wp ?_;refine wp_block ?_;refine wp_seq ?_;refine wp_region ?_;simp[wpOps,go_sem,Exit.then];refine .inl ?_;refine wp_cond (t:=false) ?_ ?_
 ·simp[go_sem]
 simp only[if_false,Bool.false_eq_true];refine wp_seq ?_;refine wp_region ?_;simp[wpOps,go_sem,Exit.then,hta];refine .inl (.inl (.inl ?_));refine wp_cond (t:=true) ?_ ?_
 ·simp[go_sem]
 simp only[if_true];refine wp_seq ?_;refine wp_region ?_;simp[wpOps,go_sem,Exit.then];refine .inl ?_;refine wp_region ?_;simp[wpOps,go_sem,Exit.then,hx1,h2,hx2,h4,bodyPostS,results]
theorem V7:sd PP 93 ak:=⟨fun z w=>iS pO.f pO.name rfl z w,MU,MV⟩
theorem bU:a7 C 159 [i64 0] [] (.ret (.t [])) []:=by
 refine AI.c ?_;exact⟨_,rfl,[],rfl,tq⟩
theorem pb {e:Int} (h:e≠0):a7 C 159 [i64 e] [] (.pan (.i ak (i64 e))) []:=by
 refine AI.c ?_;refine o9 (fun _=> ?_) (fun hh=>absurd hh h);exact⟨_,rfl,[],rfl,tq⟩
abbrev p9 (bg op:Bool) (t mode pad:Int) (back:Bool) (cv iv by' held a8:V):B:= .mx [bool bg,bool op,i64 t,i64 mode,i64 pad,bool back,cv,iv,by',held,a8]
theorem sX:a7 C 29 [] [] (.ret (.p (.k 0) 0)) [p9 false false 0 0 0 false i7 g8 i7 g8 g8]:=by
 refine Pd.c ?_;exact⟨_,rfl,[.d 2 0],rfl,⟨_,rfl,rfl⟩,tq⟩
inductive HK where
 |n
 |o (H:Bs)
 |f (H:Bs)
def HK.v:HK->V
 | .n=>g8
 | .o H=> .o 1 (.k 3) 0 H.length
 | .f H=> .z H.length (bv H)
def HK.b:HK->B
 | .o H=> .sc (bv H)
 |_=> .dead
def HK.l:HK->Bs
 | .n=>[]
 | .o H=>H
 | .f H=>H
abbrev k9 (op:Bool) (t mode pad:Int) (back:Bool) (k:Nat) (xs:List V) (iv:Bs) (x:HK) (a8:Bs):B:=p9 true op t mode pad back (b9 t k xs) (.z iv.length (bv iv)) (.p (.k 1) 0) x.v (.z a8.length (bv a8))
theorem fZ {t mode pad md:Int} {back:Bool} {k:Nat} {xs:List V} {iv a8:Bs} {st:MS} {x:HK}:a7 C 94 [.p (.k 0) 0] [k9 true t mode pad back k xs iv x a8,f6 (b9 t k xs) md back st 2,g9 st.row st.gone,x.b] (.ret (.t [])) [k9 true t mode pad back k xs iv x a8,f6 (b9 t k xs) md back st 2,g9 st.row st.gone,x.b]:=by
 obtain⟨ch,row,g⟩:=st;rcases row with _|⟨a,r⟩<;>rcases x with _|H|H;all_goals
  refine Pc.c ?_;refine⟨_,rfl,?_⟩;exact⟨_,rfl,[.k 0,.k 1,.k 2,.k 3],rfl,⟨_,rfl,rfl⟩,⟨_,rfl,rfl⟩,⟨_,rfl,rfl⟩,⟨_,rfl,rfl⟩,tq⟩
theorem mK {t mode pad md:Int} {op back:Bool} {k:Nat} {xs:List V} {iv a8:Bs} {st:MS} {x:HK} (hm:mode<=9):a7 C 158 [.p (.k 0) 0] [k9 op t mode pad back k xs iv x a8,f6 (b9 t k xs) md back st 2,g9 st.row st.gone,x.b] (.ret (bool (decide (7<=mode)))) [k9 op t mode pad back k xs iv x a8,f6 (b9 t k xs) md back st 2,g9 st.row st.gone,x.b]:=by
 obtain⟨ch,row,g⟩:=st;rcases row with _|⟨a,r⟩<;>rcases x with _|H|H;all_goals
  refine pN.c ?_;refine⟨_,rfl,?_⟩;refine c9 (fun h7=> ?_) (fun h7=> ?_)
  ·refine⟨_,rfl,?_⟩;refine⟨_,rfl,[.k 0,.k 1,.k 2,.k 3],?_,⟨_,rfl,rfl⟩,⟨_,rfl,rfl⟩,⟨_,rfl,rfl⟩,⟨_,rfl,rfl⟩,tq⟩;exact congrArg bool (by rw[decide_eq_true hm,decide_eq_true h7])
  ·refine⟨_,rfl,[.k 0,.k 1,.k 2,.k 3],?_,⟨_,rfl,rfl⟩,⟨_,rfl,rfl⟩,⟨_,rfl,rfl⟩,⟨_,rfl,rfl⟩,tq⟩;exact congrArg bool (by rw[decide_eq_false h7])
def y3 (s:Nat) (md mode pad:Int) (back:Bool):Nat:=if 3<=md then 0 else if 7<=mode then 2*s else if pad≠4/\back=true then s else s-1
theorem oN {t key s k xs rs} (h:i6 t key s k xs rs) {mode pad md:Int} {op back:Bool} {iv a8:Bs} {st:MS} {x:HK} (K:MK s md st) (hm:mode<=9):
  a7 C 95 [.p (.k 0) 0] [k9 op t mode pad back k xs iv x a8,f6 (b9 t k xs) md back st 2,g9 st.row st.gone,x.b] (.ret (i64 (y3 s md mode pad back))) [k9 op t mode pad back k xs iv x a8,f6 (b9 t k xs) md back st 2,g9 st.row st.gone,x.b]:=by
 have hs:=h.s_le;have G:=mO h (back:=back) K;have S:=mK (t:=t) (mode:=mode) (pad:=pad) (md:=md) (op:=op) (back:=back) (k:=k) (xs:=xs) (iv:=iv) (a8:=a8) (st:=st) (x:=x) hm;have hg:k7 s md=if 3<=md then 1 else s:=by
  have:=K.ok.m;unfold k7;by_cases h3:3<=md
  ·rw[if_pos h3,if_neg (by omega)]
  ·rw[if_neg h3,if_pos (by omega)]
 generalize k7 s md=gr at*
 have e2:I6.wrap (2*(s:Int))=((2*s:Nat):Int):=by rw[Zd _ (by omega)];omega
 have e3:I6.wrap ((s:Int)-1)=((s-1:Nat):Int):=by rw[Zd _ (by omega)];omega
 obtain⟨ch,row,g⟩:=st;rcases row with _|⟨a,r⟩<;>rcases x with _|H|H;all_goals
  refine Pb.c ?_;refine⟨_,rfl,?_⟩;refine⟨[],_,_,_,_,h.size,rfl,rfl,?_⟩;refine⟨_,rfl,?_⟩;refine⟨[.k 1,.k 2],_,_,_,_,G,rfl,rfl,?_⟩;by_cases h3:3<=md
  ·rw[if_pos h3]at hg;refine j7 (fun _=> ?_) (fun hh=>absurd (by omega) hh);refine⟨_,rfl,[.k 0,.k 1,.k 2,.k 3],?_,⟨_,rfl,rfl⟩,⟨_,rfl,rfl⟩,⟨_,rfl,rfl⟩,⟨_,rfl,rfl⟩,tq⟩;exact d7 (by unfold y3;rw[if_pos h3];rfl)
  ·rw[if_neg h3]at hg;refine j7 (fun hh=>absurd hh (by omega)) (fun _=> ?_);refine⟨[.k 0,.k 1,.k 2,.k 3],_,_,_,_,S,rfl,rfl,?_⟩;refine c9 (fun h7=> ?_) (fun h7=> ?_)
   ·refine⟨_,rfl,[.k 0,.k 1,.k 2,.k 3],?_,⟨_,rfl,rfl⟩,⟨_,rfl,rfl⟩,⟨_,rfl,rfl⟩,⟨_,rfl,rfl⟩,tq⟩;exact d7 (by unfold y3;rw[if_neg h3,if_pos h7];exact e2)
   ·refine⟨_,rfl,?_⟩;refine o9 (fun h4=> ?_) (fun h4=> ?_)
    ·refine⟨_,rfl,?_⟩;cases back
     ·refine⟨_,rfl,[.k 0,.k 1,.k 2,.k 3],?_,⟨_,rfl,rfl⟩,⟨_,rfl,rfl⟩,⟨_,rfl,rfl⟩,⟨_,rfl,rfl⟩,tq⟩;exact d7 (by unfold y3;rw[if_neg h3,if_neg h7,if_neg (by simp)];exact e3)
     ·refine⟨_,rfl,[.k 0,.k 1,.k 2,.k 3],?_,⟨_,rfl,rfl⟩,⟨_,rfl,rfl⟩,⟨_,rfl,rfl⟩,⟨_,rfl,rfl⟩,tq⟩;exact d7 (by unfold y3;rw[if_neg h3,if_neg h7,if_pos ⟨h4,rfl⟩])
    ·refine⟨_,rfl,[.k 0,.k 1,.k 2,.k 3],?_,⟨_,rfl,rfl⟩,⟨_,rfl,rfl⟩,⟨_,rfl,rfl⟩,⟨_,rfl,rfl⟩,tq⟩;exact d7 (by unfold y3;rw[if_neg h3,if_neg h7,if_neg (by simp[h4])];exact e3)
def C1 (s:Nat) (mode:Int) (back:Bool) (b o a8:Bs):Bs:=if 7<=mode/\s<=b.length then (if back then b else o).drop (b.length-s)else a8
theorem IQ {t key s k xs rs} (h:i6 t key s k xs rs) {mode pad md:Int} {op back:Bool} {iv a8 H b:Bs} {st:MS} {m:Nat} (hb:b.length=m) (hmb:m<=100000) (K:MK s md st) (hm:mode<=9) (hg:m%k7 s md=0) (hne:0<m\/st.row=[]):
  a7 C 97 [.p (.k 0) 0,.z m (bv b)] [k9 op t mode pad back k xs iv (.f H) a8,f6 (b9 t k xs) md back st 2,g9 st.row st.gone,.dead]
   (.ret (.z m (bv (f7 (cF t key false) (cF t key true) s md back st b).1)))
   [k9 op t mode pad back k xs iv (.f H) (C1 s mode back b (f7 (cF t key false) (cF t key true) s md back st b).1 a8),f6 (b9 t k xs) md back (f7 (cF t key false) (cF t key true) s md back st b).2 4,.dead,.dead,g9 (f7 (cF t key false) (cF t key true) s md back st b).2.row (f7 (cF t key false) (cF t key true) s md back st b).2.gone]:=by
 have hs:=h.s_le;have lo:(f7 (cF t key false) (cF t key true) s md back st b).1.length=m:=by rw[I3 h.ci K.ok (by rw[hb];exact hg),hb]
 have T0:=iQ h (back:=back) (st:=st) (b:=b) rfl hb (by omega) K hg hne;have S:=fun(st':MS)=>mK (t:=t) (mode:=mode) (pad:=pad) (md:=md) (op:=op) (back:=back) (k:=k) (xs:=xs) (iv:=iv) (a8:=a8) (st:=st') (x:= .f H) hm;generalize f7 (cF t key false) (cF t key true) s md back st b=S0 at*
 obtain⟨o,st1⟩:=S0;have S1:=S st1;obtain⟨c1,row1,g1⟩:=st1;dsimp only at T0 lo ⊢;have eS:I6.wrap ((m:Int)-(s:Int))=(m:Int)-s:=Zd _ (by omega);by_cases hL:7<=mode/\s<=m
 ·have eL:C1 s mode back b o a8=(if back then b else o).drop (m-s):=by unfold C1;rw[hb,if_pos hL]
  rw[eL];cases back;all_goals
   obtain⟨ch,row,g⟩:=st;rcases row with _|⟨a,r⟩<;>rcases row1 with _|⟨a1,r1⟩
  all_goals
   refine dR.c ?_;refine⟨_,rfl,?_⟩;refine⟨[.k 1,.k 2],_,_,_,_,T0,rfl,rfl,?_⟩;refine⟨[],_,_,_,_,bU,rfl,rfl,?_⟩;refine⟨_,rfl,?_⟩;refine⟨[],_,_,_,_,h.size,rfl,rfl,?_⟩;refine⟨[.k 0,.k 1,.d 15 2,.k 3],_,_,_,_,S1,rfl,rfl,?_⟩;refine c9 (fun h7=> ?_) (fun h7=>absurd hL.1 h7);refine c9 (fun h7=> ?_) (fun h7=>absurd hL.2 (by omega));refine⟨_,rfl,?_⟩;refine⟨by rw[eS];omega,by rw[eS];omega,by omega,by omega,?_⟩;first
    |refine⟨[],_,_,_,_,aw (n:=s) (l:=o.drop (m-s)) (va:=bv (o.drop (m-s))) rfl (by rw[Ze,lo];omega) (by omega),?_,rfl,?_⟩
     ·show[V.z (m-(I6.wrap ((m:Int)-(s:Int))).toNat) (sub (bv o) (I6.wrap ((m:Int)-(s:Int))).toNat (m-(I6.wrap ((m:Int)-(s:Int))).toNat))]=_;rw[eS,show((m:Int)-s).toNat=m-s by omega,p8 lo (by omega),show m-(m-s)=s by omega]
     refine⟨Za rfl,?_⟩;refine⟨_,rfl,[.k 0,.k 1,.k 2,.k 3,.d 15 2],rfl,⟨_,rfl,?_⟩,⟨_,rfl,rfl⟩,⟨_,rfl,rfl⟩,⟨_,rfl,rfl⟩,⟨_,rfl,rfl⟩,tq⟩;have ll:(o.drop (m-s)).length=s:=by rw[Ze,lo];omega
     show _=k9 op t mode pad false k xs iv (.f H) (o.drop (m-s));unfold k9;rw[ll];rfl
    |refine⟨[],_,_,_,_,aw (n:=s) (l:=b.drop (m-s)) (va:=bv (b.drop (m-s))) rfl (by rw[Ze,hb];omega) (by omega),?_,rfl,?_⟩
     ·show[V.z (m-(I6.wrap ((m:Int)-(s:Int))).toNat) (sub (bv b) (I6.wrap ((m:Int)-(s:Int))).toNat (m-(I6.wrap ((m:Int)-(s:Int))).toNat))]=_;rw[eS,show((m:Int)-s).toNat=m-s by omega,p8 hb (by omega),show m-(m-s)=s by omega]
     refine⟨Za rfl,?_⟩;refine⟨_,rfl,[.k 0,.k 1,.k 2,.k 3,.d 15 2],rfl,⟨_,rfl,?_⟩,⟨_,rfl,rfl⟩,⟨_,rfl,rfl⟩,⟨_,rfl,rfl⟩,⟨_,rfl,rfl⟩,tq⟩;have ll:(b.drop (m-s)).length=s:=by rw[Ze,hb];omega
     show _=k9 op t mode pad true k xs iv (.f H) (b.drop (m-s));unfold k9;rw[ll];rfl
 ·have eL:C1 s mode back b o a8=a8:=by unfold C1;rw[hb,if_neg hL]
  rw[eL];obtain⟨ch,row,g⟩:=st;rcases row with _|⟨a,r⟩<;>rcases row1 with _|⟨a1,r1⟩;all_goals
   refine dR.c ?_;refine⟨_,rfl,?_⟩;refine⟨[.k 1,.k 2],_,_,_,_,T0,rfl,rfl,?_⟩;refine⟨[],_,_,_,_,bU,rfl,rfl,?_⟩;refine⟨_,rfl,?_⟩;refine⟨[],_,_,_,_,h.size,rfl,rfl,?_⟩;refine⟨[.k 0,.k 1,.d 15 2,.k 3],_,_,_,_,S1,rfl,rfl,?_⟩;refine c9 (fun h7=> ?_) (fun h7=> ?_)
   ·refine c9 (fun h8=>absurd ⟨h7,by omega⟩ hL) (fun h8=> ?_);exact⟨_,rfl,[.k 0,.k 1,.k 2,.k 3,.d 15 2],rfl,⟨_,rfl,rfl⟩,⟨_,rfl,rfl⟩,⟨_,rfl,rfl⟩,⟨_,rfl,rfl⟩,⟨_,rfl,rfl⟩,tq⟩
   ·exact⟨_,rfl,[.k 0,.k 1,.k 2,.k 3,.d 15 2],rfl,⟨_,rfl,rfl⟩,⟨_,rfl,rfl⟩,⟨_,rfl,rfl⟩,⟨_,rfl,rfl⟩,⟨_,rfl,rfl⟩,tq⟩
theorem IT {t key s k xs rs} (h:i6 t key s k xs rs) {mode pad md:Int} {op back:Bool} {iv a8 H:Bs} {st:MS} {vb:List Value} (h3:3<=md) (hm:mode<=9):
  a7 C 97 [.p (.k 0) 0,.z 0 vb] [k9 op t mode pad back k xs iv (.f H) a8,f6 (b9 t k xs) md back st 2,g9 st.row st.gone,.dead]
   (.ret (.z 0 [])) [k9 op t mode pad back k xs iv (.f H) a8,f6 (b9 t k xs) md back st 2,g9 st.row st.gone,.dead]:=by
 have hs:=h.s_le;have T0:=zx h (back:=back) (st:=st) (vb:=vb) h3;have S:=mK (t:=t) (mode:=mode) (pad:=pad) (md:=md) (op:=op) (back:=back) (k:=k) (xs:=xs) (iv:=iv) (a8:=a8) (st:=st) (x:= .f H) hm;obtain⟨ch,row,g⟩:=st;rcases row with _|⟨a,r⟩;all_goals
  refine dR.c ?_;refine⟨_,rfl,?_⟩;refine⟨[.k 1,.k 2],_,_,_,_,T0,rfl,rfl,?_⟩;refine⟨[],_,_,_,_,bU,rfl,rfl,?_⟩;refine⟨_,rfl,?_⟩;refine⟨[],_,_,_,_,h.size,rfl,rfl,?_⟩;refine⟨[.k 0,.k 1,.k 2,.k 3],_,_,_,_,S,rfl,rfl,?_⟩;refine c9 (fun h7=> ?_) (fun h7=> ?_)
  ·refine c9 (fun h8=>absurd h8 (by omega)) (fun h8=> ?_);exact⟨_,rfl,[.k 0,.k 1,.k 2,.k 3],rfl,⟨_,rfl,rfl⟩,⟨_,rfl,rfl⟩,⟨_,rfl,rfl⟩,⟨_,rfl,rfl⟩,tq⟩
  ·exact⟨_,rfl,[.k 0,.k 1,.k 2,.k 3],rfl,⟨_,rfl,rfl⟩,⟨_,rfl,rfl⟩,⟨_,rfl,rfl⟩,⟨_,rfl,rfl⟩,tq⟩
def k6 (mode:Int):Int:=if 7<=mode then 2 else mode
theorem IM {t mode pad:Int} {op bg back:Bool} {k:Nat} {xs:List V} {iv:Bs} (hm:mode<=9):a7 C 158 [.p (.k 0) 0] [p9 bg op t mode pad back (b9 t k xs) (.z iv.length (bv iv)) i7 g8 g8] (.ret (bool (decide (7<=mode)))) [p9 bg op t mode pad back (b9 t k xs) (.z iv.length (bv iv)) i7 g8 g8]:=by
 refine pN.c ?_;refine⟨_,rfl,?_⟩;refine c9 (fun h7=> ?_) (fun h7=> ?_)
 ·refine⟨_,rfl,?_⟩;exact⟨_,rfl,[.k 0],congrArg bool (by rw[decide_eq_true hm,decide_eq_true h7]),⟨_,rfl,rfl⟩,tq⟩
 ·exact⟨_,rfl,[.k 0],congrArg bool (by rw[decide_eq_false h7]),⟨_,rfl,rfl⟩,tq⟩
theorem dK {s:Nat} {mode pad:Int} {iv:Bs} (ok:C0 s mode pad iv):(1<=k6 mode/\k6 mode<=6)/\iv.length=if k6 mode=1 then 0 else s:=by
 obtain⟨o1,o2,o3,o4⟩:=ok;unfold k6;by_cases h7:7<=mode
 ·rw[if_pos h7];exact⟨by decide,by rw[o4,if_neg (by omega),if_neg (by decide)]⟩
 ·rw[if_neg h7];exact⟨by omega,o4⟩
theorem yj {t key s k xs rs} (h:i6 t key s k xs rs) {mode pad:Int} {op back:Bool} {iv:Bs} (ok:C0 s mode pad iv):
  a7 C 91 [.p (.k 0) 0] [p9 true op t mode pad back (b9 t k xs) (.z iv.length (bv iv)) i7 g8 g8] (.ret (.t []))
   [k9 true t mode pad back k xs iv .n iv,f6 (b9 t k xs) (k6 mode) back ⟨iv,[],[]⟩ 2,.dead,.dead]:=by
 have hs:=h.s_le;obtain⟨m1,hiv⟩:=dK ok;have T0:=dC h (mode:=k6 mode) (back:=back) (i:=1) (vi:=bv iv) (iv:=iv) rfl rfl m1 hiv;have hl16:iv.length<=16:=by rw[hiv];split<;>omega
 have S:=IM (t:=t) (mode:=mode) (pad:=pad) (op:=op) (bg:=true) (back:=back) (k:=k) (xs:=xs) (iv:=iv) ok.1.2;refine AH.c ?_;refine⟨_,rfl,?_⟩;refine⟨[.k 0],_,_,_,_,S,rfl,rfl,?_⟩;refine c9 (fun h7=> ?_) (fun h7=> ?_);all_goals
  first
   |rw[show k6 mode=2 from if_pos h7]at T0 ⊢
   |rw[show k6 mode=mode from if_neg h7]at T0 ⊢
  refine⟨_,rfl,?_⟩;refine⟨_,rfl,?_⟩;refine⟨_,rfl,?_⟩;refine⟨[],_,_,_,_,T0,rfl,rfl,?_⟩;refine⟨Za rfl,?_⟩;refine⟨_,rfl,?_⟩;refine⟨[],_,_,_,_,aw (l:=iv) rfl rfl (by omega),rfl,rfl,?_⟩;refine⟨Za rfl,?_⟩;refine⟨Za rfl,?_⟩;refine⟨Za rfl,?_⟩;exact⟨_,rfl,[.k 0,.d 26 0,.d 26 1,.d 26 2],rfl,⟨_,rfl,rfl⟩,⟨_,rfl,rfl⟩,⟨_,rfl,rfl⟩,⟨_,rfl,rfl⟩,tq⟩
theorem DP {t key s k xs rs} (h:i6 t key s k xs rs) {mode pad:Int} {lk li:Nat} {iv:Bs} (hk:key.length=lk) (hi:iv.length=li) (ok:C0 s mode pad iv):R4 t mode pad (C8 t).toNat lk li=0:=by
 obtain⟨o1,o2,o3,o4⟩:=ok;unfold R4;rw[if_neg (by exact fun x=>x h.ht),if_neg (by rw[<-hk];exact fun x=>x h.kl),if_neg (by exact fun x=>x ⟨o1,o2,o3⟩),if_neg (by rw[h.hs,Zb,<-hi];exact fun x=>x o4)]
theorem IJ {t key s k xs rs} (h:i6 t key s k xs rs) {mode pad:Int} {back:Bool} {lk li:Nat} {iv:Bs} (hk:key.length=lk) (hlk:lk<=1000) (hi:iv.length=li) (ok:C0 s mode pad iv):
  a7 C 30 [.p (.k 0) 0,D7 t mode pad back,.z lk (bv key),.z li (bv iv)] [p9 false false 0 0 0 false i7 g8 i7 g8 g8] (.ret (i64 0))
   [k9 true t mode pad back k xs iv .n iv,f6 (b9 t k xs) (k6 mode) back ⟨iv,[],[]⟩ 2,.dead,.dead]:=by
 have hs:=h.s_le;obtain⟨m1,hiv⟩:=dK ok;have hl16:iv.length<=16:=by rw[hiv];split<;>omega
 have CK:=(zX t hk hlk mode pad back hi).1;rw[DP h hk hi ok]at CK;subst hi;refine AG.c ?_;refine⟨[i64 t,i64 mode,i64 pad,bool back],rfl,rfl,?_⟩;refine⟨[],_,_,_,_,CK,rfl,rfl,?_⟩;refine⟨_,rfl,?_⟩;refine⟨[],_,_,_,_,h.new' (n:=lk) hk rfl,rfl,rfl,?_⟩;refine⟨Za rfl,?_⟩;refine⟨[i64 t,i64 mode,i64 pad,bool back],rfl,rfl,?_⟩;refine⟨[],_,_,_,_,aw (l:=iv) rfl rfl (by omega),rfl,rfl,?_⟩;refine⟨Za rfl,?_⟩;refine⟨Za rfl,?_⟩;refine⟨Za rfl,?_⟩;refine⟨[.k 0],_,_,_,_,yj h (op:=false) ok,rfl,rfl,?_⟩;exact⟨_,rfl,[.k 0,.d 40 1,.d 40 2,.d 40 3],rfl,⟨_,rfl,rfl⟩,⟨_,rfl,rfl⟩,⟨_,rfl,rfl⟩,⟨_,rfl,rfl⟩,tq⟩
def B6 (g most L:Nat):Nat:=(L-most+(g-1))/g
theorem bn {g most L i:Nat} (hg:0<g):i<B6 g most L↔most+g*i<L:=by
 unfold B6;rw[Nat.lt_iff_add_one_le,Nat.le_div_iff_mul_le hg,Nat.add_mul,Nat.one_mul,Nat.mul_comm i g];omega
theorem kg {g most L:Nat} (hg:0<g) (hm:g-1<=most):g*B6 g most L<=L:=by
 by_cases h:B6 g most L=0
 ·rw[h];omega
 ·have:=(bn (most:=most) (L:=L) (i:=B6 g most L-1) hg).1 (by omega);have e:g*B6 g most L=g*(B6 g most L-1)+g:=by
   obtain⟨k,hk⟩:∃k,B6 g most L=k+1:=⟨B6 g most L-1,by omega⟩;rw[hk,Zw,Zq]
  omega
theorem NP {g most L m:Nat} (hg:0<g) (hm:g-1<=most):B6 g most (L+m)=B6 g most L+B6 g most (L-g*B6 g most L+m):=by
 have hle:=kg (L:=L) hg hm;refine Z3 ?_ ?_
 ·refine Zu fun h=> ?_;have h1:=(bn hg).1 h;rw[Nat.mul_add]at h1;have h2:=(bn (most:=most) (L:=L-g*B6 g most L+m) (i:=B6 g most (L-g*B6 g most L+m)) hg).2 (by omega);exact absurd h2 (Nat.lt_irrefl _)
 ·by_cases h0:B6 g most (L-g*B6 g most L+m)=0
  ·rw[h0,Ji];refine Zu fun h=> ?_;have h1:=(bn hg).1 h;have h2:=(bn (most:=most) (L:=L) (i:=B6 g most (L+m)) hg).1 h;have h3:=(bn (most:=most) (L:=L+m) (i:=B6 g most (L+m)) hg).2 (by omega);exact absurd h3 (Nat.lt_irrefl _)
  ·obtain⟨k,hk⟩:∃k,B6 g most (L-g*B6 g most L+m)=k+1:=⟨B6 g most (L-g*B6 g most L+m)-1,by omega⟩;rw[hk];have h1:=(bn (most:=most) (L:=L-g*B6 g most L+m) (i:=k) hg).1 (by omega);have h2:=(bn (most:=most) (L:=L+m) (i:=B6 g most L+k) hg).2 (by rw[Nat.mul_add];omega);omega
theorem Al {n:Nat} {mode pad:Int} {iv:Bs} (ok:C0 n mode pad iv):(7<=mode/\k6 mode=2)\/(mode<=6/\k6 mode=mode):=by
 unfold k6;by_cases h7:7<=mode
 ·exact .inl ⟨h7,if_pos h7⟩
 ·exact .inr ⟨by omega,if_neg h7⟩
theorem po {n:Nat} {mode pad:Int} {iv:Bs} {back:Bool} (hn:0<n) (ok:C0 n mode pad iv):
  0<k7 n (k6 mode)/\k7 n (k6 mode)-1<=y3 n (k6 mode) mode pad back/\(k7 n (k6 mode)=n/\k6 mode<=2\/k7 n (k6 mode)=1/\3<=k6 mode/\mode<=6):=by
 have hm:=ok.1;rcases Al ok with ⟨h1,h2⟩|⟨h1,h2⟩
 ·rw[h2];refine⟨hn,?_,.inl ⟨rfl,by decide⟩⟩;show n-1<=_;unfold y3;rw[if_neg (by decide),if_pos h1];omega
 ·rw[h2];unfold k7 y3;by_cases h3:3<=mode
  ·rw[if_neg (by omega),if_pos h3];exact⟨by omega,by omega,.inr ⟨rfl,h3,h1⟩⟩
  ·rw[if_pos (by omega),if_neg h3,if_neg (by omega)];refine⟨hn,?_,.inl ⟨rfl,by omega⟩⟩;split<;>omega
def q5 (n:Nat) (mode pad:Int) (back:Bool) (L:Nat):Nat:=k7 n (k6 mode)*B6 (k7 n (k6 mode)) (y3 n (k6 mode) mode pad back) L
def A2 (E D:Bs->Bs) (n:Nat) (mode pad:Int) (back:Bool) (iv M:Bs):Bs×MS:=f7 E D n (k6 mode) back ⟨iv,[],[]⟩ (M.take (q5 n mode pad back M.length))
def i9 (n:Nat) (mode pad:Int) (back:Bool) (M:Bs):Bs:=M.drop (q5 n mode pad back M.length)
def cR (E D:Bs->Bs) (n:Nat) (mode pad:Int) (back:Bool) (iv M:Bs):Bs:=C1 n mode back (M.take (q5 n mode pad back M.length)) (A2 E D n mode pad back iv M).1 iv
theorem bj {n:Nat} {mode pad:Int} {iv:Bs} {back:Bool} (hn:0<n) (ok:C0 n mode pad iv) (L:Nat):q5 n mode pad back L<=L/\q5 n mode pad back L%k7 n (k6 mode)=0:=by
 obtain⟨g0,g1,g2⟩:=po (back:=back) hn ok;exact⟨kg g0 g1,Jb _ _⟩
theorem tN {n:Nat} {mode pad:Int} {iv:Bs} {back:Bool} (hn:0<n) (ok:C0 n mode pad iv) (L m:Nat):q5 n mode pad back (L+m)=q5 n mode pad back L+q5 n mode pad back (L-q5 n mode pad back L+m):=by
 obtain⟨g0,g1,g2⟩:=po (back:=back) hn ok;unfold q5;rw[NP g0 g1,Nat.mul_add]
theorem eV {n:Nat} {mode pad:Int} {back:Bool} (M:Bs):(i9 n mode pad back M).length=M.length-q5 n mode pad back M.length:=by
 unfold i9;rw[Ze]
theorem gg {E D:Bs->Bs} {n:Nat} {mode pad:Int} {iv M:Bs} {back:Bool} (h:CI E D n) (hn:0<n) (ok:C0 n mode pad iv):(A2 E D n mode pad back iv M).1.length=q5 n mode pad back M.length:=by
 obtain⟨f1,f2⟩:=bj (back:=back) hn ok M.length;have lt:(M.take (q5 n mode pad back M.length)).length=q5 n mode pad back M.length:=by rw[Zg];omega
 unfold A2;rw[I3 h (dj (dK ok).1 (dK ok).2) (by rw[lt];exact f2),lt]
theorem NS {A b:Bs} {F a:Nat} (h:F<=A.length):A.take F++(A.drop F++b).take a=(A++b).take (F+a):=by
 have e:A++b=A.take F++(A.drop F++b):=by rw[<-List.append_assoc,Zy]
 rw[e];generalize A.drop F++b=R;rw[List.take_append,Zg,Jj h,Z4,Z5 (show (A.take F).length<=F+a by rw[Zg];omega)]
theorem NQ {A b:Bs} {F a:Nat} (h:F<=A.length):(A.drop F++b).drop a=(A++b).drop (F+a):=by
 have e:A++b=A.take F++(A.drop F++b):=by rw[<-List.append_assoc,Zy]
 rw[e];generalize A.drop F++b=R;rw[Jg,Zg,Jj h,Z4,Z6 (show (A.take F).length<=F+a by rw[Zg];omega),Zm]
theorem Ap {E D:Bs->Bs} {n:Nat} {mode pad:Int} {iv M b:Bs} {back:Bool} {a:Nat} (h:CI E D n) (hn:0<n) (ok:C0 n mode pad iv) (ha:a=q5 n mode pad back ((i9 n mode pad back M).length+b.length)):
  A2 E D n mode pad back iv (M++b)=((A2 E D n mode pad back iv M).1++(f7 E D n (k6 mode) back (A2 E D n mode pad back iv M).2 ((i9 n mode pad back M++b).take a)).1,(f7 E D n (k6 mode) back (A2 E D n mode pad back iv M).2 ((i9 n mode pad back M++b).take a)).2)
  /\C1 n mode back ((i9 n mode pad back M++b).take a) (f7 E D n (k6 mode) back (A2 E D n mode pad back iv M).2 ((i9 n mode pad back M++b).take a)).1 (cR E D n mode pad back iv M)=cR E D n mode pad back iv (M++b)
  /\(i9 n mode pad back M++b).drop a=i9 n mode pad back (M++b):=by
 obtain⟨f1,f2⟩:=bj (back:=back) hn ok M.length;obtain⟨g0,g1,g2⟩:=po (back:=back) hn ok;have hF:q5 n mode pad back (M++b).length=q5 n mode pad back M.length+a:=by
  rw[Zc,tN hn ok,ha,eV]
 have ha1:=bj (back:=back) hn ok ((i9 n mode pad back M).length+b.length);rw[<-ha,eV]at ha1;have lb:((i9 n mode pad back M++b).take a).length=a:=by rw[Zg,Zc,eV];omega
 have lt:(M.take (q5 n mode pad back M.length)).length=q5 n mode pad back M.length:=by rw[Zg];omega
 have eT:(M++b).take (q5 n mode pad back (M++b).length)=M.take (q5 n mode pad back M.length)++(i9 n mode pad back M++b).take a:=by
  rw[hF];unfold i9;rw[NS f1]
 have eS:A2 E D n mode pad back iv (M++b)=((A2 E D n mode pad back iv M).1++(f7 E D n (k6 mode) back (A2 E D n mode pad back iv M).2 ((i9 n mode pad back M++b).take a)).1,(f7 E D n (k6 mode) back (A2 E D n mode pad back iv M).2 ((i9 n mode pad back M++b).take a)).2):=by
  show f7 E D n (k6 mode) back ⟨iv,[],[]⟩ ((M++b).take (q5 n mode pad back (M++b).length))=_;rw[eT,qB hn (by rw[lt];exact f2) (by rw[lb];exact ha1.2)];rfl
 have lT:=gg (back:=back) (M:=M) h hn ok;refine⟨eS,?_,?_⟩
 ·show _=C1 n mode back ((M++b).take (q5 n mode pad back (M++b).length)) (A2 E D n mode pad back iv (M++b)).1 iv;rw[eS,eT];have K:V4 n (k6 mode) (A2 E D n mode pad back iv M).2:=uS h hn (dj (dK ok).1 (dK ok).2);have lo:(f7 E D n (k6 mode) back (A2 E D n mode pad back iv M).2 ((i9 n mode pad back M++b).take a)).1.length=a:=by
   rw[I3 h K (by rw[lb];exact ha1.2),lb]
  simp only
  generalize f7 E D n (k6 mode) back (A2 E D n mode pad back iv M).2 ((i9 n mode pad back M++b).take a)=o at*
  unfold cR;generalize (i9 n mode pad back M++b).take a=c at*
  generalize (A2 E D n mode pad back iv M).1=T at*
  generalize M.take (q5 n mode pad back M.length)=A at*
  generalize q5 n mode pad back M.length=F at*
  unfold C1;rw[lb,lt,Zc,lt,lb];by_cases h7:7<=mode
  ·have gn:k7 n (k6 mode)=n:=by
    rcases Al ok with ⟨_,h2⟩|⟨h1,_⟩
    ·rw[h2];rfl
    ·omega
   rw[gn]at ha1;by_cases ha0:n<=a
   ·rw[if_pos (show 7<=mode/\n<=a from ⟨h7,ha0⟩),if_pos (show 7<=mode/\n<=F+a from ⟨h7,by omega⟩)];cases back
    ·simp only[Bool.false_eq_true,if_false];rw[Jg,lT,Z6 (show T.length<=F+a-n by omega),Zm,show F+a-n-F=a-n by omega]
    ·simp only[if_true];rw[Jg,lt,Z6 (show A.length<=F+a-n by omega),Zm,show F+a-n-F=a-n by omega]
   ·have a0:a=0:=by
     rcases Nat.eq_zero_or_pos a with h0|h0
     ·exact h0
     ·exact absurd (Jd h0 (Zo ha1.2)) ha0
    subst a0;obtain rfl:=Zf lb;rw[if_neg (show ¬(7<=mode/\n<=0) by omega),Ji,Jl,Zf lo,Jl]
  ·rw[if_neg (show ¬(7<=mode/\n<=a) by omega),if_neg (show ¬(7<=mode/\n<=F) by omega),if_neg (show ¬(7<=mode/\n<=F+a) by omega)]
 ·show _=(M++b).drop (q5 n mode pad back (M++b).length);rw[hF];exact NQ f1
def eU (E D:Bs->Bs) (n:Nat) (mode pad:Int) (back:Bool) (st:MS) (a8 H:Bs):Bs×Int:=
 if 7<=mode then (if H.length<n then ([],7)else (C5 E D n mode back a8 H,0))
 else if pad=4 then (if H.length%k7 n (k6 mode)=0 then ((f7 E D n (k6 mode) back st H).1,0)else ([],7))
 else if back=false then ((f7 E D n (k6 mode) back st (H9 pad n H)).1,0)
 else if H.length=n then (if E7 pad (f7 E D n (k6 mode) back st H).1=0 then ([],8)else (U7 pad (f7 E D n (k6 mode) back st H).1,0))
 else ([],7)
theorem NR {n L:Nat} (hn:0<n):n*((L-2*n+(n-1))/n)=t8 n L:=by
 unfold t8;by_cases h:2*n<=L
 ·rw[show L-2*n+(n-1)=L-n-1 by omega]
 ·rw[show L-2*n+(n-1)=n-1 by omega,Z0 (by omega),Z0 (by omega)]
theorem mT {E D:Bs->Bs} {n:Nat} {mode pad:Int} {iv M:Bs} {back:Bool} (h:CI E D n) (hn:0<n) (ok:C0 n mode pad iv) {r:Bs×Int}
  (hr:r=eU E D n mode pad back (A2 E D n mode pad back iv M).2 (cR E D n mode pad back iv M) (i9 n mode pad back M)):
  E3 E D n mode pad back iv M=(if r.2=0 then (A2 E D n mode pad back iv M).1++r.1 else [],r.2)/\(r.2≠0->r.1=[]):=by
 obtain⟨f1,f2⟩:=bj (back:=back) hn ok M.length;have lT:=gg (back:=back) (M:=M) h hn ok;have lt:(M.take (q5 n mode pad back M.length)).length=q5 n mode pad back M.length:=by rw[Zg];omega
 have lH:=eV (n:=n) (mode:=mode) (pad:=pad) (back:=back) M;have hd:=Zx M.length n;have hm:=Nat.mod_lt M.length hn;unfold eU at hr;unfold E3;by_cases h7:7<=mode
 ·have e2:k6 mode=2:=if_pos h7;have eF:q5 n mode pad back M.length=t8 n M.length:=by
   unfold q5 B6 y3;rw[e2,if_neg (by decide),if_pos h7];exact NR hn
  have hiv:iv.length=n:=by have:=ok.2.2.2;rw[if_neg (by omega)]at this;exact this
  rw[if_pos h7]at hr;rw[if_pos h7];unfold M0;by_cases hl:M.length<n
  ·have:t8 n M.length=0:=by rw[<-eF];have:=Zo f2;rw[e2,ut]at this;rcases Nat.eq_zero_or_pos (q5 n mode pad back M.length)with h0|h0;exact h0;have:=Jd h0 this;omega
   rw[if_pos (by omega)]at hr;rw[if_pos hl,hr];exact⟨rfl,fun _=>rfl⟩
  ·obtain⟨a1,a2,a3,a4,a5⟩:=iY hn (by omega:n<=M.length);rw[if_neg (by omega)]at hr;rw[if_neg hl,hr];refine⟨?_,fun hh=>absurd rfl hh⟩;simp only[if_true];have e1:A2 E D n mode pad back iv M=f7 E D n 2 back ⟨iv,[],[]⟩ (M.take (t8 n M.length)):=by unfold A2;rw[e2,eF]
   have eL:cR E D n mode pad back iv M=aj n back iv M (f7 E D n 2 back ⟨iv,[],[]⟩ (M.take (t8 n M.length))).1:=by
    unfold cR C1 aj;rw[e1,eF];rw[eF]at lt;rw[lt];by_cases h0:t8 n M.length=0
    ·rw[if_pos h0,if_neg (by omega)]
    ·rw[if_neg h0,if_pos (show 7<=mode/\n<=t8 n M.length from ⟨h7,by omega⟩)];cases back
     ·rfl
     ·simp only[if_true];unfold sub;rw[List.drop_take,show t8 n M.length-(t8 n M.length-n)=n by omega]
   have eH:i9 n mode pad back M=M.drop (t8 n M.length):=by unfold i9;rw[eF]
   rw[eL,e1,eH]
 ·have e2:k6 mode=mode:=if_neg h7;rw[if_neg h7]at hr;rw[if_neg h7];rw[e2]at hr f2;have K0:V4 n mode ⟨iv,[],[]⟩:=dj (by have:=ok.1;omega) ok.2.2.2;by_cases h4:pad=4
  ·rw[if_pos h4]at hr;rw[if_pos h4];have hiff:(i9 n mode pad back M).length%k7 n mode=M.length%k7 n mode:=by
    rw[lH];obtain⟨q,hq⟩:=Zo f2;rw[hq,Nat.sub_mul_mod (by omega)]
   rw[hiff]at hr;by_cases hz:M.length%k7 n mode=0
   ·rw[if_pos hz]at hr;rw[if_pos hz,hr];refine⟨?_,fun hh=>absurd rfl hh⟩;simp only[if_true];have:=qB (E:=E) (D:=D) (mode:=mode) (back:=back) (s:=⟨iv,[],[]⟩) (a:=M.take (q5 n mode pad back M.length)) (b:=i9 n mode pad back M) hn (by rw[lt];exact f2) (by rw[hiff];exact hz);unfold i9 at this ⊢;rw[Zy]at this;unfold A2;rw[this,e2]
   ·rw[if_neg hz]at hr;rw[if_neg hz,hr];exact⟨rfl,fun _=>rfl⟩
  ·have hm2:mode<=2:=ok.2.2.1.resolve_left h4;have gn:k7 n mode=n:=if_pos (by have:=ok.1;omega);rw[gn]at f2;rw[if_neg h4]at hr;rw[if_neg h4];cases back
   ·rw[if_pos rfl]at hr;rw[if_pos rfl,hr];refine⟨?_,fun hh=>absurd rfl hh⟩;simp only[if_true];have eF:q5 n mode pad false M.length=M.length-M.length%n:=by
     unfold q5 B6 y3;rw[e2,gn,if_neg (by omega),if_neg h7,if_neg (by simp)];by_cases hl:n-1<=M.length
     ·rw[Nat.sub_add_cancel hl];omega
     ·rw[show M.length-(n-1)+(n-1)=n-1 by omega,Z0 (by omega),Nat.mod_eq_of_lt (by omega)];omega
    have lp:(H9 pad n (M.drop (M.length-M.length%n))).length=n:=fE (by rw[Ze];omega);rw[eF]at lt f2;unfold L9 A2 i9;rw[e2,eF];rw[qB hn (by rw[lt,gn];exact f2) (by rw[lp,gn,Jh])]
   ·rw[if_neg (by decide)]at hr;rw[if_neg (by decide)];have eF:q5 n mode pad true M.length=n*((M.length-n+(n-1))/n):=by
     unfold q5 B6 y3;rw[e2,gn,if_neg (by omega),if_neg h7,if_pos ⟨h4,rfl⟩]
    have hHn:(i9 n mode pad true M).length=n↔¬(M.length=0\/M.length%n≠0):=by
     rw[lH];rcases Nat.lt_or_ge M.length n with hl|hl
     ·rw[Nat.mod_eq_of_lt hl];have:q5 n mode pad true M.length=0:=by
       rw[eF,Z0 (by omega),Nat.mul_zero]
      omega
     ·constructor
      ·intro he;have:M.length=n+q5 n mode pad true M.length:=by omega
       rw[this,Nat.add_mod_left,f2];omega
      ·intro hno;have hz:M.length%n=0:=Classical.byContradiction fun hh=>hno (.inr hh);obtain⟨q,hq⟩:=Zo hz;have hq0:q≠0:=fun h0=>by rw[h0,Nat.mul_zero]at hq;omega
       obtain⟨p,rfl⟩:∃p,q=p+1:=⟨q-1,by omega⟩;rw[Zq]at hq;rw[eF,hq,Zw,Nat.mul_add_div hn,Z0 (by omega:n-1<n),Ji];omega
    by_cases hb:M.length=0\/M.length%n≠0
    ·rw[if_neg (fun hh=>(hHn.1 hh) hb)]at hr;rw[if_pos hb,hr];exact⟨rfl,fun _=>rfl⟩
    ·have hHl:=hHn.2 hb;rw[if_pos hHl]at hr;rw[if_neg hb];simp only
     have hap:=qB (E:=E) (D:=D) (mode:=mode) (back:=true) (s:=⟨iv,[],[]⟩) (a:=M.take (q5 n mode pad true M.length)) (b:=i9 n mode pad true M) hn (by rw[lt,gn];exact f2) (by rw[hHl,gn,Jh]);have eM:M.take (q5 n mode pad true M.length)++i9 n mode pad true M=M:=by unfold i9;exact Zy _ _
     rw[eM]at hap;have e1:A2 E D n mode pad true iv M=f7 E D n mode true ⟨iv,[],[]⟩ (M.take (q5 n mode pad true M.length)):=by unfold A2;rw[e2]
     rw[<-e1]at hap;have lo:(f7 E D n mode true (A2 E D n mode pad true iv M).2 (i9 n mode pad true M)).1.length=n:=by
      rw[I3 h (by rw[e1];exact uS h hn K0) (by rw[hHl,gn,Jh]),hHl]
     rw[hap];simp only
     generalize (f7 E D n mode true (A2 E D n mode pad true iv M).2 (i9 n mode pad true M)).1=o at*
     generalize (A2 E D n mode pad true iv M).1=T at*
     rw[Zc,lo,Zw,List.drop_left,List.take_left];by_cases hp:E7 pad o=0
     ·rw[if_pos hp]at hr;rw[if_pos hp,hr];exact⟨rfl,fun _=>rfl⟩
     ·rw[if_neg hp]at hr;rw[if_neg hp,hr];exact⟨rfl,fun hh=>absurd rfl hh⟩
theorem P2 {b:Bool} {P:Prop} (h:b=true) (p:P):q7 b P:=by rw[h];exact p
theorem D0 {i:z7} {d:Option Nat} {T:Nat->V} {H Hr:Hp} {id:Id} {b:B} {r:List (Id×B)} (h:H id=some b) (hr:(Hr id).isSome=true) (h2:i.ck d T H Hr r=true):i.ck d T H Hr ((id,b)::r)=true:=by
 unfold z7.ck vB;rw[hr,h2];simp[h]
theorem cM {n:Nat} {va:List Value} {l:Bs} (ha:va=bv l) (hn:l.length=n) (hm:n<=1073741824):a7 C 90 [.z n va] [] (.ret (.o 1 (.k 0) 0 n)) [.sc (bv l)]:=by
 by_cases h0:0<n
 ·exact dB ha hn h0 hm
 ·subst ha;obtain rfl:n=0:=(by omega);obtain rfl:=Zf hn;refine pS.n ?_;refine .inr ⟨?_,?_⟩
  ·exact⟨[(2,1,.sc [])],_,rfl,[.d 900000 0],rfl,⟨_,rfl,rfl⟩,tq⟩
  ·refine⟨rfl,by decide,by decide,?_⟩;exact⟨[],_,rfl,[.d 7 0],rfl,⟨_,rfl,rfl⟩,tq⟩
theorem IZ {t key s k xs rs} (h:i6 t key s k xs rs) {mode pad md:Int} {back:Bool} {iv a8 b:Bs} {st:MS} {x:HK} {m L n0 at':Nat} (hx:x= .n\/∃H,x= .o H) (hb:b.length=m) (hL:x.l.length+m=L) (hLb:L<=100000) (K:MK s md st) (hm:mode<=9)
  (hN:n0=B6 (k7 s md) (y3 s md mode pad back) L) (hat:at'=k7 s md*n0) (hne:0<at'\/st.row=[]):
  a7 C 33 [.p (.k 0) 0,.z m (bv b)] [k9 true t mode pad back k xs iv x a8,f6 (b9 t k xs) md back st 2,g9 st.row st.gone,x.b]
   (.ret (.t [.z at' (bv (f7 (cF t key false) (cF t key true) s md back st ((x.l++b).take at')).1),i64 0]))
   [p9 true true t mode pad back (b9 t k xs) (.z iv.length (bv iv)) (.p (.k 1) 0) (.o 1 (.k 5) 0 (L-at')) (.z (C1 s mode back ((x.l++b).take at') (f7 (cF t key false) (cF t key true) s md back st ((x.l++b).take at')).1 a8).length (bv (C1 s mode back ((x.l++b).take at') (f7 (cF t key false) (cF t key true) s md back st ((x.l++b).take at')).1 a8))),
    f6 (b9 t k xs) md back (f7 (cF t key false) (cF t key true) s md back st ((x.l++b).take at')).2 4,.dead,.dead,g9 (f7 (cF t key false) (cF t key true) s md back st ((x.l++b).take at')).2.row (f7 (cF t key false) (cF t key true) s md back st ((x.l++b).take at')).2.gone,.sc (bv ((x.l++b).drop at'))]:=by
 have hs:=h.s_le;have hg0:0<k7 s md:=by unfold k7;split<;>omega
 have hgm:k7 s md-1<=y3 s md mode pad back:=by
  have:=K.ok.m;unfold k7 y3;by_cases h3:3<=md
  ·rw[if_neg (by omega),if_pos h3];omega
  ·rw[if_pos (by omega),if_neg h3];split<;>(try split)<;>omega
 have hle:=kg (L:=L) hg0 hgm;have a9:=fun i=>bn (most:=y3 s md mode pad back) (L:=L) (i:=i) hg0;rw[<-hN]at hle a9;have G:=mO h (back:=back) K;have hz:at'%k7 s md=0:=by rw[hat];exact Jb _ _
 have lB:(x.l++b).length=L:=by rw[Zc,hb,hL]
 have lT:((x.l++b).take at').length=at':=by rw[Zg];omega
 have lD:((x.l++b).drop at').length=L-at':=by rw[Ze,lB]
 have NE:=fZ (t:=t) (mode:=mode) (pad:=pad) (md:=md) (back:=back) (k:=k) (xs:=xs) (iv:=iv) (a8:=a8) (st:=st) (x:=x);have MO:∀(n':Nat) (vb:List Value),(∃H:Bs,n'=H.length/\vb=bv H)->a7 C 95 [.p (.k 0) 0] [p9 true true t mode pad back (b9 t k xs) (.z iv.length (bv iv)) (.p (.k 1) 0) (.o 1 (.k 3) 0 n') (.z a8.length (bv a8)),f6 (b9 t k xs) md back st 2,g9 st.row st.gone,.sc vb] (.ret (i64 (y3 s md mode pad back))) [p9 true true t mode pad back (b9 t k xs) (.z iv.length (bv iv)) (.p (.k 1) 0) (.o 1 (.k 3) 0 n') (.z a8.length (bv a8)),f6 (b9 t k xs) md back st 2,g9 st.row st.gone,.sc vb]:=by
  rintro _ _ ⟨H,rfl,rfl⟩;exact oN h (mode:=mode) (pad:=pad) (op:=true) (back:=back) (iv:=iv) (a8:=a8) (x:= .o H) K hm
 have TU:=IQ h (op:=true) (back:=back) (pad:=pad) (iv:=iv) (a8:=a8) (H:=x.l++b) (b:=(x.l++b).take at') lT (by omega) K hm hz hne;generalize f7 (cF t key false) (cF t key true) s md back st ((x.l++b).take at')=S0 at*
 obtain⟨o,c1,row1,g1⟩:=S0;dsimp only[k9,HK.v,HK.b]at TU ⊢;rw[lB]at TU;generalize C1 s mode back ((x.l++b).take at') o a8=la at*
 generalize hgr:k7 s md=gr at*
 generalize y3 s md mode pad back=mo at*
 obtain⟨ch,row,g⟩:=st;rcases hx with rfl|⟨H,rfl⟩<;>dsimp only[HK.l,HK.v,HK.b,Zm]at*
 ·have hmL:m=L:=by simpa using hL
  refine gw.d V7 ?_;refine⟨⟨[(0,.p (.k 0) 0),(1,.z m (bv b)),(4,.p (.k 4) 0),(5,.p (.k 5) 0)],[p9 true true t mode pad back (b9 t k xs) (.z iv.length (bv iv)) (.p (.k 1) 0) (g8) (.z a8.length (bv a8)),f6 (b9 t k xs) md back ⟨ch,row,g⟩ 2,g9 row g,.dead,.sc [.slice none 0 0],.sc [.int .i64 0]]⟩,4,5,by decide,⟨[.k 0,.k 1,.k 2,.k 3,.d 4 0,.d 5 0],⟨rfl,rfl,rfl,rfl,tq⟩,⟨_,rfl,rfl⟩,⟨_,rfl,by cases row<;>rfl⟩,⟨_,rfl,by cases row<;>rfl⟩,⟨_,rfl,rfl⟩,⟨_,rfl,rfl⟩,⟨_,rfl,rfl⟩,tq⟩,rfl,rfl,rfl,?_⟩;refine⟨0,Nat,fun i=>⟨[(0,.p (.k 0) 0),(4,.p (.k 4) 0),(5,.p (.k 5) 0),(6,i64 (gr*i:Nat)),(7,i64 mo),(8,i64 gr)],[p9 true true t mode pad back (b9 t k xs) (.z iv.length (bv iv)) (.p (.k 1) 0) (.z L (bv b)) (.z a8.length (bv a8)),f6 (b9 t k xs) md back ⟨ch,row,g⟩ 2,g9 row g,.dead,.sc [.slice none 0 0],.sc [.int .i64 0]]⟩,fun i=>i<=n0,fun i=>n0-i,?_,fun i hi=> ?_⟩
  ·rcases row with _|⟨a,r⟩;all_goals
    refine⟨[.k 0,.k 1,.k 2,.k 3],_,_,_,_,NE,rfl,rfl,?_⟩;refine⟨_,rfl,?_⟩;refine⟨by rw[f9,hb],by omega,?_⟩;refine⟨Za rfl,?_⟩;refine⟨[.k 0,.k 1,.k 2,.d 17 0],_,_,_,_,MO (m) (bv b) ⟨b,hb.symm,rfl⟩,rfl,rfl,?_⟩;refine P2 rfl ?_;refine P2 (D0 rfl rfl (D0 rfl rfl (D0 rfl rfl (D0 rfl rfl rfl)))) ?_;refine⟨_,rfl,?_⟩;refine⟨[.k 1,.k 2],_,_,_,_,G,rfl,rfl,?_⟩;refine⟨[],0,Zt _,[.k 0,.k 1,.k 2,.k 3,.k 4,.k 5],⟨rfl,rfl,rfl,rfl,rfl,rfl,tq⟩,⟨_,rfl,?_⟩,⟨_,rfl,rfl⟩,⟨_,rfl,rfl⟩,⟨_,rfl,rfl⟩,⟨_,rfl,rfl⟩,⟨_,rfl,rfl⟩,tq⟩;show p9 true true t mode pad back (b9 t k xs) (.z iv.length (bv iv)) (.p (.k 1) 0) (.z (m) (sub (bv b) 0 (m))) (.z a8.length (bv a8))=_;rw[b8 hb,hmL]
  ·rcases row with _|⟨a,r⟩<;>rcases row1 with _|⟨a1,r1⟩;all_goals
    have e1:gr*i<=L:=Zv (Zk gr hi) hle;refine⟨_,rfl,?_⟩;refine c9 (fun hc=> ?_) (fun hc=> ?_)
    ·have hc':(mo:Int)<I6.wrap ((L:Int)-((gr*i:Nat):Int)):=hc;rw[Zd _ (by omega)]at hc';have hli:i<n0:=(a9 i).2 (by omega);have hle2:gr*(i+1)<=L:=Zv (Zk gr hli) hle;refine⟨rfl,i+1,hli,Zz _ _ hli,[.k 0,.k 1,.k 2,.k 3,.k 4,.k 5],⟨rfl,rfl,rfl,d7 ?_,rfl,rfl,tq⟩,⟨_,rfl,rfl⟩,⟨_,rfl,rfl⟩,⟨_,rfl,rfl⟩,⟨_,rfl,rfl⟩,⟨_,rfl,rfl⟩,⟨_,rfl,rfl⟩,tq⟩;rw[Zq]at hle2 ⊢;rw[Zd _ (by omega)];omega
    ·have hc':¬(mo:Int)<I6.wrap ((L:Int)-((gr*i:Nat):Int)):=hc;rw[Zd _ (by omega)]at hc';obtain rfl:i=n0:=Z3 hi (Zu fun hh=>by have:=(a9 i).1 hh;omega);refine⟨_,rfl,?_⟩;refine⟨by omega,by omega,by omega,by omega,?_⟩;refine⟨[.k 0,.k 1,.k 2,.k 3],_,_,_,_,TU,?_,rfl,?_⟩
     ·show[V.p (.k 0) 0,V.z ((gr*i:Nat):Int).toNat (sub (bv b) 0 ((gr*i:Nat):Int).toNat)]=_;rw[Zb,<-hat];exact congrArg (fun v=>[V.p (.k 0) 0,V.z at' v]) (l4 _ 0 at')
     refine⟨Za rfl,?_⟩;refine⟨_,rfl,?_⟩;refine⟨by omega,by omega,by omega,by omega,?_⟩;refine⟨[],_,_,_,_,cM (n:=L-at') (l:=b.drop at') rfl lD (by omega),?_,rfl,?_⟩
     ·show[V.z (L-((gr*i:Nat):Int).toNat) (sub (bv b) ((gr*i:Nat):Int).toNat (L-((gr*i:Nat):Int).toNat))]=_;rw[Zb,<-hat,p8 lB (by omega)]
     refine⟨Za rfl,?_⟩;refine⟨_,rfl,?_⟩;refine⟨Za rfl,?_⟩;refine⟨Za rfl,?_⟩;refine⟨_,rfl,_,rfl,?_⟩;refine⟨_,_,?_,.ret (.refl _),F4.refl _⟩;exact⟨_,rfl,[.k 0,.k 1,.k 2,.k 3,.d 46 4,.d 54 0],rfl,⟨_,rfl,rfl⟩,⟨_,rfl,rfl⟩,⟨_,rfl,rfl⟩,⟨_,rfl,rfl⟩,⟨_,rfl,rfl⟩,⟨_,rfl,rfl⟩,tq⟩
 ·refine gw.d V7 ?_;refine⟨⟨[(0,.p (.k 0) 0),(1,.z m (bv b)),(4,.p (.k 4) 0),(5,.p (.k 5) 0)],[p9 true true t mode pad back (b9 t k xs) (.z iv.length (bv iv)) (.p (.k 1) 0) (.o 1 (.k 3) 0 H.length) (.z a8.length (bv a8)),f6 (b9 t k xs) md back ⟨ch,row,g⟩ 2,g9 row g,.sc (bv H),.sc [.slice none 0 0],.sc [.int .i64 0]]⟩,4,5,by decide,⟨[.k 0,.k 1,.k 2,.k 3,.d 4 0,.d 5 0],⟨rfl,rfl,rfl,rfl,tq⟩,⟨_,rfl,rfl⟩,⟨_,rfl,by cases row<;>rfl⟩,⟨_,rfl,by cases row<;>rfl⟩,⟨_,rfl,rfl⟩,⟨_,rfl,rfl⟩,⟨_,rfl,rfl⟩,tq⟩,rfl,rfl,rfl,?_⟩;refine⟨0,Nat,fun i=>⟨[(0,.p (.k 0) 0),(4,.p (.k 4) 0),(5,.p (.k 5) 0),(6,i64 (gr*i:Nat)),(7,i64 mo),(8,i64 gr)],[p9 true true t mode pad back (b9 t k xs) (.z iv.length (bv iv)) (.p (.k 1) 0) (.z L (bv (H++b))) (.z a8.length (bv a8)),f6 (b9 t k xs) md back ⟨ch,row,g⟩ 2,g9 row g,.dead,.sc [.slice none 0 0],.sc [.int .i64 0]]⟩,fun i=>i<=n0,fun i=>n0-i,?_,fun i hi=> ?_⟩
  ·rcases row with _|⟨a,r⟩;all_goals
    refine⟨[.k 0,.k 1,.k 2,.k 3],_,_,_,_,NE,rfl,rfl,?_⟩;refine⟨_,rfl,?_⟩;refine⟨by rw[f9,hb],by omega,by rw[f9];omega,?_⟩;refine⟨Za rfl,?_⟩;refine⟨[.k 0,.k 1,.k 2,.d 17 0],_,_,_,_,MO (H.length+m) (sub (bv H) 0 (H.length*1)++bv b) ⟨(H++b),by rw[Zc,hb],by rw[Zn,b8 rfl,x5]⟩,rfl,rfl,?_⟩;refine P2 rfl ?_;refine P2 (D0 rfl rfl (D0 rfl rfl (D0 rfl rfl (D0 rfl rfl rfl)))) ?_;refine⟨_,rfl,?_⟩;refine⟨[.k 1,.k 2],_,_,_,_,G,rfl,rfl,?_⟩;refine⟨[],0,Zt _,[.k 0,.k 1,.k 2,.k 3,.k 4,.k 5],⟨rfl,rfl,rfl,rfl,rfl,rfl,tq⟩,⟨_,rfl,?_⟩,⟨_,rfl,rfl⟩,⟨_,rfl,rfl⟩,⟨_,rfl,rfl⟩,⟨_,rfl,rfl⟩,⟨_,rfl,rfl⟩,tq⟩;show p9 true true t mode pad back (b9 t k xs) (.z iv.length (bv iv)) (.p (.k 1) 0) (.z (H.length+m) (sub (sub (bv H) 0 (H.length*1)++bv b) 0 (H.length+m))) (.z a8.length (bv a8))=_;rw[Zn,b8 rfl,x5,b8 (by rw[Zc,hb]),hL]
  ·rcases row with _|⟨a,r⟩<;>rcases row1 with _|⟨a1,r1⟩;all_goals
    have e1:gr*i<=L:=Zv (Zk gr hi) hle;refine⟨_,rfl,?_⟩;refine c9 (fun hc=> ?_) (fun hc=> ?_)
    ·have hc':(mo:Int)<I6.wrap ((L:Int)-((gr*i:Nat):Int)):=hc;rw[Zd _ (by omega)]at hc';have hli:i<n0:=(a9 i).2 (by omega);have hle2:gr*(i+1)<=L:=Zv (Zk gr hli) hle;refine⟨rfl,i+1,hli,Zz _ _ hli,[.k 0,.k 1,.k 2,.k 3,.k 4,.k 5],⟨rfl,rfl,rfl,d7 ?_,rfl,rfl,tq⟩,⟨_,rfl,rfl⟩,⟨_,rfl,rfl⟩,⟨_,rfl,rfl⟩,⟨_,rfl,rfl⟩,⟨_,rfl,rfl⟩,⟨_,rfl,rfl⟩,tq⟩;rw[Zq]at hle2 ⊢;rw[Zd _ (by omega)];omega
    ·have hc':¬(mo:Int)<I6.wrap ((L:Int)-((gr*i:Nat):Int)):=hc;rw[Zd _ (by omega)]at hc';obtain rfl:i=n0:=Z3 hi (Zu fun hh=>by have:=(a9 i).1 hh;omega);refine⟨_,rfl,?_⟩;refine⟨by omega,by omega,by omega,by omega,?_⟩;refine⟨[.k 0,.k 1,.k 2,.k 3],_,_,_,_,TU,?_,rfl,?_⟩
     ·show[V.p (.k 0) 0,V.z ((gr*i:Nat):Int).toNat (sub (bv (H++b)) 0 ((gr*i:Nat):Int).toNat)]=_;rw[Zb,<-hat];exact congrArg (fun v=>[V.p (.k 0) 0,V.z at' v]) (l4 _ 0 at')
     refine⟨Za rfl,?_⟩;refine⟨_,rfl,?_⟩;refine⟨by omega,by omega,by omega,by omega,?_⟩;refine⟨[],_,_,_,_,cM (n:=L-at') (l:=(H++b).drop at') rfl lD (by omega),?_,rfl,?_⟩
     ·show[V.z (L-((gr*i:Nat):Int).toNat) (sub (bv (H++b)) ((gr*i:Nat):Int).toNat (L-((gr*i:Nat):Int).toNat))]=_;rw[Zb,<-hat,p8 lB (by omega)]
     refine⟨Za rfl,?_⟩;refine⟨_,rfl,?_⟩;refine⟨Za rfl,?_⟩;refine⟨Za rfl,?_⟩;refine⟨_,rfl,_,rfl,?_⟩;refine⟨_,_,?_,.ret (.refl _),F4.refl _⟩;exact⟨_,rfl,[.k 0,.k 1,.k 2,.k 3,.d 46 4,.d 54 0],rfl,⟨_,rfl,rfl⟩,⟨_,rfl,rfl⟩,⟨_,rfl,rfl⟩,⟨_,rfl,rfl⟩,⟨_,rfl,rfl⟩,⟨_,rfl,rfl⟩,tq⟩
theorem JA {t key s k xs rs} (h:i6 t key s k xs rs) {mode pad md:Int} {back:Bool} {iv a8 b:Bs} {st:MS} {x:HK} {m L n0 at':Nat} (hx:x= .n\/∃H,x= .o H) (hb:b.length=m) (hL:x.l.length+m=L) (hL0:L=0) (h3:3<=md) (K:MK s md st) (hm:mode<=9)
  (hN:n0=B6 (k7 s md) (y3 s md mode pad back) L) (hat:at'=k7 s md*n0):
  a7 C 33 [.p (.k 0) 0,.z m (bv b)] [k9 true t mode pad back k xs iv x a8,f6 (b9 t k xs) md back st 2,g9 st.row st.gone,x.b]
   (.ret (.t [.z 0 [],i64 0]))
   [p9 true true t mode pad back (b9 t k xs) (.z iv.length (bv iv)) (.p (.k 1) 0) (.o 1 (.k 4) 0 0) (.z a8.length (bv a8)),
    f6 (b9 t k xs) md back st 2,g9 st.row st.gone,.dead,.sc []]:=by
 have hs:=h.s_le;have hg0:0<k7 s md:=by unfold k7;split<;>omega
 have hgm:k7 s md-1<=y3 s md mode pad back:=by
  have:=K.ok.m;unfold k7 y3;by_cases h3:3<=md
  ·rw[if_neg (by omega),if_pos h3];omega
  ·rw[if_pos (by omega),if_neg h3];split<;>(try split)<;>omega
 have hLb:L<=100000:=by omega
 have hle:=kg (L:=L) hg0 hgm;have a9:=fun i=>bn (most:=y3 s md mode pad back) (L:=L) (i:=i) hg0;rw[<-hN]at hle a9;have G:=mO h (back:=back) K;have hz:at'%k7 s md=0:=by rw[hat];exact Jb _ _
 have lB:(x.l++b).length=L:=by rw[Zc,hb,hL]
 have lT:((x.l++b).take at').length=at':=by rw[Zg];omega
 have lD:((x.l++b).drop at').length=L-at':=by rw[Ze,lB]
 have NE:=fZ (t:=t) (mode:=mode) (pad:=pad) (md:=md) (back:=back) (k:=k) (xs:=xs) (iv:=iv) (a8:=a8) (st:=st) (x:=x);have MO:∀(n':Nat) (vb:List Value),(∃H:Bs,n'=H.length/\vb=bv H)->a7 C 95 [.p (.k 0) 0] [p9 true true t mode pad back (b9 t k xs) (.z iv.length (bv iv)) (.p (.k 1) 0) (.o 1 (.k 3) 0 n') (.z a8.length (bv a8)),f6 (b9 t k xs) md back st 2,g9 st.row st.gone,.sc vb] (.ret (i64 (y3 s md mode pad back))) [p9 true true t mode pad back (b9 t k xs) (.z iv.length (bv iv)) (.p (.k 1) 0) (.o 1 (.k 3) 0 n') (.z a8.length (bv a8)),f6 (b9 t k xs) md back st 2,g9 st.row st.gone,.sc vb]:=by
  rintro _ _ ⟨H,rfl,rfl⟩;exact oN h (mode:=mode) (pad:=pad) (op:=true) (back:=back) (iv:=iv) (a8:=a8) (x:= .o H) K hm
 have a0:at'=0:=by omega
 have TU:=fun(vb:List Value)=>IT h (op:=true) (back:=back) (pad:=pad) (iv:=iv) (a8:=a8) (H:=x.l++b) (st:=st) (vb:=vb) h3 hm;dsimp only[k9,HK.v,HK.b]at TU ⊢;rw[lB]at TU;generalize hgr:k7 s md=gr at*
 generalize y3 s md mode pad back=mo at*
 obtain⟨ch,row,g⟩:=st;rcases hx with rfl|⟨H,rfl⟩<;>dsimp only[HK.l,HK.v,HK.b,Zm]at*
 ·have hmL:m=L:=by simpa using hL
  refine gw.d V7 ?_;refine⟨⟨[(0,.p (.k 0) 0),(1,.z m (bv b)),(4,.p (.k 4) 0),(5,.p (.k 5) 0)],[p9 true true t mode pad back (b9 t k xs) (.z iv.length (bv iv)) (.p (.k 1) 0) (g8) (.z a8.length (bv a8)),f6 (b9 t k xs) md back ⟨ch,row,g⟩ 2,g9 row g,.dead,.sc [.slice none 0 0],.sc [.int .i64 0]]⟩,4,5,by decide,⟨[.k 0,.k 1,.k 2,.k 3,.d 4 0,.d 5 0],⟨rfl,rfl,rfl,rfl,tq⟩,⟨_,rfl,rfl⟩,⟨_,rfl,by cases row<;>rfl⟩,⟨_,rfl,by cases row<;>rfl⟩,⟨_,rfl,rfl⟩,⟨_,rfl,rfl⟩,⟨_,rfl,rfl⟩,tq⟩,rfl,rfl,rfl,?_⟩;refine⟨0,Nat,fun i=>⟨[(0,.p (.k 0) 0),(4,.p (.k 4) 0),(5,.p (.k 5) 0),(6,i64 (gr*i:Nat)),(7,i64 mo),(8,i64 gr)],[p9 true true t mode pad back (b9 t k xs) (.z iv.length (bv iv)) (.p (.k 1) 0) (.z L (bv b)) (.z a8.length (bv a8)),f6 (b9 t k xs) md back ⟨ch,row,g⟩ 2,g9 row g,.dead,.sc [.slice none 0 0],.sc [.int .i64 0]]⟩,fun i=>i<=n0,fun i=>n0-i,?_,fun i hi=> ?_⟩
  ·rcases row with _|⟨a,r⟩;all_goals
    refine⟨[.k 0,.k 1,.k 2,.k 3],_,_,_,_,NE,rfl,rfl,?_⟩;refine⟨_,rfl,?_⟩;refine⟨by rw[f9,hb],by omega,?_⟩;refine⟨Za rfl,?_⟩;refine⟨[.k 0,.k 1,.k 2,.d 17 0],_,_,_,_,MO (m) (bv b) ⟨b,hb.symm,rfl⟩,rfl,rfl,?_⟩;refine P2 rfl ?_;refine P2 (D0 rfl rfl (D0 rfl rfl (D0 rfl rfl (D0 rfl rfl rfl)))) ?_;refine⟨_,rfl,?_⟩;refine⟨[.k 1,.k 2],_,_,_,_,G,rfl,rfl,?_⟩;refine⟨[],0,Zt _,[.k 0,.k 1,.k 2,.k 3,.k 4,.k 5],⟨rfl,rfl,rfl,rfl,rfl,rfl,tq⟩,⟨_,rfl,?_⟩,⟨_,rfl,rfl⟩,⟨_,rfl,rfl⟩,⟨_,rfl,rfl⟩,⟨_,rfl,rfl⟩,⟨_,rfl,rfl⟩,tq⟩;show p9 true true t mode pad back (b9 t k xs) (.z iv.length (bv iv)) (.p (.k 1) 0) (.z (m) (sub (bv b) 0 (m))) (.z a8.length (bv a8))=_;rw[b8 hb,hmL]
  ·rcases row with _|⟨a,r⟩;all_goals
    have e1:gr*i<=L:=Zv (Zk gr hi) hle;refine⟨_,rfl,?_⟩;refine c9 (fun hc=> ?_) (fun hc=> ?_)
    ·have hc':(mo:Int)<I6.wrap ((L:Int)-((gr*i:Nat):Int)):=hc;rw[Zd _ (by omega)]at hc';have hli:i<n0:=(a9 i).2 (by omega);have hle2:gr*(i+1)<=L:=Zv (Zk gr hli) hle;refine⟨rfl,i+1,hli,Zz _ _ hli,[.k 0,.k 1,.k 2,.k 3,.k 4,.k 5],⟨rfl,rfl,rfl,d7 ?_,rfl,rfl,tq⟩,⟨_,rfl,rfl⟩,⟨_,rfl,rfl⟩,⟨_,rfl,rfl⟩,⟨_,rfl,rfl⟩,⟨_,rfl,rfl⟩,⟨_,rfl,rfl⟩,tq⟩;rw[Zq]at hle2 ⊢;rw[Zd _ (by omega)];omega
    ·have hc':¬(mo:Int)<I6.wrap ((L:Int)-((gr*i:Nat):Int)):=hc;rw[Zd _ (by omega)]at hc';obtain rfl:i=n0:=Z3 hi (Zu fun hh=>by have:=(a9 i).1 hh;omega);refine⟨_,rfl,?_⟩;refine⟨by omega,by omega,by omega,by omega,?_⟩;refine⟨[.k 0,.k 1,.k 2,.k 3],_,_,_,_,TU [],?_,rfl,?_⟩
     ·show[V.p (.k 0) 0,V.z ((gr*i:Nat):Int).toNat (sub (bv b) 0 ((gr*i:Nat):Int).toNat)]=_;rw[Zb,<-hat,a0];rfl
     refine⟨Za rfl,?_⟩;refine⟨_,rfl,?_⟩;refine⟨by omega,by omega,by omega,by omega,?_⟩;refine⟨[],_,_,_,_,cM (n:=L-at') (l:=b.drop at') rfl lD (by omega),?_,rfl,?_⟩
     ·show[V.z (L-((gr*i:Nat):Int).toNat) (sub (bv b) ((gr*i:Nat):Int).toNat (L-((gr*i:Nat):Int).toNat))]=_;rw[Zb,<-hat,p8 lB (by omega)]
     refine⟨Za rfl,?_⟩;refine⟨_,rfl,?_⟩;refine⟨Za rfl,?_⟩;refine⟨Za rfl,?_⟩;refine⟨_,rfl,_,rfl,?_⟩;refine⟨_,_,?_,.ret (.refl _),F4.refl _⟩;refine⟨_,rfl,[.k 0,.k 1,.k 2,.k 3,.d 54 0],rfl,⟨_,rfl,?_⟩,⟨_,rfl,rfl⟩,⟨_,rfl,rfl⟩,⟨_,rfl,rfl⟩,⟨_,rfl,?_⟩,tq⟩
     ·exact congrArg (fun z=>p9 true true t mode pad back (b9 t k xs) (.z iv.length (bv iv)) (.p (.k 1) 0) (.o 1 (.k 4) 0 z) (.z a8.length (bv a8))) (show L-at'=0 by omega)
     ·exact congrArg (fun z=>B.sc (bv z)) (Zf (by rw[lD];omega))
 ·refine gw.d V7 ?_;refine⟨⟨[(0,.p (.k 0) 0),(1,.z m (bv b)),(4,.p (.k 4) 0),(5,.p (.k 5) 0)],[p9 true true t mode pad back (b9 t k xs) (.z iv.length (bv iv)) (.p (.k 1) 0) (.o 1 (.k 3) 0 H.length) (.z a8.length (bv a8)),f6 (b9 t k xs) md back ⟨ch,row,g⟩ 2,g9 row g,.sc (bv H),.sc [.slice none 0 0],.sc [.int .i64 0]]⟩,4,5,by decide,⟨[.k 0,.k 1,.k 2,.k 3,.d 4 0,.d 5 0],⟨rfl,rfl,rfl,rfl,tq⟩,⟨_,rfl,rfl⟩,⟨_,rfl,by cases row<;>rfl⟩,⟨_,rfl,by cases row<;>rfl⟩,⟨_,rfl,rfl⟩,⟨_,rfl,rfl⟩,⟨_,rfl,rfl⟩,tq⟩,rfl,rfl,rfl,?_⟩;refine⟨0,Nat,fun i=>⟨[(0,.p (.k 0) 0),(4,.p (.k 4) 0),(5,.p (.k 5) 0),(6,i64 (gr*i:Nat)),(7,i64 mo),(8,i64 gr)],[p9 true true t mode pad back (b9 t k xs) (.z iv.length (bv iv)) (.p (.k 1) 0) (.z L (bv (H++b))) (.z a8.length (bv a8)),f6 (b9 t k xs) md back ⟨ch,row,g⟩ 2,g9 row g,.dead,.sc [.slice none 0 0],.sc [.int .i64 0]]⟩,fun i=>i<=n0,fun i=>n0-i,?_,fun i hi=> ?_⟩
  ·rcases row with _|⟨a,r⟩;all_goals
    refine⟨[.k 0,.k 1,.k 2,.k 3],_,_,_,_,NE,rfl,rfl,?_⟩;refine⟨_,rfl,?_⟩;refine⟨by rw[f9,hb],by omega,by rw[f9];omega,?_⟩;refine⟨Za rfl,?_⟩;refine⟨[.k 0,.k 1,.k 2,.d 17 0],_,_,_,_,MO (H.length+m) (sub (bv H) 0 (H.length*1)++bv b) ⟨(H++b),by rw[Zc,hb],by rw[Zn,b8 rfl,x5]⟩,rfl,rfl,?_⟩;refine P2 rfl ?_;refine P2 (D0 rfl rfl (D0 rfl rfl (D0 rfl rfl (D0 rfl rfl rfl)))) ?_;refine⟨_,rfl,?_⟩;refine⟨[.k 1,.k 2],_,_,_,_,G,rfl,rfl,?_⟩;refine⟨[],0,Zt _,[.k 0,.k 1,.k 2,.k 3,.k 4,.k 5],⟨rfl,rfl,rfl,rfl,rfl,rfl,tq⟩,⟨_,rfl,?_⟩,⟨_,rfl,rfl⟩,⟨_,rfl,rfl⟩,⟨_,rfl,rfl⟩,⟨_,rfl,rfl⟩,⟨_,rfl,rfl⟩,tq⟩;show p9 true true t mode pad back (b9 t k xs) (.z iv.length (bv iv)) (.p (.k 1) 0) (.z (H.length+m) (sub (sub (bv H) 0 (H.length*1)++bv b) 0 (H.length+m))) (.z a8.length (bv a8))=_;rw[Zn,b8 rfl,x5,b8 (by rw[Zc,hb]),hL]
  ·rcases row with _|⟨a,r⟩;all_goals
    have e1:gr*i<=L:=Zv (Zk gr hi) hle;refine⟨_,rfl,?_⟩;refine c9 (fun hc=> ?_) (fun hc=> ?_)
    ·have hc':(mo:Int)<I6.wrap ((L:Int)-((gr*i:Nat):Int)):=hc;rw[Zd _ (by omega)]at hc';have hli:i<n0:=(a9 i).2 (by omega);have hle2:gr*(i+1)<=L:=Zv (Zk gr hli) hle;refine⟨rfl,i+1,hli,Zz _ _ hli,[.k 0,.k 1,.k 2,.k 3,.k 4,.k 5],⟨rfl,rfl,rfl,d7 ?_,rfl,rfl,tq⟩,⟨_,rfl,rfl⟩,⟨_,rfl,rfl⟩,⟨_,rfl,rfl⟩,⟨_,rfl,rfl⟩,⟨_,rfl,rfl⟩,⟨_,rfl,rfl⟩,tq⟩;rw[Zq]at hle2 ⊢;rw[Zd _ (by omega)];omega
    ·have hc':¬(mo:Int)<I6.wrap ((L:Int)-((gr*i:Nat):Int)):=hc;rw[Zd _ (by omega)]at hc';obtain rfl:i=n0:=Z3 hi (Zu fun hh=>by have:=(a9 i).1 hh;omega);refine⟨_,rfl,?_⟩;refine⟨by omega,by omega,by omega,by omega,?_⟩;refine⟨[.k 0,.k 1,.k 2,.k 3],_,_,_,_,TU [],?_,rfl,?_⟩
     ·show[V.p (.k 0) 0,V.z ((gr*i:Nat):Int).toNat (sub (bv (H++b)) 0 ((gr*i:Nat):Int).toNat)]=_;rw[Zb,<-hat,a0];rfl
     refine⟨Za rfl,?_⟩;refine⟨_,rfl,?_⟩;refine⟨by omega,by omega,by omega,by omega,?_⟩;refine⟨[],_,_,_,_,cM (n:=L-at') (l:=(H++b).drop at') rfl lD (by omega),?_,rfl,?_⟩
     ·show[V.z (L-((gr*i:Nat):Int).toNat) (sub (bv (H++b)) ((gr*i:Nat):Int).toNat (L-((gr*i:Nat):Int).toNat))]=_;rw[Zb,<-hat,p8 lB (by omega)]
     refine⟨Za rfl,?_⟩;refine⟨_,rfl,?_⟩;refine⟨Za rfl,?_⟩;refine⟨Za rfl,?_⟩;refine⟨_,rfl,_,rfl,?_⟩;refine⟨_,_,?_,.ret (.refl _),F4.refl _⟩;refine⟨_,rfl,[.k 0,.k 1,.k 2,.k 3,.d 54 0],rfl,⟨_,rfl,?_⟩,⟨_,rfl,rfl⟩,⟨_,rfl,rfl⟩,⟨_,rfl,rfl⟩,⟨_,rfl,?_⟩,tq⟩
     ·exact congrArg (fun z=>p9 true true t mode pad back (b9 t k xs) (.z iv.length (bv iv)) (.p (.k 1) 0) (.o 1 (.k 4) 0 z) (.z a8.length (bv a8))) (show L-at'=0 by omega)
     ·exact congrArg (fun z=>B.sc (bv z)) (Zf (by rw[lD];omega))
theorem cO {t mode pad md:Int} {op back:Bool} {k:Nat} {xs:List V} {iv a8:Bs} {st:MS} (hm:mode<=9):a7 C 158 [.p (.k 0) 0] [k9 op t mode pad back k xs iv .n a8,f6 (b9 t k xs) md back st 2,g9 st.row st.gone] (.ret (bool (decide (7<=mode)))) [k9 op t mode pad back k xs iv .n a8,f6 (b9 t k xs) md back st 2,g9 st.row st.gone]:=by
 obtain⟨ch,row,g⟩:=st;rcases row with _|⟨a,r⟩;all_goals
  refine pN.c ?_;refine⟨_,rfl,?_⟩;refine c9 (fun h7=> ?_) (fun h7=> ?_)
  ·refine⟨_,rfl,?_⟩;refine⟨_,rfl,[.k 0,.k 1,.k 2],?_,⟨_,rfl,rfl⟩,⟨_,rfl,rfl⟩,⟨_,rfl,rfl⟩,tq⟩;exact congrArg bool (by rw[decide_eq_true hm,decide_eq_true h7])
  ·refine⟨_,rfl,[.k 0,.k 1,.k 2],?_,⟨_,rfl,rfl⟩,⟨_,rfl,rfl⟩,⟨_,rfl,rfl⟩,tq⟩;exact congrArg bool (by rw[decide_eq_false h7])
theorem oO {t key s k xs rs} (h:i6 t key s k xs rs) {mode pad md:Int} {op back:Bool} {iv a8 b:Bs} {st:MS} {m:Nat} (hb:b.length=m) (hmb:m<=100000) (K:MK s md st) (hm:mode<=9) (hg:m%k7 s md=0) (hne:0<m\/st.row=[]):
  a7 C 97 [.p (.k 0) 0,.z m (bv b)] [k9 op t mode pad back k xs iv .n a8,f6 (b9 t k xs) md back st 2,g9 st.row st.gone]
   (.ret (.z m (bv (f7 (cF t key false) (cF t key true) s md back st b).1)))
   [k9 op t mode pad back k xs iv .n (C1 s mode back b (f7 (cF t key false) (cF t key true) s md back st b).1 a8),f6 (b9 t k xs) md back (f7 (cF t key false) (cF t key true) s md back st b).2 3,.dead,g9 (f7 (cF t key false) (cF t key true) s md back st b).2.row (f7 (cF t key false) (cF t key true) s md back st b).2.gone]:=by
 have hs:=h.s_le;have lo:(f7 (cF t key false) (cF t key true) s md back st b).1.length=m:=by rw[I3 h.ci K.ok (by rw[hb];exact hg),hb]
 have T0:=iQ h (back:=back) (st:=st) (b:=b) rfl hb (by omega) K hg hne;have S:=fun(st':MS)=>cO (t:=t) (mode:=mode) (pad:=pad) (md:=md) (op:=op) (back:=back) (k:=k) (xs:=xs) (iv:=iv) (a8:=a8) (st:=st') hm;generalize f7 (cF t key false) (cF t key true) s md back st b=S0 at*
 obtain⟨o,st1⟩:=S0;have S1:=S st1;obtain⟨c1,row1,g1⟩:=st1;dsimp only at T0 lo ⊢;have eS:I6.wrap ((m:Int)-(s:Int))=(m:Int)-s:=Zd _ (by omega);by_cases hL:7<=mode/\s<=m
 ·have eL:C1 s mode back b o a8=(if back then b else o).drop (m-s):=by unfold C1;rw[hb,if_pos hL]
  rw[eL];cases back;all_goals
   obtain⟨ch,row,g⟩:=st;rcases row with _|⟨a,r⟩<;>rcases row1 with _|⟨a1,r1⟩
  all_goals
   refine dR.c ?_;refine⟨_,rfl,?_⟩;refine⟨[.k 1,.k 2],_,_,_,_,T0,rfl,rfl,?_⟩;refine⟨[],_,_,_,_,bU,rfl,rfl,?_⟩;refine⟨_,rfl,?_⟩;refine⟨[],_,_,_,_,h.size,rfl,rfl,?_⟩;refine⟨[.k 0,.k 1,.d 15 2],_,_,_,_,S1,rfl,rfl,?_⟩;refine c9 (fun h7=> ?_) (fun h7=>absurd hL.1 h7);refine c9 (fun h7=> ?_) (fun h7=>absurd hL.2 (by omega));refine⟨_,rfl,?_⟩;refine⟨by rw[eS];omega,by rw[eS];omega,by omega,by omega,?_⟩;first
    |refine⟨[],_,_,_,_,aw (n:=s) (l:=o.drop (m-s)) (va:=bv (o.drop (m-s))) rfl (by rw[Ze,lo];omega) (by omega),?_,rfl,?_⟩
     ·show[V.z (m-(I6.wrap ((m:Int)-(s:Int))).toNat) (sub (bv o) (I6.wrap ((m:Int)-(s:Int))).toNat (m-(I6.wrap ((m:Int)-(s:Int))).toNat))]=_;rw[eS,show((m:Int)-s).toNat=m-s by omega,p8 lo (by omega),show m-(m-s)=s by omega]
     refine⟨Za rfl,?_⟩;refine⟨_,rfl,[.k 0,.k 1,.k 2,.d 15 2],rfl,⟨_,rfl,?_⟩,⟨_,rfl,rfl⟩,⟨_,rfl,rfl⟩,⟨_,rfl,rfl⟩,tq⟩;have ll:(o.drop (m-s)).length=s:=by rw[Ze,lo];omega
     show _=k9 op t mode pad false k xs iv .n (o.drop (m-s));unfold k9;rw[ll];rfl
    |refine⟨[],_,_,_,_,aw (n:=s) (l:=b.drop (m-s)) (va:=bv (b.drop (m-s))) rfl (by rw[Ze,hb];omega) (by omega),?_,rfl,?_⟩
     ·show[V.z (m-(I6.wrap ((m:Int)-(s:Int))).toNat) (sub (bv b) (I6.wrap ((m:Int)-(s:Int))).toNat (m-(I6.wrap ((m:Int)-(s:Int))).toNat))]=_;rw[eS,show((m:Int)-s).toNat=m-s by omega,p8 hb (by omega),show m-(m-s)=s by omega]
     refine⟨Za rfl,?_⟩;refine⟨_,rfl,[.k 0,.k 1,.k 2,.d 15 2],rfl,⟨_,rfl,?_⟩,⟨_,rfl,rfl⟩,⟨_,rfl,rfl⟩,⟨_,rfl,rfl⟩,tq⟩;have ll:(b.drop (m-s)).length=s:=by rw[Ze,hb];omega
     show _=k9 op t mode pad true k xs iv .n (b.drop (m-s));unfold k9;rw[ll];rfl
 ·have eL:C1 s mode back b o a8=a8:=by unfold C1;rw[hb,if_neg hL]
  rw[eL];obtain⟨ch,row,g⟩:=st;rcases row with _|⟨a,r⟩<;>rcases row1 with _|⟨a1,r1⟩;all_goals
   refine dR.c ?_;refine⟨_,rfl,?_⟩;refine⟨[.k 1,.k 2],_,_,_,_,T0,rfl,rfl,?_⟩;refine⟨[],_,_,_,_,bU,rfl,rfl,?_⟩;refine⟨_,rfl,?_⟩;refine⟨[],_,_,_,_,h.size,rfl,rfl,?_⟩;refine⟨[.k 0,.k 1,.d 15 2],_,_,_,_,S1,rfl,rfl,?_⟩;refine c9 (fun h7=> ?_) (fun h7=> ?_)
   ·refine c9 (fun h8=>absurd ⟨h7,by omega⟩ hL) (fun h8=> ?_);exact⟨_,rfl,[.k 0,.k 1,.k 2,.d 15 2],rfl,⟨_,rfl,rfl⟩,⟨_,rfl,rfl⟩,⟨_,rfl,rfl⟩,⟨_,rfl,rfl⟩,tq⟩
   ·exact⟨_,rfl,[.k 0,.k 1,.k 2,.d 15 2],rfl,⟨_,rfl,rfl⟩,⟨_,rfl,rfl⟩,⟨_,rfl,rfl⟩,⟨_,rfl,rfl⟩,tq⟩
theorem IU {t key s k xs rs} (h:i6 t key s k xs rs) {mode pad md:Int} {op back:Bool} {iv a8:Bs} {st:MS} {vb:List Value} (h3:3<=md) (hm:mode<=9):
  a7 C 97 [.p (.k 0) 0,.z 0 vb] [k9 op t mode pad back k xs iv .n a8,f6 (b9 t k xs) md back st 2,g9 st.row st.gone]
   (.ret (.z 0 [])) [k9 op t mode pad back k xs iv .n a8,f6 (b9 t k xs) md back st 2,g9 st.row st.gone]:=by
 have hs:=h.s_le;have T0:=zx h (back:=back) (st:=st) (vb:=vb) h3;have S:=cO (t:=t) (mode:=mode) (pad:=pad) (md:=md) (op:=op) (back:=back) (k:=k) (xs:=xs) (iv:=iv) (a8:=a8) (st:=st) hm;obtain⟨ch,row,g⟩:=st;rcases row with _|⟨a,r⟩;all_goals
  refine dR.c ?_;refine⟨_,rfl,?_⟩;refine⟨[.k 1,.k 2],_,_,_,_,T0,rfl,rfl,?_⟩;refine⟨[],_,_,_,_,bU,rfl,rfl,?_⟩;refine⟨_,rfl,?_⟩;refine⟨[],_,_,_,_,h.size,rfl,rfl,?_⟩;refine⟨[.k 0,.k 1,.k 2],_,_,_,_,S,rfl,rfl,?_⟩;refine c9 (fun h7=> ?_) (fun h7=> ?_)
  ·refine c9 (fun h8=>absurd h8 (by omega)) (fun h8=> ?_);exact⟨_,rfl,[.k 0,.k 1,.k 2],rfl,⟨_,rfl,rfl⟩,⟨_,rfl,rfl⟩,⟨_,rfl,rfl⟩,tq⟩
  ·exact⟨_,rfl,[.k 0,.k 1,.k 2],rfl,⟨_,rfl,rfl⟩,⟨_,rfl,rfl⟩,⟨_,rfl,rfl⟩,tq⟩
theorem IY {t key s k xs rs} (h:i6 t key s k xs rs) {mode pad md:Int} {op back:Bool} {iv a8:Bs} {st:MS} {m:Nat} {vb:List Value} (K:MK s md st) (hg:m%k7 s md≠0):
  a7 C 97 [.p (.k 0) 0,.z m vb] [k9 op t mode pad back k xs iv .n a8,f6 (b9 t k xs) md back st 2,g9 st.row st.gone]
   (.pan (.i ak (i64 7))) [k9 op t mode pad back k xs iv .n a8,f6 (b9 t k xs) md back st 2,g9 st.row st.gone]:=by
 have T0:=tp h (back:=back) (st:=st) (vb:=vb) K hg;obtain⟨ch,row,g⟩:=st;rcases row with _|⟨a,r⟩;all_goals
  refine dR.c ?_;refine⟨_,rfl,?_⟩;refine⟨[.k 1,.k 2],_,_,_,_,T0,rfl,rfl,?_⟩;refine⟨[],_,_,_,_,pb (e:=7) (by decide),rfl,rfl,?_⟩;exact⟨_,rfl,[.k 0,.k 1,.k 2],rfl,⟨_,rfl,rfl⟩,⟨_,rfl,rfl⟩,⟨_,rfl,rfl⟩,tq⟩
theorem ID {t key s k xs rs} (h:i6 t key s k xs rs) {mode pad md:Int} {back:Bool} {iv a8 H:Bs} {st:MS} {m:Nat} (hl:a8.length=s) (hH:H.length=m) (hm:7<=mode/\mode<=9) (h1:s<=m) (h2:m<=2*s):
  a7 C 98 [.p (.k 0) 0,.z m (bv H)] [k9 false t mode pad back k xs iv .n a8,f6 (b9 t k xs) md back st 2,g9 st.row st.gone] (.ret (.z m (bv (C5 (cF t key false) (cF t key true) s mode back a8 H)))) [k9 false t mode pad back k xs iv .n a8,f6 (b9 t k xs) md back st 2,g9 st.row st.gone]:=by
 have T0:a7 C 116 [b9 t k xs,i64 mode,bool back,.z a8.length (bv a8),.z m (bv H)] [] (A8 m) [.sc (bv (C5 (cF t key false) (cF t key true) s mode back a8 H))]:=by
  rw[hl];exact pi h rfl rfl hl hH hm h1 h2
 have lo:(C5 (cF t key false) (cF t key true) s mode back a8 H).length=m:=by rw[stT_len h.ci hl (by omega) (by omega),hH]
 have S:=cO (t:=t) (mode:=mode) (pad:=pad) (md:=md) (op:=false) (back:=back) (k:=k) (xs:=xs) (iv:=iv) (a8:=a8) (st:=st) hm.2;obtain⟨ch,row,g⟩:=st;rcases row with _|⟨a,r⟩;all_goals
  refine fb.c ?_;refine⟨_,rfl,?_⟩;refine⟨[],_,_,_,_,h.size,rfl,rfl,?_⟩;refine⟨[.k 0,.k 1,.k 2],_,_,_,_,S,rfl,rfl,?_⟩;refine c9 (fun h7=> ?_) (fun h7=>absurd hm.1 h7);refine⟨_,rfl,?_⟩;refine⟨_,rfl,?_⟩;refine⟨_,rfl,?_⟩;refine⟨_,rfl,?_⟩;refine⟨[],_,_,_,_,T0,rfl,rfl,?_⟩;refine⟨[],_,_,_,_,bU,rfl,rfl,?_⟩;refine⟨_,rfl,[.k 0,.k 1,.k 2],?_,⟨_,rfl,rfl⟩,⟨_,rfl,rfl⟩,⟨_,rfl,rfl⟩,tq⟩;exact congrArg (V.z m) (b8 lo)
theorem IE {t key s k xs rs} (h:i6 t key s k xs rs) {mode pad md:Int} {back:Bool} {iv a8 H:Bs} {st:MS} {m:Nat} (hl:a8.length=s) (hH:H.length=m) (hm:7<=mode/\mode<=9) (h1:m<s):
  a7 C 98 [.p (.k 0) 0,.z m (bv H)] [k9 false t mode pad back k xs iv .n a8,f6 (b9 t k xs) md back st 2,g9 st.row st.gone] (.pan (.i ak (i64 7))) [k9 false t mode pad back k xs iv .n a8,f6 (b9 t k xs) md back st 2,g9 st.row st.gone]:=by
 have hs:=h.s_le;have e7:nP s mode a8 H=7:=by unfold nP;rw[if_neg (by omega),if_neg (by omega),if_pos (by omega)]
 have T0:=ME h (l:=a8.length) (m:=m) (vl:=bv a8) (vb:=bv H) (mode:=mode) (back:=back) rfl hH (by omega) (by rw[e7];decide);rw[e7]at T0;have S:=cO (t:=t) (mode:=mode) (pad:=pad) (md:=md) (op:=false) (back:=back) (k:=k) (xs:=xs) (iv:=iv) (a8:=a8) (st:=st) hm.2;obtain⟨ch,row,g⟩:=st;rcases row with _|⟨a,r⟩;all_goals
  refine fb.c ?_;refine⟨_,rfl,?_⟩;refine⟨[],_,_,_,_,h.size,rfl,rfl,?_⟩;refine⟨[.k 0,.k 1,.k 2],_,_,_,_,S,rfl,rfl,?_⟩;refine c9 (fun h7=> ?_) (fun h7=>absurd hm.1 h7);refine⟨_,rfl,?_⟩;refine⟨_,rfl,?_⟩;refine⟨_,rfl,?_⟩;refine⟨_,rfl,?_⟩;refine⟨[],_,_,_,_,T0,rfl,rfl,?_⟩;refine⟨[],_,_,_,_,pb (e:=7) (by decide),rfl,rfl,?_⟩;exact⟨_,rfl,[.k 0,.k 1,.k 2],rfl,⟨_,rfl,rfl⟩,⟨_,rfl,rfl⟩,⟨_,rfl,rfl⟩,tq⟩
theorem Iy {t key s k xs rs} (h:i6 t key s k xs rs) {mode pad md:Int} {back:Bool} {iv a8 H:Bs} {st:MS} {m:Nat} (hH:H.length=m) (hmb:m<=100000) (K:MK s md st) (hm:mode<=6) (h4:pad=4) (hg:m%k7 s md=0) (hne:0<m\/st.row=[]):
  a7 C 98 [.p (.k 0) 0,.z m (bv H)] [k9 false t mode pad back k xs iv .n a8,f6 (b9 t k xs) md back st 2,g9 st.row st.gone] (.ret (.z m (bv (f7 (cF t key false) (cF t key true) s md back st H).1)))
   [k9 false t mode pad back k xs iv .n (C1 s mode back H (f7 (cF t key false) (cF t key true) s md back st H).1 a8),f6 (b9 t k xs) md back (f7 (cF t key false) (cF t key true) s md back st H).2 3,.dead,g9 (f7 (cF t key false) (cF t key true) s md back st H).2.row (f7 (cF t key false) (cF t key true) s md back st H).2.gone]:=by
 have S:=cO (t:=t) (mode:=mode) (pad:=pad) (md:=md) (op:=false) (back:=back) (k:=k) (xs:=xs) (iv:=iv) (a8:=a8) (st:=st) (by omega);have TU:=oO h (op:=false) (back:=back) (pad:=pad) (iv:=iv) (a8:=a8) (b:=H) hH hmb K (mode:=mode) (by omega) hg hne;generalize f7 (cF t key false) (cF t key true) s md back st H=S0 at*
 obtain⟨o,c1,row1,g1⟩:=S0;obtain⟨ch,row,g⟩:=st;rcases row with _|⟨a,r⟩<;>rcases row1 with _|⟨a1,r1⟩;all_goals
  refine fb.c ?_;refine⟨_,rfl,?_⟩;refine⟨[],_,_,_,_,h.size,rfl,rfl,?_⟩;refine⟨[.k 0,.k 1,.k 2],_,_,_,_,S,rfl,rfl,?_⟩;refine c9 (fun h7=>absurd h7 (by omega)) (fun h7=> ?_);refine⟨_,rfl,?_⟩;refine j7 (fun _=> ?_) (fun hh=>absurd h4 hh);refine⟨[.k 0,.k 1,.k 2],_,_,_,_,TU,rfl,rfl,?_⟩;exact⟨_,rfl,[.k 0,.k 1,.k 2,.d 53 3],rfl,⟨_,rfl,rfl⟩,⟨_,rfl,rfl⟩,⟨_,rfl,rfl⟩,⟨_,rfl,rfl⟩,tq⟩
theorem Iz {t key s k xs rs} (h:i6 t key s k xs rs) {mode pad md:Int} {back:Bool} {iv a8 H:Bs} {st:MS} {m:Nat} (hm0:m=0) (h3:3<=md) (hm:mode<=6) (h4:pad=4):
  a7 C 98 [.p (.k 0) 0,.z m (bv H)] [k9 false t mode pad back k xs iv .n a8,f6 (b9 t k xs) md back st 2,g9 st.row st.gone] (.ret (.z 0 [])) [k9 false t mode pad back k xs iv .n a8,f6 (b9 t k xs) md back st 2,g9 st.row st.gone]:=by
 subst hm0;have S:=cO (t:=t) (mode:=mode) (pad:=pad) (md:=md) (op:=false) (back:=back) (k:=k) (xs:=xs) (iv:=iv) (a8:=a8) (st:=st) (by omega);have TU:=IU h (op:=false) (back:=back) (pad:=pad) (iv:=iv) (a8:=a8) (mode:=mode) (st:=st) (vb:=bv H) h3 (by omega);obtain⟨ch,row,g⟩:=st;rcases row with _|⟨a,r⟩;all_goals
  refine fb.c ?_;refine⟨_,rfl,?_⟩;refine⟨[],_,_,_,_,h.size,rfl,rfl,?_⟩;refine⟨[.k 0,.k 1,.k 2],_,_,_,_,S,rfl,rfl,?_⟩;refine c9 (fun h7=>absurd h7 (by omega)) (fun h7=> ?_);refine⟨_,rfl,?_⟩;refine j7 (fun _=> ?_) (fun hh=>absurd h4 hh);refine⟨[.k 0,.k 1,.k 2],_,_,_,_,TU,rfl,rfl,?_⟩;exact⟨_,rfl,[.k 0,.k 1,.k 2],rfl,⟨_,rfl,rfl⟩,⟨_,rfl,rfl⟩,⟨_,rfl,rfl⟩,tq⟩
theorem IB {t key s k xs rs} (h:i6 t key s k xs rs) {mode pad md:Int} {back:Bool} {iv a8 H:Bs} {st:MS} {m:Nat} (K:MK s md st) (hm:mode<=6) (h4:pad=4) (hg:m%k7 s md≠0):
  a7 C 98 [.p (.k 0) 0,.z m (bv H)] [k9 false t mode pad back k xs iv .n a8,f6 (b9 t k xs) md back st 2,g9 st.row st.gone] (.pan (.i ak (i64 7))) [k9 false t mode pad back k xs iv .n a8,f6 (b9 t k xs) md back st 2,g9 st.row st.gone]:=by
 have S:=cO (t:=t) (mode:=mode) (pad:=pad) (md:=md) (op:=false) (back:=back) (k:=k) (xs:=xs) (iv:=iv) (a8:=a8) (st:=st) (by omega);have TU:=IY h (op:=false) (back:=back) (pad:=pad) (iv:=iv) (a8:=a8) (mode:=mode) (m:=m) (vb:=bv H) K hg;obtain⟨ch,row,g⟩:=st;rcases row with _|⟨a,r⟩;all_goals
  refine fb.c ?_;refine⟨_,rfl,?_⟩;refine⟨[],_,_,_,_,h.size,rfl,rfl,?_⟩;refine⟨[.k 0,.k 1,.k 2],_,_,_,_,S,rfl,rfl,?_⟩;refine c9 (fun h7=>absurd h7 (by omega)) (fun h7=> ?_);refine⟨_,rfl,?_⟩;refine j7 (fun _=> ?_) (fun hh=>absurd h4 hh);refine⟨[.k 0,.k 1,.k 2],_,_,_,_,TU,rfl,rfl,?_⟩;exact⟨_,rfl,[.k 0,.k 1,.k 2],rfl,⟨_,rfl,rfl⟩,⟨_,rfl,rfl⟩,⟨_,rfl,rfl⟩,tq⟩
theorem IC {t key s k xs rs} (h:i6 t key s k xs rs) {mode pad md:Int} {back:Bool} {iv a8 H:Bs} {st:MS} {m:Nat} (hb:back=false) (hH:H.length=m) (hms:m<s) (K:MK s md st) (hm:mode<=6) (hp:pad=1\/pad=2\/pad=3) (hgr:k7 s md=s):
  a7 C 98 [.p (.k 0) 0,.z m (bv H)] [k9 false t mode pad back k xs iv .n a8,f6 (b9 t k xs) md back st 2,g9 st.row st.gone] (.ret (.z s (bv (f7 (cF t key false) (cF t key true) s md back st (H9 pad s H)).1)))
   [k9 false t mode pad back k xs iv .n (C1 s mode back (H9 pad s H) (f7 (cF t key false) (cF t key true) s md back st (H9 pad s H)).1 a8),f6 (b9 t k xs) md back (f7 (cF t key false) (cF t key true) s md back st (H9 pad s H)).2 3,.dead,g9 (f7 (cF t key false) (cF t key true) s md back st (H9 pad s H)).2.row (f7 (cF t key false) (cF t key true) s md back st (H9 pad s H)).2.gone]:=by
 subst hb;have hs:=h.s_le;have lp:(H9 pad s H).length=s:=fE (by omega);have PA:=yE (vt:=bv H) hp h.s_two rfl hH hms;have S:=cO (t:=t) (mode:=mode) (pad:=pad) (md:=md) (op:=false) (back:=false) (k:=k) (xs:=xs) (iv:=iv) (a8:=a8) (st:=st) (by omega);have TU:=oO h (op:=false) (back:=false) (pad:=pad) (iv:=iv) (a8:=a8) (b:=H9 pad s H) lp (by omega) K (mode:=mode) (by omega) (by rw[hgr,Jh]) (.inl (by omega));generalize H9 pad s H=P at*
 generalize f7 (cF t key false) (cF t key true) s md false st P=S0 at*
 obtain⟨o,c1,row1,g1⟩:=S0;obtain⟨ch,row,g⟩:=st;rcases row with _|⟨a,r⟩<;>rcases row1 with _|⟨a1,r1⟩;all_goals
  refine fb.c ?_;refine⟨_,rfl,?_⟩;refine⟨[],_,_,_,_,h.size,rfl,rfl,?_⟩;refine⟨[.k 0,.k 1,.k 2],_,_,_,_,S,rfl,rfl,?_⟩;refine c9 (fun h7=>absurd h7 (by omega)) (fun h7=> ?_);refine⟨_,rfl,?_⟩;refine j7 (fun hh=>absurd hh (by omega)) (fun _=> ?_);refine⟨_,rfl,?_⟩;refine⟨_,rfl,?_⟩;refine⟨[],_,_,_,_,PA,rfl,rfl,?_⟩;refine⟨[],_,_,_,_,bU,rfl,rfl,?_⟩;refine⟨[.k 0,.k 1,.k 2],_,_,_,_,TU,?_,rfl,?_⟩
  ·exact congrArg (fun v=>[V.p (.k 0) 0,V.z s v]) (b8 lp)
  exact⟨_,rfl,[.k 0,.k 1,.k 2,.d 75 3],rfl,⟨_,rfl,rfl⟩,⟨_,rfl,rfl⟩,⟨_,rfl,rfl⟩,⟨_,rfl,rfl⟩,tq⟩
end Go.Scr
