/-
  What the functions of the given program reckon, each by a contract, up to the law. It is no claim by itself; each contract bears its own conditions.
-/
import Derived.Test.YtmgldmininkdfaaGreatDoorY2
set_option linter.unusedVariables false
set_option linter.unusedSimpArgs false
set_option maxRecDepth 100000
namespace Go.Scr
open Go.Proofs
open Nat renaming le_of_ble_eq_true → Za, le_refl → Zf, mul_one → Zj, zero_add → Zk, div_add_mod → Zo, lt_of_mul_lt_mul_left → Zu, mul_succ → Zv, zero_le → Zx, sub_zero → Zy, mul_le_mul_left → Zz, mul_div_cancel_left → Z1, sub_self → Z3, dvd_of_mod_eq_zero → Z4, div_mul_le_self → Z8, add_sub_cancel → Z9, add_sub_cancel_left → Je, add_zero → Jf
open Int renaming toNat_natCast → Zb, tmod_eq_emod_of_nonneg → Zi, emod_eq_of_lt → Z5, tdiv_eq_ediv_of_nonneg → Jb, ofNat_inj → Jd, tmod_one → Ji
open List renaming length_append → Zc, length_drop → Ze, length_replicate → Zg, replicate → Zh, getD_eq_getElem?_getD → Zl, eq_nil_of_length_eq_zero → Zm, nil_append → Zn, length_map → Zp, take_of_length_le → Zq, length_take → Zs, set_append_right → Zt, length_eq_zero_iff → Zw, getElem?_eq_getElem → Z0, getElem?_replicate → Z2, replicate_succ' → Z6, drop_drop → Ja, map_append → Jg, length_singleton → Jh, map → Jj
open IntWalk renaming i64_in → Zd
open UInt8 renaming ofNat → Zr, toNat_inj → Z7
open Option renaming isSome_iff_exists → Jc
open Go.IntKind renaming i64 → I6, u8 → U8
theorem c_byteF {t key s k xs rs} (h:Ciph t key s k xs rs) {mode:Int} {back:Bool} {ch0 g0:Bs} {i0:Nat} {p:UInt8} (hl:ch0.length=s):
  Con C N.modes_Mode_byte [.p (.k 0) 0,u8V p] [moX (cipV t k xs) mode back ⟨ch0,[],g0⟩ i0,.dead] (.ret (u8V (moOne (cF t key false) mode back ⟨ch0,[],g0⟩ p).1)) [moX (cipV t k xs) mode back (moOne (cF t key false) mode back ⟨ch0,[],g0⟩ p).2 2,.dead,gnB (moOne (cF t key false) mode back ⟨ch0,[],g0⟩ p).2.row (moOne (cF t key false) mode back ⟨ch0,[],g0⟩ p).2.gone]:=by
 have hs:=h.s_le
 have hrl:=h.len (back:=false) hl
 have HB:=c_begin h (mode:=mode) (back:=back) (rv:= .z 0 []) (gv:= .u) rfl hl
 have eo:moOne (cF t key false) mode back ⟨ch0,[],g0⟩ p=moByt mode back ⟨(moBeg (cF t key false) mode ⟨ch0,[],[]⟩).ch,cF t key false ch0,[]⟩ p:=rfl
 have hcl:(moBeg (cF t key false) mode ⟨ch0,[],[]⟩).ch.length=s:=by
  show(if mode=5 then cF t key false ch0 else if mode=6 then incL ch0 else ch0).length=s
  split
  ·exact hrl
  ·split
   ·rw[incL_len,hl]
   ·exact hl
 have hX:moX (cipV t k xs) mode back ⟨ch0,[],g0⟩ i0= .mx [cipV t k xs,i64 mode,bool back,.z s (bv ch0),.z 0 [],.u]:=by
  unfold moX
  rw[←hl];rfl
 rw[hX,eo]
 generalize (moBeg (cF t key false) mode ⟨ch0,[],[]⟩).ch=ch at*
 generalize cF t key false ch0=row at*
 clear hX eo
 have hc0:2≤ch.length:=by omega
 have hr:row.length≤1000:=by omega
 refine fd.modes_Mode_byte.w ?_
 refine⟨_,rfl,?_⟩
 refine⟨[.k 0],_,_,_,_,HB,rfl,rfl,?_⟩
 refine⟨_,rfl,?_⟩
 refine⟨by omega,by omega,_,bv_getD (k:=row) (i:=0) (by omega),?_⟩
 refine⟨_,rfl,?_⟩
 refine⟨by omega,by omega,by omega,by omega,?_⟩
 refine⟨Za rfl,?_⟩
 refine⟨_,rfl,?_⟩
 cases back
 ·refine⟨_,rfl,?_⟩
  refine⟨Zf _,by omega,?_⟩
  refine⟨Za rfl,?_⟩
  refine⟨_,rfl,?_⟩
  refine spl_eq (fun h3=> ?_) (fun h3=> ?_)
  ·subst h3
   rw[moByt3]
   have ld:(ch.drop 1).length=s-1:=by rw[Ze,hcl]
   have lc:(ch.drop 1++[moIn false p (p^^^row.getD 0 0)]).length=s:=by rw[Zc,ld];show s-1+1=s;omega
   refine⟨_,rfl,?_⟩
   refine⟨by omega,by omega,by omega,by omega,?_⟩
   refine⟨[],_,_,_,_,c_cloneB (n:=s-1) (va:=sub (bv ch) 1 (s-1)) (l:=ch.drop 1) (bv_dropN hcl (by omega)) ld (by omega) (by omega),rfl,rfl,?_⟩
   refine⟨Zf _,by omega,by rw[bv_len,ld];omega,?_⟩
   refine⟨Za rfl,?_⟩
   refine⟨Za rfl,?_⟩
   refine⟨.ret (u8V (p^^^row.getD 0 0)),[.mx [cipV t k xs,i64 3,bool false,.z s (bv (ch.drop 1++[moIn false p (p^^^row.getD 0 0)])),nilv,.z (0+1) (bv ([]++[moIn false p (p^^^row.getD 0 0)]))],.dead],⟨_,rfl,[.k 0,.k 1],?_,⟨_,rfl,?_⟩,?_⟩,?_⟩
   ·show V.s (.int .u8 (U8.wrap _))=_
    rw[u8_xor]
   ·show B.mx [cipV t k xs,i64 3,bool false,.z (s-1+1) (sub (sub (bv (ch.drop 1)) 0 ((s-1)*1)++sub [Value.int .u8 _] 0 (1*1)) 0 (s-1+1)),nilv,.z (0+1) (sub (sub ([]:List Value) 0 (0*1)++sub [Value.int .u8 _] 0 (1*1)) 0 (0+1))]=_
    rw[snoc_sub ld (u8_xor _ _),one_sub (u8_xor _ _),show s-1+1=s by omega];rfl
   ·exact⟨⟨_,rfl,rfl⟩,trivial⟩
   ·refine⟨.ret (.refl _),.cons (.mx (.cons (.refl _) (.cons (.refl _) (.cons (.refl _) (.cons ?_ (.cons .nl (.cons .u .nil))))))) (.cons (.refl _) (.dd .nil))⟩
    show Wk _ (.z (ch.drop 1++[moIn false p (p^^^row.getD 0 0)]).length _)
    rw[lc];exact .refl _
  refine spl_eq (fun h4=> ?_) (fun h4=> ?_)
  ·subst h4
   refine⟨_,rfl,?_⟩
   refine spl_eq (fun hr1=> ?_) (fun hr1=> ?_)
   ·have hr1:s=1:=by have:=(rfl:Int.toNat 1=1);omega
    have lG:([]++[moIn false p (p^^^row.getD 0 0)]).length=0+1:=by rw[Zc];rfl
    rw[moByt4 (by omega)]
    refine⟨_,rfl,?_⟩
    refine⟨Za rfl,?_⟩
    refine⟨.ret (u8V (p^^^row.getD 0 0)),[.mx [cipV t k xs,i64 4,bool false,.z (0+1) (bv ([]++[moIn false p (p^^^row.getD 0 0)])),.z (s-1) (bv (row.drop 1)),.z (0+1) (bv ([]++[moIn false p (p^^^row.getD 0 0)]))],.dead],⟨_,rfl,[.k 0,.k 1],?_,⟨_,rfl,?_⟩,?_⟩,?_⟩
    ·show V.s (.int .u8 (U8.wrap _))=_
     rw[u8_xor]
    ·show B.mx [cipV t k xs,i64 4,bool false,.z (0+1) (sub (sub ([]:List Value) 0 (0*1)++sub [Value.int .u8 _] 0 (1*1)) 0 (0+1)),.z (s-1) (sub (bv row) 1 (s-1)),.z (0+1) (sub (sub ([]:List Value) 0 (0*1)++sub [Value.int .u8 _] 0 (1*1)) 0 (0+1))]=_
     rw[one_sub (u8_xor _ _),bv_dropN hrl (by omega)];rfl
    ·exact⟨⟨_,rfl,rfl⟩,trivial⟩
    ·refine⟨.ret (.refl _),.cons (.mx (.cons (.refl _) (.cons (.refl _) (.cons (.refl _) (.cons ?_ (.cons ?_ (.cons .u .nil))))))) (.cons (.refl _) (.dd .nil))⟩
     ·show Wk _ (.z ([]++[moIn false p (p^^^row.getD 0 0)]).length _)
      rw[lG];exact .refl _
     ·rw[show s-1=0 by omega];exact .z0
   ·have hr2:s≠1:=by have:=(rfl:Int.toNat 1=1);omega
    have lr:(row.drop 1).length=s-1:=by rw[Ze,hrl]
    rw[moByt_row (by decide) (fun e=>hr2 (by omega))]
    by_cases hr1:s=1
    ·have e0:row.drop 1=[]:=Zw.1 (by omega)
     rw[e0]
     refine⟨.ret (u8V (p^^^row.getD 0 0)),[.mx [cipV t k xs,i64 4,bool false,.z s (bv ch),.z (s-1) (bv (row.drop 1)),.z (0+1) (bv ([]++[moIn false p (p^^^row.getD 0 0)]))],.dead],⟨_,rfl,[.k 0,.k 1],?_,⟨_,rfl,?_⟩,?_⟩,?_⟩
     ·show V.s (.int .u8 (U8.wrap _))=_
      rw[u8_xor]
     ·show B.mx [cipV t k xs,i64 4,bool false,.z s (bv ch),.z (s-1) (sub (bv row) 1 (s-1)),.z (0+1) (sub (sub ([]:List Value) 0 (0*1)++sub [Value.int .u8 _] 0 (1*1)) 0 (0+1))]=_
      rw[one_sub (u8_xor _ _),bv_dropN hrl (by omega)];rfl
     ·exact⟨⟨_,rfl,rfl⟩,trivial⟩
     ·refine⟨.ret (.refl _),.cons (.mx (.cons (.refl _) (.cons (.refl _) (.cons (.refl _) (.cons ?_ (.cons ?_ (.cons .u .nil))))))) (.cons (.refl _) (.dd .nil))⟩
      ·show Wk _ (.z ch.length _)
       rw[hcl];exact .refl _
      ·rw[show s-1=0 by omega];exact .z0
    ·rw[gnB_pos (row:=row.drop 1) (by omega)]
     refine⟨.ret (u8V (p^^^row.getD 0 0)),[.mx [cipV t k xs,i64 4,bool false,.z s (bv ch),.z (s-1) (bv (row.drop 1)),.o 1 (.k 2) 0 (0+1)],.dead,.sc (bv ([]++[moIn false p (p^^^row.getD 0 0)]))],⟨_,rfl,[.k 0,.k 1,.d 44 0],?_,⟨_,rfl,?_⟩,⟨_,rfl,rfl⟩,⟨_,rfl,q7s ?_⟩,trivial⟩,?_⟩
     ·show V.s (.int .u8 (U8.wrap _))=_
      rw[u8_xor]
     ·show B.mx [cipV t k xs,i64 4,bool false,.z s (bv ch),.z (s-1) (sub (bv row) 1 (s-1)),.o 1 (.k 2) 0 (0+1)]=_
      rw[bv_dropN hrl (by omega)]
     ·exact one_blk (u8_xor _ _)
     ·refine⟨.ret (.refl _),.cons (.mx (.cons (.refl _) (.cons (.refl _) (.cons (.refl _) (.cons ?_ (.cons ?_ (.cons ?_ .nil))))))) (.cons (.refl _) (.cons (.refl _) .nil))⟩
      ·show Wk _ (.z ch.length _)
       rw[hcl];exact .refl _
      ·show Wk _ (.z (row.drop 1).length _)
       rw[lr];exact .refl _
      ·show Wk _ (gnV (row.drop 1) ([]++[moIn false p (p^^^row.getD 0 0)]) 2)
       rw[gnV_pos (row:=row.drop 1) (by omega),Zc];exact .refl _
  ·have lr:(row.drop 1).length=s-1:=by rw[Ze,hrl]
   rw[moByt_row h3 (fun e=>h4 e.1)]
   by_cases hr1:s=1
   ·have e0:row.drop 1=[]:=Zw.1 (by omega)
    rw[e0]
    refine⟨.ret (u8V (p^^^row.getD 0 0)),[.mx [cipV t k xs,i64 mode,bool false,.z s (bv ch),.z (s-1) (bv (row.drop 1)),.z (0+1) (bv ([]++[moIn false p (p^^^row.getD 0 0)]))],.dead],⟨_,rfl,[.k 0,.k 1],?_,⟨_,rfl,?_⟩,?_⟩,?_⟩
    ·show V.s (.int .u8 (U8.wrap _))=_
     rw[u8_xor]
    ·show B.mx [cipV t k xs,i64 mode,bool false,.z s (bv ch),.z (s-1) (sub (bv row) 1 (s-1)),.z (0+1) (sub (sub ([]:List Value) 0 (0*1)++sub [Value.int .u8 _] 0 (1*1)) 0 (0+1))]=_
     rw[one_sub (u8_xor _ _),bv_dropN hrl (by omega)];rfl
    ·exact⟨⟨_,rfl,rfl⟩,trivial⟩
    ·refine⟨.ret (.refl _),.cons (.mx (.cons (.refl _) (.cons (.refl _) (.cons (.refl _) (.cons ?_ (.cons ?_ (.cons .u .nil))))))) (.cons (.refl _) (.dd .nil))⟩
     ·show Wk _ (.z ch.length _)
      rw[hcl];exact .refl _
     ·rw[show s-1=0 by omega];exact .z0
   ·rw[gnB_pos (row:=row.drop 1) (by omega)]
    refine⟨.ret (u8V (p^^^row.getD 0 0)),[.mx [cipV t k xs,i64 mode,bool false,.z s (bv ch),.z (s-1) (bv (row.drop 1)),.o 1 (.k 2) 0 (0+1)],.dead,.sc (bv ([]++[moIn false p (p^^^row.getD 0 0)]))],⟨_,rfl,[.k 0,.k 1,.d 44 0],?_,⟨_,rfl,?_⟩,⟨_,rfl,rfl⟩,⟨_,rfl,q7s ?_⟩,trivial⟩,?_⟩
    ·show V.s (.int .u8 (U8.wrap _))=_
     rw[u8_xor]
    ·show B.mx [cipV t k xs,i64 mode,bool false,.z s (bv ch),.z (s-1) (sub (bv row) 1 (s-1)),.o 1 (.k 2) 0 (0+1)]=_
     rw[bv_dropN hrl (by omega)]
    ·exact one_blk (u8_xor _ _)
    ·refine⟨.ret (.refl _),.cons (.mx (.cons (.refl _) (.cons (.refl _) (.cons (.refl _) (.cons ?_ (.cons ?_ (.cons ?_ .nil))))))) (.cons (.refl _) (.cons (.refl _) .nil))⟩
     ·show Wk _ (.z ch.length _)
      rw[hcl];exact .refl _
     ·show Wk _ (.z (row.drop 1).length _)
      rw[lr];exact .refl _
     ·show Wk _ (gnV (row.drop 1) ([]++[moIn false p (p^^^row.getD 0 0)]) 2)
      rw[gnV_pos (row:=row.drop 1) (by omega),Zc];exact .refl _
 ·refine⟨_,rfl,?_⟩
  refine⟨Zf _,by omega,?_⟩
  refine⟨Za rfl,?_⟩
  refine⟨_,rfl,?_⟩
  refine spl_eq (fun h3=> ?_) (fun h3=> ?_)
  ·subst h3
   rw[moByt3]
   have ld:(ch.drop 1).length=s-1:=by rw[Ze,hcl]
   have lc:(ch.drop 1++[moIn true p (p^^^row.getD 0 0)]).length=s:=by rw[Zc,ld];show s-1+1=s;omega
   refine⟨_,rfl,?_⟩
   refine⟨by omega,by omega,by omega,by omega,?_⟩
   refine⟨[],_,_,_,_,c_cloneB (n:=s-1) (va:=sub (bv ch) 1 (s-1)) (l:=ch.drop 1) (bv_dropN hcl (by omega)) ld (by omega) (by omega),rfl,rfl,?_⟩
   refine⟨Zf _,by omega,by rw[bv_len,ld];omega,?_⟩
   refine⟨Za rfl,?_⟩
   refine⟨Za rfl,?_⟩
   refine⟨.ret (u8V (p^^^row.getD 0 0)),[.mx [cipV t k xs,i64 3,bool true,.z s (bv (ch.drop 1++[moIn true p (p^^^row.getD 0 0)])),nilv,.z (0+1) (bv ([]++[moIn true p (p^^^row.getD 0 0)]))],.dead],⟨_,rfl,[.k 0,.k 1],?_,⟨_,rfl,?_⟩,?_⟩,?_⟩
   ·show V.s (.int .u8 (U8.wrap _))=_
    rw[u8_xor]
   ·show B.mx [cipV t k xs,i64 3,bool true,.z (s-1+1) (sub (sub (bv (ch.drop 1)) 0 ((s-1)*1)++sub [Value.int .u8 _] 0 (1*1)) 0 (s-1+1)),nilv,.z (0+1) (sub (sub ([]:List Value) 0 (0*1)++sub [Value.int .u8 _] 0 (1*1)) 0 (0+1))]=_
    rw[snoc_sub ld rfl,one_sub rfl,show s-1+1=s by omega];rfl
   ·exact⟨⟨_,rfl,rfl⟩,trivial⟩
   ·refine⟨.ret (.refl _),.cons (.mx (.cons (.refl _) (.cons (.refl _) (.cons (.refl _) (.cons ?_ (.cons .nl (.cons .u .nil))))))) (.cons (.refl _) (.dd .nil))⟩
    show Wk _ (.z (ch.drop 1++[moIn true p (p^^^row.getD 0 0)]).length _)
    rw[lc];exact .refl _
  refine spl_eq (fun h4=> ?_) (fun h4=> ?_)
  ·subst h4
   refine⟨_,rfl,?_⟩
   refine spl_eq (fun hr1=> ?_) (fun hr1=> ?_)
   ·have hr1:s=1:=by have:=(rfl:Int.toNat 1=1);omega
    have lG:([]++[moIn true p (p^^^row.getD 0 0)]).length=0+1:=by rw[Zc];rfl
    rw[moByt4 (by omega)]
    refine⟨_,rfl,?_⟩
    refine⟨Za rfl,?_⟩
    refine⟨.ret (u8V (p^^^row.getD 0 0)),[.mx [cipV t k xs,i64 4,bool true,.z (0+1) (bv ([]++[moIn true p (p^^^row.getD 0 0)])),.z (s-1) (bv (row.drop 1)),.z (0+1) (bv ([]++[moIn true p (p^^^row.getD 0 0)]))],.dead],⟨_,rfl,[.k 0,.k 1],?_,⟨_,rfl,?_⟩,?_⟩,?_⟩
    ·show V.s (.int .u8 (U8.wrap _))=_
     rw[u8_xor]
    ·show B.mx [cipV t k xs,i64 4,bool true,.z (0+1) (sub (sub ([]:List Value) 0 (0*1)++sub [Value.int .u8 _] 0 (1*1)) 0 (0+1)),.z (s-1) (sub (bv row) 1 (s-1)),.z (0+1) (sub (sub ([]:List Value) 0 (0*1)++sub [Value.int .u8 _] 0 (1*1)) 0 (0+1))]=_
     rw[one_sub rfl,bv_dropN hrl (by omega)];rfl
    ·exact⟨⟨_,rfl,rfl⟩,trivial⟩
    ·refine⟨.ret (.refl _),.cons (.mx (.cons (.refl _) (.cons (.refl _) (.cons (.refl _) (.cons ?_ (.cons ?_ (.cons .u .nil))))))) (.cons (.refl _) (.dd .nil))⟩
     ·show Wk _ (.z ([]++[moIn true p (p^^^row.getD 0 0)]).length _)
      rw[lG];exact .refl _
     ·rw[show s-1=0 by omega];exact .z0
   ·have hr2:s≠1:=by have:=(rfl:Int.toNat 1=1);omega
    have lr:(row.drop 1).length=s-1:=by rw[Ze,hrl]
    rw[moByt_row (by decide) (fun e=>hr2 (by omega))]
    by_cases hr1:s=1
    ·have e0:row.drop 1=[]:=Zw.1 (by omega)
     rw[e0]
     refine⟨.ret (u8V (p^^^row.getD 0 0)),[.mx [cipV t k xs,i64 4,bool true,.z s (bv ch),.z (s-1) (bv (row.drop 1)),.z (0+1) (bv ([]++[moIn true p (p^^^row.getD 0 0)]))],.dead],⟨_,rfl,[.k 0,.k 1],?_,⟨_,rfl,?_⟩,?_⟩,?_⟩
     ·show V.s (.int .u8 (U8.wrap _))=_
      rw[u8_xor]
     ·show B.mx [cipV t k xs,i64 4,bool true,.z s (bv ch),.z (s-1) (sub (bv row) 1 (s-1)),.z (0+1) (sub (sub ([]:List Value) 0 (0*1)++sub [Value.int .u8 _] 0 (1*1)) 0 (0+1))]=_
      rw[one_sub rfl,bv_dropN hrl (by omega)];rfl
     ·exact⟨⟨_,rfl,rfl⟩,trivial⟩
     ·refine⟨.ret (.refl _),.cons (.mx (.cons (.refl _) (.cons (.refl _) (.cons (.refl _) (.cons ?_ (.cons ?_ (.cons .u .nil))))))) (.cons (.refl _) (.dd .nil))⟩
      ·show Wk _ (.z ch.length _)
       rw[hcl];exact .refl _
      ·rw[show s-1=0 by omega];exact .z0
    ·rw[gnB_pos (row:=row.drop 1) (by omega)]
     refine⟨.ret (u8V (p^^^row.getD 0 0)),[.mx [cipV t k xs,i64 4,bool true,.z s (bv ch),.z (s-1) (bv (row.drop 1)),.o 1 (.k 2) 0 (0+1)],.dead,.sc (bv ([]++[moIn true p (p^^^row.getD 0 0)]))],⟨_,rfl,[.k 0,.k 1,.d 44 0],?_,⟨_,rfl,?_⟩,⟨_,rfl,rfl⟩,⟨_,rfl,q7s ?_⟩,trivial⟩,?_⟩
     ·show V.s (.int .u8 (U8.wrap _))=_
      rw[u8_xor]
     ·show B.mx [cipV t k xs,i64 4,bool true,.z s (bv ch),.z (s-1) (sub (bv row) 1 (s-1)),.o 1 (.k 2) 0 (0+1)]=_
      rw[bv_dropN hrl (by omega)]
     ·exact one_blk rfl
     ·refine⟨.ret (.refl _),.cons (.mx (.cons (.refl _) (.cons (.refl _) (.cons (.refl _) (.cons ?_ (.cons ?_ (.cons ?_ .nil))))))) (.cons (.refl _) (.cons (.refl _) .nil))⟩
      ·show Wk _ (.z ch.length _)
       rw[hcl];exact .refl _
      ·show Wk _ (.z (row.drop 1).length _)
       rw[lr];exact .refl _
      ·show Wk _ (gnV (row.drop 1) ([]++[moIn true p (p^^^row.getD 0 0)]) 2)
       rw[gnV_pos (row:=row.drop 1) (by omega),Zc];exact .refl _
  ·have lr:(row.drop 1).length=s-1:=by rw[Ze,hrl]
   rw[moByt_row h3 (fun e=>h4 e.1)]
   by_cases hr1:s=1
   ·have e0:row.drop 1=[]:=Zw.1 (by omega)
    rw[e0]
    refine⟨.ret (u8V (p^^^row.getD 0 0)),[.mx [cipV t k xs,i64 mode,bool true,.z s (bv ch),.z (s-1) (bv (row.drop 1)),.z (0+1) (bv ([]++[moIn true p (p^^^row.getD 0 0)]))],.dead],⟨_,rfl,[.k 0,.k 1],?_,⟨_,rfl,?_⟩,?_⟩,?_⟩
    ·show V.s (.int .u8 (U8.wrap _))=_
     rw[u8_xor]
    ·show B.mx [cipV t k xs,i64 mode,bool true,.z s (bv ch),.z (s-1) (sub (bv row) 1 (s-1)),.z (0+1) (sub (sub ([]:List Value) 0 (0*1)++sub [Value.int .u8 _] 0 (1*1)) 0 (0+1))]=_
     rw[one_sub rfl,bv_dropN hrl (by omega)];rfl
    ·exact⟨⟨_,rfl,rfl⟩,trivial⟩
    ·refine⟨.ret (.refl _),.cons (.mx (.cons (.refl _) (.cons (.refl _) (.cons (.refl _) (.cons ?_ (.cons ?_ (.cons .u .nil))))))) (.cons (.refl _) (.dd .nil))⟩
     ·show Wk _ (.z ch.length _)
      rw[hcl];exact .refl _
     ·rw[show s-1=0 by omega];exact .z0
   ·rw[gnB_pos (row:=row.drop 1) (by omega)]
    refine⟨.ret (u8V (p^^^row.getD 0 0)),[.mx [cipV t k xs,i64 mode,bool true,.z s (bv ch),.z (s-1) (bv (row.drop 1)),.o 1 (.k 2) 0 (0+1)],.dead,.sc (bv ([]++[moIn true p (p^^^row.getD 0 0)]))],⟨_,rfl,[.k 0,.k 1,.d 44 0],?_,⟨_,rfl,?_⟩,⟨_,rfl,rfl⟩,⟨_,rfl,q7s ?_⟩,trivial⟩,?_⟩
    ·show V.s (.int .u8 (U8.wrap _))=_
     rw[u8_xor]
    ·show B.mx [cipV t k xs,i64 mode,bool true,.z s (bv ch),.z (s-1) (sub (bv row) 1 (s-1)),.o 1 (.k 2) 0 (0+1)]=_
     rw[bv_dropN hrl (by omega)]
    ·exact one_blk rfl
    ·refine⟨.ret (.refl _),.cons (.mx (.cons (.refl _) (.cons (.refl _) (.cons (.refl _) (.cons ?_ (.cons ?_ (.cons ?_ .nil))))))) (.cons (.refl _) (.cons (.refl _) .nil))⟩
     ·show Wk _ (.z ch.length _)
      rw[hcl];exact .refl _
     ·show Wk _ (.z (row.drop 1).length _)
      rw[lr];exact .refl _
     ·show Wk _ (gnV (row.drop 1) ([]++[moIn true p (p^^^row.getD 0 0)]) 2)
      rw[gnV_pos (row:=row.drop 1) (by omega),Zc];exact .refl _
def GOk (n:Nat) (s:MS):Prop:=s.row.length=0∨s.gone.length+s.row.length=n
theorem moOne_gok {E D:Bs→Bs} {n:Nat} {mode:Int} {back:Bool} {s:MS} (h:CI E D n) (hn:0<n) (hm:3≤mode) (ok:MOk n mode s) (g:GOk n s) (p:UInt8):GOk n (moOne E mode back s p).2:=by
 obtain⟨t,ht,h1,h2⟩:∃t,t=(if s.row.length=0 then moBeg E mode s else s)∧0<t.row.length∧t.gone.length+t.row.length=n:=by
  refine⟨_,rfl,?_⟩
  split
  ·obtain⟨b1,b2,b3⟩:=moBeg_ok h hm ok
   exact⟨by omega,by rw[b3,b2];simp⟩
  ·rename_i hr
   exact⟨by omega,g.resolve_left hr⟩
 have e:(moOne E mode back s p).2=(moByt mode back t p).2:=by rw[ht];rfl
 rw[e]
 unfold moByt
 dsimp only
 split
 ·exact .inl rfl
 ·split
  ·split
   ·exact .inl rfl
   ·exact .inr (by show(t.gone++[_]).length+(t.row.drop 1).length=n;rw[Zc,Jh,Ze];omega)
  ·exact .inr (by show(t.gone++[_]).length+(t.row.drop 1).length=n;rw[Zc,Jh,Ze];omega)
theorem moMany_gok {E D:Bs→Bs} {n:Nat} {mode:Int} {back:Bool} (h:CI E D n) (hn:0<n) (hm:3≤mode):∀(l:Bs) {s:MS},MOk n mode s→GOk n s→GOk n (moMany E mode back s l).2
 |[],_,_,g=>g
 |p::l,_,ok,g=>moMany_gok h hn hm l (moOne_ok h hn hm ok p) (moOne_gok h hn hm ok g p)
theorem moStep_gok {E D:Bs→Bs} {n:Nat} {mode:Int} {back:Bool} {s:MS} {b:Bs} (h:CI E D n) (hn:0<n) (ok:MOk n mode s) (g:GOk n s):GOk n (moStep E D n mode back s b).2:=by
 unfold moStep
 by_cases hm:mode=1∨mode=2
 ·simp only[if_pos hm]
  exact g
 ·simp only[if_neg hm]
  exact moMany_gok h hn (by have:=ok.m;omega) b ok g
structure MK (n:Nat) (mode:Int) (s:MS):Prop where
 ok:MOk n mode s
 g:GOk n s
theorem MK.glen {n mode s} (h:MK n mode s) (hr:s.row.length≠0):s.gone.length≤n:=by
 have:=h.g.resolve_left hr
 omega
theorem MK.step {E D:Bs→Bs} {n:Nat} {mode:Int} {back:Bool} {s:MS} {b:Bs} (k:MK n mode s) (h:CI E D n) (hn:0<n):MK n mode (moStep E D n mode back s b).2:=⟨moStep_ok h hn k.ok,moStep_gok h hn k.ok k.g⟩
theorem MK.one {E D:Bs→Bs} {n:Nat} {mode:Int} {back:Bool} {s:MS} (k:MK n mode s) (h:CI E D n) (hn:0<n) (hm:3≤mode) (p:UInt8):MK n mode (moOne E mode back s p).2:=⟨moOne_ok h hn hm k.ok p,moOne_gok h hn hm k.ok k.g p⟩
theorem MK.many {E D:Bs→Bs} {n:Nat} {mode:Int} {back:Bool} {s:MS} (k:MK n mode s) (h:CI E D n) (hn:0<n) (hm:3≤mode) (l:Bs):MK n mode (moMany E mode back s l).2:=⟨moMany_ok h hn hm l k.ok,moMany_gok h hn hm l k.ok k.g⟩
theorem MK.new {n:Nat} {mode:Int} {iv:Bs} (hm:1≤mode∧mode≤6) (hc:mode=1∨iv.length=n):MK n mode ⟨iv,[],[]⟩:=⟨⟨hm,hc,Zx _,fun _=>rfl,fun _=> .inl rfl⟩,.inl rfl⟩
def rdOne (E:Bs→Bs) (mode:Int) (back:Bool) (x:MS×Bs×Nat) (p:UInt8):MS×Bs×Nat:=
 ((moOne E mode back x.1 p).2,if mode=3 then x.2 else if x.1.row.length=0 then (E x.1.ch,1)else (x.2.1,x.2.2+1))
def rdMany (E:Bs→Bs) (mode:Int) (back:Bool):MS×Bs×Nat→Bs→MS×Bs×Nat
 |x,[]=>x
 |x,p::l=>rdMany E mode back (rdOne E mode back x p) l
theorem rdMany_fst (E mode back):∀(l:Bs) (x),(rdMany E mode back x l).1=(moMany E mode back x.1 l).2
 |[],_=>rfl
 |p::l,x=>rdMany_fst E mode back l (rdOne E mode back x p)
theorem rdMany_snoc (E mode back):∀(l:Bs) (x) (p:UInt8),rdMany E mode back x (l++[p])=rdOne E mode back (rdMany E mode back x l) p
 |[],_,_=>rfl
 |a::l,x,p=>rdMany_snoc E mode back l (rdOne E mode back x a) p
structure RelD (n:Nat) (mode:Int) (x:MS×Bs×Nat):Prop where
 le:x.2.2≤x.2.1.length
 row:x.1.row=x.2.1.drop x.2.2
 len:x.2.1.length≤n
 made:x.1.row.length≠0→x.1.gone.length=x.2.2
 three:mode=3→x.1.row=[]
 blk:mode=1∨mode=2→x.2=([],0)
theorem moByt_rowlen {mode:Int} {back:Bool} {t:MS} {p:UInt8} (h3:mode≠3) (h:0<t.row.length):(moByt mode back t p).2.row=t.row.drop 1:=by
 unfold moByt
 simp only[if_neg h3]
 by_cases h4:mode=4
 ·rw[if_pos h4]
  by_cases h5:t.row.length=1
  ·rw[if_pos h5]
   exact(List.drop_eq_nil_of_le (by omega)).symm
  ·rw[if_neg h5]
 ·rw[if_neg h4]
theorem moByt_gone {mode:Int} {back:Bool} {t:MS} {p:UInt8}:(moByt mode back t p).2.gone=t.gone++[moIn back p (p^^^t.row.getD 0 0)]:=by
 unfold moByt
 dsimp only
 split
 ·rfl
 ·split
  ·split<;>rfl
  ·rfl
theorem rdOne_ok {E D:Bs→Bs} {n:Nat} {mode:Int} {back:Bool} {x:MS×Bs×Nat} (h:CI E D n) (hn:0<n) (hm:3≤mode) (ok:MOk n mode x.1) (r:RelD n mode x) (p:UInt8):RelD n mode (rdOne E mode back x p):=by
 obtain⟨s,R,u⟩:=x
 obtain⟨r1,r2,r3,r4,r5,r6⟩:=r
 dsimp only at r1 r2 r3 r4 r5 ok
 have hc:s.ch.length=n:=ok.ch.resolve_left (by omega)
 by_cases h3:mode=3
 ·subst h3
  unfold rdOne
  rw[if_pos rfl]
  have ho:(moOne E 3 back s p).2.row=[]:=by unfold moOne moByt;rfl
  refine⟨r1,?_,r3,fun h=>absurd ?_ h,fun _=>ho,fun h=>by omega⟩
  ·show(moOne E 3 back s p).2.row=R.drop u
   rw[ho,←r2,r5 rfl]
  ·show(moOne E 3 back s p).2.row.length=0
   rw[ho];rfl
 ·unfold rdOne
  rw[if_neg h3]
  by_cases h0:s.row.length=0
  ·rw[if_pos h0]
   have l0:=h.le hc
   have ho:moOne E mode back s p=moByt mode back (moBeg E mode s) p:=by unfold moOne;rw[if_pos h0]
   refine⟨by show 1≤(E s.ch).length;omega,?_,by show(E s.ch).length≤n;omega,fun _=> ?_,fun h=>absurd h h3,fun h=>by omega⟩
   ·show(moOne E mode back s p).2.row=(E s.ch).drop 1
    rw[ho]
    exact moByt_rowlen h3 (by show 0<(E s.ch).length;omega)
   ·show(moOne E mode back s p).2.gone.length=1
    rw[ho,moByt_gone];rfl
  ·rw[if_neg h0]
   have ho:moOne E mode back s p=moByt mode back s p:=by unfold moOne;rw[if_neg h0]
   have lr:s.row.length=R.length-u:=by rw[r2,Ze]
   refine⟨by show u+1≤R.length;omega,?_,r3,fun _=> ?_,fun h=>absurd h h3,fun h=>by omega⟩
   ·show(moOne E mode back s p).2.row=R.drop (u+1)
    rw[ho,moByt_rowlen h3 (by omega),r2,Ja]
   ·show(moOne E mode back s p).2.gone.length=u+1
    rw[ho,moByt_gone,Zc,r4 h0];rfl
theorem rdMany_ok {E D:Bs→Bs} {n:Nat} {mode:Int} {back:Bool} (h:CI E D n) (hn:0<n) (hm:3≤mode):∀(l:Bs) {x:MS×Bs×Nat},MOk n mode x.1→RelD n mode x→RelD n mode (rdMany E mode back x l)
 |[],_,_,r=>r
 |p::l,x,ok,r=>rdMany_ok h hn hm l (x:=rdOne E mode back x p) (moOne_ok h hn hm ok p) (rdOne_ok h hn hm ok r p)
theorem RelD.new {n:Nat} {mode:Int} {iv:Bs}:RelD n mode (⟨iv,[],[]⟩,[],0):=⟨Zf _,rfl,Zx _,fun h=>absurd rfl h,fun _=>rfl,fun _=>rfl⟩
def rdStep (E D:Bs→Bs) (n:Nat) (mode:Int) (back:Bool) (x:MS×Bs×Nat) (b:Bs):MS×Bs×Nat:=
 if mode=1∨mode=2 then ((moStep E D n mode back x.1 b).2,x.2)else rdMany E mode back x b
theorem c_block {t key s k xs rs} (h:Ciph t key s k xs rs) {mode:Int} {back:Bool} {c:Nat} {p ch:Bs} {vp vch:List Value} (hvp:vp=bv p) (hvc:vch=bv ch) (hp:p.length=s) (hc:ch.length=c) (hm:mode=1∨mode=2∧c=s):
  Con C N.modes_Mode_block [.p (.k 0) 0,.z s vp] [.mx [cipV t k xs,i64 mode,bool back,.z c vch,.z 0 [],.u]] (.ret (.z s (bv (moBlk (cF t key false) (cF t key true) mode back ch p).1))) [.mx [cipV t k xs,i64 mode,bool back,.z c (bv (moBlk (cF t key false) (cF t key true) mode back ch p).2),.z 0 [],.u]]:=by
 subst hvp;subst hvc
 have hs:=h.s_le
 have lE:=h.len (back:=false) hp
 have lD:=h.len (back:=true) hp
 refine fd.modes_Mode_block.c ?_
 refine⟨_,rfl,?_⟩
 refine spl_eq (fun h1=> ?_) (fun h1=> ?_)
 ·subst h1
  refine⟨_,rfl,?_⟩
  cases back
  ·refine⟨_,rfl,?_⟩
   refine⟨_,rfl,?_⟩
   refine⟨[],_,_,_,_,h.enc hp rfl,rfl,rfl,?_⟩
   refine⟨_,rfl,[.k 0],?_,⟨_,rfl,?_⟩,trivial⟩
   ·show V.z s (sub (bv (cF t key false p)) 0 s)=_
    rw[bv_all lE];rfl
   ·rfl
  ·refine⟨_,rfl,?_⟩
   refine⟨[],_,_,_,_,h.dec hp rfl,rfl,rfl,?_⟩
   refine⟨_,rfl,[.k 0],?_,⟨_,rfl,?_⟩,trivial⟩
   ·show V.z s (sub (bv (cF t key true p)) 0 s)=_
    rw[bv_all lD];rfl
   ·rfl
 ·obtain⟨rfl,rfl⟩:=hm.resolve_left h1
  refine⟨_,rfl,?_⟩
  refine⟨_,rfl,?_⟩
  cases back
  ·have lx:=xorL_len hp hc
   have lX:=h.len (back:=false) lx
   refine⟨_,rfl,?_⟩
   refine⟨[],_,_,_,_,c_xor (a:=p) (b:=ch) rfl rfl hp hc (by omega),rfl,rfl,?_⟩
   refine⟨_,rfl,?_⟩
   refine⟨[],_,_,_,_,h.enc (b:=xorL p ch) lx (bv_all lx),rfl,rfl,?_⟩
   refine⟨[],_,_,_,_,c_cloneB (l:=cF t key false (xorL p ch)) (bv_all lX) lX (by omega) (by omega),rfl,rfl,?_⟩
   refine⟨Za rfl,?_⟩
   refine⟨_,rfl,[.k 0],?_,⟨_,rfl,?_⟩,trivial⟩
   ·show V.z c (sub (bv (cF t key false (xorL p ch))) 0 c)=_
    rw[bv_all lX];rfl
   ·show B.mx [cipV t k xs,i64 2,bool false,.z c (sub (bv (cF t key false (xorL p ch))) 0 c),.z 0 [],.u]=_
    rw[bv_all lX];rfl
  ·have lx:=xorL_len lD hc
   refine⟨_,rfl,?_⟩
   refine⟨[],_,_,_,_,h.dec hp rfl,rfl,rfl,?_⟩
   refine⟨_,rfl,?_⟩
   refine⟨[],_,_,_,_,c_xor (a:=cF t key true p) (b:=ch) (bv_all lD) rfl lD hc (by omega),rfl,rfl,?_⟩
   refine⟨[],_,_,_,_,c_cloneB (l:=p) rfl hp (by omega) (by omega),rfl,rfl,?_⟩
   refine⟨Za rfl,?_⟩
   refine⟨_,rfl,[.k 0],?_,⟨_,rfl,?_⟩,trivial⟩
   ·show V.z c (sub (bv (xorL (cF t key true p) ch)) 0 c)=_
    rw[bv_all lx];rfl
   ·show B.mx [cipV t k xs,i64 2,bool true,.z c (sub (bv p) 0 c),.z 0 [],.u]=_
    rw[bv_all hp];rfl
theorem c_grain1 {t key s k xs rs} (h:Ciph t key s k xs rs) {mode:Int} {back:Bool} {st:MS} (hm:3≤mode):
  Con C N.modes_Mode_Grain [.p (.k 0) 0] [moX (cipV t k xs) mode back st 1,gnB st.row st.gone] (.ret (i64 1)) [moX (cipV t k xs) mode back st 1,gnB st.row st.gone]:=by
 obtain⟨ch,row,g⟩:=st
 refine fd.modes_Mode_Grain.c ?_
 refine⟨_,rfl,?_⟩
 refine spl_eq (fun h1=>absurd h1 (by omega)) (fun _=> ?_)
 refine spl_eq (fun h1=>absurd h1 (by omega)) (fun _=> ?_)
 cases row<;>exact⟨_,rfl,[.k 0,.k 1],rfl,⟨_,rfl,rfl⟩,⟨_,rfl,rfl⟩,trivial⟩
theorem c_grainS {t key s k xs rs} (h:Ciph t key s k xs rs) {mode:Int} {back:Bool} {c:Nat} {vc:List Value} (hm:mode=1∨mode=2):
  Con C N.modes_Mode_Grain [.p (.k 0) 0] [.mx [cipV t k xs,i64 mode,bool back,.z c vc,.z 0 [],.u]] (.ret (i64 s)) [.mx [cipV t k xs,i64 mode,bool back,.z c vc,.z 0 [],.u]]:=by
 refine fd.modes_Mode_Grain.c ?_
 refine⟨_,rfl,?_⟩
 refine spl_eq (fun h1=> ?_) (fun h1=> ?_)
 ·refine⟨_,rfl,?_⟩
  refine⟨[],_,_,_,_,h.size,rfl,rfl,?_⟩
  exact⟨_,rfl,[.k 0],rfl,⟨_,rfl,rfl⟩,trivial⟩
 refine spl_eq (fun h2=> ?_) (fun h2=>absurd h2 (by omega))
 ·refine⟨_,rfl,?_⟩
  refine⟨[],_,_,_,_,h.size,rfl,rfl,?_⟩
  exact⟨_,rfl,[.k 0],rfl,⟨_,rfl,rfl⟩,trivial⟩
theorem c_new_m {t key s k xs rs} (h:Ciph t key s k xs rs) {mode:Int} {back:Bool} {l i:Nat} {vi:List Value} {iv:Bs} (hvi:vi=bv iv) (hl:iv.length=l) (hm:1≤mode∧mode≤6) (hi:l=if mode=1 then 0 else s):
  Con C N.modes_New [cipV t k xs,i64 mode,bool back,.z l vi] [] (.ret (.t [.p (.k 0) 0,i64 0])) [moX (cipV t k xs) mode back ⟨iv,[],[]⟩ i,.dead,.dead]:=by
 subst hvi
 have hs:=h.s_le
 have hX:moX (cipV t k xs) mode back ⟨iv,[],[]⟩ i= .mx [cipV t k xs,i64 mode,bool back,.z l (bv iv),.z 0 [],.u]:=by
  unfold moX;rw[hl];rfl
 rw[hX]
 have hm':mode=1∨mode=2∨mode=3∨mode=4∨mode=5∨mode=6:=by omega
 rcases hm' with rfl|rfl|rfl|rfl|rfl|rfl
 ·rw[if_pos rfl]at hi
  refine fd.modes_New.w ?_
  refine⟨[],_,_,_,_,h.size,rfl,rfl,?_⟩
  refine spl_ne (fun hh=>absurd hh (by omega)) (fun _=> ?_)
  refine⟨[],_,_,_,_,c_cloneZ rfl hl (by omega),rfl,rfl,?_⟩
  exact⟨.ret (.t [.p (.k 0) 0,i64 0]),[.mx [cipV t k xs,i64 1,bool back,.z l (bv iv),nilv,nilv]],⟨_,rfl,[.d 32 0],rfl,⟨_,rfl,rfl⟩,trivial⟩,.ret (.refl _),.cons (.mx (.cons (.refl _) (.cons (.refl _) (.cons (.refl _) (.cons (.refl _) (.cons .nl (.cons .u .nil))))))) (.dd (.dd .nil))⟩
 ·rw[if_neg (by decide)]at hi
  refine fd.modes_New.w ?_
  refine⟨[],_,_,_,_,h.size,rfl,rfl,?_⟩
  refine spl_ne (fun hh=>absurd hh (by omega)) (fun _=> ?_)
  refine⟨[],_,_,_,_,c_cloneZ rfl hl (by omega),rfl,rfl,?_⟩
  exact⟨.ret (.t [.p (.k 0) 0,i64 0]),[.mx [cipV t k xs,i64 2,bool back,.z l (bv iv),nilv,nilv]],⟨_,rfl,[.d 32 0],rfl,⟨_,rfl,rfl⟩,trivial⟩,.ret (.refl _),.cons (.mx (.cons (.refl _) (.cons (.refl _) (.cons (.refl _) (.cons (.refl _) (.cons .nl (.cons .u .nil))))))) (.dd (.dd .nil))⟩
 ·rw[if_neg (by decide)]at hi
  refine fd.modes_New.w ?_
  refine⟨[],_,_,_,_,h.size,rfl,rfl,?_⟩
  refine spl_ne (fun hh=>absurd hh (by omega)) (fun _=> ?_)
  refine⟨[],_,_,_,_,c_cloneZ rfl hl (by omega),rfl,rfl,?_⟩
  exact⟨.ret (.t [.p (.k 0) 0,i64 0]),[.mx [cipV t k xs,i64 3,bool back,.z l (bv iv),nilv,nilv]],⟨_,rfl,[.d 32 0],rfl,⟨_,rfl,rfl⟩,trivial⟩,.ret (.refl _),.cons (.mx (.cons (.refl _) (.cons (.refl _) (.cons (.refl _) (.cons (.refl _) (.cons .nl (.cons .u .nil))))))) (.dd (.dd .nil))⟩
 ·rw[if_neg (by decide)]at hi
  refine fd.modes_New.w ?_
  refine⟨[],_,_,_,_,h.size,rfl,rfl,?_⟩
  refine spl_ne (fun hh=>absurd hh (by omega)) (fun _=> ?_)
  refine⟨[],_,_,_,_,c_cloneZ rfl hl (by omega),rfl,rfl,?_⟩
  exact⟨.ret (.t [.p (.k 0) 0,i64 0]),[.mx [cipV t k xs,i64 4,bool back,.z l (bv iv),nilv,nilv]],⟨_,rfl,[.d 32 0],rfl,⟨_,rfl,rfl⟩,trivial⟩,.ret (.refl _),.cons (.mx (.cons (.refl _) (.cons (.refl _) (.cons (.refl _) (.cons (.refl _) (.cons .nl (.cons .u .nil))))))) (.dd (.dd .nil))⟩
 ·rw[if_neg (by decide)]at hi
  refine fd.modes_New.w ?_
  refine⟨[],_,_,_,_,h.size,rfl,rfl,?_⟩
  refine spl_ne (fun hh=>absurd hh (by omega)) (fun _=> ?_)
  refine⟨[],_,_,_,_,c_cloneZ rfl hl (by omega),rfl,rfl,?_⟩
  exact⟨.ret (.t [.p (.k 0) 0,i64 0]),[.mx [cipV t k xs,i64 5,bool back,.z l (bv iv),nilv,nilv]],⟨_,rfl,[.d 32 0],rfl,⟨_,rfl,rfl⟩,trivial⟩,.ret (.refl _),.cons (.mx (.cons (.refl _) (.cons (.refl _) (.cons (.refl _) (.cons (.refl _) (.cons .nl (.cons .u .nil))))))) (.dd (.dd .nil))⟩
 ·rw[if_neg (by decide)]at hi
  refine fd.modes_New.w ?_
  refine⟨[],_,_,_,_,h.size,rfl,rfl,?_⟩
  refine spl_ne (fun hh=>absurd hh (by omega)) (fun _=> ?_)
  refine⟨[],_,_,_,_,c_cloneZ rfl hl (by omega),rfl,rfl,?_⟩
  exact⟨.ret (.t [.p (.k 0) 0,i64 0]),[.mx [cipV t k xs,i64 6,bool back,.z l (bv iv),nilv,nilv]],⟨_,rfl,[.d 32 0],rfl,⟨_,rfl,rfl⟩,trivial⟩,.ret (.refl _),.cons (.mx (.cons (.refl _) (.cons (.refl _) (.cons (.refl _) (.cons (.refl _) (.cons .nl (.cons .u .nil))))))) (.dd (.dd .nil))⟩
theorem c_byte {t key s k xs rs} (h:Ciph t key s k xs rs) {mode:Int} {back:Bool} {st:MS} {p:UInt8} (hm:3≤mode) (K:MK s mode st):
  Con C N.modes_Mode_byte [.p (.k 0) 0,u8V p] [moX (cipV t k xs) mode back st 1,gnB st.row st.gone] (.ret (u8V (moOne (cF t key false) mode back st p).1)) [moX (cipV t k xs) mode back (moOne (cF t key false) mode back st p).2 2,.dead,gnB (moOne (cF t key false) mode back st p).2.row (moOne (cF t key false) mode back st p).2.gone]:=by
 have hs:=h.s_le
 have hc:st.ch.length=s:=K.ok.ch.resolve_left (by omega)
 have hr:=K.ok.row
 have hg:=K.glen
 obtain⟨ch,row,g⟩:=st
 dsimp only at hc hr hg
 by_cases h0:row.length=0
 ·obtain rfl:=Zm h0
  exact c_byteF h hc
 ·have e:moOne (cF t key false) mode back ⟨ch,row,g⟩ p=moByt mode back ⟨ch,row,g⟩ p:=by unfold moOne;rw[if_neg h0]
  rw[e]
  have hg:=hg h0
  exact c_byteR (by omega) (by omega) (by omega) (by omega) (by omega)
def msD (cv:V) (mode:Int) (back:Bool) (m:Nat) (b:Bs):Bool×Nat×MS×Bs→D
 |(false,i,st,o)=>⟨[(0,.p (.k 0) 0),(1,.z m (bv b)),(6,i64 1),(7,.o 1 (.k 2) 0 0)],[moX cv mode back st 1,gnB st.row st.gone,.sc []]⟩
 |(true,i,st,o)=>⟨[(0,.p (.k 0) 0),(1,.z (m-i) (bv (b.drop i))),(6,i64 1),(7,.o 1 (.k 3) 0 i)],[moX cv mode back st 2,.dead,gnB st.row st.gone,.sc (bv o)]⟩
theorem take_succ_getD {b:Bs} {i:Nat} (h:i<b.length):b.take (i+1)=b.take i++[(b.drop i).getD 0 0]:=by
 rw[List.take_add_one,Z0 h,Zl,List.getElem?_drop,Jf,Z0 h];rfl
theorem c_step_byte {t key s k xs rs} (h:Ciph t key s k xs rs) {mode:Int} {back:Bool} {st:MS} {m:Nat} {vb:List Value} {b:Bs} (hvb:vb=bv b) (hb:b.length=m) (hbm:m≤1000000) (hm:3≤mode) (K:MK s mode st) (hne:0<m∨st.row=[]):
  Con C N.modes_Mode_Step [.p (.k 0) 0,.z m vb] [moX (cipV t k xs) mode back st 1,gnB st.row st.gone] (.ret (.t [.z m (bv (moMany (cF t key false) mode back st b).1),i64 0])) [moX (cipV t k xs) mode back (moMany (cF t key false) mode back st b).2 2,.dead,gnB (moMany (cF t key false) mode back st b).2.row (moMany (cF t key false) mode back st b).2.gone]:=by
 subst hvb
 have hs:=h.s_le
 have hci:=h.ci
 have G:=c_grain1 h (back:=back) (st:=st) hm
 refine fd.modes_Mode_Step.w ?_
 refine⟨0,Bool×Nat×MS×Bs,msD (cipV t k xs) mode back m b,fun x=>x.2.1≤m∧(moMany (cF t key false) mode back st (b.take x.2.1))=(x.2.2.2,x.2.2.1)∧MK s mode x.2.2.1∧(x.1=false→x.2.1=0),fun x=>m-x.2.1,?_,fun x hx=> ?_⟩
 ·obtain⟨ch,row,g⟩:=st
  cases row
  all_goals
   refine⟨[.k 0,.k 1],_,_,_,_,G,rfl,rfl,?_⟩
   refine⟨by decide,?_⟩
   refine spl_d (fun h=>absurd h (by rw[Ji];decide)) (fun _=> ?_)
   refine⟨by decide,by omega,by omega,?_⟩
   exact⟨[],(false,0,_,[]),⟨Zx _,rfl,K,fun _=>rfl⟩,[.k 0,.k 1,.d 17 0],⟨rfl,rfl,rfl,rfl,trivial⟩,⟨_,rfl,rfl⟩,⟨_,rfl,rfl⟩,⟨_,rfl,rfl⟩,trivial⟩
 ·obtain⟨f,i,⟨ch,row,g⟩,o⟩:=x
  obtain⟨h1,h2,h3,h4⟩:=hx
  dsimp only at h1 h2 h3 h4
  cases f
  ·obtain rfl:=h4 rfl
   have e:(([]:Bs),st)=(o,⟨ch,row,g⟩):=h2
   obtain⟨rfl,rfl⟩:=Prod.mk.inj e
   refine spl_eq (fun h0=> ?_) (fun h0=> ?_)
   ·obtain rfl:m=0:=by omega
    obtain rfl:=Zm hb
    obtain rfl:row=[]:=hne.resolve_left (by omega)
    exact⟨.ret (.t [.z 0 [],i64 0]),[moX (cipV t k xs) mode back ⟨ch,[],g⟩ 2,.dead],⟨_,rfl,[.k 0,.k 1],rfl,⟨_,rfl,rfl⟩,⟨_,rfl,rfl⟩,trivial⟩,.ret (.refl _),.cons (.refl _) (.cons (.refl _) (.dd .nil))⟩
   ·have HB:=c_byte h (back:=back) (p:=b.getD 0 0) hm K
    have hN:=K.one hci (by omega) hm (back:=back) (b.getD 0 0)
    have hT:moMany (cF t key false) mode back ⟨ch,row,g⟩ (b.take (0+1))=([(moOne (cF t key false) mode back ⟨ch,row,g⟩ (b.getD 0 0)).1],(moOne (cF t key false) mode back ⟨ch,row,g⟩ (b.getD 0 0)).2):=by
     rw[take_succ_getD (by omega),moMany_snoc];rfl
    generalize moOne (cF t key false) mode back ⟨ch,row,g⟩ (b.getD 0 0)=x at*
    obtain⟨o',⟨ch',row',g'⟩⟩:=x
    dsimp only at HB hN hT
    have hsl:sub (bv b) 1 (m-1)=bv (b.drop 1):=bv_dropN hb (by omega)
    cases row<;>cases row'<;>(
     refine⟨by omega,by omega,_,bv_getD (k:=b) (i:=0) (by omega),?_⟩
     refine⟨[.k 0,.k 1],_,_,_,_,HB,rfl,rfl,?_⟩
     refine⟨Zf _,by omega,by decide,?_⟩
     refine⟨by omega,by omega,by omega,by omega,?_⟩
     exact⟨rfl,(true,0+1,⟨ch',_,g'⟩,[o']),⟨by show 0+1≤m;omega,hT,hN,fun h=>by cases h⟩,(by show m-(0+1)<m-0;omega),[.k 0,.k 1,.d 38 2,.d 40 0],⟨rfl,congrArg (V.z _) hsl,rfl,rfl,trivial⟩,⟨_,rfl,rfl⟩,⟨_,rfl,rfl⟩,⟨_,rfl,rfl⟩,⟨_,rfl,q7s (one_blk rfl)⟩,trivial⟩)
  ·have lo:o.length=i:=by
    have:=moMany_len (cF t key false) mode back (b.take i) st
    rw[h2,Zs]at this
    dsimp only at this
    omega
   refine spl_eq (fun h0=> ?_) (fun h0=> ?_)
   ·obtain rfl:i=m:=by omega
    rw[Zq (by omega)]at h2
    rw[h2]
    rcases row with _|⟨a,r⟩
    ·exact⟨_,[moX (cipV t k xs) mode back ⟨ch,[],g⟩ 2,.dead,gnB [] g],⟨_,rfl,[.k 0,.k 1,.k 2],congrArg (fun x=>V.t [x,i64 0]) (congrArg (V.z i) (bv_all lo)),⟨_,rfl,rfl⟩,⟨_,rfl,rfl⟩,⟨_,rfl,rfl⟩,trivial⟩,.ret (.refl _),.cons (.refl _) (.cons (.refl _) (.cons (.refl _) .nil))⟩
    ·exact⟨_,[moX (cipV t k xs) mode back ⟨ch,a::r,g⟩ 2,.dead,gnB (a::r) g],⟨_,rfl,[.k 0,.k 1,.k 2],congrArg (fun x=>V.t [x,i64 0]) (congrArg (V.z i) (bv_all lo)),⟨_,rfl,rfl⟩,⟨_,rfl,rfl⟩,⟨_,rfl,rfl⟩,trivial⟩,.ret (.refl _),.cons (.refl _) (.cons (.refl _) (.cons (.refl _) .nil))⟩
   ·have lt:i<m:=by omega
    have ld:(b.drop i).length=m-i:=by rw[Ze,hb]
    have HB:=c_byte h (back:=back) (p:=(b.drop i).getD 0 0) hm h3
    have hN:=h3.one hci (by omega) hm (back:=back) ((b.drop i).getD 0 0)
    have hT:moMany (cF t key false) mode back st (b.take (i+1))=(o++[(moOne (cF t key false) mode back ⟨ch,row,g⟩ ((b.drop i).getD 0 0)).1],(moOne (cF t key false) mode back ⟨ch,row,g⟩ ((b.drop i).getD 0 0)).2):=by
     rw[take_succ_getD (by omega),moMany_snoc,h2]
    generalize moOne (cF t key false) mode back ⟨ch,row,g⟩ ((b.drop i).getD 0 0)=x at*
    obtain⟨o',⟨ch',row',g'⟩⟩:=x
    dsimp only at HB hN hT
    have hsl:sub (bv (b.drop i)) 1 (m-i-1)=bv (b.drop (i+1)):=by rw[bv_dropN ld (by omega),Ja]
    cases row<;>cases row'<;>(
     refine⟨by omega,by omega,_,bv_getD (k:=b.drop i) (i:=0) (by omega),?_⟩
     refine⟨[.k 0,.k 2],_,_,_,_,HB,rfl,rfl,?_⟩
     refine⟨Zf _,by omega,by rw[bv_len,lo];omega,?_⟩
     refine⟨by omega,by omega,by omega,by omega,?_⟩
     exact⟨rfl,(true,i+1,⟨ch',_,g'⟩,o++[o']),⟨by show i+1≤m;omega,hT,hN,fun h=>by cases h⟩,(by show m-(i+1)<m-i;omega),[.k 0,.k 1,.d 38 2,.d 40 0],⟨rfl,congrArg (V.z _) hsl,rfl,rfl,trivial⟩,⟨_,rfl,rfl⟩,⟨_,rfl,rfl⟩,⟨_,rfl,rfl⟩,⟨_,rfl,q7s (snoc_blk lo rfl)⟩,trivial⟩)
theorem c_step_nil {t key s k xs rs} (h:Ciph t key s k xs rs) {mode:Int} {back:Bool} {st:MS} {vb:List Value} (hm:3≤mode):
  Con C N.modes_Mode_Step [.p (.k 0) 0,.z 0 vb] [moX (cipV t k xs) mode back st 1,gnB st.row st.gone] (.ret (.t [.z 0 [],i64 0])) [moX (cipV t k xs) mode back st 1,gnB st.row st.gone]:=by
 have G:=c_grain1 h (back:=back) (st:=st) hm
 refine fd.modes_Mode_Step.c ?_
 refine⟨0,Unit,fun _=>⟨[(0,.p (.k 0) 0),(1,.z 0 vb),(6,i64 1),(7,.o 1 (.k 2) 0 0)],[moX (cipV t k xs) mode back st 1,gnB st.row st.gone,.sc []]⟩,fun _=>True,fun _=>0,?_,fun x hx=> ?_⟩
 ·obtain⟨ch,row,g⟩:=st
  cases row
  all_goals
   refine⟨[.k 0,.k 1],_,_,_,_,G,rfl,rfl,?_⟩
   refine⟨by decide,?_⟩
   refine⟨by decide,by omega,by omega,?_⟩
   exact⟨[],(),trivial,[.k 0,.k 1,.d 17 0],⟨rfl,rfl,rfl,rfl,trivial⟩,⟨_,rfl,rfl⟩,⟨_,rfl,rfl⟩,⟨_,rfl,rfl⟩,trivial⟩
 ·obtain⟨ch,row,g⟩:=st
  cases row
  all_goals
   exact⟨_,rfl,[.k 0,.k 1],rfl,⟨_,rfl,rfl⟩,⟨_,rfl,rfl⟩,trivial⟩
def msB (cv:V) (mode:Int) (back:Bool) (m s c:Nat) (b:Bs):Nat×Nat×Bs×Bs→D
 |(i,q,o,c')=>⟨[(0,.p (.k 0) 0),(1,.z (m-q) (bv (b.drop q))),(6,i64 s),(7,.o 1 (.k 2) 0 q)],[.mx [cv,i64 mode,bool back,.z c (bv c'),.z 0 [],.u],.dead,.sc (bv o)]⟩
theorem c_step_blk {t key s k xs rs} (h:Ciph t key s k xs rs) {mode:Int} {back:Bool} {c m:Nat} {vb:List Value} {ch b:Bs} (hvb:vb=bv b) (hb:b.length=m) (hbm:m≤1000000) (hm:mode=1∨mode=2∧c=s) (hc:ch.length=c) (hg:m%s=0):
  Con C N.modes_Mode_Step [.p (.k 0) 0,.z m vb] [.mx [cipV t k xs,i64 mode,bool back,.z c (bv ch),.z 0 [],.u],.dead] (.ret (.t [.z m (bv (moBlks (cF t key false) (cF t key true) mode back s b ch (m/s)).1),i64 0])) [.mx [cipV t k xs,i64 mode,bool back,.z c (bv (moBlks (cF t key false) (cF t key true) mode back s b ch (m/s)).2),.z 0 [],.u],.dead,.dead]:=by
 subst hvb
 have hs:=h.s_le
 have hci:=h.ci
 have hdm:=Zo m s
 have hm12:mode=1∨mode=2:=by omega
 have G:=c_grainS h (back:=back) (c:=c) (vc:=bv ch) hm12
 refine fd.modes_Mode_Step.w ?_
 refine⟨0,Nat×Nat×Bs×Bs,msB (cipV t k xs) mode back m s c b,fun x=>x.2.1=s*x.1∧x.2.1≤m∧moBlks (cF t key false) (cF t key true) mode back s b ch x.1=(x.2.2.1,x.2.2.2)∧x.2.2.1.length=x.2.1∧x.2.2.2.length=c,fun x=>m-x.2.1,?_,fun x hx=> ?_⟩
 ·refine⟨[.k 0],_,_,_,_,G,rfl,rfl,?_⟩
  refine⟨by omega,?_⟩
  refine spl_d (fun h=>absurd h ?_) (fun _=> ?_)
  ·have:((m:Int).tmod (s:Int))=((m%s:Nat):Int):=by rw[Zi (by omega)];rfl
   rw[this,hg];decide
  refine⟨by decide,by omega,by omega,?_⟩
  exact⟨[],(0,0,[],ch),⟨by show 0=s*0;omega,Zx _,rfl,rfl,hc⟩,[.k 0,.k 1,.d 17 0],⟨rfl,rfl,rfl,rfl,trivial⟩,⟨_,rfl,rfl⟩,⟨_,rfl,rfl⟩,⟨_,rfl,rfl⟩,trivial⟩
 ·obtain⟨i,q,o,c'⟩:=x
  obtain⟨h1,h2,h3,h4,h5⟩:=hx
  dsimp only at h1 h2 h3 h4 h5
  have ld:(b.drop q).length=m-q:=by rw[Ze,hb]
  refine spl_eq (fun h0=> ?_) (fun h0=> ?_)
  ·obtain rfl:q=m:=by omega
   have hi:q/s=i:=by rw[h1,Z1 _ (by omega)]
   rw[hi,h3]
   exact⟨_,[.mx [cipV t k xs,i64 mode,bool back,.z c (bv c'),.z 0 [],.u],.dead],⟨_,rfl,[.k 0,.k 1],congrArg (fun x=>V.t [x,i64 0]) (congrArg (V.z q) (bv_all h4)),⟨_,rfl,rfl⟩,⟨_,rfl,rfl⟩,trivial⟩,.ret (.refl _),.cons (.refl _) (.cons (.refl _) (.dd .nil))⟩
  ·have hq:q+s≤m:=by
    have e1:m=s*(m/s):=by omega
    have:i<m/s:=by
     refine Zu (a:=s) ?_
     omega
    have:=Zz s this
    rw[Zv]at this
    omega
   have lp:(sub b q s).length=s:=by rw[sub_length];omega
   have hvp:sub (bv (b.drop q)) 0 s=bv (sub b q s):=bv_sub _ _ _
   have hn:moBlks (cF t key false) (cF t key true) mode back s b ch (i+1)=(o++(moBlk (cF t key false) (cF t key true) mode back c' (sub b q s)).1,(moBlk (cF t key false) (cF t key true) mode back c' (sub b q s)).2):=by
    rw[moBlks_succ,h3,←h1]
   have HB:=c_block h (mode:=mode) (back:=back) hvp rfl lp h5 hm
   have hl:=moBlk_ok (back:=back) hci hm12 (c:=c') (p:=sub b q s) (by omega) lp
   have hl2:(moBlk (cF t key false) (cF t key true) mode back c' (sub b q s)).2.length=c:=by
    rcases hm with rfl|⟨rfl,rfl⟩
    ·rw[←h5];rfl
    ·exact hl.2.resolve_left (by decide)
   have hl1:=hl.1
   generalize moBlk (cF t key false) (cF t key true) mode back c' (sub b q s)=x at*
   obtain⟨o',c2⟩:=x
   dsimp only at HB hn hl1 hl2
   have hsl:sub (bv (b.drop q)) s (m-q-s)=bv (b.drop (q+s)):=by rw[bv_dropN ld (by omega),Ja]
   refine spl_eq (fun h=>absurd h (by omega)) (fun _=> ?_)
   refine⟨by omega,by omega,by omega,by omega,?_⟩
   refine⟨[.k 0],_,_,_,_,HB,rfl,rfl,?_⟩
   refine⟨by first|omega|(rw [bv_len];omega),by omega,by rw[bv_len,h4];omega,?_⟩
   refine⟨by omega,by omega,by omega,by omega,?_⟩
   refine⟨rfl,(i+1,q+s,o++o',c2),⟨by show q+s=s*(i+1);rw[Zv];omega,hq,hn,by rw[Zc,h4,hl1],hl2⟩,(by show m-(q+s)<m-q;omega),[.k 0,.k 1,.d 24 0],⟨rfl,?_,rfl,rfl,trivial⟩,⟨_,rfl,rfl⟩,⟨_,rfl,rfl⟩,⟨_,rfl,q7s ?_⟩,trivial⟩
   ·show V.z (m-q-s) (sub (bv (b.drop q)) s (m-q-s))=V.z (m-(q+s)) _
    rw[hsl,Nat.sub_sub]
   ·show sub (bv o) 0 (q*1)++bv o'=_
    rw[Zj,bv_all h4,bv_app]
theorem moBlks_ch1 (E D back n) (b c:Bs):∀i,(moBlks E D 1 back n b c i).2=c
 |0=>rfl
 |i+1=>by
  rw[moBlks_succ]
  show(moBlk E D 1 back (moBlks E D 1 back n b c i).2 (sub b (n*i) n)).2=c
  unfold moBlk
  rw[if_pos rfl]
  exact moBlks_ch1 E D back n b c i
theorem moBlks_chlen {E D:Bs→Bs} {n:Nat} {mode:Int} {back:Bool} {b c:Bs} (h:CI E D n) (hm:mode=1∨mode=2∧c.length=n) {i:Nat} (hi:n*i≤b.length):(moBlks E D mode back n b c i).2.length=c.length:=by
 rcases hm with rfl|⟨rfl,hc⟩
 ·rw[moBlks_ch1]
 ·rw[((moBlks_ok (back:=back) h (.inr rfl) (.inr hc) i hi).2).resolve_left (by decide),hc]
theorem c_step {t key s k xs rs} (h:Ciph t key s k xs rs) {mode:Int} {back:Bool} {st:MS} {m:Nat} {vb:List Value} {b:Bs} (hvb:vb=bv b) (hb:b.length=m) (hbm:m≤1000000) (K:MK s mode st) (hg:m%moGrain s mode=0) (hne:0<m∨st.row=[]):
  Con C N.modes_Mode_Step [.p (.k 0) 0,.z m vb] [moX (cipV t k xs) mode back st 1,gnB st.row st.gone] (.ret (.t [.z m (bv (moStep (cF t key false) (cF t key true) s mode back st b).1),i64 0])) [moX (cipV t k xs) mode back (moStep (cF t key false) (cF t key true) s mode back st b).2 2,.dead,gnB (moStep (cF t key false) (cF t key true) s mode back st b).2.row (moStep (cF t key false) (cF t key true) s mode back st b).2.gone]:=by
 by_cases hm:mode=1∨mode=2
 ·have hr:=K.ok.blk hm
  have hc:=K.ok.ch
  obtain⟨ch,row,g⟩:=st
  dsimp only at hr hc
  subst hr
  have e:moStep (cF t key false) (cF t key true) s mode back ⟨ch,[],g⟩ b=((moBlks (cF t key false) (cF t key true) mode back s b ch (m/s)).1,⟨(moBlks (cF t key false) (cF t key true) mode back s b ch (m/s)).2,[],g⟩):=by
   unfold moStep
   rw[if_pos hm,hb]
  have hg':m%s=0:=by unfold moGrain at hg;rwa [if_pos hm]at hg
  have hdm:=Zo m s
  have hl:=moBlks_chlen (back:=back) h.ci (b:=b) (c:=ch) (i:=m/s) (mode:=mode) (by omega) (by omega)
  have HB:=c_step_blk h (back:=back) hvb hb hbm (ch:=ch) (c:=ch.length) (mode:=mode) (by omega) rfl hg'
  rw[e]
  show Con C N.modes_Mode_Step [.p (.k 0) 0,.z m vb] [.mx [cipV t k xs,i64 mode,bool back,.z ch.length (bv ch),.z 0 [],.u],.dead] _ [.mx [cipV t k xs,i64 mode,bool back,.z (moBlks (cF t key false) (cF t key true) mode back s b ch (m/s)).2.length (bv (moBlks (cF t key false) (cF t key true) mode back s b ch (m/s)).2),.z 0 [],.u],.dead,.dead]
  rw[hl]
  exact HB
 ·have e:moStep (cF t key false) (cF t key true) s mode back st b=moMany (cF t key false) mode back st b:=by
   unfold moStep
   rw[if_neg hm]
  rw[e]
  exact c_step_byte h hvb hb hbm (by have:=K.ok.m;omega) K hne
theorem c_step_bad {t key s k xs rs} (h:Ciph t key s k xs rs) {mode:Int} {back:Bool} {st:MS} {m:Nat} {vb:List Value} (K:MK s mode st) (hg:m%moGrain s mode≠0):
  Con C N.modes_Mode_Step [.p (.k 0) 0,.z m vb] [moX (cipV t k xs) mode back st 1,gnB st.row st.gone] (.ret (.t [nilv,i64 7])) [moX (cipV t k xs) mode back st 1,gnB st.row st.gone]:=by
 have hs:=h.s_le
 have hm:mode=1∨mode=2:=by
  refine Classical.byContradiction fun hm=>hg ?_
  unfold moGrain;rw[if_neg hm,Nat.mod_one]
 have hr:=K.ok.blk hm
 obtain⟨ch,row,g⟩:=st
 dsimp only at hr
 subst hr
 have hg':m%s≠0:=by unfold moGrain at hg;rwa [if_pos hm]at hg
 have G:=c_grainS h (back:=back) (c:=ch.length) (vc:=bv ch) hm
 refine fd.modes_Mode_Step.c ?_
 refine⟨0,Unit,fun _=>⟨[],[]⟩,fun _=>False,fun _=>0,?_,fun x hx=>hx.elim⟩
 refine⟨[.k 0],_,_,_,_,G,rfl,rfl,?_⟩
 refine⟨by omega,?_⟩
 refine spl_d (fun _=> ?_) (fun h=>absurd ?_ h)
 ·exact⟨_,rfl,[.k 0,.k 1],rfl,⟨_,rfl,rfl⟩,⟨_,rfl,rfl⟩,trivial⟩
 ·have:((m:Int).tmod (s:Int))=((m%s:Nat):Int):=by rw[Zi (by omega)];rfl
  rw[this];omega
theorem c_r12_block {t key s k xs rs} (h:Ciph t key s k xs rs) {mode:Int} {back:Bool} {c:Nat} {p ch:Bs} {vp vch:List Value} (hvp:vp=bv p) (hvc:vch=bv ch) (hp:p.length=s) (hc:ch.length=c) (hm:mode=1∨mode=2∧c=s):
  Con C N.r12_Mode_block [.p (.k 0) 0,.z s vp] [.mx [.q rs 0,i64 mode,bool back,.z c vch,.z 0 [],i64 0,.u]] (.ret (.z s (bv (moBlk (cF t key false) (cF t key true) mode back ch p).1))) [.mx [.q rs 0,i64 mode,bool back,.z c (bv (moBlk (cF t key false) (cF t key true) mode back ch p).2),.z 0 [],i64 0,.u]]:=by
 subst hvp;subst hvc
 have hs:=h.s_le
 have lE:=h.len (back:=false) hp
 have lD:=h.len (back:=true) hp
 refine fd.r12_Mode_block.c ?_
 refine⟨_,rfl,?_⟩
 refine spl_eq (fun h1=> ?_) (fun h1=> ?_)
 ·subst h1
  refine⟨_,rfl,?_⟩
  cases back
  ·refine⟨_,rfl,?_⟩
   refine⟨_,rfl,?_⟩
   refine⟨[],_,_,_,_,h.E hp rfl,rfl,rfl,?_⟩
   refine⟨_,rfl,[.k 0],?_,⟨_,rfl,?_⟩,trivial⟩
   ·show V.z s (sub (bv (cF t key false p)) 0 s)=_
    rw[bv_all lE];rfl
   ·rfl
  ·refine⟨_,rfl,?_⟩
   refine⟨[],_,_,_,_,h.Un hp rfl,rfl,rfl,?_⟩
   refine⟨_,rfl,[.k 0],?_,⟨_,rfl,?_⟩,trivial⟩
   ·show V.z s (sub (bv (cF t key true p)) 0 s)=_
    rw[bv_all lD];rfl
   ·rfl
 ·obtain⟨rfl,rfl⟩:=hm.resolve_left h1
  refine⟨_,rfl,?_⟩
  refine⟨_,rfl,?_⟩
  cases back
  ·have lx:=xorL_len hp hc
   have lX:=h.len (back:=false) lx
   refine⟨_,rfl,?_⟩
   refine⟨_,rfl,?_⟩
   refine⟨[],_,_,_,_,c_both (a:=p) (b:=ch) rfl rfl hp hc (by omega),rfl,rfl,?_⟩
   refine⟨[],_,_,_,_,h.E (b:=xorL p ch) lx (bv_all lx),rfl,rfl,?_⟩
   refine⟨Za rfl,?_⟩
   refine⟨_,rfl,?_⟩
   refine⟨_,rfl,[.k 0],?_,⟨_,rfl,?_⟩,trivial⟩
   ·show V.z c (sub (bv (cF t key false (xorL p ch))) 0 c)=_
    rw[bv_all lX];rfl
   ·show B.mx [.q rs 0,i64 2,bool false,.z c (sub (bv (cF t key false (xorL p ch))) 0 c),.z 0 [],i64 0,.u]=_
    rw[bv_all lX];rfl
  ·have lx:=xorL_len lD hc
   refine⟨_,rfl,?_⟩
   refine⟨[],_,_,_,_,h.Un hp rfl,rfl,rfl,?_⟩
   refine⟨_,rfl,?_⟩
   refine⟨[],_,_,_,_,c_both (a:=cF t key true p) (b:=ch) (bv_all lD) rfl lD hc (by omega),rfl,rfl,?_⟩
   refine⟨by rw[bv_len];omega,by omega,by decide,?_⟩
   refine⟨Za rfl,?_⟩
   refine⟨_,rfl,[.k 0],?_,⟨_,rfl,?_⟩,trivial⟩
   ·show V.z c (sub (bv (xorL (cF t key true p) ch)) 0 c)=_
    rw[bv_all lx];rfl
   ·show B.mx [.q rs 0,i64 2,bool true,.z (0+c) (sub ([]++bv p) 0 (0+c)),.z 0 [],i64 0,.u]=_
    rw[Zk,Zn,bv_all hp];rfl
theorem c_shifted {t key s k xs rs} (h:Ciph t key s k xs rs) {mode:Int} {back:Bool} {r u:Nat} {p:UInt8} {ch:Bs} {vch vr:List Value} (hvc:vch=bv ch) (hl:ch.length=s):
  Con C N.r12_Mode_shifted [.p (.k 0) 0,u8V p] [.mx [.q rs 0,i64 mode,bool back,.z s vch,.z r vr,i64 u,.u]] (.ret (u8V (p^^^(cF t key false ch).getD 0 0))) [.mx [.q rs 0,i64 mode,bool back,.z s (bv (ch.drop 1++[moIn back p (p^^^(cF t key false ch).getD 0 0)])),.z r vr,i64 u,.u]]:=by
 subst hvc
 have hs:=h.s_le
 have lE:=h.len (back:=false) hl
 have ld:(ch.drop 1).length=s-1:=by rw[Ze,hl]
 refine fd.r12_Mode_shifted.c ?_
 refine⟨_,rfl,?_⟩
 refine⟨_,rfl,?_⟩
 refine⟨[],_,_,_,_,h.E hl rfl,rfl,rfl,?_⟩
 generalize cF t key false ch=E at*
 refine⟨by omega,by omega,_,bv_getD (k:=E) (i:=0) (by omega),?_⟩
 refine⟨_,rfl,?_⟩
 cases back
 ·refine⟨_,rfl,?_⟩
  refine⟨by omega,by omega,by omega,by omega,?_⟩
  refine⟨by rw[sub_length,bv_len];omega,by omega,by decide,?_⟩
  refine⟨Zf _,by omega,by show 0+(0+(s-1))*1≤_;rw[Zc,sub_length,sub_length,bv_len];omega,?_⟩
  refine⟨Za rfl,?_⟩
  refine⟨_,rfl,[.k 0],?_,⟨_,rfl,?_⟩,trivial⟩
  ·show V.s (.int .u8 (U8.wrap _))=_
   rw[u8_xor]
  ·show B.mx [.q rs 0,i64 mode,bool false,.z (0+(s-1)+1) (sub (sub ([]++sub (bv ch) 1 (s-1)) 0 ((0+(s-1))*1)++sub [Value.int .u8 _] 0 (1*1)) 0 (0+(s-1)+1)),.z r vr,i64 u,.u]=_
   rw[Zk,Zn,bv_dropN hl (by omega),snoc_sub ld (u8_xor _ _),show s-1+1=s by omega];rfl
 ·refine⟨_,rfl,?_⟩
  refine⟨by omega,by omega,by omega,by omega,?_⟩
  refine⟨by rw[sub_length,bv_len];omega,by omega,by decide,?_⟩
  refine⟨Zf _,by omega,by show 0+(0+(s-1))*1≤_;rw[Zc,sub_length,sub_length,bv_len];omega,?_⟩
  refine⟨Za rfl,?_⟩
  refine⟨_,rfl,[.k 0],?_,⟨_,rfl,?_⟩,trivial⟩
  ·show V.s (.int .u8 (U8.wrap _))=_
   rw[u8_xor]
  ·show B.mx [.q rs 0,i64 mode,bool true,.z (0+(s-1)+1) (sub (sub ([]++sub (bv ch) 1 (s-1)) 0 ((0+(s-1))*1)++sub [Value.int .u8 _] 0 (1*1)) 0 (0+(s-1)+1)),.z r vr,i64 u,.u]=_
   rw[Zk,Zn,bv_dropN hl (by omega),snoc_sub ld rfl,show s-1+1=s by omega];rfl
theorem c_byByteF {t key s k xs rs} (h:Ciph t key s k xs rs) {mode:Int} {back:Bool} {r u:Nat} {p:UInt8} {ch:Bs} {vch vr:List Value} (hvc:vch=bv ch) (hl:ch.length=s) (hm:mode=4∨mode=5∨mode=6) (hr:r=0∨u=r):
  Con C N.r12_Mode_byByte [.p (.k 0) 0,u8V p] [.mx [.q rs 0,i64 mode,bool back,.z s vch,.z r vr,i64 u,.u],.dead] (.ret (u8V (p^^^(cF t key false ch).getD 0 0))) [.mx [.q rs 0,i64 mode,bool back,.z s (bv (moNxt (cF t key false) mode ch)),.z s (bv (cF t key false ch)),i64 1,.o 1 (.k 2) 0 1],.dead,.sc (bv ([]++[moIn back p (p^^^(cF t key false ch).getD 0 0)]))]:=by
 subst hvc
 have hs:=h.s_le
 have lE:=h.len (back:=false) hl
 have hE:=h.E hl (va:=bv ch) rfl
 have lI:(incL ch).length=s:=by rw[incL_len,hl]
 rcases hm with rfl|rfl|rfl
 ·have e:moNxt (cF t key false) 4 ch=ch:=by unfold moNxt;rw[if_neg (by decide),if_neg (by decide)]
  rw[e]
  generalize cF t key false ch=E at*
  cases back
  ·refine fd.r12_Mode_byByte.c ?_
   refine⟨_,rfl,?_⟩
   refine spl_eq (fun h0=> ?_) (fun h0=> ?_)
   ·refine⟨_,rfl,?_⟩
    refine⟨_,rfl,?_⟩
    refine⟨[],_,_,_,_,hE,rfl,rfl,?_⟩
    refine⟨Za rfl,?_⟩
    refine⟨Za rfl,?_⟩
    refine⟨_,rfl,?_⟩
    refine⟨Za rfl,?_⟩
    refine⟨_,rfl,?_⟩
    refine⟨_,rfl,?_⟩
    refine⟨by omega,by omega,_,bv_getD (k:=E) (i:=0) (by omega),?_⟩
    refine⟨_,rfl,?_⟩
    refine⟨Za rfl,?_⟩
    refine⟨_,rfl,?_⟩
    refine⟨_,rfl,?_⟩
    refine⟨Zf _,by omega,?_⟩
    refine⟨Za rfl,?_⟩
    refine⟨_,rfl,?_⟩
    refine⟨_,rfl,?_⟩
    refine⟨_,rfl,?_⟩
    refine spl_eq (fun hh=>absurd hh (by omega)) (fun _=> ?_)
    refine⟨_,rfl,[.k 0,.k 1,.d 98 0],?_,⟨_,rfl,?_⟩,⟨_,rfl,rfl⟩,⟨_,rfl,q7s ?_⟩,trivial⟩
    ·show V.s (.int .u8 (U8.wrap _))=_
     rw[u8_xor]
    ·show B.mx [.q rs 0,i64 4,bool false,.z s (bv ch),.z s (sub (bv E) 0 s),i64 1,.o 1 (.k 2) 0 1]=_
     rw[bv_all lE]
    ·exact one_blk (u8_xor _ _)
   ·refine⟨_,rfl,?_⟩
    refine⟨_,rfl,?_⟩
    refine spl_eq (fun _=> ?_) (fun hh=>absurd (show (u:Int)=(r:Int) by omega) hh)
    refine⟨_,rfl,?_⟩
    refine⟨_,rfl,?_⟩
    refine⟨[],_,_,_,_,hE,rfl,rfl,?_⟩
    refine⟨Za rfl,?_⟩
    refine⟨Za rfl,?_⟩
    refine⟨_,rfl,?_⟩
    refine⟨Za rfl,?_⟩
    refine⟨_,rfl,?_⟩
    refine⟨_,rfl,?_⟩
    refine⟨by omega,by omega,_,bv_getD (k:=E) (i:=0) (by omega),?_⟩
    refine⟨_,rfl,?_⟩
    refine⟨Za rfl,?_⟩
    refine⟨_,rfl,?_⟩
    refine⟨_,rfl,?_⟩
    refine⟨Zf _,by omega,?_⟩
    refine⟨Za rfl,?_⟩
    refine⟨_,rfl,?_⟩
    refine⟨_,rfl,?_⟩
    refine⟨_,rfl,?_⟩
    refine spl_eq (fun hh=>absurd hh (by omega)) (fun _=> ?_)
    refine⟨_,rfl,[.k 0,.k 1,.d 98 0],?_,⟨_,rfl,?_⟩,⟨_,rfl,rfl⟩,⟨_,rfl,q7s ?_⟩,trivial⟩
    ·show V.s (.int .u8 (U8.wrap _))=_
     rw[u8_xor]
    ·show B.mx [.q rs 0,i64 4,bool false,.z s (bv ch),.z s (sub (bv E) 0 s),i64 1,.o 1 (.k 2) 0 1]=_
     rw[bv_all lE]
    ·exact one_blk (u8_xor _ _)
  ·refine fd.r12_Mode_byByte.c ?_
   refine⟨_,rfl,?_⟩
   refine spl_eq (fun h0=> ?_) (fun h0=> ?_)
   ·refine⟨_,rfl,?_⟩
    refine⟨_,rfl,?_⟩
    refine⟨[],_,_,_,_,hE,rfl,rfl,?_⟩
    refine⟨Za rfl,?_⟩
    refine⟨Za rfl,?_⟩
    refine⟨_,rfl,?_⟩
    refine⟨Za rfl,?_⟩
    refine⟨_,rfl,?_⟩
    refine⟨_,rfl,?_⟩
    refine⟨by omega,by omega,_,bv_getD (k:=E) (i:=0) (by omega),?_⟩
    refine⟨_,rfl,?_⟩
    refine⟨Za rfl,?_⟩
    refine⟨_,rfl,?_⟩
    refine⟨_,rfl,?_⟩
    refine⟨Zf _,by omega,?_⟩
    refine⟨Za rfl,?_⟩
    refine⟨_,rfl,?_⟩
    refine⟨_,rfl,?_⟩
    refine⟨_,rfl,?_⟩
    refine spl_eq (fun hh=>absurd hh (by omega)) (fun _=> ?_)
    refine⟨_,rfl,[.k 0,.k 1,.d 98 0],?_,⟨_,rfl,?_⟩,⟨_,rfl,rfl⟩,⟨_,rfl,q7s ?_⟩,trivial⟩
    ·show V.s (.int .u8 (U8.wrap _))=_
     rw[u8_xor]
    ·show B.mx [.q rs 0,i64 4,bool true,.z s (bv ch),.z s (sub (bv E) 0 s),i64 1,.o 1 (.k 2) 0 1]=_
     rw[bv_all lE]
    ·exact one_blk rfl
   ·refine⟨_,rfl,?_⟩
    refine⟨_,rfl,?_⟩
    refine spl_eq (fun _=> ?_) (fun hh=>absurd (show (u:Int)=(r:Int) by omega) hh)
    refine⟨_,rfl,?_⟩
    refine⟨_,rfl,?_⟩
    refine⟨[],_,_,_,_,hE,rfl,rfl,?_⟩
    refine⟨Za rfl,?_⟩
    refine⟨Za rfl,?_⟩
    refine⟨_,rfl,?_⟩
    refine⟨Za rfl,?_⟩
    refine⟨_,rfl,?_⟩
    refine⟨_,rfl,?_⟩
    refine⟨by omega,by omega,_,bv_getD (k:=E) (i:=0) (by omega),?_⟩
    refine⟨_,rfl,?_⟩
    refine⟨Za rfl,?_⟩
    refine⟨_,rfl,?_⟩
    refine⟨_,rfl,?_⟩
    refine⟨Zf _,by omega,?_⟩
    refine⟨Za rfl,?_⟩
    refine⟨_,rfl,?_⟩
    refine⟨_,rfl,?_⟩
    refine⟨_,rfl,?_⟩
    refine spl_eq (fun hh=>absurd hh (by omega)) (fun _=> ?_)
    refine⟨_,rfl,[.k 0,.k 1,.d 98 0],?_,⟨_,rfl,?_⟩,⟨_,rfl,rfl⟩,⟨_,rfl,q7s ?_⟩,trivial⟩
    ·show V.s (.int .u8 (U8.wrap _))=_
     rw[u8_xor]
    ·show B.mx [.q rs 0,i64 4,bool true,.z s (bv ch),.z s (sub (bv E) 0 s),i64 1,.o 1 (.k 2) 0 1]=_
     rw[bv_all lE]
    ·exact one_blk rfl
 ·have e:moNxt (cF t key false) 5 ch=cF t key false ch:=by unfold moNxt;rw[if_pos rfl]
  rw[e]
  generalize cF t key false ch=E at*
  cases back
  ·refine fd.r12_Mode_byByte.c ?_
   refine⟨_,rfl,?_⟩
   refine spl_eq (fun h0=> ?_) (fun h0=> ?_)
   ·refine⟨_,rfl,?_⟩
    refine⟨_,rfl,?_⟩
    refine⟨[],_,_,_,_,hE,rfl,rfl,?_⟩
    refine⟨Za rfl,?_⟩
    refine⟨Za rfl,?_⟩
    refine⟨_,rfl,?_⟩
    refine⟨_,rfl,?_⟩
    refine⟨Za rfl,?_⟩
    refine⟨Za rfl,?_⟩
    refine⟨_,rfl,?_⟩
    refine⟨_,rfl,?_⟩
    refine⟨by omega,by omega,_,bv_getD (k:=E) (i:=0) (by omega),?_⟩
    refine⟨_,rfl,?_⟩
    refine⟨Za rfl,?_⟩
    refine⟨_,rfl,?_⟩
    refine⟨_,rfl,?_⟩
    refine⟨Zf _,by omega,?_⟩
    refine⟨Za rfl,?_⟩
    refine⟨_,rfl,?_⟩
    refine⟨_,rfl,[.k 0,.k 1,.d 98 0],?_,⟨_,rfl,?_⟩,⟨_,rfl,rfl⟩,⟨_,rfl,q7s ?_⟩,trivial⟩
    ·show V.s (.int .u8 (U8.wrap _))=_
     rw[u8_xor]
    ·show B.mx [.q rs 0,i64 5,bool false,.z s (sub (bv E) 0 s),.z s (sub (bv E) 0 s),i64 1,.o 1 (.k 2) 0 1]=_
     rw[bv_all lE]
    ·exact one_blk (u8_xor _ _)
   ·refine⟨_,rfl,?_⟩
    refine⟨_,rfl,?_⟩
    refine spl_eq (fun _=> ?_) (fun hh=>absurd (show (u:Int)=(r:Int) by omega) hh)
    refine⟨_,rfl,?_⟩
    refine⟨_,rfl,?_⟩
    refine⟨[],_,_,_,_,hE,rfl,rfl,?_⟩
    refine⟨Za rfl,?_⟩
    refine⟨Za rfl,?_⟩
    refine⟨_,rfl,?_⟩
    refine⟨_,rfl,?_⟩
    refine⟨Za rfl,?_⟩
    refine⟨Za rfl,?_⟩
    refine⟨_,rfl,?_⟩
    refine⟨_,rfl,?_⟩
    refine⟨by omega,by omega,_,bv_getD (k:=E) (i:=0) (by omega),?_⟩
    refine⟨_,rfl,?_⟩
    refine⟨Za rfl,?_⟩
    refine⟨_,rfl,?_⟩
    refine⟨_,rfl,?_⟩
    refine⟨Zf _,by omega,?_⟩
    refine⟨Za rfl,?_⟩
    refine⟨_,rfl,?_⟩
    refine⟨_,rfl,[.k 0,.k 1,.d 98 0],?_,⟨_,rfl,?_⟩,⟨_,rfl,rfl⟩,⟨_,rfl,q7s ?_⟩,trivial⟩
    ·show V.s (.int .u8 (U8.wrap _))=_
     rw[u8_xor]
    ·show B.mx [.q rs 0,i64 5,bool false,.z s (sub (bv E) 0 s),.z s (sub (bv E) 0 s),i64 1,.o 1 (.k 2) 0 1]=_
     rw[bv_all lE]
    ·exact one_blk (u8_xor _ _)
  ·refine fd.r12_Mode_byByte.c ?_
   refine⟨_,rfl,?_⟩
   refine spl_eq (fun h0=> ?_) (fun h0=> ?_)
   ·refine⟨_,rfl,?_⟩
    refine⟨_,rfl,?_⟩
    refine⟨[],_,_,_,_,hE,rfl,rfl,?_⟩
    refine⟨Za rfl,?_⟩
    refine⟨Za rfl,?_⟩
    refine⟨_,rfl,?_⟩
    refine⟨_,rfl,?_⟩
    refine⟨Za rfl,?_⟩
    refine⟨Za rfl,?_⟩
    refine⟨_,rfl,?_⟩
    refine⟨_,rfl,?_⟩
    refine⟨by omega,by omega,_,bv_getD (k:=E) (i:=0) (by omega),?_⟩
    refine⟨_,rfl,?_⟩
    refine⟨Za rfl,?_⟩
    refine⟨_,rfl,?_⟩
    refine⟨_,rfl,?_⟩
    refine⟨Zf _,by omega,?_⟩
    refine⟨Za rfl,?_⟩
    refine⟨_,rfl,?_⟩
    refine⟨_,rfl,[.k 0,.k 1,.d 98 0],?_,⟨_,rfl,?_⟩,⟨_,rfl,rfl⟩,⟨_,rfl,q7s ?_⟩,trivial⟩
    ·show V.s (.int .u8 (U8.wrap _))=_
     rw[u8_xor]
    ·show B.mx [.q rs 0,i64 5,bool true,.z s (sub (bv E) 0 s),.z s (sub (bv E) 0 s),i64 1,.o 1 (.k 2) 0 1]=_
     rw[bv_all lE]
    ·exact one_blk rfl
   ·refine⟨_,rfl,?_⟩
    refine⟨_,rfl,?_⟩
    refine spl_eq (fun _=> ?_) (fun hh=>absurd (show (u:Int)=(r:Int) by omega) hh)
    refine⟨_,rfl,?_⟩
    refine⟨_,rfl,?_⟩
    refine⟨[],_,_,_,_,hE,rfl,rfl,?_⟩
    refine⟨Za rfl,?_⟩
    refine⟨Za rfl,?_⟩
    refine⟨_,rfl,?_⟩
    refine⟨_,rfl,?_⟩
    refine⟨Za rfl,?_⟩
    refine⟨Za rfl,?_⟩
    refine⟨_,rfl,?_⟩
    refine⟨_,rfl,?_⟩
    refine⟨by omega,by omega,_,bv_getD (k:=E) (i:=0) (by omega),?_⟩
    refine⟨_,rfl,?_⟩
    refine⟨Za rfl,?_⟩
    refine⟨_,rfl,?_⟩
    refine⟨_,rfl,?_⟩
    refine⟨Zf _,by omega,?_⟩
    refine⟨Za rfl,?_⟩
    refine⟨_,rfl,?_⟩
    refine⟨_,rfl,[.k 0,.k 1,.d 98 0],?_,⟨_,rfl,?_⟩,⟨_,rfl,rfl⟩,⟨_,rfl,q7s ?_⟩,trivial⟩
    ·show V.s (.int .u8 (U8.wrap _))=_
     rw[u8_xor]
    ·show B.mx [.q rs 0,i64 5,bool true,.z s (sub (bv E) 0 s),.z s (sub (bv E) 0 s),i64 1,.o 1 (.k 2) 0 1]=_
     rw[bv_all lE]
    ·exact one_blk rfl
 ·have e:moNxt (cF t key false) 6 ch=incL ch:=by unfold moNxt;rw[if_neg (by decide),if_pos rfl]
  rw[e]
  generalize cF t key false ch=E at*
  cases back
  ·refine fd.r12_Mode_byByte.c ?_
   refine⟨_,rfl,?_⟩
   refine spl_eq (fun h0=> ?_) (fun h0=> ?_)
   ·refine⟨_,rfl,?_⟩
    refine⟨_,rfl,?_⟩
    refine⟨[],_,_,_,_,hE,rfl,rfl,?_⟩
    refine⟨Za rfl,?_⟩
    refine⟨Za rfl,?_⟩
    refine⟨_,rfl,?_⟩
    refine⟨_,rfl,?_⟩
    refine⟨[],_,_,_,_,c_r1_inc rfl hl (by omega),rfl,rfl,?_⟩
    refine⟨Za rfl,?_⟩
    refine⟨Za rfl,?_⟩
    refine⟨_,rfl,?_⟩
    refine⟨_,rfl,?_⟩
    refine⟨by omega,by omega,_,bv_getD (k:=E) (i:=0) (by omega),?_⟩
    refine⟨_,rfl,?_⟩
    refine⟨Za rfl,?_⟩
    refine⟨_,rfl,?_⟩
    refine⟨_,rfl,?_⟩
    refine⟨Zf _,by omega,?_⟩
    refine⟨Za rfl,?_⟩
    refine⟨_,rfl,?_⟩
    refine⟨_,rfl,[.k 0,.k 1,.d 98 0],?_,⟨_,rfl,?_⟩,⟨_,rfl,rfl⟩,⟨_,rfl,q7s ?_⟩,trivial⟩
    ·show V.s (.int .u8 (U8.wrap _))=_
     rw[u8_xor]
    ·show B.mx [.q rs 0,i64 6,bool false,.z s (sub (bv (incL ch)) 0 s),.z s (sub (bv E) 0 s),i64 1,.o 1 (.k 2) 0 1]=_
     rw[bv_all lE,bv_all lI]
    ·exact one_blk (u8_xor _ _)
   ·refine⟨_,rfl,?_⟩
    refine⟨_,rfl,?_⟩
    refine spl_eq (fun _=> ?_) (fun hh=>absurd (show (u:Int)=(r:Int) by omega) hh)
    refine⟨_,rfl,?_⟩
    refine⟨_,rfl,?_⟩
    refine⟨[],_,_,_,_,hE,rfl,rfl,?_⟩
    refine⟨Za rfl,?_⟩
    refine⟨Za rfl,?_⟩
    refine⟨_,rfl,?_⟩
    refine⟨_,rfl,?_⟩
    refine⟨[],_,_,_,_,c_r1_inc rfl hl (by omega),rfl,rfl,?_⟩
    refine⟨Za rfl,?_⟩
    refine⟨Za rfl,?_⟩
    refine⟨_,rfl,?_⟩
    refine⟨_,rfl,?_⟩
    refine⟨by omega,by omega,_,bv_getD (k:=E) (i:=0) (by omega),?_⟩
    refine⟨_,rfl,?_⟩
    refine⟨Za rfl,?_⟩
    refine⟨_,rfl,?_⟩
    refine⟨_,rfl,?_⟩
    refine⟨Zf _,by omega,?_⟩
    refine⟨Za rfl,?_⟩
    refine⟨_,rfl,?_⟩
    refine⟨_,rfl,[.k 0,.k 1,.d 98 0],?_,⟨_,rfl,?_⟩,⟨_,rfl,rfl⟩,⟨_,rfl,q7s ?_⟩,trivial⟩
    ·show V.s (.int .u8 (U8.wrap _))=_
     rw[u8_xor]
    ·show B.mx [.q rs 0,i64 6,bool false,.z s (sub (bv (incL ch)) 0 s),.z s (sub (bv E) 0 s),i64 1,.o 1 (.k 2) 0 1]=_
     rw[bv_all lE,bv_all lI]
    ·exact one_blk (u8_xor _ _)
  ·refine fd.r12_Mode_byByte.c ?_
   refine⟨_,rfl,?_⟩
   refine spl_eq (fun h0=> ?_) (fun h0=> ?_)
   ·refine⟨_,rfl,?_⟩
    refine⟨_,rfl,?_⟩
    refine⟨[],_,_,_,_,hE,rfl,rfl,?_⟩
    refine⟨Za rfl,?_⟩
    refine⟨Za rfl,?_⟩
    refine⟨_,rfl,?_⟩
    refine⟨_,rfl,?_⟩
    refine⟨[],_,_,_,_,c_r1_inc rfl hl (by omega),rfl,rfl,?_⟩
    refine⟨Za rfl,?_⟩
    refine⟨Za rfl,?_⟩
    refine⟨_,rfl,?_⟩
    refine⟨_,rfl,?_⟩
    refine⟨by omega,by omega,_,bv_getD (k:=E) (i:=0) (by omega),?_⟩
    refine⟨_,rfl,?_⟩
    refine⟨Za rfl,?_⟩
    refine⟨_,rfl,?_⟩
    refine⟨_,rfl,?_⟩
    refine⟨Zf _,by omega,?_⟩
    refine⟨Za rfl,?_⟩
    refine⟨_,rfl,?_⟩
    refine⟨_,rfl,[.k 0,.k 1,.d 98 0],?_,⟨_,rfl,?_⟩,⟨_,rfl,rfl⟩,⟨_,rfl,q7s ?_⟩,trivial⟩
    ·show V.s (.int .u8 (U8.wrap _))=_
     rw[u8_xor]
    ·show B.mx [.q rs 0,i64 6,bool true,.z s (sub (bv (incL ch)) 0 s),.z s (sub (bv E) 0 s),i64 1,.o 1 (.k 2) 0 1]=_
     rw[bv_all lE,bv_all lI]
    ·exact one_blk rfl
   ·refine⟨_,rfl,?_⟩
    refine⟨_,rfl,?_⟩
    refine spl_eq (fun _=> ?_) (fun hh=>absurd (show (u:Int)=(r:Int) by omega) hh)
    refine⟨_,rfl,?_⟩
    refine⟨_,rfl,?_⟩
    refine⟨[],_,_,_,_,hE,rfl,rfl,?_⟩
    refine⟨Za rfl,?_⟩
    refine⟨Za rfl,?_⟩
    refine⟨_,rfl,?_⟩
    refine⟨_,rfl,?_⟩
    refine⟨[],_,_,_,_,c_r1_inc rfl hl (by omega),rfl,rfl,?_⟩
    refine⟨Za rfl,?_⟩
    refine⟨Za rfl,?_⟩
    refine⟨_,rfl,?_⟩
    refine⟨_,rfl,?_⟩
    refine⟨by omega,by omega,_,bv_getD (k:=E) (i:=0) (by omega),?_⟩
    refine⟨_,rfl,?_⟩
    refine⟨Za rfl,?_⟩
    refine⟨_,rfl,?_⟩
    refine⟨_,rfl,?_⟩
    refine⟨Zf _,by omega,?_⟩
    refine⟨Za rfl,?_⟩
    refine⟨_,rfl,?_⟩
    refine⟨_,rfl,[.k 0,.k 1,.d 98 0],?_,⟨_,rfl,?_⟩,⟨_,rfl,rfl⟩,⟨_,rfl,q7s ?_⟩,trivial⟩
    ·show V.s (.int .u8 (U8.wrap _))=_
     rw[u8_xor]
    ·show B.mx [.q rs 0,i64 6,bool true,.z s (sub (bv (incL ch)) 0 s),.z s (sub (bv E) 0 s),i64 1,.o 1 (.k 2) 0 1]=_
     rw[bv_all lE,bv_all lI]
    ·exact one_blk rfl
theorem c_byByteR {t key s k xs rs} (h:Ciph t key s k xs rs) {mode:Int} {back:Bool} {c r u:Nat} {p:UInt8} {ch R g:Bs} (hl:ch.length=c) (hc:c≤1000) (hm:mode=4∨mode=5∨mode=6) (hR:R.length=r) (hrb:r≤1000) (hu:u<r) (hg:g.length=u):
  Con C N.r12_Mode_byByte [.p (.k 0) 0,u8V p] [.mx [.q rs 0,i64 mode,bool back,.z c (bv ch),.z r (bv R),i64 u,.o 1 (.k 1) 0 u],.sc (bv g)] (.ret (u8V (p^^^R.getD u 0)))
   (if u+1=r then [.mx [.q rs 0,i64 mode,bool back,.z (if mode=4 then u+1 else c) (bv (if mode=4 then g++[moIn back p (p^^^R.getD u 0)]else ch)),.z r (bv R),i64 (u+1:Nat),.u],.dead,.dead]else [.mx [.q rs 0,i64 mode,bool back,.z c (bv ch),.z r (bv R),i64 (u+1:Nat),.o 1 (.k 2) 0 (u+1)],.dead,.sc (bv (g++[moIn back p (p^^^R.getD u 0)]))]):=by
 have w1:I6.wrap ((u:Int)+1)=((u+1:Nat):Int):=by rw[Zd _ (by omega)];rfl
 rcases hm with rfl|rfl|rfl
 ·cases back
  ·by_cases he:u+1=r
   ·rw[if_pos he,if_pos rfl,if_pos rfl]
    refine fd.r12_Mode_byByte.w ?_
    refine⟨_,rfl,?_⟩
    refine spl_eq (fun h0=>absurd h0 (by omega)) (fun _=> ?_)
    refine⟨_,rfl,?_⟩
    refine⟨_,rfl,?_⟩
    refine spl_eq (fun hh=>absurd hh (by omega)) (fun _=> ?_)
    refine⟨_,rfl,?_⟩
    refine⟨_,rfl,?_⟩
    refine⟨by omega,by omega,_,by rw[Zb];exact bv_getD (k:=R) (i:=u) (by omega),?_⟩
    refine⟨_,rfl,?_⟩
    refine⟨Za rfl,?_⟩
    refine⟨_,rfl,?_⟩
    refine⟨_,rfl,?_⟩
    refine⟨Zf _,by omega,by rw[bv_len,hg];omega,?_⟩
    refine⟨Za rfl,?_⟩
    refine⟨_,rfl,?_⟩
    refine⟨_,rfl,?_⟩
    refine⟨_,rfl,?_⟩
    refine spl_eq (fun hh=> ?_) (fun hh=>absurd (show ((u+1:Nat):Int)=(r:Int) by omega) hh)
    refine⟨_,rfl,?_⟩
    refine⟨Za rfl,?_⟩
    refine⟨.ret (u8V (p^^^R.getD u 0)),[.mx [.q rs 0,i64 4,bool false,.z (u+1) (bv (g++[moIn false p (p^^^R.getD u 0)])),.z r (bv R),i64 (u+1:Nat),.z (u+1) (bv (g++[moIn false p (p^^^R.getD u 0)]))],.dead],⟨_,rfl,[.k 0,.k 1],?_,⟨_,rfl,?_⟩,⟨_,rfl,rfl⟩,trivial⟩,.ret (.refl _),.cons (.mx (.cons (.refl _) (.cons (.refl _) (.cons (.refl _) (.cons (.refl _) (.cons (.refl _) (.cons (.refl _) (.cons .u .nil)))))))) (.cons (.refl _) (.dd .nil))⟩
    ·show V.s (.int .u8 (U8.wrap _))=_
     rw[u8_xor]
    ·show B.mx [.q rs 0,i64 4,bool false,.z (u+1) (sub (sub (bv g) 0 (u*1)++sub [Value.int .u8 _] 0 (1*1)) 0 (u+1)),.z r (bv R),i64 (I6.wrap ((u:Int)+1)),.z (u+1) (sub (sub (bv g) 0 (u*1)++sub [Value.int .u8 _] 0 (1*1)) 0 (u+1))]=_
     rw[w1,snoc_sub hg (u8_xor _ _)];rfl
   ·rw[if_neg he]
    refine fd.r12_Mode_byByte.w ?_
    refine⟨_,rfl,?_⟩
    refine spl_eq (fun h0=>absurd h0 (by omega)) (fun _=> ?_)
    refine⟨_,rfl,?_⟩
    refine⟨_,rfl,?_⟩
    refine spl_eq (fun hh=>absurd hh (by omega)) (fun _=> ?_)
    refine⟨_,rfl,?_⟩
    refine⟨_,rfl,?_⟩
    refine⟨by omega,by omega,_,by rw[Zb];exact bv_getD (k:=R) (i:=u) (by omega),?_⟩
    refine⟨_,rfl,?_⟩
    refine⟨Za rfl,?_⟩
    refine⟨_,rfl,?_⟩
    refine⟨_,rfl,?_⟩
    refine⟨Zf _,by omega,by rw[bv_len,hg];omega,?_⟩
    refine⟨Za rfl,?_⟩
    refine⟨_,rfl,?_⟩
    refine⟨_,rfl,?_⟩
    refine⟨_,rfl,?_⟩
    refine spl_eq (fun hh=>absurd hh (by omega)) (fun _=> ?_)
    refine⟨.ret (u8V (p^^^R.getD u 0)),[.mx [.q rs 0,i64 4,bool false,.z c (bv ch),.z r (bv R),i64 (u+1:Nat),.o 1 (.k 2) 0 (u+1)],.dead,.sc (bv (g++[moIn false p (p^^^R.getD u 0)]))],⟨_,rfl,[.k 0,.k 1,.d 98 0],?_,⟨_,rfl,?_⟩,⟨_,rfl,rfl⟩,⟨_,rfl,q7s ?_⟩,trivial⟩,.ret (.refl _),.cons (.refl _) (.cons (.refl _) (.cons (.refl _) .nil))⟩
    ·show V.s (.int .u8 (U8.wrap _))=_
     rw[u8_xor]
    ·show B.mx [.q rs 0,i64 4,bool false,.z c (bv ch),.z r (bv R),i64 (I6.wrap ((u:Int)+1)),.o 1 (.k 2) 0 (u+1)]=_
     rw[w1]
    ·exact snoc_blk hg (u8_xor _ _)
  ·by_cases he:u+1=r
   ·rw[if_pos he,if_pos rfl,if_pos rfl]
    refine fd.r12_Mode_byByte.w ?_
    refine⟨_,rfl,?_⟩
    refine spl_eq (fun h0=>absurd h0 (by omega)) (fun _=> ?_)
    refine⟨_,rfl,?_⟩
    refine⟨_,rfl,?_⟩
    refine spl_eq (fun hh=>absurd hh (by omega)) (fun _=> ?_)
    refine⟨_,rfl,?_⟩
    refine⟨_,rfl,?_⟩
    refine⟨by omega,by omega,_,by rw[Zb];exact bv_getD (k:=R) (i:=u) (by omega),?_⟩
    refine⟨_,rfl,?_⟩
    refine⟨Za rfl,?_⟩
    refine⟨_,rfl,?_⟩
    refine⟨_,rfl,?_⟩
    refine⟨Zf _,by omega,by rw[bv_len,hg];omega,?_⟩
    refine⟨Za rfl,?_⟩
    refine⟨_,rfl,?_⟩
    refine⟨_,rfl,?_⟩
    refine⟨_,rfl,?_⟩
    refine spl_eq (fun hh=> ?_) (fun hh=>absurd (show ((u+1:Nat):Int)=(r:Int) by omega) hh)
    refine⟨_,rfl,?_⟩
    refine⟨Za rfl,?_⟩
    refine⟨.ret (u8V (p^^^R.getD u 0)),[.mx [.q rs 0,i64 4,bool true,.z (u+1) (bv (g++[moIn true p (p^^^R.getD u 0)])),.z r (bv R),i64 (u+1:Nat),.z (u+1) (bv (g++[moIn true p (p^^^R.getD u 0)]))],.dead],⟨_,rfl,[.k 0,.k 1],?_,⟨_,rfl,?_⟩,⟨_,rfl,rfl⟩,trivial⟩,.ret (.refl _),.cons (.mx (.cons (.refl _) (.cons (.refl _) (.cons (.refl _) (.cons (.refl _) (.cons (.refl _) (.cons (.refl _) (.cons .u .nil)))))))) (.cons (.refl _) (.dd .nil))⟩
    ·show V.s (.int .u8 (U8.wrap _))=_
     rw[u8_xor]
    ·show B.mx [.q rs 0,i64 4,bool true,.z (u+1) (sub (sub (bv g) 0 (u*1)++sub [Value.int .u8 _] 0 (1*1)) 0 (u+1)),.z r (bv R),i64 (I6.wrap ((u:Int)+1)),.z (u+1) (sub (sub (bv g) 0 (u*1)++sub [Value.int .u8 _] 0 (1*1)) 0 (u+1))]=_
     rw[w1,snoc_sub hg rfl];rfl
   ·rw[if_neg he]
    refine fd.r12_Mode_byByte.w ?_
    refine⟨_,rfl,?_⟩
    refine spl_eq (fun h0=>absurd h0 (by omega)) (fun _=> ?_)
    refine⟨_,rfl,?_⟩
    refine⟨_,rfl,?_⟩
    refine spl_eq (fun hh=>absurd hh (by omega)) (fun _=> ?_)
    refine⟨_,rfl,?_⟩
    refine⟨_,rfl,?_⟩
    refine⟨by omega,by omega,_,by rw[Zb];exact bv_getD (k:=R) (i:=u) (by omega),?_⟩
    refine⟨_,rfl,?_⟩
    refine⟨Za rfl,?_⟩
    refine⟨_,rfl,?_⟩
    refine⟨_,rfl,?_⟩
    refine⟨Zf _,by omega,by rw[bv_len,hg];omega,?_⟩
    refine⟨Za rfl,?_⟩
    refine⟨_,rfl,?_⟩
    refine⟨_,rfl,?_⟩
    refine⟨_,rfl,?_⟩
    refine spl_eq (fun hh=>absurd hh (by omega)) (fun _=> ?_)
    refine⟨.ret (u8V (p^^^R.getD u 0)),[.mx [.q rs 0,i64 4,bool true,.z c (bv ch),.z r (bv R),i64 (u+1:Nat),.o 1 (.k 2) 0 (u+1)],.dead,.sc (bv (g++[moIn true p (p^^^R.getD u 0)]))],⟨_,rfl,[.k 0,.k 1,.d 98 0],?_,⟨_,rfl,?_⟩,⟨_,rfl,rfl⟩,⟨_,rfl,q7s ?_⟩,trivial⟩,.ret (.refl _),.cons (.refl _) (.cons (.refl _) (.cons (.refl _) .nil))⟩
    ·show V.s (.int .u8 (U8.wrap _))=_
     rw[u8_xor]
    ·show B.mx [.q rs 0,i64 4,bool true,.z c (bv ch),.z r (bv R),i64 (I6.wrap ((u:Int)+1)),.o 1 (.k 2) 0 (u+1)]=_
     rw[w1]
    ·exact snoc_blk hg rfl
 ·cases back
  ·by_cases he:u+1=r
   ·rw[if_pos he,if_neg (by decide),if_neg (by decide)]
    refine fd.r12_Mode_byByte.w ?_
    refine⟨_,rfl,?_⟩
    refine spl_eq (fun h0=>absurd h0 (by omega)) (fun _=> ?_)
    refine⟨_,rfl,?_⟩
    refine⟨_,rfl,?_⟩
    refine spl_eq (fun hh=>absurd hh (by omega)) (fun _=> ?_)
    refine⟨_,rfl,?_⟩
    refine⟨_,rfl,?_⟩
    refine⟨by omega,by omega,_,by rw[Zb];exact bv_getD (k:=R) (i:=u) (by omega),?_⟩
    refine⟨_,rfl,?_⟩
    refine⟨Za rfl,?_⟩
    refine⟨_,rfl,?_⟩
    refine⟨_,rfl,?_⟩
    refine⟨Zf _,by omega,by rw[bv_len,hg];omega,?_⟩
    refine⟨Za rfl,?_⟩
    refine⟨_,rfl,?_⟩
    refine⟨.ret (u8V (p^^^R.getD u 0)),[.mx [.q rs 0,i64 5,bool false,.z c (bv ch),.z r (bv R),i64 (u+1:Nat),.z (u+1) (bv (g++[moIn false p (p^^^R.getD u 0)]))],.dead],⟨_,rfl,[.k 0,.k 1],?_,⟨_,rfl,?_⟩,⟨_,rfl,rfl⟩,trivial⟩,.ret (.refl _),.cons (.mx (.cons (.refl _) (.cons (.refl _) (.cons (.refl _) (.cons (.refl _) (.cons (.refl _) (.cons (.refl _) (.cons .u .nil)))))))) (.cons (.refl _) (.dd .nil))⟩
    ·show V.s (.int .u8 (U8.wrap _))=_
     rw[u8_xor]
    ·show B.mx [.q rs 0,i64 5,bool false,.z c (bv ch),.z r (bv R),i64 (I6.wrap ((u:Int)+1)),.z (u+1) (sub (sub (bv g) 0 (u*1)++sub [Value.int .u8 _] 0 (1*1)) 0 (u+1))]=_
     rw[w1,snoc_sub hg (u8_xor _ _)];rfl
   ·rw[if_neg he]
    refine fd.r12_Mode_byByte.w ?_
    refine⟨_,rfl,?_⟩
    refine spl_eq (fun h0=>absurd h0 (by omega)) (fun _=> ?_)
    refine⟨_,rfl,?_⟩
    refine⟨_,rfl,?_⟩
    refine spl_eq (fun hh=>absurd hh (by omega)) (fun _=> ?_)
    refine⟨_,rfl,?_⟩
    refine⟨_,rfl,?_⟩
    refine⟨by omega,by omega,_,by rw[Zb];exact bv_getD (k:=R) (i:=u) (by omega),?_⟩
    refine⟨_,rfl,?_⟩
    refine⟨Za rfl,?_⟩
    refine⟨_,rfl,?_⟩
    refine⟨_,rfl,?_⟩
    refine⟨Zf _,by omega,by rw[bv_len,hg];omega,?_⟩
    refine⟨Za rfl,?_⟩
    refine⟨_,rfl,?_⟩
    refine⟨.ret (u8V (p^^^R.getD u 0)),[.mx [.q rs 0,i64 5,bool false,.z c (bv ch),.z r (bv R),i64 (u+1:Nat),.o 1 (.k 2) 0 (u+1)],.dead,.sc (bv (g++[moIn false p (p^^^R.getD u 0)]))],⟨_,rfl,[.k 0,.k 1,.d 98 0],?_,⟨_,rfl,?_⟩,⟨_,rfl,rfl⟩,⟨_,rfl,q7s ?_⟩,trivial⟩,.ret (.refl _),.cons (.refl _) (.cons (.refl _) (.cons (.refl _) .nil))⟩
    ·show V.s (.int .u8 (U8.wrap _))=_
     rw[u8_xor]
    ·show B.mx [.q rs 0,i64 5,bool false,.z c (bv ch),.z r (bv R),i64 (I6.wrap ((u:Int)+1)),.o 1 (.k 2) 0 (u+1)]=_
     rw[w1]
    ·exact snoc_blk hg (u8_xor _ _)
  ·by_cases he:u+1=r
   ·rw[if_pos he,if_neg (by decide),if_neg (by decide)]
    refine fd.r12_Mode_byByte.w ?_
    refine⟨_,rfl,?_⟩
    refine spl_eq (fun h0=>absurd h0 (by omega)) (fun _=> ?_)
    refine⟨_,rfl,?_⟩
    refine⟨_,rfl,?_⟩
    refine spl_eq (fun hh=>absurd hh (by omega)) (fun _=> ?_)
    refine⟨_,rfl,?_⟩
    refine⟨_,rfl,?_⟩
    refine⟨by omega,by omega,_,by rw[Zb];exact bv_getD (k:=R) (i:=u) (by omega),?_⟩
    refine⟨_,rfl,?_⟩
    refine⟨Za rfl,?_⟩
    refine⟨_,rfl,?_⟩
    refine⟨_,rfl,?_⟩
    refine⟨Zf _,by omega,by rw[bv_len,hg];omega,?_⟩
    refine⟨Za rfl,?_⟩
    refine⟨_,rfl,?_⟩
    refine⟨.ret (u8V (p^^^R.getD u 0)),[.mx [.q rs 0,i64 5,bool true,.z c (bv ch),.z r (bv R),i64 (u+1:Nat),.z (u+1) (bv (g++[moIn true p (p^^^R.getD u 0)]))],.dead],⟨_,rfl,[.k 0,.k 1],?_,⟨_,rfl,?_⟩,⟨_,rfl,rfl⟩,trivial⟩,.ret (.refl _),.cons (.mx (.cons (.refl _) (.cons (.refl _) (.cons (.refl _) (.cons (.refl _) (.cons (.refl _) (.cons (.refl _) (.cons .u .nil)))))))) (.cons (.refl _) (.dd .nil))⟩
    ·show V.s (.int .u8 (U8.wrap _))=_
     rw[u8_xor]
    ·show B.mx [.q rs 0,i64 5,bool true,.z c (bv ch),.z r (bv R),i64 (I6.wrap ((u:Int)+1)),.z (u+1) (sub (sub (bv g) 0 (u*1)++sub [Value.int .u8 _] 0 (1*1)) 0 (u+1))]=_
     rw[w1,snoc_sub hg rfl];rfl
   ·rw[if_neg he]
    refine fd.r12_Mode_byByte.w ?_
    refine⟨_,rfl,?_⟩
    refine spl_eq (fun h0=>absurd h0 (by omega)) (fun _=> ?_)
    refine⟨_,rfl,?_⟩
    refine⟨_,rfl,?_⟩
    refine spl_eq (fun hh=>absurd hh (by omega)) (fun _=> ?_)
    refine⟨_,rfl,?_⟩
    refine⟨_,rfl,?_⟩
    refine⟨by omega,by omega,_,by rw[Zb];exact bv_getD (k:=R) (i:=u) (by omega),?_⟩
    refine⟨_,rfl,?_⟩
    refine⟨Za rfl,?_⟩
    refine⟨_,rfl,?_⟩
    refine⟨_,rfl,?_⟩
    refine⟨Zf _,by omega,by rw[bv_len,hg];omega,?_⟩
    refine⟨Za rfl,?_⟩
    refine⟨_,rfl,?_⟩
    refine⟨.ret (u8V (p^^^R.getD u 0)),[.mx [.q rs 0,i64 5,bool true,.z c (bv ch),.z r (bv R),i64 (u+1:Nat),.o 1 (.k 2) 0 (u+1)],.dead,.sc (bv (g++[moIn true p (p^^^R.getD u 0)]))],⟨_,rfl,[.k 0,.k 1,.d 98 0],?_,⟨_,rfl,?_⟩,⟨_,rfl,rfl⟩,⟨_,rfl,q7s ?_⟩,trivial⟩,.ret (.refl _),.cons (.refl _) (.cons (.refl _) (.cons (.refl _) .nil))⟩
    ·show V.s (.int .u8 (U8.wrap _))=_
     rw[u8_xor]
    ·show B.mx [.q rs 0,i64 5,bool true,.z c (bv ch),.z r (bv R),i64 (I6.wrap ((u:Int)+1)),.o 1 (.k 2) 0 (u+1)]=_
     rw[w1]
    ·exact snoc_blk hg rfl
 ·cases back
  ·by_cases he:u+1=r
   ·rw[if_pos he,if_neg (by decide),if_neg (by decide)]
    refine fd.r12_Mode_byByte.w ?_
    refine⟨_,rfl,?_⟩
    refine spl_eq (fun h0=>absurd h0 (by omega)) (fun _=> ?_)
    refine⟨_,rfl,?_⟩
    refine⟨_,rfl,?_⟩
    refine spl_eq (fun hh=>absurd hh (by omega)) (fun _=> ?_)
    refine⟨_,rfl,?_⟩
    refine⟨_,rfl,?_⟩
    refine⟨by omega,by omega,_,by rw[Zb];exact bv_getD (k:=R) (i:=u) (by omega),?_⟩
    refine⟨_,rfl,?_⟩
    refine⟨Za rfl,?_⟩
    refine⟨_,rfl,?_⟩
    refine⟨_,rfl,?_⟩
    refine⟨Zf _,by omega,by rw[bv_len,hg];omega,?_⟩
    refine⟨Za rfl,?_⟩
    refine⟨_,rfl,?_⟩
    refine⟨.ret (u8V (p^^^R.getD u 0)),[.mx [.q rs 0,i64 6,bool false,.z c (bv ch),.z r (bv R),i64 (u+1:Nat),.z (u+1) (bv (g++[moIn false p (p^^^R.getD u 0)]))],.dead],⟨_,rfl,[.k 0,.k 1],?_,⟨_,rfl,?_⟩,⟨_,rfl,rfl⟩,trivial⟩,.ret (.refl _),.cons (.mx (.cons (.refl _) (.cons (.refl _) (.cons (.refl _) (.cons (.refl _) (.cons (.refl _) (.cons (.refl _) (.cons .u .nil)))))))) (.cons (.refl _) (.dd .nil))⟩
    ·show V.s (.int .u8 (U8.wrap _))=_
     rw[u8_xor]
    ·show B.mx [.q rs 0,i64 6,bool false,.z c (bv ch),.z r (bv R),i64 (I6.wrap ((u:Int)+1)),.z (u+1) (sub (sub (bv g) 0 (u*1)++sub [Value.int .u8 _] 0 (1*1)) 0 (u+1))]=_
     rw[w1,snoc_sub hg (u8_xor _ _)];rfl
   ·rw[if_neg he]
    refine fd.r12_Mode_byByte.w ?_
    refine⟨_,rfl,?_⟩
    refine spl_eq (fun h0=>absurd h0 (by omega)) (fun _=> ?_)
    refine⟨_,rfl,?_⟩
    refine⟨_,rfl,?_⟩
    refine spl_eq (fun hh=>absurd hh (by omega)) (fun _=> ?_)
    refine⟨_,rfl,?_⟩
    refine⟨_,rfl,?_⟩
    refine⟨by omega,by omega,_,by rw[Zb];exact bv_getD (k:=R) (i:=u) (by omega),?_⟩
    refine⟨_,rfl,?_⟩
    refine⟨Za rfl,?_⟩
    refine⟨_,rfl,?_⟩
    refine⟨_,rfl,?_⟩
    refine⟨Zf _,by omega,by rw[bv_len,hg];omega,?_⟩
    refine⟨Za rfl,?_⟩
    refine⟨_,rfl,?_⟩
    refine⟨.ret (u8V (p^^^R.getD u 0)),[.mx [.q rs 0,i64 6,bool false,.z c (bv ch),.z r (bv R),i64 (u+1:Nat),.o 1 (.k 2) 0 (u+1)],.dead,.sc (bv (g++[moIn false p (p^^^R.getD u 0)]))],⟨_,rfl,[.k 0,.k 1,.d 98 0],?_,⟨_,rfl,?_⟩,⟨_,rfl,rfl⟩,⟨_,rfl,q7s ?_⟩,trivial⟩,.ret (.refl _),.cons (.refl _) (.cons (.refl _) (.cons (.refl _) .nil))⟩
    ·show V.s (.int .u8 (U8.wrap _))=_
     rw[u8_xor]
    ·show B.mx [.q rs 0,i64 6,bool false,.z c (bv ch),.z r (bv R),i64 (I6.wrap ((u:Int)+1)),.o 1 (.k 2) 0 (u+1)]=_
     rw[w1]
    ·exact snoc_blk hg (u8_xor _ _)
  ·by_cases he:u+1=r
   ·rw[if_pos he,if_neg (by decide),if_neg (by decide)]
    refine fd.r12_Mode_byByte.w ?_
    refine⟨_,rfl,?_⟩
    refine spl_eq (fun h0=>absurd h0 (by omega)) (fun _=> ?_)
    refine⟨_,rfl,?_⟩
    refine⟨_,rfl,?_⟩
    refine spl_eq (fun hh=>absurd hh (by omega)) (fun _=> ?_)
    refine⟨_,rfl,?_⟩
    refine⟨_,rfl,?_⟩
    refine⟨by omega,by omega,_,by rw[Zb];exact bv_getD (k:=R) (i:=u) (by omega),?_⟩
    refine⟨_,rfl,?_⟩
    refine⟨Za rfl,?_⟩
    refine⟨_,rfl,?_⟩
    refine⟨_,rfl,?_⟩
    refine⟨Zf _,by omega,by rw[bv_len,hg];omega,?_⟩
    refine⟨Za rfl,?_⟩
    refine⟨_,rfl,?_⟩
    refine⟨.ret (u8V (p^^^R.getD u 0)),[.mx [.q rs 0,i64 6,bool true,.z c (bv ch),.z r (bv R),i64 (u+1:Nat),.z (u+1) (bv (g++[moIn true p (p^^^R.getD u 0)]))],.dead],⟨_,rfl,[.k 0,.k 1],?_,⟨_,rfl,?_⟩,⟨_,rfl,rfl⟩,trivial⟩,.ret (.refl _),.cons (.mx (.cons (.refl _) (.cons (.refl _) (.cons (.refl _) (.cons (.refl _) (.cons (.refl _) (.cons (.refl _) (.cons .u .nil)))))))) (.cons (.refl _) (.dd .nil))⟩
    ·show V.s (.int .u8 (U8.wrap _))=_
     rw[u8_xor]
    ·show B.mx [.q rs 0,i64 6,bool true,.z c (bv ch),.z r (bv R),i64 (I6.wrap ((u:Int)+1)),.z (u+1) (sub (sub (bv g) 0 (u*1)++sub [Value.int .u8 _] 0 (1*1)) 0 (u+1))]=_
     rw[w1,snoc_sub hg rfl];rfl
   ·rw[if_neg he]
    refine fd.r12_Mode_byByte.w ?_
    refine⟨_,rfl,?_⟩
    refine spl_eq (fun h0=>absurd h0 (by omega)) (fun _=> ?_)
    refine⟨_,rfl,?_⟩
    refine⟨_,rfl,?_⟩
    refine spl_eq (fun hh=>absurd hh (by omega)) (fun _=> ?_)
    refine⟨_,rfl,?_⟩
    refine⟨_,rfl,?_⟩
    refine⟨by omega,by omega,_,by rw[Zb];exact bv_getD (k:=R) (i:=u) (by omega),?_⟩
    refine⟨_,rfl,?_⟩
    refine⟨Za rfl,?_⟩
    refine⟨_,rfl,?_⟩
    refine⟨_,rfl,?_⟩
    refine⟨Zf _,by omega,by rw[bv_len,hg];omega,?_⟩
    refine⟨Za rfl,?_⟩
    refine⟨_,rfl,?_⟩
    refine⟨.ret (u8V (p^^^R.getD u 0)),[.mx [.q rs 0,i64 6,bool true,.z c (bv ch),.z r (bv R),i64 (u+1:Nat),.o 1 (.k 2) 0 (u+1)],.dead,.sc (bv (g++[moIn true p (p^^^R.getD u 0)]))],⟨_,rfl,[.k 0,.k 1,.d 98 0],?_,⟨_,rfl,?_⟩,⟨_,rfl,rfl⟩,⟨_,rfl,q7s ?_⟩,trivial⟩,.ret (.refl _),.cons (.refl _) (.cons (.refl _) (.cons (.refl _) .nil))⟩
    ·show V.s (.int .u8 (U8.wrap _))=_
     rw[u8_xor]
    ·show B.mx [.q rs 0,i64 6,bool true,.z c (bv ch),.z r (bv R),i64 (I6.wrap ((u:Int)+1)),.o 1 (.k 2) 0 (u+1)]=_
     rw[w1]
    ·exact snoc_blk hg rfl
def rdX (rs:List V) (mode:Int) (back:Bool) (x:MS×Bs×Nat) (i:Nat):B:= .mx [.q rs 0,i64 mode,bool back,.z x.1.ch.length (bv x.1.ch),.z x.2.1.length (bv x.2.1),i64 x.2.2,gnV x.1.row x.1.gone i]
theorem rd_row {rs:List V} {mode:Int} {back:Bool} {ch row g R:Bs} {u i c r:Nat} (hc:ch.length=c) (hr:R.length=r) (h0:row=[]):rdX rs mode back (⟨ch,row,g⟩,R,u) i= .mx [.q rs 0,i64 mode,bool back,.z c (bv ch),.z r (bv R),i64 u,.u]:=by
 subst hc;subst hr;subst h0;rfl
theorem rd_row' {rs:List V} {mode:Int} {back:Bool} {ch row g R:Bs} {u i j c r:Nat} (hc:ch.length=c) (hr:R.length=r) (h0:0<row.length) (hg:g.length=j):rdX rs mode back (⟨ch,row,g⟩,R,u) i= .mx [.q rs 0,i64 mode,bool back,.z c (bv ch),.z r (bv R),i64 u,.o 1 (.k i) 0 j]:=by
 subst hc;subst hr;subst hg
 unfold rdX
 rw[gnV_pos h0]
theorem drop_getD0 {R:Bs} {u:Nat}:(R.drop u).getD 0 0=R.getD u 0:=by simp[Zl]
theorem c_rbyte {t key s k xs rs} (h:Ciph t key s k xs rs) {mode:Int} {back:Bool} {x:MS×Bs×Nat} {p:UInt8} (hm:4≤mode) (K:MK s mode x.1) (D:RelD s mode x):
  Con C N.r12_Mode_byByte [.p (.k 0) 0,u8V p] [rdX rs mode back x 1,gnB x.1.row x.1.gone] (.ret (u8V (moOne (cF t key false) mode back x.1 p).1)) [rdX rs mode back (rdOne (cF t key false) mode back x p) 2,.dead,gnB (rdOne (cF t key false) mode back x p).1.row (rdOne (cF t key false) mode back x p).1.gone]:=by
 have hs:=h.s_le
 have hm3:mode=4∨mode=5∨mode=6:=by have:=K.ok.m;omega
 have hc:=K.ok.ch.resolve_left (by omega)
 obtain⟨⟨ch,row,g⟩,R,u⟩:=x
 obtain⟨d1,d2,d3,d4,d5,d6⟩:=D
 dsimp only at d1 d2 d3 d4 d5 d6 hc
 have lE:=h.len (back:=false) hc
 have lr:row.length=R.length-u:=by rw[d2,Ze]
 by_cases h0:row.length=0
 ·obtain rfl:=Zm h0
  have lN:(moNxt (cF t key false) mode ch).length=s:=by
   unfold moNxt
   split
   ·exact lE
   ·split
    ·rw[incL_len,hc]
    ·exact hc
  have e1:moOne (cF t key false) mode back ⟨ch,[],g⟩ p=(p^^^(cF t key false ch).getD 0 0,⟨moNxt (cF t key false) mode ch,(cF t key false ch).drop 1,[]++[moIn back p (p^^^(cF t key false ch).getD 0 0)]⟩):=by
   show moByt mode back ⟨moNxt (cF t key false) mode ch,cF t key false ch,[]⟩ p=_
   exact moByt_row (by omega) (by omega)
  have e2:rdOne (cF t key false) mode back (⟨ch,[],g⟩,R,u) p=(⟨moNxt (cF t key false) mode ch,(cF t key false ch).drop 1,[]++[moIn back p (p^^^(cF t key false ch).getD 0 0)]⟩,cF t key false ch,1):=by
   unfold rdOne
   rw[e1,if_neg (by omega),if_pos (show ([]:Bs).length=0 from rfl)]
  have ld:0<((cF t key false ch).drop 1).length:=by rw[Ze];omega
  rw[e1,e2,rd_row hc rfl rfl,rd_row' lN lE ld (j:=1) rfl]
  show Con C N.r12_Mode_byByte [.p (.k 0) 0,u8V p] [_,.dead] _ [_,.dead,gnB ((cF t key false ch).drop 1) ([]++[moIn back p (p^^^(cF t key false ch).getD 0 0)])]
  rw[gnB_pos ld]
  exact c_byByteF h rfl hc hm3 (.inr (by omega))
 ·have hg:=d4 h0
  have hgd:row.getD 0 0=R.getD u 0:=by rw[d2,drop_getD0]
  have e0:moOne (cF t key false) mode back ⟨ch,row,g⟩ p=moByt mode back ⟨ch,row,g⟩ p:=by unfold moOne;rw[if_neg h0]
  have HB:=c_byByteR h (mode:=mode) (back:=back) (p:=p) hc (by omega) hm3 (R:=R) (u:=u) rfl (by omega) (by omega) hg
  have e2:∀y,moOne (cF t key false) mode back ⟨ch,row,g⟩ p=y→rdOne (cF t key false) mode back (⟨ch,row,g⟩,R,u) p=(y.2,R,u+1):=by
   rintro y rfl
   unfold rdOne
   rw[if_neg (by omega),if_neg h0]
  rw[rd_row' hc rfl (by omega) hg,gnB_pos (row:=row) (by omega)]
  have l1:(row.drop 1).length=R.length-u-1:=by rw[Ze,lr]
  by_cases he:u+1=R.length
  ·rw[if_pos he]at HB
   have r1:row.drop 1=[]:=Zm (by omega)
   by_cases h4:mode=4
   ·subst h4
    rw[if_pos rfl,if_pos rfl]at HB
    have e3:=moByt4 (back:=back) (ch:=ch) (g:=g) (p:=p) (show row.length=1 by omega)
    rw[hgd]at e3
    have e4:=e2 _ (e0.trans e3)
    rw[e0,e3,e4,rd_row (c:=u+1) (by rw[Zc,hg];rfl) rfl rfl]
    exact HB
   ·rw[if_neg h4,if_neg h4]at HB
    have e3:=moByt_row (back:=back) (ch:=ch) (row:=row) (g:=g) (p:=p) (show mode≠3 by omega) (fun e=>h4 e.1)
    rw[hgd,r1]at e3
    have e4:=e2 _ (e0.trans e3)
    rw[e0,e3,e4,rd_row hc rfl rfl]
    exact HB
  ·rw[if_neg he]at HB
   have e3:=moByt_row (back:=back) (ch:=ch) (row:=row) (g:=g) (p:=p) (show mode≠3 by omega) (fun e=>by omega)
   rw[hgd]at e3
   have e4:=e2 _ (e0.trans e3)
   rw[e0,e3,e4,rd_row' (j:=u+1) hc rfl (by omega) (by rw[Zc,hg];rfl)]
   show Con C N.r12_Mode_byByte [.p (.k 0) 0,u8V p] _ _ [_,.dead,gnB (row.drop 1) (g++[moIn back p (p^^^R.getD u 0)])]
   rw[gnB_pos (row:=row.drop 1) (by omega)]
   exact HB
theorem c_r12_new {t key s k xs rs} (h:Ciph t key s k xs rs) {mode:Int} {back:Bool} {l i:Nat} {vi:List Value} {iv:Bs} (hvi:vi=bv iv) (hl:iv.length=l) (hm:1≤mode∧mode≤6) (hi:l=if mode=1 then 0 else s):
  Con C N.r12_New [.q rs 0,i64 mode,bool back,.z l vi] [] (.ret (.t [.p (.k 0) 0,i64 0])) [rdX rs mode back (⟨iv,[],[]⟩,[],0) i,.dead,.dead]:=by
 subst hvi
 have hs:=h.s_le
 rw[rd_row hl rfl rfl]
 have hm':mode=1∨mode=2∨mode=3∨mode=4∨mode=5∨mode=6:=by omega
 rcases hm' with rfl|rfl|rfl|rfl|rfl|rfl
 ·rw[if_pos rfl]at hi
  refine fd.r12_New.w ?_
  refine spl_ne (fun hh=>absurd hh (by omega)) (fun _=> ?_)
  refine⟨by rw[bv_len];omega,by omega,by decide,?_⟩
  refine⟨.ret (.t [.p (.k 0) 0,i64 0]),[.mx [.q rs 0,i64 1,bool back,.z l (bv iv),nilv,i64 0,nilv]],⟨_,rfl,[.d 41 0],rfl,⟨_,rfl,?_⟩,trivial⟩,.ret (.refl _),.cons (.mx (.cons (.refl _) (.cons (.refl _) (.cons (.refl _) (.cons (.refl _) (.cons .nl (.cons (.refl _) (.cons .u .nil)))))))) (.dd (.dd .nil))⟩
  show B.mx [.q rs 0,i64 1,bool back,.z (0+l) (sub ([]++bv iv) 0 (0+l)),nilv,i64 0,nilv]=_
  rw[Zk,Zn,bv_all hl]
 ·rw[if_neg (by decide)]at hi
  refine fd.r12_New.w ?_
  refine⟨[],_,_,_,_,h.rsize,rfl,rfl,?_⟩
  refine spl_ne (fun hh=>absurd hh (by omega)) (fun _=> ?_)
  refine⟨by rw[bv_len];omega,by omega,by decide,?_⟩
  refine⟨.ret (.t [.p (.k 0) 0,i64 0]),[.mx [.q rs 0,i64 2,bool back,.z l (bv iv),nilv,i64 0,nilv]],⟨_,rfl,[.d 41 0],rfl,⟨_,rfl,?_⟩,trivial⟩,.ret (.refl _),.cons (.mx (.cons (.refl _) (.cons (.refl _) (.cons (.refl _) (.cons (.refl _) (.cons .nl (.cons (.refl _) (.cons .u .nil)))))))) (.dd (.dd .nil))⟩
  show B.mx [.q rs 0,i64 2,bool back,.z (0+l) (sub ([]++bv iv) 0 (0+l)),nilv,i64 0,nilv]=_
  rw[Zk,Zn,bv_all hl]
 ·rw[if_neg (by decide)]at hi
  refine fd.r12_New.w ?_
  refine⟨[],_,_,_,_,h.rsize,rfl,rfl,?_⟩
  refine spl_ne (fun hh=>absurd hh (by omega)) (fun _=> ?_)
  refine⟨by rw[bv_len];omega,by omega,by decide,?_⟩
  refine⟨.ret (.t [.p (.k 0) 0,i64 0]),[.mx [.q rs 0,i64 3,bool back,.z l (bv iv),nilv,i64 0,nilv]],⟨_,rfl,[.d 41 0],rfl,⟨_,rfl,?_⟩,trivial⟩,.ret (.refl _),.cons (.mx (.cons (.refl _) (.cons (.refl _) (.cons (.refl _) (.cons (.refl _) (.cons .nl (.cons (.refl _) (.cons .u .nil)))))))) (.dd (.dd .nil))⟩
  show B.mx [.q rs 0,i64 3,bool back,.z (0+l) (sub ([]++bv iv) 0 (0+l)),nilv,i64 0,nilv]=_
  rw[Zk,Zn,bv_all hl]
 ·rw[if_neg (by decide)]at hi
  refine fd.r12_New.w ?_
  refine⟨[],_,_,_,_,h.rsize,rfl,rfl,?_⟩
  refine spl_ne (fun hh=>absurd hh (by omega)) (fun _=> ?_)
  refine⟨by rw[bv_len];omega,by omega,by decide,?_⟩
  refine⟨.ret (.t [.p (.k 0) 0,i64 0]),[.mx [.q rs 0,i64 4,bool back,.z l (bv iv),nilv,i64 0,nilv]],⟨_,rfl,[.d 41 0],rfl,⟨_,rfl,?_⟩,trivial⟩,.ret (.refl _),.cons (.mx (.cons (.refl _) (.cons (.refl _) (.cons (.refl _) (.cons (.refl _) (.cons .nl (.cons (.refl _) (.cons .u .nil)))))))) (.dd (.dd .nil))⟩
  show B.mx [.q rs 0,i64 4,bool back,.z (0+l) (sub ([]++bv iv) 0 (0+l)),nilv,i64 0,nilv]=_
  rw[Zk,Zn,bv_all hl]
 ·rw[if_neg (by decide)]at hi
  refine fd.r12_New.w ?_
  refine⟨[],_,_,_,_,h.rsize,rfl,rfl,?_⟩
  refine spl_ne (fun hh=>absurd hh (by omega)) (fun _=> ?_)
  refine⟨by rw[bv_len];omega,by omega,by decide,?_⟩
  refine⟨.ret (.t [.p (.k 0) 0,i64 0]),[.mx [.q rs 0,i64 5,bool back,.z l (bv iv),nilv,i64 0,nilv]],⟨_,rfl,[.d 41 0],rfl,⟨_,rfl,?_⟩,trivial⟩,.ret (.refl _),.cons (.mx (.cons (.refl _) (.cons (.refl _) (.cons (.refl _) (.cons (.refl _) (.cons .nl (.cons (.refl _) (.cons .u .nil)))))))) (.dd (.dd .nil))⟩
  show B.mx [.q rs 0,i64 5,bool back,.z (0+l) (sub ([]++bv iv) 0 (0+l)),nilv,i64 0,nilv]=_
  rw[Zk,Zn,bv_all hl]
 ·rw[if_neg (by decide)]at hi
  refine fd.r12_New.w ?_
  refine⟨[],_,_,_,_,h.rsize,rfl,rfl,?_⟩
  refine spl_ne (fun hh=>absurd hh (by omega)) (fun _=> ?_)
  refine⟨by rw[bv_len];omega,by omega,by decide,?_⟩
  refine⟨.ret (.t [.p (.k 0) 0,i64 0]),[.mx [.q rs 0,i64 6,bool back,.z l (bv iv),nilv,i64 0,nilv]],⟨_,rfl,[.d 41 0],rfl,⟨_,rfl,?_⟩,trivial⟩,.ret (.refl _),.cons (.mx (.cons (.refl _) (.cons (.refl _) (.cons (.refl _) (.cons (.refl _) (.cons .nl (.cons (.refl _) (.cons .u .nil)))))))) (.dd (.dd .nil))⟩
  show B.mx [.q rs 0,i64 6,bool back,.z (0+l) (sub ([]++bv iv) 0 (0+l)),nilv,i64 0,nilv]=_
  rw[Zk,Zn,bv_all hl]
theorem c_rgrain1 {t key s k xs rs} (h:Ciph t key s k xs rs) {mode:Int} {back:Bool} {x:MS×Bs×Nat} (hm:3≤mode):
  Con C N.r12_Mode_Grain [.p (.k 0) 0] [rdX rs mode back x 1,gnB x.1.row x.1.gone] (.ret (i64 1)) [rdX rs mode back x 1,gnB x.1.row x.1.gone]:=by
 obtain⟨⟨ch,row,g⟩,R,u⟩:=x
 refine fd.r12_Mode_Grain.c ?_
 refine⟨_,rfl,?_⟩
 refine spl_d (fun h1=>absurd h1 (by omega)) (fun _=> ?_)
 cases row<;>exact⟨_,rfl,[.k 0,.k 1],rfl,⟨_,rfl,rfl⟩,⟨_,rfl,rfl⟩,trivial⟩
theorem c_rgrainS {t key s k xs rs} (h:Ciph t key s k xs rs) {mode:Int} {back:Bool} {c:Nat} {vc:List Value} (hm:mode=1∨mode=2):
  Con C N.r12_Mode_Grain [.p (.k 0) 0] [.mx [.q rs 0,i64 mode,bool back,.z c vc,.z 0 [],i64 0,.u]] (.ret (i64 s)) [.mx [.q rs 0,i64 mode,bool back,.z c vc,.z 0 [],i64 0,.u]]:=by
 refine fd.r12_Mode_Grain.c ?_
 refine⟨_,rfl,?_⟩
 refine spl_d (fun h1=> ?_) (fun h1=>absurd h1 (by omega))
 refine⟨_,rfl,?_⟩
 refine⟨[],_,_,_,_,h.rsize,rfl,rfl,?_⟩
 exact⟨_,rfl,[.k 0],rfl,⟨_,rfl,rfl⟩,trivial⟩
def rsB (rs:List V) (mode:Int) (back:Bool) (m s c:Nat) (b:Bs):Nat×Nat×Bs×Bs→D
 |(i,q,o,c')=>⟨[(0,.p (.k 0) 0),(1,.z m (bv b)),(6,i64 s),(7,.o 1 (.k 2) 0 q),(8,i64 q)],[.mx [.q rs 0,i64 mode,bool back,.z c (bv c'),.z 0 [],i64 0,.u],.dead,.sc (bv o)]⟩
theorem c_rstep_blk {t key s k xs rs} (h:Ciph t key s k xs rs) {mode:Int} {back:Bool} {c m:Nat} {vb:List Value} {ch b:Bs} (hvb:vb=bv b) (hb:b.length=m) (hbm:m≤1000000) (hm:mode=1∨mode=2∧c=s) (hc:ch.length=c) (hg:m%s=0):
  Con C N.r12_Mode_Step [.p (.k 0) 0,.z m vb] [.mx [.q rs 0,i64 mode,bool back,.z c (bv ch),.z 0 [],i64 0,.u],.dead] (.ret (.t [.z m (bv (moBlks (cF t key false) (cF t key true) mode back s b ch (m/s)).1),i64 0])) [.mx [.q rs 0,i64 mode,bool back,.z c (bv (moBlks (cF t key false) (cF t key true) mode back s b ch (m/s)).2),.z 0 [],i64 0,.u],.dead,.dead]:=by
 subst hvb
 have hs:=h.s_le
 have hci:=h.ci
 have hdm:=Zo m s
 have hm12:mode=1∨mode=2:=by omega
 have G:=c_rgrainS h (back:=back) (c:=c) (vc:=bv ch) hm12
 refine fd.r12_Mode_Step.w ?_
 refine⟨[.k 0],_,_,_,_,G,rfl,rfl,?_⟩
 refine⟨by omega,?_⟩
 refine spl_ne (fun h=>absurd ?_ h) (fun _=> ?_)
 ·have:((m:Int).tmod (s:Int))=((m%s:Nat):Int):=by rw[Zi (by omega)];rfl
  rw[this,hg];rfl
 refine⟨Nat×Nat×Bs×Bs,rsB rs mode back m s c b,fun x=>x.2.1=s*x.1∧x.2.1≤m∧moBlks (cF t key false) (cF t key true) mode back s b ch x.1=(x.2.2.1,x.2.2.2)∧x.2.2.1.length=x.2.1∧x.2.2.2.length=c,fun x=>m-x.2.1,?_,fun x hx=> ?_⟩
 ·exact⟨[(7,1,.sc [])],(0,0,[],ch),⟨by show 0=s*0;omega,Zx _,rfl,rfl,hc⟩,[.k 0,.k 1,.d 900000 0],⟨rfl,rfl,rfl,rfl,rfl,trivial⟩,⟨_,rfl,rfl⟩,⟨_,rfl,rfl⟩,⟨_,rfl,rfl⟩,trivial⟩
 ·obtain⟨i,q,o,c'⟩:=x
  obtain⟨h1,h2,h3,h4,h5⟩:=hx
  dsimp only at h1 h2 h3 h4 h5
  refine spl_d (fun h0=> ?_) (fun h0=> ?_)
  ·have hq:q+s≤m:=by
    have e1:m=s*(m/s):=by omega
    have:i<m/s:=by
     refine Zu (a:=s) ?_
     omega
    have:=Zz s this
    rw[Zv]at this
    omega
   have lp:(sub b q s).length=s:=by rw[sub_length];omega
   have hn:moBlks (cF t key false) (cF t key true) mode back s b ch (i+1)=(o++(moBlk (cF t key false) (cF t key true) mode back c' (sub b q s)).1,(moBlk (cF t key false) (cF t key true) mode back c' (sub b q s)).2):=by
    rw[moBlks_succ,h3,←h1]
   have HB:=c_r12_block h (mode:=mode) (back:=back) (vp:=sub (bv b) q s) (bv_sub _ _ _) rfl lp h5 hm
   have hl:=moBlk_ok (back:=back) hci hm12 (c:=c') (p:=sub b q s) (by omega) lp
   have hl2:(moBlk (cF t key false) (cF t key true) mode back c' (sub b q s)).2.length=c:=by
    rcases hm with rfl|⟨rfl,rfl⟩
    ·rw[←h5];rfl
    ·exact hl.2.resolve_left (by decide)
   have hl1:=hl.1
   generalize moBlk (cF t key false) (cF t key true) mode back c' (sub b q s)=x at*
   obtain⟨o',c2⟩:=x
   dsimp only at HB hn hl1 hl2
   have e1:I6.wrap ((q:Int)+(s:Int))=((q+s:Nat):Int):=by rw[Zd _ (by omega)];omega
   rcases hm12 with rfl|rfl
   all_goals
    refine⟨_,rfl,?_⟩
    refine⟨by first|omega|(rw [e1];omega),by first|omega|(rw [e1];omega),by first|omega|(rw [e1];omega),by first|omega|(rw [e1];omega),by first|omega|(rw [e1];omega),?_⟩
    refine⟨[.k 0],_,_,_,_,HB,?_,rfl,?_⟩
    ·rw[e1]
     show[V.p (.k 0) 0,V.z (q+s-q) (sub (bv b) q (q+s-q))]=_
     rw[Je]
    refine⟨by first|omega|(rw [bv_len];omega),by omega,by rw[bv_len,h4];omega,?_⟩
    refine⟨(i+1,q+s,o++o',c2),⟨by show q+s=s*(i+1);rw[Zv];omega,hq,hn,by rw[Zc,h4,hl1],hl2⟩,(by show m-(q+s)<m-q;omega),[.k 0,.k 1,.d 48 0],⟨rfl,rfl,rfl,rfl,q7i e1,trivial⟩,⟨_,rfl,rfl⟩,⟨_,rfl,rfl⟩,⟨_,rfl,q7s ?_⟩,trivial⟩
    show sub (bv o) 0 (q*1)++bv o'=_
    rw[Zj,bv_all h4,bv_app]
  ·obtain rfl:q=m:=by omega
   have hi:q/s=i:=by rw[h1,Z1 _ (by omega)]
   rw[hi,h3]
   exact⟨_,[.mx [.q rs 0,i64 mode,bool back,.z c (bv c'),.z 0 [],i64 0,.u],.dead],⟨_,rfl,[.k 0,.k 1],congrArg (fun x=>V.t [x,i64 0]) (congrArg (V.z q) (bv_all h4)),⟨_,rfl,rfl⟩,⟨_,rfl,rfl⟩,trivial⟩,.ret (.refl _),.cons (.refl _) (.cons (.refl _) (.dd .nil))⟩
def rsT (rs:List V) (back:Bool) (m s r u:Nat) (vr:List Value) (b:Bs):Nat×Bs×Bs→D
 |(i,o,c')=>⟨[(0,.p (.k 0) 0),(1,.z m (bv b)),(6,i64 1),(7,.o 1 (.k 2) 0 i),(8,i64 i)],[.mx [.q rs 0,i64 3,bool back,.z s (bv c'),.z r vr,i64 u,.u],.dead,.sc (bv o)]⟩
theorem moOne3 {E:Bs→Bs} {back:Bool} {ch g:Bs} {p:UInt8}:moOne E 3 back ⟨ch,[],g⟩ p=(p^^^(E ch).getD 0 0,⟨ch.drop 1++[moIn back p (p^^^(E ch).getD 0 0)],[],[]++[moIn back p (p^^^(E ch).getD 0 0)]⟩):=by
 show moByt 3 back ⟨ch,E ch,[]⟩ p=_
 exact moByt3
theorem c_rstep_three {t key s k xs rs} (h:Ciph t key s k xs rs) {back:Bool} {m r u:Nat} {vb vr:List Value} {ch g b:Bs} (hvb:vb=bv b) (hb:b.length=m) (hbm:m≤1000000) (hc:ch.length=s):
  Con C N.r12_Mode_Step [.p (.k 0) 0,.z m vb] [.mx [.q rs 0,i64 3,bool back,.z s (bv ch),.z r vr,i64 u,.u],.dead] (.ret (.t [.z m (bv (moMany (cF t key false) 3 back ⟨ch,[],g⟩ b).1),i64 0])) [.mx [.q rs 0,i64 3,bool back,.z s (bv (moMany (cF t key false) 3 back ⟨ch,[],g⟩ b).2.ch),.z r vr,i64 u,.u],.dead,.dead]:=by
 subst hvb
 have hs:=h.s_le
 refine fd.r12_Mode_Step.w ?_
 have G:Con C N.r12_Mode_Grain [.p (.k 0) 0] [.mx [.q rs 0,i64 3,bool back,.z s (bv ch),.z r vr,i64 u,.u]] (.ret (i64 1)) [.mx [.q rs 0,i64 3,bool back,.z s (bv ch),.z r vr,i64 u,.u]]:=by
  refine fd.r12_Mode_Grain.c ?_
  refine⟨_,rfl,?_⟩
  exact⟨_,rfl,[.k 0],rfl,⟨_,rfl,rfl⟩,trivial⟩
 refine⟨[.k 0],_,_,_,_,G,rfl,rfl,?_⟩
 refine⟨by decide,?_⟩
 refine spl_ne (fun h=>absurd (Ji _) h) (fun _=> ?_)
 refine⟨Nat×Bs×Bs,rsT rs back m s r u vr b,fun x=>x.1≤m∧(∃g',moMany (cF t key false) 3 back ⟨ch,[],g⟩ (b.take x.1)=(x.2.1,⟨x.2.2,[],g'⟩))∧x.2.1.length=x.1∧x.2.2.length=s,fun x=>m-x.1,?_,fun x hx=> ?_⟩
 ·exact⟨[(7,1,.sc [])],(0,[],ch),⟨Zx _,⟨g,rfl⟩,rfl,hc⟩,[.k 0,.k 1,.d 900000 0],⟨rfl,rfl,rfl,rfl,rfl,trivial⟩,⟨_,rfl,rfl⟩,⟨_,rfl,rfl⟩,⟨_,rfl,rfl⟩,trivial⟩
 ·obtain⟨i,o,c'⟩:=x
  obtain⟨h1,⟨g',h2⟩,h3,h4⟩:=hx
  dsimp only at h1 h2 h3 h4
  refine spl_d (fun h0=> ?_) (fun h0=> ?_)
  ·have lt:i<m:=by omega
   have e1:I6.wrap ((i:Int)+1)=((i+1:Nat):Int):=by rw[Zd _ (by omega)];rfl
   have hT:moMany (cF t key false) 3 back ⟨ch,[],g⟩ (b.take (i+1))=(o++[(b.getD i 0)^^^(cF t key false c').getD 0 0],⟨c'.drop 1++[moIn back (b.getD i 0) ((b.getD i 0)^^^(cF t key false c').getD 0 0)],[],[]++[moIn back (b.getD i 0) ((b.getD i 0)^^^(cF t key false c').getD 0 0)]⟩):=by
    rw[take_succ_getD (by omega),drop_getD0,moMany_snoc,h2,moOne3]
   have HB:=c_shifted h (mode:=3) (back:=back) (r:=r) (u:=u) (vr:=vr) (p:=b.getD i 0) rfl h4
   refine⟨_,rfl,?_⟩
   refine⟨by omega,by omega,_,by rw[Zb];exact bv_getD (k:=b) (i:=i) (by omega),?_⟩
   refine⟨[.k 0],_,_,_,_,HB,rfl,rfl,?_⟩
   refine⟨Zf _,by omega,by rw[bv_len,h3];omega,?_⟩
   exact⟨(i+1,_,_),⟨lt,⟨_,hT⟩,by rw[Zc,h3];rfl,by rw[Zc,Ze,h4];show s-1+1=s;omega⟩,(by show m-(i+1)<m-i;omega),[.k 0,.k 1,.d 59 0],⟨rfl,rfl,rfl,rfl,q7i e1,trivial⟩,⟨_,rfl,rfl⟩,⟨_,rfl,rfl⟩,⟨_,rfl,q7s (snoc_blk h3 rfl)⟩,trivial⟩
  ·obtain rfl:i=m:=by omega
   rw[Zq (by omega)]at h2
   rw[h2]
   exact⟨_,[.mx [.q rs 0,i64 3,bool back,.z s (bv c'),.z r vr,i64 u,.u],.dead],⟨_,rfl,[.k 0,.k 1],congrArg (fun x=>V.t [x,i64 0]) (congrArg (V.z i) (bv_all h3)),⟨_,rfl,rfl⟩,⟨_,rfl,rfl⟩,trivial⟩,.ret (.refl _),.cons (.refl _) (.cons (.refl _) (.dd .nil))⟩
theorem MK.rd {E D:Bs→Bs} {n:Nat} {mode:Int} {back:Bool} {x:MS×Bs×Nat} (k:MK n mode x.1) (h:CI E D n) (hn:0<n) (hm:3≤mode) (p:UInt8):MK n mode (rdOne E mode back x p).1:=k.one h hn hm p
def rsD (rs:List V) (mode:Int) (back:Bool) (m:Nat) (b:Bs):Bool×Nat×(MS×Bs×Nat)×Bs→D
 |(false,i,x,o)=>⟨[(0,.p (.k 0) 0),(1,.z m (bv b)),(6,i64 1),(7,.o 1 (.k 2) 0 0),(8,i64 (0:Nat))],[rdX rs mode back x 1,gnB x.1.row x.1.gone,.sc []]⟩
 |(true,i,x,o)=>⟨[(0,.p (.k 0) 0),(1,.z m (bv b)),(6,i64 1),(7,.o 1 (.k 3) 0 i),(8,i64 i)],[rdX rs mode back x 2,.dead,gnB x.1.row x.1.gone,.sc (bv o)]⟩
theorem c_rstep_byte {t key s k xs rs} (h:Ciph t key s k xs rs) {mode:Int} {back:Bool} {x0:MS×Bs×Nat} {m:Nat} {vb:List Value} {b:Bs} (hvb:vb=bv b) (hb:b.length=m) (hbm:m≤1000000) (hm:4≤mode) (K:MK s mode x0.1) (R:RelD s mode x0) (hne:0<m∨x0.1.row=[]):
  Con C N.r12_Mode_Step [.p (.k 0) 0,.z m vb] [rdX rs mode back x0 1,gnB x0.1.row x0.1.gone] (.ret (.t [.z m (bv (moMany (cF t key false) mode back x0.1 b).1),i64 0])) [rdX rs mode back (rdMany (cF t key false) mode back x0 b) 2,.dead,gnB (rdMany (cF t key false) mode back x0 b).1.row (rdMany (cF t key false) mode back x0 b).1.gone]:=by
 subst hvb
 have hs:=h.s_le
 have hci:=h.ci
 suffices H:∀x1:MS×Bs×Nat,x1=x0→Con C N.r12_Mode_Step [.p (.k 0) 0,.z m (bv b)] [rdX rs mode back x0 1,gnB x0.1.row x0.1.gone] (.ret (.t [.z m (bv (moMany (cF t key false) mode back x1.1 b).1),i64 0])) [rdX rs mode back (rdMany (cF t key false) mode back x1 b) 2,.dead,gnB (rdMany (cF t key false) mode back x1 b).1.row (rdMany (cF t key false) mode back x1 b).1.gone] from H x0 rfl
 intro x1 hx1
 rw[←hx1]at K R hne
 have G:=c_rgrain1 h (back:=back) (x:=x0) (show 3≤mode by omega)
 refine fd.r12_Mode_Step.w ?_
 obtain⟨⟨ch0,row0,g0⟩,R0,u0⟩:=x0
 rcases row0 with _|⟨a0,r0⟩
 all_goals
  refine⟨[.k 0,.k 1],_,_,_,_,G,rfl,rfl,?_⟩
  refine⟨by decide,?_⟩
  refine spl_ne (fun h=>absurd (Ji _) h) (fun _=> ?_)
  refine⟨Bool×Nat×(MS×Bs×Nat)×Bs,rsD rs mode back m b,fun x=>x.2.1≤m∧(moMany (cF t key false) mode back x1.1 (b.take x.2.1)).1=x.2.2.2∧rdMany (cF t key false) mode back x1 (b.take x.2.1)=x.2.2.1∧MK s mode x.2.2.1.1∧RelD s mode x.2.2.1∧(x.1=false→x.2.1=0),fun x=>m-x.2.1,⟨[(7,1,.sc [])],(false,0,_,[]),⟨Zx _,rfl,hx1,hx1▸K,hx1▸R,fun _=>rfl⟩,[.k 0,.k 1,.d 900000 0],⟨rfl,rfl,rfl,rfl,rfl,trivial⟩,⟨_,rfl,rfl⟩,⟨_,rfl,rfl⟩,⟨_,rfl,rfl⟩,trivial⟩,fun x hx=> ?_⟩
  obtain⟨f,i,⟨⟨ch,row,g⟩,R',u⟩,o⟩:=x
  obtain⟨h1,h2,h3,h4,h5,h6⟩:=hx
  dsimp only at h1 h2 h3 h4 h5 h6
  have lo:o.length=i:=by
   rw[←h2,moMany_len,Zs];omega
  have hms:(moMany (cF t key false) mode back x1.1 (b.take i)).2=⟨ch,row,g⟩:=by rw[←rdMany_fst,h3]
  cases f
  ·obtain rfl:=h6 rfl
   obtain rfl:=Zm lo
   refine spl_d (fun h0=> ?_) (fun h0=> ?_)
   ·have HB:=c_rbyte h (back:=back) (p:=b.getD 0 0) hm h4 h5
    have hN:=MK.rd (mode:=mode) (x:=(⟨ch,row,g⟩,R',u)) h4 hci (by omega) (by omega) (back:=back) (b.getD 0 0)
    have hD:=rdOne_ok (mode:=mode) (x:=(⟨ch,row,g⟩,R',u)) hci (by omega) (by omega) h4.ok h5 (back:=back) (b.getD 0 0)
    have hT:(moMany (cF t key false) mode back x1.1 (b.take (0+1))).1=[(moOne (cF t key false) mode back ⟨ch,row,g⟩ (b.getD 0 0)).1]:=by
     rw[take_succ_getD (by omega),drop_getD0,moMany_snoc,h2,hms];rfl
    have hU:rdMany (cF t key false) mode back x1 (b.take (0+1))=rdOne (cF t key false) mode back (⟨ch,row,g⟩,R',u) (b.getD 0 0):=by
     rw[take_succ_getD (by omega),drop_getD0,rdMany_snoc,h3]
    generalize (moOne (cF t key false) mode back ⟨ch,row,g⟩ (b.getD 0 0)).1=o' at*
    generalize rdOne (cF t key false) mode back (⟨ch,row,g⟩,R',u) (b.getD 0 0)=x at*
    obtain⟨⟨ch',row',g'⟩,R2,u2⟩:=x
    dsimp only at HB hN hD hU
    have k1:¬mode=1:=by omega
    have k2:¬mode=2:=by omega
    have k3:¬mode=3:=by omega
    cases row<;>cases row'<;>(
     refine⟨_,rfl,?_⟩
     refine spl_eq (fun h=>absurd h k1) (fun _=> ?_)
     refine spl_eq (fun h=>absurd h k2) (fun _=> ?_)
     refine spl_eq (fun h=>absurd h k3) (fun _=> ?_)
     refine⟨by omega,by omega,_,bv_getD (k:=b) (i:=0) (by omega),?_⟩
     refine⟨[.k 0,.k 1],_,_,_,_,HB,rfl,rfl,?_⟩
     refine⟨Zf _,by omega,by decide,?_⟩
     exact⟨(true,0+1,(⟨ch',_,g'⟩,R2,u2),[o']),⟨by show 0+1≤m;omega,hT,hU,hN,hD,fun h=>by cases h⟩,(by show m-(0+1)<m-0;omega),[.k 0,.k 1,.d 33 2,.d 35 0],⟨rfl,rfl,rfl,rfl,rfl,trivial⟩,⟨_,rfl,rfl⟩,⟨_,rfl,rfl⟩,⟨_,rfl,rfl⟩,⟨_,rfl,q7s (one_blk rfl)⟩,trivial⟩)
   ·have hm0:m=0:=by omega
    rw[Zq (by omega)]at h2 h3
    rw[h2,h3]
    subst hm0
    have hr0:row=[]:=by
     have hb0:=Zm hb
     rw[hb0]at h3
     have h3:x1=_:=h3
     rw[h3]at hne
     exact hne.resolve_left (by omega)
    subst hr0
    exact⟨.ret (.t [.z 0 [],i64 0]),[rdX rs mode back (⟨ch,[],g⟩,R',u) 2,.dead],⟨_,rfl,[.k 0,.k 1],rfl,⟨_,rfl,rfl⟩,⟨_,rfl,rfl⟩,trivial⟩,.ret (.refl _),.cons (.refl _) (.cons (.refl _) (.dd .nil))⟩
  ·refine spl_d (fun h0=> ?_) (fun h0=> ?_)
   ·have lt:i<m:=by omega
    have e1:I6.wrap ((i:Int)+1)=((i+1:Nat):Int):=by rw[Zd _ (by omega)];rfl
    have HB:=c_rbyte h (back:=back) (p:=b.getD i 0) hm h4 h5
    have hN:=MK.rd (mode:=mode) (x:=(⟨ch,row,g⟩,R',u)) h4 hci (by omega) (by omega) (back:=back) (b.getD i 0)
    have hD:=rdOne_ok (mode:=mode) (x:=(⟨ch,row,g⟩,R',u)) hci (by omega) (by omega) h4.ok h5 (back:=back) (b.getD i 0)
    have hT:(moMany (cF t key false) mode back x1.1 (b.take (i+1))).1=o++[(moOne (cF t key false) mode back ⟨ch,row,g⟩ (b.getD i 0)).1]:=by
     rw[take_succ_getD (by omega),drop_getD0,moMany_snoc,h2,hms]
    have hU:rdMany (cF t key false) mode back x1 (b.take (i+1))=rdOne (cF t key false) mode back (⟨ch,row,g⟩,R',u) (b.getD i 0):=by
     rw[take_succ_getD (by omega),drop_getD0,rdMany_snoc,h3]
    generalize (moOne (cF t key false) mode back ⟨ch,row,g⟩ (b.getD i 0)).1=o' at*
    generalize rdOne (cF t key false) mode back (⟨ch,row,g⟩,R',u) (b.getD i 0)=x at*
    obtain⟨⟨ch',row',g'⟩,R2,u2⟩:=x
    dsimp only at HB hN hD hU
    have k1:¬mode=1:=by omega
    have k2:¬mode=2:=by omega
    have k3:¬mode=3:=by omega
    cases row<;>cases row'<;>(
     refine⟨_,rfl,?_⟩
     refine spl_eq (fun h=>absurd h k1) (fun _=> ?_)
     refine spl_eq (fun h=>absurd h k2) (fun _=> ?_)
     refine spl_eq (fun h=>absurd h k3) (fun _=> ?_)
     refine⟨by omega,by omega,_,by rw[Zb];exact bv_getD (k:=b) (i:=i) (by omega),?_⟩
     refine⟨[.k 0,.k 2],_,_,_,_,HB,rfl,rfl,?_⟩
     refine⟨Zf _,by omega,by rw[bv_len,lo];omega,?_⟩
     exact⟨(true,i+1,(⟨ch',_,g'⟩,R2,u2),o++[o']),⟨by show i+1≤m;omega,hT,hU,hN,hD,fun h=>by cases h⟩,(by show m-(i+1)<m-i;omega),[.k 0,.k 1,.d 33 2,.d 35 0],⟨rfl,rfl,rfl,rfl,q7i e1,trivial⟩,⟨_,rfl,rfl⟩,⟨_,rfl,rfl⟩,⟨_,rfl,rfl⟩,⟨_,rfl,q7s (snoc_blk lo rfl)⟩,trivial⟩)
   ·obtain rfl:i=m:=by omega
    rw[Zq (by omega)]at h2 h3
    rw[h2,h3]
    rcases row with _|⟨a,r⟩
    ·exact⟨_,[rdX rs mode back (⟨ch,[],g⟩,R',u) 2,.dead,gnB [] g],⟨_,rfl,[.k 0,.k 1,.k 2],congrArg (fun x=>V.t [x,i64 0]) (congrArg (V.z i) (bv_all lo)),⟨_,rfl,rfl⟩,⟨_,rfl,rfl⟩,⟨_,rfl,rfl⟩,trivial⟩,.ret (.refl _),.cons (.refl _) (.cons (.refl _) (.cons (.refl _) .nil))⟩
    ·exact⟨_,[rdX rs mode back (⟨ch,a::r,g⟩,R',u) 2,.dead,gnB (a::r) g],⟨_,rfl,[.k 0,.k 1,.k 2],congrArg (fun x=>V.t [x,i64 0]) (congrArg (V.z i) (bv_all lo)),⟨_,rfl,rfl⟩,⟨_,rfl,rfl⟩,⟨_,rfl,rfl⟩,trivial⟩,.ret (.refl _),.cons (.refl _) (.cons (.refl _) (.cons (.refl _) .nil))⟩
theorem rdMany3 (E back):∀(l:Bs) (x:MS×Bs×Nat),rdMany E 3 back x l=((moMany E 3 back x.1 l).2,x.2)
 |[],_=>rfl
 |p::l,x=>rdMany3 E back l (rdOne E 3 back x p)
theorem c_rstep {t key s k xs rs} (h:Ciph t key s k xs rs) {mode:Int} {back:Bool} {x:MS×Bs×Nat} {m:Nat} {vb:List Value} {b:Bs} (hvb:vb=bv b) (hb:b.length=m) (hbm:m≤1000000) (K:MK s mode x.1) (R:RelD s mode x) (hg:m%moGrain s mode=0) (hne:0<m∨x.1.row=[]):
  Con C N.r12_Mode_Step [.p (.k 0) 0,.z m vb] [rdX rs mode back x 1,gnB x.1.row x.1.gone] (.ret (.t [.z m (bv (moStep (cF t key false) (cF t key true) s mode back x.1 b).1),i64 0])) [rdX rs mode back (rdStep (cF t key false) (cF t key true) s mode back x b) 2,.dead,gnB (rdStep (cF t key false) (cF t key true) s mode back x b).1.row (rdStep (cF t key false) (cF t key true) s mode back x b).1.gone]:=by
 have hs:=h.s_le
 have hci:=h.ci
 by_cases hm:mode=1∨mode=2
 ·have hr:=K.ok.blk hm
  have hc:=K.ok.ch
  have hx:=R.blk hm
  obtain⟨⟨ch,row,g⟩,x2⟩:=x
  dsimp only at hr hc hx
  subst hr;subst hx
  have e:moStep (cF t key false) (cF t key true) s mode back ⟨ch,[],g⟩ b=((moBlks (cF t key false) (cF t key true) mode back s b ch (m/s)).1,⟨(moBlks (cF t key false) (cF t key true) mode back s b ch (m/s)).2,[],g⟩):=by
   unfold moStep
   rw[if_pos hm,hb]
  have e2:rdStep (cF t key false) (cF t key true) s mode back (⟨ch,[],g⟩,[],0) b=(⟨(moBlks (cF t key false) (cF t key true) mode back s b ch (m/s)).2,[],g⟩,[],0):=by
   unfold rdStep
   rw[if_pos hm]
   show((moStep (cF t key false) (cF t key true) s mode back ⟨ch,[],g⟩ b).2,_)=_
   rw[e]
  have hg':m%s=0:=by unfold moGrain at hg;rwa [if_pos hm]at hg
  have hdm:=Zo m s
  have hl:=moBlks_chlen (back:=back) hci (b:=b) (c:=ch) (i:=m/s) (mode:=mode) (by omega) (by omega)
  have HB:=c_rstep_blk h (back:=back) hvb hb hbm (ch:=ch) (c:=ch.length) (mode:=mode) (by omega) rfl hg'
  rw[e2,rd_row rfl rfl rfl,rd_row hl rfl rfl]
  show Con C N.r12_Mode_Step _ _ (.ret (.t [.z m (bv (moStep (cF t key false) (cF t key true) s mode back ⟨ch,[],g⟩ b).1),i64 0])) _
  rw[e]
  exact HB
 ·have hm3:3≤mode:=by have:=K.ok.m;omega
  have e:moStep (cF t key false) (cF t key true) s mode back x.1 b=moMany (cF t key false) mode back x.1 b:=by
   unfold moStep
   rw[if_neg hm]
  have e2:rdStep (cF t key false) (cF t key true) s mode back x b=rdMany (cF t key false) mode back x b:=by
   unfold rdStep
   rw[if_neg hm]
  rw[e,e2]
  by_cases h3:mode=3
  ·subst h3
   have R2:=rdMany_ok hci (by omega) hm3 (back:=back) b K.ok R
   have K2:=K.many hci (by omega) hm3 (back:=back) b
   have hc:=K.ok.ch.resolve_left (by decide)
   have hr:=R.three rfl
   have hc2:=K2.ok.ch.resolve_left (by decide)
   have hr2:=R2.three rfl
   rw[rdMany3]at hr2 ⊢
   obtain⟨⟨ch,row,g⟩,R',u⟩:=x
   dsimp only at hr hc hc2 hr2
   subst hr
   have HB:=c_rstep_three h (back:=back) (r:=R'.length) (u:=u) (vr:=bv R') (g:=g) hvb hb hbm hc
   show Con C N.r12_Mode_Step _ [rdX rs 3 back (⟨ch,[],g⟩,R',u) 1,.dead] (.ret (.t [.z m (bv (moMany (cF t key false) 3 back ⟨ch,[],g⟩ b).1),i64 0])) [rdX rs 3 back ((moMany (cF t key false) 3 back ⟨ch,[],g⟩ b).2,R',u) 2,.dead,gnB (moMany (cF t key false) 3 back ⟨ch,[],g⟩ b).2.row (moMany (cF t key false) 3 back ⟨ch,[],g⟩ b).2.gone]
   generalize moMany (cF t key false) 3 back ⟨ch,[],g⟩ b=y at*
   obtain⟨o,⟨ch2,row2,g2⟩⟩:=y
   dsimp only at hr2 hc2 HB ⊢
   subst hr2
   rw[rd_row hc rfl rfl,rd_row hc2 rfl rfl]
   exact HB
  ·exact c_rstep_byte h hvb hb hbm (by omega) K R hne
theorem c_rstep_bad {t key s k xs rs} (h:Ciph t key s k xs rs) {mode:Int} {back:Bool} {x:MS×Bs×Nat} {m:Nat} {vb:List Value} (K:MK s mode x.1) (R:RelD s mode x) (hg:m%moGrain s mode≠0):
  Con C N.r12_Mode_Step [.p (.k 0) 0,.z m vb] [rdX rs mode back x 1,gnB x.1.row x.1.gone] (.ret (.t [nilv,i64 7])) [rdX rs mode back x 1,gnB x.1.row x.1.gone]:=by
 have hs:=h.s_le
 have hm:mode=1∨mode=2:=by
  refine Classical.byContradiction fun hm=>hg ?_
  unfold moGrain;rw[if_neg hm,Nat.mod_one]
 have hr:=K.ok.blk hm
 have hx:=R.blk hm
 obtain⟨⟨ch,row,g⟩,x2⟩:=x
 dsimp only at hr hx
 subst hr;subst hx
 have hg':m%s≠0:=by unfold moGrain at hg;rwa [if_pos hm]at hg
 have G:=c_rgrainS h (back:=back) (c:=ch.length) (vc:=bv ch) hm
 refine fd.r12_Mode_Step.c ?_
 refine⟨[.k 0],_,_,_,_,G,rfl,rfl,?_⟩
 refine⟨by omega,?_⟩
 refine spl_ne (fun _=> ?_) (fun h=>absurd h ?_)
 ·exact⟨_,rfl,[.k 0,.k 1],rfl,⟨_,rfl,rfl⟩,⟨_,rfl,rfl⟩,trivial⟩
 ·have:((m:Int).tmod (s:Int))=((m%s:Nat):Int):=by rw[Zi (by omega)];rfl
  rw[this];omega
theorem c_grainA {t key s k xs rs} (h:Ciph t key s k xs rs) {mode:Int} {back:Bool} {st:MS} (K:MK s mode st):
  Con C N.modes_Mode_Grain [.p (.k 0) 0] [moX (cipV t k xs) mode back st 1,gnB st.row st.gone] (.ret (i64 (moGrain s mode))) [moX (cipV t k xs) mode back st 1,gnB st.row st.gone]:=by
 by_cases hm:mode=1∨mode=2
 ·have hr:=K.ok.blk hm
  obtain⟨ch,row,g⟩:=st
  dsimp only at hr
  subst hr
  have e:moGrain s mode=s:=by unfold moGrain;rw[if_pos hm]
  rw[e]
  refine fd.modes_Mode_Grain.c ?_
  refine⟨_,rfl,?_⟩
  rcases hm with rfl|rfl
  all_goals
   refine⟨_,rfl,?_⟩
   refine⟨[],_,_,_,_,h.size,rfl,rfl,?_⟩
   exact⟨_,rfl,[.k 0,.k 1],rfl,⟨_,rfl,rfl⟩,⟨_,rfl,rfl⟩,trivial⟩
 ·have e:moGrain s mode=1:=by unfold moGrain;rw[if_neg hm]
  rw[e]
  exact c_grain1 h (by have:=K.ok.m;omega)
theorem c_w12 {a n:Int} (hn:0<n) (hn2:n≤4611686018427387904) (ha: -9223372036854775808≤a∧a≤9223372036854775807):Con C N.law12_within [i64 a,i64 n] [] (.ret (i64 (a%n))) []:=by
 refine fd.law12_within.c ?_
 have h1: -n<a.tmod n:=Int.lt_tmod_of_pos a hn
 have h2:a.tmod n<n:=Int.tmod_lt_of_pos a hn
 refine⟨by omega,?_⟩
 refine spl_d (fun h=> ?_) (fun h=> ?_)
 ·refine⟨_,rfl,[],q7i ?_,trivial⟩
  rw[Zd _ (by omega)]
  rw[←rest_eq a n hn,Zi (a:=a.tmod n+n) (by omega),Z5 (by omega) (by omega)]
 ·refine⟨_,rfl,[],q7i ?_,trivial⟩
  rw[←rest_eq a n hn,Zi (a:=a.tmod n+n) (by omega),Int.add_emod_right,Z5 (by omega) (by omega)]
def ivL (mode:Int) (s:Nat) (b:Bs):Bs:=if mode=1 then []else bytesN s b
def ivN (mode:Int) (s:Nat):Nat:=if mode=1 then 0 else s
theorem ivL_len (mode s b):(ivL mode s b).length=ivN mode s:=by
 unfold ivL ivN
 split
 ·rfl
 ·exact bytesN_len _ _
theorem c_iv {mode:Int} {s m:Nat} {vb:List Value} {b:Bs} (hv:vb=bv b) (hb:b.length=m) (hs:s≤1000):Con C N.law12_IV [i64 mode,i64 s,.z m vb] [] (.ret (.z (ivN mode s) (bv (ivL mode s b)))) []:=by
 unfold ivL ivN
 by_cases h1:mode=1
 ·rw[if_pos h1,if_pos h1]
  refine fd.law12_IV.w ?_
  refine spl_eq (fun _=> ?_) (fun h=>absurd h1 h)
  exact⟨.ret nilv,[],⟨_,rfl,[],rfl,trivial⟩,.ret .nl,.nil⟩
 ·rw[if_neg h1,if_neg h1]
  refine fd.law12_IV.c ?_
  refine spl_eq (fun h=>absurd h h1) (fun _=> ?_)
  refine⟨[],_,_,_,_,c_bytes hv hb (by omega),rfl,rfl,?_⟩
  exact⟨_,rfl,[],congrArg (V.z s) (bv_all (bytesN_len _ _)),trivial⟩
def kk (x:Int):Int:=if I6.wrap (x.tdiv 40)%3=0 then 8*(x%5)else x%40
def kN (x:Int) (m:Nat):Nat:=min (kk x).toNat m
theorem kk_rng (x:Int):0≤kk x∧kk x≤39:=by unfold kk;split<;>omega
theorem kN_le (x m):kN x m≤m:=Nat.min_le_right _ _
theorem kN_eq {x:Int} {m:Nat} {a:Int} (h:a=kk x):(if (m:Int)<a then (m:Int)else a)=((kN x m:Nat):Int):=by
 subst h
 have:=kk_rng x
 unfold kN
 split<;>omega
def cutF (ns:List Int) (b:Bs):Nat→List (Bs)×Bs
 |0=>([],b)
 |i+1=>((cutF ns b i).1++[(cutF ns b i).2.take (kN (ns.getD i 0) (cutF ns b i).2.length)],(cutF ns b i).2.drop (kN (ns.getD i 0) (cutF ns b i).2.length))
def cutL (ns:List Int) (b:Bs):List (Bs):=(cutF ns b (min ns.length 40)).1++[(cutF ns b (min ns.length 40)).2]
def zc (p:Bs):V:= .z p.length (bv p)
theorem cutF_len (ns b):∀i,(cutF ns b i).1.length=i
 |0=>rfl
 |i+1=>by
  show((cutF ns b i).1++[_]).length=i+1
  rw[Zc,cutF_len ns b i];rfl
theorem cutF_le (ns b):∀i,(cutF ns b i).2.length≤b.length∧∀p∈(cutF ns b i).1,p.length≤b.length
 |0=>⟨Zf _,fun p hp=>by cases hp⟩
 |i+1=>by
  obtain⟨h1,h2⟩:=cutF_le ns b i
  refine⟨?_,fun p hp=> ?_⟩
  ·show((cutF ns b i).2.drop _).length≤_
   rw[Ze];omega
  ·have hp:p∈(cutF ns b i).1++[(cutF ns b i).2.take (kN (ns.getD i 0) (cutF ns b i).2.length)]:=hp
   rcases List.mem_append.1 hp with hp|hp
   ·exact h2 p hp
   ·rw[List.mem_singleton.1 hp,Zs];omega
theorem cutL_len (ns b):(cutL ns b).length=min ns.length 40+1:=by
 unfold cutL
 rw[Zc,cutF_len];rfl
theorem zc_lend (H ids) (l:List (Bs)):(l.map zc).map (lend H ids 6)=l.map zc:=by
 rw[List.map_map]
 exact List.map_congr_left fun _ _=>rfl
theorem zc_snap (H ids) (l:List (Bs)) (n):(l.map zc).map (snap H ids (n+1))=l.map zc:=by
 rw[List.map_map]
 exact List.map_congr_left fun _ _=>rfl
theorem c_cut {ln:Nat} {vn:List Value} {b:Bs} {ns:List Int} (hvn:vn=iv ns) (hn:ns.length=ln) (hlb:b.length≤1000) (hns:∀x∈ns, -9223372036854775808≤x∧x≤9223372036854775807):
  Con C N.law12_Cut [.z b.length (bv b),.z ln vn] [] (.ret (.zz 1 (cutL ns b).length ((cutL ns b).map zc))) []:=by
 subst hvn
 obtain⟨N0,hN0⟩:∃N0,N0=min ns.length 40:=⟨_,rfl⟩
 refine fd.law12_Cut.c ?_
 refine loopNn (fun i=>⟨[(0,.z (cutF ns b i).2.length (bv (cutF ns b i).2)),(1,.z ln (iv ns)),(5,.o 1 (.k 0) 0 i),(6,i64 i)],[.mx ((cutF ns b i).1.map zc)]⟩) N0 [(5,1,.mx [])] ⟨[.d 900000 0],⟨rfl,rfl,rfl,rfl,trivial⟩,⟨_,rfl,rfl⟩,trivial⟩ fun i hi=> ?_
 have hl:=(cutF_le ns b i).1
 have hl1:=cutF_len ns b i
 refine spl_d (fun h1=> ?_) (fun h1=> ?_)
 ·refine spl_d (fun h2=> ?_) (fun h2=> ?_)
  ·obtain⟨x,hx⟩:∃x,ns.getD i 0=x:=⟨_,rfl⟩
   have hlt:i<ns.length:=by omega
   have hxe:ns[i]=x:=by rw[←hx,Zl,Z0 hlt];rfl
   have hxb: -9223372036854775808≤x∧x≤9223372036854775807:=hns x (hxe▸List.getElem_mem hlt)
   have hv:(iv ns)[((i:Nat):Int).toNat]? =some (Value.int .i64 x):=by rw[Zb,iv_get hlt,hxe]
   have hstep:cutF ns b (i+1)=((cutF ns b i).1++[(cutF ns b i).2.take (kN x (cutF ns b i).2.length)],(cutF ns b i).2.drop (kN x (cutF ns b i).2.length)):=by rw[←hx];rfl
   have hk:=kN_le x (cutF ns b i).2.length
   have hst:sub ((cutF ns b i).1.map zc) 0 (i*1)++[V.z (kN x (cutF ns b i).2.length) (sub (bv (cutF ns b i).2) 0 (kN x (cutF ns b i).2.length))]=((cutF ns b i).1++[(cutF ns b i).2.take (kN x (cutF ns b i).2.length)]).map zc:=by
    have e9:((cutF ns b i).2.take (kN x (cutF ns b i).2.length)).length=kN x (cutF ns b i).2.length:=by rw[Zs,Nat.min_eq_left hk]
    rw[Zj,sub_all (l:=(cutF ns b i).1.map zc) (by rw[Zp,hl1]),Jg,bv_sub]
    show _=(cutF ns b i).1.map zc++[V.z ((cutF ns b i).2.take (kN x (cutF ns b i).2.length)).length (bv ((cutF ns b i).2.take (kN x (cutF ns b i).2.length)))]
    rw[e9];rfl
   have hb5:=Int.emod_nonneg x (show (5:Int)≠0 by decide)
   have hb6:=Int.emod_lt_of_pos x (show (0:Int)<5 by decide)
   have w8:I6.wrap (8*(x%5))=8*(x%5):=Zd _ (by omega)
   have hwr: -9223372036854775808≤I6.wrap (x.tdiv 40)∧I6.wrap (x.tdiv 40)≤9223372036854775807:=by rw[IntKind.wrap_i64];omega
   refine⟨by omega,by omega,_,hv,?_⟩
   refine⟨[],_,_,_,_,c_w12 (a:=x) (n:=40) (by omega) (by omega) hxb,rfl,rfl,?_⟩
   refine⟨by omega,by omega,_,hv,?_⟩
   refine⟨by decide,?_⟩
   refine⟨[],_,_,_,_,c_w12 (a:=I6.wrap (x.tdiv 40)) (n:=3) (by omega) (by omega) hwr,rfl,rfl,?_⟩
   refine spl_eq (fun h3=> ?_) (fun h3=> ?_)
   ·refine⟨by omega,by omega,_,hv,?_⟩
    refine⟨[],_,_,_,_,c_w12 (a:=x) (n:=5) (by omega) (by omega) hxb,rfl,rfl,?_⟩
    have e3:(if (((cutF ns b i).2.length:Nat):Int)<I6.wrap (8*(x%5))then (((cutF ns b i).2.length:Nat):Int)else I6.wrap (8*(x%5)))=((kN x (cutF ns b i).2.length:Nat):Int):=kN_eq (by rw[w8];unfold kk;rw[if_pos h3])
    refine⟨(by first|omega|(rw [e3];omega)|(rw [e3,Zb];omega)),(by first|omega|(rw [e3];omega)|(rw [e3,Zb];omega)),(by first|omega|(rw [e3];omega)|(rw [e3,Zb];omega)),(by first|omega|(rw [e3];omega)|(rw [e3,Zb];omega)),?_⟩
    refine⟨Zf _,by omega,by rw[Zp,hl1];omega,?_⟩
    refine⟨(by first|omega|(rw [e3];omega)|(rw [e3,Zb];omega)),(by first|omega|(rw [e3];omega)|(rw [e3,Zb];omega)),(by first|omega|(rw [e3];omega)|(rw [e3,Zb];omega)),(by first|omega|(rw [e3];omega)|(rw [e3,Zb];omega)),?_⟩
    refine⟨i+1,by omega,by omega,[.d 45 0],⟨?_,rfl,rfl,q7i (by simp(disch:=omega)only[Zd];omega),trivial⟩,⟨_,rfl,?_⟩,trivial⟩
    ·rw[e3,hstep]
     show V.z ((cutF ns b i).2.length-kN x (cutF ns b i).2.length) (sub (bv (cutF ns b i).2) (kN x (cutF ns b i).2.length) ((cutF ns b i).2.length-kN x (cutF ns b i).2.length))=V.z ((cutF ns b i).2.drop (kN x (cutF ns b i).2.length)).length (bv ((cutF ns b i).2.drop (kN x (cutF ns b i).2.length)))
     rw[bv_dropN rfl hk,Ze]
    ·rw[e3,hstep]
     show B.mx (Jj (lend _ _ 6) (sub ((cutF ns b i).1.map zc) 0 (i*1)++[V.z (kN x (cutF ns b i).2.length) (sub (bv (cutF ns b i).2) 0 (kN x (cutF ns b i).2.length))]))=B.mx (((cutF ns b i).1++[(cutF ns b i).2.take (kN x (cutF ns b i).2.length)]).map zc)
     rw[hst]
     exact congrArg B.mx (zc_lend _ _ _)
   ·have e3:(if (((cutF ns b i).2.length:Nat):Int)<x%40 then (((cutF ns b i).2.length:Nat):Int)else x%40)=((kN x (cutF ns b i).2.length:Nat):Int):=kN_eq (by unfold kk;rw[if_neg h3])
    refine⟨(by first|omega|(rw [e3];omega)|(rw [e3,Zb];omega)),(by first|omega|(rw [e3];omega)|(rw [e3,Zb];omega)),(by first|omega|(rw [e3];omega)|(rw [e3,Zb];omega)),(by first|omega|(rw [e3];omega)|(rw [e3,Zb];omega)),?_⟩
    refine⟨Zf _,by omega,by rw[Zp,hl1];omega,?_⟩
    refine⟨(by first|omega|(rw [e3];omega)|(rw [e3,Zb];omega)),(by first|omega|(rw [e3];omega)|(rw [e3,Zb];omega)),(by first|omega|(rw [e3];omega)|(rw [e3,Zb];omega)),(by first|omega|(rw [e3];omega)|(rw [e3,Zb];omega)),?_⟩
    refine⟨i+1,by omega,by omega,[.d 45 0],⟨?_,rfl,rfl,q7i (by simp(disch:=omega)only[Zd];omega),trivial⟩,⟨_,rfl,?_⟩,trivial⟩
    ·rw[e3,hstep]
     show V.z ((cutF ns b i).2.length-kN x (cutF ns b i).2.length) (sub (bv (cutF ns b i).2) (kN x (cutF ns b i).2.length) ((cutF ns b i).2.length-kN x (cutF ns b i).2.length))=V.z ((cutF ns b i).2.drop (kN x (cutF ns b i).2.length)).length (bv ((cutF ns b i).2.drop (kN x (cutF ns b i).2.length)))
     rw[bv_dropN rfl hk,Ze]
    ·rw[e3,hstep]
     show B.mx (Jj (lend _ _ 6) (sub ((cutF ns b i).1.map zc) 0 (i*1)++[V.z (kN x (cutF ns b i).2.length) (sub (bv (cutF ns b i).2) 0 (kN x (cutF ns b i).2.length))]))=B.mx (((cutF ns b i).1++[(cutF ns b i).2.take (kN x (cutF ns b i).2.length)]).map zc)
     rw[hst]
     exact congrArg B.mx (zc_lend _ _ _)
  ·have hi0:i=min ns.length 40:=by omega
   have lc:=cutL_len ns b
   refine⟨Zf _,by omega,by rw[Zp,hl1];omega,?_⟩
   refine⟨_,rfl,[],?_,trivial⟩
   rw[lc,←hi0]
   have hcl:(cutF ns b i).1.map zc++[zc (cutF ns b i).2]=(cutL ns b).map zc:=by unfold cutL;rw[←hi0,Jg];rfl
   refine(congrArg (V.zz 1 (i+1)) ((congrArg (Jj _) ?_).trans (zc_snap _ _ (cutL ns b) 3)))
   rw[←hcl,Zj,Zj]
   rw[sub_all (l:=(cutF ns b i).1.map zc) (by rw[Zp,hl1])]
   exact sub_all (n:=(i+1)*1) (by rw[Zc,Zp,hl1,Zj];rfl)
 ·have hi0:i=min ns.length 40:=by omega
  have lc:=cutL_len ns b
  refine⟨Zf _,by omega,by rw[Zp,hl1];omega,?_⟩
  refine⟨_,rfl,[],?_,trivial⟩
  rw[lc,←hi0]
  have hcl:(cutF ns b i).1.map zc++[zc (cutF ns b i).2]=(cutL ns b).map zc:=by unfold cutL;rw[←hi0,Jg];rfl
  refine(congrArg (V.zz 1 (i+1)) ((congrArg (Jj _) ?_).trans (zc_snap _ _ (cutL ns b) 3)))
  rw[←hcl,Zj,Zj]
  rw[sub_all (l:=(cutF ns b i).1.map zc) (by rw[Zp,hl1])]
  exact sub_all (n:=(i+1)*1) (by rw[Zc,Zp,hl1,Zj];rfl)
theorem i64_quo {a g:Nat} (ha:a≤1000000):I6.wrap ((a:Int).tdiv (g:Int))=((a/g:Nat):Int):=by
 have:((a:Int).tdiv (g:Int))=((a/g:Nat):Int):=by rw[Jb (by omega)];rfl
 have h2:=Nat.div_le_self a g
 rw[this]
 generalize a/g=z at*
 rw[Zd _ (by omega)]
theorem i64_quomul {a g:Nat} (ha:a≤1000000):I6.wrap (I6.wrap ((a:Int).tdiv (g:Int))*(g:Int))=((a/g*g:Nat):Int):=by
 have h2:=Z8 a g
 have:((a/g:Nat):Int)*(g:Int)=((a/g*g:Nat):Int):=by rw[Int.natCast_mul]
 rw[i64_quo ha,this]
 generalize a/g*g=z at*
 rw[Zd _ (by omega)]
theorem moStep_nil {E D:Bs→Bs} {n:Nat} {mode:Int} {back:Bool} {s:MS}:moStep E D n mode back s []=([],s):=by
 unfold moStep
 by_cases hm:mode=1∨mode=2
 ·rw[if_pos hm]
  show((moBlks E D mode back n [] s.ch (0/n)).1,(⟨(moBlks E D mode back n [] s.ch (0/n)).2,s.row,s.gone⟩:MS))=_
  rw[Nat.zero_div];rfl
 ·rw[if_neg hm];rfl
theorem c_tell_y {kind:Int} (hk:kind=1∨kind=2∨kind=3):Con C N.pad_tell [i64 kind] [] (.ret (bool true)) []:=by
 refine fd.pad_tell.c ?_
 rcases hk with rfl|rfl|rfl<;>exact⟨_,rfl,[],rfl,trivial⟩
theorem c_sized_y {n:Nat} (h:n=8∨n=16):Con C N.pad_sized [i64 n] [] (.ret (bool true)) []:=by
 refine fd.pad_sized.c ?_
 rcases h with rfl|rfl<;>exact⟨_,rfl,[],rfl,trivial⟩
theorem rep_set {i n:Nat} {x y:UInt8} (h:i<n):(Zh i x++Zh (n-i) y).set i x=Zh (i+1) x++Zh (n-(i+1)) y:=by
 rw[show n-i=(n-(i+1))+1 by omega,List.replicate_succ,Zt _ _ (by rw[Zg];exact Zf _),Zg,Z3,List.set_cons_zero,Z6]
 simp
theorem rep_last {n:Nat} {x y:UInt8} (h:0<n):(Zh n y).set (n-1) x=Zh (n-1) y++[x]:=by
 obtain⟨m,rfl⟩:∃m,n=m+1:=⟨n-1,by omega⟩
 rw[Z9,Z6,Zt _ _ (by rw[Zg];exact Zf _),Zg,Z3];rfl
theorem rep_last' {n:Nat} {x:UInt8} (h:0<n):(Zh n x).set (n-1) x=Zh n x:=by
 obtain⟨m,rfl⟩:∃m,n=m+1:=⟨n-1,by omega⟩
 rw[rep_last h,Z9,Z6]
theorem c_made {kind:Int} {n:Nat} (hk:kind=1∨kind=2∨kind=3) (h0:0<n) (h16:n≤16):Con C N.pad_made [i64 kind,i64 n] [] (.ret (.o 1 (.k 0) 0 n)) [.sc (bv (pdMade kind n))]:=by
 have e1:I6.wrap ((n:Int)-1)=((n-1:Nat):Int):=by rw[Zd _ (by omega)];omega
 refine fd.pad_made.c ?_
 refine⟨by omega,by omega,by omega,?_⟩
 rcases hk with rfl|rfl|rfl
 ·refine loopN (fun i=>⟨[(1,i64 n),(5,.o 1 (.k 0) 0 n),(17,i64 n),(18,i64 i)],[.sc (bv (Zh i (Zr n)++Zh (n-i) 0))]⟩) n ⟨[.d 8 0],⟨rfl,rfl,rfl,rfl,trivial⟩,⟨_,rfl,q7s ?_⟩,trivial⟩ fun i hi=> ?_
  ·rw[Zb,bv_rep];rfl
  refine spl_d (fun hlt=> ?_) (fun hge=> ?_)
  ·have hlt:i<n:=by omega
   refine⟨by omega,by omega,by rw[Zb,bv_len,Zc,Zg,Zg];omega,?_⟩
   refine⟨i+1,by omega,by omega,[.k 0],⟨rfl,rfl,rfl,q7i (by simp(disch:=omega)only[Zd];omega),trivial⟩,⟨_,rfl,q7s ?_⟩,trivial⟩
   rw[Zb,Zj,Zk,nat_u8,bv_set,rep_set hlt]
  ·obtain rfl:i=n:=by omega
   refine⟨by rw[e1];omega,by rw[e1];omega,by rw[e1,Zb,bv_len,Zc,Zg,Zg];omega,?_⟩
   refine⟨_,rfl,[.k 0],rfl,⟨_,rfl,q7s ?_⟩,trivial⟩
   rw[e1,Zb,Zj,Zk,nat_u8,bv_set,Z3,List.replicate_zero,List.append_nil,rep_last' h0];rfl
 ·refine⟨by decide,by omega,by rw[Zb,Zg];show 0+0*1<n;omega,?_⟩
  refine⟨_,rfl,[.d 8 0],rfl,⟨_,rfl,q7s ?_⟩,trivial⟩
  rw[Zb,bv_rep]
  show(bv (Zh n 0)).set 0 (Value.int .u8 ((128:UInt8).toNat:Int))=_
  rw[bv_set]
  obtain⟨m,rfl⟩:∃m,n=m+1:=⟨n-1,by omega⟩
  rfl
 ·refine⟨by rw[e1];omega,by rw[e1];omega,by rw[e1,Zb,Zb,Zg];omega,?_⟩
  refine⟨_,rfl,[.d 8 0],rfl,⟨_,rfl,q7s ?_⟩,trivial⟩
  rw[e1,Zb,Zb,Zj,Zk,nat_u8,bv_rep,bv_set,rep_last h0];rfl
theorem c_padAdd {kind:Int} {s m:Nat} {vt:List Value} {tail:Bs} (hk:kind=1∨kind=2∨kind=3) (hs:s=8∨s=16) (hv:vt=bv tail) (hm:tail.length=m) (hms:m<s):
  Con C N.pad_Add [i64 kind,i64 s,.z m vt] [] (okBlk s) [.sc (bv (pdAdd kind s tail))]:=by
 subst hv
 have e1:I6.wrap ((s:Int)-(m:Int))=((s-m:Nat):Int):=by rw[Zd _ (by omega)];omega
 have lp:=pdAdd_len (kind:=kind) (tail:=tail) (size:=s) (by omega)
 have lm:=pdMade_len (kind:=kind) (n:=s-m) (by omega)
 refine fd.pad_Add.c ?_
 refine⟨[],_,_,_,_,c_tell_y hk,rfl,rfl,?_⟩
 refine⟨[],_,_,_,_,c_sized_y hs,rfl,rfl,?_⟩
 refine spl_d (fun h=>absurd h (by omega)) (fun _=> ?_)
 refine⟨[],_,_,_,_,c_made (n:=s-m) hk (by omega) (by omega),?_,rfl,?_⟩
 ·rw[e1];rfl
 have hpe:tail++pdMade kind (s-m)=pdAdd kind s tail:=by rw[pdAdd,hm]
 refine⟨[],_,_,_,_,c_concatB' (n:=2) (ls:=[tail,pdMade kind (s-m)]) (t:=pdAdd kind s tail) (by rw[←hpe];simp) ?_ rfl (by omega) (by omega),rfl,rfl,?_⟩
 ·show[V.z m (bv tail),V.z (s-m) (sub (bv (pdMade kind (s-m))) 0 (s-m))]=[V.z _ _,V.z _ _]
  rw[bv_all lm,hm,lm]
 rw[lp]
 exact⟨_,rfl,[.d 28 0],rfl,⟨_,rfl,rfl⟩,trivial⟩
theorem mid_set {t:Bs} {m i s:Nat} {x y:UInt8} (hm:t.length=m) (h1:m≤i) (h2:i<s):(t++(Zh (i-m) x++Zh (s-i) y)).set i x=t++(Zh (i+1-m) x++Zh (s-(i+1)) y):=by
 rw[Zt _ _ (by omega),hm]
 have:=rep_set (i:=i-m) (n:=s-m) (x:=x) (y:=y) (by omega)
 rw[show s-m-(i-m)=s-i by omega,show s-m-(i-m+1)=s-(i+1) by omega,show i-m+1=i+1-m by omega]at this
 rw[this]
theorem c_r14_add {kind:Int} {s m:Nat} {vt:List Value} {tail:Bs} (hk:kind=1∨kind=2∨kind=3) (hs:s=8∨s=16) (hv:vt=bv tail) (hm:tail.length=m) (hms:m<s):
  Con C N.r14_Add [i64 kind,i64 s,.z m vt] [] (okBlk s) [.sc (bv (pdAdd kind s tail))]:=by
 subst hv
 have e1:I6.wrap ((s:Int)-(m:Int))=((s-m:Nat):Int):=by rw[Zd _ (by omega)];omega
 have e2:I6.wrap ((s:Int)-1)=((s-1:Nat):Int):=by rw[Zd _ (by omega)];omega
 have hw:∀x:List Value,sub (sub [] 0 (0*1)++bv tail) 0 ((0+m)*1)++x=bv tail++x:=fun x=>by
  show sub (bv tail) 0 ((0+m)*1)++x=_
  rw[Zk,Zj,bv_all hm]
 have lz:∀k,(bv tail++Zh k (Value.int .u8 0)).length=m+k:=fun k=>by rw[Zc,bv_len,Zg,hm]
 have hbz:∀k,bv tail++Zh k (Value.int .u8 0)=bv (tail++Zh k 0):=fun k=>by rw[bv_rep,bv_app]
 have hpe:tail++pdMade kind (s-m)=pdAdd kind s tail:=by rw[pdAdd,hm]
 rw[←hpe]
 have hx0:∀k:Nat,(bv tail++Zh (((k:Nat):Int)).toNat (Value.int .u8 0))=bv (tail++Zh k 0):=fun k=>by rw[Zb,hbz]
 refine fd.r14_Add.c ?_
 rcases hk with rfl|rfl|rfl
 ·have hsS:=hs
  rcases hs with hs|hs
  all_goals
   first
    |(refine spl_ne (fun h=>absurd (show (s:Int)=8 by omega) h) (fun _=> ?_);refine spl_d (fun h=>absurd h (by omega)) (fun _=> ?_))
    |(refine spl_ne (fun _=> ?_) (fun h=>absurd h (show (s:Int)≠8 by omega));refine spl_ne (fun h=>absurd (show (s:Int)=16 by omega) h) (fun _=> ?_);refine spl_d (fun h=>absurd h (by omega)) (fun _=> ?_))
   refine⟨by rw[bv_len];omega,by omega,by decide,?_⟩
   refine⟨by rw[e1];omega,by rw[e1];omega,by rw[e1,Zb];omega,by show 0+(0+m)*1≤(bv tail).length;rw[bv_len,hm];omega,_,rfl,?_⟩
   refine⟨Nat,fun i=>⟨[(1,i64 s),(8,i64 (s-m:Nat)),(9,.o 1 (.k 0) 0 s),(10,i64 i)],[.sc (bv (tail++(Zh (i-m) (Zr (s-m))++Zh (s-i) 0)))]⟩,fun i=>m≤i∧i≤s,fun i=>s-i,⟨[],m,⟨Zf _,by omega⟩,[.d 37 0],⟨rfl,q7i e1,congrArg (V.o 1 (.k 0) 0) (by rw[e1,Zb];omega),rfl,trivial⟩,⟨_,rfl,q7s ?_⟩,trivial⟩,fun i hi=> ?_⟩
   ·rw[hw,e1,hx0,Z3];rfl
   obtain⟨h1,h2⟩:=hi
   refine spl_d (fun hlt=> ?_) (fun hge=> ?_)
   ·have hlt:i<s:=by omega
    refine⟨by omega,by omega,by rw[Zb,bv_len,Zc,Zc,Zg,Zg,hm];omega,?_⟩
    refine⟨i+1,⟨by omega,by omega⟩,(by show s-(i+1)<s-i;omega),[.k 0],⟨rfl,rfl,rfl,q7i (by simp(disch:=omega)only[Zd];omega),trivial⟩,⟨_,rfl,q7s ?_⟩,trivial⟩
    rw[Zb,Zj,Zk,nat_u8,bv_set,mid_set hm h1 hlt]
   ·obtain rfl:i=s:=by omega
    refine⟨_,rfl,[.k 0],rfl,⟨_,rfl,q7s ?_⟩,trivial⟩
    rw[Z3,List.replicate_zero,List.append_nil];rfl
 ·have hsS:=hs
  rcases hs with hs|hs
  all_goals
   first
    |(refine spl_ne (fun h=>absurd (show (s:Int)=8 by omega) h) (fun _=> ?_);refine spl_d (fun h=>absurd h (by omega)) (fun _=> ?_))
    |(refine spl_ne (fun _=> ?_) (fun h=>absurd h (show (s:Int)≠8 by omega));refine spl_ne (fun h=>absurd (show (s:Int)=16 by omega) h) (fun _=> ?_);refine spl_d (fun h=>absurd h (by omega)) (fun _=> ?_))
   refine⟨by rw[bv_len];omega,by omega,by decide,?_⟩
   refine⟨by rw[e1];omega,by rw[e1];omega,by rw[e1,Zb];omega,by show 0+(0+m)*1≤(bv tail).length;rw[bv_len,hm];omega,_,rfl,?_⟩
   refine⟨by omega,by rw[e1,Zb];omega,by rw[hw,e1,hx0,bv_len,Zc,Zg,hm,Zb];omega,?_⟩
   refine⟨_,rfl,[.d 37 0],congrArg (fun z=>V.t [V.o 1 (.k 0) 0 z,i64 0]) (by rw[e1,Zb];omega),⟨_,rfl,q7s ?_⟩,trivial⟩
   rw[hw,e1,hx0,Zb,Zj,Zk]
   show(bv (tail++Zh (s-m) 0)).set m (Value.int .u8 ((128:UInt8).toNat:Int))=_
   rw[bv_set,Zt _ _ (by omega),hm,Z3]
   obtain⟨z,hz⟩:∃z,s-m=z+1:=⟨s-m-1,by omega⟩
   rw[hz];rfl
 ·have hsS:=hs
  rcases hs with hs|hs
  all_goals
   first
    |(refine spl_ne (fun h=>absurd (show (s:Int)=8 by omega) h) (fun _=> ?_);refine spl_d (fun h=>absurd h (by omega)) (fun _=> ?_))
    |(refine spl_ne (fun _=> ?_) (fun h=>absurd h (show (s:Int)≠8 by omega));refine spl_ne (fun h=>absurd (show (s:Int)=16 by omega) h) (fun _=> ?_);refine spl_d (fun h=>absurd h (by omega)) (fun _=> ?_))
   refine⟨by rw[bv_len];omega,by omega,by decide,?_⟩
   refine⟨by rw[e1];omega,by rw[e1];omega,by rw[e1,Zb];omega,by show 0+(0+m)*1≤(bv tail).length;rw[bv_len,hm];omega,_,rfl,?_⟩
   refine⟨by rw[e2];omega,by rw[e2,e1,Zb];omega,by rw[hw,e1,hx0,bv_len,Zc,Zg,hm,e2,Zb];omega,?_⟩
   refine⟨_,rfl,[.d 37 0],congrArg (fun z=>V.t [V.o 1 (.k 0) 0 z,i64 0]) (by rw[e1,Zb];omega),⟨_,rfl,q7s ?_⟩,trivial⟩
   rw[hw,e1,hx0,e2,Zb,Zj,Zk,nat_u8,bv_set,Zt _ _ (by omega),hm]
   have:=rep_last (n:=s-m) (x:=Zr (s-m)) (y:=0) (by omega)
   rw[show s-1-m=s-m-1 by omega,this];rfl
theorem c_equal {n m:Nat} {va vb:List Value} {a b:Bs} (ha:va=bv a) (hb:vb=bv b) (la:a.length=n) (lb:b.length=m):Con C N.bytes_Equal [.z n va,.z m vb] [] (.ret (bool (decide (a=b)))) []:=by
 subst ha;subst hb
 refine fd.bytes_Equal.c ?_
 refine⟨by rw[bv_len];exact la,_,rfl,?_⟩
 refine⟨by rw[bv_len];exact lb,_,rfl,?_⟩
 refine⟨_,rfl,[],congrArg bool ?_,trivial⟩
 exact str_beq _ _
theorem c_lastIdx {n:Nat} {vb:List Value} {b:Bs} (hv:vb=bv b) (hl:b.length=n) (hn:n≤1000):Con C N.bytealg_LastIndexByte [.z n vb,.s (.int .u8 128)] [] (.ret (i64 ((lastM b n:Int)-1))) []:=by
 subst hv
 refine fd.bytealg_LastIndexByte.c ?_
 refine⟨Nat,fun j=>⟨[(0,.z n (bv b)),(1,.s (.int .u8 128)),(5,i64 ((j:Int)-1))],[]⟩,fun j=>j≤n∧lastM b n=lastM b j,fun j=>j,?_,fun j hj=> ?_⟩
 ·exact⟨[],n,⟨Zf _,rfl⟩,[],⟨rfl,rfl,q7i (by rw[Zd _ (by omega)]),trivial⟩,trivial⟩
 ·obtain⟨h1,h2⟩:=hj
  refine spl_d (fun hp=> ?_) (fun hp=> ?_)
  ·obtain⟨i,rfl⟩:∃i,j=i+1:=⟨j-1,by omega⟩
   have e1:(((i+1:Nat):Int)-1)=(i:Int):=by omega
   refine⟨by omega,by omega,.int .u8 ((b.getD i 0).toNat:Int),by rw[e1,Zb];exact bv_getD (by omega),?_⟩
   refine spl_eq (fun hz=> ?_) (fun hz=> ?_)
   ·have hz':b.getD i 0=128:=Z7.1 (by have:(128:UInt8).toNat=128:=rfl;omega)
    have e:lastM b (i+1)=i+1:=by unfold lastM;rw[if_pos hz']
    rw[h2,e]
    exact⟨_,rfl,[],rfl,trivial⟩
   ·have hz':¬b.getD i 0=128:=fun e=>hz (by rw[e];rfl)
    have e:lastM b (i+1)=lastM b i:=by rw[lastM,if_neg hz']
    exact⟨i,⟨by omega,by rw[h2,e]⟩,(by show i<i+1;omega),[],⟨rfl,rfl,q7i (by rw[e1,Zd _ (by omega)]),trivial⟩,trivial⟩
  ·obtain rfl:j=0:=by omega
   rw[h2]
   exact⟨_,rfl,[],rfl,trivial⟩
theorem c_lastIdx' {n:Nat} {vb:List Value} {b:Bs} (hv:vb=bv b) (hl:b.length=n) (hn:n≤1000):Con C N.bytes_LastIndexByte [.z n vb,.s (.int .u8 128)] [] (.ret (i64 ((lastM b n:Int)-1))) []:=by
 refine fd.bytes_LastIndexByte.c ?_
 refine⟨[],_,_,_,_,c_lastIdx hv hl hn,rfl,rfl,?_⟩
 exact⟨_,rfl,[],rfl,trivial⟩
theorem c_long {kind:Int} {s:Nat} {vb:List Value} {b:Bs} (hv:vb=bv b) (hk:kind=1∨kind=2∨kind=3) (hs:s=8∨s=16) (hl:b.length=s):Con C N.pad_long [i64 kind,.z s vb] [] (.ret (i64 (pdLong kind b))) []:=by
 subst hv
 have w1:I6.wrap ((s:Int)-1)=((s-1:Nat):Int):=by rw[Zd _ (by omega)];omega
 obtain⟨y,hy⟩:∃y,y=b.getD (s-1) 0:=⟨_,rfl⟩
 have hv:(bv b)[(I6.wrap ((s:Int)-1)).toNat]? =some (.int .u8 (y.toNat:Int)):=by rw[w1,Zb,hy];exact bv_getD (by omega)
 obtain⟨c,hc⟩:∃c,c=y.toNat:=⟨_,rfl⟩
 have w2:I6.wrap (y.toNat:Int)=(c:Int):=by rw[u8_i64,hc]
 have hcb:c<256:=by rw[hc];exact y.toNat_lt
 have hC:∀k:Int,k≠2→pdCnt k b=c:=fun k hk=>by unfold pdCnt;rw[if_neg hk,hl,←hy,hc]
 refine fd.pad_long.c ?_
 rcases hk with rfl|rfl|rfl
 ·have hP:pdLong 1 b=if c<1∨s<c∨b.drop (s-c)≠pdMade 1 c then 0 else c:=by
   unfold pdLong
   rw[hC 1 (by decide),hl]
   by_cases h1:c<1∨s<c∨b.drop (s-c)≠pdMade 1 c
   ·rw[if_pos h1,if_pos (by rcases h1 with h|h|h;exact .inl h;exact .inr (.inl h);exact .inr (.inr ⟨by decide,h⟩))]
   ·rw[if_neg h1,if_neg (fun h=>h1 (by rcases h with h|h|h;exact .inl h;exact .inr (.inl h);exact .inr (.inr h.2)))]
  refine⟨0,Unit,fun _=>⟨[],[]⟩,fun _=>False,fun _=>0,?_,fun x hx=>hx.elim⟩
  refine⟨by rw[w1];omega,by rw[w1];omega,_,hv,?_⟩
  refine spl_d (fun h=> ?_) (fun h=> ?_)
  ·rw[w2]at h
   refine⟨_,rfl,[],q7i ?_,trivial⟩
   rw[hP,if_pos (.inl (by omega))];rfl
  rw[w2]at h
  refine spl_d (fun h2=> ?_) (fun h2=> ?_)
  ·rw[w2]at h2
   refine⟨_,rfl,[],q7i ?_,trivial⟩
   rw[hP,if_pos (.inr (.inl (by omega)))];rfl
  rw[w2]at h2
  have w3:I6.wrap ((s:Int)-I6.wrap (y.toNat:Int))=((s-c:Nat):Int):=by rw[w2,Zd _ (by omega)];omega
  have lm:=pdMade_len (kind:=1) (n:=c) (by omega)
  have ld:(b.drop (s-c)).length=c:=by rw[Ze];omega
  refine⟨by rw[w3];omega,by rw[w3];omega,by first|omega|(rw [w3];omega),by first|omega|(rw [w3];omega),?_⟩
  refine⟨[],_,_,_,_,c_made (kind:=1) (n:=c) (.inl rfl) (by omega) (by omega),?_,rfl,?_⟩
  ·rw[w2];rfl
  refine⟨[],_,_,_,_,c_equal (a:=b.drop (s-c)) (b:=pdMade 1 c) (n:=c) (m:=c) (va:=bv (b.drop (s-c))) (vb:=bv (pdMade 1 c)) rfl rfl ld lm,?_,rfl,?_⟩
  ·rw[w3]
   show[V.z (s-(s-c)) (sub (bv b) (s-c) (s-(s-c))),V.z c (sub (bv (pdMade 1 c)) 0 c)]=_
   rw[bv_dropN hl (by omega),bv_all lm,show s-(s-c)=c by omega]
  refine spl_i (fun h3=> ?_) (fun h3=> ?_)
  ·refine⟨_,rfl,[],q7i ?_,trivial⟩
   rw[hP,if_pos (.inr (.inr (by simpa using h3)))];rfl
  ·refine⟨_,rfl,[],q7i ?_,trivial⟩
   rw[w2,hP,if_neg]
   rintro (h4|h4|h4)
   ·omega
   ·omega
   ·exact h4 (by simpa using h3)
 ·obtain⟨L,hL⟩:∃L,L=lastM b s:=⟨_,rfl⟩
  have hLs:L≤s:=by rw[hL];exact lastM_le b s
  obtain⟨e,he⟩:∃e,e=s+1-L:=⟨_,rfl⟩
  have hC2:pdCnt 2 b=e:=by unfold pdCnt;rw[if_pos rfl,hl,←hL,he]
  have hP:pdLong 2 b=if s<e∨b.drop (s-e)≠pdMade 2 e then 0 else e:=by
   unfold pdLong
   rw[hC2,hl]
   by_cases h1:s<e∨b.drop (s-e)≠pdMade 2 e
   ·rw[if_pos h1,if_pos (by rcases h1 with h|h;exact .inr (.inl h);exact .inr (.inr ⟨by decide,h⟩))]
   ·rw[if_neg h1,if_neg (fun h=>by
     rcases h with h|h|h
     ·omega
     ·exact h1 (.inl h)
     ·exact h1 (.inr h.2))]
  have w3:I6.wrap ((s:Int)-((lastM b s:Int)-1))=(e:Int):=by rw[←hL,Zd _ (by omega)];omega
  refine⟨0,Unit,fun _=>⟨[(0,i64 2),(1,.z s (bv b)),(5,i64 s)],[]⟩,fun _=>True,fun _=>0,?_,fun x hx=> ?_⟩
  ·refine⟨by rw[w1];omega,by rw[w1];omega,_,hv,?_⟩
   exact⟨rfl,(),trivial,[],⟨rfl,rfl,rfl,trivial⟩,trivial⟩
  ·refine⟨[],_,_,_,_,c_lastIdx' rfl hl (by omega),rfl,rfl,?_⟩
   refine spl_d (fun h2=> ?_) (fun h2=> ?_)
   ·rw[w3]at h2
    refine⟨_,rfl,[],q7i ?_,trivial⟩
    rw[hP,if_pos (.inl (by omega))];rfl
   rw[w3]at h2
   have w4:I6.wrap ((s:Int)-I6.wrap ((s:Int)-((lastM b s:Int)-1)))=((s-e:Nat):Int):=by rw[w3,Zd _ (by omega)];omega
   have lm:=pdMade_len (kind:=2) (n:=e) (by omega)
   have ld:(b.drop (s-e)).length=e:=by rw[Ze];omega
   refine⟨by rw[w4];omega,by rw[w4];omega,by first|omega|(rw [w4];omega),by first|omega|(rw [w4];omega),?_⟩
   refine⟨[],_,_,_,_,c_made (kind:=2) (n:=e) (.inr (.inl rfl)) (by omega) (by omega),?_,rfl,?_⟩
   ·rw[w3];rfl
   refine⟨[],_,_,_,_,c_equal (a:=b.drop (s-e)) (b:=pdMade 2 e) (n:=e) (m:=e) (va:=bv (b.drop (s-e))) (vb:=bv (pdMade 2 e)) rfl rfl ld lm,?_,rfl,?_⟩
   ·rw[w4]
    show[V.z (s-(s-e)) (sub (bv b) (s-e) (s-(s-e))),V.z e (sub (bv (pdMade 2 e)) 0 e)]=_
    rw[bv_dropN hl (by omega),bv_all lm,show s-(s-e)=e by omega]
   refine spl_i (fun h3=> ?_) (fun h3=> ?_)
   ·refine⟨_,rfl,[],q7i ?_,trivial⟩
    rw[hP,if_pos (.inr (by simpa using h3))];rfl
   ·refine⟨_,rfl,[],q7i ?_,trivial⟩
    rw[w3,hP,if_neg]
    rintro (h4|h4)
    ·omega
    ·exact h4 (by simpa using h3)
 ·have hP:pdLong 3 b=if c<1∨s<c then 0 else c:=by
   unfold pdLong
   rw[hC 3 (by decide),hl]
   by_cases h1:c<1∨s<c
   ·rw[if_pos h1,if_pos (by rcases h1 with h|h;exact .inl h;exact .inr (.inl h))]
   ·rw[if_neg h1,if_neg (fun h=>by
     rcases h with h|h|h
     ·exact h1 (.inl h)
     ·exact h1 (.inr h)
     ·exact h.1 rfl)]
  refine⟨0,Unit,fun _=>⟨[],[]⟩,fun _=>False,fun _=>0,?_,fun x hx=>hx.elim⟩
  refine⟨by rw[w1];omega,by rw[w1];omega,_,hv,?_⟩
  refine spl_d (fun h=> ?_) (fun h=> ?_)
  ·rw[w2]at h
   refine⟨_,rfl,[],q7i ?_,trivial⟩
   rw[hP,if_pos (.inl (by omega))];rfl
  rw[w2]at h
  refine spl_d (fun h2=> ?_) (fun h2=> ?_)
  ·rw[w2]at h2
   refine⟨_,rfl,[],q7i ?_,trivial⟩
   rw[hP,if_pos (.inr (by omega))];rfl
  rw[w2]at h2
  refine⟨_,rfl,[],q7i ?_,trivial⟩
  rw[w2,hP,if_neg]
  omega
theorem c_strip {kind:Int} {s:Nat} {vb:List Value} {b:Bs} (hv:vb=bv b) (hk:kind=1∨kind=2∨kind=3) (hs:s=8∨s=16) (hl:b.length=s) (h0:pdLong kind b≠0):Con C N.pad_Strip [i64 kind,i64 s,.z s vb] [] (.ret (.t [.z (s-pdLong kind b) (bv (pdStrip kind b)),i64 0])) []:=by
 subst hv
 have HL:=c_long (vb:=bv b) rfl hk hs hl
 have hle:=pdLong_le kind b
 have hst:pdStrip kind b=sub b 0 (s-pdLong kind b):=by unfold pdStrip;rw[hl];rfl
 rw[hst]
 generalize pdLong kind b=c at*
 have w1:I6.wrap ((s:Int)-(c:Int))=((s-c:Nat):Int):=by rw[Zd _ (by omega)];omega
 have lp:(sub b 0 (s-c)).length=s-c:=by rw[sub_length];omega
 have hv1:sub (bv b) 0 (s-c)=bv (sub b 0 (s-c)):=bv_sub _ _ _
 refine fd.pad_Strip.c ?_
 refine⟨[],_,_,_,_,c_tell_y hk,rfl,rfl,?_⟩
 refine⟨[],_,_,_,_,c_sized_y hs,rfl,rfl,?_⟩
 refine spl_ne (fun h=>absurd rfl h) (fun _=> ?_)
 refine⟨[],_,_,_,_,HL,rfl,rfl,?_⟩
 refine spl_eq (fun h=>absurd h (by omega)) (fun _=> ?_)
 refine⟨by rw[w1];omega,by rw[w1];omega,by first|omega|(rw [w1];omega),by first|omega|(rw [w1];omega),?_⟩
 refine⟨[],_,_,_,_,c_cloneZ (n:=s-c) (va:=bv (sub b 0 (s-c))) rfl lp (by omega),?_,rfl,?_⟩
 ·rw[w1]
  show[V.z (s-c) (sub (bv b) 0 (s-c))]=_
  rw[hv1]
 exact⟨_,rfl,[],rfl,trivial⟩
theorem c_strip_no {kind:Int} {s:Nat} {vb:List Value} {b:Bs} (hv:vb=bv b) (hk:kind=1∨kind=2∨kind=3) (hs:s=8∨s=16) (hl:b.length=s) (h0:pdLong kind b=0):Con C N.pad_Strip [i64 kind,i64 s,.z s vb] [] (.ret (.t [nilv,i64 8])) []:=by
 subst hv
 have HL:=c_long (vb:=bv b) rfl hk hs hl
 rw[h0]at HL
 refine fd.pad_Strip.c ?_
 refine⟨[],_,_,_,_,c_tell_y hk,rfl,rfl,?_⟩
 refine⟨[],_,_,_,_,c_sized_y hs,rfl,rfl,?_⟩
 refine spl_ne (fun h=>absurd rfl h) (fun _=> ?_)
 refine⟨[],_,_,_,_,HL,rfl,rfl,?_⟩
 exact⟨_,rfl,[],rfl,trivial⟩
def lastZ (b:Bs):Nat→Nat
 |0=>0
 |k+1=>if b.getD (k+1) 0=0 then lastZ b k else k+1
theorem lastZ_ok (b:Bs):∀k,lastZ b k≤k∧(∀j,lastZ b k<j→j≤k→b.getD j 0=0)∧(lastZ b k=0∨b.getD (lastZ b k) 0≠0)
 |0=>⟨Zf _,fun j h1 h2=>by unfold lastZ at h1;omega,.inl rfl⟩
 |k+1=>by
  obtain⟨h1,h2,h3⟩:=lastZ_ok b k
  unfold lastZ
  by_cases h:b.getD (k+1) 0=0
  ·rw[if_pos h]
   refine⟨by omega,fun j g1 g2=> ?_,h3⟩
   by_cases e:j=k+1
   ·rw[e];exact h
   ·exact h2 j g1 (by omega)
  ·rw[if_neg h]
   exact⟨Zf _,fun j g1 g2=>by omega,.inr h⟩
theorem pdMade2_get {n j:Nat} (h0:0<n):(pdMade 2 n).getD j 0=if j=0 then 128 else 0:=by
 unfold pdMade
 rw[if_neg (by decide),if_pos rfl]
 rcases j with _|j
 ·rfl
 ·rw[if_neg (by omega)]
  simp only[Zl,List.getElem?_cons_succ,Z2]
  split<;>rfl
theorem drop_gt {b:Bs} {m j:Nat}:(b.drop m).getD j 0=b.getD (m+j) 0:=by
 simp[Zl,List.getElem?_drop]
theorem pdLong_two {b:Bs} {s:Nat} (hl:b.length=s) (hs:0<s):pdLong 2 b=if b.getD (lastZ b (s-1)) 0=128 then s-lastZ b (s-1)else 0:=by
 obtain⟨z1,z2,z3⟩:=lastZ_ok b (s-1)
 generalize lastZ b (s-1)=K at*
 by_cases hK:b.getD K 0=128
 ·rw[if_pos hK]
  have hM:lastM b s=K+1:=lastM_at b hK s (by omega) (fun i g1 g2=>by rw[z2 i g1 (by omega)];decide)
  have hC:pdCnt 2 b=s-K:=by unfold pdCnt;rw[if_pos rfl,hl,hM];omega
  have lm:=pdMade_len (kind:=2) (n:=s-K) (by omega)
  have hd:b.drop (s-(s-K))=pdMade 2 (s-K):=by
   rw[show s-(s-K)=K by omega]
   refine ext_getD (by rw[Ze,hl,lm]) fun j hj=> ?_
   rw[Ze,hl]at hj
   rw[drop_gt,pdMade2_get (by omega)]
   by_cases e:j=0
   ·rw[if_pos e,e,Jf];exact hK
   ·rw[if_neg e];exact z2 _ (by omega) (by omega)
  unfold pdLong
  rw[hC,hl,if_neg]
  rintro (h|h|h)
  ·omega
  ·omega
  ·exact h.2 hd
 ·rw[if_neg hK]
  unfold pdLong
  rw[hl]
  split
  ·rfl
  ·rename_i h
   exfalso
   obtain⟨e,he⟩:∃e,e=pdCnt 2 b:=⟨_,rfl⟩
   rw[←he]at h
   have g1:¬e<1:=fun x=>h (.inl x)
   have g2:¬s<e:=fun x=>h (.inr (.inl x))
   have g3:b.drop (s-e)=pdMade 2 e:=Classical.byContradiction fun x=>h (.inr (.inr ⟨by decide,x⟩))
   have hat:∀j,b.getD (s-e+j) 0=if j=0 then 128 else 0:=fun j=>by rw[←drop_gt,g3,pdMade2_get (by omega)]
   rcases Nat.lt_trichotomy K (s-e)with hh|hh|hh
   ·have:=hat 0
    rw[if_pos rfl,Jf,z2 _ hh (by omega)]at this
    exact absurd this (by decide)
   ·have:=hat 0
    rw[if_pos rfl,Jf,←hh]at this
    exact hK this
   ·have:=hat (K-(s-e))
    rw[if_neg (by omega),show s-e+(K-(s-e))=K by omega]at this
    rcases z3 with z3|z3
    ·omega
    ·exact z3 this
def pdAt (kind:Int) (b:Bs):Int:=if pdLong kind b=0 then -1 else ((b.length-pdLong kind b:Nat):Int)
theorem pdAt_no {kind:Int} {b:Bs} (h:pdLong kind b=0):pdAt kind b= -1:=by
 unfold pdAt;rw[if_pos h]
theorem pdAt_yes {kind:Int} {b:Bs} {s c:Nat} (hl:b.length=s) (h:pdLong kind b=c) (h0:0<c):pdAt kind b=((s-c:Nat):Int):=by
 unfold pdAt;rw[if_neg (by omega),h,hl]
theorem pdLong_one {b:Bs} {s c:Nat} (hl:b.length=s) (hs:0<s) (hc:c=(b.getD (s-1) 0).toNat):
  ((c<1∨s<c∨(∃i,s-c≤i∧i<s∧b.getD i 0≠Zr c))→pdLong 1 b=0)∧(¬(c<1∨s<c∨(∃i,s-c≤i∧i<s∧b.getD i 0≠Zr c))→pdLong 1 b=c):=by
 have hC:pdCnt 1 b=c:=by unfold pdCnt;rw[if_neg (by decide),hl,hc]
 have hM:pdMade 1 c=Zh c (Zr c):=by unfold pdMade;rw[if_pos rfl]
 have hd:c≤s→(b.drop (s-c)=pdMade 1 c↔∀i,s-c≤i→i<s→b.getD i 0=Zr c):=fun hcs=>by
  constructor
  ·intro h i g1 g2
   have:(b.drop (s-c)).getD (i-(s-c)) 0=b.getD i 0:=by rw[drop_gt,show s-c+(i-(s-c))=i by omega]
   rw[←this,h,hM,Zl,Z2,if_pos (by omega)];rfl
  ·intro h
   refine ext_getD (by rw[Ze,hl,hM,Zg];omega) fun j hj=> ?_
   rw[Ze,hl]at hj
   rw[drop_gt,h _ (by omega) (by omega),hM,Zl,Z2,if_pos (by omega)];rfl
 unfold pdLong
 rw[hC,hl]
 refine⟨fun h=>if_pos ?_,fun h=>if_neg ?_⟩
 ·by_cases h1:c<1
  ·exact .inl h1
  by_cases h2:s<c
  ·exact .inr (.inl h2)
  rcases h with h|h|⟨i,g1,g2,g3⟩
  ·exact .inl h
  ·exact .inr (.inl h)
  ·exact .inr (.inr ⟨by decide,fun e=>g3 ((hd (by omega)).1 e i g1 g2)⟩)
 ·rintro (k|k|k)
  ·exact h (.inl k)
  ·exact h (.inr (.inl k))
  ·by_cases h2:s<c
   ·exact h (.inr (.inl h2))
   ·exact k.2 ((hd (by omega)).2 fun i g1 g2=>Classical.byContradiction fun g3=>h (.inr (.inr ⟨i,g1,g2,g3⟩)))
theorem pdLong_three {b:Bs} {s c:Nat} (hl:b.length=s) (hc:c=(b.getD (s-1) 0).toNat):pdLong 3 b=if c<1∨s<c then 0 else c:=by
 have hC:pdCnt 3 b=c:=by unfold pdCnt;rw[if_neg (by decide),hl,hc]
 unfold pdLong
 rw[hC,hl]
 by_cases h1:c<1∨s<c
 ·rw[if_pos h1,if_pos (by rcases h1 with h|h;exact .inl h;exact .inr (.inl h))]
 ·rw[if_neg h1,if_neg (fun h=>by
   rcases h with h|h|h
   ·exact h1 (.inl h)
   ·exact h1 (.inr h)
   ·exact h.1 rfl)]
theorem c_ahead {kind:Int} {s:Nat} {vb:List Value} {b:Bs} (hv:vb=bv b) (hk:kind=1∨kind=2∨kind=3) (hs:s=8∨s=16) (hl:b.length=s):Con C N.r14_ahead [i64 kind,.z s vb] [] (.ret (i64 (pdAt kind b))) []:=by
 subst hv
 have w1:I6.wrap ((s:Int)-1)=((s-1:Nat):Int):=by rw[Zd _ (by omega)];omega
 have hg:∀i:Nat,i<s→(bv b)[((i:Nat):Int).toNat]? =some (.int .u8 ((b.getD i 0).toNat:Int)):=fun i hi=>by rw[Zb];exact bv_getD (by omega)
 refine fd.r14_ahead.c ?_
 rcases hk with rfl|rfl|rfl
 ·obtain⟨c,hc⟩:∃c,c=(b.getD (s-1) 0).toNat:=⟨_,rfl⟩
  have hcb:c<256:=by rw[hc];exact UInt8.toNat_lt _
  have w2:I6.wrap (((b.getD (s-1) 0).toNat:Nat):Int)=(c:Int):=by rw[u8_i64,hc]
  have hP:=pdLong_one hl (by omega) hc
  refine⟨by rw[w1];omega,by rw[w1];omega,_,by rw[w1];exact hg _ (by omega),?_⟩
  refine spl_d (fun h=> ?_) (fun h=> ?_)
  ·rw[w2]at h
   refine⟨_,rfl,[],q7i ?_,trivial⟩
   exact(pdAt_no (hP.1 (.inl (by omega)))).symm
  rw[w2]at h
  refine spl_d (fun h2=> ?_) (fun h2=> ?_)
  ·rw[w2]at h2
   refine⟨_,rfl,[],q7i ?_,trivial⟩
   exact(pdAt_no (hP.1 (.inr (.inl (by omega))))).symm
  rw[w2]at h2
  have w3:I6.wrap ((s:Int)-I6.wrap (((b.getD (s-1) 0).toNat:Nat):Int))=((s-c:Nat):Int):=by rw[w2,Zd _ (by omega)];omega
  refine⟨Nat,fun i=>⟨[(0,i64 1),(1,.z s (bv b)),(5,i64 s),(7,i64 c),(8,i64 i)],[]⟩,fun i=>s-c≤i∧i≤s∧∀j,s-c≤j→j<i→b.getD j 0=Zr c,fun i=>s-i,⟨[],s-c,⟨Zf _,by omega,fun j g1 g2=>by omega⟩,[],⟨rfl,rfl,rfl,q7i w2,q7i w3,trivial⟩,trivial⟩,fun i hi=> ?_⟩
  obtain⟨g1,g2,g3⟩:=hi
  refine spl_d (fun hlt=> ?_) (fun hge=> ?_)
  ·have hlt:i<s:=by omega
   refine⟨by omega,by omega,_,hg i hlt,?_⟩
   refine spl_ne (fun hne=> ?_) (fun heq=> ?_)
   ·rw[nat_u8]at hne
    have hne:b.getD i 0≠Zr c:=fun e=>hne (by rw[e])
    refine⟨_,rfl,[],q7i ?_,trivial⟩
    exact(pdAt_no (hP.1 (.inr (.inr ⟨i,g1,hlt,hne⟩)))).symm
   ·rw[nat_u8]at heq
    have heq:b.getD i 0=Zr c:=Z7.1 (by omega)
    refine⟨i+1,⟨by omega,by omega,fun j k1 k2=> ?_⟩,(by show s-(i+1)<s-i;omega),[],⟨rfl,rfl,rfl,rfl,q7i (by simp(disch:=omega)only[Zd];omega),trivial⟩,trivial⟩
    by_cases e:j=i
    ·rw[e];exact heq
    ·exact g3 j k1 (by omega)
  ·have hi:i=s:=by omega
   subst hi
   have w4:I6.wrap ((i:Int)-(c:Int))=((i-c:Nat):Int):=by rw[Zd _ (by omega)];omega
   refine⟨_,rfl,[],q7i ?_,trivial⟩
   rw[w4]
   have hn:¬(c<1∨i<c∨∃j,i-c≤j∧j<i∧b.getD j 0≠Zr c):=by
    rintro (k1|k1|⟨j,k1,k2,k3⟩)
    ·omega
    ·omega
    ·exact k3 (g3 j k1 k2)
   exact(pdAt_yes hl (hP.2 hn) (by omega)).symm
 ·have hP:=pdLong_two hl (by omega)
  refine⟨Nat,fun k=>⟨[(1,.z s (bv b)),(6,i64 k)],[]⟩,fun k=>k≤s-1∧lastZ b (s-1)=lastZ b k,fun k=>k,⟨[],s-1,⟨Zf _,rfl⟩,[],⟨rfl,q7i w1,trivial⟩,trivial⟩,fun k hk=> ?_⟩
  obtain⟨g1,g2⟩:=hk
  have fin:∀K:Nat,K≤s-1→lastZ b (s-1)=K→(b.getD K 0=128→pdAt 2 b=(K:Int))∧(b.getD K 0≠128→pdAt 2 b= -1):=fun K hK hZ=>by
   rw[hZ]at hP
   refine⟨fun h=> ?_,fun h=> ?_⟩
   ·rw[pdAt_yes hl (hP.trans (if_pos h)) (by omega)];omega
   ·exact pdAt_no (hP.trans (if_neg h))
  have w128:((128:UInt8).toNat:Int)=128:=rfl
  refine spl_d (fun hp=> ?_) (fun hp=> ?_)
  ·obtain⟨i,rfl⟩:∃i,k=i+1:=⟨k-1,by omega⟩
   refine⟨by omega,by omega,_,hg (i+1) (by omega),?_⟩
   refine spl_eq (fun hz=> ?_) (fun hz=> ?_)
   ·have hz':b.getD (i+1) 0=0:=(u8_zero _).1 hz
    have e:lastZ b (i+1)=lastZ b i:=by rw[lastZ,if_pos hz']
    exact⟨i,⟨by omega,by rw[g2,e]⟩,(by show i<i+1;omega),[],⟨rfl,q7i (by simp(disch:=omega)only[Zd];omega),trivial⟩,trivial⟩
   ·have hz':¬b.getD (i+1) 0=0:=fun e=>hz ((u8_zero _).2 e)
    have e:lastZ b (i+1)=i+1:=by rw[lastZ,if_neg hz']
    have F:=fin (i+1) g1 (g2.trans e)
    refine⟨by omega,by omega,_,hg (i+1) (by omega),?_⟩
    refine spl_eq (fun hm=> ?_) (fun hm=> ?_)
    ·exact⟨_,rfl,[],q7i (F.1 (Z7.1 (by omega))).symm,trivial⟩
    ·exact⟨_,rfl,[],q7i (F.2 (fun e=>hm (by rw[e];exact w128))).symm,trivial⟩
  ·obtain rfl:k=0:=by omega
   have F:=fin 0 g1 g2
   refine⟨by omega,by omega,_,hg 0 (by omega),?_⟩
   refine spl_eq (fun hm=> ?_) (fun hm=> ?_)
   ·exact⟨_,rfl,[],q7i (F.1 (Z7.1 (by omega))).symm,trivial⟩
   ·exact⟨_,rfl,[],q7i (F.2 (fun e=>hm (by rw[e];exact w128))).symm,trivial⟩
 ·obtain⟨c,hc⟩:∃c,c=(b.getD (s-1) 0).toNat:=⟨_,rfl⟩
  have hcb:c<256:=by rw[hc];exact UInt8.toNat_lt _
  have w2:I6.wrap (((b.getD (s-1) 0).toNat:Nat):Int)=(c:Int):=by rw[u8_i64,hc]
  have hP:=pdLong_three hl hc
  refine⟨by rw[w1];omega,by rw[w1];omega,_,by rw[w1];exact hg _ (by omega),?_⟩
  refine spl_d (fun h=> ?_) (fun h=> ?_)
  ·rw[w2]at h
   refine⟨_,rfl,[],q7i ?_,trivial⟩
   exact(pdAt_no (hP.trans (if_pos (.inl (by omega))))).symm
  rw[w2]at h
  refine spl_d (fun h2=> ?_) (fun h2=> ?_)
  ·rw[w2]at h2
   refine⟨_,rfl,[],q7i ?_,trivial⟩
   exact(pdAt_no (hP.trans (if_pos (.inr (by omega))))).symm
  rw[w2]at h2
  have w3:I6.wrap ((s:Int)-I6.wrap (((b.getD (s-1) 0).toNat:Nat):Int))=((s-c:Nat):Int):=by rw[w2,Zd _ (by omega)];omega
  have w4:I6.wrap ((s:Int)-(c:Int))=((s-c:Nat):Int):=by rw[Zd _ (by omega)];omega
  refine⟨Unit,fun _=>⟨[(0,i64 3),(1,.z s (bv b)),(5,i64 s),(7,i64 c),(8,i64 (s-c:Nat))],[]⟩,fun _=>True,fun _=>0,⟨[],(),trivial,[],⟨rfl,rfl,rfl,q7i w2,q7i w3,trivial⟩,trivial⟩,fun _ _=> ?_⟩
  have hres:pdAt 3 b=((s-c:Nat):Int):=by
   exact pdAt_yes hl (hP.trans (if_neg (by omega))) (by omega)
  refine spl_d (fun hlt=> ?_) (fun hge=> ?_)
  ·refine⟨_,rfl,[],q7i ?_,trivial⟩
   rw[w4,hres]
  ·refine⟨_,rfl,[],q7i ?_,trivial⟩
   rw[w4,hres]
theorem c_r14_strip_no {kind:Int} {s:Nat} {vb:List Value} {b:Bs} (hv:vb=bv b) (hk:kind=1∨kind=2∨kind=3) (hs:s=8∨s=16) (hl:b.length=s) (h0:pdLong kind b=0):Con C N.r14_Strip [i64 kind,i64 s,.z s vb] [] (.ret (.t [nilv,i64 8])) []:=by
 subst hv
 have HA:=c_ahead (vb:=bv b) rfl hk hs hl
 rw[pdAt_no h0]at HA
 refine fd.r14_Strip.c ?_
 refine spl_d (fun h=>absurd h (by omega)) (fun _=> ?_)
 refine spl_d (fun h=>absurd h (by omega)) (fun _=> ?_)
 rcases hs with rfl|rfl
 all_goals
  refine⟨[],_,_,_,_,HA,rfl,rfl,?_⟩
  exact⟨_,rfl,[],rfl,trivial⟩
def kindOf (mode:Int):Int:=if mode=1∨mode=2 then 1 else if 3≤mode∧mode≤6 then 2 else if 7≤mode∧mode≤9 then 3 else 0
theorem c_kind (mode:Int):Con C N.shot_kind [i64 mode] [] (.ret (i64 (kindOf mode))) []:=by
 refine fd.shot_kind.c ?_
 by_cases hm:1≤mode∧mode≤9
 ·have h9:mode=1∨mode=2∨mode=3∨mode=4∨mode=5∨mode=6∨mode=7∨mode=8∨mode=9:=by omega
  rcases h9 with rfl|rfl|rfl|rfl|rfl|rfl|rfl|rfl|rfl<;>exact⟨_,rfl,[],rfl,trivial⟩
 ·have e:kindOf mode=0:=by unfold kindOf;rw[if_neg (by omega),if_neg (by omega),if_neg (by omega)]
  rw[e]
  refine spl_eq (fun h=>absurd h (by omega)) (fun _=> ?_)
  refine spl_eq (fun h=>absurd h (by omega)) (fun _=> ?_)
  refine spl_eq (fun h=>absurd h (by omega)) (fun _=> ?_)
  refine spl_eq (fun h=>absurd h (by omega)) (fun _=> ?_)
  refine spl_eq (fun h=>absurd h (by omega)) (fun _=> ?_)
  refine spl_eq (fun h=>absurd h (by omega)) (fun _=> ?_)
  refine spl_eq (fun h=>absurd h (by omega)) (fun _=> ?_)
  refine spl_eq (fun h=>absurd h (by omega)) (fun _=> ?_)
  refine spl_eq (fun h=>absurd h (by omega)) (fun _=> ?_)
  exact⟨_,rfl,[],rfl,trivial⟩
abbrev cfgV (t mode pad:Int) (back:Bool):V:= .a [i64 t,i64 mode,i64 pad,bool back]
theorem c_open_ok {t key s k xs rs} (h:Ciph t key s k xs rs) {mode pad:Int} {back:Bool} {li:Nat} {vk vi:List Value} (hvk:vk=bv key) (hm:1≤mode∧mode≤9) (hp:1≤pad∧pad≤4) (hpm:pad=4∨mode≤2) (hi:li=if mode=1 then 0 else s):
  Con C N.shot_open [cfgV t mode pad back,.z key.length vk,.z li vi] [] (.ret (.t [cipV t k xs,i64 0])) []:=by
 subst hvk
 have hs:=h.s_le
 refine fd.shot_open.c ?_
 refine⟨_,rfl,?_⟩
 refine⟨[],_,_,_,_,h.new,rfl,rfl,?_⟩
 refine⟨_,rfl,?_⟩
 refine⟨[],_,_,_,_,c_kind mode,rfl,rfl,?_⟩
 refine⟨[],_,_,_,_,h.size,rfl,rfl,?_⟩
 refine⟨_,rfl,?_⟩
 have hk0:kindOf mode≠0:=by unfold kindOf;split;decide;split;decide;rw[if_pos (by omega)];decide
 have hk1:pad≠4→kindOf mode=1:=fun hp4=>by unfold kindOf;rw[if_pos (by omega)]
 refine spl_eq (fun h1=> ?_) (fun h1=> ?_)
 all_goals
  refine spl_eq (fun h=>absurd h hk0) (fun _=> ?_)
  refine⟨_,rfl,?_⟩
  refine spl_d (fun h=>absurd h (by omega)) (fun _=> ?_)
  refine⟨_,rfl,?_⟩
  refine spl_d (fun h=>absurd h (by omega)) (fun _=> ?_)
  refine⟨_,rfl,?_⟩
  refine spl_ne (fun h4=> ?_) (fun h4=> ?_)
  ·refine spl_ne (fun h=>absurd (hk1 h4) h) (fun _=> ?_)
   refine spl_ne (fun h=>absurd (show (li:Int)=_ by first|(rw [hi,if_pos h1];rfl)|rw[hi,if_neg h1]) h) (fun _=> ?_)
   exact⟨_,rfl,[],rfl,trivial⟩
  ·refine spl_ne (fun h=>absurd (show (li:Int)=_ by first|(rw [hi,if_pos h1];rfl)|rw[hi,if_neg h1]) h) (fun _=> ?_)
   exact⟨_,rfl,[],rfl,trivial⟩
theorem c_open_iv {t key s k xs rs} (h:Ciph t key s k xs rs) {mode pad:Int} {back:Bool} {li:Nat} {vk vi:List Value} (hvk:vk=bv key) (hm:1≤mode∧mode≤9) (hp:1≤pad∧pad≤4) (hpm:pad=4∨mode≤2) (hi:li≠if mode=1 then 0 else s):
  Con C N.shot_open [cfgV t mode pad back,.z key.length vk,.z li vi] [] (.ret (.t [nilp,i64 5])) []:=by
 subst hvk
 have hs:=h.s_le
 refine fd.shot_open.c ?_
 refine⟨_,rfl,?_⟩
 refine⟨[],_,_,_,_,h.new,rfl,rfl,?_⟩
 refine⟨_,rfl,?_⟩
 refine⟨[],_,_,_,_,c_kind mode,rfl,rfl,?_⟩
 refine⟨[],_,_,_,_,h.size,rfl,rfl,?_⟩
 refine⟨_,rfl,?_⟩
 have hk0:kindOf mode≠0:=by unfold kindOf;split;decide;split;decide;rw[if_pos (by omega)];decide
 have hk1:pad≠4→kindOf mode=1:=fun hp4=>by unfold kindOf;rw[if_pos (by omega)]
 refine spl_eq (fun h1=> ?_) (fun h1=> ?_)
 all_goals
  refine spl_eq (fun h=>absurd h hk0) (fun _=> ?_)
  refine⟨_,rfl,?_⟩
  refine spl_d (fun h=>absurd h (by omega)) (fun _=> ?_)
  refine⟨_,rfl,?_⟩
  refine spl_d (fun h=>absurd h (by omega)) (fun _=> ?_)
  refine⟨_,rfl,?_⟩
  refine spl_ne (fun h4=> ?_) (fun h4=> ?_)
  ·refine spl_ne (fun h=>absurd (hk1 h4) h) (fun _=> ?_)
   refine spl_ne (fun _=> ?_) (fun h=>absurd ?_ hi)
   ·exact⟨_,rfl,[],rfl,trivial⟩
   ·simp only[h1,if_true,if_false];exact Jd.1 h
  ·refine spl_ne (fun _=> ?_) (fun h=>absurd ?_ hi)
   ·exact⟨_,rfl,[],rfl,trivial⟩
   ·simp only[h1,if_true,if_false];exact Jd.1 h
theorem c_open_new {t mode pad e:Int} {back:Bool} {lk li:Nat} {vk vi:List Value} (HN:Con C N.cipher_New [i64 t,.z lk vk] [] (.ret (.t [nilp,i64 e])) []) (he:e≠0):
  Con C N.shot_open [cfgV t mode pad back,.z lk vk,.z li vi] [] (.ret (.t [nilp,i64 e])) []:=by
 refine fd.shot_open.c ?_
 refine⟨_,rfl,?_⟩
 refine⟨[],_,_,_,_,HN,rfl,rfl,?_⟩
 refine spl_ne (fun _=> ?_) (fun h=>absurd h he)
 exact⟨_,rfl,[],rfl,trivial⟩
theorem c_rcheck_ok {t key s k xs rs} (h:Ciph t key s k xs rs) {mode pad:Int} {back:Bool} {li:Nat} {vk vi:List Value} (hvk:vk=bv key) (hm:1≤mode∧mode≤9) (hp:1≤pad∧pad≤4) (hpm:pad=4∨mode≤2) (hi:li=if mode=1 then 0 else s):
  Con C N.r15_Check [cfgV t mode pad back,.z key.length vk,.z li vi] [] (.ret (i64 0)) []:=by
 subst hvk
 refine fd.r15_Check.c ?_
 refine⟨_,rfl,?_⟩
 refine⟨[],_,_,_,_,h.rnew,rfl,rfl,?_⟩
 refine⟨_,rfl,?_⟩
 refine spl_d (fun h=>absurd h (by omega)) (fun _=> ?_)
 refine⟨_,rfl,?_⟩
 refine spl_d (fun h=>absurd h (by omega)) (fun _=> ?_)
 refine⟨_,rfl,?_⟩
 refine spl_d (fun h=>absurd h (by omega)) (fun _=> ?_)
 refine⟨_,rfl,?_⟩
 refine spl_d (fun h=>absurd h (by omega)) (fun _=> ?_)
 refine⟨_,rfl,?_⟩
 refine spl_ne (fun h4=> ?_) (fun h4=> ?_)
 ·refine⟨_,rfl,?_⟩
  refine spl_d (fun h=>absurd h (by omega)) (fun _=> ?_)
  refine⟨_,rfl,?_⟩
  refine⟨[],_,_,_,_,h.rS,rfl,rfl,?_⟩
  refine⟨_,rfl,?_⟩
  refine spl_eq (fun h1=> ?_) (fun h1=> ?_)
  all_goals
   refine spl_ne (fun h=>absurd (show (li:Int)=_ by first|(rw [hi,if_pos h1];rfl)|rw[hi,if_neg h1]) h) (fun _=> ?_)
   exact⟨_,rfl,[],rfl,trivial⟩
 ·refine⟨_,rfl,?_⟩
  refine⟨[],_,_,_,_,h.rS,rfl,rfl,?_⟩
  refine⟨_,rfl,?_⟩
  refine spl_eq (fun h1=> ?_) (fun h1=> ?_)
  all_goals
   refine spl_ne (fun h=>absurd (show (li:Int)=_ by first|(rw [hi,if_pos h1];rfl)|rw[hi,if_neg h1]) h) (fun _=> ?_)
   exact⟨_,rfl,[],rfl,trivial⟩
theorem c_rcheck_iv {t key s k xs rs} (h:Ciph t key s k xs rs) {mode pad:Int} {back:Bool} {li:Nat} {vk vi:List Value} (hvk:vk=bv key) (hm:1≤mode∧mode≤9) (hp:1≤pad∧pad≤4) (hpm:pad=4∨mode≤2) (hi:li≠if mode=1 then 0 else s):
  Con C N.r15_Check [cfgV t mode pad back,.z key.length vk,.z li vi] [] (.ret (i64 5)) []:=by
 subst hvk
 refine fd.r15_Check.c ?_
 refine⟨_,rfl,?_⟩
 refine⟨[],_,_,_,_,h.rnew,rfl,rfl,?_⟩
 refine⟨_,rfl,?_⟩
 refine spl_d (fun h=>absurd h (by omega)) (fun _=> ?_)
 refine⟨_,rfl,?_⟩
 refine spl_d (fun h=>absurd h (by omega)) (fun _=> ?_)
 refine⟨_,rfl,?_⟩
 refine spl_d (fun h=>absurd h (by omega)) (fun _=> ?_)
 refine⟨_,rfl,?_⟩
 refine spl_d (fun h=>absurd h (by omega)) (fun _=> ?_)
 refine⟨_,rfl,?_⟩
 refine spl_ne (fun h4=> ?_) (fun h4=> ?_)
 ·refine⟨_,rfl,?_⟩
  refine spl_d (fun h=>absurd h (by omega)) (fun _=> ?_)
  refine⟨_,rfl,?_⟩
  refine⟨[],_,_,_,_,h.rS,rfl,rfl,?_⟩
  refine⟨_,rfl,?_⟩
  refine spl_eq (fun h1=> ?_) (fun h1=> ?_)
  all_goals
   refine spl_ne (fun _=> ?_) (fun h=>absurd ?_ hi)
   ·exact⟨_,rfl,[],rfl,trivial⟩
   ·simp only[h1,if_true,if_false];exact Jd.1 h
 ·refine⟨_,rfl,?_⟩
  refine⟨[],_,_,_,_,h.rS,rfl,rfl,?_⟩
  refine⟨_,rfl,?_⟩
  refine spl_eq (fun h1=> ?_) (fun h1=> ?_)
  all_goals
   refine spl_ne (fun _=> ?_) (fun h=>absurd ?_ hi)
   ·exact⟨_,rfl,[],rfl,trivial⟩
   ·simp only[h1,if_true,if_false];exact Jd.1 h
theorem c_rcheck_mode {t key s k xs rs} (h:Ciph t key s k xs rs) {mode pad:Int} {back:Bool} {li:Nat} {vk vi:List Value} (hvk:vk=bv key) (hb:¬((1≤mode∧mode≤9)∧(1≤pad∧pad≤4)∧(pad=4∨mode≤2))):
  Con C N.r15_Check [cfgV t mode pad back,.z key.length vk,.z li vi] [] (.ret (i64 3)) []:=by
 subst hvk
 refine fd.r15_Check.c ?_
 refine⟨_,rfl,?_⟩
 refine⟨[],_,_,_,_,h.rnew,rfl,rfl,?_⟩
 refine⟨_,rfl,?_⟩
 refine spl_d (fun _=>⟨_,rfl,[],rfl,trivial⟩) (fun a1=> ?_)
 refine⟨_,rfl,?_⟩
 refine spl_d (fun _=>⟨_,rfl,[],rfl,trivial⟩) (fun a2=> ?_)
 refine⟨_,rfl,?_⟩
 refine spl_d (fun _=>⟨_,rfl,[],rfl,trivial⟩) (fun a3=> ?_)
 refine⟨_,rfl,?_⟩
 refine spl_d (fun _=>⟨_,rfl,[],rfl,trivial⟩) (fun a4=> ?_)
 refine⟨_,rfl,?_⟩
 refine spl_ne (fun h4=> ?_) (fun h4=> ?_)
 ·refine⟨_,rfl,?_⟩
  refine spl_d (fun _=>⟨_,rfl,[],rfl,trivial⟩) (fun a5=> ?_)
  exact absurd ⟨⟨by omega,by omega⟩,⟨by omega,by omega⟩,.inr (by omega)⟩ hb
 ·exact absurd ⟨⟨by omega,by omega⟩,⟨by omega,by omega⟩,.inl h4⟩ hb
theorem c_rcheck_new {t mode pad e:Int} {back:Bool} {lk li:Nat} {vk vi:List Value} (HN:Con C N.r11_New [i64 t,.z lk vk] [] (.ret (.t [nilp,i64 e])) []) (he:e≠0):
  Con C N.r15_Check [cfgV t mode pad back,.z lk vk,.z li vi] [] (.ret (i64 e)) []:=by
 refine fd.r15_Check.c ?_
 refine⟨_,rfl,?_⟩
 refine⟨[],_,_,_,_,HN,rfl,rfl,?_⟩
 refine spl_ne (fun _=> ?_) (fun h=>absurd h he)
 exact⟨_,rfl,[],rfl,trivial⟩
theorem c_open_mode {t key s k xs rs} (h:Ciph t key s k xs rs) {mode pad:Int} {back:Bool} {li:Nat} {vk vi:List Value} (hvk:vk=bv key) (hb:¬((1≤mode∧mode≤9)∧(1≤pad∧pad≤4)∧(pad=4∨mode≤2))):
  Con C N.shot_open [cfgV t mode pad back,.z key.length vk,.z li vi] [] (.ret (.t [nilp,i64 3])) []:=by
 subst hvk
 have hs:=h.s_le
 have hk0:(1≤mode∧mode≤9)→kindOf mode≠0:=fun hm=>by unfold kindOf;split;decide;split;decide;rw[if_pos (by omega)];decide
 have hkz:¬(1≤mode∧mode≤9)→kindOf mode=0:=fun hm=>by unfold kindOf;rw[if_neg (by omega),if_neg (by omega),if_neg (by omega)]
 have hk1:kindOf mode=1→mode≤2:=fun hh=>by
  unfold kindOf at hh
  split at hh
  ·omega
  ·split at hh
   ·exact absurd hh (by decide)
   ·split at hh<;>exact absurd hh (by decide)
 refine fd.shot_open.c ?_
 refine⟨_,rfl,?_⟩
 refine⟨[],_,_,_,_,h.new,rfl,rfl,?_⟩
 refine⟨_,rfl,?_⟩
 refine⟨[],_,_,_,_,c_kind mode,rfl,rfl,?_⟩
 refine⟨[],_,_,_,_,h.size,rfl,rfl,?_⟩
 refine⟨_,rfl,?_⟩
 refine spl_eq (fun h1=> ?_) (fun h1=> ?_)
 all_goals
  refine spl_eq (fun hz=> ?_) (fun hz=> ?_)
  ·refine spl_eq (fun _=>⟨_,rfl,[],rfl,trivial⟩) (fun h=>absurd hz h)
  refine⟨_,rfl,?_⟩
  refine spl_d (fun hz2=> ?_) (fun a3=> ?_)
  ·refine spl_d (fun _=>⟨_,rfl,[],rfl,trivial⟩) (fun h=>absurd hz2 h)
  refine⟨_,rfl,?_⟩
  refine spl_d (fun hz2=> ?_) (fun a4=> ?_)
  ·refine spl_d (fun _=>⟨_,rfl,[],rfl,trivial⟩) (fun h=>absurd hz2 h)
  refine⟨_,rfl,?_⟩
  refine spl_ne (fun h4=> ?_) (fun h4=> ?_)
  ·refine spl_ne (fun _=>⟨_,rfl,[],rfl,trivial⟩) (fun hk=> ?_)
   have:=hk1 hk
   have hm:1≤mode∧mode≤9:=Classical.byContradiction fun x=>hz (hkz x)
   exact absurd ⟨hm,⟨by omega,by omega⟩,.inr this⟩ hb
  ·have hm:1≤mode∧mode≤9:=Classical.byContradiction fun x=>hz (hkz x)
   exact absurd ⟨hm,⟨by omega,by omega⟩,.inl h4⟩ hb
theorem frontN_gt {n l:Nat} (hn:0<n) (h:n≤l) (hp:0<frontN n l):n+1≤l-frontN n l:=by
 unfold frontN at hp ⊢
 have hd:=Zo (l-n-1) n
 have:n+1≤l:=by
  refine Classical.byContradiction fun hh=> ?_
  have:l-n-1=0:=by omega
  rw[this,Nat.zero_div]at hp
  omega
 generalize n*((l-n-1)/n)=z at*
 omega
theorem front_step {n l f j:Nat} (hn:0<n) (h:n≤l) (hf:f=n*j) (hle:f≤frontN n l):(2*n<l-f→f+n≤frontN n l)∧(¬2*n<l-f→f=frontN n l):=by
 obtain⟨a1,a2,a3,a4,a5⟩:=frontN_ok hn h
 have hfl:f<frontN n l→f+n≤frontN n l:=fun hlt=>by
  obtain⟨u,hu⟩:=Z4 a4
  have:j<u:=by
   refine Zu (a:=n) ?_
   omega
  have:=Zz n this
  rw[Zv]at this
  omega
 constructor
 ·intro h2
  exact hfl (by omega)
 ·intro h2
  refine Classical.byContradiction fun hne=> ?_
  have hlt:f<frontN n l:=by omega
  have:=hfl hlt
  have:=frontN_gt hn h (by omega)
  omega
theorem Ciph.s_two {t key s k xs rs} (h:Ciph t key s k xs rs):s=8∨s=16:=by
 have:=h.hs
 rcases h.ht with e|e|e|e|e|e|e|e<;>(subst e;simp[cSize]at this;omega)
theorem c_r14_strip_own {kind:Int} {s:Nat} {vb:List Value} {b:Bs} (hv:vb=bv b) (hk:kind=1∨kind=2∨kind=3) (hs:s=8∨s=16) (hl:b.length=s) (h0:pdLong kind b≠0):Con C N.r14_Strip [i64 kind,i64 s,.z s vb] [] (.ret (.t [.o 1 (.k 0) 0 (s-pdLong kind b),i64 0])) [.sc (bv (pdStrip kind b))]:=by
 subst hv
 have HA:=c_ahead (vb:=bv b) rfl hk hs hl
 have hle:=pdLong_le kind b
 rw[pdAt_yes hl rfl (by omega)]at HA
 have hst:pdStrip kind b=sub b 0 (s-pdLong kind b):=by unfold pdStrip;rw[hl];rfl
 rw[hst]
 generalize pdLong kind b=c at*
 obtain⟨d,hd⟩:∃d,d=s-c:=⟨_,rfl⟩
 rw[←hd]at HA ⊢
 have lp:(sub b 0 d).length=d:=by rw[sub_length];omega
 have hv1:sub (bv b) 0 d=bv (sub b 0 d):=bv_sub _ _ _
 refine fd.r14_Strip.c ?_
 refine spl_d (fun h=>absurd h (by omega)) (fun _=> ?_)
 refine spl_d (fun h=>absurd h (by omega)) (fun _=> ?_)
 have hds:d≤s:=by omega
 rcases hs with rfl|rfl
 all_goals
  refine⟨[],_,_,_,_,HA,rfl,rfl,?_⟩
  first|refine spl_d (fun h=>absurd h (show ¬((d:Int)<0) by omega)) (fun _=> ?_)|skip
  refine⟨by omega,by omega,by omega,by omega,?_⟩
  refine⟨by rw[Zb,Zy,hv1,bv_len,lp],by omega,by decide,?_⟩
  refine⟨_,rfl,[.d 36 0],congrArg (fun z=>V.t [V.o 1 (.k 0) 0 z,i64 0]) (by rw[Zb,Zy,Zk]),⟨_,rfl,q7s ?_⟩,trivial⟩
  rw[Zb,Zy]
  show sub (bv b) 0 d=_
  rw[hv1]
theorem c_rstep_blk_own {t key s k xs rs} (h:Ciph t key s k xs rs) {mode:Int} {back:Bool} {c m:Nat} {vb:List Value} {ch b:Bs} (hvb:vb=bv b) (hb:b.length=m) (hbm:m≤1000000) (hm:mode=1∨mode=2∧c=s) (hc:ch.length=c) (hg:m%s=0):
  Con C N.r12_Mode_Step [.p (.k 0) 0,.z m vb] [.mx [.q rs 0,i64 mode,bool back,.z c (bv ch),.z 0 [],i64 0,.u],.dead] (.ret (.t [.o 1 (.k 2) 0 m,i64 0])) [.mx [.q rs 0,i64 mode,bool back,.z c (bv (moBlks (cF t key false) (cF t key true) mode back s b ch (m/s)).2),.z 0 [],i64 0,.u],.dead,.sc (bv (moBlks (cF t key false) (cF t key true) mode back s b ch (m/s)).1)]:=by
 subst hvb
 have hs:=h.s_le
 have hci:=h.ci
 have hdm:=Zo m s
 have hm12:mode=1∨mode=2:=by omega
 have G:=c_rgrainS h (back:=back) (c:=c) (vc:=bv ch) hm12
 refine fd.r12_Mode_Step.w ?_
 refine⟨[.k 0],_,_,_,_,G,rfl,rfl,?_⟩
 refine⟨by omega,?_⟩
 refine spl_ne (fun h=>absurd ?_ h) (fun _=> ?_)
 ·have:((m:Int).tmod (s:Int))=((m%s:Nat):Int):=by rw[Zi (by omega)];rfl
  rw[this,hg];rfl
 refine⟨Nat×Nat×Bs×Bs,rsB rs mode back m s c b,fun x=>x.2.1=s*x.1∧x.2.1≤m∧moBlks (cF t key false) (cF t key true) mode back s b ch x.1=(x.2.2.1,x.2.2.2)∧x.2.2.1.length=x.2.1∧x.2.2.2.length=c,fun x=>m-x.2.1,?_,fun x hx=> ?_⟩
 ·exact⟨[(7,1,.sc [])],(0,0,[],ch),⟨by show 0=s*0;omega,Zx _,rfl,rfl,hc⟩,[.k 0,.k 1,.d 900000 0],⟨rfl,rfl,rfl,rfl,rfl,trivial⟩,⟨_,rfl,rfl⟩,⟨_,rfl,rfl⟩,⟨_,rfl,rfl⟩,trivial⟩
 ·obtain⟨i,q,o,c'⟩:=x
  obtain⟨h1,h2,h3,h4,h5⟩:=hx
  dsimp only at h1 h2 h3 h4 h5
  refine spl_d (fun h0=> ?_) (fun h0=> ?_)
  ·have hq:q+s≤m:=by
    have e1:m=s*(m/s):=by omega
    have:i<m/s:=by
     refine Zu (a:=s) ?_
     omega
    have:=Zz s this
    rw[Zv]at this
    omega
   have lp:(sub b q s).length=s:=by rw[sub_length];omega
   have hn:moBlks (cF t key false) (cF t key true) mode back s b ch (i+1)=(o++(moBlk (cF t key false) (cF t key true) mode back c' (sub b q s)).1,(moBlk (cF t key false) (cF t key true) mode back c' (sub b q s)).2):=by
    rw[moBlks_succ,h3,←h1]
   have HB:=c_r12_block h (mode:=mode) (back:=back) (vp:=sub (bv b) q s) (bv_sub _ _ _) rfl lp h5 hm
   have hl:=moBlk_ok (back:=back) hci hm12 (c:=c') (p:=sub b q s) (by omega) lp
   have hl2:(moBlk (cF t key false) (cF t key true) mode back c' (sub b q s)).2.length=c:=by
    rcases hm with rfl|⟨rfl,rfl⟩
    ·rw[←h5];rfl
    ·exact hl.2.resolve_left (by decide)
   have hl1:=hl.1
   generalize moBlk (cF t key false) (cF t key true) mode back c' (sub b q s)=x at*
   obtain⟨o',c2⟩:=x
   dsimp only at HB hn hl1 hl2
   have e1:I6.wrap ((q:Int)+(s:Int))=((q+s:Nat):Int):=by rw[Zd _ (by omega)];omega
   rcases hm12 with rfl|rfl
   all_goals
    refine⟨_,rfl,?_⟩
    refine⟨by first|omega|(rw [e1];omega),by first|omega|(rw [e1];omega),by first|omega|(rw [e1];omega),by first|omega|(rw [e1];omega),by first|omega|(rw [e1];omega),?_⟩
    refine⟨[.k 0],_,_,_,_,HB,?_,rfl,?_⟩
    ·rw[e1]
     show[V.p (.k 0) 0,V.z (q+s-q) (sub (bv b) q (q+s-q))]=_
     rw[Je]
    refine⟨by first|omega|(rw [bv_len];omega),by omega,by rw[bv_len,h4];omega,?_⟩
    refine⟨(i+1,q+s,o++o',c2),⟨by show q+s=s*(i+1);rw[Zv];omega,hq,hn,by rw[Zc,h4,hl1],hl2⟩,(by show m-(q+s)<m-q;omega),[.k 0,.k 1,.d 48 0],⟨rfl,rfl,rfl,rfl,q7i e1,trivial⟩,⟨_,rfl,rfl⟩,⟨_,rfl,rfl⟩,⟨_,rfl,q7s ?_⟩,trivial⟩
    show sub (bv o) 0 (q*1)++bv o'=_
    rw[Zj,bv_all h4,bv_app]
  ·obtain rfl:q=m:=by omega
   have hi:q/s=i:=by rw[h1,Z1 _ (by omega)]
   rw[hi,h3]
   exact⟨_,[.mx [.q rs 0,i64 mode,bool back,.z c (bv c'),.z 0 [],i64 0,.u],.dead,.sc (bv o)],⟨_,rfl,[.k 0,.k 1,.k 2],rfl,⟨_,rfl,rfl⟩,⟨_,rfl,rfl⟩,⟨_,rfl,rfl⟩,trivial⟩,.ret (.refl _),.cons (.refl _) (.cons (.refl _) (.cons (.refl _) .nil))⟩
theorem moStep2 {E D:Bs→Bs} {n:Nat} {back:Bool} {ch p:Bs}:moStep E D n 2 back ⟨ch,[],[]⟩ p=((moBlks E D 2 back n p ch (p.length/n)).1,⟨(moBlks E D 2 back n p ch (p.length/n)).2,[],[]⟩):=by
 unfold moStep;rw[if_pos (by decide)]
def rkD (rs:List V) (t mode pad:Int) (back:Bool) (s m:Nat) (msg:Bs):Nat×Nat×Bs×Bs×Bs→D
 |(j,f,o,ch,L)=>⟨[(0,.q rs 0),(3,.z (m-f) (bv (msg.drop f))),(5,.p (.k 0) 0),(10,i64 s),(11,.o 1 (.k 3) 0 f),(12,.z s (bv L)),(13,.p (.k 1) 0)],[.mx [i64 t,i64 mode,i64 pad,bool back],.mx [.q rs 0,i64 2,bool back,.z s (bv ch),.z 0 [],i64 0,.u],.dead,.sc (bv o)]⟩
theorem c_rstolen_short {t key s k xs rs} (h:Ciph t key s k xs rs) {mode pad:Int} {back:Bool} {li m:Nat} {vi vm:List Value} (hms:m<s):
  Con C N.r15_stolen [.q rs 0,cfgV t mode pad back,.z li vi,.z m vm] [] (.ret (.t [nilv,i64 7])) []:=by
 refine fd.r15_stolen.c ?_
 refine⟨[],_,_,_,_,h.rsize,rfl,rfl,?_⟩
 refine spl_d (fun _=> ?_) (fun h=>absurd (show (m:Int)<(s:Int) by omega) h)
 exact⟨_,rfl,[],rfl,trivial⟩
theorem c_rstolen {t key s k xs rs} (h:Ciph t key s k xs rs) {mode pad:Int} {back:Bool} {m:Nat} {vi vm:List Value} {iv msg:Bs} (hvi:vi=bv iv) (hvm:vm=bv msg) (hi:iv.length=s) (hmm:msg.length=m) (hms:s≤m) (hmb:m≤100000) (hm:7≤mode∧mode≤9):
  Con C N.r15_stolen [.q rs 0,cfgV t mode pad back,.z s vi,.z m vm] [] (.ret (.t [.z m (bv (shSt (cF t key false) (cF t key true) s mode back iv msg).1),i64 0])) []:=by
 subst hvi;subst hvm
 have hs:=h.s_le
 have hci:=h.ci
 obtain⟨F,hF⟩:∃F,F=frontN s m:=⟨_,rfl⟩
 obtain⟨a1,a2,a3,a4,a5⟩:=frontN_ok (n:=s) (l:=m) (by omega) hms
 have hstep:=fun j f=>front_step (n:=s) (l:=m) (f:=f) (j:=j) (by omega) hms
 rw[←hF]at a1 a2 a3 a4 a5 hstep
 have hres:(shSt (cF t key false) (cF t key true) s mode back iv msg).1=(moStep (cF t key false) (cF t key true) s 2 back ⟨iv,[],[]⟩ (msg.take F)).1++stT (cF t key false) (cF t key true) s mode back (shLast s back iv msg (moStep (cF t key false) (cF t key true) s 2 back ⟨iv,[],[]⟩ (msg.take F)).1) (msg.drop F):=by
  unfold shSt
  rw[if_neg (by omega),hmm,←hF]
 have hLast:∀o,shLast s back iv msg o=if F=0 then iv else if back then sub msg (F-s) s else o.drop (F-s):=fun o=>by unfold shLast;rw[hmm,←hF]
 rw[hres]
 clear hres
 refine fd.r15_stolen.c ?_
 refine⟨[],_,_,_,_,h.rsize,rfl,rfl,?_⟩
 refine spl_d (fun h=>absurd h (by omega)) (fun _=> ?_)
 refine⟨_,rfl,?_⟩
 have cN:=c_r12_new h (mode:=2) (back:=back) (i:=1) (vi:=bv iv) rfl hi (by decide) rfl
 rw[rd_row hi rfl rfl]at cN
 refine⟨[],_,_,_,_,cN,rfl,rfl,?_⟩
 refine⟨Nat×Nat×Bs×Bs×Bs,rkD rs t mode pad back s m msg,fun x=>x.2.1=s*x.1∧x.2.1≤F∧moStep (cF t key false) (cF t key true) s 2 back ⟨iv,[],[]⟩ (msg.take x.2.1)=(x.2.2.1,⟨x.2.2.2.1,[],[]⟩)∧x.2.2.1.length=x.2.1∧x.2.2.2.1.length=s∧x.2.2.2.2=(if x.2.1=0 then iv else if back then sub msg (x.2.1-s) s else x.2.2.1.drop (x.2.1-s))∧x.2.2.2.2.length=s,fun x=>F-x.2.1,⟨[(11,1,.sc [])],(0,0,[],iv,iv),⟨by show 0=s*0;omega,Zx _,moStep_nil,rfl,hi,rfl,hi⟩,[.d 5 0,.d 31 0,.d 31 1,.d 900000 0],⟨rfl,rfl,rfl,rfl,rfl,rfl,rfl,trivial⟩,⟨_,rfl,rfl⟩,⟨_,rfl,rfl⟩,⟨_,rfl,rfl⟩,⟨_,rfl,rfl⟩,trivial⟩,fun x hx=> ?_⟩
 obtain⟨j,f,o,ch,L⟩:=x
 obtain⟨h1,h2,h3,h4,h5,h6,h7⟩:=hx
 dsimp only at h1 h2 h3 h4 h5 h6 h7
 have ld:(msg.drop f).length=m-f:=by rw[Ze,hmm]
 have e2:I6.wrap (2*(s:Int))=((2*s:Nat):Int):=by rw[Zd _ (by omega)];omega
 obtain⟨s1,s2⟩:=hstep j f h1 h2
 refine spl_d (fun hgt=> ?_) (fun hle=> ?_)
 ·rw[e2]at hgt
  have hfF:=s1 (by omega)
  have lq:(sub (msg.drop f) 0 s).length=s:=by rw[sub_length];omega
  have hvq:sub (bv (msg.drop f)) 0 s=bv (sub (msg.drop f) 0 s):=bv_sub _ _ _
  have T0:=c_rstep_blk h (mode:=2) (back:=back) (b:=sub (msg.drop f) 0 s) (ch:=ch) (c:=s) rfl lq (by omega) (.inr ⟨rfl,rfl⟩) h5 (Nat.mod_self s)
  have htk:msg.take (f+s)=msg.take f++sub (msg.drop f) 0 s:=by rw[List.take_add];rfl
  have ltk:(msg.take f).length=f:=by rw[Zs];omega
  have hfs:f%s=0:=by rw[h1];exact Nat.mul_mod_right _ _
  have hnx:=moStep_app (E:=cF t key false) (D:=cF t key true) (n:=s) (mode:=2) (back:=back) (s:=⟨iv,[],[]⟩) (a:=msg.take f) (b:=sub (msg.drop f) 0 s) (by omega) (by rw[ltk];exact hfs) (by rw[lq];exact Nat.mod_self s)
  rw[←htk,h3]at hnx
  dsimp only at hnx
  rw[moStep2 (ch:=ch) (p:=sub (msg.drop f) 0 s),lq]at hnx
  have hbl:=moBlks_ok (mode:=2) (back:=back) (b:=sub (msg.drop f) 0 s) hci (.inr rfl) (.inr h5) (s/s) (by rw[Nat.div_self (by omega),Zj,lq];exact Zf _)
  obtain⟨b1,b2⟩:=hbl
  rw[show s*(s/s)=s by rw[Nat.div_self (by omega),Zj]]at b1
  have b2:=b2.resolve_left (by decide)
  generalize moBlks (cF t key false) (cF t key true) 2 back s (sub (msg.drop f) 0 s) ch (s/s)=y at*
  obtain⟨o1,ch1⟩:=y
  dsimp only at T0 hnx b1 b2
  have hsl:sub (bv (msg.drop f)) s (m-f-s)=bv (msg.drop (f+s)):=by rw[bv_dropN ld (by omega),Ja]
  have hLn:(if back then sub (msg.drop f) 0 s else o1)=(if f+s=0 then iv else if back then sub msg (f+s-s) s else (o++o1).drop (f+s-s)):=by
   rw[if_neg (show ¬f+s=0 by omega),Z9]
   cases back
   ·simp only[Bool.false_eq_true,if_false]
    rw[List.drop_append_of_le_length (show f≤o.length by omega),List.drop_of_length_le (show o.length≤f by omega),Zn]
   ·simp only[if_true];rfl
  refine⟨by omega,by omega,by omega,by omega,?_⟩
  refine⟨[.k 1,.k 2],_,_,_,_,T0,?_,rfl,?_⟩
  ·show[V.p (.k 0) 0,V.z (((s:Nat):Int).toNat) (sub (bv (msg.drop f)) 0 (((s:Nat):Int).toNat))]=_
   rw[Zb,hvq]
  refine⟨_,rfl,?_⟩
  cases back
  ·refine⟨by first|omega|(rw [bv_len];omega),by omega,by rw[bv_len,h4];omega,?_⟩
   refine⟨by omega,by omega,by omega,by omega,?_⟩
   refine⟨(j+1,f+s,o++o1,ch1,o1),⟨by show f+s=s*(j+1);rw[Zv];omega,hfF,hnx,by show(o++o1).length=f+s;rw[Zc,h4,b1],b2,hLn,b1⟩,(by show F-(f+s)<F-f;omega),[.k 0,.k 1,.k 2,.d 55 0],⟨rfl,?_,rfl,rfl,rfl,rfl,rfl,trivial⟩,⟨_,rfl,rfl⟩,⟨_,rfl,rfl⟩,⟨_,rfl,rfl⟩,⟨_,rfl,q7s ?_⟩,trivial⟩
   ·show V.z (m-f-((s:Nat):Int).toNat) (sub (bv (msg.drop f)) ((s:Nat):Int).toNat (m-f-((s:Nat):Int).toNat))=V.z (m-(f+s)) _
    rw[Zb,hsl,Nat.sub_sub]
   ·show sub (bv o) 0 (f*1)++bv o1=_
    rw[Zj,bv_all h4,bv_app]
  ·refine⟨by omega,by omega,by omega,by omega,?_⟩
   refine⟨by first|omega|(rw [bv_len];omega),by omega,by rw[bv_len,h4];omega,?_⟩
   refine⟨by omega,by omega,by omega,by omega,?_⟩
   refine⟨(j+1,f+s,o++o1,ch1,sub (msg.drop f) 0 s),⟨by show f+s=s*(j+1);rw[Zv];omega,hfF,hnx,by show(o++o1).length=f+s;rw[Zc,h4,b1],b2,hLn,lq⟩,(by show F-(f+s)<F-f;omega),[.k 0,.k 1,.k 2,.d 55 0],⟨rfl,?_,rfl,rfl,rfl,?_,rfl,trivial⟩,⟨_,rfl,rfl⟩,⟨_,rfl,rfl⟩,⟨_,rfl,rfl⟩,⟨_,rfl,q7s ?_⟩,trivial⟩
   ·show V.z (m-f-((s:Nat):Int).toNat) (sub (bv (msg.drop f)) ((s:Nat):Int).toNat (m-f-((s:Nat):Int).toNat))=V.z (m-(f+s)) _
    rw[Zb,hsl,Nat.sub_sub]
   ·show V.z (((s:Nat):Int).toNat) (sub (bv (msg.drop f)) 0 (((s:Nat):Int).toNat))=_
    rw[Zb,hvq]
   ·show sub (bv o) 0 (f*1)++bv o1=_
    rw[Zj,bv_all h4,bv_app]
 ·rw[e2]at hle
  have hfF:f=F:=s2 (by omega)
  subst hfF
  rw[h3]
  have hL:shLast s back iv msg o=L:=by rw[hLast,h6]
  dsimp only
  rw[hL]
  have lT:=h.stT_len (mode:=mode) (back:=back) (last:=L) (b:=msg.drop f) h7 ld a2 a3
  have cT:=c_r13_tail h (mode:=mode) (back:=back) (vl:=bv L) (vb:=bv (msg.drop f)) (last:=L) (b:=msg.drop f) rfl rfl h7 ld hm a2 a3
  generalize stT (cF t key false) (cF t key true) s mode back L (msg.drop f)=TT at*
  refine⟨_,rfl,?_⟩
  refine⟨_,rfl,?_⟩
  refine⟨[],_,_,_,_,cT,rfl,rfl,?_⟩
  refine⟨by first|omega|(rw [bv_len];omega),by omega,by rw[bv_len,h4];omega,?_⟩
  have lc:(o++TT).length=m:=by rw[Zc];omega
  refine⟨_,rfl,[],congrArg (fun z=>V.t [z,i64 0]) ?_,trivial⟩
  show V.z (f+(m-f)) (sub (sub (bv o) 0 (f*1)++sub (bv TT) 0 ((m-f)*1)) 0 (f+(m-f)))=_
  rw[Zj,Zj,bv_all h4,bv_all lT,bv_app,show f+(m-f)=m by omega,bv_all lc]
theorem c_rshot_st {t key s k xs rs} (h:Ciph t key s k xs rs) {mode pad:Int} {back:Bool} {m:Nat} {vk vi vm:List Value} {iv msg:Bs} (hvk:vk=bv key) (hvi:vi=bv iv) (hvm:vm=bv msg) (ok:shOk s mode pad iv) (hmm:msg.length=m) (hmb:m≤100000) (hm:7≤mode) (hms:s≤m):
  Con C N.r15_Shot [cfgV t mode pad back,.z key.length vk,.z iv.length vi,.z m vm] [] (.ret (.t [.z m (bv (shSt (cF t key false) (cF t key true) s mode back iv msg).1),i64 0])) []:=by
 subst hvk;subst hvi;subst hvm
 obtain⟨o1,o2,o3,o4⟩:=ok
 have hi:iv.length=s:=by rw[o4,if_neg (by omega)]
 have cS:=c_rstolen h (pad:=pad) (back:=back) (vi:=bv iv) (vm:=bv msg) rfl rfl hi hmm hms hmb ⟨hm,o1.2⟩
 refine fd.r15_Shot.c ?_
 refine⟨[i64 t,i64 mode,i64 pad,bool back],rfl,rfl,?_⟩
 refine⟨[],_,_,_,_,c_rcheck_ok h rfl o1 o2 o3 o4,rfl,rfl,?_⟩
 refine⟨_,rfl,?_⟩
 refine⟨[],_,_,_,_,h.rnew,rfl,rfl,?_⟩
 refine⟨_,rfl,?_⟩
 refine spl_d (fun _=> ?_) (fun hh=>absurd hm hh)
 refine⟨[i64 t,i64 mode,i64 pad,bool back],rfl,rfl,?_⟩
 rw[hi]
 refine⟨[],_,_,_,_,cS,rfl,rfl,?_⟩
 exact⟨_,rfl,[],rfl,trivial⟩
theorem c_rshot_st_no {t key s k xs rs} (h:Ciph t key s k xs rs) {mode pad:Int} {back:Bool} {m:Nat} {vk vi vm:List Value} {iv:Bs} (hvk:vk=bv key) (ok:shOk s mode pad iv) (hm:7≤mode) (hms:m<s):
  Con C N.r15_Shot [cfgV t mode pad back,.z key.length vk,.z iv.length vi,.z m vm] [] (.ret (.t [nilv,i64 7])) []:=by
 subst hvk
 obtain⟨o1,o2,o3,o4⟩:=ok
 refine fd.r15_Shot.c ?_
 refine⟨[i64 t,i64 mode,i64 pad,bool back],rfl,rfl,?_⟩
 refine⟨[],_,_,_,_,c_rcheck_ok h rfl o1 o2 o3 o4,rfl,rfl,?_⟩
 refine⟨_,rfl,?_⟩
 refine⟨[],_,_,_,_,h.rnew,rfl,rfl,?_⟩
 refine⟨_,rfl,?_⟩
 refine spl_d (fun _=> ?_) (fun hh=>absurd hm hh)
 refine⟨[i64 t,i64 mode,i64 pad,bool back],rfl,rfl,?_⟩
 refine⟨[],_,_,_,_,c_rstolen_short h hms,rfl,rfl,?_⟩
 exact⟨_,rfl,[],rfl,trivial⟩
theorem c_rshot_none {t key s k xs rs} (h:Ciph t key s k xs rs) {mode:Int} {back:Bool} {m:Nat} {vk vi vm:List Value} {iv msg:Bs} (hvk:vk=bv key) (hvi:vi=bv iv) (hvm:vm=bv msg) (hi:iv.length=if mode=1 then 0 else s) (hmm:msg.length=m) (hmb:m≤100000) (hm:1≤mode∧mode≤6) (hg:m%moGrain s mode=0):
  Con C N.r15_Shot [cfgV t mode 4 back,.z key.length vk,.z iv.length vi,.z m vm] [] (.ret (.t [.z m (bv (moStep (cF t key false) (cF t key true) s mode back ⟨iv,[],[]⟩ msg).1),i64 0])) []:=by
 subst hvk;subst hvi;subst hvm
 have hs:=h.s_le
 have K0:MK s mode ⟨iv,[],[]⟩:=MK.new (by omega) (by
  by_cases h1:mode=1
  ·exact .inl h1
  ·rw[if_neg h1]at hi;exact .inr hi)
 have R0:RelD s mode (⟨iv,[],[]⟩,[],0):=RelD.new
 have T0:=c_rstep h (back:=back) (x:=(⟨iv,[],[]⟩,[],0)) (b:=msg) rfl hmm (by omega) K0 R0 hg (.inr rfl)
 generalize rdStep (cF t key false) (cF t key true) s mode back (⟨iv,[],[]⟩,[],0) msg=Y at*
 obtain⟨⟨c1,row1,g1⟩,R1,u1⟩:=Y
 dsimp only at T0
 refine fd.r15_Shot.c ?_
 refine⟨[i64 t,i64 mode,i64 4,bool back],rfl,rfl,?_⟩
 refine⟨[],_,_,_,_,c_rcheck_ok h rfl ⟨hm.1,by omega⟩ (by decide) (.inl rfl) hi,rfl,rfl,?_⟩
 refine⟨_,rfl,?_⟩
 refine⟨[],_,_,_,_,h.rnew,rfl,rfl,?_⟩
 refine⟨_,rfl,?_⟩
 refine spl_d (fun hh=>absurd hh (by omega)) (fun _=> ?_)
 refine⟨[],_,_,_,_,h.rsize,rfl,rfl,?_⟩
 refine⟨_,rfl,?_⟩
 refine⟨_,rfl,?_⟩
 refine⟨[],_,_,_,_,c_r12_new h (mode:=mode) (back:=back) (i:=1) (vi:=bv iv) (iv:=iv) rfl rfl hm hi,rfl,rfl,?_⟩
 refine⟨_,rfl,?_⟩
 rcases row1 with _|⟨a1,r1⟩
 all_goals
  refine⟨[.d 56 0,.d 56 1],_,_,_,_,T0,rfl,rfl,?_⟩
  exact⟨_,rfl,[],rfl,trivial⟩
theorem c_rshot_bad {t key s k xs rs} (h:Ciph t key s k xs rs) {mode:Int} {back:Bool} {m:Nat} {vk vi vm:List Value} {iv msg:Bs} (hvk:vk=bv key) (hvi:vi=bv iv) (hvm:vm=bv msg) (hi:iv.length=if mode=1 then 0 else s) (hmm:msg.length=m) (hmb:m≤100000) (hm:1≤mode∧mode≤6) (hg:m%moGrain s mode≠0):
  Con C N.r15_Shot [cfgV t mode 4 back,.z key.length vk,.z iv.length vi,.z m vm] [] (.ret (.t [nilv,i64 7])) []:=by
 subst hvk;subst hvi;subst hvm
 have hs:=h.s_le
 have K0:MK s mode ⟨iv,[],[]⟩:=MK.new (by omega) (by
  by_cases h1:mode=1
  ·exact .inl h1
  ·rw[if_neg h1]at hi;exact .inr hi)
 have R0:RelD s mode (⟨iv,[],[]⟩,[],0):=RelD.new
 have T0:=c_rstep_bad h (back:=back) (x:=(⟨iv,[],[]⟩,[],0)) (m:=m) (vb:=bv msg) K0 R0 hg
 refine fd.r15_Shot.c ?_
 refine⟨[i64 t,i64 mode,i64 4,bool back],rfl,rfl,?_⟩
 refine⟨[],_,_,_,_,c_rcheck_ok h rfl ⟨hm.1,by omega⟩ (by decide) (.inl rfl) hi,rfl,rfl,?_⟩
 refine⟨_,rfl,?_⟩
 refine⟨[],_,_,_,_,h.rnew,rfl,rfl,?_⟩
 refine⟨_,rfl,?_⟩
 refine spl_d (fun hh=>absurd hh (by omega)) (fun _=> ?_)
 refine⟨[],_,_,_,_,h.rsize,rfl,rfl,?_⟩
 refine⟨_,rfl,?_⟩
 refine⟨_,rfl,?_⟩
 refine⟨[],_,_,_,_,c_r12_new h (mode:=mode) (back:=back) (i:=1) (vi:=bv iv) (iv:=iv) rfl rfl hm hi,rfl,rfl,?_⟩
 refine⟨_,rfl,?_⟩
 refine⟨[.d 56 0,.d 56 1],_,_,_,_,T0,rfl,rfl,?_⟩
 exact⟨_,rfl,[],rfl,trivial⟩
theorem c_rshot_pad {t key s k xs rs} (h:Ciph t key s k xs rs) {mode pad:Int} {m:Nat} {vk vi vm:List Value} {iv msg:Bs} (hvk:vk=bv key) (hvi:vi=bv iv) (hvm:vm=bv msg) (hi:iv.length=if mode=1 then 0 else s) (hmm:msg.length=m) (hmb:m≤100000) (hm:1≤mode∧mode≤2) (hp:pad=1∨pad=2∨pad=3):
  Con C N.r15_Shot [cfgV t mode pad false,.z key.length vk,.z iv.length vi,.z m vm] [] (.ret (.t [.z (m/s*s+s) (bv (moStep (cF t key false) (cF t key true) s mode false ⟨iv,[],[]⟩ (padUp pad s msg)).1),i64 0])) []:=by
 subst hvk;subst hvi;subst hvm
 have hs:=h.s_le
 have K0:MK s mode ⟨iv,[],[]⟩:=MK.new (by omega) (by
  by_cases h1:mode=1
  ·exact .inl h1
  ·rw[if_neg h1]at hi;exact .inr hi)
 have R0:RelD s mode (⟨iv,[],[]⟩,[],0):=RelD.new
 have hs8:s=8∨s=16:=h.s_two
 have e1:I6.wrap (I6.wrap ((m:Int).tdiv (s:Int))*(s:Int))=((m/s*s:Nat):Int):=i64_quomul (by omega)
 obtain⟨a,ha⟩:∃a,a=m-m%s:=⟨_,rfl⟩
 have hml:=Nat.mod_lt m (show 0<s by omega)
 have hmle:=Nat.mod_le m s
 have hdm:=Zo m s
 have ham:m/s*s=a:=by rw[Nat.mul_comm]at hdm;omega
 have lT:(msg.drop a).length=m%s:=by rw[Ze];omega
 have lA:(sub msg 0 a).length=a:=by rw[sub_length];omega
 have hvA:sub (bv msg) 0 a=bv (sub msg 0 a):=bv_sub _ _ _
 have hvT:sub (bv msg) a (m-a)=bv (msg.drop a):=bv_dropN hmm (by omega)
 have hma:m-a=m%s:=by omega
 have hPU:padUp pad s msg=sub msg 0 a++pdAdd pad s (msg.drop a):=by unfold padUp;rw[hmm,←ha];rfl
 have lP:=pdAdd_len (kind:=pad) (tail:=msg.drop a) (size:=s) (by omega)
 have lU:(padUp pad s msg).length=a+s:=by rw[hPU,Zc,lA,lP]
 have hg:(a+s)%moGrain s mode=0:=by
  unfold moGrain
  rw[if_pos (by omega),←ham,Nat.add_mod_right,Nat.mul_mod_left]
 have cP:=c_r14_add (kind:=pad) (s:=s) (vt:=bv (msg.drop a)) hp hs8 rfl lT hml
 have T0:=c_rstep h (back:=false) (x:=(⟨iv,[],[]⟩,[],0)) (b:=padUp pad s msg) rfl lU (by omega) K0 R0 hg (.inr rfl)
 rw[ham]at e1 ⊢
 generalize rdStep (cF t key false) (cF t key true) s mode false (⟨iv,[],[]⟩,[],0) (padUp pad s msg)=Y at*
 obtain⟨⟨c1,row1,g1⟩,R1,u1⟩:=Y
 dsimp only at T0
 generalize (moStep (cF t key false) (cF t key true) s mode false ⟨iv,[],[]⟩ (padUp pad s msg)).1=OO at*
 generalize padUp pad s msg=U at*
 generalize pdAdd pad s (msg.drop a)=PA at*
 refine fd.r15_Shot.c ?_
 refine⟨[i64 t,i64 mode,i64 pad,bool false],rfl,rfl,?_⟩
 refine⟨[],_,_,_,_,c_rcheck_ok h rfl ⟨hm.1,by omega⟩ (by omega) (.inr hm.2) hi,rfl,rfl,?_⟩
 refine⟨_,rfl,?_⟩
 refine⟨[],_,_,_,_,h.rnew,rfl,rfl,?_⟩
 refine⟨_,rfl,?_⟩
 refine spl_d (fun hh=>absurd hh (by omega)) (fun _=> ?_)
 refine⟨[],_,_,_,_,h.rsize,rfl,rfl,?_⟩
 refine⟨_,rfl,?_⟩
 refine⟨_,rfl,?_⟩
 refine⟨[],_,_,_,_,c_r12_new h (mode:=mode) (back:=false) (i:=1) (vi:=bv iv) (iv:=iv) rfl rfl ⟨hm.1,by omega⟩ hi,rfl,rfl,?_⟩
 refine⟨_,rfl,?_⟩
 refine spl_eq (fun h4=>absurd h4 (by omega)) (fun _=> ?_)
 refine⟨_,rfl,?_⟩
 refine⟨by omega,?_⟩
 refine⟨_,rfl,?_⟩
 refine⟨by rw[e1];omega,by rw[e1];omega,by first|omega|(rw [e1];omega),by first|omega|(rw [e1];omega),?_⟩
 refine⟨[],_,_,_,_,cP,?_,rfl,?_⟩
 ·rw[e1]
  show[i64 pad,i64 s,V.z (m-((a:Nat):Int).toNat) (sub (bv msg) ((a:Nat):Int).toNat (m-((a:Nat):Int).toNat))]=_
  rw[Zb,hvT,hma]
 refine⟨by rw[e1];omega,by rw[e1];omega,by first|omega|(rw [e1];omega),by first|omega|(rw [e1];omega),?_⟩
 refine⟨by rw[e1,Zb,Zy,hvA,bv_len,lA],by rw[e1];omega,by decide,?_⟩
 refine⟨by first|omega|(rw [bv_len];omega),by rw[e1];omega,by rw[e1,Zb,Zy,hvA];show 0+(0+a)*1≤(bv (sub msg 0 a)).length;rw[bv_len,lA];omega,?_⟩
 rcases row1 with _|⟨a1,r1⟩
 all_goals
  refine⟨[.d 56 0,.d 56 1],_,_,_,_,T0,?_,rfl,?_⟩
  ·rw[e1]
   show[V.p (.k 0) 0,V.z (0+(((a:Nat):Int).toNat-0)+s) (sub (sub (sub (bv msg) 0 (((a:Nat):Int).toNat-0)) 0 ((0+(((a:Nat):Int).toNat-0))*1)++sub (bv PA) 0 (s*1)) 0 (0+(((a:Nat):Int).toNat-0)+s))]=_
   rw[Zb,Zy,Zk,Zj,Zj,hvA,bv_all lA,bv_all lP,bv_app,←hPU,bv_all lU]
  exact⟨_,rfl,[],rfl,trivial⟩
theorem c_rshot_b0 {t key s k xs rs} (h:Ciph t key s k xs rs) {mode pad:Int} {m:Nat} {vk vi vm:List Value} {iv msg:Bs} (hvk:vk=bv key) (hvi:vi=bv iv) (hvm:vm=bv msg) (hi:iv.length=if mode=1 then 0 else s) (hmm:msg.length=m) (hmb:m≤100000) (hm:1≤mode∧mode≤2) (hp:pad=1∨pad=2∨pad=3) (h0:m=0∨m%s≠0):
  Con C N.r15_Shot [cfgV t mode pad true,.z key.length vk,.z iv.length vi,.z m vm] [] (.ret (.t [nilv,i64 7])) []:=by
 subst hvk;subst hvi;subst hvm
 have hs:=h.s_le
 have em:((m:Int).tmod (s:Int))=((m%s:Nat):Int):=by rw[Zi (by omega)];rfl
 refine fd.r15_Shot.c ?_
 refine⟨[i64 t,i64 mode,i64 pad,bool true],rfl,rfl,?_⟩
 refine⟨[],_,_,_,_,c_rcheck_ok h rfl ⟨hm.1,by omega⟩ (by omega) (.inr hm.2) hi,rfl,rfl,?_⟩
 refine⟨_,rfl,?_⟩
 refine⟨[],_,_,_,_,h.rnew,rfl,rfl,?_⟩
 refine⟨_,rfl,?_⟩
 refine spl_d (fun hh=>absurd hh (by omega)) (fun _=> ?_)
 refine⟨[],_,_,_,_,h.rsize,rfl,rfl,?_⟩
 refine⟨_,rfl,?_⟩
 refine⟨_,rfl,?_⟩
 refine⟨[],_,_,_,_,c_r12_new h (mode:=mode) (back:=true) (i:=1) (vi:=bv iv) (iv:=iv) rfl rfl ⟨hm.1,by omega⟩ hi,rfl,rfl,?_⟩
 refine⟨_,rfl,?_⟩
 refine spl_eq (fun h4=>absurd h4 (by omega)) (fun _=> ?_)
 refine⟨_,rfl,?_⟩
 refine spl_eq (fun hz=> ?_) (fun hz=> ?_)
 ·exact⟨_,rfl,[],rfl,trivial⟩
 ·refine⟨by omega,?_⟩
  refine spl_ne (fun _=> ?_) (fun hh=>absurd hh (by rw[em];omega))
  exact⟨_,rfl,[],rfl,trivial⟩
theorem c_rshot_b8 {t key s k xs rs} (h:Ciph t key s k xs rs) {mode pad:Int} {m:Nat} {vk vi vm:List Value} {iv msg:Bs} (hvk:vk=bv key) (hvi:vi=bv iv) (hvm:vm=bv msg) (hi:iv.length=if mode=1 then 0 else s) (hmm:msg.length=m) (hmb:m≤100000) (hm:1≤mode∧mode≤2) (hp:pad=1∨pad=2∨pad=3) (h0:0<m) (hz:m%s=0) (hL:pdLong pad ((moBlks (cF t key false) (cF t key true) mode true s msg iv (m/s)).1.drop (m-s))=0):
  Con C N.r15_Shot [cfgV t mode pad true,.z key.length vk,.z iv.length vi,.z m vm] [] (.ret (.t [nilv,i64 8])) []:=by
 subst hvk;subst hvi;subst hvm
 have hs:=h.s_le
 have em:((m:Int).tmod (s:Int))=((m%s:Nat):Int):=by rw[Zi (by omega)];rfl
 have hs8:s=8∨s=16:=h.s_two
 have hci:=h.ci
 have hsm:s≤m:=Nat.le_of_dvd (by omega) (Z4 hz)
 have hdm:=Zo m s
 have hc:mode=1∨mode=2∧iv.length=s:=by
  by_cases h1:mode=1
  ·exact .inl h1
  ·rw[if_neg h1]at hi;exact .inr ⟨by omega,hi⟩
 have lo:(moBlks (cF t key false) (cF t key true) mode true s msg iv (m/s)).1.length=m:=by
  rw[(moBlks_ok hci (by omega) (by omega) (m/s) (by omega)).1];omega
 have T0:=c_rstep_blk_own h (mode:=mode) (back:=true) (b:=msg) (ch:=iv) (c:=iv.length) (vb:=bv msg) rfl hmm (by omega) hc rfl hz
 generalize moBlks (cF t key false) (cF t key true) mode true s msg iv (m/s)=S0 at*
 obtain⟨o,c1⟩:=S0
 dsimp only at T0 lo hL ⊢
 have lD:(o.drop (m-s)).length=s:=by rw[Ze,lo];omega
 have e1:I6.wrap ((m:Int)-(s:Int))=((m-s:Nat):Int):=by rw[Zd _ (by omega)];omega
 have hvD:sub (bv o) (m-s) s=bv (o.drop (m-s)):=by
  have:=bv_dropN lo (show m-s≤m by omega)
  rwa [show m-(m-s)=s by omega]at this
 have cS:=c_r14_strip_no (vb:=bv (o.drop (m-s))) rfl hp hs8 lD hL
 refine fd.r15_Shot.c ?_
 refine⟨[i64 t,i64 mode,i64 pad,bool true],rfl,rfl,?_⟩
 refine⟨[],_,_,_,_,c_rcheck_ok h rfl ⟨hm.1,by omega⟩ (by omega) (.inr hm.2) hi,rfl,rfl,?_⟩
 refine⟨_,rfl,?_⟩
 refine⟨[],_,_,_,_,h.rnew,rfl,rfl,?_⟩
 refine⟨_,rfl,?_⟩
 refine spl_d (fun hh=>absurd hh (by omega)) (fun _=> ?_)
 refine⟨[],_,_,_,_,h.rsize,rfl,rfl,?_⟩
 refine⟨_,rfl,?_⟩
 refine⟨_,rfl,?_⟩
 refine⟨[],_,_,_,_,c_r12_new h (mode:=mode) (back:=true) (i:=1) (vi:=bv iv) (iv:=iv) rfl rfl ⟨hm.1,by omega⟩ hi,rfl,rfl,?_⟩
 refine⟨_,rfl,?_⟩
 refine spl_eq (fun h4=>absurd h4 (by omega)) (fun _=> ?_)
 refine⟨_,rfl,?_⟩
 refine spl_eq (fun h4=>absurd h4 (by omega)) (fun _=> ?_)
 refine⟨by omega,?_⟩
 refine spl_ne (fun hh=>absurd (by rw[em,hz];rfl) hh) (fun _=> ?_)
 refine⟨[.d 56 0,.d 56 1],_,_,_,_,T0,rfl,rfl,?_⟩
 refine⟨_,rfl,?_⟩
 refine⟨by rw[e1];omega,by rw[e1];omega,by first|omega|(rw [e1];omega),by first|omega|(rw [e1];omega),?_⟩
 refine⟨[],_,_,_,_,cS,?_,rfl,?_⟩
 ·rw[e1]
  show[i64 pad,i64 s,V.z (m-((m-s:Nat):Int).toNat) (sub (bv o) (0+((m-s:Nat):Int).toNat*1) (m-((m-s:Nat):Int).toNat))]=_
  rw[Zb,Zj,Zk,show m-(m-s)=s by omega,hvD]
 exact⟨_,rfl,[],rfl,trivial⟩
theorem c_rshot_bk {t key s k xs rs} (h:Ciph t key s k xs rs) {mode pad:Int} {m:Nat} {vk vi vm:List Value} {iv msg:Bs} (hvk:vk=bv key) (hvi:vi=bv iv) (hvm:vm=bv msg) (hi:iv.length=if mode=1 then 0 else s) (hmm:msg.length=m) (hmb:m≤100000) (hm:1≤mode∧mode≤2) (hp:pad=1∨pad=2∨pad=3) (h0:0<m) (hz:m%s=0) (hL:pdLong pad ((moBlks (cF t key false) (cF t key true) mode true s msg iv (m/s)).1.drop (m-s))≠0):
  Con C N.r15_Shot [cfgV t mode pad true,.z key.length vk,.z iv.length vi,.z m vm] [] (.ret (.t [.z (m-pdLong pad ((moBlks (cF t key false) (cF t key true) mode true s msg iv (m/s)).1.drop (m-s))) (bv ((moBlks (cF t key false) (cF t key true) mode true s msg iv (m/s)).1.take (m-s)++pdStrip pad ((moBlks (cF t key false) (cF t key true) mode true s msg iv (m/s)).1.drop (m-s)))),i64 0])) []:=by
 subst hvk;subst hvi;subst hvm
 have hs:=h.s_le
 have em:((m:Int).tmod (s:Int))=((m%s:Nat):Int):=by rw[Zi (by omega)];rfl
 have hs8:s=8∨s=16:=h.s_two
 have hci:=h.ci
 have hsm:s≤m:=Nat.le_of_dvd (by omega) (Z4 hz)
 have hdm:=Zo m s
 have hc:mode=1∨mode=2∧iv.length=s:=by
  by_cases h1:mode=1
  ·exact .inl h1
  ·rw[if_neg h1]at hi;exact .inr ⟨by omega,hi⟩
 have lo:(moBlks (cF t key false) (cF t key true) mode true s msg iv (m/s)).1.length=m:=by
  rw[(moBlks_ok hci (by omega) (by omega) (m/s) (by omega)).1];omega
 have T0:=c_rstep_blk_own h (mode:=mode) (back:=true) (b:=msg) (ch:=iv) (c:=iv.length) (vb:=bv msg) rfl hmm (by omega) hc rfl hz
 generalize moBlks (cF t key false) (cF t key true) mode true s msg iv (m/s)=S0 at*
 obtain⟨o,c1⟩:=S0
 dsimp only at T0 lo hL ⊢
 have lD:(o.drop (m-s)).length=s:=by rw[Ze,lo];omega
 have e1:I6.wrap ((m:Int)-(s:Int))=((m-s:Nat):Int):=by rw[Zd _ (by omega)];omega
 have hvD:sub (bv o) (m-s) s=bv (o.drop (m-s)):=by
  have:=bv_dropN lo (show m-s≤m by omega)
  rwa [show m-(m-s)=s by omega]at this
 have cS:=c_r14_strip_own (vb:=bv (o.drop (m-s))) rfl hp hs8 lD hL
 have hle:=pdLong_le pad (o.drop (m-s))
 rw[lD]at hle
 have lSt:(pdStrip pad (o.drop (m-s))).length=s-pdLong pad (o.drop (m-s)):=by unfold pdStrip;rw[Zs,lD];omega
 have lTk:(o.take (m-s)).length=m-s:=by rw[Zs,lo];omega
 have hvT:sub (bv o) 0 (m-s)=bv (o.take (m-s)):=bv_sub _ _ _
 generalize pdStrip pad (o.drop (m-s))=ST at*
 generalize pdLong pad (o.drop (m-s))=c at*
 generalize o.take (m-s)=TK at*
 have lc:(TK++ST).length=m-c:=by rw[Zc];omega
 refine fd.r15_Shot.c ?_
 refine⟨[i64 t,i64 mode,i64 pad,bool true],rfl,rfl,?_⟩
 refine⟨[],_,_,_,_,c_rcheck_ok h rfl ⟨hm.1,by omega⟩ (by omega) (.inr hm.2) hi,rfl,rfl,?_⟩
 refine⟨_,rfl,?_⟩
 refine⟨[],_,_,_,_,h.rnew,rfl,rfl,?_⟩
 refine⟨_,rfl,?_⟩
 refine spl_d (fun hh=>absurd hh (by omega)) (fun _=> ?_)
 refine⟨[],_,_,_,_,h.rsize,rfl,rfl,?_⟩
 refine⟨_,rfl,?_⟩
 refine⟨_,rfl,?_⟩
 refine⟨[],_,_,_,_,c_r12_new h (mode:=mode) (back:=true) (i:=1) (vi:=bv iv) (iv:=iv) rfl rfl ⟨hm.1,by omega⟩ hi,rfl,rfl,?_⟩
 refine⟨_,rfl,?_⟩
 refine spl_eq (fun h4=>absurd h4 (by omega)) (fun _=> ?_)
 refine⟨_,rfl,?_⟩
 refine spl_eq (fun h4=>absurd h4 (by omega)) (fun _=> ?_)
 refine⟨by omega,?_⟩
 refine spl_ne (fun hh=>absurd (by rw[em,hz];rfl) hh) (fun _=> ?_)
 refine⟨[.d 56 0,.d 56 1],_,_,_,_,T0,rfl,rfl,?_⟩
 refine⟨_,rfl,?_⟩
 refine⟨by rw[e1];omega,by rw[e1];omega,by first|omega|(rw [e1];omega),by first|omega|(rw [e1];omega),?_⟩
 refine⟨[],_,_,_,_,cS,?_,rfl,?_⟩
 ·rw[e1]
  show[i64 pad,i64 s,V.z (m-((m-s:Nat):Int).toNat) (sub (bv o) (0+((m-s:Nat):Int).toNat*1) (m-((m-s:Nat):Int).toNat))]=_
  rw[Zb,Zj,Zk,show m-(m-s)=s by omega,hvD]
 refine⟨by rw[e1];omega,by rw[e1];omega,by first|omega|(rw [e1];omega),by first|omega|(rw [e1];omega),?_⟩
 refine⟨by first|omega|(rw [bv_len];omega),by rw[e1,Zb];omega,by rw[e1,Zb,bv_len,lo];omega,?_⟩
 refine⟨_,rfl,[],congrArg (fun z=>V.t [z,i64 0]) ?_,trivial⟩
 rw[e1,Zb]
 show V.z (m-s-0+(s-c)) (sub (sub (bv o) 0 ((m-s-0)*1)++sub (bv ST) 0 ((s-c)*1)) 0 (m-s-0+(s-c)))=_
 rw[Zy,Zj,Zj,hvT,bv_all lSt,bv_app,show m-s+(s-c)=m-c by omega,bv_all lc]
theorem Con.out {f:FuncId} {args:List V} {r r':V} (hc:Con C f args [] (.ret r) []) (h:Wk r r'):Con C f args [] (.ret r') []:=
 ⟨hc.1,fun w F ι vs a b c d=>(hc.2 w F ι vs a b c d).mono fun e w' ⟨F',ι',h1,h2,h3,h4,h5,hoc⟩=>⟨F',ι',h1,h2,h3,h4,h5,WkO.oc (.ret h) hoc⟩⟩
abbrev shV (r:Bs×Int):V:= .t [.z r.1.length (bv r.1),i64 r.2]
theorem out_ok {f args} {r:Bs×Int} {l:Nat} {o:Bs} (e:r=(o,0)) (hl:o.length=l) (P:Con C f args [] (.ret (.t [.z l (bv o),i64 0])) []):Con C f args [] (.ret (shV r)) []:=by
 subst e;subst hl;exact P
theorem out_no {f args} {r:Bs×Int} {e:Int} (h:r=([],e)) (P:Con C f args [] (.ret (.t [nilv,i64 e])) []):Con C f args [] (.ret (shV r)) []:=by
 subst h;exact P.out (.t (.cons .nl (.cons (.refl _) .nil)))
theorem shot_cases (t:Int) {key:Bs} {lk:Nat} (hk:key.length=lk) (hlk:lk≤1000) (mode pad:Int) (back:Bool) {iv:Bs} {li:Nat} (hi:iv.length=li):
  (shErr t mode pad (cSize t).toNat lk li=0∧∃s k xs rs,Ciph t key s k xs rs∧shOk s mode pad iv)∨
  (shErr t mode pad (cSize t).toNat lk li≠0∧Con C N.shot_open [cfgV t mode pad back,.z lk (bv key),.z li (bv iv)] [] (.ret (.t [nilp,i64 (shErr t mode pad (cSize t).toNat lk li)])) []∧
   Con C N.r15_Check [cfgV t mode pad back,.z lk (bv key),.z li (bv iv)] [] (.ret (i64 (shErr t mode pad (cSize t).toNat lk li))) []):=by
 subst hk;subst hi
 by_cases ht:okTag t
 ·by_cases hv:(key.length:Int)∈cLens t
  ·obtain⟨s,k,xs,rs,h⟩:=ciph_ok (key:=key) ht hv
   have hs:(cSize t).toNat=s:=by rw[h.hs,Zb]
   rw[hs]
   by_cases hmp:(1≤mode∧mode≤9)∧(1≤pad∧pad≤4)∧(pad=4∨mode≤2)
   ·by_cases hli:iv.length=if mode=1 then 0 else s
    ·left
     refine⟨?_,s,k,xs,rs,h,hmp.1,hmp.2.1,hmp.2.2,hli⟩
     unfold shErr
     rw[if_neg (by exact fun x=>x ht),if_neg (by exact fun x=>x hv),if_neg (by exact fun x=>x hmp),if_neg (by exact fun x=>x hli)]
    ·right
     have e:shErr t mode pad s key.length iv.length=5:=by
      unfold shErr
      rw[if_neg (by exact fun x=>x ht),if_neg (by exact fun x=>x hv),if_neg (by exact fun x=>x hmp),if_pos hli]
     rw[e]
     exact⟨by decide,c_open_iv h rfl hmp.1 hmp.2.1 hmp.2.2 hli,c_rcheck_iv h rfl hmp.1 hmp.2.1 hmp.2.2 hli⟩
   ·right
    have e:shErr t mode pad s key.length iv.length=3:=by
     unfold shErr
     rw[if_neg (by exact fun x=>x ht),if_neg (by exact fun x=>x hv),if_pos hmp]
    rw[e]
    exact⟨by decide,c_open_mode h rfl hmp,c_rcheck_mode h rfl hmp⟩
  ·right
   have e:shErr t mode pad (cSize t).toNat key.length iv.length=4:=by
    unfold shErr
    rw[if_neg (by exact fun x=>x ht),if_pos hv]
   rw[e]
   exact⟨by decide,c_open_new (c_new_badkey ht (by omega) hv) (by decide),c_rcheck_new (c_r11_new_badkey ht hv) (by decide)⟩
 ·right
  have e:shErr t mode pad (cSize t).toNat key.length iv.length=2:=by
   unfold shErr
   rw[if_pos ht]
  rw[e]
  exact⟨by decide,c_open_new (c_new_badtag ht) (by decide),c_rcheck_new (c_r11_new_badtag ht) (by decide)⟩
theorem c_w15 {a n:Int} (hn:0<n) (hn2:n≤4611686018427387904) (ha: -9223372036854775808≤a∧a≤9223372036854775807):Con C N.law15_within [i64 a,i64 n] [] (.ret (i64 (a%n))) []:=by
 refine fd.law15_within.c ?_
 have h1: -n<a.tmod n:=Int.lt_tmod_of_pos a hn
 have h2:a.tmod n<n:=Int.tmod_lt_of_pos a hn
 refine⟨by omega,?_⟩
 refine spl_d (fun h=> ?_) (fun h=> ?_)
 ·refine⟨_,rfl,[],q7i ?_,trivial⟩
  rw[Zd _ (by omega)]
  rw[←rest_eq a n hn,Zi (a:=a.tmod n+n) (by omega),Z5 (by omega) (by omega)]
 ·refine⟨_,rfl,[],q7i ?_,trivial⟩
  rw[←rest_eq a n hn,Zi (a:=a.tmod n+n) (by omega),Int.add_emod_right,Z5 (by omega) (by omega)]
abbrev askV (tag n mode pad:Int) (back:Bool) (lk:Nat) (k:Bs) (li:Nat) (iv:Bs):V:= .a [i64 tag,i64 n,i64 mode,i64 pad,bool back,.z lk (bv k),.z li (bv iv)]
abbrev In64 (a:Int):Prop:= -9223372036854775808≤a∧a≤9223372036854775807
theorem c_few_y {tag n mode pad:Int} {back:Bool} {lk li:Nat} {k iv:Bs} (h:lk≤100∧li≤100):Con C N.law15_Ask_Few [askV tag n mode pad back lk k li iv] [] (.ret (bool true)) []:=by
 refine fd.law15_Ask_Few.c ?_
 refine⟨_,rfl,?_⟩
 refine spl_d (fun _=> ?_) (fun hh=>absurd hh (by omega))
 refine⟨_,rfl,?_⟩
 exact⟨_,rfl,[],congrArg bool (decide_eq_true (by omega)),trivial⟩
theorem c_few_n {tag n mode pad:Int} {back:Bool} {lk li:Nat} {k iv:Bs} (h:¬(lk≤100∧li≤100)):Con C N.law15_Ask_Few [askV tag n mode pad back lk k li iv] [] (.ret (bool false)) []:=by
 refine fd.law15_Ask_Few.c ?_
 refine⟨_,rfl,?_⟩
 refine spl_d (fun _=> ?_) (fun hh=> ?_)
 ·refine⟨_,rfl,?_⟩
  exact⟨_,rfl,[],congrArg bool (decide_eq_false (by omega)),trivial⟩
 ·exact⟨_,rfl,[],rfl,trivial⟩
def akMode (mode:Int):Int:=1+mode%9
def akPad (mode pad:Int):Int:=if akMode mode≤2 then 1+pad%4 else 4
theorem akMode_in (mode:Int):1≤akMode mode∧akMode mode≤9:=by unfold akMode;omega
theorem akPad_in (mode pad:Int):(1≤akPad mode pad∧akPad mode pad≤4)∧(akPad mode pad=4∨akMode mode≤2):=by
 unfold akPad
 split
 ·omega
 ·exact⟨by decide,.inl rfl⟩
theorem ak_ok (mode pad:Int) (s:Nat) (iv:Bs):shOk s (akMode mode) (akPad mode pad) (ivL (akMode mode) s iv):=
 ⟨akMode_in _,(akPad_in mode pad).1,(akPad_in mode pad).2,ivL_len _ _ _⟩
theorem c_askmake {tag n mode pad:Int} {back:Bool} {lk li s:Nat} {k iv:Bs} (h0:In64 tag) (h1:In64 n) (h2:In64 mode) (h3:In64 pad) (hk:k.length=lk) (hi:iv.length=li) (hs:cSize (tagOf tag)=s) (hs2:s≤16):
  Con C N.law15_Ask_Make [askV tag n mode pad back lk k li iv] [] (.ret (.t [cfgV (tagOf tag) (akMode mode) (akPad mode pad) back,.z (kLen (tagOf tag) n) (bv (keyOf (tagOf tag) n k)),.z (ivN (akMode mode) s) (bv (ivL (akMode mode) s iv))])) []:=by
 have e1:I6.wrap (1+mode%9)=akMode mode:=by rw[Zd _ (by omega)];rfl
 have e2:I6.wrap (1+pad%4)=1+pad%4:=by rw[Zd _ (by omega)]
 have hR:Con C N.r11_Size [i64 (tagOf tag)] [] (.ret (i64 s)) []:=by rw[←hs];exact c_r11_size (tagOf_ok _)
 refine fd.law15_Ask_Make.c ?_
 refine⟨_,rfl,?_⟩
 refine⟨[],_,_,_,_,c_tag h0,rfl,rfl,?_⟩
 refine⟨_,rfl,?_⟩
 refine⟨[],_,_,_,_,c_w15 (a:=mode) (n:=9) (by omega) (by omega) h2,rfl,rfl,?_⟩
 refine⟨_,rfl,?_⟩
 refine⟨Za rfl,?_⟩
 refine⟨_,rfl,?_⟩
 have hL:∀{vk:List Value},vk=bv k→Con C N.law11_Key [i64 (tagOf tag),i64 n,.z lk vk] [] (.ret (.z (kLen (tagOf tag) n) (bv (keyOf (tagOf tag) n k)))) []:=fun e=>c_keyF (tagOf_ok _) h1 e hk
 have hI:=c_iv (mode:=akMode mode) (s:=s) (vb:=bv iv) rfl hi (by omega)
 refine spl_d (fun hm=> ?_) (fun hm=> ?_)
 ·rw[e1]at hm
  refine⟨_,rfl,?_⟩
  refine⟨[],_,_,_,_,c_w15 (a:=pad) (n:=4) (by omega) (by omega) h3,rfl,rfl,?_⟩
  refine⟨Za rfl,?_⟩
  rw[e1,e2]
  have hp:akPad mode pad=1+pad%4:=if_pos hm
  rw[hp]
  refine⟨[i64 (tagOf tag),i64 (akMode mode),i64 (1+pad%4),bool back],rfl,rfl,?_⟩
  refine⟨_,rfl,?_⟩
  refine⟨_,rfl,?_⟩
  refine⟨[],_,_,_,_,hL rfl,rfl,rfl,?_⟩
  refine⟨_,rfl,?_⟩
  refine⟨[],_,_,_,_,hR,rfl,rfl,?_⟩
  refine⟨_,rfl,?_⟩
  refine⟨[],_,_,_,_,hI,rfl,rfl,?_⟩
  refine⟨Za rfl,?_⟩
  refine⟨[i64 (tagOf tag),i64 (akMode mode),i64 (1+pad%4),bool back],rfl,rfl,?_⟩
  exact⟨_,rfl,[],rfl,trivial⟩
 ·rw[e1]at hm
  rw[e1]
  have hp:akPad mode pad=4:=if_neg hm
  rw[hp]
  refine⟨[i64 (tagOf tag),i64 (akMode mode),i64 4,bool back],rfl,rfl,?_⟩
  refine⟨_,rfl,?_⟩
  refine⟨_,rfl,?_⟩
  refine⟨[],_,_,_,_,hL rfl,rfl,rfl,?_⟩
  refine⟨_,rfl,?_⟩
  refine⟨[],_,_,_,_,hR,rfl,rfl,?_⟩
  refine⟨_,rfl,?_⟩
  refine⟨[],_,_,_,_,hI,rfl,rfl,?_⟩
  refine⟨Za rfl,?_⟩
  refine⟨[i64 (tagOf tag),i64 (akMode mode),i64 4,bool back],rfl,rfl,?_⟩
  exact⟨_,rfl,[],rfl,trivial⟩
def akLen (n:Int) (s l:Nat):Nat:=if 0<(n.tdiv 3)%3 then l/s*s else l
abbrev akMsg (n:Int) (s:Nat) (m:Bs):Bs:=m.take (akLen n s m.length)
theorem div_mul_wrap {l s:Nat} (hs:0<s) (hl:l≤1000):I6.wrap (I6.wrap ((l:Int).tdiv s)*s)=((l/s*s:Nat):Int):=by
 have h1:=Nat.div_le_self l s
 have h2:=Z8 l s
 have e:(l:Int).tdiv s=((l/s:Nat):Int):=by rw[Jb (by omega)];rfl
 rw[e]
 clear e
 generalize l/s=q at h1 h2 ⊢
 rw[Zd (q:Int) (by omega),←Int.natCast_mul,Zd _ (by omega)]
theorem c_size15 {tag n mode pad:Int} {back:Bool} {lk li s l:Nat} {k iv b:Bs} (h0:In64 tag) (h1:In64 n) (hs:cSize (tagOf tag)=s) (hs2:0<s∧s≤16) (hb:b.length=l) (hl:l≤1000):
  Con C N.law15_Ask_Size [askV tag n mode pad back lk k li iv,.z l (bv b)] [] (.ret (.z (akLen n s l) (bv (akMsg n s b)))) []:=by
 have hR:Con C N.r11_Size [i64 (tagOf tag)] [] (.ret (i64 s)) []:=by rw[←hs];exact c_r11_size (tagOf_ok _)
 have h3: -9223372036854775808≤n.tdiv 3∧n.tdiv 3≤9223372036854775807:=by
  have e:Int.sign 3=1:=rfl
  rw[Int.tdiv_eq_ediv,e];split<;>omega
 refine fd.law15_Ask_Size.c ?_
 refine⟨_,rfl,?_⟩
 refine⟨[],_,_,_,_,c_tag h0,rfl,rfl,?_⟩
 refine⟨[],_,_,_,_,hR,rfl,rfl,?_⟩
 refine⟨_,rfl,?_⟩
 have e3:I6.wrap (n.tdiv 3)=n.tdiv 3:=Zd _ (by omega)
 refine⟨by omega,?_⟩
 refine⟨[],_,_,_,_,c_w15 (a:=I6.wrap (n.tdiv 3)) (n:=3) (by omega) (by omega) (by rw[e3];exact h3),rfl,rfl,?_⟩
 rw[e3]
 refine spl_d (fun hm=> ?_) (fun hm=> ?_)
 ·have hq:l/s*s≤l:=Z8 _ _
  have hv:=div_mul_wrap (l:=l) (s:=s) (by omega) hl
  refine⟨by omega,?_⟩
  refine⟨by rw[hv];omega,by rw[hv];omega,by rw[hv];omega,by rw[hv];omega,?_⟩
  refine⟨_,rfl,[],?_,trivial⟩
  have e4:akLen n s l=l/s*s:=if_pos hm
  show V.z ((I6.wrap (I6.wrap ((l:Int).tdiv s)*s)).toNat-0) (sub (bv b) 0 ((I6.wrap (I6.wrap ((l:Int).tdiv s)*s)).toNat-0))=_
  rw[hv,e4,Zb,Zy,akMsg,hb,e4,bv_sub]
  rfl
 ·refine⟨_,rfl,[],?_,trivial⟩
  have e4:akLen n s l=l:=if_neg hm
  rw[akMsg,hb,e4,Zq (by omega)]
  rfl
theorem check_both (t:Int) {key:Bs} {lk:Nat} (hk:key.length=lk) (hlk:lk≤1000) (mode pad:Int) (back:Bool) {iv:Bs} {li:Nat} (hi:iv.length=li):
  Con C N.shot_Check [cfgV t mode pad back,.z lk (bv key),.z li (bv iv)] [] (.ret (i64 (shErr t mode pad (cSize t).toNat lk li))) []∧
  Con C N.r15_Check [cfgV t mode pad back,.z lk (bv key),.z li (bv iv)] [] (.ret (i64 (shErr t mode pad (cSize t).toNat lk li))) []:=by
 rcases shot_cases t hk hlk mode pad back hi with ⟨e,s,k,xs,rs,h,ok⟩|⟨he,P,Q⟩
 ·obtain⟨o1,o2,o3,o4⟩:=ok
  subst hk;subst hi
  have P:=c_open_ok h (back:=back) (vi:=bv iv) rfl o1 o2 o3 o4
  have Q:=c_rcheck_ok h (back:=back) (vi:=bv iv) rfl o1 o2 o3 o4
  rw[e]
  refine⟨?_,Q⟩
  refine fd.shot_Check.c ?_
  refine⟨[i64 t,i64 mode,i64 pad,bool back],rfl,rfl,?_⟩
  refine⟨[],_,_,_,_,P,rfl,rfl,?_⟩
  exact⟨_,rfl,[],rfl,trivial⟩
 ·refine⟨?_,Q⟩
  generalize shErr t mode pad (cSize t).toNat lk li=e at*
  refine fd.shot_Check.c ?_
  refine⟨[i64 t,i64 mode,i64 pad,bool back],rfl,rfl,?_⟩
  refine⟨[],_,_,_,_,P,rfl,rfl,?_⟩
  exact⟨_,rfl,[],rfl,trivial⟩
theorem caught_idle (x y:Value) (w:World):
  CallsD PP N.ctx_caught #[x,y] .returning w fun e u' w'=>e= .returned (.tuple #[])∧u'= .returning∧w'=w:=by
 refine callsD_of_wpS fd.ctx_caught.f rfl fun c₀ cs hu=> ?_
 apply wpS_seq
 apply wpS_region
 simp[wpOpsS,go_sem,recoverD,hu,Exit.thenS]
 refine wpS_of_wp ?_
 refine wp_block ?_
 refine wp_seq ?_
 refine wp_region ?_
 simp[wpOps,go_sem,Exit.then]
 refine .inl ?_
 refine wp_cond (t:=true) ?_ ?_
 ·simp[go_sem]
 simp only[if_true]
 refine wp_region ?_
 simp[wpOps,go_sem,Exit.then,bodyPostS,results]
 cases c₀
 simp_all
theorem caught_pan (p q:Addr) (n:Int) (w:World) (h1:(w.cell? p).isSome=true) (h2:w.frozen? p=false) (h3:((w.setCell p (.slice none 0 0)).cell? q).isSome=true) (h4:(w.setCell p (.slice none 0 0)).frozen? q=false):
  CallsD PP N.ctx_caught #[.pointer (some p),.pointer (some q)] (.panicking [{v:= .iface tRef (.int .i64 n),recovered:=false}]) w fun e u' w'=>
   e= .returned (.tuple #[])∧u'= .panicking [{v:= .iface tRef (.int .i64 n),recovered:=true}]∧w'=(w.setCell p (.slice none 0 0)).setCell q (.int .i64 n):=by
 obtain⟨x1,hx1⟩:=Jc.1 h1
 obtain⟨x2,hx2⟩:=Jc.1 h3
 have hta:∀(v:Value) (w:World),(Instr.typeAssert (.iface tRef v) tAny tRef true).run PP w= .ok (.tuple #[v,.bool true]) w:=fun v w=>by kernel_rfl
 refine callsD_of_wpS fd.ctx_caught.f rfl fun c₀ cs hu=> ?_
 apply wpS_seq
 apply wpS_region
 simp[wpOpsS,go_sem,recoverD,hu,Exit.thenS]
 refine wpS_of_wp ?_
 refine wp_block ?_
 refine wp_seq ?_
 refine wp_region ?_
 simp[wpOps,go_sem,Exit.then]
 refine .inl ?_
 refine wp_cond (t:=false) ?_ ?_
 ·simp[go_sem]
 simp only[if_false,Bool.false_eq_true]
 refine wp_seq ?_
 refine wp_region ?_
 simp[wpOps,go_sem,Exit.then,hta]
 refine .inl (.inl (.inl ?_))
 refine wp_cond (t:=true) ?_ ?_
 ·simp[go_sem]
 simp only[if_true]
 refine wp_seq ?_
 refine wp_region ?_
 simp[wpOps,go_sem,Exit.then]
 refine .inl ?_
 refine wp_region ?_
 simp[wpOps,go_sem,Exit.then,hx1,h2,hx2,h4,bodyPostS,results]
theorem caughtOk:Catch PP N.ctx_caught tRef:=⟨fun z w=>callFunc_enter fd.ctx_caught.f fd.ctx_caught.name rfl z w,caught_idle,caught_pan⟩
theorem c_refuse0:Con C N.ctx_refuse [i64 0] [] (.ret (.t [])) []:=by
 refine fd.ctx_refuse.c ?_
 exact⟨_,rfl,[],rfl,trivial⟩
theorem c_refuse {e:Int} (h:e≠0):Con C N.ctx_refuse [i64 e] [] (.pan (.i tRef (i64 e))) []:=by
 refine fd.ctx_refuse.c ?_
 refine spl_ne (fun _=> ?_) (fun hh=>absurd hh h)
 exact⟨_,rfl,[],rfl,trivial⟩
abbrev cxX (bg op:Bool) (t mode pad:Int) (back:Bool) (cv iv by' held last:V):B:= .mx [bool bg,bool op,i64 t,i64 mode,i64 pad,bool back,cv,iv,by',held,last]
theorem c_cxnew:Con C N.ctx_New [] [] (.ret (.p (.k 0) 0)) [cxX false false 0 0 0 false nilp nilv nilp nilv nilv]:=by
 refine fd.ctx_New.c ?_
 exact⟨_,rfl,[.d 2 0],rfl,⟨_,rfl,rfl⟩,trivial⟩
inductive HK where
 |n
 |o (H:Bs)
 |f (H:Bs)
def HK.v:HK→V
 | .n=>nilv
 | .o H=> .o 1 (.k 3) 0 H.length
 | .f H=> .z H.length (bv H)
def HK.b:HK→B
 | .o H=> .sc (bv H)
 |_=> .dead
def HK.l:HK→Bs
 | .n=>[]
 | .o H=>H
 | .f H=>H
abbrev cxO (op:Bool) (t mode pad:Int) (back:Bool) (k:Nat) (xs:List V) (iv:Bs) (x:HK) (last:Bs):B:=cxX true op t mode pad back (cipV t k xs) (.z iv.length (bv iv)) (.p (.k 1) 0) x.v (.z last.length (bv last))
theorem c_cxheld {t mode pad md:Int} {op back:Bool} {k:Nat} {xs:List V} {iv last:Bs} {st:MS} {x:HK}:Con C N.ctx_Ctx_Held [.p (.k 0) 0] [cxO op t mode pad back k xs iv x last,moX (cipV t k xs) md back st 2,gnB st.row st.gone,x.b] (.ret (i64 x.l.length)) [cxO op t mode pad back k xs iv x last,moX (cipV t k xs) md back st 2,gnB st.row st.gone,x.b]:=by
 obtain⟨ch,row,g⟩:=st;rcases row with _|⟨a,r⟩<;>rcases x with _|H|H
 all_goals
  refine fd.ctx_Ctx_Held.c ?_
  refine⟨_,rfl,?_⟩
  exact⟨_,rfl,[.k 0,.k 1,.k 2,.k 3],rfl,⟨_,rfl,rfl⟩,⟨_,rfl,rfl⟩,⟨_,rfl,rfl⟩,⟨_,rfl,rfl⟩,trivial⟩
theorem c_cxneed {t mode pad md:Int} {back:Bool} {k:Nat} {xs:List V} {iv last:Bs} {st:MS} {x:HK}:Con C N.ctx_Ctx_need [.p (.k 0) 0] [cxO true t mode pad back k xs iv x last,moX (cipV t k xs) md back st 2,gnB st.row st.gone,x.b] (.ret (.t [])) [cxO true t mode pad back k xs iv x last,moX (cipV t k xs) md back st 2,gnB st.row st.gone,x.b]:=by
 obtain⟨ch,row,g⟩:=st;rcases row with _|⟨a,r⟩<;>rcases x with _|H|H
 all_goals
  refine fd.ctx_Ctx_need.c ?_
  refine⟨_,rfl,?_⟩
  exact⟨_,rfl,[.k 0,.k 1,.k 2,.k 3],rfl,⟨_,rfl,rfl⟩,⟨_,rfl,rfl⟩,⟨_,rfl,rfl⟩,⟨_,rfl,rfl⟩,trivial⟩
theorem c_cxstolen {t mode pad md:Int} {op back:Bool} {k:Nat} {xs:List V} {iv last:Bs} {st:MS} {x:HK} (hm:mode≤9):Con C N.ctx_Ctx_stolen [.p (.k 0) 0] [cxO op t mode pad back k xs iv x last,moX (cipV t k xs) md back st 2,gnB st.row st.gone,x.b] (.ret (bool (decide (7≤mode)))) [cxO op t mode pad back k xs iv x last,moX (cipV t k xs) md back st 2,gnB st.row st.gone,x.b]:=by
 obtain⟨ch,row,g⟩:=st;rcases row with _|⟨a,r⟩<;>rcases x with _|H|H
 all_goals
  refine fd.ctx_Ctx_stolen.c ?_
  refine⟨_,rfl,?_⟩
  refine spl_d (fun h7=> ?_) (fun h7=> ?_)
  ·refine⟨_,rfl,?_⟩
   refine⟨_,rfl,[.k 0,.k 1,.k 2,.k 3],?_,⟨_,rfl,rfl⟩,⟨_,rfl,rfl⟩,⟨_,rfl,rfl⟩,⟨_,rfl,rfl⟩,trivial⟩
   exact congrArg bool (by rw[decide_eq_true hm,decide_eq_true h7])
  ·refine⟨_,rfl,[.k 0,.k 1,.k 2,.k 3],?_,⟨_,rfl,rfl⟩,⟨_,rfl,rfl⟩,⟨_,rfl,rfl⟩,⟨_,rfl,rfl⟩,trivial⟩
   exact congrArg bool (by rw[decide_eq_false h7])
def cxMost (s:Nat) (md mode pad:Int) (back:Bool):Nat:=if 3≤md then 0 else if 7≤mode then 2*s else if pad≠4∧back=true then s else s-1
theorem c_cxmost {t key s k xs rs} (h:Ciph t key s k xs rs) {mode pad md:Int} {op back:Bool} {iv last:Bs} {st:MS} {x:HK} (K:MK s md st) (hm:mode≤9):
  Con C N.ctx_Ctx_most [.p (.k 0) 0] [cxO op t mode pad back k xs iv x last,moX (cipV t k xs) md back st 2,gnB st.row st.gone,x.b] (.ret (i64 (cxMost s md mode pad back))) [cxO op t mode pad back k xs iv x last,moX (cipV t k xs) md back st 2,gnB st.row st.gone,x.b]:=by
 have hs:=h.s_le
 have G:=c_grainA h (back:=back) K
 have S:=c_cxstolen (t:=t) (mode:=mode) (pad:=pad) (md:=md) (op:=op) (back:=back) (k:=k) (xs:=xs) (iv:=iv) (last:=last) (st:=st) (x:=x) hm
 have hg:moGrain s md=if 3≤md then 1 else s:=by
  have:=K.ok.m
  unfold moGrain
  by_cases h3:3≤md
  ·rw[if_pos h3,if_neg (by omega)]
  ·rw[if_neg h3,if_pos (by omega)]
 generalize moGrain s md=gr at*
 have e2:I6.wrap (2*(s:Int))=((2*s:Nat):Int):=by rw[Zd _ (by omega)];omega
 have e3:I6.wrap ((s:Int)-1)=((s-1:Nat):Int):=by rw[Zd _ (by omega)];omega
 obtain⟨ch,row,g⟩:=st;rcases row with _|⟨a,r⟩<;>rcases x with _|H|H
 all_goals
  refine fd.ctx_Ctx_most.c ?_
  refine⟨_,rfl,?_⟩
  refine⟨[],_,_,_,_,h.size,rfl,rfl,?_⟩
  refine⟨_,rfl,?_⟩
  refine⟨[.k 1,.k 2],_,_,_,_,G,rfl,rfl,?_⟩
  by_cases h3:3≤md
  ·rw[if_pos h3]at hg
   refine spl_eq (fun _=> ?_) (fun hh=>absurd (by omega) hh)
   refine⟨_,rfl,[.k 0,.k 1,.k 2,.k 3],?_,⟨_,rfl,rfl⟩,⟨_,rfl,rfl⟩,⟨_,rfl,rfl⟩,⟨_,rfl,rfl⟩,trivial⟩
   exact q7i (by unfold cxMost;rw[if_pos h3];rfl)
  ·rw[if_neg h3]at hg
   refine spl_eq (fun hh=>absurd hh (by omega)) (fun _=> ?_)
   refine⟨[.k 0,.k 1,.k 2,.k 3],_,_,_,_,S,rfl,rfl,?_⟩
   refine spl_d (fun h7=> ?_) (fun h7=> ?_)
   ·refine⟨_,rfl,[.k 0,.k 1,.k 2,.k 3],?_,⟨_,rfl,rfl⟩,⟨_,rfl,rfl⟩,⟨_,rfl,rfl⟩,⟨_,rfl,rfl⟩,trivial⟩
    exact q7i (by unfold cxMost;rw[if_neg h3,if_pos h7];exact e2)
   ·refine⟨_,rfl,?_⟩
    refine spl_ne (fun h4=> ?_) (fun h4=> ?_)
    ·refine⟨_,rfl,?_⟩
     cases back
     ·refine⟨_,rfl,[.k 0,.k 1,.k 2,.k 3],?_,⟨_,rfl,rfl⟩,⟨_,rfl,rfl⟩,⟨_,rfl,rfl⟩,⟨_,rfl,rfl⟩,trivial⟩
      exact q7i (by unfold cxMost;rw[if_neg h3,if_neg h7,if_neg (by simp)];exact e3)
     ·refine⟨_,rfl,[.k 0,.k 1,.k 2,.k 3],?_,⟨_,rfl,rfl⟩,⟨_,rfl,rfl⟩,⟨_,rfl,rfl⟩,⟨_,rfl,rfl⟩,trivial⟩
      exact q7i (by unfold cxMost;rw[if_neg h3,if_neg h7,if_pos ⟨h4,rfl⟩])
    ·refine⟨_,rfl,[.k 0,.k 1,.k 2,.k 3],?_,⟨_,rfl,rfl⟩,⟨_,rfl,rfl⟩,⟨_,rfl,rfl⟩,⟨_,rfl,rfl⟩,trivial⟩
     exact q7i (by unfold cxMost;rw[if_neg h3,if_neg h7,if_neg (by simp[h4])];exact e3)
def cxLast (s:Nat) (mode:Int) (back:Bool) (b o last:Bs):Bs:=if 7≤mode∧s≤b.length then (if back then b else o).drop (b.length-s)else last
theorem c_cxturn {t key s k xs rs} (h:Ciph t key s k xs rs) {mode pad md:Int} {op back:Bool} {iv last H b:Bs} {st:MS} {m:Nat} (hb:b.length=m) (hmb:m≤100000) (K:MK s md st) (hm:mode≤9) (hg:m%moGrain s md=0) (hne:0<m∨st.row=[]):
  Con C N.ctx_Ctx_turn [.p (.k 0) 0,.z m (bv b)] [cxO op t mode pad back k xs iv (.f H) last,moX (cipV t k xs) md back st 2,gnB st.row st.gone,.dead]
   (.ret (.z m (bv (moStep (cF t key false) (cF t key true) s md back st b).1)))
   [cxO op t mode pad back k xs iv (.f H) (cxLast s mode back b (moStep (cF t key false) (cF t key true) s md back st b).1 last),moX (cipV t k xs) md back (moStep (cF t key false) (cF t key true) s md back st b).2 4,.dead,.dead,gnB (moStep (cF t key false) (cF t key true) s md back st b).2.row (moStep (cF t key false) (cF t key true) s md back st b).2.gone]:=by
 have hs:=h.s_le
 have lo:(moStep (cF t key false) (cF t key true) s md back st b).1.length=m:=by rw[moStep_len h.ci K.ok (by rw[hb];exact hg),hb]
 have T0:=c_step h (back:=back) (st:=st) (b:=b) rfl hb (by omega) K hg hne
 have S:=fun(st':MS)=>c_cxstolen (t:=t) (mode:=mode) (pad:=pad) (md:=md) (op:=op) (back:=back) (k:=k) (xs:=xs) (iv:=iv) (last:=last) (st:=st') (x:= .f H) hm
 generalize moStep (cF t key false) (cF t key true) s md back st b=S0 at*
 obtain⟨o,st1⟩:=S0
 have S1:=S st1
 obtain⟨c1,row1,g1⟩:=st1
 dsimp only at T0 lo ⊢
 have eS:I6.wrap ((m:Int)-(s:Int))=(m:Int)-s:=Zd _ (by omega)
 by_cases hL:7≤mode∧s≤m
 ·have eL:cxLast s mode back b o last=(if back then b else o).drop (m-s):=by unfold cxLast;rw[hb,if_pos hL]
  rw[eL]
  cases back
  all_goals
   obtain⟨ch,row,g⟩:=st
   rcases row with _|⟨a,r⟩<;>rcases row1 with _|⟨a1,r1⟩
  all_goals
   refine fd.ctx_Ctx_turn.c ?_
   refine⟨_,rfl,?_⟩
   refine⟨[.k 1,.k 2],_,_,_,_,T0,rfl,rfl,?_⟩
   refine⟨[],_,_,_,_,c_refuse0,rfl,rfl,?_⟩
   refine⟨_,rfl,?_⟩
   refine⟨[],_,_,_,_,h.size,rfl,rfl,?_⟩
   refine⟨[.k 0,.k 1,.d 15 2,.k 3],_,_,_,_,S1,rfl,rfl,?_⟩
   refine spl_d (fun h7=> ?_) (fun h7=>absurd hL.1 h7)
   refine spl_d (fun h7=> ?_) (fun h7=>absurd hL.2 (by omega))
   refine⟨_,rfl,?_⟩
   refine⟨by rw[eS];omega,by rw[eS];omega,by omega,by omega,?_⟩
   first
    |refine⟨[],_,_,_,_,c_cloneZ (n:=s) (l:=o.drop (m-s)) (va:=bv (o.drop (m-s))) rfl (by rw[Ze,lo];omega) (by omega),?_,rfl,?_⟩
     ·show[V.z (m-(I6.wrap ((m:Int)-(s:Int))).toNat) (sub (bv o) (I6.wrap ((m:Int)-(s:Int))).toNat (m-(I6.wrap ((m:Int)-(s:Int))).toNat))]=_
      rw[eS,show((m:Int)-s).toNat=m-s by omega,bv_dropN lo (by omega),show m-(m-s)=s by omega]
     refine⟨Za rfl,?_⟩
     refine⟨_,rfl,[.k 0,.k 1,.k 2,.k 3,.d 15 2],rfl,⟨_,rfl,?_⟩,⟨_,rfl,rfl⟩,⟨_,rfl,rfl⟩,⟨_,rfl,rfl⟩,⟨_,rfl,rfl⟩,trivial⟩
     have ll:(o.drop (m-s)).length=s:=by rw[Ze,lo];omega
     show _=cxO op t mode pad false k xs iv (.f H) (o.drop (m-s))
     unfold cxO
     rw[ll];rfl
    |refine⟨[],_,_,_,_,c_cloneZ (n:=s) (l:=b.drop (m-s)) (va:=bv (b.drop (m-s))) rfl (by rw[Ze,hb];omega) (by omega),?_,rfl,?_⟩
     ·show[V.z (m-(I6.wrap ((m:Int)-(s:Int))).toNat) (sub (bv b) (I6.wrap ((m:Int)-(s:Int))).toNat (m-(I6.wrap ((m:Int)-(s:Int))).toNat))]=_
      rw[eS,show((m:Int)-s).toNat=m-s by omega,bv_dropN hb (by omega),show m-(m-s)=s by omega]
     refine⟨Za rfl,?_⟩
     refine⟨_,rfl,[.k 0,.k 1,.k 2,.k 3,.d 15 2],rfl,⟨_,rfl,?_⟩,⟨_,rfl,rfl⟩,⟨_,rfl,rfl⟩,⟨_,rfl,rfl⟩,⟨_,rfl,rfl⟩,trivial⟩
     have ll:(b.drop (m-s)).length=s:=by rw[Ze,hb];omega
     show _=cxO op t mode pad true k xs iv (.f H) (b.drop (m-s))
     unfold cxO
     rw[ll];rfl
 ·have eL:cxLast s mode back b o last=last:=by unfold cxLast;rw[hb,if_neg hL]
  rw[eL]
  obtain⟨ch,row,g⟩:=st
  rcases row with _|⟨a,r⟩<;>rcases row1 with _|⟨a1,r1⟩
  all_goals
   refine fd.ctx_Ctx_turn.c ?_
   refine⟨_,rfl,?_⟩
   refine⟨[.k 1,.k 2],_,_,_,_,T0,rfl,rfl,?_⟩
   refine⟨[],_,_,_,_,c_refuse0,rfl,rfl,?_⟩
   refine⟨_,rfl,?_⟩
   refine⟨[],_,_,_,_,h.size,rfl,rfl,?_⟩
   refine⟨[.k 0,.k 1,.d 15 2,.k 3],_,_,_,_,S1,rfl,rfl,?_⟩
   refine spl_d (fun h7=> ?_) (fun h7=> ?_)
   ·refine spl_d (fun h8=>absurd ⟨h7,by omega⟩ hL) (fun h8=> ?_)
    exact⟨_,rfl,[.k 0,.k 1,.k 2,.k 3,.d 15 2],rfl,⟨_,rfl,rfl⟩,⟨_,rfl,rfl⟩,⟨_,rfl,rfl⟩,⟨_,rfl,rfl⟩,⟨_,rfl,rfl⟩,trivial⟩
   ·exact⟨_,rfl,[.k 0,.k 1,.k 2,.k 3,.d 15 2],rfl,⟨_,rfl,rfl⟩,⟨_,rfl,rfl⟩,⟨_,rfl,rfl⟩,⟨_,rfl,rfl⟩,⟨_,rfl,rfl⟩,trivial⟩
theorem c_cxturn0 {t key s k xs rs} (h:Ciph t key s k xs rs) {mode pad md:Int} {op back:Bool} {iv last H:Bs} {st:MS} {vb:List Value} (h3:3≤md) (hm:mode≤9):
  Con C N.ctx_Ctx_turn [.p (.k 0) 0,.z 0 vb] [cxO op t mode pad back k xs iv (.f H) last,moX (cipV t k xs) md back st 2,gnB st.row st.gone,.dead]
   (.ret (.z 0 [])) [cxO op t mode pad back k xs iv (.f H) last,moX (cipV t k xs) md back st 2,gnB st.row st.gone,.dead]:=by
 have hs:=h.s_le
 have T0:=c_step_nil h (back:=back) (st:=st) (vb:=vb) h3
 have S:=c_cxstolen (t:=t) (mode:=mode) (pad:=pad) (md:=md) (op:=op) (back:=back) (k:=k) (xs:=xs) (iv:=iv) (last:=last) (st:=st) (x:= .f H) hm
 obtain⟨ch,row,g⟩:=st
 rcases row with _|⟨a,r⟩
 all_goals
  refine fd.ctx_Ctx_turn.c ?_
  refine⟨_,rfl,?_⟩
  refine⟨[.k 1,.k 2],_,_,_,_,T0,rfl,rfl,?_⟩
  refine⟨[],_,_,_,_,c_refuse0,rfl,rfl,?_⟩
  refine⟨_,rfl,?_⟩
  refine⟨[],_,_,_,_,h.size,rfl,rfl,?_⟩
  refine⟨[.k 0,.k 1,.k 2,.k 3],_,_,_,_,S,rfl,rfl,?_⟩
  refine spl_d (fun h7=> ?_) (fun h7=> ?_)
  ·refine spl_d (fun h8=>absurd h8 (by omega)) (fun h8=> ?_)
   exact⟨_,rfl,[.k 0,.k 1,.k 2,.k 3],rfl,⟨_,rfl,rfl⟩,⟨_,rfl,rfl⟩,⟨_,rfl,rfl⟩,⟨_,rfl,rfl⟩,trivial⟩
  ·exact⟨_,rfl,[.k 0,.k 1,.k 2,.k 3],rfl,⟨_,rfl,rfl⟩,⟨_,rfl,rfl⟩,⟨_,rfl,rfl⟩,⟨_,rfl,rfl⟩,trivial⟩
def cxMd (mode:Int):Int:=if 7≤mode then 2 else mode
theorem c_cxstolenA {t mode pad:Int} {op bg back:Bool} {k:Nat} {xs:List V} {iv:Bs} (hm:mode≤9):Con C N.ctx_Ctx_stolen [.p (.k 0) 0] [cxX bg op t mode pad back (cipV t k xs) (.z iv.length (bv iv)) nilp nilv nilv] (.ret (bool (decide (7≤mode)))) [cxX bg op t mode pad back (cipV t k xs) (.z iv.length (bv iv)) nilp nilv nilv]:=by
 refine fd.ctx_Ctx_stolen.c ?_
 refine⟨_,rfl,?_⟩
 refine spl_d (fun h7=> ?_) (fun h7=> ?_)
 ·refine⟨_,rfl,?_⟩
  exact⟨_,rfl,[.k 0],congrArg bool (by rw[decide_eq_true hm,decide_eq_true h7]),⟨_,rfl,rfl⟩,trivial⟩
 ·exact⟨_,rfl,[.k 0],congrArg bool (by rw[decide_eq_false h7]),⟨_,rfl,rfl⟩,trivial⟩
theorem cxMd_ok {s:Nat} {mode pad:Int} {iv:Bs} (ok:shOk s mode pad iv):(1≤cxMd mode∧cxMd mode≤6)∧iv.length=if cxMd mode=1 then 0 else s:=by
 obtain⟨o1,o2,o3,o4⟩:=ok
 unfold cxMd
 by_cases h7:7≤mode
 ·rw[if_pos h7];exact⟨by decide,by rw[o4,if_neg (by omega),if_neg (by decide)]⟩
 ·rw[if_neg h7];exact⟨by omega,o4⟩
theorem c_cxbeginA {t key s k xs rs} (h:Ciph t key s k xs rs) {mode pad:Int} {op back:Bool} {iv:Bs} (ok:shOk s mode pad iv):
  Con C N.ctx_Ctx_begin [.p (.k 0) 0] [cxX true op t mode pad back (cipV t k xs) (.z iv.length (bv iv)) nilp nilv nilv] (.ret (.t []))
   [cxO true t mode pad back k xs iv .n iv,moX (cipV t k xs) (cxMd mode) back ⟨iv,[],[]⟩ 2,.dead,.dead]:=by
 have hs:=h.s_le
 obtain⟨m1,hiv⟩:=cxMd_ok ok
 have T0:=c_new_m h (mode:=cxMd mode) (back:=back) (i:=1) (vi:=bv iv) (iv:=iv) rfl rfl m1 hiv
 have hl16:iv.length≤16:=by rw[hiv];split<;>omega
 have S:=c_cxstolenA (t:=t) (mode:=mode) (pad:=pad) (op:=op) (bg:=true) (back:=back) (k:=k) (xs:=xs) (iv:=iv) ok.1.2
 refine fd.ctx_Ctx_begin.c ?_
 refine⟨_,rfl,?_⟩
 refine⟨[.k 0],_,_,_,_,S,rfl,rfl,?_⟩
 refine spl_d (fun h7=> ?_) (fun h7=> ?_)
 all_goals
  first
   |rw[show cxMd mode=2 from if_pos h7]at T0 ⊢
   |rw[show cxMd mode=mode from if_neg h7]at T0 ⊢
  refine⟨_,rfl,?_⟩
  refine⟨_,rfl,?_⟩
  refine⟨_,rfl,?_⟩
  refine⟨[],_,_,_,_,T0,rfl,rfl,?_⟩
  refine⟨Za rfl,?_⟩
  refine⟨_,rfl,?_⟩
  refine⟨[],_,_,_,_,c_cloneZ (l:=iv) rfl rfl (by omega),rfl,rfl,?_⟩
  refine⟨Za rfl,?_⟩
  refine⟨Za rfl,?_⟩
  refine⟨Za rfl,?_⟩
  exact⟨_,rfl,[.k 0,.d 26 0,.d 26 1,.d 26 2],rfl,⟨_,rfl,rfl⟩,⟨_,rfl,rfl⟩,⟨_,rfl,rfl⟩,⟨_,rfl,rfl⟩,trivial⟩
theorem shErr_ok {t key s k xs rs} (h:Ciph t key s k xs rs) {mode pad:Int} {lk li:Nat} {iv:Bs} (hk:key.length=lk) (hi:iv.length=li) (ok:shOk s mode pad iv):shErr t mode pad (cSize t).toNat lk li=0:=by
 obtain⟨o1,o2,o3,o4⟩:=ok
 unfold shErr
 rw[if_neg (by exact fun x=>x h.ht),if_neg (by rw[←hk];exact fun x=>x h.kl),if_neg (by exact fun x=>x ⟨o1,o2,o3⟩),if_neg (by rw[h.hs,Zb,←hi];exact fun x=>x o4)]
end Go.Scr
