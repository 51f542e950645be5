/-
  What the functions of the given program reckon, each by a contract, up to the law. It is no claim by itself; each contract bears its own conditions.
-/
import Derived.Test.YtggojcedobgnaaaGreatDoorY2
set_option linter.unusedVariables false
set_option linter.unusedSimpArgs false
set_option maxRecDepth 100000
namespace Go.Scr
open Go.Proofs
open Nat renaming le_of_ble_eq_true → Za, mul_one → Zj, mul_le_mul_left → Zk, le_refl → Zl, zero_le → Zq, mod_self → Zr, le_of_not_lt → Zs, mul_succ → Zw, le_trans → Zx, dvd_of_mod_eq_zero → Zy, add_sub_cancel → Zz, sub_succ_lt_self → Z0, div_eq_of_lt → Z1, le_antisymm → Z3, mul_mod_right → Jc, add_sub_cancel_left → Jg, add_zero → Ji, min_eq_left → Jj, div_add_mod → Jk, lt_irrefl → Jp, zero_add → Jr, sub_self → Js
open Int renaming toNat_natCast → Zb, tmod_eq_emod_of_nonneg → Zh, emod_eq_of_lt → Zt, tmod_lt_of_pos → Z9, lt_tmod_of_pos → Ja, add_emod_right → Jb, ofNat_inj → Jf
open List renaming length_append → Zc, length_drop → Ze, eq_nil_of_length_eq_zero → Zf, length_take → Zg, length_replicate → Zi, replicate → Zm, nil_append → Zn, length_map → Zo, take_append_drop → Zp, getElem?_eq_getElem → Zu, length_eq_zero_iff → Zv, flatten_append → Z2, take_of_length_le → Z4, flatten_singleton → Z5, drop_of_length_le → Z6, replicate_succ' → Z7, getD_eq_getElem?_getD → Z8, append_assoc → Jd, drop_append → Jh, map_append → Jl, append_nil → Jm, set_append_right → Jn, length_singleton → Jo, take_nil → Jq, map → Jt
open IntWalk renaming i64_in → Zd
open Option renaming isSome_iff_exists → Je
open Go.IntKind renaming i64 → I6, u8 → U8
theorem c_byteF {t key s k xs rs} (h:Ciph t key s k xs rs) {mode:Int} {back:Bool} {ch0 g0:List UInt8} {i0:Nat} {p:UInt8} (hl:ch0.length=s):
  Con C N.modes_Mode_byte [.p (.k 0) 0,u8V p] [moX (cipV t k xs) mode back ⟨ch0,[],g0⟩ i0,.dead] (.ret (u8V (moOne (cF t key false) mode back ⟨ch0,[],g0⟩ p).1)) [moX (cipV t k xs) mode back (moOne (cF t key false) mode back ⟨ch0,[],g0⟩ p).2 2,.dead,gnB (moOne (cF t key false) mode back ⟨ch0,[],g0⟩ p).2.row (moOne (cF t key false) mode back ⟨ch0,[],g0⟩ p).2.gone]:=by
 have hs:=h.s_le
 have hrl:=h.len (back:=false) hl
 have HB:=c_begin h (mode:=mode) (back:=back) (rv:= .z 0 []) (gv:= .u) rfl hl
 have eo:moOne (cF t key false) mode back ⟨ch0,[],g0⟩ p=moByt mode back ⟨(moBeg (cF t key false) mode ⟨ch0,[],[]⟩).ch,cF t key false ch0,[]⟩ p:=rfl
 have hcl:(moBeg (cF t key false) mode ⟨ch0,[],[]⟩).ch.length=s:=by
  show(if mode=5 then cF t key false ch0 else if mode=6 then incL ch0 else ch0).length=s
  split
  ·exact hrl
  ·split
   ·rw[incL_len,hl]
   ·exact hl
 have hX:moX (cipV t k xs) mode back ⟨ch0,[],g0⟩ i0= .mx [cipV t k xs,i64 mode,bool back,.z s (bv ch0),.z 0 [],.u]:=by
  unfold moX
  rw[←hl];rfl
 rw[hX,eo]
 generalize (moBeg (cF t key false) mode ⟨ch0,[],[]⟩).ch=ch at*
 generalize cF t key false ch0=row at*
 clear hX eo
 have hc0:2≤ch.length:=by omega
 have hr:row.length≤1000:=by omega
 refine fd.modes_Mode_byte.w ?_
 refine⟨_,rfl,?_⟩
 refine⟨[.k 0],_,_,_,_,HB,rfl,rfl,?_⟩
 refine⟨_,rfl,?_⟩
 refine⟨by omega,by omega,_,bv_getD (k:=row) (i:=0) (by omega),?_⟩
 refine⟨_,rfl,?_⟩
 refine⟨by omega,by omega,by omega,by omega,?_⟩
 refine⟨Za rfl,?_⟩
 refine⟨_,rfl,?_⟩
 cases back
 ·refine⟨_,rfl,?_⟩
  refine⟨Zl _,by omega,?_⟩
  refine⟨Za rfl,?_⟩
  refine⟨_,rfl,?_⟩
  refine spl_eq (fun h3=> ?_) (fun h3=> ?_)
  ·subst h3
   rw[moByt3]
   have ld:(ch.drop 1).length=s-1:=by rw[Ze,hcl]
   have lc:(ch.drop 1++[moIn false p (p^^^row.getD 0 0)]).length=s:=by rw[Zc,ld];show s-1+1=s;omega
   refine⟨_,rfl,?_⟩
   refine⟨by omega,by omega,by omega,by omega,?_⟩
   refine⟨[],_,_,_,_,c_cloneB (n:=s-1) (va:=sub (bv ch) 1 (s-1)) (l:=ch.drop 1) (bv_dropN hcl (by omega)) ld (by omega) (by omega),rfl,rfl,?_⟩
   refine⟨Zl _,by omega,by rw[bv_len,ld];omega,?_⟩
   refine⟨Za rfl,?_⟩
   refine⟨Za rfl,?_⟩
   refine⟨.ret (u8V (p^^^row.getD 0 0)),[.mx [cipV t k xs,i64 3,bool false,.z s (bv (ch.drop 1++[moIn false p (p^^^row.getD 0 0)])),nilv,.z (0+1) (bv ([]++[moIn false p (p^^^row.getD 0 0)]))],.dead],⟨_,rfl,[.k 0,.k 1],?_,⟨_,rfl,?_⟩,?_⟩,?_⟩
   ·show V.s (.int .u8 (U8.wrap _))=_
    rw[u8_xor]
   ·show B.mx [cipV t k xs,i64 3,bool false,.z (s-1+1) (sub (sub (bv (ch.drop 1)) 0 ((s-1)*1)++sub [Value.int .u8 _] 0 (1*1)) 0 (s-1+1)),nilv,.z (0+1) (sub (sub ([]:List Value) 0 (0*1)++sub [Value.int .u8 _] 0 (1*1)) 0 (0+1))]=_
    rw[snoc_sub ld (u8_xor _ _),one_sub (u8_xor _ _),show s-1+1=s by omega];rfl
   ·exact⟨⟨_,rfl,rfl⟩,trivial⟩
   ·refine⟨.ret (.refl _),.cons (.mx (.cons (.refl _) (.cons (.refl _) (.cons (.refl _) (.cons ?_ (.cons .nl (.cons .u .nil))))))) (.cons (.refl _) (.dd .nil))⟩
    show Wk _ (.z (ch.drop 1++[moIn false p (p^^^row.getD 0 0)]).length _)
    rw[lc];exact .refl _
  refine spl_eq (fun h4=> ?_) (fun h4=> ?_)
  ·subst h4
   refine⟨_,rfl,?_⟩
   refine spl_eq (fun hr1=> ?_) (fun hr1=> ?_)
   ·have hr1:s=1:=by have:=(rfl:Int.toNat 1=1);omega
    have lG:([]++[moIn false p (p^^^row.getD 0 0)]).length=0+1:=by rw[Zc];rfl
    rw[moByt4 (by omega)]
    refine⟨_,rfl,?_⟩
    refine⟨Za rfl,?_⟩
    refine⟨.ret (u8V (p^^^row.getD 0 0)),[.mx [cipV t k xs,i64 4,bool false,.z (0+1) (bv ([]++[moIn false p (p^^^row.getD 0 0)])),.z (s-1) (bv (row.drop 1)),.z (0+1) (bv ([]++[moIn false p (p^^^row.getD 0 0)]))],.dead],⟨_,rfl,[.k 0,.k 1],?_,⟨_,rfl,?_⟩,?_⟩,?_⟩
    ·show V.s (.int .u8 (U8.wrap _))=_
     rw[u8_xor]
    ·show B.mx [cipV t k xs,i64 4,bool false,.z (0+1) (sub (sub ([]:List Value) 0 (0*1)++sub [Value.int .u8 _] 0 (1*1)) 0 (0+1)),.z (s-1) (sub (bv row) 1 (s-1)),.z (0+1) (sub (sub ([]:List Value) 0 (0*1)++sub [Value.int .u8 _] 0 (1*1)) 0 (0+1))]=_
     rw[one_sub (u8_xor _ _),bv_dropN hrl (by omega)];rfl
    ·exact⟨⟨_,rfl,rfl⟩,trivial⟩
    ·refine⟨.ret (.refl _),.cons (.mx (.cons (.refl _) (.cons (.refl _) (.cons (.refl _) (.cons ?_ (.cons ?_ (.cons .u .nil))))))) (.cons (.refl _) (.dd .nil))⟩
     ·show Wk _ (.z ([]++[moIn false p (p^^^row.getD 0 0)]).length _)
      rw[lG];exact .refl _
     ·rw[show s-1=0 by omega];exact .z0
   ·have hr2:s≠1:=by have:=(rfl:Int.toNat 1=1);omega
    have lr:(row.drop 1).length=s-1:=by rw[Ze,hrl]
    rw[moByt_row (by decide) (fun e=>hr2 (by omega))]
    by_cases hr1:s=1
    ·have e0:row.drop 1=[]:=Zv.1 (by omega)
     rw[e0]
     refine⟨.ret (u8V (p^^^row.getD 0 0)),[.mx [cipV t k xs,i64 4,bool false,.z s (bv ch),.z (s-1) (bv (row.drop 1)),.z (0+1) (bv ([]++[moIn false p (p^^^row.getD 0 0)]))],.dead],⟨_,rfl,[.k 0,.k 1],?_,⟨_,rfl,?_⟩,?_⟩,?_⟩
     ·show V.s (.int .u8 (U8.wrap _))=_
      rw[u8_xor]
     ·show B.mx [cipV t k xs,i64 4,bool false,.z s (bv ch),.z (s-1) (sub (bv row) 1 (s-1)),.z (0+1) (sub (sub ([]:List Value) 0 (0*1)++sub [Value.int .u8 _] 0 (1*1)) 0 (0+1))]=_
      rw[one_sub (u8_xor _ _),bv_dropN hrl (by omega)];rfl
     ·exact⟨⟨_,rfl,rfl⟩,trivial⟩
     ·refine⟨.ret (.refl _),.cons (.mx (.cons (.refl _) (.cons (.refl _) (.cons (.refl _) (.cons ?_ (.cons ?_ (.cons .u .nil))))))) (.cons (.refl _) (.dd .nil))⟩
      ·show Wk _ (.z ch.length _)
       rw[hcl];exact .refl _
      ·rw[show s-1=0 by omega];exact .z0
    ·rw[gnB_pos (row:=row.drop 1) (by omega)]
     refine⟨.ret (u8V (p^^^row.getD 0 0)),[.mx [cipV t k xs,i64 4,bool false,.z s (bv ch),.z (s-1) (bv (row.drop 1)),.o 1 (.k 2) 0 (0+1)],.dead,.sc (bv ([]++[moIn false p (p^^^row.getD 0 0)]))],⟨_,rfl,[.k 0,.k 1,.d 44 0],?_,⟨_,rfl,?_⟩,⟨_,rfl,rfl⟩,⟨_,rfl,congrArg B.sc ?_⟩,trivial⟩,?_⟩
     ·show V.s (.int .u8 (U8.wrap _))=_
      rw[u8_xor]
     ·show B.mx [cipV t k xs,i64 4,bool false,.z s (bv ch),.z (s-1) (sub (bv row) 1 (s-1)),.o 1 (.k 2) 0 (0+1)]=_
      rw[bv_dropN hrl (by omega)]
     ·exact one_blk (u8_xor _ _)
     ·refine⟨.ret (.refl _),.cons (.mx (.cons (.refl _) (.cons (.refl _) (.cons (.refl _) (.cons ?_ (.cons ?_ (.cons ?_ .nil))))))) (.cons (.refl _) (.cons (.refl _) .nil))⟩
      ·show Wk _ (.z ch.length _)
       rw[hcl];exact .refl _
      ·show Wk _ (.z (row.drop 1).length _)
       rw[lr];exact .refl _
      ·show Wk _ (gnV (row.drop 1) ([]++[moIn false p (p^^^row.getD 0 0)]) 2)
       rw[gnV_pos (row:=row.drop 1) (by omega),Zc];exact .refl _
  ·have lr:(row.drop 1).length=s-1:=by rw[Ze,hrl]
   rw[moByt_row h3 (fun e=>h4 e.1)]
   by_cases hr1:s=1
   ·have e0:row.drop 1=[]:=Zv.1 (by omega)
    rw[e0]
    refine⟨.ret (u8V (p^^^row.getD 0 0)),[.mx [cipV t k xs,i64 mode,bool false,.z s (bv ch),.z (s-1) (bv (row.drop 1)),.z (0+1) (bv ([]++[moIn false p (p^^^row.getD 0 0)]))],.dead],⟨_,rfl,[.k 0,.k 1],?_,⟨_,rfl,?_⟩,?_⟩,?_⟩
    ·show V.s (.int .u8 (U8.wrap _))=_
     rw[u8_xor]
    ·show B.mx [cipV t k xs,i64 mode,bool false,.z s (bv ch),.z (s-1) (sub (bv row) 1 (s-1)),.z (0+1) (sub (sub ([]:List Value) 0 (0*1)++sub [Value.int .u8 _] 0 (1*1)) 0 (0+1))]=_
     rw[one_sub (u8_xor _ _),bv_dropN hrl (by omega)];rfl
    ·exact⟨⟨_,rfl,rfl⟩,trivial⟩
    ·refine⟨.ret (.refl _),.cons (.mx (.cons (.refl _) (.cons (.refl _) (.cons (.refl _) (.cons ?_ (.cons ?_ (.cons .u .nil))))))) (.cons (.refl _) (.dd .nil))⟩
     ·show Wk _ (.z ch.length _)
      rw[hcl];exact .refl _
     ·rw[show s-1=0 by omega];exact .z0
   ·rw[gnB_pos (row:=row.drop 1) (by omega)]
    refine⟨.ret (u8V (p^^^row.getD 0 0)),[.mx [cipV t k xs,i64 mode,bool false,.z s (bv ch),.z (s-1) (bv (row.drop 1)),.o 1 (.k 2) 0 (0+1)],.dead,.sc (bv ([]++[moIn false p (p^^^row.getD 0 0)]))],⟨_,rfl,[.k 0,.k 1,.d 44 0],?_,⟨_,rfl,?_⟩,⟨_,rfl,rfl⟩,⟨_,rfl,congrArg B.sc ?_⟩,trivial⟩,?_⟩
    ·show V.s (.int .u8 (U8.wrap _))=_
     rw[u8_xor]
    ·show B.mx [cipV t k xs,i64 mode,bool false,.z s (bv ch),.z (s-1) (sub (bv row) 1 (s-1)),.o 1 (.k 2) 0 (0+1)]=_
     rw[bv_dropN hrl (by omega)]
    ·exact one_blk (u8_xor _ _)
    ·refine⟨.ret (.refl _),.cons (.mx (.cons (.refl _) (.cons (.refl _) (.cons (.refl _) (.cons ?_ (.cons ?_ (.cons ?_ .nil))))))) (.cons (.refl _) (.cons (.refl _) .nil))⟩
     ·show Wk _ (.z ch.length _)
      rw[hcl];exact .refl _
     ·show Wk _ (.z (row.drop 1).length _)
      rw[lr];exact .refl _
     ·show Wk _ (gnV (row.drop 1) ([]++[moIn false p (p^^^row.getD 0 0)]) 2)
      rw[gnV_pos (row:=row.drop 1) (by omega),Zc];exact .refl _
 ·refine⟨_,rfl,?_⟩
  refine⟨Zl _,by omega,?_⟩
  refine⟨Za rfl,?_⟩
  refine⟨_,rfl,?_⟩
  refine spl_eq (fun h3=> ?_) (fun h3=> ?_)
  ·subst h3
   rw[moByt3]
   have ld:(ch.drop 1).length=s-1:=by rw[Ze,hcl]
   have lc:(ch.drop 1++[moIn true p (p^^^row.getD 0 0)]).length=s:=by rw[Zc,ld];show s-1+1=s;omega
   refine⟨_,rfl,?_⟩
   refine⟨by omega,by omega,by omega,by omega,?_⟩
   refine⟨[],_,_,_,_,c_cloneB (n:=s-1) (va:=sub (bv ch) 1 (s-1)) (l:=ch.drop 1) (bv_dropN hcl (by omega)) ld (by omega) (by omega),rfl,rfl,?_⟩
   refine⟨Zl _,by omega,by rw[bv_len,ld];omega,?_⟩
   refine⟨Za rfl,?_⟩
   refine⟨Za rfl,?_⟩
   refine⟨.ret (u8V (p^^^row.getD 0 0)),[.mx [cipV t k xs,i64 3,bool true,.z s (bv (ch.drop 1++[moIn true p (p^^^row.getD 0 0)])),nilv,.z (0+1) (bv ([]++[moIn true p (p^^^row.getD 0 0)]))],.dead],⟨_,rfl,[.k 0,.k 1],?_,⟨_,rfl,?_⟩,?_⟩,?_⟩
   ·show V.s (.int .u8 (U8.wrap _))=_
    rw[u8_xor]
   ·show B.mx [cipV t k xs,i64 3,bool true,.z (s-1+1) (sub (sub (bv (ch.drop 1)) 0 ((s-1)*1)++sub [Value.int .u8 _] 0 (1*1)) 0 (s-1+1)),nilv,.z (0+1) (sub (sub ([]:List Value) 0 (0*1)++sub [Value.int .u8 _] 0 (1*1)) 0 (0+1))]=_
    rw[snoc_sub ld rfl,one_sub rfl,show s-1+1=s by omega];rfl
   ·exact⟨⟨_,rfl,rfl⟩,trivial⟩
   ·refine⟨.ret (.refl _),.cons (.mx (.cons (.refl _) (.cons (.refl _) (.cons (.refl _) (.cons ?_ (.cons .nl (.cons .u .nil))))))) (.cons (.refl _) (.dd .nil))⟩
    show Wk _ (.z (ch.drop 1++[moIn true p (p^^^row.getD 0 0)]).length _)
    rw[lc];exact .refl _
  refine spl_eq (fun h4=> ?_) (fun h4=> ?_)
  ·subst h4
   refine⟨_,rfl,?_⟩
   refine spl_eq (fun hr1=> ?_) (fun hr1=> ?_)
   ·have hr1:s=1:=by have:=(rfl:Int.toNat 1=1);omega
    have lG:([]++[moIn true p (p^^^row.getD 0 0)]).length=0+1:=by rw[Zc];rfl
    rw[moByt4 (by omega)]
    refine⟨_,rfl,?_⟩
    refine⟨Za rfl,?_⟩
    refine⟨.ret (u8V (p^^^row.getD 0 0)),[.mx [cipV t k xs,i64 4,bool true,.z (0+1) (bv ([]++[moIn true p (p^^^row.getD 0 0)])),.z (s-1) (bv (row.drop 1)),.z (0+1) (bv ([]++[moIn true p (p^^^row.getD 0 0)]))],.dead],⟨_,rfl,[.k 0,.k 1],?_,⟨_,rfl,?_⟩,?_⟩,?_⟩
    ·show V.s (.int .u8 (U8.wrap _))=_
     rw[u8_xor]
    ·show B.mx [cipV t k xs,i64 4,bool true,.z (0+1) (sub (sub ([]:List Value) 0 (0*1)++sub [Value.int .u8 _] 0 (1*1)) 0 (0+1)),.z (s-1) (sub (bv row) 1 (s-1)),.z (0+1) (sub (sub ([]:List Value) 0 (0*1)++sub [Value.int .u8 _] 0 (1*1)) 0 (0+1))]=_
     rw[one_sub rfl,bv_dropN hrl (by omega)];rfl
    ·exact⟨⟨_,rfl,rfl⟩,trivial⟩
    ·refine⟨.ret (.refl _),.cons (.mx (.cons (.refl _) (.cons (.refl _) (.cons (.refl _) (.cons ?_ (.cons ?_ (.cons .u .nil))))))) (.cons (.refl _) (.dd .nil))⟩
     ·show Wk _ (.z ([]++[moIn true p (p^^^row.getD 0 0)]).length _)
      rw[lG];exact .refl _
     ·rw[show s-1=0 by omega];exact .z0
   ·have hr2:s≠1:=by have:=(rfl:Int.toNat 1=1);omega
    have lr:(row.drop 1).length=s-1:=by rw[Ze,hrl]
    rw[moByt_row (by decide) (fun e=>hr2 (by omega))]
    by_cases hr1:s=1
    ·have e0:row.drop 1=[]:=Zv.1 (by omega)
     rw[e0]
     refine⟨.ret (u8V (p^^^row.getD 0 0)),[.mx [cipV t k xs,i64 4,bool true,.z s (bv ch),.z (s-1) (bv (row.drop 1)),.z (0+1) (bv ([]++[moIn true p (p^^^row.getD 0 0)]))],.dead],⟨_,rfl,[.k 0,.k 1],?_,⟨_,rfl,?_⟩,?_⟩,?_⟩
     ·show V.s (.int .u8 (U8.wrap _))=_
      rw[u8_xor]
     ·show B.mx [cipV t k xs,i64 4,bool true,.z s (bv ch),.z (s-1) (sub (bv row) 1 (s-1)),.z (0+1) (sub (sub ([]:List Value) 0 (0*1)++sub [Value.int .u8 _] 0 (1*1)) 0 (0+1))]=_
      rw[one_sub rfl,bv_dropN hrl (by omega)];rfl
     ·exact⟨⟨_,rfl,rfl⟩,trivial⟩
     ·refine⟨.ret (.refl _),.cons (.mx (.cons (.refl _) (.cons (.refl _) (.cons (.refl _) (.cons ?_ (.cons ?_ (.cons .u .nil))))))) (.cons (.refl _) (.dd .nil))⟩
      ·show Wk _ (.z ch.length _)
       rw[hcl];exact .refl _
      ·rw[show s-1=0 by omega];exact .z0
    ·rw[gnB_pos (row:=row.drop 1) (by omega)]
     refine⟨.ret (u8V (p^^^row.getD 0 0)),[.mx [cipV t k xs,i64 4,bool true,.z s (bv ch),.z (s-1) (bv (row.drop 1)),.o 1 (.k 2) 0 (0+1)],.dead,.sc (bv ([]++[moIn true p (p^^^row.getD 0 0)]))],⟨_,rfl,[.k 0,.k 1,.d 44 0],?_,⟨_,rfl,?_⟩,⟨_,rfl,rfl⟩,⟨_,rfl,congrArg B.sc ?_⟩,trivial⟩,?_⟩
     ·show V.s (.int .u8 (U8.wrap _))=_
      rw[u8_xor]
     ·show B.mx [cipV t k xs,i64 4,bool true,.z s (bv ch),.z (s-1) (sub (bv row) 1 (s-1)),.o 1 (.k 2) 0 (0+1)]=_
      rw[bv_dropN hrl (by omega)]
     ·exact one_blk rfl
     ·refine⟨.ret (.refl _),.cons (.mx (.cons (.refl _) (.cons (.refl _) (.cons (.refl _) (.cons ?_ (.cons ?_ (.cons ?_ .nil))))))) (.cons (.refl _) (.cons (.refl _) .nil))⟩
      ·show Wk _ (.z ch.length _)
       rw[hcl];exact .refl _
      ·show Wk _ (.z (row.drop 1).length _)
       rw[lr];exact .refl _
      ·show Wk _ (gnV (row.drop 1) ([]++[moIn true p (p^^^row.getD 0 0)]) 2)
       rw[gnV_pos (row:=row.drop 1) (by omega),Zc];exact .refl _
  ·have lr:(row.drop 1).length=s-1:=by rw[Ze,hrl]
   rw[moByt_row h3 (fun e=>h4 e.1)]
   by_cases hr1:s=1
   ·have e0:row.drop 1=[]:=Zv.1 (by omega)
    rw[e0]
    refine⟨.ret (u8V (p^^^row.getD 0 0)),[.mx [cipV t k xs,i64 mode,bool true,.z s (bv ch),.z (s-1) (bv (row.drop 1)),.z (0+1) (bv ([]++[moIn true p (p^^^row.getD 0 0)]))],.dead],⟨_,rfl,[.k 0,.k 1],?_,⟨_,rfl,?_⟩,?_⟩,?_⟩
    ·show V.s (.int .u8 (U8.wrap _))=_
     rw[u8_xor]
    ·show B.mx [cipV t k xs,i64 mode,bool true,.z s (bv ch),.z (s-1) (sub (bv row) 1 (s-1)),.z (0+1) (sub (sub ([]:List Value) 0 (0*1)++sub [Value.int .u8 _] 0 (1*1)) 0 (0+1))]=_
     rw[one_sub rfl,bv_dropN hrl (by omega)];rfl
    ·exact⟨⟨_,rfl,rfl⟩,trivial⟩
    ·refine⟨.ret (.refl _),.cons (.mx (.cons (.refl _) (.cons (.refl _) (.cons (.refl _) (.cons ?_ (.cons ?_ (.cons .u .nil))))))) (.cons (.refl _) (.dd .nil))⟩
     ·show Wk _ (.z ch.length _)
      rw[hcl];exact .refl _
     ·rw[show s-1=0 by omega];exact .z0
   ·rw[gnB_pos (row:=row.drop 1) (by omega)]
    refine⟨.ret (u8V (p^^^row.getD 0 0)),[.mx [cipV t k xs,i64 mode,bool true,.z s (bv ch),.z (s-1) (bv (row.drop 1)),.o 1 (.k 2) 0 (0+1)],.dead,.sc (bv ([]++[moIn true p (p^^^row.getD 0 0)]))],⟨_,rfl,[.k 0,.k 1,.d 44 0],?_,⟨_,rfl,?_⟩,⟨_,rfl,rfl⟩,⟨_,rfl,congrArg B.sc ?_⟩,trivial⟩,?_⟩
    ·show V.s (.int .u8 (U8.wrap _))=_
     rw[u8_xor]
    ·show B.mx [cipV t k xs,i64 mode,bool true,.z s (bv ch),.z (s-1) (sub (bv row) 1 (s-1)),.o 1 (.k 2) 0 (0+1)]=_
     rw[bv_dropN hrl (by omega)]
    ·exact one_blk rfl
    ·refine⟨.ret (.refl _),.cons (.mx (.cons (.refl _) (.cons (.refl _) (.cons (.refl _) (.cons ?_ (.cons ?_ (.cons ?_ .nil))))))) (.cons (.refl _) (.cons (.refl _) .nil))⟩
     ·show Wk _ (.z ch.length _)
      rw[hcl];exact .refl _
     ·show Wk _ (.z (row.drop 1).length _)
      rw[lr];exact .refl _
     ·show Wk _ (gnV (row.drop 1) ([]++[moIn true p (p^^^row.getD 0 0)]) 2)
      rw[gnV_pos (row:=row.drop 1) (by omega),Zc];exact .refl _
def GOk (n:Nat) (s:MS):Prop:=s.row.length=0∨s.gone.length+s.row.length=n
theorem moOne_gok {E D:List UInt8→List UInt8} {n:Nat} {mode:Int} {back:Bool} {s:MS} (h:CI E D n) (hn:0<n) (hm:3≤mode) (ok:MOk n mode s) (g:GOk n s) (p:UInt8):GOk n (moOne E mode back s p).2:=by
 obtain⟨t,ht,h1,h2⟩:∃t,t=(if s.row.length=0 then moBeg E mode s else s)∧0<t.row.length∧t.gone.length+t.row.length=n:=by
  refine⟨_,rfl,?_⟩
  split
  ·obtain⟨b1,b2,b3⟩:=moBeg_ok h hm ok
   exact⟨by omega,by rw[b3,b2];simp⟩
  ·rename_i hr
   exact⟨by omega,g.resolve_left hr⟩
 have e:(moOne E mode back s p).2=(moByt mode back t p).2:=by rw[ht];rfl
 rw[e]
 unfold moByt
 dsimp only
 split
 ·exact .inl rfl
 ·split
  ·split
   ·exact .inl rfl
   ·exact .inr (by show(t.gone++[_]).length+(t.row.drop 1).length=n;rw[Zc,Jo,Ze];omega)
  ·exact .inr (by show(t.gone++[_]).length+(t.row.drop 1).length=n;rw[Zc,Jo,Ze];omega)
theorem moMany_gok {E D:List UInt8→List UInt8} {n:Nat} {mode:Int} {back:Bool} (h:CI E D n) (hn:0<n) (hm:3≤mode):∀(l:List UInt8) {s:MS},MOk n mode s→GOk n s→GOk n (moMany E mode back s l).2
 |[],_,_,g=>g
 |p::l,_,ok,g=>moMany_gok h hn hm l (moOne_ok h hn hm ok p) (moOne_gok h hn hm ok g p)
theorem moStep_gok {E D:List UInt8→List UInt8} {n:Nat} {mode:Int} {back:Bool} {s:MS} {b:List UInt8} (h:CI E D n) (hn:0<n) (ok:MOk n mode s) (g:GOk n s):GOk n (moStep E D n mode back s b).2:=by
 unfold moStep
 by_cases hm:mode=1∨mode=2
 ·simp only[if_pos hm]
  exact g
 ·simp only[if_neg hm]
  exact moMany_gok h hn (by have:=ok.m;omega) b ok g
structure MK (n:Nat) (mode:Int) (s:MS):Prop where
 ok:MOk n mode s
 g:GOk n s
theorem MK.glen {n mode s} (h:MK n mode s) (hr:s.row.length≠0):s.gone.length≤n:=by
 have:=h.g.resolve_left hr
 omega
theorem MK.step {E D:List UInt8→List UInt8} {n:Nat} {mode:Int} {back:Bool} {s:MS} {b:List UInt8} (k:MK n mode s) (h:CI E D n) (hn:0<n):MK n mode (moStep E D n mode back s b).2:=⟨moStep_ok h hn k.ok,moStep_gok h hn k.ok k.g⟩
theorem MK.one {E D:List UInt8→List UInt8} {n:Nat} {mode:Int} {back:Bool} {s:MS} (k:MK n mode s) (h:CI E D n) (hn:0<n) (hm:3≤mode) (p:UInt8):MK n mode (moOne E mode back s p).2:=⟨moOne_ok h hn hm k.ok p,moOne_gok h hn hm k.ok k.g p⟩
theorem MK.new {n:Nat} {mode:Int} {iv:List UInt8} (hm:1≤mode∧mode≤6) (hc:mode=1∨iv.length=n):MK n mode ⟨iv,[],[]⟩:=⟨⟨hm,hc,Zq _,fun _=>rfl,fun _=> .inl rfl⟩,.inl rfl⟩
structure RelD (n:Nat) (mode:Int) (x:MS×List UInt8×Nat):Prop where
 le:x.2.2≤x.2.1.length
 row:x.1.row=x.2.1.drop x.2.2
 len:x.2.1.length≤n
 made:x.1.row.length≠0→x.1.gone.length=x.2.2
 three:mode=3→x.1.row=[]
 blk:mode=1∨mode=2→x.2=([],0)
theorem RelD.new {n:Nat} {mode:Int} {iv:List UInt8}:RelD n mode (⟨iv,[],[]⟩,[],0):=⟨Zl _,rfl,Zq _,fun h=>absurd rfl h,fun _=>rfl,fun _=>rfl⟩
theorem c_block {t key s k xs rs} (h:Ciph t key s k xs rs) {mode:Int} {back:Bool} {c:Nat} {p ch:List UInt8} {vp vch:List Value} (hvp:vp=bv p) (hvc:vch=bv ch) (hp:p.length=s) (hc:ch.length=c) (hm:mode=1∨mode=2∧c=s):
  Con C N.modes_Mode_block [.p (.k 0) 0,.z s vp] [.mx [cipV t k xs,i64 mode,bool back,.z c vch,.z 0 [],.u]] (.ret (.z s (bv (moBlk (cF t key false) (cF t key true) mode back ch p).1))) [.mx [cipV t k xs,i64 mode,bool back,.z c (bv (moBlk (cF t key false) (cF t key true) mode back ch p).2),.z 0 [],.u]]:=by
 subst hvp;subst hvc
 have hs:=h.s_le
 have lE:=h.len (back:=false) hp
 have lD:=h.len (back:=true) hp
 refine con.modes_Mode_block ?_
 refine⟨_,rfl,?_⟩
 refine spl_eq (fun h1=> ?_) (fun h1=> ?_)
 ·subst h1
  refine⟨_,rfl,?_⟩
  cases back
  ·refine⟨_,rfl,?_⟩
   refine⟨_,rfl,?_⟩
   refine⟨[],_,_,_,_,h.enc hp rfl,rfl,rfl,?_⟩
   refine⟨_,rfl,[.k 0],?_,⟨_,rfl,?_⟩,trivial⟩
   ·show V.z s (sub (bv (cF t key false p)) 0 s)=_
    rw[bv_all lE];rfl
   ·rfl
  ·refine⟨_,rfl,?_⟩
   refine⟨[],_,_,_,_,h.dec hp rfl,rfl,rfl,?_⟩
   refine⟨_,rfl,[.k 0],?_,⟨_,rfl,?_⟩,trivial⟩
   ·show V.z s (sub (bv (cF t key true p)) 0 s)=_
    rw[bv_all lD];rfl
   ·rfl
 ·obtain⟨rfl,rfl⟩:=hm.resolve_left h1
  refine⟨_,rfl,?_⟩
  refine⟨_,rfl,?_⟩
  cases back
  ·have lx:=xorL_len hp hc
   have lX:=h.len (back:=false) lx
   refine⟨_,rfl,?_⟩
   refine⟨[],_,_,_,_,c_xor (a:=p) (b:=ch) rfl rfl hp hc (by omega),rfl,rfl,?_⟩
   refine⟨_,rfl,?_⟩
   refine⟨[],_,_,_,_,h.enc (b:=xorL p ch) lx (bv_all lx),rfl,rfl,?_⟩
   refine⟨[],_,_,_,_,c_cloneB (l:=cF t key false (xorL p ch)) (bv_all lX) lX (by omega) (by omega),rfl,rfl,?_⟩
   refine⟨Za rfl,?_⟩
   refine⟨_,rfl,[.k 0],?_,⟨_,rfl,?_⟩,trivial⟩
   ·show V.z c (sub (bv (cF t key false (xorL p ch))) 0 c)=_
    rw[bv_all lX];rfl
   ·show B.mx [cipV t k xs,i64 2,bool false,.z c (sub (bv (cF t key false (xorL p ch))) 0 c),.z 0 [],.u]=_
    rw[bv_all lX];rfl
  ·have lx:=xorL_len lD hc
   refine⟨_,rfl,?_⟩
   refine⟨[],_,_,_,_,h.dec hp rfl,rfl,rfl,?_⟩
   refine⟨_,rfl,?_⟩
   refine⟨[],_,_,_,_,c_xor (a:=cF t key true p) (b:=ch) (bv_all lD) rfl lD hc (by omega),rfl,rfl,?_⟩
   refine⟨[],_,_,_,_,c_cloneB (l:=p) rfl hp (by omega) (by omega),rfl,rfl,?_⟩
   refine⟨Za rfl,?_⟩
   refine⟨_,rfl,[.k 0],?_,⟨_,rfl,?_⟩,trivial⟩
   ·show V.z c (sub (bv (xorL (cF t key true p) ch)) 0 c)=_
    rw[bv_all lx];rfl
   ·show B.mx [cipV t k xs,i64 2,bool true,.z c (sub (bv p) 0 c),.z 0 [],.u]=_
    rw[bv_all hp];rfl
theorem c_grain1 {t key s k xs rs} (h:Ciph t key s k xs rs) {mode:Int} {back:Bool} {st:MS} (hm:3≤mode):
  Con C N.modes_Mode_Grain [.p (.k 0) 0] [moX (cipV t k xs) mode back st 1,gnB st.row st.gone] (.ret (i64 1)) [moX (cipV t k xs) mode back st 1,gnB st.row st.gone]:=by
 obtain⟨ch,row,g⟩:=st
 refine con.modes_Mode_Grain ?_
 refine⟨_,rfl,?_⟩
 refine spl_eq (fun h1=>absurd h1 (by omega)) (fun _=> ?_)
 refine spl_eq (fun h1=>absurd h1 (by omega)) (fun _=> ?_)
 cases row<;>exact⟨_,rfl,[.k 0,.k 1],rfl,⟨_,rfl,rfl⟩,⟨_,rfl,rfl⟩,trivial⟩
theorem c_grainS {t key s k xs rs} (h:Ciph t key s k xs rs) {mode:Int} {back:Bool} {c:Nat} {vc:List Value} (hm:mode=1∨mode=2):
  Con C N.modes_Mode_Grain [.p (.k 0) 0] [.mx [cipV t k xs,i64 mode,bool back,.z c vc,.z 0 [],.u]] (.ret (i64 s)) [.mx [cipV t k xs,i64 mode,bool back,.z c vc,.z 0 [],.u]]:=by
 refine con.modes_Mode_Grain ?_
 refine⟨_,rfl,?_⟩
 refine spl_eq (fun h1=> ?_) (fun h1=> ?_)
 ·refine⟨_,rfl,?_⟩
  refine⟨[],_,_,_,_,h.size,rfl,rfl,?_⟩
  exact⟨_,rfl,[.k 0],rfl,⟨_,rfl,rfl⟩,trivial⟩
 refine spl_eq (fun h2=> ?_) (fun h2=>absurd h2 (by omega))
 ·refine⟨_,rfl,?_⟩
  refine⟨[],_,_,_,_,h.size,rfl,rfl,?_⟩
  exact⟨_,rfl,[.k 0],rfl,⟨_,rfl,rfl⟩,trivial⟩
theorem c_new_m {t key s k xs rs} (h:Ciph t key s k xs rs) {mode:Int} {back:Bool} {l i:Nat} {vi:List Value} {iv:List UInt8} (hvi:vi=bv iv) (hl:iv.length=l) (hm:1≤mode∧mode≤6) (hi:l=if mode=1 then 0 else s):
  Con C N.modes_New [cipV t k xs,i64 mode,bool back,.z l vi] [] (.ret (.t [.p (.k 0) 0,i64 0])) [moX (cipV t k xs) mode back ⟨iv,[],[]⟩ i,.dead,.dead]:=by
 subst hvi
 have hs:=h.s_le
 have hX:moX (cipV t k xs) mode back ⟨iv,[],[]⟩ i= .mx [cipV t k xs,i64 mode,bool back,.z l (bv iv),.z 0 [],.u]:=by
  unfold moX;rw[hl];rfl
 rw[hX]
 have hm':mode=1∨mode=2∨mode=3∨mode=4∨mode=5∨mode=6:=by omega
 rcases hm' with rfl|rfl|rfl|rfl|rfl|rfl
 ·rw[if_pos rfl]at hi
  refine fd.modes_New.w ?_
  refine⟨[],_,_,_,_,h.size,rfl,rfl,?_⟩
  refine spl_ne (fun hh=>absurd hh (by omega)) (fun _=> ?_)
  refine⟨[],_,_,_,_,c_cloneZ rfl hl (by omega),rfl,rfl,?_⟩
  exact⟨.ret (.t [.p (.k 0) 0,i64 0]),[.mx [cipV t k xs,i64 1,bool back,.z l (bv iv),nilv,nilv]],⟨_,rfl,[.d 32 0],rfl,⟨_,rfl,rfl⟩,trivial⟩,.ret (.refl _),.cons (.mx (.cons (.refl _) (.cons (.refl _) (.cons (.refl _) (.cons (.refl _) (.cons .nl (.cons .u .nil))))))) (.dd (.dd .nil))⟩
 ·rw[if_neg (by decide)]at hi
  refine fd.modes_New.w ?_
  refine⟨[],_,_,_,_,h.size,rfl,rfl,?_⟩
  refine spl_ne (fun hh=>absurd hh (by omega)) (fun _=> ?_)
  refine⟨[],_,_,_,_,c_cloneZ rfl hl (by omega),rfl,rfl,?_⟩
  exact⟨.ret (.t [.p (.k 0) 0,i64 0]),[.mx [cipV t k xs,i64 2,bool back,.z l (bv iv),nilv,nilv]],⟨_,rfl,[.d 32 0],rfl,⟨_,rfl,rfl⟩,trivial⟩,.ret (.refl _),.cons (.mx (.cons (.refl _) (.cons (.refl _) (.cons (.refl _) (.cons (.refl _) (.cons .nl (.cons .u .nil))))))) (.dd (.dd .nil))⟩
 ·rw[if_neg (by decide)]at hi
  refine fd.modes_New.w ?_
  refine⟨[],_,_,_,_,h.size,rfl,rfl,?_⟩
  refine spl_ne (fun hh=>absurd hh (by omega)) (fun _=> ?_)
  refine⟨[],_,_,_,_,c_cloneZ rfl hl (by omega),rfl,rfl,?_⟩
  exact⟨.ret (.t [.p (.k 0) 0,i64 0]),[.mx [cipV t k xs,i64 3,bool back,.z l (bv iv),nilv,nilv]],⟨_,rfl,[.d 32 0],rfl,⟨_,rfl,rfl⟩,trivial⟩,.ret (.refl _),.cons (.mx (.cons (.refl _) (.cons (.refl _) (.cons (.refl _) (.cons (.refl _) (.cons .nl (.cons .u .nil))))))) (.dd (.dd .nil))⟩
 ·rw[if_neg (by decide)]at hi
  refine fd.modes_New.w ?_
  refine⟨[],_,_,_,_,h.size,rfl,rfl,?_⟩
  refine spl_ne (fun hh=>absurd hh (by omega)) (fun _=> ?_)
  refine⟨[],_,_,_,_,c_cloneZ rfl hl (by omega),rfl,rfl,?_⟩
  exact⟨.ret (.t [.p (.k 0) 0,i64 0]),[.mx [cipV t k xs,i64 4,bool back,.z l (bv iv),nilv,nilv]],⟨_,rfl,[.d 32 0],rfl,⟨_,rfl,rfl⟩,trivial⟩,.ret (.refl _),.cons (.mx (.cons (.refl _) (.cons (.refl _) (.cons (.refl _) (.cons (.refl _) (.cons .nl (.cons .u .nil))))))) (.dd (.dd .nil))⟩
 ·rw[if_neg (by decide)]at hi
  refine fd.modes_New.w ?_
  refine⟨[],_,_,_,_,h.size,rfl,rfl,?_⟩
  refine spl_ne (fun hh=>absurd hh (by omega)) (fun _=> ?_)
  refine⟨[],_,_,_,_,c_cloneZ rfl hl (by omega),rfl,rfl,?_⟩
  exact⟨.ret (.t [.p (.k 0) 0,i64 0]),[.mx [cipV t k xs,i64 5,bool back,.z l (bv iv),nilv,nilv]],⟨_,rfl,[.d 32 0],rfl,⟨_,rfl,rfl⟩,trivial⟩,.ret (.refl _),.cons (.mx (.cons (.refl _) (.cons (.refl _) (.cons (.refl _) (.cons (.refl _) (.cons .nl (.cons .u .nil))))))) (.dd (.dd .nil))⟩
 ·rw[if_neg (by decide)]at hi
  refine fd.modes_New.w ?_
  refine⟨[],_,_,_,_,h.size,rfl,rfl,?_⟩
  refine spl_ne (fun hh=>absurd hh (by omega)) (fun _=> ?_)
  refine⟨[],_,_,_,_,c_cloneZ rfl hl (by omega),rfl,rfl,?_⟩
  exact⟨.ret (.t [.p (.k 0) 0,i64 0]),[.mx [cipV t k xs,i64 6,bool back,.z l (bv iv),nilv,nilv]],⟨_,rfl,[.d 32 0],rfl,⟨_,rfl,rfl⟩,trivial⟩,.ret (.refl _),.cons (.mx (.cons (.refl _) (.cons (.refl _) (.cons (.refl _) (.cons (.refl _) (.cons .nl (.cons .u .nil))))))) (.dd (.dd .nil))⟩
theorem c_byte {t key s k xs rs} (h:Ciph t key s k xs rs) {mode:Int} {back:Bool} {st:MS} {p:UInt8} (hm:3≤mode) (K:MK s mode st):
  Con C N.modes_Mode_byte [.p (.k 0) 0,u8V p] [moX (cipV t k xs) mode back st 1,gnB st.row st.gone] (.ret (u8V (moOne (cF t key false) mode back st p).1)) [moX (cipV t k xs) mode back (moOne (cF t key false) mode back st p).2 2,.dead,gnB (moOne (cF t key false) mode back st p).2.row (moOne (cF t key false) mode back st p).2.gone]:=by
 have hs:=h.s_le
 have hc:st.ch.length=s:=K.ok.ch.resolve_left (by omega)
 have hr:=K.ok.row
 have hg:=K.glen
 obtain⟨ch,row,g⟩:=st
 dsimp only at hc hr hg
 by_cases h0:row.length=0
 ·obtain rfl:=Zf h0
  exact c_byteF h hc
 ·have e:moOne (cF t key false) mode back ⟨ch,row,g⟩ p=moByt mode back ⟨ch,row,g⟩ p:=by unfold moOne;rw[if_neg h0]
  rw[e]
  have hg:=hg h0
  exact c_byteR (by omega) (by omega) (by omega) (by omega) (by omega)
def msD (cv:V) (mode:Int) (back:Bool) (m:Nat) (b:List UInt8):Bool×Nat×MS×List UInt8→D
 |(false,i,st,o)=>⟨[(0,.p (.k 0) 0),(1,.z m (bv b)),(6,i64 1),(7,.o 1 (.k 2) 0 0)],[moX cv mode back st 1,gnB st.row st.gone,.sc []]⟩
 |(true,i,st,o)=>⟨[(0,.p (.k 0) 0),(1,.z (m-i) (bv (b.drop i))),(6,i64 1),(7,.o 1 (.k 3) 0 i)],[moX cv mode back st 2,.dead,gnB st.row st.gone,.sc (bv o)]⟩
theorem take_succ_getD {b:List UInt8} {i:Nat} (h:i<b.length):b.take (i+1)=b.take i++[(b.drop i).getD 0 0]:=by
 rw[List.take_add_one,Zu h,Z8,List.getElem?_drop,Ji,Zu h];rfl
theorem c_step_byte {t key s k xs rs} (h:Ciph t key s k xs rs) {mode:Int} {back:Bool} {st:MS} {m:Nat} {vb:List Value} {b:List UInt8} (hvb:vb=bv b) (hb:b.length=m) (hbm:m≤1000000) (hm:3≤mode) (K:MK s mode st) (hne:0<m∨st.row=[]):
  Con C N.modes_Mode_Step [.p (.k 0) 0,.z m vb] [moX (cipV t k xs) mode back st 1,gnB st.row st.gone] (.ret (.t [.z m (bv (moMany (cF t key false) mode back st b).1),i64 0])) [moX (cipV t k xs) mode back (moMany (cF t key false) mode back st b).2 2,.dead,gnB (moMany (cF t key false) mode back st b).2.row (moMany (cF t key false) mode back st b).2.gone]:=by
 subst hvb
 have hs:=h.s_le
 have hci:=h.ci
 have G:=c_grain1 h (back:=back) (st:=st) hm
 refine fd.modes_Mode_Step.w ?_
 refine⟨0,Bool×Nat×MS×List UInt8,msD (cipV t k xs) mode back m b,fun x=>x.2.1≤m∧(moMany (cF t key false) mode back st (b.take x.2.1))=(x.2.2.2,x.2.2.1)∧MK s mode x.2.2.1∧(x.1=false→x.2.1=0),fun x=>m-x.2.1,?_,fun x hx=> ?_⟩
 ·obtain⟨ch,row,g⟩:=st
  cases row
  all_goals
   refine⟨[.k 0,.k 1],_,_,_,_,G,rfl,rfl,?_⟩
   refine⟨by decide,?_⟩
   refine spl_d (fun h=>absurd h (by rw[Int.tmod_one];decide)) (fun _=> ?_)
   refine⟨by decide,by omega,by omega,?_⟩
   exact⟨[],(false,0,_,[]),⟨Zq _,rfl,K,fun _=>rfl⟩,[.k 0,.k 1,.d 17 0],⟨rfl,rfl,rfl,rfl,trivial⟩,⟨_,rfl,rfl⟩,⟨_,rfl,rfl⟩,⟨_,rfl,rfl⟩,trivial⟩
 ·obtain⟨f,i,⟨ch,row,g⟩,o⟩:=x
  obtain⟨h1,h2,h3,h4⟩:=hx
  dsimp only at h1 h2 h3 h4
  cases f
  ·obtain rfl:=h4 rfl
   have e:(([]:List UInt8),st)=(o,⟨ch,row,g⟩):=h2
   obtain⟨rfl,rfl⟩:=Prod.mk.inj e
   refine spl_eq (fun h0=> ?_) (fun h0=> ?_)
   ·obtain rfl:m=0:=by omega
    obtain rfl:=Zf hb
    obtain rfl:row=[]:=hne.resolve_left (by omega)
    exact⟨.ret (.t [.z 0 [],i64 0]),[moX (cipV t k xs) mode back ⟨ch,[],g⟩ 2,.dead],⟨_,rfl,[.k 0,.k 1],rfl,⟨_,rfl,rfl⟩,⟨_,rfl,rfl⟩,trivial⟩,.ret (.refl _),.cons (.refl _) (.cons (.refl _) (.dd .nil))⟩
   ·have HB:=c_byte h (back:=back) (p:=b.getD 0 0) hm K
    have hN:=K.one hci (by omega) hm (back:=back) (b.getD 0 0)
    have hT:moMany (cF t key false) mode back ⟨ch,row,g⟩ (b.take (0+1))=([(moOne (cF t key false) mode back ⟨ch,row,g⟩ (b.getD 0 0)).1],(moOne (cF t key false) mode back ⟨ch,row,g⟩ (b.getD 0 0)).2):=by
     rw[take_succ_getD (by omega),moMany_snoc];rfl
    generalize moOne (cF t key false) mode back ⟨ch,row,g⟩ (b.getD 0 0)=x at*
    obtain⟨o',⟨ch',row',g'⟩⟩:=x
    dsimp only at HB hN hT
    have hsl:sub (bv b) 1 (m-1)=bv (b.drop 1):=bv_dropN hb (by omega)
    cases row<;>cases row'<;>(
     refine⟨by omega,by omega,_,bv_getD (k:=b) (i:=0) (by omega),?_⟩
     refine⟨[.k 0,.k 1],_,_,_,_,HB,rfl,rfl,?_⟩
     refine⟨Zl _,by omega,by decide,?_⟩
     refine⟨by omega,by omega,by omega,by omega,?_⟩
     exact⟨rfl,(true,0+1,⟨ch',_,g'⟩,[o']),⟨by show 0+1≤m;omega,hT,hN,fun h=>by cases h⟩,(by show m-(0+1)<m-0;omega),[.k 0,.k 1,.d 38 2,.d 40 0],⟨rfl,congrArg (V.z _) hsl,rfl,rfl,trivial⟩,⟨_,rfl,rfl⟩,⟨_,rfl,rfl⟩,⟨_,rfl,rfl⟩,⟨_,rfl,congrArg B.sc (one_blk rfl)⟩,trivial⟩)
  ·have lo:o.length=i:=by
    have:=moMany_len (cF t key false) mode back (b.take i) st
    rw[h2,Zg]at this
    dsimp only at this
    omega
   refine spl_eq (fun h0=> ?_) (fun h0=> ?_)
   ·obtain rfl:i=m:=by omega
    rw[Z4 (by omega)]at h2
    rw[h2]
    rcases row with _|⟨a,r⟩
    ·exact⟨_,[moX (cipV t k xs) mode back ⟨ch,[],g⟩ 2,.dead,gnB [] g],⟨_,rfl,[.k 0,.k 1,.k 2],congrArg (fun x=>V.t [x,i64 0]) (congrArg (V.z i) (bv_all lo)),⟨_,rfl,rfl⟩,⟨_,rfl,rfl⟩,⟨_,rfl,rfl⟩,trivial⟩,.ret (.refl _),.cons (.refl _) (.cons (.refl _) (.cons (.refl _) .nil))⟩
    ·exact⟨_,[moX (cipV t k xs) mode back ⟨ch,a::r,g⟩ 2,.dead,gnB (a::r) g],⟨_,rfl,[.k 0,.k 1,.k 2],congrArg (fun x=>V.t [x,i64 0]) (congrArg (V.z i) (bv_all lo)),⟨_,rfl,rfl⟩,⟨_,rfl,rfl⟩,⟨_,rfl,rfl⟩,trivial⟩,.ret (.refl _),.cons (.refl _) (.cons (.refl _) (.cons (.refl _) .nil))⟩
   ·have lt:i<m:=by omega
    have ld:(b.drop i).length=m-i:=by rw[Ze,hb]
    have HB:=c_byte h (back:=back) (p:=(b.drop i).getD 0 0) hm h3
    have hN:=h3.one hci (by omega) hm (back:=back) ((b.drop i).getD 0 0)
    have hT:moMany (cF t key false) mode back st (b.take (i+1))=(o++[(moOne (cF t key false) mode back ⟨ch,row,g⟩ ((b.drop i).getD 0 0)).1],(moOne (cF t key false) mode back ⟨ch,row,g⟩ ((b.drop i).getD 0 0)).2):=by
     rw[take_succ_getD (by omega),moMany_snoc,h2]
    generalize moOne (cF t key false) mode back ⟨ch,row,g⟩ ((b.drop i).getD 0 0)=x at*
    obtain⟨o',⟨ch',row',g'⟩⟩:=x
    dsimp only at HB hN hT
    have hsl:sub (bv (b.drop i)) 1 (m-i-1)=bv (b.drop (i+1)):=by rw[bv_dropN ld (by omega),List.drop_drop]
    cases row<;>cases row'<;>(
     refine⟨by omega,by omega,_,bv_getD (k:=b.drop i) (i:=0) (by omega),?_⟩
     refine⟨[.k 0,.k 2],_,_,_,_,HB,rfl,rfl,?_⟩
     refine⟨Zl _,by omega,by rw[bv_len,lo];omega,?_⟩
     refine⟨by omega,by omega,by omega,by omega,?_⟩
     exact⟨rfl,(true,i+1,⟨ch',_,g'⟩,o++[o']),⟨by show i+1≤m;omega,hT,hN,fun h=>by cases h⟩,(by show m-(i+1)<m-i;omega),[.k 0,.k 1,.d 38 2,.d 40 0],⟨rfl,congrArg (V.z _) hsl,rfl,rfl,trivial⟩,⟨_,rfl,rfl⟩,⟨_,rfl,rfl⟩,⟨_,rfl,rfl⟩,⟨_,rfl,congrArg B.sc (snoc_blk lo rfl)⟩,trivial⟩)
theorem c_step_nil {t key s k xs rs} (h:Ciph t key s k xs rs) {mode:Int} {back:Bool} {st:MS} {vb:List Value} (hm:3≤mode):
  Con C N.modes_Mode_Step [.p (.k 0) 0,.z 0 vb] [moX (cipV t k xs) mode back st 1,gnB st.row st.gone] (.ret (.t [.z 0 [],i64 0])) [moX (cipV t k xs) mode back st 1,gnB st.row st.gone]:=by
 have G:=c_grain1 h (back:=back) (st:=st) hm
 refine con.modes_Mode_Step ?_
 refine⟨0,Unit,fun _=>⟨[(0,.p (.k 0) 0),(1,.z 0 vb),(6,i64 1),(7,.o 1 (.k 2) 0 0)],[moX (cipV t k xs) mode back st 1,gnB st.row st.gone,.sc []]⟩,fun _=>True,fun _=>0,?_,fun x hx=> ?_⟩
 ·obtain⟨ch,row,g⟩:=st
  cases row
  all_goals
   refine⟨[.k 0,.k 1],_,_,_,_,G,rfl,rfl,?_⟩
   refine⟨by decide,?_⟩
   refine⟨by decide,by omega,by omega,?_⟩
   exact⟨[],(),trivial,[.k 0,.k 1,.d 17 0],⟨rfl,rfl,rfl,rfl,trivial⟩,⟨_,rfl,rfl⟩,⟨_,rfl,rfl⟩,⟨_,rfl,rfl⟩,trivial⟩
 ·obtain⟨ch,row,g⟩:=st
  cases row
  all_goals
   exact⟨_,rfl,[.k 0,.k 1],rfl,⟨_,rfl,rfl⟩,⟨_,rfl,rfl⟩,trivial⟩
def msB (cv:V) (mode:Int) (back:Bool) (m s c:Nat) (b:List UInt8):Nat×Nat×List UInt8×List UInt8→D
 |(i,q,o,c')=>⟨[(0,.p (.k 0) 0),(1,.z (m-q) (bv (b.drop q))),(6,i64 s),(7,.o 1 (.k 2) 0 q)],[.mx [cv,i64 mode,bool back,.z c (bv c'),.z 0 [],.u],.dead,.sc (bv o)]⟩
theorem c_step_blk {t key s k xs rs} (h:Ciph t key s k xs rs) {mode:Int} {back:Bool} {c m:Nat} {vb:List Value} {ch b:List UInt8} (hvb:vb=bv b) (hb:b.length=m) (hbm:m≤1000000) (hm:mode=1∨mode=2∧c=s) (hc:ch.length=c) (hg:m%s=0):
  Con C N.modes_Mode_Step [.p (.k 0) 0,.z m vb] [.mx [cipV t k xs,i64 mode,bool back,.z c (bv ch),.z 0 [],.u],.dead] (.ret (.t [.z m (bv (moBlks (cF t key false) (cF t key true) mode back s b ch (m/s)).1),i64 0])) [.mx [cipV t k xs,i64 mode,bool back,.z c (bv (moBlks (cF t key false) (cF t key true) mode back s b ch (m/s)).2),.z 0 [],.u],.dead,.dead]:=by
 subst hvb
 have hs:=h.s_le
 have hci:=h.ci
 have hdm:=Jk m s
 have hm12:mode=1∨mode=2:=by omega
 have G:=c_grainS h (back:=back) (c:=c) (vc:=bv ch) hm12
 refine fd.modes_Mode_Step.w ?_
 refine⟨0,Nat×Nat×List UInt8×List UInt8,msB (cipV t k xs) mode back m s c b,fun x=>x.2.1=s*x.1∧x.2.1≤m∧moBlks (cF t key false) (cF t key true) mode back s b ch x.1=(x.2.2.1,x.2.2.2)∧x.2.2.1.length=x.2.1∧x.2.2.2.length=c,fun x=>m-x.2.1,?_,fun x hx=> ?_⟩
 ·refine⟨[.k 0],_,_,_,_,G,rfl,rfl,?_⟩
  refine⟨by omega,?_⟩
  refine spl_d (fun h=>absurd h ?_) (fun _=> ?_)
  ·have:((m:Int).tmod (s:Int))=((m%s:Nat):Int):=by rw[Zh (by omega)];rfl
   rw[this,hg];decide
  refine⟨by decide,by omega,by omega,?_⟩
  exact⟨[],(0,0,[],ch),⟨by show 0=s*0;omega,Zq _,rfl,rfl,hc⟩,[.k 0,.k 1,.d 17 0],⟨rfl,rfl,rfl,rfl,trivial⟩,⟨_,rfl,rfl⟩,⟨_,rfl,rfl⟩,⟨_,rfl,rfl⟩,trivial⟩
 ·obtain⟨i,q,o,c'⟩:=x
  obtain⟨h1,h2,h3,h4,h5⟩:=hx
  dsimp only at h1 h2 h3 h4 h5
  have ld:(b.drop q).length=m-q:=by rw[Ze,hb]
  refine spl_eq (fun h0=> ?_) (fun h0=> ?_)
  ·obtain rfl:q=m:=by omega
   have hi:q/s=i:=by rw[h1,Nat.mul_div_cancel_left _ (by omega)]
   rw[hi,h3]
   exact⟨_,[.mx [cipV t k xs,i64 mode,bool back,.z c (bv c'),.z 0 [],.u],.dead],⟨_,rfl,[.k 0,.k 1],congrArg (fun x=>V.t [x,i64 0]) (congrArg (V.z q) (bv_all h4)),⟨_,rfl,rfl⟩,⟨_,rfl,rfl⟩,trivial⟩,.ret (.refl _),.cons (.refl _) (.cons (.refl _) (.dd .nil))⟩
  ·have hq:q+s≤m:=by
    have e1:m=s*(m/s):=by omega
    have:i<m/s:=by
     refine Nat.lt_of_mul_lt_mul_left (a:=s) ?_
     omega
    have:=Zk s this
    rw[Zw]at this
    omega
   have lp:(sub b q s).length=s:=by rw[sub_length];omega
   have hvp:sub (bv (b.drop q)) 0 s=bv (sub b q s):=bv_sub _ _ _
   have hn:moBlks (cF t key false) (cF t key true) mode back s b ch (i+1)=(o++(moBlk (cF t key false) (cF t key true) mode back c' (sub b q s)).1,(moBlk (cF t key false) (cF t key true) mode back c' (sub b q s)).2):=by
    rw[moBlks_succ,h3,←h1]
   have HB:=c_block h (mode:=mode) (back:=back) hvp rfl lp h5 hm
   have hl:=moBlk_ok (back:=back) hci hm12 (c:=c') (p:=sub b q s) (by omega) lp
   have hl2:(moBlk (cF t key false) (cF t key true) mode back c' (sub b q s)).2.length=c:=by
    rcases hm with rfl|⟨rfl,rfl⟩
    ·rw[←h5];rfl
    ·exact hl.2.resolve_left (by decide)
   have hl1:=hl.1
   generalize moBlk (cF t key false) (cF t key true) mode back c' (sub b q s)=x at*
   obtain⟨o',c2⟩:=x
   dsimp only at HB hn hl1 hl2
   have hsl:sub (bv (b.drop q)) s (m-q-s)=bv (b.drop (q+s)):=by rw[bv_dropN ld (by omega),List.drop_drop]
   refine spl_eq (fun h=>absurd h (by omega)) (fun _=> ?_)
   refine⟨by omega,by omega,by omega,by omega,?_⟩
   refine⟨[.k 0],_,_,_,_,HB,rfl,rfl,?_⟩
   refine⟨by first|omega|(rw [bv_len];omega),by omega,by rw[bv_len,h4];omega,?_⟩
   refine⟨by omega,by omega,by omega,by omega,?_⟩
   refine⟨rfl,(i+1,q+s,o++o',c2),⟨by show q+s=s*(i+1);rw[Zw];omega,hq,hn,by rw[Zc,h4,hl1],hl2⟩,(by show m-(q+s)<m-q;omega),[.k 0,.k 1,.d 24 0],⟨rfl,?_,rfl,rfl,trivial⟩,⟨_,rfl,rfl⟩,⟨_,rfl,rfl⟩,⟨_,rfl,congrArg B.sc ?_⟩,trivial⟩
   ·show V.z (m-q-s) (sub (bv (b.drop q)) s (m-q-s))=V.z (m-(q+s)) _
    rw[hsl,Nat.sub_sub]
   ·show sub (bv o) 0 (q*1)++bv o'=_
    rw[Zj,bv_all h4,bv_app]
theorem moBlks_ch1 (E D back n) (b c:List UInt8):∀i,(moBlks E D 1 back n b c i).2=c
 |0=>rfl
 |i+1=>by
  rw[moBlks_succ]
  show(moBlk E D 1 back (moBlks E D 1 back n b c i).2 (sub b (n*i) n)).2=c
  unfold moBlk
  rw[if_pos rfl]
  exact moBlks_ch1 E D back n b c i
theorem moBlks_chlen {E D:List UInt8→List UInt8} {n:Nat} {mode:Int} {back:Bool} {b c:List UInt8} (h:CI E D n) (hm:mode=1∨mode=2∧c.length=n) {i:Nat} (hi:n*i≤b.length):(moBlks E D mode back n b c i).2.length=c.length:=by
 rcases hm with rfl|⟨rfl,hc⟩
 ·rw[moBlks_ch1]
 ·rw[((moBlks_ok (back:=back) h (.inr rfl) (.inr hc) i hi).2).resolve_left (by decide),hc]
theorem c_step {t key s k xs rs} (h:Ciph t key s k xs rs) {mode:Int} {back:Bool} {st:MS} {m:Nat} {vb:List Value} {b:List UInt8} (hvb:vb=bv b) (hb:b.length=m) (hbm:m≤1000000) (K:MK s mode st) (hg:m%moGrain s mode=0) (hne:0<m∨st.row=[]):
  Con C N.modes_Mode_Step [.p (.k 0) 0,.z m vb] [moX (cipV t k xs) mode back st 1,gnB st.row st.gone] (.ret (.t [.z m (bv (moStep (cF t key false) (cF t key true) s mode back st b).1),i64 0])) [moX (cipV t k xs) mode back (moStep (cF t key false) (cF t key true) s mode back st b).2 2,.dead,gnB (moStep (cF t key false) (cF t key true) s mode back st b).2.row (moStep (cF t key false) (cF t key true) s mode back st b).2.gone]:=by
 by_cases hm:mode=1∨mode=2
 ·have hr:=K.ok.blk hm
  have hc:=K.ok.ch
  obtain⟨ch,row,g⟩:=st
  dsimp only at hr hc
  subst hr
  have e:moStep (cF t key false) (cF t key true) s mode back ⟨ch,[],g⟩ b=((moBlks (cF t key false) (cF t key true) mode back s b ch (m/s)).1,⟨(moBlks (cF t key false) (cF t key true) mode back s b ch (m/s)).2,[],g⟩):=by
   unfold moStep
   rw[if_pos hm,hb]
  have hg':m%s=0:=by unfold moGrain at hg;rwa [if_pos hm]at hg
  have hdm:=Jk m s
  have hl:=moBlks_chlen (back:=back) h.ci (b:=b) (c:=ch) (i:=m/s) (mode:=mode) (by omega) (by omega)
  have HB:=c_step_blk h (back:=back) hvb hb hbm (ch:=ch) (c:=ch.length) (mode:=mode) (by omega) rfl hg'
  rw[e]
  show Con C N.modes_Mode_Step [.p (.k 0) 0,.z m vb] [.mx [cipV t k xs,i64 mode,bool back,.z ch.length (bv ch),.z 0 [],.u],.dead] _ [.mx [cipV t k xs,i64 mode,bool back,.z (moBlks (cF t key false) (cF t key true) mode back s b ch (m/s)).2.length (bv (moBlks (cF t key false) (cF t key true) mode back s b ch (m/s)).2),.z 0 [],.u],.dead,.dead]
  rw[hl]
  exact HB
 ·have e:moStep (cF t key false) (cF t key true) s mode back st b=moMany (cF t key false) mode back st b:=by
   unfold moStep
   rw[if_neg hm]
  rw[e]
  exact c_step_byte h hvb hb hbm (by have:=K.ok.m;omega) K hne
theorem c_step_bad {t key s k xs rs} (h:Ciph t key s k xs rs) {mode:Int} {back:Bool} {st:MS} {m:Nat} {vb:List Value} (K:MK s mode st) (hg:m%moGrain s mode≠0):
  Con C N.modes_Mode_Step [.p (.k 0) 0,.z m vb] [moX (cipV t k xs) mode back st 1,gnB st.row st.gone] (.ret (.t [nilv,i64 7])) [moX (cipV t k xs) mode back st 1,gnB st.row st.gone]:=by
 have hs:=h.s_le
 have hm:mode=1∨mode=2:=by
  refine Classical.byContradiction fun hm=>hg ?_
  unfold moGrain;rw[if_neg hm,Nat.mod_one]
 have hr:=K.ok.blk hm
 obtain⟨ch,row,g⟩:=st
 dsimp only at hr
 subst hr
 have hg':m%s≠0:=by unfold moGrain at hg;rwa [if_pos hm]at hg
 have G:=c_grainS h (back:=back) (c:=ch.length) (vc:=bv ch) hm
 refine con.modes_Mode_Step ?_
 refine⟨0,Unit,fun _=>⟨[],[]⟩,fun _=>False,fun _=>0,?_,fun x hx=>hx.elim⟩
 refine⟨[.k 0],_,_,_,_,G,rfl,rfl,?_⟩
 refine⟨by omega,?_⟩
 refine spl_d (fun _=> ?_) (fun h=>absurd ?_ h)
 ·exact⟨_,rfl,[.k 0,.k 1],rfl,⟨_,rfl,rfl⟩,⟨_,rfl,rfl⟩,trivial⟩
 ·have:((m:Int).tmod (s:Int))=((m%s:Nat):Int):=by rw[Zh (by omega)];rfl
  rw[this];omega
theorem c_grainA {t key s k xs rs} (h:Ciph t key s k xs rs) {mode:Int} {back:Bool} {st:MS} (K:MK s mode st):
  Con C N.modes_Mode_Grain [.p (.k 0) 0] [moX (cipV t k xs) mode back st 1,gnB st.row st.gone] (.ret (i64 (moGrain s mode))) [moX (cipV t k xs) mode back st 1,gnB st.row st.gone]:=by
 by_cases hm:mode=1∨mode=2
 ·have hr:=K.ok.blk hm
  obtain⟨ch,row,g⟩:=st
  dsimp only at hr
  subst hr
  have e:moGrain s mode=s:=by unfold moGrain;rw[if_pos hm]
  rw[e]
  refine con.modes_Mode_Grain ?_
  refine⟨_,rfl,?_⟩
  rcases hm with rfl|rfl
  all_goals
   refine⟨_,rfl,?_⟩
   refine⟨[],_,_,_,_,h.size,rfl,rfl,?_⟩
   exact⟨_,rfl,[.k 0,.k 1],rfl,⟨_,rfl,rfl⟩,⟨_,rfl,rfl⟩,trivial⟩
 ·have e:moGrain s mode=1:=by unfold moGrain;rw[if_neg hm]
  rw[e]
  exact c_grain1 h (by have:=K.ok.m;omega)
theorem c_w12 {a n:Int} (hn:0<n) (hn2:n≤4611686018427387904) (ha: -9223372036854775808≤a∧a≤9223372036854775807):Con C N.law12_within [i64 a,i64 n] [] (.ret (i64 (a%n))) []:=by
 refine con.law12_within ?_
 have h1: -n<a.tmod n:=Ja a hn
 have h2:a.tmod n<n:=Z9 a hn
 refine⟨by omega,?_⟩
 refine spl_d (fun h=> ?_) (fun h=> ?_)
 ·refine⟨_,rfl,[],congrArg (vi .i64) ?_,trivial⟩
  rw[Zd _ (by omega)]
  rw[←rest_eq a n hn,Zh (a:=a.tmod n+n) (by omega),Zt (by omega) (by omega)]
 ·refine⟨_,rfl,[],congrArg (vi .i64) ?_,trivial⟩
  rw[←rest_eq a n hn,Zh (a:=a.tmod n+n) (by omega),Jb,Zt (by omega) (by omega)]
def ivL (mode:Int) (s:Nat) (b:List UInt8):List UInt8:=if mode=1 then []else bytesN s b
def ivN (mode:Int) (s:Nat):Nat:=if mode=1 then 0 else s
theorem ivL_len (mode s b):(ivL mode s b).length=ivN mode s:=by
 unfold ivL ivN
 split
 ·rfl
 ·exact bytesN_len _ _
theorem c_iv {mode:Int} {s m:Nat} {vb:List Value} {b:List UInt8} (hv:vb=bv b) (hb:b.length=m) (hs:s≤1000):Con C N.law12_IV [i64 mode,i64 s,.z m vb] [] (.ret (.z (ivN mode s) (bv (ivL mode s b)))) []:=by
 unfold ivL ivN
 by_cases h1:mode=1
 ·rw[if_pos h1,if_pos h1]
  refine fd.law12_IV.w ?_
  refine spl_eq (fun _=> ?_) (fun h=>absurd h1 h)
  exact⟨.ret nilv,[],⟨_,rfl,[],rfl,trivial⟩,.ret .nl,.nil⟩
 ·rw[if_neg h1,if_neg h1]
  refine con.law12_IV ?_
  refine spl_eq (fun h=>absurd h h1) (fun _=> ?_)
  refine⟨[],_,_,_,_,c_bytes hv hb (by omega),rfl,rfl,?_⟩
  exact⟨_,rfl,[],congrArg (V.z s) (bv_all (bytesN_len _ _)),trivial⟩
def kk (x:Int):Int:=if I6.wrap (x.tdiv 40)%3=0 then 8*(x%5)else x%40
def kN (x:Int) (m:Nat):Nat:=min (kk x).toNat m
theorem kk_rng (x:Int):0≤kk x∧kk x≤39:=by unfold kk;split<;>omega
theorem kN_le (x m):kN x m≤m:=Nat.min_le_right _ _
theorem kN_eq {x:Int} {m:Nat} {a:Int} (h:a=kk x):(if (m:Int)<a then (m:Int)else a)=((kN x m:Nat):Int):=by
 subst h
 have:=kk_rng x
 unfold kN
 split<;>omega
def cutF (ns:List Int) (b:List UInt8):Nat→List (List UInt8)×List UInt8
 |0=>([],b)
 |i+1=>((cutF ns b i).1++[(cutF ns b i).2.take (kN (ns.getD i 0) (cutF ns b i).2.length)],(cutF ns b i).2.drop (kN (ns.getD i 0) (cutF ns b i).2.length))
def cutL (ns:List Int) (b:List UInt8):List (List UInt8):=(cutF ns b (min ns.length 40)).1++[(cutF ns b (min ns.length 40)).2]
def zc (p:List UInt8):V:= .z p.length (bv p)
theorem cutF_len (ns b):∀i,(cutF ns b i).1.length=i
 |0=>rfl
 |i+1=>by
  show((cutF ns b i).1++[_]).length=i+1
  rw[Zc,cutF_len ns b i];rfl
theorem cutF_le (ns b):∀i,(cutF ns b i).2.length≤b.length∧∀p∈(cutF ns b i).1,p.length≤b.length
 |0=>⟨Zl _,fun p hp=>by cases hp⟩
 |i+1=>by
  obtain⟨h1,h2⟩:=cutF_le ns b i
  refine⟨?_,fun p hp=> ?_⟩
  ·show((cutF ns b i).2.drop _).length≤_
   rw[Ze];omega
  ·have hp:p∈(cutF ns b i).1++[(cutF ns b i).2.take (kN (ns.getD i 0) (cutF ns b i).2.length)]:=hp
   rcases List.mem_append.1 hp with hp|hp
   ·exact h2 p hp
   ·rw[List.mem_singleton.1 hp,Zg];omega
theorem cutL_len (ns b):(cutL ns b).length=min ns.length 40+1:=by
 unfold cutL
 rw[Zc,cutF_len];rfl
theorem zc_lend (H ids) (l:List (List UInt8)):(l.map zc).map (lend H ids 6)=l.map zc:=by
 rw[List.map_map]
 exact List.map_congr_left fun _ _=>rfl
theorem zc_snap (H ids) (l:List (List UInt8)) (n):(l.map zc).map (snap H ids (n+1))=l.map zc:=by
 rw[List.map_map]
 exact List.map_congr_left fun _ _=>rfl
theorem c_cut {ln:Nat} {vn:List Value} {b:List UInt8} {ns:List Int} (hvn:vn=iv ns) (hn:ns.length=ln) (hlb:b.length≤1000) (hns:∀x∈ns, -9223372036854775808≤x∧x≤9223372036854775807):
  Con C N.law12_Cut [.z b.length (bv b),.z ln vn] [] (.ret (.zz 1 (cutL ns b).length ((cutL ns b).map zc))) []:=by
 subst hvn
 obtain⟨N0,hN0⟩:∃N0,N0=min ns.length 40:=⟨_,rfl⟩
 refine con.law12_Cut ?_
 refine loopNn (fun i=>⟨[(0,.z (cutF ns b i).2.length (bv (cutF ns b i).2)),(1,.z ln (iv ns)),(5,.o 1 (.k 0) 0 i),(6,i64 i)],[.mx ((cutF ns b i).1.map zc)]⟩) N0 [(5,1,.mx [])] ⟨[.d 900000 0],⟨rfl,rfl,rfl,rfl,trivial⟩,⟨_,rfl,rfl⟩,trivial⟩ fun i hi=> ?_
 have hl:=(cutF_le ns b i).1
 have hl1:=cutF_len ns b i
 refine spl_d (fun h1=> ?_) (fun h1=> ?_)
 ·refine spl_d (fun h2=> ?_) (fun h2=> ?_)
  ·obtain⟨x,hx⟩:∃x,ns.getD i 0=x:=⟨_,rfl⟩
   have hlt:i<ns.length:=by omega
   have hxe:ns[i]=x:=by rw[←hx,Z8,Zu hlt];rfl
   have hxb: -9223372036854775808≤x∧x≤9223372036854775807:=hns x (hxe▸List.getElem_mem hlt)
   have hv:(iv ns)[((i:Nat):Int).toNat]? =some (Value.int .i64 x):=by rw[Zb,iv_get hlt,hxe]
   have hstep:cutF ns b (i+1)=((cutF ns b i).1++[(cutF ns b i).2.take (kN x (cutF ns b i).2.length)],(cutF ns b i).2.drop (kN x (cutF ns b i).2.length)):=by rw[←hx];rfl
   have hk:=kN_le x (cutF ns b i).2.length
   have hst:sub ((cutF ns b i).1.map zc) 0 (i*1)++[V.z (kN x (cutF ns b i).2.length) (sub (bv (cutF ns b i).2) 0 (kN x (cutF ns b i).2.length))]=((cutF ns b i).1++[(cutF ns b i).2.take (kN x (cutF ns b i).2.length)]).map zc:=by
    have e9:((cutF ns b i).2.take (kN x (cutF ns b i).2.length)).length=kN x (cutF ns b i).2.length:=by rw[Zg,Jj hk]
    rw[Zj,sub_all (l:=(cutF ns b i).1.map zc) (by rw[Zo,hl1]),Jl,bv_sub]
    show _=(cutF ns b i).1.map zc++[V.z ((cutF ns b i).2.take (kN x (cutF ns b i).2.length)).length (bv ((cutF ns b i).2.take (kN x (cutF ns b i).2.length)))]
    rw[e9];rfl
   have hb5:=Int.emod_nonneg x (show (5:Int)≠0 by decide)
   have hb6:=Int.emod_lt_of_pos x (show (0:Int)<5 by decide)
   have w8:I6.wrap (8*(x%5))=8*(x%5):=Zd _ (by omega)
   have hwr: -9223372036854775808≤I6.wrap (x.tdiv 40)∧I6.wrap (x.tdiv 40)≤9223372036854775807:=by rw[IntKind.wrap_i64];omega
   refine⟨by omega,by omega,_,hv,?_⟩
   refine⟨[],_,_,_,_,c_w12 (a:=x) (n:=40) (by omega) (by omega) hxb,rfl,rfl,?_⟩
   refine⟨by omega,by omega,_,hv,?_⟩
   refine⟨by decide,?_⟩
   refine⟨[],_,_,_,_,c_w12 (a:=I6.wrap (x.tdiv 40)) (n:=3) (by omega) (by omega) hwr,rfl,rfl,?_⟩
   refine spl_eq (fun h3=> ?_) (fun h3=> ?_)
   ·refine⟨by omega,by omega,_,hv,?_⟩
    refine⟨[],_,_,_,_,c_w12 (a:=x) (n:=5) (by omega) (by omega) hxb,rfl,rfl,?_⟩
    have e3:(if (((cutF ns b i).2.length:Nat):Int)<I6.wrap (8*(x%5))then (((cutF ns b i).2.length:Nat):Int)else I6.wrap (8*(x%5)))=((kN x (cutF ns b i).2.length:Nat):Int):=kN_eq (by rw[w8];unfold kk;rw[if_pos h3])
    refine⟨(by first|omega|(rw [e3];omega)|(rw [e3,Zb];omega)),(by first|omega|(rw [e3];omega)|(rw [e3,Zb];omega)),(by first|omega|(rw [e3];omega)|(rw [e3,Zb];omega)),(by first|omega|(rw [e3];omega)|(rw [e3,Zb];omega)),?_⟩
    refine⟨Zl _,by omega,by rw[Zo,hl1];omega,?_⟩
    refine⟨(by first|omega|(rw [e3];omega)|(rw [e3,Zb];omega)),(by first|omega|(rw [e3];omega)|(rw [e3,Zb];omega)),(by first|omega|(rw [e3];omega)|(rw [e3,Zb];omega)),(by first|omega|(rw [e3];omega)|(rw [e3,Zb];omega)),?_⟩
    refine⟨i+1,by omega,by omega,[.d 45 0],⟨?_,rfl,rfl,congrArg (vi .i64) (by simp(disch:=omega)only[Zd];omega),trivial⟩,⟨_,rfl,?_⟩,trivial⟩
    ·rw[e3,hstep]
     show V.z ((cutF ns b i).2.length-kN x (cutF ns b i).2.length) (sub (bv (cutF ns b i).2) (kN x (cutF ns b i).2.length) ((cutF ns b i).2.length-kN x (cutF ns b i).2.length))=V.z ((cutF ns b i).2.drop (kN x (cutF ns b i).2.length)).length (bv ((cutF ns b i).2.drop (kN x (cutF ns b i).2.length)))
     rw[bv_dropN rfl hk,Ze]
    ·rw[e3,hstep]
     show B.mx (Jt (lend _ _ 6) (sub ((cutF ns b i).1.map zc) 0 (i*1)++[V.z (kN x (cutF ns b i).2.length) (sub (bv (cutF ns b i).2) 0 (kN x (cutF ns b i).2.length))]))=B.mx (((cutF ns b i).1++[(cutF ns b i).2.take (kN x (cutF ns b i).2.length)]).map zc)
     rw[hst]
     exact congrArg B.mx (zc_lend _ _ _)
   ·have e3:(if (((cutF ns b i).2.length:Nat):Int)<x%40 then (((cutF ns b i).2.length:Nat):Int)else x%40)=((kN x (cutF ns b i).2.length:Nat):Int):=kN_eq (by unfold kk;rw[if_neg h3])
    refine⟨(by first|omega|(rw [e3];omega)|(rw [e3,Zb];omega)),(by first|omega|(rw [e3];omega)|(rw [e3,Zb];omega)),(by first|omega|(rw [e3];omega)|(rw [e3,Zb];omega)),(by first|omega|(rw [e3];omega)|(rw [e3,Zb];omega)),?_⟩
    refine⟨Zl _,by omega,by rw[Zo,hl1];omega,?_⟩
    refine⟨(by first|omega|(rw [e3];omega)|(rw [e3,Zb];omega)),(by first|omega|(rw [e3];omega)|(rw [e3,Zb];omega)),(by first|omega|(rw [e3];omega)|(rw [e3,Zb];omega)),(by first|omega|(rw [e3];omega)|(rw [e3,Zb];omega)),?_⟩
    refine⟨i+1,by omega,by omega,[.d 45 0],⟨?_,rfl,rfl,congrArg (vi .i64) (by simp(disch:=omega)only[Zd];omega),trivial⟩,⟨_,rfl,?_⟩,trivial⟩
    ·rw[e3,hstep]
     show V.z ((cutF ns b i).2.length-kN x (cutF ns b i).2.length) (sub (bv (cutF ns b i).2) (kN x (cutF ns b i).2.length) ((cutF ns b i).2.length-kN x (cutF ns b i).2.length))=V.z ((cutF ns b i).2.drop (kN x (cutF ns b i).2.length)).length (bv ((cutF ns b i).2.drop (kN x (cutF ns b i).2.length)))
     rw[bv_dropN rfl hk,Ze]
    ·rw[e3,hstep]
     show B.mx (Jt (lend _ _ 6) (sub ((cutF ns b i).1.map zc) 0 (i*1)++[V.z (kN x (cutF ns b i).2.length) (sub (bv (cutF ns b i).2) 0 (kN x (cutF ns b i).2.length))]))=B.mx (((cutF ns b i).1++[(cutF ns b i).2.take (kN x (cutF ns b i).2.length)]).map zc)
     rw[hst]
     exact congrArg B.mx (zc_lend _ _ _)
  ·have hi0:i=min ns.length 40:=by omega
   have lc:=cutL_len ns b
   refine⟨Zl _,by omega,by rw[Zo,hl1];omega,?_⟩
   refine⟨_,rfl,[],?_,trivial⟩
   rw[lc,←hi0]
   have hcl:(cutF ns b i).1.map zc++[zc (cutF ns b i).2]=(cutL ns b).map zc:=by unfold cutL;rw[←hi0,Jl];rfl
   refine(congrArg (V.zz 1 (i+1)) ((congrArg (Jt _) ?_).trans (zc_snap _ _ (cutL ns b) 3)))
   rw[←hcl,Zj,Zj]
   rw[sub_all (l:=(cutF ns b i).1.map zc) (by rw[Zo,hl1])]
   exact sub_all (n:=(i+1)*1) (by rw[Zc,Zo,hl1,Zj];rfl)
 ·have hi0:i=min ns.length 40:=by omega
  have lc:=cutL_len ns b
  refine⟨Zl _,by omega,by rw[Zo,hl1];omega,?_⟩
  refine⟨_,rfl,[],?_,trivial⟩
  rw[lc,←hi0]
  have hcl:(cutF ns b i).1.map zc++[zc (cutF ns b i).2]=(cutL ns b).map zc:=by unfold cutL;rw[←hi0,Jl];rfl
  refine(congrArg (V.zz 1 (i+1)) ((congrArg (Jt _) ?_).trans (zc_snap _ _ (cutL ns b) 3)))
  rw[←hcl,Zj,Zj]
  rw[sub_all (l:=(cutF ns b i).1.map zc) (by rw[Zo,hl1])]
  exact sub_all (n:=(i+1)*1) (by rw[Zc,Zo,hl1,Zj];rfl)
theorem moStep_nil {E D:List UInt8→List UInt8} {n:Nat} {mode:Int} {back:Bool} {s:MS}:moStep E D n mode back s []=([],s):=by
 unfold moStep
 by_cases hm:mode=1∨mode=2
 ·rw[if_pos hm]
  show((moBlks E D mode back n [] s.ch (0/n)).1,(⟨(moBlks E D mode back n [] s.ch (0/n)).2,s.row,s.gone⟩:MS))=_
  rw[Nat.zero_div];rfl
 ·rw[if_neg hm];rfl
theorem c_tell_y {kind:Int} (hk:kind=1∨kind=2∨kind=3):Con C N.pad_tell [i64 kind] [] (.ret (bool true)) []:=by
 refine con.pad_tell ?_
 rcases hk with rfl|rfl|rfl<;>exact⟨_,rfl,[],rfl,trivial⟩
theorem c_sized_y {n:Nat} (h:n=8∨n=16):Con C N.pad_sized [i64 n] [] (.ret (bool true)) []:=by
 refine con.pad_sized ?_
 rcases h with rfl|rfl<;>exact⟨_,rfl,[],rfl,trivial⟩
theorem rep_set {i n:Nat} {x y:UInt8} (h:i<n):(Zm i x++Zm (n-i) y).set i x=Zm (i+1) x++Zm (n-(i+1)) y:=by
 rw[show n-i=(n-(i+1))+1 by omega,List.replicate_succ,Jn _ _ (by rw[Zi];exact Zl _),Zi,Js,List.set_cons_zero,Z7]
 simp
theorem rep_last {n:Nat} {x y:UInt8} (h:0<n):(Zm n y).set (n-1) x=Zm (n-1) y++[x]:=by
 obtain⟨m,rfl⟩:∃m,n=m+1:=⟨n-1,by omega⟩
 rw[Zz,Z7,Jn _ _ (by rw[Zi];exact Zl _),Zi,Js];rfl
theorem rep_last' {n:Nat} {x:UInt8} (h:0<n):(Zm n x).set (n-1) x=Zm n x:=by
 obtain⟨m,rfl⟩:∃m,n=m+1:=⟨n-1,by omega⟩
 rw[rep_last h,Zz,Z7]
theorem c_made {kind:Int} {n:Nat} (hk:kind=1∨kind=2∨kind=3) (h0:0<n) (h16:n≤16):Con C N.pad_made [i64 kind,i64 n] [] (.ret (.o 1 (.k 0) 0 n)) [.sc (bv (pdMade kind n))]:=by
 have e1:I6.wrap ((n:Int)-1)=((n-1:Nat):Int):=by rw[Zd _ (by omega)];omega
 refine con.pad_made ?_
 refine⟨by omega,by omega,by omega,?_⟩
 rcases hk with rfl|rfl|rfl
 ·refine loopN (fun i=>⟨[(1,i64 n),(5,.o 1 (.k 0) 0 n),(17,i64 n),(18,i64 i)],[.sc (bv (Zm i (UInt8.ofNat n)++Zm (n-i) 0))]⟩) n ⟨[.d 8 0],⟨rfl,rfl,rfl,rfl,trivial⟩,⟨_,rfl,congrArg B.sc ?_⟩,trivial⟩ fun i hi=> ?_
  ·rw[Zb,bv_rep];rfl
  refine spl_d (fun hlt=> ?_) (fun hge=> ?_)
  ·have hlt:i<n:=by omega
   refine⟨by omega,by omega,by rw[Zb,bv_len,Zc,Zi,Zi];omega,?_⟩
   refine⟨i+1,by omega,by omega,[.k 0],⟨rfl,rfl,rfl,congrArg (vi .i64) (by simp(disch:=omega)only[Zd];omega),trivial⟩,⟨_,rfl,congrArg B.sc ?_⟩,trivial⟩
   rw[Zb,Zj,Jr,nat_u8,bv_set,rep_set hlt]
  ·obtain rfl:i=n:=by omega
   refine⟨by rw[e1];omega,by rw[e1];omega,by rw[e1,Zb,bv_len,Zc,Zi,Zi];omega,?_⟩
   refine⟨_,rfl,[.k 0],rfl,⟨_,rfl,congrArg B.sc ?_⟩,trivial⟩
   rw[e1,Zb,Zj,Jr,nat_u8,bv_set,Js,List.replicate_zero,Jm,rep_last' h0];rfl
 ·refine⟨by decide,by omega,by rw[Zb,Zi];show 0+0*1<n;omega,?_⟩
  refine⟨_,rfl,[.d 8 0],rfl,⟨_,rfl,congrArg B.sc ?_⟩,trivial⟩
  rw[Zb,bv_rep]
  show(bv (Zm n 0)).set 0 (Value.int .u8 ((128:UInt8).toNat:Int))=_
  rw[bv_set]
  obtain⟨m,rfl⟩:∃m,n=m+1:=⟨n-1,by omega⟩
  rfl
 ·refine⟨by rw[e1];omega,by rw[e1];omega,by rw[e1,Zb,Zb,Zi];omega,?_⟩
  refine⟨_,rfl,[.d 8 0],rfl,⟨_,rfl,congrArg B.sc ?_⟩,trivial⟩
  rw[e1,Zb,Zb,Zj,Jr,nat_u8,bv_rep,bv_set,rep_last h0];rfl
theorem c_padAdd {kind:Int} {s m:Nat} {vt:List Value} {tail:List UInt8} (hk:kind=1∨kind=2∨kind=3) (hs:s=8∨s=16) (hv:vt=bv tail) (hm:tail.length=m) (hms:m<s):
  Con C N.pad_Add [i64 kind,i64 s,.z m vt] [] (okBlk s) [.sc (bv (pdAdd kind s tail))]:=by
 subst hv
 have e1:I6.wrap ((s:Int)-(m:Int))=((s-m:Nat):Int):=by rw[Zd _ (by omega)];omega
 have lp:=pdAdd_len (kind:=kind) (tail:=tail) (size:=s) (by omega)
 have lm:=pdMade_len (kind:=kind) (n:=s-m) (by omega)
 refine con.pad_Add ?_
 refine⟨[],_,_,_,_,c_tell_y hk,rfl,rfl,?_⟩
 refine⟨[],_,_,_,_,c_sized_y hs,rfl,rfl,?_⟩
 refine spl_d (fun h=>absurd h (by omega)) (fun _=> ?_)
 refine⟨[],_,_,_,_,c_made (n:=s-m) hk (by omega) (by omega),?_,rfl,?_⟩
 ·rw[e1];rfl
 have hpe:tail++pdMade kind (s-m)=pdAdd kind s tail:=by rw[pdAdd,hm]
 refine⟨[],_,_,_,_,c_concatB' (n:=2) (ls:=[tail,pdMade kind (s-m)]) (t:=pdAdd kind s tail) (by rw[←hpe];simp) ?_ rfl (by omega) (by omega),rfl,rfl,?_⟩
 ·show[V.z m (bv tail),V.z (s-m) (sub (bv (pdMade kind (s-m))) 0 (s-m))]=[V.z _ _,V.z _ _]
  rw[bv_all lm,hm,lm]
 rw[lp]
 exact⟨_,rfl,[.d 28 0],rfl,⟨_,rfl,rfl⟩,trivial⟩
theorem c_equal {n m:Nat} {va vb:List Value} {a b:List UInt8} (ha:va=bv a) (hb:vb=bv b) (la:a.length=n) (lb:b.length=m):Con C N.bytes_Equal [.z n va,.z m vb] [] (.ret (bool (decide (a=b)))) []:=by
 subst ha;subst hb
 refine con.bytes_Equal ?_
 refine⟨by rw[bv_len];exact la,_,rfl,?_⟩
 refine⟨by rw[bv_len];exact lb,_,rfl,?_⟩
 refine⟨_,rfl,[],congrArg bool ?_,trivial⟩
 exact str_beq _ _
theorem c_lastIdx {n:Nat} {vb:List Value} {b:List UInt8} (hv:vb=bv b) (hl:b.length=n) (hn:n≤1000):Con C N.bytealg_LastIndexByte [.z n vb,.s (.int .u8 128)] [] (.ret (i64 ((lastM b n:Int)-1))) []:=by
 subst hv
 refine con.bytealg_LastIndexByte ?_
 refine⟨Nat,fun j=>⟨[(0,.z n (bv b)),(1,.s (.int .u8 128)),(5,i64 ((j:Int)-1))],[]⟩,fun j=>j≤n∧lastM b n=lastM b j,fun j=>j,?_,fun j hj=> ?_⟩
 ·exact⟨[],n,⟨Zl _,rfl⟩,[],⟨rfl,rfl,congrArg (vi .i64) (by rw[Zd _ (by omega)]),trivial⟩,trivial⟩
 ·obtain⟨h1,h2⟩:=hj
  refine spl_d (fun hp=> ?_) (fun hp=> ?_)
  ·obtain⟨i,rfl⟩:∃i,j=i+1:=⟨j-1,by omega⟩
   have e1:(((i+1:Nat):Int)-1)=(i:Int):=by omega
   refine⟨by omega,by omega,.int .u8 ((b.getD i 0).toNat:Int),by rw[e1,Zb];exact bv_getD (by omega),?_⟩
   refine spl_eq (fun hz=> ?_) (fun hz=> ?_)
   ·have hz':b.getD i 0=128:=UInt8.toNat_inj.1 (by have:(128:UInt8).toNat=128:=rfl;omega)
    have e:lastM b (i+1)=i+1:=by unfold lastM;rw[if_pos hz']
    rw[h2,e]
    exact⟨_,rfl,[],rfl,trivial⟩
   ·have hz':¬b.getD i 0=128:=fun e=>hz (by rw[e];rfl)
    have e:lastM b (i+1)=lastM b i:=by rw[lastM,if_neg hz']
    exact⟨i,⟨by omega,by rw[h2,e]⟩,(by show i<i+1;omega),[],⟨rfl,rfl,congrArg (vi .i64) (by rw[e1,Zd _ (by omega)]),trivial⟩,trivial⟩
  ·obtain rfl:j=0:=by omega
   rw[h2]
   exact⟨_,rfl,[],rfl,trivial⟩
theorem c_lastIdx' {n:Nat} {vb:List Value} {b:List UInt8} (hv:vb=bv b) (hl:b.length=n) (hn:n≤1000):Con C N.bytes_LastIndexByte [.z n vb,.s (.int .u8 128)] [] (.ret (i64 ((lastM b n:Int)-1))) []:=by
 refine con.bytes_LastIndexByte ?_
 refine⟨[],_,_,_,_,c_lastIdx hv hl hn,rfl,rfl,?_⟩
 exact⟨_,rfl,[],rfl,trivial⟩
theorem c_long {kind:Int} {s:Nat} {vb:List Value} {b:List UInt8} (hv:vb=bv b) (hk:kind=1∨kind=2∨kind=3) (hs:s=8∨s=16) (hl:b.length=s):Con C N.pad_long [i64 kind,.z s vb] [] (.ret (i64 (pdLong kind b))) []:=by
 subst hv
 have w1:I6.wrap ((s:Int)-1)=((s-1:Nat):Int):=by rw[Zd _ (by omega)];omega
 obtain⟨y,hy⟩:∃y,y=b.getD (s-1) 0:=⟨_,rfl⟩
 have hv:(bv b)[(I6.wrap ((s:Int)-1)).toNat]? =some (.int .u8 (y.toNat:Int)):=by rw[w1,Zb,hy];exact bv_getD (by omega)
 obtain⟨c,hc⟩:∃c,c=y.toNat:=⟨_,rfl⟩
 have w2:I6.wrap (y.toNat:Int)=(c:Int):=by rw[u8_i64,hc]
 have hcb:c<256:=by rw[hc];exact y.toNat_lt
 have hC:∀k:Int,k≠2→pdCnt k b=c:=fun k hk=>by unfold pdCnt;rw[if_neg hk,hl,←hy,hc]
 refine con.pad_long ?_
 rcases hk with rfl|rfl|rfl
 ·have hP:pdLong 1 b=if c<1∨s<c∨b.drop (s-c)≠pdMade 1 c then 0 else c:=by
   unfold pdLong
   rw[hC 1 (by decide),hl]
   by_cases h1:c<1∨s<c∨b.drop (s-c)≠pdMade 1 c
   ·rw[if_pos h1,if_pos (by rcases h1 with h|h|h;exact .inl h;exact .inr (.inl h);exact .inr (.inr ⟨by decide,h⟩))]
   ·rw[if_neg h1,if_neg (fun h=>h1 (by rcases h with h|h|h;exact .inl h;exact .inr (.inl h);exact .inr (.inr h.2)))]
  refine⟨0,Unit,fun _=>⟨[],[]⟩,fun _=>False,fun _=>0,?_,fun x hx=>hx.elim⟩
  refine⟨by rw[w1];omega,by rw[w1];omega,_,hv,?_⟩
  refine spl_d (fun h=> ?_) (fun h=> ?_)
  ·rw[w2]at h
   refine⟨_,rfl,[],congrArg (vi .i64) ?_,trivial⟩
   rw[hP,if_pos (.inl (by omega))];rfl
  rw[w2]at h
  refine spl_d (fun h2=> ?_) (fun h2=> ?_)
  ·rw[w2]at h2
   refine⟨_,rfl,[],congrArg (vi .i64) ?_,trivial⟩
   rw[hP,if_pos (.inr (.inl (by omega)))];rfl
  rw[w2]at h2
  have w3:I6.wrap ((s:Int)-I6.wrap (y.toNat:Int))=((s-c:Nat):Int):=by rw[w2,Zd _ (by omega)];omega
  have lm:=pdMade_len (kind:=1) (n:=c) (by omega)
  have ld:(b.drop (s-c)).length=c:=by rw[Ze];omega
  refine⟨by rw[w3];omega,by rw[w3];omega,by first|omega|(rw [w3];omega),by first|omega|(rw [w3];omega),?_⟩
  refine⟨[],_,_,_,_,c_made (kind:=1) (n:=c) (.inl rfl) (by omega) (by omega),?_,rfl,?_⟩
  ·rw[w2];rfl
  refine⟨[],_,_,_,_,c_equal (a:=b.drop (s-c)) (b:=pdMade 1 c) (n:=c) (m:=c) (va:=bv (b.drop (s-c))) (vb:=bv (pdMade 1 c)) rfl rfl ld lm,?_,rfl,?_⟩
  ·rw[w3]
   show[V.z (s-(s-c)) (sub (bv b) (s-c) (s-(s-c))),V.z c (sub (bv (pdMade 1 c)) 0 c)]=_
   rw[bv_dropN hl (by omega),bv_all lm,show s-(s-c)=c by omega]
  refine spl_i (fun h3=> ?_) (fun h3=> ?_)
  ·refine⟨_,rfl,[],congrArg (vi .i64) ?_,trivial⟩
   rw[hP,if_pos (.inr (.inr (by simpa using h3)))];rfl
  ·refine⟨_,rfl,[],congrArg (vi .i64) ?_,trivial⟩
   rw[w2,hP,if_neg]
   rintro (h4|h4|h4)
   ·omega
   ·omega
   ·exact h4 (by simpa using h3)
 ·obtain⟨L,hL⟩:∃L,L=lastM b s:=⟨_,rfl⟩
  have hLs:L≤s:=by rw[hL];exact lastM_le b s
  obtain⟨e,he⟩:∃e,e=s+1-L:=⟨_,rfl⟩
  have hC2:pdCnt 2 b=e:=by unfold pdCnt;rw[if_pos rfl,hl,←hL,he]
  have hP:pdLong 2 b=if s<e∨b.drop (s-e)≠pdMade 2 e then 0 else e:=by
   unfold pdLong
   rw[hC2,hl]
   by_cases h1:s<e∨b.drop (s-e)≠pdMade 2 e
   ·rw[if_pos h1,if_pos (by rcases h1 with h|h;exact .inr (.inl h);exact .inr (.inr ⟨by decide,h⟩))]
   ·rw[if_neg h1,if_neg (fun h=>by
     rcases h with h|h|h
     ·omega
     ·exact h1 (.inl h)
     ·exact h1 (.inr h.2))]
  have w3:I6.wrap ((s:Int)-((lastM b s:Int)-1))=(e:Int):=by rw[←hL,Zd _ (by omega)];omega
  refine⟨0,Unit,fun _=>⟨[(0,i64 2),(1,.z s (bv b)),(5,i64 s)],[]⟩,fun _=>True,fun _=>0,?_,fun x hx=> ?_⟩
  ·refine⟨by rw[w1];omega,by rw[w1];omega,_,hv,?_⟩
   exact⟨rfl,(),trivial,[],⟨rfl,rfl,rfl,trivial⟩,trivial⟩
  ·refine⟨[],_,_,_,_,c_lastIdx' rfl hl (by omega),rfl,rfl,?_⟩
   refine spl_d (fun h2=> ?_) (fun h2=> ?_)
   ·rw[w3]at h2
    refine⟨_,rfl,[],congrArg (vi .i64) ?_,trivial⟩
    rw[hP,if_pos (.inl (by omega))];rfl
   rw[w3]at h2
   have w4:I6.wrap ((s:Int)-I6.wrap ((s:Int)-((lastM b s:Int)-1)))=((s-e:Nat):Int):=by rw[w3,Zd _ (by omega)];omega
   have lm:=pdMade_len (kind:=2) (n:=e) (by omega)
   have ld:(b.drop (s-e)).length=e:=by rw[Ze];omega
   refine⟨by rw[w4];omega,by rw[w4];omega,by first|omega|(rw [w4];omega),by first|omega|(rw [w4];omega),?_⟩
   refine⟨[],_,_,_,_,c_made (kind:=2) (n:=e) (.inr (.inl rfl)) (by omega) (by omega),?_,rfl,?_⟩
   ·rw[w3];rfl
   refine⟨[],_,_,_,_,c_equal (a:=b.drop (s-e)) (b:=pdMade 2 e) (n:=e) (m:=e) (va:=bv (b.drop (s-e))) (vb:=bv (pdMade 2 e)) rfl rfl ld lm,?_,rfl,?_⟩
   ·rw[w4]
    show[V.z (s-(s-e)) (sub (bv b) (s-e) (s-(s-e))),V.z e (sub (bv (pdMade 2 e)) 0 e)]=_
    rw[bv_dropN hl (by omega),bv_all lm,show s-(s-e)=e by omega]
   refine spl_i (fun h3=> ?_) (fun h3=> ?_)
   ·refine⟨_,rfl,[],congrArg (vi .i64) ?_,trivial⟩
    rw[hP,if_pos (.inr (by simpa using h3))];rfl
   ·refine⟨_,rfl,[],congrArg (vi .i64) ?_,trivial⟩
    rw[w3,hP,if_neg]
    rintro (h4|h4)
    ·omega
    ·exact h4 (by simpa using h3)
 ·have hP:pdLong 3 b=if c<1∨s<c then 0 else c:=by
   unfold pdLong
   rw[hC 3 (by decide),hl]
   by_cases h1:c<1∨s<c
   ·rw[if_pos h1,if_pos (by rcases h1 with h|h;exact .inl h;exact .inr (.inl h))]
   ·rw[if_neg h1,if_neg (fun h=>by
     rcases h with h|h|h
     ·exact h1 (.inl h)
     ·exact h1 (.inr h)
     ·exact h.1 rfl)]
  refine⟨0,Unit,fun _=>⟨[],[]⟩,fun _=>False,fun _=>0,?_,fun x hx=>hx.elim⟩
  refine⟨by rw[w1];omega,by rw[w1];omega,_,hv,?_⟩
  refine spl_d (fun h=> ?_) (fun h=> ?_)
  ·rw[w2]at h
   refine⟨_,rfl,[],congrArg (vi .i64) ?_,trivial⟩
   rw[hP,if_pos (.inl (by omega))];rfl
  rw[w2]at h
  refine spl_d (fun h2=> ?_) (fun h2=> ?_)
  ·rw[w2]at h2
   refine⟨_,rfl,[],congrArg (vi .i64) ?_,trivial⟩
   rw[hP,if_pos (.inr (by omega))];rfl
  rw[w2]at h2
  refine⟨_,rfl,[],congrArg (vi .i64) ?_,trivial⟩
  rw[w2,hP,if_neg]
  omega
theorem c_strip {kind:Int} {s:Nat} {vb:List Value} {b:List UInt8} (hv:vb=bv b) (hk:kind=1∨kind=2∨kind=3) (hs:s=8∨s=16) (hl:b.length=s) (h0:pdLong kind b≠0):Con C N.pad_Strip [i64 kind,i64 s,.z s vb] [] (.ret (.t [.z (s-pdLong kind b) (bv (pdStrip kind b)),i64 0])) []:=by
 subst hv
 have HL:=c_long (vb:=bv b) rfl hk hs hl
 have hle:=pdLong_le kind b
 have hst:pdStrip kind b=sub b 0 (s-pdLong kind b):=by unfold pdStrip;rw[hl];rfl
 rw[hst]
 generalize pdLong kind b=c at*
 have w1:I6.wrap ((s:Int)-(c:Int))=((s-c:Nat):Int):=by rw[Zd _ (by omega)];omega
 have lp:(sub b 0 (s-c)).length=s-c:=by rw[sub_length];omega
 have hv1:sub (bv b) 0 (s-c)=bv (sub b 0 (s-c)):=bv_sub _ _ _
 refine con.pad_Strip ?_
 refine⟨[],_,_,_,_,c_tell_y hk,rfl,rfl,?_⟩
 refine⟨[],_,_,_,_,c_sized_y hs,rfl,rfl,?_⟩
 refine spl_ne (fun h=>absurd rfl h) (fun _=> ?_)
 refine⟨[],_,_,_,_,HL,rfl,rfl,?_⟩
 refine spl_eq (fun h=>absurd h (by omega)) (fun _=> ?_)
 refine⟨by rw[w1];omega,by rw[w1];omega,by first|omega|(rw [w1];omega),by first|omega|(rw [w1];omega),?_⟩
 refine⟨[],_,_,_,_,c_cloneZ (n:=s-c) (va:=bv (sub b 0 (s-c))) rfl lp (by omega),?_,rfl,?_⟩
 ·rw[w1]
  show[V.z (s-c) (sub (bv b) 0 (s-c))]=_
  rw[hv1]
 exact⟨_,rfl,[],rfl,trivial⟩
theorem c_strip_no {kind:Int} {s:Nat} {vb:List Value} {b:List UInt8} (hv:vb=bv b) (hk:kind=1∨kind=2∨kind=3) (hs:s=8∨s=16) (hl:b.length=s) (h0:pdLong kind b=0):Con C N.pad_Strip [i64 kind,i64 s,.z s vb] [] (.ret (.t [nilv,i64 8])) []:=by
 subst hv
 have HL:=c_long (vb:=bv b) rfl hk hs hl
 rw[h0]at HL
 refine con.pad_Strip ?_
 refine⟨[],_,_,_,_,c_tell_y hk,rfl,rfl,?_⟩
 refine⟨[],_,_,_,_,c_sized_y hs,rfl,rfl,?_⟩
 refine spl_ne (fun h=>absurd rfl h) (fun _=> ?_)
 refine⟨[],_,_,_,_,HL,rfl,rfl,?_⟩
 exact⟨_,rfl,[],rfl,trivial⟩
def kindOf (mode:Int):Int:=if mode=1∨mode=2 then 1 else if 3≤mode∧mode≤6 then 2 else if 7≤mode∧mode≤9 then 3 else 0
theorem c_kind (mode:Int):Con C N.shot_kind [i64 mode] [] (.ret (i64 (kindOf mode))) []:=by
 refine con.shot_kind ?_
 by_cases hm:1≤mode∧mode≤9
 ·have h9:mode=1∨mode=2∨mode=3∨mode=4∨mode=5∨mode=6∨mode=7∨mode=8∨mode=9:=by omega
  rcases h9 with rfl|rfl|rfl|rfl|rfl|rfl|rfl|rfl|rfl<;>exact⟨_,rfl,[],rfl,trivial⟩
 ·have e:kindOf mode=0:=by unfold kindOf;rw[if_neg (by omega),if_neg (by omega),if_neg (by omega)]
  rw[e]
  refine spl_eq (fun h=>absurd h (by omega)) (fun _=> ?_)
  refine spl_eq (fun h=>absurd h (by omega)) (fun _=> ?_)
  refine spl_eq (fun h=>absurd h (by omega)) (fun _=> ?_)
  refine spl_eq (fun h=>absurd h (by omega)) (fun _=> ?_)
  refine spl_eq (fun h=>absurd h (by omega)) (fun _=> ?_)
  refine spl_eq (fun h=>absurd h (by omega)) (fun _=> ?_)
  refine spl_eq (fun h=>absurd h (by omega)) (fun _=> ?_)
  refine spl_eq (fun h=>absurd h (by omega)) (fun _=> ?_)
  refine spl_eq (fun h=>absurd h (by omega)) (fun _=> ?_)
  exact⟨_,rfl,[],rfl,trivial⟩
abbrev cfgV (t mode pad:Int) (back:Bool):V:= .a [i64 t,i64 mode,i64 pad,bool back]
theorem c_open_ok {t key s k xs rs} (h:Ciph t key s k xs rs) {mode pad:Int} {back:Bool} {li:Nat} {vk vi:List Value} (hvk:vk=bv key) (hm:1≤mode∧mode≤9) (hp:1≤pad∧pad≤4) (hpm:pad=4∨mode≤2) (hi:li=if mode=1 then 0 else s):
  Con C N.shot_open [cfgV t mode pad back,.z key.length vk,.z li vi] [] (.ret (.t [cipV t k xs,i64 0])) []:=by
 subst hvk
 have hs:=h.s_le
 refine con.shot_open ?_
 refine⟨_,rfl,?_⟩
 refine⟨[],_,_,_,_,h.new,rfl,rfl,?_⟩
 refine⟨_,rfl,?_⟩
 refine⟨[],_,_,_,_,c_kind mode,rfl,rfl,?_⟩
 refine⟨[],_,_,_,_,h.size,rfl,rfl,?_⟩
 refine⟨_,rfl,?_⟩
 have hk0:kindOf mode≠0:=by unfold kindOf;split;decide;split;decide;rw[if_pos (by omega)];decide
 have hk1:pad≠4→kindOf mode=1:=fun hp4=>by unfold kindOf;rw[if_pos (by omega)]
 refine spl_eq (fun h1=> ?_) (fun h1=> ?_)
 all_goals
  refine spl_eq (fun h=>absurd h hk0) (fun _=> ?_)
  refine⟨_,rfl,?_⟩
  refine spl_d (fun h=>absurd h (by omega)) (fun _=> ?_)
  refine⟨_,rfl,?_⟩
  refine spl_d (fun h=>absurd h (by omega)) (fun _=> ?_)
  refine⟨_,rfl,?_⟩
  refine spl_ne (fun h4=> ?_) (fun h4=> ?_)
  ·refine spl_ne (fun h=>absurd (hk1 h4) h) (fun _=> ?_)
   refine spl_ne (fun h=>absurd (show (li:Int)=_ by first|(rw [hi,if_pos h1];rfl)|rw[hi,if_neg h1]) h) (fun _=> ?_)
   exact⟨_,rfl,[],rfl,trivial⟩
  ·refine spl_ne (fun h=>absurd (show (li:Int)=_ by first|(rw [hi,if_pos h1];rfl)|rw[hi,if_neg h1]) h) (fun _=> ?_)
   exact⟨_,rfl,[],rfl,trivial⟩
theorem c_open_iv {t key s k xs rs} (h:Ciph t key s k xs rs) {mode pad:Int} {back:Bool} {li:Nat} {vk vi:List Value} (hvk:vk=bv key) (hm:1≤mode∧mode≤9) (hp:1≤pad∧pad≤4) (hpm:pad=4∨mode≤2) (hi:li≠if mode=1 then 0 else s):
  Con C N.shot_open [cfgV t mode pad back,.z key.length vk,.z li vi] [] (.ret (.t [nilp,i64 5])) []:=by
 subst hvk
 have hs:=h.s_le
 refine con.shot_open ?_
 refine⟨_,rfl,?_⟩
 refine⟨[],_,_,_,_,h.new,rfl,rfl,?_⟩
 refine⟨_,rfl,?_⟩
 refine⟨[],_,_,_,_,c_kind mode,rfl,rfl,?_⟩
 refine⟨[],_,_,_,_,h.size,rfl,rfl,?_⟩
 refine⟨_,rfl,?_⟩
 have hk0:kindOf mode≠0:=by unfold kindOf;split;decide;split;decide;rw[if_pos (by omega)];decide
 have hk1:pad≠4→kindOf mode=1:=fun hp4=>by unfold kindOf;rw[if_pos (by omega)]
 refine spl_eq (fun h1=> ?_) (fun h1=> ?_)
 all_goals
  refine spl_eq (fun h=>absurd h hk0) (fun _=> ?_)
  refine⟨_,rfl,?_⟩
  refine spl_d (fun h=>absurd h (by omega)) (fun _=> ?_)
  refine⟨_,rfl,?_⟩
  refine spl_d (fun h=>absurd h (by omega)) (fun _=> ?_)
  refine⟨_,rfl,?_⟩
  refine spl_ne (fun h4=> ?_) (fun h4=> ?_)
  ·refine spl_ne (fun h=>absurd (hk1 h4) h) (fun _=> ?_)
   refine spl_ne (fun _=> ?_) (fun h=>absurd ?_ hi)
   ·exact⟨_,rfl,[],rfl,trivial⟩
   ·simp only[h1,if_true,if_false];exact Jf.1 h
  ·refine spl_ne (fun _=> ?_) (fun h=>absurd ?_ hi)
   ·exact⟨_,rfl,[],rfl,trivial⟩
   ·simp only[h1,if_true,if_false];exact Jf.1 h
theorem c_open_new {t mode pad e:Int} {back:Bool} {lk li:Nat} {vk vi:List Value} (HN:Con C N.cipher_New [i64 t,.z lk vk] [] (.ret (.t [nilp,i64 e])) []) (he:e≠0):
  Con C N.shot_open [cfgV t mode pad back,.z lk vk,.z li vi] [] (.ret (.t [nilp,i64 e])) []:=by
 refine con.shot_open ?_
 refine⟨_,rfl,?_⟩
 refine⟨[],_,_,_,_,HN,rfl,rfl,?_⟩
 refine spl_ne (fun _=> ?_) (fun h=>absurd h he)
 exact⟨_,rfl,[],rfl,trivial⟩
theorem c_rcheck_ok {t key s k xs rs} (h:Ciph t key s k xs rs) {mode pad:Int} {back:Bool} {li:Nat} {vk vi:List Value} (hvk:vk=bv key) (hm:1≤mode∧mode≤9) (hp:1≤pad∧pad≤4) (hpm:pad=4∨mode≤2) (hi:li=if mode=1 then 0 else s):
  Con C N.r15_Check [cfgV t mode pad back,.z key.length vk,.z li vi] [] (.ret (i64 0)) []:=by
 subst hvk
 refine con.r15_Check ?_
 refine⟨_,rfl,?_⟩
 refine⟨[],_,_,_,_,h.rnew,rfl,rfl,?_⟩
 refine⟨_,rfl,?_⟩
 refine spl_d (fun h=>absurd h (by omega)) (fun _=> ?_)
 refine⟨_,rfl,?_⟩
 refine spl_d (fun h=>absurd h (by omega)) (fun _=> ?_)
 refine⟨_,rfl,?_⟩
 refine spl_d (fun h=>absurd h (by omega)) (fun _=> ?_)
 refine⟨_,rfl,?_⟩
 refine spl_d (fun h=>absurd h (by omega)) (fun _=> ?_)
 refine⟨_,rfl,?_⟩
 refine spl_ne (fun h4=> ?_) (fun h4=> ?_)
 ·refine⟨_,rfl,?_⟩
  refine spl_d (fun h=>absurd h (by omega)) (fun _=> ?_)
  refine⟨_,rfl,?_⟩
  refine⟨[],_,_,_,_,h.rS,rfl,rfl,?_⟩
  refine⟨_,rfl,?_⟩
  refine spl_eq (fun h1=> ?_) (fun h1=> ?_)
  all_goals
   refine spl_ne (fun h=>absurd (show (li:Int)=_ by first|(rw [hi,if_pos h1];rfl)|rw[hi,if_neg h1]) h) (fun _=> ?_)
   exact⟨_,rfl,[],rfl,trivial⟩
 ·refine⟨_,rfl,?_⟩
  refine⟨[],_,_,_,_,h.rS,rfl,rfl,?_⟩
  refine⟨_,rfl,?_⟩
  refine spl_eq (fun h1=> ?_) (fun h1=> ?_)
  all_goals
   refine spl_ne (fun h=>absurd (show (li:Int)=_ by first|(rw [hi,if_pos h1];rfl)|rw[hi,if_neg h1]) h) (fun _=> ?_)
   exact⟨_,rfl,[],rfl,trivial⟩
theorem c_rcheck_iv {t key s k xs rs} (h:Ciph t key s k xs rs) {mode pad:Int} {back:Bool} {li:Nat} {vk vi:List Value} (hvk:vk=bv key) (hm:1≤mode∧mode≤9) (hp:1≤pad∧pad≤4) (hpm:pad=4∨mode≤2) (hi:li≠if mode=1 then 0 else s):
  Con C N.r15_Check [cfgV t mode pad back,.z key.length vk,.z li vi] [] (.ret (i64 5)) []:=by
 subst hvk
 refine con.r15_Check ?_
 refine⟨_,rfl,?_⟩
 refine⟨[],_,_,_,_,h.rnew,rfl,rfl,?_⟩
 refine⟨_,rfl,?_⟩
 refine spl_d (fun h=>absurd h (by omega)) (fun _=> ?_)
 refine⟨_,rfl,?_⟩
 refine spl_d (fun h=>absurd h (by omega)) (fun _=> ?_)
 refine⟨_,rfl,?_⟩
 refine spl_d (fun h=>absurd h (by omega)) (fun _=> ?_)
 refine⟨_,rfl,?_⟩
 refine spl_d (fun h=>absurd h (by omega)) (fun _=> ?_)
 refine⟨_,rfl,?_⟩
 refine spl_ne (fun h4=> ?_) (fun h4=> ?_)
 ·refine⟨_,rfl,?_⟩
  refine spl_d (fun h=>absurd h (by omega)) (fun _=> ?_)
  refine⟨_,rfl,?_⟩
  refine⟨[],_,_,_,_,h.rS,rfl,rfl,?_⟩
  refine⟨_,rfl,?_⟩
  refine spl_eq (fun h1=> ?_) (fun h1=> ?_)
  all_goals
   refine spl_ne (fun _=> ?_) (fun h=>absurd ?_ hi)
   ·exact⟨_,rfl,[],rfl,trivial⟩
   ·simp only[h1,if_true,if_false];exact Jf.1 h
 ·refine⟨_,rfl,?_⟩
  refine⟨[],_,_,_,_,h.rS,rfl,rfl,?_⟩
  refine⟨_,rfl,?_⟩
  refine spl_eq (fun h1=> ?_) (fun h1=> ?_)
  all_goals
   refine spl_ne (fun _=> ?_) (fun h=>absurd ?_ hi)
   ·exact⟨_,rfl,[],rfl,trivial⟩
   ·simp only[h1,if_true,if_false];exact Jf.1 h
theorem c_rcheck_mode {t key s k xs rs} (h:Ciph t key s k xs rs) {mode pad:Int} {back:Bool} {li:Nat} {vk vi:List Value} (hvk:vk=bv key) (hb:¬((1≤mode∧mode≤9)∧(1≤pad∧pad≤4)∧(pad=4∨mode≤2))):
  Con C N.r15_Check [cfgV t mode pad back,.z key.length vk,.z li vi] [] (.ret (i64 3)) []:=by
 subst hvk
 refine con.r15_Check ?_
 refine⟨_,rfl,?_⟩
 refine⟨[],_,_,_,_,h.rnew,rfl,rfl,?_⟩
 refine⟨_,rfl,?_⟩
 refine spl_d (fun _=>⟨_,rfl,[],rfl,trivial⟩) (fun a1=> ?_)
 refine⟨_,rfl,?_⟩
 refine spl_d (fun _=>⟨_,rfl,[],rfl,trivial⟩) (fun a2=> ?_)
 refine⟨_,rfl,?_⟩
 refine spl_d (fun _=>⟨_,rfl,[],rfl,trivial⟩) (fun a3=> ?_)
 refine⟨_,rfl,?_⟩
 refine spl_d (fun _=>⟨_,rfl,[],rfl,trivial⟩) (fun a4=> ?_)
 refine⟨_,rfl,?_⟩
 refine spl_ne (fun h4=> ?_) (fun h4=> ?_)
 ·refine⟨_,rfl,?_⟩
  refine spl_d (fun _=>⟨_,rfl,[],rfl,trivial⟩) (fun a5=> ?_)
  exact absurd ⟨⟨by omega,by omega⟩,⟨by omega,by omega⟩,.inr (by omega)⟩ hb
 ·exact absurd ⟨⟨by omega,by omega⟩,⟨by omega,by omega⟩,.inl h4⟩ hb
theorem c_rcheck_new {t mode pad e:Int} {back:Bool} {lk li:Nat} {vk vi:List Value} (HN:Con C N.r11_New [i64 t,.z lk vk] [] (.ret (.t [nilp,i64 e])) []) (he:e≠0):
  Con C N.r15_Check [cfgV t mode pad back,.z lk vk,.z li vi] [] (.ret (i64 e)) []:=by
 refine con.r15_Check ?_
 refine⟨_,rfl,?_⟩
 refine⟨[],_,_,_,_,HN,rfl,rfl,?_⟩
 refine spl_ne (fun _=> ?_) (fun h=>absurd h he)
 exact⟨_,rfl,[],rfl,trivial⟩
theorem c_open_mode {t key s k xs rs} (h:Ciph t key s k xs rs) {mode pad:Int} {back:Bool} {li:Nat} {vk vi:List Value} (hvk:vk=bv key) (hb:¬((1≤mode∧mode≤9)∧(1≤pad∧pad≤4)∧(pad=4∨mode≤2))):
  Con C N.shot_open [cfgV t mode pad back,.z key.length vk,.z li vi] [] (.ret (.t [nilp,i64 3])) []:=by
 subst hvk
 have hs:=h.s_le
 have hk0:(1≤mode∧mode≤9)→kindOf mode≠0:=fun hm=>by unfold kindOf;split;decide;split;decide;rw[if_pos (by omega)];decide
 have hkz:¬(1≤mode∧mode≤9)→kindOf mode=0:=fun hm=>by unfold kindOf;rw[if_neg (by omega),if_neg (by omega),if_neg (by omega)]
 have hk1:kindOf mode=1→mode≤2:=fun hh=>by
  unfold kindOf at hh
  split at hh
  ·omega
  ·split at hh
   ·exact absurd hh (by decide)
   ·split at hh<;>exact absurd hh (by decide)
 refine con.shot_open ?_
 refine⟨_,rfl,?_⟩
 refine⟨[],_,_,_,_,h.new,rfl,rfl,?_⟩
 refine⟨_,rfl,?_⟩
 refine⟨[],_,_,_,_,c_kind mode,rfl,rfl,?_⟩
 refine⟨[],_,_,_,_,h.size,rfl,rfl,?_⟩
 refine⟨_,rfl,?_⟩
 refine spl_eq (fun h1=> ?_) (fun h1=> ?_)
 all_goals
  refine spl_eq (fun hz=> ?_) (fun hz=> ?_)
  ·refine spl_eq (fun _=>⟨_,rfl,[],rfl,trivial⟩) (fun h=>absurd hz h)
  refine⟨_,rfl,?_⟩
  refine spl_d (fun hz2=> ?_) (fun a3=> ?_)
  ·refine spl_d (fun _=>⟨_,rfl,[],rfl,trivial⟩) (fun h=>absurd hz2 h)
  refine⟨_,rfl,?_⟩
  refine spl_d (fun hz2=> ?_) (fun a4=> ?_)
  ·refine spl_d (fun _=>⟨_,rfl,[],rfl,trivial⟩) (fun h=>absurd hz2 h)
  refine⟨_,rfl,?_⟩
  refine spl_ne (fun h4=> ?_) (fun h4=> ?_)
  ·refine spl_ne (fun _=>⟨_,rfl,[],rfl,trivial⟩) (fun hk=> ?_)
   have:=hk1 hk
   have hm:1≤mode∧mode≤9:=Classical.byContradiction fun x=>hz (hkz x)
   exact absurd ⟨hm,⟨by omega,by omega⟩,.inr this⟩ hb
  ·have hm:1≤mode∧mode≤9:=Classical.byContradiction fun x=>hz (hkz x)
   exact absurd ⟨hm,⟨by omega,by omega⟩,.inl h4⟩ hb
theorem Ciph.s_two {t key s k xs rs} (h:Ciph t key s k xs rs):s=8∨s=16:=by
 have:=h.hs
 rcases h.ht with e|e|e|e|e|e|e|e<;>(subst e;simp[cSize]at this;omega)
theorem shot_cases (t:Int) {key:List UInt8} {lk:Nat} (hk:key.length=lk) (hlk:lk≤1000) (mode pad:Int) (back:Bool) {iv:List UInt8} {li:Nat} (hi:iv.length=li):
  (shErr t mode pad (cSize t).toNat lk li=0∧∃s k xs rs,Ciph t key s k xs rs∧shOk s mode pad iv)∨
  (shErr t mode pad (cSize t).toNat lk li≠0∧Con C N.shot_open [cfgV t mode pad back,.z lk (bv key),.z li (bv iv)] [] (.ret (.t [nilp,i64 (shErr t mode pad (cSize t).toNat lk li)])) []∧
   Con C N.r15_Check [cfgV t mode pad back,.z lk (bv key),.z li (bv iv)] [] (.ret (i64 (shErr t mode pad (cSize t).toNat lk li))) []):=by
 subst hk;subst hi
 by_cases ht:okTag t
 ·by_cases hv:(key.length:Int)∈cLens t
  ·obtain⟨s,k,xs,rs,h⟩:=ciph_ok (key:=key) ht hv
   have hs:(cSize t).toNat=s:=by rw[h.hs,Zb]
   rw[hs]
   by_cases hmp:(1≤mode∧mode≤9)∧(1≤pad∧pad≤4)∧(pad=4∨mode≤2)
   ·by_cases hli:iv.length=if mode=1 then 0 else s
    ·left
     refine⟨?_,s,k,xs,rs,h,hmp.1,hmp.2.1,hmp.2.2,hli⟩
     unfold shErr
     rw[if_neg (by exact fun x=>x ht),if_neg (by exact fun x=>x hv),if_neg (by exact fun x=>x hmp),if_neg (by exact fun x=>x hli)]
    ·right
     have e:shErr t mode pad s key.length iv.length=5:=by
      unfold shErr
      rw[if_neg (by exact fun x=>x ht),if_neg (by exact fun x=>x hv),if_neg (by exact fun x=>x hmp),if_pos hli]
     rw[e]
     exact⟨by decide,c_open_iv h rfl hmp.1 hmp.2.1 hmp.2.2 hli,c_rcheck_iv h rfl hmp.1 hmp.2.1 hmp.2.2 hli⟩
   ·right
    have e:shErr t mode pad s key.length iv.length=3:=by
     unfold shErr
     rw[if_neg (by exact fun x=>x ht),if_neg (by exact fun x=>x hv),if_pos hmp]
    rw[e]
    exact⟨by decide,c_open_mode h rfl hmp,c_rcheck_mode h rfl hmp⟩
  ·right
   have e:shErr t mode pad (cSize t).toNat key.length iv.length=4:=by
    unfold shErr
    rw[if_neg (by exact fun x=>x ht),if_pos hv]
   rw[e]
   exact⟨by decide,c_open_new (c_new_badkey ht (by omega) hv) (by decide),c_rcheck_new (c_r11_new_badkey ht hv) (by decide)⟩
 ·right
  have e:shErr t mode pad (cSize t).toNat key.length iv.length=2:=by
   unfold shErr
   rw[if_pos ht]
  rw[e]
  exact⟨by decide,c_open_new (c_new_badtag ht) (by decide),c_rcheck_new (c_r11_new_badtag ht) (by decide)⟩
theorem c_w15 {a n:Int} (hn:0<n) (hn2:n≤4611686018427387904) (ha: -9223372036854775808≤a∧a≤9223372036854775807):Con C N.law15_within [i64 a,i64 n] [] (.ret (i64 (a%n))) []:=by
 refine con.law15_within ?_
 have h1: -n<a.tmod n:=Ja a hn
 have h2:a.tmod n<n:=Z9 a hn
 refine⟨by omega,?_⟩
 refine spl_d (fun h=> ?_) (fun h=> ?_)
 ·refine⟨_,rfl,[],congrArg (vi .i64) ?_,trivial⟩
  rw[Zd _ (by omega)]
  rw[←rest_eq a n hn,Zh (a:=a.tmod n+n) (by omega),Zt (by omega) (by omega)]
 ·refine⟨_,rfl,[],congrArg (vi .i64) ?_,trivial⟩
  rw[←rest_eq a n hn,Zh (a:=a.tmod n+n) (by omega),Jb,Zt (by omega) (by omega)]
abbrev askV (tag n mode pad:Int) (back:Bool) (lk:Nat) (k:List UInt8) (li:Nat) (iv:List UInt8):V:= .a [i64 tag,i64 n,i64 mode,i64 pad,bool back,.z lk (bv k),.z li (bv iv)]
abbrev In64 (a:Int):Prop:= -9223372036854775808≤a∧a≤9223372036854775807
theorem c_few_y {tag n mode pad:Int} {back:Bool} {lk li:Nat} {k iv:List UInt8} (h:lk≤100∧li≤100):Con C N.law15_Ask_Few [askV tag n mode pad back lk k li iv] [] (.ret (bool true)) []:=by
 refine con.law15_Ask_Few ?_
 refine⟨_,rfl,?_⟩
 refine spl_d (fun _=> ?_) (fun hh=>absurd hh (by omega))
 refine⟨_,rfl,?_⟩
 exact⟨_,rfl,[],congrArg bool (decide_eq_true (by omega)),trivial⟩
theorem c_few_n {tag n mode pad:Int} {back:Bool} {lk li:Nat} {k iv:List UInt8} (h:¬(lk≤100∧li≤100)):Con C N.law15_Ask_Few [askV tag n mode pad back lk k li iv] [] (.ret (bool false)) []:=by
 refine con.law15_Ask_Few ?_
 refine⟨_,rfl,?_⟩
 refine spl_d (fun _=> ?_) (fun hh=> ?_)
 ·refine⟨_,rfl,?_⟩
  exact⟨_,rfl,[],congrArg bool (decide_eq_false (by omega)),trivial⟩
 ·exact⟨_,rfl,[],rfl,trivial⟩
def akMode (mode:Int):Int:=1+mode%9
def akPad (mode pad:Int):Int:=if akMode mode≤2 then 1+pad%4 else 4
theorem akMode_in (mode:Int):1≤akMode mode∧akMode mode≤9:=by unfold akMode;omega
theorem akPad_in (mode pad:Int):(1≤akPad mode pad∧akPad mode pad≤4)∧(akPad mode pad=4∨akMode mode≤2):=by
 unfold akPad
 split
 ·omega
 ·exact⟨by decide,.inl rfl⟩
theorem ak_ok (mode pad:Int) (s:Nat) (iv:List UInt8):shOk s (akMode mode) (akPad mode pad) (ivL (akMode mode) s iv):=
 ⟨akMode_in _,(akPad_in mode pad).1,(akPad_in mode pad).2,ivL_len _ _ _⟩
theorem c_askmake {tag n mode pad:Int} {back:Bool} {lk li s:Nat} {k iv:List UInt8} (h0:In64 tag) (h1:In64 n) (h2:In64 mode) (h3:In64 pad) (hk:k.length=lk) (hi:iv.length=li) (hs:cSize (tagOf tag)=s) (hs2:s≤16):
  Con C N.law15_Ask_Make [askV tag n mode pad back lk k li iv] [] (.ret (.t [cfgV (tagOf tag) (akMode mode) (akPad mode pad) back,.z (kLen (tagOf tag) n) (bv (keyOf (tagOf tag) n k)),.z (ivN (akMode mode) s) (bv (ivL (akMode mode) s iv))])) []:=by
 have e1:I6.wrap (1+mode%9)=akMode mode:=by rw[Zd _ (by omega)];rfl
 have e2:I6.wrap (1+pad%4)=1+pad%4:=by rw[Zd _ (by omega)]
 have hR:Con C N.r11_Size [i64 (tagOf tag)] [] (.ret (i64 s)) []:=by rw[←hs];exact c_r11_size (tagOf_ok _)
 refine con.law15_Ask_Make ?_
 refine⟨_,rfl,?_⟩
 refine⟨[],_,_,_,_,c_tag h0,rfl,rfl,?_⟩
 refine⟨_,rfl,?_⟩
 refine⟨[],_,_,_,_,c_w15 (a:=mode) (n:=9) (by omega) (by omega) h2,rfl,rfl,?_⟩
 refine⟨_,rfl,?_⟩
 refine⟨Za rfl,?_⟩
 refine⟨_,rfl,?_⟩
 have hL:∀{vk:List Value},vk=bv k→Con C N.law11_Key [i64 (tagOf tag),i64 n,.z lk vk] [] (.ret (.z (kLen (tagOf tag) n) (bv (keyOf (tagOf tag) n k)))) []:=fun e=>c_keyF (tagOf_ok _) h1 e hk
 have hI:=c_iv (mode:=akMode mode) (s:=s) (vb:=bv iv) rfl hi (by omega)
 refine spl_d (fun hm=> ?_) (fun hm=> ?_)
 ·rw[e1]at hm
  refine⟨_,rfl,?_⟩
  refine⟨[],_,_,_,_,c_w15 (a:=pad) (n:=4) (by omega) (by omega) h3,rfl,rfl,?_⟩
  refine⟨Za rfl,?_⟩
  rw[e1,e2]
  have hp:akPad mode pad=1+pad%4:=if_pos hm
  rw[hp]
  refine⟨[i64 (tagOf tag),i64 (akMode mode),i64 (1+pad%4),bool back],rfl,rfl,?_⟩
  refine⟨_,rfl,?_⟩
  refine⟨_,rfl,?_⟩
  refine⟨[],_,_,_,_,hL rfl,rfl,rfl,?_⟩
  refine⟨_,rfl,?_⟩
  refine⟨[],_,_,_,_,hR,rfl,rfl,?_⟩
  refine⟨_,rfl,?_⟩
  refine⟨[],_,_,_,_,hI,rfl,rfl,?_⟩
  refine⟨Za rfl,?_⟩
  refine⟨[i64 (tagOf tag),i64 (akMode mode),i64 (1+pad%4),bool back],rfl,rfl,?_⟩
  exact⟨_,rfl,[],rfl,trivial⟩
 ·rw[e1]at hm
  rw[e1]
  have hp:akPad mode pad=4:=if_neg hm
  rw[hp]
  refine⟨[i64 (tagOf tag),i64 (akMode mode),i64 4,bool back],rfl,rfl,?_⟩
  refine⟨_,rfl,?_⟩
  refine⟨_,rfl,?_⟩
  refine⟨[],_,_,_,_,hL rfl,rfl,rfl,?_⟩
  refine⟨_,rfl,?_⟩
  refine⟨[],_,_,_,_,hR,rfl,rfl,?_⟩
  refine⟨_,rfl,?_⟩
  refine⟨[],_,_,_,_,hI,rfl,rfl,?_⟩
  refine⟨Za rfl,?_⟩
  refine⟨[i64 (tagOf tag),i64 (akMode mode),i64 4,bool back],rfl,rfl,?_⟩
  exact⟨_,rfl,[],rfl,trivial⟩
def akLen (n:Int) (s l:Nat):Nat:=if 0<(n.tdiv 3)%3 then l/s*s else l
abbrev akMsg (n:Int) (s:Nat) (m:List UInt8):List UInt8:=m.take (akLen n s m.length)
theorem div_mul_wrap {l s:Nat} (hs:0<s) (hl:l≤1000):I6.wrap (I6.wrap ((l:Int).tdiv s)*s)=((l/s*s:Nat):Int):=by
 have h1:=Nat.div_le_self l s
 have h2:=Nat.div_mul_le_self l s
 have e:(l:Int).tdiv s=((l/s:Nat):Int):=by rw[Int.tdiv_eq_ediv_of_nonneg (by omega)];rfl
 rw[e]
 clear e
 generalize l/s=q at h1 h2 ⊢
 rw[Zd (q:Int) (by omega),←Int.natCast_mul,Zd _ (by omega)]
theorem c_size15 {tag n mode pad:Int} {back:Bool} {lk li s l:Nat} {k iv b:List UInt8} (h0:In64 tag) (h1:In64 n) (hs:cSize (tagOf tag)=s) (hs2:0<s∧s≤16) (hb:b.length=l) (hl:l≤1000):
  Con C N.law15_Ask_Size [askV tag n mode pad back lk k li iv,.z l (bv b)] [] (.ret (.z (akLen n s l) (bv (akMsg n s b)))) []:=by
 have hR:Con C N.r11_Size [i64 (tagOf tag)] [] (.ret (i64 s)) []:=by rw[←hs];exact c_r11_size (tagOf_ok _)
 have h3: -9223372036854775808≤n.tdiv 3∧n.tdiv 3≤9223372036854775807:=by
  have e:Int.sign 3=1:=rfl
  rw[Int.tdiv_eq_ediv,e];split<;>omega
 refine con.law15_Ask_Size ?_
 refine⟨_,rfl,?_⟩
 refine⟨[],_,_,_,_,c_tag h0,rfl,rfl,?_⟩
 refine⟨[],_,_,_,_,hR,rfl,rfl,?_⟩
 refine⟨_,rfl,?_⟩
 have e3:I6.wrap (n.tdiv 3)=n.tdiv 3:=Zd _ (by omega)
 refine⟨by omega,?_⟩
 refine⟨[],_,_,_,_,c_w15 (a:=I6.wrap (n.tdiv 3)) (n:=3) (by omega) (by omega) (by rw[e3];exact h3),rfl,rfl,?_⟩
 rw[e3]
 refine spl_d (fun hm=> ?_) (fun hm=> ?_)
 ·have hq:l/s*s≤l:=Nat.div_mul_le_self _ _
  have hv:=div_mul_wrap (l:=l) (s:=s) (by omega) hl
  refine⟨by omega,?_⟩
  refine⟨by rw[hv];omega,by rw[hv];omega,by rw[hv];omega,by rw[hv];omega,?_⟩
  refine⟨_,rfl,[],?_,trivial⟩
  have e4:akLen n s l=l/s*s:=if_pos hm
  show V.z ((I6.wrap (I6.wrap ((l:Int).tdiv s)*s)).toNat-0) (sub (bv b) 0 ((I6.wrap (I6.wrap ((l:Int).tdiv s)*s)).toNat-0))=_
  rw[hv,e4,Zb,Nat.sub_zero,akMsg,hb,e4,bv_sub]
  rfl
 ·refine⟨_,rfl,[],?_,trivial⟩
  have e4:akLen n s l=l:=if_neg hm
  rw[akMsg,hb,e4,Z4 (by omega)]
  rfl
theorem check_both (t:Int) {key:List UInt8} {lk:Nat} (hk:key.length=lk) (hlk:lk≤1000) (mode pad:Int) (back:Bool) {iv:List UInt8} {li:Nat} (hi:iv.length=li):
  Con C N.shot_Check [cfgV t mode pad back,.z lk (bv key),.z li (bv iv)] [] (.ret (i64 (shErr t mode pad (cSize t).toNat lk li))) []∧
  Con C N.r15_Check [cfgV t mode pad back,.z lk (bv key),.z li (bv iv)] [] (.ret (i64 (shErr t mode pad (cSize t).toNat lk li))) []:=by
 rcases shot_cases t hk hlk mode pad back hi with ⟨e,s,k,xs,rs,h,ok⟩|⟨he,P,Q⟩
 ·obtain⟨o1,o2,o3,o4⟩:=ok
  subst hk;subst hi
  have P:=c_open_ok h (back:=back) (vi:=bv iv) rfl o1 o2 o3 o4
  have Q:=c_rcheck_ok h (back:=back) (vi:=bv iv) rfl o1 o2 o3 o4
  rw[e]
  refine⟨?_,Q⟩
  refine con.shot_Check ?_
  refine⟨[i64 t,i64 mode,i64 pad,bool back],rfl,rfl,?_⟩
  refine⟨[],_,_,_,_,P,rfl,rfl,?_⟩
  exact⟨_,rfl,[],rfl,trivial⟩
 ·refine⟨?_,Q⟩
  generalize shErr t mode pad (cSize t).toNat lk li=e at*
  refine con.shot_Check ?_
  refine⟨[i64 t,i64 mode,i64 pad,bool back],rfl,rfl,?_⟩
  refine⟨[],_,_,_,_,P,rfl,rfl,?_⟩
  exact⟨_,rfl,[],rfl,trivial⟩
theorem caught_idle (x y:Value) (w:World):
  CallsD PP N.ctx_caught #[x,y] .returning w fun e u' w'=>e= .returned (.tuple #[])∧u'= .returning∧w'=w:=by
 refine callsD_of_wpS fd.ctx_caught.f rfl fun c₀ cs hu=> ?_
 apply wpS_seq
 apply wpS_region
 simp[wpOpsS,go_sem,recoverD,hu,Exit.thenS]
 refine wpS_of_wp ?_
 refine wp_block ?_
 refine wp_seq ?_
 refine wp_region ?_
 simp[wpOps,go_sem,Exit.then]
 refine .inl ?_
 refine wp_cond (t:=true) ?_ ?_
 ·simp[go_sem]
 simp only[if_true]
 refine wp_region ?_
 simp[wpOps,go_sem,Exit.then,bodyPostS,results]
 cases c₀
 simp_all
theorem caught_pan (p q:Addr) (n:Int) (w:World) (h1:(w.cell? p).isSome=true) (h2:w.frozen? p=false) (h3:((w.setCell p (.slice none 0 0)).cell? q).isSome=true) (h4:(w.setCell p (.slice none 0 0)).frozen? q=false):
  CallsD PP N.ctx_caught #[.pointer (some p),.pointer (some q)] (.panicking [{v:= .iface tRef (.int .i64 n),recovered:=false}]) w fun e u' w'=>
   e= .returned (.tuple #[])∧u'= .panicking [{v:= .iface tRef (.int .i64 n),recovered:=true}]∧w'=(w.setCell p (.slice none 0 0)).setCell q (.int .i64 n):=by
 obtain⟨x1,hx1⟩:=Je.1 h1
 obtain⟨x2,hx2⟩:=Je.1 h3
 have hta:∀(v:Value) (w:World),(Instr.typeAssert (.iface tRef v) tAny tRef true).run PP w= .ok (.tuple #[v,.bool true]) w:=fun v w=>by kernel_rfl
 refine callsD_of_wpS fd.ctx_caught.f rfl fun c₀ cs hu=> ?_
 apply wpS_seq
 apply wpS_region
 simp[wpOpsS,go_sem,recoverD,hu,Exit.thenS]
 refine wpS_of_wp ?_
 refine wp_block ?_
 refine wp_seq ?_
 refine wp_region ?_
 simp[wpOps,go_sem,Exit.then]
 refine .inl ?_
 refine wp_cond (t:=false) ?_ ?_
 ·simp[go_sem]
 simp only[if_false,Bool.false_eq_true]
 refine wp_seq ?_
 refine wp_region ?_
 simp[wpOps,go_sem,Exit.then,hta]
 refine .inl (.inl (.inl ?_))
 refine wp_cond (t:=true) ?_ ?_
 ·simp[go_sem]
 simp only[if_true]
 refine wp_seq ?_
 refine wp_region ?_
 simp[wpOps,go_sem,Exit.then]
 refine .inl ?_
 refine wp_region ?_
 simp[wpOps,go_sem,Exit.then,hx1,h2,hx2,h4,bodyPostS,results]
theorem caughtOk:Catch PP N.ctx_caught tRef:=⟨fun z w=>callFunc_enter fd.ctx_caught.f fd.ctx_caught.name rfl z w,caught_idle,caught_pan⟩
theorem c_refuse0:Con C N.ctx_refuse [i64 0] [] (.ret (.t [])) []:=by
 refine con.ctx_refuse ?_
 exact⟨_,rfl,[],rfl,trivial⟩
theorem c_refuse {e:Int} (h:e≠0):Con C N.ctx_refuse [i64 e] [] (.pan (.i tRef (i64 e))) []:=by
 refine con.ctx_refuse ?_
 refine spl_ne (fun _=> ?_) (fun hh=>absurd hh h)
 exact⟨_,rfl,[],rfl,trivial⟩
abbrev cxX (bg op:Bool) (t mode pad:Int) (back:Bool) (cv iv by' held last:V):B:= .mx [bool bg,bool op,i64 t,i64 mode,i64 pad,bool back,cv,iv,by',held,last]
theorem c_cxnew:Con C N.ctx_New [] [] (.ret (.p (.k 0) 0)) [cxX false false 0 0 0 false nilp nilv nilp nilv nilv]:=by
 refine con.ctx_New ?_
 exact⟨_,rfl,[.d 2 0],rfl,⟨_,rfl,rfl⟩,trivial⟩
inductive HK where
 |n
 |o (H:List UInt8)
 |f (H:List UInt8)
def HK.v:HK→V
 | .n=>nilv
 | .o H=> .o 1 (.k 3) 0 H.length
 | .f H=> .z H.length (bv H)
def HK.b:HK→B
 | .o H=> .sc (bv H)
 |_=> .dead
def HK.l:HK→List UInt8
 | .n=>[]
 | .o H=>H
 | .f H=>H
abbrev cxO (op:Bool) (t mode pad:Int) (back:Bool) (k:Nat) (xs:List V) (iv:List UInt8) (x:HK) (last:List UInt8):B:=cxX true op t mode pad back (cipV t k xs) (.z iv.length (bv iv)) (.p (.k 1) 0) x.v (.z last.length (bv last))
theorem c_cxheld {t mode pad md:Int} {op back:Bool} {k:Nat} {xs:List V} {iv last:List UInt8} {st:MS} {x:HK}:Con C N.ctx_Ctx_Held [.p (.k 0) 0] [cxO op t mode pad back k xs iv x last,moX (cipV t k xs) md back st 2,gnB st.row st.gone,x.b] (.ret (i64 x.l.length)) [cxO op t mode pad back k xs iv x last,moX (cipV t k xs) md back st 2,gnB st.row st.gone,x.b]:=by
 obtain⟨ch,row,g⟩:=st;rcases row with _|⟨a,r⟩<;>rcases x with _|H|H
 all_goals
  refine con.ctx_Ctx_Held ?_
  refine⟨_,rfl,?_⟩
  exact⟨_,rfl,[.k 0,.k 1,.k 2,.k 3],rfl,⟨_,rfl,rfl⟩,⟨_,rfl,rfl⟩,⟨_,rfl,rfl⟩,⟨_,rfl,rfl⟩,trivial⟩
theorem c_cxneed {t mode pad md:Int} {back:Bool} {k:Nat} {xs:List V} {iv last:List UInt8} {st:MS} {x:HK}:Con C N.ctx_Ctx_need [.p (.k 0) 0] [cxO true t mode pad back k xs iv x last,moX (cipV t k xs) md back st 2,gnB st.row st.gone,x.b] (.ret (.t [])) [cxO true t mode pad back k xs iv x last,moX (cipV t k xs) md back st 2,gnB st.row st.gone,x.b]:=by
 obtain⟨ch,row,g⟩:=st;rcases row with _|⟨a,r⟩<;>rcases x with _|H|H
 all_goals
  refine con.ctx_Ctx_need ?_
  refine⟨_,rfl,?_⟩
  exact⟨_,rfl,[.k 0,.k 1,.k 2,.k 3],rfl,⟨_,rfl,rfl⟩,⟨_,rfl,rfl⟩,⟨_,rfl,rfl⟩,⟨_,rfl,rfl⟩,trivial⟩
theorem c_cxstolen {t mode pad md:Int} {op back:Bool} {k:Nat} {xs:List V} {iv last:List UInt8} {st:MS} {x:HK} (hm:mode≤9):Con C N.ctx_Ctx_stolen [.p (.k 0) 0] [cxO op t mode pad back k xs iv x last,moX (cipV t k xs) md back st 2,gnB st.row st.gone,x.b] (.ret (bool (decide (7≤mode)))) [cxO op t mode pad back k xs iv x last,moX (cipV t k xs) md back st 2,gnB st.row st.gone,x.b]:=by
 obtain⟨ch,row,g⟩:=st;rcases row with _|⟨a,r⟩<;>rcases x with _|H|H
 all_goals
  refine con.ctx_Ctx_stolen ?_
  refine⟨_,rfl,?_⟩
  refine spl_d (fun h7=> ?_) (fun h7=> ?_)
  ·refine⟨_,rfl,?_⟩
   refine⟨_,rfl,[.k 0,.k 1,.k 2,.k 3],?_,⟨_,rfl,rfl⟩,⟨_,rfl,rfl⟩,⟨_,rfl,rfl⟩,⟨_,rfl,rfl⟩,trivial⟩
   exact congrArg bool (by rw[decide_eq_true hm,decide_eq_true h7])
  ·refine⟨_,rfl,[.k 0,.k 1,.k 2,.k 3],?_,⟨_,rfl,rfl⟩,⟨_,rfl,rfl⟩,⟨_,rfl,rfl⟩,⟨_,rfl,rfl⟩,trivial⟩
   exact congrArg bool (by rw[decide_eq_false h7])
def cxMost (s:Nat) (md mode pad:Int) (back:Bool):Nat:=if 3≤md then 0 else if 7≤mode then 2*s else if pad≠4∧back=true then s else s-1
theorem c_cxmost {t key s k xs rs} (h:Ciph t key s k xs rs) {mode pad md:Int} {op back:Bool} {iv last:List UInt8} {st:MS} {x:HK} (K:MK s md st) (hm:mode≤9):
  Con C N.ctx_Ctx_most [.p (.k 0) 0] [cxO op t mode pad back k xs iv x last,moX (cipV t k xs) md back st 2,gnB st.row st.gone,x.b] (.ret (i64 (cxMost s md mode pad back))) [cxO op t mode pad back k xs iv x last,moX (cipV t k xs) md back st 2,gnB st.row st.gone,x.b]:=by
 have hs:=h.s_le
 have G:=c_grainA h (back:=back) K
 have S:=c_cxstolen (t:=t) (mode:=mode) (pad:=pad) (md:=md) (op:=op) (back:=back) (k:=k) (xs:=xs) (iv:=iv) (last:=last) (st:=st) (x:=x) hm
 have hg:moGrain s md=if 3≤md then 1 else s:=by
  have:=K.ok.m
  unfold moGrain
  by_cases h3:3≤md
  ·rw[if_pos h3,if_neg (by omega)]
  ·rw[if_neg h3,if_pos (by omega)]
 generalize moGrain s md=gr at*
 have e2:I6.wrap (2*(s:Int))=((2*s:Nat):Int):=by rw[Zd _ (by omega)];omega
 have e3:I6.wrap ((s:Int)-1)=((s-1:Nat):Int):=by rw[Zd _ (by omega)];omega
 obtain⟨ch,row,g⟩:=st;rcases row with _|⟨a,r⟩<;>rcases x with _|H|H
 all_goals
  refine con.ctx_Ctx_most ?_
  refine⟨_,rfl,?_⟩
  refine⟨[],_,_,_,_,h.size,rfl,rfl,?_⟩
  refine⟨_,rfl,?_⟩
  refine⟨[.k 1,.k 2],_,_,_,_,G,rfl,rfl,?_⟩
  by_cases h3:3≤md
  ·rw[if_pos h3]at hg
   refine spl_eq (fun _=> ?_) (fun hh=>absurd (by omega) hh)
   refine⟨_,rfl,[.k 0,.k 1,.k 2,.k 3],?_,⟨_,rfl,rfl⟩,⟨_,rfl,rfl⟩,⟨_,rfl,rfl⟩,⟨_,rfl,rfl⟩,trivial⟩
   exact congrArg (vi .i64) (by unfold cxMost;rw[if_pos h3];rfl)
  ·rw[if_neg h3]at hg
   refine spl_eq (fun hh=>absurd hh (by omega)) (fun _=> ?_)
   refine⟨[.k 0,.k 1,.k 2,.k 3],_,_,_,_,S,rfl,rfl,?_⟩
   refine spl_d (fun h7=> ?_) (fun h7=> ?_)
   ·refine⟨_,rfl,[.k 0,.k 1,.k 2,.k 3],?_,⟨_,rfl,rfl⟩,⟨_,rfl,rfl⟩,⟨_,rfl,rfl⟩,⟨_,rfl,rfl⟩,trivial⟩
    exact congrArg (vi .i64) (by unfold cxMost;rw[if_neg h3,if_pos h7];exact e2)
   ·refine⟨_,rfl,?_⟩
    refine spl_ne (fun h4=> ?_) (fun h4=> ?_)
    ·refine⟨_,rfl,?_⟩
     cases back
     ·refine⟨_,rfl,[.k 0,.k 1,.k 2,.k 3],?_,⟨_,rfl,rfl⟩,⟨_,rfl,rfl⟩,⟨_,rfl,rfl⟩,⟨_,rfl,rfl⟩,trivial⟩
      exact congrArg (vi .i64) (by unfold cxMost;rw[if_neg h3,if_neg h7,if_neg (by simp)];exact e3)
     ·refine⟨_,rfl,[.k 0,.k 1,.k 2,.k 3],?_,⟨_,rfl,rfl⟩,⟨_,rfl,rfl⟩,⟨_,rfl,rfl⟩,⟨_,rfl,rfl⟩,trivial⟩
      exact congrArg (vi .i64) (by unfold cxMost;rw[if_neg h3,if_neg h7,if_pos ⟨h4,rfl⟩])
    ·refine⟨_,rfl,[.k 0,.k 1,.k 2,.k 3],?_,⟨_,rfl,rfl⟩,⟨_,rfl,rfl⟩,⟨_,rfl,rfl⟩,⟨_,rfl,rfl⟩,trivial⟩
     exact congrArg (vi .i64) (by unfold cxMost;rw[if_neg h3,if_neg h7,if_neg (by simp[h4])];exact e3)
def cxLast (s:Nat) (mode:Int) (back:Bool) (b o last:List UInt8):List UInt8:=if 7≤mode∧s≤b.length then (if back then b else o).drop (b.length-s)else last
theorem c_cxturn {t key s k xs rs} (h:Ciph t key s k xs rs) {mode pad md:Int} {op back:Bool} {iv last H b:List UInt8} {st:MS} {m:Nat} (hb:b.length=m) (hmb:m≤100000) (K:MK s md st) (hm:mode≤9) (hg:m%moGrain s md=0) (hne:0<m∨st.row=[]):
  Con C N.ctx_Ctx_turn [.p (.k 0) 0,.z m (bv b)] [cxO op t mode pad back k xs iv (.f H) last,moX (cipV t k xs) md back st 2,gnB st.row st.gone,.dead]
   (.ret (.z m (bv (moStep (cF t key false) (cF t key true) s md back st b).1)))
   [cxO op t mode pad back k xs iv (.f H) (cxLast s mode back b (moStep (cF t key false) (cF t key true) s md back st b).1 last),moX (cipV t k xs) md back (moStep (cF t key false) (cF t key true) s md back st b).2 4,.dead,.dead,gnB (moStep (cF t key false) (cF t key true) s md back st b).2.row (moStep (cF t key false) (cF t key true) s md back st b).2.gone]:=by
 have hs:=h.s_le
 have lo:(moStep (cF t key false) (cF t key true) s md back st b).1.length=m:=by rw[moStep_len h.ci K.ok (by rw[hb];exact hg),hb]
 have T0:=c_step h (back:=back) (st:=st) (b:=b) rfl hb (by omega) K hg hne
 have S:=fun(st':MS)=>c_cxstolen (t:=t) (mode:=mode) (pad:=pad) (md:=md) (op:=op) (back:=back) (k:=k) (xs:=xs) (iv:=iv) (last:=last) (st:=st') (x:= .f H) hm
 generalize moStep (cF t key false) (cF t key true) s md back st b=S0 at*
 obtain⟨o,st1⟩:=S0
 have S1:=S st1
 obtain⟨c1,row1,g1⟩:=st1
 dsimp only at T0 lo ⊢
 have eS:I6.wrap ((m:Int)-(s:Int))=(m:Int)-s:=Zd _ (by omega)
 by_cases hL:7≤mode∧s≤m
 ·have eL:cxLast s mode back b o last=(if back then b else o).drop (m-s):=by unfold cxLast;rw[hb,if_pos hL]
  rw[eL]
  cases back
  all_goals
   obtain⟨ch,row,g⟩:=st
   rcases row with _|⟨a,r⟩<;>rcases row1 with _|⟨a1,r1⟩
  all_goals
   refine con.ctx_Ctx_turn ?_
   refine⟨_,rfl,?_⟩
   refine⟨[.k 1,.k 2],_,_,_,_,T0,rfl,rfl,?_⟩
   refine⟨[],_,_,_,_,c_refuse0,rfl,rfl,?_⟩
   refine⟨_,rfl,?_⟩
   refine⟨[],_,_,_,_,h.size,rfl,rfl,?_⟩
   refine⟨[.k 0,.k 1,.d 15 2,.k 3],_,_,_,_,S1,rfl,rfl,?_⟩
   refine spl_d (fun h7=> ?_) (fun h7=>absurd hL.1 h7)
   refine spl_d (fun h7=> ?_) (fun h7=>absurd hL.2 (by omega))
   refine⟨_,rfl,?_⟩
   refine⟨by rw[eS];omega,by rw[eS];omega,by omega,by omega,?_⟩
   first
    |refine⟨[],_,_,_,_,c_cloneZ (n:=s) (l:=o.drop (m-s)) (va:=bv (o.drop (m-s))) rfl (by rw[Ze,lo];omega) (by omega),?_,rfl,?_⟩
     ·show[V.z (m-(I6.wrap ((m:Int)-(s:Int))).toNat) (sub (bv o) (I6.wrap ((m:Int)-(s:Int))).toNat (m-(I6.wrap ((m:Int)-(s:Int))).toNat))]=_
      rw[eS,show((m:Int)-s).toNat=m-s by omega,bv_dropN lo (by omega),show m-(m-s)=s by omega]
     refine⟨Za rfl,?_⟩
     refine⟨_,rfl,[.k 0,.k 1,.k 2,.k 3,.d 15 2],rfl,⟨_,rfl,?_⟩,⟨_,rfl,rfl⟩,⟨_,rfl,rfl⟩,⟨_,rfl,rfl⟩,⟨_,rfl,rfl⟩,trivial⟩
     have ll:(o.drop (m-s)).length=s:=by rw[Ze,lo];omega
     show _=cxO op t mode pad false k xs iv (.f H) (o.drop (m-s))
     unfold cxO
     rw[ll];rfl
    |refine⟨[],_,_,_,_,c_cloneZ (n:=s) (l:=b.drop (m-s)) (va:=bv (b.drop (m-s))) rfl (by rw[Ze,hb];omega) (by omega),?_,rfl,?_⟩
     ·show[V.z (m-(I6.wrap ((m:Int)-(s:Int))).toNat) (sub (bv b) (I6.wrap ((m:Int)-(s:Int))).toNat (m-(I6.wrap ((m:Int)-(s:Int))).toNat))]=_
      rw[eS,show((m:Int)-s).toNat=m-s by omega,bv_dropN hb (by omega),show m-(m-s)=s by omega]
     refine⟨Za rfl,?_⟩
     refine⟨_,rfl,[.k 0,.k 1,.k 2,.k 3,.d 15 2],rfl,⟨_,rfl,?_⟩,⟨_,rfl,rfl⟩,⟨_,rfl,rfl⟩,⟨_,rfl,rfl⟩,⟨_,rfl,rfl⟩,trivial⟩
     have ll:(b.drop (m-s)).length=s:=by rw[Ze,hb];omega
     show _=cxO op t mode pad true k xs iv (.f H) (b.drop (m-s))
     unfold cxO
     rw[ll];rfl
 ·have eL:cxLast s mode back b o last=last:=by unfold cxLast;rw[hb,if_neg hL]
  rw[eL]
  obtain⟨ch,row,g⟩:=st
  rcases row with _|⟨a,r⟩<;>rcases row1 with _|⟨a1,r1⟩
  all_goals
   refine con.ctx_Ctx_turn ?_
   refine⟨_,rfl,?_⟩
   refine⟨[.k 1,.k 2],_,_,_,_,T0,rfl,rfl,?_⟩
   refine⟨[],_,_,_,_,c_refuse0,rfl,rfl,?_⟩
   refine⟨_,rfl,?_⟩
   refine⟨[],_,_,_,_,h.size,rfl,rfl,?_⟩
   refine⟨[.k 0,.k 1,.d 15 2,.k 3],_,_,_,_,S1,rfl,rfl,?_⟩
   refine spl_d (fun h7=> ?_) (fun h7=> ?_)
   ·refine spl_d (fun h8=>absurd ⟨h7,by omega⟩ hL) (fun h8=> ?_)
    exact⟨_,rfl,[.k 0,.k 1,.k 2,.k 3,.d 15 2],rfl,⟨_,rfl,rfl⟩,⟨_,rfl,rfl⟩,⟨_,rfl,rfl⟩,⟨_,rfl,rfl⟩,⟨_,rfl,rfl⟩,trivial⟩
   ·exact⟨_,rfl,[.k 0,.k 1,.k 2,.k 3,.d 15 2],rfl,⟨_,rfl,rfl⟩,⟨_,rfl,rfl⟩,⟨_,rfl,rfl⟩,⟨_,rfl,rfl⟩,⟨_,rfl,rfl⟩,trivial⟩
theorem c_cxturn0 {t key s k xs rs} (h:Ciph t key s k xs rs) {mode pad md:Int} {op back:Bool} {iv last H:List UInt8} {st:MS} {vb:List Value} (h3:3≤md) (hm:mode≤9):
  Con C N.ctx_Ctx_turn [.p (.k 0) 0,.z 0 vb] [cxO op t mode pad back k xs iv (.f H) last,moX (cipV t k xs) md back st 2,gnB st.row st.gone,.dead]
   (.ret (.z 0 [])) [cxO op t mode pad back k xs iv (.f H) last,moX (cipV t k xs) md back st 2,gnB st.row st.gone,.dead]:=by
 have hs:=h.s_le
 have T0:=c_step_nil h (back:=back) (st:=st) (vb:=vb) h3
 have S:=c_cxstolen (t:=t) (mode:=mode) (pad:=pad) (md:=md) (op:=op) (back:=back) (k:=k) (xs:=xs) (iv:=iv) (last:=last) (st:=st) (x:= .f H) hm
 obtain⟨ch,row,g⟩:=st
 rcases row with _|⟨a,r⟩
 all_goals
  refine con.ctx_Ctx_turn ?_
  refine⟨_,rfl,?_⟩
  refine⟨[.k 1,.k 2],_,_,_,_,T0,rfl,rfl,?_⟩
  refine⟨[],_,_,_,_,c_refuse0,rfl,rfl,?_⟩
  refine⟨_,rfl,?_⟩
  refine⟨[],_,_,_,_,h.size,rfl,rfl,?_⟩
  refine⟨[.k 0,.k 1,.k 2,.k 3],_,_,_,_,S,rfl,rfl,?_⟩
  refine spl_d (fun h7=> ?_) (fun h7=> ?_)
  ·refine spl_d (fun h8=>absurd h8 (by omega)) (fun h8=> ?_)
   exact⟨_,rfl,[.k 0,.k 1,.k 2,.k 3],rfl,⟨_,rfl,rfl⟩,⟨_,rfl,rfl⟩,⟨_,rfl,rfl⟩,⟨_,rfl,rfl⟩,trivial⟩
  ·exact⟨_,rfl,[.k 0,.k 1,.k 2,.k 3],rfl,⟨_,rfl,rfl⟩,⟨_,rfl,rfl⟩,⟨_,rfl,rfl⟩,⟨_,rfl,rfl⟩,trivial⟩
def cxMd (mode:Int):Int:=if 7≤mode then 2 else mode
theorem c_cxstolenB {t t0 mode pad md:Int} {op back back0:Bool} {k k0:Nat} {xs xs0:List V} {iv last:List UInt8} {st:MS} {x:HK} (hm:mode≤9):Con C N.ctx_Ctx_stolen [.p (.k 0) 0] [cxO op t mode pad back k xs iv x last,moX (cipV t0 k0 xs0) md back0 st 2,gnB st.row st.gone,x.b] (.ret (bool (decide (7≤mode)))) [cxO op t mode pad back k xs iv x last,moX (cipV t0 k0 xs0) md back0 st 2,gnB st.row st.gone,x.b]:=by
 obtain⟨ch,row,g⟩:=st
 rcases row with _|⟨a,r⟩<;>rcases x with _|H|H
 all_goals
  refine con.ctx_Ctx_stolen ?_
  refine⟨_,rfl,?_⟩
  refine spl_d (fun h7=> ?_) (fun h7=> ?_)
  ·refine⟨_,rfl,?_⟩
   refine⟨_,rfl,[.k 0,.k 1,.k 2,.k 3],?_,⟨_,rfl,rfl⟩,⟨_,rfl,rfl⟩,⟨_,rfl,rfl⟩,⟨_,rfl,rfl⟩,trivial⟩
   exact congrArg bool (by rw[decide_eq_true hm,decide_eq_true h7])
  ·refine⟨_,rfl,[.k 0,.k 1,.k 2,.k 3],?_,⟨_,rfl,rfl⟩,⟨_,rfl,rfl⟩,⟨_,rfl,rfl⟩,⟨_,rfl,rfl⟩,trivial⟩
   exact congrArg bool (by rw[decide_eq_false h7])
theorem c_cxstolenA {t mode pad:Int} {op bg back:Bool} {k:Nat} {xs:List V} {iv:List UInt8} (hm:mode≤9):Con C N.ctx_Ctx_stolen [.p (.k 0) 0] [cxX bg op t mode pad back (cipV t k xs) (.z iv.length (bv iv)) nilp nilv nilv] (.ret (bool (decide (7≤mode)))) [cxX bg op t mode pad back (cipV t k xs) (.z iv.length (bv iv)) nilp nilv nilv]:=by
 refine con.ctx_Ctx_stolen ?_
 refine⟨_,rfl,?_⟩
 refine spl_d (fun h7=> ?_) (fun h7=> ?_)
 ·refine⟨_,rfl,?_⟩
  exact⟨_,rfl,[.k 0],congrArg bool (by rw[decide_eq_true hm,decide_eq_true h7]),⟨_,rfl,rfl⟩,trivial⟩
 ·exact⟨_,rfl,[.k 0],congrArg bool (by rw[decide_eq_false h7]),⟨_,rfl,rfl⟩,trivial⟩
theorem cxMd_ok {s:Nat} {mode pad:Int} {iv:List UInt8} (ok:shOk s mode pad iv):(1≤cxMd mode∧cxMd mode≤6)∧iv.length=if cxMd mode=1 then 0 else s:=by
 obtain⟨o1,o2,o3,o4⟩:=ok
 unfold cxMd
 by_cases h7:7≤mode
 ·rw[if_pos h7];exact⟨by decide,by rw[o4,if_neg (by omega),if_neg (by decide)]⟩
 ·rw[if_neg h7];exact⟨by omega,o4⟩
theorem c_cxbeginA {t key s k xs rs} (h:Ciph t key s k xs rs) {mode pad:Int} {op back:Bool} {iv:List UInt8} (ok:shOk s mode pad iv):
  Con C N.ctx_Ctx_begin [.p (.k 0) 0] [cxX true op t mode pad back (cipV t k xs) (.z iv.length (bv iv)) nilp nilv nilv] (.ret (.t []))
   [cxO true t mode pad back k xs iv .n iv,moX (cipV t k xs) (cxMd mode) back ⟨iv,[],[]⟩ 2,.dead,.dead]:=by
 have hs:=h.s_le
 obtain⟨m1,hiv⟩:=cxMd_ok ok
 have T0:=c_new_m h (mode:=cxMd mode) (back:=back) (i:=1) (vi:=bv iv) (iv:=iv) rfl rfl m1 hiv
 have hl16:iv.length≤16:=by rw[hiv];split<;>omega
 have S:=c_cxstolenA (t:=t) (mode:=mode) (pad:=pad) (op:=op) (bg:=true) (back:=back) (k:=k) (xs:=xs) (iv:=iv) ok.1.2
 refine con.ctx_Ctx_begin ?_
 refine⟨_,rfl,?_⟩
 refine⟨[.k 0],_,_,_,_,S,rfl,rfl,?_⟩
 refine spl_d (fun h7=> ?_) (fun h7=> ?_)
 all_goals
  first
   |rw[show cxMd mode=2 from if_pos h7]at T0 ⊢
   |rw[show cxMd mode=mode from if_neg h7]at T0 ⊢
  refine⟨_,rfl,?_⟩
  refine⟨_,rfl,?_⟩
  refine⟨_,rfl,?_⟩
  refine⟨[],_,_,_,_,T0,rfl,rfl,?_⟩
  refine⟨Za rfl,?_⟩
  refine⟨_,rfl,?_⟩
  refine⟨[],_,_,_,_,c_cloneZ (l:=iv) rfl rfl (by omega),rfl,rfl,?_⟩
  refine⟨Za rfl,?_⟩
  refine⟨Za rfl,?_⟩
  refine⟨Za rfl,?_⟩
  exact⟨_,rfl,[.k 0,.d 26 0,.d 26 1,.d 26 2],rfl,⟨_,rfl,rfl⟩,⟨_,rfl,rfl⟩,⟨_,rfl,rfl⟩,⟨_,rfl,rfl⟩,trivial⟩
theorem c_cxbeginB {t key s k xs rs} (h:Ciph t key s k xs rs) {mode pad md0 t0:Int} {k0:Nat} {xs0:List V} {op back back0:Bool} {iv last0:List UInt8} {st0:MS} {x0:HK} (ok:shOk s mode pad iv):
  Con C N.ctx_Ctx_begin [.p (.k 0) 0] [cxO op t mode pad back k xs iv x0 last0,moX (cipV t0 k0 xs0) md0 back0 st0 2,gnB st0.row st0.gone,x0.b] (.ret (.t []))
   [cxX true true t mode pad back (cipV t k xs) (.z iv.length (bv iv)) (.p (.k 4) 0) nilv (.z iv.length (bv iv)),moX (cipV t0 k0 xs0) md0 back0 st0 2,gnB st0.row st0.gone,x0.b,moX (cipV t k xs) (cxMd mode) back ⟨iv,[],[]⟩ 5,.dead,.dead]:=by
 have hs:=h.s_le
 obtain⟨m1,hiv⟩:=cxMd_ok ok
 have T0:=c_new_m h (mode:=cxMd mode) (back:=back) (i:=1) (vi:=bv iv) (iv:=iv) rfl rfl m1 hiv
 have hl16:iv.length≤16:=by rw[hiv];split<;>omega
 have S:=c_cxstolenB (t:=t) (mode:=mode) (pad:=pad) (md:=md0) (op:=op) (back:=back) (back0:=back0) (t0:=t0) (k:=k) (k0:=k0) (xs:=xs) (xs0:=xs0) (iv:=iv) (last:=last0) (st:=st0) (x:=x0) ok.1.2
 obtain⟨ch,row,g⟩:=st0
 rcases row with _|⟨a,r⟩<;>rcases x0 with _|H|H
 all_goals
  refine con.ctx_Ctx_begin ?_
  refine⟨_,rfl,?_⟩
  refine⟨[.k 0,.k 1,.k 2,.k 3],_,_,_,_,S,rfl,rfl,?_⟩
  refine spl_d (fun h7=> ?_) (fun h7=> ?_)
  all_goals
   first
    |rw[show cxMd mode=2 from if_pos h7]at T0 ⊢
    |rw[show cxMd mode=mode from if_neg h7]at T0 ⊢
   refine⟨_,rfl,?_⟩
   refine⟨_,rfl,?_⟩
   refine⟨_,rfl,?_⟩
   refine⟨[],_,_,_,_,T0,rfl,rfl,?_⟩
   refine⟨Za rfl,?_⟩
   refine⟨_,rfl,?_⟩
   refine⟨[],_,_,_,_,c_cloneZ (l:=iv) rfl rfl (by omega),rfl,rfl,?_⟩
   refine⟨Za rfl,?_⟩
   refine⟨Za rfl,?_⟩
   refine⟨Za rfl,?_⟩
   exact⟨_,rfl,[.k 0,.k 1,.k 2,.k 3,.d 26 0,.d 26 1,.d 26 2],rfl,⟨_,rfl,rfl⟩,⟨_,rfl,rfl⟩,⟨_,rfl,rfl⟩,⟨_,rfl,rfl⟩,⟨_,rfl,rfl⟩,⟨_,rfl,rfl⟩,⟨_,rfl,rfl⟩,trivial⟩
theorem shErr_ok {t key s k xs rs} (h:Ciph t key s k xs rs) {mode pad:Int} {lk li:Nat} {iv:List UInt8} (hk:key.length=lk) (hi:iv.length=li) (ok:shOk s mode pad iv):shErr t mode pad (cSize t).toNat lk li=0:=by
 obtain⟨o1,o2,o3,o4⟩:=ok
 unfold shErr
 rw[if_neg (by exact fun x=>x h.ht),if_neg (by rw[←hk];exact fun x=>x h.kl),if_neg (by exact fun x=>x ⟨o1,o2,o3⟩),if_neg (by rw[h.hs,Zb,←hi];exact fun x=>x o4)]
theorem c_cxinitA {t key s k xs rs} (h:Ciph t key s k xs rs) {mode pad:Int} {back:Bool} {lk li:Nat} {iv:List UInt8} (hk:key.length=lk) (hlk:lk≤1000) (hi:iv.length=li) (ok:shOk s mode pad iv):
  Con C N.ctx_Ctx_Init [.p (.k 0) 0,cfgV t mode pad back,.z lk (bv key),.z li (bv iv)] [cxX false false 0 0 0 false nilp nilv nilp nilv nilv] (.ret (i64 0))
   [cxO true t mode pad back k xs iv .n iv,moX (cipV t k xs) (cxMd mode) back ⟨iv,[],[]⟩ 2,.dead,.dead]:=by
 have hs:=h.s_le
 obtain⟨m1,hiv⟩:=cxMd_ok ok
 have hl16:iv.length≤16:=by rw[hiv];split<;>omega
 have CK:=(check_both t hk hlk mode pad back hi).1
 rw[shErr_ok h hk hi ok]at CK
 subst hi
 refine con.ctx_Ctx_Init ?_
 refine⟨[i64 t,i64 mode,i64 pad,bool back],rfl,rfl,?_⟩
 refine⟨[],_,_,_,_,CK,rfl,rfl,?_⟩
 refine⟨_,rfl,?_⟩
 refine⟨[],_,_,_,_,h.new' (n:=lk) hk rfl,rfl,rfl,?_⟩
 refine⟨Za rfl,?_⟩
 refine⟨[i64 t,i64 mode,i64 pad,bool back],rfl,rfl,?_⟩
 refine⟨[],_,_,_,_,c_cloneZ (l:=iv) rfl rfl (by omega),rfl,rfl,?_⟩
 refine⟨Za rfl,?_⟩
 refine⟨Za rfl,?_⟩
 refine⟨Za rfl,?_⟩
 refine⟨[.k 0],_,_,_,_,c_cxbeginA h (op:=false) ok,rfl,rfl,?_⟩
 exact⟨_,rfl,[.k 0,.d 40 1,.d 40 2,.d 40 3],rfl,⟨_,rfl,rfl⟩,⟨_,rfl,rfl⟩,⟨_,rfl,rfl⟩,⟨_,rfl,rfl⟩,trivial⟩
theorem c_cxinitB {t key s k xs rs} (h:Ciph t key s k xs rs) {mode pad:Int} {back:Bool} {lk li:Nat} {iv:List UInt8} {t0 mode0 pad0 md0:Int} {op back0:Bool} {k0:Nat} {xs0:List V} {iv0 last0:List UInt8} {st0:MS} {x0:HK} (hk:key.length=lk) (hlk:lk≤1000) (hi:iv.length=li) (ok:shOk s mode pad iv):
  Con C N.ctx_Ctx_Init [.p (.k 0) 0,cfgV t mode pad back,.z lk (bv key),.z li (bv iv)] [cxO op t0 mode0 pad0 back0 k0 xs0 iv0 x0 last0,moX (cipV t0 k0 xs0) md0 back0 st0 2,gnB st0.row st0.gone,x0.b] (.ret (i64 0))
   [cxX true true t mode pad back (cipV t k xs) (.z iv.length (bv iv)) (.p (.k 4) 0) nilv (.z iv.length (bv iv)),moX (cipV t0 k0 xs0) md0 back0 st0 2,gnB st0.row st0.gone,x0.b,moX (cipV t k xs) (cxMd mode) back ⟨iv,[],[]⟩ 5,.dead,.dead]:=by
 have hs:=h.s_le
 obtain⟨m1,hiv⟩:=cxMd_ok ok
 have hl16:iv.length≤16:=by rw[hiv];split<;>omega
 have CK:=(check_both t hk hlk mode pad back hi).1
 rw[shErr_ok h hk hi ok]at CK
 subst hi
 have BG:=c_cxbeginB h (back:=back) (md0:=md0) (t0:=t0) (k0:=k0) (xs0:=xs0) (op:=op) (back0:=back0) (last0:=last0) (st0:=st0) (x0:=x0) ok
 obtain⟨ch,row,g⟩:=st0
 rcases row with _|⟨a,r⟩<;>rcases x0 with _|H|H
 all_goals
  refine con.ctx_Ctx_Init ?_
  refine⟨[i64 t,i64 mode,i64 pad,bool back],rfl,rfl,?_⟩
  refine⟨[],_,_,_,_,CK,rfl,rfl,?_⟩
  refine⟨_,rfl,?_⟩
  refine⟨[],_,_,_,_,h.new' (n:=lk) hk rfl,rfl,rfl,?_⟩
  refine⟨Za rfl,?_⟩
  refine⟨[i64 t,i64 mode,i64 pad,bool back],rfl,rfl,?_⟩
  refine⟨[],_,_,_,_,c_cloneZ (l:=iv) rfl rfl (by omega),rfl,rfl,?_⟩
  refine⟨Za rfl,?_⟩
  refine⟨Za rfl,?_⟩
  refine⟨Za rfl,?_⟩
  refine⟨[.k 0,.k 1,.k 2,.k 3],_,_,_,_,BG,rfl,rfl,?_⟩
  exact⟨_,rfl,[.k 0,.k 1,.k 2,.k 3,.d 40 4,.d 40 5,.d 40 6],rfl,⟨_,rfl,rfl⟩,⟨_,rfl,rfl⟩,⟨_,rfl,rfl⟩,⟨_,rfl,rfl⟩,⟨_,rfl,rfl⟩,⟨_,rfl,rfl⟩,⟨_,rfl,rfl⟩,trivial⟩
theorem c_cxinit_noA {t mode pad:Int} {back:Bool} {lk li:Nat} {key iv:List UInt8} (hk:key.length=lk) (hlk:lk≤1000) (hi:iv.length=li) (he:shErr t mode pad (cSize t).toNat lk li≠0):
  Con C N.ctx_Ctx_Init [.p (.k 0) 0,cfgV t mode pad back,.z lk (bv key),.z li (bv iv)] [cxX false false 0 0 0 false nilp nilv nilp nilv nilv] (.ret (i64 (shErr t mode pad (cSize t).toNat lk li))) [cxX false false 0 0 0 false nilp nilv nilp nilv nilv]:=by
 have CK:=(check_both t hk hlk mode pad back hi).1
 generalize shErr t mode pad (cSize t).toNat lk li=e at*
 refine con.ctx_Ctx_Init ?_
 refine⟨[i64 t,i64 mode,i64 pad,bool back],rfl,rfl,?_⟩
 refine⟨[],_,_,_,_,CK,rfl,rfl,?_⟩
 refine spl_ne (fun _=> ?_) (fun hh=>absurd hh he)
 exact⟨_,rfl,[.k 0],rfl,⟨_,rfl,rfl⟩,trivial⟩
theorem c_cxinit_noB {t mode pad:Int} {back:Bool} {lk li:Nat} {key iv:List UInt8} {t0 mode0 pad0 md0:Int} {op back0:Bool} {k0:Nat} {xs0:List V} {iv0 last0:List UInt8} {st0:MS} {x0:HK} (hk:key.length=lk) (hlk:lk≤1000) (hi:iv.length=li) (he:shErr t mode pad (cSize t).toNat lk li≠0):
  Con C N.ctx_Ctx_Init [.p (.k 0) 0,cfgV t mode pad back,.z lk (bv key),.z li (bv iv)] [cxO op t0 mode0 pad0 back0 k0 xs0 iv0 x0 last0,moX (cipV t0 k0 xs0) md0 back0 st0 2,gnB st0.row st0.gone,x0.b] (.ret (i64 (shErr t mode pad (cSize t).toNat lk li))) [cxO op t0 mode0 pad0 back0 k0 xs0 iv0 x0 last0,moX (cipV t0 k0 xs0) md0 back0 st0 2,gnB st0.row st0.gone,x0.b]:=by
 have CK:=(check_both t hk hlk mode pad back hi).1
 generalize shErr t mode pad (cSize t).toNat lk li=e at*
 obtain⟨ch,row,g⟩:=st0
 rcases row with _|⟨a,r⟩<;>rcases x0 with _|H|H
 all_goals
  refine con.ctx_Ctx_Init ?_
  refine⟨[i64 t,i64 mode,i64 pad,bool back],rfl,rfl,?_⟩
  refine⟨[],_,_,_,_,CK,rfl,rfl,?_⟩
  refine spl_ne (fun _=> ?_) (fun hh=>absurd hh he)
  exact⟨_,rfl,[.k 0,.k 1,.k 2,.k 3],rfl,⟨_,rfl,rfl⟩,⟨_,rfl,rfl⟩,⟨_,rfl,rfl⟩,⟨_,rfl,rfl⟩,trivial⟩
theorem c_cxresetA:Con C N.ctx_Ctx_Reset [.p (.k 0) 0] [cxX false false 0 0 0 false nilp nilv nilp nilv nilv] (.ret (i64 6)) [cxX false false 0 0 0 false nilp nilv nilp nilv nilv]:=by
 refine con.ctx_Ctx_Reset ?_
 refine⟨_,rfl,?_⟩
 exact⟨_,rfl,[.k 0],rfl,⟨_,rfl,rfl⟩,trivial⟩
theorem c_cxheldA:Con C N.ctx_Ctx_Held [.p (.k 0) 0] [cxX false false 0 0 0 false nilp nilv nilp nilv nilv] (.ret (i64 0)) [cxX false false 0 0 0 false nilp nilv nilp nilv nilv]:=by
 refine con.ctx_Ctx_Held ?_
 refine⟨_,rfl,?_⟩
 exact⟨_,rfl,[.k 0],rfl,⟨_,rfl,rfl⟩,trivial⟩
theorem c_cxneedA:Con C N.ctx_Ctx_need [.p (.k 0) 0] [cxX false false 0 0 0 false nilp nilv nilp nilv nilv] (.pan (.i tRef (i64 6))) [cxX false false 0 0 0 false nilp nilv nilp nilv nilv]:=by
 refine con.ctx_Ctx_need ?_
 refine⟨_,rfl,?_⟩
 refine⟨[],_,_,_,_,c_refuse (e:=6) (by decide),rfl,rfl,?_⟩
 exact⟨_,rfl,[.k 0],rfl,⟨_,rfl,rfl⟩,trivial⟩
theorem c_cxresetB {t key s k xs rs} (h:Ciph t key s k xs rs) {mode pad md0:Int} {op back:Bool} {iv last0:List UInt8} {st0:MS} {x0:HK} (ok:shOk s mode pad iv):
  Con C N.ctx_Ctx_Reset [.p (.k 0) 0] [cxO op t mode pad back k xs iv x0 last0,moX (cipV t k xs) md0 back st0 2,gnB st0.row st0.gone,x0.b] (.ret (i64 0))
   [cxX true true t mode pad back (cipV t k xs) (.z iv.length (bv iv)) (.p (.k 4) 0) nilv (.z iv.length (bv iv)),moX (cipV t k xs) md0 back st0 2,gnB st0.row st0.gone,x0.b,moX (cipV t k xs) (cxMd mode) back ⟨iv,[],[]⟩ 5,.dead,.dead]:=by
 have BG:=c_cxbeginB h (back:=back) (md0:=md0) (t0:=t) (k0:=k) (xs0:=xs) (op:=op) (back0:=back) (last0:=last0) (st0:=st0) (x0:=x0) ok
 obtain⟨ch,row,g⟩:=st0
 rcases row with _|⟨a,r⟩<;>rcases x0 with _|H|H
 all_goals
  refine con.ctx_Ctx_Reset ?_
  refine⟨_,rfl,?_⟩
  refine⟨[.k 0,.k 1,.k 2,.k 3],_,_,_,_,BG,rfl,rfl,?_⟩
  exact⟨_,rfl,[.k 0,.k 1,.k 2,.k 3,.d 9 4,.d 9 5,.d 9 6],rfl,⟨_,rfl,rfl⟩,⟨_,rfl,rfl⟩,⟨_,rfl,rfl⟩,⟨_,rfl,rfl⟩,⟨_,rfl,rfl⟩,⟨_,rfl,rfl⟩,⟨_,rfl,rfl⟩,trivial⟩
def cxN (g most L:Nat):Nat:=(L-most+(g-1))/g
theorem cxN_lt {g most L i:Nat} (hg:0<g):i<cxN g most L↔most+g*i<L:=by
 unfold cxN
 rw[Nat.lt_iff_add_one_le,Nat.le_div_iff_mul_le hg,Nat.add_mul,Nat.one_mul,Nat.mul_comm i g]
 omega
theorem cxN_le {g most L:Nat} (hg:0<g) (hm:g-1≤most):g*cxN g most L≤L:=by
 by_cases h:cxN g most L=0
 ·rw[h];omega
 ·have:=(cxN_lt (most:=most) (L:=L) (i:=cxN g most L-1) hg).1 (by omega)
  have e:g*cxN g most L=g*(cxN g most L-1)+g:=by
   obtain⟨k,hk⟩:∃k,cxN g most L=k+1:=⟨cxN g most L-1,by omega⟩
   rw[hk,Zz,Zw]
  omega
theorem cxN_add {g most L m:Nat} (hg:0<g) (hm:g-1≤most):cxN g most (L+m)=cxN g most L+cxN g most (L-g*cxN g most L+m):=by
 have hle:=cxN_le (L:=L) hg hm
 refine Z3 ?_ ?_
 ·refine Zs fun h=> ?_
  have h1:=(cxN_lt hg).1 h
  rw[Nat.mul_add]at h1
  have h2:=(cxN_lt (most:=most) (L:=L-g*cxN g most L+m) (i:=cxN g most (L-g*cxN g most L+m)) hg).2 (by omega)
  exact absurd h2 (Jp _)
 ·by_cases h0:cxN g most (L-g*cxN g most L+m)=0
  ·rw[h0,Ji]
   refine Zs fun h=> ?_
   have h1:=(cxN_lt hg).1 h
   have h2:=(cxN_lt (most:=most) (L:=L) (i:=cxN g most (L+m)) hg).1 h
   have h3:=(cxN_lt (most:=most) (L:=L+m) (i:=cxN g most (L+m)) hg).2 (by omega)
   exact absurd h3 (Jp _)
  ·obtain⟨k,hk⟩:∃k,cxN g most (L-g*cxN g most L+m)=k+1:=⟨cxN g most (L-g*cxN g most L+m)-1,by omega⟩
   rw[hk]
   have h1:=(cxN_lt (most:=most) (L:=L-g*cxN g most L+m) (i:=k) hg).1 (by omega)
   have h2:=(cxN_lt (most:=most) (L:=L+m) (i:=cxN g most L+k) hg).2 (by rw[Nat.mul_add];omega)
   omega
theorem cxMd_is {n:Nat} {mode pad:Int} {iv:List UInt8} (ok:shOk n mode pad iv):(7≤mode∧cxMd mode=2)∨(mode≤6∧cxMd mode=mode):=by
 unfold cxMd
 by_cases h7:7≤mode
 ·exact .inl ⟨h7,if_pos h7⟩
 ·exact .inr ⟨by omega,if_neg h7⟩
theorem cx_grain {n:Nat} {mode pad:Int} {iv:List UInt8} {back:Bool} (hn:0<n) (ok:shOk n mode pad iv):
  0<moGrain n (cxMd mode)∧moGrain n (cxMd mode)-1≤cxMost n (cxMd mode) mode pad back∧(moGrain n (cxMd mode)=n∧cxMd mode≤2∨moGrain n (cxMd mode)=1∧3≤cxMd mode∧mode≤6):=by
 have hm:=ok.1
 rcases cxMd_is ok with ⟨h1,h2⟩|⟨h1,h2⟩
 ·rw[h2]
  refine⟨hn,?_,.inl ⟨rfl,by decide⟩⟩
  show n-1≤_
  unfold cxMost
  rw[if_neg (by decide),if_pos h1];omega
 ·rw[h2]
  unfold moGrain cxMost
  by_cases h3:3≤mode
  ·rw[if_neg (by omega),if_pos h3];exact⟨by omega,by omega,.inr ⟨rfl,h3,h1⟩⟩
  ·rw[if_pos (by omega),if_neg h3,if_neg (by omega)]
   refine⟨hn,?_,.inl ⟨rfl,by omega⟩⟩
   split<;>omega
def cxFr (n:Nat) (mode pad:Int) (back:Bool) (L:Nat):Nat:=moGrain n (cxMd mode)*cxN (moGrain n (cxMd mode)) (cxMost n (cxMd mode) mode pad back) L
def cxSt (E D:List UInt8→List UInt8) (n:Nat) (mode pad:Int) (back:Bool) (iv M:List UInt8):List UInt8×MS:=moStep E D n (cxMd mode) back ⟨iv,[],[]⟩ (M.take (cxFr n mode pad back M.length))
def cxH (n:Nat) (mode pad:Int) (back:Bool) (M:List UInt8):List UInt8:=M.drop (cxFr n mode pad back M.length)
def cxLa (E D:List UInt8→List UInt8) (n:Nat) (mode pad:Int) (back:Bool) (iv M:List UInt8):List UInt8:=cxLast n mode back (M.take (cxFr n mode pad back M.length)) (cxSt E D n mode pad back iv M).1 iv
theorem cxFr_ok {n:Nat} {mode pad:Int} {iv:List UInt8} {back:Bool} (hn:0<n) (ok:shOk n mode pad iv) (L:Nat):cxFr n mode pad back L≤L∧cxFr n mode pad back L%moGrain n (cxMd mode)=0:=by
 obtain⟨g0,g1,g2⟩:=cx_grain (back:=back) hn ok
 exact⟨cxN_le g0 g1,Jc _ _⟩
theorem cxFr_add {n:Nat} {mode pad:Int} {iv:List UInt8} {back:Bool} (hn:0<n) (ok:shOk n mode pad iv) (L m:Nat):cxFr n mode pad back (L+m)=cxFr n mode pad back L+cxFr n mode pad back (L-cxFr n mode pad back L+m):=by
 obtain⟨g0,g1,g2⟩:=cx_grain (back:=back) hn ok
 unfold cxFr
 rw[cxN_add g0 g1,Nat.mul_add]
theorem cxH_len {n:Nat} {mode pad:Int} {back:Bool} (M:List UInt8):(cxH n mode pad back M).length=M.length-cxFr n mode pad back M.length:=by
 unfold cxH;rw[Ze]
theorem cx_told {E D:List UInt8→List UInt8} {n:Nat} {mode pad:Int} {iv M:List UInt8} {back:Bool} (h:CI E D n) (hn:0<n) (ok:shOk n mode pad iv):(cxSt E D n mode pad back iv M).1.length=cxFr n mode pad back M.length:=by
 obtain⟨f1,f2⟩:=cxFr_ok (back:=back) hn ok M.length
 have lt:(M.take (cxFr n mode pad back M.length)).length=cxFr n mode pad back M.length:=by rw[Zg];omega
 unfold cxSt
 rw[moStep_len h (ms_ok (cxMd_ok ok).1 (cxMd_ok ok).2) (by rw[lt];exact f2),lt]
theorem cx_take {A b:List UInt8} {F a:Nat} (h:F≤A.length):A.take F++(A.drop F++b).take a=(A++b).take (F+a):=by
 have e:A++b=A.take F++(A.drop F++b):=by rw[←Jd,Zp]
 rw[e]
 generalize A.drop F++b=R
 rw[List.take_append,Zg,Jj h,Jg,Z4 (show (A.take F).length≤F+a by rw[Zg];omega)]
theorem cx_drop {A b:List UInt8} {F a:Nat} (h:F≤A.length):(A.drop F++b).drop a=(A++b).drop (F+a):=by
 have e:A++b=A.take F++(A.drop F++b):=by rw[←Jd,Zp]
 rw[e]
 generalize A.drop F++b=R
 rw[Jh,Zg,Jj h,Jg,Z6 (show (A.take F).length≤F+a by rw[Zg];omega),Zn]
theorem cx_upd {E D:List UInt8→List UInt8} {n:Nat} {mode pad:Int} {iv M b:List UInt8} {back:Bool} {a:Nat} (h:CI E D n) (hn:0<n) (ok:shOk n mode pad iv) (ha:a=cxFr n mode pad back ((cxH n mode pad back M).length+b.length)):
  cxSt E D n mode pad back iv (M++b)=((cxSt E D n mode pad back iv M).1++(moStep E D n (cxMd mode) back (cxSt E D n mode pad back iv M).2 ((cxH n mode pad back M++b).take a)).1,(moStep E D n (cxMd mode) back (cxSt E D n mode pad back iv M).2 ((cxH n mode pad back M++b).take a)).2)
  ∧cxLast n mode back ((cxH n mode pad back M++b).take a) (moStep E D n (cxMd mode) back (cxSt E D n mode pad back iv M).2 ((cxH n mode pad back M++b).take a)).1 (cxLa E D n mode pad back iv M)=cxLa E D n mode pad back iv (M++b)
  ∧(cxH n mode pad back M++b).drop a=cxH n mode pad back (M++b):=by
 obtain⟨f1,f2⟩:=cxFr_ok (back:=back) hn ok M.length
 obtain⟨g0,g1,g2⟩:=cx_grain (back:=back) hn ok
 have hF:cxFr n mode pad back (M++b).length=cxFr n mode pad back M.length+a:=by
  rw[Zc,cxFr_add hn ok,ha,cxH_len]
 have ha1:=cxFr_ok (back:=back) hn ok ((cxH n mode pad back M).length+b.length)
 rw[←ha,cxH_len]at ha1
 have lb:((cxH n mode pad back M++b).take a).length=a:=by rw[Zg,Zc,cxH_len];omega
 have lt:(M.take (cxFr n mode pad back M.length)).length=cxFr n mode pad back M.length:=by rw[Zg];omega
 have eT:(M++b).take (cxFr n mode pad back (M++b).length)=M.take (cxFr n mode pad back M.length)++(cxH n mode pad back M++b).take a:=by
  rw[hF];unfold cxH;rw[cx_take f1]
 have eS:cxSt E D n mode pad back iv (M++b)=((cxSt E D n mode pad back iv M).1++(moStep E D n (cxMd mode) back (cxSt E D n mode pad back iv M).2 ((cxH n mode pad back M++b).take a)).1,(moStep E D n (cxMd mode) back (cxSt E D n mode pad back iv M).2 ((cxH n mode pad back M++b).take a)).2):=by
  show moStep E D n (cxMd mode) back ⟨iv,[],[]⟩ ((M++b).take (cxFr n mode pad back (M++b).length))=_
  rw[eT,moStep_app hn (by rw[lt];exact f2) (by rw[lb];exact ha1.2)]
  rfl
 have lT:=cx_told (back:=back) (M:=M) h hn ok
 refine⟨eS,?_,?_⟩
 ·show _=cxLast n mode back ((M++b).take (cxFr n mode pad back (M++b).length)) (cxSt E D n mode pad back iv (M++b)).1 iv
  rw[eS,eT]
  have K:MOk n (cxMd mode) (cxSt E D n mode pad back iv M).2:=moStep_ok h hn (ms_ok (cxMd_ok ok).1 (cxMd_ok ok).2)
  have lo:(moStep E D n (cxMd mode) back (cxSt E D n mode pad back iv M).2 ((cxH n mode pad back M++b).take a)).1.length=a:=by
   rw[moStep_len h K (by rw[lb];exact ha1.2),lb]
  simp only
  generalize moStep E D n (cxMd mode) back (cxSt E D n mode pad back iv M).2 ((cxH n mode pad back M++b).take a)=o at*
  unfold cxLa
  generalize (cxH n mode pad back M++b).take a=c at*
  generalize (cxSt E D n mode pad back iv M).1=T at*
  generalize M.take (cxFr n mode pad back M.length)=A at*
  generalize cxFr n mode pad back M.length=F at*
  unfold cxLast
  rw[lb,lt,Zc,lt,lb]
  by_cases h7:7≤mode
  ·have gn:moGrain n (cxMd mode)=n:=by
    rcases cxMd_is ok with ⟨_,h2⟩|⟨h1,_⟩
    ·rw[h2];rfl
    ·omega
   rw[gn]at ha1
   by_cases ha0:n≤a
   ·rw[if_pos (show 7≤mode∧n≤a from ⟨h7,ha0⟩),if_pos (show 7≤mode∧n≤F+a from ⟨h7,by omega⟩)]
    cases back
    ·simp only[Bool.false_eq_true,if_false]
     rw[Jh,lT,Z6 (show T.length≤F+a-n by omega),Zn,show F+a-n-F=a-n by omega]
    ·simp only[if_true]
     rw[Jh,lt,Z6 (show A.length≤F+a-n by omega),Zn,show F+a-n-F=a-n by omega]
   ·have a0:a=0:=by
     rcases Nat.eq_zero_or_pos a with h0|h0
     ·exact h0
     ·exact absurd (Nat.le_of_dvd h0 (Zy ha1.2)) ha0
    subst a0
    obtain rfl:=Zf lb
    rw[if_neg (show ¬(7≤mode∧n≤0) by omega),Ji,Jm,Zf lo,Jm]
  ·rw[if_neg (show ¬(7≤mode∧n≤a) by omega),if_neg (show ¬(7≤mode∧n≤F) by omega),if_neg (show ¬(7≤mode∧n≤F+a) by omega)]
 ·show _=(M++b).drop (cxFr n mode pad back (M++b).length)
  rw[hF]
  exact cx_drop f1
def cxEnd (E D:List UInt8→List UInt8) (n:Nat) (mode pad:Int) (back:Bool) (st:MS) (last H:List UInt8):List UInt8×Int:=
 if 7≤mode then (if H.length<n then ([],7)else (stT E D n mode back last H,0))
 else if pad=4 then (if H.length%moGrain n (cxMd mode)=0 then ((moStep E D n (cxMd mode) back st H).1,0)else ([],7))
 else if back=false then ((moStep E D n (cxMd mode) back st (pdAdd pad n H)).1,0)
 else if H.length=n then (if pdLong pad (moStep E D n (cxMd mode) back st H).1=0 then ([],8)else (pdStrip pad (moStep E D n (cxMd mode) back st H).1,0))
 else ([],7)
theorem cx_front {n L:Nat} (hn:0<n):n*((L-2*n+(n-1))/n)=frontN n L:=by
 unfold frontN
 by_cases h:2*n≤L
 ·rw[show L-2*n+(n-1)=L-n-1 by omega]
 ·rw[show L-2*n+(n-1)=n-1 by omega,Z1 (by omega),Z1 (by omega)]
theorem cx_end {E D:List UInt8→List UInt8} {n:Nat} {mode pad:Int} {iv M:List UInt8} {back:Bool} (h:CI E D n) (hn:0<n) (ok:shOk n mode pad iv) {r:List UInt8×Int}
  (hr:r=cxEnd E D n mode pad back (cxSt E D n mode pad back iv M).2 (cxLa E D n mode pad back iv M) (cxH n mode pad back M)):
  shP E D n mode pad back iv M=(if r.2=0 then (cxSt E D n mode pad back iv M).1++r.1 else [],r.2)∧(r.2≠0→r.1=[]):=by
 obtain⟨f1,f2⟩:=cxFr_ok (back:=back) hn ok M.length
 have lT:=cx_told (back:=back) (M:=M) h hn ok
 have lt:(M.take (cxFr n mode pad back M.length)).length=cxFr n mode pad back M.length:=by rw[Zg];omega
 have lH:=cxH_len (n:=n) (mode:=mode) (pad:=pad) (back:=back) M
 have hd:=Jk M.length n
 have hm:=Nat.mod_lt M.length hn
 unfold cxEnd at hr
 unfold shP
 by_cases h7:7≤mode
 ·have e2:cxMd mode=2:=if_pos h7
  have eF:cxFr n mode pad back M.length=frontN n M.length:=by
   unfold cxFr cxN cxMost
   rw[e2,if_neg (by decide),if_pos h7]
   exact cx_front hn
  have hiv:iv.length=n:=by have:=ok.2.2.2;rw[if_neg (by omega)]at this;exact this
  rw[if_pos h7]at hr
  rw[if_pos h7]
  unfold shSt
  by_cases hl:M.length<n
  ·have:frontN n M.length=0:=by rw[←eF];have:=Zy f2;rw[e2,grain_2]at this;rcases Nat.eq_zero_or_pos (cxFr n mode pad back M.length)with h0|h0;exact h0;have:=Nat.le_of_dvd h0 this;omega
   rw[if_pos (by omega)]at hr
   rw[if_pos hl,hr]
   exact⟨rfl,fun _=>rfl⟩
  ·obtain⟨a1,a2,a3,a4,a5⟩:=frontN_ok hn (by omega:n≤M.length)
   rw[if_neg (by omega)]at hr
   rw[if_neg hl,hr]
   refine⟨?_,fun hh=>absurd rfl hh⟩
   simp only[if_true]
   have e1:cxSt E D n mode pad back iv M=moStep E D n 2 back ⟨iv,[],[]⟩ (M.take (frontN n M.length)):=by unfold cxSt;rw[e2,eF]
   have eL:cxLa E D n mode pad back iv M=shLast n back iv M (moStep E D n 2 back ⟨iv,[],[]⟩ (M.take (frontN n M.length))).1:=by
    unfold cxLa cxLast shLast
    rw[e1,eF]
    rw[eF]at lt
    rw[lt]
    by_cases h0:frontN n M.length=0
    ·rw[if_pos h0,if_neg (by omega)]
    ·rw[if_neg h0,if_pos (show 7≤mode∧n≤frontN n M.length from ⟨h7,by omega⟩)]
     cases back
     ·rfl
     ·simp only[if_true]
      unfold sub
      rw[List.drop_take,show frontN n M.length-(frontN n M.length-n)=n by omega]
   have eH:cxH n mode pad back M=M.drop (frontN n M.length):=by unfold cxH;rw[eF]
   rw[eL,e1,eH]
 ·have e2:cxMd mode=mode:=if_neg h7
  rw[if_neg h7]at hr
  rw[if_neg h7]
  rw[e2]at hr f2
  have K0:MOk n mode ⟨iv,[],[]⟩:=ms_ok (by have:=ok.1;omega) ok.2.2.2
  by_cases h4:pad=4
  ·rw[if_pos h4]at hr
   rw[if_pos h4]
   have hiff:(cxH n mode pad back M).length%moGrain n mode=M.length%moGrain n mode:=by
    rw[lH]
    obtain⟨q,hq⟩:=Zy f2
    rw[hq,Nat.sub_mul_mod (by omega)]
   rw[hiff]at hr
   by_cases hz:M.length%moGrain n mode=0
   ·rw[if_pos hz]at hr
    rw[if_pos hz,hr]
    refine⟨?_,fun hh=>absurd rfl hh⟩
    simp only[if_true]
    have:=moStep_app (E:=E) (D:=D) (mode:=mode) (back:=back) (s:=⟨iv,[],[]⟩) (a:=M.take (cxFr n mode pad back M.length)) (b:=cxH n mode pad back M) hn (by rw[lt];exact f2) (by rw[hiff];exact hz)
    unfold cxH at this ⊢
    rw[Zp]at this
    unfold cxSt
    rw[this,e2]
   ·rw[if_neg hz]at hr
    rw[if_neg hz,hr]
    exact⟨rfl,fun _=>rfl⟩
  ·have hm2:mode≤2:=ok.2.2.1.resolve_left h4
   have gn:moGrain n mode=n:=if_pos (by have:=ok.1;omega)
   rw[gn]at f2
   rw[if_neg h4]at hr
   rw[if_neg h4]
   cases back
   ·rw[if_pos rfl]at hr
    rw[if_pos rfl,hr]
    refine⟨?_,fun hh=>absurd rfl hh⟩
    simp only[if_true]
    have eF:cxFr n mode pad false M.length=M.length-M.length%n:=by
     unfold cxFr cxN cxMost
     rw[e2,gn,if_neg (by omega),if_neg h7,if_neg (by simp)]
     by_cases hl:n-1≤M.length
     ·rw[Nat.sub_add_cancel hl];omega
     ·rw[show M.length-(n-1)+(n-1)=n-1 by omega,Z1 (by omega),Nat.mod_eq_of_lt (by omega)];omega
    have lp:(pdAdd pad n (M.drop (M.length-M.length%n))).length=n:=pdAdd_len (by rw[Ze];omega)
    rw[eF]at lt f2
    unfold padUp cxSt cxH
    rw[e2,eF]
    rw[moStep_app hn (by rw[lt,gn];exact f2) (by rw[lp,gn,Zr])]
   ·rw[if_neg (by decide)]at hr
    rw[if_neg (by decide)]
    have eF:cxFr n mode pad true M.length=n*((M.length-n+(n-1))/n):=by
     unfold cxFr cxN cxMost
     rw[e2,gn,if_neg (by omega),if_neg h7,if_pos ⟨h4,rfl⟩]
    have hHn:(cxH n mode pad true M).length=n↔¬(M.length=0∨M.length%n≠0):=by
     rw[lH]
     rcases Nat.lt_or_ge M.length n with hl|hl
     ·rw[Nat.mod_eq_of_lt hl]
      have:cxFr n mode pad true M.length=0:=by
       rw[eF,Z1 (by omega),Nat.mul_zero]
      omega
     ·constructor
      ·intro he
       have:M.length=n+cxFr n mode pad true M.length:=by omega
       rw[this,Nat.add_mod_left,f2]
       omega
      ·intro hno
       have hz:M.length%n=0:=Classical.byContradiction fun hh=>hno (.inr hh)
       obtain⟨q,hq⟩:=Zy hz
       have hq0:q≠0:=fun h0=>by rw[h0,Nat.mul_zero]at hq;omega
       obtain⟨p,rfl⟩:∃p,q=p+1:=⟨q-1,by omega⟩
       rw[Zw]at hq
       rw[eF,hq,Zz,Nat.mul_add_div hn,Z1 (by omega:n-1<n),Ji]
       omega
    by_cases hb:M.length=0∨M.length%n≠0
    ·rw[if_neg (fun hh=>(hHn.1 hh) hb)]at hr
     rw[if_pos hb,hr]
     exact⟨rfl,fun _=>rfl⟩
    ·have hHl:=hHn.2 hb
     rw[if_pos hHl]at hr
     rw[if_neg hb]
     simp only
     have hap:=moStep_app (E:=E) (D:=D) (mode:=mode) (back:=true) (s:=⟨iv,[],[]⟩) (a:=M.take (cxFr n mode pad true M.length)) (b:=cxH n mode pad true M) hn (by rw[lt,gn];exact f2) (by rw[hHl,gn,Zr])
     have eM:M.take (cxFr n mode pad true M.length)++cxH n mode pad true M=M:=by unfold cxH;exact Zp _ _
     rw[eM]at hap
     have e1:cxSt E D n mode pad true iv M=moStep E D n mode true ⟨iv,[],[]⟩ (M.take (cxFr n mode pad true M.length)):=by unfold cxSt;rw[e2]
     rw[←e1]at hap
     have lo:(moStep E D n mode true (cxSt E D n mode pad true iv M).2 (cxH n mode pad true M)).1.length=n:=by
      rw[moStep_len h (by rw[e1];exact moStep_ok h hn K0) (by rw[hHl,gn,Zr]),hHl]
     rw[hap]
     simp only
     generalize (moStep E D n mode true (cxSt E D n mode pad true iv M).2 (cxH n mode pad true M)).1=o at*
     generalize (cxSt E D n mode pad true iv M).1=T at*
     rw[Zc,lo,Zz,List.drop_left,List.take_left]
     by_cases hp:pdLong pad o=0
     ·rw[if_pos hp]at hr
      rw[if_pos hp,hr]
      exact⟨rfl,fun _=>rfl⟩
     ·rw[if_neg hp]at hr
      rw[if_neg hp,hr]
      exact⟨rfl,fun hh=>absurd rfl hh⟩
theorem chk_t {b:Bool} {P:Prop} (h:b=true) (p:P):chk b P:=by rw[h];exact p
theorem ck_s {i:Inf} {d:Option Nat} {T:Nat→V} {H Hr:Hp} {id:Id} {b:B} {r:List (Id×B)} (h:H id=some b) (hr:(Hr id).isSome=true) (h2:i.ck d T H Hr r=true):i.ck d T H Hr ((id,b)::r)=true:=by
 unfold Inf.ck sameO
 rw[hr,h2]
 simp[h]
theorem c_cloneO {n:Nat} {va:List Value} {l:List UInt8} (ha:va=bv l) (hn:l.length=n) (hm:n≤1073741824):Con C N.slices_Clone_byte [.z n va] [] (.ret (.o 1 (.k 0) 0 n)) [.sc (bv l)]:=by
 by_cases h0:0<n
 ·exact c_cloneB ha hn h0 hm
 ·subst ha
  obtain rfl:n=0:=(by omega)
  obtain rfl:=Zf hn
  refine fd.slices_Clone_byte.n ?_
  refine .inr ⟨?_,?_⟩
  ·exact⟨[(2,1,.sc [])],_,rfl,[.d 900000 0],rfl,⟨_,rfl,rfl⟩,trivial⟩
  ·refine⟨rfl,by decide,by decide,?_⟩
   exact⟨[],_,rfl,[.d 7 0],rfl,⟨_,rfl,rfl⟩,trivial⟩
theorem c_cxupd {t key s k xs rs} (h:Ciph t key s k xs rs) {mode pad md:Int} {back:Bool} {iv last b:List UInt8} {st:MS} {x:HK} {m L n0 at':Nat} (hx:x= .n∨∃H,x= .o H) (hb:b.length=m) (hL:x.l.length+m=L) (hLb:L≤100000) (K:MK s md st) (hm:mode≤9)
  (hN:n0=cxN (moGrain s md) (cxMost s md mode pad back) L) (hat:at'=moGrain s md*n0) (hne:0<at'∨st.row=[]):
  Con C N.ctx_Ctx_Update [.p (.k 0) 0,.z m (bv b)] [cxO true t mode pad back k xs iv x last,moX (cipV t k xs) md back st 2,gnB st.row st.gone,x.b]
   (.ret (.t [.z at' (bv (moStep (cF t key false) (cF t key true) s md back st ((x.l++b).take at')).1),i64 0]))
   [cxX true true t mode pad back (cipV t k xs) (.z iv.length (bv iv)) (.p (.k 1) 0) (.o 1 (.k 5) 0 (L-at')) (.z (cxLast s mode back ((x.l++b).take at') (moStep (cF t key false) (cF t key true) s md back st ((x.l++b).take at')).1 last).length (bv (cxLast s mode back ((x.l++b).take at') (moStep (cF t key false) (cF t key true) s md back st ((x.l++b).take at')).1 last))),
    moX (cipV t k xs) md back (moStep (cF t key false) (cF t key true) s md back st ((x.l++b).take at')).2 4,.dead,.dead,gnB (moStep (cF t key false) (cF t key true) s md back st ((x.l++b).take at')).2.row (moStep (cF t key false) (cF t key true) s md back st ((x.l++b).take at')).2.gone,.sc (bv ((x.l++b).drop at'))]:=by
 have hs:=h.s_le
 have hg0:0<moGrain s md:=by unfold moGrain;split<;>omega
 have hgm:moGrain s md-1≤cxMost s md mode pad back:=by
  have:=K.ok.m
  unfold moGrain cxMost
  by_cases h3:3≤md
  ·rw[if_neg (by omega),if_pos h3];omega
  ·rw[if_pos (by omega),if_neg h3];split<;>(try split)<;>omega
 have hle:=cxN_le (L:=L) hg0 hgm
 have hlt:=fun i=>cxN_lt (most:=cxMost s md mode pad back) (L:=L) (i:=i) hg0
 rw[←hN]at hle hlt
 have G:=c_grainA h (back:=back) K
 have hz:at'%moGrain s md=0:=by rw[hat];exact Jc _ _
 have lB:(x.l++b).length=L:=by rw[Zc,hb,hL]
 have lT:((x.l++b).take at').length=at':=by rw[Zg];omega
 have lD:((x.l++b).drop at').length=L-at':=by rw[Ze,lB]
 have NE:=c_cxneed (t:=t) (mode:=mode) (pad:=pad) (md:=md) (back:=back) (k:=k) (xs:=xs) (iv:=iv) (last:=last) (st:=st) (x:=x)
 have MO:∀(n':Nat) (vb:List Value),(∃H:List UInt8,n'=H.length∧vb=bv H)→Con C N.ctx_Ctx_most [.p (.k 0) 0] [cxX true true t mode pad back (cipV t k xs) (.z iv.length (bv iv)) (.p (.k 1) 0) (.o 1 (.k 3) 0 n') (.z last.length (bv last)),moX (cipV t k xs) md back st 2,gnB st.row st.gone,.sc vb] (.ret (i64 (cxMost s md mode pad back))) [cxX true true t mode pad back (cipV t k xs) (.z iv.length (bv iv)) (.p (.k 1) 0) (.o 1 (.k 3) 0 n') (.z last.length (bv last)),moX (cipV t k xs) md back st 2,gnB st.row st.gone,.sc vb]:=by
  rintro _ _ ⟨H,rfl,rfl⟩
  exact c_cxmost h (mode:=mode) (pad:=pad) (op:=true) (back:=back) (iv:=iv) (last:=last) (x:= .o H) K hm
 have TU:=c_cxturn h (op:=true) (back:=back) (pad:=pad) (iv:=iv) (last:=last) (H:=x.l++b) (b:=(x.l++b).take at') lT (by omega) K hm hz hne
 generalize moStep (cF t key false) (cF t key true) s md back st ((x.l++b).take at')=S0 at*
 obtain⟨o,c1,row1,g1⟩:=S0
 dsimp only[cxO,HK.v,HK.b]at TU ⊢
 rw[lB]at TU
 generalize cxLast s mode back ((x.l++b).take at') o last=la at*
 generalize hgr:moGrain s md=gr at*
 generalize cxMost s md mode pad back=mo at*
 obtain⟨ch,row,g⟩:=st
 rcases hx with rfl|⟨H,rfl⟩<;>dsimp only[HK.l,HK.v,HK.b,Zn]at*
 ·have hmL:m=L:=by simpa using hL
  refine fd.ctx_Ctx_Update.d caughtOk ?_
  refine⟨⟨[(0,.p (.k 0) 0),(1,.z m (bv b)),(4,.p (.k 4) 0),(5,.p (.k 5) 0)],[cxX true true t mode pad back (cipV t k xs) (.z iv.length (bv iv)) (.p (.k 1) 0) (nilv) (.z last.length (bv last)),moX (cipV t k xs) md back ⟨ch,row,g⟩ 2,gnB row g,.dead,.sc [.slice none 0 0],.sc [.int .i64 0]]⟩,4,5,by decide,⟨[.k 0,.k 1,.k 2,.k 3,.d 4 0,.d 5 0],⟨rfl,rfl,rfl,rfl,trivial⟩,⟨_,rfl,rfl⟩,⟨_,rfl,by cases row<;>rfl⟩,⟨_,rfl,by cases row<;>rfl⟩,⟨_,rfl,rfl⟩,⟨_,rfl,rfl⟩,⟨_,rfl,rfl⟩,trivial⟩,rfl,rfl,rfl,?_⟩
  refine⟨0,Nat,fun i=>⟨[(0,.p (.k 0) 0),(4,.p (.k 4) 0),(5,.p (.k 5) 0),(6,i64 (gr*i:Nat)),(7,i64 mo),(8,i64 gr)],[cxX true true t mode pad back (cipV t k xs) (.z iv.length (bv iv)) (.p (.k 1) 0) (.z L (bv b)) (.z last.length (bv last)),moX (cipV t k xs) md back ⟨ch,row,g⟩ 2,gnB row g,.dead,.sc [.slice none 0 0],.sc [.int .i64 0]]⟩,fun i=>i≤n0,fun i=>n0-i,?_,fun i hi=> ?_⟩
  ·rcases row with _|⟨a,r⟩
   all_goals
    refine⟨[.k 0,.k 1,.k 2,.k 3],_,_,_,_,NE,rfl,rfl,?_⟩
    refine⟨_,rfl,?_⟩
    refine⟨by rw[bv_len,hb],by omega,?_⟩
    refine⟨Za rfl,?_⟩
    refine⟨[.k 0,.k 1,.k 2,.d 17 0],_,_,_,_,MO (m) (bv b) ⟨b,hb.symm,rfl⟩,rfl,rfl,?_⟩
    refine chk_t rfl ?_
    refine chk_t (ck_s rfl rfl (ck_s rfl rfl (ck_s rfl rfl (ck_s rfl rfl rfl)))) ?_
    refine⟨_,rfl,?_⟩
    refine⟨[.k 1,.k 2],_,_,_,_,G,rfl,rfl,?_⟩
    refine⟨[],0,Zq _,[.k 0,.k 1,.k 2,.k 3,.k 4,.k 5],⟨rfl,rfl,rfl,rfl,rfl,rfl,trivial⟩,⟨_,rfl,?_⟩,⟨_,rfl,rfl⟩,⟨_,rfl,rfl⟩,⟨_,rfl,rfl⟩,⟨_,rfl,rfl⟩,⟨_,rfl,rfl⟩,trivial⟩
    show cxX true true t mode pad back (cipV t k xs) (.z iv.length (bv iv)) (.p (.k 1) 0) (.z (m) (sub (bv b) 0 (m))) (.z last.length (bv last))=_
    rw[bv_all hb,hmL]
  ·rcases row with _|⟨a,r⟩<;>rcases row1 with _|⟨a1,r1⟩
   all_goals
    have e1:gr*i≤L:=Zx (Zk gr hi) hle
    refine⟨_,rfl,?_⟩
    refine spl_d (fun hc=> ?_) (fun hc=> ?_)
    ·have hc':(mo:Int)<I6.wrap ((L:Int)-((gr*i:Nat):Int)):=hc
     rw[Zd _ (by omega)]at hc'
     have hli:i<n0:=(hlt i).2 (by omega)
     have hle2:gr*(i+1)≤L:=Zx (Zk gr hli) hle
     refine⟨rfl,i+1,hli,Z0 _ _ hli,[.k 0,.k 1,.k 2,.k 3,.k 4,.k 5],⟨rfl,rfl,rfl,congrArg (vi .i64) ?_,rfl,rfl,trivial⟩,⟨_,rfl,rfl⟩,⟨_,rfl,rfl⟩,⟨_,rfl,rfl⟩,⟨_,rfl,rfl⟩,⟨_,rfl,rfl⟩,⟨_,rfl,rfl⟩,trivial⟩
     rw[Zw]at hle2 ⊢
     rw[Zd _ (by omega)]
     omega
    ·have hc':¬(mo:Int)<I6.wrap ((L:Int)-((gr*i:Nat):Int)):=hc
     rw[Zd _ (by omega)]at hc'
     obtain rfl:i=n0:=Z3 hi (Zs fun hh=>by have:=(hlt i).1 hh;omega)
     refine⟨_,rfl,?_⟩
     refine⟨by omega,by omega,by omega,by omega,?_⟩
     refine⟨[.k 0,.k 1,.k 2,.k 3],_,_,_,_,TU,?_,rfl,?_⟩
     ·show[V.p (.k 0) 0,V.z ((gr*i:Nat):Int).toNat (sub (bv b) 0 ((gr*i:Nat):Int).toNat)]=_
      rw[Zb,←hat];exact congrArg (fun v=>[V.p (.k 0) 0,V.z at' v]) (bv_sub _ 0 at')
     refine⟨Za rfl,?_⟩
     refine⟨_,rfl,?_⟩
     refine⟨by omega,by omega,by omega,by omega,?_⟩
     refine⟨[],_,_,_,_,c_cloneO (n:=L-at') (l:=b.drop at') rfl lD (by omega),?_,rfl,?_⟩
     ·show[V.z (L-((gr*i:Nat):Int).toNat) (sub (bv b) ((gr*i:Nat):Int).toNat (L-((gr*i:Nat):Int).toNat))]=_
      rw[Zb,←hat,bv_dropN lB (by omega)]
     refine⟨Za rfl,?_⟩
     refine⟨_,rfl,?_⟩
     refine⟨Za rfl,?_⟩
     refine⟨Za rfl,?_⟩
     refine⟨_,rfl,_,rfl,?_⟩
     refine⟨_,_,?_,.ret (.refl _),WkBs.refl _⟩
     exact⟨_,rfl,[.k 0,.k 1,.k 2,.k 3,.d 46 4,.d 54 0],rfl,⟨_,rfl,rfl⟩,⟨_,rfl,rfl⟩,⟨_,rfl,rfl⟩,⟨_,rfl,rfl⟩,⟨_,rfl,rfl⟩,⟨_,rfl,rfl⟩,trivial⟩
 ·refine fd.ctx_Ctx_Update.d caughtOk ?_
  refine⟨⟨[(0,.p (.k 0) 0),(1,.z m (bv b)),(4,.p (.k 4) 0),(5,.p (.k 5) 0)],[cxX true true t mode pad back (cipV t k xs) (.z iv.length (bv iv)) (.p (.k 1) 0) (.o 1 (.k 3) 0 H.length) (.z last.length (bv last)),moX (cipV t k xs) md back ⟨ch,row,g⟩ 2,gnB row g,.sc (bv H),.sc [.slice none 0 0],.sc [.int .i64 0]]⟩,4,5,by decide,⟨[.k 0,.k 1,.k 2,.k 3,.d 4 0,.d 5 0],⟨rfl,rfl,rfl,rfl,trivial⟩,⟨_,rfl,rfl⟩,⟨_,rfl,by cases row<;>rfl⟩,⟨_,rfl,by cases row<;>rfl⟩,⟨_,rfl,rfl⟩,⟨_,rfl,rfl⟩,⟨_,rfl,rfl⟩,trivial⟩,rfl,rfl,rfl,?_⟩
  refine⟨0,Nat,fun i=>⟨[(0,.p (.k 0) 0),(4,.p (.k 4) 0),(5,.p (.k 5) 0),(6,i64 (gr*i:Nat)),(7,i64 mo),(8,i64 gr)],[cxX true true t mode pad back (cipV t k xs) (.z iv.length (bv iv)) (.p (.k 1) 0) (.z L (bv (H++b))) (.z last.length (bv last)),moX (cipV t k xs) md back ⟨ch,row,g⟩ 2,gnB row g,.dead,.sc [.slice none 0 0],.sc [.int .i64 0]]⟩,fun i=>i≤n0,fun i=>n0-i,?_,fun i hi=> ?_⟩
  ·rcases row with _|⟨a,r⟩
   all_goals
    refine⟨[.k 0,.k 1,.k 2,.k 3],_,_,_,_,NE,rfl,rfl,?_⟩
    refine⟨_,rfl,?_⟩
    refine⟨by rw[bv_len,hb],by omega,by rw[bv_len];omega,?_⟩
    refine⟨Za rfl,?_⟩
    refine⟨[.k 0,.k 1,.k 2,.d 17 0],_,_,_,_,MO (H.length+m) (sub (bv H) 0 (H.length*1)++bv b) ⟨(H++b),by rw[Zc,hb],by rw[Zj,bv_all rfl,bv_app]⟩,rfl,rfl,?_⟩
    refine chk_t rfl ?_
    refine chk_t (ck_s rfl rfl (ck_s rfl rfl (ck_s rfl rfl (ck_s rfl rfl rfl)))) ?_
    refine⟨_,rfl,?_⟩
    refine⟨[.k 1,.k 2],_,_,_,_,G,rfl,rfl,?_⟩
    refine⟨[],0,Zq _,[.k 0,.k 1,.k 2,.k 3,.k 4,.k 5],⟨rfl,rfl,rfl,rfl,rfl,rfl,trivial⟩,⟨_,rfl,?_⟩,⟨_,rfl,rfl⟩,⟨_,rfl,rfl⟩,⟨_,rfl,rfl⟩,⟨_,rfl,rfl⟩,⟨_,rfl,rfl⟩,trivial⟩
    show cxX true true t mode pad back (cipV t k xs) (.z iv.length (bv iv)) (.p (.k 1) 0) (.z (H.length+m) (sub (sub (bv H) 0 (H.length*1)++bv b) 0 (H.length+m))) (.z last.length (bv last))=_
    rw[Zj,bv_all rfl,bv_app,bv_all (by rw[Zc,hb]),hL]
  ·rcases row with _|⟨a,r⟩<;>rcases row1 with _|⟨a1,r1⟩
   all_goals
    have e1:gr*i≤L:=Zx (Zk gr hi) hle
    refine⟨_,rfl,?_⟩
    refine spl_d (fun hc=> ?_) (fun hc=> ?_)
    ·have hc':(mo:Int)<I6.wrap ((L:Int)-((gr*i:Nat):Int)):=hc
     rw[Zd _ (by omega)]at hc'
     have hli:i<n0:=(hlt i).2 (by omega)
     have hle2:gr*(i+1)≤L:=Zx (Zk gr hli) hle
     refine⟨rfl,i+1,hli,Z0 _ _ hli,[.k 0,.k 1,.k 2,.k 3,.k 4,.k 5],⟨rfl,rfl,rfl,congrArg (vi .i64) ?_,rfl,rfl,trivial⟩,⟨_,rfl,rfl⟩,⟨_,rfl,rfl⟩,⟨_,rfl,rfl⟩,⟨_,rfl,rfl⟩,⟨_,rfl,rfl⟩,⟨_,rfl,rfl⟩,trivial⟩
     rw[Zw]at hle2 ⊢
     rw[Zd _ (by omega)]
     omega
    ·have hc':¬(mo:Int)<I6.wrap ((L:Int)-((gr*i:Nat):Int)):=hc
     rw[Zd _ (by omega)]at hc'
     obtain rfl:i=n0:=Z3 hi (Zs fun hh=>by have:=(hlt i).1 hh;omega)
     refine⟨_,rfl,?_⟩
     refine⟨by omega,by omega,by omega,by omega,?_⟩
     refine⟨[.k 0,.k 1,.k 2,.k 3],_,_,_,_,TU,?_,rfl,?_⟩
     ·show[V.p (.k 0) 0,V.z ((gr*i:Nat):Int).toNat (sub (bv (H++b)) 0 ((gr*i:Nat):Int).toNat)]=_
      rw[Zb,←hat];exact congrArg (fun v=>[V.p (.k 0) 0,V.z at' v]) (bv_sub _ 0 at')
     refine⟨Za rfl,?_⟩
     refine⟨_,rfl,?_⟩
     refine⟨by omega,by omega,by omega,by omega,?_⟩
     refine⟨[],_,_,_,_,c_cloneO (n:=L-at') (l:=(H++b).drop at') rfl lD (by omega),?_,rfl,?_⟩
     ·show[V.z (L-((gr*i:Nat):Int).toNat) (sub (bv (H++b)) ((gr*i:Nat):Int).toNat (L-((gr*i:Nat):Int).toNat))]=_
      rw[Zb,←hat,bv_dropN lB (by omega)]
     refine⟨Za rfl,?_⟩
     refine⟨_,rfl,?_⟩
     refine⟨Za rfl,?_⟩
     refine⟨Za rfl,?_⟩
     refine⟨_,rfl,_,rfl,?_⟩
     refine⟨_,_,?_,.ret (.refl _),WkBs.refl _⟩
     exact⟨_,rfl,[.k 0,.k 1,.k 2,.k 3,.d 46 4,.d 54 0],rfl,⟨_,rfl,rfl⟩,⟨_,rfl,rfl⟩,⟨_,rfl,rfl⟩,⟨_,rfl,rfl⟩,⟨_,rfl,rfl⟩,⟨_,rfl,rfl⟩,trivial⟩
theorem c_cxupd0 {t key s k xs rs} (h:Ciph t key s k xs rs) {mode pad md:Int} {back:Bool} {iv last b:List UInt8} {st:MS} {x:HK} {m L n0 at':Nat} (hx:x= .n∨∃H,x= .o H) (hb:b.length=m) (hL:x.l.length+m=L) (hL0:L=0) (h3:3≤md) (K:MK s md st) (hm:mode≤9)
  (hN:n0=cxN (moGrain s md) (cxMost s md mode pad back) L) (hat:at'=moGrain s md*n0):
  Con C N.ctx_Ctx_Update [.p (.k 0) 0,.z m (bv b)] [cxO true t mode pad back k xs iv x last,moX (cipV t k xs) md back st 2,gnB st.row st.gone,x.b]
   (.ret (.t [.z 0 [],i64 0]))
   [cxX true true t mode pad back (cipV t k xs) (.z iv.length (bv iv)) (.p (.k 1) 0) (.o 1 (.k 4) 0 0) (.z last.length (bv last)),
    moX (cipV t k xs) md back st 2,gnB st.row st.gone,.dead,.sc []]:=by
 have hs:=h.s_le
 have hg0:0<moGrain s md:=by unfold moGrain;split<;>omega
 have hgm:moGrain s md-1≤cxMost s md mode pad back:=by
  have:=K.ok.m
  unfold moGrain cxMost
  by_cases h3:3≤md
  ·rw[if_neg (by omega),if_pos h3];omega
  ·rw[if_pos (by omega),if_neg h3];split<;>(try split)<;>omega
 have hLb:L≤100000:=by omega
 have hle:=cxN_le (L:=L) hg0 hgm
 have hlt:=fun i=>cxN_lt (most:=cxMost s md mode pad back) (L:=L) (i:=i) hg0
 rw[←hN]at hle hlt
 have G:=c_grainA h (back:=back) K
 have hz:at'%moGrain s md=0:=by rw[hat];exact Jc _ _
 have lB:(x.l++b).length=L:=by rw[Zc,hb,hL]
 have lT:((x.l++b).take at').length=at':=by rw[Zg];omega
 have lD:((x.l++b).drop at').length=L-at':=by rw[Ze,lB]
 have NE:=c_cxneed (t:=t) (mode:=mode) (pad:=pad) (md:=md) (back:=back) (k:=k) (xs:=xs) (iv:=iv) (last:=last) (st:=st) (x:=x)
 have MO:∀(n':Nat) (vb:List Value),(∃H:List UInt8,n'=H.length∧vb=bv H)→Con C N.ctx_Ctx_most [.p (.k 0) 0] [cxX true true t mode pad back (cipV t k xs) (.z iv.length (bv iv)) (.p (.k 1) 0) (.o 1 (.k 3) 0 n') (.z last.length (bv last)),moX (cipV t k xs) md back st 2,gnB st.row st.gone,.sc vb] (.ret (i64 (cxMost s md mode pad back))) [cxX true true t mode pad back (cipV t k xs) (.z iv.length (bv iv)) (.p (.k 1) 0) (.o 1 (.k 3) 0 n') (.z last.length (bv last)),moX (cipV t k xs) md back st 2,gnB st.row st.gone,.sc vb]:=by
  rintro _ _ ⟨H,rfl,rfl⟩
  exact c_cxmost h (mode:=mode) (pad:=pad) (op:=true) (back:=back) (iv:=iv) (last:=last) (x:= .o H) K hm
 have a0:at'=0:=by omega
 have TU:=fun(vb:List Value)=>c_cxturn0 h (op:=true) (back:=back) (pad:=pad) (iv:=iv) (last:=last) (H:=x.l++b) (st:=st) (vb:=vb) h3 hm
 dsimp only[cxO,HK.v,HK.b]at TU ⊢
 rw[lB]at TU
 generalize hgr:moGrain s md=gr at*
 generalize cxMost s md mode pad back=mo at*
 obtain⟨ch,row,g⟩:=st
 rcases hx with rfl|⟨H,rfl⟩<;>dsimp only[HK.l,HK.v,HK.b,Zn]at*
 ·have hmL:m=L:=by simpa using hL
  refine fd.ctx_Ctx_Update.d caughtOk ?_
  refine⟨⟨[(0,.p (.k 0) 0),(1,.z m (bv b)),(4,.p (.k 4) 0),(5,.p (.k 5) 0)],[cxX true true t mode pad back (cipV t k xs) (.z iv.length (bv iv)) (.p (.k 1) 0) (nilv) (.z last.length (bv last)),moX (cipV t k xs) md back ⟨ch,row,g⟩ 2,gnB row g,.dead,.sc [.slice none 0 0],.sc [.int .i64 0]]⟩,4,5,by decide,⟨[.k 0,.k 1,.k 2,.k 3,.d 4 0,.d 5 0],⟨rfl,rfl,rfl,rfl,trivial⟩,⟨_,rfl,rfl⟩,⟨_,rfl,by cases row<;>rfl⟩,⟨_,rfl,by cases row<;>rfl⟩,⟨_,rfl,rfl⟩,⟨_,rfl,rfl⟩,⟨_,rfl,rfl⟩,trivial⟩,rfl,rfl,rfl,?_⟩
  refine⟨0,Nat,fun i=>⟨[(0,.p (.k 0) 0),(4,.p (.k 4) 0),(5,.p (.k 5) 0),(6,i64 (gr*i:Nat)),(7,i64 mo),(8,i64 gr)],[cxX true true t mode pad back (cipV t k xs) (.z iv.length (bv iv)) (.p (.k 1) 0) (.z L (bv b)) (.z last.length (bv last)),moX (cipV t k xs) md back ⟨ch,row,g⟩ 2,gnB row g,.dead,.sc [.slice none 0 0],.sc [.int .i64 0]]⟩,fun i=>i≤n0,fun i=>n0-i,?_,fun i hi=> ?_⟩
  ·rcases row with _|⟨a,r⟩
   all_goals
    refine⟨[.k 0,.k 1,.k 2,.k 3],_,_,_,_,NE,rfl,rfl,?_⟩
    refine⟨_,rfl,?_⟩
    refine⟨by rw[bv_len,hb],by omega,?_⟩
    refine⟨Za rfl,?_⟩
    refine⟨[.k 0,.k 1,.k 2,.d 17 0],_,_,_,_,MO (m) (bv b) ⟨b,hb.symm,rfl⟩,rfl,rfl,?_⟩
    refine chk_t rfl ?_
    refine chk_t (ck_s rfl rfl (ck_s rfl rfl (ck_s rfl rfl (ck_s rfl rfl rfl)))) ?_
    refine⟨_,rfl,?_⟩
    refine⟨[.k 1,.k 2],_,_,_,_,G,rfl,rfl,?_⟩
    refine⟨[],0,Zq _,[.k 0,.k 1,.k 2,.k 3,.k 4,.k 5],⟨rfl,rfl,rfl,rfl,rfl,rfl,trivial⟩,⟨_,rfl,?_⟩,⟨_,rfl,rfl⟩,⟨_,rfl,rfl⟩,⟨_,rfl,rfl⟩,⟨_,rfl,rfl⟩,⟨_,rfl,rfl⟩,trivial⟩
    show cxX true true t mode pad back (cipV t k xs) (.z iv.length (bv iv)) (.p (.k 1) 0) (.z (m) (sub (bv b) 0 (m))) (.z last.length (bv last))=_
    rw[bv_all hb,hmL]
  ·rcases row with _|⟨a,r⟩
   all_goals
    have e1:gr*i≤L:=Zx (Zk gr hi) hle
    refine⟨_,rfl,?_⟩
    refine spl_d (fun hc=> ?_) (fun hc=> ?_)
    ·have hc':(mo:Int)<I6.wrap ((L:Int)-((gr*i:Nat):Int)):=hc
     rw[Zd _ (by omega)]at hc'
     have hli:i<n0:=(hlt i).2 (by omega)
     have hle2:gr*(i+1)≤L:=Zx (Zk gr hli) hle
     refine⟨rfl,i+1,hli,Z0 _ _ hli,[.k 0,.k 1,.k 2,.k 3,.k 4,.k 5],⟨rfl,rfl,rfl,congrArg (vi .i64) ?_,rfl,rfl,trivial⟩,⟨_,rfl,rfl⟩,⟨_,rfl,rfl⟩,⟨_,rfl,rfl⟩,⟨_,rfl,rfl⟩,⟨_,rfl,rfl⟩,⟨_,rfl,rfl⟩,trivial⟩
     rw[Zw]at hle2 ⊢
     rw[Zd _ (by omega)]
     omega
    ·have hc':¬(mo:Int)<I6.wrap ((L:Int)-((gr*i:Nat):Int)):=hc
     rw[Zd _ (by omega)]at hc'
     obtain rfl:i=n0:=Z3 hi (Zs fun hh=>by have:=(hlt i).1 hh;omega)
     refine⟨_,rfl,?_⟩
     refine⟨by omega,by omega,by omega,by omega,?_⟩
     refine⟨[.k 0,.k 1,.k 2,.k 3],_,_,_,_,TU [],?_,rfl,?_⟩
     ·show[V.p (.k 0) 0,V.z ((gr*i:Nat):Int).toNat (sub (bv b) 0 ((gr*i:Nat):Int).toNat)]=_
      rw[Zb,←hat,a0];rfl
     refine⟨Za rfl,?_⟩
     refine⟨_,rfl,?_⟩
     refine⟨by omega,by omega,by omega,by omega,?_⟩
     refine⟨[],_,_,_,_,c_cloneO (n:=L-at') (l:=b.drop at') rfl lD (by omega),?_,rfl,?_⟩
     ·show[V.z (L-((gr*i:Nat):Int).toNat) (sub (bv b) ((gr*i:Nat):Int).toNat (L-((gr*i:Nat):Int).toNat))]=_
      rw[Zb,←hat,bv_dropN lB (by omega)]
     refine⟨Za rfl,?_⟩
     refine⟨_,rfl,?_⟩
     refine⟨Za rfl,?_⟩
     refine⟨Za rfl,?_⟩
     refine⟨_,rfl,_,rfl,?_⟩
     refine⟨_,_,?_,.ret (.refl _),WkBs.refl _⟩
     refine⟨_,rfl,[.k 0,.k 1,.k 2,.k 3,.d 54 0],rfl,⟨_,rfl,?_⟩,⟨_,rfl,rfl⟩,⟨_,rfl,rfl⟩,⟨_,rfl,rfl⟩,⟨_,rfl,?_⟩,trivial⟩
     ·exact congrArg (fun z=>cxX true true t mode pad back (cipV t k xs) (.z iv.length (bv iv)) (.p (.k 1) 0) (.o 1 (.k 4) 0 z) (.z last.length (bv last))) (show L-at'=0 by omega)
     ·exact congrArg (fun z=>B.sc (bv z)) (Zf (by rw[lD];omega))
 ·refine fd.ctx_Ctx_Update.d caughtOk ?_
  refine⟨⟨[(0,.p (.k 0) 0),(1,.z m (bv b)),(4,.p (.k 4) 0),(5,.p (.k 5) 0)],[cxX true true t mode pad back (cipV t k xs) (.z iv.length (bv iv)) (.p (.k 1) 0) (.o 1 (.k 3) 0 H.length) (.z last.length (bv last)),moX (cipV t k xs) md back ⟨ch,row,g⟩ 2,gnB row g,.sc (bv H),.sc [.slice none 0 0],.sc [.int .i64 0]]⟩,4,5,by decide,⟨[.k 0,.k 1,.k 2,.k 3,.d 4 0,.d 5 0],⟨rfl,rfl,rfl,rfl,trivial⟩,⟨_,rfl,rfl⟩,⟨_,rfl,by cases row<;>rfl⟩,⟨_,rfl,by cases row<;>rfl⟩,⟨_,rfl,rfl⟩,⟨_,rfl,rfl⟩,⟨_,rfl,rfl⟩,trivial⟩,rfl,rfl,rfl,?_⟩
  refine⟨0,Nat,fun i=>⟨[(0,.p (.k 0) 0),(4,.p (.k 4) 0),(5,.p (.k 5) 0),(6,i64 (gr*i:Nat)),(7,i64 mo),(8,i64 gr)],[cxX true true t mode pad back (cipV t k xs) (.z iv.length (bv iv)) (.p (.k 1) 0) (.z L (bv (H++b))) (.z last.length (bv last)),moX (cipV t k xs) md back ⟨ch,row,g⟩ 2,gnB row g,.dead,.sc [.slice none 0 0],.sc [.int .i64 0]]⟩,fun i=>i≤n0,fun i=>n0-i,?_,fun i hi=> ?_⟩
  ·rcases row with _|⟨a,r⟩
   all_goals
    refine⟨[.k 0,.k 1,.k 2,.k 3],_,_,_,_,NE,rfl,rfl,?_⟩
    refine⟨_,rfl,?_⟩
    refine⟨by rw[bv_len,hb],by omega,by rw[bv_len];omega,?_⟩
    refine⟨Za rfl,?_⟩
    refine⟨[.k 0,.k 1,.k 2,.d 17 0],_,_,_,_,MO (H.length+m) (sub (bv H) 0 (H.length*1)++bv b) ⟨(H++b),by rw[Zc,hb],by rw[Zj,bv_all rfl,bv_app]⟩,rfl,rfl,?_⟩
    refine chk_t rfl ?_
    refine chk_t (ck_s rfl rfl (ck_s rfl rfl (ck_s rfl rfl (ck_s rfl rfl rfl)))) ?_
    refine⟨_,rfl,?_⟩
    refine⟨[.k 1,.k 2],_,_,_,_,G,rfl,rfl,?_⟩
    refine⟨[],0,Zq _,[.k 0,.k 1,.k 2,.k 3,.k 4,.k 5],⟨rfl,rfl,rfl,rfl,rfl,rfl,trivial⟩,⟨_,rfl,?_⟩,⟨_,rfl,rfl⟩,⟨_,rfl,rfl⟩,⟨_,rfl,rfl⟩,⟨_,rfl,rfl⟩,⟨_,rfl,rfl⟩,trivial⟩
    show cxX true true t mode pad back (cipV t k xs) (.z iv.length (bv iv)) (.p (.k 1) 0) (.z (H.length+m) (sub (sub (bv H) 0 (H.length*1)++bv b) 0 (H.length+m))) (.z last.length (bv last))=_
    rw[Zj,bv_all rfl,bv_app,bv_all (by rw[Zc,hb]),hL]
  ·rcases row with _|⟨a,r⟩
   all_goals
    have e1:gr*i≤L:=Zx (Zk gr hi) hle
    refine⟨_,rfl,?_⟩
    refine spl_d (fun hc=> ?_) (fun hc=> ?_)
    ·have hc':(mo:Int)<I6.wrap ((L:Int)-((gr*i:Nat):Int)):=hc
     rw[Zd _ (by omega)]at hc'
     have hli:i<n0:=(hlt i).2 (by omega)
     have hle2:gr*(i+1)≤L:=Zx (Zk gr hli) hle
     refine⟨rfl,i+1,hli,Z0 _ _ hli,[.k 0,.k 1,.k 2,.k 3,.k 4,.k 5],⟨rfl,rfl,rfl,congrArg (vi .i64) ?_,rfl,rfl,trivial⟩,⟨_,rfl,rfl⟩,⟨_,rfl,rfl⟩,⟨_,rfl,rfl⟩,⟨_,rfl,rfl⟩,⟨_,rfl,rfl⟩,⟨_,rfl,rfl⟩,trivial⟩
     rw[Zw]at hle2 ⊢
     rw[Zd _ (by omega)]
     omega
    ·have hc':¬(mo:Int)<I6.wrap ((L:Int)-((gr*i:Nat):Int)):=hc
     rw[Zd _ (by omega)]at hc'
     obtain rfl:i=n0:=Z3 hi (Zs fun hh=>by have:=(hlt i).1 hh;omega)
     refine⟨_,rfl,?_⟩
     refine⟨by omega,by omega,by omega,by omega,?_⟩
     refine⟨[.k 0,.k 1,.k 2,.k 3],_,_,_,_,TU [],?_,rfl,?_⟩
     ·show[V.p (.k 0) 0,V.z ((gr*i:Nat):Int).toNat (sub (bv (H++b)) 0 ((gr*i:Nat):Int).toNat)]=_
      rw[Zb,←hat,a0];rfl
     refine⟨Za rfl,?_⟩
     refine⟨_,rfl,?_⟩
     refine⟨by omega,by omega,by omega,by omega,?_⟩
     refine⟨[],_,_,_,_,c_cloneO (n:=L-at') (l:=(H++b).drop at') rfl lD (by omega),?_,rfl,?_⟩
     ·show[V.z (L-((gr*i:Nat):Int).toNat) (sub (bv (H++b)) ((gr*i:Nat):Int).toNat (L-((gr*i:Nat):Int).toNat))]=_
      rw[Zb,←hat,bv_dropN lB (by omega)]
     refine⟨Za rfl,?_⟩
     refine⟨_,rfl,?_⟩
     refine⟨Za rfl,?_⟩
     refine⟨Za rfl,?_⟩
     refine⟨_,rfl,_,rfl,?_⟩
     refine⟨_,_,?_,.ret (.refl _),WkBs.refl _⟩
     refine⟨_,rfl,[.k 0,.k 1,.k 2,.k 3,.d 54 0],rfl,⟨_,rfl,?_⟩,⟨_,rfl,rfl⟩,⟨_,rfl,rfl⟩,⟨_,rfl,rfl⟩,⟨_,rfl,?_⟩,trivial⟩
     ·exact congrArg (fun z=>cxX true true t mode pad back (cipV t k xs) (.z iv.length (bv iv)) (.p (.k 1) 0) (.o 1 (.k 4) 0 z) (.z last.length (bv last))) (show L-at'=0 by omega)
     ·exact congrArg (fun z=>B.sc (bv z)) (Zf (by rw[lD];omega))
theorem c_cxupd_noA {m:Nat} {vb:List Value}:
  Con C N.ctx_Ctx_Update [.p (.k 0) 0,.z m vb] [cxX false false 0 0 0 false nilp nilv nilp nilv nilv] (.ret (.t [.z 0 [],i64 6])) [cxX false false 0 0 0 false nilp nilv nilp nilv nilv]:=by
 refine fd.ctx_Ctx_Update.d caughtOk ?_
 refine⟨⟨[(0,.p (.k 0) 0),(1,.z m vb),(4,.p (.k 1) 0),(5,.p (.k 2) 0)],[_,.sc [.slice none 0 0],.sc [.int .i64 0]]⟩,1,2,by decide,⟨[.k 0,.d 4 0,.d 5 0],⟨rfl,rfl,rfl,rfl,trivial⟩,⟨_,rfl,rfl⟩,⟨_,rfl,rfl⟩,⟨_,rfl,rfl⟩,trivial⟩,rfl,rfl,rfl,?_⟩
 refine⟨0,Unit,fun _=>⟨[],[]⟩,fun _=>False,fun _=>0,?_,fun _ h=>h.elim⟩
 refine⟨[.k 0],_,_,_,_,c_cxneedA,rfl,rfl,?_⟩
 refine⟨_,rfl,_,rfl,?_⟩
 refine⟨_,_,?_,.ret (.t (.cons .nl (.cons (.refl _) .nil))),WkBs.refl _⟩
 exact⟨_,rfl,[.k 0],rfl,⟨_,rfl,rfl⟩,trivial⟩
theorem c_cxfin_noA:Con C N.ctx_Ctx_Final [.p (.k 0) 0] [cxX false false 0 0 0 false nilp nilv nilp nilv nilv] (.ret (.t [.z 0 [],i64 6])) [cxX false false 0 0 0 false nilp nilv nilp nilv nilv]:=by
 refine fd.ctx_Ctx_Final.d caughtOk ?_
 refine⟨⟨[(0,.p (.k 0) 0),(2,.p (.k 1) 0),(3,.p (.k 2) 0)],[_,.sc [.slice none 0 0],.sc [.int .i64 0]]⟩,1,2,by decide,⟨[.k 0,.d 2 0,.d 3 0],⟨rfl,rfl,rfl,trivial⟩,⟨_,rfl,rfl⟩,⟨_,rfl,rfl⟩,⟨_,rfl,rfl⟩,trivial⟩,rfl,rfl,rfl,?_⟩
 refine⟨[.k 0],_,_,_,_,c_cxneedA,rfl,rfl,?_⟩
 refine⟨_,rfl,_,rfl,?_⟩
 refine⟨_,_,?_,.ret (.t (.cons .nl (.cons (.refl _) .nil))),WkBs.refl _⟩
 exact⟨_,rfl,[.k 0],rfl,⟨_,rfl,rfl⟩,trivial⟩
theorem c_cxstolen3 {t mode pad md:Int} {op back:Bool} {k:Nat} {xs:List V} {iv last:List UInt8} {st:MS} (hm:mode≤9):Con C N.ctx_Ctx_stolen [.p (.k 0) 0] [cxO op t mode pad back k xs iv .n last,moX (cipV t k xs) md back st 2,gnB st.row st.gone] (.ret (bool (decide (7≤mode)))) [cxO op t mode pad back k xs iv .n last,moX (cipV t k xs) md back st 2,gnB st.row st.gone]:=by
 obtain⟨ch,row,g⟩:=st
 rcases row with _|⟨a,r⟩
 all_goals
  refine con.ctx_Ctx_stolen ?_
  refine⟨_,rfl,?_⟩
  refine spl_d (fun h7=> ?_) (fun h7=> ?_)
  ·refine⟨_,rfl,?_⟩
   refine⟨_,rfl,[.k 0,.k 1,.k 2],?_,⟨_,rfl,rfl⟩,⟨_,rfl,rfl⟩,⟨_,rfl,rfl⟩,trivial⟩
   exact congrArg bool (by rw[decide_eq_true hm,decide_eq_true h7])
  ·refine⟨_,rfl,[.k 0,.k 1,.k 2],?_,⟨_,rfl,rfl⟩,⟨_,rfl,rfl⟩,⟨_,rfl,rfl⟩,trivial⟩
   exact congrArg bool (by rw[decide_eq_false h7])
theorem c_cxturn3 {t key s k xs rs} (h:Ciph t key s k xs rs) {mode pad md:Int} {op back:Bool} {iv last b:List UInt8} {st:MS} {m:Nat} (hb:b.length=m) (hmb:m≤100000) (K:MK s md st) (hm:mode≤9) (hg:m%moGrain s md=0) (hne:0<m∨st.row=[]):
  Con C N.ctx_Ctx_turn [.p (.k 0) 0,.z m (bv b)] [cxO op t mode pad back k xs iv .n last,moX (cipV t k xs) md back st 2,gnB st.row st.gone]
   (.ret (.z m (bv (moStep (cF t key false) (cF t key true) s md back st b).1)))
   [cxO op t mode pad back k xs iv .n (cxLast s mode back b (moStep (cF t key false) (cF t key true) s md back st b).1 last),moX (cipV t k xs) md back (moStep (cF t key false) (cF t key true) s md back st b).2 3,.dead,gnB (moStep (cF t key false) (cF t key true) s md back st b).2.row (moStep (cF t key false) (cF t key true) s md back st b).2.gone]:=by
 have hs:=h.s_le
 have lo:(moStep (cF t key false) (cF t key true) s md back st b).1.length=m:=by rw[moStep_len h.ci K.ok (by rw[hb];exact hg),hb]
 have T0:=c_step h (back:=back) (st:=st) (b:=b) rfl hb (by omega) K hg hne
 have S:=fun(st':MS)=>c_cxstolen3 (t:=t) (mode:=mode) (pad:=pad) (md:=md) (op:=op) (back:=back) (k:=k) (xs:=xs) (iv:=iv) (last:=last) (st:=st') hm
 generalize moStep (cF t key false) (cF t key true) s md back st b=S0 at*
 obtain⟨o,st1⟩:=S0
 have S1:=S st1
 obtain⟨c1,row1,g1⟩:=st1
 dsimp only at T0 lo ⊢
 have eS:I6.wrap ((m:Int)-(s:Int))=(m:Int)-s:=Zd _ (by omega)
 by_cases hL:7≤mode∧s≤m
 ·have eL:cxLast s mode back b o last=(if back then b else o).drop (m-s):=by unfold cxLast;rw[hb,if_pos hL]
  rw[eL]
  cases back
  all_goals
   obtain⟨ch,row,g⟩:=st
   rcases row with _|⟨a,r⟩<;>rcases row1 with _|⟨a1,r1⟩
  all_goals
   refine con.ctx_Ctx_turn ?_
   refine⟨_,rfl,?_⟩
   refine⟨[.k 1,.k 2],_,_,_,_,T0,rfl,rfl,?_⟩
   refine⟨[],_,_,_,_,c_refuse0,rfl,rfl,?_⟩
   refine⟨_,rfl,?_⟩
   refine⟨[],_,_,_,_,h.size,rfl,rfl,?_⟩
   refine⟨[.k 0,.k 1,.d 15 2],_,_,_,_,S1,rfl,rfl,?_⟩
   refine spl_d (fun h7=> ?_) (fun h7=>absurd hL.1 h7)
   refine spl_d (fun h7=> ?_) (fun h7=>absurd hL.2 (by omega))
   refine⟨_,rfl,?_⟩
   refine⟨by rw[eS];omega,by rw[eS];omega,by omega,by omega,?_⟩
   first
    |refine⟨[],_,_,_,_,c_cloneZ (n:=s) (l:=o.drop (m-s)) (va:=bv (o.drop (m-s))) rfl (by rw[Ze,lo];omega) (by omega),?_,rfl,?_⟩
     ·show[V.z (m-(I6.wrap ((m:Int)-(s:Int))).toNat) (sub (bv o) (I6.wrap ((m:Int)-(s:Int))).toNat (m-(I6.wrap ((m:Int)-(s:Int))).toNat))]=_
      rw[eS,show((m:Int)-s).toNat=m-s by omega,bv_dropN lo (by omega),show m-(m-s)=s by omega]
     refine⟨Za rfl,?_⟩
     refine⟨_,rfl,[.k 0,.k 1,.k 2,.d 15 2],rfl,⟨_,rfl,?_⟩,⟨_,rfl,rfl⟩,⟨_,rfl,rfl⟩,⟨_,rfl,rfl⟩,trivial⟩
     have ll:(o.drop (m-s)).length=s:=by rw[Ze,lo];omega
     show _=cxO op t mode pad false k xs iv .n (o.drop (m-s))
     unfold cxO
     rw[ll];rfl
    |refine⟨[],_,_,_,_,c_cloneZ (n:=s) (l:=b.drop (m-s)) (va:=bv (b.drop (m-s))) rfl (by rw[Ze,hb];omega) (by omega),?_,rfl,?_⟩
     ·show[V.z (m-(I6.wrap ((m:Int)-(s:Int))).toNat) (sub (bv b) (I6.wrap ((m:Int)-(s:Int))).toNat (m-(I6.wrap ((m:Int)-(s:Int))).toNat))]=_
      rw[eS,show((m:Int)-s).toNat=m-s by omega,bv_dropN hb (by omega),show m-(m-s)=s by omega]
     refine⟨Za rfl,?_⟩
     refine⟨_,rfl,[.k 0,.k 1,.k 2,.d 15 2],rfl,⟨_,rfl,?_⟩,⟨_,rfl,rfl⟩,⟨_,rfl,rfl⟩,⟨_,rfl,rfl⟩,trivial⟩
     have ll:(b.drop (m-s)).length=s:=by rw[Ze,hb];omega
     show _=cxO op t mode pad true k xs iv .n (b.drop (m-s))
     unfold cxO
     rw[ll];rfl
 ·have eL:cxLast s mode back b o last=last:=by unfold cxLast;rw[hb,if_neg hL]
  rw[eL]
  obtain⟨ch,row,g⟩:=st
  rcases row with _|⟨a,r⟩<;>rcases row1 with _|⟨a1,r1⟩
  all_goals
   refine con.ctx_Ctx_turn ?_
   refine⟨_,rfl,?_⟩
   refine⟨[.k 1,.k 2],_,_,_,_,T0,rfl,rfl,?_⟩
   refine⟨[],_,_,_,_,c_refuse0,rfl,rfl,?_⟩
   refine⟨_,rfl,?_⟩
   refine⟨[],_,_,_,_,h.size,rfl,rfl,?_⟩
   refine⟨[.k 0,.k 1,.d 15 2],_,_,_,_,S1,rfl,rfl,?_⟩
   refine spl_d (fun h7=> ?_) (fun h7=> ?_)
   ·refine spl_d (fun h8=>absurd ⟨h7,by omega⟩ hL) (fun h8=> ?_)
    exact⟨_,rfl,[.k 0,.k 1,.k 2,.d 15 2],rfl,⟨_,rfl,rfl⟩,⟨_,rfl,rfl⟩,⟨_,rfl,rfl⟩,⟨_,rfl,rfl⟩,trivial⟩
   ·exact⟨_,rfl,[.k 0,.k 1,.k 2,.d 15 2],rfl,⟨_,rfl,rfl⟩,⟨_,rfl,rfl⟩,⟨_,rfl,rfl⟩,⟨_,rfl,rfl⟩,trivial⟩
theorem c_cxturn03 {t key s k xs rs} (h:Ciph t key s k xs rs) {mode pad md:Int} {op back:Bool} {iv last:List UInt8} {st:MS} {vb:List Value} (h3:3≤md) (hm:mode≤9):
  Con C N.ctx_Ctx_turn [.p (.k 0) 0,.z 0 vb] [cxO op t mode pad back k xs iv .n last,moX (cipV t k xs) md back st 2,gnB st.row st.gone]
   (.ret (.z 0 [])) [cxO op t mode pad back k xs iv .n last,moX (cipV t k xs) md back st 2,gnB st.row st.gone]:=by
 have hs:=h.s_le
 have T0:=c_step_nil h (back:=back) (st:=st) (vb:=vb) h3
 have S:=c_cxstolen3 (t:=t) (mode:=mode) (pad:=pad) (md:=md) (op:=op) (back:=back) (k:=k) (xs:=xs) (iv:=iv) (last:=last) (st:=st) hm
 obtain⟨ch,row,g⟩:=st
 rcases row with _|⟨a,r⟩
 all_goals
  refine con.ctx_Ctx_turn ?_
  refine⟨_,rfl,?_⟩
  refine⟨[.k 1,.k 2],_,_,_,_,T0,rfl,rfl,?_⟩
  refine⟨[],_,_,_,_,c_refuse0,rfl,rfl,?_⟩
  refine⟨_,rfl,?_⟩
  refine⟨[],_,_,_,_,h.size,rfl,rfl,?_⟩
  refine⟨[.k 0,.k 1,.k 2],_,_,_,_,S,rfl,rfl,?_⟩
  refine spl_d (fun h7=> ?_) (fun h7=> ?_)
  ·refine spl_d (fun h8=>absurd h8 (by omega)) (fun h8=> ?_)
   exact⟨_,rfl,[.k 0,.k 1,.k 2],rfl,⟨_,rfl,rfl⟩,⟨_,rfl,rfl⟩,⟨_,rfl,rfl⟩,trivial⟩
  ·exact⟨_,rfl,[.k 0,.k 1,.k 2],rfl,⟨_,rfl,rfl⟩,⟨_,rfl,rfl⟩,⟨_,rfl,rfl⟩,trivial⟩
theorem c_cxturn_bad3 {t key s k xs rs} (h:Ciph t key s k xs rs) {mode pad md:Int} {op back:Bool} {iv last:List UInt8} {st:MS} {m:Nat} {vb:List Value} (K:MK s md st) (hg:m%moGrain s md≠0):
  Con C N.ctx_Ctx_turn [.p (.k 0) 0,.z m vb] [cxO op t mode pad back k xs iv .n last,moX (cipV t k xs) md back st 2,gnB st.row st.gone]
   (.pan (.i tRef (i64 7))) [cxO op t mode pad back k xs iv .n last,moX (cipV t k xs) md back st 2,gnB st.row st.gone]:=by
 have T0:=c_step_bad h (back:=back) (st:=st) (vb:=vb) K hg
 obtain⟨ch,row,g⟩:=st
 rcases row with _|⟨a,r⟩
 all_goals
  refine con.ctx_Ctx_turn ?_
  refine⟨_,rfl,?_⟩
  refine⟨[.k 1,.k 2],_,_,_,_,T0,rfl,rfl,?_⟩
  refine⟨[],_,_,_,_,c_refuse (e:=7) (by decide),rfl,rfl,?_⟩
  exact⟨_,rfl,[.k 0,.k 1,.k 2],rfl,⟨_,rfl,rfl⟩,⟨_,rfl,rfl⟩,⟨_,rfl,rfl⟩,trivial⟩
theorem c_cxend_st {t key s k xs rs} (h:Ciph t key s k xs rs) {mode pad md:Int} {back:Bool} {iv last H:List UInt8} {st:MS} {m:Nat} (hl:last.length=s) (hH:H.length=m) (hm:7≤mode∧mode≤9) (h1:s≤m) (h2:m≤2*s):
  Con C N.ctx_Ctx_end [.p (.k 0) 0,.z m (bv H)] [cxO false t mode pad back k xs iv .n last,moX (cipV t k xs) md back st 2,gnB st.row st.gone] (.ret (.z m (bv (stT (cF t key false) (cF t key true) s mode back last H)))) [cxO false t mode pad back k xs iv .n last,moX (cipV t k xs) md back st 2,gnB st.row st.gone]:=by
 have T0:Con C N.steal_Tail [cipV t k xs,i64 mode,bool back,.z last.length (bv last),.z m (bv H)] [] (okBlk m) [.sc (bv (stT (cF t key false) (cF t key true) s mode back last H))]:=by
  rw[hl];exact c_tail h rfl rfl hl hH hm h1 h2
 have lo:(stT (cF t key false) (cF t key true) s mode back last H).length=m:=by rw[stT_len h.ci hl (by omega) (by omega),hH]
 have S:=c_cxstolen3 (t:=t) (mode:=mode) (pad:=pad) (md:=md) (op:=false) (back:=back) (k:=k) (xs:=xs) (iv:=iv) (last:=last) (st:=st) hm.2
 obtain⟨ch,row,g⟩:=st
 rcases row with _|⟨a,r⟩
 all_goals
  refine con.ctx_Ctx_end ?_
  refine⟨_,rfl,?_⟩
  refine⟨[],_,_,_,_,h.size,rfl,rfl,?_⟩
  refine⟨[.k 0,.k 1,.k 2],_,_,_,_,S,rfl,rfl,?_⟩
  refine spl_d (fun h7=> ?_) (fun h7=>absurd hm.1 h7)
  refine⟨_,rfl,?_⟩
  refine⟨_,rfl,?_⟩
  refine⟨_,rfl,?_⟩
  refine⟨_,rfl,?_⟩
  refine⟨[],_,_,_,_,T0,rfl,rfl,?_⟩
  refine⟨[],_,_,_,_,c_refuse0,rfl,rfl,?_⟩
  refine⟨_,rfl,[.k 0,.k 1,.k 2],?_,⟨_,rfl,rfl⟩,⟨_,rfl,rfl⟩,⟨_,rfl,rfl⟩,trivial⟩
  exact congrArg (V.z m) (bv_all lo)
theorem c_cxend_st7 {t key s k xs rs} (h:Ciph t key s k xs rs) {mode pad md:Int} {back:Bool} {iv last H:List UInt8} {st:MS} {m:Nat} (hl:last.length=s) (hH:H.length=m) (hm:7≤mode∧mode≤9) (h1:m<s):
  Con C N.ctx_Ctx_end [.p (.k 0) 0,.z m (bv H)] [cxO false t mode pad back k xs iv .n last,moX (cipV t k xs) md back st 2,gnB st.row st.gone] (.pan (.i tRef (i64 7))) [cxO false t mode pad back k xs iv .n last,moX (cipV t k xs) md back st 2,gnB st.row st.gone]:=by
 have hs:=h.s_le
 have e7:stErr s mode last H=7:=by unfold stErr;rw[if_neg (by omega),if_neg (by omega),if_pos (by omega)]
 have T0:=c_tail_err h (l:=last.length) (m:=m) (vl:=bv last) (vb:=bv H) (mode:=mode) (back:=back) rfl hH (by omega) (by rw[e7];decide)
 rw[e7]at T0
 have S:=c_cxstolen3 (t:=t) (mode:=mode) (pad:=pad) (md:=md) (op:=false) (back:=back) (k:=k) (xs:=xs) (iv:=iv) (last:=last) (st:=st) hm.2
 obtain⟨ch,row,g⟩:=st
 rcases row with _|⟨a,r⟩
 all_goals
  refine con.ctx_Ctx_end ?_
  refine⟨_,rfl,?_⟩
  refine⟨[],_,_,_,_,h.size,rfl,rfl,?_⟩
  refine⟨[.k 0,.k 1,.k 2],_,_,_,_,S,rfl,rfl,?_⟩
  refine spl_d (fun h7=> ?_) (fun h7=>absurd hm.1 h7)
  refine⟨_,rfl,?_⟩
  refine⟨_,rfl,?_⟩
  refine⟨_,rfl,?_⟩
  refine⟨_,rfl,?_⟩
  refine⟨[],_,_,_,_,T0,rfl,rfl,?_⟩
  refine⟨[],_,_,_,_,c_refuse (e:=7) (by decide),rfl,rfl,?_⟩
  exact⟨_,rfl,[.k 0,.k 1,.k 2],rfl,⟨_,rfl,rfl⟩,⟨_,rfl,rfl⟩,⟨_,rfl,rfl⟩,trivial⟩
theorem c_cxend_n {t key s k xs rs} (h:Ciph t key s k xs rs) {mode pad md:Int} {back:Bool} {iv last H:List UInt8} {st:MS} {m:Nat} (hH:H.length=m) (hmb:m≤100000) (K:MK s md st) (hm:mode≤6) (h4:pad=4) (hg:m%moGrain s md=0) (hne:0<m∨st.row=[]):
  Con C N.ctx_Ctx_end [.p (.k 0) 0,.z m (bv H)] [cxO false t mode pad back k xs iv .n last,moX (cipV t k xs) md back st 2,gnB st.row st.gone] (.ret (.z m (bv (moStep (cF t key false) (cF t key true) s md back st H).1)))
   [cxO false t mode pad back k xs iv .n (cxLast s mode back H (moStep (cF t key false) (cF t key true) s md back st H).1 last),moX (cipV t k xs) md back (moStep (cF t key false) (cF t key true) s md back st H).2 3,.dead,gnB (moStep (cF t key false) (cF t key true) s md back st H).2.row (moStep (cF t key false) (cF t key true) s md back st H).2.gone]:=by
 have S:=c_cxstolen3 (t:=t) (mode:=mode) (pad:=pad) (md:=md) (op:=false) (back:=back) (k:=k) (xs:=xs) (iv:=iv) (last:=last) (st:=st) (by omega)
 have TU:=c_cxturn3 h (op:=false) (back:=back) (pad:=pad) (iv:=iv) (last:=last) (b:=H) hH hmb K (mode:=mode) (by omega) hg hne
 generalize moStep (cF t key false) (cF t key true) s md back st H=S0 at*
 obtain⟨o,c1,row1,g1⟩:=S0
 obtain⟨ch,row,g⟩:=st
 rcases row with _|⟨a,r⟩<;>rcases row1 with _|⟨a1,r1⟩
 all_goals
  refine con.ctx_Ctx_end ?_
  refine⟨_,rfl,?_⟩
  refine⟨[],_,_,_,_,h.size,rfl,rfl,?_⟩
  refine⟨[.k 0,.k 1,.k 2],_,_,_,_,S,rfl,rfl,?_⟩
  refine spl_d (fun h7=>absurd h7 (by omega)) (fun h7=> ?_)
  refine⟨_,rfl,?_⟩
  refine spl_eq (fun _=> ?_) (fun hh=>absurd h4 hh)
  refine⟨[.k 0,.k 1,.k 2],_,_,_,_,TU,rfl,rfl,?_⟩
  exact⟨_,rfl,[.k 0,.k 1,.k 2,.d 53 3],rfl,⟨_,rfl,rfl⟩,⟨_,rfl,rfl⟩,⟨_,rfl,rfl⟩,⟨_,rfl,rfl⟩,trivial⟩
theorem c_cxend_n0 {t key s k xs rs} (h:Ciph t key s k xs rs) {mode pad md:Int} {back:Bool} {iv last H:List UInt8} {st:MS} {m:Nat} (hm0:m=0) (h3:3≤md) (hm:mode≤6) (h4:pad=4):
  Con C N.ctx_Ctx_end [.p (.k 0) 0,.z m (bv H)] [cxO false t mode pad back k xs iv .n last,moX (cipV t k xs) md back st 2,gnB st.row st.gone] (.ret (.z 0 [])) [cxO false t mode pad back k xs iv .n last,moX (cipV t k xs) md back st 2,gnB st.row st.gone]:=by
 subst hm0
 have S:=c_cxstolen3 (t:=t) (mode:=mode) (pad:=pad) (md:=md) (op:=false) (back:=back) (k:=k) (xs:=xs) (iv:=iv) (last:=last) (st:=st) (by omega)
 have TU:=c_cxturn03 h (op:=false) (back:=back) (pad:=pad) (iv:=iv) (last:=last) (mode:=mode) (st:=st) (vb:=bv H) h3 (by omega)
 obtain⟨ch,row,g⟩:=st
 rcases row with _|⟨a,r⟩
 all_goals
  refine con.ctx_Ctx_end ?_
  refine⟨_,rfl,?_⟩
  refine⟨[],_,_,_,_,h.size,rfl,rfl,?_⟩
  refine⟨[.k 0,.k 1,.k 2],_,_,_,_,S,rfl,rfl,?_⟩
  refine spl_d (fun h7=>absurd h7 (by omega)) (fun h7=> ?_)
  refine⟨_,rfl,?_⟩
  refine spl_eq (fun _=> ?_) (fun hh=>absurd h4 hh)
  refine⟨[.k 0,.k 1,.k 2],_,_,_,_,TU,rfl,rfl,?_⟩
  exact⟨_,rfl,[.k 0,.k 1,.k 2],rfl,⟨_,rfl,rfl⟩,⟨_,rfl,rfl⟩,⟨_,rfl,rfl⟩,trivial⟩
theorem c_cxend_n7 {t key s k xs rs} (h:Ciph t key s k xs rs) {mode pad md:Int} {back:Bool} {iv last H:List UInt8} {st:MS} {m:Nat} (K:MK s md st) (hm:mode≤6) (h4:pad=4) (hg:m%moGrain s md≠0):
  Con C N.ctx_Ctx_end [.p (.k 0) 0,.z m (bv H)] [cxO false t mode pad back k xs iv .n last,moX (cipV t k xs) md back st 2,gnB st.row st.gone] (.pan (.i tRef (i64 7))) [cxO false t mode pad back k xs iv .n last,moX (cipV t k xs) md back st 2,gnB st.row st.gone]:=by
 have S:=c_cxstolen3 (t:=t) (mode:=mode) (pad:=pad) (md:=md) (op:=false) (back:=back) (k:=k) (xs:=xs) (iv:=iv) (last:=last) (st:=st) (by omega)
 have TU:=c_cxturn_bad3 h (op:=false) (back:=back) (pad:=pad) (iv:=iv) (last:=last) (mode:=mode) (m:=m) (vb:=bv H) K hg
 obtain⟨ch,row,g⟩:=st
 rcases row with _|⟨a,r⟩
 all_goals
  refine con.ctx_Ctx_end ?_
  refine⟨_,rfl,?_⟩
  refine⟨[],_,_,_,_,h.size,rfl,rfl,?_⟩
  refine⟨[.k 0,.k 1,.k 2],_,_,_,_,S,rfl,rfl,?_⟩
  refine spl_d (fun h7=>absurd h7 (by omega)) (fun h7=> ?_)
  refine⟨_,rfl,?_⟩
  refine spl_eq (fun _=> ?_) (fun hh=>absurd h4 hh)
  refine⟨[.k 0,.k 1,.k 2],_,_,_,_,TU,rfl,rfl,?_⟩
  exact⟨_,rfl,[.k 0,.k 1,.k 2],rfl,⟨_,rfl,rfl⟩,⟨_,rfl,rfl⟩,⟨_,rfl,rfl⟩,trivial⟩
theorem c_cxend_p {t key s k xs rs} (h:Ciph t key s k xs rs) {mode pad md:Int} {back:Bool} {iv last H:List UInt8} {st:MS} {m:Nat} (hb:back=false) (hH:H.length=m) (hms:m<s) (K:MK s md st) (hm:mode≤6) (hp:pad=1∨pad=2∨pad=3) (hgr:moGrain s md=s):
  Con C N.ctx_Ctx_end [.p (.k 0) 0,.z m (bv H)] [cxO false t mode pad back k xs iv .n last,moX (cipV t k xs) md back st 2,gnB st.row st.gone] (.ret (.z s (bv (moStep (cF t key false) (cF t key true) s md back st (pdAdd pad s H)).1)))
   [cxO false t mode pad back k xs iv .n (cxLast s mode back (pdAdd pad s H) (moStep (cF t key false) (cF t key true) s md back st (pdAdd pad s H)).1 last),moX (cipV t k xs) md back (moStep (cF t key false) (cF t key true) s md back st (pdAdd pad s H)).2 3,.dead,gnB (moStep (cF t key false) (cF t key true) s md back st (pdAdd pad s H)).2.row (moStep (cF t key false) (cF t key true) s md back st (pdAdd pad s H)).2.gone]:=by
 subst hb
 have hs:=h.s_le
 have lp:(pdAdd pad s H).length=s:=pdAdd_len (by omega)
 have PA:=c_padAdd (vt:=bv H) hp h.s_two rfl hH hms
 have S:=c_cxstolen3 (t:=t) (mode:=mode) (pad:=pad) (md:=md) (op:=false) (back:=false) (k:=k) (xs:=xs) (iv:=iv) (last:=last) (st:=st) (by omega)
 have TU:=c_cxturn3 h (op:=false) (back:=false) (pad:=pad) (iv:=iv) (last:=last) (b:=pdAdd pad s H) lp (by omega) K (mode:=mode) (by omega) (by rw[hgr,Zr]) (.inl (by omega))
 generalize pdAdd pad s H=P at*
 generalize moStep (cF t key false) (cF t key true) s md false st P=S0 at*
 obtain⟨o,c1,row1,g1⟩:=S0
 obtain⟨ch,row,g⟩:=st
 rcases row with _|⟨a,r⟩<;>rcases row1 with _|⟨a1,r1⟩
 all_goals
  refine con.ctx_Ctx_end ?_
  refine⟨_,rfl,?_⟩
  refine⟨[],_,_,_,_,h.size,rfl,rfl,?_⟩
  refine⟨[.k 0,.k 1,.k 2],_,_,_,_,S,rfl,rfl,?_⟩
  refine spl_d (fun h7=>absurd h7 (by omega)) (fun h7=> ?_)
  refine⟨_,rfl,?_⟩
  refine spl_eq (fun hh=>absurd hh (by omega)) (fun _=> ?_)
  refine⟨_,rfl,?_⟩
  refine⟨_,rfl,?_⟩
  refine⟨[],_,_,_,_,PA,rfl,rfl,?_⟩
  refine⟨[],_,_,_,_,c_refuse0,rfl,rfl,?_⟩
  refine⟨[.k 0,.k 1,.k 2],_,_,_,_,TU,?_,rfl,?_⟩
  ·exact congrArg (fun v=>[V.p (.k 0) 0,V.z s v]) (bv_all lp)
  exact⟨_,rfl,[.k 0,.k 1,.k 2,.d 75 3],rfl,⟨_,rfl,rfl⟩,⟨_,rfl,rfl⟩,⟨_,rfl,rfl⟩,⟨_,rfl,rfl⟩,trivial⟩
theorem c_cxend_b7 {t key s k xs rs} (h:Ciph t key s k xs rs) {mode pad md:Int} {back:Bool} {iv last H:List UInt8} {st:MS} {m:Nat} (hb:back=true) (hH:H.length=m) (hmb:m≤100000) (hms:m≠s) (hm:mode≤6) (hp:pad=1∨pad=2∨pad=3):
  Con C N.ctx_Ctx_end [.p (.k 0) 0,.z m (bv H)] [cxO false t mode pad back k xs iv .n last,moX (cipV t k xs) md back st 2,gnB st.row st.gone] (.pan (.i tRef (i64 7))) [cxO false t mode pad back k xs iv .n last,moX (cipV t k xs) md back st 2,gnB st.row st.gone]:=by
 subst hb
 have S:=c_cxstolen3 (t:=t) (mode:=mode) (pad:=pad) (md:=md) (op:=false) (back:=true) (k:=k) (xs:=xs) (iv:=iv) (last:=last) (st:=st) (by omega)
 obtain⟨ch,row,g⟩:=st
 rcases row with _|⟨a,r⟩
 all_goals
  refine con.ctx_Ctx_end ?_
  refine⟨_,rfl,?_⟩
  refine⟨[],_,_,_,_,h.size,rfl,rfl,?_⟩
  refine⟨[.k 0,.k 1,.k 2],_,_,_,_,S,rfl,rfl,?_⟩
  refine spl_d (fun h7=>absurd h7 (by omega)) (fun h7=> ?_)
  refine⟨_,rfl,?_⟩
  refine spl_eq (fun hh=>absurd hh (by omega)) (fun _=> ?_)
  refine⟨_,rfl,?_⟩
  refine spl_ne (fun _=> ?_) (fun hh=>absurd hh (by omega))
  refine⟨[],_,_,_,_,c_refuse (e:=7) (by decide),rfl,rfl,?_⟩
  exact⟨_,rfl,[.k 0,.k 1,.k 2],rfl,⟨_,rfl,rfl⟩,⟨_,rfl,rfl⟩,⟨_,rfl,rfl⟩,trivial⟩
theorem cxLast_no {s:Nat} {mode:Int} {back:Bool} {b o last:List UInt8} (hm:mode≤6):cxLast s mode back b o last=last:=by unfold cxLast;rw[if_neg (by omega)]
theorem c_cxend_b8 {t key s k xs rs} (h:Ciph t key s k xs rs) {mode pad md:Int} {back:Bool} {iv last H:List UInt8} {st:MS} {m:Nat} (hb:back=true) (hH:H.length=s) (K:MK s md st) (hm:mode≤6) (hp:pad=1∨pad=2∨pad=3) (hgr:moGrain s md=s) (h0:pdLong pad (moStep (cF t key false) (cF t key true) s md back st H).1=0):
  Con C N.ctx_Ctx_end [.p (.k 0) 0,.z s (bv H)] [cxO false t mode pad back k xs iv .n last,moX (cipV t k xs) md back st 2,gnB st.row st.gone] (.pan (.i tRef (i64 8)))
   [cxO false t mode pad back k xs iv .n last,moX (cipV t k xs) md back (moStep (cF t key false) (cF t key true) s md back st H).2 3,.dead,gnB (moStep (cF t key false) (cF t key true) s md back st H).2.row (moStep (cF t key false) (cF t key true) s md back st H).2.gone]:=by
 subst hb
 have hs:=h.s_le
 have lo:(moStep (cF t key false) (cF t key true) s md true st H).1.length=s:=by rw[moStep_len h.ci K.ok (by rw[hH,hgr,Zr]),hH]
 have PA:=c_strip_no (vb:=bv (moStep (cF t key false) (cF t key true) s md true st H).1) rfl hp h.s_two lo h0
 have S:=c_cxstolen3 (t:=t) (mode:=mode) (pad:=pad) (md:=md) (op:=false) (back:=true) (k:=k) (xs:=xs) (iv:=iv) (last:=last) (st:=st) (by omega)
 have TU:=c_cxturn3 h (op:=false) (back:=true) (pad:=pad) (iv:=iv) (last:=last) (b:=H) hH (by omega) K (mode:=mode) (by omega) (by rw[hgr,Zr]) (.inl (by omega))
 rw[cxLast_no hm]at TU
 generalize moStep (cF t key false) (cF t key true) s md true st H=S0 at*
 obtain⟨o,c1,row1,g1⟩:=S0
 obtain⟨ch,row,g⟩:=st
 rcases row with _|⟨a,r⟩<;>rcases row1 with _|⟨a1,r1⟩
 all_goals
  refine con.ctx_Ctx_end ?_
  refine⟨_,rfl,?_⟩
  refine⟨[],_,_,_,_,h.size,rfl,rfl,?_⟩
  refine⟨[.k 0,.k 1,.k 2],_,_,_,_,S,rfl,rfl,?_⟩
  refine spl_d (fun h7=>absurd h7 (by omega)) (fun h7=> ?_)
  refine⟨_,rfl,?_⟩
  refine spl_eq (fun hh=>absurd hh (by omega)) (fun _=> ?_)
  refine⟨_,rfl,?_⟩
  refine spl_ne (fun hh=>absurd rfl hh) (fun _=> ?_)
  refine⟨_,rfl,?_⟩
  refine⟨[.k 0,.k 1,.k 2],_,_,_,_,TU,rfl,rfl,?_⟩
  refine chk_t rfl ?_
  refine chk_t (ck_s rfl rfl rfl) ?_
  refine⟨[],_,_,_,_,PA,rfl,rfl,?_⟩
  refine⟨[],_,_,_,_,c_refuse (e:=8) (by decide),rfl,rfl,?_⟩
  exact⟨_,rfl,[.k 0,.k 1,.k 2,.d 90 3],rfl,⟨_,rfl,rfl⟩,⟨_,rfl,rfl⟩,⟨_,rfl,rfl⟩,⟨_,rfl,rfl⟩,trivial⟩
theorem c_cxend_bk {t key s k xs rs} (h:Ciph t key s k xs rs) {mode pad md:Int} {back:Bool} {iv last H:List UInt8} {st:MS} {m:Nat} (hb:back=true) (hH:H.length=s) (K:MK s md st) (hm:mode≤6) (hp:pad=1∨pad=2∨pad=3) (hgr:moGrain s md=s) (h0:pdLong pad (moStep (cF t key false) (cF t key true) s md back st H).1≠0):
  Con C N.ctx_Ctx_end [.p (.k 0) 0,.z s (bv H)] [cxO false t mode pad back k xs iv .n last,moX (cipV t k xs) md back st 2,gnB st.row st.gone] (.ret (.z (s-pdLong pad (moStep (cF t key false) (cF t key true) s md back st H).1) (bv (pdStrip pad (moStep (cF t key false) (cF t key true) s md back st H).1))))
   [cxO false t mode pad back k xs iv .n last,moX (cipV t k xs) md back (moStep (cF t key false) (cF t key true) s md back st H).2 3,.dead,gnB (moStep (cF t key false) (cF t key true) s md back st H).2.row (moStep (cF t key false) (cF t key true) s md back st H).2.gone]:=by
 subst hb
 have hs:=h.s_le
 have lo:(moStep (cF t key false) (cF t key true) s md true st H).1.length=s:=by rw[moStep_len h.ci K.ok (by rw[hH,hgr,Zr]),hH]
 have PA:=c_strip (vb:=bv (moStep (cF t key false) (cF t key true) s md true st H).1) rfl hp h.s_two lo h0
 have S:=c_cxstolen3 (t:=t) (mode:=mode) (pad:=pad) (md:=md) (op:=false) (back:=true) (k:=k) (xs:=xs) (iv:=iv) (last:=last) (st:=st) (by omega)
 have TU:=c_cxturn3 h (op:=false) (back:=true) (pad:=pad) (iv:=iv) (last:=last) (b:=H) hH (by omega) K (mode:=mode) (by omega) (by rw[hgr,Zr]) (.inl (by omega))
 rw[cxLast_no hm]at TU
 generalize moStep (cF t key false) (cF t key true) s md true st H=S0 at*
 obtain⟨o,c1,row1,g1⟩:=S0
 obtain⟨ch,row,g⟩:=st
 rcases row with _|⟨a,r⟩<;>rcases row1 with _|⟨a1,r1⟩
 all_goals
  refine con.ctx_Ctx_end ?_
  refine⟨_,rfl,?_⟩
  refine⟨[],_,_,_,_,h.size,rfl,rfl,?_⟩
  refine⟨[.k 0,.k 1,.k 2],_,_,_,_,S,rfl,rfl,?_⟩
  refine spl_d (fun h7=>absurd h7 (by omega)) (fun h7=> ?_)
  refine⟨_,rfl,?_⟩
  refine spl_eq (fun hh=>absurd hh (by omega)) (fun _=> ?_)
  refine⟨_,rfl,?_⟩
  refine spl_ne (fun hh=>absurd rfl hh) (fun _=> ?_)
  refine⟨_,rfl,?_⟩
  refine⟨[.k 0,.k 1,.k 2],_,_,_,_,TU,rfl,rfl,?_⟩
  refine chk_t rfl ?_
  refine chk_t (ck_s rfl rfl rfl) ?_
  refine⟨[],_,_,_,_,PA,rfl,rfl,?_⟩
  refine⟨[],_,_,_,_,c_refuse0,rfl,rfl,?_⟩
  exact⟨_,rfl,[.k 0,.k 1,.k 2,.d 90 3],rfl,⟨_,rfl,rfl⟩,⟨_,rfl,rfl⟩,⟨_,rfl,rfl⟩,⟨_,rfl,rfl⟩,trivial⟩
theorem c_cxfinTr {t mode pad md:Int} {back:Bool} {k m n:Nat} {e:Int} {xs:List V} {iv last last' H:List UInt8} {st st':MS} {x:HK} {vr:List Value} (hx:x= .n∧m=0∧H=[]∨x= .o H∧H.length=m)
  (E:Con C N.ctx_Ctx_end [.p (.k 0) 0,.z m (bv H)] [cxO false t mode pad back k xs iv .n last,moX (cipV t k xs) md back st 2,gnB st.row st.gone] (.ret (.z n vr)) [cxO false t mode pad back k xs iv .n last',moX (cipV t k xs) md back st' 3,.dead,gnB st'.row st'.gone]):
  Con C N.ctx_Ctx_Final [.p (.k 0) 0] [cxO true t mode pad back k xs iv x last,moX (cipV t k xs) md back st 2,gnB st.row st.gone,x.b] (.ret (.t [.z n vr,i64 0])) [cxO false t mode pad back k xs iv .n last',moX (cipV t k xs) md back st' 4,.dead,.dead,gnB st'.row st'.gone]:=by
 have NE:=c_cxneed (t:=t) (mode:=mode) (pad:=pad) (md:=md) (back:=back) (k:=k) (xs:=xs) (iv:=iv) (last:=last) (st:=st) (x:=x)
 obtain⟨ch,row,g⟩:=st
 obtain⟨ch1,row1,g1⟩:=st'
 rcases hx with ⟨rfl,rfl,rfl⟩|⟨rfl,hH⟩
 ·rcases row with _|⟨a,r⟩<;>rcases row1 with _|⟨a1,r1⟩
  all_goals
   refine fd.ctx_Ctx_Final.d caughtOk ?_
   refine⟨⟨[(0,.p (.k 0) 0),(2,.p (.k 4) 0),(3,.p (.k 5) 0)],[_,_,_,_,.sc [.slice none 0 0],.sc [.int .i64 0]]⟩,4,5,by decide,⟨[.k 0,.k 1,.k 2,.k 3,.d 2 0,.d 3 0],⟨rfl,rfl,rfl,trivial⟩,⟨_,rfl,rfl⟩,⟨_,rfl,rfl⟩,⟨_,rfl,rfl⟩,⟨_,rfl,rfl⟩,⟨_,rfl,rfl⟩,⟨_,rfl,rfl⟩,trivial⟩,rfl,rfl,rfl,?_⟩
   refine⟨[.k 0,.k 1,.k 2,.k 3],_,_,_,_,NE,rfl,rfl,?_⟩
   refine⟨_,rfl,?_⟩
   refine⟨Za rfl,?_⟩
   refine⟨Za rfl,?_⟩
   refine⟨[.k 0,.k 1,.k 2],_,_,_,_,Con.args E (ys0:=[.p (.k 0) 0,nilv]) (.cons (.refl _) (.cons .nl .nil)),rfl,rfl,?_⟩
   refine⟨Za rfl,?_⟩
   refine⟨Za rfl,?_⟩
   refine⟨_,rfl,_,rfl,?_⟩
   refine⟨_,_,?_,.ret (.refl _),WkBs.refl _⟩
   exact⟨_,rfl,[.k 0,.k 1,.k 2,.k 3,.d 19 3],rfl,⟨_,rfl,rfl⟩,⟨_,rfl,rfl⟩,⟨_,rfl,rfl⟩,⟨_,rfl,rfl⟩,⟨_,rfl,rfl⟩,trivial⟩
 ·rcases row with _|⟨a,r⟩<;>rcases row1 with _|⟨a1,r1⟩
  all_goals
   refine fd.ctx_Ctx_Final.d caughtOk ?_
   refine⟨⟨[(0,.p (.k 0) 0),(2,.p (.k 4) 0),(3,.p (.k 5) 0)],[_,_,_,_,.sc [.slice none 0 0],.sc [.int .i64 0]]⟩,4,5,by decide,⟨[.k 0,.k 1,.k 2,.k 3,.d 2 0,.d 3 0],⟨rfl,rfl,rfl,trivial⟩,⟨_,rfl,rfl⟩,⟨_,rfl,rfl⟩,⟨_,rfl,rfl⟩,⟨_,rfl,rfl⟩,⟨_,rfl,rfl⟩,⟨_,rfl,rfl⟩,trivial⟩,rfl,rfl,rfl,?_⟩
   refine⟨[.k 0,.k 1,.k 2,.k 3],_,_,_,_,NE,rfl,rfl,?_⟩
   refine⟨_,rfl,?_⟩
   refine⟨Za rfl,?_⟩
   refine⟨Za rfl,?_⟩
   refine⟨[.k 0,.k 1,.k 2],_,_,_,_,E,?_,rfl,?_⟩
   ·show[V.p (.k 0) 0,V.z H.length (sub (bv H) 0 H.length)]=_
    rw[bv_all rfl,hH]
   refine⟨Za rfl,?_⟩
   refine⟨Za rfl,?_⟩
   refine⟨_,rfl,_,rfl,?_⟩
   refine⟨_,_,?_,.ret (.refl _),WkBs.refl _⟩
   exact⟨_,rfl,[.k 0,.k 1,.k 2,.k 3,.d 19 3],rfl,⟨_,rfl,rfl⟩,⟨_,rfl,rfl⟩,⟨_,rfl,rfl⟩,⟨_,rfl,rfl⟩,⟨_,rfl,rfl⟩,trivial⟩
theorem c_cxfinTp {t mode pad md:Int} {back:Bool} {k m n:Nat} {e:Int} {xs:List V} {iv last last' H:List UInt8} {st st':MS} {x:HK} {vr:List Value} (hx:x= .n∧m=0∧H=[]∨x= .o H∧H.length=m)
  (E:Con C N.ctx_Ctx_end [.p (.k 0) 0,.z m (bv H)] [cxO false t mode pad back k xs iv .n last,moX (cipV t k xs) md back st 2,gnB st.row st.gone] (.pan (.i tRef (i64 e))) [cxO false t mode pad back k xs iv .n last',moX (cipV t k xs) md back st' 3,.dead,gnB st'.row st'.gone]):
  Con C N.ctx_Ctx_Final [.p (.k 0) 0] [cxO true t mode pad back k xs iv x last,moX (cipV t k xs) md back st 2,gnB st.row st.gone,x.b] (.ret (.t [.z 0 [],i64 e])) [cxO false t mode pad back k xs iv .n last',moX (cipV t k xs) md back st' 4,.dead,.dead,gnB st'.row st'.gone]:=by
 have NE:=c_cxneed (t:=t) (mode:=mode) (pad:=pad) (md:=md) (back:=back) (k:=k) (xs:=xs) (iv:=iv) (last:=last) (st:=st) (x:=x)
 obtain⟨ch,row,g⟩:=st
 obtain⟨ch1,row1,g1⟩:=st'
 rcases hx with ⟨rfl,rfl,rfl⟩|⟨rfl,hH⟩
 ·rcases row with _|⟨a,r⟩<;>rcases row1 with _|⟨a1,r1⟩
  all_goals
   refine fd.ctx_Ctx_Final.d caughtOk ?_
   refine⟨⟨[(0,.p (.k 0) 0),(2,.p (.k 4) 0),(3,.p (.k 5) 0)],[_,_,_,_,.sc [.slice none 0 0],.sc [.int .i64 0]]⟩,4,5,by decide,⟨[.k 0,.k 1,.k 2,.k 3,.d 2 0,.d 3 0],⟨rfl,rfl,rfl,trivial⟩,⟨_,rfl,rfl⟩,⟨_,rfl,rfl⟩,⟨_,rfl,rfl⟩,⟨_,rfl,rfl⟩,⟨_,rfl,rfl⟩,⟨_,rfl,rfl⟩,trivial⟩,rfl,rfl,rfl,?_⟩
   refine⟨[.k 0,.k 1,.k 2,.k 3],_,_,_,_,NE,rfl,rfl,?_⟩
   refine⟨_,rfl,?_⟩
   refine⟨Za rfl,?_⟩
   refine⟨Za rfl,?_⟩
   refine⟨[.k 0,.k 1,.k 2],_,_,_,_,Con.args E (ys0:=[.p (.k 0) 0,nilv]) (.cons (.refl _) (.cons .nl .nil)),rfl,rfl,?_⟩
   refine⟨_,rfl,_,rfl,?_⟩
   refine⟨_,_,?_,.ret (.t (.cons .nl (.cons (.refl _) .nil))),WkBs.refl _⟩
   exact⟨_,rfl,[.k 0,.k 1,.k 2,.k 3,.d 19 3],rfl,⟨_,rfl,rfl⟩,⟨_,rfl,rfl⟩,⟨_,rfl,rfl⟩,⟨_,rfl,rfl⟩,⟨_,rfl,rfl⟩,trivial⟩
 ·rcases row with _|⟨a,r⟩<;>rcases row1 with _|⟨a1,r1⟩
  all_goals
   refine fd.ctx_Ctx_Final.d caughtOk ?_
   refine⟨⟨[(0,.p (.k 0) 0),(2,.p (.k 4) 0),(3,.p (.k 5) 0)],[_,_,_,_,.sc [.slice none 0 0],.sc [.int .i64 0]]⟩,4,5,by decide,⟨[.k 0,.k 1,.k 2,.k 3,.d 2 0,.d 3 0],⟨rfl,rfl,rfl,trivial⟩,⟨_,rfl,rfl⟩,⟨_,rfl,rfl⟩,⟨_,rfl,rfl⟩,⟨_,rfl,rfl⟩,⟨_,rfl,rfl⟩,⟨_,rfl,rfl⟩,trivial⟩,rfl,rfl,rfl,?_⟩
   refine⟨[.k 0,.k 1,.k 2,.k 3],_,_,_,_,NE,rfl,rfl,?_⟩
   refine⟨_,rfl,?_⟩
   refine⟨Za rfl,?_⟩
   refine⟨Za rfl,?_⟩
   refine⟨[.k 0,.k 1,.k 2],_,_,_,_,E,?_,rfl,?_⟩
   ·show[V.p (.k 0) 0,V.z H.length (sub (bv H) 0 H.length)]=_
    rw[bv_all rfl,hH]
   refine⟨_,rfl,_,rfl,?_⟩
   refine⟨_,_,?_,.ret (.t (.cons .nl (.cons (.refl _) .nil))),WkBs.refl _⟩
   exact⟨_,rfl,[.k 0,.k 1,.k 2,.k 3,.d 19 3],rfl,⟨_,rfl,rfl⟩,⟨_,rfl,rfl⟩,⟨_,rfl,rfl⟩,⟨_,rfl,rfl⟩,⟨_,rfl,rfl⟩,trivial⟩
theorem c_cxfinNr {t mode pad md:Int} {back:Bool} {k m n:Nat} {e:Int} {xs:List V} {iv last last' H:List UInt8} {st st':MS} {x:HK} {vr:List Value} (hx:x= .n∧m=0∧H=[]∨x= .o H∧H.length=m)
  (E:Con C N.ctx_Ctx_end [.p (.k 0) 0,.z m (bv H)] [cxO false t mode pad back k xs iv .n last,moX (cipV t k xs) md back st 2,gnB st.row st.gone] (.ret (.z n vr)) [cxO false t mode pad back k xs iv .n last',moX (cipV t k xs) md back st' 2,gnB st'.row st'.gone]):
  Con C N.ctx_Ctx_Final [.p (.k 0) 0] [cxO true t mode pad back k xs iv x last,moX (cipV t k xs) md back st 2,gnB st.row st.gone,x.b] (.ret (.t [.z n vr,i64 0])) [cxO false t mode pad back k xs iv .n last',moX (cipV t k xs) md back st' 2,gnB st'.row st'.gone,.dead]:=by
 have NE:=c_cxneed (t:=t) (mode:=mode) (pad:=pad) (md:=md) (back:=back) (k:=k) (xs:=xs) (iv:=iv) (last:=last) (st:=st) (x:=x)
 obtain⟨ch,row,g⟩:=st
 obtain⟨ch1,row1,g1⟩:=st'
 rcases hx with ⟨rfl,rfl,rfl⟩|⟨rfl,hH⟩
 ·rcases row with _|⟨a,r⟩<;>rcases row1 with _|⟨a1,r1⟩
  all_goals
   refine fd.ctx_Ctx_Final.d caughtOk ?_
   refine⟨⟨[(0,.p (.k 0) 0),(2,.p (.k 4) 0),(3,.p (.k 5) 0)],[_,_,_,_,.sc [.slice none 0 0],.sc [.int .i64 0]]⟩,4,5,by decide,⟨[.k 0,.k 1,.k 2,.k 3,.d 2 0,.d 3 0],⟨rfl,rfl,rfl,trivial⟩,⟨_,rfl,rfl⟩,⟨_,rfl,rfl⟩,⟨_,rfl,rfl⟩,⟨_,rfl,rfl⟩,⟨_,rfl,rfl⟩,⟨_,rfl,rfl⟩,trivial⟩,rfl,rfl,rfl,?_⟩
   refine⟨[.k 0,.k 1,.k 2,.k 3],_,_,_,_,NE,rfl,rfl,?_⟩
   refine⟨_,rfl,?_⟩
   refine⟨Za rfl,?_⟩
   refine⟨Za rfl,?_⟩
   refine⟨[.k 0,.k 1,.k 2],_,_,_,_,Con.args E (ys0:=[.p (.k 0) 0,nilv]) (.cons (.refl _) (.cons .nl .nil)),rfl,rfl,?_⟩
   refine⟨Za rfl,?_⟩
   refine⟨Za rfl,?_⟩
   refine⟨_,rfl,_,rfl,?_⟩
   refine⟨_,_,?_,.ret (.refl _),WkBs.refl _⟩
   exact⟨_,rfl,[.k 0,.k 1,.k 2,.k 3],rfl,⟨_,rfl,rfl⟩,⟨_,rfl,rfl⟩,⟨_,rfl,rfl⟩,⟨_,rfl,rfl⟩,trivial⟩
 ·rcases row with _|⟨a,r⟩<;>rcases row1 with _|⟨a1,r1⟩
  all_goals
   refine fd.ctx_Ctx_Final.d caughtOk ?_
   refine⟨⟨[(0,.p (.k 0) 0),(2,.p (.k 4) 0),(3,.p (.k 5) 0)],[_,_,_,_,.sc [.slice none 0 0],.sc [.int .i64 0]]⟩,4,5,by decide,⟨[.k 0,.k 1,.k 2,.k 3,.d 2 0,.d 3 0],⟨rfl,rfl,rfl,trivial⟩,⟨_,rfl,rfl⟩,⟨_,rfl,rfl⟩,⟨_,rfl,rfl⟩,⟨_,rfl,rfl⟩,⟨_,rfl,rfl⟩,⟨_,rfl,rfl⟩,trivial⟩,rfl,rfl,rfl,?_⟩
   refine⟨[.k 0,.k 1,.k 2,.k 3],_,_,_,_,NE,rfl,rfl,?_⟩
   refine⟨_,rfl,?_⟩
   refine⟨Za rfl,?_⟩
   refine⟨Za rfl,?_⟩
   refine⟨[.k 0,.k 1,.k 2],_,_,_,_,E,?_,rfl,?_⟩
   ·show[V.p (.k 0) 0,V.z H.length (sub (bv H) 0 H.length)]=_
    rw[bv_all rfl,hH]
   refine⟨Za rfl,?_⟩
   refine⟨Za rfl,?_⟩
   refine⟨_,rfl,_,rfl,?_⟩
   refine⟨_,_,?_,.ret (.refl _),WkBs.refl _⟩
   exact⟨_,rfl,[.k 0,.k 1,.k 2,.k 3],rfl,⟨_,rfl,rfl⟩,⟨_,rfl,rfl⟩,⟨_,rfl,rfl⟩,⟨_,rfl,rfl⟩,trivial⟩
theorem c_cxfinNp {t mode pad md:Int} {back:Bool} {k m n:Nat} {e:Int} {xs:List V} {iv last last' H:List UInt8} {st st':MS} {x:HK} {vr:List Value} (hx:x= .n∧m=0∧H=[]∨x= .o H∧H.length=m)
  (E:Con C N.ctx_Ctx_end [.p (.k 0) 0,.z m (bv H)] [cxO false t mode pad back k xs iv .n last,moX (cipV t k xs) md back st 2,gnB st.row st.gone] (.pan (.i tRef (i64 e))) [cxO false t mode pad back k xs iv .n last',moX (cipV t k xs) md back st' 2,gnB st'.row st'.gone]):
  Con C N.ctx_Ctx_Final [.p (.k 0) 0] [cxO true t mode pad back k xs iv x last,moX (cipV t k xs) md back st 2,gnB st.row st.gone,x.b] (.ret (.t [.z 0 [],i64 e])) [cxO false t mode pad back k xs iv .n last',moX (cipV t k xs) md back st' 2,gnB st'.row st'.gone,.dead]:=by
 have NE:=c_cxneed (t:=t) (mode:=mode) (pad:=pad) (md:=md) (back:=back) (k:=k) (xs:=xs) (iv:=iv) (last:=last) (st:=st) (x:=x)
 obtain⟨ch,row,g⟩:=st
 obtain⟨ch1,row1,g1⟩:=st'
 rcases hx with ⟨rfl,rfl,rfl⟩|⟨rfl,hH⟩
 ·rcases row with _|⟨a,r⟩<;>rcases row1 with _|⟨a1,r1⟩
  all_goals
   refine fd.ctx_Ctx_Final.d caughtOk ?_
   refine⟨⟨[(0,.p (.k 0) 0),(2,.p (.k 4) 0),(3,.p (.k 5) 0)],[_,_,_,_,.sc [.slice none 0 0],.sc [.int .i64 0]]⟩,4,5,by decide,⟨[.k 0,.k 1,.k 2,.k 3,.d 2 0,.d 3 0],⟨rfl,rfl,rfl,trivial⟩,⟨_,rfl,rfl⟩,⟨_,rfl,rfl⟩,⟨_,rfl,rfl⟩,⟨_,rfl,rfl⟩,⟨_,rfl,rfl⟩,⟨_,rfl,rfl⟩,trivial⟩,rfl,rfl,rfl,?_⟩
   refine⟨[.k 0,.k 1,.k 2,.k 3],_,_,_,_,NE,rfl,rfl,?_⟩
   refine⟨_,rfl,?_⟩
   refine⟨Za rfl,?_⟩
   refine⟨Za rfl,?_⟩
   refine⟨[.k 0,.k 1,.k 2],_,_,_,_,Con.args E (ys0:=[.p (.k 0) 0,nilv]) (.cons (.refl _) (.cons .nl .nil)),rfl,rfl,?_⟩
   refine⟨_,rfl,_,rfl,?_⟩
   refine⟨_,_,?_,.ret (.t (.cons .nl (.cons (.refl _) .nil))),WkBs.refl _⟩
   exact⟨_,rfl,[.k 0,.k 1,.k 2,.k 3],rfl,⟨_,rfl,rfl⟩,⟨_,rfl,rfl⟩,⟨_,rfl,rfl⟩,⟨_,rfl,rfl⟩,trivial⟩
 ·rcases row with _|⟨a,r⟩<;>rcases row1 with _|⟨a1,r1⟩
  all_goals
   refine fd.ctx_Ctx_Final.d caughtOk ?_
   refine⟨⟨[(0,.p (.k 0) 0),(2,.p (.k 4) 0),(3,.p (.k 5) 0)],[_,_,_,_,.sc [.slice none 0 0],.sc [.int .i64 0]]⟩,4,5,by decide,⟨[.k 0,.k 1,.k 2,.k 3,.d 2 0,.d 3 0],⟨rfl,rfl,rfl,trivial⟩,⟨_,rfl,rfl⟩,⟨_,rfl,rfl⟩,⟨_,rfl,rfl⟩,⟨_,rfl,rfl⟩,⟨_,rfl,rfl⟩,⟨_,rfl,rfl⟩,trivial⟩,rfl,rfl,rfl,?_⟩
   refine⟨[.k 0,.k 1,.k 2,.k 3],_,_,_,_,NE,rfl,rfl,?_⟩
   refine⟨_,rfl,?_⟩
   refine⟨Za rfl,?_⟩
   refine⟨Za rfl,?_⟩
   refine⟨[.k 0,.k 1,.k 2],_,_,_,_,E,?_,rfl,?_⟩
   ·show[V.p (.k 0) 0,V.z H.length (sub (bv H) 0 H.length)]=_
    rw[bv_all rfl,hH]
   refine⟨_,rfl,_,rfl,?_⟩
   refine⟨_,_,?_,.ret (.t (.cons .nl (.cons (.refl _) .nil))),WkBs.refl _⟩
   exact⟨_,rfl,[.k 0,.k 1,.k 2,.k 3],rfl,⟨_,rfl,rfl⟩,⟨_,rfl,rfl⟩,⟨_,rfl,rfl⟩,⟨_,rfl,rfl⟩,trivial⟩
abbrev cS (t:Int) (key:List UInt8) (s:Nat) (mode pad:Int) (back:Bool) (iv M:List UInt8):MS:=(cxSt (cF t key false) (cF t key true) s mode pad back iv M).2
abbrev cT (t:Int) (key:List UInt8) (s:Nat) (mode pad:Int) (back:Bool) (iv M:List UInt8):List UInt8:=(cxSt (cF t key false) (cF t key true) s mode pad back iv M).1
abbrev cL (t:Int) (key:List UInt8) (s:Nat) (mode pad:Int) (back:Bool) (iv M:List UInt8):List UInt8:=cxLa (cF t key false) (cF t key true) s mode pad back iv M
theorem cS_ok {t key s k xs rs} (h:Ciph t key s k xs rs) {mode pad:Int} {back:Bool} {iv M:List UInt8} (ok:shOk s mode pad iv):MK s (cxMd mode) (cS t key s mode pad back iv M):=by
 have hs:=h.s_le
 have K0:MK s (cxMd mode) ⟨iv,[],[]⟩:=MK.new (cxMd_ok ok).1 (by
  have:=(cxMd_ok ok).2
  by_cases h1:cxMd mode=1
  ·exact .inl h1
  ·rw[if_neg h1]at this;exact .inr this)
 exact K0.step h.ci (by omega)
theorem cL_len {t key s k xs rs} (h:Ciph t key s k xs rs) {mode pad:Int} {back:Bool} {iv M:List UInt8} (ok:shOk s mode pad iv) (h7:7≤mode):(cL t key s mode pad back iv M).length=s:=by
 have hs:=h.s_le
 have hT:=cx_told (back:=back) (M:=M) h.ci (by omega) ok
 obtain⟨f1,f2⟩:=cxFr_ok (back:=back) (by omega) ok M.length
 have lt:(M.take (cxFr s mode pad back M.length)).length=cxFr s mode pad back M.length:=by rw[Zg];omega
 unfold cL cxLa cxLast
 rw[lt]
 by_cases hn:s≤cxFr s mode pad back M.length
 ·rw[if_pos ⟨h7,hn⟩,Ze]
  split
  ·rw[lt];omega
  ·rw[hT];omega
 ·rw[if_neg (fun hh=>hn hh.2)]
  have:=ok.2.2.2
  rw[if_neg (by omega)]at this
  exact this
theorem cS_0 {t key s} {mode pad:Int} {back:Bool} {iv:List UInt8} (hs:0<s) (ok:shOk s mode pad iv):cxSt (cF t key false) (cF t key true) s mode pad back iv []=([],⟨iv,[],[]⟩):=by
 unfold cxSt
 rw[Jq,moStep_nil]
theorem cS_0' {t key s} {mode pad:Int} {back:Bool} {iv:List UInt8} (hs:0<s) (ok:shOk s mode pad iv):cS t key s mode pad back iv []=⟨iv,[],[]⟩:=congrArg Prod.snd (cS_0 hs ok)
theorem cL_0 {t key s} {mode pad:Int} {back:Bool} {iv:List UInt8} (hs:0<s) (ok:shOk s mode pad iv):cL t key s mode pad back iv []=iv:=by
 unfold cL cxLa cxLast
 rw[Jq,if_neg (by simp;omega)]
theorem cxH_0 {s:Nat} {mode pad:Int} {back:Bool}:cxH s mode pad back []=[]:=by unfold cxH;rw[List.drop_nil]
theorem cx_up {t key s k xs rs} (h:Ciph t key s k xs rs) {mode pad:Int} {back:Bool} {iv M b:List UInt8} {m:Nat} {x:HK} (ok:shOk s mode pad iv) (hx:x= .n∧cxH s mode pad back M=[]∨x= .o (cxH s mode pad back M)) (hb:b.length=m) (hL:M.length+m≤100000):
  ∃(n:Nat) (o:List UInt8),o.length=n∧cxFr s mode pad back (M++b).length=cxFr s mode pad back M.length+n∧cT t key s mode pad back iv (M++b)=cT t key s mode pad back iv M++o∧
  (Con C N.ctx_Ctx_Update [.p (.k 0) 0,.z m (bv b)] [cxO true t mode pad back k xs iv x (cL t key s mode pad back iv M),moX (cipV t k xs) (cxMd mode) back (cS t key s mode pad back iv M) 2,gnB (cS t key s mode pad back iv M).row (cS t key s mode pad back iv M).gone,x.b]
   (.ret (.t [.z n (bv o),i64 0]))
   [cxX true true t mode pad back (cipV t k xs) (.z iv.length (bv iv)) (.p (.k 1) 0) (.o 1 (.k 5) 0 (cxH s mode pad back (M++b)).length) (.z (cL t key s mode pad back iv (M++b)).length (bv (cL t key s mode pad back iv (M++b)))),
    moX (cipV t k xs) (cxMd mode) back (cS t key s mode pad back iv (M++b)) 4,.dead,.dead,gnB (cS t key s mode pad back iv (M++b)).row (cS t key s mode pad back iv (M++b)).gone,.sc (bv (cxH s mode pad back (M++b)))]∨
   (cS t key s mode pad back iv M).row≠[]∧Con C N.ctx_Ctx_Update [.p (.k 0) 0,.z m (bv b)] [cxO true t mode pad back k xs iv x (cL t key s mode pad back iv M),moX (cipV t k xs) (cxMd mode) back (cS t key s mode pad back iv M) 2,gnB (cS t key s mode pad back iv M).row (cS t key s mode pad back iv M).gone,x.b]
   (.ret (.t [.z n (bv o),i64 0]))
   [cxX true true t mode pad back (cipV t k xs) (.z iv.length (bv iv)) (.p (.k 1) 0) (.o 1 (.k 4) 0 (cxH s mode pad back (M++b)).length) (.z (cL t key s mode pad back iv (M++b)).length (bv (cL t key s mode pad back iv (M++b)))),
    moX (cipV t k xs) (cxMd mode) back (cS t key s mode pad back iv (M++b)) 2,gnB (cS t key s mode pad back iv (M++b)).row (cS t key s mode pad back iv (M++b)).gone,.dead,.sc (bv (cxH s mode pad back (M++b)))]):=by
 have hs:=h.s_le
 have K:=cS_ok h (back:=back) (M:=M) ok
 have hm9:mode≤9:=ok.1.2
 have hxl:x.l=cxH s mode pad back M:=by
  rcases hx with ⟨rfl,e⟩|rfl
  ·exact e.symm
  ·rfl
 have hxo:x= .n∨∃H,x= .o H:=by
  rcases hx with ⟨rfl,e⟩|rfl
  ·exact .inl rfl
  ·exact .inr ⟨_,rfl⟩
 obtain⟨a,ha⟩:∃a,a=cxFr s mode pad back ((cxH s mode pad back M).length+b.length):=⟨_,rfl⟩
 obtain⟨u1,u2,u3⟩:=cx_upd (E:=cF t key false) (D:=cF t key true) (iv:=iv) (M:=M) (b:=b) h.ci (by omega) ok ha
 have hF:cxFr s mode pad back (M++b).length=cxFr s mode pad back M.length+a:=by
  rw[Zc,cxFr_add (by omega) ok,ha,cxH_len]
 obtain⟨f1,f2⟩:=cxFr_ok (back:=back) (by omega) ok ((cxH s mode pad back M).length+b.length)
 rw[←ha]at f1 f2
 have hHl:=cxH_len (n:=s) (mode:=mode) (pad:=pad) (back:=back) M
 have l0:((cxH s mode pad back M++b).take a).length=a:=by rw[Zg,Zc];omega
 have lo:(moStep (cF t key false) (cF t key true) s (cxMd mode) back (cS t key s mode pad back iv M) ((cxH s mode pad back M++b).take a)).1.length=a:=by
  rw[moStep_len h.ci K.ok (by rw[l0];exact f2),l0]
 have eH:(cxH s mode pad back M).length+m-a=(cxH s mode pad back (M++b)).length:=by rw[←u3,Ze,Zc,hb]
 refine⟨a,(moStep (cF t key false) (cF t key true) s (cxMd mode) back (cS t key s mode pad back iv M) ((cxH s mode pad back M++b).take a)).1,lo,hF,by rw[show cT t key s mode pad back iv (M++b)=(cxSt (cF t key false) (cF t key true) s mode pad back iv (M++b)).1 from rfl,u1],?_⟩
 have e1:cS t key s mode pad back iv (M++b)=(moStep (cF t key false) (cF t key true) s (cxMd mode) back (cS t key s mode pad back iv M) ((cxH s mode pad back M++b).take a)).2:=by
  rw[show cS t key s mode pad back iv (M++b)=(cxSt (cF t key false) (cF t key true) s mode pad back iv (M++b)).2 from rfl,u1]
 rw[e1,show cL t key s mode pad back iv (M++b)=cxLa (cF t key false) (cF t key true) s mode pad back iv (M++b) from rfl,←u2,←u3]
 by_cases hne:0<a∨(cS t key s mode pad back iv M).row=[]
 ·left
  have:=c_cxupd h (mode:=mode) (pad:=pad) (back:=back) (iv:=iv) (last:=cL t key s mode pad back iv M) (st:=cS t key s mode pad back iv M) (x:=x) (L:=(cxH s mode pad back M).length+m) (at':=a) hxo hb (by rw[hxl]) (by omega) K hm9 rfl (by rw[ha,hb];rfl) hne
  rw[hxl]at this
  rw[Ze,Zc,hb]
  exact this
 ·right
  have hrow:(cS t key s mode pad back iv M).row≠[]:=fun hh=>hne (.inr hh)
  have h3:3≤cxMd mode:=by
   have h1:=K.ok.m
   rcases Nat.lt_or_ge 0 1 with _|_
   ·by_cases h2:3≤cxMd mode
    ·exact h2
    ·exact absurd (K.ok.blk (by omega)) hrow
   ·omega
  have g1:moGrain s (cxMd mode)=1:=if_neg (by omega)
  have a0:a=0:=by omega
  have hL0:(cxH s mode pad back M).length+m=0:=by
   have hz:cxFr s mode pad back ((cxH s mode pad back M).length+b.length)=(cxH s mode pad back M).length+b.length:=by
    unfold cxFr cxN cxMost
    rw[g1,if_pos h3];simp
   rw[←ha,hb]at hz
   omega
  have:=c_cxupd0 h (mode:=mode) (pad:=pad) (back:=back) (iv:=iv) (last:=cL t key s mode pad back iv M) (st:=cS t key s mode pad back iv M) (x:=x) (L:=(cxH s mode pad back M).length+m) (at':=a) hxo hb (by rw[hxl]) hL0 h3 K hm9 rfl (by rw[ha,hb];rfl)
  have hHb:cxH s mode pad back M++b=[]:=Zf (by rw[Zc,hb];exact hL0)
  subst a0
  rw[hHb,Jq,moStep_nil,List.drop_nil]
  have eL:cxLast s mode back [] [] (cL t key s mode pad back iv M)=cL t key s mode pad back iv M:=by unfold cxLast;rw[if_neg (by simp;omega)]
  rw[eL]
  exact⟨hrow,this⟩
abbrev cxC (t mode pad:Int) (back:Bool) (k:Nat) (xs:List V) (iv last:List UInt8):B:=cxX true false t mode pad back (cipV t k xs) (.z iv.length (bv iv)) (.p (.k 1) 0) nilv (.z last.length (bv last))
theorem c_cxheldC {t mode pad:Int} {back:Bool} {k:Nat} {xs:List V} {iv last:List UInt8}:Con C N.ctx_Ctx_Held [.p (.k 0) 0] [cxC t mode pad back k xs iv last,.dead] (.ret (i64 0)) [cxC t mode pad back k xs iv last,.dead]:=by
 refine con.ctx_Ctx_Held ?_
 refine⟨_,rfl,?_⟩
 exact⟨_,rfl,[.k 0,.k 1],rfl,⟨_,rfl,rfl⟩,⟨_,rfl,rfl⟩,trivial⟩
theorem c_cxneedC {t mode pad:Int} {back:Bool} {k:Nat} {xs:List V} {iv last:List UInt8}:Con C N.ctx_Ctx_need [.p (.k 0) 0] [cxC t mode pad back k xs iv last,.dead] (.pan (.i tRef (i64 6))) [cxC t mode pad back k xs iv last,.dead]:=by
 refine con.ctx_Ctx_need ?_
 refine⟨_,rfl,?_⟩
 refine⟨[],_,_,_,_,c_refuse (e:=6) (by decide),rfl,rfl,?_⟩
 exact⟨_,rfl,[.k 0,.k 1],rfl,⟨_,rfl,rfl⟩,⟨_,rfl,rfl⟩,trivial⟩
theorem c_cxupdC {t mode pad:Int} {back:Bool} {k m:Nat} {xs:List V} {iv last:List UInt8} {vb:List Value}:Con C N.ctx_Ctx_Update [.p (.k 0) 0,.z m vb] [cxC t mode pad back k xs iv last,.dead] (.ret (.t [.z 0 [],i64 6])) [cxC t mode pad back k xs iv last,.dead]:=by
 refine fd.ctx_Ctx_Update.d caughtOk ?_
 refine⟨⟨[(0,.p (.k 0) 0),(1,.z m vb),(4,.p (.k 2) 0),(5,.p (.k 3) 0)],[_,_,.sc [.slice none 0 0],.sc [.int .i64 0]]⟩,2,3,by decide,⟨[.k 0,.k 1,.d 4 0,.d 5 0],⟨rfl,rfl,rfl,rfl,trivial⟩,⟨_,rfl,rfl⟩,⟨_,rfl,rfl⟩,⟨_,rfl,rfl⟩,⟨_,rfl,rfl⟩,trivial⟩,rfl,rfl,rfl,?_⟩
 refine⟨0,Unit,fun _=>⟨[],[]⟩,fun _=>False,fun _=>0,?_,fun _ h=>h.elim⟩
 refine⟨[.k 0,.k 1],_,_,_,_,c_cxneedC,rfl,rfl,?_⟩
 refine⟨_,rfl,_,rfl,?_⟩
 refine⟨_,_,?_,.ret (.t (.cons .nl (.cons (.refl _) .nil))),WkBs.refl _⟩
 exact⟨_,rfl,[.k 0,.k 1],rfl,⟨_,rfl,rfl⟩,⟨_,rfl,rfl⟩,trivial⟩
theorem c_cxfinC {t mode pad:Int} {back:Bool} {k:Nat} {xs:List V} {iv last:List UInt8}:Con C N.ctx_Ctx_Final [.p (.k 0) 0] [cxC t mode pad back k xs iv last,.dead] (.ret (.t [.z 0 [],i64 6])) [cxC t mode pad back k xs iv last,.dead]:=by
 refine fd.ctx_Ctx_Final.d caughtOk ?_
 refine⟨⟨[(0,.p (.k 0) 0),(2,.p (.k 2) 0),(3,.p (.k 3) 0)],[_,_,.sc [.slice none 0 0],.sc [.int .i64 0]]⟩,2,3,by decide,⟨[.k 0,.k 1,.d 2 0,.d 3 0],⟨rfl,rfl,rfl,trivial⟩,⟨_,rfl,rfl⟩,⟨_,rfl,rfl⟩,⟨_,rfl,rfl⟩,⟨_,rfl,rfl⟩,trivial⟩,rfl,rfl,rfl,?_⟩
 refine⟨[.k 0,.k 1],_,_,_,_,c_cxneedC,rfl,rfl,?_⟩
 refine⟨_,rfl,_,rfl,?_⟩
 refine⟨_,_,?_,.ret (.t (.cons .nl (.cons (.refl _) .nil))),WkBs.refl _⟩
 exact⟨_,rfl,[.k 0,.k 1],rfl,⟨_,rfl,rfl⟩,⟨_,rfl,rfl⟩,trivial⟩
theorem cx_fi {t key s k xs rs} (h:Ciph t key s k xs rs) {mode pad:Int} {back:Bool} {iv M:List UInt8} {x:HK} {r:List UInt8×Int} (ok:shOk s mode pad iv) (hx:x= .n∧cxH s mode pad back M=[]∨x= .o (cxH s mode pad back M)) (hL:M.length≤100000)
  (hr:r=cxEnd (cF t key false) (cF t key true) s mode pad back (cS t key s mode pad back iv M) (cL t key s mode pad back iv M) (cxH s mode pad back M)):
  r.1.length≤2*s∧∃last',Con C N.ctx_Ctx_Final [.p (.k 0) 0] [cxO true t mode pad back k xs iv x (cL t key s mode pad back iv M),moX (cipV t k xs) (cxMd mode) back (cS t key s mode pad back iv M) 2,gnB (cS t key s mode pad back iv M).row (cS t key s mode pad back iv M).gone,x.b]
   (.ret (.t [.z r.1.length (bv r.1),i64 r.2])) [cxC t mode pad back k xs iv last',.dead,.dead,.dead,.dead]:=by
 have hs:=h.s_le
 have K:=cS_ok h (back:=back) (M:=M) ok
 have hl:=cL_len h (back:=back) (M:=M) ok
 obtain⟨f1,f2⟩:=cxFr_ok (back:=back) (by omega) ok M.length
 have hHl:=cxH_len (n:=s) (mode:=mode) (pad:=pad) (back:=back) M
 obtain⟨g0,g1,g2⟩:=cx_grain (back:=back) (by omega) ok
 have hmost:(cxH s mode pad back M).length≤cxMost s (cxMd mode) mode pad back:=by
  rw[hHl]
  refine Zs fun hh=> ?_
  have:=(cxN_lt (most:=cxMost s (cxMd mode) mode pad back) (L:=M.length) (i:=cxN (moGrain s (cxMd mode)) (cxMost s (cxMd mode) mode pad back) M.length) g0).2 (by show _+cxFr s mode pad back M.length<_;omega)
  exact absurd this (Jp _)
 have hHb:(cxH s mode pad back M).length≤100000:=by omega
 generalize hSt:cS t key s mode pad back iv M=st at*
 generalize hLa:cL t key s mode pad back iv M=last at*
 generalize cxH s mode pad back M=H at*
 have hx':x= .n∧H.length=0∧H=[]∨x= .o H∧H.length=H.length:=by
  rcases hx with ⟨e1,e2⟩|e1
  ·exact .inl ⟨e1,by rw[e2];rfl,e2⟩
  ·exact .inr ⟨e1,rfl⟩
 have fT:∀{n} {vr:List Value} {last' st'},Con C N.ctx_Ctx_end [.p (.k 0) 0,.z H.length (bv H)] [cxO false t mode pad back k xs iv .n last,moX (cipV t k xs) (cxMd mode) back st 2,gnB st.row st.gone] (.ret (.z n vr)) [cxO false t mode pad back k xs iv .n last',moX (cipV t k xs) (cxMd mode) back st' 3,.dead,gnB st'.row st'.gone]→
   ∃last',Con C N.ctx_Ctx_Final [.p (.k 0) 0] [cxO true t mode pad back k xs iv x last,moX (cipV t k xs) (cxMd mode) back st 2,gnB st.row st.gone,x.b] (.ret (.t [.z n vr,i64 0])) [cxC t mode pad back k xs iv last',.dead,.dead,.dead,.dead]:=
  fun E=>⟨_,(c_cxfinTr (e:=0) hx' E).fg (.keep (.drop (.drop (.drop (.drop .nil)))))⟩
 have fTp:∀{e last' st'},Con C N.ctx_Ctx_end [.p (.k 0) 0,.z H.length (bv H)] [cxO false t mode pad back k xs iv .n last,moX (cipV t k xs) (cxMd mode) back st 2,gnB st.row st.gone] (.pan (.i tRef (i64 e))) [cxO false t mode pad back k xs iv .n last',moX (cipV t k xs) (cxMd mode) back st' 3,.dead,gnB st'.row st'.gone]→
   ∃last',Con C N.ctx_Ctx_Final [.p (.k 0) 0] [cxO true t mode pad back k xs iv x last,moX (cipV t k xs) (cxMd mode) back st 2,gnB st.row st.gone,x.b] (.ret (.t [.z 0 [],i64 e])) [cxC t mode pad back k xs iv last',.dead,.dead,.dead,.dead]:=
  fun E=>⟨_,(c_cxfinTp (n:=0) (vr:=[]) hx' E).fg (.keep (.drop (.drop (.drop (.drop .nil)))))⟩
 have fN:∀{n} {vr:List Value} {last' st'},Con C N.ctx_Ctx_end [.p (.k 0) 0,.z H.length (bv H)] [cxO false t mode pad back k xs iv .n last,moX (cipV t k xs) (cxMd mode) back st 2,gnB st.row st.gone] (.ret (.z n vr)) [cxO false t mode pad back k xs iv .n last',moX (cipV t k xs) (cxMd mode) back st' 2,gnB st'.row st'.gone]→
   ∃last',Con C N.ctx_Ctx_Final [.p (.k 0) 0] [cxO true t mode pad back k xs iv x last,moX (cipV t k xs) (cxMd mode) back st 2,gnB st.row st.gone,x.b] (.ret (.t [.z n vr,i64 0])) [cxC t mode pad back k xs iv last',.dead,.dead,.dead,.dead]:=
  fun E=>⟨_,(c_cxfinNr (e:=0) hx' E).fg (.keep (.drop (.drop (.drop (.dd .nil)))))⟩
 have fNp:∀{e last' st'},Con C N.ctx_Ctx_end [.p (.k 0) 0,.z H.length (bv H)] [cxO false t mode pad back k xs iv .n last,moX (cipV t k xs) (cxMd mode) back st 2,gnB st.row st.gone] (.pan (.i tRef (i64 e))) [cxO false t mode pad back k xs iv .n last',moX (cipV t k xs) (cxMd mode) back st' 2,gnB st'.row st'.gone]→
   ∃last',Con C N.ctx_Ctx_Final [.p (.k 0) 0] [cxO true t mode pad back k xs iv x last,moX (cipV t k xs) (cxMd mode) back st 2,gnB st.row st.gone,x.b] (.ret (.t [.z 0 [],i64 e])) [cxC t mode pad back k xs iv last',.dead,.dead,.dead,.dead]:=
  fun E=>⟨_,(c_cxfinNp (n:=0) (vr:=[]) hx' E).fg (.keep (.drop (.drop (.drop (.dd .nil)))))⟩
 unfold cxEnd at hr
 by_cases h7:7≤mode
 ·have e2:cxMd mode=2:=if_pos h7
  have hmo:H.length≤2*s:=by unfold cxMost at hmost;rw[e2,if_neg (by decide),if_pos h7]at hmost;exact hmost
  rw[if_pos h7]at hr
  by_cases hsm:H.length<s
  ·rw[if_pos hsm]at hr
   subst hr
   exact⟨Zq _,fNp (c_cxend_st7 h (hl h7) rfl ⟨h7,ok.1.2⟩ hsm)⟩
  ·rw[if_neg hsm]at hr
   subst hr
   have ll:(stT (cF t key false) (cF t key true) s mode back last H).length=H.length:=stT_len h.ci (hl h7) (by omega) hmo
   refine⟨by show(stT (cF t key false) (cF t key true) s mode back last H).length≤_;rw[ll];exact hmo,?_⟩
   have:=fN (c_cxend_st h (pad:=pad) (md:=cxMd mode) (back:=back) (iv:=iv) (st:=st) (hl h7) rfl ⟨h7,ok.1.2⟩ (by omega) hmo)
   rw[←ll]at this
   exact this
 ·have e2:cxMd mode=mode:=if_neg h7
  rw[if_neg h7]at hr
  by_cases h4:pad=4
  ·rw[if_pos h4]at hr
   by_cases hz:H.length%moGrain s (cxMd mode)=0
   ·rw[if_pos hz]at hr
    have lo:(moStep (cF t key false) (cF t key true) s (cxMd mode) back st H).1.length=H.length:=moStep_len h.ci K.ok hz
    have hb2:H.length≤2*s:=by
     unfold cxMost at hmost
     rw[if_neg h7]at hmost
     split at hmost
     ·omega
     ·split at hmost<;>omega
    subst hr
    refine⟨by show(moStep (cF t key false) (cF t key true) s (cxMd mode) back st H).1.length≤_;rw[lo];exact hb2,?_⟩
    by_cases hne:0<H.length∨st.row=[]
    ·have:=fT (c_cxend_n h (mode:=mode) (pad:=pad) (back:=back) (iv:=iv) (last:=last) rfl hHb K (by omega) h4 hz hne)
     rw[←lo]at this
     rw[lo]at this ⊢
     exact this
    ·have hrow:st.row≠[]:=fun hh=>hne (.inr hh)
     have h3:3≤cxMd mode:=by
      have h1:=K.ok.m
      by_cases h2:3≤cxMd mode
      ·exact h2
      ·exact absurd (K.ok.blk (by omega)) hrow
     have h0:H.length=0:=by omega
     have:=fN (c_cxend_n0 h (H:=H) (mode:=mode) (pad:=pad) (back:=back) (iv:=iv) (last:=last) (st:=st) h0 h3 (by omega) h4)
     obtain rfl:=Zf h0
     rw[moStep_nil]
     exact this
   ·rw[if_neg hz]at hr
    subst hr
    exact⟨Zq _,fNp (c_cxend_n7 h K (by omega) h4 hz)⟩
  ·have hm2:mode≤2:=ok.2.2.1.resolve_left h4
   have hp:pad=1∨pad=2∨pad=3:=by have:=ok.2.1;omega
   have gn:moGrain s (cxMd mode)=s:=if_pos (by have:=ok.1;omega)
   rw[if_neg h4]at hr
   have hmo:H.length≤(if back=true then s else s-1):=by
    unfold cxMost at hmost
    rw[if_neg (by omega),if_neg h7]at hmost
    cases back
    ·rw[if_neg (by simp)]at hmost;exact hmost
    ·rw[if_pos ⟨h4,rfl⟩]at hmost;exact hmost
   cases back
   ·rw[if_pos rfl]at hr
    rw[if_neg (by decide)]at hmo
    have lp:(pdAdd pad s H).length=s:=pdAdd_len (by omega)
    have lo:(moStep (cF t key false) (cF t key true) s (cxMd mode) false st (pdAdd pad s H)).1.length=s:=by rw[moStep_len h.ci K.ok (by rw[lp,gn,Zr]),lp]
    subst hr
    refine⟨by show(moStep (cF t key false) (cF t key true) s (cxMd mode) false st (pdAdd pad s H)).1.length≤_;rw[lo];omega,?_⟩
    have:=fT (c_cxend_p h (m:=H.length) (mode:=mode) (pad:=pad) (back:=false) (iv:=iv) (last:=last) rfl rfl (by omega) K (by omega) hp gn)
    rw[←lo]at this
    rw[lo]at this ⊢
    exact this
   ·rw[if_neg (by decide)]at hr
    by_cases hsz:H.length=s
    ·rw[if_pos hsz]at hr
     have lo:(moStep (cF t key false) (cF t key true) s (cxMd mode) true st H).1.length=s:=by rw[moStep_len h.ci K.ok (by rw[hsz,gn,Zr]),hsz]
     by_cases h0:pdLong pad (moStep (cF t key false) (cF t key true) s (cxMd mode) true st H).1=0
     ·rw[if_pos h0]at hr
      subst hr
      have:=c_cxend_b8 h (m:=0) (mode:=mode) (pad:=pad) (back:=true) (iv:=iv) (last:=last) rfl hsz K (by omega) hp gn h0
      exact⟨Zq _,fTp (by rw[hsz];exact this)⟩
     ·rw[if_neg h0]at hr
      subst hr
      have ls:(pdStrip pad (moStep (cF t key false) (cF t key true) s (cxMd mode) true st H).1).length=s-pdLong pad (moStep (cF t key false) (cF t key true) s (cxMd mode) true st H).1:=by
       unfold pdStrip;rw[Zg,lo];omega
      refine⟨by show(pdStrip pad (moStep (cF t key false) (cF t key true) s (cxMd mode) true st H).1).length≤_;rw[ls];omega,?_⟩
      have:=c_cxend_bk h (m:=0) (mode:=mode) (pad:=pad) (back:=true) (iv:=iv) (last:=last) rfl hsz K (by omega) hp gn h0
      rw[←ls]at this
      exact fT (by rw[hsz];exact this)
    ·rw[if_neg hsz]at hr
     subst hr
     exact⟨Zq _,fNp (c_cxend_b7 h rfl rfl hHb hsz (by omega) hp)⟩
theorem c_w16 {a n:Int} (hn:0<n) (hn2:n≤4611686018427387904) (ha: -9223372036854775808≤a∧a≤9223372036854775807):Con C N.law16_within [i64 a,i64 n] [] (.ret (i64 (a%n))) []:=by
 refine con.law16_within ?_
 have h1: -n<a.tmod n:=Ja a hn
 have h2:a.tmod n<n:=Z9 a hn
 refine⟨by omega,?_⟩
 refine spl_d (fun h=> ?_) (fun h=> ?_)
 ·refine⟨_,rfl,[],congrArg (vi .i64) ?_,trivial⟩
  rw[Zd _ (by omega)]
  rw[←rest_eq a n hn,Zh (a:=a.tmod n+n) (by omega),Zt (by omega) (by omega)]
 ·refine⟨_,rfl,[],congrArg (vi .i64) ?_,trivial⟩
  rw[←rest_eq a n hn,Zh (a:=a.tmod n+n) (by omega),Jb,Zt (by omega) (by omega)]
theorem c_open16 {tag n mode pad:Int} {back:Bool} {lk li s q:Nat} {xs rs:List V} {k iv:List UInt8} (h0:In64 tag) (h1:In64 n) (h2:In64 mode) (h3:In64 pad) (hk:k.length=lk) (hi:iv.length=li) (h:Ciph (tagOf tag) (keyOf (tagOf tag) n k) s q xs rs):
  Con C N.law16_open [askV tag n mode pad back lk k li iv] [] (.ret (.p (.k 0) 0))
   [cxO true (tagOf tag) (akMode mode) (akPad mode pad) back q xs (ivL (akMode mode) s iv) .n (ivL (akMode mode) s iv),moX (cipV (tagOf tag) q xs) (cxMd (akMode mode)) back ⟨ivL (akMode mode) s iv,[],[]⟩ 2,.dead,.dead]:=by
 have hs:=h.s_le
 have hM:=c_askmake (back:=back) h0 h1 h2 h3 hk hi h.hs hs.2
 have lK:=keyOf_len (tagOf tag) n k
 have lV:=ivL_len (akMode mode) s iv
 have hkl:=kLen_ok (tagOf_ok tag) n
 have IN:=c_cxinitA h (back:=back) lK (by omega) lV (ak_ok mode pad s iv)
 generalize akMode mode=md at*
 generalize akPad mode pad=pd at*
 generalize keyOf (tagOf tag) n k=key at*
 generalize kLen (tagOf tag) n=lkk at*
 generalize ivL md s iv=V0 at*
 refine con.law16_open ?_
 refine⟨[],_,_,_,_,c_cxnew,rfl,rfl,?_⟩
 refine⟨[i64 tag,i64 n,i64 mode,i64 pad,bool back,.z lk (bv k),.z li (bv iv)],rfl,rfl,?_⟩
 refine⟨[],_,_,_,_,hM,rfl,rfl,?_⟩
 refine⟨Za rfl,?_⟩
 refine⟨[i64 (tagOf tag),i64 md,i64 pd,bool back],rfl,rfl,?_⟩
 refine⟨[.d 7 0],_,_,_,_,IN,rfl,rfl,?_⟩
 exact⟨_,rfl,[.d 7 0,.d 21 1,.d 21 2,.d 21 3],rfl,⟨_,rfl,rfl⟩,⟨_,rfl,rfl⟩,⟨_,rfl,rfl⟩,⟨_,rfl,rfl⟩,trivial⟩
theorem c_known16:Con C N.law16_known [] [] (.ret (bool true)) []:=by
 obtain⟨z,hz⟩:∃z:List UInt8,z=Zm 16 0:=⟨_,rfl⟩
 have lz:z.length=16:=by rw[hz];rfl
 obtain⟨k,xs,rs,h⟩:=ciph_xtea lz
 have ok:shOk 8 1 1 []:=⟨by decide,by decide,by decide,rfl⟩
 have IN:=c_cxinitA h (back:=false) lz (by omega) (li:=0) (iv:=[]) rfl ok
 obtain⟨b,hb⟩:∃b:List UInt8,b=[104,101,108,108,111]:=⟨_,rfl⟩
 have lb:b.length=5:=by rw[hb];rfl
 have hF:cxFr 8 1 1 false b.length=0:=by rw[lb];decide
 obtain⟨m,o,hn,hFa,hT,U⟩:=cx_up h (back:=false) (M:=[]) (b:=b) (x:= .n) ok (.inl ⟨rfl,cxH_0⟩) lb (by simp)
 rw[Zn,hF]at hFa
 obtain rfl:m=0:=by omega
 obtain rfl:=Zf hn
 have U:=U.resolve_right (fun hh=>hh.1 (by rw[cS_0' (by omega) ok]))
 rw[cL_0 (by omega) ok,cS_0' (by omega) ok,Zn]at U
 have eH:cxH 8 1 1 false b=b:=by unfold cxH;rw[hF];rfl
 obtain⟨r,hr⟩:∃r,r=cxEnd (cF 4 z false) (cF 4 z true) 8 1 1 false (cS 4 z 8 1 1 false [] b) (cL 4 z 8 1 1 false [] b) (cxH 8 1 1 false b):=⟨_,rfl⟩
 obtain⟨_,last',F⟩:=cx_fi h (x:= .o (cxH 8 1 1 false b)) (back:=false) (M:=b) ok (.inr rfl) (by omega) hr
 obtain⟨e1,e2⟩:=cx_end (M:=b) h.ci (by omega) ok hr
 obtain⟨p1,p2⟩:=shP_len (m:=b) h.ci (by omega) ok (by unfold shFine;omega)
 rw[e1]at p1 p2
 have r2:r.2=0:=p1
 have r1:r.1.length=8:=by
  have hTl:=cx_told (back:=false) (M:=b) h.ci (by omega) ok
  rw[hF]at hTl
  have:=p2
  rw[if_pos r2,Zc,hTl,if_neg (by decide),lb]at this
  simpa using this
 rw[r1,r2]at F
 rw[eH]at U F
 have HE:=fun(st:MS) (l:List UInt8)=>c_cxheld (t:=4) (mode:=1) (pad:=1) (md:=cxMd 1) (op:=true) (back:=false) (k:=k) (xs:=xs) (iv:=[]) (last:=l) (st:=st) (x:= .o b)
 have H1:=HE (cS 4 z 8 1 1 false [] b) (cL 4 z 8 1 1 false [] b)
 rw[show (HK.o b).l.length=5 from lb]at H1
 generalize cL 4 z 8 1 1 false [] b=la at*
 generalize cS 4 z 8 1 1 false [] b=st1 at*
 obtain⟨ch,row,g⟩:=st1
 rcases row with _|⟨a,rr⟩
 all_goals
  refine con.law16_known ?_
  refine⟨[],_,_,_,_,c_cxnew,rfl,rfl,?_⟩
  refine⟨[.d 10 0],_,_,_,_,c_cxfin_noA,rfl,rfl,?_⟩
  refine⟨by decide,by decide,by decide,?_⟩
  refine⟨[.d 10 0],_,_,_,_,Con.args IN (ys0:=[.p (.k 0) 0,cfgV 4 1 1 false,.z 16 (bv z),nilv]) (.cons (.refl _) (.cons (.refl _) (.cons (.refl _) (.cons .nl .nil)))),?_,rfl,?_⟩
  ·show[V.p (.k 0) 0,cfgV 4 1 1 false,V.z 16 _,nilv]=_
   rw[hz];rfl
  refine⟨[.d 10 0,.d 21 1,.d 21 2,.d 21 3],_,_,_,_,U,?_,rfl,?_⟩
  ·show[V.p (.k 0) 0,V.z 5 _]=_
   rw[hb];rfl
  refine⟨[.d 10 0,.d 21 1,.d 26 4,.d 26 5],_,_,_,_,H1,rfl,rfl,?_⟩
  refine⟨[.d 10 0,.d 21 1,.d 26 4,.d 26 5],_,_,_,_,F,rfl,rfl,?_⟩
  exact⟨_,rfl,[],rfl,trivial⟩
theorem zc_get {ps:List (List UInt8)} {i:Nat} (h:i<ps.length):(ps.map zc)[((i:Nat):Int).toNat]? =some (.z ps[i].length (bv ps[i])):=by
 rw[Zb,List.getElem?_map,Zu h];rfl
def catN (ps:List (List UInt8)) (i:Nat):List UInt8:=(ps.take i).flatten
theorem catN_succ {ps:List (List UInt8)} {i:Nat} (h:i<ps.length):catN ps (i+1)=catN ps i++ps[i]:=by
 unfold catN
 rw[List.take_succ_eq_append_getElem h,Z2,Z5]
theorem catN_all (ps:List (List UInt8)):catN ps ps.length=ps.flatten:=by unfold catN;rw[List.take_length]
theorem catN_le (ps:List (List UInt8)) (i:Nat):(catN ps i).length≤ps.flatten.length:=by
 have:ps.flatten=catN ps i++(ps.drop i).flatten:=by unfold catN;rw[←Z2,Zp]
 rw[this,Zc];omega
theorem app_z {T o:List UInt8} {n m:Nat} (hT:T.length=n) (ho:o.length=m):V.z (n+m) (sub (sub (bv T) 0 (n*1)++bv o) 0 (n+m))=V.z (T++o).length (bv (T++o)):=by
 rw[Zj,bv_all hT,bv_app,bv_all (by rw[Zc,hT,ho]),Zc,hT,ho]
theorem Mt_eq {m:Nat} {s:S} {d d':D} (e:d=d') (h:Mt m s d'):Mt m s d:=e▸h
def alD (cv:V) (t mode pad md:Int) (back:Bool) (k:Nat) (xs:List V) (iv:List UInt8) (ps:List (List UInt8)) (i:Nat) (st:MS) (la H T:List UInt8):D:=
 ⟨[(0,.p (.k 0) 0),(1,.zz 1 ps.length (ps.map zc)),(7,.o 1 (.k 6) 0 T.length),(8,i64 i)],
  [cxX true true t mode pad back cv (.z iv.length (bv iv)) (.p (.k 1) 0) (.o 1 (.k 5) 0 H.length) (.z la.length (bv la)),moX cv md back st 4,.dead,.dead,gnB st.row st.gone,.sc (bv H),.sc (bv T)]⟩
def allD (cv:V) (t mode pad md:Int) (back:Bool) (k:Nat) (xs:List V) (iv:List UInt8) (ps:List (List UInt8)) (A:Nat→MS×List UInt8×List UInt8×List UInt8):Nat→D
 |0=>⟨[(0,.p (.k 0) 0),(1,.zz 1 ps.length (ps.map zc)),(7,.o 1 (.k 4) 0 0),(8,i64 0)],[cxO true t mode pad back k xs iv .n iv,moX cv md back ⟨iv,[],[]⟩ 2,.dead,.dead,.sc []]⟩
 |i+1=>alD cv t mode pad md back k xs iv ps (i+1) (A (i+1)).1 (A (i+1)).2.1 (A (i+1)).2.2.1 (A (i+1)).2.2.2
theorem allD_s {cv:V} {t mode pad md:Int} {back:Bool} {k:Nat} {xs:List V} {iv:List UInt8} {ps:List (List UInt8)} {A:Nat→MS×List UInt8×List UInt8×List UInt8} {i:Nat} {st:MS} {la H T:List UInt8} (e:A (i+1)=(st,la,H,T)):
  allD cv t mode pad md back k xs iv ps A (i+1)=alD cv t mode pad md back k xs iv ps (i+1) st la H T:=by
 show alD cv t mode pad md back k xs iv ps (i+1) (A (i+1)).1 (A (i+1)).2.1 (A (i+1)).2.2.1 (A (i+1)).2.2.2=_
 rw[e]
theorem c_all16 {t key s k xs rs} (h:Ciph t key s k xs rs) {mode pad:Int} {back:Bool} {iv:List UInt8} (ok:shOk s mode pad iv) {ps:List (List UInt8)} {r:List UInt8×Int} (hps:ps.flatten.length≤100000) (hpn:ps.length≤100000)
  (hr:r=cxEnd (cF t key false) (cF t key true) s mode pad back (cS t key s mode pad back iv ps.flatten) (cL t key s mode pad back iv ps.flatten) (cxH s mode pad back ps.flatten)):
  Con C N.law16_All [.p (.k 0) 0,.zz 1 ps.length (ps.map zc)] [cxO true t mode pad back k xs iv .n iv,moX (cipV t k xs) (cxMd mode) back ⟨iv,[],[]⟩ 2,.dead,.dead]
   (.ret (.t [.z (cT t key s mode pad back iv ps.flatten++r.1).length (bv (cT t key s mode pad back iv ps.flatten++r.1)),i64 r.2,bool true])) [.dead,.dead,.dead,.dead]:=by
 have hs:=h.s_le
 have hc0:catN ps 0=[]:=by unfold catN;rw[List.take_zero];rfl
 obtain⟨A,hA⟩:∃A:Nat→MS×List UInt8×List UInt8×List UInt8,A=fun i=>(cS t key s mode pad back iv (catN ps i),cL t key s mode pad back iv (catN ps i),cxH s mode pad back (catN ps i),cT t key s mode pad back iv (catN ps i)):=⟨_,rfl⟩
 obtain⟨e1,e2⟩:=cx_end (M:=ps.flatten) h.ci (by omega) ok hr
 have is:r.2≠0→r.1.length=0:=fun hh=>by rw[e2 hh];rfl
 have hF:∀{x:HK},(x= .n∧cxH s mode pad back ps.flatten=[]∨x= .o (cxH s mode pad back ps.flatten))→_:=fun hx=>(cx_fi h ok hx hps hr).2
 have hr2:=(cx_fi h (x:= .o (cxH s mode pad back ps.flatten)) ok (.inr rfl) hps hr).1
 have hTb:(cT t key s mode pad back iv ps.flatten).length≤100000:=by
  have h1:=cx_told (back:=back) (M:=ps.flatten) h.ci (by omega) ok
  have h2:=(cxFr_ok (back:=back) (by omega) ok ps.flatten.length).1
  show(cxSt (cF t key false) (cF t key true) s mode pad back iv ps.flatten).1.length≤_
  omega
 have hU:∀i (hi:i<ps.length) {x:HK},(x= .n∧cxH s mode pad back (catN ps i)=[]∨x= .o (cxH s mode pad back (catN ps i)))→_:=fun i hi x hx=>cx_up h (b:=ps[i]) ok hx rfl (by
  have h1:=catN_le ps (i+1)
  rw[catN_succ hi,Zc]at h1
  omega)
 have hTi:∀i,(cT t key s mode pad back iv (catN ps i)).length≤100000:=fun i=>by
  have h1:=cx_told (back:=back) (M:=catN ps i) h.ci (by omega) ok
  have h2:=(cxFr_ok (back:=back) (by omega) ok (catN ps i).length).1
  have h3:=catN_le ps i
  show(cxSt (cF t key false) (cF t key true) s mode pad back iv (catN ps i)).1.length≤_
  omega
 refine fd.law16_All.x ?_
 refine loopNn (allD (cipV t k xs) t mode pad (cxMd mode) back k xs iv ps A) ps.length [(7,1,.sc [])] ⟨[.k 0,.k 1,.k 2,.k 3,.d 900000 0],⟨rfl,rfl,rfl,rfl,trivial⟩,⟨_,rfl,rfl⟩,⟨_,rfl,rfl⟩,⟨_,rfl,rfl⟩,⟨_,rfl,rfl⟩,⟨_,rfl,rfl⟩,trivial⟩ fun i hi=> ?_
 rcases i with _|i
 ·refine spl_d (fun hlt=> ?_) (fun hge=> ?_)
  ·have hl:0<ps.length:=by omega
   obtain⟨n,o,hn,_,hT,U⟩:=hU 0 hl (x:= .n) (.inl ⟨rfl,by rw[hc0];exact cxH_0⟩)
   rw[←catN_succ hl,hc0]at hT U
   have U:=U.resolve_right (fun hh=>hh.1 (by rw[cS_0' (by omega) ok]))
   rw[cL_0 (by omega) ok,cS_0' (by omega) ok]at U
   rw[show cT t key s mode pad back iv []=[] from congrArg Prod.fst (cS_0 (by omega) ok),Zn]at hT
   refine⟨by omega,by omega,?_⟩
   refine⟨_,zc_get (i:=0) hl,?_⟩
   have hA1:A 1=(cS t key s mode pad back iv (catN ps (0+1)),cL t key s mode pad back iv (catN ps (0+1)),cxH s mode pad back (catN ps (0+1)),cT t key s mode pad back iv (catN ps (0+1))):=by rw[hA]
   rw[hT]at hA1
   generalize cS t key s mode pad back iv (catN ps (0+1))=st1 at*
   generalize cL t key s mode pad back iv (catN ps (0+1))=la1 at*
   generalize cxH s mode pad back (catN ps (0+1))=H1 at*
   have hTi1:=hTi 1
   rw[hT]at hTi1
   obtain⟨ch,row,g⟩:=st1
   rcases row with _|⟨a,rr⟩
   all_goals
    refine⟨[.k 0,.k 1,.k 2,.k 3],_,_,_,_,U,rfl,rfl,?_⟩
    refine⟨by rw[bv_len,hn],by omega,Zl _,?_⟩
    refine⟨1,by omega,by omega,Mt_eq (allD_s hA1) ?_⟩
    refine⟨[.k 0,.k 1,.k 2,.k 3,.d 25 4,.d 25 5,.d 33 0],⟨rfl,rfl,?_,rfl,trivial⟩,⟨_,rfl,rfl⟩,⟨_,rfl,rfl⟩,⟨_,rfl,rfl⟩,⟨_,rfl,rfl⟩,⟨_,rfl,rfl⟩,⟨_,rfl,rfl⟩,⟨_,rfl,?_⟩,trivial⟩
    ·exact congrArg (V.o 1 (.k 6) 0) (show 0+n=o.length by omega)
    ·exact congrArg B.sc (show sub ([]:List Value) 0 (0*1)++bv o=bv o from rfl)
  ·have h0:ps.length=0:=by omega
   have hp0:ps=[]:=Zf h0
   subst hp0
   obtain⟨la',F⟩:=hF (x:= .n) (.inl ⟨rfl,cxH_0⟩)
   rw[show ([]:List (List UInt8)).flatten=[] from rfl]at*
   rw[cL_0 (by omega) ok,cS_0' (by omega) ok]at F
   rw[show cT t key s mode pad back iv []=[] from congrArg Prod.fst (cS_0 (by omega) ok),Zn]
   refine⟨[.k 0,.k 1,.k 2,.k 3],_,_,_,_,F,rfl,rfl,?_⟩
   refine⟨by rw[bv_len],by omega,Zl _,?_⟩
   refine spl_eq (fun h2=> ?_) (fun h2=> ?_)
   ·refine⟨.ret (.t [.z _ _,i64 r.2,bool true]),[_,_,_,_],⟨_,rfl,[.k 0,.k 1,.k 2,.k 3],?_,⟨_,rfl,rfl⟩,⟨_,rfl,rfl⟩,⟨_,rfl,rfl⟩,⟨_,rfl,rfl⟩,trivial⟩,.ret (.refl _),.drop (.drop (.drop (.drop .nil)))⟩
    exact congrArg (fun z=>V.t [z,i64 r.2,bool true]) (app_z (T:=[]) (o:=r.1) rfl rfl)
   ·have hd:decide ((r.1.length:Int)=0)=true:=decide_eq_true (by rw[is h2];rfl)
    refine⟨.ret (.t [.z _ _,i64 r.2,bool true]),[_,_,_,_],⟨_,rfl,[.k 0,.k 1,.k 2,.k 3],?_,⟨_,rfl,rfl⟩,⟨_,rfl,rfl⟩,⟨_,rfl,rfl⟩,⟨_,rfl,rfl⟩,trivial⟩,.ret (.refl _),.drop (.drop (.drop (.drop .nil)))⟩
    exact(congrArg (fun z=>V.t [z,i64 r.2,bool (decide ((r.1.length:Int)=0))]) (app_z (T:=[]) (o:=r.1) rfl rfl)).trans (congrArg (fun b=>V.t [_,i64 r.2,bool b]) hd)
 ·have hA1:A (i+1)=(cS t key s mode pad back iv (catN ps (i+1)),cL t key s mode pad back iv (catN ps (i+1)),cxH s mode pad back (catN ps (i+1)),cT t key s mode pad back iv (catN ps (i+1))):=by rw[hA]
  rw[allD_s hA1]
  have hT0:=hTi (i+1)
  refine spl_d (fun hlt=> ?_) (fun hge=> ?_)
  ·have hl:i+1<ps.length:=by omega
   obtain⟨n,o,hn,_,hT,U⟩:=hU (i+1) hl (x:= .o (cxH s mode pad back (catN ps (i+1)))) (.inr rfl)
   have hT1:=hTi (i+1+1)
   rw[←catN_succ hl]at hT U
   refine⟨by omega,by omega,?_⟩
   refine⟨.z ps[i+1].length (bv ps[i+1]),by rw[Zj];exact zc_get hl,?_⟩
   have hA2:A (i+1+1)=(cS t key s mode pad back iv (catN ps (i+1+1)),cL t key s mode pad back iv (catN ps (i+1+1)),cxH s mode pad back (catN ps (i+1+1)),cT t key s mode pad back iv (catN ps (i+1+1))):=by rw[hA]
   rw[hT]at hA2 hT1
   generalize cS t key s mode pad back iv (catN ps (i+1+1))=st1 at*
   generalize cL t key s mode pad back iv (catN ps (i+1+1))=la1 at*
   generalize cxH s mode pad back (catN ps (i+1+1))=H1 at*
   generalize cS t key s mode pad back iv (catN ps (i+1))=st0 at*
   generalize cL t key s mode pad back iv (catN ps (i+1))=la0 at*
   generalize cxH s mode pad back (catN ps (i+1))=H0 at*
   generalize cT t key s mode pad back iv (catN ps (i+1))=T0 at*
   rw[Zc,hn]at hT1
   obtain⟨ch,row,g⟩:=st1
   obtain⟨ch0,row0,g0⟩:=st0
   rcases U with U|⟨_,U⟩<;>rcases row0 with _|⟨a0,rr0⟩<;>rcases row with _|⟨a,rr⟩
   all_goals
    refine⟨[.k 0,.k 1,.k 4,.k 5],_,_,_,_,U,rfl,rfl,?_⟩
    refine⟨by rw[bv_len,hn],by omega,by rw[bv_len];omega,?_⟩
    refine⟨i+1+1,by omega,by omega,Mt_eq (allD_s hA2) ?_⟩
    first
     |refine⟨[.k 0,.k 1,.k 2,.k 3,.d 25 4,.d 25 5,.d 33 0],⟨rfl,rfl,?_,congrArg (vi .i64) (by simp(disch:=omega)only[Zd];omega),trivial⟩,⟨_,rfl,rfl⟩,⟨_,rfl,rfl⟩,⟨_,rfl,rfl⟩,⟨_,rfl,rfl⟩,⟨_,rfl,rfl⟩,⟨_,rfl,rfl⟩,⟨_,rfl,?_⟩,trivial⟩
     |refine⟨[.k 0,.k 1,.k 2,.k 3,.k 4,.d 25 4,.d 33 0],⟨rfl,rfl,?_,congrArg (vi .i64) (by simp(disch:=omega)only[Zd];omega),trivial⟩,⟨_,rfl,rfl⟩,⟨_,rfl,rfl⟩,⟨_,rfl,rfl⟩,⟨_,rfl,rfl⟩,⟨_,rfl,rfl⟩,⟨_,rfl,rfl⟩,⟨_,rfl,?_⟩,trivial⟩
    ·exact congrArg (V.o 1 (.k 6) 0) (show T0.length+n=(T0++o).length by rw[Zc,hn])
    ·exact congrArg B.sc (show sub (bv T0) 0 (T0.length*1)++bv o=bv (T0++o) by rw[Zj,bv_all rfl,bv_app])
  ·have hn1:i+1=ps.length:=by omega
   rw[show catN ps (i+1)=ps.flatten by rw[hn1];exact catN_all ps]at*
   obtain⟨la',F⟩:=hF (x:= .o (cxH s mode pad back ps.flatten)) (.inr rfl)
   generalize cS t key s mode pad back iv ps.flatten=st0 at*
   generalize cL t key s mode pad back iv ps.flatten=la0 at*
   generalize cxH s mode pad back ps.flatten=H0 at*
   generalize cT t key s mode pad back iv ps.flatten=T0 at*
   obtain⟨ch0,row0,g0⟩:=st0
   rcases row0 with _|⟨a0,rr0⟩
   all_goals
    refine⟨[.k 0,.k 1,.k 4,.k 5],_,_,_,_,F,rfl,rfl,?_⟩
    refine⟨by rw[bv_len],by omega,by rw[bv_len];omega,?_⟩
    refine spl_eq (fun h2=> ?_) (fun h2=> ?_)
    ·refine⟨.ret (.t [.z _ _,i64 r.2,bool true]),[_,_,_,_],⟨_,rfl,[.k 0,.k 1,.k 2,.k 3],?_,⟨_,rfl,rfl⟩,⟨_,rfl,rfl⟩,⟨_,rfl,rfl⟩,⟨_,rfl,rfl⟩,trivial⟩,.ret (.refl _),.drop (.drop (.drop (.drop .nil)))⟩
     exact congrArg (fun z=>V.t [z,i64 r.2,bool true]) (app_z (T:=T0) (o:=r.1) rfl rfl)
    ·have hd:decide ((r.1.length:Int)=0)=true:=decide_eq_true (by rw[is h2];rfl)
     refine⟨.ret (.t [.z _ _,i64 r.2,bool true]),[_,_,_,_],⟨_,rfl,[.k 0,.k 1,.k 2,.k 3],?_,⟨_,rfl,rfl⟩,⟨_,rfl,rfl⟩,⟨_,rfl,rfl⟩,⟨_,rfl,rfl⟩,trivial⟩,.ret (.refl _),.drop (.drop (.drop (.drop .nil)))⟩
     exact(congrArg (fun z=>V.t [z,i64 r.2,bool (decide ((r.1.length:Int)=0))]) (app_z (T:=T0) (o:=r.1) rfl rfl)).trans (congrArg (fun b=>V.t [_,i64 r.2,bool b]) hd)
theorem cutF_flat (ns b):∀i,(cutF ns b i).1.flatten++(cutF ns b i).2=b
 |0=>rfl
 |i+1=>by
  show((cutF ns b i).1++[(cutF ns b i).2.take _]).flatten++(cutF ns b i).2.drop _=b
  rw[Z2,Z5,Jd,Zp,cutF_flat ns b i]
theorem cutL_flat (ns b):(cutL ns b).flatten=b:=by
 unfold cutL
 rw[Z2,Z5,cutF_flat]
theorem all_once {t key s k xs rs} (h:Ciph t key s k xs rs) {mode pad:Int} {back:Bool} {iv b:List UInt8} (ok:shOk s mode pad iv) {ps:List (List UInt8)} (hps:ps.flatten=b) (hb:b.length≤100000) (hpn:ps.length≤100000):
  ∃(e:Int) (y:List UInt8),(e=0→shP (cF t key false) (cF t key true) s mode pad back iv b=(y,0))∧(e≠0→shP (cF t key false) (cF t key true) s mode pad back iv b=([],e))∧
   Con C N.law16_All [.p (.k 0) 0,.zz 1 ps.length (ps.map zc)] [cxO true t mode pad back k xs iv .n iv,moX (cipV t k xs) (cxMd mode) back ⟨iv,[],[]⟩ 2,.dead,.dead]
    (.ret (.t [.z y.length (bv y),i64 e,bool true])) [.dead,.dead,.dead,.dead]:=by
 have hs:=h.s_le
 subst hps
 obtain⟨r,hr⟩:∃r,r=cxEnd (cF t key false) (cF t key true) s mode pad back (cS t key s mode pad back iv ps.flatten) (cL t key s mode pad back iv ps.flatten) (cxH s mode pad back ps.flatten):=⟨_,rfl⟩
 obtain⟨e1,e2⟩:=cx_end (M:=ps.flatten) h.ci (by omega) ok hr
 refine⟨r.2,_,fun h0=> ?_,fun h0=> ?_,c_all16 h ok hb hpn hr⟩
 ·rw[e1,if_pos h0,h0]
 ·rw[e1,if_neg h0]
end Go.Scr
