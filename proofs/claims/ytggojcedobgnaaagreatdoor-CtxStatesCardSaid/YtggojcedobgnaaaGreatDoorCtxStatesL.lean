/-
  What the functions that this law alone reaches reckon, up to the law. It is no claim by itself; each contract bears its own conditions.
-/
import Derived.Test.YtggojcedobgnaaaGreatDoorY3
set_option linter.unusedVariables false
set_option linter.unusedSimpArgs false
set_option maxRecDepth 100000
namespace Go.Scr
open Go.Proofs
open Nat renaming le_of_ble_eq_true → Za
abbrev N.law16_CtxStates:=14
theorem fd.law16_CtxStates:FnD C 14 [] Tryz.f14 140:=fk Tryz.func14 (by kernel_rfl)
abbrev con.law16_CtxStates:=@FnD.c _ _ _ _ _ fd.law16_CtxStates
theorem kLen_mem {t n:Int} (ht:okTag t):((kLen t n:Nat):Int)∈cLens t:=by
 have hp:=cLens_pos ht
 have h1:=Int.emod_nonneg n (b:=((cLens t).length:Int)) (by omega)
 have h2:=Int.emod_lt_of_pos n (b:=((cLens t).length:Int)) (by omega)
 have hi:(n%((cLens t).length:Int)).toNat<(cLens t).length:=by omega
 have hx:(cLens t).getD (n%((cLens t).length:Int)).toNat 0∈cLens t:=by
  rw[List.getD_eq_getElem?_getD,List.getElem?_eq_getElem hi];exact List.getElem_mem hi
 have h0:0≤(cLens t).getD (n%((cLens t).length:Int)).toNat 0:=by
  have:∀x∈cLens t,0≤x:=by
   rcases ht with rfl|rfl|rfl|rfl|rfl|rfl|rfl|rfl<;>decide
  exact this _ hx
 rw[kLen,Int.toNat_of_nonneg h0];exact hx
theorem ciph_law (tag n:Int) (k:List UInt8):∃s q xs rs,Ciph (tagOf tag) (keyOf (tagOf tag) n k) s q xs rs:=ciph_ok (tagOf_ok _) (by rw[keyOf_len];exact kLen_mem (tagOf_ok _))
theorem ask_ciph (tag n:Int) (k:List UInt8):∃s q xs rs,Ciph (tagOf tag) (keyOf (tagOf tag) n k) s q xs rs:=ciph_law tag n k
theorem c_cxstolenC {t mode pad:Int} {back:Bool} {k:Nat} {xs:List V} {iv last:List UInt8} (hm:mode≤9):Con C N.ctx_Ctx_stolen [.p (.k 0) 0] [cxC t mode pad back k xs iv last,.dead] (.ret (bool (decide (7≤mode)))) [cxC t mode pad back k xs iv last,.dead]:=by
 refine con.ctx_Ctx_stolen ?_
 refine⟨_,rfl,?_⟩
 refine spl_d (fun h7=> ?_) (fun h7=> ?_)
 ·refine⟨_,rfl,?_⟩
  refine⟨_,rfl,[.k 0,.k 1],?_,⟨_,rfl,rfl⟩,⟨_,rfl,rfl⟩,trivial⟩
  exact congrArg bool (by rw[decide_eq_true hm,decide_eq_true h7])
 ·refine⟨_,rfl,[.k 0,.k 1],?_,⟨_,rfl,rfl⟩,⟨_,rfl,rfl⟩,trivial⟩
  exact congrArg bool (by rw[decide_eq_false h7])
theorem c_cxbeginC {t key s k xs rs} (h:Ciph t key s k xs rs) {mode pad:Int} {back:Bool} {iv last0:List UInt8} (ok:shOk s mode pad iv):
  Con C N.ctx_Ctx_begin [.p (.k 0) 0] [cxC t mode pad back k xs iv last0,.dead] (.ret (.t []))
   [cxX true true t mode pad back (cipV t k xs) (.z iv.length (bv iv)) (.p (.k 2) 0) nilv (.z iv.length (bv iv)),.dead,moX (cipV t k xs) (cxMd mode) back ⟨iv,[],[]⟩ 3,.dead,.dead]:=by
 have hs:=h.s_le
 obtain⟨m1,hiv⟩:=cxMd_ok ok
 have T0:=c_new_m h (mode:=cxMd mode) (back:=back) (i:=1) (vi:=bv iv) (iv:=iv) rfl rfl m1 hiv
 have hl16:iv.length≤16:=by rw[hiv];split<;>omega
 have S:=c_cxstolenC (t:=t) (mode:=mode) (pad:=pad) (back:=back) (k:=k) (xs:=xs) (iv:=iv) (last:=last0) ok.1.2
 refine con.ctx_Ctx_begin ?_
 refine⟨_,rfl,?_⟩
 refine⟨[.k 0,.k 1],_,_,_,_,S,rfl,rfl,?_⟩
 refine spl_d (fun h7=> ?_) (fun h7=> ?_)
 all_goals
  first
   |rw[show cxMd mode=2 from if_pos h7]at T0 ⊢
   |rw[show cxMd mode=mode from if_neg h7]at T0 ⊢
  refine⟨_,rfl,?_⟩
  refine⟨_,rfl,?_⟩
  refine⟨_,rfl,?_⟩
  refine⟨[],_,_,_,_,T0,rfl,rfl,?_⟩
  refine⟨Za rfl,?_⟩
  refine⟨_,rfl,?_⟩
  refine⟨[],_,_,_,_,c_cloneZ (l:=iv) rfl rfl (by omega),rfl,rfl,?_⟩
  refine⟨Za rfl,?_⟩
  refine⟨Za rfl,?_⟩
  refine⟨Za rfl,?_⟩
  exact⟨_,rfl,[.k 0,.k 1,.d 26 0,.d 26 1,.d 26 2],rfl,⟨_,rfl,rfl⟩,⟨_,rfl,rfl⟩,⟨_,rfl,rfl⟩,⟨_,rfl,rfl⟩,⟨_,rfl,rfl⟩,trivial⟩
theorem c_cxresetC {t key s k xs rs} (h:Ciph t key s k xs rs) {mode pad:Int} {back:Bool} {iv last0:List UInt8} (ok:shOk s mode pad iv):
  Con C N.ctx_Ctx_Reset [.p (.k 0) 0] [cxC t mode pad back k xs iv last0,.dead] (.ret (i64 0))
   [cxX true true t mode pad back (cipV t k xs) (.z iv.length (bv iv)) (.p (.k 2) 0) nilv (.z iv.length (bv iv)),.dead,moX (cipV t k xs) (cxMd mode) back ⟨iv,[],[]⟩ 3,.dead,.dead]:=by
 refine con.ctx_Ctx_Reset ?_
 refine⟨_,rfl,?_⟩
 refine⟨[.k 0,.k 1],_,_,_,_,c_cxbeginC h ok,rfl,rfl,?_⟩
 exact⟨_,rfl,[.k 0,.k 1,.d 9 2,.d 9 3,.d 9 4],rfl,⟨_,rfl,rfl⟩,⟨_,rfl,rfl⟩,⟨_,rfl,rfl⟩,⟨_,rfl,rfl⟩,⟨_,rfl,rfl⟩,trivial⟩
theorem c_cxstates {tag n mode pad w:Int} {back:Bool} {lk li lb:Nat} {k v b:List UInt8} (h0:In64 tag) (h1:In64 n) (h2:In64 mode) (h3:In64 pad) (hk:k.length=lk) (hi:v.length=li) (hb:b.length=lb) (hw:In64 w):
  Con C N.law16_CtxStates [askV tag n mode pad back lk k li v,.z lb (bv b),i64 w] [] (.ret (bool true)) []:=by
 obtain⟨s,q,xs,rs,h⟩:=ask_ciph tag n k
 have hs:=h.s_le
 have hM:=c_askmake (back:=back) h0 h1 h2 h3 hk hi h.hs hs.2
 have lK:=keyOf_len (tagOf tag) n k
 have lV:=ivL_len (akMode mode) s v
 have hkl:=kLen_ok (tagOf_ok tag) n
 have ok:=ak_ok mode pad s v
 have WI:=c_w16 (a:=w) (n:=3) (by omega) (by omega) hw
 have IN0:=c_cxinit_noA (t:=0) (mode:=0) (pad:=0) (back:=false) lK (by omega) lV (by unfold shErr;rw[if_pos (by unfold okTag;omega)];decide)
 have e2:shErr 0 0 0 (cSize 0).toNat (kLen (tagOf tag) n) (ivN (akMode mode) s)=2:=by unfold shErr;rw[if_pos (by unfold okTag;omega)]
 rw[e2]at IN0
 have INA:=c_cxinitA h (back:=back) lK (by omega) lV ok
 have INB:=fun(l0:List UInt8)=>c_cxinitB h (mode:=akMode mode) (pad:=akPad mode pad) (back:=back) (iv:=ivL (akMode mode) s v) (t0:=tagOf tag) (mode0:=akMode mode) (pad0:=akPad mode pad) (md0:=cxMd (akMode mode)) (op:=true) (back0:=back) (k0:=q) (xs0:=xs) (iv0:=ivL (akMode mode) s v) (last0:=ivL (akMode mode) s v) (st0:=⟨ivL (akMode mode) s v,[],[]⟩) (x0:= .n) lK (by omega) lV ok
 refine con.law16_CtxStates ?_
 refine⟨[],_,_,_,_,c_known16,rfl,rfl,?_⟩
 refine spl_d (fun hl=> ?_) (fun hl=> ?_)
 ·exact⟨_,rfl,[],rfl,trivial⟩
 obtain⟨a,o,hn,_,_,U⟩:=cx_up h (back:=back) (iv:=ivL (akMode mode) s v) (M:=[]) (b:=b) (x:= .n) ok (.inl ⟨rfl,cxH_0⟩) hb (by simp;omega)
 have U:=U.resolve_right (fun hh=>hh.1 (by rw[cS_0' (by omega) ok]))
 rw[cL_0 (by omega) ok,cS_0' (by omega) ok,List.nil_append]at U
 obtain⟨r,hr⟩:∃r,r=cxEnd (cF (tagOf tag) (keyOf (tagOf tag) n k) false) (cF (tagOf tag) (keyOf (tagOf tag) n k) true) s (akMode mode) (akPad mode pad) back (cS (tagOf tag) (keyOf (tagOf tag) n k) s (akMode mode) (akPad mode pad) back (ivL (akMode mode) s v) b) (cL (tagOf tag) (keyOf (tagOf tag) n k) s (akMode mode) (akPad mode pad) back (ivL (akMode mode) s v) b) (cxH s (akMode mode) (akPad mode pad) back b):=⟨_,rfl⟩
 obtain⟨_,last',F⟩:=cx_fi h (x:= .o (cxH s (akMode mode) (akPad mode pad) back b)) (back:=back) (M:=b) ok (.inr rfl) (by omega) hr
 have RE:=c_cxresetC h (back:=back) (last0:=last') ok
 generalize cL (tagOf tag) (keyOf (tagOf tag) n k) s (akMode mode) (akPad mode pad) back (ivL (akMode mode) s v) b=la at*
 generalize cxH s (akMode mode) (akPad mode pad) back b=H at*
 generalize cS (tagOf tag) (keyOf (tagOf tag) n k) s (akMode mode) (akPad mode pad) back (ivL (akMode mode) s v) b=st1 at*
 generalize akMode mode=md at*
 generalize akPad mode pad=pd at*
 generalize ivL md s v=V0 at*
 generalize keyOf (tagOf tag) n k=key at*
 generalize kLen (tagOf tag) n=lkk at*
 generalize ivN md s=lV0 at*
 refine⟨[i64 tag,i64 n,i64 mode,i64 pad,bool back,.z lk (bv k),.z li (bv v)],rfl,rfl,?_⟩
 by_cases hf:lk≤100∧li≤100
 ·refine⟨[],_,_,_,_,c_few_y hf,rfl,rfl,?_⟩
  refine⟨[],_,_,_,_,c_cxnew,rfl,rfl,?_⟩
  refine⟨[.d 30 0],_,_,_,_,c_cxupd_noA,rfl,rfl,?_⟩
  refine⟨[.d 30 0],_,_,_,_,c_cxfin_noA,rfl,rfl,?_⟩
  refine⟨[.d 30 0],_,_,_,_,c_cxresetA,rfl,rfl,?_⟩
  refine⟨[.d 30 0],_,_,_,_,c_cxheldA,rfl,rfl,?_⟩
  refine⟨[i64 tag,i64 n,i64 mode,i64 pad,bool back,.z lk (bv k),.z li (bv v)],rfl,rfl,?_⟩
  refine⟨[],_,_,_,_,hM,rfl,rfl,?_⟩
  refine⟨Za rfl,?_⟩
  refine⟨[.d 30 0],_,_,_,_,IN0,rfl,rfl,?_⟩
  refine⟨[.d 30 0],_,_,_,_,c_cxresetA,rfl,rfl,?_⟩
  refine⟨[i64 (tagOf tag),i64 md,i64 pd,bool back],rfl,rfl,?_⟩
  refine⟨[.d 30 0],_,_,_,_,INA,rfl,rfl,?_⟩
  obtain⟨ch,row,g⟩:=st1
  rcases row with _|⟨a1,r1⟩
  all_goals
   refine⟨[.d 30 0,.d 82 1,.d 82 2,.d 82 3],_,_,_,_,U,rfl,rfl,?_⟩
   refine⟨[.d 30 0,.d 82 1,.d 87 4,.d 87 5],_,_,_,_,F,rfl,rfl,?_⟩
   refine loopN (fun i=>⟨[(1,.z lb (bv b)),(2,i64 w),(7,.p (.k 0) 0),(12,.q [i64 (tagOf tag),i64 md,i64 pd,bool back] 0),(13,.z lkk (bv key)),(14,.z lV0 (bv V0)),(15,i64 i)],[cxC (tagOf tag) md pd back q xs V0 last',.dead]⟩) 3 ⟨[.d 30 0,.d 82 1],⟨rfl,rfl,rfl,rfl,rfl,rfl,rfl,trivial⟩,⟨_,rfl,rfl⟩,⟨_,rfl,rfl⟩,trivial⟩ fun i hi'=> ?_
   refine⟨[],_,_,_,_,WI,rfl,rfl,?_⟩
   refine spl_d (fun hlt=> ?_) (fun hge=> ?_)
   ·rw[IntWalk.i64_in _ (by omega)]at hlt
    refine⟨[.k 0,.k 1],_,_,_,_,c_cxupdC,rfl,rfl,?_⟩
    refine⟨[.k 0,.k 1],_,_,_,_,c_cxfinC,rfl,rfl,?_⟩
    refine⟨[.k 0,.k 1],_,_,_,_,c_cxheldC,rfl,rfl,?_⟩
    exact⟨i+1,by omega,by omega,[.k 0,.k 1],⟨rfl,rfl,rfl,rfl,rfl,rfl,congrArg (vi .i64) (by simp(disch:=omega)only[IntWalk.i64_in];omega),trivial⟩,⟨_,rfl,rfl⟩,⟨_,rfl,rfl⟩,trivial⟩
   ·refine⟨[.k 0,.k 1],_,_,_,_,RE,rfl,rfl,?_⟩
    refine⟨[i64 (tagOf tag),i64 md,i64 pd,bool back],rfl,rfl,?_⟩
    refine⟨[.k 0,.d 130 2,.d 130 3,.d 130 4],_,_,_,_,INB [],rfl,rfl,?_⟩
    exact⟨_,rfl,[],rfl,trivial⟩
 ·refine⟨[],_,_,_,_,c_few_n hf,rfl,rfl,?_⟩
  exact⟨_,rfl,[],rfl,trivial⟩
end Go.Scr
