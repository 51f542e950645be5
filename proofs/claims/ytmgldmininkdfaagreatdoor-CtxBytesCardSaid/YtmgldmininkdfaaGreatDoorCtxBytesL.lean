/-
  What the functions that this law alone reaches reckon, up to the law. It is no claim by itself; each contract bears its own conditions.
-/
import Derived.Test.YtmgldmininkdfaaGreatDoorY4
set_option linter.unusedVariables false
set_option linter.unusedSimpArgs false
set_option maxRecDepth 100000
namespace Go.Scr
open Go.Proofs
open Int renaming toNat_natCast → Za
open List renaming length_map → Zb, length_take → Zd
open Nat renaming add_sub_cancel_left → Zc
open IntWalk renaming i64_in → Ze
abbrev N.law16_CtxBytes:=7
theorem fd.law16_CtxBytes:FnD C 7 [] Tryz.f7 86:=fk Tryz.func7 (by kernel_rfl)
theorem kLen_mem {t n:Int} (ht:okTag t):((kLen t n:Nat):Int)∈cLens t:=by
 have hp:=cLens_pos ht
 have h1:=Int.emod_nonneg n (b:=((cLens t).length:Int)) (by omega)
 have h2:=Int.emod_lt_of_pos n (b:=((cLens t).length:Int)) (by omega)
 have hi:(n%((cLens t).length:Int)).toNat<(cLens t).length:=by omega
 have hx:(cLens t).getD (n%((cLens t).length:Int)).toNat 0∈cLens t:=by
  rw[List.getD_eq_getElem?_getD,List.getElem?_eq_getElem hi];exact List.getElem_mem hi
 have h0:0≤(cLens t).getD (n%((cLens t).length:Int)).toNat 0:=by
  have:∀x∈cLens t,0≤x:=by
   rcases ht with rfl|rfl|rfl|rfl|rfl|rfl|rfl|rfl<;>decide
  exact this _ hx
 rw[kLen,Int.toNat_of_nonneg h0];exact hx
theorem ciph_law (tag n:Int) (k:Bs):∃s q xs rs,Ciph (tagOf tag) (keyOf (tagOf tag) n k) s q xs rs:=ciph_ok (tagOf_ok _) (by rw[keyOf_len];exact kLen_mem (tagOf_ok _))
theorem akLen_le (n:Int) (s l:Nat):akLen n s l≤l:=by
 unfold akLen
 split
 ·exact Nat.div_mul_le_self _ _
 ·exact Nat.le_refl _
theorem akMsg_len (n:Int) (s:Nat) (m:Bs):(akMsg n s m).length=akLen n s m.length:=by
 rw[Zd];have:=akLen_le n s m.length;omega
theorem ask_ciph (tag n:Int) (k:Bs):∃s q xs rs,Ciph (tagOf tag) (keyOf (tagOf tag) n k) s q xs rs:=ciph_law tag n k
def sglL (b:Bs):List (Bs):=b.map fun x=>[x]
theorem sglL_flat:∀b:Bs,(sglL b).flatten=b
 |[]=>rfl
 |x::r=>by
  show([x]::sglL r).flatten=_
  rw[List.flatten_cons,sglL_flat r];rfl
theorem sglL_len (b:Bs):(sglL b).length=b.length:=Zb _
theorem sub_one {b:Bs} {i:Nat} (h:i<b.length):sub b i 1=[b[i]]:=by
 unfold sub
 rw[List.drop_eq_getElem_cons h];rfl
theorem sgl_step {b:Bs} {i:Nat} (h:i<b.length):sub ((sglL (b.take i)).map zc) 0 (i*1)++[V.z 1 (sub (bv b) i 1)]=(sglL (b.take (i+1))).map zc:=by
 have l:((sglL (b.take i)).map zc).length=i:=by rw[Zb,sglL_len,Zd];omega
 rw[Nat.mul_one,sub_all l,bv_sub,sub_one h,List.take_succ_eq_append_getElem h]
 unfold sglL
 rw[List.map_append,List.map_append];rfl
theorem c_cxbytes {tag n mode pad:Int} {back:Bool} {lk li lb:Nat} {k v b:Bs} (h0:In64 tag) (h1:In64 n) (h2:In64 mode) (h3:In64 pad) (hk:k.length=lk) (hi:v.length=li) (hb:b.length=lb):
  Con C N.law16_CtxBytes [askV tag n mode pad back lk k li v,.z lb (bv b)] [] (.ret (bool true)) []:=by
 obtain⟨s,q,xs,rs,h⟩:=ask_ciph tag n k
 have hs:=h.s_le
 have hM:=c_askmake (back:=back) h0 h1 h2 h3 hk hi h.hs hs.2
 have lK:=keyOf_len (tagOf tag) n k
 have lV:=ivL_len (akMode mode) s v
 have hkl:=kLen_ok (tagOf_ok tag) n
 have ok:=ak_ok mode pad s v
 have OP:=c_open16 (back:=back) h0 h1 h2 h3 hk hi h
 refine fd.law16_CtxBytes.c ?_
 refine⟨[],_,_,_,_,c_known16,rfl,rfl,?_⟩
 refine spl_d (fun hl=> ?_) (fun hl=> ?_)
 ·exact⟨_,rfl,[],rfl,trivial⟩
 have hS:=c_size15 (mode:=mode) (pad:=pad) (back:=back) (lk:=lk) (li:=li) (k:=k) (iv:=v) h0 h1 h.hs (by omega) hb (by omega)
 have hle:=akLen_le n s lb
 have lm:=akMsg_len n s b
 rw[hb]at lm
 obtain⟨e,y,E0,E1,AL⟩:=all_once h (back:=back) ok (sglL_flat (akMsg n s b)) (by omega) (by rw[sglL_len];omega)
 rw[sglL_len,lm]at AL
 have RS:=c_rshotQ h (back:=back) (msg:=akMsg n s b) (m:=akLen n s lb) (vk:=bv (keyOf (tagOf tag) n k)) (vi:=bv (ivL (akMode mode) s v)) rfl rfl rfl lK lV lm (by omega) ok
 generalize akMode mode=md at*
 generalize akPad mode pad=pd at*
 generalize akMsg n s b=msg at*
 generalize akLen n s lb=m at*
 generalize shP (cF (tagOf tag) (keyOf (tagOf tag) n k) false) (cF (tagOf tag) (keyOf (tagOf tag) n k) true) s md pd back (ivL md s v) msg=rr at*
 generalize keyOf (tagOf tag) n k=key at*
 generalize kLen (tagOf tag) n=lkk at*
 generalize ivL md s v=V0 at*
 generalize ivN md s=lV0 at*
 refine⟨[i64 tag,i64 n,i64 mode,i64 pad,bool back,.z lk (bv k),.z li (bv v)],rfl,rfl,?_⟩
 by_cases hf:lk≤100∧li≤100
 ·refine⟨[],_,_,_,_,c_few_y hf,rfl,rfl,?_⟩
  refine⟨[i64 tag,i64 n,i64 mode,i64 pad,bool back,.z lk (bv k),.z li (bv v)],rfl,rfl,?_⟩
  refine⟨[],_,_,_,_,OP,rfl,rfl,?_⟩
  refine⟨[i64 tag,i64 n,i64 mode,i64 pad,bool back,.z lk (bv k),.z li (bv v)],rfl,rfl,?_⟩
  refine⟨[],_,_,_,_,hM,rfl,rfl,?_⟩
  refine⟨Nat.le_of_ble_eq_true rfl,?_⟩
  refine⟨[i64 tag,i64 n,i64 mode,i64 pad,bool back,.z lk (bv k),.z li (bv v)],rfl,rfl,?_⟩
  refine⟨[],_,_,_,_,hS,rfl,rfl,?_⟩
  by_cases hm0:m=0
  ·subst hm0
   obtain rfl:=List.eq_nil_of_length_eq_zero lm
   refine loopN (fun i=>⟨[(5,.p (.k 0) 0),(6,.q [i64 (tagOf tag),i64 md,i64 pd,bool back] 0),(7,.z lkk (bv key)),(8,.z lV0 (bv V0)),(9,.z 0 (bv [])),(10,nilv),(11,i64 i)],[cxO true (tagOf tag) md pd back q xs V0 .n V0,moX (cipV (tagOf tag) q xs) (cxMd md) back ⟨V0,[],[]⟩ 2,.dead,.dead]⟩) 0 ⟨[.d 28 0,.d 28 1,.d 28 2,.d 28 3],⟨rfl,rfl,rfl,rfl,rfl,rfl,rfl,trivial⟩,⟨_,rfl,rfl⟩,⟨_,rfl,rfl⟩,⟨_,rfl,rfl⟩,⟨_,rfl,rfl⟩,trivial⟩ fun i hi'=> ?_
   obtain rfl:i=0:=by omega
   refine⟨[.k 0,.k 1,.k 2,.k 3],_,_,_,_,Con.args AL (ys0:=[.p (.k 0) 0,nilv]) (.cons (.refl _) (.cons .nlz .nil)),rfl,rfl,?_⟩
   refine⟨[i64 (tagOf tag),i64 md,i64 pd,bool back],rfl,rfl,?_⟩
   refine⟨[],_,_,_,_,RS,rfl,rfl,?_⟩
   by_cases he:e=0
   ·subst he
    obtain rfl:=E0 rfl
    refine⟨by rw[bv_len],_,rfl,?_⟩
    refine⟨by rw[bv_len],_,rfl,?_⟩
    exact⟨_,rfl,[],congrArg bool (beq_self_eq_true _),trivial⟩
   ·obtain rfl:=E1 he
    refine spl_t (by simp) ?_
    refine spl_t (by simp[he]) ?_
    exact⟨_,rfl,[],congrArg bool (by simp[he]),trivial⟩
  refine⟨Nat ⊕ Unit,fun x=>match x with
    | .inl i=>⟨[(5,.p (.k 0) 0),(6,.q [i64 (tagOf tag),i64 md,i64 pd,bool back] 0),(7,.z lkk (bv key)),(8,.z lV0 (bv V0)),(9,.z m (bv msg)),(10,.o 1 (.k 4) 0 i),(11,i64 i)],[cxO true (tagOf tag) md pd back q xs V0 .n V0,moX (cipV (tagOf tag) q xs) (cxMd md) back ⟨V0,[],[]⟩ 2,.dead,.dead,.mx ((sglL (msg.take i)).map zc)]⟩
    | .inr _=>⟨[(5,.p (.k 0) 0),(6,.q [i64 (tagOf tag),i64 md,i64 pd,bool back] 0),(7,.z lkk (bv key)),(8,.z lV0 (bv V0)),(9,.z m (bv msg)),(10,.zz 1 m ((sglL msg).map zc)),(11,i64 m)],[cxO true (tagOf tag) md pd back q xs V0 .n V0,moX (cipV (tagOf tag) q xs) (cxMd md) back ⟨V0,[],[]⟩ 2,.dead,.dead]⟩,
   fun x=>match x with| .inl i=>i<m| .inr _=>True,fun x=>match x with| .inl i=>m-i| .inr _=>0,
   ⟨[(10,1,.mx [])],.inl 0,Nat.pos_of_ne_zero hm0,[.d 28 0,.d 28 1,.d 28 2,.d 28 3,.d 900000 0],⟨rfl,rfl,rfl,rfl,rfl,rfl,rfl,trivial⟩,⟨_,rfl,rfl⟩,⟨_,rfl,rfl⟩,⟨_,rfl,rfl⟩,⟨_,rfl,rfl⟩,⟨_,rfl,rfl⟩,trivial⟩,?_⟩
  rintro (i|u) hQ
  ·have hlt':i<m:=hQ
   have li':(sglL (msg.take i)).length=i:=by rw[sglL_len,Zd];omega
   have e1:IntKind.i64.wrap ((i:Int)+1)=((i+1:Nat):Int):=by rw[Ze _ (by omega)];rfl
   refine spl_d (fun hlt=> ?_) (fun hge=>absurd hge (by omega))
   refine⟨by first|omega|(rw [e1];omega),by first|omega|(rw [e1];omega),by first|omega|(rw [e1];omega),by first|omega|(rw [e1];omega),by first|omega|(rw [e1];omega),?_⟩
   refine⟨Nat.le_refl _,by omega,by rw[Zb,li'];omega,?_⟩
   have hst:=sgl_step (b:=msg) (i:=i) (by omega)
   by_cases hn:i+1<m
   ·refine⟨.inl (i+1),hn,by show m-(i+1)<m-i;omega,[.k 0,.k 1,.k 2,.k 3,.d 53 0],⟨rfl,rfl,rfl,rfl,rfl,rfl,q7i (by simp(disch:=omega)only[Ze];omega),trivial⟩,⟨_,rfl,rfl⟩,⟨_,rfl,rfl⟩,⟨_,rfl,rfl⟩,⟨_,rfl,rfl⟩,⟨_,rfl,?_⟩,trivial⟩
    show B.mx (List.map (lend _ _ 6) (sub ((sglL (msg.take i)).map zc) 0 (i*1)++[V.z ((IntKind.i64.wrap ((i:Int)+1)).toNat-((i:Nat):Int).toNat) (sub (bv msg) ((i:Nat):Int).toNat ((IntKind.i64.wrap ((i:Int)+1)).toNat-((i:Nat):Int).toNat))]))=_
    rw[e1,Za,Za,Zc,hst]
    exact congrArg B.mx (zc_lend _ _ _)
   ·obtain rfl:m=i+1:=by omega
    refine⟨.inr (),trivial,by show 0<i+1-i;omega,[.k 0,.k 1,.k 2,.k 3],⟨rfl,rfl,rfl,rfl,rfl,?_,q7i (by simp(disch:=omega)only[Ze];omega),trivial⟩,⟨_,rfl,rfl⟩,⟨_,rfl,rfl⟩,⟨_,rfl,rfl⟩,⟨_,rfl,rfl⟩,trivial⟩
    refine(congrArg (V.zz 1 (i+1)) ((congrArg (List.map _) ?_).trans (zc_snap _ _ (sglL msg) 3)))
    show sub (sub ((sglL (msg.take i)).map zc) 0 (i*1)++sub [V.z ((IntKind.i64.wrap ((i:Int)+1)).toNat-((i:Nat):Int).toNat) (sub (bv msg) ((i:Nat):Int).toNat ((IntKind.i64.wrap ((i:Int)+1)).toNat-((i:Nat):Int).toNat))] 0 (1*1)) 0 ((i+1)*1)=_
    rw[e1,Za,Za,Zc,show sub [V.z 1 (sub (bv msg) i 1)] 0 (1*1)=[V.z 1 (sub (bv msg) i 1)] from rfl,hst,Nat.mul_one,show msg.take (i+1)=msg from List.take_of_length_le (by omega),sub_all (by rw[Zb,sglL_len,lm])]
  ·refine spl_d (fun hlt=>absurd hlt (by omega)) (fun hge=> ?_)
   refine⟨[.k 0,.k 1,.k 2,.k 3],_,_,_,_,AL,rfl,rfl,?_⟩
   refine⟨[i64 (tagOf tag),i64 md,i64 pd,bool back],rfl,rfl,?_⟩
   refine⟨[],_,_,_,_,RS,rfl,rfl,?_⟩
   by_cases he:e=0
   ·subst he
    obtain rfl:=E0 rfl
    refine⟨by rw[bv_len],_,rfl,?_⟩
    refine⟨by rw[bv_len],_,rfl,?_⟩
    exact⟨_,rfl,[],congrArg bool (beq_self_eq_true _),trivial⟩
   ·obtain rfl:=E1 he
    refine spl_t (by simp) ?_
    refine spl_t (by simp[he]) ?_
    exact⟨_,rfl,[],congrArg bool (by simp[he]),trivial⟩
 ·refine⟨[],_,_,_,_,c_few_n hf,rfl,rfl,?_⟩
  exact⟨_,rfl,[],rfl,trivial⟩
end Go.Scr
