/-
  What the functions that this law alone reaches reckon, up to the law. It is no claim by itself; each contract bears its own conditions.
-/
import Derived.Test.YtmgldmininkdfaaGreatDoorY4
set_option linter.unusedVariables false
set_option linter.unusedSimpArgs false
set_option maxRecDepth 100000
namespace Go.Scr
open Go.Proofs
open List renaming getD_eq_getElem?_getD → Za, getElem?_eq_getElem → Zd
open IntWalk renaming i64_in → Zb
open Int renaming emod_lt_of_pos → Zc, emod_nonneg → Ze, tmod_eq_emod_of_nonneg → Zf
open Nat renaming mul_one → Zg
abbrev N.law16_CtxEmpty:=8
def rt.law16_CtxEmpty:Rt:=[(5,[i1 [36,37,38,9,10] [],i1 [37,38,9,10] [0],i1 [35,36,38,9,10] [],i2 [9,10] [0,1,2],i0 [0,1,2,3],i0 [0,1,2,3,4]])]
theorem fd.law16_CtxEmpty:FnD C 8 rt.law16_CtxEmpty Tryz.f8 134:=fk Tryz.func8 (by kernel_rfl)
abbrev N.law16_within:=26
theorem fd.law16_within:FnD C 26 [] Tryz.f26 15:=fk Tryz.func26 (by kernel_rfl)
theorem kLen_mem {t n:Int} (ht:okTag t):((kLen t n:Nat):Int)∈cLens t:=by
 have hp:=cLens_pos ht
 have h1:=Ze n (b:=((cLens t).length:Int)) (by omega)
 have h2:=Zc n (b:=((cLens t).length:Int)) (by omega)
 have hi:(n%((cLens t).length:Int)).toNat<(cLens t).length:=by omega
 have hx:(cLens t).getD (n%((cLens t).length:Int)).toNat 0∈cLens t:=by
  rw[Za,Zd hi];exact List.getElem_mem hi
 have h0:0≤(cLens t).getD (n%((cLens t).length:Int)).toNat 0:=by
  have:∀x∈cLens t,0≤x:=by
   rcases ht with rfl|rfl|rfl|rfl|rfl|rfl|rfl|rfl<;>decide
  exact this _ hx
 rw[kLen,Int.toNat_of_nonneg h0];exact hx
theorem ciph_law (tag n:Int) (k:Bs):∃s q xs rs,Ciph (tagOf tag) (keyOf (tagOf tag) n k) s q xs rs:=ciph_ok (tagOf_ok _) (by rw[keyOf_len];exact kLen_mem (tagOf_ok _))
theorem akLen_le (n:Int) (s l:Nat):akLen n s l≤l:=by
 unfold akLen
 split
 ·exact Nat.div_mul_le_self _ _
 ·exact Nat.le_refl _
theorem akMsg_len (n:Int) (s:Nat) (m:Bs):(akMsg n s m).length=akLen n s m.length:=by
 rw[List.length_take];have:=akLen_le n s m.length;omega
theorem ask_ciph (tag n:Int) (k:Bs):∃s q xs rs,Ciph (tagOf tag) (keyOf (tagOf tag) n k) s q xs rs:=ciph_law tag n k
theorem c_w16 {a n:Int} (hn:0<n) (hn2:n≤4611686018427387904) (ha: -9223372036854775808≤a∧a≤9223372036854775807):Con C N.law16_within [i64 a,i64 n] [] (.ret (i64 (a%n))) []:=by
 refine fd.law16_within.c ?_
 have h1: -n<a.tmod n:=Int.lt_tmod_of_pos a hn
 have h2:a.tmod n<n:=Int.tmod_lt_of_pos a hn
 refine⟨by omega,?_⟩
 refine spl_d (fun h=> ?_) (fun h=> ?_)
 ·refine⟨_,rfl,[],q7i ?_,trivial⟩
  rw[Zb _ (by omega)]
  rw[←rest_eq a n hn,Zf (a:=a.tmod n+n) (by omega),Int.emod_eq_of_lt (by omega) (by omega)]
 ·refine⟨_,rfl,[],q7i ?_,trivial⟩
  rw[←rest_eq a n hn,Zf (a:=a.tmod n+n) (by omega),Int.add_emod_right,Int.emod_eq_of_lt (by omega) (by omega)]
def dxS (cv:V) (t mode pad md:Int) (back:Bool) (iv:Bs) (sl:List (Nat×V)) (st:MS) (la H:Bs):D:=
 ⟨sl,[cxX true true t mode pad back cv (.z iv.length (bv iv)) (.p (.k 1) 0) (.o 1 (.k 3) 0 H.length) (.z la.length (bv la)),moX cv md back st 2,gnB st.row st.gone,.sc (bv H),
  cxX true true t mode pad back cv (.z iv.length (bv iv)) (.p (.k 5) 0) (.o 1 (.k 7) 0 H.length) (.z la.length (bv la)),moX cv md back st 6,gnB st.row st.gone,.sc (bv H)]⟩
def dxD (cv:V) (t mode pad md:Int) (back:Bool) (iv:Bs) (sl:Nat→List (Nat×V)) (A:Nat→MS×Bs×Bs):Nat→D
 |0=>⟨sl 0,[cxX true true t mode pad back cv (.z iv.length (bv iv)) (.p (.k 1) 0) nilv (.z iv.length (bv iv)),moX cv md back ⟨iv,[],[]⟩ 2,.dead,.dead,
   cxX true true t mode pad back cv (.z iv.length (bv iv)) (.p (.k 5) 0) nilv (.z iv.length (bv iv)),moX cv md back ⟨iv,[],[]⟩ 6,.dead,.dead]⟩
 |i+1=>dxS cv t mode pad md back iv (sl (i+1)) (A (i+1)).1 (A (i+1)).2.1 (A (i+1)).2.2
theorem dxD_s {cv:V} {t mode pad md:Int} {back:Bool} {iv:Bs} {sl:Nat→List (Nat×V)} {A:Nat→MS×Bs×Bs} {i:Nat} {st:MS} {la H:Bs} (e:A (i+1)=(st,la,H)):
  dxD cv t mode pad md back iv sl A (i+1)=dxS cv t mode pad md back iv (sl (i+1)) st la H:=by
 show dxS cv t mode pad md back iv (sl (i+1)) (A (i+1)).1 (A (i+1)).2.1 (A (i+1)).2.2=_
 rw[e]
theorem cx_up0 {t key s k xs rs} (h:Ciph t key s k xs rs) {mode pad:Int} {back:Bool} {iv M:Bs} {x:HK} (ok:shOk s mode pad iv) (hx:x= .n∧cxH s mode pad back M=[]∨x= .o (cxH s mode pad back M)) (hL:M.length≤100000):
  Con C N.ctx_Ctx_Update [.p (.k 0) 0,nilv] [cxO true t mode pad back k xs iv x (cL t key s mode pad back iv M),moX (cipV t k xs) (cxMd mode) back (cS t key s mode pad back iv M) 2,gnB (cS t key s mode pad back iv M).row (cS t key s mode pad back iv M).gone,x.b] (.ret (.t [.z 0 (bv []),i64 0])) [cxX true true t mode pad back (cipV t k xs) (.z iv.length (bv iv)) (.p (.k 1) 0) (.o 1 (.k 5) 0 (cxH s mode pad back M).length) (.z (cL t key s mode pad back iv M).length (bv (cL t key s mode pad back iv M))),moX (cipV t k xs) (cxMd mode) back (cS t key s mode pad back iv M) 4,.dead,.dead,gnB (cS t key s mode pad back iv M).row (cS t key s mode pad back iv M).gone,.sc (bv (cxH s mode pad back M))]∨
  (cS t key s mode pad back iv M).row≠[]∧Con C N.ctx_Ctx_Update [.p (.k 0) 0,nilv] [cxO true t mode pad back k xs iv x (cL t key s mode pad back iv M),moX (cipV t k xs) (cxMd mode) back (cS t key s mode pad back iv M) 2,gnB (cS t key s mode pad back iv M).row (cS t key s mode pad back iv M).gone,x.b] (.ret (.t [.z 0 (bv []),i64 0])) [cxX true true t mode pad back (cipV t k xs) (.z iv.length (bv iv)) (.p (.k 1) 0) (.o 1 (.k 4) 0 (cxH s mode pad back M).length) (.z (cL t key s mode pad back iv M).length (bv (cL t key s mode pad back iv M))),moX (cipV t k xs) (cxMd mode) back (cS t key s mode pad back iv M) 2,gnB (cS t key s mode pad back iv M).row (cS t key s mode pad back iv M).gone,.dead,.sc (bv (cxH s mode pad back M))]:=by
 obtain⟨n,o,hn,hF,_,U⟩:=cx_up h (b:=[]) (m:=0) ok hx rfl (by omega)
 rw[List.append_nil]at hF U
 obtain rfl:n=0:=by omega
 obtain rfl:=List.eq_nil_of_length_eq_zero hn
 rcases U with U|⟨h1,U⟩
 ·exact .inl (Con.args U (.cons (.refl _) (.cons (.nl:Wk nilv (.z 0 (bv []))) .nil)))
 ·exact .inr ⟨h1,Con.args U (.cons (.refl _) (.cons (.nl:Wk nilv (.z 0 (bv []))) .nil))⟩
def eD (cv:V) (t mode pad md:Int) (back:Bool) (iv:Bs) (sl:Nat→List (Nat×V)):Nat→D
 |0=>⟨sl 0,[cxX true true t mode pad back cv (.z iv.length (bv iv)) (.p (.k 1) 0) nilv (.z iv.length (bv iv)),moX cv md back ⟨iv,[],[]⟩ 2,.dead,.dead,
   cxX true true t mode pad back cv (.z iv.length (bv iv)) (.p (.k 5) 0) nilv (.z iv.length (bv iv)),moX cv md back ⟨iv,[],[]⟩ 6,.dead,.dead]⟩
 |j+1=>⟨sl (j+1),[cxX true true t mode pad back cv (.z iv.length (bv iv)) (.p (.k 1) 0) (.o 1 (.k 3) 0 ([]:Bs).length) (.z iv.length (bv iv)),moX cv md back ⟨iv,[],[]⟩ 2,gnB [] [],.sc (bv []),
   cxX true true t mode pad back cv (.z iv.length (bv iv)) (.p (.k 5) 0) nilv (.z iv.length (bv iv)),moX cv md back ⟨iv,[],[]⟩ 6,.dead,.dead]⟩
set_option maxHeartbeats 4000000 in
theorem c_law_empty {tag n mode pad:Int} {back:Bool} {lk li lb ln lm:Nat} {k v b:Bs} {ns ms:List Int} (h0:In64 tag) (h1:In64 n) (h2:In64 mode) (h3:In64 pad) (hk:k.length=lk) (hi:v.length=li) (hb:b.length=lb) (hn:ns.length=ln) (hns:∀x∈ns, -9223372036854775808≤x∧x≤9223372036854775807) (hm:ms.length=lm) (hms:∀x∈ms, -9223372036854775808≤x∧x≤9223372036854775807):
  Con C N.law16_CtxEmpty [askV tag n mode pad back lk k li v,.z lb (bv b),.z ln (iv ns),.z lm (iv ms)] [] (.ret (bool true)) []:=by
 obtain⟨s,q,xs,rs,h⟩:=ask_ciph tag n k
 have hs:=h.s_le
 have ok:=ak_ok mode pad s v
 have OP:=c_open16 (back:=back) h0 h1 h2 h3 hk hi h
 refine fd.law16_CtxEmpty.c ?_
 refine⟨[],_,_,_,_,c_known16,rfl,rfl,?_⟩
 refine spl_d (fun hl=> ?_) (fun hl=> ?_)
 ·exact⟨_,rfl,[],rfl,trivial⟩
 have hS:=c_size15 (mode:=mode) (pad:=pad) (back:=back) (lk:=lk) (li:=li) (k:=k) (iv:=v) h0 h1 h.hs (by omega) hb (by omega)
 have hle:=akLen_le n s lb
 have lm':=akMsg_len n s b
 rw[hb]at lm'
 have CU:=c_cut (b:=akMsg n s b) (ns:=ns) rfl hn (by omega) hns
 rw[lm']at CU
 have hpl:0<(cutL ns (akMsg n s b)).length:=by rw[cutL_len];omega
 have hpn:(cutL ns (akMsg n s b)).length≤100:=by rw[cutL_len];omega
 have hpf:=cutL_flat ns (akMsg n s b)
 have hfl:(cutL ns (akMsg n s b)).flatten.length≤1000:=by rw[hpf];omega
 generalize cutL ns (akMsg n s b)=ps at*
 have mget:∀(i:Nat),i<lm→(iv ms)[((i:Nat):Int).toNat]? =some (Value.int .i64 (ms.getD i 0)):=fun i hi=>by
  rw[Int.toNat_natCast,iv_get (by omega),Za,Zd (by omega)];rfl
 have mbd:∀(i:Nat), -9223372036854775808≤ms.getD i 0∧ms.getD i 0≤9223372036854775807:=fun i=>by
  by_cases hi:i<ms.length
  ·have:=hms ms[i] (List.getElem_mem hi)
   rw[Za,Zd hi];exact this
  ·rw[Za,List.getElem?_eq_none (by omega)];exact⟨by decide,by decide⟩
 generalize akMode mode=md at*
 generalize akPad mode pad=pd at*
 generalize ivL md s v=V0 at*
 generalize keyOf (tagOf tag) n k=key at*
 have HE:=fun(st:MS) (l:Bs) (x:HK)=>c_cxheld (back:=back) (t:=tagOf tag) (mode:=md) (pad:=pd) (md:=cxMd md) (op:=true) (k:=q) (xs:=xs) (iv:=V0) (last:=l) (st:=st) (x:=x)
 have hc0:catN ps 0=[]:=by unfold catN;rw[List.take_zero];rfl
 obtain⟨A,hA⟩:∃A:Nat→MS×Bs×Bs,A=fun i=>(cS (tagOf tag) key s md pd back V0 (catN ps i),cL (tagOf tag) key s md pd back V0 (catN ps i),cxH s md pd back (catN ps i)):=⟨_,rfl⟩
 have hU:∀i (hi:i<ps.length) {x:HK},(x= .n∧cxH s md pd back (catN ps i)=[]∨x= .o (cxH s md pd back (catN ps i)))→_:=fun i hi x hx=>cx_up h (b:=ps[i]) ok hx rfl (by
  have h1:=catN_le ps (i+1)
  rw[catN_succ hi,List.length_append]at h1
  omega)
 have hF:=fun{r':Bs×Int} hr'=>(cx_fi h (x:= .o (cxH s md pd back ps.flatten)) (r:=r') ok (.inr rfl) (by omega) hr').2
 have hZ:=fun i=>cx_up0 h (x:= .o (cxH s md pd back (catN ps i))) (M:=catN ps i) ok (.inr rfl) (by have:=catN_le ps i;omega)
 have U00:=(cx_up0 h (x:= .n) (back:=back) (M:=[]) ok (.inl ⟨rfl,cxH_0⟩) (by simp)).resolve_right (fun hh=>hh.1 (by rw[cS_0' (by omega) ok]))
 have U01:=(cx_up0 h (x:= .o (cxH s md pd back [])) (M:=[]) ok (.inr rfl) (by simp)).resolve_right (fun hh=>hh.1 (by rw[cS_0' (by omega) ok]))
 rw[cL_0 (by omega) ok,cS_0' (by omega) ok,cxH_0]at U00 U01
 have U0:=hU 0 hpl (x:= .n) (.inl ⟨rfl,by rw[hc0];exact cxH_0⟩)
 have U0b:=hU 0 hpl (x:= .o (cxH s md pd back (catN ps 0))) (.inr rfl)
 rw[←catN_succ hpl,hc0]at U0 U0b
 obtain⟨n0,o0,hn0,hF0,hT0,U0⟩:=U0
 obtain⟨n9,o9,hn9,hF9,hT9,U0b⟩:=U0b
 obtain rfl:n9=n0:=by omega
 have hoo:o9=o0:=List.append_cancel_left (hT9.symm.trans hT0)
 subst hoo
 have U0:=U0.resolve_right (fun hh=>hh.1 (by rw[cS_0' (by omega) ok]))
 have U0b:=U0b.resolve_right (fun hh=>hh.1 (by rw[cS_0' (by omega) ok]))
 rw[cL_0 (by omega) ok,cS_0' (by omega) ok]at U0 U0b
 rw[cxH_0]at U0b
 refine⟨[i64 tag,i64 n,i64 mode,i64 pad,bool back,.z lk (bv k),.z li (bv v)],rfl,rfl,?_⟩
 by_cases hf:lk≤100∧li≤100
 ·refine⟨[],_,_,_,_,c_few_y hf,rfl,rfl,?_⟩
  refine⟨[i64 tag,i64 n,i64 mode,i64 pad,bool back,.z lk (bv k),.z li (bv v)],rfl,rfl,?_⟩
  refine⟨[],_,_,_,_,OP,rfl,rfl,?_⟩
  refine⟨[i64 tag,i64 n,i64 mode,i64 pad,bool back,.z lk (bv k),.z li (bv v)],rfl,rfl,?_⟩
  refine⟨[],_,_,_,_,OP,rfl,rfl,?_⟩
  refine⟨[i64 tag,i64 n,i64 mode,i64 pad,bool back,.z lk (bv k),.z li (bv v)],rfl,rfl,?_⟩
  refine⟨[],_,_,_,_,hS,rfl,rfl,?_⟩
  refine⟨[],_,_,_,_,CU,rfl,rfl,?_⟩
  refine loopN (dxD (cipV (tagOf tag) q xs) (tagOf tag) md pd (cxMd md) back V0 (fun i=>[(3,.z lm (iv ms)),(9,.p (.k 0) 0),(10,.p (.k 4) 0),(11,.zz 1 ps.length (ps.map zc)),(12,i64 (i:Nat))]) A) ps.length ⟨[.d 36 0,.d 36 1,.d 36 2,.d 36 3,.d 38 0,.d 38 1,.d 38 2,.d 38 3],⟨rfl,rfl,rfl,rfl,rfl,trivial⟩,⟨_,rfl,rfl⟩,⟨_,rfl,rfl⟩,⟨_,rfl,rfl⟩,⟨_,rfl,rfl⟩,⟨_,rfl,rfl⟩,⟨_,rfl,rfl⟩,⟨_,rfl,rfl⟩,⟨_,rfl,rfl⟩,trivial⟩ fun i hi=> ?_
  rcases i with _|i
  ·refine spl_d (fun hlt=> ?_) (fun hge=>absurd hge (by omega))
   have hA1:A (0+1)=(cS (tagOf tag) key s md pd back V0 (catN ps (0+1)),cL (tagOf tag) key s md pd back V0 (catN ps (0+1)),cxH s md pd back (catN ps (0+1))):=by rw[hA]
   generalize cS (tagOf tag) key s md pd back V0 (catN ps (0+1))=st2 at*
   generalize cL (tagOf tag) key s md pd back V0 (catN ps (0+1))=la2 at*
   generalize cxH s md pd back (catN ps (0+1))=H2 at*
   obtain⟨ch2,row2,g2⟩:=st2
   refine loopN (eD (cipV (tagOf tag) q xs) (tagOf tag) md pd (cxMd md) back V0 (fun j=>[(3,.z lm (iv ms)),(9,.p (.k 0) 0),(10,.p (.k 4) 0),(11,.zz 1 ps.length (ps.map zc)),(12,i64 (0:Nat)),(13,i64 (j:Nat))])) 3 ⟨[.k 0,.k 1,.k 2,.k 3,.k 4,.k 5,.k 6,.k 7],⟨rfl,rfl,rfl,rfl,rfl,rfl,trivial⟩,⟨_,rfl,rfl⟩,⟨_,rfl,rfl⟩,⟨_,rfl,rfl⟩,⟨_,rfl,rfl⟩,⟨_,rfl,rfl⟩,⟨_,rfl,rfl⟩,⟨_,rfl,rfl⟩,⟨_,rfl,rfl⟩,trivial⟩ fun j hj=> ?_
   rcases j with _|j
   ·rcases row2 with _|⟨a2,r2⟩
    all_goals
     refine spl_d (fun him=> ?_) (fun him=> ?_)
     all_goals
      first
       |refine⟨by omega,by omega,?_⟩
        refine⟨.int .i64 (ms.getD (0) 0),mget (0) (by omega),?_⟩
        refine⟨[],_,_,_,_,c_w16 (n:=3) (by omega) (by omega) (mbd (0)),rfl,rfl,?_⟩
        have m0:=Ze (ms.getD (0) 0) (show (3:Int)≠0 by decide)
        have m3:=Zc (ms.getD (0) 0) (show (0:Int)<3 by decide)
        refine spl_d (fun hj3=> ?_) (fun hj3=> ?_)
       |skip
     ·refine⟨[.k 0,.k 1,.k 2,.k 3],_,_,_,_,HE ⟨V0,[],[]⟩ V0 .n,rfl,rfl,?_⟩
      refine⟨[.k 0,.k 1,.k 2,.k 3],_,_,_,_,U00,rfl,rfl,?_⟩
      refine⟨[.k 0,.k 1,.d 75 4,.d 75 5],_,_,_,_,HE ⟨V0,[],[]⟩ V0 (.o []),rfl,rfl,?_⟩
      refine⟨1,by omega,by omega,?_⟩
      exact⟨[.k 0,.k 1,.d 75 4,.d 75 5,.k 4,.k 5,.k 6,.k 7],⟨rfl,rfl,rfl,rfl,rfl,rfl,trivial⟩,⟨_,rfl,rfl⟩,⟨_,rfl,rfl⟩,⟨_,rfl,rfl⟩,⟨_,rfl,rfl⟩,⟨_,rfl,rfl⟩,⟨_,rfl,rfl⟩,⟨_,rfl,rfl⟩,⟨_,rfl,rfl⟩,trivial⟩
     all_goals
      refine⟨by omega,by omega,?_⟩
      refine⟨_,zc_get (i:=0) hpl,?_⟩
      refine⟨[.k 0,.k 1,.k 2,.k 3],_,_,_,_,U0,rfl,rfl,?_⟩
      refine⟨by omega,by omega,?_⟩
      refine⟨_,zc_get (i:=0) hpl,?_⟩
      refine⟨[.k 4,.k 5,.k 6,.k 7],_,_,_,_,U0,rfl,rfl,?_⟩
      refine⟨by rw[bv_len,hn0],_,rfl,?_⟩
      refine⟨by rw[bv_len,hn0],_,rfl,?_⟩
      refine spl_f (by simp) ?_
      refine⟨1,by omega,by omega,Mt_eq (dxD_s hA1) ?_⟩
      exact⟨[.k 0,.k 1,.d 97 4,.d 97 5,.k 4,.k 5,.d 106 4,.d 106 5],⟨rfl,rfl,rfl,rfl,rfl,trivial⟩,⟨_,rfl,rfl⟩,⟨_,rfl,rfl⟩,⟨_,rfl,rfl⟩,⟨_,rfl,rfl⟩,⟨_,rfl,rfl⟩,⟨_,rfl,rfl⟩,⟨_,rfl,rfl⟩,⟨_,rfl,rfl⟩,trivial⟩
   ·rcases row2 with _|⟨a2,r2⟩
    all_goals
     refine spl_d (fun him=> ?_) (fun him=> ?_)
     all_goals
      first
       |refine⟨by omega,by omega,?_⟩
        refine⟨.int .i64 (ms.getD (0) 0),mget (0) (by omega),?_⟩
        refine⟨[],_,_,_,_,c_w16 (n:=3) (by omega) (by omega) (mbd (0)),rfl,rfl,?_⟩
        have m0:=Ze (ms.getD (0) 0) (show (3:Int)≠0 by decide)
        have m3:=Zc (ms.getD (0) 0) (show (0:Int)<3 by decide)
        refine spl_d (fun hj3=> ?_) (fun hj3=> ?_)
       |skip
     ·refine⟨[.k 0,.k 1,.k 2,.k 3],_,_,_,_,HE ⟨V0,[],[]⟩ V0 (.o []),rfl,rfl,?_⟩
      refine⟨[.k 0,.k 1,.k 2,.k 3],_,_,_,_,U01,rfl,rfl,?_⟩
      refine⟨[.k 0,.k 1,.d 75 4,.d 75 5],_,_,_,_,HE ⟨V0,[],[]⟩ V0 (.o []),rfl,rfl,?_⟩
      refine⟨j+1+1,by omega,by omega,?_⟩
      exact⟨[.k 0,.k 1,.d 75 4,.d 75 5,.k 4,.k 5,.k 6,.k 7],⟨rfl,rfl,rfl,rfl,rfl,q7i (by simp(disch:=omega)only[Zb];omega),trivial⟩,⟨_,rfl,rfl⟩,⟨_,rfl,rfl⟩,⟨_,rfl,rfl⟩,⟨_,rfl,rfl⟩,⟨_,rfl,rfl⟩,⟨_,rfl,rfl⟩,⟨_,rfl,rfl⟩,⟨_,rfl,rfl⟩,trivial⟩
     all_goals
      refine⟨by omega,by omega,?_⟩
      refine⟨_,zc_get (i:=0) hpl,?_⟩
      refine⟨[.k 0,.k 1,.k 2,.k 3],_,_,_,_,U0b,rfl,rfl,?_⟩
      refine⟨by omega,by omega,?_⟩
      refine⟨_,zc_get (i:=0) hpl,?_⟩
      refine⟨[.k 4,.k 5,.k 6,.k 7],_,_,_,_,U0,rfl,rfl,?_⟩
      refine⟨by rw[bv_len,hn0],_,rfl,?_⟩
      refine⟨by rw[bv_len,hn0],_,rfl,?_⟩
      refine spl_f (by simp) ?_
      refine⟨1,by omega,by omega,Mt_eq (dxD_s hA1) ?_⟩
      exact⟨[.k 0,.k 1,.d 97 4,.d 97 5,.k 4,.k 5,.d 106 4,.d 106 5],⟨rfl,rfl,rfl,rfl,rfl,trivial⟩,⟨_,rfl,rfl⟩,⟨_,rfl,rfl⟩,⟨_,rfl,rfl⟩,⟨_,rfl,rfl⟩,⟨_,rfl,rfl⟩,⟨_,rfl,rfl⟩,⟨_,rfl,rfl⟩,⟨_,rfl,rfl⟩,trivial⟩
  ·have hA1:A (i+1)=(cS (tagOf tag) key s md pd back V0 (catN ps (i+1)),cL (tagOf tag) key s md pd back V0 (catN ps (i+1)),cxH s md pd back (catN ps (i+1))):=by rw[hA]
   rw[dxD_s hA1]
   refine spl_d (fun hlt=> ?_) (fun hge=> ?_)
   ·have hl:i+1<ps.length:=by omega
    obtain⟨n1,o1,hn1,_,_,V⟩:=hU (i+1) hl (x:= .o (cxH s md pd back (catN ps (i+1)))) (.inr rfl)
    rw[←catN_succ hl]at V
    have Z:=hZ (i+1)
    have hA2:A (i+1+1)=(cS (tagOf tag) key s md pd back V0 (catN ps (i+1+1)),cL (tagOf tag) key s md pd back V0 (catN ps (i+1+1)),cxH s md pd back (catN ps (i+1+1))):=by rw[hA]
    generalize cS (tagOf tag) key s md pd back V0 (catN ps (i+1+1))=st2 at*
    generalize cL (tagOf tag) key s md pd back V0 (catN ps (i+1+1))=la2 at*
    generalize cxH s md pd back (catN ps (i+1+1))=H2 at*
    generalize cS (tagOf tag) key s md pd back V0 (catN ps (i+1))=st3 at*
    generalize cL (tagOf tag) key s md pd back V0 (catN ps (i+1))=la3 at*
    generalize cxH s md pd back (catN ps (i+1))=H3 at*
    obtain⟨ch2,row2,g2⟩:=st2
    obtain⟨ch3,row3,g3⟩:=st3
    rcases row3 with _|⟨a3,r3⟩
    ·have Z:=Z.resolve_right (fun hh=>hh.1 rfl)
     have V:=V.resolve_right (fun hh=>hh.1 rfl)
     refine loopN (fun j=>dxS (cipV (tagOf tag) q xs) (tagOf tag) md pd (cxMd md) back V0 ((fun j=>[(3,.z lm (iv ms)),(9,.p (.k 0) 0),(10,.p (.k 4) 0),(11,.zz 1 ps.length (ps.map zc)),(12,i64 (i+1:Nat)),(13,i64 (j:Nat))]) j) ⟨ch3,[],g3⟩ la3 H3) 3 ⟨[.k 0,.k 1,.k 2,.k 3,.k 4,.k 5,.k 6,.k 7],⟨rfl,rfl,rfl,rfl,rfl,rfl,trivial⟩,⟨_,rfl,rfl⟩,⟨_,rfl,rfl⟩,⟨_,rfl,rfl⟩,⟨_,rfl,rfl⟩,⟨_,rfl,rfl⟩,⟨_,rfl,rfl⟩,⟨_,rfl,rfl⟩,⟨_,rfl,rfl⟩,trivial⟩ fun j hj=> ?_
     refine spl_d (fun him=> ?_) (fun him=> ?_)
     all_goals
      first
       |refine⟨by omega,by omega,?_⟩
        refine⟨.int .i64 (ms.getD (i+1) 0),mget (i+1) (by omega),?_⟩
        refine⟨[],_,_,_,_,c_w16 (n:=3) (by omega) (by omega) (mbd (i+1)),rfl,rfl,?_⟩
        have m0:=Ze (ms.getD (i+1) 0) (show (3:Int)≠0 by decide)
        have m3:=Zc (ms.getD (i+1) 0) (show (0:Int)<3 by decide)
        refine spl_d (fun hj3=> ?_) (fun hj3=> ?_)
       |skip
     ·refine⟨[.k 0,.k 1,.k 2,.k 3],_,_,_,_,HE _ la3 (.o H3),rfl,rfl,?_⟩
      refine⟨[.k 0,.k 1,.k 2,.k 3],_,_,_,_,Z,rfl,rfl,?_⟩
      refine⟨[.k 0,.k 1,.d 75 4,.d 75 5],_,_,_,_,HE _ la3 (.o H3),rfl,rfl,?_⟩
      refine spl_ne (fun hh=>absurd rfl hh) (fun _=> ?_)
      refine⟨j+1,by omega,by omega,?_⟩
      exact⟨[.k 0,.k 1,.d 75 4,.d 75 5,.k 4,.k 5,.k 6,.k 7],⟨rfl,rfl,rfl,rfl,rfl,q7i (by simp(disch:=omega)only[Zb];omega),trivial⟩,⟨_,rfl,rfl⟩,⟨_,rfl,rfl⟩,⟨_,rfl,rfl⟩,⟨_,rfl,rfl⟩,⟨_,rfl,rfl⟩,⟨_,rfl,rfl⟩,⟨_,rfl,rfl⟩,⟨_,rfl,rfl⟩,trivial⟩
     all_goals
      rcases row2 with _|⟨a2,r2⟩
      all_goals
       refine⟨by omega,by omega,?_⟩
       refine⟨.z ps[i+1].length (bv ps[i+1]),by rw[Zg];exact zc_get hl,?_⟩
       refine⟨[.k 0,.k 1,.k 2,.k 3],_,_,_,_,V,rfl,rfl,?_⟩
       refine⟨by omega,by omega,?_⟩
       refine⟨.z ps[i+1].length (bv ps[i+1]),by rw[Zg];exact zc_get hl,?_⟩
       refine⟨[.k 4,.k 5,.k 6,.k 7],_,_,_,_,V,rfl,rfl,?_⟩
       refine⟨by rw[bv_len,hn1],_,rfl,?_⟩
       refine⟨by rw[bv_len,hn1],_,rfl,?_⟩
       refine spl_f (by simp) ?_
       refine⟨i+1+1,by omega,by omega,Mt_eq (dxD_s hA2) ?_⟩
       exact⟨[.k 0,.k 1,.d 97 4,.d 97 5,.k 4,.k 5,.d 106 4,.d 106 5],⟨rfl,rfl,rfl,rfl,q7i (by simp(disch:=omega)only[Zb];omega),trivial⟩,⟨_,rfl,rfl⟩,⟨_,rfl,rfl⟩,⟨_,rfl,rfl⟩,⟨_,rfl,rfl⟩,⟨_,rfl,rfl⟩,⟨_,rfl,rfl⟩,⟨_,rfl,rfl⟩,⟨_,rfl,rfl⟩,trivial⟩
    ·refine loopN (fun j=>dxS (cipV (tagOf tag) q xs) (tagOf tag) md pd (cxMd md) back V0 ((fun j=>[(3,.z lm (iv ms)),(9,.p (.k 0) 0),(10,.p (.k 4) 0),(11,.zz 1 ps.length (ps.map zc)),(12,i64 (i+1:Nat)),(13,i64 (j:Nat))]) j) ⟨ch3,a3::r3,g3⟩ la3 H3) 3 ⟨[.k 0,.k 1,.k 2,.k 3,.k 4,.k 5,.k 6,.k 7],⟨rfl,rfl,rfl,rfl,rfl,rfl,trivial⟩,⟨_,rfl,rfl⟩,⟨_,rfl,rfl⟩,⟨_,rfl,rfl⟩,⟨_,rfl,rfl⟩,⟨_,rfl,rfl⟩,⟨_,rfl,rfl⟩,⟨_,rfl,rfl⟩,⟨_,rfl,rfl⟩,trivial⟩ fun j hj=> ?_
     refine spl_d (fun him=> ?_) (fun him=> ?_)
     all_goals
      first
       |refine⟨by omega,by omega,?_⟩
        refine⟨.int .i64 (ms.getD (i+1) 0),mget (i+1) (by omega),?_⟩
        refine⟨[],_,_,_,_,c_w16 (n:=3) (by omega) (by omega) (mbd (i+1)),rfl,rfl,?_⟩
        have m0:=Ze (ms.getD (i+1) 0) (show (3:Int)≠0 by decide)
        have m3:=Zc (ms.getD (i+1) 0) (show (0:Int)<3 by decide)
        refine spl_d (fun hj3=> ?_) (fun hj3=> ?_)
       |skip
     ·rcases Z with Z|⟨_,Z⟩
      ·refine⟨[.k 0,.k 1,.k 2,.k 3],_,_,_,_,HE _ la3 (.o H3),rfl,rfl,?_⟩
       refine⟨[.k 0,.k 1,.k 2,.k 3],_,_,_,_,Z,rfl,rfl,?_⟩
       refine⟨[.k 0,.k 1,.d 75 4,.d 75 5],_,_,_,_,HE _ la3 (.o H3),rfl,rfl,?_⟩
       refine spl_ne (fun hh=>absurd rfl hh) (fun _=> ?_)
       refine⟨j+1,by omega,by omega,?_⟩
       exact⟨[.k 0,.k 1,.d 75 4,.d 75 5,.k 4,.k 5,.k 6,.k 7],⟨rfl,rfl,rfl,rfl,rfl,q7i (by simp(disch:=omega)only[Zb];omega),trivial⟩,⟨_,rfl,rfl⟩,⟨_,rfl,rfl⟩,⟨_,rfl,rfl⟩,⟨_,rfl,rfl⟩,⟨_,rfl,rfl⟩,⟨_,rfl,rfl⟩,⟨_,rfl,rfl⟩,⟨_,rfl,rfl⟩,trivial⟩
      ·refine⟨[.k 0,.k 1,.k 2,.k 3],_,_,_,_,HE _ la3 (.o H3),rfl,rfl,?_⟩
       refine⟨[.k 0,.k 1,.k 2,.k 3],_,_,_,_,Z,rfl,rfl,?_⟩
       refine⟨[.k 0,.k 1,.k 2,.d 75 4],_,_,_,_,HE _ la3 (.o H3),rfl,rfl,?_⟩
       refine spl_ne (fun hh=>absurd rfl hh) (fun _=> ?_)
       refine⟨j+1,by omega,by omega,?_⟩
       exact⟨[.k 0,.k 1,.k 2,.d 75 4,.k 4,.k 5,.k 6,.k 7],⟨rfl,rfl,rfl,rfl,rfl,q7i (by simp(disch:=omega)only[Zb];omega),trivial⟩,⟨_,rfl,rfl⟩,⟨_,rfl,rfl⟩,⟨_,rfl,rfl⟩,⟨_,rfl,rfl⟩,⟨_,rfl,rfl⟩,⟨_,rfl,rfl⟩,⟨_,rfl,rfl⟩,⟨_,rfl,rfl⟩,trivial⟩
     all_goals
      rcases V with V|⟨_,V⟩<;>rcases row2 with _|⟨a2,r2⟩
      all_goals
       refine⟨by omega,by omega,?_⟩
       refine⟨.z ps[i+1].length (bv ps[i+1]),by rw[Zg];exact zc_get hl,?_⟩
       refine⟨[.k 0,.k 1,.k 2,.k 3],_,_,_,_,V,rfl,rfl,?_⟩
       refine⟨by omega,by omega,?_⟩
       refine⟨.z ps[i+1].length (bv ps[i+1]),by rw[Zg];exact zc_get hl,?_⟩
       refine⟨[.k 4,.k 5,.k 6,.k 7],_,_,_,_,V,rfl,rfl,?_⟩
       refine⟨by rw[bv_len,hn1],_,rfl,?_⟩
       refine⟨by rw[bv_len,hn1],_,rfl,?_⟩
       refine spl_f (by simp) ?_
       first
        |refine⟨i+1+1,by omega,by omega,Mt_eq (dxD_s hA2) ?_⟩
         exact⟨[.k 0,.k 1,.d 97 4,.d 97 5,.k 4,.k 5,.d 106 4,.d 106 5],⟨rfl,rfl,rfl,rfl,q7i (by simp(disch:=omega)only[Zb];omega),trivial⟩,⟨_,rfl,rfl⟩,⟨_,rfl,rfl⟩,⟨_,rfl,rfl⟩,⟨_,rfl,rfl⟩,⟨_,rfl,rfl⟩,⟨_,rfl,rfl⟩,⟨_,rfl,rfl⟩,⟨_,rfl,rfl⟩,trivial⟩
        |refine⟨i+1+1,by omega,by omega,Mt_eq (dxD_s hA2) ?_⟩
         exact⟨[.k 0,.k 1,.k 2,.d 97 4,.k 4,.k 5,.k 6,.d 106 4],⟨rfl,rfl,rfl,rfl,q7i (by simp(disch:=omega)only[Zb];omega),trivial⟩,⟨_,rfl,rfl⟩,⟨_,rfl,rfl⟩,⟨_,rfl,rfl⟩,⟨_,rfl,rfl⟩,⟨_,rfl,rfl⟩,⟨_,rfl,rfl⟩,⟨_,rfl,rfl⟩,⟨_,rfl,rfl⟩,trivial⟩
   ·have hn2:i+1=ps.length:=by omega
    rw[show catN ps (i+1)=ps.flatten by rw[hn2];exact catN_all ps]at*
    obtain⟨la4,F4⟩:=hF rfl
    generalize cS (tagOf tag) key s md pd back V0 ps.flatten=st2 at*
    generalize cL (tagOf tag) key s md pd back V0 ps.flatten=la2 at*
    generalize cxH s md pd back ps.flatten=H2 at*
    obtain⟨ch2,row2,g2⟩:=st2
    rcases row2 with _|⟨a2,r2⟩
    all_goals
     refine⟨[.k 0,.k 1,.k 2,.k 3],_,_,_,_,F4,rfl,rfl,?_⟩
     refine⟨[.k 4,.k 5,.k 6,.k 7],_,_,_,_,F4,rfl,rfl,?_⟩
     refine spl_eq (fun _=> ?_) (fun hh=>absurd rfl hh)
     refine⟨by rw[bv_len],_,rfl,?_⟩
     refine⟨by rw[bv_len],_,rfl,?_⟩
     exact⟨_,rfl,[],congrArg bool (beq_self_eq_true _),trivial⟩
 ·refine⟨[],_,_,_,_,c_few_n hf,rfl,rfl,?_⟩
  exact⟨_,rfl,[],rfl,trivial⟩
end Go.Scr
