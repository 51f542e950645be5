/-
  What the functions that this law alone reaches reckon, up to the law. It is no claim by itself; each contract bears its own conditions.
-/
import Derived.Test.YtggojcedobgnaaaGreatDoorY3
set_option linter.unusedVariables false
set_option linter.unusedSimpArgs false
set_option maxRecDepth 100000
namespace Go.Scr
open Go.Proofs
open Nat renaming le_of_ble_eq_true → Za
abbrev N.law16_CtxReset:=15
def rt.law16_CtxReset:Rt:=[(5,[i1 [39,40,41,11,12] [],i1 [40,41,11,12] [0],i1 [38,39,41,11,12] [],i2 [11,12] [0,1,2],i0 [0,1,2,3],i0 [0,1,2,3,4]])]
theorem fd.law16_CtxReset:FnD C 15 rt.law16_CtxReset Tryz.f15 123:=fk Tryz.func15 (by kernel_rfl)
abbrev con.law16_CtxReset:=@FnD.c _ _ _ _ _ fd.law16_CtxReset
theorem kLen_mem {t n:Int} (ht:okTag t):((kLen t n:Nat):Int)∈cLens t:=by
 have hp:=cLens_pos ht
 have h1:=Int.emod_nonneg n (b:=((cLens t).length:Int)) (by omega)
 have h2:=Int.emod_lt_of_pos n (b:=((cLens t).length:Int)) (by omega)
 have hi:(n%((cLens t).length:Int)).toNat<(cLens t).length:=by omega
 have hx:(cLens t).getD (n%((cLens t).length:Int)).toNat 0∈cLens t:=by
  rw[List.getD_eq_getElem?_getD,List.getElem?_eq_getElem hi];exact List.getElem_mem hi
 have h0:0≤(cLens t).getD (n%((cLens t).length:Int)).toNat 0:=by
  have:∀x∈cLens t,0≤x:=by
   rcases ht with rfl|rfl|rfl|rfl|rfl|rfl|rfl|rfl<;>decide
  exact this _ hx
 rw[kLen,Int.toNat_of_nonneg h0];exact hx
theorem ciph_law (tag n:Int) (k:List UInt8):∃s q xs rs,Ciph (tagOf tag) (keyOf (tagOf tag) n k) s q xs rs:=ciph_ok (tagOf_ok _) (by rw[keyOf_len];exact kLen_mem (tagOf_ok _))
theorem akLen_le (n:Int) (s l:Nat):akLen n s l≤l:=by
 unfold akLen
 split
 ·exact Nat.div_mul_le_self _ _
 ·exact Nat.le_refl _
theorem akMsg_len (n:Int) (s:Nat) (m:List UInt8):(akMsg n s m).length=akLen n s m.length:=by
 rw[List.length_take];have:=akLen_le n s m.length;omega
theorem ask_ciph (tag n:Int) (k:List UInt8):∃s q xs rs,Ciph (tagOf tag) (keyOf (tagOf tag) n k) s q xs rs:=ciph_law tag n k
theorem c_cxstolenC {t mode pad:Int} {back:Bool} {k:Nat} {xs:List V} {iv last:List UInt8} (hm:mode≤9):Con C N.ctx_Ctx_stolen [.p (.k 0) 0] [cxC t mode pad back k xs iv last,.dead] (.ret (bool (decide (7≤mode)))) [cxC t mode pad back k xs iv last,.dead]:=by
 refine con.ctx_Ctx_stolen ?_
 refine⟨_,rfl,?_⟩
 refine spl_d (fun h7=> ?_) (fun h7=> ?_)
 ·refine⟨_,rfl,?_⟩
  refine⟨_,rfl,[.k 0,.k 1],?_,⟨_,rfl,rfl⟩,⟨_,rfl,rfl⟩,trivial⟩
  exact congrArg bool (by rw[decide_eq_true hm,decide_eq_true h7])
 ·refine⟨_,rfl,[.k 0,.k 1],?_,⟨_,rfl,rfl⟩,⟨_,rfl,rfl⟩,trivial⟩
  exact congrArg bool (by rw[decide_eq_false h7])
theorem c_cxbeginC {t key s k xs rs} (h:Ciph t key s k xs rs) {mode pad:Int} {back:Bool} {iv last0:List UInt8} (ok:shOk s mode pad iv):
  Con C N.ctx_Ctx_begin [.p (.k 0) 0] [cxC t mode pad back k xs iv last0,.dead] (.ret (.t []))
   [cxX true true t mode pad back (cipV t k xs) (.z iv.length (bv iv)) (.p (.k 2) 0) nilv (.z iv.length (bv iv)),.dead,moX (cipV t k xs) (cxMd mode) back ⟨iv,[],[]⟩ 3,.dead,.dead]:=by
 have hs:=h.s_le
 obtain⟨m1,hiv⟩:=cxMd_ok ok
 have T0:=c_new_m h (mode:=cxMd mode) (back:=back) (i:=1) (vi:=bv iv) (iv:=iv) rfl rfl m1 hiv
 have hl16:iv.length≤16:=by rw[hiv];split<;>omega
 have S:=c_cxstolenC (t:=t) (mode:=mode) (pad:=pad) (back:=back) (k:=k) (xs:=xs) (iv:=iv) (last:=last0) ok.1.2
 refine con.ctx_Ctx_begin ?_
 refine⟨_,rfl,?_⟩
 refine⟨[.k 0,.k 1],_,_,_,_,S,rfl,rfl,?_⟩
 refine spl_d (fun h7=> ?_) (fun h7=> ?_)
 all_goals
  first
   |rw[show cxMd mode=2 from if_pos h7]at T0 ⊢
   |rw[show cxMd mode=mode from if_neg h7]at T0 ⊢
  refine⟨_,rfl,?_⟩
  refine⟨_,rfl,?_⟩
  refine⟨_,rfl,?_⟩
  refine⟨[],_,_,_,_,T0,rfl,rfl,?_⟩
  refine⟨Za rfl,?_⟩
  refine⟨_,rfl,?_⟩
  refine⟨[],_,_,_,_,c_cloneZ (l:=iv) rfl rfl (by omega),rfl,rfl,?_⟩
  refine⟨Za rfl,?_⟩
  refine⟨Za rfl,?_⟩
  refine⟨Za rfl,?_⟩
  exact⟨_,rfl,[.k 0,.k 1,.d 26 0,.d 26 1,.d 26 2],rfl,⟨_,rfl,rfl⟩,⟨_,rfl,rfl⟩,⟨_,rfl,rfl⟩,⟨_,rfl,rfl⟩,⟨_,rfl,rfl⟩,trivial⟩
theorem c_cxresetC {t key s k xs rs} (h:Ciph t key s k xs rs) {mode pad:Int} {back:Bool} {iv last0:List UInt8} (ok:shOk s mode pad iv):
  Con C N.ctx_Ctx_Reset [.p (.k 0) 0] [cxC t mode pad back k xs iv last0,.dead] (.ret (i64 0))
   [cxX true true t mode pad back (cipV t k xs) (.z iv.length (bv iv)) (.p (.k 2) 0) nilv (.z iv.length (bv iv)),.dead,moX (cipV t k xs) (cxMd mode) back ⟨iv,[],[]⟩ 3,.dead,.dead]:=by
 refine con.ctx_Ctx_Reset ?_
 refine⟨_,rfl,?_⟩
 refine⟨[.k 0,.k 1],_,_,_,_,c_cxbeginC h ok,rfl,rfl,?_⟩
 exact⟨_,rfl,[.k 0,.k 1,.d 9 2,.d 9 3,.d 9 4],rfl,⟨_,rfl,rfl⟩,⟨_,rfl,rfl⟩,⟨_,rfl,rfl⟩,⟨_,rfl,rfl⟩,⟨_,rfl,rfl⟩,trivial⟩
def dxS (cv:V) (t mode pad md:Int) (back:Bool) (iv:List UInt8) (sl:List (Nat×V)) (st:MS) (la H:List UInt8):D:=
 ⟨sl,[cxX true true t mode pad back cv (.z iv.length (bv iv)) (.p (.k 1) 0) (.o 1 (.k 3) 0 H.length) (.z la.length (bv la)),moX cv md back st 2,gnB st.row st.gone,.sc (bv H),
  cxX true true t mode pad back cv (.z iv.length (bv iv)) (.p (.k 5) 0) (.o 1 (.k 7) 0 H.length) (.z la.length (bv la)),moX cv md back st 6,gnB st.row st.gone,.sc (bv H)]⟩
def dxD (cv:V) (t mode pad md:Int) (back:Bool) (iv:List UInt8) (sl:Nat→List (Nat×V)) (A:Nat→MS×List UInt8×List UInt8):Nat→D
 |0=>⟨sl 0,[cxX true true t mode pad back cv (.z iv.length (bv iv)) (.p (.k 1) 0) nilv (.z iv.length (bv iv)),moX cv md back ⟨iv,[],[]⟩ 2,.dead,.dead,
   cxX true true t mode pad back cv (.z iv.length (bv iv)) (.p (.k 5) 0) nilv (.z iv.length (bv iv)),moX cv md back ⟨iv,[],[]⟩ 6,.dead,.dead]⟩
 |i+1=>dxS cv t mode pad md back iv (sl (i+1)) (A (i+1)).1 (A (i+1)).2.1 (A (i+1)).2.2
theorem dxD_s {cv:V} {t mode pad md:Int} {back:Bool} {iv:List UInt8} {sl:Nat→List (Nat×V)} {A:Nat→MS×List UInt8×List UInt8} {i:Nat} {st:MS} {la H:List UInt8} (e:A (i+1)=(st,la,H)):
  dxD cv t mode pad md back iv sl A (i+1)=dxS cv t mode pad md back iv (sl (i+1)) st la H:=by
 show dxS cv t mode pad md back iv (sl (i+1)) (A (i+1)).1 (A (i+1)).2.1 (A (i+1)).2.2=_
 rw[e]
set_option maxHeartbeats 4000000 in
theorem c_cxreset {tag n mode pad:Int} {back done:Bool} {lk li lb ln lf:Nat} {k v b fi:List UInt8} {ns:List Int} (h0:In64 tag) (h1:In64 n) (h2:In64 mode) (h3:In64 pad) (hk:k.length=lk) (hi:v.length=li) (hb:b.length=lb) (hn:ns.length=ln) (hns:∀x∈ns, -9223372036854775808≤x∧x≤9223372036854775807) (hfi:fi.length=lf):
  Con C N.law16_CtxReset [askV tag n mode pad back lk k li v,.z lb (bv b),.z ln (iv ns),.z lf (bv fi),bool done] [] (.ret (bool true)) []:=by
 obtain⟨s,q,xs,rs,h⟩:=ask_ciph tag n k
 have hs:=h.s_le
 have ok:=ak_ok mode pad s v
 have OP:=c_open16 (back:=back) h0 h1 h2 h3 hk hi h
 refine con.law16_CtxReset ?_
 refine⟨[],_,_,_,_,c_known16,rfl,rfl,?_⟩
 refine spl_d (fun hl=> ?_) (fun hl=> ?_)
 ·exact⟨_,rfl,[],rfl,trivial⟩
 refine spl_d (fun hl2=> ?_) (fun hl2=> ?_)
 ·exact⟨_,rfl,[],rfl,trivial⟩
 have hS:=c_size15 (mode:=mode) (pad:=pad) (back:=back) (lk:=lk) (li:=li) (k:=k) (iv:=v) h0 h1 h.hs (by omega) hb (by omega)
 have hle:=akLen_le n s lb
 have lm:=akMsg_len n s b
 rw[hb]at lm
 have CU:=c_cut (b:=akMsg n s b) (ns:=ns) rfl hn (by omega) hns
 rw[lm]at CU
 have hpl:0<(cutL ns (akMsg n s b)).length:=by rw[cutL_len];omega
 have hpn:(cutL ns (akMsg n s b)).length≤100:=by rw[cutL_len];omega
 have hpf:=cutL_flat ns (akMsg n s b)
 have hfl:(cutL ns (akMsg n s b)).flatten.length≤1000:=by rw[hpf];omega
 generalize cutL ns (akMsg n s b)=ps at*
 obtain⟨a,o,hn,_,_,U⟩:=cx_up h (back:=back) (iv:=ivL (akMode mode) s v) (M:=[]) (b:=fi) (x:= .n) ok (.inl ⟨rfl,cxH_0⟩) hfi (by simp;omega)
 have U:=U.resolve_right (fun hh=>hh.1 (by rw[cS_0' (by omega) ok]))
 rw[cL_0 (by omega) ok,cS_0' (by omega) ok,List.nil_append]at U
 obtain⟨r,hr⟩:∃r,r=cxEnd (cF (tagOf tag) (keyOf (tagOf tag) n k) false) (cF (tagOf tag) (keyOf (tagOf tag) n k) true) s (akMode mode) (akPad mode pad) back (cS (tagOf tag) (keyOf (tagOf tag) n k) s (akMode mode) (akPad mode pad) back (ivL (akMode mode) s v) fi) (cL (tagOf tag) (keyOf (tagOf tag) n k) s (akMode mode) (akPad mode pad) back (ivL (akMode mode) s v) fi) (cxH s (akMode mode) (akPad mode pad) back fi):=⟨_,rfl⟩
 obtain⟨_,last',F⟩:=cx_fi h (x:= .o (cxH s (akMode mode) (akPad mode pad) back fi)) (back:=back) (M:=fi) ok (.inr rfl) (by omega) hr
 have RE:=c_cxresetC h (back:=back) (last0:=last') ok
 have RB:=c_cxresetB h (md0:=cxMd (akMode mode)) (op:=true) (back:=back) (last0:=cL (tagOf tag) (keyOf (tagOf tag) n k) s (akMode mode) (akPad mode pad) back (ivL (akMode mode) s v) fi) (st0:=cS (tagOf tag) (keyOf (tagOf tag) n k) s (akMode mode) (akPad mode pad) back (ivL (akMode mode) s v) fi) (x0:= .o (cxH s (akMode mode) (akPad mode pad) back fi)) ok
 have HE:=fun(st:MS) (l:List UInt8) (x:HK)=>c_cxheld (t:=tagOf tag) (mode:=akMode mode) (pad:=akPad mode pad) (md:=cxMd (akMode mode)) (op:=true) (back:=back) (k:=q) (xs:=xs) (iv:=ivL (akMode mode) s v) (last:=l) (st:=st) (x:=x)
 have hc0:catN ps 0=[]:=by unfold catN;rw[List.take_zero];rfl
 obtain⟨A,hA⟩:∃A:Nat→MS×List UInt8×List UInt8,A=fun i=>(cS (tagOf tag) (keyOf (tagOf tag) n k) s (akMode mode) (akPad mode pad) back (ivL (akMode mode) s v) (catN ps i),cL (tagOf tag) (keyOf (tagOf tag) n k) s (akMode mode) (akPad mode pad) back (ivL (akMode mode) s v) (catN ps i),cxH s (akMode mode) (akPad mode pad) back (catN ps i)):=⟨_,rfl⟩
 have hU:∀i (hi:i<ps.length) {x:HK},(x= .n∧cxH s (akMode mode) (akPad mode pad) back (catN ps i)=[]∨x= .o (cxH s (akMode mode) (akPad mode pad) back (catN ps i)))→_:=fun i hi x hx=>cx_up h (b:=ps[i]) (iv:=ivL (akMode mode) s v) ok hx rfl (by
  have h1:=catN_le ps (i+1)
  rw[catN_succ hi,List.length_append]at h1
  omega)
 have hF:=fun{r':List UInt8×Int} hr'=>(cx_fi h (x:= .o (cxH s (akMode mode) (akPad mode pad) back ps.flatten)) (back:=back) (iv:=ivL (akMode mode) s v) (r:=r') ok (.inr rfl) (by omega) hr').2
 have U0:=hU 0 hpl (x:= .n) (.inl ⟨rfl,by rw[hc0];exact cxH_0⟩)
 rw[←catN_succ hpl,hc0]at U0
 obtain⟨n0,o0,hn0,_,_,U0⟩:=U0
 have U0:=U0.resolve_right (fun hh=>hh.1 (by rw[cS_0' (by omega) ok]))
 rw[cL_0 (by omega) ok,cS_0' (by omega) ok]at U0
 generalize cL (tagOf tag) (keyOf (tagOf tag) n k) s (akMode mode) (akPad mode pad) back (ivL (akMode mode) s v) fi=la at*
 generalize cxH s (akMode mode) (akPad mode pad) back fi=H at*
 generalize cS (tagOf tag) (keyOf (tagOf tag) n k) s (akMode mode) (akPad mode pad) back (ivL (akMode mode) s v) fi=st1 at*
 generalize akMode mode=md at*
 generalize akPad mode pad=pd at*
 generalize ivL md s v=V0 at*
 generalize keyOf (tagOf tag) n k=key at*
 refine⟨[i64 tag,i64 n,i64 mode,i64 pad,bool back,.z lk (bv k),.z li (bv v)],rfl,rfl,?_⟩
 by_cases hf:lk≤100∧li≤100
 ·refine⟨[],_,_,_,_,c_few_y hf,rfl,rfl,?_⟩
  obtain⟨ch,row,g⟩:=st1
  rcases row with _|⟨a1,r1⟩<;>cases done
  all_goals
   refine⟨[i64 tag,i64 n,i64 mode,i64 pad,bool back,.z lk (bv k),.z li (bv v)],rfl,rfl,?_⟩
   refine⟨[],_,_,_,_,OP,rfl,rfl,?_⟩
   refine⟨[i64 tag,i64 n,i64 mode,i64 pad,bool back,.z lk (bv k),.z li (bv v)],rfl,rfl,?_⟩
   refine⟨[],_,_,_,_,OP,rfl,rfl,?_⟩
   refine⟨[.d 39 0,.d 39 1,.d 39 2,.d 39 3],_,_,_,_,U,rfl,rfl,?_⟩
   first
    |refine⟨[.d 39 0,.d 39 1,.d 50 4,.d 50 5],_,_,_,_,RB,rfl,rfl,?_⟩
     refine⟨[.d 39 0,.d 55 4,.d 55 5,.d 55 6],_,_,_,_,HE ⟨V0,[],[]⟩ V0 .n,rfl,rfl,?_⟩
     refine⟨[i64 tag,i64 n,i64 mode,i64 pad,bool back,.z lk (bv k),.z li (bv v)],rfl,rfl,?_⟩
     refine⟨[],_,_,_,_,hS,rfl,rfl,?_⟩
     refine⟨[],_,_,_,_,CU,rfl,rfl,?_⟩
     refine loopN (dxD (cipV (tagOf tag) q xs) (tagOf tag) md pd (cxMd md) back V0 (fun i=>[(11,.p (.k 0) 0),(12,.p (.k 4) 0),(13,.zz 1 ps.length (ps.map zc)),(14,i64 (i:Nat))]) A) ps.length ⟨[.d 39 0,.d 55 4,.d 55 5,.d 55 6,.d 41 0,.d 41 1,.d 41 2,.d 41 3],⟨rfl,rfl,rfl,rfl,trivial⟩,⟨_,rfl,rfl⟩,⟨_,rfl,rfl⟩,⟨_,rfl,rfl⟩,⟨_,rfl,rfl⟩,⟨_,rfl,rfl⟩,⟨_,rfl,rfl⟩,⟨_,rfl,rfl⟩,⟨_,rfl,rfl⟩,trivial⟩ fun i hi=> ?_
    |refine⟨[.d 39 0,.d 39 1,.d 50 4,.d 50 5],_,_,_,_,F,rfl,rfl,?_⟩
     refine⟨[.d 39 0,.d 39 1],_,_,_,_,RE,rfl,rfl,?_⟩
     refine⟨[.d 39 0,.d 55 2,.d 55 3,.d 55 4],_,_,_,_,HE ⟨V0,[],[]⟩ V0 .n,rfl,rfl,?_⟩
     refine⟨[i64 tag,i64 n,i64 mode,i64 pad,bool back,.z lk (bv k),.z li (bv v)],rfl,rfl,?_⟩
     refine⟨[],_,_,_,_,hS,rfl,rfl,?_⟩
     refine⟨[],_,_,_,_,CU,rfl,rfl,?_⟩
     refine loopN (dxD (cipV (tagOf tag) q xs) (tagOf tag) md pd (cxMd md) back V0 (fun i=>[(11,.p (.k 0) 0),(12,.p (.k 4) 0),(13,.zz 1 ps.length (ps.map zc)),(14,i64 (i:Nat))]) A) ps.length ⟨[.d 39 0,.d 55 2,.d 55 3,.d 55 4,.d 41 0,.d 41 1,.d 41 2,.d 41 3],⟨rfl,rfl,rfl,rfl,trivial⟩,⟨_,rfl,rfl⟩,⟨_,rfl,rfl⟩,⟨_,rfl,rfl⟩,⟨_,rfl,rfl⟩,⟨_,rfl,rfl⟩,⟨_,rfl,rfl⟩,⟨_,rfl,rfl⟩,⟨_,rfl,rfl⟩,trivial⟩ fun i hi=> ?_
   rcases i with _|i
   ·refine spl_d (fun hlt=> ?_) (fun hge=>absurd hge (by omega))
    have hA1:A (0+1)=(cS (tagOf tag) key s md pd back V0 (catN ps (0+1)),cL (tagOf tag) key s md pd back V0 (catN ps (0+1)),cxH s md pd back (catN ps (0+1))):=by rw[hA]
    generalize cS (tagOf tag) key s md pd back V0 (catN ps (0+1))=st2 at*
    generalize cL (tagOf tag) key s md pd back V0 (catN ps (0+1))=la2 at*
    generalize cxH s md pd back (catN ps (0+1))=H2 at*
    obtain⟨ch2,row2,g2⟩:=st2
    rcases row2 with _|⟨a2,r2⟩
    all_goals
     refine⟨by omega,by omega,?_⟩
     refine⟨_,zc_get (i:=0) hpl,?_⟩
     refine⟨[.k 0,.k 1,.k 2,.k 3],_,_,_,_,U0,rfl,rfl,?_⟩
     refine⟨by omega,by omega,?_⟩
     refine⟨_,zc_get (i:=0) hpl,?_⟩
     refine⟨[.k 4,.k 5,.k 6,.k 7],_,_,_,_,U0,rfl,rfl,?_⟩
     refine⟨by rw[bv_len,hn0],_,rfl,?_⟩
     refine⟨by rw[bv_len,hn0],_,rfl,?_⟩
     refine spl_f (by simp) ?_
     refine⟨[.k 0,.k 1,.d 79 4,.d 79 5],_,_,_,_,HE _ la2 (.o H2),rfl,rfl,?_⟩
     refine⟨[.k 4,.k 5,.d 88 4,.d 88 5],_,_,_,_,HE _ la2 (.o H2),rfl,rfl,?_⟩
     refine spl_ne (fun hh=>absurd rfl hh) (fun _=> ?_)
     refine⟨1,by omega,by omega,Mt_eq (dxD_s hA1) ?_⟩
     exact⟨[.k 0,.k 1,.d 79 4,.d 79 5,.k 4,.k 5,.d 88 4,.d 88 5],⟨rfl,rfl,rfl,rfl,trivial⟩,⟨_,rfl,rfl⟩,⟨_,rfl,rfl⟩,⟨_,rfl,rfl⟩,⟨_,rfl,rfl⟩,⟨_,rfl,rfl⟩,⟨_,rfl,rfl⟩,⟨_,rfl,rfl⟩,⟨_,rfl,rfl⟩,trivial⟩
   ·have hA1:A (i+1)=(cS (tagOf tag) key s md pd back V0 (catN ps (i+1)),cL (tagOf tag) key s md pd back V0 (catN ps (i+1)),cxH s md pd back (catN ps (i+1))):=by rw[hA]
    rw[dxD_s hA1]
    refine spl_d (fun hlt=> ?_) (fun hge=> ?_)
    ·have hl:i+1<ps.length:=by omega
     obtain⟨n1,o1,hn1,_,_,V⟩:=hU (i+1) hl (x:= .o (cxH s md pd back (catN ps (i+1)))) (.inr rfl)
     rw[←catN_succ hl]at V
     have hA2:A (i+1+1)=(cS (tagOf tag) key s md pd back V0 (catN ps (i+1+1)),cL (tagOf tag) key s md pd back V0 (catN ps (i+1+1)),cxH s md pd back (catN ps (i+1+1))):=by rw[hA]
     generalize cS (tagOf tag) key s md pd back V0 (catN ps (i+1+1))=st2 at*
     generalize cL (tagOf tag) key s md pd back V0 (catN ps (i+1+1))=la2 at*
     generalize cxH s md pd back (catN ps (i+1+1))=H2 at*
     generalize cS (tagOf tag) key s md pd back V0 (catN ps (i+1))=st3 at*
     generalize cL (tagOf tag) key s md pd back V0 (catN ps (i+1))=la3 at*
     generalize cxH s md pd back (catN ps (i+1))=H3 at*
     obtain⟨ch2,row2,g2⟩:=st2
     obtain⟨ch3,row3,g3⟩:=st3
     rcases V with V|⟨_,V⟩<;>rcases row3 with _|⟨a3,r3⟩<;>rcases row2 with _|⟨a2,r2⟩
     all_goals
      refine⟨by omega,by omega,?_⟩
      refine⟨.z ps[i+1].length (bv ps[i+1]),by rw[Nat.mul_one];exact zc_get hl,?_⟩
      refine⟨[.k 0,.k 1,.k 2,.k 3],_,_,_,_,V,rfl,rfl,?_⟩
      refine⟨by omega,by omega,?_⟩
      refine⟨.z ps[i+1].length (bv ps[i+1]),by rw[Nat.mul_one];exact zc_get hl,?_⟩
      refine⟨[.k 4,.k 5,.k 6,.k 7],_,_,_,_,V,rfl,rfl,?_⟩
      refine⟨by rw[bv_len,hn1],_,rfl,?_⟩
      refine⟨by rw[bv_len,hn1],_,rfl,?_⟩
      refine spl_f (by simp) ?_
      first
       |refine⟨[.k 0,.k 1,.d 79 4,.d 79 5],_,_,_,_,HE _ la2 (.o H2),rfl,rfl,?_⟩
        refine⟨[.k 4,.k 5,.d 88 4,.d 88 5],_,_,_,_,HE _ la2 (.o H2),rfl,rfl,?_⟩
        refine spl_ne (fun hh=>absurd rfl hh) (fun _=> ?_)
        refine⟨i+1+1,by omega,by omega,Mt_eq (dxD_s hA2) ?_⟩
        exact⟨[.k 0,.k 1,.d 79 4,.d 79 5,.k 4,.k 5,.d 88 4,.d 88 5],⟨rfl,rfl,rfl,congrArg (vi .i64) (by simp(disch:=omega)only[IntWalk.i64_in];omega),trivial⟩,⟨_,rfl,rfl⟩,⟨_,rfl,rfl⟩,⟨_,rfl,rfl⟩,⟨_,rfl,rfl⟩,⟨_,rfl,rfl⟩,⟨_,rfl,rfl⟩,⟨_,rfl,rfl⟩,⟨_,rfl,rfl⟩,trivial⟩
       |refine⟨[.k 0,.k 1,.k 2,.d 79 4],_,_,_,_,HE _ la2 (.o H2),rfl,rfl,?_⟩
        refine⟨[.k 4,.k 5,.k 6,.d 88 4],_,_,_,_,HE _ la2 (.o H2),rfl,rfl,?_⟩
        refine spl_ne (fun hh=>absurd rfl hh) (fun _=> ?_)
        refine⟨i+1+1,by omega,by omega,Mt_eq (dxD_s hA2) ?_⟩
        exact⟨[.k 0,.k 1,.k 2,.d 79 4,.k 4,.k 5,.k 6,.d 88 4],⟨rfl,rfl,rfl,congrArg (vi .i64) (by simp(disch:=omega)only[IntWalk.i64_in];omega),trivial⟩,⟨_,rfl,rfl⟩,⟨_,rfl,rfl⟩,⟨_,rfl,rfl⟩,⟨_,rfl,rfl⟩,⟨_,rfl,rfl⟩,⟨_,rfl,rfl⟩,⟨_,rfl,rfl⟩,⟨_,rfl,rfl⟩,trivial⟩
    ·have hn2:i+1=ps.length:=by omega
     rw[show catN ps (i+1)=ps.flatten by rw[hn2];exact catN_all ps]at*
     obtain⟨la4,F4⟩:=hF rfl
     generalize cS (tagOf tag) key s md pd back V0 ps.flatten=st2 at*
     generalize cL (tagOf tag) key s md pd back V0 ps.flatten=la2 at*
     generalize cxH s md pd back ps.flatten=H2 at*
     obtain⟨ch2,row2,g2⟩:=st2
     rcases row2 with _|⟨a2,r2⟩
     all_goals
      refine⟨[.k 0,.k 1,.k 2,.k 3],_,_,_,_,F4,rfl,rfl,?_⟩
      refine⟨[.k 4,.k 5,.k 6,.k 7],_,_,_,_,F4,rfl,rfl,?_⟩
      refine spl_eq (fun _=> ?_) (fun hh=>absurd rfl hh)
      refine⟨by rw[bv_len],_,rfl,?_⟩
      refine⟨by rw[bv_len],_,rfl,?_⟩
      exact⟨_,rfl,[],congrArg bool (beq_self_eq_true _),trivial⟩
 ·refine⟨[],_,_,_,_,c_few_n hf,rfl,rfl,?_⟩
  exact⟨_,rfl,[],rfl,trivial⟩
end Go.Scr
