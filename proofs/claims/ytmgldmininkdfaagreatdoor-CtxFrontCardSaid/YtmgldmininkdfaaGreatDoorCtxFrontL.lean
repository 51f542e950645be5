/-
  What the functions that this law alone reaches reckon, up to the law. It is no claim by itself; each contract bears its own conditions.
-/
import Derived.Test.YtmgldmininkdfaaGreatDoorY4
set_option linter.unusedVariables false
set_option linter.unusedSimpArgs false
set_option maxRecDepth 100000
namespace Go.Scr
open Go.Proofs
open List renaming length_append → Za, length_take → Zd, take_append_drop → Zi
open Nat renaming le_of_ble_eq_true → Zb, min_eq_left → Zf, mul_comm → Zh, sub_zero → Zj
open Int renaming toNat_natCast → Zc, tmod_eq_emod_of_nonneg → Zg
open IntWalk renaming i64_in → Ze
open Go.IntKind renaming i64 → I6
abbrev N.law16_CtxFront:=5
def rt.law16_CtxFront:Rt:=[(13,[i1 [51,52,53,54,55,56,57,58,59,60,61,49,62,63,13,14] [],i0 [],i0 [],i0 [],i0 [],i0 [4],i0 [],i0 [4,5,6],i0 [],i0 [4,5,6,7,8],i0 [3,4,5,6,7,8,9],i2 [49,62,63,13,14] [0,1,2,3,4,5,6,7,8,9,10],i0 [0,1,2,3,4,5,6,7,8,9,10,11],i0 [0,1,2,3,4,5,6,7,8,9,10,11,12],i0 [0,1,2,3,4,5,6,7,8,9,10,11,12],i0 [0,1,2,3,4,5,6,7,8,9,10,11,12,13],i0 [0,1,2,3,4,5,6,7,8,9,10,11,12,13,14,15]]),(23,[i0 [],i0 [0],i0 [],i0 [2],i0 [0,1,2,3],i0 [0,1,2,3,4],i0 [0,1,2,3,4,5],i1 [95,96,97,98,99,100,101] [0,1,2,3,4,5,6],i0 [0,1,2,3,4,5],i0 [0,1,2,3,4,5],i0 [0,1,2,3,4,5,9],i0 [0,1,2,3,4,5,8,9,10],i1 [93,94,100,101] [0,1,2,3,4,5,8,9,10,11],i0 [0,1,2,3,4,5,6,7,8,9,10,11,12],i0 [0,1,2,3,4,5,6,7,8,9,10,11,12,13]])]
theorem fd.law16_CtxFront:FnD C 5 rt.law16_CtxFront Tryz.f5 102:=fk Tryz.func5 (by kernel_rfl)
abbrev N.law16_within:=26
theorem fd.law16_within:FnD C 26 [] Tryz.f26 15:=fk Tryz.func26 (by kernel_rfl)
theorem kLen_mem {t n:Int} (ht:okTag t):((kLen t n:Nat):Int)∈cLens t:=by
 have hp:=cLens_pos ht
 have h1:=Int.emod_nonneg n (b:=((cLens t).length:Int)) (by omega)
 have h2:=Int.emod_lt_of_pos n (b:=((cLens t).length:Int)) (by omega)
 have hi:(n%((cLens t).length:Int)).toNat<(cLens t).length:=by omega
 have hx:(cLens t).getD (n%((cLens t).length:Int)).toNat 0∈cLens t:=by
  rw[List.getD_eq_getElem?_getD,List.getElem?_eq_getElem hi];exact List.getElem_mem hi
 have h0:0≤(cLens t).getD (n%((cLens t).length:Int)).toNat 0:=by
  have:∀x∈cLens t,0≤x:=by
   rcases ht with rfl|rfl|rfl|rfl|rfl|rfl|rfl|rfl<;>decide
  exact this _ hx
 rw[kLen,Int.toNat_of_nonneg h0];exact hx
theorem ciph_law (tag n:Int) (k:Bs):∃s q xs rs,Ciph (tagOf tag) (keyOf (tagOf tag) n k) s q xs rs:=ciph_ok (tagOf_ok _) (by rw[keyOf_len];exact kLen_mem (tagOf_ok _))
theorem ask_ciph (tag n:Int) (k:Bs):∃s q xs rs,Ciph (tagOf tag) (keyOf (tagOf tag) n k) s q xs rs:=ciph_law tag n k
theorem c_w16 {a n:Int} (hn:0<n) (hn2:n≤4611686018427387904) (ha: -9223372036854775808≤a∧a≤9223372036854775807):Con C N.law16_within [i64 a,i64 n] [] (.ret (i64 (a%n))) []:=by
 refine fd.law16_within.c ?_
 have h1: -n<a.tmod n:=Int.lt_tmod_of_pos a hn
 have h2:a.tmod n<n:=Int.tmod_lt_of_pos a hn
 refine⟨by omega,?_⟩
 refine spl_d (fun h=> ?_) (fun h=> ?_)
 ·refine⟨_,rfl,[],q7i ?_,trivial⟩
  rw[Ze _ (by omega)]
  rw[←rest_eq a n hn,Zg (a:=a.tmod n+n) (by omega),Int.emod_eq_of_lt (by omega) (by omega)]
 ·refine⟨_,rfl,[],q7i ?_,trivial⟩
  rw[←rest_eq a n hn,Zg (a:=a.tmod n+n) (by omega),Int.add_emod_right,Int.emod_eq_of_lt (by omega) (by omega)]
theorem cx_front_of {E D:Bs→Bs} {n:Nat} {mode pad:Int} {iv M b R:Bs} {back:Bool} (hn:0<n) (ok:shOk n mode pad iv) (hm:mode=1∨mode=2) (hb:b=M++R):
  ∃z,(moStep E D n mode back ⟨iv,[],[]⟩ (b.take (b.length/n*n))).1=(cxSt E D n mode pad back iv M).1++z:=by
 obtain⟨f1,f2⟩:=cxFr_ok (back:=back) hn ok M.length
 unfold cxSt
 have e:cxMd mode=mode:=if_neg (by omega)
 have g:moGrain n mode=n:=if_pos hm
 rw[e]at f2 ⊢
 rw[g]at f2
 generalize cxFr n mode pad back M.length=f at*
 obtain⟨q,rfl⟩:∃q,f=n*q:=⟨f/n,by rw[Zh,Nat.div_mul_cancel (Nat.dvd_of_mod_eq_zero f2)]⟩
 have hl:n*q≤b.length:=by rw[hb,Za];omega
 have hF:n*q≤b.length/n*n:=by
  rw[Zh (b.length/n)]
  exact Nat.mul_le_mul_left n ((Nat.le_div_iff_mul_le hn).2 (by rw[Zh];exact hl))
 have hF2:b.length/n*n≤b.length:=Nat.div_mul_le_self _ _
 have e1:b.take (b.length/n*n)=M.take (n*q)++(b.take (b.length/n*n)).drop (n*q):=by
  have h1:M.take (n*q)=(b.take (b.length/n*n)).take (n*q):=by
   rw[List.take_take,Zf hF,hb,List.take_append_of_le_length f1]
  rw[h1,Zi]
 rw[e1,moStep_app hn (by rw[g,Zd,Zf f1];exact f2) (by
  rw[g,List.length_drop,Zd,Zf hF2,Zh (b.length/n),←Nat.mul_sub]
  exact Nat.mul_mod_right _ _)]
 exact⟨_,rfl⟩
def fxD (cv:V) (t mode pad md:Int) (back:Bool) (iv:Bs) (sl:Nat→Nat→List (Nat×V)) (A:Nat→MS×Bs×Bs×Bs):Nat→D
 |0=>⟨sl 0 0,[cxX true true t mode pad back cv (.z iv.length (bv iv)) (.p (.k 1) 0) nilv (.z iv.length (bv iv)),moX cv md back ⟨iv,[],[]⟩ 2,.dead,.dead,.sc []]⟩
 |i+1=>⟨sl (i+1) (A (i+1)).2.2.2.length,[cxX true true t mode pad back cv (.z iv.length (bv iv)) (.p (.k 1) 0) (.o 1 (.k 3) 0 (A (i+1)).2.2.1.length) (.z (A (i+1)).2.1.length (bv (A (i+1)).2.1)),moX cv md back (A (i+1)).1 2,gnB (A (i+1)).1.row (A (i+1)).1.gone,.sc (bv (A (i+1)).2.2.1),.sc (bv (A (i+1)).2.2.2)]⟩
theorem fxD_s {cv:V} {t mode pad md:Int} {back:Bool} {iv:Bs} {sl:Nat→Nat→List (Nat×V)} {A:Nat→MS×Bs×Bs×Bs} {i:Nat} {st:MS} {la H T:Bs} (e:A (i+1)=(st,la,H,T)):
  fxD cv t mode pad md back iv sl A (i+1)=⟨sl (i+1) T.length,[cxX true true t mode pad back cv (.z iv.length (bv iv)) (.p (.k 1) 0) (.o 1 (.k 3) 0 H.length) (.z la.length (bv la)),moX cv md back st 2,gnB st.row st.gone,.sc (bv H),.sc (bv T)]⟩:=by
 show(⟨sl (i+1) (A (i+1)).2.2.2.length,[cxX true true t mode pad back cv (.z iv.length (bv iv)) (.p (.k 1) 0) (.o 1 (.k 3) 0 (A (i+1)).2.2.1.length) (.z (A (i+1)).2.1.length (bv (A (i+1)).2.1)),moX cv md back (A (i+1)).1 2,gnB (A (i+1)).1.row (A (i+1)).1.gone,.sc (bv (A (i+1)).2.2.1),.sc (bv (A (i+1)).2.2.2)]⟩:D)=_
 rw[e]
set_option maxHeartbeats 4000000 in
theorem c_law_front {tag n mode pad:Int} {back:Bool} {lk li lb ln:Nat} {k v b:Bs} {ns:List Int} (h0:In64 tag) (h1:In64 n) (h2:In64 mode) (h3:In64 pad) (hk:k.length=lk) (hi:v.length=li) (hb:b.length=lb) (hn:ns.length=ln) (hns:∀x∈ns, -9223372036854775808≤x∧x≤9223372036854775807):
  Con C N.law16_CtxFront [askV tag n mode pad back lk k li v,.z lb (bv b),.z ln (iv ns)] [] (.ret (bool true)) []:=by
 obtain⟨s,q,xs,rs,h⟩:=ask_ciph tag n k
 have hs:=h.s_le
 have h2':In64 (mode%2):=by unfold In64;omega
 have ok:=ak_ok (mode%2) pad s v
 have hM:=c_askmake (back:=back) h0 h1 h2' h3 hk hi h.hs hs.2
 have hR:Con C N.r11_Size [i64 (tagOf tag)] [] (.ret (i64 s)) []:=by rw[←h.hs];exact c_r11_size (tagOf_ok _)
 have OP:=c_open16 (back:=back) h0 h1 h2' h3 hk hi h
 have W2:=c_w16 (a:=mode) (n:=2) (by omega) (by omega) h2
 have hmd:akMode (mode%2)=1∨akMode (mode%2)=2:=by unfold akMode;omega
 have lK:=keyOf_len (tagOf tag) n k
 have lV:=ivL_len (akMode (mode%2)) s v
 refine fd.law16_CtxFront.c ?_
 refine⟨[],_,_,_,_,c_known16,rfl,rfl,?_⟩
 refine spl_d (fun hl=> ?_) (fun hl=> ?_)
 ·exact⟨_,rfl,[],rfl,trivial⟩
 obtain⟨F,hF⟩:∃F,F=lb/s*s:=⟨_,rfl⟩
 have hFl:F≤lb:=by rw[hF];exact Nat.div_mul_le_self _ _
 have hq:I6.wrap (I6.wrap ((lb:Int).tdiv (s:Int))*(s:Int))=(F:Int):=by
  obtain⟨Q,hQ⟩:∃Q,Q=lb/s:=⟨_,rfl⟩
  have e2:Q≤lb:=by rw[hQ];exact Nat.div_le_self _ _
  have e1:(lb:Int).tdiv (s:Int)=(Q:Int):=by rw[hQ,Int.tdiv_eq_ediv_of_nonneg (Int.natCast_nonneg _)];rfl
  rw[e1,show I6.wrap (Q:Int)=(Q:Int) from Ze _ (by omega),show(Q:Int)*(s:Int)=(F:Int) by rw[hF,←hQ];push_cast;rfl,Ze _ (by omega)]
 have ok4:shOk s (akMode (mode%2)) 4 (ivL (akMode (mode%2)) s v):=⟨ok.1,by decide,.inl rfl,ok.2.2.2⟩
 have RS:=c_rshotQ h (back:=back) (msg:=b.take F) (m:=F) (vk:=bv (keyOf (tagOf tag) n k)) (vi:=bv (ivL (akMode (mode%2)) s v)) (vm:=bv (b.take F)) rfl rfl rfl lK lV (by rw[Zd];omega) (by omega) ok4
 obtain⟨x,hxd⟩:∃x,x=(moStep (cF (tagOf tag) (keyOf (tagOf tag) n k) false) (cF (tagOf tag) (keyOf (tagOf tag) n k) true) s (akMode (mode%2)) back ⟨ivL (akMode (mode%2)) s v,[],[]⟩ (b.take F)).1:=⟨_,rfl⟩
 have gr:moGrain s (akMode (mode%2))=s:=if_pos hmd
 have hFm:(b.take F).length%s=0:=by rw[Zd,hb,Zf hFl,hF,Nat.mul_mod_left]
 have eP:shP (cF (tagOf tag) (keyOf (tagOf tag) n k) false) (cF (tagOf tag) (keyOf (tagOf tag) n k) true) s (akMode (mode%2)) 4 back (ivL (akMode (mode%2)) s v) (b.take F)=(x,0):=by
  unfold shP
  rw[if_neg (by omega),if_pos rfl,gr,if_pos hFm,hxd]
 rw[eP]at RS
 have hx:x.length=F:=by
  rw[hxd,moStep_len h.ci (ms_ok (by omega) ok.2.2.2) (by rw[gr];exact hFm),Zd];omega
 have CU:=c_cut (b:=b) (ns:=ns) rfl hn (by omega) hns
 rw[hb]at CU
 have hpl:0<(cutL ns b).length:=by rw[cutL_len];omega
 have hpn:(cutL ns b).length≤100:=by rw[cutL_len];omega
 have hpf:=cutL_flat ns b
 have hfl:(cutL ns b).flatten.length≤1000:=by rw[hpf];omega
 generalize cutL ns b=ps at*
 have hX:∀i,i≤ps.length→∃z,x=cT (tagOf tag) (keyOf (tagOf tag) n k) s (akMode (mode%2)) (akPad (mode%2) pad) back (ivL (akMode (mode%2)) s v) (catN ps i)++z:=fun i _=>by
  rw[hxd,hF,←hb]
  exact cx_front_of (R:=(ps.drop i).flatten) (by omega) ok hmd (by unfold catN;rw[←List.flatten_append,Zi,hpf])
 have hc0:catN ps 0=[]:=by unfold catN;rw[List.take_zero];rfl
 obtain⟨A,hA⟩:∃A:Nat→MS×Bs×Bs×Bs,A=fun i=>(cS (tagOf tag) (keyOf (tagOf tag) n k) s (akMode (mode%2)) (akPad (mode%2) pad) back (ivL (akMode (mode%2)) s v) (catN ps i),cL (tagOf tag) (keyOf (tagOf tag) n k) s (akMode (mode%2)) (akPad (mode%2) pad) back (ivL (akMode (mode%2)) s v) (catN ps i),cxH s (akMode (mode%2)) (akPad (mode%2) pad) back (catN ps i),cT (tagOf tag) (keyOf (tagOf tag) n k) s (akMode (mode%2)) (akPad (mode%2) pad) back (ivL (akMode (mode%2)) s v) (catN ps i)):=⟨_,rfl⟩
 have hU:∀i (hi:i<ps.length) {x:HK},(x= .n∧cxH s (akMode (mode%2)) (akPad (mode%2) pad) back (catN ps i)=[]∨x= .o (cxH s (akMode (mode%2)) (akPad (mode%2) pad) back (catN ps i)))→_:=fun i hi x hx=>cx_up h (b:=ps[i]) (iv:=ivL (akMode (mode%2)) s v) ok hx rfl (by
  have h1:=catN_le ps (i+1)
  rw[catN_succ hi,Za]at h1
  omega)
 obtain⟨n0,o0,hn0,_,hT00,U0⟩:=hU 0 hpl (x:= .n) (.inl ⟨rfl,by rw[hc0];exact cxH_0⟩)
 rw[←catN_succ hpl,hc0]at hT00 U0
 have U0:=U0.resolve_right (fun hh=>hh.1 (by rw[cS_0' (by omega) ok]))
 rw[cL_0 (by omega) ok,cS_0' (by omega) ok]at U0
 rw[show cT (tagOf tag) (keyOf (tagOf tag) n k) s (akMode (mode%2)) (akPad (mode%2) pad) back (ivL (akMode (mode%2)) s v) []=[] from congrArg Prod.fst (cS_0 (by omega) ok),List.nil_append]at hT00
 clear eP hxd ok4 hFm
 generalize akMode (mode%2)=md at*
 generalize akPad (mode%2) pad=pd at*
 generalize ivL md s v=V0 at*
 generalize keyOf (tagOf tag) n k=key at*
 refine⟨[i64 tag,i64 n,i64 mode,i64 pad,bool back,.z lk (bv k),.z li (bv v)],rfl,rfl,?_⟩
 by_cases hf:lk≤100∧li≤100
 ·refine⟨[],_,_,_,_,c_few_y hf,rfl,rfl,?_⟩
  refine⟨_,rfl,?_⟩
  refine⟨[],_,_,_,_,W2,rfl,rfl,?_⟩
  refine⟨Zb rfl,?_⟩
  refine⟨[i64 tag,i64 n,i64 (mode%2),i64 pad,bool back,.z lk (bv k),.z li (bv v)],rfl,rfl,?_⟩
  refine⟨[],_,_,_,_,OP,rfl,rfl,?_⟩
  refine⟨[i64 tag,i64 n,i64 (mode%2),i64 pad,bool back,.z lk (bv k),.z li (bv v)],rfl,rfl,?_⟩
  refine⟨[],_,_,_,_,hM,rfl,rfl,?_⟩
  refine⟨Zb rfl,?_⟩
  refine⟨_,rfl,?_⟩
  refine⟨[],_,_,_,_,hR,rfl,rfl,?_⟩
  refine⟨[i64 (tagOf tag),i64 md,i64 pd,bool back],rfl,rfl,?_⟩
  refine⟨Zb rfl,?_⟩
  refine⟨Zb rfl,?_⟩
  refine⟨[i64 (tagOf tag),i64 md,i64 4,bool back],rfl,rfl,?_⟩
  refine⟨by omega,?_⟩
  refine⟨by rw[hq];omega,by rw[hq];omega,by rw[hq];omega,by rw[hq];omega,?_⟩
  refine⟨[],_,_,_,_,RS,?_,rfl,?_⟩
  ·show[cfgV (tagOf tag) md 4 back,V.z _ _,V.z _ _,V.z ((I6.wrap (I6.wrap ((lb:Int).tdiv (s:Int))*(s:Int))).toNat-0) (sub (bv b) 0 ((I6.wrap (I6.wrap ((lb:Int).tdiv (s:Int))*(s:Int))).toNat-0))]=_
   rw[hq,Zc,Zj,bv_sub];rfl
  refine⟨[],_,_,_,_,CU,rfl,rfl,?_⟩
  refine loopNn (fxD (cipV (tagOf tag) q xs) (tagOf tag) md pd (cxMd md) back V0 (fun i l=>[(7,.p (.k 0) 0),(13,.z x.length (bv x)),(15,.o 1 (.k 4) 0 l),(16,.zz 1 ps.length (ps.map zc)),(17,i64 (i:Nat))]) A) ps.length [(15,1,.sc [])] ⟨[.d 35 0,.d 35 1,.d 35 2,.d 35 3,.d 900000 0],⟨rfl,rfl,rfl,rfl,rfl,trivial⟩,⟨_,rfl,rfl⟩,⟨_,rfl,rfl⟩,⟨_,rfl,rfl⟩,⟨_,rfl,rfl⟩,⟨_,rfl,rfl⟩,trivial⟩ fun i hi=> ?_
  rcases i with _|i
  ·refine spl_d (fun hlt=> ?_) (fun hge=>absurd hge (by omega))
   obtain⟨z,hz⟩:=hX 1 (by omega)
   have hA1:A (0+1)=(cS (tagOf tag) key s md pd back V0 (catN ps (0+1)),cL (tagOf tag) key s md pd back V0 (catN ps (0+1)),cxH s md pd back (catN ps (0+1)),cT (tagOf tag) key s md pd back V0 (catN ps (0+1))):=by rw[hA]
   rw[show catN ps 1=catN ps (0+1) from rfl,hT00]at hz
   rw[hT00]at hA1
   generalize cS (tagOf tag) key s md pd back V0 (catN ps (0+1))=st1 at*
   generalize cL (tagOf tag) key s md pd back V0 (catN ps (0+1))=la1 at*
   generalize cxH s md pd back (catN ps (0+1))=H1 at*
   have lz:=congrArg List.length hz
   rw[hx,Za]at lz
   have hx1:sub (bv x) 0 (((0+n0:Nat):Int).toNat-0)=bv o0:=by rw[Zc,Zj,bv_sub,hz];exact congrArg bv (List.take_left' (by rw[Nat.zero_add];omega))
   obtain⟨ch,row,g⟩:=st1
   rcases row with _|⟨a,rr⟩
   all_goals
    refine⟨by omega,by omega,?_⟩
    refine⟨_,zc_get (i:=0) hpl,?_⟩
    refine⟨[.k 0,.k 1,.k 2,.k 3],_,_,_,_,U0,rfl,rfl,?_⟩
    refine⟨by rw[bv_len,hn0],by omega,Nat.le_refl _,?_⟩
    refine spl_d (fun hh=>absurd hh (by omega)) (fun _=> ?_)
    refine⟨by show 0+(0+n0)≤(bv o0).length;rw[bv_len];omega,o0,by show sub (bv o0) 0 (0+n0)=bv o0;exact bv_all (by omega),?_⟩
    refine⟨by omega,by omega,by omega,by omega,?_⟩
    refine⟨by rw[hx1,bv_len,Zc];omega,o0,hx1,?_⟩
    refine spl_f (by simp) ?_
    refine⟨1,by omega,by omega,Mt_eq (fxD_s hA1) ?_⟩
    refine⟨[.k 0,.k 1,.d 79 4,.d 79 5,.d 86 0],⟨rfl,rfl,?_,rfl,rfl,trivial⟩,⟨_,rfl,rfl⟩,⟨_,rfl,rfl⟩,⟨_,rfl,rfl⟩,⟨_,rfl,rfl⟩,⟨_,rfl,?_⟩,trivial⟩
    ·exact congrArg (V.o 1 (.k 4) 0) (show 0+n0=o0.length by omega)
    ·exact q7s (show sub ([]:List Value) 0 (0*1)++bv o0=bv o0 from rfl)
  ·have hA1:A (i+1)=(cS (tagOf tag) key s md pd back V0 (catN ps (i+1)),cL (tagOf tag) key s md pd back V0 (catN ps (i+1)),cxH s md pd back (catN ps (i+1)),cT (tagOf tag) key s md pd back V0 (catN ps (i+1))):=by rw[hA]
   rw[fxD_s hA1]
   refine spl_d (fun hlt=> ?_) (fun hge=> ?_)
   ·have hl:i+1<ps.length:=by omega
    obtain⟨n1,o1,hn1,_,hT,Q⟩:=hU (i+1) hl (x:= .o (cxH s md pd back (catN ps (i+1)))) (.inr rfl)
    obtain⟨z,hz⟩:=hX (i+1+1) (by omega)
    rw[←catN_succ hl]at hT Q
    have hA2:A (i+1+1)=(cS (tagOf tag) key s md pd back V0 (catN ps (i+1+1)),cL (tagOf tag) key s md pd back V0 (catN ps (i+1+1)),cxH s md pd back (catN ps (i+1+1)),cT (tagOf tag) key s md pd back V0 (catN ps (i+1+1))):=by rw[hA]
    rw[hT]at hA2 hz
    generalize cS (tagOf tag) key s md pd back V0 (catN ps (i+1+1))=st1 at*
    generalize cL (tagOf tag) key s md pd back V0 (catN ps (i+1+1))=la1 at*
    generalize cxH s md pd back (catN ps (i+1+1))=H1 at*
    generalize cS (tagOf tag) key s md pd back V0 (catN ps (i+1))=st0 at*
    generalize cL (tagOf tag) key s md pd back V0 (catN ps (i+1))=la0 at*
    generalize cxH s md pd back (catN ps (i+1))=H0 at*
    generalize cT (tagOf tag) key s md pd back V0 (catN ps (i+1))=T0 at*
    have lz:=congrArg List.length hz
    rw[hx,Za,Za]at lz
    have hx1:sub (bv x) 0 (((T0.length+n1:Nat):Int).toNat-0)=bv (T0++o1):=by rw[Zc,Zj,bv_sub,hz];exact congrArg bv (List.take_left' (by rw[Za];omega))
    have hb1:sub (bv T0) 0 (T0.length*1)++bv o1=bv (T0++o1):=by rw[Nat.mul_one,bv_all rfl,bv_app]
    obtain⟨ch,row,g⟩:=st1
    obtain⟨ch0,row0,g0⟩:=st0
    rcases Q with Q|⟨_,Q⟩<;>rcases row0 with _|⟨a0,rr0⟩<;>rcases row with _|⟨a,rr⟩
    all_goals
     refine⟨by omega,by omega,?_⟩
     refine⟨.z ps[i+1].length (bv ps[i+1]),by rw[Nat.mul_one];exact zc_get hl,?_⟩
     refine⟨[.k 0,.k 1,.k 2,.k 3],_,_,_,_,Q,rfl,rfl,?_⟩
     refine⟨by rw[bv_len,hn1],by omega,by rw[bv_len];omega,?_⟩
     refine spl_d (fun hh=>absurd hh (by omega)) (fun _=> ?_)
     refine⟨by rw[hb1,bv_len,Za];omega,(T0++o1),by rw[hb1];exact bv_all (by rw[Za];omega),?_⟩
     refine⟨by omega,by omega,by omega,by omega,?_⟩
     refine⟨by rw[hx1,bv_len,Zc,Za];omega,(T0++o1),hx1,?_⟩
     refine spl_f (by simp) ?_
     refine⟨i+1+1,by omega,by omega,Mt_eq (fxD_s hA2) ?_⟩
     first
      |refine⟨[.k 0,.k 1,.d 79 4,.d 79 5,.d 86 0],⟨rfl,rfl,?_,rfl,q7i (by simp(disch:=omega)only[Ze];omega),trivial⟩,⟨_,rfl,rfl⟩,⟨_,rfl,rfl⟩,⟨_,rfl,rfl⟩,⟨_,rfl,rfl⟩,⟨_,rfl,?_⟩,trivial⟩
      |refine⟨[.k 0,.k 1,.k 2,.d 79 4,.d 86 0],⟨rfl,rfl,?_,rfl,q7i (by simp(disch:=omega)only[Ze];omega),trivial⟩,⟨_,rfl,rfl⟩,⟨_,rfl,rfl⟩,⟨_,rfl,rfl⟩,⟨_,rfl,rfl⟩,⟨_,rfl,?_⟩,trivial⟩
     ·exact congrArg (V.o 1 (.k 4) 0) (show T0.length+n1=(T0++o1).length by rw[Za,hn1])
     ·exact q7s hb1
   ·exact⟨_,rfl,[],rfl,trivial⟩
 ·refine⟨[],_,_,_,_,c_few_n hf,rfl,rfl,?_⟩
  exact⟨_,rfl,[],rfl,trivial⟩
end Go.Scr
