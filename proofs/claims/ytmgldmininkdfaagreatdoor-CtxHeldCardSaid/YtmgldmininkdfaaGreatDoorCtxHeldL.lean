/-
  What the functions that this law alone reaches reckon, up to the law. It is no claim by itself; each contract bears its own conditions.
-/
import Derived.Test.YtmgldmininkdfaaGreatDoorY4
set_option linter.unusedVariables false
set_option linter.unusedSimpArgs false
set_option maxRecDepth 100000
namespace Go.Scr
open Go.Proofs
open IntWalk renaming i64_in → Za
open Nat renaming mul_one → Zb
open Go.IntKind renaming i64 → I6
abbrev N.law16_CtxHeld:=6
theorem fd.law16_CtxHeld:FnD C 6 [] Tryz.f6 158:=fk Tryz.func6 (by kernel_rfl)
theorem kLen_mem {t n:Int} (ht:okTag t):((kLen t n:Nat):Int)∈cLens t:=by
 have hp:=cLens_pos ht
 have h1:=Int.emod_nonneg n (b:=((cLens t).length:Int)) (by omega)
 have h2:=Int.emod_lt_of_pos n (b:=((cLens t).length:Int)) (by omega)
 have hi:(n%((cLens t).length:Int)).toNat<(cLens t).length:=by omega
 have hx:(cLens t).getD (n%((cLens t).length:Int)).toNat 0∈cLens t:=by
  rw[List.getD_eq_getElem?_getD,List.getElem?_eq_getElem hi];exact List.getElem_mem hi
 have h0:0≤(cLens t).getD (n%((cLens t).length:Int)).toNat 0:=by
  have:∀x∈cLens t,0≤x:=by
   rcases ht with rfl|rfl|rfl|rfl|rfl|rfl|rfl|rfl<;>decide
  exact this _ hx
 rw[kLen,Int.toNat_of_nonneg h0];exact hx
theorem ciph_law (tag n:Int) (k:Bs):∃s q xs rs,Ciph (tagOf tag) (keyOf (tagOf tag) n k) s q xs rs:=ciph_ok (tagOf_ok _) (by rw[keyOf_len];exact kLen_mem (tagOf_ok _))
theorem ask_ciph (tag n:Int) (k:Bs):∃s q xs rs,Ciph (tagOf tag) (keyOf (tagOf tag) n k) s q xs rs:=ciph_law tag n k
theorem cxFr_0 {n:Nat} {mode pad:Int} {iv:Bs} {back:Bool} (hn:0<n) (ok:shOk n mode pad iv):cxFr n mode pad back 0=0:=Nat.le_zero.1 (cxFr_ok hn ok 0).1
theorem c_cxheldC {t mode pad:Int} {back:Bool} {k:Nat} {xs:List V} {iv last:Bs}:Con C N.ctx_Ctx_Held [.p (.k 0) 0] [cxC t mode pad back k xs iv last,.dead] (.ret (i64 0)) [cxC t mode pad back k xs iv last,.dead]:=by
 refine fd.ctx_Ctx_Held.c ?_
 refine⟨_,rfl,?_⟩
 exact⟨_,rfl,[.k 0,.k 1],rfl,⟨_,rfl,rfl⟩,⟨_,rfl,rfl⟩,trivial⟩
theorem cx_held {n:Nat} {mode pad:Int} {iv:Bs} {back:Bool} (hn:0<n) (ok:shOk n mode pad iv) (L:Nat):
  L-cxFr n mode pad back L≤cxMost n (cxMd mode) mode pad back∧(cxFr n mode pad back L=0∨cxMost n (cxMd mode) mode pad back+1≤L-cxFr n mode pad back L+moGrain n (cxMd mode)):=by
 obtain⟨g0,g1,g2⟩:=cx_grain (back:=back) hn ok
 obtain⟨f1,f2⟩:=cxFr_ok (back:=back) hn ok L
 unfold cxFr at*
 generalize moGrain n (cxMd mode)=g at*
 generalize cxMost n (cxMd mode) mode pad back=mo at*
 refine⟨Nat.le_of_not_lt fun hh=> ?_,?_⟩
 ·have:=(cxN_lt (most:=mo) (L:=L) (i:=cxN g mo L) g0).2 (by omega)
  exact absurd this (Nat.lt_irrefl _)
 ·by_cases h:cxN g mo L=0
  ·exact .inl (by rw[h,Nat.mul_zero])
  ·obtain⟨k,hk⟩:∃k,cxN g mo L=k+1:=⟨cxN g mo L-1,by omega⟩
   have:=(cxN_lt (most:=mo) (L:=L) (i:=k) g0).1 (by omega)
   rw[hk,Nat.mul_succ]at*
   exact .inr (by omega)
theorem hx_round {s L m L' F F' n mo g:Nat} (hL:L'=L+m) (hF:F'=F+n) (f1:F≤L) (f1':F'≤L') (h1:L-F≤mo) (h2:F'=0∨mo+1≤L'-F'+g) (hg:g≤s):
  n≤m+s∧¬(((L'-F':Nat):Int)<(if (mo:Int)-s+1<(L':Int)then (mo:Int)-s+1 else (L':Int))):=by
 refine⟨by omega,?_⟩
 split<;>omega
theorem cxMost_is {s:Nat} {md pd:Int} {back:Bool} {v:Bs} (ok:shOk s md pd v):
  cxMost s (cxMd md) md pd back=if 7≤md then 2*s else if 2<md then 0 else if pd≠4∧back=true then s else s-1:=by
 unfold cxMost
 rcases cxMd_is ok with ⟨h1,h2⟩|⟨h1,h2⟩
 ·rw[h2,if_neg (by decide),if_pos h1,if_pos h1]
 ·rw[h2]
  by_cases h3:3≤md
  ·rw[if_pos h3,if_neg (by omega),if_pos (by omega)]
  ·simp only[if_neg h3,if_neg (show ¬7≤md by omega),if_neg (show ¬2<md by omega)]
def hxD (cv:V) (t mode pad md:Int) (back:Bool) (iv:Bs) (sl:Nat→List (Nat×V)) (A:Nat→MS×Bs×Bs):Nat→D
 |0=>⟨sl 0,[cxX true true t mode pad back cv (.z iv.length (bv iv)) (.p (.k 1) 0) nilv (.z iv.length (bv iv)),moX cv md back ⟨iv,[],[]⟩ 2,.dead,.dead]⟩
 |i+1=>⟨sl (i+1),[cxX true true t mode pad back cv (.z iv.length (bv iv)) (.p (.k 1) 0) (.o 1 (.k 3) 0 (A (i+1)).2.2.length) (.z (A (i+1)).2.1.length (bv (A (i+1)).2.1)),moX cv md back (A (i+1)).1 2,gnB (A (i+1)).1.row (A (i+1)).1.gone,.sc (bv (A (i+1)).2.2)]⟩
theorem hxD_s {cv:V} {t mode pad md:Int} {back:Bool} {iv:Bs} {sl:Nat→List (Nat×V)} {A:Nat→MS×Bs×Bs} {i:Nat} {st:MS} {la H:Bs} (e:A (i+1)=(st,la,H)):
  hxD cv t mode pad md back iv sl A (i+1)=⟨sl (i+1),[cxX true true t mode pad back cv (.z iv.length (bv iv)) (.p (.k 1) 0) (.o 1 (.k 3) 0 H.length) (.z la.length (bv la)),moX cv md back st 2,gnB st.row st.gone,.sc (bv H)]⟩:=by
 show(⟨sl (i+1),[cxX true true t mode pad back cv (.z iv.length (bv iv)) (.p (.k 1) 0) (.o 1 (.k 3) 0 (A (i+1)).2.2.length) (.z (A (i+1)).2.1.length (bv (A (i+1)).2.1)),moX cv md back (A (i+1)).1 2,gnB (A (i+1)).1.row (A (i+1)).1.gone,.sc (bv (A (i+1)).2.2)]⟩:D)=_
 rw[e]
theorem via {P G:Prop} (f:P→G) (p:P):G:=f p
set_option maxHeartbeats 4000000 in
theorem c_law_held {tag n mode pad:Int} {back:Bool} {lk li lb ln:Nat} {k v b:Bs} {ns:List Int} (h0:In64 tag) (h1:In64 n) (h2:In64 mode) (h3:In64 pad) (hk:k.length=lk) (hi:v.length=li) (hb:b.length=lb) (hn:ns.length=ln) (hns:∀x∈ns, -9223372036854775808≤x∧x≤9223372036854775807):
  Con C N.law16_CtxHeld [askV tag n mode pad back lk k li v,.z lb (bv b),.z ln (iv ns)] [] (.ret (bool true)) []:=by
 obtain⟨s,q,xs,rs,h⟩:=ask_ciph tag n k
 have hs:=h.s_le
 have ok:=ak_ok mode pad s v
 have hM:=c_askmake (back:=back) h0 h1 h2 h3 hk hi h.hs hs.2
 have hR:Con C N.r11_Size [i64 (tagOf tag)] [] (.ret (i64 s)) []:=by rw[←h.hs];exact c_r11_size (tagOf_ok _)
 have OP:=c_open16 (back:=back) h0 h1 h2 h3 hk hi h
 refine fd.law16_CtxHeld.c ?_
 refine⟨[],_,_,_,_,c_known16,rfl,rfl,?_⟩
 refine spl_d (fun hl=> ?_) (fun hl=> ?_)
 ·exact⟨_,rfl,[],rfl,trivial⟩
 have CU:=c_cut (b:=b) (ns:=ns) rfl hn (by omega) hns
 rw[hb]at CU
 have hpl:0<(cutL ns b).length:=by rw[cutL_len];omega
 have hpn:(cutL ns b).length≤100:=by rw[cutL_len];omega
 have hpf:=cutL_flat ns b
 have hfl:(cutL ns b).flatten.length≤1000:=by rw[hpf];omega
 generalize cutL ns b=ps at*
 have hc0:catN ps 0=[]:=by unfold catN;rw[List.take_zero];rfl
 have HE:=fun(st:MS) (l:Bs) (x:HK)=>c_cxheld (t:=tagOf tag) (mode:=akMode mode) (pad:=akPad mode pad) (md:=cxMd (akMode mode)) (op:=true) (back:=back) (k:=q) (xs:=xs) (iv:=ivL (akMode mode) s v) (last:=l) (st:=st) (x:=x)
 obtain⟨A,hA⟩:∃A:Nat→MS×Bs×Bs,A=fun i=>(cS (tagOf tag) (keyOf (tagOf tag) n k) s (akMode mode) (akPad mode pad) back (ivL (akMode mode) s v) (catN ps i),cL (tagOf tag) (keyOf (tagOf tag) n k) s (akMode mode) (akPad mode pad) back (ivL (akMode mode) s v) (catN ps i),cxH s (akMode mode) (akPad mode pad) back (catN ps i)):=⟨_,rfl⟩
 have hU:∀i (hi:i<ps.length) {x:HK},(x= .n∧cxH s (akMode mode) (akPad mode pad) back (catN ps i)=[]∨x= .o (cxH s (akMode mode) (akPad mode pad) back (catN ps i)))→_:=fun i hi x hx=>cx_up h (b:=ps[i]) (iv:=ivL (akMode mode) s v) ok hx rfl (by
  have h1:=catN_le ps (i+1)
  rw[catN_succ hi,List.length_append]at h1
  omega)
 obtain⟨r,hr⟩:∃r,r=cxEnd (cF (tagOf tag) (keyOf (tagOf tag) n k) false) (cF (tagOf tag) (keyOf (tagOf tag) n k) true) s (akMode mode) (akPad mode pad) back (cS (tagOf tag) (keyOf (tagOf tag) n k) s (akMode mode) (akPad mode pad) back (ivL (akMode mode) s v) ps.flatten) (cL (tagOf tag) (keyOf (tagOf tag) n k) s (akMode mode) (akPad mode pad) back (ivL (akMode mode) s v) ps.flatten) (cxH s (akMode mode) (akPad mode pad) back ps.flatten):=⟨_,rfl⟩
 obtain⟨hr2,lz,hF⟩:=cx_fi h (x:= .o (cxH s (akMode mode) (akPad mode pad) back ps.flatten)) (back:=back) (iv:=ivL (akMode mode) s v) ok (.inr rfl) (by omega) hr
 have HC:=c_cxheldC (t:=tagOf tag) (mode:=akMode mode) (pad:=akPad mode pad) (back:=back) (k:=q) (xs:=xs) (iv:=ivL (akMode mode) s v) (last:=lz)
 obtain⟨n0,o0,hn0,hF0,_,U0⟩:=hU 0 hpl (x:= .n) (.inl ⟨rfl,by rw[hc0];exact cxH_0⟩)
 rw[←catN_succ hpl,hc0]at hF0 U0
 have U0:=U0.resolve_right (fun hh=>hh.1 (by rw[cS_0' (by omega) ok]))
 rw[cL_0 (by omega) ok,cS_0' (by omega) ok]at U0
 have hmoE:=cxMost_is (back:=back) ok
 have hgr:=(cx_grain (back:=back) (by omega) ok).2.2
 have hfr:=fun i=>cxFr_ok (back:=back) (by omega) ok (catN ps i).length
 have hhe:=fun i=>cx_held (back:=back) (by omega) ok (catN ps i).length
 have hHl:=fun i=>cxH_len (n:=s) (mode:=akMode mode) (pad:=akPad mode pad) (back:=back) (catN ps i)
 have hLs:∀i (hi:i<ps.length),(catN ps (i+1)).length=(catN ps i).length+ps[i].length:=fun i hi=>by rw[catN_succ hi,List.length_append]
 have hLb:∀i,(catN ps i).length≤1000:=fun i=>Nat.le_trans (catN_le ps i) hfl
 have hm0:3≤cxMd (akMode mode)→cxMost s (cxMd (akMode mode)) (akMode mode) (akPad mode pad) back=0:=fun hh=>if_pos hh
 have hF00:cxFr s (akMode mode) (akPad mode pad) back ([]:Bs).length=0:=cxFr_0 (by omega) ok
 obtain⟨F,hFd⟩:∃F:Nat→Nat,F=fun i=>cxFr s (akMode mode) (akPad mode pad) back (catN ps i).length:=⟨_,rfl⟩
 have eF:∀i,cxFr s (akMode mode) (akPad mode pad) back (catN ps i).length=F i:=fun i=>by rw[hFd]
 simp only[eF]at hfr hhe hHl
 rw[hF00,eF]at hF0
 have hF00':F 0=0:=by rw[←eF,hc0];exact hF00
 obtain⟨L,hLd⟩:∃L:Nat→Nat,L=fun i=>(catN ps i).length:=⟨_,rfl⟩
 have eL:∀i,(catN ps i).length=L i:=fun i=>by rw[hLd]
 simp only[eL]at hfr hhe hHl hLs hLb
 have hL0:L 0=0:=by rw[←eL,hc0];rfl
 generalize hmoD:cxMost s (cxMd (akMode mode)) (akMode mode) (akPad mode pad) back=mo at*
 generalize moGrain s (cxMd (akMode mode))=gr at*
 have hgs:gr≤s:=by rcases hgr with h|h<;>omega
 have hR1:∀i,F i%s=0∨mo=0:=fun i=>by
  rcases hgr with ⟨hg,_⟩|⟨_,h3,_⟩
  ·exact .inl (by rw[←hg];exact(hfr i).2)
  ·exact .inr (hm0 h3)
 have hR2:∀i (hi:i<ps.length) (n1:Nat),F (i+1)=F i+n1→n1≤ps[i].length+s∧¬(((L (i+1)-F (i+1):Nat):Int)<(if (mo:Int)-s+1<(L (i+1):Int)then (mo:Int)-s+1 else (L (i+1):Int))):=fun i hi n1 e=>hx_round (hLs i hi) e (hfr i).1 (hfr (i+1)).1 (hhe i).1 (hhe (i+1)).2 hgs
 have hmo2:mo≤32:=by
  rw[hmoE];split
  ·omega
  ·split
   ·omega
   ·split<;>omega
 have hR3:∀i (hi:i<ps.length) (n1:Nat),F (i+1)=F i+n1→n1≤ps[i].length+s∧¬(((L (i+1)-F (i+1):Nat):Int)<(if (mo:Int)-s+1<(L (i+1):Int)then (mo:Int)-s+1 else (L (i+1):Int)))∧I6.wrap ((L i:Int)+(ps[i].length:Int))=(L (i+1):Int)∧I6.wrap ((F i:Int)+(n1:Int))=(F (i+1):Int)∧I6.wrap ((F (i+1):Int)+((L (i+1)-F (i+1):Nat):Int))=(L (i+1):Int)∧
   I6.wrap (I6.wrap ((mo:Int)-s)+1)=(mo:Int)-s+1∧I6.wrap ((ps[i].length:Int)+s)=((ps[i].length+s:Nat):Int)∧(((F (i+1):Nat):Int).tmod (s:Int)≠0→¬(mo:Int)>0):=fun i hi n1 e=>by
  obtain⟨r2,r3⟩:=hR2 i hi n1 e
  have b1:=hLb (i+1)
  have b2:=hLs i hi
  have b3:=(hfr (i+1)).1
  have b4:=hR1 (i+1)
  generalize L (i+1)=L1 at*
  generalize F (i+1)=F1 at*
  generalize L i=L0 at*
  generalize F i=F0 at*
  generalize ps[i].length=m1 at*
  clear hfr hhe hHl hLs hLb hR1 hR2 hU
  refine⟨r2,r3,by rw[Za _ (by omega)];omega,by rw[Za _ (by omega)];omega,by rw[Za _ (by omega)];omega,by rw[Za _ (by omega: -9223372036854775808≤(mo:Int)-s∧(mo:Int)-s≤9223372036854775807),Za _ (by omega)],by rw[Za _ (by omega)];omega,fun hne hgt=> ?_⟩
  rcases b4 with b4|b4
  ·exact hne (by rw[Int.tmod_eq_emod_of_nonneg (Int.natCast_nonneg _),←Int.natCast_emod,b4];rfl)
  ·omega
 have five:(7≤akMode mode∧I6.wrap (2*(s:Int))=(mo:Int))∨(¬7≤akMode mode∧2<akMode mode∧(0:Int)=(mo:Int))∨(¬7≤akMode mode∧¬2<akMode mode∧akPad mode pad≠4∧back=true∧(s:Int)=(mo:Int))∨(¬7≤akMode mode∧¬2<akMode mode∧akPad mode pad≠4∧back=false∧I6.wrap ((s:Int)-1)=(mo:Int))∨(¬7≤akMode mode∧¬2<akMode mode∧akPad mode pad=4∧I6.wrap ((s:Int)-1)=(mo:Int)):=by
  have e2:I6.wrap (2*(s:Int))=((2*s:Nat):Int):=by rw[Za _ (by omega)];omega
  have e3:I6.wrap ((s:Int)-1)=((s-1:Nat):Int):=by rw[Za _ (by omega)];omega
  rw[e2,e3]
  by_cases h7:7≤akMode mode
  ·rw[if_pos h7]at hmoE;exact .inl ⟨h7,by rw[hmoE]⟩
  ·rw[if_neg h7]at hmoE
   by_cases h2:2<akMode mode
   ·rw[if_pos h2]at hmoE;exact .inr (.inl ⟨h7,h2,by rw[hmoE];rfl⟩)
   ·rw[if_neg h2]at hmoE
    by_cases h4:akPad mode pad=4
    ·rw[if_neg (by simp[h4])]at hmoE;exact .inr (.inr (.inr (.inr ⟨h7,h2,h4,by rw[hmoE]⟩)))
    ·cases hbk:back
     ·rw[if_neg (by simp[hbk])]at hmoE;exact .inr (.inr (.inr (.inl ⟨h7,h2,h4,rfl,by rw[hmoE]⟩)))
     ·rw[if_pos ⟨h4,hbk⟩]at hmoE;exact .inr (.inr (.inl ⟨h7,h2,h4,rfl,by rw[hmoE]⟩))
 clear hmoE hm0 hgr hmoD hFd hLd hF00
 generalize akMode mode=md at*
 generalize akPad mode pad=pd at*
 generalize ivL md s v=V0 at*
 generalize keyOf (tagOf tag) n k=key at*
 refine⟨[i64 tag,i64 n,i64 mode,i64 pad,bool back,.z lk (bv k),.z li (bv v)],rfl,rfl,?_⟩
 by_cases hf:lk≤100∧li≤100
 ·refine⟨[],_,_,_,_,c_few_y hf,rfl,rfl,?_⟩
  refine⟨[i64 tag,i64 n,i64 mode,i64 pad,bool back,.z lk (bv k),.z li (bv v)],rfl,rfl,?_⟩
  refine⟨[],_,_,_,_,OP,rfl,rfl,?_⟩
  refine⟨[i64 tag,i64 n,i64 mode,i64 pad,bool back,.z lk (bv k),.z li (bv v)],rfl,rfl,?_⟩
  refine⟨[],_,_,_,_,hM,rfl,rfl,?_⟩
  refine⟨Nat.le_of_ble_eq_true rfl,?_⟩
  refine⟨_,rfl,?_⟩
  refine⟨[],_,_,_,_,hR,rfl,rfl,?_⟩
  refine⟨_,rfl,?_⟩
  apply via
  case f=>
   intro LP
   rcases five with ⟨h7,hm⟩|⟨h7,h2,hm⟩|⟨h7,h2,h4,hbk,hm⟩|⟨h7,h2,h4,hbk,hm⟩|⟨h7,h2,h4,hm⟩
   all_goals
    first
     |refine spl_t (decide_eq_true h7) ?_
     |refine spl_f (decide_eq_false h7) ?_
      refine⟨_,rfl,?_⟩
      first
       |refine spl_t (decide_eq_true h2) ?_
       |refine spl_f (decide_eq_false h2) ?_
        refine⟨_,rfl,?_⟩
        first
         |refine spl_t (bne_iff_ne.2 h4) ?_
          refine⟨_,rfl,?_⟩
          first|refine spl_t hbk ?_|refine spl_f hbk ?_
         |refine spl_f (by rw[h4];rfl) ?_
    refine⟨[],_,_,_,_,CU,rfl,rfl,?_⟩
    exact loopN (hxD (cipV (tagOf tag) q xs) (tagOf tag) md pd (cxMd md) back V0 (fun i=>[(7,.p (.k 0) 0),(11,i64 s),(12,i64 mo),(13,i64 (L i)),(14,i64 (F i)),(15,.zz 1 ps.length (ps.map zc)),(16,i64 (i:Nat))]) A) ps.length ⟨[.d 32 0,.d 32 1,.d 32 2,.d 32 3],⟨rfl,rfl,q7i hm,q7i (by rw[hL0];rfl),q7i (by rw[hF00'];rfl),rfl,rfl,trivial⟩,⟨_,rfl,rfl⟩,⟨_,rfl,rfl⟩,⟨_,rfl,rfl⟩,⟨_,rfl,rfl⟩,trivial⟩ LP
  case p=>
   intro i hi
   rcases i with _|i
   ·refine spl_d (fun hlt=> ?_) (fun hge=>absurd hge (by omega))
    have hA1:A (0+1)=(cS (tagOf tag) key s md pd back V0 (catN ps (0+1)),cL (tagOf tag) key s md pd back V0 (catN ps (0+1)),cxH s md pd back (catN ps (0+1))):=by rw[hA]
    have lH:=hHl (0+1)
    obtain⟨q2,q3,w1,w2,w3,w4,w5,hz⟩:=hR3 (0) hpl n0 (by rw[hF00'];exact hF0)
    have r4:=(hhe (0+1)).1
    generalize cS (tagOf tag) key s md pd back V0 (catN ps (0+1))=st2 at*
    generalize cL (tagOf tag) key s md pd back V0 (catN ps (0+1))=la2 at*
    generalize cxH s md pd back (catN ps (0+1))=H2 at*
    obtain⟨ch2,row2,g2⟩:=st2
    rcases row2 with _|⟨a2,r2⟩
    all_goals
     refine⟨by omega,by omega,?_⟩
     refine⟨_,zc_get (i:=0) hpl,?_⟩
     refine⟨[.k 0,.k 1,.k 2,.k 3],_,_,_,_,U0,rfl,rfl,?_⟩
     refine⟨by omega,by omega,?_⟩
     refine⟨_,zc_get (i:=0) hpl,?_⟩
     refine⟨[.k 0,.k 1,.d 80 4,.d 80 5],_,_,_,_,HE _ la2 (.o H2),rfl,rfl,?_⟩
     refine spl_ne (fun hh=>absurd (by rw[w1,w2];show _=I6.wrap (_+((H2.length:Nat):Int));rw[lH,w3]) hh) (fun _=> ?_)
     refine⟨[.k 0,.k 1,.d 80 4,.d 80 5],_,_,_,_,HE _ la2 (.o H2),rfl,rfl,?_⟩
     refine spl_d (fun hh=>absurd hh (by show ¬((H2.length:Nat):Int)>(mo:Int);rw[lH];omega)) (fun _=> ?_)
     refine⟨by omega,?_⟩
     refine spl_ne (fun hne=>spl_d (fun hgt=>absurd hgt (hz (by rw[←w2];exact hne))) (fun _=> ?_)) (fun _=> ?_)
     all_goals
      refine⟨[.k 0,.k 1,.d 80 4,.d 80 5],_,_,_,_,HE _ la2 (.o H2),rfl,rfl,?_⟩
      refine spl_d (fun hh=>absurd hh (by rw[w1,w4];show ¬((H2.length:Nat):Int)<_;rw[lH];exact q3)) (fun _=> ?_)
      refine⟨by omega,by omega,?_⟩
      refine⟨_,zc_get (i:=0) hpl,?_⟩
      refine spl_d (fun hh=>absurd hh (by rw[w5];omega)) (fun _=> ?_)
      refine⟨1,by omega,by omega,Mt_eq (hxD_s hA1) ?_⟩
      exact⟨[.k 0,.k 1,.d 80 4,.d 80 5],⟨rfl,rfl,rfl,q7i w1,q7i w2,rfl,rfl,trivial⟩,⟨_,rfl,rfl⟩,⟨_,rfl,rfl⟩,⟨_,rfl,rfl⟩,⟨_,rfl,rfl⟩,trivial⟩
   ·have hA1:A (i+1)=(cS (tagOf tag) key s md pd back V0 (catN ps (i+1)),cL (tagOf tag) key s md pd back V0 (catN ps (i+1)),cxH s md pd back (catN ps (i+1))):=by rw[hA]
    rw[hxD_s hA1]
    refine spl_d (fun hlt=> ?_) (fun hge=> ?_)
    ·have hl:i+1<ps.length:=by omega
     obtain⟨n1,o1,hn1,hF1,_,V⟩:=hU (i+1) hl (x:= .o (cxH s md pd back (catN ps (i+1)))) (.inr rfl)
     rw[←catN_succ hl]at V hF1
     rw[eF,eF]at hF1
     have hA2:A (i+1+1)=(cS (tagOf tag) key s md pd back V0 (catN ps (i+1+1)),cL (tagOf tag) key s md pd back V0 (catN ps (i+1+1)),cxH s md pd back (catN ps (i+1+1))):=by rw[hA]
     have lH:=hHl (i+1+1)
     obtain⟨q2,q3,w1,w2,w3,w4,w5,hz⟩:=hR3 (i+1) hl n1 hF1
     have r4:=(hhe (i+1+1)).1
     generalize cS (tagOf tag) key s md pd back V0 (catN ps (i+1+1))=st2 at*
     generalize cL (tagOf tag) key s md pd back V0 (catN ps (i+1+1))=la2 at*
     generalize cxH s md pd back (catN ps (i+1+1))=H2 at*
     generalize cS (tagOf tag) key s md pd back V0 (catN ps (i+1))=st3 at*
     generalize cL (tagOf tag) key s md pd back V0 (catN ps (i+1))=la3 at*
     generalize cxH s md pd back (catN ps (i+1))=H3 at*
     obtain⟨ch2,row2,g2⟩:=st2
     obtain⟨ch3,row3,g3⟩:=st3
     rcases V with V|⟨_,V⟩<;>rcases row3 with _|⟨a3,r3⟩<;>rcases row2 with _|⟨a2,r2⟩
     all_goals
      refine⟨by omega,by omega,?_⟩
      refine⟨.z ps[i+1].length (bv ps[i+1]),by rw[Zb];exact zc_get hl,?_⟩
      refine⟨[.k 0,.k 1,.k 2,.k 3],_,_,_,_,V,rfl,rfl,?_⟩
      refine⟨by omega,by omega,?_⟩
      refine⟨.z ps[i+1].length (bv ps[i+1]),by rw[Zb];exact zc_get hl,?_⟩
      first
       |refine⟨[.k 0,.k 1,.d 80 4,.d 80 5],_,_,_,_,HE _ la2 (.o H2),rfl,rfl,?_⟩
        refine spl_ne (fun hh=>absurd (by rw[w1,w2];show _=I6.wrap (_+((H2.length:Nat):Int));rw[lH,w3]) hh) (fun _=> ?_)
        refine⟨[.k 0,.k 1,.d 80 4,.d 80 5],_,_,_,_,HE _ la2 (.o H2),rfl,rfl,?_⟩
        refine spl_d (fun hh=>absurd hh (by show ¬((H2.length:Nat):Int)>(mo:Int);rw[lH];omega)) (fun _=> ?_)
        refine⟨by omega,?_⟩
        refine spl_ne (fun hne=>spl_d (fun hgt=>absurd hgt (hz (by rw[←w2];exact hne))) (fun _=> ?_)) (fun _=> ?_)
        all_goals
         refine⟨[.k 0,.k 1,.d 80 4,.d 80 5],_,_,_,_,HE _ la2 (.o H2),rfl,rfl,?_⟩
         refine spl_d (fun hh=>absurd hh (by rw[w1,w4];show ¬((H2.length:Nat):Int)<_;rw[lH];exact q3)) (fun _=> ?_)
         refine⟨by omega,by omega,?_⟩
         refine⟨.z ps[i+1].length (bv ps[i+1]),by rw[Zb];exact zc_get hl,?_⟩
         refine spl_d (fun hh=>absurd hh (by rw[w5];omega)) (fun _=> ?_)
         refine⟨i+1+1,by omega,by omega,Mt_eq (hxD_s hA2) ?_⟩
         exact⟨[.k 0,.k 1,.d 80 4,.d 80 5],⟨rfl,rfl,rfl,q7i w1,q7i w2,rfl,q7i (by simp(disch:=omega)only[Za];omega),trivial⟩,⟨_,rfl,rfl⟩,⟨_,rfl,rfl⟩,⟨_,rfl,rfl⟩,⟨_,rfl,rfl⟩,trivial⟩
       |refine⟨[.k 0,.k 1,.k 2,.d 80 4],_,_,_,_,HE _ la2 (.o H2),rfl,rfl,?_⟩
        refine spl_ne (fun hh=>absurd (by rw[w1,w2];show _=I6.wrap (_+((H2.length:Nat):Int));rw[lH,w3]) hh) (fun _=> ?_)
        refine⟨[.k 0,.k 1,.k 2,.d 80 4],_,_,_,_,HE _ la2 (.o H2),rfl,rfl,?_⟩
        refine spl_d (fun hh=>absurd hh (by show ¬((H2.length:Nat):Int)>(mo:Int);rw[lH];omega)) (fun _=> ?_)
        refine⟨by omega,?_⟩
        refine spl_ne (fun hne=>spl_d (fun hgt=>absurd hgt (hz (by rw[←w2];exact hne))) (fun _=> ?_)) (fun _=> ?_)
        all_goals
         refine⟨[.k 0,.k 1,.k 2,.d 80 4],_,_,_,_,HE _ la2 (.o H2),rfl,rfl,?_⟩
         refine spl_d (fun hh=>absurd hh (by rw[w1,w4];show ¬((H2.length:Nat):Int)<_;rw[lH];exact q3)) (fun _=> ?_)
         refine⟨by omega,by omega,?_⟩
         refine⟨.z ps[i+1].length (bv ps[i+1]),by rw[Zb];exact zc_get hl,?_⟩
         refine spl_d (fun hh=>absurd hh (by rw[w5];omega)) (fun _=> ?_)
         refine⟨i+1+1,by omega,by omega,Mt_eq (hxD_s hA2) ?_⟩
         exact⟨[.k 0,.k 1,.k 2,.d 80 4],⟨rfl,rfl,rfl,q7i w1,q7i w2,rfl,q7i (by simp(disch:=omega)only[Za];omega),trivial⟩,⟨_,rfl,rfl⟩,⟨_,rfl,rfl⟩,⟨_,rfl,rfl⟩,⟨_,rfl,rfl⟩,trivial⟩
    ·have hn2:i+1=ps.length:=by omega
     rw[show catN ps (i+1)=ps.flatten by rw[hn2];exact catN_all ps]at*
     generalize cS (tagOf tag) key s md pd back V0 ps.flatten=st2 at*
     generalize cL (tagOf tag) key s md pd back V0 ps.flatten=la2 at*
     generalize cxH s md pd back ps.flatten=H2 at*
     obtain⟨ch2,row2,g2⟩:=st2
     rcases row2 with _|⟨a2,r2⟩
     all_goals
      refine⟨[.k 0,.k 1,.k 2,.k 3],_,_,_,_,hF,rfl,rfl,?_⟩
      refine⟨[.k 0,.k 1],_,_,_,_,HC,rfl,rfl,?_⟩
      exact⟨_,rfl,[],congrArg bool (decide_eq_true (by rw[Za _ (by omega)];omega)),trivial⟩
 ·refine⟨[],_,_,_,_,c_few_n hf,rfl,rfl,?_⟩
  exact⟨_,rfl,[],rfl,trivial⟩
end Go.Scr
