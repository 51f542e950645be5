/-
  What the functions that this law alone reaches reckon, up to the law. It is no claim by itself; each contract bears its own conditions.
-/
import Derived.Test.YtggojcedobgnaaaGreatDoorY3
set_option linter.unusedVariables false
set_option linter.unusedSimpArgs false
set_option maxRecDepth 100000
namespace Go.Scr
open Go.Proofs
open IntWalk renaming i64_in → Za
open Nat renaming div_eq_of_lt → Zb, mul_comm → Zc, le_of_ble_eq_true → Ze, add_sub_cancel → Zf, succ_mul → Zh, mul_add_div → Zi, add_zero → Zk
open List renaming replicate → Zd, length_replicate → Zj
open Int renaming toNat_natCast → Zg
open Go.IntKind renaming i64 → I6
abbrev N.law16_CtxHolds:=12
def rt.law16_CtxHolds:Rt:=[(5,[i0 [],i1 [26,27,28,29,30,31] [0],i1 [27,28,29,30,31] [0,1],i0 [],i1 [24,25,26,29,30,31] [3],i2 [30,31] [0,1,2,3,4],i0 [0,1,2,3,4],i2 [31] [0,1,2,3,4,5,6],i0 [0,1,2,3,4,5,6,7],i2 [] [0,1,2,3,4,5,6,7,8]])]
theorem fd.law16_CtxHolds:FnD C 12 rt.law16_CtxHolds Tryz.f12 149:=fk Tryz.func12 (by kernel_rfl)
abbrev con.law16_CtxHolds:=@FnD.c _ _ _ _ _ fd.law16_CtxHolds
theorem kLen_mem {t n:Int} (ht:okTag t):((kLen t n:Nat):Int)∈cLens t:=by
 have hp:=cLens_pos ht
 have h1:=Int.emod_nonneg n (b:=((cLens t).length:Int)) (by omega)
 have h2:=Int.emod_lt_of_pos n (b:=((cLens t).length:Int)) (by omega)
 have hi:(n%((cLens t).length:Int)).toNat<(cLens t).length:=by omega
 have hx:(cLens t).getD (n%((cLens t).length:Int)).toNat 0∈cLens t:=by
  rw[List.getD_eq_getElem?_getD,List.getElem?_eq_getElem hi];exact List.getElem_mem hi
 have h0:0≤(cLens t).getD (n%((cLens t).length:Int)).toNat 0:=by
  have:∀x∈cLens t,0≤x:=by
   rcases ht with rfl|rfl|rfl|rfl|rfl|rfl|rfl|rfl<;>decide
  exact this _ hx
 rw[kLen,Int.toNat_of_nonneg h0];exact hx
theorem ciph_law (tag n:Int) (k:List UInt8):∃s q xs rs,Ciph (tagOf tag) (keyOf (tagOf tag) n k) s q xs rs:=ciph_ok (tagOf_ok _) (by rw[keyOf_len];exact kLen_mem (tagOf_ok _))
theorem ask_ciph (tag n:Int) (k:List UInt8):∃s q xs rs,Ciph (tagOf tag) (keyOf (tagOf tag) n k) s q xs rs:=ciph_law tag n k
theorem cxFr_0 {n:Nat} {mode pad:Int} {iv:List UInt8} {back:Bool} (hn:0<n) (ok:shOk n mode pad iv):cxFr n mode pad back 0=0:=Nat.le_zero.1 (cxFr_ok hn ok 0).1
theorem cxFr_pad {s:Nat} {mode pad:Int} {back:Bool} {L:Nat} (hm:mode=1∨mode=2) (hp:pad≠4):cxFr s mode pad back L=s*((L-(if back=true then s else s-1)+(s-1))/s):=by
 unfold cxFr cxN cxMost
 have e:cxMd mode=mode:=if_neg (by omega)
 rw[e,if_neg (show ¬3≤mode by omega),if_neg (show ¬7≤mode by omega)]
 have g:moGrain s mode=s:=if_pos hm
 rw[g]
 cases back
 ·rw[if_neg (show ¬(pad≠4∧false=true) by simp),if_neg (show ¬(false=true) by decide)]
 ·rw[if_pos (show pad≠4∧true=true from ⟨hp,rfl⟩),if_pos rfl]
theorem fr_back {s n:Nat} (hs:0<s) (hn:0<n):s*((n*s-s+(s-1))/s)=(n-1)*s:=by
 obtain⟨p,rfl⟩:∃p,n=p+1:=⟨n-1,by omega⟩
 rw[Zh,Zf,Zf,Zc p s,Zi hs,Zb (by omega:s-1<s),Zk]
theorem fr_back2 {s n k:Nat} (hs:0<s) (hn:0<n) (h1:0<k) (h2:k≤s):s*((n*s+k-s+(s-1))/s)=n*s:=by
 obtain⟨p,rfl⟩:∃p,n=p+1:=⟨n-1,by omega⟩
 rw[Zh,show p*s+s+k-s+(s-1)=s*p+s*1+(k-1) by rw[Zc p s];omega,←Nat.mul_add,Zi hs,Zb (by omega:k-1<s),Zk,Nat.mul_add,Zc s p,Nat.mul_one]
theorem fr_there {s L:Nat} (hs:0<s):s*((L-(s-1)+(s-1))/s)=L/s*s:=by
 rw[Zc]
 by_cases h:s-1≤L
 ·rw[Nat.sub_add_cancel h]
 ·rw[show L-(s-1)+(s-1)=s-1 by omega,Zb (by omega),Zb (by omega)]
set_option maxHeartbeats 2000000 in
theorem c_cxholds {tag n mode pad w u:Int} {back:Bool} {lk li:Nat} {k v:List UInt8} (h0:In64 tag) (h1:In64 n) (h2:In64 mode) (h3:In64 pad) (hk:k.length=lk) (hi:v.length=li) (hw:In64 w) (hu:In64 u):
  Con C N.law16_CtxHolds [askV tag n mode pad back lk k li v,i64 w,i64 u] [] (.ret (bool true)) []:=by
 obtain⟨s,q,xs,rs,h⟩:=ask_ciph tag n k
 have hs:=h.s_le
 have h2':In64 (mode%2):=by unfold In64;omega
 have h3':In64 (pad%3):=by unfold In64;omega
 have hM:=c_askmake (back:=back) h0 h1 h2' h3' hk hi h.hs hs.2
 have hR:Con C N.r11_Size [i64 (tagOf tag)] [] (.ret (i64 s)) []:=by rw[←h.hs];exact c_r11_size (tagOf_ok _)
 have ok:=ak_ok (mode%2) (pad%3) s v
 have OP:=c_open16 (back:=back) h0 h1 h2' h3' hk hi h
 have hmd:akMode (mode%2)=1∨akMode (mode%2)=2:=by unfold akMode;omega
 have hpd:akPad (mode%2) (pad%3)≠4:=by unfold akPad;rw[if_pos (by omega)];omega
 have W2:=c_w16 (a:=mode) (n:=2) (by omega) (by omega) h2
 have W3:=c_w16 (a:=pad) (n:=3) (by omega) (by omega) h3
 have W6:=c_w16 (a:=w) (n:=6) (by omega) (by omega) hw
 have WS:=c_w16 (a:=u) (n:=(s:Int)) (by omega) (by omega) hu
 obtain⟨p,hp1,hp0,hp6⟩:∃p:Nat,I6.wrap (1+w%6)=(p:Int)∧0<p∧p≤6:=⟨(1+w%6).toNat,by rw[Za _ (by omega)];omega,by omega,by omega⟩
 obtain⟨j,hj1,hj0,hjs⟩:∃j:Nat,I6.wrap (1+u%(s:Int))=(j:Int)∧0<j∧j≤s:=by
  have a1:=Int.emod_nonneg u (show (s:Int)≠0 by omega)
  have a2:=Int.emod_lt_of_pos u (show 0<(s:Int) by omega)
  exact⟨(1+u%(s:Int)).toNat,by rw[Za _ (by omega)];omega,by omega,by omega⟩
 obtain⟨t,ht⟩:∃t,t=p*s:=⟨_,rfl⟩
 have htb:t≤96:=by rw[ht];exact Nat.mul_le_mul hp6 hs.2
 have hts:s≤t:=by rw[ht];exact Nat.le_mul_of_pos_left s hp0
 have et:I6.wrap ((p:Int)*(s:Int))=(t:Int):=by rw[show (p:Int)*(s:Int)=((p*s:Nat):Int) by push_cast;rfl,←ht,Za _ (by omega)]
 have et1:I6.wrap (I6.wrap ((p:Int)-1)*(s:Int))=((t-s:Nat):Int):=by
  rw[Za _ (by omega: -9223372036854775808≤(p:Int)-1∧(p:Int)-1≤9223372036854775807),show((p:Int)-1)*(s:Int)=((t-s:Nat):Int) by
   obtain⟨o,rfl⟩:∃o,p=o+1:=⟨p-1,by omega⟩
   rw[ht,Zh,Zf];push_cast;rw[Int.add_sub_cancel],Za _ (by omega)]
 obtain⟨z,hz⟩:∃z:List UInt8,z=Zd t 0:=⟨_,rfl⟩
 have lz:z.length=t:=by rw[hz,Zj]
 obtain⟨y,hy⟩:∃y:List UInt8,y=Zd j 0:=⟨_,rfl⟩
 have ly:y.length=j:=by rw[hy,Zj]
 obtain⟨a,o,hn,hF,_,U⟩:=cx_up h (back:=back) (iv:=ivL (akMode (mode%2)) s v) (M:=[]) (b:=z) (x:= .n) ok (.inl ⟨rfl,cxH_0⟩) lz (by simp;omega)
 obtain⟨a',o',hn',hF',_,U'⟩:=cx_up h (back:=back) (iv:=ivL (akMode (mode%2)) s v) (M:=z) (b:=y) (x:= .o (cxH s (akMode (mode%2)) (akPad (mode%2) (pad%3)) back z)) ok (.inr rfl) ly (by omega)
 have U:=U.resolve_right (fun hh=>hh.1 (by rw[cS_0' (by omega) ok]))
 have U':=U'.resolve_right (fun hh=>hh.1 ((cS_ok h ok).ok.blk (by rw[show cxMd (akMode (mode%2))=akMode (mode%2) from if_neg (by omega)];exact hmd)))
 rw[cL_0 (by omega) ok,cS_0' (by omega) ok,List.nil_append]at U
 rw[List.nil_append,List.length_nil,cxFr_0 (by omega) ok]at hF
 have l1:=cxH_len (n:=s) (mode:=akMode (mode%2)) (pad:=akPad (mode%2) (pad%3)) (back:=back) z
 have l2:=cxH_len (n:=s) (mode:=akMode (mode%2)) (pad:=akPad (mode%2) (pad%3)) (back:=back) (z++y)
 have HE:=fun(st:MS) (l H:List UInt8)=>c_cxheld (t:=tagOf tag) (mode:=akMode (mode%2)) (pad:=akPad (mode%2) (pad%3)) (md:=cxMd (akMode (mode%2))) (op:=true) (back:=back) (k:=q) (xs:=xs) (iv:=ivL (akMode (mode%2)) s v) (last:=l) (st:=st) (x:= .o H)
 have f1:cxFr s (akMode (mode%2)) (akPad (mode%2) (pad%3)) back z.length=if back=true then t-s else t:=by
  rw[cxFr_pad hmd hpd,lz,ht]
  cases back
  ·rw[if_neg (by decide),if_neg (by decide),fr_there (by omega),Nat.mul_div_cancel _ (by omega)]
  ·rw[if_pos rfl,if_pos rfl,fr_back (by omega) hp0,Nat.sub_mul,Nat.one_mul]
 have f2:cxFr s (akMode (mode%2)) (akPad (mode%2) (pad%3)) back (z++y).length=if back=true then t else if j=s then t+s else t:=by
  rw[cxFr_pad hmd hpd,List.length_append,lz,ly,ht]
  cases back
  ·rw[if_neg (by decide),if_neg (by decide),fr_there (by omega)]
   by_cases hjs':j=s
   ·rw[if_pos hjs',hjs',←Zh,Nat.mul_div_cancel _ (by omega)]
   ·rw[if_neg hjs',Zc p s,Zi (by omega),Zb (by omega),Zk,Zc]
  ·rw[if_pos rfl,if_pos rfl,fr_back2 (by omega) hp0 hj0 hjs]
 rw[f1]at hF hF' l1
 rw[f2]at hF' l2
 rw[lz]at l1
 rw[List.length_append,lz,ly]at l2
 generalize cL (tagOf tag) (keyOf (tagOf tag) n k) s (akMode (mode%2)) (akPad (mode%2) (pad%3)) back (ivL (akMode (mode%2)) s v) (z++y)=la2 at*
 generalize cxH s (akMode (mode%2)) (akPad (mode%2) (pad%3)) back (z++y)=H2 at*
 generalize cS (tagOf tag) (keyOf (tagOf tag) n k) s (akMode (mode%2)) (akPad (mode%2) (pad%3)) back (ivL (akMode (mode%2)) s v) (z++y)=st2 at*
 generalize cL (tagOf tag) (keyOf (tagOf tag) n k) s (akMode (mode%2)) (akPad (mode%2) (pad%3)) back (ivL (akMode (mode%2)) s v) z=la at*
 generalize cxH s (akMode (mode%2)) (akPad (mode%2) (pad%3)) back z=H1 at*
 have hrow:=(cS_ok h (back:=back) (M:=z) ok).ok.blk (by rw[show cxMd (akMode (mode%2))=akMode (mode%2) from if_neg (by omega)];exact hmd)
 generalize cS (tagOf tag) (keyOf (tagOf tag) n k) s (akMode (mode%2)) (akPad (mode%2) (pad%3)) back (ivL (akMode (mode%2)) s v) z=st1 at*
 generalize akMode (mode%2)=md at*
 generalize akPad (mode%2) (pad%3)=pd at*
 generalize ivL md s v=V0 at*
 generalize keyOf (tagOf tag) n k=key at*
 refine con.law16_CtxHolds ?_
 refine⟨[],_,_,_,_,c_known16,rfl,rfl,?_⟩
 refine⟨[i64 tag,i64 n,i64 mode,i64 pad,bool back,.z lk (bv k),.z li (bv v)],rfl,rfl,?_⟩
 by_cases hf:lk≤100∧li≤100
 ·refine⟨[],_,_,_,_,c_few_y hf,rfl,rfl,?_⟩
  refine⟨_,rfl,?_⟩
  refine⟨[],_,_,_,_,W2,rfl,rfl,?_⟩
  refine⟨_,rfl,?_⟩
  refine⟨[],_,_,_,_,W3,rfl,rfl,?_⟩
  refine⟨Ze rfl,?_⟩
  refine⟨Ze rfl,?_⟩
  refine⟨[i64 tag,i64 n,i64 (mode%2),i64 (pad%3),bool back,.z lk (bv k),.z li (bv v)],rfl,rfl,?_⟩
  refine⟨[],_,_,_,_,hM,rfl,rfl,?_⟩
  refine⟨Ze rfl,?_⟩
  refine⟨_,rfl,?_⟩
  refine⟨[],_,_,_,_,hR,rfl,rfl,?_⟩
  refine⟨[i64 tag,i64 n,i64 (mode%2),i64 (pad%3),bool back,.z lk (bv k),.z li (bv v)],rfl,rfl,?_⟩
  refine⟨[],_,_,_,_,OP,rfl,rfl,?_⟩
  refine⟨[],_,_,_,_,W6,rfl,rfl,?_⟩
  refine⟨by rw[hp1,et];omega,by rw[hp1,et];omega,by rw[hp1,et];omega,?_⟩
  obtain⟨ch,row,g⟩:=st1
  obtain rfl:row=[]:=hrow
  refine⟨[.d 42 0,.d 42 1,.d 42 2,.d 42 3],_,_,_,_,U,?_,rfl,?_⟩
  ·show[V.p (.k 0) 0,V.z (I6.wrap (I6.wrap (1+w%6)*(s:Int))).toNat (sub (Zd (I6.wrap (I6.wrap (1+w%6)*(s:Int))).toNat (Value.int .u8 0)) 0 (I6.wrap (I6.wrap (1+w%6)*(s:Int))).toNat)]=_
   rw[hp1,et,Zg,bv_rep,←hz,bv_all lz]
  cases back
  ·simp only[Bool.false_eq_true,if_false]at hF hF' l1 l2
   obtain rfl:t=a:=by omega
   have hz1:H1.length=0:=by omega
   refine⟨_,rfl,?_⟩
   refine⟨_,rfl,?_⟩
   refine spl_ne (fun hh=>absurd (by rw[hp1,et]) hh) (fun _=> ?_)
   refine⟨[.d 42 0,.d 42 1,.d 54 4,.d 54 5],_,_,_,_,HE _ la H1,rfl,rfl,?_⟩
   refine spl_ne (fun hh=>absurd (show ((H1.length:Nat):Int)=0 by omega) hh) (fun _=> ?_)
   refine⟨[],_,_,_,_,WS,rfl,rfl,?_⟩
   refine⟨by rw[hj1];omega,by rw[hj1];omega,by rw[hj1];omega,?_⟩
   obtain⟨ch2,row2,g2⟩:=st2
   rcases row2 with _|⟨a2,r2⟩
   all_goals
    refine⟨[.d 42 0,.d 42 1,.d 54 4,.d 54 5],_,_,_,_,U',?_,rfl,?_⟩
    ·show[V.p (.k 0) 0,V.z (I6.wrap (1+u%(s:Int))).toNat (sub (Zd (I6.wrap (1+u%(s:Int))).toNat (Value.int .u8 0)) 0 (I6.wrap (1+u%(s:Int))).toNat)]=_
     rw[hj1,Zg,bv_rep,←hy,bv_all ly]
    refine⟨_,rfl,?_⟩
    refine spl_eq (fun hjE=> ?_) (fun hjE=> ?_)
    ·have hj2:j=s:=by rw[hj1]at hjE;omega
     rw[if_pos hj2]at hF' l2
     obtain rfl:s=a':=by omega
     refine⟨_,rfl,?_⟩
     refine⟨_,rfl,?_⟩
     refine spl_eq (fun _=> ?_) (fun hh=>absurd rfl hh)
     refine⟨[.d 42 0,.d 42 1,.d 100 4,.d 100 5],_,_,_,_,HE _ la2 H2,rfl,rfl,?_⟩
     exact⟨_,rfl,[],congrArg bool (decide_eq_true (by rw[hj1,Za _ (by omega)];show((H2.length:Nat):Int)=_;omega)),trivial⟩
    ·have hj2:j≠s:=fun e=>hjE (by rw[hj1,e])
     rw[if_neg hj2]at hF' l2
     obtain rfl:a'=0:=by omega
     refine⟨_,rfl,?_⟩
     refine⟨_,rfl,?_⟩
     refine⟨[.d 42 0,.d 42 1,.d 100 4,.d 100 5],_,_,_,_,HE _ la2 H2,rfl,rfl,?_⟩
     exact⟨_,rfl,[],congrArg bool (decide_eq_true (by rw[hj1,Za _ (by omega)];show((H2.length:Nat):Int)=_;omega)),trivial⟩
  ·simp only[if_true]at hF hF' l1 l2
   obtain rfl:a=t-s:=by omega
   obtain rfl:s=a':=by omega
   have hz1:H1.length=s:=by omega
   refine⟨_,rfl,?_⟩
   refine spl_ne (fun hh=>absurd (by rw[hp1,et1]) hh) (fun _=> ?_)
   refine⟨[.d 42 0,.d 42 1,.d 54 4,.d 54 5],_,_,_,_,HE _ la H1,rfl,rfl,?_⟩
   refine spl_ne (fun hh=>absurd (show ((H1.length:Nat):Int)=_ by omega) hh) (fun _=> ?_)
   refine⟨_,rfl,?_⟩
   refine⟨[],_,_,_,_,WS,rfl,rfl,?_⟩
   refine⟨by rw[hj1];omega,by rw[hj1];omega,by rw[hj1];omega,?_⟩
   obtain⟨ch2,row2,g2⟩:=st2
   rcases row2 with _|⟨a2,r2⟩
   all_goals
    refine⟨[.d 42 0,.d 42 1,.d 54 4,.d 54 5],_,_,_,_,U',?_,rfl,?_⟩
    ·show[V.p (.k 0) 0,V.z (I6.wrap (1+u%(s:Int))).toNat (sub (Zd (I6.wrap (1+u%(s:Int))).toNat (Value.int .u8 0)) 0 (I6.wrap (1+u%(s:Int))).toNat)]=_
     rw[hj1,Zg,bv_rep,←hy,bv_all ly]
    refine⟨_,rfl,?_⟩
    refine⟨_,rfl,?_⟩
    refine spl_d (fun hjL=> ?_) (fun hjL=> ?_)
    ·refine spl_eq (fun _=> ?_) (fun hh=>absurd rfl hh)
     refine⟨[.d 42 0,.d 42 1,.d 100 4,.d 100 5],_,_,_,_,HE _ la2 H2,rfl,rfl,?_⟩
     exact⟨_,rfl,[],congrArg bool (decide_eq_true (by rw[hj1];show((H2.length:Nat):Int)=_;omega)),trivial⟩
    ·refine⟨_,rfl,?_⟩
     refine spl_eq (fun hjE=> ?_) (fun hjE=>absurd (by rw[hj1]at hjL ⊢;omega) hjE)
     refine spl_eq (fun _=> ?_) (fun hh=>absurd rfl hh)
     refine⟨[.d 42 0,.d 42 1,.d 100 4,.d 100 5],_,_,_,_,HE _ la2 H2,rfl,rfl,?_⟩
     exact⟨_,rfl,[],congrArg bool (decide_eq_true (by rw[hj1];show((H2.length:Nat):Int)=_;omega)),trivial⟩
 ·refine⟨[],_,_,_,_,c_few_n hf,rfl,rfl,?_⟩
  exact⟨_,rfl,[],rfl,trivial⟩
end Go.Scr
