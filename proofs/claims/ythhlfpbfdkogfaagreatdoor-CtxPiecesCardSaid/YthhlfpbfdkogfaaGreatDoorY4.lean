/-
  What the functions of the given program reckon, each by a contract, up to the law. It is no claim by itself; each contract bears its own conditions.
-/
import Derived.Test.YthhlfpbfdkogfaaGreatDoorY3
set_option linter.unusedVariables false
set_option linter.unusedSimpArgs false
set_option maxRecDepth 100000
namespace Go.Scr
open Go.Proofs
open Nat renaming le_of_ble_eq_true → Za, mul_le_mul_left → Zf, mul_one → Zi, mod_self → Zj, zero_le → Zk, le_trans → Zl, le_of_not_lt → Zm, le_refl → Zn, div_self → Zq, le_antisymm → Zr, sub_succ_lt_self → Zt, mul_succ → Zv, mul_mod_right → Zw, zero_add → Z4, min_eq_left → Z5
open Int renaming toNat_natCast → Zb, tmod_eq_emod_of_nonneg → Z3, le_refl → Z8
open List renaming length_append → Zc, length_take → Ze, length_drop → Zg, eq_nil_of_length_eq_zero → Zh, getElem?_eq_getElem → Zo, getElem_mem → Zp, flatMap_cons → Zs, take_add_one → Zx, take_length → Zy, nil_append → Zz, map_append → Z0, flatMap_append → Z1, drop_drop → Z2, length_map → Z6, take_take → Z7, take_nil → Z9, mem_cons → Ja
open IntWalk renaming i64_in → Zd
open Option renaming toList_some → Zu
open Go.IntKind renaming i64 → I6
theorem Lq {t key s k xs rs} (h:k5 t key s k xs rs) {mode pad md:Int} {back:Bool} {iv a9 b:Bs} {st:MS} {x:HK} {m L n0 at':Nat} (hx:x= .n\/∃H,x= .o H) (hb:b.length=m) (hL:x.l.length+m=L) (hLb:L<=100000) (K:MK s md st) (hm:mode<=9)
  (hN:n0=F9 (r8 s md) (B8 s md mode pad back) L) (hat:at'=r8 s md*n0) (hne:0<at'\/st.row=[]):
  b9 C 33 [.p (.k 0) 0,.z m (bv b)] [m8 true t mode pad back k xs iv x a9,j7 (f9 t k xs) md back st 2,j5 st.row st.gone,x.b]
   (.ret (.t [.z at' (bv (k9 (cF t key false) (cF t key true) s md back st ((x.l++b).take at')).1),i64 0]))
   [p8 true true t mode pad back (f9 t k xs) (.z iv.length (bv iv)) (.p (.k 1) 0) (.o 1 (.k 5) 0 (L-at')) (.z (E3 s mode back ((x.l++b).take at') (k9 (cF t key false) (cF t key true) s md back st ((x.l++b).take at')).1 a9).length (bv (E3 s mode back ((x.l++b).take at') (k9 (cF t key false) (cF t key true) s md back st ((x.l++b).take at')).1 a9))),
    j7 (f9 t k xs) md back (k9 (cF t key false) (cF t key true) s md back st ((x.l++b).take at')).2 4,.dead,.dead,j5 (k9 (cF t key false) (cF t key true) s md back st ((x.l++b).take at')).2.row (k9 (cF t key false) (cF t key true) s md back st ((x.l++b).take at')).2.gone,.sc (bv ((x.l++b).drop at'))]:=by
 have hs:=h.s_le;have hg0:0<r8 s md:=by unfold r8;split<;>omega
 have hgm:r8 s md-1<=B8 s md mode pad back:=by
  have:=K.ok.m;unfold r8 B8;by_cases h3:3<=md
  ·rw[if_neg (by omega),if_pos h3];omega
  ·rw[if_pos (by omega),if_neg h3];split<;>(try split)<;>omega
 have hle:=nM (L:=L) hg0 hgm;have d8:=fun i=>bL (most:=B8 s md mode pad back) (L:=L) (i:=i) hg0;rw[<-hN]at hle d8;have G:=ut h (back:=back) K;have hz:at'%r8 s md=0:=by rw[hat];exact Zw _ _
 have lB:(x.l++b).length=L:=by rw[Zc,hb,hL]
 have lT:((x.l++b).take at').length=at':=by rw[Ze];omega
 have lD:((x.l++b).drop at').length=L-at':=by rw[Zg,lB]
 have NE:=kH (t:=t) (mode:=mode) (pad:=pad) (md:=md) (back:=back) (k:=k) (xs:=xs) (iv:=iv) (a9:=a9) (st:=st) (x:=x);have MO:∀(n':Nat) (vb:List Value),(∃H:Bs,n'=H.length/\vb=bv H)->b9 C 95 [.p (.k 0) 0] [p8 true true t mode pad back (f9 t k xs) (.z iv.length (bv iv)) (.p (.k 1) 0) (.o 1 (.k 3) 0 n') (.z a9.length (bv a9)),j7 (f9 t k xs) md back st 2,j5 st.row st.gone,.sc vb] (.ret (i64 (B8 s md mode pad back))) [p8 true true t mode pad back (f9 t k xs) (.z iv.length (bv iv)) (.p (.k 1) 0) (.o 1 (.k 3) 0 n') (.z a9.length (bv a9)),j7 (f9 t k xs) md back st 2,j5 st.row st.gone,.sc vb]:=by
  rintro _ _ ⟨H,rfl,rfl⟩;exact zy h (mode:=mode) (pad:=pad) (op:=true) (back:=back) (iv:=iv) (a9:=a9) (x:= .o H) K hm
 have TU:=Lm h (op:=true) (back:=back) (pad:=pad) (iv:=iv) (a9:=a9) (H:=x.l++b) (b:=(x.l++b).take at') lT (by omega) K hm hz hne;generalize k9 (cF t key false) (cF t key true) s md back st ((x.l++b).take at')=S0 at*
 obtain⟨o,c1,row1,g1⟩:=S0;dsimp only[m8,HK.v,HK.b]at TU ⊢;rw[lB]at TU;generalize E3 s mode back ((x.l++b).take at') o a9=la at*
 generalize hgr:r8 s md=gr at*
 generalize B8 s md mode pad back=mo at*
 obtain⟨ch,row,g⟩:=st;rcases hx with rfl|⟨H,rfl⟩<;>dsimp only[HK.l,HK.v,HK.b,Zz]at*
 ·have hmL:m=L:=by simpa using hL
  refine lh.d af ?_;refine⟨⟨[(0,.p (.k 0) 0),(1,.z m (bv b)),(4,.p (.k 4) 0),(5,.p (.k 5) 0)],[p8 true true t mode pad back (f9 t k xs) (.z iv.length (bv iv)) (.p (.k 1) 0) (g9) (.z a9.length (bv a9)),j7 (f9 t k xs) md back ⟨ch,row,g⟩ 2,j5 row g,.dead,.sc [.slice none 0 0],.sc [.int .i64 0]]⟩,4,5,by decide,⟨[.k 0,.k 1,.k 2,.k 3,.d 4 0,.d 5 0],⟨rfl,rfl,rfl,rfl,tq⟩,⟨_,rfl,rfl⟩,⟨_,rfl,by cases row<;>rfl⟩,⟨_,rfl,by cases row<;>rfl⟩,⟨_,rfl,rfl⟩,⟨_,rfl,rfl⟩,⟨_,rfl,rfl⟩,tq⟩,rfl,rfl,rfl,?_⟩;refine⟨0,Nat,fun i=>⟨[(0,.p (.k 0) 0),(4,.p (.k 4) 0),(5,.p (.k 5) 0),(6,i64 (gr*i:Nat)),(7,i64 mo),(8,i64 gr)],[p8 true true t mode pad back (f9 t k xs) (.z iv.length (bv iv)) (.p (.k 1) 0) (.z L (bv b)) (.z a9.length (bv a9)),j7 (f9 t k xs) md back ⟨ch,row,g⟩ 2,j5 row g,.dead,.sc [.slice none 0 0],.sc [.int .i64 0]]⟩,fun i=>i<=n0,fun i=>n0-i,?_,fun i hi=> ?_⟩
  ·rcases row with _|⟨a,r⟩;all_goals
    refine⟨[.k 0,.k 1,.k 2,.k 3],_,_,_,_,NE,rfl,rfl,?_⟩;refine⟨_,rfl,?_⟩;refine⟨by rw[j6,hb],by omega,?_⟩;refine⟨Za rfl,?_⟩;refine⟨[.k 0,.k 1,.k 2,.d 17 0],_,_,_,_,MO (m) (bv b) ⟨b,hb.symm,rfl⟩,rfl,rfl,?_⟩;refine cD rfl ?_;refine cD (V7 rfl rfl (V7 rfl rfl (V7 rfl rfl (V7 rfl rfl rfl)))) ?_;refine⟨_,rfl,?_⟩;refine⟨[.k 1,.k 2],_,_,_,_,G,rfl,rfl,?_⟩;refine⟨[],0,Zk _,[.k 0,.k 1,.k 2,.k 3,.k 4,.k 5],⟨rfl,rfl,rfl,rfl,rfl,rfl,tq⟩,⟨_,rfl,?_⟩,⟨_,rfl,rfl⟩,⟨_,rfl,rfl⟩,⟨_,rfl,rfl⟩,⟨_,rfl,rfl⟩,⟨_,rfl,rfl⟩,tq⟩;show p8 true true t mode pad back (f9 t k xs) (.z iv.length (bv iv)) (.p (.k 1) 0) (.z (m) (sub (bv b) 0 (m))) (.z a9.length (bv a9))=_;rw[g8 hb,hmL]
  ·rcases row with _|⟨a,r⟩<;>rcases row1 with _|⟨a1,r1⟩;all_goals
    have e1:gr*i<=L:=Zl (Zf gr hi) hle;refine⟨_,rfl,?_⟩;refine d9 (fun hc=> ?_) (fun hc=> ?_)
    ·have hc':(mo:Int)<I6.wrap ((L:Int)-((gr*i:Nat):Int)):=hc;rw[Zd _ (by omega)]at hc';have hli:i<n0:=(d8 i).2 (by omega);have hle2:gr*(i+1)<=L:=Zl (Zf gr hli) hle;refine⟨rfl,i+1,hli,Zt _ _ hli,[.k 0,.k 1,.k 2,.k 3,.k 4,.k 5],⟨rfl,rfl,rfl,f8 ?_,rfl,rfl,tq⟩,⟨_,rfl,rfl⟩,⟨_,rfl,rfl⟩,⟨_,rfl,rfl⟩,⟨_,rfl,rfl⟩,⟨_,rfl,rfl⟩,⟨_,rfl,rfl⟩,tq⟩;rw[Zv]at hle2 ⊢;rw[Zd _ (by omega)];omega
    ·have hc':¬(mo:Int)<I6.wrap ((L:Int)-((gr*i:Nat):Int)):=hc;rw[Zd _ (by omega)]at hc';obtain rfl:i=n0:=Zr hi (Zm fun hh=>by have:=(d8 i).1 hh;omega);refine⟨_,rfl,?_⟩;refine⟨by omega,by omega,by omega,by omega,?_⟩;refine⟨[.k 0,.k 1,.k 2,.k 3],_,_,_,_,TU,?_,rfl,?_⟩
     ·show[V.p (.k 0) 0,V.z ((gr*i:Nat):Int).toNat (sub (bv b) 0 ((gr*i:Nat):Int).toNat)]=_;rw[Zb,<-hat];exact congrArg (fun v=>[V.p (.k 0) 0,V.z at' v]) (o6 _ 0 at')
     refine⟨Za rfl,?_⟩;refine⟨_,rfl,?_⟩;refine⟨by omega,by omega,by omega,by omega,?_⟩;refine⟨[],_,_,_,_,pM (n:=L-at') (l:=b.drop at') rfl lD (by omega),?_,rfl,?_⟩
     ·show[V.z (L-((gr*i:Nat):Int).toNat) (sub (bv b) ((gr*i:Nat):Int).toNat (L-((gr*i:Nat):Int).toNat))]=_;rw[Zb,<-hat,A3 lB (by omega)]
     refine⟨Za rfl,?_⟩;refine⟨_,rfl,?_⟩;refine⟨Za rfl,?_⟩;refine⟨Za rfl,?_⟩;refine⟨_,rfl,_,rfl,?_⟩;refine⟨_,_,?_,.ret (.refl _),x7.refl _⟩;exact⟨_,rfl,[.k 0,.k 1,.k 2,.k 3,.d 46 4,.d 54 0],rfl,⟨_,rfl,rfl⟩,⟨_,rfl,rfl⟩,⟨_,rfl,rfl⟩,⟨_,rfl,rfl⟩,⟨_,rfl,rfl⟩,⟨_,rfl,rfl⟩,tq⟩
 ·refine lh.d af ?_;refine⟨⟨[(0,.p (.k 0) 0),(1,.z m (bv b)),(4,.p (.k 4) 0),(5,.p (.k 5) 0)],[p8 true true t mode pad back (f9 t k xs) (.z iv.length (bv iv)) (.p (.k 1) 0) (.o 1 (.k 3) 0 H.length) (.z a9.length (bv a9)),j7 (f9 t k xs) md back ⟨ch,row,g⟩ 2,j5 row g,.sc (bv H),.sc [.slice none 0 0],.sc [.int .i64 0]]⟩,4,5,by decide,⟨[.k 0,.k 1,.k 2,.k 3,.d 4 0,.d 5 0],⟨rfl,rfl,rfl,rfl,tq⟩,⟨_,rfl,rfl⟩,⟨_,rfl,by cases row<;>rfl⟩,⟨_,rfl,by cases row<;>rfl⟩,⟨_,rfl,rfl⟩,⟨_,rfl,rfl⟩,⟨_,rfl,rfl⟩,tq⟩,rfl,rfl,rfl,?_⟩;refine⟨0,Nat,fun i=>⟨[(0,.p (.k 0) 0),(4,.p (.k 4) 0),(5,.p (.k 5) 0),(6,i64 (gr*i:Nat)),(7,i64 mo),(8,i64 gr)],[p8 true true t mode pad back (f9 t k xs) (.z iv.length (bv iv)) (.p (.k 1) 0) (.z L (bv (H++b))) (.z a9.length (bv a9)),j7 (f9 t k xs) md back ⟨ch,row,g⟩ 2,j5 row g,.dead,.sc [.slice none 0 0],.sc [.int .i64 0]]⟩,fun i=>i<=n0,fun i=>n0-i,?_,fun i hi=> ?_⟩
  ·rcases row with _|⟨a,r⟩;all_goals
    refine⟨[.k 0,.k 1,.k 2,.k 3],_,_,_,_,NE,rfl,rfl,?_⟩;refine⟨_,rfl,?_⟩;refine⟨by rw[j6,hb],by omega,by rw[j6];omega,?_⟩;refine⟨Za rfl,?_⟩;refine⟨[.k 0,.k 1,.k 2,.d 17 0],_,_,_,_,MO (H.length+m) (sub (bv H) 0 (H.length*1)++bv b) ⟨(H++b),by rw[Zc,hb],by rw[Zi,g8 rfl,B7]⟩,rfl,rfl,?_⟩;refine cD rfl ?_;refine cD (V7 rfl rfl (V7 rfl rfl (V7 rfl rfl (V7 rfl rfl rfl)))) ?_;refine⟨_,rfl,?_⟩;refine⟨[.k 1,.k 2],_,_,_,_,G,rfl,rfl,?_⟩;refine⟨[],0,Zk _,[.k 0,.k 1,.k 2,.k 3,.k 4,.k 5],⟨rfl,rfl,rfl,rfl,rfl,rfl,tq⟩,⟨_,rfl,?_⟩,⟨_,rfl,rfl⟩,⟨_,rfl,rfl⟩,⟨_,rfl,rfl⟩,⟨_,rfl,rfl⟩,⟨_,rfl,rfl⟩,tq⟩;show p8 true true t mode pad back (f9 t k xs) (.z iv.length (bv iv)) (.p (.k 1) 0) (.z (H.length+m) (sub (sub (bv H) 0 (H.length*1)++bv b) 0 (H.length+m))) (.z a9.length (bv a9))=_;rw[Zi,g8 rfl,B7,g8 (by rw[Zc,hb]),hL]
  ·rcases row with _|⟨a,r⟩<;>rcases row1 with _|⟨a1,r1⟩;all_goals
    have e1:gr*i<=L:=Zl (Zf gr hi) hle;refine⟨_,rfl,?_⟩;refine d9 (fun hc=> ?_) (fun hc=> ?_)
    ·have hc':(mo:Int)<I6.wrap ((L:Int)-((gr*i:Nat):Int)):=hc;rw[Zd _ (by omega)]at hc';have hli:i<n0:=(d8 i).2 (by omega);have hle2:gr*(i+1)<=L:=Zl (Zf gr hli) hle;refine⟨rfl,i+1,hli,Zt _ _ hli,[.k 0,.k 1,.k 2,.k 3,.k 4,.k 5],⟨rfl,rfl,rfl,f8 ?_,rfl,rfl,tq⟩,⟨_,rfl,rfl⟩,⟨_,rfl,rfl⟩,⟨_,rfl,rfl⟩,⟨_,rfl,rfl⟩,⟨_,rfl,rfl⟩,⟨_,rfl,rfl⟩,tq⟩;rw[Zv]at hle2 ⊢;rw[Zd _ (by omega)];omega
    ·have hc':¬(mo:Int)<I6.wrap ((L:Int)-((gr*i:Nat):Int)):=hc;rw[Zd _ (by omega)]at hc';obtain rfl:i=n0:=Zr hi (Zm fun hh=>by have:=(d8 i).1 hh;omega);refine⟨_,rfl,?_⟩;refine⟨by omega,by omega,by omega,by omega,?_⟩;refine⟨[.k 0,.k 1,.k 2,.k 3],_,_,_,_,TU,?_,rfl,?_⟩
     ·show[V.p (.k 0) 0,V.z ((gr*i:Nat):Int).toNat (sub (bv (H++b)) 0 ((gr*i:Nat):Int).toNat)]=_;rw[Zb,<-hat];exact congrArg (fun v=>[V.p (.k 0) 0,V.z at' v]) (o6 _ 0 at')
     refine⟨Za rfl,?_⟩;refine⟨_,rfl,?_⟩;refine⟨by omega,by omega,by omega,by omega,?_⟩;refine⟨[],_,_,_,_,pM (n:=L-at') (l:=(H++b).drop at') rfl lD (by omega),?_,rfl,?_⟩
     ·show[V.z (L-((gr*i:Nat):Int).toNat) (sub (bv (H++b)) ((gr*i:Nat):Int).toNat (L-((gr*i:Nat):Int).toNat))]=_;rw[Zb,<-hat,A3 lB (by omega)]
     refine⟨Za rfl,?_⟩;refine⟨_,rfl,?_⟩;refine⟨Za rfl,?_⟩;refine⟨Za rfl,?_⟩;refine⟨_,rfl,_,rfl,?_⟩;refine⟨_,_,?_,.ret (.refl _),x7.refl _⟩;exact⟨_,rfl,[.k 0,.k 1,.k 2,.k 3,.d 46 4,.d 54 0],rfl,⟨_,rfl,rfl⟩,⟨_,rfl,rfl⟩,⟨_,rfl,rfl⟩,⟨_,rfl,rfl⟩,⟨_,rfl,rfl⟩,⟨_,rfl,rfl⟩,tq⟩
theorem Lr {t key s k xs rs} (h:k5 t key s k xs rs) {mode pad md:Int} {back:Bool} {iv a9 b:Bs} {st:MS} {x:HK} {m L n0 at':Nat} (hx:x= .n\/∃H,x= .o H) (hb:b.length=m) (hL:x.l.length+m=L) (hL0:L=0) (h3:3<=md) (K:MK s md st) (hm:mode<=9)
  (hN:n0=F9 (r8 s md) (B8 s md mode pad back) L) (hat:at'=r8 s md*n0):
  b9 C 33 [.p (.k 0) 0,.z m (bv b)] [m8 true t mode pad back k xs iv x a9,j7 (f9 t k xs) md back st 2,j5 st.row st.gone,x.b]
   (.ret (.t [.z 0 [],i64 0]))
   [p8 true true t mode pad back (f9 t k xs) (.z iv.length (bv iv)) (.p (.k 1) 0) (.o 1 (.k 4) 0 0) (.z a9.length (bv a9)),
    j7 (f9 t k xs) md back st 2,j5 st.row st.gone,.dead,.sc []]:=by
 have hs:=h.s_le;have hg0:0<r8 s md:=by unfold r8;split<;>omega
 have hgm:r8 s md-1<=B8 s md mode pad back:=by
  have:=K.ok.m;unfold r8 B8;by_cases h3:3<=md
  ·rw[if_neg (by omega),if_pos h3];omega
  ·rw[if_pos (by omega),if_neg h3];split<;>(try split)<;>omega
 have hLb:L<=100000:=by omega
 have hle:=nM (L:=L) hg0 hgm;have d8:=fun i=>bL (most:=B8 s md mode pad back) (L:=L) (i:=i) hg0;rw[<-hN]at hle d8;have G:=ut h (back:=back) K;have hz:at'%r8 s md=0:=by rw[hat];exact Zw _ _
 have lB:(x.l++b).length=L:=by rw[Zc,hb,hL]
 have lT:((x.l++b).take at').length=at':=by rw[Ze];omega
 have lD:((x.l++b).drop at').length=L-at':=by rw[Zg,lB]
 have NE:=kH (t:=t) (mode:=mode) (pad:=pad) (md:=md) (back:=back) (k:=k) (xs:=xs) (iv:=iv) (a9:=a9) (st:=st) (x:=x);have MO:∀(n':Nat) (vb:List Value),(∃H:Bs,n'=H.length/\vb=bv H)->b9 C 95 [.p (.k 0) 0] [p8 true true t mode pad back (f9 t k xs) (.z iv.length (bv iv)) (.p (.k 1) 0) (.o 1 (.k 3) 0 n') (.z a9.length (bv a9)),j7 (f9 t k xs) md back st 2,j5 st.row st.gone,.sc vb] (.ret (i64 (B8 s md mode pad back))) [p8 true true t mode pad back (f9 t k xs) (.z iv.length (bv iv)) (.p (.k 1) 0) (.o 1 (.k 3) 0 n') (.z a9.length (bv a9)),j7 (f9 t k xs) md back st 2,j5 st.row st.gone,.sc vb]:=by
  rintro _ _ ⟨H,rfl,rfl⟩;exact zy h (mode:=mode) (pad:=pad) (op:=true) (back:=back) (iv:=iv) (a9:=a9) (x:= .o H) K hm
 have a0:at'=0:=by omega
 have TU:=fun(vb:List Value)=>Ln h (op:=true) (back:=back) (pad:=pad) (iv:=iv) (a9:=a9) (H:=x.l++b) (st:=st) (vb:=vb) h3 hm;dsimp only[m8,HK.v,HK.b]at TU ⊢;rw[lB]at TU;generalize hgr:r8 s md=gr at*
 generalize B8 s md mode pad back=mo at*
 obtain⟨ch,row,g⟩:=st;rcases hx with rfl|⟨H,rfl⟩<;>dsimp only[HK.l,HK.v,HK.b,Zz]at*
 ·have hmL:m=L:=by simpa using hL
  refine lh.d af ?_;refine⟨⟨[(0,.p (.k 0) 0),(1,.z m (bv b)),(4,.p (.k 4) 0),(5,.p (.k 5) 0)],[p8 true true t mode pad back (f9 t k xs) (.z iv.length (bv iv)) (.p (.k 1) 0) (g9) (.z a9.length (bv a9)),j7 (f9 t k xs) md back ⟨ch,row,g⟩ 2,j5 row g,.dead,.sc [.slice none 0 0],.sc [.int .i64 0]]⟩,4,5,by decide,⟨[.k 0,.k 1,.k 2,.k 3,.d 4 0,.d 5 0],⟨rfl,rfl,rfl,rfl,tq⟩,⟨_,rfl,rfl⟩,⟨_,rfl,by cases row<;>rfl⟩,⟨_,rfl,by cases row<;>rfl⟩,⟨_,rfl,rfl⟩,⟨_,rfl,rfl⟩,⟨_,rfl,rfl⟩,tq⟩,rfl,rfl,rfl,?_⟩;refine⟨0,Nat,fun i=>⟨[(0,.p (.k 0) 0),(4,.p (.k 4) 0),(5,.p (.k 5) 0),(6,i64 (gr*i:Nat)),(7,i64 mo),(8,i64 gr)],[p8 true true t mode pad back (f9 t k xs) (.z iv.length (bv iv)) (.p (.k 1) 0) (.z L (bv b)) (.z a9.length (bv a9)),j7 (f9 t k xs) md back ⟨ch,row,g⟩ 2,j5 row g,.dead,.sc [.slice none 0 0],.sc [.int .i64 0]]⟩,fun i=>i<=n0,fun i=>n0-i,?_,fun i hi=> ?_⟩
  ·rcases row with _|⟨a,r⟩;all_goals
    refine⟨[.k 0,.k 1,.k 2,.k 3],_,_,_,_,NE,rfl,rfl,?_⟩;refine⟨_,rfl,?_⟩;refine⟨by rw[j6,hb],by omega,?_⟩;refine⟨Za rfl,?_⟩;refine⟨[.k 0,.k 1,.k 2,.d 17 0],_,_,_,_,MO (m) (bv b) ⟨b,hb.symm,rfl⟩,rfl,rfl,?_⟩;refine cD rfl ?_;refine cD (V7 rfl rfl (V7 rfl rfl (V7 rfl rfl (V7 rfl rfl rfl)))) ?_;refine⟨_,rfl,?_⟩;refine⟨[.k 1,.k 2],_,_,_,_,G,rfl,rfl,?_⟩;refine⟨[],0,Zk _,[.k 0,.k 1,.k 2,.k 3,.k 4,.k 5],⟨rfl,rfl,rfl,rfl,rfl,rfl,tq⟩,⟨_,rfl,?_⟩,⟨_,rfl,rfl⟩,⟨_,rfl,rfl⟩,⟨_,rfl,rfl⟩,⟨_,rfl,rfl⟩,⟨_,rfl,rfl⟩,tq⟩;show p8 true true t mode pad back (f9 t k xs) (.z iv.length (bv iv)) (.p (.k 1) 0) (.z (m) (sub (bv b) 0 (m))) (.z a9.length (bv a9))=_;rw[g8 hb,hmL]
  ·rcases row with _|⟨a,r⟩;all_goals
    have e1:gr*i<=L:=Zl (Zf gr hi) hle;refine⟨_,rfl,?_⟩;refine d9 (fun hc=> ?_) (fun hc=> ?_)
    ·have hc':(mo:Int)<I6.wrap ((L:Int)-((gr*i:Nat):Int)):=hc;rw[Zd _ (by omega)]at hc';have hli:i<n0:=(d8 i).2 (by omega);have hle2:gr*(i+1)<=L:=Zl (Zf gr hli) hle;refine⟨rfl,i+1,hli,Zt _ _ hli,[.k 0,.k 1,.k 2,.k 3,.k 4,.k 5],⟨rfl,rfl,rfl,f8 ?_,rfl,rfl,tq⟩,⟨_,rfl,rfl⟩,⟨_,rfl,rfl⟩,⟨_,rfl,rfl⟩,⟨_,rfl,rfl⟩,⟨_,rfl,rfl⟩,⟨_,rfl,rfl⟩,tq⟩;rw[Zv]at hle2 ⊢;rw[Zd _ (by omega)];omega
    ·have hc':¬(mo:Int)<I6.wrap ((L:Int)-((gr*i:Nat):Int)):=hc;rw[Zd _ (by omega)]at hc';obtain rfl:i=n0:=Zr hi (Zm fun hh=>by have:=(d8 i).1 hh;omega);refine⟨_,rfl,?_⟩;refine⟨by omega,by omega,by omega,by omega,?_⟩;refine⟨[.k 0,.k 1,.k 2,.k 3],_,_,_,_,TU [],?_,rfl,?_⟩
     ·show[V.p (.k 0) 0,V.z ((gr*i:Nat):Int).toNat (sub (bv b) 0 ((gr*i:Nat):Int).toNat)]=_;rw[Zb,<-hat,a0];rfl
     refine⟨Za rfl,?_⟩;refine⟨_,rfl,?_⟩;refine⟨by omega,by omega,by omega,by omega,?_⟩;refine⟨[],_,_,_,_,pM (n:=L-at') (l:=b.drop at') rfl lD (by omega),?_,rfl,?_⟩
     ·show[V.z (L-((gr*i:Nat):Int).toNat) (sub (bv b) ((gr*i:Nat):Int).toNat (L-((gr*i:Nat):Int).toNat))]=_;rw[Zb,<-hat,A3 lB (by omega)]
     refine⟨Za rfl,?_⟩;refine⟨_,rfl,?_⟩;refine⟨Za rfl,?_⟩;refine⟨Za rfl,?_⟩;refine⟨_,rfl,_,rfl,?_⟩;refine⟨_,_,?_,.ret (.refl _),x7.refl _⟩;refine⟨_,rfl,[.k 0,.k 1,.k 2,.k 3,.d 54 0],rfl,⟨_,rfl,?_⟩,⟨_,rfl,rfl⟩,⟨_,rfl,rfl⟩,⟨_,rfl,rfl⟩,⟨_,rfl,?_⟩,tq⟩
     ·exact congrArg (fun z=>p8 true true t mode pad back (f9 t k xs) (.z iv.length (bv iv)) (.p (.k 1) 0) (.o 1 (.k 4) 0 z) (.z a9.length (bv a9))) (show L-at'=0 by omega)
     ·exact congrArg (fun z=>B.sc (bv z)) (Zh (by rw[lD];omega))
 ·refine lh.d af ?_;refine⟨⟨[(0,.p (.k 0) 0),(1,.z m (bv b)),(4,.p (.k 4) 0),(5,.p (.k 5) 0)],[p8 true true t mode pad back (f9 t k xs) (.z iv.length (bv iv)) (.p (.k 1) 0) (.o 1 (.k 3) 0 H.length) (.z a9.length (bv a9)),j7 (f9 t k xs) md back ⟨ch,row,g⟩ 2,j5 row g,.sc (bv H),.sc [.slice none 0 0],.sc [.int .i64 0]]⟩,4,5,by decide,⟨[.k 0,.k 1,.k 2,.k 3,.d 4 0,.d 5 0],⟨rfl,rfl,rfl,rfl,tq⟩,⟨_,rfl,rfl⟩,⟨_,rfl,by cases row<;>rfl⟩,⟨_,rfl,by cases row<;>rfl⟩,⟨_,rfl,rfl⟩,⟨_,rfl,rfl⟩,⟨_,rfl,rfl⟩,tq⟩,rfl,rfl,rfl,?_⟩;refine⟨0,Nat,fun i=>⟨[(0,.p (.k 0) 0),(4,.p (.k 4) 0),(5,.p (.k 5) 0),(6,i64 (gr*i:Nat)),(7,i64 mo),(8,i64 gr)],[p8 true true t mode pad back (f9 t k xs) (.z iv.length (bv iv)) (.p (.k 1) 0) (.z L (bv (H++b))) (.z a9.length (bv a9)),j7 (f9 t k xs) md back ⟨ch,row,g⟩ 2,j5 row g,.dead,.sc [.slice none 0 0],.sc [.int .i64 0]]⟩,fun i=>i<=n0,fun i=>n0-i,?_,fun i hi=> ?_⟩
  ·rcases row with _|⟨a,r⟩;all_goals
    refine⟨[.k 0,.k 1,.k 2,.k 3],_,_,_,_,NE,rfl,rfl,?_⟩;refine⟨_,rfl,?_⟩;refine⟨by rw[j6,hb],by omega,by rw[j6];omega,?_⟩;refine⟨Za rfl,?_⟩;refine⟨[.k 0,.k 1,.k 2,.d 17 0],_,_,_,_,MO (H.length+m) (sub (bv H) 0 (H.length*1)++bv b) ⟨(H++b),by rw[Zc,hb],by rw[Zi,g8 rfl,B7]⟩,rfl,rfl,?_⟩;refine cD rfl ?_;refine cD (V7 rfl rfl (V7 rfl rfl (V7 rfl rfl (V7 rfl rfl rfl)))) ?_;refine⟨_,rfl,?_⟩;refine⟨[.k 1,.k 2],_,_,_,_,G,rfl,rfl,?_⟩;refine⟨[],0,Zk _,[.k 0,.k 1,.k 2,.k 3,.k 4,.k 5],⟨rfl,rfl,rfl,rfl,rfl,rfl,tq⟩,⟨_,rfl,?_⟩,⟨_,rfl,rfl⟩,⟨_,rfl,rfl⟩,⟨_,rfl,rfl⟩,⟨_,rfl,rfl⟩,⟨_,rfl,rfl⟩,tq⟩;show p8 true true t mode pad back (f9 t k xs) (.z iv.length (bv iv)) (.p (.k 1) 0) (.z (H.length+m) (sub (sub (bv H) 0 (H.length*1)++bv b) 0 (H.length+m))) (.z a9.length (bv a9))=_;rw[Zi,g8 rfl,B7,g8 (by rw[Zc,hb]),hL]
  ·rcases row with _|⟨a,r⟩;all_goals
    have e1:gr*i<=L:=Zl (Zf gr hi) hle;refine⟨_,rfl,?_⟩;refine d9 (fun hc=> ?_) (fun hc=> ?_)
    ·have hc':(mo:Int)<I6.wrap ((L:Int)-((gr*i:Nat):Int)):=hc;rw[Zd _ (by omega)]at hc';have hli:i<n0:=(d8 i).2 (by omega);have hle2:gr*(i+1)<=L:=Zl (Zf gr hli) hle;refine⟨rfl,i+1,hli,Zt _ _ hli,[.k 0,.k 1,.k 2,.k 3,.k 4,.k 5],⟨rfl,rfl,rfl,f8 ?_,rfl,rfl,tq⟩,⟨_,rfl,rfl⟩,⟨_,rfl,rfl⟩,⟨_,rfl,rfl⟩,⟨_,rfl,rfl⟩,⟨_,rfl,rfl⟩,⟨_,rfl,rfl⟩,tq⟩;rw[Zv]at hle2 ⊢;rw[Zd _ (by omega)];omega
    ·have hc':¬(mo:Int)<I6.wrap ((L:Int)-((gr*i:Nat):Int)):=hc;rw[Zd _ (by omega)]at hc';obtain rfl:i=n0:=Zr hi (Zm fun hh=>by have:=(d8 i).1 hh;omega);refine⟨_,rfl,?_⟩;refine⟨by omega,by omega,by omega,by omega,?_⟩;refine⟨[.k 0,.k 1,.k 2,.k 3],_,_,_,_,TU [],?_,rfl,?_⟩
     ·show[V.p (.k 0) 0,V.z ((gr*i:Nat):Int).toNat (sub (bv (H++b)) 0 ((gr*i:Nat):Int).toNat)]=_;rw[Zb,<-hat,a0];rfl
     refine⟨Za rfl,?_⟩;refine⟨_,rfl,?_⟩;refine⟨by omega,by omega,by omega,by omega,?_⟩;refine⟨[],_,_,_,_,pM (n:=L-at') (l:=(H++b).drop at') rfl lD (by omega),?_,rfl,?_⟩
     ·show[V.z (L-((gr*i:Nat):Int).toNat) (sub (bv (H++b)) ((gr*i:Nat):Int).toNat (L-((gr*i:Nat):Int).toNat))]=_;rw[Zb,<-hat,A3 lB (by omega)]
     refine⟨Za rfl,?_⟩;refine⟨_,rfl,?_⟩;refine⟨Za rfl,?_⟩;refine⟨Za rfl,?_⟩;refine⟨_,rfl,_,rfl,?_⟩;refine⟨_,_,?_,.ret (.refl _),x7.refl _⟩;refine⟨_,rfl,[.k 0,.k 1,.k 2,.k 3,.d 54 0],rfl,⟨_,rfl,?_⟩,⟨_,rfl,rfl⟩,⟨_,rfl,rfl⟩,⟨_,rfl,rfl⟩,⟨_,rfl,?_⟩,tq⟩
     ·exact congrArg (fun z=>p8 true true t mode pad back (f9 t k xs) (.z iv.length (bv iv)) (.p (.k 1) 0) (.o 1 (.k 4) 0 z) (.z a9.length (bv a9))) (show L-at'=0 by omega)
     ·exact congrArg (fun z=>B.sc (bv z)) (Zh (by rw[lD];omega))
theorem Lt {m:Nat} {vb:List Value}:
  b9 C 33 [.p (.k 0) 0,.z m vb] [p8 false false 0 0 0 false j8 g9 j8 g9 g9] (.ret (.t [.z 0 [],i64 6])) [p8 false false 0 0 0 false j8 g9 j8 g9 g9]:=by
 refine lh.d af ?_;refine⟨⟨[(0,.p (.k 0) 0),(1,.z m vb),(4,.p (.k 1) 0),(5,.p (.k 2) 0)],[_,.sc [.slice none 0 0],.sc [.int .i64 0]]⟩,1,2,by decide,⟨[.k 0,.d 4 0,.d 5 0],⟨rfl,rfl,rfl,rfl,tq⟩,⟨_,rfl,rfl⟩,⟨_,rfl,rfl⟩,⟨_,rfl,rfl⟩,tq⟩,rfl,rfl,rfl,?_⟩;refine⟨0,Unit,fun _=>⟨[],[]⟩,fun _=>False,fun _=>0,?_,fun _ h=>h.elim⟩;refine⟨[.k 0],_,_,_,_,zB,rfl,rfl,?_⟩;refine⟨_,rfl,_,rfl,?_⟩;refine⟨_,_,?_,.ret (.t (.cons .nl (.cons (.refl _) .nil))),x7.refl _⟩;exact⟨_,rfl,[.k 0],rfl,⟨_,rfl,rfl⟩,tq⟩
theorem KU:b9 C 34 [.p (.k 0) 0] [p8 false false 0 0 0 false j8 g9 j8 g9 g9] (.ret (.t [.z 0 [],i64 6])) [p8 false false 0 0 0 false j8 g9 j8 g9 g9]:=by
 refine eU.d af ?_;refine⟨⟨[(0,.p (.k 0) 0),(2,.p (.k 1) 0),(3,.p (.k 2) 0)],[_,.sc [.slice none 0 0],.sc [.int .i64 0]]⟩,1,2,by decide,⟨[.k 0,.d 2 0,.d 3 0],⟨rfl,rfl,rfl,tq⟩,⟨_,rfl,rfl⟩,⟨_,rfl,rfl⟩,⟨_,rfl,rfl⟩,tq⟩,rfl,rfl,rfl,?_⟩;refine⟨[.k 0],_,_,_,_,zB,rfl,rfl,?_⟩;refine⟨_,rfl,_,rfl,?_⟩;refine⟨_,_,?_,.ret (.t (.cons .nl (.cons (.refl _) .nil))),x7.refl _⟩;exact⟨_,rfl,[.k 0],rfl,⟨_,rfl,rfl⟩,tq⟩
theorem dy {t mode pad md:Int} {op back:Bool} {k:Nat} {xs:List V} {iv a9:Bs} {st:MS} (hm:mode<=9):b9 C 158 [.p (.k 0) 0] [m8 op t mode pad back k xs iv .n a9,j7 (f9 t k xs) md back st 2,j5 st.row st.gone] (.ret (bool (decide (7<=mode)))) [m8 op t mode pad back k xs iv .n a9,j7 (f9 t k xs) md back st 2,j5 st.row st.gone]:=by
 obtain⟨ch,row,g⟩:=st;rcases row with _|⟨a,r⟩;all_goals
  refine nY.c ?_;refine⟨_,rfl,?_⟩;refine d9 (fun h7=> ?_) (fun h7=> ?_)
  ·refine⟨_,rfl,?_⟩;refine⟨_,rfl,[.k 0,.k 1,.k 2],?_,⟨_,rfl,rfl⟩,⟨_,rfl,rfl⟩,⟨_,rfl,rfl⟩,tq⟩;exact congrArg bool (by rw[decide_eq_true hm,decide_eq_true h7])
  ·refine⟨_,rfl,[.k 0,.k 1,.k 2],?_,⟨_,rfl,rfl⟩,⟨_,rfl,rfl⟩,⟨_,rfl,rfl⟩,tq⟩;exact congrArg bool (by rw[decide_eq_false h7])
theorem pO {t key s k xs rs} (h:k5 t key s k xs rs) {mode pad md:Int} {op back:Bool} {iv a9 b:Bs} {st:MS} {m:Nat} (hb:b.length=m) (hmb:m<=100000) (K:MK s md st) (hm:mode<=9) (hg:m%r8 s md=0) (hne:0<m\/st.row=[]):
  b9 C 97 [.p (.k 0) 0,.z m (bv b)] [m8 op t mode pad back k xs iv .n a9,j7 (f9 t k xs) md back st 2,j5 st.row st.gone]
   (.ret (.z m (bv (k9 (cF t key false) (cF t key true) s md back st b).1)))
   [m8 op t mode pad back k xs iv .n (E3 s mode back b (k9 (cF t key false) (cF t key true) s md back st b).1 a9),j7 (f9 t k xs) md back (k9 (cF t key false) (cF t key true) s md back st b).2 3,.dead,j5 (k9 (cF t key false) (cF t key true) s md back st b).2.row (k9 (cF t key false) (cF t key true) s md back st b).2.gone]:=by
 have hs:=h.s_le;have lo:(k9 (cF t key false) (cF t key true) s md back st b).1.length=m:=by rw[bU h.ci K.ok (by rw[hb];exact hg),hb]
 have T0:=Aq h (back:=back) (st:=st) (b:=b) rfl hb (by omega) K hg hne;have S:=fun(st':MS)=>dy (t:=t) (mode:=mode) (pad:=pad) (md:=md) (op:=op) (back:=back) (k:=k) (xs:=xs) (iv:=iv) (a9:=a9) (st:=st') hm;generalize k9 (cF t key false) (cF t key true) s md back st b=S0 at*
 obtain⟨o,st1⟩:=S0;have S1:=S st1;obtain⟨c1,row1,g1⟩:=st1;dsimp only at T0 lo ⊢;have eS:I6.wrap ((m:Int)-(s:Int))=(m:Int)-s:=Zd _ (by omega);by_cases hL:7<=mode/\s<=m
 ·have eL:E3 s mode back b o a9=(if back then b else o).drop (m-s):=by unfold E3;rw[hb,if_pos hL]
  rw[eL];cases back;all_goals
   obtain⟨ch,row,g⟩:=st;rcases row with _|⟨a,r⟩<;>rcases row1 with _|⟨a1,r1⟩
  all_goals
   refine jA.c ?_;refine⟨_,rfl,?_⟩;refine⟨[.k 1,.k 2],_,_,_,_,T0,rfl,rfl,?_⟩;refine⟨[],_,_,_,_,fH,rfl,rfl,?_⟩;refine⟨_,rfl,?_⟩;refine⟨[],_,_,_,_,h.size,rfl,rfl,?_⟩;refine⟨[.k 0,.k 1,.d 15 2],_,_,_,_,S1,rfl,rfl,?_⟩;refine d9 (fun h7=> ?_) (fun h7=>absurd hL.1 h7);refine d9 (fun h7=> ?_) (fun h7=>absurd hL.2 (by omega));refine⟨_,rfl,?_⟩;refine⟨by rw[eS];omega,by rw[eS];omega,by omega,by omega,?_⟩;first
    |refine⟨[],_,_,_,_,X7 (n:=s) (l:=o.drop (m-s)) (va:=bv (o.drop (m-s))) rfl (by rw[Zg,lo];omega) (by omega),?_,rfl,?_⟩
     ·show[V.z (m-(I6.wrap ((m:Int)-(s:Int))).toNat) (sub (bv o) (I6.wrap ((m:Int)-(s:Int))).toNat (m-(I6.wrap ((m:Int)-(s:Int))).toNat))]=_;rw[eS,show((m:Int)-s).toNat=m-s by omega,A3 lo (by omega),show m-(m-s)=s by omega]
     refine⟨Za rfl,?_⟩;refine⟨_,rfl,[.k 0,.k 1,.k 2,.d 15 2],rfl,⟨_,rfl,?_⟩,⟨_,rfl,rfl⟩,⟨_,rfl,rfl⟩,⟨_,rfl,rfl⟩,tq⟩;have ll:(o.drop (m-s)).length=s:=by rw[Zg,lo];omega
     show _=m8 op t mode pad false k xs iv .n (o.drop (m-s));unfold m8;rw[ll];rfl
    |refine⟨[],_,_,_,_,X7 (n:=s) (l:=b.drop (m-s)) (va:=bv (b.drop (m-s))) rfl (by rw[Zg,hb];omega) (by omega),?_,rfl,?_⟩
     ·show[V.z (m-(I6.wrap ((m:Int)-(s:Int))).toNat) (sub (bv b) (I6.wrap ((m:Int)-(s:Int))).toNat (m-(I6.wrap ((m:Int)-(s:Int))).toNat))]=_;rw[eS,show((m:Int)-s).toNat=m-s by omega,A3 hb (by omega),show m-(m-s)=s by omega]
     refine⟨Za rfl,?_⟩;refine⟨_,rfl,[.k 0,.k 1,.k 2,.d 15 2],rfl,⟨_,rfl,?_⟩,⟨_,rfl,rfl⟩,⟨_,rfl,rfl⟩,⟨_,rfl,rfl⟩,tq⟩;have ll:(b.drop (m-s)).length=s:=by rw[Zg,hb];omega
     show _=m8 op t mode pad true k xs iv .n (b.drop (m-s));unfold m8;rw[ll];rfl
 ·have eL:E3 s mode back b o a9=a9:=by unfold E3;rw[hb,if_neg hL]
  rw[eL];obtain⟨ch,row,g⟩:=st;rcases row with _|⟨a,r⟩<;>rcases row1 with _|⟨a1,r1⟩;all_goals
   refine jA.c ?_;refine⟨_,rfl,?_⟩;refine⟨[.k 1,.k 2],_,_,_,_,T0,rfl,rfl,?_⟩;refine⟨[],_,_,_,_,fH,rfl,rfl,?_⟩;refine⟨_,rfl,?_⟩;refine⟨[],_,_,_,_,h.size,rfl,rfl,?_⟩;refine⟨[.k 0,.k 1,.d 15 2],_,_,_,_,S1,rfl,rfl,?_⟩;refine d9 (fun h7=> ?_) (fun h7=> ?_)
   ·refine d9 (fun h8=>absurd ⟨h7,by omega⟩ hL) (fun h8=> ?_);exact⟨_,rfl,[.k 0,.k 1,.k 2,.d 15 2],rfl,⟨_,rfl,rfl⟩,⟨_,rfl,rfl⟩,⟨_,rfl,rfl⟩,⟨_,rfl,rfl⟩,tq⟩
   ·exact⟨_,rfl,[.k 0,.k 1,.k 2,.d 15 2],rfl,⟨_,rfl,rfl⟩,⟨_,rfl,rfl⟩,⟨_,rfl,rfl⟩,⟨_,rfl,rfl⟩,tq⟩
theorem Lo {t key s k xs rs} (h:k5 t key s k xs rs) {mode pad md:Int} {op back:Bool} {iv a9:Bs} {st:MS} {vb:List Value} (h3:3<=md) (hm:mode<=9):
  b9 C 97 [.p (.k 0) 0,.z 0 vb] [m8 op t mode pad back k xs iv .n a9,j7 (f9 t k xs) md back st 2,j5 st.row st.gone]
   (.ret (.z 0 [])) [m8 op t mode pad back k xs iv .n a9,j7 (f9 t k xs) md back st 2,j5 st.row st.gone]:=by
 have hs:=h.s_le;have T0:=Ar h (back:=back) (st:=st) (vb:=vb) h3;have S:=dy (t:=t) (mode:=mode) (pad:=pad) (md:=md) (op:=op) (back:=back) (k:=k) (xs:=xs) (iv:=iv) (a9:=a9) (st:=st) hm;obtain⟨ch,row,g⟩:=st;rcases row with _|⟨a,r⟩;all_goals
  refine jA.c ?_;refine⟨_,rfl,?_⟩;refine⟨[.k 1,.k 2],_,_,_,_,T0,rfl,rfl,?_⟩;refine⟨[],_,_,_,_,fH,rfl,rfl,?_⟩;refine⟨_,rfl,?_⟩;refine⟨[],_,_,_,_,h.size,rfl,rfl,?_⟩;refine⟨[.k 0,.k 1,.k 2],_,_,_,_,S,rfl,rfl,?_⟩;refine d9 (fun h7=> ?_) (fun h7=> ?_)
  ·refine d9 (fun h8=>absurd h8 (by omega)) (fun h8=> ?_);exact⟨_,rfl,[.k 0,.k 1,.k 2],rfl,⟨_,rfl,rfl⟩,⟨_,rfl,rfl⟩,⟨_,rfl,rfl⟩,tq⟩
  ·exact⟨_,rfl,[.k 0,.k 1,.k 2],rfl,⟨_,rfl,rfl⟩,⟨_,rfl,rfl⟩,⟨_,rfl,rfl⟩,tq⟩
theorem Lp {t key s k xs rs} (h:k5 t key s k xs rs) {mode pad md:Int} {op back:Bool} {iv a9:Bs} {st:MS} {m:Nat} {vb:List Value} (K:MK s md st) (hg:m%r8 s md≠0):
  b9 C 97 [.p (.k 0) 0,.z m vb] [m8 op t mode pad back k xs iv .n a9,j7 (f9 t k xs) md back st 2,j5 st.row st.gone]
   (.pan (.i Y8 (i64 7))) [m8 op t mode pad back k xs iv .n a9,j7 (f9 t k xs) md back st 2,j5 st.row st.gone]:=by
 have T0:=Oz h (back:=back) (st:=st) (vb:=vb) K hg;obtain⟨ch,row,g⟩:=st;rcases row with _|⟨a,r⟩;all_goals
  refine jA.c ?_;refine⟨_,rfl,?_⟩;refine⟨[.k 1,.k 2],_,_,_,_,T0,rfl,rfl,?_⟩;refine⟨[],_,_,_,_,kQ (e:=7) (by decide),rfl,rfl,?_⟩;exact⟨_,rfl,[.k 0,.k 1,.k 2],rfl,⟨_,rfl,rfl⟩,⟨_,rfl,rfl⟩,⟨_,rfl,rfl⟩,tq⟩
theorem JV {t key s k xs rs} (h:k5 t key s k xs rs) {mode pad md:Int} {back:Bool} {iv a9 H:Bs} {st:MS} {m:Nat} (hl:a9.length=s) (hH:H.length=m) (hm:7<=mode/\mode<=9) (h1:s<=m) (h2:m<=2*s):
  b9 C 98 [.p (.k 0) 0,.z m (bv H)] [m8 false t mode pad back k xs iv .n a9,j7 (f9 t k xs) md back st 2,j5 st.row st.gone] (.ret (.z m (bv (P2 (cF t key false) (cF t key true) s mode back a9 H)))) [m8 false t mode pad back k xs iv .n a9,j7 (f9 t k xs) md back st 2,j5 st.row st.gone]:=by
 have T0:b9 C 116 [f9 t k xs,i64 mode,bool back,.z a9.length (bv a9),.z m (bv H)] [] (C6 m) [.sc (bv (P2 (cF t key false) (cF t key true) s mode back a9 H))]:=by
  rw[hl];exact OG h rfl rfl hl hH hm h1 h2
 have lo:(P2 (cF t key false) (cF t key true) s mode back a9 H).length=m:=by rw[stT_len h.ci hl (by omega) (by omega),hH]
 have S:=dy (t:=t) (mode:=mode) (pad:=pad) (md:=md) (op:=false) (back:=back) (k:=k) (xs:=xs) (iv:=iv) (a9:=a9) (st:=st) hm.2;obtain⟨ch,row,g⟩:=st;rcases row with _|⟨a,r⟩;all_goals
  refine fO.c ?_;refine⟨_,rfl,?_⟩;refine⟨[],_,_,_,_,h.size,rfl,rfl,?_⟩;refine⟨[.k 0,.k 1,.k 2],_,_,_,_,S,rfl,rfl,?_⟩;refine d9 (fun h7=> ?_) (fun h7=>absurd hm.1 h7);refine⟨_,rfl,?_⟩;refine⟨_,rfl,?_⟩;refine⟨_,rfl,?_⟩;refine⟨_,rfl,?_⟩;refine⟨[],_,_,_,_,T0,rfl,rfl,?_⟩;refine⟨[],_,_,_,_,fH,rfl,rfl,?_⟩;refine⟨_,rfl,[.k 0,.k 1,.k 2],?_,⟨_,rfl,rfl⟩,⟨_,rfl,rfl⟩,⟨_,rfl,rfl⟩,tq⟩;exact congrArg (V.z m) (g8 lo)
theorem JW {t key s k xs rs} (h:k5 t key s k xs rs) {mode pad md:Int} {back:Bool} {iv a9 H:Bs} {st:MS} {m:Nat} (hl:a9.length=s) (hH:H.length=m) (hm:7<=mode/\mode<=9) (h1:m<s):
  b9 C 98 [.p (.k 0) 0,.z m (bv H)] [m8 false t mode pad back k xs iv .n a9,j7 (f9 t k xs) md back st 2,j5 st.row st.gone] (.pan (.i Y8 (i64 7))) [m8 false t mode pad back k xs iv .n a9,j7 (f9 t k xs) md back st 2,j5 st.row st.gone]:=by
 have hs:=h.s_le;have e7:fq s mode a9 H=7:=by unfold fq;rw[if_neg (by omega),if_neg (by omega),if_pos (by omega)]
 have T0:=OH h (l:=a9.length) (m:=m) (vl:=bv a9) (vb:=bv H) (mode:=mode) (back:=back) rfl hH (by omega) (by rw[e7];decide);rw[e7]at T0;have S:=dy (t:=t) (mode:=mode) (pad:=pad) (md:=md) (op:=false) (back:=back) (k:=k) (xs:=xs) (iv:=iv) (a9:=a9) (st:=st) hm.2;obtain⟨ch,row,g⟩:=st;rcases row with _|⟨a,r⟩;all_goals
  refine fO.c ?_;refine⟨_,rfl,?_⟩;refine⟨[],_,_,_,_,h.size,rfl,rfl,?_⟩;refine⟨[.k 0,.k 1,.k 2],_,_,_,_,S,rfl,rfl,?_⟩;refine d9 (fun h7=> ?_) (fun h7=>absurd hm.1 h7);refine⟨_,rfl,?_⟩;refine⟨_,rfl,?_⟩;refine⟨_,rfl,?_⟩;refine⟨_,rfl,?_⟩;refine⟨[],_,_,_,_,T0,rfl,rfl,?_⟩;refine⟨[],_,_,_,_,kQ (e:=7) (by decide),rfl,rfl,?_⟩;exact⟨_,rfl,[.k 0,.k 1,.k 2],rfl,⟨_,rfl,rfl⟩,⟨_,rfl,rfl⟩,⟨_,rfl,rfl⟩,tq⟩
theorem JR {t key s k xs rs} (h:k5 t key s k xs rs) {mode pad md:Int} {back:Bool} {iv a9 H:Bs} {st:MS} {m:Nat} (hH:H.length=m) (hmb:m<=100000) (K:MK s md st) (hm:mode<=6) (h4:pad=4) (hg:m%r8 s md=0) (hne:0<m\/st.row=[]):
  b9 C 98 [.p (.k 0) 0,.z m (bv H)] [m8 false t mode pad back k xs iv .n a9,j7 (f9 t k xs) md back st 2,j5 st.row st.gone] (.ret (.z m (bv (k9 (cF t key false) (cF t key true) s md back st H).1)))
   [m8 false t mode pad back k xs iv .n (E3 s mode back H (k9 (cF t key false) (cF t key true) s md back st H).1 a9),j7 (f9 t k xs) md back (k9 (cF t key false) (cF t key true) s md back st H).2 3,.dead,j5 (k9 (cF t key false) (cF t key true) s md back st H).2.row (k9 (cF t key false) (cF t key true) s md back st H).2.gone]:=by
 have S:=dy (t:=t) (mode:=mode) (pad:=pad) (md:=md) (op:=false) (back:=back) (k:=k) (xs:=xs) (iv:=iv) (a9:=a9) (st:=st) (by omega);have TU:=pO h (op:=false) (back:=back) (pad:=pad) (iv:=iv) (a9:=a9) (b:=H) hH hmb K (mode:=mode) (by omega) hg hne;generalize k9 (cF t key false) (cF t key true) s md back st H=S0 at*
 obtain⟨o,c1,row1,g1⟩:=S0;obtain⟨ch,row,g⟩:=st;rcases row with _|⟨a,r⟩<;>rcases row1 with _|⟨a1,r1⟩;all_goals
  refine fO.c ?_;refine⟨_,rfl,?_⟩;refine⟨[],_,_,_,_,h.size,rfl,rfl,?_⟩;refine⟨[.k 0,.k 1,.k 2],_,_,_,_,S,rfl,rfl,?_⟩;refine d9 (fun h7=>absurd h7 (by omega)) (fun h7=> ?_);refine⟨_,rfl,?_⟩;refine i7 (fun _=> ?_) (fun hh=>absurd h4 hh);refine⟨[.k 0,.k 1,.k 2],_,_,_,_,TU,rfl,rfl,?_⟩;exact⟨_,rfl,[.k 0,.k 1,.k 2,.d 53 3],rfl,⟨_,rfl,rfl⟩,⟨_,rfl,rfl⟩,⟨_,rfl,rfl⟩,⟨_,rfl,rfl⟩,tq⟩
theorem JS {t key s k xs rs} (h:k5 t key s k xs rs) {mode pad md:Int} {back:Bool} {iv a9 H:Bs} {st:MS} {m:Nat} (hm0:m=0) (h3:3<=md) (hm:mode<=6) (h4:pad=4):
  b9 C 98 [.p (.k 0) 0,.z m (bv H)] [m8 false t mode pad back k xs iv .n a9,j7 (f9 t k xs) md back st 2,j5 st.row st.gone] (.ret (.z 0 [])) [m8 false t mode pad back k xs iv .n a9,j7 (f9 t k xs) md back st 2,j5 st.row st.gone]:=by
 subst hm0;have S:=dy (t:=t) (mode:=mode) (pad:=pad) (md:=md) (op:=false) (back:=back) (k:=k) (xs:=xs) (iv:=iv) (a9:=a9) (st:=st) (by omega);have TU:=Lo h (op:=false) (back:=back) (pad:=pad) (iv:=iv) (a9:=a9) (mode:=mode) (st:=st) (vb:=bv H) h3 (by omega);obtain⟨ch,row,g⟩:=st;rcases row with _|⟨a,r⟩;all_goals
  refine fO.c ?_;refine⟨_,rfl,?_⟩;refine⟨[],_,_,_,_,h.size,rfl,rfl,?_⟩;refine⟨[.k 0,.k 1,.k 2],_,_,_,_,S,rfl,rfl,?_⟩;refine d9 (fun h7=>absurd h7 (by omega)) (fun h7=> ?_);refine⟨_,rfl,?_⟩;refine i7 (fun _=> ?_) (fun hh=>absurd h4 hh);refine⟨[.k 0,.k 1,.k 2],_,_,_,_,TU,rfl,rfl,?_⟩;exact⟨_,rfl,[.k 0,.k 1,.k 2],rfl,⟨_,rfl,rfl⟩,⟨_,rfl,rfl⟩,⟨_,rfl,rfl⟩,tq⟩
theorem JT {t key s k xs rs} (h:k5 t key s k xs rs) {mode pad md:Int} {back:Bool} {iv a9 H:Bs} {st:MS} {m:Nat} (K:MK s md st) (hm:mode<=6) (h4:pad=4) (hg:m%r8 s md≠0):
  b9 C 98 [.p (.k 0) 0,.z m (bv H)] [m8 false t mode pad back k xs iv .n a9,j7 (f9 t k xs) md back st 2,j5 st.row st.gone] (.pan (.i Y8 (i64 7))) [m8 false t mode pad back k xs iv .n a9,j7 (f9 t k xs) md back st 2,j5 st.row st.gone]:=by
 have S:=dy (t:=t) (mode:=mode) (pad:=pad) (md:=md) (op:=false) (back:=back) (k:=k) (xs:=xs) (iv:=iv) (a9:=a9) (st:=st) (by omega);have TU:=Lp h (op:=false) (back:=back) (pad:=pad) (iv:=iv) (a9:=a9) (mode:=mode) (m:=m) (vb:=bv H) K hg;obtain⟨ch,row,g⟩:=st;rcases row with _|⟨a,r⟩;all_goals
  refine fO.c ?_;refine⟨_,rfl,?_⟩;refine⟨[],_,_,_,_,h.size,rfl,rfl,?_⟩;refine⟨[.k 0,.k 1,.k 2],_,_,_,_,S,rfl,rfl,?_⟩;refine d9 (fun h7=>absurd h7 (by omega)) (fun h7=> ?_);refine⟨_,rfl,?_⟩;refine i7 (fun _=> ?_) (fun hh=>absurd h4 hh);refine⟨[.k 0,.k 1,.k 2],_,_,_,_,TU,rfl,rfl,?_⟩;exact⟨_,rfl,[.k 0,.k 1,.k 2],rfl,⟨_,rfl,rfl⟩,⟨_,rfl,rfl⟩,⟨_,rfl,rfl⟩,tq⟩
theorem JU {t key s k xs rs} (h:k5 t key s k xs rs) {mode pad md:Int} {back:Bool} {iv a9 H:Bs} {st:MS} {m:Nat} (hb:back=false) (hH:H.length=m) (hms:m<s) (K:MK s md st) (hm:mode<=6) (hp:pad=1\/pad=2\/pad=3) (hgr:r8 s md=s):
  b9 C 98 [.p (.k 0) 0,.z m (bv H)] [m8 false t mode pad back k xs iv .n a9,j7 (f9 t k xs) md back st 2,j5 st.row st.gone] (.ret (.z s (bv (k9 (cF t key false) (cF t key true) s md back st (G9 pad s H)).1)))
   [m8 false t mode pad back k xs iv .n (E3 s mode back (G9 pad s H) (k9 (cF t key false) (cF t key true) s md back st (G9 pad s H)).1 a9),j7 (f9 t k xs) md back (k9 (cF t key false) (cF t key true) s md back st (G9 pad s H)).2 3,.dead,j5 (k9 (cF t key false) (cF t key true) s md back st (G9 pad s H)).2.row (k9 (cF t key false) (cF t key true) s md back st (G9 pad s H)).2.gone]:=by
 subst hb;have hs:=h.s_le;have lp:(G9 pad s H).length=s:=oR (by omega);have PA:=Mj (vt:=bv H) hp h.s_two rfl hH hms;have S:=dy (t:=t) (mode:=mode) (pad:=pad) (md:=md) (op:=false) (back:=false) (k:=k) (xs:=xs) (iv:=iv) (a9:=a9) (st:=st) (by omega);have TU:=pO h (op:=false) (back:=false) (pad:=pad) (iv:=iv) (a9:=a9) (b:=G9 pad s H) lp (by omega) K (mode:=mode) (by omega) (by rw[hgr,Zj]) (.inl (by omega));generalize G9 pad s H=P at*
 generalize k9 (cF t key false) (cF t key true) s md false st P=S0 at*
 obtain⟨o,c1,row1,g1⟩:=S0;obtain⟨ch,row,g⟩:=st;rcases row with _|⟨a,r⟩<;>rcases row1 with _|⟨a1,r1⟩;all_goals
  refine fO.c ?_;refine⟨_,rfl,?_⟩;refine⟨[],_,_,_,_,h.size,rfl,rfl,?_⟩;refine⟨[.k 0,.k 1,.k 2],_,_,_,_,S,rfl,rfl,?_⟩;refine d9 (fun h7=>absurd h7 (by omega)) (fun h7=> ?_);refine⟨_,rfl,?_⟩;refine i7 (fun hh=>absurd hh (by omega)) (fun _=> ?_);refine⟨_,rfl,?_⟩;refine⟨_,rfl,?_⟩;refine⟨[],_,_,_,_,PA,rfl,rfl,?_⟩;refine⟨[],_,_,_,_,fH,rfl,rfl,?_⟩;refine⟨[.k 0,.k 1,.k 2],_,_,_,_,TU,?_,rfl,?_⟩
  ·exact congrArg (fun v=>[V.p (.k 0) 0,V.z s v]) (g8 lp)
  exact⟨_,rfl,[.k 0,.k 1,.k 2,.d 75 3],rfl,⟨_,rfl,rfl⟩,⟨_,rfl,rfl⟩,⟨_,rfl,rfl⟩,⟨_,rfl,rfl⟩,tq⟩
theorem JO {t key s k xs rs} (h:k5 t key s k xs rs) {mode pad md:Int} {back:Bool} {iv a9 H:Bs} {st:MS} {m:Nat} (hb:back=true) (hH:H.length=m) (hmb:m<=100000) (hms:m≠s) (hm:mode<=6) (hp:pad=1\/pad=2\/pad=3):
  b9 C 98 [.p (.k 0) 0,.z m (bv H)] [m8 false t mode pad back k xs iv .n a9,j7 (f9 t k xs) md back st 2,j5 st.row st.gone] (.pan (.i Y8 (i64 7))) [m8 false t mode pad back k xs iv .n a9,j7 (f9 t k xs) md back st 2,j5 st.row st.gone]:=by
 subst hb;have S:=dy (t:=t) (mode:=mode) (pad:=pad) (md:=md) (op:=false) (back:=true) (k:=k) (xs:=xs) (iv:=iv) (a9:=a9) (st:=st) (by omega);obtain⟨ch,row,g⟩:=st;rcases row with _|⟨a,r⟩;all_goals
  refine fO.c ?_;refine⟨_,rfl,?_⟩;refine⟨[],_,_,_,_,h.size,rfl,rfl,?_⟩;refine⟨[.k 0,.k 1,.k 2],_,_,_,_,S,rfl,rfl,?_⟩;refine d9 (fun h7=>absurd h7 (by omega)) (fun h7=> ?_);refine⟨_,rfl,?_⟩;refine i7 (fun hh=>absurd hh (by omega)) (fun _=> ?_);refine⟨_,rfl,?_⟩;refine p6 (fun _=> ?_) (fun hh=>absurd hh (by omega));refine⟨[],_,_,_,_,kQ (e:=7) (by decide),rfl,rfl,?_⟩;exact⟨_,rfl,[.k 0,.k 1,.k 2],rfl,⟨_,rfl,rfl⟩,⟨_,rfl,rfl⟩,⟨_,rfl,rfl⟩,tq⟩
theorem AU {s:Nat} {mode:Int} {back:Bool} {b o a9:Bs} (hm:mode<=6):E3 s mode back b o a9=a9:=by unfold E3;rw[if_neg (by omega)]
theorem JP {t key s k xs rs} (h:k5 t key s k xs rs) {mode pad md:Int} {back:Bool} {iv a9 H:Bs} {st:MS} {m:Nat} (hb:back=true) (hH:H.length=s) (K:MK s md st) (hm:mode<=6) (hp:pad=1\/pad=2\/pad=3) (hgr:r8 s md=s) (h0:D4 pad (k9 (cF t key false) (cF t key true) s md back st H).1=0):
  b9 C 98 [.p (.k 0) 0,.z s (bv H)] [m8 false t mode pad back k xs iv .n a9,j7 (f9 t k xs) md back st 2,j5 st.row st.gone] (.pan (.i Y8 (i64 8)))
   [m8 false t mode pad back k xs iv .n a9,j7 (f9 t k xs) md back (k9 (cF t key false) (cF t key true) s md back st H).2 3,.dead,j5 (k9 (cF t key false) (cF t key true) s md back st H).2.row (k9 (cF t key false) (cF t key true) s md back st H).2.gone]:=by
 subst hb;have hs:=h.s_le;have lo:(k9 (cF t key false) (cF t key true) s md true st H).1.length=s:=by rw[bU h.ci K.ok (by rw[hH,hgr,Zj]),hH]
 have PA:=OE (vb:=bv (k9 (cF t key false) (cF t key true) s md true st H).1) rfl hp h.s_two lo h0;have S:=dy (t:=t) (mode:=mode) (pad:=pad) (md:=md) (op:=false) (back:=true) (k:=k) (xs:=xs) (iv:=iv) (a9:=a9) (st:=st) (by omega);have TU:=pO h (op:=false) (back:=true) (pad:=pad) (iv:=iv) (a9:=a9) (b:=H) hH (by omega) K (mode:=mode) (by omega) (by rw[hgr,Zj]) (.inl (by omega));rw[AU hm]at TU;generalize k9 (cF t key false) (cF t key true) s md true st H=S0 at*
 obtain⟨o,c1,row1,g1⟩:=S0;obtain⟨ch,row,g⟩:=st;rcases row with _|⟨a,r⟩<;>rcases row1 with _|⟨a1,r1⟩;all_goals
  refine fO.c ?_;refine⟨_,rfl,?_⟩;refine⟨[],_,_,_,_,h.size,rfl,rfl,?_⟩;refine⟨[.k 0,.k 1,.k 2],_,_,_,_,S,rfl,rfl,?_⟩;refine d9 (fun h7=>absurd h7 (by omega)) (fun h7=> ?_);refine⟨_,rfl,?_⟩;refine i7 (fun hh=>absurd hh (by omega)) (fun _=> ?_);refine⟨_,rfl,?_⟩;refine p6 (fun hh=>absurd rfl hh) (fun _=> ?_);refine⟨_,rfl,?_⟩;refine⟨[.k 0,.k 1,.k 2],_,_,_,_,TU,rfl,rfl,?_⟩;refine cD rfl ?_;refine cD (V7 rfl rfl rfl) ?_;refine⟨[],_,_,_,_,PA,rfl,rfl,?_⟩;refine⟨[],_,_,_,_,kQ (e:=8) (by decide),rfl,rfl,?_⟩;exact⟨_,rfl,[.k 0,.k 1,.k 2,.d 90 3],rfl,⟨_,rfl,rfl⟩,⟨_,rfl,rfl⟩,⟨_,rfl,rfl⟩,⟨_,rfl,rfl⟩,tq⟩
theorem JQ {t key s k xs rs} (h:k5 t key s k xs rs) {mode pad md:Int} {back:Bool} {iv a9 H:Bs} {st:MS} {m:Nat} (hb:back=true) (hH:H.length=s) (K:MK s md st) (hm:mode<=6) (hp:pad=1\/pad=2\/pad=3) (hgr:r8 s md=s) (h0:D4 pad (k9 (cF t key false) (cF t key true) s md back st H).1≠0):
  b9 C 98 [.p (.k 0) 0,.z s (bv H)] [m8 false t mode pad back k xs iv .n a9,j7 (f9 t k xs) md back st 2,j5 st.row st.gone] (.ret (.z (s-D4 pad (k9 (cF t key false) (cF t key true) s md back st H).1) (bv (bW pad (k9 (cF t key false) (cF t key true) s md back st H).1))))
   [m8 false t mode pad back k xs iv .n a9,j7 (f9 t k xs) md back (k9 (cF t key false) (cF t key true) s md back st H).2 3,.dead,j5 (k9 (cF t key false) (cF t key true) s md back st H).2.row (k9 (cF t key false) (cF t key true) s md back st H).2.gone]:=by
 subst hb;have hs:=h.s_le;have lo:(k9 (cF t key false) (cF t key true) s md true st H).1.length=s:=by rw[bU h.ci K.ok (by rw[hH,hgr,Zj]),hH]
 have PA:=OD (vb:=bv (k9 (cF t key false) (cF t key true) s md true st H).1) rfl hp h.s_two lo h0;have S:=dy (t:=t) (mode:=mode) (pad:=pad) (md:=md) (op:=false) (back:=true) (k:=k) (xs:=xs) (iv:=iv) (a9:=a9) (st:=st) (by omega);have TU:=pO h (op:=false) (back:=true) (pad:=pad) (iv:=iv) (a9:=a9) (b:=H) hH (by omega) K (mode:=mode) (by omega) (by rw[hgr,Zj]) (.inl (by omega));rw[AU hm]at TU;generalize k9 (cF t key false) (cF t key true) s md true st H=S0 at*
 obtain⟨o,c1,row1,g1⟩:=S0;obtain⟨ch,row,g⟩:=st;rcases row with _|⟨a,r⟩<;>rcases row1 with _|⟨a1,r1⟩;all_goals
  refine fO.c ?_;refine⟨_,rfl,?_⟩;refine⟨[],_,_,_,_,h.size,rfl,rfl,?_⟩;refine⟨[.k 0,.k 1,.k 2],_,_,_,_,S,rfl,rfl,?_⟩;refine d9 (fun h7=>absurd h7 (by omega)) (fun h7=> ?_);refine⟨_,rfl,?_⟩;refine i7 (fun hh=>absurd hh (by omega)) (fun _=> ?_);refine⟨_,rfl,?_⟩;refine p6 (fun hh=>absurd rfl hh) (fun _=> ?_);refine⟨_,rfl,?_⟩;refine⟨[.k 0,.k 1,.k 2],_,_,_,_,TU,rfl,rfl,?_⟩;refine cD rfl ?_;refine cD (V7 rfl rfl rfl) ?_;refine⟨[],_,_,_,_,PA,rfl,rfl,?_⟩;refine⟨[],_,_,_,_,fH,rfl,rfl,?_⟩;exact⟨_,rfl,[.k 0,.k 1,.k 2,.d 90 3],rfl,⟨_,rfl,rfl⟩,⟨_,rfl,rfl⟩,⟨_,rfl,rfl⟩,⟨_,rfl,rfl⟩,tq⟩
theorem KT {t mode pad md:Int} {back:Bool} {k m n:Nat} {e:Int} {xs:List V} {iv a9 m7 H:Bs} {st st':MS} {x:HK} {vr:List Value} (hx:x= .n/\m=0/\H=[]\/x= .o H/\H.length=m)
  (E:b9 C 98 [.p (.k 0) 0,.z m (bv H)] [m8 false t mode pad back k xs iv .n a9,j7 (f9 t k xs) md back st 2,j5 st.row st.gone] (.ret (.z n vr)) [m8 false t mode pad back k xs iv .n m7,j7 (f9 t k xs) md back st' 3,.dead,j5 st'.row st'.gone]):
  b9 C 34 [.p (.k 0) 0] [m8 true t mode pad back k xs iv x a9,j7 (f9 t k xs) md back st 2,j5 st.row st.gone,x.b] (.ret (.t [.z n vr,i64 0])) [m8 false t mode pad back k xs iv .n m7,j7 (f9 t k xs) md back st' 4,.dead,.dead,j5 st'.row st'.gone]:=by
 have NE:=kH (t:=t) (mode:=mode) (pad:=pad) (md:=md) (back:=back) (k:=k) (xs:=xs) (iv:=iv) (a9:=a9) (st:=st) (x:=x);obtain⟨ch,row,g⟩:=st;obtain⟨ch1,row1,g1⟩:=st';rcases hx with ⟨rfl,rfl,rfl⟩|⟨rfl,hH⟩
 ·rcases row with _|⟨a,r⟩<;>rcases row1 with _|⟨a1,r1⟩;all_goals
   refine eU.d af ?_;refine⟨⟨[(0,.p (.k 0) 0),(2,.p (.k 4) 0),(3,.p (.k 5) 0)],[_,_,_,_,.sc [.slice none 0 0],.sc [.int .i64 0]]⟩,4,5,by decide,⟨[.k 0,.k 1,.k 2,.k 3,.d 2 0,.d 3 0],⟨rfl,rfl,rfl,tq⟩,⟨_,rfl,rfl⟩,⟨_,rfl,rfl⟩,⟨_,rfl,rfl⟩,⟨_,rfl,rfl⟩,⟨_,rfl,rfl⟩,⟨_,rfl,rfl⟩,tq⟩,rfl,rfl,rfl,?_⟩;refine⟨[.k 0,.k 1,.k 2,.k 3],_,_,_,_,NE,rfl,rfl,?_⟩;refine⟨_,rfl,?_⟩;refine⟨Za rfl,?_⟩;refine⟨Za rfl,?_⟩;refine⟨[.k 0,.k 1,.k 2],_,_,_,_,b9.args E (ys0:=[.p (.k 0) 0,g9]) (.cons (.refl _) (.cons .nl .nil)),rfl,rfl,?_⟩;refine⟨Za rfl,?_⟩;refine⟨Za rfl,?_⟩;refine⟨_,rfl,_,rfl,?_⟩;refine⟨_,_,?_,.ret (.refl _),x7.refl _⟩;exact⟨_,rfl,[.k 0,.k 1,.k 2,.k 3,.d 19 3],rfl,⟨_,rfl,rfl⟩,⟨_,rfl,rfl⟩,⟨_,rfl,rfl⟩,⟨_,rfl,rfl⟩,⟨_,rfl,rfl⟩,tq⟩
 ·rcases row with _|⟨a,r⟩<;>rcases row1 with _|⟨a1,r1⟩;all_goals
   refine eU.d af ?_;refine⟨⟨[(0,.p (.k 0) 0),(2,.p (.k 4) 0),(3,.p (.k 5) 0)],[_,_,_,_,.sc [.slice none 0 0],.sc [.int .i64 0]]⟩,4,5,by decide,⟨[.k 0,.k 1,.k 2,.k 3,.d 2 0,.d 3 0],⟨rfl,rfl,rfl,tq⟩,⟨_,rfl,rfl⟩,⟨_,rfl,rfl⟩,⟨_,rfl,rfl⟩,⟨_,rfl,rfl⟩,⟨_,rfl,rfl⟩,⟨_,rfl,rfl⟩,tq⟩,rfl,rfl,rfl,?_⟩;refine⟨[.k 0,.k 1,.k 2,.k 3],_,_,_,_,NE,rfl,rfl,?_⟩;refine⟨_,rfl,?_⟩;refine⟨Za rfl,?_⟩;refine⟨Za rfl,?_⟩;refine⟨[.k 0,.k 1,.k 2],_,_,_,_,E,?_,rfl,?_⟩
   ·show[V.p (.k 0) 0,V.z H.length (sub (bv H) 0 H.length)]=_;rw[g8 rfl,hH]
   refine⟨Za rfl,?_⟩;refine⟨Za rfl,?_⟩;refine⟨_,rfl,_,rfl,?_⟩;refine⟨_,_,?_,.ret (.refl _),x7.refl _⟩;exact⟨_,rfl,[.k 0,.k 1,.k 2,.k 3,.d 19 3],rfl,⟨_,rfl,rfl⟩,⟨_,rfl,rfl⟩,⟨_,rfl,rfl⟩,⟨_,rfl,rfl⟩,⟨_,rfl,rfl⟩,tq⟩
theorem KM {t mode pad md:Int} {back:Bool} {k m n:Nat} {e:Int} {xs:List V} {iv a9 m7 H:Bs} {st st':MS} {x:HK} {vr:List Value} (hx:x= .n/\m=0/\H=[]\/x= .o H/\H.length=m)
  (E:b9 C 98 [.p (.k 0) 0,.z m (bv H)] [m8 false t mode pad back k xs iv .n a9,j7 (f9 t k xs) md back st 2,j5 st.row st.gone] (.pan (.i Y8 (i64 e))) [m8 false t mode pad back k xs iv .n m7,j7 (f9 t k xs) md back st' 3,.dead,j5 st'.row st'.gone]):
  b9 C 34 [.p (.k 0) 0] [m8 true t mode pad back k xs iv x a9,j7 (f9 t k xs) md back st 2,j5 st.row st.gone,x.b] (.ret (.t [.z 0 [],i64 e])) [m8 false t mode pad back k xs iv .n m7,j7 (f9 t k xs) md back st' 4,.dead,.dead,j5 st'.row st'.gone]:=by
 have NE:=kH (t:=t) (mode:=mode) (pad:=pad) (md:=md) (back:=back) (k:=k) (xs:=xs) (iv:=iv) (a9:=a9) (st:=st) (x:=x);obtain⟨ch,row,g⟩:=st;obtain⟨ch1,row1,g1⟩:=st';rcases hx with ⟨rfl,rfl,rfl⟩|⟨rfl,hH⟩
 ·rcases row with _|⟨a,r⟩<;>rcases row1 with _|⟨a1,r1⟩;all_goals
   refine eU.d af ?_;refine⟨⟨[(0,.p (.k 0) 0),(2,.p (.k 4) 0),(3,.p (.k 5) 0)],[_,_,_,_,.sc [.slice none 0 0],.sc [.int .i64 0]]⟩,4,5,by decide,⟨[.k 0,.k 1,.k 2,.k 3,.d 2 0,.d 3 0],⟨rfl,rfl,rfl,tq⟩,⟨_,rfl,rfl⟩,⟨_,rfl,rfl⟩,⟨_,rfl,rfl⟩,⟨_,rfl,rfl⟩,⟨_,rfl,rfl⟩,⟨_,rfl,rfl⟩,tq⟩,rfl,rfl,rfl,?_⟩;refine⟨[.k 0,.k 1,.k 2,.k 3],_,_,_,_,NE,rfl,rfl,?_⟩;refine⟨_,rfl,?_⟩;refine⟨Za rfl,?_⟩;refine⟨Za rfl,?_⟩;refine⟨[.k 0,.k 1,.k 2],_,_,_,_,b9.args E (ys0:=[.p (.k 0) 0,g9]) (.cons (.refl _) (.cons .nl .nil)),rfl,rfl,?_⟩;refine⟨_,rfl,_,rfl,?_⟩;refine⟨_,_,?_,.ret (.t (.cons .nl (.cons (.refl _) .nil))),x7.refl _⟩;exact⟨_,rfl,[.k 0,.k 1,.k 2,.k 3,.d 19 3],rfl,⟨_,rfl,rfl⟩,⟨_,rfl,rfl⟩,⟨_,rfl,rfl⟩,⟨_,rfl,rfl⟩,⟨_,rfl,rfl⟩,tq⟩
 ·rcases row with _|⟨a,r⟩<;>rcases row1 with _|⟨a1,r1⟩;all_goals
   refine eU.d af ?_;refine⟨⟨[(0,.p (.k 0) 0),(2,.p (.k 4) 0),(3,.p (.k 5) 0)],[_,_,_,_,.sc [.slice none 0 0],.sc [.int .i64 0]]⟩,4,5,by decide,⟨[.k 0,.k 1,.k 2,.k 3,.d 2 0,.d 3 0],⟨rfl,rfl,rfl,tq⟩,⟨_,rfl,rfl⟩,⟨_,rfl,rfl⟩,⟨_,rfl,rfl⟩,⟨_,rfl,rfl⟩,⟨_,rfl,rfl⟩,⟨_,rfl,rfl⟩,tq⟩,rfl,rfl,rfl,?_⟩;refine⟨[.k 0,.k 1,.k 2,.k 3],_,_,_,_,NE,rfl,rfl,?_⟩;refine⟨_,rfl,?_⟩;refine⟨Za rfl,?_⟩;refine⟨Za rfl,?_⟩;refine⟨[.k 0,.k 1,.k 2],_,_,_,_,E,?_,rfl,?_⟩
   ·show[V.p (.k 0) 0,V.z H.length (sub (bv H) 0 H.length)]=_;rw[g8 rfl,hH]
   refine⟨_,rfl,_,rfl,?_⟩;refine⟨_,_,?_,.ret (.t (.cons .nl (.cons (.refl _) .nil))),x7.refl _⟩;exact⟨_,rfl,[.k 0,.k 1,.k 2,.k 3,.d 19 3],rfl,⟨_,rfl,rfl⟩,⟨_,rfl,rfl⟩,⟨_,rfl,rfl⟩,⟨_,rfl,rfl⟩,⟨_,rfl,rfl⟩,tq⟩
theorem JZ {t mode pad md:Int} {back:Bool} {k m n:Nat} {e:Int} {xs:List V} {iv a9 m7 H:Bs} {st st':MS} {x:HK} {vr:List Value} (hx:x= .n/\m=0/\H=[]\/x= .o H/\H.length=m)
  (E:b9 C 98 [.p (.k 0) 0,.z m (bv H)] [m8 false t mode pad back k xs iv .n a9,j7 (f9 t k xs) md back st 2,j5 st.row st.gone] (.ret (.z n vr)) [m8 false t mode pad back k xs iv .n m7,j7 (f9 t k xs) md back st' 2,j5 st'.row st'.gone]):
  b9 C 34 [.p (.k 0) 0] [m8 true t mode pad back k xs iv x a9,j7 (f9 t k xs) md back st 2,j5 st.row st.gone,x.b] (.ret (.t [.z n vr,i64 0])) [m8 false t mode pad back k xs iv .n m7,j7 (f9 t k xs) md back st' 2,j5 st'.row st'.gone,.dead]:=by
 have NE:=kH (t:=t) (mode:=mode) (pad:=pad) (md:=md) (back:=back) (k:=k) (xs:=xs) (iv:=iv) (a9:=a9) (st:=st) (x:=x);obtain⟨ch,row,g⟩:=st;obtain⟨ch1,row1,g1⟩:=st';rcases hx with ⟨rfl,rfl,rfl⟩|⟨rfl,hH⟩
 ·rcases row with _|⟨a,r⟩<;>rcases row1 with _|⟨a1,r1⟩;all_goals
   refine eU.d af ?_;refine⟨⟨[(0,.p (.k 0) 0),(2,.p (.k 4) 0),(3,.p (.k 5) 0)],[_,_,_,_,.sc [.slice none 0 0],.sc [.int .i64 0]]⟩,4,5,by decide,⟨[.k 0,.k 1,.k 2,.k 3,.d 2 0,.d 3 0],⟨rfl,rfl,rfl,tq⟩,⟨_,rfl,rfl⟩,⟨_,rfl,rfl⟩,⟨_,rfl,rfl⟩,⟨_,rfl,rfl⟩,⟨_,rfl,rfl⟩,⟨_,rfl,rfl⟩,tq⟩,rfl,rfl,rfl,?_⟩;refine⟨[.k 0,.k 1,.k 2,.k 3],_,_,_,_,NE,rfl,rfl,?_⟩;refine⟨_,rfl,?_⟩;refine⟨Za rfl,?_⟩;refine⟨Za rfl,?_⟩;refine⟨[.k 0,.k 1,.k 2],_,_,_,_,b9.args E (ys0:=[.p (.k 0) 0,g9]) (.cons (.refl _) (.cons .nl .nil)),rfl,rfl,?_⟩;refine⟨Za rfl,?_⟩;refine⟨Za rfl,?_⟩;refine⟨_,rfl,_,rfl,?_⟩;refine⟨_,_,?_,.ret (.refl _),x7.refl _⟩;exact⟨_,rfl,[.k 0,.k 1,.k 2,.k 3],rfl,⟨_,rfl,rfl⟩,⟨_,rfl,rfl⟩,⟨_,rfl,rfl⟩,⟨_,rfl,rfl⟩,tq⟩
 ·rcases row with _|⟨a,r⟩<;>rcases row1 with _|⟨a1,r1⟩;all_goals
   refine eU.d af ?_;refine⟨⟨[(0,.p (.k 0) 0),(2,.p (.k 4) 0),(3,.p (.k 5) 0)],[_,_,_,_,.sc [.slice none 0 0],.sc [.int .i64 0]]⟩,4,5,by decide,⟨[.k 0,.k 1,.k 2,.k 3,.d 2 0,.d 3 0],⟨rfl,rfl,rfl,tq⟩,⟨_,rfl,rfl⟩,⟨_,rfl,rfl⟩,⟨_,rfl,rfl⟩,⟨_,rfl,rfl⟩,⟨_,rfl,rfl⟩,⟨_,rfl,rfl⟩,tq⟩,rfl,rfl,rfl,?_⟩;refine⟨[.k 0,.k 1,.k 2,.k 3],_,_,_,_,NE,rfl,rfl,?_⟩;refine⟨_,rfl,?_⟩;refine⟨Za rfl,?_⟩;refine⟨Za rfl,?_⟩;refine⟨[.k 0,.k 1,.k 2],_,_,_,_,E,?_,rfl,?_⟩
   ·show[V.p (.k 0) 0,V.z H.length (sub (bv H) 0 H.length)]=_;rw[g8 rfl,hH]
   refine⟨Za rfl,?_⟩;refine⟨Za rfl,?_⟩;refine⟨_,rfl,_,rfl,?_⟩;refine⟨_,_,?_,.ret (.refl _),x7.refl _⟩;exact⟨_,rfl,[.k 0,.k 1,.k 2,.k 3],rfl,⟨_,rfl,rfl⟩,⟨_,rfl,rfl⟩,⟨_,rfl,rfl⟩,⟨_,rfl,rfl⟩,tq⟩
theorem JY {t mode pad md:Int} {back:Bool} {k m n:Nat} {e:Int} {xs:List V} {iv a9 m7 H:Bs} {st st':MS} {x:HK} {vr:List Value} (hx:x= .n/\m=0/\H=[]\/x= .o H/\H.length=m)
  (E:b9 C 98 [.p (.k 0) 0,.z m (bv H)] [m8 false t mode pad back k xs iv .n a9,j7 (f9 t k xs) md back st 2,j5 st.row st.gone] (.pan (.i Y8 (i64 e))) [m8 false t mode pad back k xs iv .n m7,j7 (f9 t k xs) md back st' 2,j5 st'.row st'.gone]):
  b9 C 34 [.p (.k 0) 0] [m8 true t mode pad back k xs iv x a9,j7 (f9 t k xs) md back st 2,j5 st.row st.gone,x.b] (.ret (.t [.z 0 [],i64 e])) [m8 false t mode pad back k xs iv .n m7,j7 (f9 t k xs) md back st' 2,j5 st'.row st'.gone,.dead]:=by
 have NE:=kH (t:=t) (mode:=mode) (pad:=pad) (md:=md) (back:=back) (k:=k) (xs:=xs) (iv:=iv) (a9:=a9) (st:=st) (x:=x);obtain⟨ch,row,g⟩:=st;obtain⟨ch1,row1,g1⟩:=st';rcases hx with ⟨rfl,rfl,rfl⟩|⟨rfl,hH⟩
 ·rcases row with _|⟨a,r⟩<;>rcases row1 with _|⟨a1,r1⟩;all_goals
   refine eU.d af ?_;refine⟨⟨[(0,.p (.k 0) 0),(2,.p (.k 4) 0),(3,.p (.k 5) 0)],[_,_,_,_,.sc [.slice none 0 0],.sc [.int .i64 0]]⟩,4,5,by decide,⟨[.k 0,.k 1,.k 2,.k 3,.d 2 0,.d 3 0],⟨rfl,rfl,rfl,tq⟩,⟨_,rfl,rfl⟩,⟨_,rfl,rfl⟩,⟨_,rfl,rfl⟩,⟨_,rfl,rfl⟩,⟨_,rfl,rfl⟩,⟨_,rfl,rfl⟩,tq⟩,rfl,rfl,rfl,?_⟩;refine⟨[.k 0,.k 1,.k 2,.k 3],_,_,_,_,NE,rfl,rfl,?_⟩;refine⟨_,rfl,?_⟩;refine⟨Za rfl,?_⟩;refine⟨Za rfl,?_⟩;refine⟨[.k 0,.k 1,.k 2],_,_,_,_,b9.args E (ys0:=[.p (.k 0) 0,g9]) (.cons (.refl _) (.cons .nl .nil)),rfl,rfl,?_⟩;refine⟨_,rfl,_,rfl,?_⟩;refine⟨_,_,?_,.ret (.t (.cons .nl (.cons (.refl _) .nil))),x7.refl _⟩;exact⟨_,rfl,[.k 0,.k 1,.k 2,.k 3],rfl,⟨_,rfl,rfl⟩,⟨_,rfl,rfl⟩,⟨_,rfl,rfl⟩,⟨_,rfl,rfl⟩,tq⟩
 ·rcases row with _|⟨a,r⟩<;>rcases row1 with _|⟨a1,r1⟩;all_goals
   refine eU.d af ?_;refine⟨⟨[(0,.p (.k 0) 0),(2,.p (.k 4) 0),(3,.p (.k 5) 0)],[_,_,_,_,.sc [.slice none 0 0],.sc [.int .i64 0]]⟩,4,5,by decide,⟨[.k 0,.k 1,.k 2,.k 3,.d 2 0,.d 3 0],⟨rfl,rfl,rfl,tq⟩,⟨_,rfl,rfl⟩,⟨_,rfl,rfl⟩,⟨_,rfl,rfl⟩,⟨_,rfl,rfl⟩,⟨_,rfl,rfl⟩,⟨_,rfl,rfl⟩,tq⟩,rfl,rfl,rfl,?_⟩;refine⟨[.k 0,.k 1,.k 2,.k 3],_,_,_,_,NE,rfl,rfl,?_⟩;refine⟨_,rfl,?_⟩;refine⟨Za rfl,?_⟩;refine⟨Za rfl,?_⟩;refine⟨[.k 0,.k 1,.k 2],_,_,_,_,E,?_,rfl,?_⟩
   ·show[V.p (.k 0) 0,V.z H.length (sub (bv H) 0 H.length)]=_;rw[g8 rfl,hH]
   refine⟨_,rfl,_,rfl,?_⟩;refine⟨_,_,?_,.ret (.t (.cons .nl (.cons (.refl _) .nil))),x7.refl _⟩;exact⟨_,rfl,[.k 0,.k 1,.k 2,.k 3],rfl,⟨_,rfl,rfl⟩,⟨_,rfl,rfl⟩,⟨_,rfl,rfl⟩,⟨_,rfl,rfl⟩,tq⟩
abbrev cS (t:Int) (key:Bs) (s:Nat) (mode pad:Int) (back:Bool) (iv M:Bs):MS:=(M4 (cF t key false) (cF t key true) s mode pad back iv M).2
abbrev cT (t:Int) (key:Bs) (s:Nat) (mode pad:Int) (back:Bool) (iv M:Bs):Bs:=(M4 (cF t key false) (cF t key true) s mode pad back iv M).1
abbrev cL (t:Int) (key:Bs) (s:Nat) (mode pad:Int) (back:Bool) (iv M:Bs):Bs:=ju (cF t key false) (cF t key true) s mode pad back iv M
theorem nE {t key s k xs rs} (h:k5 t key s k xs rs) {mode pad:Int} {back:Bool} {iv M:Bs} (ok:D5 s mode pad iv):MK s (j4 mode) (cS t key s mode pad back iv M):=by
 have hs:=h.s_le;have K0:MK s (j4 mode) ⟨iv,[],[]⟩:=MK.new (ag ok).1 (by
  have:=(ag ok).2;by_cases h1:j4 mode=1
  ·exact .inl h1
  ·rw[if_neg h1]at this;exact .inr this)
 exact K0.step h.ci (by omega)
theorem zn {t key s k xs rs} (h:k5 t key s k xs rs) {mode pad:Int} {back:Bool} {iv M:Bs} (ok:D5 s mode pad iv) (h7:7<=mode):(cL t key s mode pad back iv M).length=s:=by
 have hs:=h.s_le;have hT:=AX (back:=back) (M:=M) h.ci (by omega) ok;obtain⟨f1,f2⟩:=gO (back:=back) (by omega) ok M.length;have lt:(M.take (C5 s mode pad back M.length)).length=C5 s mode pad back M.length:=by rw[Ze];omega
 unfold cL ju E3;rw[lt];by_cases hn:s<=C5 s mode pad back M.length
 ·rw[if_pos ⟨h7,hn⟩,Zg];split
  ·rw[lt];omega
  ·rw[hT];omega
 ·rw[if_neg (fun hh=>hn hh.2)];have:=ok.2.2.2;rw[if_neg (by omega)]at this;exact this
theorem Ix {t key s} {mode pad:Int} {back:Bool} {iv:Bs} (hs:0<s) (ok:D5 s mode pad iv):M4 (cF t key false) (cF t key true) s mode pad back iv []=([],⟨iv,[],[]⟩):=by
 unfold M4;rw[Z9,oI]
theorem pI {t key s} {mode pad:Int} {back:Bool} {iv:Bs} (hs:0<s) (ok:D5 s mode pad iv):cS t key s mode pad back iv []=⟨iv,[],[]⟩:=congrArg Prod.snd (Ix hs ok)
theorem jl {t key s} {mode pad:Int} {back:Bool} {iv:Bs} (hs:0<s) (ok:D5 s mode pad iv):cL t key s mode pad back iv []=iv:=by
 unfold cL ju E3;rw[Z9,if_neg (by simp;omega)]
theorem qk {s:Nat} {mode pad:Int} {back:Bool}:o8 s mode pad back []=[]:=by unfold o8;rw[List.drop_nil]
theorem AY {t key s k xs rs} (h:k5 t key s k xs rs) {mode pad:Int} {back:Bool} {iv M b:Bs} {m:Nat} {x:HK} (ok:D5 s mode pad iv) (hx:x= .n/\o8 s mode pad back M=[]\/x= .o (o8 s mode pad back M)) (hb:b.length=m) (hL:M.length+m<=100000):
  ∃(n:Nat) (o:Bs),o.length=n/\C5 s mode pad back (M++b).length=C5 s mode pad back M.length+n/\cT t key s mode pad back iv (M++b)=cT t key s mode pad back iv M++o/\
  (b9 C 33 [.p (.k 0) 0,.z m (bv b)] [m8 true t mode pad back k xs iv x (cL t key s mode pad back iv M),j7 (f9 t k xs) (j4 mode) back (cS t key s mode pad back iv M) 2,j5 (cS t key s mode pad back iv M).row (cS t key s mode pad back iv M).gone,x.b]
   (.ret (.t [.z n (bv o),i64 0]))
   [p8 true true t mode pad back (f9 t k xs) (.z iv.length (bv iv)) (.p (.k 1) 0) (.o 1 (.k 5) 0 (o8 s mode pad back (M++b)).length) (.z (cL t key s mode pad back iv (M++b)).length (bv (cL t key s mode pad back iv (M++b)))),
    j7 (f9 t k xs) (j4 mode) back (cS t key s mode pad back iv (M++b)) 4,.dead,.dead,j5 (cS t key s mode pad back iv (M++b)).row (cS t key s mode pad back iv (M++b)).gone,.sc (bv (o8 s mode pad back (M++b)))]\/
   (cS t key s mode pad back iv M).row≠[]/\b9 C 33 [.p (.k 0) 0,.z m (bv b)] [m8 true t mode pad back k xs iv x (cL t key s mode pad back iv M),j7 (f9 t k xs) (j4 mode) back (cS t key s mode pad back iv M) 2,j5 (cS t key s mode pad back iv M).row (cS t key s mode pad back iv M).gone,x.b]
   (.ret (.t [.z n (bv o),i64 0]))
   [p8 true true t mode pad back (f9 t k xs) (.z iv.length (bv iv)) (.p (.k 1) 0) (.o 1 (.k 4) 0 (o8 s mode pad back (M++b)).length) (.z (cL t key s mode pad back iv (M++b)).length (bv (cL t key s mode pad back iv (M++b)))),
    j7 (f9 t k xs) (j4 mode) back (cS t key s mode pad back iv (M++b)) 2,j5 (cS t key s mode pad back iv (M++b)).row (cS t key s mode pad back iv (M++b)).gone,.dead,.sc (bv (o8 s mode pad back (M++b)))]):=by
 have hs:=h.s_le;have K:=nE h (back:=back) (M:=M) ok;have hm9:mode<=9:=ok.1.2;have hxl:x.l=o8 s mode pad back M:=by
  rcases hx with ⟨rfl,e⟩|rfl
  ·exact e.symm
  ·rfl
 have hxo:x= .n\/∃H,x= .o H:=by
  rcases hx with ⟨rfl,e⟩|rfl
  ·exact .inl rfl
  ·exact .inr ⟨_,rfl⟩
 obtain⟨a,ha⟩:∃a,a=C5 s mode pad back ((o8 s mode pad back M).length+b.length):=⟨_,rfl⟩;obtain⟨u1,u2,u3⟩:=AZ (E:=cF t key false) (D:=cF t key true) (iv:=iv) (M:=M) (b:=b) h.ci (by omega) ok ha;have hF:C5 s mode pad back (M++b).length=C5 s mode pad back M.length+a:=by
  rw[Zc,AT (by omega) ok,ha,gP]
 obtain⟨f1,f2⟩:=gO (back:=back) (by omega) ok ((o8 s mode pad back M).length+b.length);rw[<-ha]at f1 f2;have hHl:=gP (n:=s) (mode:=mode) (pad:=pad) (back:=back) M;have l0:((o8 s mode pad back M++b).take a).length=a:=by rw[Ze,Zc];omega
 have lo:(k9 (cF t key false) (cF t key true) s (j4 mode) back (cS t key s mode pad back iv M) ((o8 s mode pad back M++b).take a)).1.length=a:=by
  rw[bU h.ci K.ok (by rw[l0];exact f2),l0]
 have eH:(o8 s mode pad back M).length+m-a=(o8 s mode pad back (M++b)).length:=by rw[<-u3,Zg,Zc,hb]
 refine⟨a,(k9 (cF t key false) (cF t key true) s (j4 mode) back (cS t key s mode pad back iv M) ((o8 s mode pad back M++b).take a)).1,lo,hF,by rw[show cT t key s mode pad back iv (M++b)=(M4 (cF t key false) (cF t key true) s mode pad back iv (M++b)).1 from rfl,u1],?_⟩;have e1:cS t key s mode pad back iv (M++b)=(k9 (cF t key false) (cF t key true) s (j4 mode) back (cS t key s mode pad back iv M) ((o8 s mode pad back M++b).take a)).2:=by
  rw[show cS t key s mode pad back iv (M++b)=(M4 (cF t key false) (cF t key true) s mode pad back iv (M++b)).2 from rfl,u1]
 rw[e1,show cL t key s mode pad back iv (M++b)=ju (cF t key false) (cF t key true) s mode pad back iv (M++b) from rfl,<-u2,<-u3];by_cases hne:0<a\/(cS t key s mode pad back iv M).row=[]
 ·left;have:=Lq h (mode:=mode) (pad:=pad) (back:=back) (iv:=iv) (a9:=cL t key s mode pad back iv M) (st:=cS t key s mode pad back iv M) (x:=x) (L:=(o8 s mode pad back M).length+m) (at':=a) hxo hb (by rw[hxl]) (by omega) K hm9 rfl (by rw[ha,hb];rfl) hne;rw[hxl]at this;rw[Zg,Zc,hb];exact this
 ·right;have hrow:(cS t key s mode pad back iv M).row≠[]:=fun hh=>hne (.inr hh);have h3:3<=j4 mode:=by
   have h1:=K.ok.m;rcases Nat.lt_or_ge 0 1 with _|_
   ·by_cases h2:3<=j4 mode
    ·exact h2
    ·exact absurd (K.ok.blk (by omega)) hrow
   ·omega
  have g1:r8 s (j4 mode)=1:=if_neg (by omega);have a0:a=0:=by omega
  have hL0:(o8 s mode pad back M).length+m=0:=by
   have hz:C5 s mode pad back ((o8 s mode pad back M).length+b.length)=(o8 s mode pad back M).length+b.length:=by
    unfold C5 F9 B8;rw[g1,if_pos h3];simp
   rw[<-ha,hb]at hz;omega
  have:=Lr h (mode:=mode) (pad:=pad) (back:=back) (iv:=iv) (a9:=cL t key s mode pad back iv M) (st:=cS t key s mode pad back iv M) (x:=x) (L:=(o8 s mode pad back M).length+m) (at':=a) hxo hb (by rw[hxl]) hL0 h3 K hm9 rfl (by rw[ha,hb];rfl);have hHb:o8 s mode pad back M++b=[]:=Zh (by rw[Zc,hb];exact hL0);subst a0;rw[hHb,Z9,oI,List.drop_nil];have eL:E3 s mode back [] [] (cL t key s mode pad back iv M)=cL t key s mode pad back iv M:=by unfold E3;rw[if_neg (by simp;omega)]
  rw[eL];exact⟨hrow,this⟩
abbrev G5 (t mode pad:Int) (back:Bool) (k:Nat) (xs:List V) (iv a9:Bs):B:=p8 true false t mode pad back (f9 t k xs) (.z iv.length (bv iv)) (.p (.k 1) 0) g9 (.z a9.length (bv a9))
theorem KX {t mode pad:Int} {back:Bool} {k:Nat} {xs:List V} {iv a9:Bs}:b9 C 40 [.p (.k 0) 0] [G5 t mode pad back k xs iv a9,.dead] (.ret (i64 0)) [G5 t mode pad back k xs iv a9,.dead]:=by
 refine vv.c ?_;refine⟨_,rfl,?_⟩;exact⟨_,rfl,[.k 0,.k 1],rfl,⟨_,rfl,rfl⟩,⟨_,rfl,rfl⟩,tq⟩
theorem zC {t mode pad:Int} {back:Bool} {k:Nat} {xs:List V} {iv a9:Bs}:b9 C 94 [.p (.k 0) 0] [G5 t mode pad back k xs iv a9,.dead] (.pan (.i Y8 (i64 6))) [G5 t mode pad back k xs iv a9,.dead]:=by
 refine vy.c ?_;refine⟨_,rfl,?_⟩;refine⟨[],_,_,_,_,kQ (e:=6) (by decide),rfl,rfl,?_⟩;exact⟨_,rfl,[.k 0,.k 1],rfl,⟨_,rfl,rfl⟩,⟨_,rfl,rfl⟩,tq⟩
theorem Ls {t mode pad:Int} {back:Bool} {k m:Nat} {xs:List V} {iv a9:Bs} {vb:List Value}:b9 C 33 [.p (.k 0) 0,.z m vb] [G5 t mode pad back k xs iv a9,.dead] (.ret (.t [.z 0 [],i64 6])) [G5 t mode pad back k xs iv a9,.dead]:=by
 refine lh.d af ?_;refine⟨⟨[(0,.p (.k 0) 0),(1,.z m vb),(4,.p (.k 2) 0),(5,.p (.k 3) 0)],[_,_,.sc [.slice none 0 0],.sc [.int .i64 0]]⟩,2,3,by decide,⟨[.k 0,.k 1,.d 4 0,.d 5 0],⟨rfl,rfl,rfl,rfl,tq⟩,⟨_,rfl,rfl⟩,⟨_,rfl,rfl⟩,⟨_,rfl,rfl⟩,⟨_,rfl,rfl⟩,tq⟩,rfl,rfl,rfl,?_⟩;refine⟨0,Unit,fun _=>⟨[],[]⟩,fun _=>False,fun _=>0,?_,fun _ h=>h.elim⟩;refine⟨[.k 0,.k 1],_,_,_,_,zC,rfl,rfl,?_⟩;refine⟨_,rfl,_,rfl,?_⟩;refine⟨_,_,?_,.ret (.t (.cons .nl (.cons (.refl _) .nil))),x7.refl _⟩;exact⟨_,rfl,[.k 0,.k 1],rfl,⟨_,rfl,rfl⟩,⟨_,rfl,rfl⟩,tq⟩
theorem JX {t mode pad:Int} {back:Bool} {k:Nat} {xs:List V} {iv a9:Bs}:b9 C 34 [.p (.k 0) 0] [G5 t mode pad back k xs iv a9,.dead] (.ret (.t [.z 0 [],i64 6])) [G5 t mode pad back k xs iv a9,.dead]:=by
 refine eU.d af ?_;refine⟨⟨[(0,.p (.k 0) 0),(2,.p (.k 2) 0),(3,.p (.k 3) 0)],[_,_,.sc [.slice none 0 0],.sc [.int .i64 0]]⟩,2,3,by decide,⟨[.k 0,.k 1,.d 2 0,.d 3 0],⟨rfl,rfl,rfl,tq⟩,⟨_,rfl,rfl⟩,⟨_,rfl,rfl⟩,⟨_,rfl,rfl⟩,⟨_,rfl,rfl⟩,tq⟩,rfl,rfl,rfl,?_⟩;refine⟨[.k 0,.k 1],_,_,_,_,zC,rfl,rfl,?_⟩;refine⟨_,rfl,_,rfl,?_⟩;refine⟨_,_,?_,.ret (.t (.cons .nl (.cons (.refl _) .nil))),x7.refl _⟩;exact⟨_,rfl,[.k 0,.k 1],rfl,⟨_,rfl,rfl⟩,⟨_,rfl,rfl⟩,tq⟩
theorem AW {t key s k xs rs} (h:k5 t key s k xs rs) {mode pad:Int} {back:Bool} {iv M:Bs} {x:HK} {r:Bs×Int} (ok:D5 s mode pad iv) (hx:x= .n/\o8 s mode pad back M=[]\/x= .o (o8 s mode pad back M)) (hL:M.length<=100000)
  (hr:r=nL (cF t key false) (cF t key true) s mode pad back (cS t key s mode pad back iv M) (cL t key s mode pad back iv M) (o8 s mode pad back M)):
  r.1.length<=2*s/\∃m7,b9 C 34 [.p (.k 0) 0] [m8 true t mode pad back k xs iv x (cL t key s mode pad back iv M),j7 (f9 t k xs) (j4 mode) back (cS t key s mode pad back iv M) 2,j5 (cS t key s mode pad back iv M).row (cS t key s mode pad back iv M).gone,x.b]
   (.ret (.t [.z r.1.length (bv r.1),i64 r.2])) [G5 t mode pad back k xs iv m7,.dead,.dead,.dead,.dead]:=by
 have hs:=h.s_le;have K:=nE h (back:=back) (M:=M) ok;have hl:=zn h (back:=back) (M:=M) ok;obtain⟨f1,f2⟩:=gO (back:=back) (by omega) ok M.length;have hHl:=gP (n:=s) (mode:=mode) (pad:=pad) (back:=back) M;obtain⟨g0,g1,g2⟩:=nN (back:=back) (by omega) ok;have hmost:(o8 s mode pad back M).length<=B8 s (j4 mode) mode pad back:=by
  rw[hHl];refine Zm fun hh=> ?_;have:=(bL (most:=B8 s (j4 mode) mode pad back) (L:=M.length) (i:=F9 (r8 s (j4 mode)) (B8 s (j4 mode) mode pad back) M.length) g0).2 (by show _+C5 s mode pad back M.length<_;omega);exact absurd this (Nat.lt_irrefl _)
 have hHb:(o8 s mode pad back M).length<=100000:=by omega
 generalize hSt:cS t key s mode pad back iv M=st at*
 generalize hLa:cL t key s mode pad back iv M=a9 at*
 generalize o8 s mode pad back M=H at*
 have hx':x= .n/\H.length=0/\H=[]\/x= .o H/\H.length=H.length:=by
  rcases hx with ⟨e1,e2⟩|e1
  ·exact .inl ⟨e1,by rw[e2];rfl,e2⟩
  ·exact .inr ⟨e1,rfl⟩
 have fT:∀{n} {vr:List Value} {m7 st'},b9 C 98 [.p (.k 0) 0,.z H.length (bv H)] [m8 false t mode pad back k xs iv .n a9,j7 (f9 t k xs) (j4 mode) back st 2,j5 st.row st.gone] (.ret (.z n vr)) [m8 false t mode pad back k xs iv .n m7,j7 (f9 t k xs) (j4 mode) back st' 3,.dead,j5 st'.row st'.gone]->
   ∃m7,b9 C 34 [.p (.k 0) 0] [m8 true t mode pad back k xs iv x a9,j7 (f9 t k xs) (j4 mode) back st 2,j5 st.row st.gone,x.b] (.ret (.t [.z n vr,i64 0])) [G5 t mode pad back k xs iv m7,.dead,.dead,.dead,.dead]:=
  fun E=>⟨_,(KT (e:=0) hx' E).fg (.keep (.drop (.drop (.drop (.drop .nil)))))⟩
 have fTp:∀{e m7 st'},b9 C 98 [.p (.k 0) 0,.z H.length (bv H)] [m8 false t mode pad back k xs iv .n a9,j7 (f9 t k xs) (j4 mode) back st 2,j5 st.row st.gone] (.pan (.i Y8 (i64 e))) [m8 false t mode pad back k xs iv .n m7,j7 (f9 t k xs) (j4 mode) back st' 3,.dead,j5 st'.row st'.gone]->
   ∃m7,b9 C 34 [.p (.k 0) 0] [m8 true t mode pad back k xs iv x a9,j7 (f9 t k xs) (j4 mode) back st 2,j5 st.row st.gone,x.b] (.ret (.t [.z 0 [],i64 e])) [G5 t mode pad back k xs iv m7,.dead,.dead,.dead,.dead]:=
  fun E=>⟨_,(KM (n:=0) (vr:=[]) hx' E).fg (.keep (.drop (.drop (.drop (.drop .nil)))))⟩
 have fN:∀{n} {vr:List Value} {m7 st'},b9 C 98 [.p (.k 0) 0,.z H.length (bv H)] [m8 false t mode pad back k xs iv .n a9,j7 (f9 t k xs) (j4 mode) back st 2,j5 st.row st.gone] (.ret (.z n vr)) [m8 false t mode pad back k xs iv .n m7,j7 (f9 t k xs) (j4 mode) back st' 2,j5 st'.row st'.gone]->
   ∃m7,b9 C 34 [.p (.k 0) 0] [m8 true t mode pad back k xs iv x a9,j7 (f9 t k xs) (j4 mode) back st 2,j5 st.row st.gone,x.b] (.ret (.t [.z n vr,i64 0])) [G5 t mode pad back k xs iv m7,.dead,.dead,.dead,.dead]:=
  fun E=>⟨_,(JZ (e:=0) hx' E).fg (.keep (.drop (.drop (.drop (.dd .nil)))))⟩
 have fNp:∀{e m7 st'},b9 C 98 [.p (.k 0) 0,.z H.length (bv H)] [m8 false t mode pad back k xs iv .n a9,j7 (f9 t k xs) (j4 mode) back st 2,j5 st.row st.gone] (.pan (.i Y8 (i64 e))) [m8 false t mode pad back k xs iv .n m7,j7 (f9 t k xs) (j4 mode) back st' 2,j5 st'.row st'.gone]->
   ∃m7,b9 C 34 [.p (.k 0) 0] [m8 true t mode pad back k xs iv x a9,j7 (f9 t k xs) (j4 mode) back st 2,j5 st.row st.gone,x.b] (.ret (.t [.z 0 [],i64 e])) [G5 t mode pad back k xs iv m7,.dead,.dead,.dead,.dead]:=
  fun E=>⟨_,(JY (n:=0) (vr:=[]) hx' E).fg (.keep (.drop (.drop (.drop (.dd .nil)))))⟩
 unfold nL at hr;by_cases h7:7<=mode
 ·have e2:j4 mode=2:=if_pos h7;have hmo:H.length<=2*s:=by unfold B8 at hmost;rw[e2,if_neg (by decide),if_pos h7]at hmost;exact hmost
  rw[if_pos h7]at hr;by_cases hsm:H.length<s
  ·rw[if_pos hsm]at hr;subst hr;exact⟨Zk _,fNp (JW h (hl h7) rfl ⟨h7,ok.1.2⟩ hsm)⟩
  ·rw[if_neg hsm]at hr;subst hr;have ll:(P2 (cF t key false) (cF t key true) s mode back a9 H).length=H.length:=stT_len h.ci (hl h7) (by omega) hmo;refine⟨by show(P2 (cF t key false) (cF t key true) s mode back a9 H).length<=_;rw[ll];exact hmo,?_⟩;have:=fN (JV h (pad:=pad) (md:=j4 mode) (back:=back) (iv:=iv) (st:=st) (hl h7) rfl ⟨h7,ok.1.2⟩ (by omega) hmo);rw[<-ll]at this;exact this
 ·have e2:j4 mode=mode:=if_neg h7;rw[if_neg h7]at hr;by_cases h4:pad=4
  ·rw[if_pos h4]at hr;by_cases hz:H.length%r8 s (j4 mode)=0
   ·rw[if_pos hz]at hr;have lo:(k9 (cF t key false) (cF t key true) s (j4 mode) back st H).1.length=H.length:=bU h.ci K.ok hz;have hb2:H.length<=2*s:=by
     unfold B8 at hmost;rw[if_neg h7]at hmost;split at hmost
     ·omega
     ·split at hmost<;>omega
    subst hr;refine⟨by show(k9 (cF t key false) (cF t key true) s (j4 mode) back st H).1.length<=_;rw[lo];exact hb2,?_⟩;by_cases hne:0<H.length\/st.row=[]
    ·have:=fT (JR h (mode:=mode) (pad:=pad) (back:=back) (iv:=iv) (a9:=a9) rfl hHb K (by omega) h4 hz hne);rw[<-lo]at this;rw[lo]at this ⊢;exact this
    ·have hrow:st.row≠[]:=fun hh=>hne (.inr hh);have h3:3<=j4 mode:=by
      have h1:=K.ok.m;by_cases h2:3<=j4 mode
      ·exact h2
      ·exact absurd (K.ok.blk (by omega)) hrow
     have h0:H.length=0:=by omega
     have:=fN (JS h (H:=H) (mode:=mode) (pad:=pad) (back:=back) (iv:=iv) (a9:=a9) (st:=st) h0 h3 (by omega) h4);obtain rfl:=Zh h0;rw[oI];exact this
   ·rw[if_neg hz]at hr;subst hr;exact⟨Zk _,fNp (JT h K (by omega) h4 hz)⟩
  ·have hm2:mode<=2:=ok.2.2.1.resolve_left h4;have hp:pad=1\/pad=2\/pad=3:=by have:=ok.2.1;omega
   have gn:r8 s (j4 mode)=s:=if_pos (by have:=ok.1;omega);rw[if_neg h4]at hr;have hmo:H.length<=(if back=true then s else s-1):=by
    unfold B8 at hmost;rw[if_neg (by omega),if_neg h7]at hmost;cases back
    ·rw[if_neg (by simp)]at hmost;exact hmost
    ·rw[if_pos ⟨h4,rfl⟩]at hmost;exact hmost
   cases back
   ·rw[if_pos rfl]at hr;rw[if_neg (by decide)]at hmo;have lp:(G9 pad s H).length=s:=oR (by omega);have lo:(k9 (cF t key false) (cF t key true) s (j4 mode) false st (G9 pad s H)).1.length=s:=by rw[bU h.ci K.ok (by rw[lp,gn,Zj]),lp]
    subst hr;refine⟨by show(k9 (cF t key false) (cF t key true) s (j4 mode) false st (G9 pad s H)).1.length<=_;rw[lo];omega,?_⟩;have:=fT (JU h (m:=H.length) (mode:=mode) (pad:=pad) (back:=false) (iv:=iv) (a9:=a9) rfl rfl (by omega) K (by omega) hp gn);rw[<-lo]at this;rw[lo]at this ⊢;exact this
   ·rw[if_neg (by decide)]at hr;by_cases hsz:H.length=s
    ·rw[if_pos hsz]at hr;have lo:(k9 (cF t key false) (cF t key true) s (j4 mode) true st H).1.length=s:=by rw[bU h.ci K.ok (by rw[hsz,gn,Zj]),hsz]
     by_cases h0:D4 pad (k9 (cF t key false) (cF t key true) s (j4 mode) true st H).1=0
     ·rw[if_pos h0]at hr;subst hr;have:=JP h (m:=0) (mode:=mode) (pad:=pad) (back:=true) (iv:=iv) (a9:=a9) rfl hsz K (by omega) hp gn h0;exact⟨Zk _,fTp (by rw[hsz];exact this)⟩
     ·rw[if_neg h0]at hr;subst hr;have ls:(bW pad (k9 (cF t key false) (cF t key true) s (j4 mode) true st H).1).length=s-D4 pad (k9 (cF t key false) (cF t key true) s (j4 mode) true st H).1:=by
       unfold bW;rw[Ze,lo];omega
      refine⟨by show(bW pad (k9 (cF t key false) (cF t key true) s (j4 mode) true st H).1).length<=_;rw[ls];omega,?_⟩;have:=JQ h (m:=0) (mode:=mode) (pad:=pad) (back:=true) (iv:=iv) (a9:=a9) rfl hsz K (by omega) hp gn h0;rw[<-ls]at this;exact fT (by rw[hsz];exact this)
    ·rw[if_neg hsz]at hr;subst hr;exact⟨Zk _,fNp (JO h rfl rfl hHb hsz (by omega) hp)⟩
theorem HJ {T o:Bs} {n m:Nat} (hT:T.length=n) (ho:o.length=m):V.z (n+m) (sub (sub (bv T) 0 (n*1)++bv o) 0 (n+m))=V.z (T++o).length (bv (T++o)):=by
 rw[Zi,g8 hT,B7,g8 (by rw[Zc,hT,ho]),Zc,hT,ho]
theorem T3 {m:Nat} {s:S} {d d':D} (e:d=d') (h:Mt m s d'):Mt m s d:=e▸h
theorem Ll {t mode pad:Int} {back:Bool} {k:Nat} {xs:List V} {iv a9:Bs} (hm:mode<=9):b9 C 158 [.p (.k 0) 0] [G5 t mode pad back k xs iv a9,.dead] (.ret (bool (decide (7<=mode)))) [G5 t mode pad back k xs iv a9,.dead]:=by
 refine nY.c ?_;refine⟨_,rfl,?_⟩;refine d9 (fun h7=> ?_) (fun h7=> ?_)
 ·refine⟨_,rfl,?_⟩;refine⟨_,rfl,[.k 0,.k 1],?_,⟨_,rfl,rfl⟩,⟨_,rfl,rfl⟩,tq⟩;exact congrArg bool (by rw[decide_eq_true hm,decide_eq_true h7])
 ·refine⟨_,rfl,[.k 0,.k 1],?_,⟨_,rfl,rfl⟩,⟨_,rfl,rfl⟩,tq⟩;exact congrArg bool (by rw[decide_eq_false h7])
theorem zx {t key s k xs rs} (h:k5 t key s k xs rs) {mode pad:Int} {back:Bool} {iv H6:Bs} (ok:D5 s mode pad iv):
  b9 C 91 [.p (.k 0) 0] [G5 t mode pad back k xs iv H6,.dead] (.ret (.t []))
   [p8 true true t mode pad back (f9 t k xs) (.z iv.length (bv iv)) (.p (.k 2) 0) g9 (.z iv.length (bv iv)),.dead,j7 (f9 t k xs) (j4 mode) back ⟨iv,[],[]⟩ 3,.dead,.dead]:=by
 have hs:=h.s_le;obtain⟨m1,hiv⟩:=ag ok;have T0:=ux h (mode:=j4 mode) (back:=back) (i:=1) (vi:=bv iv) (iv:=iv) rfl rfl m1 hiv;have hl16:iv.length<=16:=by rw[hiv];split<;>omega
 have S:=Ll (t:=t) (mode:=mode) (pad:=pad) (back:=back) (k:=k) (xs:=xs) (iv:=iv) (a9:=H6) ok.1.2;refine vx.c ?_;refine⟨_,rfl,?_⟩;refine⟨[.k 0,.k 1],_,_,_,_,S,rfl,rfl,?_⟩;refine d9 (fun h7=> ?_) (fun h7=> ?_);all_goals
  first
   |rw[show j4 mode=2 from if_pos h7]at T0 ⊢
   |rw[show j4 mode=mode from if_neg h7]at T0 ⊢
  refine⟨_,rfl,?_⟩;refine⟨_,rfl,?_⟩;refine⟨_,rfl,?_⟩;refine⟨[],_,_,_,_,T0,rfl,rfl,?_⟩;refine⟨Za rfl,?_⟩;refine⟨_,rfl,?_⟩;refine⟨[],_,_,_,_,X7 (l:=iv) rfl rfl (by omega),rfl,rfl,?_⟩;refine⟨Za rfl,?_⟩;refine⟨Za rfl,?_⟩;refine⟨Za rfl,?_⟩;exact⟨_,rfl,[.k 0,.k 1,.d 26 0,.d 26 1,.d 26 2],rfl,⟨_,rfl,rfl⟩,⟨_,rfl,rfl⟩,⟨_,rfl,rfl⟩,⟨_,rfl,rfl⟩,⟨_,rfl,rfl⟩,tq⟩
theorem Li {t key s k xs rs} (h:k5 t key s k xs rs) {mode pad:Int} {back:Bool} {iv H6:Bs} (ok:D5 s mode pad iv):
  b9 C 35 [.p (.k 0) 0] [G5 t mode pad back k xs iv H6,.dead] (.ret (i64 0))
   [p8 true true t mode pad back (f9 t k xs) (.z iv.length (bv iv)) (.p (.k 2) 0) g9 (.z iv.length (bv iv)),.dead,j7 (f9 t k xs) (j4 mode) back ⟨iv,[],[]⟩ 3,.dead,.dead]:=by
 refine vw.c ?_;refine⟨_,rfl,?_⟩;refine⟨[.k 0,.k 1],_,_,_,_,zx h ok,rfl,rfl,?_⟩;exact⟨_,rfl,[.k 0,.k 1,.d 9 2,.d 9 3,.d 9 4],rfl,⟨_,rfl,rfl⟩,⟨_,rfl,rfl⟩,⟨_,rfl,rfl⟩,⟨_,rfl,rfl⟩,⟨_,rfl,rfl⟩,tq⟩
structure Cf where
 t:Int
 mode:Int
 pad:Int
 back:Bool
 key:Bs
 iv:Bs
inductive CX where
 |nw
 |op (c:Cf) (m:Option (Bs))
 |cl (c:Cf)
structure Cl where
 kind:Int
 c:Cf
 inp:Bs
structure To where
 out:Bs
 e:Int
 held:Nat
noncomputable def Cf.s (c:Cf):Nat:=(q9 c.t).toNat
noncomputable def Cf.err (c:Cf):Int:=C2 c.t c.mode c.pad c.s c.key.length c.iv.length
noncomputable def nK (t:Int) (key:Bs):Nat×List V:=open Classical in if h:∃p:Nat×List V,∃rs,k5 t key (q9 t).toNat p.1 p.2 rs then Classical.choose h else (0,[])
theorem Pe {t:Int} {key:Bs} {s k:Nat} {xs rs:List V} (h:k5 t key s k xs rs):∃rs,k5 t key (q9 t).toNat (nK t key).1 (nK t key).2 rs:=by
 have h0:∃p:Nat×List V,∃rs,k5 t key (q9 t).toNat p.1 p.2 rs:=⟨(k,xs),rs,by rw[h.hs];exact h⟩;unfold nK;rw[dif_pos h0];exact Classical.choose_spec h0
noncomputable abbrev Cf.k (c:Cf):Nat:=(nK c.t c.key).1
noncomputable abbrev Cf.xs (c:Cf):List V:=(nK c.t c.key).2
noncomputable abbrev Cf.S (c:Cf) (M:Bs):MS:=cS c.t c.key c.s c.mode c.pad c.back c.iv M
noncomputable abbrev Cf.L (c:Cf) (M:Bs):Bs:=cL c.t c.key c.s c.mode c.pad c.back c.iv M
noncomputable abbrev Cf.T (c:Cf) (M:Bs):Bs:=cT c.t c.key c.s c.mode c.pad c.back c.iv M
noncomputable abbrev Cf.H (c:Cf) (M:Bs):Bs:=o8 c.s c.mode c.pad c.back M
noncomputable abbrev Cf.fin (c:Cf) (M:Bs):Bs×Int:=nL (cF c.t c.key false) (cF c.t c.key true) c.s c.mode c.pad c.back (c.S M) (c.L M) (c.H M)
theorem Cf.ok {c:Cf} (h:c.err=0) (hk:c.key.length<=1000):(∃rs,k5 c.t c.key c.s c.k c.xs rs)/\D5 c.s c.mode c.pad c.iv:=by
 rcases EH c.t (key:=c.key) rfl hk c.mode c.pad c.back (iv:=c.iv) rfl with ⟨e,s,k,xs,rs,h,ok⟩|⟨he,P,Q⟩
 ·refine⟨Pe h,?_⟩;have hs:c.s=s:=by unfold Cf.s;rw[h.hs];rfl
  rw[hs];exact ok
 ·exact absurd h he
noncomputable def mJ:CX->Nat
 | .op c (some M)=>(c.H M).length
 |_=>0
noncomputable def w7 (σ:CX) (x:Cl):CX:=open Classical in
 if x.kind=1 then (if x.c.err=0 then .op x.c none else σ)
 else if x.kind=2 then (match σ with
  | .op c m=> .op c (some (m.getD []++x.inp))
  |σ=>σ)
 else if x.kind=3 then (match σ with
  | .op c _=> .cl c
  |σ=>σ)
 else if x.kind=4 then (match σ with
  | .nw=> .nw
  | .op c _=> .op c none
  | .cl c=> .op c none)
 else σ
noncomputable def t3 (σ:CX) (x:Cl):Bs×Int:=
 if x.kind=1 then ([],x.c.err)
 else if x.kind=2 then (match σ with
  | .op c m=>((c.T (m.getD []++x.inp)).drop (c.T (m.getD [])).length,0)
  |_=>([],6))
 else if x.kind=3 then (match σ with
  | .op c m=>c.fin (m.getD [])
  |_=>([],6))
 else if x.kind=4 then (match σ with
  | .nw=>([],6)
  |_=>([],0))
 else ([],1)
noncomputable def ca (σ:CX) (x:Cl):To:=⟨(t3 σ x).1,(t3 σ x).2,mJ (w7 σ x)⟩
noncomputable def L8:CX->List Cl->List To
 |_,[]=>[]
 |σ,x::l=>ca σ x::L8 (w7 σ x) l
noncomputable def G6 (σ:CX) (l:List Cl):CX:=l.foldl w7 σ
theorem xi:∀(l:List Cl) (σ:CX),(L8 σ l).length=l.length
 |[],_=>rfl
 |x::l,σ=>congrArg (· +1) (xi l _)
theorem xf:∀(l m:List Cl) (σ:CX),L8 σ (l++m)=L8 σ l++L8 (G6 σ l) m
 |[],_,_=>rfl
 |x::l,m,σ=>congrArg (ca σ x:: ·) (xf l m _)
def jY (n:Nat):CX->Prop
 | .nw=>True
 | .op c m=>c.err=0/\c.key.length<=1000/\(m.getD []).length<=n
 | .cl c=>c.err=0/\c.key.length<=1000
def iZ (x:Cl):Prop:=(-9223372036854775808<=x.kind/\x.kind<=9223372036854775807)/\x.c.key.length<=1000/\x.c.iv.length<=1000/\x.inp.length<=1000
theorem jY.next {n:Nat} {σ:CX} {x:Cl} (h:jY n σ) (hx:iZ x):jY (n+x.inp.length) (w7 σ x):=by
 have up:jY (n+x.inp.length) σ:=by
  cases σ with
  |nw=>trivial
  |op c m=>exact⟨h.1,h.2.1,Zl h.2.2 (by omega)⟩
  |cl c=>exact h
 unfold w7;by_cases h1:x.kind=1
 ·rw[if_pos h1];by_cases he:x.c.err=0
  ·rw[if_pos he];exact⟨he,hx.2.1,Zk _⟩
  ·rw[if_neg he];exact up
 ·rw[if_neg h1];by_cases h2:x.kind=2
  ·rw[if_pos h2];cases σ with
   |nw=>trivial
   |op c m=>exact⟨h.1,h.2.1,by show(m.getD []++x.inp).length<=_;rw[Zc];have:=h.2.2;omega⟩
   |cl c=>exact h
  ·rw[if_neg h2];by_cases h3:x.kind=3
   ·rw[if_pos h3];cases σ with
    |nw=>trivial
    |op c m=>exact⟨h.1,h.2.1⟩
    |cl c=>exact h
   ·rw[if_neg h3];by_cases h4:x.kind=4
    ·rw[if_pos h4];cases σ with
     |nw=>trivial
     |op c m=>exact⟨h.1,h.2.1,Zk _⟩
     |cl c=>exact⟨h.1,h.2,Zk _⟩
    ·rw[if_neg h4];exact up
theorem La {t key s k xs rs} (h:k5 t key s k xs rs) {mode pad:Int} {back:Bool} {lk li:Nat} {iv:Bs} {t0 mode0 pad0:Int} {K6:Bool} {k0:Nat} {xs0:List V} {iv0 H6:Bs} (hk:key.length=lk) (hlk:lk<=1000) (hi:iv.length=li) (ok:D5 s mode pad iv):
  b9 C 30 [.p (.k 0) 0,R9 t mode pad back,.z lk (bv key),.z li (bv iv)] [G5 t0 mode0 pad0 K6 k0 xs0 iv0 H6,.dead] (.ret (i64 0))
   [p8 true true t mode pad back (f9 t k xs) (.z iv.length (bv iv)) (.p (.k 2) 0) g9 (.z iv.length (bv iv)),.dead,j7 (f9 t k xs) (j4 mode) back ⟨iv,[],[]⟩ 3,.dead,.dead]:=by
 have hs:=h.s_le;obtain⟨m1,hiv⟩:=ag ok;have hl16:iv.length<=16:=by rw[hiv];split<;>omega
 have CK:=(gM t hk hlk mode pad back hi).1;rw[su h hk hi ok]at CK;subst hi;have BG:=zx h (back:=back) (H6:=H6) ok;refine lg.c ?_;refine⟨[i64 t,i64 mode,i64 pad,bool back],rfl,rfl,?_⟩;refine⟨[],_,_,_,_,CK,rfl,rfl,?_⟩;refine⟨_,rfl,?_⟩;refine⟨[],_,_,_,_,h.new' (n:=lk) hk rfl,rfl,rfl,?_⟩;refine⟨Za rfl,?_⟩;refine⟨[i64 t,i64 mode,i64 pad,bool back],rfl,rfl,?_⟩;refine⟨[],_,_,_,_,X7 (l:=iv) rfl rfl (by omega),rfl,rfl,?_⟩;refine⟨Za rfl,?_⟩;refine⟨Za rfl,?_⟩;refine⟨Za rfl,?_⟩;refine⟨[.k 0,.k 1],_,_,_,_,BG,rfl,rfl,?_⟩;exact⟨_,rfl,[.k 0,.k 1,.d 40 2,.d 40 3,.d 40 4],rfl,⟨_,rfl,rfl⟩,⟨_,rfl,rfl⟩,⟨_,rfl,rfl⟩,⟨_,rfl,rfl⟩,⟨_,rfl,rfl⟩,tq⟩
theorem Le {t mode pad:Int} {back:Bool} {lk li:Nat} {key iv:Bs} {t0 mode0 pad0:Int} {K6:Bool} {k0:Nat} {xs0:List V} {iv0 H6:Bs} (hk:key.length=lk) (hlk:lk<=1000) (hi:iv.length=li) (he:C2 t mode pad (q9 t).toNat lk li≠0):
  b9 C 30 [.p (.k 0) 0,R9 t mode pad back,.z lk (bv key),.z li (bv iv)] [G5 t0 mode0 pad0 K6 k0 xs0 iv0 H6,.dead] (.ret (i64 (C2 t mode pad (q9 t).toNat lk li))) [G5 t0 mode0 pad0 K6 k0 xs0 iv0 H6,.dead]:=by
 have CK:=(gM t hk hlk mode pad back hi).1;generalize C2 t mode pad (q9 t).toNat lk li=e at*
 refine lg.c ?_;refine⟨[i64 t,i64 mode,i64 pad,bool back],rfl,rfl,?_⟩;refine⟨[],_,_,_,_,CK,rfl,rfl,?_⟩;refine p6 (fun _=> ?_) (fun hh=>absurd hh he);exact⟨_,rfl,[.k 0,.k 1],rfl,⟨_,rfl,rfl⟩,⟨_,rfl,rfl⟩,tq⟩
abbrev AS (t mode pad:Int) (back:Bool) (k:Nat) (xs:List V) (iv a9:Bs) (j:Nat):B:=p8 true false t mode pad back (f9 t k xs) (.z iv.length (bv iv)) (.p (.k j) 0) g9 (.z a9.length (bv a9))
def HK.w (x:HK) (j:Nat):V:=match x with
 | .n=>g9
 | .o H=> .o 1 (.k j) 0 H.length
 | .f H=> .z H.length (bv H)
def tB (o:Option (Nat×List Value)) (e:Int) (h:Int):B:=match o with
 |none=> .mx [g9,i64 e,i64 h]
 |some p=> .mx [.z p.1 p.2,i64 e,i64 h]
theorem nO {o e h0}:ja C 160 [.p (.k 0) 0,.p (.k 1) 0] [.mx [.p (.k 2) 0],tB o e h0,p8 false false 0 0 0 false j8 g9 j8 g9 g9] (.ret (.t [])) [.mx [.p (.k 2) 0],tB o e 0,p8 false false 0 0 0 false j8 g9 j8 g9 g9]:=by
 rcases o with _|⟨n,vs⟩;all_goals
  refine vH.e ?_;refine⟨_,rfl,?_⟩;refine⟨[.k 2],_,_,_,_,KW,rfl,rfl,?_⟩;refine⟨Za rfl,?_⟩;exact⟨_,rfl,[.k 0,.k 1,.k 2],rfl,⟨_,rfl,rfl⟩,⟨_,rfl,rfl⟩,⟨_,rfl,rfl⟩,tq⟩
theorem nP {o e h0} {t mode pad:Int} {back:Bool} {k:Nat} {xs:List V} {iv a9:Bs}:ja C 160 [.p (.k 0) 0,.p (.k 1) 0] [.mx [.p (.k 2) 0],tB o e h0,AS t mode pad back k xs iv a9 3,.dead] (.ret (.t [])) [.mx [.p (.k 2) 0],tB o e 0,AS t mode pad back k xs iv a9 3,.dead]:=by
 rcases o with _|⟨n,vs⟩;all_goals
  refine vH.e ?_;refine⟨_,rfl,?_⟩;refine⟨[.k 2,.k 3],_,_,_,_,KX (a9:=a9),rfl,rfl,?_⟩;refine⟨Za rfl,?_⟩;exact⟨_,rfl,[.k 0,.k 1,.k 2,.k 3],rfl,⟨_,rfl,rfl⟩,⟨_,rfl,rfl⟩,⟨_,rfl,rfl⟩,⟨_,rfl,rfl⟩,tq⟩
theorem bM {o e h0} {t mode pad:Int} {back:Bool} {k:Nat} {xs:List V} {iv a9:Bs} {st:MS} {x:HK}:ja C 160 [.p (.k 0) 0,.p (.k 1) 0]
  [.mx [.p (.k 2) 0],tB o e h0,p8 true true t mode pad back (f9 t k xs) (.z iv.length (bv iv)) (.p (.k 3) 0) (x.w 5) (.z a9.length (bv a9)),j7 (f9 t k xs) (j4 mode) back st 4,j5 st.row st.gone,x.b] (.ret (.t []))
  [.mx [.p (.k 2) 0],tB o e x.l.length,p8 true true t mode pad back (f9 t k xs) (.z iv.length (bv iv)) (.p (.k 3) 0) (x.w 5) (.z a9.length (bv a9)),j7 (f9 t k xs) (j4 mode) back st 4,j5 st.row st.gone,x.b]:=by
 have H:=fun st x=>KV (t:=t) (mode:=mode) (pad:=pad) (md:=j4 mode) (op:=true) (back:=back) (k:=k) (xs:=xs) (iv:=iv) (a9:=a9) (st:=st) (x:=x);obtain⟨ch,row,g⟩:=st;rcases row with _|⟨a,r⟩<;>rcases x with _|H'|H'<;>rcases o with _|⟨n,vs⟩;all_goals
  refine vH.e ?_;refine⟨_,rfl,?_⟩;first
   |refine⟨[.k 2,.k 3,.k 4,.k 5],_,_,_,_,H _ .n,rfl,rfl,?_⟩
   |refine⟨[.k 2,.k 3,.k 4,.k 5],_,_,_,_,H _ (.o H'),rfl,rfl,?_⟩
   |refine⟨[.k 2,.k 3,.k 4,.k 5],_,_,_,_,H _ (.f H'),rfl,rfl,?_⟩
  refine⟨Za rfl,?_⟩;exact⟨_,rfl,[.k 0,.k 1,.k 2,.k 3,.k 4,.k 5],rfl,⟨_,rfl,rfl⟩,⟨_,rfl,rfl⟩,⟨_,rfl,rfl⟩,⟨_,rfl,rfl⟩,⟨_,rfl,rfl⟩,⟨_,rfl,rfl⟩,tq⟩
theorem b9.wka {C:m6} {f:Nat} {args xs ys:List V} {bs bs':List B} (h:b9 C f args bs (.ret (.a xs)) bs') (hw:aU xs ys):b9 C f args bs (.ret (.a ys)) bs':=
 ⟨h.1,fun w F ι vs st hgl hdm hl=>Calls.mono (h.2 w F ι vs st hgl hdm hl) fun e w' ⟨F',ι',h1,h2,h3,h4,h5,h6⟩=>⟨F',ι',h1,h2,h3,h4,h5,by
  obtain⟨x,he,hR⟩:=h6;refine⟨x,he,?_⟩;cases hR with
  |fz h=>cases h with|a hl=>exact .fz (.a (hw.rf hl))
  |a hl=>exact .a (hw.r hl)⟩⟩
theorem Xz {kind:Int} {t' t6 w5:Int} {x6:Bool} {lk' li' lb':Nat} {vk' vi' vb':List Value} (k1:kind≠1) (k2:kind≠2) (k3:kind≠3) (k4:kind≠4):
  b9 C 104 [.p (.k 0) 0,.a [i64 kind,i64 t',i64 t6,i64 w5,bool x6,.z lk' vk',.z li' vi',.z lb' vb']] [p8 false false 0 0 0 false j8 g9 j8 g9 g9,.dead,.dead,.dead] (.ret (.a [.z 0 [],i64 1,i64 0])) [p8 false false 0 0 0 false j8 g9 j8 g9 g9,.dead,.dead,.dead]:=by
 refine b9.wka (U5.p ?_) (.cons .nl (.cons (.refl _) (.cons (.refl _) .nil)));refine⟨⟨[(2,.p (.k 4) 0),(3,.p (.k 5) 0),(4,.p (.k 6) 0),(5,.f (.func 160) [] [.p (.k 4) 0,.p (.k 6) 0])],[_,_,_,_,_,_,_]⟩,⟨[.k 0,.k 1,.k 2,.k 3,.d 2 0,.d 3 0,.d 4 0],⟨rfl,rfl,rfl,rfl,tq⟩,⟨_,rfl,rfl⟩,⟨_,rfl,rfl⟩,⟨_,rfl,rfl⟩,⟨_,rfl,rfl⟩,⟨_,rfl,rfl⟩,⟨_,rfl,rfl⟩,⟨_,rfl,rfl⟩,tq⟩,_,_,rfl,rfl,?_⟩;refine⟨_,rfl,?_⟩;refine i7 (fun hh=>absurd hh k1) (fun _=> ?_);refine i7 (fun hh=>absurd hh k2) (fun _=> ?_);refine i7 (fun hh=>absurd hh k3) (fun _=> ?_);refine i7 (fun hh=>absurd hh k4) (fun _=> ?_);refine⟨Za rfl,?_⟩;refine⟨[.slice none 0 0,.int .i64 1,.int .i64 0],rfl,rfl,?_⟩;refine⟨Za rfl,?_⟩;refine⟨[.k 4,.k 6,.k 0],_,_,_,_,nO (o:=none),rfl,rfl,_,rfl,?_⟩;refine⟨[g9,i64 1,i64 0],rfl,rfl,?_⟩;refine⟨_,_,?_,E8.refl _,x7.refl _⟩;exact⟨_,rfl,[.k 0,.k 1,.k 2,.k 3],rfl,⟨_,rfl,rfl⟩,⟨_,rfl,rfl⟩,⟨_,rfl,rfl⟩,⟨_,rfl,rfl⟩,tq⟩
theorem DB {kind:Int} {t' t6 w5:Int} {x6:Bool} {lk' li' lb':Nat} {vk' vi' vb':List Value} {t mode pad:Int} {back:Bool} {k:Nat} {xs:List V} {iv a9:Bs} {st:MS} {x:HK} (k1:kind≠1) (k2:kind≠2) (k3:kind≠3) (k4:kind≠4):
  b9 C 104 [.p (.k 0) 0,.a [i64 kind,i64 t',i64 t6,i64 w5,bool x6,.z lk' vk',.z li' vi',.z lb' vb']] [m8 true t mode pad back k xs iv x a9,j7 (f9 t k xs) (j4 mode) back st 2,j5 st.row st.gone,x.b] (.ret (.a [.z 0 [],i64 1,i64 x.l.length])) [m8 true t mode pad back k xs iv x a9,j7 (f9 t k xs) (j4 mode) back st 2,j5 st.row st.gone,x.b]:=by
 obtain⟨ch,row,g⟩:=st;rcases row with _|⟨a,r⟩<;>rcases x with _|H|H;all_goals
  refine b9.wka (U5.p ?_) (.cons .nl (.cons (.refl _) (.cons (.refl _) .nil)));refine⟨⟨[(2,.p (.k 4) 0),(3,.p (.k 5) 0),(4,.p (.k 6) 0),(5,.f (.func 160) [] [.p (.k 4) 0,.p (.k 6) 0])],[_,_,_,_,_,_,_]⟩,⟨[.k 0,.k 1,.k 2,.k 3,.d 2 0,.d 3 0,.d 4 0],⟨rfl,rfl,rfl,rfl,tq⟩,⟨_,rfl,rfl⟩,⟨_,rfl,rfl⟩,⟨_,rfl,rfl⟩,⟨_,rfl,rfl⟩,⟨_,rfl,rfl⟩,⟨_,rfl,rfl⟩,⟨_,rfl,rfl⟩,tq⟩,_,_,rfl,rfl,?_⟩;refine⟨_,rfl,?_⟩;refine i7 (fun hh=>absurd hh k1) (fun _=> ?_);refine i7 (fun hh=>absurd hh k2) (fun _=> ?_);refine i7 (fun hh=>absurd hh k3) (fun _=> ?_);refine i7 (fun hh=>absurd hh k4) (fun _=> ?_);refine⟨Za rfl,?_⟩;first
   |refine⟨[.slice none 0 0,.int .i64 1,.int .i64 0],rfl,rfl,?_⟩
    refine⟨Za rfl,?_⟩;refine⟨[.k 4,.k 6,.k 0,.k 1,.k 2,.k 3],_,_,_,_,bM (o:=none) (a9:=a9) (x:= .n),rfl,rfl,_,rfl,?_⟩;refine⟨[g9,i64 1,i64 0],rfl,rfl,?_⟩;refine⟨_,_,?_,E8.refl _,x7.refl _⟩;exact⟨_,rfl,[.k 0,.k 1,.k 2,.k 3],rfl,⟨_,rfl,rfl⟩,⟨_,rfl,rfl⟩,⟨_,rfl,rfl⟩,⟨_,rfl,rfl⟩,tq⟩
   |refine⟨[.slice none 0 0,.int .i64 1,.int .i64 0],rfl,rfl,?_⟩
    refine⟨Za rfl,?_⟩;refine⟨[.k 4,.k 6,.k 0,.k 1,.k 2,.k 3],_,_,_,_,bM (o:=none) (a9:=a9) (x:=(.o H)),rfl,rfl,_,rfl,?_⟩;refine⟨[g9,i64 1,i64 H.length],rfl,rfl,?_⟩;refine⟨_,_,?_,E8.refl _,x7.refl _⟩;exact⟨_,rfl,[.k 0,.k 1,.k 2,.k 3],rfl,⟨_,rfl,rfl⟩,⟨_,rfl,rfl⟩,⟨_,rfl,rfl⟩,⟨_,rfl,rfl⟩,tq⟩
   |refine⟨[.slice none 0 0,.int .i64 1,.int .i64 0],rfl,rfl,?_⟩
    refine⟨Za rfl,?_⟩;refine⟨[.k 4,.k 6,.k 0,.k 1,.k 2,.k 3],_,_,_,_,bM (o:=none) (a9:=a9) (x:=(.f H)),rfl,rfl,_,rfl,?_⟩;refine⟨[g9,i64 1,i64 H.length],rfl,rfl,?_⟩;refine⟨_,_,?_,E8.refl _,x7.refl _⟩;exact⟨_,rfl,[.k 0,.k 1,.k 2,.k 3],rfl,⟨_,rfl,rfl⟩,⟨_,rfl,rfl⟩,⟨_,rfl,rfl⟩,⟨_,rfl,rfl⟩,tq⟩
theorem XA {kind:Int} {t' t6 w5:Int} {x6:Bool} {lk' li' lb':Nat} {vk' vi' vb':List Value} {t mode pad:Int} {back:Bool} {k:Nat} {xs:List V} {iv a9:Bs} (k1:kind≠1) (k2:kind≠2) (k3:kind≠3) (k4:kind≠4):
  b9 C 104 [.p (.k 0) 0,.a [i64 kind,i64 t',i64 t6,i64 w5,bool x6,.z lk' vk',.z li' vi',.z lb' vb']] [G5 t mode pad back k xs iv a9,.dead,.dead,.dead] (.ret (.a [.z 0 [],i64 1,i64 0])) [G5 t mode pad back k xs iv a9,.dead,.dead,.dead]:=by
 refine b9.wka (U5.p ?_) (.cons .nl (.cons (.refl _) (.cons (.refl _) .nil)));refine⟨⟨[(2,.p (.k 4) 0),(3,.p (.k 5) 0),(4,.p (.k 6) 0),(5,.f (.func 160) [] [.p (.k 4) 0,.p (.k 6) 0])],[_,_,_,_,_,_,_]⟩,⟨[.k 0,.k 1,.k 2,.k 3,.d 2 0,.d 3 0,.d 4 0],⟨rfl,rfl,rfl,rfl,tq⟩,⟨_,rfl,rfl⟩,⟨_,rfl,rfl⟩,⟨_,rfl,rfl⟩,⟨_,rfl,rfl⟩,⟨_,rfl,rfl⟩,⟨_,rfl,rfl⟩,⟨_,rfl,rfl⟩,tq⟩,_,_,rfl,rfl,?_⟩;refine⟨_,rfl,?_⟩;refine i7 (fun hh=>absurd hh k1) (fun _=> ?_);refine i7 (fun hh=>absurd hh k2) (fun _=> ?_);refine i7 (fun hh=>absurd hh k3) (fun _=> ?_);refine i7 (fun hh=>absurd hh k4) (fun _=> ?_);refine⟨Za rfl,?_⟩;refine⟨[.slice none 0 0,.int .i64 1,.int .i64 0],rfl,rfl,?_⟩;refine⟨Za rfl,?_⟩;refine⟨[.k 4,.k 6,.k 0,.k 1],_,_,_,_,nP (o:=none) (a9:=a9),rfl,rfl,_,rfl,?_⟩;refine⟨[g9,i64 1,i64 0],rfl,rfl,?_⟩;refine⟨_,_,?_,E8.refl _,x7.refl _⟩;exact⟨_,rfl,[.k 0,.k 1,.k 2,.k 3],rfl,⟨_,rfl,rfl⟩,⟨_,rfl,rfl⟩,⟨_,rfl,rfl⟩,⟨_,rfl,rfl⟩,tq⟩
theorem XD {t' t6 w5:Int} {x6:Bool} {lk' li' lb':Nat} {vk' vi' vb':List Value}:
  b9 C 104 [.p (.k 0) 0,.a [i64 2,i64 t',i64 t6,i64 w5,bool x6,.z lk' vk',.z li' vi',.z lb' vb']] [p8 false false 0 0 0 false j8 g9 j8 g9 g9,.dead,.dead,.dead] (.ret (.a [.z 0 [],i64 6,i64 0])) [p8 false false 0 0 0 false j8 g9 j8 g9 g9,.dead,.dead,.dead]:=by
 refine U5.p ?_;refine⟨⟨[(2,.p (.k 4) 0),(3,.p (.k 5) 0),(4,.p (.k 6) 0),(5,.f (.func 160) [] [.p (.k 4) 0,.p (.k 6) 0])],[_,_,_,_,_,_,_]⟩,⟨[.k 0,.k 1,.k 2,.k 3,.d 2 0,.d 3 0,.d 4 0],⟨rfl,rfl,rfl,rfl,tq⟩,⟨_,rfl,rfl⟩,⟨_,rfl,rfl⟩,⟨_,rfl,rfl⟩,⟨_,rfl,rfl⟩,⟨_,rfl,rfl⟩,⟨_,rfl,rfl⟩,⟨_,rfl,rfl⟩,tq⟩,_,_,rfl,rfl,?_⟩;refine⟨_,rfl,?_⟩;refine⟨_,rfl,?_⟩;refine⟨_,rfl,?_⟩;refine⟨[.k 0],_,_,_,_,Lt,rfl,rfl,?_⟩;refine⟨Za rfl,?_⟩;refine⟨Za rfl,?_⟩;refine⟨[.z 0 [],i64 6,i64 0],rfl,rfl,?_⟩;refine⟨Za rfl,?_⟩;refine⟨[.k 4,.k 6,.k 0],_,_,_,_,nO (o:=some (0,[])),rfl,rfl,_,rfl,?_⟩;refine⟨[.z 0 [],i64 6,i64 0],rfl,rfl,?_⟩;refine⟨_,_,?_,E8.refl _,x7.refl _⟩;exact⟨_,rfl,[.k 0,.k 1,.k 2,.k 3],rfl,⟨_,rfl,rfl⟩,⟨_,rfl,rfl⟩,⟨_,rfl,rfl⟩,⟨_,rfl,rfl⟩,tq⟩
theorem XG {t' t6 w5:Int} {x6:Bool} {lk' li' lb':Nat} {vk' vi' vb':List Value}:
  b9 C 104 [.p (.k 0) 0,.a [i64 3,i64 t',i64 t6,i64 w5,bool x6,.z lk' vk',.z li' vi',.z lb' vb']] [p8 false false 0 0 0 false j8 g9 j8 g9 g9,.dead,.dead,.dead] (.ret (.a [.z 0 [],i64 6,i64 0])) [p8 false false 0 0 0 false j8 g9 j8 g9 g9,.dead,.dead,.dead]:=by
 refine U5.p ?_;refine⟨⟨[(2,.p (.k 4) 0),(3,.p (.k 5) 0),(4,.p (.k 6) 0),(5,.f (.func 160) [] [.p (.k 4) 0,.p (.k 6) 0])],[_,_,_,_,_,_,_]⟩,⟨[.k 0,.k 1,.k 2,.k 3,.d 2 0,.d 3 0,.d 4 0],⟨rfl,rfl,rfl,rfl,tq⟩,⟨_,rfl,rfl⟩,⟨_,rfl,rfl⟩,⟨_,rfl,rfl⟩,⟨_,rfl,rfl⟩,⟨_,rfl,rfl⟩,⟨_,rfl,rfl⟩,⟨_,rfl,rfl⟩,tq⟩,_,_,rfl,rfl,?_⟩;refine⟨_,rfl,?_⟩;refine⟨_,rfl,?_⟩;refine⟨[.k 0],_,_,_,_,KU,rfl,rfl,?_⟩;refine⟨Za rfl,?_⟩;refine⟨Za rfl,?_⟩;refine⟨[.z 0 [],i64 6,i64 0],rfl,rfl,?_⟩;refine⟨Za rfl,?_⟩;refine⟨[.k 4,.k 6,.k 0],_,_,_,_,nO (o:=some (0,[])),rfl,rfl,_,rfl,?_⟩;refine⟨[.z 0 [],i64 6,i64 0],rfl,rfl,?_⟩;refine⟨_,_,?_,E8.refl _,x7.refl _⟩;exact⟨_,rfl,[.k 0,.k 1,.k 2,.k 3],rfl,⟨_,rfl,rfl⟩,⟨_,rfl,rfl⟩,⟨_,rfl,rfl⟩,⟨_,rfl,rfl⟩,tq⟩
theorem XF {t' t6 w5:Int} {x6:Bool} {lk' li' lb':Nat} {vk' vi' vb':List Value} {t mode pad:Int} {back:Bool} {k:Nat} {xs:List V} {iv a9:Bs}:
  b9 C 104 [.p (.k 0) 0,.a [i64 2,i64 t',i64 t6,i64 w5,bool x6,.z lk' vk',.z li' vi',.z lb' vb']] [G5 t mode pad back k xs iv a9,.dead,.dead,.dead] (.ret (.a [.z 0 [],i64 6,i64 0])) [G5 t mode pad back k xs iv a9,.dead,.dead,.dead]:=by
 refine U5.p ?_;refine⟨⟨[(2,.p (.k 4) 0),(3,.p (.k 5) 0),(4,.p (.k 6) 0),(5,.f (.func 160) [] [.p (.k 4) 0,.p (.k 6) 0])],[_,_,_,_,_,_,_]⟩,⟨[.k 0,.k 1,.k 2,.k 3,.d 2 0,.d 3 0,.d 4 0],⟨rfl,rfl,rfl,rfl,tq⟩,⟨_,rfl,rfl⟩,⟨_,rfl,rfl⟩,⟨_,rfl,rfl⟩,⟨_,rfl,rfl⟩,⟨_,rfl,rfl⟩,⟨_,rfl,rfl⟩,⟨_,rfl,rfl⟩,tq⟩,_,_,rfl,rfl,?_⟩;refine⟨_,rfl,?_⟩;refine⟨_,rfl,?_⟩;refine⟨_,rfl,?_⟩;refine⟨[.k 0,.k 1],_,_,_,_,Ls,rfl,rfl,?_⟩;refine⟨Za rfl,?_⟩;refine⟨Za rfl,?_⟩;refine⟨[.z 0 [],i64 6,i64 0],rfl,rfl,?_⟩;refine⟨Za rfl,?_⟩;refine⟨[.k 4,.k 6,.k 0,.k 1],_,_,_,_,nP (o:=some (0,[])) (a9:=a9),rfl,rfl,_,rfl,?_⟩;refine⟨[.z 0 [],i64 6,i64 0],rfl,rfl,?_⟩;refine⟨_,_,?_,E8.refl _,x7.refl _⟩;exact⟨_,rfl,[.k 0,.k 1,.k 2,.k 3],rfl,⟨_,rfl,rfl⟩,⟨_,rfl,rfl⟩,⟨_,rfl,rfl⟩,⟨_,rfl,rfl⟩,tq⟩
theorem XH {t' t6 w5:Int} {x6:Bool} {lk' li' lb':Nat} {vk' vi' vb':List Value} {t mode pad:Int} {back:Bool} {k:Nat} {xs:List V} {iv a9:Bs}:
  b9 C 104 [.p (.k 0) 0,.a [i64 3,i64 t',i64 t6,i64 w5,bool x6,.z lk' vk',.z li' vi',.z lb' vb']] [G5 t mode pad back k xs iv a9,.dead,.dead,.dead] (.ret (.a [.z 0 [],i64 6,i64 0])) [G5 t mode pad back k xs iv a9,.dead,.dead,.dead]:=by
 refine U5.p ?_;refine⟨⟨[(2,.p (.k 4) 0),(3,.p (.k 5) 0),(4,.p (.k 6) 0),(5,.f (.func 160) [] [.p (.k 4) 0,.p (.k 6) 0])],[_,_,_,_,_,_,_]⟩,⟨[.k 0,.k 1,.k 2,.k 3,.d 2 0,.d 3 0,.d 4 0],⟨rfl,rfl,rfl,rfl,tq⟩,⟨_,rfl,rfl⟩,⟨_,rfl,rfl⟩,⟨_,rfl,rfl⟩,⟨_,rfl,rfl⟩,⟨_,rfl,rfl⟩,⟨_,rfl,rfl⟩,⟨_,rfl,rfl⟩,tq⟩,_,_,rfl,rfl,?_⟩;refine⟨_,rfl,?_⟩;refine⟨_,rfl,?_⟩;refine⟨[.k 0,.k 1],_,_,_,_,JX,rfl,rfl,?_⟩;refine⟨Za rfl,?_⟩;refine⟨Za rfl,?_⟩;refine⟨[.z 0 [],i64 6,i64 0],rfl,rfl,?_⟩;refine⟨Za rfl,?_⟩;refine⟨[.k 4,.k 6,.k 0,.k 1],_,_,_,_,nP (o:=some (0,[])) (a9:=a9),rfl,rfl,_,rfl,?_⟩;refine⟨[.z 0 [],i64 6,i64 0],rfl,rfl,?_⟩;refine⟨_,_,?_,E8.refl _,x7.refl _⟩;exact⟨_,rfl,[.k 0,.k 1,.k 2,.k 3],rfl,⟨_,rfl,rfl⟩,⟨_,rfl,rfl⟩,⟨_,rfl,rfl⟩,⟨_,rfl,rfl⟩,tq⟩
theorem XI {t' t6 w5:Int} {x6:Bool} {lk' li' lb':Nat} {vk' vi' vb':List Value}:
  b9 C 104 [.p (.k 0) 0,.a [i64 4,i64 t',i64 t6,i64 w5,bool x6,.z lk' vk',.z li' vi',.z lb' vb']] [p8 false false 0 0 0 false j8 g9 j8 g9 g9,.dead,.dead,.dead] (.ret (.a [.z 0 [],i64 6,i64 0])) [p8 false false 0 0 0 false j8 g9 j8 g9 g9,.dead,.dead,.dead]:=by
 refine b9.wka (U5.p ?_) (.cons .nl (.cons (.refl _) (.cons (.refl _) .nil)));refine⟨⟨[(2,.p (.k 4) 0),(3,.p (.k 5) 0),(4,.p (.k 6) 0),(5,.f (.func 160) [] [.p (.k 4) 0,.p (.k 6) 0])],[_,_,_,_,_,_,_]⟩,⟨[.k 0,.k 1,.k 2,.k 3,.d 2 0,.d 3 0,.d 4 0],⟨rfl,rfl,rfl,rfl,tq⟩,⟨_,rfl,rfl⟩,⟨_,rfl,rfl⟩,⟨_,rfl,rfl⟩,⟨_,rfl,rfl⟩,⟨_,rfl,rfl⟩,⟨_,rfl,rfl⟩,⟨_,rfl,rfl⟩,tq⟩,_,_,rfl,rfl,?_⟩;refine⟨_,rfl,?_⟩;refine⟨_,rfl,?_⟩;refine⟨[.k 0],_,_,_,_,Lg,rfl,rfl,?_⟩;refine⟨Za rfl,?_⟩;refine⟨[.slice none 0 0,.int .i64 6,.int .i64 0],rfl,rfl,?_⟩;refine⟨Za rfl,?_⟩;refine⟨[.k 4,.k 6,.k 0],_,_,_,_,nO (o:=none),rfl,rfl,_,rfl,?_⟩;refine⟨[g9,i64 6,i64 0],rfl,rfl,?_⟩;refine⟨_,_,?_,E8.refl _,x7.refl _⟩;exact⟨_,rfl,[.k 0,.k 1,.k 2,.k 3],rfl,⟨_,rfl,rfl⟩,⟨_,rfl,rfl⟩,⟨_,rfl,rfl⟩,⟨_,rfl,rfl⟩,tq⟩
theorem XB {t' t6 w5:Int} {x6:Bool} {k' s':Nat} {xs' rs':List V} {key' iv':Bs} {lk' li' lb':Nat} {vb':List Value} (h:k5 t' key' s' k' xs' rs') (hk:key'.length=lk') (hlk:lk'<=1000) (hi:iv'.length=li') (ok:D5 s' t6 w5 iv'):
  b9 C 104 [.p (.k 0) 0,.a [i64 1,i64 t',i64 t6,i64 w5,bool x6,.z lk' (bv key'),.z li' (bv iv'),.z lb' vb']] [p8 false false 0 0 0 false j8 g9 j8 g9 g9,.dead,.dead,.dead] (.ret (.a [.z 0 [],i64 0,i64 0])) [p8 true true t' t6 w5 x6 (f9 t' k' xs') (.z iv'.length (bv iv')) (.p (.k 4) 0) g9 (.z iv'.length (bv iv')),.dead,.dead,.dead,j7 (f9 t' k' xs') (j4 t6) x6 ⟨iv',[],[]⟩ 5,.dead,.dead]:=by
 have IN:=KY h (back:=x6) hk hlk hi ok;refine b9.wka (U5.p ?_) (.cons .nl (.cons (.refl _) (.cons (.refl _) .nil)));refine⟨⟨[(2,.p (.k 4) 0),(3,.p (.k 5) 0),(4,.p (.k 6) 0),(5,.f (.func 160) [] [.p (.k 4) 0,.p (.k 6) 0])],[_,_,_,_,_,_,_]⟩,⟨[.k 0,.k 1,.k 2,.k 3,.d 2 0,.d 3 0,.d 4 0],⟨rfl,rfl,rfl,rfl,tq⟩,⟨_,rfl,rfl⟩,⟨_,rfl,rfl⟩,⟨_,rfl,rfl⟩,⟨_,rfl,rfl⟩,⟨_,rfl,rfl⟩,⟨_,rfl,rfl⟩,⟨_,rfl,rfl⟩,tq⟩,_,_,rfl,rfl,?_⟩;refine⟨_,rfl,?_⟩;refine⟨_,rfl,?_⟩;refine⟨[i64 t',i64 t6,i64 w5,bool x6],rfl,rfl,?_⟩;refine⟨_,rfl,?_⟩;refine⟨_,rfl,?_⟩;refine⟨[.k 0],_,_,_,_,IN,rfl,rfl,?_⟩;refine⟨Za rfl,?_⟩;refine⟨[.slice none 0 0,.int .i64 0,.int .i64 0],rfl,rfl,?_⟩;refine⟨Za rfl,?_⟩;refine⟨[.k 4,.k 6,.k 0,.d 18 1,.d 18 2,.d 18 3],_,_,_,_,bM (o:=none) (st:=⟨iv',[],[]⟩) (a9:=iv') (x:= .n),rfl,rfl,_,rfl,?_⟩;refine⟨[g9,i64 0,i64 0],rfl,rfl,?_⟩;refine⟨_,_,?_,E8.refl _,x7.refl _⟩;exact⟨_,rfl,[.k 0,.k 1,.k 2,.k 3,.d 18 1,.d 18 2,.d 18 3],rfl,⟨_,rfl,rfl⟩,⟨_,rfl,rfl⟩,⟨_,rfl,rfl⟩,⟨_,rfl,rfl⟩,⟨_,rfl,rfl⟩,⟨_,rfl,rfl⟩,⟨_,rfl,rfl⟩,tq⟩
theorem DC {t' t6 w5:Int} {x6:Bool} {k' s':Nat} {xs' rs':List V} {key' iv':Bs} {lk' li' lb':Nat} {vb':List Value} (h:k5 t' key' s' k' xs' rs') (hk:key'.length=lk') (hlk:lk'<=1000) (hi:iv'.length=li') (ok:D5 s' t6 w5 iv') {t mode pad:Int} {back:Bool} {k:Nat} {xs:List V} {iv a9:Bs} {st:MS} {x:HK}:
  b9 C 104 [.p (.k 0) 0,.a [i64 1,i64 t',i64 t6,i64 w5,bool x6,.z lk' (bv key'),.z li' (bv iv'),.z lb' vb']] [m8 true t mode pad back k xs iv x a9,j7 (f9 t k xs) (j4 mode) back st 2,j5 st.row st.gone,x.b] (.ret (.a [.z 0 [],i64 0,i64 0])) [p8 true true t' t6 w5 x6 (f9 t' k' xs') (.z iv'.length (bv iv')) (.p (.k 4) 0) g9 (.z iv'.length (bv iv')),.dead,.dead,.dead,j7 (f9 t' k' xs') (j4 t6) x6 ⟨iv',[],[]⟩ 5,.dead,.dead]:=by
 have IN:=(KZ h (back:=x6) (t0:=t) (mode0:=mode) (pad0:=pad) (md0:=j4 mode) (op:=true) (K6:=back) (k0:=k) (xs0:=xs) (iv0:=iv) (H6:=a9) (st0:=st) (x0:=x) hk hlk hi ok).fg (.keep (.drop (.drop (.drop (.keep (.keep (.keep .nil)))))));obtain⟨ch,row,g⟩:=st;rcases row with _|⟨a,r⟩<;>rcases x with _|H|H;all_goals
  refine b9.wka (U5.p ?_) (.cons .nl (.cons (.refl _) (.cons (.refl _) .nil)));refine⟨⟨[(2,.p (.k 4) 0),(3,.p (.k 5) 0),(4,.p (.k 6) 0),(5,.f (.func 160) [] [.p (.k 4) 0,.p (.k 6) 0])],[_,_,_,_,_,_,_]⟩,⟨[.k 0,.k 1,.k 2,.k 3,.d 2 0,.d 3 0,.d 4 0],⟨rfl,rfl,rfl,rfl,tq⟩,⟨_,rfl,rfl⟩,⟨_,rfl,rfl⟩,⟨_,rfl,rfl⟩,⟨_,rfl,rfl⟩,⟨_,rfl,rfl⟩,⟨_,rfl,rfl⟩,⟨_,rfl,rfl⟩,tq⟩,_,_,rfl,rfl,?_⟩;refine⟨_,rfl,?_⟩;refine⟨_,rfl,?_⟩;refine⟨[i64 t',i64 t6,i64 w5,bool x6],rfl,rfl,?_⟩;refine⟨_,rfl,?_⟩;refine⟨_,rfl,?_⟩;refine⟨[.k 0,.k 1,.k 2,.k 3],_,_,_,_,IN,rfl,rfl,?_⟩;refine⟨Za rfl,?_⟩;refine⟨[.slice none 0 0,.int .i64 0,.int .i64 0],rfl,rfl,?_⟩;refine⟨Za rfl,?_⟩;refine⟨[.k 4,.k 6,.k 0,.d 18 4,.d 18 5,.d 18 6],_,_,_,_,bM (o:=none) (st:=⟨iv',[],[]⟩) (a9:=iv') (x:= .n),rfl,rfl,_,rfl,?_⟩;refine⟨[g9,i64 0,i64 0],rfl,rfl,?_⟩;refine⟨_,_,?_,E8.refl _,x7.refl _⟩;exact⟨_,rfl,[.k 0,.k 1,.k 2,.k 3,.d 18 4,.d 18 5,.d 18 6],rfl,⟨_,rfl,rfl⟩,⟨_,rfl,rfl⟩,⟨_,rfl,rfl⟩,⟨_,rfl,rfl⟩,⟨_,rfl,rfl⟩,⟨_,rfl,rfl⟩,⟨_,rfl,rfl⟩,tq⟩
theorem XC {t' t6 w5:Int} {x6:Bool} {k' s':Nat} {xs' rs':List V} {key' iv':Bs} {lk' li' lb':Nat} {vb':List Value} (h:k5 t' key' s' k' xs' rs') (hk:key'.length=lk') (hlk:lk'<=1000) (hi:iv'.length=li') (ok:D5 s' t6 w5 iv') {t mode pad:Int} {back:Bool} {k:Nat} {xs:List V} {iv a9:Bs}:
  b9 C 104 [.p (.k 0) 0,.a [i64 1,i64 t',i64 t6,i64 w5,bool x6,.z lk' (bv key'),.z li' (bv iv'),.z lb' vb']] [G5 t mode pad back k xs iv a9,.dead,.dead,.dead] (.ret (.a [.z 0 [],i64 0,i64 0])) [p8 true true t' t6 w5 x6 (f9 t' k' xs') (.z iv'.length (bv iv')) (.p (.k 4) 0) g9 (.z iv'.length (bv iv')),.dead,.dead,.dead,j7 (f9 t' k' xs') (j4 t6) x6 ⟨iv',[],[]⟩ 5,.dead,.dead]:=by
 have IN:=La h (back:=x6) (t0:=t) (mode0:=mode) (pad0:=pad) (K6:=back) (k0:=k) (xs0:=xs) (iv0:=iv) (H6:=a9) hk hlk hi ok;refine b9.wka (U5.p ?_) (.cons .nl (.cons (.refl _) (.cons (.refl _) .nil)));refine⟨⟨[(2,.p (.k 4) 0),(3,.p (.k 5) 0),(4,.p (.k 6) 0),(5,.f (.func 160) [] [.p (.k 4) 0,.p (.k 6) 0])],[_,_,_,_,_,_,_]⟩,⟨[.k 0,.k 1,.k 2,.k 3,.d 2 0,.d 3 0,.d 4 0],⟨rfl,rfl,rfl,rfl,tq⟩,⟨_,rfl,rfl⟩,⟨_,rfl,rfl⟩,⟨_,rfl,rfl⟩,⟨_,rfl,rfl⟩,⟨_,rfl,rfl⟩,⟨_,rfl,rfl⟩,⟨_,rfl,rfl⟩,tq⟩,_,_,rfl,rfl,?_⟩;refine⟨_,rfl,?_⟩;refine⟨_,rfl,?_⟩;refine⟨[i64 t',i64 t6,i64 w5,bool x6],rfl,rfl,?_⟩;refine⟨_,rfl,?_⟩;refine⟨_,rfl,?_⟩;refine⟨[.k 0,.k 1],_,_,_,_,IN,rfl,rfl,?_⟩;refine⟨Za rfl,?_⟩;refine⟨[.slice none 0 0,.int .i64 0,.int .i64 0],rfl,rfl,?_⟩;refine⟨Za rfl,?_⟩;refine⟨[.k 4,.k 6,.k 0,.d 18 2,.d 18 3,.d 18 4],_,_,_,_,bM (o:=none) (st:=⟨iv',[],[]⟩) (a9:=iv') (x:= .n),rfl,rfl,_,rfl,?_⟩;refine⟨[g9,i64 0,i64 0],rfl,rfl,?_⟩;refine⟨_,_,?_,E8.refl _,x7.refl _⟩;exact⟨_,rfl,[.k 0,.k 1,.k 2,.k 3,.d 18 2,.d 18 3,.d 18 4],rfl,⟨_,rfl,rfl⟩,⟨_,rfl,rfl⟩,⟨_,rfl,rfl⟩,⟨_,rfl,rfl⟩,⟨_,rfl,rfl⟩,⟨_,rfl,rfl⟩,⟨_,rfl,rfl⟩,tq⟩
theorem XK {t' t6 w5:Int} {x6:Bool} {key' iv':Bs} {lk' li' lb':Nat} {vb':List Value} (hk:key'.length=lk') (hlk:lk'<=1000) (hi:iv'.length=li') (he:C2 t' t6 w5 (q9 t').toNat lk' li'≠0):
  b9 C 104 [.p (.k 0) 0,.a [i64 1,i64 t',i64 t6,i64 w5,bool x6,.z lk' (bv key'),.z li' (bv iv'),.z lb' vb']] [p8 false false 0 0 0 false j8 g9 j8 g9 g9,.dead,.dead,.dead] (.ret (.a [.z 0 [],i64 (C2 t' t6 w5 (q9 t').toNat lk' li'),i64 0])) [p8 false false 0 0 0 false j8 g9 j8 g9 g9,.dead,.dead,.dead]:=by
 have IN:=Lc (back:=x6) hk hlk hi he;generalize C2 t' t6 w5 (q9 t').toNat lk' li'=e at*
 refine b9.wka (U5.p ?_) (.cons .nl (.cons (.refl _) (.cons (.refl _) .nil)));refine⟨⟨[(2,.p (.k 4) 0),(3,.p (.k 5) 0),(4,.p (.k 6) 0),(5,.f (.func 160) [] [.p (.k 4) 0,.p (.k 6) 0])],[_,_,_,_,_,_,_]⟩,⟨[.k 0,.k 1,.k 2,.k 3,.d 2 0,.d 3 0,.d 4 0],⟨rfl,rfl,rfl,rfl,tq⟩,⟨_,rfl,rfl⟩,⟨_,rfl,rfl⟩,⟨_,rfl,rfl⟩,⟨_,rfl,rfl⟩,⟨_,rfl,rfl⟩,⟨_,rfl,rfl⟩,⟨_,rfl,rfl⟩,tq⟩,_,_,rfl,rfl,?_⟩;refine⟨_,rfl,?_⟩;refine⟨_,rfl,?_⟩;refine⟨[i64 t',i64 t6,i64 w5,bool x6],rfl,rfl,?_⟩;refine⟨_,rfl,?_⟩;refine⟨_,rfl,?_⟩;refine⟨[.k 0],_,_,_,_,IN,rfl,rfl,?_⟩;refine⟨Za rfl,?_⟩;refine⟨[.slice none 0 0,.int .i64 e,.int .i64 0],rfl,rfl,?_⟩;refine⟨Za rfl,?_⟩;refine⟨[.k 4,.k 6,.k 0],_,_,_,_,nO (o:=none),rfl,rfl,_,rfl,?_⟩;refine⟨[g9,i64 e,i64 0],rfl,rfl,?_⟩;refine⟨_,_,?_,E8.refl _,x7.refl _⟩;exact⟨_,rfl,[.k 0,.k 1,.k 2,.k 3],rfl,⟨_,rfl,rfl⟩,⟨_,rfl,rfl⟩,⟨_,rfl,rfl⟩,⟨_,rfl,rfl⟩,tq⟩
theorem DH {t' t6 w5:Int} {x6:Bool} {key' iv':Bs} {lk' li' lb':Nat} {vb':List Value} (hk:key'.length=lk') (hlk:lk'<=1000) (hi:iv'.length=li') (he:C2 t' t6 w5 (q9 t').toNat lk' li'≠0) {t mode pad:Int} {back:Bool} {k:Nat} {xs:List V} {iv a9:Bs} {st:MS} {x:HK}:
  b9 C 104 [.p (.k 0) 0,.a [i64 1,i64 t',i64 t6,i64 w5,bool x6,.z lk' (bv key'),.z li' (bv iv'),.z lb' vb']] [m8 true t mode pad back k xs iv x a9,j7 (f9 t k xs) (j4 mode) back st 2,j5 st.row st.gone,x.b] (.ret (.a [.z 0 [],i64 (C2 t' t6 w5 (q9 t').toNat lk' li'),i64 x.l.length])) [m8 true t mode pad back k xs iv x a9,j7 (f9 t k xs) (j4 mode) back st 2,j5 st.row st.gone,x.b]:=by
 have IN:=Ld (back:=x6) (t0:=t) (mode0:=mode) (pad0:=pad) (md0:=j4 mode) (op:=true) (K6:=back) (k0:=k) (xs0:=xs) (iv0:=iv) (H6:=a9) (st0:=st) (x0:=x) hk hlk hi he;generalize C2 t' t6 w5 (q9 t').toNat lk' li'=e at*
 obtain⟨ch,row,g⟩:=st;rcases row with _|⟨a,r⟩<;>rcases x with _|H|H;all_goals
  refine b9.wka (U5.p ?_) (.cons .nl (.cons (.refl _) (.cons (.refl _) .nil)));refine⟨⟨[(2,.p (.k 4) 0),(3,.p (.k 5) 0),(4,.p (.k 6) 0),(5,.f (.func 160) [] [.p (.k 4) 0,.p (.k 6) 0])],[_,_,_,_,_,_,_]⟩,⟨[.k 0,.k 1,.k 2,.k 3,.d 2 0,.d 3 0,.d 4 0],⟨rfl,rfl,rfl,rfl,tq⟩,⟨_,rfl,rfl⟩,⟨_,rfl,rfl⟩,⟨_,rfl,rfl⟩,⟨_,rfl,rfl⟩,⟨_,rfl,rfl⟩,⟨_,rfl,rfl⟩,⟨_,rfl,rfl⟩,tq⟩,_,_,rfl,rfl,?_⟩;refine⟨_,rfl,?_⟩;refine⟨_,rfl,?_⟩;refine⟨[i64 t',i64 t6,i64 w5,bool x6],rfl,rfl,?_⟩;refine⟨_,rfl,?_⟩;refine⟨_,rfl,?_⟩;refine⟨[.k 0,.k 1,.k 2,.k 3],_,_,_,_,IN,rfl,rfl,?_⟩;refine⟨Za rfl,?_⟩;first
   |refine⟨[.slice none 0 0,.int .i64 e,.int .i64 0],rfl,rfl,?_⟩
    refine⟨Za rfl,?_⟩;refine⟨[.k 4,.k 6,.k 0,.k 1,.k 2,.k 3],_,_,_,_,bM (o:=none) (a9:=a9) (x:= .n),rfl,rfl,_,rfl,?_⟩;refine⟨[g9,i64 e,i64 0],rfl,rfl,?_⟩;refine⟨_,_,?_,E8.refl _,x7.refl _⟩;exact⟨_,rfl,[.k 0,.k 1,.k 2,.k 3],rfl,⟨_,rfl,rfl⟩,⟨_,rfl,rfl⟩,⟨_,rfl,rfl⟩,⟨_,rfl,rfl⟩,tq⟩
   |refine⟨[.slice none 0 0,.int .i64 e,.int .i64 0],rfl,rfl,?_⟩
    refine⟨Za rfl,?_⟩;refine⟨[.k 4,.k 6,.k 0,.k 1,.k 2,.k 3],_,_,_,_,bM (o:=none) (a9:=a9) (x:=(.o H)),rfl,rfl,_,rfl,?_⟩;refine⟨[g9,i64 e,i64 H.length],rfl,rfl,?_⟩;refine⟨_,_,?_,E8.refl _,x7.refl _⟩;exact⟨_,rfl,[.k 0,.k 1,.k 2,.k 3],rfl,⟨_,rfl,rfl⟩,⟨_,rfl,rfl⟩,⟨_,rfl,rfl⟩,⟨_,rfl,rfl⟩,tq⟩
   |refine⟨[.slice none 0 0,.int .i64 e,.int .i64 0],rfl,rfl,?_⟩
    refine⟨Za rfl,?_⟩;refine⟨[.k 4,.k 6,.k 0,.k 1,.k 2,.k 3],_,_,_,_,bM (o:=none) (a9:=a9) (x:=(.f H)),rfl,rfl,_,rfl,?_⟩;refine⟨[g9,i64 e,i64 H.length],rfl,rfl,?_⟩;refine⟨_,_,?_,E8.refl _,x7.refl _⟩;exact⟨_,rfl,[.k 0,.k 1,.k 2,.k 3],rfl,⟨_,rfl,rfl⟩,⟨_,rfl,rfl⟩,⟨_,rfl,rfl⟩,⟨_,rfl,rfl⟩,tq⟩
theorem XL {t' t6 w5:Int} {x6:Bool} {key' iv':Bs} {lk' li' lb':Nat} {vb':List Value} (hk:key'.length=lk') (hlk:lk'<=1000) (hi:iv'.length=li') (he:C2 t' t6 w5 (q9 t').toNat lk' li'≠0) {t mode pad:Int} {back:Bool} {k:Nat} {xs:List V} {iv a9:Bs}:
  b9 C 104 [.p (.k 0) 0,.a [i64 1,i64 t',i64 t6,i64 w5,bool x6,.z lk' (bv key'),.z li' (bv iv'),.z lb' vb']] [G5 t mode pad back k xs iv a9,.dead,.dead,.dead] (.ret (.a [.z 0 [],i64 (C2 t' t6 w5 (q9 t').toNat lk' li'),i64 0])) [G5 t mode pad back k xs iv a9,.dead,.dead,.dead]:=by
 have IN:=Le (back:=x6) (t0:=t) (mode0:=mode) (pad0:=pad) (K6:=back) (k0:=k) (xs0:=xs) (iv0:=iv) (H6:=a9) hk hlk hi he;generalize C2 t' t6 w5 (q9 t').toNat lk' li'=e at*
 refine b9.wka (U5.p ?_) (.cons .nl (.cons (.refl _) (.cons (.refl _) .nil)));refine⟨⟨[(2,.p (.k 4) 0),(3,.p (.k 5) 0),(4,.p (.k 6) 0),(5,.f (.func 160) [] [.p (.k 4) 0,.p (.k 6) 0])],[_,_,_,_,_,_,_]⟩,⟨[.k 0,.k 1,.k 2,.k 3,.d 2 0,.d 3 0,.d 4 0],⟨rfl,rfl,rfl,rfl,tq⟩,⟨_,rfl,rfl⟩,⟨_,rfl,rfl⟩,⟨_,rfl,rfl⟩,⟨_,rfl,rfl⟩,⟨_,rfl,rfl⟩,⟨_,rfl,rfl⟩,⟨_,rfl,rfl⟩,tq⟩,_,_,rfl,rfl,?_⟩;refine⟨_,rfl,?_⟩;refine⟨_,rfl,?_⟩;refine⟨[i64 t',i64 t6,i64 w5,bool x6],rfl,rfl,?_⟩;refine⟨_,rfl,?_⟩;refine⟨_,rfl,?_⟩;refine⟨[.k 0,.k 1],_,_,_,_,IN,rfl,rfl,?_⟩;refine⟨Za rfl,?_⟩;refine⟨[.slice none 0 0,.int .i64 e,.int .i64 0],rfl,rfl,?_⟩;refine⟨Za rfl,?_⟩;refine⟨[.k 4,.k 6,.k 0,.k 1],_,_,_,_,nP (o:=none) (a9:=a9),rfl,rfl,_,rfl,?_⟩;refine⟨[g9,i64 e,i64 0],rfl,rfl,?_⟩;refine⟨_,_,?_,E8.refl _,x7.refl _⟩;exact⟨_,rfl,[.k 0,.k 1,.k 2,.k 3],rfl,⟨_,rfl,rfl⟩,⟨_,rfl,rfl⟩,⟨_,rfl,rfl⟩,⟨_,rfl,rfl⟩,tq⟩
theorem DG {t' t6 w5:Int} {x6:Bool} {lk' li' lb':Nat} {vk' vi' vb':List Value} {t mode pad:Int} {back:Bool} {k:Nat} {xs:List V} {iv a9:Bs} {st:MS} {x:HK} {s:Nat} {rs:List V} {key:Bs} (h:k5 t key s k xs rs) (ok:D5 s mode pad iv):
  b9 C 104 [.p (.k 0) 0,.a [i64 4,i64 t',i64 t6,i64 w5,bool x6,.z lk' vk',.z li' vi',.z lb' vb']] [m8 true t mode pad back k xs iv x a9,j7 (f9 t k xs) (j4 mode) back st 2,j5 st.row st.gone,x.b] (.ret (.a [.z 0 [],i64 0,i64 0])) [p8 true true t mode pad back (f9 t k xs) (.z iv.length (bv iv)) (.p (.k 4) 0) g9 (.z iv.length (bv iv)),.dead,.dead,.dead,j7 (f9 t k xs) (j4 mode) back ⟨iv,[],[]⟩ 5,.dead,.dead]:=by
 have IN:=(Lh h (md0:=j4 mode) (op:=true) (back:=back) (H6:=a9) (st0:=st) (x0:=x) ok).fg (.keep (.drop (.drop (.drop (.keep (.keep (.keep .nil)))))));obtain⟨ch,row,g⟩:=st;rcases row with _|⟨a,r⟩<;>rcases x with _|H|H;all_goals
  refine b9.wka (U5.p ?_) (.cons .nl (.cons (.refl _) (.cons (.refl _) .nil)));refine⟨⟨[(2,.p (.k 4) 0),(3,.p (.k 5) 0),(4,.p (.k 6) 0),(5,.f (.func 160) [] [.p (.k 4) 0,.p (.k 6) 0])],[_,_,_,_,_,_,_]⟩,⟨[.k 0,.k 1,.k 2,.k 3,.d 2 0,.d 3 0,.d 4 0],⟨rfl,rfl,rfl,rfl,tq⟩,⟨_,rfl,rfl⟩,⟨_,rfl,rfl⟩,⟨_,rfl,rfl⟩,⟨_,rfl,rfl⟩,⟨_,rfl,rfl⟩,⟨_,rfl,rfl⟩,⟨_,rfl,rfl⟩,tq⟩,_,_,rfl,rfl,?_⟩;refine⟨_,rfl,?_⟩;refine⟨_,rfl,?_⟩;refine⟨[.k 0,.k 1,.k 2,.k 3],_,_,_,_,IN,rfl,rfl,?_⟩;refine⟨Za rfl,?_⟩;refine⟨[.slice none 0 0,.int .i64 0,.int .i64 0],rfl,rfl,?_⟩;refine⟨Za rfl,?_⟩;refine⟨[.k 4,.k 6,.k 0,.d 43 4,.d 43 5,.d 43 6],_,_,_,_,bM (o:=none) (st:=⟨iv,[],[]⟩) (a9:=iv) (x:= .n),rfl,rfl,_,rfl,?_⟩;refine⟨[g9,i64 0,i64 0],rfl,rfl,?_⟩;refine⟨_,_,?_,E8.refl _,x7.refl _⟩;exact⟨_,rfl,[.k 0,.k 1,.k 2,.k 3,.d 43 4,.d 43 5,.d 43 6],rfl,⟨_,rfl,rfl⟩,⟨_,rfl,rfl⟩,⟨_,rfl,rfl⟩,⟨_,rfl,rfl⟩,⟨_,rfl,rfl⟩,⟨_,rfl,rfl⟩,⟨_,rfl,rfl⟩,tq⟩
theorem XJ {t' t6 w5:Int} {x6:Bool} {lk' li' lb':Nat} {vk' vi' vb':List Value} {t mode pad:Int} {back:Bool} {k:Nat} {xs:List V} {iv a9:Bs} {s:Nat} {rs:List V} {key:Bs} (h:k5 t key s k xs rs) (ok:D5 s mode pad iv):
  b9 C 104 [.p (.k 0) 0,.a [i64 4,i64 t',i64 t6,i64 w5,bool x6,.z lk' vk',.z li' vi',.z lb' vb']] [G5 t mode pad back k xs iv a9,.dead,.dead,.dead] (.ret (.a [.z 0 [],i64 0,i64 0])) [p8 true true t mode pad back (f9 t k xs) (.z iv.length (bv iv)) (.p (.k 4) 0) g9 (.z iv.length (bv iv)),.dead,.dead,.dead,j7 (f9 t k xs) (j4 mode) back ⟨iv,[],[]⟩ 5,.dead,.dead]:=by
 have IN:=Li h (back:=back) (H6:=a9) ok;refine b9.wka (U5.p ?_) (.cons .nl (.cons (.refl _) (.cons (.refl _) .nil)));refine⟨⟨[(2,.p (.k 4) 0),(3,.p (.k 5) 0),(4,.p (.k 6) 0),(5,.f (.func 160) [] [.p (.k 4) 0,.p (.k 6) 0])],[_,_,_,_,_,_,_]⟩,⟨[.k 0,.k 1,.k 2,.k 3,.d 2 0,.d 3 0,.d 4 0],⟨rfl,rfl,rfl,rfl,tq⟩,⟨_,rfl,rfl⟩,⟨_,rfl,rfl⟩,⟨_,rfl,rfl⟩,⟨_,rfl,rfl⟩,⟨_,rfl,rfl⟩,⟨_,rfl,rfl⟩,⟨_,rfl,rfl⟩,tq⟩,_,_,rfl,rfl,?_⟩;refine⟨_,rfl,?_⟩;refine⟨_,rfl,?_⟩;refine⟨[.k 0,.k 1],_,_,_,_,IN,rfl,rfl,?_⟩;refine⟨Za rfl,?_⟩;refine⟨[.slice none 0 0,.int .i64 0,.int .i64 0],rfl,rfl,?_⟩;refine⟨Za rfl,?_⟩;refine⟨[.k 4,.k 6,.k 0,.d 43 2,.d 43 3,.d 43 4],_,_,_,_,bM (o:=none) (st:=⟨iv,[],[]⟩) (a9:=iv) (x:= .n),rfl,rfl,_,rfl,?_⟩;refine⟨[g9,i64 0,i64 0],rfl,rfl,?_⟩;refine⟨_,_,?_,E8.refl _,x7.refl _⟩;exact⟨_,rfl,[.k 0,.k 1,.k 2,.k 3,.d 43 2,.d 43 3,.d 43 4],rfl,⟨_,rfl,rfl⟩,⟨_,rfl,rfl⟩,⟨_,rfl,rfl⟩,⟨_,rfl,rfl⟩,⟨_,rfl,rfl⟩,⟨_,rfl,rfl⟩,⟨_,rfl,rfl⟩,tq⟩
theorem DE {t' t6 w5:Int} {x6:Bool} {lk' li' lb':Nat} {vk' vi' vb':List Value} {t mode pad:Int} {back:Bool} {k:Nat} {xs:List V} {iv a9:Bs} {st:MS} {x:HK} {st':MS} {m7 H' o':Bs} {n':Nat} (U:b9 C 33 [.p (.k 0) 0,.z lb' vb'] [m8 true t mode pad back k xs iv x a9,j7 (f9 t k xs) (j4 mode) back st 2,j5 st.row st.gone,x.b] (.ret (.t [.z n' (bv o'),i64 0])) [p8 true true t mode pad back (f9 t k xs) (.z iv.length (bv iv)) (.p (.k 1) 0) (.o 1 (.k 5) 0 H'.length) (.z m7.length (bv m7)),j7 (f9 t k xs) (j4 mode) back st' 4,.dead,.dead,j5 st'.row st'.gone,.sc (bv H')]):
  b9 C 104 [.p (.k 0) 0,.a [i64 2,i64 t',i64 t6,i64 w5,bool x6,.z lk' vk',.z li' vi',.z lb' vb']] [m8 true t mode pad back k xs iv x a9,j7 (f9 t k xs) (j4 mode) back st 2,j5 st.row st.gone,x.b] (.ret (.a [(.z n' (bv o')),i64 0,i64 H'.length])) [p8 true true t mode pad back (f9 t k xs) (.z iv.length (bv iv)) (.p (.k 1) 0) (.o 1 (.k 5) 0 H'.length) (.z m7.length (bv m7)),j7 (f9 t k xs) (j4 mode) back st' 4,.dead,.dead,j5 st'.row st'.gone,.sc (bv H')]:=by
 obtain⟨ch,row,g⟩:=st;obtain⟨ch',row',g'⟩:=st';rcases row with _|⟨a,r⟩<;>rcases row' with _|⟨a',r'⟩<;>rcases x with _|H|H;all_goals
  refine U5.p ?_;refine⟨⟨[(2,.p (.k 4) 0),(3,.p (.k 5) 0),(4,.p (.k 6) 0),(5,.f (.func 160) [] [.p (.k 4) 0,.p (.k 6) 0])],[_,_,_,_,_,_,_]⟩,⟨[.k 0,.k 1,.k 2,.k 3,.d 2 0,.d 3 0,.d 4 0],⟨rfl,rfl,rfl,rfl,tq⟩,⟨_,rfl,rfl⟩,⟨_,rfl,rfl⟩,⟨_,rfl,rfl⟩,⟨_,rfl,rfl⟩,⟨_,rfl,rfl⟩,⟨_,rfl,rfl⟩,⟨_,rfl,rfl⟩,tq⟩,_,_,rfl,rfl,?_⟩;refine⟨_,rfl,?_⟩;refine⟨_,rfl,?_⟩;refine⟨_,rfl,?_⟩;refine⟨[.k 0,.k 1,.k 2,.k 3],_,_,_,_,U,rfl,rfl,?_⟩;refine⟨Za rfl,?_⟩;refine⟨Za rfl,?_⟩;refine⟨[.z n' (bv o'),i64 0,i64 0],rfl,rfl,?_⟩;refine⟨Za rfl,?_⟩;refine⟨[.k 4,.k 6,.k 0,.k 1,.d 26 4,.d 26 5],_,_,_,_,bM (o:=some (n',bv o')) (a9:=m7) (x:= .o H'),rfl,rfl,_,rfl,?_⟩;refine⟨[.z n' (bv o'),i64 0,i64 H'.length],rfl,rfl,?_⟩;refine⟨_,_,?_,E8.refl _,x7.refl _⟩;exact⟨_,rfl,[.k 0,.k 1,.k 2,.k 3,.d 26 4,.d 26 5],rfl,⟨_,rfl,rfl⟩,⟨_,rfl,rfl⟩,⟨_,rfl,rfl⟩,⟨_,rfl,rfl⟩,⟨_,rfl,rfl⟩,⟨_,rfl,rfl⟩,tq⟩
theorem XE {t' t6 w5:Int} {x6:Bool} {lk' li' lb':Nat} {vk' vi' vb':List Value} {t mode pad:Int} {back:Bool} {k:Nat} {xs:List V} {iv a9:Bs} {st:MS} {x:HK} {st':MS} {m7 H' o':Bs} {n':Nat} (U:b9 C 33 [.p (.k 0) 0,.z lb' vb'] [m8 true t mode pad back k xs iv x a9,j7 (f9 t k xs) (j4 mode) back st 2,j5 st.row st.gone,x.b] (.ret (.t [.z n' (bv o'),i64 0])) [p8 true true t mode pad back (f9 t k xs) (.z iv.length (bv iv)) (.p (.k 1) 0) (.o 1 (.k 4) 0 H'.length) (.z m7.length (bv m7)),j7 (f9 t k xs) (j4 mode) back st' 2,j5 st'.row st'.gone,.dead,.sc (bv H')]):
  b9 C 104 [.p (.k 0) 0,.a [i64 2,i64 t',i64 t6,i64 w5,bool x6,.z lk' vk',.z li' vi',.z lb' vb']] [m8 true t mode pad back k xs iv x a9,j7 (f9 t k xs) (j4 mode) back st 2,j5 st.row st.gone,x.b] (.ret (.a [(.z n' (bv o')),i64 0,i64 H'.length])) [p8 true true t mode pad back (f9 t k xs) (.z iv.length (bv iv)) (.p (.k 1) 0) (.o 1 (.k 4) 0 H'.length) (.z m7.length (bv m7)),j7 (f9 t k xs) (j4 mode) back st' 2,j5 st'.row st'.gone,.dead,.sc (bv H')]:=by
 obtain⟨ch,row,g⟩:=st;obtain⟨ch',row',g'⟩:=st';rcases row with _|⟨a,r⟩<;>rcases row' with _|⟨a',r'⟩<;>rcases x with _|H|H;all_goals
  refine U5.p ?_;refine⟨⟨[(2,.p (.k 4) 0),(3,.p (.k 5) 0),(4,.p (.k 6) 0),(5,.f (.func 160) [] [.p (.k 4) 0,.p (.k 6) 0])],[_,_,_,_,_,_,_]⟩,⟨[.k 0,.k 1,.k 2,.k 3,.d 2 0,.d 3 0,.d 4 0],⟨rfl,rfl,rfl,rfl,tq⟩,⟨_,rfl,rfl⟩,⟨_,rfl,rfl⟩,⟨_,rfl,rfl⟩,⟨_,rfl,rfl⟩,⟨_,rfl,rfl⟩,⟨_,rfl,rfl⟩,⟨_,rfl,rfl⟩,tq⟩,_,_,rfl,rfl,?_⟩;refine⟨_,rfl,?_⟩;refine⟨_,rfl,?_⟩;refine⟨_,rfl,?_⟩;refine⟨[.k 0,.k 1,.k 2,.k 3],_,_,_,_,U,rfl,rfl,?_⟩;refine⟨Za rfl,?_⟩;refine⟨Za rfl,?_⟩;refine⟨[.z n' (bv o'),i64 0,i64 0],rfl,rfl,?_⟩;refine⟨Za rfl,?_⟩;refine⟨[.k 4,.k 6,.k 0,.k 1,.k 2,.d 26 4],_,_,_,_,bM (o:=some (n',bv o')) (a9:=m7) (x:= .o H'),rfl,rfl,_,rfl,?_⟩;refine⟨[.z n' (bv o'),i64 0,i64 H'.length],rfl,rfl,?_⟩;refine⟨_,_,?_,E8.refl _,x7.refl _⟩;exact⟨_,rfl,[.k 0,.k 1,.k 2,.k 3,.d 26 4],rfl,⟨_,rfl,rfl⟩,⟨_,rfl,rfl⟩,⟨_,rfl,rfl⟩,⟨_,rfl,rfl⟩,⟨_,rfl,rfl⟩,tq⟩
theorem DF {t' t6 w5:Int} {x6:Bool} {lk' li' lb':Nat} {vk' vi' vb':List Value} {t mode pad:Int} {back:Bool} {k:Nat} {xs:List V} {iv a9:Bs} {st:MS} {x:HK} {m7 o':Bs} {n':Nat} {e':Int} (U:b9 C 34 [.p (.k 0) 0] [m8 true t mode pad back k xs iv x a9,j7 (f9 t k xs) (j4 mode) back st 2,j5 st.row st.gone,x.b] (.ret (.t [.z n' (bv o'),i64 e'])) [G5 t mode pad back k xs iv m7,.dead,.dead,.dead,.dead]):
  b9 C 104 [.p (.k 0) 0,.a [i64 3,i64 t',i64 t6,i64 w5,bool x6,.z lk' vk',.z li' vi',.z lb' vb']] [m8 true t mode pad back k xs iv x a9,j7 (f9 t k xs) (j4 mode) back st 2,j5 st.row st.gone,x.b] (.ret (.a [(.z n' (bv o')),i64 e',i64 0])) [G5 t mode pad back k xs iv m7,.dead,.dead,.dead]:=by
 obtain⟨ch,row,g⟩:=st;rcases row with _|⟨a,r⟩<;>rcases x with _|H|H;all_goals
  refine U5.p ?_;refine⟨⟨[(2,.p (.k 4) 0),(3,.p (.k 5) 0),(4,.p (.k 6) 0),(5,.f (.func 160) [] [.p (.k 4) 0,.p (.k 6) 0])],[_,_,_,_,_,_,_]⟩,⟨[.k 0,.k 1,.k 2,.k 3,.d 2 0,.d 3 0,.d 4 0],⟨rfl,rfl,rfl,rfl,tq⟩,⟨_,rfl,rfl⟩,⟨_,rfl,rfl⟩,⟨_,rfl,rfl⟩,⟨_,rfl,rfl⟩,⟨_,rfl,rfl⟩,⟨_,rfl,rfl⟩,⟨_,rfl,rfl⟩,tq⟩,_,_,rfl,rfl,?_⟩;refine⟨_,rfl,?_⟩;refine⟨_,rfl,?_⟩;refine⟨[.k 0,.k 1,.k 2,.k 3],_,_,_,_,U,rfl,rfl,?_⟩;refine⟨Za rfl,?_⟩;refine⟨Za rfl,?_⟩;refine⟨[.z n' (bv o'),i64 e',i64 0],rfl,rfl,?_⟩;refine⟨Za rfl,?_⟩;refine⟨[.k 4,.k 6,.k 0,.k 1],_,_,_,_,nP (o:=some (n',bv o')) (a9:=m7),rfl,rfl,_,rfl,?_⟩;refine⟨[.z n' (bv o'),i64 e',i64 0],rfl,rfl,?_⟩;refine⟨_,_,?_,E8.refl _,x7.refl _⟩;exact⟨_,rfl,[.k 0,.k 1,.k 2,.k 3],rfl,⟨_,rfl,rfl⟩,⟨_,rfl,rfl⟩,⟨_,rfl,rfl⟩,⟨_,rfl,rfl⟩,tq⟩
abbrev E0 (x:Cl):List V:=[i64 x.kind,i64 x.c.t,i64 x.c.mode,i64 x.c.pad,bool x.c.back,.z x.c.key.length (bv x.c.key),.z x.c.iv.length (bv x.c.iv),.z x.inp.length (bv x.inp)]
abbrev S5 (τ:To):List V:=[.z τ.out.length (bv τ.out),i64 τ.e,i64 τ.held]
noncomputable def mD:CX->Bs->List B
 | .nw,_=>[p8 false false 0 0 0 false j8 g9 j8 g9 g9,.dead,.dead,.dead]
 | .op c none,_=>[m8 true c.t c.mode c.pad c.back c.k c.xs c.iv .n c.iv,j7 (f9 c.t c.k c.xs) (j4 c.mode) c.back ⟨c.iv,[],[]⟩ 2,.dead,.dead]
 | .op c (some M),_=>[m8 true c.t c.mode c.pad c.back c.k c.xs c.iv (.o (c.H M)) (c.L M),j7 (f9 c.t c.k c.xs) (j4 c.mode) c.back (c.S M) 2,j5 (c.S M).row (c.S M).gone,.sc (bv (c.H M))]
 | .cl c,a9=>[G5 c.t c.mode c.pad c.back c.k c.xs c.iv a9,.dead,.dead,.dead]
noncomputable abbrev Ej (c:Cf) (M:Bs):List B:=[p8 true true c.t c.mode c.pad c.back (f9 c.t c.k c.xs) (.z c.iv.length (bv c.iv)) (.p (.k 1) 0) (.o 1 (.k 5) 0 (c.H M).length) (.z (c.L M).length (bv (c.L M))),j7 (f9 c.t c.k c.xs) (j4 c.mode) c.back (c.S M) 4,.dead,.dead,j5 (c.S M).row (c.S M).gone,.sc (bv (c.H M))]
noncomputable abbrev Ek (c:Cf) (M:Bs):List B:=[p8 true true c.t c.mode c.pad c.back (f9 c.t c.k c.xs) (.z c.iv.length (bv c.iv)) (.p (.k 1) 0) (.o 1 (.k 4) 0 (c.H M).length) (.z (c.L M).length (bv (c.L M))),j7 (f9 c.t c.k c.xs) (j4 c.mode) c.back (c.S M) 2,j5 (c.S M).row (c.S M).gone,.dead,.sc (bv (c.H M))]
noncomputable abbrev rN (c:Cf):List B:=[p8 true true c.t c.mode c.pad c.back (f9 c.t c.k c.xs) (.z c.iv.length (bv c.iv)) (.p (.k 4) 0) g9 (.z c.iv.length (bv c.iv)),.dead,.dead,.dead,j7 (f9 c.t c.k c.xs) (j4 c.mode) c.back ⟨c.iv,[],[]⟩ 5,.dead,.dead]
theorem mn:¬((2:Int)=1):=by decide
theorem mp:¬((3:Int)=1):=by decide
theorem mq:¬((3:Int)=2):=by decide
theorem mr:¬((4:Int)=1):=by decide
theorem mt:¬((4:Int)=2):=by decide
theorem mu:¬((4:Int)=3):=by decide
def pr (σ:CX) (a9:Bs) (bs:List B):Prop:=bs=mD σ a9\/(∃c M,σ= .op c (some M)/\bs=Ej c M)\/(∃c M,σ= .op c (some M)/\bs=Ek c M)\/(∃c,σ= .op c none/\bs=rN c)
theorem N6 {σ:CX} {x:Cl} {a9:Bs} {r:V} {bs:List B} {o:Bs×Int} {σ':CX} {m7:Bs} (h:b9 C 104 [.p (.k 0) 0,.a (E0 x)] (mD σ a9) (.ret r) bs) (ho:t3 σ x=o) (hn:w7 σ x=σ') (hr:r= .a (S5 ⟨o.1,o.2,mJ σ'⟩)) (hl:pr σ' m7 bs):
  ∃m7 bs,pr (w7 σ x) m7 bs/\b9 C 104 [.p (.k 0) 0,.a (E0 x)] (mD σ a9) (.ret (.a (S5 (ca σ x)))) bs:=by
 refine⟨m7,bs,by rw[hn];exact hl,?_⟩;have e:ca σ x=⟨o.1,o.2,mJ σ'⟩:=by unfold ca;rw[ho,hn]
 rw[e,<-hr];exact h
theorem Oi {n:Nat} {σ:CX} {x:Cl} {a9:Bs} (hσ:jY n σ) (hx:iZ x) (hb:n+x.inp.length<=100000):
  ∃m7 bs,pr (w7 σ x) m7 bs/\b9 C 104 [.p (.k 0) 0,.a (E0 x)] (mD σ a9) (.ret (.a (S5 (ca σ x)))) bs:=by
 obtain⟨hk,hx1,hx2,hx3⟩:=hx;by_cases h1:x.kind=1
 ·obtain⟨kind,c,inp⟩:=x;obtain rfl:kind=1:=h1;by_cases he:c.err=0
  ·obtain⟨⟨rs,h⟩,ok⟩:=Cf.ok he hx1;have ho:∀σ,t3 σ ⟨1,c,inp⟩=([],0):=fun σ=>by unfold t3;rw[if_pos rfl,he]
   have hn:∀σ,w7 σ ⟨1,c,inp⟩= .op c none:=fun σ=>by unfold w7;rw[if_pos rfl,if_pos he]
   have L:pr (.op c none) [] (rN c):= .inr (.inr (.inr ⟨c,rfl,rfl⟩));rcases σ with _|⟨d,_|M⟩|d
   ·exact N6 (XB h rfl hx1 rfl ok) (ho _) (hn _) rfl L
   ·exact N6 (DC (t:=d.t) (mode:=d.mode) (pad:=d.pad) (back:=d.back) (k:=d.k) (xs:=d.xs) (iv:=d.iv) (a9:=d.iv) (st:=⟨d.iv,[],[]⟩) (x:= .n) h rfl hx1 rfl ok) (ho _) (hn _) rfl L
   ·exact N6 (DC (t:=d.t) (mode:=d.mode) (pad:=d.pad) (back:=d.back) (k:=d.k) (xs:=d.xs) (iv:=d.iv) (a9:=d.L M) (st:=d.S M) (x:= .o (d.H M)) h rfl hx1 rfl ok) (ho _) (hn _) rfl L
   ·exact N6 (XC (t:=d.t) (mode:=d.mode) (pad:=d.pad) (back:=d.back) (k:=d.k) (xs:=d.xs) (iv:=d.iv) (a9:=a9) h rfl hx1 rfl ok) (ho _) (hn _) rfl L
  ·have ho:∀σ,t3 σ ⟨1,c,inp⟩=([],c.err):=fun σ=>by unfold t3;rw[if_pos rfl]
   have hn:∀σ,w7 σ ⟨1,c,inp⟩=σ:=fun σ=>by unfold w7;rw[if_pos rfl,if_neg he]
   rcases σ with _|⟨d,_|M⟩|d
   ·exact N6 (XK rfl hx1 rfl he) (ho _) (hn _) rfl (.inl rfl) (m7:=[])
   ·exact N6 (DH (t:=d.t) (mode:=d.mode) (pad:=d.pad) (back:=d.back) (k:=d.k) (xs:=d.xs) (iv:=d.iv) (a9:=d.iv) (st:=⟨d.iv,[],[]⟩) (x:= .n) rfl hx1 rfl he) (ho _) (hn _) rfl (.inl rfl) (m7:=[])
   ·exact N6 (DH (t:=d.t) (mode:=d.mode) (pad:=d.pad) (back:=d.back) (k:=d.k) (xs:=d.xs) (iv:=d.iv) (a9:=d.L M) (st:=d.S M) (x:= .o (d.H M)) rfl hx1 rfl he) (ho _) (hn _) rfl (.inl rfl) (m7:=[])
   ·exact N6 (XL (t:=d.t) (mode:=d.mode) (pad:=d.pad) (back:=d.back) (k:=d.k) (xs:=d.xs) (iv:=d.iv) (a9:=a9) rfl hx1 rfl he) (ho _) (hn _) rfl (.inl rfl)
 by_cases h2:x.kind=2
 ·obtain⟨kind,c,inp⟩:=x;obtain rfl:kind=2:=h2;rcases σ with _|⟨d,m⟩|d
  ·exact N6 (XD) (by unfold t3;rw[if_neg mn,if_pos rfl]) (by unfold w7;rw[if_neg mn,if_pos rfl]) rfl (.inl rfl) (m7:=[])
  ·obtain⟨he,hkl,hml⟩:=hσ;obtain⟨⟨rs,h⟩,ok⟩:=Cf.ok he hkl;have hs:=h.s_le;have hn:w7 (.op d m) ⟨2,c,inp⟩= .op d (some (m.getD []++inp)):=by unfold w7;rw[if_neg mn,if_pos rfl]
   have ho:t3 (.op d m) ⟨2,c,inp⟩=((d.T (m.getD []++inp)).drop (d.T (m.getD [])).length,0):=by unfold t3;rw[if_neg mn,if_pos rfl]
   have hb':(m.getD []).length+inp.length<=100000:=Zl (Nat.add_le_add_right hml _) hb;rcases m with _|M
   ·obtain⟨n1,o,hn1,_,hT,U⟩:=AY h (b:=inp) (back:=d.back) (M:=[]) (x:= .n) ok (.inl ⟨rfl,qk⟩) rfl (by simpa using hb');have U:=U.resolve_right (fun hh=>hh.1 (by rw[pI (by omega) ok]));rw[jl (by omega) ok,pI (by omega) ok]at U;have ho':(d.T ([]++inp)).drop (d.T []).length=o:=by rw[show d.T ([]++inp)=d.T []++o from hT,List.drop_left]
    refine N6 (o:=(o,0)) (m7:=[]) (DE (t:=d.t) (mode:=d.mode) (pad:=d.pad) (back:=d.back) (k:=d.k) (xs:=d.xs) (iv:=d.iv) (a9:=d.iv) (st:=⟨d.iv,[],[]⟩) (x:= .n) U) (by rw[ho];exact congrArg (fun z=>(z,(0:Int))) ho') hn ?_ (.inr (.inl ⟨d,[]++inp,rfl,rfl⟩));rw[<-hn1];rfl
   ·obtain⟨n1,o,hn1,_,hT,U⟩:=AY h (b:=inp) (back:=d.back) (M:=M) (x:= .o (d.H M)) ok (.inr rfl) rfl hb';have ho':(d.T (M++inp)).drop (d.T M).length=o:=by rw[show d.T (M++inp)=d.T M++o from hT,List.drop_left]
    rcases U with U|⟨_,U⟩
    ·refine N6 (o:=(o,0)) (m7:=[]) (DE (t:=d.t) (mode:=d.mode) (pad:=d.pad) (back:=d.back) (k:=d.k) (xs:=d.xs) (iv:=d.iv) (a9:=d.L M) (st:=d.S M) (x:= .o (d.H M)) U) (by rw[ho];exact congrArg (fun z=>(z,(0:Int))) ho') hn ?_ (.inr (.inl ⟨d,M++inp,rfl,rfl⟩));rw[<-hn1];rfl
    ·refine N6 (o:=(o,0)) (m7:=[]) (XE (t:=d.t) (mode:=d.mode) (pad:=d.pad) (back:=d.back) (k:=d.k) (xs:=d.xs) (iv:=d.iv) (a9:=d.L M) (st:=d.S M) (x:= .o (d.H M)) U) (by rw[ho];exact congrArg (fun z=>(z,(0:Int))) ho') hn ?_ (.inr (.inr (.inl ⟨d,M++inp,rfl,rfl⟩)));rw[<-hn1];rfl
  ·exact N6 (XF (a9:=a9)) (by unfold t3;rw[if_neg mn,if_pos rfl]) (by unfold w7;rw[if_neg mn,if_pos rfl]) rfl (.inl rfl)
 by_cases h3:x.kind=3
 ·obtain⟨kind,c,inp⟩:=x;obtain rfl:kind=3:=h3;rcases σ with _|⟨d,m⟩|d
  ·exact N6 (XG) (by unfold t3;rw[if_neg mp,if_neg mq,if_pos rfl]) (by unfold w7;rw[if_neg mp,if_neg mq,if_pos rfl]) rfl (.inl rfl) (m7:=[])
  ·obtain⟨he,hkl,hml⟩:=hσ;obtain⟨⟨rs,h⟩,ok⟩:=Cf.ok he hkl;have hs:=h.s_le;have hn:w7 (.op d m) ⟨3,c,inp⟩= .cl d:=by unfold w7;rw[if_neg mp,if_neg mq,if_pos rfl]
   have ho:t3 (.op d m) ⟨3,c,inp⟩=d.fin (m.getD []):=by unfold t3;rw[if_neg mp,if_neg mq,if_pos rfl]
   rcases m with _|M
   ·obtain⟨_,l',F⟩:=AW h (back:=d.back) (M:=[]) (x:= .n) (r:=d.fin []) ok (.inl ⟨rfl,qk⟩) (by simp) rfl;rw[jl (by omega) ok,pI (by omega) ok]at F;exact N6 (DF (t:=d.t) (mode:=d.mode) (pad:=d.pad) (back:=d.back) (k:=d.k) (xs:=d.xs) (iv:=d.iv) (a9:=d.iv) (st:=⟨d.iv,[],[]⟩) (x:= .n) F) ho hn rfl (.inl rfl)
   ·obtain⟨_,l',F⟩:=AW h (back:=d.back) (M:=M) (x:= .o (d.H M)) (r:=d.fin M) ok (.inr rfl) (Zl (Zl hml (Nat.le_add_right _ _)) hb) rfl;exact N6 (DF (t:=d.t) (mode:=d.mode) (pad:=d.pad) (back:=d.back) (k:=d.k) (xs:=d.xs) (iv:=d.iv) (a9:=d.L M) (st:=d.S M) (x:= .o (d.H M)) F) ho hn rfl (.inl rfl)
  ·exact N6 (XH (a9:=a9)) (by unfold t3;rw[if_neg mp,if_neg mq,if_pos rfl]) (by unfold w7;rw[if_neg mp,if_neg mq,if_pos rfl]) rfl (.inl rfl)
 by_cases h4:x.kind=4
 ·obtain⟨kind,c,inp⟩:=x;obtain rfl:kind=4:=h4;rcases σ with _|⟨d,m⟩|d
  ·exact N6 (XI) (by unfold t3;rw[if_neg mr,if_neg mt,if_neg mu,if_pos rfl]) (by unfold w7;rw[if_neg mr,if_neg mt,if_neg mu,if_pos rfl]) rfl (.inl rfl) (m7:=[])
  ·obtain⟨⟨rs,h⟩,ok⟩:=Cf.ok hσ.1 hσ.2.1;have hn:w7 (.op d m) ⟨4,c,inp⟩= .op d none:=by unfold w7;rw[if_neg mr,if_neg mt,if_neg mu,if_pos rfl]
   have ho:t3 (.op d m) ⟨4,c,inp⟩=([],0):=by unfold t3;rw[if_neg mr,if_neg mt,if_neg mu,if_pos rfl]
   rcases m with _|M
   ·exact N6 (DG (a9:=d.iv) (st:=⟨d.iv,[],[]⟩) (x:= .n) h ok) ho hn rfl (.inr (.inr (.inr ⟨d,rfl,rfl⟩))) (m7:=[])
   ·exact N6 (DG (a9:=d.L M) (st:=d.S M) (x:= .o (d.H M)) h ok) ho hn rfl (.inr (.inr (.inr ⟨d,rfl,rfl⟩))) (m7:=[])
  ·obtain⟨⟨rs,h⟩,ok⟩:=Cf.ok hσ.1 hσ.2;exact N6 (XJ (a9:=a9) h ok) (by unfold t3;rw[if_neg mr,if_neg mt,if_neg mu,if_pos rfl]) (by unfold w7;rw[if_neg mr,if_neg mt,if_neg mu,if_pos rfl]) rfl (.inr (.inr (.inr ⟨d,rfl,rfl⟩))) (m7:=[])
 have ho:∀σ,t3 σ x=([],1):=fun σ=>by unfold t3;rw[if_neg h1,if_neg h2,if_neg h3,if_neg h4]
 have hn:∀σ,w7 σ x=σ:=fun σ=>by unfold w7;rw[if_neg h1,if_neg h2,if_neg h3,if_neg h4]
 rcases σ with _|⟨d,_|M⟩|d
 ·exact N6 (Xz h1 h2 h3 h4) (ho _) (hn _) rfl (.inl rfl) (m7:=[])
 ·exact N6 (DB (a9:=d.iv) (st:=⟨d.iv,[],[]⟩) (x:= .n) h1 h2 h3 h4) (ho _) (hn _) rfl (.inl rfl) (m7:=[])
 ·exact N6 (DB (a9:=d.L M) (st:=d.S M) (x:= .o (d.H M)) h1 h2 h3 h4) (ho _) (hn _) rfl (.inl rfl) (m7:=[])
 ·exact N6 (XA (a9:=a9) h1 h2 h3 h4) (ho _) (hn _) rfl (.inl rfl)
theorem qV {α β:Type} {f:α->List β} {e:Nat} (hf:∀x,(f x).length=e):∀(l:List α) (i:Nat) (h:i<l.length),sub (l.flatMap f) (i*e) e=f l[i]
 |[],_,h=>absurd h (by simp)
 |x::r,0,_=>by
  show sub ((x::r).flatMap f) (0*e) e=f x;rw[Zs,Nat.zero_mul];unfold sub;rw[List.drop_zero,List.take_append_of_le_length (by rw[hf];exact Zn _),List.take_of_length_le (by rw[hf];exact Zn _)]
 |x::r,i+1,h=>by
  have ih:=qV hf r i (by simpa using h);rw[Zs];unfold sub at ih ⊢;rw[show (i+1)*e=(f x).length+i*e by rw[hf,Nat.succ_mul,Nat.add_comm],List.drop_append,List.drop_of_length_le (Nat.le_add_right _ _),Zz,Nat.add_sub_cancel_left];exact ih
theorem qU {α β:Type} {f:α->List β} {e:Nat} (hf:∀x,(f x).length=e):∀(l:List α),(l.flatMap f).length=l.length*e
 |[]=>(Nat.zero_mul e).symm
 |x::r=>by rw[Zs,Zc,hf,qU hf r,List.length_cons,Nat.succ_mul,Nat.add_comm]
theorem a1t {α:Type} {C:m6} {rt:Rt} {m:Nat} {c:Code} {s:S} {K:X->S->Prop} (l:Nat) {p q:Code} (hs:K3 c l=some (p,q)) (I:α->D) (Q:α->Prop) (μ:α->Nat) (h0:vc C rt m p s fun e s'=>match e with
   | .normal=>∃(l:List (Nat×Nat×B)) (y:α),Q y/\ar l 0 s' fun s'=>Mt m s' (I y)
   | .goto l'=>l'=l/\∃y:α,Q y/\Mt m s' (I y)
   |e=>K e s') (h:∀x,Q x->vc C rt m q (I x).s fun e s'=>match e with
   | .goto l'=>l'=l/\∃y:α,Q y/\μ y<μ x/\Mt m s' (I y)
   |e=>K e s'):jN C rt m c s K:=
 ⟨l,α,I,Q,μ,by rw[hs];exact⟨h0,h⟩⟩
noncomputable def rD (n i:Nat) (cs ts:List V) (σ:CX) (a9:Bs):D:=⟨[(0,.zz 8 n cs),(3,.o 3 (.k 4) 0 i),(4,.p (.k 0) 0),(5,i64 i)],mD σ a9++[.pl ts]⟩
noncomputable def Ei (c:Cf) (H L:Bs) (st:MS):List B:=[m8 true c.t c.mode c.pad c.back c.k c.xs c.iv (.o H) L,j7 (f9 c.t c.k c.xs) (j4 c.mode) c.back st 2,j5 st.row st.gone,.sc (bv H)]
theorem ZG {c:Cf} {M a9:Bs}:mD (.op c (some M)) a9=Ei c (c.H M) (c.L M) (c.S M):=rfl
noncomputable def ZH (n i:Nat) (cs ts:List V) (c:Cf) (H L:Bs) (st:MS):D:=⟨[(0,.zz 8 n cs),(3,.o 3 (.k 4) 0 i),(4,.p (.k 0) 0),(5,i64 i)],Ei c H L st++[.pl ts]⟩
theorem wR {n i:Nat} {cs ts:List V} {c:Cf} {M a9:Bs}:rD n i cs ts (.op c (some M)) a9=ZH n i cs ts c (c.H M) (c.L M) (c.S M):=rfl
noncomputable def ZM (c:Cf) (H L:Bs) (st:MS):List B:=[p8 true true c.t c.mode c.pad c.back (f9 c.t c.k c.xs) (.z c.iv.length (bv c.iv)) (.p (.k 1) 0) (.o 1 (.k 5) 0 H.length) (.z L.length (bv L)),j7 (f9 c.t c.k c.xs) (j4 c.mode) c.back st 4,.dead,.dead,j5 st.row st.gone,.sc (bv H)]
noncomputable def ZN (c:Cf) (H L:Bs) (st:MS):List B:=[p8 true true c.t c.mode c.pad c.back (f9 c.t c.k c.xs) (.z c.iv.length (bv c.iv)) (.p (.k 1) 0) (.o 1 (.k 4) 0 H.length) (.z L.length (bv L)),j7 (f9 c.t c.k c.xs) (j4 c.mode) c.back st 2,j5 st.row st.gone,.dead,.sc (bv H)]
theorem ZK {c:Cf} {M:Bs}:Ej c M=ZM c (c.H M) (c.L M) (c.S M):=rfl
theorem ZL {c:Cf} {M:Bs}:Ek c M=ZN c (c.H M) (c.L M) (c.S M):=rfl
theorem xj {l:List Cl} (hl:∀x∈l,iZ x):∀i,i<=l.length->jY (1000*i) (G6 .nw (l.take i))
 |0,_=>by rw[List.take_zero];exact trivial
 |i+1,h=>by
  have ih:=xj hl i (by omega);have hx:=hl l[i] (Zp (by omega));rw[Zx,Zo (by omega:i<l.length)];unfold G6 at ih ⊢;rw[Zu,List.foldl_append,List.foldl_cons,List.foldl_nil];have:=ih.next hx;generalize w7 _ _=τ at this ⊢;cases τ with
  |nw=>trivial
  |op c m=>exact⟨this.1,this.2.1,Zl this.2.2 (by have:=hx.2.2.2;omega)⟩
  |cl c=>exact this
theorem Ex {l:List Cl} {i:Nat} (h:i<l.length):G6 .nw (l.take (i+1))=w7 (G6 .nw (l.take i)) l[i]/\L8 .nw (l.take (i+1))=L8 .nw (l.take i)++[ca (G6 .nw (l.take i)) l[i]]:=by
 rw[Zx,Zo h,Zu,xf];refine⟨?_,rfl⟩;unfold G6;rw[List.foldl_append];rfl
set_option maxHeartbeats 4000000 in
theorem Al {l:List Cl} {n:Nat} (hn:l.length=n) (hl:∀x∈l,iZ x) (hb:n<=99):
  b9 C 46 [.zz 8 n (l.flatMap E0)] [] (.ret (.zz 3 n ((L8 .nw l).flatMap S5))) []:=by
 subst hn;refine Va.c ?_;refine a1t (α:=Nat×Bs) 0 rfl (fun p=>rD l.length p.1 (l.flatMap E0) ((L8 .nw (l.take p.1)).flatMap S5) (G6 .nw (l.take p.1)) p.2) (fun p=>p.1<=l.length) (fun p=>l.length-p.1) ?_ fun p hp=> ?_
 ·refine⟨Z8 _,by omega,by omega,?_⟩;refine⟨[],_,_,_,_,Lf.fg (.keep (.dd (.dd (.dd .nil)))),rfl,rfl,?_⟩;exact⟨[],(0,[]),Zk _,[.d 9 0,.d 9 1,.d 9 2,.d 9 3,.d 8 0],⟨rfl,rfl,rfl,rfl,tq⟩,⟨_,rfl,rfl⟩,⟨_,rfl,rfl⟩,⟨_,rfl,rfl⟩,⟨_,rfl,rfl⟩,⟨_,rfl,rfl⟩,tq⟩
 ·obtain⟨i,a9⟩:=p;show vc _ _ _ _ (rD l.length i (l.flatMap E0) ((L8 .nw (l.take i)).flatMap S5) (G6 .nw (l.take i)) a9).s _;have hi:i<=l.length:=hp;have ho:=xj hl i hi;have hTl:((L8 .nw (l.take i)).flatMap S5).length=i*3:=by rw[qU (e:=3) (fun _=>rfl),xi,Ze,Z5 hi]
  by_cases d8:i<l.length
  ·obtain⟨s1,s2⟩:=Ex d8;obtain⟨m7,bs,hL,ONE⟩:=Oi (a9:=a9) ho (hl l[i] (Zp d8)) (by have:=(hl l[i] (Zp d8)).2.2.2;omega);have hT2:((L8 .nw (l.take (i+1))).flatMap S5)=((L8 .nw (l.take i)).flatMap S5)++S5 (ca (G6 .nw (l.take i)) l[i]):=by rw[s2,Z1];rfl
   have hX:sub (l.flatMap E0) (((i:Nat):Int).toNat*8) 8=E0 l[i]:=by rw[Zb];exact qV (f:=E0) (e:=8) (fun _=>rfl) l i d8
   have goal:rD l.length (i+1) (l.flatMap E0) ((L8 .nw (l.take (i+1))).flatMap S5) (G6 .nw (l.take (i+1))) m7=rD l.length (i+1) (l.flatMap E0) ((L8 .nw (l.take i)).flatMap S5++S5 (ca (G6 .nw (l.take i)) l[i])) (w7 (G6 .nw (l.take i)) l[i]) m7:=by rw[hT2,s1]
   clear hT2 s1 s2 ho;generalize ca (G6 .nw (l.take i)) l[i]=τ at*
   generalize w7 (G6 .nw (l.take i)) l[i]=σ' at*
   generalize (L8 .nw (l.take i)).flatMap S5=ts at*
   generalize G6 .nw (l.take i)=σ at*
   have hts:sub ts 0 (i*3)++sub (S5 τ) 0 (1*3)=ts++S5 τ:=by rw[C3 hTl];rfl
   rcases hL with h0|⟨d',M',rfl,rfl⟩|⟨d',M',rfl,rfl⟩|⟨d',rfl,rfl⟩;all_goals try (obtain rfl:=h0;rcases σ' with _|⟨d',_|M'⟩|d')
   all_goals rcases σ with _|⟨d,_|M⟩|d
   all_goals try simp only[ZG,ZK,ZL]at ONE
   all_goals try rw[wR]at goal
   all_goals try rw[wR]
   all_goals try (generalize d.S M=st at *;obtain⟨ch,row,g⟩:=st;rcases row with _|⟨a,r⟩)
   all_goals try (generalize d'.S M'=st' at *;obtain⟨ch',row',g'⟩:=st';rcases row' with _|⟨a',r'⟩)
   all_goals
    refine d9 (fun _=> ?_) (fun hh=>absurd (by omega) hh);refine⟨by omega,by omega,?_⟩;refine⟨E0 l[i],hX,rfl,?_⟩;refine⟨[.k 0,.k 1,.k 2,.k 3],_,_,_,_,ONE,rfl,rfl,?_⟩;refine⟨Za rfl,by omega,by omega,?_⟩;refine⟨rfl,(i+1,m7),d8,by show l.length-(i+1)<l.length-i;omega,T3 goal ?_⟩;first
     |exact⟨[.k 0,.k 1,.k 2,.k 3,.d 22 0],⟨rfl,rfl,rfl,f8 (by simp(disch:=omega)only[Zd];omega),tq⟩,⟨_,rfl,rfl⟩,⟨_,rfl,rfl⟩,⟨_,rfl,rfl⟩,⟨_,rfl,rfl⟩,⟨_,rfl,congrArg B.pl hts⟩,tq⟩
     |exact⟨[.k 0,.k 1,.d 20 4,.d 20 5,.d 22 0],⟨rfl,rfl,rfl,f8 (by simp(disch:=omega)only[Zd];omega),tq⟩,⟨_,rfl,rfl⟩,⟨_,rfl,rfl⟩,⟨_,rfl,rfl⟩,⟨_,rfl,rfl⟩,⟨_,rfl,congrArg B.pl hts⟩,tq⟩
     |exact⟨[.k 0,.k 1,.k 2,.d 20 4,.d 22 0],⟨rfl,rfl,rfl,f8 (by simp(disch:=omega)only[Zd];omega),tq⟩,⟨_,rfl,rfl⟩,⟨_,rfl,rfl⟩,⟨_,rfl,rfl⟩,⟨_,rfl,rfl⟩,⟨_,rfl,congrArg B.pl hts⟩,tq⟩
     |exact⟨[.k 0,.d 20 4,.d 20 5,.d 20 6,.d 22 0],⟨rfl,rfl,rfl,f8 (by simp(disch:=omega)only[Zd];omega),tq⟩,⟨_,rfl,rfl⟩,⟨_,rfl,rfl⟩,⟨_,rfl,rfl⟩,⟨_,rfl,rfl⟩,⟨_,rfl,congrArg B.pl hts⟩,tq⟩
  ·have hni:i=l.length:=by omega
   subst hni;rw[Zy]at*
   generalize G6 .nw l=σ at*
   generalize (L8 .nw l).flatMap S5=ts at*
   rcases σ with _|⟨d,_|M⟩|d;all_goals try rw[wR]
   all_goals try (generalize d.S M=st at *;obtain⟨ch,row,g⟩:=st;rcases row with _|⟨a,r⟩)
   all_goals
    refine d9 (fun hh=>absurd hh (by omega)) (fun _=> ?_);exact⟨_,rfl,[],congrArg (V.zz 3 l.length) (C3 hTl),tq⟩
theorem b9.argz {C:m6} {f e n:Nat} {xs ys:List V} {bs bs':List B} {r:Oc} (h:b9 C f [.zz e n ys] bs r bs') (hw:aU xs ys):b9 C f [.zz e n xs] bs r bs':=
 ⟨h.1,fun w F ι vs st hgl hdm hl=>h.2 w F ι vs st hgl hdm (by
  generalize vs.toList=l at hl;cases hl with
  |cons h1 h2=>
   refine .cons ?_ h2;cases h1 with
   |fz h1=>
    cases h1 with
    |zz0=>cases hw;exact .fz .zz0
    |zz a b c=>exact .fz (.zz a (hw.rf b) c))⟩
theorem yj {w:World} {F:Nat->Prop}:∀(vs:List Value),n7 w F (vs.map .s) vs
 |[]=> .nil
 |_::r=> .cons .s (yj r)
theorem b9.lentS {C:m6} {f e n:Nat} {ys:List V} {r:Oc} {us:List Value} (h:b9 C f [.zz e n ys] [] r []) (hx:sub (us.map .s) 0 (n*e)=ys):b9 C f [.o e (.k 0) 0 n] [.sc us] r [.dead]:=by
 refine⟨h.1,fun w F ι vs st hgl hdm hl=> ?_⟩;have hH:∀{id X},Hof [B.pl (us.map .s)] id=some X->id= .k 0/\X= .pl (us.map .s):=by
  intro id X h;cases id with
  |d=>simp[Hof]at h
  |k k=>
   cases k with
   |zero=>simp[Hof]at h;exact⟨rfl,h.symm⟩
   |succ k=>simp[Hof]at h
 have st2:St w (Lb ι [.sc us]) w F ι (Hof [.pl (us.map .s)]):={
  os:=st.os,tape:=st.tape,output:=st.output,size:=st.size,old:=st.old,shp:=st.shp,fr:=st.fr
  own:=fun id X h hX=>by
   obtain⟨rfl,rfl⟩:=hH h;rcases st.own (.k 0) (.sc us) rfl (by simp)with ⟨h0,hi⟩|⟨b,base,hi,hF,hL,arr,t,fr,hh,hfr,vs,hc,hb⟩
   ·exact .inl ⟨by simpa [B.len]using h0,hi⟩
   ·refine .inr ⟨b,base,hi,hF,hL,arr,t,fr,hh,hfr,vs,hc,?_⟩;have hb:us=vs:=hb;subst hb;exact yj us
  inj:=fun id id' X X' b base base' h _ h' _ _ _=>by
   obtain⟨rfl,_⟩:=hH h;obtain⟨rfl,_⟩:=hH h';rfl}
 have sk:=St.keep st2 (Hr:=Hof [.pl (us.map .s)]) (fun _ _ h=>h) [] List.nodup_nil (bs:=[]) (by simp);have hRL:RL w (Fx F ι (Hof [.pl (us.map .s)]) []) (Ik ι []) [.zz e n ys] vs.toList:=by
  generalize vs.toList=l at hl;cases hl with
  |cons h1 h2=>
   cases h2;refine .cons (.fz ?_) .nil;have:=sw (d7:=[]) st2 (Hr:=Hof [.pl (us.map .s)]) (fun _ _ h=>h) 6 h1;rw[<-hx];exact this
 refine Calls.mono (h.2 w _ (Ik ι []) vs (kb sk) (fun g=>(hgl g).mono fun _=> .inl) (fun id x hx=>by cases id<;>simp[Ik]at hx) hRL) ?_;rintro e' w' ⟨F1,ι1,g1,g2,g3,st1,g5,g6⟩;have hL:∀b,Fx F ι (Hof [.pl (us.map .s)]) [] b->F b\/Lb ι [.sc us] b:=by
  rintro b (h|⟨id,X,base,h1,_,_,h4⟩)
  ·exact .inl h
  ·obtain⟨rfl,rfl⟩:=hH h1;exact .inr ⟨0,.sc us,base,rfl,by simp,h4⟩
 refine⟨F1,ι,fun b hb=>g1 b (.inl hb),fun b hb=> ?_,fun _ _ h=>h,?_,fun id x hx=> ?_,?_⟩
 ·rcases g2 b hb with h|⟨k,X,base,h,_⟩|h
  ·exact(hL b h).imp id .inl
  ·simp at h
  ·exact .inr (.inr h)
 ·refine⟨st1.os,st1.tape,st1.output,st1.size,fun b hb hn=>st1.old b hb ?_,st1.shp,st1.fr,?_,?_⟩
  ·rintro ⟨k,X,base,h,_⟩;simp at h
  ·intro id X h hX;cases id with
   |d=>simp[Hof]at h
   |k k=>
    cases k with
    |zero=>simp[Hof]at h;exact absurd h.symm hX
    |succ k=>simp[Hof]at h
  ·intro id id' X X' b base base' h hX;cases id with
   |d=>simp[Hof]at h
   |k k=>
    cases k with
    |zero=>simp[Hof]at h;exact absurd h.symm hX
    |succ k=>simp[Hof]at h
 ·obtain⟨k,hk,rfl⟩:=hdm id x hx;exact⟨k,hk,rfl⟩
 ·have him:∀id x,ι1 id=some x->ι id=some x:=fun id x h=>by
   obtain⟨k,hk,_⟩:=g5 id x h;simp at hk
  cases r with
  |ret v=>obtain⟨x,he,hR⟩:=g6;exact⟨x,he,R.ev (Ev.refl _ _) (fun _ h=>h) him hR⟩
  |pan v=>obtain⟨x,he,hR⟩:=g6;exact⟨x,he,R.ev (Ev.refl _ _) (fun _ h=>h) him hR⟩
theorem AC {a n:Int} (hn:0<n) (hn2:n<=4611686018427387904) (ha: -9223372036854775808<=a/\a<=9223372036854775807):b9 C 103 [i64 a,i64 n] [] (.ret (i64 (a%n))) []:=by
 refine Sl.c ?_;have h1: -n<a.tmod n:=Int.lt_tmod_of_pos a hn;have h2:a.tmod n<n:=Int.tmod_lt_of_pos a hn;refine⟨by omega,?_⟩;refine d9 (fun h=> ?_) (fun h=> ?_)
 ·refine⟨_,rfl,[],f8 ?_,tq⟩;rw[Zd _ (by omega)];rw[<-fo a n hn,Z3 (a:=a.tmod n+n) (by omega),Int.emod_eq_of_lt (by omega) (by omega)]
 ·refine⟨_,rfl,[],f8 ?_,tq⟩;rw[<-fo a n hn,Z3 (a:=a.tmod n+n) (by omega),Int.add_emod_right,Int.emod_eq_of_lt (by omega) (by omega)]
theorem ZU {x:Cl} (h:x.kind=3):t3 .nw x=([],6)/\w7 .nw x= .nw:=by
 unfold t3 w7;rw[if_neg (by omega),if_neg (by omega),if_pos h,if_neg (by omega),if_neg (by omega),if_pos h];exact⟨rfl,rfl⟩
theorem ZT {x:Cl} (σ:CX) (h1:x.kind≠1) (h2:x.kind≠2) (h3:x.kind≠3) (h4:x.kind≠4):t3 σ x=([],1)/\w7 σ x=σ:=by
 unfold t3 w7;rw[if_neg h1,if_neg h2,if_neg h3,if_neg h4,if_neg h1,if_neg h2,if_neg h3,if_neg h4];exact⟨rfl,rfl⟩
def jt (kind:Int):Cl:=⟨kind,⟨0,0,0,false,[],[]⟩,[]⟩
theorem a38:b9 C 43 [] [] (.ret (bool true)) []:=by
 have R0:=Al (l:=[]) (n:=0) rfl (by simp) (by omega);have ok:∀k:Int,(-9223372036854775808<=k/\k<=9223372036854775807)->iZ (jt k):=fun k hk=>⟨hk,Zk _,Zk _,Zk _⟩;have R2:=Al (l:=[jt 3,jt 9]) (n:=2) rfl (by
  intro x hx;rcases Ja.1 hx with rfl|hx
  ·exact ok 3 (by omega)
  ·rcases Ja.1 hx with rfl|hx
   ·exact ok 9 (by omega)
   ·simp at hx) (by omega)
 have e:(L8 .nw [jt 3,jt 9]).flatMap S5=[.z 0 (bv []),i64 6,i64 0,.z 0 (bv []),i64 1,i64 0]:=by
  obtain⟨o1,s1⟩:=ZU (x:=jt 3) rfl;obtain⟨o2,s2⟩:=ZT (x:=jt 9) .nw (show (9:Int)≠1 by decide) (show (9:Int)≠2 by decide) (show (9:Int)≠3 by decide) (show (9:Int)≠4 by decide);unfold L8 L8 L8 ca;rw[s1,o1,o2,s2];rfl
 rw[e]at R2;have R2:=R2.argz (xs:=[i64 3,i64 0,i64 0,i64 0,bool false,g9,g9,g9,i64 9,i64 0,i64 0,i64 0,bool false,g9,g9,g9]) (.cons (.refl _) (.cons (.refl _) (.cons (.refl _) (.cons (.refl _) (.cons (.refl _) (.cons .nl (.cons .nl (.cons .nl (.cons (.refl _) (.cons (.refl _) (.cons (.refl _) (.cons (.refl _) (.cons (.refl _) (.cons .nl (.cons .nl (.cons .nl .nil))))))))))))))));refine Sk.c ?_;refine⟨[.d 4 0],_,_,_,_,b9.lentS (us:=[.int .i64 3,.int .i64 0,.int .i64 0,.int .i64 0,.bool false,.slice none 0 0,.slice none 0 0,.slice none 0 0,.int .i64 9,.int .i64 0,.int .i64 0,.int .i64 0,.bool false,.slice none 0 0,.slice none 0 0,.slice none 0 0]) R2 rfl,rfl,rfl,?_⟩;refine⟨[],_,_,_,_,(b9.args R0 (ys0:=[g9]) (.cons .nlz .nil)),rfl,rfl,?_⟩;refine⟨by omega,by omega,_,rfl,?_⟩;refine⟨by omega,by omega,_,rfl,?_⟩;exact⟨_,rfl,[],rfl,tq⟩
structure RawL where
 kind:Int
 tag:Int
 n:Int
 mode:Int
 pad:Int
 back:Bool
 key:Bs
 iv:Bs
 inp:Bs
 ct:Int
 cm:Int
 cp:Int
 cb:Bool
abbrev rwV (x:RawL):List V:=[i64 x.kind,i64 x.tag,i64 x.n,i64 x.mode,i64 x.pad,bool x.back,.z x.key.length (bv x.key),.z x.iv.length (bv x.iv),.z x.inp.length (bv x.inp),i64 x.ct,i64 x.cm,i64 x.cp,bool x.cb]
def RawOk (x:RawL):Prop:=aS x.kind/\aS x.tag/\aS x.n/\aS x.mode/\aS x.pad
def nk (x:RawL):Prop:=(x.key.length<=100/\x.iv.length<=100)/\x.inp.length<=60
theorem oh {α β:Type} {f:α->List β} {e:Nat} (hf:∀x,(f x).length=e) (l:List α) (i:Nat) (h:i<l.length) (k m:Nat) (hk:k+m<=e):sub (l.flatMap f) (i*e+k) m=sub (f l[i]) k m:=by
 have h0:=qV hf l i h;rw[<-h0];unfold sub;rw[List.drop_take,Z2,Z7,Z5 (by omega)]
theorem lQ {α β:Type} {f:α->List β} {e:Nat} (hf:∀x,(f x).length=e) (l:List α) (i:Nat) (h:i<l.length) (k:Nat) (hk:k<e):(l.flatMap f)[i*e+k]? =(f l[i])[k]? :=by
 have h0:=congrArg (fun z:List β=>z[0]?) (oh hf l i h k 1 (by omega));unfold sub at h0;simpa using h0
theorem Cg {α:Type} {p:α->Prop}:∀(l:List α),¬(∀x∈l,p x)->∃(m:Nat) (h:m<l.length),¬p l[m]/\∀(j:Nat) (hj:j<m),p (l[j]'(Nat.lt_trans hj h))
 |[],h=>absurd (by simp) h
 |x::r,h=>by
  by_cases hx:p x
  ·obtain⟨m,hm,h1,h2⟩:=Cg r (fun hr=>h (by
    intro y hy;rcases Ja.1 hy with rfl|hy
    ·exact hx
    ·exact hr y hy))
   refine⟨m+1,by simpa using hm,by simpa using h1,fun j hj=> ?_⟩;cases j with
   |zero=>exact hx
   |succ j=>exact h2 j (by omega)
  ·exact⟨0,by simp,hx,fun j hj=>absurd hj (by omega)⟩
theorem a37 {l:List RawL} {n:Nat} (hn:l.length=n) (hb:n<=9223372036854775807) (hf:∀x∈l,nk x):b9 C 44 [.zz 13 n (l.flatMap rwV)] [] (.ret (bool true)) []:=by
 subst hn;refine Bx.c ?_;refine m9 (fun i=>⟨[(0,.zz 13 l.length (l.flatMap rwV)),(3,i64 i)],[]⟩) l.length ⟨[],⟨rfl,rfl,tq⟩,tq⟩ fun i hi=> ?_;refine d9 (fun d8=> ?_) (fun hge=> ?_)
 ·have hl:i<l.length:=by omega
  have hF:=hf l[i] (Zp hl);have e1:sub (l.flatMap rwV) (((i:Nat):Int).toNat*13+1) 7=sub (rwV l[i]) 1 7:=by rw[Zb];exact oh (f:=rwV) (e:=13) (fun _=>rfl) l i hl 1 7 (by decide)
  have e8:(l.flatMap rwV)[((i:Nat):Int).toNat*13+8]? =(rwV l[i])[8]? :=by rw[Zb];exact lQ (f:=rwV) (e:=13) (fun _=>rfl) l i hl 8 (by decide)
  refine⟨by omega,by omega,?_⟩;refine⟨_,e1,rfl,?_⟩;refine⟨[],_,_,_,_,zI (tag:=l[i].tag) (n:=l[i].n) (mode:=l[i].mode) (pad:=l[i].pad) (back:=l[i].back) (k:=l[i].key) (iv:=l[i].iv) hF.1,rfl,rfl,?_⟩;refine⟨by omega,by omega,?_⟩;refine⟨_,e8,?_⟩;refine d9 (fun hh=>absurd hh (by have:=hF.2;omega)) (fun _=> ?_);exact⟨i+1,by omega,by omega,[],⟨rfl,f8 (by simp(disch:=omega)only[Zd];omega),tq⟩,tq⟩
 ·exact⟨_,rfl,[],rfl,tq⟩
theorem a36 {l:List RawL} {n:Nat} (hn:l.length=n) (hb:n<=9223372036854775807) (hf:¬∀x∈l,nk x):b9 C 44 [.zz 13 n (l.flatMap rwV)] [] (.ret (bool false)) []:=by
 subst hn;obtain⟨m,hm,hm1,hm2⟩:=Cg l hf;refine Bx.c ?_;refine m9 (fun i=>⟨[(0,.zz 13 l.length (l.flatMap rwV)),(3,i64 i)],[]⟩) m ⟨[],⟨rfl,rfl,tq⟩,tq⟩ fun i hi=> ?_;have hl:i<l.length:=by omega
 have e1:sub (l.flatMap rwV) (((i:Nat):Int).toNat*13+1) 7=sub (rwV l[i]) 1 7:=by rw[Zb];exact oh (f:=rwV) (e:=13) (fun _=>rfl) l i hl 1 7 (by decide)
 have e8:(l.flatMap rwV)[((i:Nat):Int).toNat*13+8]? =(rwV l[i])[8]? :=by rw[Zb];exact lQ (f:=rwV) (e:=13) (fun _=>rfl) l i hl 8 (by decide)
 refine d9 (fun d8=> ?_) (fun hge=>absurd (by omega) hge);refine⟨by omega,by omega,?_⟩;refine⟨_,e1,rfl,?_⟩;by_cases h1:l[i].key.length<=100/\l[i].iv.length<=100
 ·refine⟨[],_,_,_,_,zI (tag:=l[i].tag) (n:=l[i].n) (mode:=l[i].mode) (pad:=l[i].pad) (back:=l[i].back) (k:=l[i].key) (iv:=l[i].iv) h1,rfl,rfl,?_⟩;refine⟨by omega,by omega,?_⟩;refine⟨_,e8,?_⟩;refine d9 (fun hh=> ?_) (fun hh=> ?_)
  ·exact⟨_,rfl,[],rfl,tq⟩
  ·have hF:nk l[i]:=⟨h1,by omega⟩;have hne:i≠m:=fun e=>by subst e;exact hm1 hF
   exact⟨i+1,by omega,by omega,[],⟨rfl,f8 (by simp(disch:=omega)only[Zd];omega),tq⟩,tq⟩
 ·refine⟨[],_,_,_,_,LF (tag:=l[i].tag) (n:=l[i].n) (mode:=l[i].mode) (pad:=l[i].pad) (back:=l[i].back) (k:=l[i].key) (iv:=l[i].iv) h1,rfl,rfl,?_⟩;exact⟨_,rfl,[],rfl,tq⟩
def iw:List Int:=[1,2,2,2,2,2,3,3,4,1,0,5]
def fa (x:RawL):Int:=if iw.getD (x.kind%12).toNat 0=0 then (if 1<=x.kind/\x.kind<=4 then 7 else x.kind)else iw.getD (x.kind%12).toNat 0
noncomputable def ir (x:RawL):Cf:=if (x.kind.tdiv 12)%9=0 then ⟨x.ct,x.cm,x.cp,x.cb,ba (D1 x.tag) x.n x.key,aY (K5 x.mode) (q9 (D1 x.tag)).toNat x.iv⟩else ⟨D1 x.tag,K5 x.mode,du x.mode x.pad,x.back,ba (D1 x.tag) x.n x.key,aY (K5 x.mode) (q9 (D1 x.tag)).toNat x.iv⟩
noncomputable def dM (x:RawL):Cl:=⟨fa x,ir x,x.inp⟩
noncomputable abbrev iu (l:List RawL):List Cl:=(l.take 25).map dM
theorem AN {H:Hp} {d7:List Id} {n:Nat}:∀(l:List Cl),(l.flatMap E0).map (p5 H d7 (n+1))=l.flatMap E0
 |[]=>rfl
 |x::r=>by rw[Zs,Z0,AN r];rfl
theorem AO {H:Hp} {d7:List Id} {n:Nat}:∀(l:List Cl),(l.flatMap E0).map (F7 H d7 (n+1))=l.flatMap E0
 |[]=>rfl
 |x::r=>by rw[Zs,Z0,AO r];rfl
theorem z3 (l:Bs):V.z (0+l.length) (sub (sub ([]:List Value) 0 (0*1)++bv l) 0 (0+l.length))=V.z l.length (bv l):=by
 rw[Z4,show sub ([]:List Value) 0 (0*1)++bv l=bv l from rfl,g8 rfl]
theorem Xk (j:Nat) (h:j<12):([.int .i64 1,.int .i64 2,.int .i64 2,.int .i64 2,.int .i64 2,.int .i64 2,.int .i64 3,.int .i64 3,.int .i64 4,.int .i64 1,.int .i64 0,.int .i64 5]:List Value)[j]? =some (.int .i64 (iw.getD j 0)):=by
 rcases j with _|_|_|_|_|_|_|_|_|_|_|_|j<;>first|rfl|omega
theorem a1X {x:Int} (h:aS x):I6.wrap (x.tdiv 12)=x.tdiv 12/\(-9223372036854775808<=I6.wrap (x.tdiv 12)/\I6.wrap (x.tdiv 12)<=9223372036854775807):=by
 unfold aS at h;have e:I6.wrap (x.tdiv 12)=x.tdiv 12:=Zd _ (by
  have h1:(x.tdiv 12).natAbs=x.natAbs/12:=Int.natAbs_tdiv x 12;omega)
 exact⟨e,by rw[IntKind.wrap_i64];omega⟩
set_option maxHeartbeats 4000000 in
theorem a39 {l:List RawL} {n:Nat} (hn:l.length=n) (hb:n<=9223372036854775807) (hr:∀x∈l,RawOk x) (hf:∀x∈l,nk x):
  b9 C 45 [.zz 13 n (l.flatMap rwV)] [] (.ret (.t [.zz 8 (iu l).length ((iu l).flatMap E0),.zz 8 (iu l).length ((iu l).flatMap E0)])) []:=by
 subst hn;obtain⟨N0,hN0⟩:∃N0,N0=min l.length 25:=⟨_,rfl⟩;have hml:(iu l).length=N0:=by rw[Z6,Ze,hN0,Nat.min_comm]
 have hmt:(l.take N0).map dM=iu l:=by
  have:l.take N0=l.take 25:=by rw[hN0,Nat.min_comm,<-Z7,Zy]
  rw[this]
 obtain⟨cs,hcs⟩:∃cs:Nat->List V,cs=fun i=>((l.take i).map dM).flatMap E0:=⟨_,rfl⟩;have hcl:∀i,i<=l.length->(cs i).length=i*8:=fun i hi=>by rw[hcs];show(((l.take i).map dM).flatMap E0).length=_;rw[qU (e:=8) (fun _=>rfl),Z6,Ze,Z5 hi]
 have hcn:∀i (hi:i<l.length),cs (i+1)=cs i++E0 (dM l[i]):=fun i hi=>by
  rw[hcs];show((l.take (i+1)).map dM).flatMap E0=_;rw[Zx,Zo hi,Zu,Z0,Z1];rfl
 have hcd:∀i (H:Hp) (d7:List Id) (k:Nat),(cs i).map (p5 H d7 (k+1))=cs i:=fun i H d7 k=>by rw[hcs];exact AN _
 have hcp:∀i (H:Hp) (d7:List Id) (k:Nat),(cs i).map (F7 H d7 (k+1))=cs i:=fun i H d7 k=>by rw[hcs];exact AO _
 refine Sj.c ?_;refine E9 (fun i=>⟨[(0,.zz 13 l.length (l.flatMap rwV)),(4,.o 8 (.k 0) 0 i),(5,.o 8 (.k 1) 0 i),(6,i64 i)],[.mx (cs i),.pl (cs i)]⟩) N0 [(4,8,.mx []),(5,8,.pl [])] ⟨[.d 900000 0,.d 900000 1],⟨rfl,rfl,rfl,rfl,tq⟩,⟨_,rfl,by rw[hcs];rfl⟩,⟨_,rfl,by rw[hcs];rfl⟩,tq⟩ fun i hi=> ?_;refine d9 (fun d8=> ?_) (fun hge=> ?_)
 ·refine d9 (fun h25=> ?_) (fun h25=> ?_)
  ·have hl:i<l.length:=by omega
   obtain⟨r0,r1,r2,r3,r4⟩:=hr l[i] (Zp hl);obtain⟨f1,f2⟩:=hf l[i] (Zp hl);have e0:(l.flatMap rwV)[((i:Nat):Int).toNat*13+0]? =(rwV l[i])[0]? :=by rw[Zb];exact lQ (f:=rwV) (e:=13) (fun _=>rfl) l i hl 0 (by decide)
   have e8:(l.flatMap rwV)[((i:Nat):Int).toNat*13+8]? =(rwV l[i])[8]? :=by rw[Zb];exact lQ (f:=rwV) (e:=13) (fun _=>rfl) l i hl 8 (by decide)
   have e1:sub (l.flatMap rwV) (((i:Nat):Int).toNat*13+1) 7=sub (rwV l[i]) 1 7:=by rw[Zb];exact oh (f:=rwV) (e:=13) (fun _=>rfl) l i hl 1 7 (by decide)
   have e9:sub (l.flatMap rwV) (((i:Nat):Int).toNat*13+9) 4=sub (rwV l[i]) 9 4:=by rw[Zb];exact oh (f:=rwV) (e:=13) (fun _=>rfl) l i hl 9 4 (by decide)
   have hcl0:=hcl i (by omega);have hcn0:=hcn i hl;have hmC:dM l[i]=⟨fa l[i],ir l[i],l[i].inp⟩:=rfl;have hmK:fa l[i]=if iw.getD (l[i].kind%12).toNat 0=0 then (if 1<=l[i].kind/\l[i].kind<=4 then 7 else l[i].kind)else iw.getD (l[i].kind%12).toNat 0:=rfl;have hmF:ir l[i]=if (l[i].kind.tdiv 12)%9=0 then ⟨l[i].ct,l[i].cm,l[i].cp,l[i].cb,ba (D1 l[i].tag) l[i].n l[i].key,aY (K5 l[i].mode) (q9 (D1 l[i].tag)).toNat l[i].iv⟩else ⟨D1 l[i].tag,K5 l[i].mode,du l[i].mode l[i].pad,l[i].back,ba (D1 l[i].tag) l[i].n l[i].key,aY (K5 l[i].mode) (q9 (D1 l[i].tag)).toNat l[i].iv⟩:=rfl;rw[hmC]at hcn0;obtain⟨s,q,xs,rs,h⟩:=yR l[i].tag l[i].n l[i].key;have hs:=h.s_le;have hM:=IT (back:=l[i].back) r1 r2 r3 r4 (rfl:l[i].key.length=_) (rfl:l[i].iv.length=_) h.hs hs.2;have lK:=we (D1 l[i].tag) l[i].n l[i].key;have lV:=vZ (K5 l[i].mode) s l[i].iv;have hkl:=wd (jS l[i].tag) l[i].n;have es:(q9 (D1 l[i].tag)).toNat=s:=by rw[h.hs];rfl
   rw[es]at hmF;rw[<-lK,<-lV]at hM;have hKb:(ba (D1 l[i].tag) l[i].n l[i].key).length<=1000:=by omega
   have hVb:(aY (K5 l[i].mode) s l[i].iv).length<=1000:=by rw[lV];unfold ic;split<;>omega
   clear hcs hmC lK lV;generalize hrw:l.flatMap rwV=rw0 at*
   generalize hx:l[i]=x at*
   generalize ba (D1 x.tag) x.n x.key=K at*
   generalize aY (K5 x.mode) s x.iv=W at*
   have m0:=Int.emod_nonneg x.kind (show (12:Int)≠0 by decide);have m12:=Int.emod_lt_of_pos x.kind (show (0:Int)<12 by decide);obtain⟨ew,wb⟩:=a1X r0;have b1:(0:Int)<=(i:Int):=Int.natCast_nonneg i;have c1:0+K.length<=1073741824:=by omega
   have c2:0+W.length<=1073741824:=by omega
   have c3:0+x.inp.length<=1073741824:=by omega
   have c4:i+1<=1073741824:=by omega
   have c5:0+i*8<=(cs i).length:=by omega
   have c6:i+1<=N0:=by omega
   have c7:N0-(i+1)<N0-i:=by omega
   have c8:I6.wrap ((i:Int)+1)=((i+1:Nat):Int):=by rw[Zd _ (by omega)];omega
   refine⟨b1,d8,?_⟩;refine⟨_,e0,?_⟩;refine⟨[],_,_,_,_,AC (n:=12) (by omega) (by omega) r0,rfl,rfl,?_⟩;refine⟨m0,m12,?_⟩;obtain⟨tv,htv⟩:∃tv,iw.getD (x.kind%12).toNat 0=tv:=⟨_,rfl⟩;rw[htv]at hmK;refine⟨.int .i64 tv,by rw[Z4,Zi,<-htv];exact Xk _ (by omega),?_⟩;refine⟨b1,d8,?_⟩;refine⟨_,e8,?_⟩;refine⟨Za rfl,?_⟩;refine⟨b1,d8,?_⟩;refine⟨_,e1,rfl,?_⟩;refine⟨[],_,_,_,_,hM,rfl,rfl,?_⟩;refine⟨Za rfl,?_⟩;refine⟨Za rfl,?_⟩;refine⟨Za rfl,?_⟩;refine⟨b1,d8,?_⟩;refine⟨_,e0,?_⟩;refine⟨by decide,?_⟩;refine⟨[],_,_,_,_,AC (n:=9) (by omega) (by omega) wb,rfl,rfl,?_⟩;have F2:(x.kind.tdiv 12%9=0/\ir x=⟨x.ct,x.cm,x.cp,x.cb,K,W⟩)\/(¬x.kind.tdiv 12%9=0/\ir x=⟨D1 x.tag,K5 x.mode,du x.mode x.pad,x.back,K,W⟩):=by
    by_cases h:x.kind.tdiv 12%9=0
    ·exact .inl ⟨h,hmF.trans (if_pos h)⟩
    ·exact .inr ⟨h,hmF.trans (if_neg h)⟩
   have K4:(tv≠0/\fa x=tv)\/(tv=0/\1<=x.kind/\x.kind<=4/\fa x=7)\/(tv=0/\1<=x.kind/\¬x.kind<=4/\fa x=x.kind)\/(tv=0/\¬1<=x.kind/\fa x=x.kind):=by
    by_cases h0:tv=0
    ·rw[if_pos h0]at hmK;by_cases h1:1<=x.kind
     ·by_cases h2:x.kind<=4
      ·exact .inr (.inl ⟨h0,h1,h2,hmK.trans (if_pos ⟨h1,h2⟩)⟩)
      ·exact .inr (.inr (.inl ⟨h0,h1,h2,hmK.trans (if_neg (fun hh=>h2 hh.2))⟩))
     ·exact .inr (.inr (.inr ⟨h0,h1,hmK.trans (if_neg (fun hh=>h1 hh.1))⟩))
    ·exact .inl ⟨h0,hmK.trans (if_neg h0)⟩
   clear hmK hmF hkl htv r0 r1 r2 r3 r4 f1 f2 hr hf hcl hcn hcp hb hN0 hml hmt;rw[<-ew]at F2;rcases F2 with ⟨h9,hF⟩|⟨h9,hF⟩<;>rcases K4 with ⟨h0,hK⟩|⟨h0,h1,h2,hK⟩|⟨h0,h1,h2,hK⟩|⟨h0,h1,hK⟩;all_goals
    rw[hF,hK]at hcn0;first
     |refine i7 (fun _=> ?_) (fun hh=>absurd h9 hh)
      refine⟨b1,d8,?_⟩;refine⟨_,e9,rfl,?_⟩;refine⟨Za rfl,?_⟩
     |refine i7 (fun hh=>absurd hh h9) (fun _=> ?_)
    refine⟨_,rfl,?_⟩;first
     |refine i7 (fun hh=>absurd hh h0) (fun _=> ?_)
     |refine i7 (fun _=> ?_) (fun hh=>absurd h0 hh)
      refine⟨b1,d8,?_⟩;refine⟨_,e0,?_⟩;refine⟨Za rfl,?_⟩;refine⟨_,rfl,?_⟩;first
       |refine d9 (fun _=> ?_) (fun hh=>absurd h1 hh)
        refine⟨_,rfl,?_⟩;first
         |refine d9 (fun _=> ?_) (fun hh=>absurd h2 hh)
          refine⟨Za rfl,?_⟩
         |refine d9 (fun hh=>absurd hh h2) (fun _=> ?_)
       |refine d9 (fun hh=>absurd hh h1) (fun _=> ?_)
    refine⟨_,rfl,?_⟩;refine⟨_,rfl,rfl,?_⟩;refine⟨_,rfl,?_⟩;refine⟨j6 _,c1,Zn _,?_⟩;refine⟨_,rfl,?_⟩;refine⟨j6 _,c2,Zn _,?_⟩;refine⟨_,rfl,?_⟩;refine⟨j6 _,c3,Zn _,?_⟩;refine⟨Za rfl,c4,c5,?_⟩;refine⟨_,rfl,rfl,?_⟩;refine⟨Za rfl,c4,c5,?_⟩;refine⟨i+1,c6,c7,[.d 97 0,.d 101 0],⟨rfl,rfl,rfl,f8 c8,tq⟩,⟨_,rfl,congrArg B.mx ?_⟩,⟨_,rfl,congrArg B.pl ?_⟩,tq⟩
    ·rw[Z0,C3 hcl0,hcd,hcn0];refine congrArg (cs i++ ·) ?_;show[_,_,_,_,_,V.z (0+K.length) _,V.z (0+W.length) _,V.z (0+x.inp.length) _]=_;rw[z3,z3,z3];rfl
    ·rw[C3 hcl0,hcn0];rfl
  ·have he:i=N0:=by omega
   subst he;refine⟨_,rfl,[],?_,tq⟩;show V.t [V.zz 8 i ((sub (cs i) 0 (i*8)).map _),V.zz 8 i (sub (cs i) 0 (i*8))]=_;rw[C3 (hcl i (by omega)),hcp,hml,hcs];show V.t [V.zz 8 i (((l.take i).map dM).flatMap E0),V.zz 8 i (((l.take i).map dM).flatMap E0)]=_;rw[hmt]
 ·have he:i=N0:=by omega
  subst he;refine⟨_,rfl,[],?_,tq⟩;show V.t [V.zz 8 i ((sub (cs i) 0 (i*8)).map _),V.zz 8 i (sub (cs i) 0 (i*8))]=_;rw[C3 (hcl i (by omega)),hcp,hml,hcs];show V.t [V.zz 8 i (((l.take i).map dM).flatMap E0),V.zz 8 i (((l.take i).map dM).flatMap E0)]=_;rw[hmt]
theorem a4f {l:List RawL} (hf:∀x∈l,nk x) (hr:∀x∈l,RawOk x):∀x∈iu l,iZ x:=by
 intro y hy;obtain⟨x,hx,rfl⟩:=List.mem_map.1 hy;have hx:=List.mem_of_mem_take hx;obtain⟨r0,_⟩:=hr x hx;obtain⟨_,f2⟩:=hf x hx;have hK:(ir x).key.length<=1000/\(ir x).iv.length<=1000:=by
  have lK:=we (D1 x.tag) x.n x.key;have hkl:=wd (jS x.tag) x.n;have lV:=vZ (K5 x.mode) (q9 (D1 x.tag)).toNat x.iv;obtain⟨s,q,xs,rs,h⟩:=yR x.tag x.n x.key;have hs:=h.s_le;have es:(q9 (D1 x.tag)).toNat=s:=by rw[h.hs];rfl
  have hV:ic (K5 x.mode) (q9 (D1 x.tag)).toNat<=1000:=by rw[es];unfold ic;split<;>omega
  unfold ir;split
  ·exact⟨by show(ba _ _ _).length<=_;omega,by show(aY _ _ _).length<=_;omega⟩
  ·exact⟨by show(ba _ _ _).length<=_;omega,by show(aY _ _ _).length<=_;omega⟩
 refine⟨?_,hK.1,hK.2,Zl f2 (by decide)⟩;show -9223372036854775808<=fa x/\fa x<=9223372036854775807;unfold aS at r0;unfold fa;have m0:=Int.emod_nonneg x.kind (show (12:Int)≠0 by decide);have m12:=Int.emod_lt_of_pos x.kind (show (0:Int)<12 by decide);have ht:∀j:Nat,j<12->0<=iw.getD j 0/\iw.getD j 0<=5:=by
  intro j hj;rcases j with _|_|_|_|_|_|_|_|_|_|_|_|j<;>first|exact⟨by decide,by decide⟩|omega
 have:=ht (x.kind%12).toNat (by omega);split
 ·split<;>omega
 ·omega
theorem a4e (l:List RawL):(iu l).length<=25:=by rw[Z6,Ze];omega
theorem a4k {ts:List To} {i:Nat} (h:i<ts.length) (k:Nat) (hk:k<3) {j:Nat} (hj:j=i*3+k):(ts.flatMap S5)[j]? =(S5 ts[i])[k]? :=by
 subst hj;exact lQ (f:=S5) (e:=3) (fun _=>rfl) ts i h k hk
theorem a4h {l:List Cl} {i:Nat} (h:i<l.length) (h':i<(L8 .nw l).length):(L8 .nw l)[i]=ca (G6 .nw (l.take i)) l[i]:=by
 have e:l=l.take i++(l[i]::l.drop (i+1)):=by rw[<-List.drop_eq_getElem_cons h,List.take_append_drop]
 have e2:L8 .nw l=L8 .nw (l.take i)++(ca (G6 .nw (l.take i)) l[i]::L8 (w7 (G6 .nw (l.take i)) l[i]) (l.drop (i+1))):=by
  have:=xf (l.take i) (l[i]::l.drop (i+1)) .nw;rw[<-e]at this;exact this
 have hl:(L8 .nw (l.take i)).length=i:=by rw[xi,Ze];omega
 simp only[e2];rw[List.getElem_append_right (by omega)];simp[hl]
theorem mR {l:List V} {j:Nat} {x:Cl} (h:sub l (j*8) 8=E0 x):sub l (j*8+1) 4=[i64 x.c.t,i64 x.c.mode,i64 x.c.pad,bool x.c.back]:=by
 have h1:sub l (j*8+1) 4=sub (sub l (j*8) 8) 1 4:=by
  unfold sub;rw[List.drop_take,Z2,Z7];rfl
 rw[h1,h];rfl
theorem Ep (E mode back):∀(l m:Bs) (x),L7 E mode back x (l++m)=L7 E mode back (L7 E mode back x l) m
 |[],_,_=>rfl
 |p::l,m,x=>Ep E mode back l m (P9 E mode back x p)
abbrev cX (t:Int) (key:Bs) (s:Nat) (mode:Int) (back:Bool) (iv M:Bs):MS×Bs×Nat:=L7 (cF t key false) mode back (⟨iv,[],[]⟩,[],0) M
theorem vM {s:Nat} {mode pad:Int} {back:Bool} {L:Nat} (h3:3<=j4 mode):C5 s mode pad back L=L:=by
 have g1:r8 s (j4 mode)=1:=if_neg (by omega);unfold C5 F9 B8;rw[g1,if_pos h3];simp
theorem Iy {t key s} {mode pad:Int} {back:Bool} {iv M:Bs} (h3:3<=j4 mode):(cX t key s (j4 mode) back iv M).1=cS t key s mode pad back iv M:=by
 rw[wU];unfold cS M4 k9;rw[if_neg (by omega),vM h3,Zy]
theorem Iz {t key s k xs rs} (h:k5 t key s k xs rs) {mode pad:Int} {back:Bool} {iv M:Bs} (ok:D5 s mode pad iv) (h3:3<=j4 mode):bF s (j4 mode) (cX t key s (j4 mode) back iv M):=by
 have hs:=h.s_le;refine wV h.ci (by omega) h3 M ?_ bF.new;exact wy (ag ok).1 (ag ok).2
theorem ug {s:Nat} {mode pad:Int} {back:Bool} {M:Bs} (h3:3<=j4 mode):o8 s mode pad back M=[]:=by
 unfold o8;rw[vM h3,List.drop_length]
abbrev aL (a t mode pad:Int) (back:Bool) (key iv:Bs) (rs:List V) (L a9:Bs):B:= .mx [i64 a,i64 t,i64 mode,i64 pad,bool back,.z key.length (bv key),.z iv.length (bv iv),.q rs 0,.p (.k 1) 0,.z L.length (bv L),.z a9.length (bv a9)]
abbrev iL (t mode pad:Int) (back:Bool) (key iv:Bs) (rs:List V):B:= .mx [i64 2,i64 t,i64 mode,i64 pad,bool back,.z key.length (bv key),.z iv.length (bv iv),.q rs 0,.u,g9,.u]
abbrev cU (rs:List V) (mode:Int) (back:Bool) (ch:Bs):B:= .mx [.q rs 0,i64 mode,bool back,.z ch.length (bv ch),.z 0 [],i64 0,.u]
abbrev Em:List V:=[i64 0,i64 0,i64 0,i64 0,bool false,g9,g9,j8,j8,g9,g9]
abbrev El:B:= .mx Em
def Hl (X:B):Prop:=X=El\/(∃(a t m p:Int) (b:Bool) (n5 n6 n9 n10:Nat) (l5 l6 l9 l10:List Value) (r:List V),X= .mx [i64 a,i64 t,i64 m,i64 p,bool b,.z n5 l5,.z n6 l6,.q r 0,.u,.z n9 l9,.z n10 l10])\/(∃(a t m p:Int) (b:Bool) (n5 n6:Nat) (l5 l6:List Value) (r:List V),X= .mx [i64 a,i64 t,i64 m,i64 p,bool b,.z n5 l5,.z n6 l6,.q r 0,.u,g9,.u])
theorem fI {v0 v1 v2 v3 v4 v5 v6 v7 v8 v10:V} {n:Nat} {vl:List Value}:b9 C 41 [.q [v0,v1,v2,v3,v4,v5,v6,v7,v8,.z n vl,v10] 0] [] (.ret (i64 n)) []:=by
 refine BE.c ?_;refine⟨_,rfl,?_⟩;exact⟨_,rfl,[],rfl,tq⟩
theorem eI {v0 v1 v2 v3 v4 v5 v6 v7 v8 v10:V}:b9 C 41 [.q [v0,v1,v2,v3,v4,v5,v6,v7,v8,g9,v10] 0] [] (.ret (i64 0)) []:=by
 refine BE.c ?_;refine⟨_,rfl,?_⟩;exact⟨_,rfl,[],rfl,tq⟩
theorem Oh {t key s k xs rs} (h:k5 t key s k xs rs) {mode pad md:Int} {back:Bool} {v0 v1 v5 v6 v8 v9 v10:V} (h2:md<=2):
  b9 C 101 [.q [v0,v1,i64 mode,i64 pad,bool back,v5,v6,.q rs 0,v8,v9,v10] 0] [] (.ret (i64 (B8 s md mode pad back))) []:=by
 have hs:=h.s_le;unfold B8;rw[if_neg (by omega)];refine Tj.c ?_;refine⟨_,rfl,?_⟩;refine⟨[],_,_,_,_,h.rsize,rfl,rfl,?_⟩;refine⟨_,rfl,?_⟩;refine d9 (fun h7=> ?_) (fun h7=> ?_)
 ·have h7:7<=mode:=h7;rw[if_pos h7];exact⟨_,rfl,[],f8 (by rw[Zd _ (by omega)];omega),tq⟩
 ·have h7:¬7<=mode:=h7;rw[if_neg h7];refine⟨_,rfl,?_⟩;refine p6 (fun h4=> ?_) (fun h4=> ?_)
  ·refine⟨_,rfl,?_⟩;cases back
   ·rw[if_neg (by simp)];exact⟨_,rfl,[],f8 (by rw[Zd _ (by omega)];omega),tq⟩
   ·rw[if_pos ⟨h4,rfl⟩];exact⟨_,rfl,[],rfl,tq⟩
  ·rw[if_neg (fun hh=>hh.1 h4)];exact⟨_,rfl,[],f8 (by rw[Zd _ (by omega)];omega),tq⟩
theorem qb {t key s k xs rs} (h:k5 t key s k xs rs) {mode pad:Int} {back:Bool} {lk li:Nat} {iv:Bs} {vk vi:List Value} {v0 v7 v8 v9 v10:V} (hvk:vk=bv key) (hvi:vi=bv iv) (hk:key.length=lk) (hi:iv.length=li) (ok:D5 s mode pad iv):
  b9 C 100 [.p (.k 0) 0] [.mx [v0,i64 t,i64 mode,i64 pad,bool back,.z lk vk,.z li vi,v7,v8,v9,v10]] (.ret (.t []))
   [aL 1 t mode pad back key iv rs [] iv,C9 rs (j4 mode) back (⟨iv,[],[]⟩,[],0) 2,.dead]:=by
 have hs:=h.s_le;obtain⟨m1,hiv⟩:=ag ok;subst hvk;subst hvi;subst hk;subst hi;have T0:=MI h (mode:=j4 mode) (back:=back) (i:=1) (vi:=bv iv) (iv:=iv) rfl rfl m1 hiv;refine Ti.w ?_;refine⟨_,rfl,?_⟩;refine⟨_,rfl,?_⟩;refine⟨[],_,_,_,_,h.rnew,rfl,rfl,?_⟩;refine⟨Za rfl,?_⟩;refine⟨_,rfl,?_⟩;refine d9 (fun h7=> ?_) (fun h7=> ?_);all_goals
  first
   |rw[show j4 mode=2 from if_pos h7]at T0 ⊢
   |rw[show j4 mode=mode from if_neg h7]at T0 ⊢
  refine⟨_,rfl,?_⟩;refine⟨_,rfl,?_⟩;refine⟨_,rfl,?_⟩;refine⟨[],_,_,_,_,T0,rfl,rfl,?_⟩;refine⟨Za rfl,?_⟩;refine⟨_,rfl,?_⟩;refine⟨Za rfl,?_⟩;refine⟨Za rfl,?_⟩;refine⟨Za rfl,?_⟩;refine⟨_,[_,_,_],⟨_,rfl,[.k 0,.d 42 0,.d 42 1],rfl,⟨_,rfl,rfl⟩,⟨_,rfl,rfl⟩,⟨_,rfl,rfl⟩,tq⟩,.ret (.refl _),.cons (.mx ?_) (.cons (.refl _) (.cons (.refl _) .nil))⟩;exact .cons (.refl _) (.cons (.refl _) (.cons (.refl _) (.cons (.refl _) (.cons (.refl _) (.cons (.refl _) (.cons (.refl _) (.cons (.refl _) (.cons (.refl _) (.cons .nl (.cons (.refl _) .nil))))))))))
theorem kt {o:Bs} {m:Nat} (ho:o.length=m):V.z (0+m) (sub (sub (bv []) 0 (0*1)++bv o) 0 (0+m))=V.z m (bv o):=by subst ho;exact HJ rfl rfl
theorem wT {v0 v1 v2 v3 v4 x y x' y' v7 v8 v9 v10:V} (a:x=x') (b:y=y'):B.mx [v0,v1,v2,v3,v4,x,y,v7,v8,v9,v10]=B.mx [v0,v1,v2,v3,v4,x',y',v7,v8,v9,v10]:=by rw[a,b]
theorem uG {t key s k xs rs} (h:k5 t key s k xs rs) {mode pad:Int} {back:Bool} {lk li:Nat} {iv:Bs} {X:B} (hX:Hl X) (hk:key.length=lk) (hlk:lk<=1000) (hi:iv.length=li) (ok:D5 s mode pad iv):
  b9 C 38 [.p (.k 0) 0,R9 t mode pad back,.z lk (bv key),.z li (bv iv)] [X] (.ret (i64 0))
   [aL 1 t mode pad back key iv rs [] iv,C9 rs (j4 mode) back (⟨iv,[],[]⟩,[],0) 2,.dead]:=by
 have hs:=h.s_le;obtain⟨m1,hiv⟩:=ag ok;have hl16:iv.length<=16:=by rw[hiv];split<;>omega
 have CK:=(gM t hk hlk mode pad back hi).2;rw[su h hk hi ok]at CK;rcases hX with rfl|⟨a,t0,m0,p0,b0,n5,n6,n9,n10,l5,l6,l9,l10,r0,rfl⟩|⟨a,t0,m0,p0,b0,n5,n6,l5,l6,r0,rfl⟩
 ·refine qM.z 4 ?_;refine⟨[i64 t,i64 mode,i64 pad,bool back],rfl,rfl,?_⟩;refine⟨[],_,_,_,_,CK,rfl,rfl,?_⟩;refine⟨[i64 t,i64 mode,i64 pad,bool back],rfl,rfl,?_⟩;refine⟨by rw[j6];omega,by omega,by simp,?_⟩;refine⟨by rw[j6];omega,by omega,by simp,?_⟩;refine⟨Za rfl,?_⟩;refine⟨Za rfl,?_⟩;refine⟨Za rfl,?_⟩;refine⟨⟨[(0,.p (.k 0) 0)],[.mx [i64 0,i64 t,i64 mode,i64 pad,bool back,.z lk (bv key),.z li (bv iv),j8,j8,g9,g9]]⟩,⟨[.k 0],⟨rfl,tq⟩,⟨_,rfl,?_⟩,tq⟩,?_⟩
  ·exact wT (kt hk) (kt hi)
  refine⟨[.k 0],_,_,_,_,qb h (mode:=mode) (pad:=pad) (back:=back) (key:=key) (iv:=iv) rfl rfl hk hi ok,rfl,rfl,?_⟩;exact⟨_,rfl,[.k 0,.d 34 1,.d 34 2],rfl,⟨_,rfl,rfl⟩,⟨_,rfl,rfl⟩,⟨_,rfl,rfl⟩,tq⟩
 ·refine qM.z 4 ?_;refine⟨[i64 t,i64 mode,i64 pad,bool back],rfl,rfl,?_⟩;refine⟨[],_,_,_,_,CK,rfl,rfl,?_⟩;refine⟨[i64 t,i64 mode,i64 pad,bool back],rfl,rfl,?_⟩;refine⟨by rw[j6];omega,by omega,by simp,?_⟩;refine⟨by rw[j6];omega,by omega,by simp,?_⟩;refine⟨Za rfl,?_⟩;refine⟨Za rfl,?_⟩;refine⟨Za rfl,?_⟩;refine⟨⟨[(0,.p (.k 0) 0)],[.mx [i64 a,i64 t,i64 mode,i64 pad,bool back,.z lk (bv key),.z li (bv iv),.q r0 0,.u,.z n9 l9,.z n10 l10]]⟩,⟨[.k 0],⟨rfl,tq⟩,⟨_,rfl,?_⟩,tq⟩,?_⟩
  ·exact wT (kt hk) (kt hi)
  refine⟨[.k 0],_,_,_,_,qb h (mode:=mode) (pad:=pad) (back:=back) (key:=key) (iv:=iv) rfl rfl hk hi ok,rfl,rfl,?_⟩;exact⟨_,rfl,[.k 0,.d 34 1,.d 34 2],rfl,⟨_,rfl,rfl⟩,⟨_,rfl,rfl⟩,⟨_,rfl,rfl⟩,tq⟩
 ·refine qM.z 4 ?_;refine⟨[i64 t,i64 mode,i64 pad,bool back],rfl,rfl,?_⟩;refine⟨[],_,_,_,_,CK,rfl,rfl,?_⟩;refine⟨[i64 t,i64 mode,i64 pad,bool back],rfl,rfl,?_⟩;refine⟨by rw[j6];omega,by omega,by simp,?_⟩;refine⟨by rw[j6];omega,by omega,by simp,?_⟩;refine⟨Za rfl,?_⟩;refine⟨Za rfl,?_⟩;refine⟨Za rfl,?_⟩;refine⟨⟨[(0,.p (.k 0) 0)],[.mx [i64 a,i64 t,i64 mode,i64 pad,bool back,.z lk (bv key),.z li (bv iv),.q r0 0,.u,g9,.u]]⟩,⟨[.k 0],⟨rfl,tq⟩,⟨_,rfl,?_⟩,tq⟩,?_⟩
  ·exact wT (kt hk) (kt hi)
  refine⟨[.k 0],_,_,_,_,qb h (mode:=mode) (pad:=pad) (back:=back) (key:=key) (iv:=iv) rfl rfl hk hi ok,rfl,rfl,?_⟩;exact⟨_,rfl,[.k 0,.d 34 1,.d 34 2],rfl,⟨_,rfl,rfl⟩,⟨_,rfl,rfl⟩,⟨_,rfl,rfl⟩,tq⟩
theorem uH {t mode pad:Int} {back:Bool} {lk li:Nat} {key iv:Bs} {ys:List V} (hk:key.length=lk) (hlk:lk<=1000) (hi:iv.length=li) (he:C2 t mode pad (q9 t).toNat lk li≠0):
  b9 C 38 [.q ys 0,R9 t mode pad back,.z lk (bv key),.z li (bv iv)] [] (.ret (i64 (C2 t mode pad (q9 t).toNat lk li))) []:=by
 have CK:=(gM t hk hlk mode pad back hi).2;generalize C2 t mode pad (q9 t).toNat lk li=e at*
 refine qM.c ?_;refine⟨[i64 t,i64 mode,i64 pad,bool back],rfl,rfl,?_⟩;refine⟨[],_,_,_,_,CK,rfl,rfl,?_⟩;refine p6 (fun _=> ?_) (fun hh=>absurd hh he);exact⟨_,rfl,[],rfl,tq⟩
theorem Ak {t key s k xs rs} (h:k5 t key s k xs rs) {mode pad:Int} {back:Bool} {lk li:Nat} {a:Int} {iv:Bs} {v9 v10:V} (hv:(∃n9 n10 l9 l10,v9= .z n9 l9/\v10= .z n10 l10)\/(v9=g9/\v10= .u)) (ha:a≠0) (hk:key.length=lk) (hi:iv.length=li) (ok:D5 s mode pad iv):
  b9 C 105 [.p (.k 0) 0] [.mx [i64 a,i64 t,i64 mode,i64 pad,bool back,.z lk (bv key),.z li (bv iv),.q rs 0,.u,v9,v10]] (.ret (i64 0))
   [aL 1 t mode pad back key iv rs [] iv,C9 rs (j4 mode) back (⟨iv,[],[]⟩,[],0) 2,.dead]:=by
 rcases hv with ⟨n9,n10,l9,l10,rfl,rfl⟩|⟨rfl,rfl⟩;all_goals
  refine BF.c ?_;refine⟨_,rfl,?_⟩;refine i7 (fun hh=>absurd hh ha) (fun _=> ?_);refine⟨[.k 0],_,_,_,_,qb h (mode:=mode) (pad:=pad) (back:=back) (key:=key) (iv:=iv) rfl rfl hk hi ok,rfl,rfl,?_⟩;exact⟨_,rfl,[.k 0,.d 9 1,.d 9 2],rfl,⟨_,rfl,rfl⟩,⟨_,rfl,rfl⟩,⟨_,rfl,rfl⟩,tq⟩
theorem Oj:b9 C 105 [.q Em 0] [] (.ret (i64 6)) []:=by
 refine BF.c ?_;refine⟨_,rfl,?_⟩;exact⟨_,rfl,[],rfl,tq⟩
theorem Am {a:Int} {v1 v2 v3 v4 v5 v6 v7 v8 v9 v10:V} {m:Nat} {vb:List Value} (ha:a≠1):b9 C 39 [.q [i64 a,v1,v2,v3,v4,v5,v6,v7,v8,v9,v10] 0,.z m vb] [] (.ret (.t [g9,i64 6])) []:=by
 refine qN.c ?_;refine⟨_,rfl,?_⟩;refine p6 (fun _=> ?_) (fun hh=>absurd hh ha);exact⟨_,rfl,[],rfl,tq⟩
theorem Oq {t key s k xs rs} (h:k5 t key s k xs rs) {mode pad md:Int} {back:Bool} {kk iv a9 b:Bs} {x:MS×Bs×Nat} {m:Nat} (h3:3<=md) (K:MK s md x.1) (R:bF s md x) (hb:b.length=m) (hm:m<=100000) (hne:0<m\/x.1.row=[]):
  b9 C 39 [.p (.k 0) 0,.z m (bv b)] [aL 1 t mode pad back kk iv rs [] a9,C9 rs md back x 2,j5 x.1.row x.1.gone] (.ret (.t [.z m (bv (y8 (cF t key false) md back x.1 b).1),i64 0]))
   [aL 1 t mode pad back kk iv rs [] a9,C9 rs md back (L7 (cF t key false) md back x b) 3,.dead,j5 (L7 (cF t key false) md back x b).1.row (L7 (cF t key false) md back x b).1.gone]:=by
 have hs:=h.s_le;have G:=qc h (back:=back) (x:=x) h3;have T0:=Ok h (back:=back) (x:=x) (m:=m) (vb:=bv b) rfl hb (by omega) K R (by unfold r8;rw[if_neg (by omega),Nat.mod_one]) hne;have e1:k9 (cF t key false) (cF t key true) s md back x.1 b=y8 (cF t key false) md back x.1 b:=by unfold k9;rw[if_neg (by omega)]
 have e2:gp (cF t key false) (cF t key true) s md back x b=L7 (cF t key false) md back x b:=by unfold gp;rw[if_neg (by omega)]
 rw[e1,e2]at T0;generalize y8 (cF t key false) md back x.1 b=S0 at*
 generalize L7 (cF t key false) md back x b=y at*
 obtain⟨⟨ch,row,g⟩,RR,u⟩:=x;obtain⟨⟨ch1,row1,g1⟩,RR1,u1⟩:=y;rcases row with _|⟨a,r⟩<;>rcases row1 with _|⟨a1,r1⟩;all_goals
  refine qN.c ?_;refine⟨_,rfl,?_⟩;refine⟨_,rfl,?_⟩;refine⟨[.k 1,.k 2],_,_,_,_,G,rfl,rfl,?_⟩;refine⟨_,rfl,?_⟩;refine⟨[.k 1,.k 2],_,_,_,_,T0,rfl,rfl,?_⟩;exact⟨_,rfl,[.k 0,.k 1,.k 2,.d 26 2],rfl,⟨_,rfl,rfl⟩,⟨_,rfl,rfl⟩,⟨_,rfl,rfl⟩,⟨_,rfl,rfl⟩,tq⟩
theorem Ot {t key s k xs rs} (h:k5 t key s k xs rs) {mode pad md:Int} {back:Bool} {kk iv a9:Bs} {x:MS×Bs×Nat} {vb:List Value} (h3:3<=md):
  b9 C 39 [.p (.k 0) 0,.z 0 vb] [aL 1 t mode pad back kk iv rs [] a9,C9 rs md back x 2,j5 x.1.row x.1.gone] (.ret (.t [.z 0 [],i64 0]))
   [aL 1 t mode pad back kk iv rs [] a9,C9 rs md back x 2,j5 x.1.row x.1.gone]:=by
 have hs:=h.s_le;have G:=qc h (back:=back) (x:=x) h3;have T0:=Om h (back:=back) (x:=x) (vb:=vb) h3;obtain⟨⟨ch,row,g⟩,RR,u⟩:=x;rcases row with _|⟨a,r⟩;all_goals
  refine qN.c ?_;refine⟨_,rfl,?_⟩;refine⟨_,rfl,?_⟩;refine⟨[.k 1,.k 2],_,_,_,_,G,rfl,rfl,?_⟩;refine⟨_,rfl,?_⟩;refine⟨[.k 1,.k 2],_,_,_,_,T0,rfl,rfl,?_⟩;exact⟨_,rfl,[.k 0,.k 1,.k 2],rfl,⟨_,rfl,rfl⟩,⟨_,rfl,rfl⟩,⟨_,rfl,rfl⟩,tq⟩
theorem oH {E D:Bs->Bs} {n:Nat} {md:Int} {back:Bool} {ch g p:Bs} (hmd:md=1\/md=2):k9 E D n md back ⟨ch,[],g⟩ p=((A7 E D md back n p ch (p.length/n)).1,⟨(A7 E D md back n p ch (p.length/n)).2,[],g⟩):=by
 unfold k9;rw[if_pos hmd]
theorem HI {H b B:Bs} {m:Nat} (hB:H++b=B) (hb:b.length=m):V.z (0+H.length+m) (sub (sub (sub (bv []) 0 (0*1)++bv H) 0 ((0+H.length)*1)++bv b) 0 (0+H.length+m))=V.z B.length (bv B):=by
 subst hB;subst hb;have e:sub (sub (bv []) 0 (0*1)++bv H) 0 ((0+H.length)*1)=bv H:=by
  have e0:sub (bv []) 0 (0*1)++bv H=bv H:=rfl;rw[e0,Z4,Zi];exact g8 rfl
 rw[e,B7,Z4,<-Zc,g8 rfl]
theorem En {v0 v1 v2 v3 v4 v5 v6 v7 v8 x x' y y':V} (a:x=x') (b:y=y'):B.mx [v0,v1,v2,v3,v4,v5,v6,v7,v8,x,y]=B.mx [v0,v1,v2,v3,v4,v5,v6,v7,v8,x',y']:=by rw[a,b]
theorem ZP {v0 v1 v2 v3 v4 v5 v6 v7 v8 v10 x x':V} (a:x=x'):B.mx [v0,v1,v2,v3,v4,v5,v6,v7,v8,x,v10]=B.mx [v0,v1,v2,v3,v4,v5,v6,v7,v8,x',v10]:=by rw[a]
abbrev sh (rs:List V) (mode:Int) (back:Bool) (n:Nat) (ch:Bs):B:= .mx [.q rs 0,i64 mode,bool back,.z n (bv ch),.z 0 [],i64 0,.u]
def ruD (rs:List V) (t mode pad md:Int) (back:Bool) (s:Nat) (kk iv:Bs):Nat×Bs×Bs×Bs×Bs->D
 |(j,o,ch,L,la)=>⟨[(0,.p (.k 0) 0),(6,.o 1 (.k 3) 0 (s*j)),(7,i64 s)],[aL 1 t mode pad back kk iv rs L la,cU rs md back ch,.dead,.sc (bv o)]⟩
theorem Oo {t key s k xs rs} (h:k5 t key s k xs rs) {mode pad md:Int} {back:Bool} {kk iv a9 H b A8 g o1 ch1:Bs} {m n0:Nat} (hmd:md=1\/md=2) (hch:md=1\/A8.length=s) (hb:b.length=m) (hLb:H.length+m<=100000) (hm9:mode<=9) (hn0:n0=F9 s (B8 s md mode pad back) (H.length+m)) (hst:k9 (cF t key false) (cF t key true) s md back ⟨A8,[],g⟩ ((H++b).take (s*n0))=(o1,⟨ch1,[],g⟩)):
  b9 C 39 [.p (.k 0) 0,.z m (bv b)] [aL 1 t mode pad back kk iv rs H a9,cU rs md back A8,.dead] (.ret (.t [.z (s*n0) (bv o1),i64 0]))
   [aL 1 t mode pad back kk iv rs ((H++b).drop (s*n0)) (E3 s 7 back ((H++b).take (s*n0)) o1 a9),cU rs md back ch1,.dead]:=by
 have hs:=h.s_le;have hci:=h.ci;have hgm:s-1<=B8 s md mode pad back:=by
  unfold B8;rw[if_neg (by omega)];split<;>(try split)<;>omega
 have hle:=nM (L:=H.length+m) (show 0<s by omega) hgm;have d8:=fun i=>bL (most:=B8 s md mode pad back) (L:=H.length+m) (i:=i) (show 0<s by omega);rw[<-hn0]at hle d8;have G:=Ai h (back:=back) (c:=A8.length) (vc:=bv A8) hmd;have KP:=fun{v0 v1 v5 v6 v8 v9 v10:V}=>Oh h (mode:=mode) (pad:=pad) (md:=md) (back:=back) (v0:=v0) (v1:=v1) (v5:=v5) (v6:=v6) (v8:=v8) (v9:=v9) (v10:=v10) (by omega);have lB:(H++b).length=H.length+m:=by rw[Zc,hb]
 have hHb:sub (bv H) 0 H.length++bv b=bv (H++b):=by rw[g8 rfl,B7]
 generalize hB:H++b=BB at*
 generalize hLL:H.length+m=LL at*
 generalize B8 s md mode pad back=mo at*
 refine qN.c ?_;refine⟨_,rfl,?_⟩;refine⟨_,rfl,?_⟩;refine⟨[.k 1],_,_,_,_,G,rfl,rfl,?_⟩;refine i7 (fun hh=>absurd hh (by omega)) (fun _=> ?_);refine⟨_,rfl,?_⟩;refine⟨by rw[j6],by omega,by simp,?_⟩;refine⟨by rw[j6,hb],by omega,by simp[j6],?_⟩;refine⟨Za rfl,?_⟩;refine⟨_,rfl,?_⟩;refine⟨[],_,_,_,_,h.rsize,rfl,rfl,?_⟩;refine⟨Nat×Bs×Bs×Bs×Bs,ruD rs t mode pad md back s kk iv,fun x=>x.1<=n0/\k9 (cF t key false) (cF t key true) s md back ⟨A8,[],g⟩ (BB.take (s*x.1))=(x.2.1,⟨x.2.2.1,[],g⟩)/\x.2.1.length=s*x.1/\(md=1\/x.2.2.1.length=s)/\x.2.2.2.1=BB.drop (s*x.1)/\x.2.2.2.2=E3 s 7 back (BB.take (s*x.1)) x.2.1 a9,fun x=>n0-x.1,⟨[(6,1,.sc [])],(0,[],A8,BB,a9),⟨Zk _,oI,rfl,hch,by rw[Nat.mul_zero,List.drop_zero],?_⟩,[.k 0,.k 1,.k 2,.d 900000 0],⟨rfl,rfl,rfl,tq⟩,⟨_,rfl,?_⟩,⟨_,rfl,rfl⟩,⟨_,rfl,rfl⟩,⟨_,rfl,rfl⟩,tq⟩,fun x hx=> ?_⟩
 ·show a9=E3 s 7 back (BB.take (s*0)) [] a9;unfold E3;rw[Nat.mul_zero,List.take_zero,if_neg (by simp;omega)]
 ·exact ZP (HI hB hb)
 obtain⟨j,o,ch,L,la⟩:=x;obtain⟨hj,hs1,hs2,hs3,hs4,hs5⟩:=hx;dsimp only at hj hs1 hs2 hs3 hs4 hs5;have hsj:s*j<=s*n0:=Zf s hj;have lL:L.length=LL-s*j:=by rw[hs4,Zg,lB]
 have gn:r8 s md=s:=if_pos hmd;cases back
 ·refine⟨_,rfl,?_⟩;refine⟨[],_,_,_,_,KP,rfl,rfl,?_⟩;refine d9 (fun hgt=> ?_) (fun hle'=> ?_)
  ·have hgt:(L.length:Int)>(mo:Int):=hgt;have hjn:j<n0:=(d8 j).2 (by omega);have hj1:s*(j+1)<=s*n0:=Zf s hjn;have emul:s*(j+1)=s*j+s:=Zv s j;have lq:(sub L 0 s).length=s:=by rw[m5];omega
   have hvq:sub (bv L) 0 s=bv (sub L 0 s):=o6 _ _ _;have T0:=nI h (mode:=md) (back:=false) (b:=sub L 0 s) (ch:=ch) (c:=ch.length) rfl lq (by omega) (by omega) rfl (Zj s);have htk:BB.take (s*(j+1))=BB.take (s*j)++sub L 0 s:=by rw[emul,List.take_add,hs4];rfl
   have ltk:(BB.take (s*j)).length=s*j:=by rw[Ze];omega
   have hnx:=wx (E:=cF t key false) (D:=cF t key true) (n:=s) (mode:=md) (back:=false) (s:=⟨A8,[],g⟩) (a:=BB.take (s*j)) (b:=sub L 0 s) (by omega) (by rw[ltk,gn];exact Zw s j) (by rw[lq,gn];exact Zj s);rw[<-htk,hs1]at hnx;dsimp only at hnx;rw[oH (ch:=ch) (p:=sub L 0 s) hmd,lq]at hnx;obtain⟨b1,b2⟩:=mi (mode:=md) (back:=false) (b:=sub L 0 s) (c:=ch) hci hmd hs3 (s/s) (by rw[Zq (by omega),Zi,lq];exact Zn _);rw[show s*(s/s)=s by rw[Zq (by omega),Zi]]at b1;have b3:=mh (back:=false) hci (b:=sub L 0 s) (c:=ch) (i:=s/s) (mode:=md) (by omega) (by rw[Zq (by omega),Zi,lq];exact Zn _);generalize A7 (cF t key false) (cF t key true) md false s (sub L 0 s) ch (s/s)=y at*
   obtain⟨o2,ch2⟩:=y;dsimp only at T0 hnx b1 b2 b3;have hL2:L.drop s=BB.drop (s*(j+1)):=by rw[hs4,Z2,emul]
   have hLn:o2=E3 s 7 false (BB.take (s*(j+1))) (o++o2) a9:=by
    have ltk2:(BB.take (s*(j+1))).length=s*(j+1):=by rw[Ze];omega
    unfold E3;rw[ltk2,if_pos (show (7:Int)<=7/\s<=s*(j+1) from ⟨Z8 _,by omega⟩),show s*(j+1)-s=s*j by omega];rw[if_neg (by decide),List.drop_left' hs2]
   refine⟨_,rfl,?_⟩;refine⟨_,rfl,?_⟩;refine⟨by omega,by omega,by omega,by omega,?_⟩;refine⟨[.k 1,.k 2],_,_,_,_,T0,?_,rfl,?_⟩
   ·show[V.p (.k 0) 0,V.z (((s:Nat):Int).toNat) (sub (bv L) 0 (((s:Nat):Int).toNat))]=_;rw[Zb,hvq]
   refine⟨Za rfl,?_⟩;refine⟨_,rfl,?_⟩;refine⟨by first|omega|(rw [j6];omega),by omega,by rw[j6,hs2];omega,?_⟩;refine⟨_,rfl,?_⟩;refine⟨by omega,by omega,by omega,by omega,?_⟩;refine⟨Za rfl,?_⟩;refine⟨(j+1,o++o2,ch2,L.drop s,o2),⟨hjn,hnx,by show(o++o2).length=s*(j+1);rw[Zc,hs2,b1,emul],b2,hL2,hLn⟩,(by show n0-(j+1)<n0-j;omega),[.k 0,.k 1,.k 2,.d 87 0],⟨rfl,?_,rfl,tq⟩,⟨_,rfl,?_⟩,⟨_,rfl,?_⟩,⟨_,rfl,rfl⟩,⟨_,rfl,i6 ?_⟩,tq⟩
   ·exact congrArg (V.o 1 (.k 3) 0) emul.symm
   ·have zD:V.z (L.length-((s:Nat):Int).toNat) (sub (bv L) ((s:Nat):Int).toNat (L.length-((s:Nat):Int).toNat))=V.z (L.drop s).length (bv (L.drop s)):=by rw[Zb,A3 rfl (by omega),Zg]
    have zL:V.z s (bv o2)=V.z o2.length (bv o2):=by rw[b1]
    exact En zD zL
   ·show sh rs md false ch.length ch2=_;rw[<-b3]
   ·show sub (bv o) 0 (s*j*1)++bv o2=_;rw[Zi,g8 hs2,B7]
  ·have hle':¬(L.length:Int)>(mo:Int):=hle';obtain rfl:j=n0:=Zr hj (Zm fun hh=>by have:=(d8 j).1 hh;omega);rw[hst]at hs1;obtain⟨rfl,rfl⟩:o1=o/\ch1=ch:=by
    have:=hs1;simp only[Prod.mk.injEq,MS.mk.injEq]at this;exact⟨this.1,this.2.1⟩
   rw[<-hs4,<-hs5];refine⟨_,rfl,[.k 0,.k 1,.k 2],?_,⟨_,rfl,rfl⟩,⟨_,rfl,rfl⟩,⟨_,rfl,rfl⟩,tq⟩;exact congrArg (fun z=>V.t [V.z (s*j) z,i64 0]) (g8 hs2)
 ·refine⟨_,rfl,?_⟩;refine⟨[],_,_,_,_,KP,rfl,rfl,?_⟩;refine d9 (fun hgt=> ?_) (fun hle'=> ?_)
  ·have hgt:(L.length:Int)>(mo:Int):=hgt;have hjn:j<n0:=(d8 j).2 (by omega);have hj1:s*(j+1)<=s*n0:=Zf s hjn;have emul:s*(j+1)=s*j+s:=Zv s j;have lq:(sub L 0 s).length=s:=by rw[m5];omega
   have hvq:sub (bv L) 0 s=bv (sub L 0 s):=o6 _ _ _;have T0:=nI h (mode:=md) (back:=true) (b:=sub L 0 s) (ch:=ch) (c:=ch.length) rfl lq (by omega) (by omega) rfl (Zj s);have htk:BB.take (s*(j+1))=BB.take (s*j)++sub L 0 s:=by rw[emul,List.take_add,hs4];rfl
   have ltk:(BB.take (s*j)).length=s*j:=by rw[Ze];omega
   have hnx:=wx (E:=cF t key false) (D:=cF t key true) (n:=s) (mode:=md) (back:=true) (s:=⟨A8,[],g⟩) (a:=BB.take (s*j)) (b:=sub L 0 s) (by omega) (by rw[ltk,gn];exact Zw s j) (by rw[lq,gn];exact Zj s);rw[<-htk,hs1]at hnx;dsimp only at hnx;rw[oH (ch:=ch) (p:=sub L 0 s) hmd,lq]at hnx;obtain⟨b1,b2⟩:=mi (mode:=md) (back:=true) (b:=sub L 0 s) (c:=ch) hci hmd hs3 (s/s) (by rw[Zq (by omega),Zi,lq];exact Zn _);rw[show s*(s/s)=s by rw[Zq (by omega),Zi]]at b1;have b3:=mh (back:=true) hci (b:=sub L 0 s) (c:=ch) (i:=s/s) (mode:=md) (by omega) (by rw[Zq (by omega),Zi,lq];exact Zn _);generalize A7 (cF t key false) (cF t key true) md true s (sub L 0 s) ch (s/s)=y at*
   obtain⟨o2,ch2⟩:=y;dsimp only at T0 hnx b1 b2 b3;have hL2:L.drop s=BB.drop (s*(j+1)):=by rw[hs4,Z2,emul]
   have hLn:sub L 0 s=E3 s 7 true (BB.take (s*(j+1))) (o++o2) a9:=by
    have ltk2:(BB.take (s*(j+1))).length=s*(j+1):=by rw[Ze];omega
    unfold E3;rw[ltk2,if_pos (show (7:Int)<=7/\s<=s*(j+1) from ⟨Z8 _,by omega⟩),show s*(j+1)-s=s*j by omega];rw[if_pos rfl,htk,List.drop_left' ltk]
   refine⟨_,rfl,?_⟩;refine⟨_,rfl,?_⟩;refine⟨by omega,by omega,by omega,by omega,?_⟩;refine⟨[.k 1,.k 2],_,_,_,_,T0,?_,rfl,?_⟩
   ·show[V.p (.k 0) 0,V.z (((s:Nat):Int).toNat) (sub (bv L) 0 (((s:Nat):Int).toNat))]=_;rw[Zb,hvq]
   refine⟨Za rfl,?_⟩;refine⟨_,rfl,?_⟩;refine⟨_,rfl,?_⟩;refine⟨by omega,by omega,by omega,by omega,?_⟩;refine⟨Za rfl,?_⟩;refine⟨by first|omega|(rw [j6];omega),by omega,by rw[j6,hs2];omega,?_⟩;refine⟨_,rfl,?_⟩;refine⟨by omega,by omega,by omega,by omega,?_⟩;refine⟨Za rfl,?_⟩;refine⟨(j+1,o++o2,ch2,L.drop s,sub L 0 s),⟨hjn,hnx,by show(o++o2).length=s*(j+1);rw[Zc,hs2,b1,emul],b2,hL2,hLn⟩,(by show n0-(j+1)<n0-j;omega),[.k 0,.k 1,.k 2,.d 87 0],⟨rfl,?_,rfl,tq⟩,⟨_,rfl,?_⟩,⟨_,rfl,?_⟩,⟨_,rfl,rfl⟩,⟨_,rfl,i6 ?_⟩,tq⟩
   ·exact congrArg (V.o 1 (.k 3) 0) emul.symm
   ·have zD:V.z (L.length-((s:Nat):Int).toNat) (sub (bv L) ((s:Nat):Int).toNat (L.length-((s:Nat):Int).toNat))=V.z (L.drop s).length (bv (L.drop s)):=by rw[Zb,A3 rfl (by omega),Zg]
    have zL:V.z (((s:Nat):Int).toNat) (sub (bv L) 0 (((s:Nat):Int).toNat))=V.z (sub L 0 s).length (bv (sub L 0 s)):=by rw[Zb,hvq,lq]
    exact En zD zL
   ·show sh rs md true ch.length ch2=_;rw[<-b3]
   ·show sub (bv o) 0 (s*j*1)++bv o2=_;rw[Zi,g8 hs2,B7]
  ·have hle':¬(L.length:Int)>(mo:Int):=hle';obtain rfl:j=n0:=Zr hj (Zm fun hh=>by have:=(d8 j).1 hh;omega);rw[hst]at hs1;obtain⟨rfl,rfl⟩:o1=o/\ch1=ch:=by
    have:=hs1;simp only[Prod.mk.injEq,MS.mk.injEq]at this;exact⟨this.1,this.2.1⟩
   rw[<-hs4,<-hs5];refine⟨_,rfl,[.k 0,.k 1,.k 2],?_,⟨_,rfl,rfl⟩,⟨_,rfl,rfl⟩,⟨_,rfl,rfl⟩,tq⟩;exact congrArg (fun z=>V.t [V.z (s*j) z,i64 0]) (g8 hs2)
theorem Od {t key s k xs rs} (h:k5 t key s k xs rs) {mode pad:Int} {back:Bool} {kk iv a9 b:Bs} {m:Nat} {v8:V} (hl:a9.length=s) (hb:b.length=m) (hm:7<=mode/\mode<=9) (h1:s<=m) (h2:m<=2*s):
  b9 C 102 [.q [i64 2,i64 t,i64 mode,i64 pad,bool back,.z kk.length (bv kk),.z iv.length (bv iv),.q rs 0,v8,g9,.z a9.length (bv a9)] 0,.z m (bv b)] [] (C6 m) [.sc (bv (P2 (cF t key false) (cF t key true) s mode back a9 b))]:=by
 subst hl;have lT:=h.stT_len (mode:=mode) (back:=back) (a9:=a9) (b:=b) rfl hb h1 h2;have T:=ML h (mode:=mode) (back:=back) (vl:=bv a9) (vb:=bv b) rfl rfl rfl hb hm h1 h2;generalize P2 (cF t key false) (cF t key true) a9.length mode back a9 b=TT at*
 refine lv.c ?_;refine⟨_,rfl,?_⟩;refine⟨[],_,_,_,_,h.rsize,rfl,rfl,?_⟩;refine⟨_,rfl,?_⟩;refine d9 (fun _=> ?_) (fun hh=>absurd hm.1 hh);refine⟨_,rfl,?_⟩;refine⟨_,rfl,?_⟩;refine⟨_,rfl,?_⟩;refine⟨_,rfl,?_⟩;refine⟨[],_,_,_,_,T,rfl,rfl,?_⟩;exact⟨_,rfl,[.d 42 0],rfl,⟨_,rfl,rfl⟩,tq⟩
theorem Oe {t key s k xs rs} (h:k5 t key s k xs rs) {mode pad:Int} {back:Bool} {kk iv a9 b:Bs} {m:Nat} {v8:V} (hl:a9.length=s) (hb:b.length=m) (hm:7<=mode/\mode<=9) (h1:m<s):
  b9 C 102 [.q [i64 2,i64 t,i64 mode,i64 pad,bool back,.z kk.length (bv kk),.z iv.length (bv iv),.q rs 0,v8,g9,.z a9.length (bv a9)] 0,.z m (bv b)] [] (.ret (.t [g9,i64 7])) []:=by
 subst hl;have hs:=h.s_le;have e:fq a9.length mode a9 b=7:=by unfold fq;rw[if_neg (by omega),if_neg (by omega),if_pos (by omega)]
 have T:=MM h (mode:=mode) (back:=back) (l:=a9.length) (m:=m) (vl:=bv a9) (vb:=bv b) (a9:=a9) (b:=b) rfl hb (by omega) (by rw[e];decide);rw[e]at T;refine lv.c ?_;refine⟨_,rfl,?_⟩;refine⟨[],_,_,_,_,h.rsize,rfl,rfl,?_⟩;refine⟨_,rfl,?_⟩;refine d9 (fun _=> ?_) (fun hh=>absurd hm.1 hh);refine⟨_,rfl,?_⟩;refine⟨_,rfl,?_⟩;refine⟨_,rfl,?_⟩;refine⟨_,rfl,?_⟩;refine⟨[],_,_,_,_,T,rfl,rfl,?_⟩;exact⟨_,rfl,[],rfl,tq⟩
theorem Oa {t key s k xs rs} (h:k5 t key s k xs rs) {mode pad:Int} {back:Bool} {kk iv a9:Bs} {m:Nat} {vb:List Value} {v8:V} (hm:¬7<=mode) (hp:pad=4):
  b9 C 102 [.q [i64 2,i64 t,i64 mode,i64 pad,bool back,.z kk.length (bv kk),.z iv.length (bv iv),.q rs 0,v8,g9,.z a9.length (bv a9)] 0,.z m vb] [] (.ret (.t [g9,i64 (if m=0 then 0 else 7)])) []:=by
 subst hp;refine lv.c ?_;refine⟨_,rfl,?_⟩;refine⟨[],_,_,_,_,h.rsize,rfl,rfl,?_⟩;refine⟨_,rfl,?_⟩;refine d9 (fun hh=>absurd hh hm) (fun _=> ?_);refine⟨_,rfl,?_⟩;refine d9 (fun hh=> ?_) (fun hh=> ?_)
 ·rw[if_neg (by omega)];exact⟨_,rfl,[],rfl,tq⟩
 ·rw[if_pos (by omega)];exact⟨_,rfl,[],rfl,tq⟩
theorem Ob {t key s k xs rs} (h:k5 t key s k xs rs) {mode pad:Int} {kk iv a9 b ch g:Bs} {m:Nat} (hm:mode=1\/mode=2/\ch.length=s) (hp:pad=1\/pad=2\/pad=3) (hb:b.length=m) (hms:m<s):
  b9 C 102 [.p (.k 0) 0,.z m (bv b)] [.mx [i64 2,i64 t,i64 mode,i64 pad,bool false,.z kk.length (bv kk),.z iv.length (bv iv),.q rs 0,.p (.k 1) 0,g9,.z a9.length (bv a9)],cU rs mode false ch,.dead] (.ret (.t [.z s (bv (k9 (cF t key false) (cF t key true) s mode false ⟨ch,[],g⟩ (G9 pad s b)).1),i64 0])) [.mx [i64 2,i64 t,i64 mode,i64 pad,bool false,.z kk.length (bv kk),.z iv.length (bv iv),.q rs 0,.p (.k 1) 0,g9,.z a9.length (bv a9)],cU rs mode false (k9 (cF t key false) (cF t key true) s mode false ⟨ch,[],g⟩ (G9 pad s b)).2.ch,.dead]:=by
 have hs:=h.s_le;have lp:(G9 pad s b).length=s:=oR (by omega);have A:=MN (kind:=pad) (s:=s) (vt:=bv b) hp h.s_two rfl hb hms;have T0:=nI h (mode:=mode) (back:=false) (b:=G9 pad s b) (ch:=ch) (c:=ch.length) rfl lp (by omega) hm rfl (Zj s);have b3:=mh (back:=false) h.ci (b:=G9 pad s b) (c:=ch) (i:=s/s) (mode:=mode) hm (by rw[Zq (by omega),Zi,lp];exact Zn _);rw[oH (by omega),lp];generalize A7 (cF t key false) (cF t key true) mode false s (G9 pad s b) ch (s/s)=y at*
 generalize G9 pad s b=P at*
 obtain⟨o,ch1⟩:=y;dsimp only at b3 T0 ⊢;refine lv.c ?_;refine⟨_,rfl,?_⟩;refine⟨[],_,_,_,_,h.rsize,rfl,rfl,?_⟩;refine⟨_,rfl,?_⟩;refine d9 (fun hh=> ?_) (fun _=> ?_)
 ·have hh:7<=mode:=hh;omega
 refine⟨_,rfl,?_⟩;refine i7 (fun hh=>absurd hh (by omega)) (fun _=> ?_);refine⟨_,rfl,?_⟩;refine⟨_,rfl,?_⟩;refine⟨[],_,_,_,_,A,rfl,rfl,?_⟩;refine⟨_,rfl,?_⟩;refine⟨[.k 1,.k 2],_,_,_,_,T0,?_,rfl,?_⟩
 ·exact congrArg (fun v=>[V.p (.k 0) 0,V.z s v]) (g8 lp)
 refine⟨_,rfl,[.k 0,.k 1,.k 2],rfl,⟨_,rfl,rfl⟩,⟨_,rfl,?_⟩,⟨_,rfl,rfl⟩,tq⟩;show sh rs mode false ch.length ch1=_;rw[<-b3]
theorem NY {t key s k xs rs} (h:k5 t key s k xs rs) {mode pad:Int} {kk iv a9:Bs} {m:Nat} {vb:List Value} {v8:V} (hm:¬7<=mode) (hp:pad≠4) (hms:m≠s):
  b9 C 102 [.q [i64 2,i64 t,i64 mode,i64 pad,bool true,.z kk.length (bv kk),.z iv.length (bv iv),.q rs 0,v8,g9,.z a9.length (bv a9)] 0,.z m vb] [] (.ret (.t [g9,i64 7])) []:=by
 refine lv.c ?_;refine⟨_,rfl,?_⟩;refine⟨[],_,_,_,_,h.rsize,rfl,rfl,?_⟩;refine⟨_,rfl,?_⟩;refine d9 (fun hh=>absurd hh hm) (fun _=> ?_);refine⟨_,rfl,?_⟩;refine i7 (fun hh=>absurd hh hp) (fun _=> ?_);refine⟨_,rfl,?_⟩;refine p6 (fun _=> ?_) (fun hh=>absurd (by omega) hms);exact⟨_,rfl,[],rfl,tq⟩
theorem Ag {t key s k xs rs} (h:k5 t key s k xs rs) {mode pad:Int} {kk iv a9 b ch g:Bs} {rv:V} {e:Int} (hm:mode=1\/mode=2/\ch.length=s) (hp:pad=1\/pad=2\/pad=3) (hb:b.length=s)
  (ST:b9 C 108 [i64 pad,i64 s,.z s (bv (k9 (cF t key false) (cF t key true) s mode true ⟨ch,[],g⟩ b).1)] [] (.ret (.t [rv,i64 e])) []) (hrv:rv=g9\/∃n l,rv= .z n l):
  b9 C 102 [.p (.k 0) 0,.z s (bv b)] [.mx [i64 2,i64 t,i64 mode,i64 pad,bool true,.z kk.length (bv kk),.z iv.length (bv iv),.q rs 0,.p (.k 1) 0,g9,.z a9.length (bv a9)],cU rs mode true ch,.dead] (.ret (.t [rv,i64 e])) [.mx [i64 2,i64 t,i64 mode,i64 pad,bool true,.z kk.length (bv kk),.z iv.length (bv iv),.q rs 0,.p (.k 1) 0,g9,.z a9.length (bv a9)],cU rs mode true (k9 (cF t key false) (cF t key true) s mode true ⟨ch,[],g⟩ b).2.ch,.dead]:=by
 have hs:=h.s_le;have T0:=nI h (mode:=mode) (back:=true) (b:=b) (ch:=ch) (c:=ch.length) rfl hb (by omega) hm rfl (Zj s);have b3:=mh (back:=true) h.ci (b:=b) (c:=ch) (i:=s/s) (mode:=mode) hm (by rw[Zq (by omega),Zi,hb];exact Zn _);rw[oH (by omega),hb]at ST ⊢;generalize A7 (cF t key false) (cF t key true) mode true s b ch (s/s)=y at*
 obtain⟨o,ch1⟩:=y;dsimp only at b3 ST T0 ⊢;rcases hrv with rfl|⟨n,l,rfl⟩;all_goals
  refine lv.c ?_;refine⟨_,rfl,?_⟩;refine⟨[],_,_,_,_,h.rsize,rfl,rfl,?_⟩;refine⟨_,rfl,?_⟩;refine d9 (fun hh=> ?_) (fun _=> ?_)
  ·have hh:7<=mode:=hh;omega
  refine⟨_,rfl,?_⟩;refine i7 (fun hh=>absurd hh (by omega)) (fun _=> ?_);refine⟨_,rfl,?_⟩;refine p6 (fun hh=>absurd rfl hh) (fun _=> ?_);refine⟨_,rfl,?_⟩;refine⟨[.k 1,.k 2],_,_,_,_,T0,rfl,rfl,?_⟩;refine⟨_,rfl,?_⟩;refine⟨[],_,_,_,_,ST,rfl,rfl,?_⟩;refine⟨_,rfl,[.k 0,.k 1,.k 2],rfl,⟨_,rfl,rfl⟩,⟨_,rfl,?_⟩,⟨_,rfl,rfl⟩,tq⟩;show sh rs mode true ch.length ch1=_;rw[<-b3]
theorem Ah {a:Int} {v1 v2 v3 v4 v5 v6 v7 v8 v9 v10:V} (ha:a≠1):b9 C 42 [.q [i64 a,v1,v2,v3,v4,v5,v6,v7,v8,v9,v10] 0] [] (.ret (.t [g9,i64 6])) []:=by
 refine qL.c ?_;refine⟨_,rfl,?_⟩;refine p6 (fun _=> ?_) (fun hh=>absurd hh ha);exact⟨_,rfl,[],rfl,tq⟩
theorem uE {rs:List V} {t mode pad e md:Int} {back:Bool} {kk iv a9 H:Bs} {x:MS×Bs×Nat} (R:∀v8,b9 C 102 [.q [i64 2,i64 t,i64 mode,i64 pad,bool back,.z kk.length (bv kk),.z iv.length (bv iv),.q rs 0,v8,g9,.z a9.length (bv a9)] 0,.z H.length (bv H)] [] (.ret (.t [g9,i64 e])) []):
  b9 C 42 [.p (.k 0) 0] [aL 1 t mode pad back kk iv rs H a9,C9 rs md back x 2,j5 x.1.row x.1.gone] (.ret (.t [.z 0 [],i64 e])) [iL t mode pad back kk iv rs,.dead,.dead]:=by
 refine(qL.w (bs':=[iL t mode pad back kk iv rs,C9 rs md back x 2,j5 x.1.row x.1.gone]) ?_).fg (.keep (.drop (.drop .nil)));obtain⟨⟨ch,row,g⟩,RR,u⟩:=x;rcases row with _|⟨a,r⟩;all_goals
  refine⟨_,rfl,?_⟩;refine⟨_,rfl,?_⟩;refine⟨Za rfl,?_⟩;refine⟨Za rfl,?_⟩;refine⟨[],_,_,_,_,R _,rfl,rfl,?_⟩;refine⟨_,[_,_,_],⟨_,rfl,[.k 0,.k 1,.k 2],rfl,⟨_,rfl,rfl⟩,⟨_,rfl,rfl⟩,⟨_,rfl,rfl⟩,tq⟩,.ret (.t (.cons .nl (.cons (.refl _) .nil))),.cons (.mx (.cons (.refl _) (.cons (.refl _) (.cons (.refl _) (.cons (.refl _) (.cons (.refl _) (.cons (.refl _) (.cons (.refl _) (.cons (.refl _) (.cons .u (.cons (.refl _) (.cons .u .nil)))))))))))) (.cons (.refl _) (.cons (.refl _) .nil))⟩
theorem Og {rs:List V} {t mode pad e md:Int} {back:Bool} {kk iv a9 H o:Bs} {n:Nat} {x:MS×Bs×Nat} (ho:o.length=n) (R:∀v8,b9 C 102 [.q [i64 2,i64 t,i64 mode,i64 pad,bool back,.z kk.length (bv kk),.z iv.length (bv iv),.q rs 0,v8,g9,.z a9.length (bv a9)] 0,.z H.length (bv H)] [] (.ret (.t [.o 1 (.k 0) 0 n,i64 e])) [.sc (bv o)]):
  b9 C 42 [.p (.k 0) 0] [aL 1 t mode pad back kk iv rs H a9,C9 rs md back x 2,j5 x.1.row x.1.gone] (.ret (.t [.z n (bv o),i64 e])) [iL t mode pad back kk iv rs,.dead,.dead]:=by
 refine(qL.w (bs':=[iL t mode pad back kk iv rs,C9 rs md back x 2,j5 x.1.row x.1.gone]) ?_).fg (.keep (.drop (.drop .nil)));obtain⟨⟨ch,row,g⟩,RR,u⟩:=x;rcases row with _|⟨a,r⟩;all_goals
  refine⟨_,rfl,?_⟩;refine⟨_,rfl,?_⟩;refine⟨Za rfl,?_⟩;refine⟨Za rfl,?_⟩;refine⟨[],_,_,_,_,R _,rfl,rfl,?_⟩;refine⟨.ret (.t [.z n (bv o),i64 e]),[_,_,_],⟨_,congrArg (fun z=>Oc.ret (.t [.z n z,i64 e])) (g8 ho).symm,[.k 0,.k 1,.k 2],rfl,⟨_,rfl,rfl⟩,⟨_,rfl,rfl⟩,⟨_,rfl,rfl⟩,tq⟩,.ret (.refl _),.cons (.mx (.cons (.refl _) (.cons (.refl _) (.cons (.refl _) (.cons (.refl _) (.cons (.refl _) (.cons (.refl _) (.cons (.refl _) (.cons (.refl _) (.cons .u (.cons (.refl _) (.cons .u .nil)))))))))))) (.cons (.refl _) (.cons (.refl _) .nil))⟩
theorem uF {rs:List V} {t mode pad e md:Int} {back:Bool} {kk iv a9 H ch ch1:Bs} {rv rv':V} (hrv:rv=g9/\rv'= .z 0 []\/∃n l,rv= .z n l/\rv'=rv)
  (R:b9 C 102 [.p (.k 0) 0,.z H.length (bv H)] [.mx [i64 2,i64 t,i64 mode,i64 pad,bool back,.z kk.length (bv kk),.z iv.length (bv iv),.q rs 0,.p (.k 1) 0,g9,.z a9.length (bv a9)],cU rs md back ch,.dead] (.ret (.t [rv,i64 e])) [.mx [i64 2,i64 t,i64 mode,i64 pad,bool back,.z kk.length (bv kk),.z iv.length (bv iv),.q rs 0,.p (.k 1) 0,g9,.z a9.length (bv a9)],cU rs md back ch1,.dead]):
  b9 C 42 [.p (.k 0) 0] [aL 1 t mode pad back kk iv rs H a9,cU rs md back ch,.dead] (.ret (.t [rv',i64 e])) [iL t mode pad back kk iv rs,.dead,.dead]:=by
 rcases hrv with ⟨rfl,rfl⟩|⟨n,l,rfl,rfl⟩;all_goals
  refine(qL.w (bs':=[iL t mode pad back kk iv rs,cU rs md back ch1,.dead]) ?_).fg (.keep (.drop (.drop .nil)));refine⟨_,rfl,?_⟩;refine⟨_,rfl,?_⟩;refine⟨Za rfl,?_⟩;refine⟨Za rfl,?_⟩;refine⟨[.k 0,.k 1,.k 2],_,_,_,_,R,rfl,rfl,?_⟩
 ·refine⟨_,[_,_,_],⟨_,rfl,[.k 0,.k 1,.k 2],rfl,⟨_,rfl,rfl⟩,⟨_,rfl,rfl⟩,⟨_,rfl,rfl⟩,tq⟩,.ret (.t (.cons .nl (.cons (.refl _) .nil))),.cons (.mx (.cons (.refl _) (.cons (.refl _) (.cons (.refl _) (.cons (.refl _) (.cons (.refl _) (.cons (.refl _) (.cons (.refl _) (.cons (.refl _) (.cons .u (.cons (.refl _) (.cons .u .nil)))))))))))) (.cons (.refl _) (.cons (.refl _) .nil))⟩
 ·refine⟨_,[_,_,_],⟨_,rfl,[.k 0,.k 1,.k 2],rfl,⟨_,rfl,rfl⟩,⟨_,rfl,rfl⟩,⟨_,rfl,rfl⟩,tq⟩,.ret (.refl _),.cons (.mx (.cons (.refl _) (.cons (.refl _) (.cons (.refl _) (.cons (.refl _) (.cons (.refl _) (.cons (.refl _) (.cons (.refl _) (.cons (.refl _) (.cons .u (.cons (.refl _) (.cons .u .nil)))))))))))) (.cons (.refl _) (.cons (.refl _) .nil))⟩
def P1 (t:Int) (key:Bs) (s:Nat) (mode pad:Int) (back:Bool) (iv M:Bs):MS×Bs×Nat:=if 3<=j4 mode then cX t key s (j4 mode) back iv M else (cS t key s mode pad back iv M,[],0)
theorem a1r {t key s} {mode pad:Int} {back:Bool} {iv:Bs} (hs:0<s) (ok:D5 s mode pad iv):P1 t key s mode pad back iv []=(⟨iv,[],[]⟩,[],0):=by
 unfold P1;split
 ·rfl
 ·rw[pI hs ok]
abbrev iO (a t mode pad:Int) (back:Bool) (key iv:Bs) (rs:List V) (L a9:Bs) (x:MS×Bs×Nat):List B:=[aL a t mode pad back key iv rs L a9,C9 rs (j4 mode) back x 2,j5 x.1.row x.1.gone]
abbrev Ez (a t mode pad:Int) (back:Bool) (key iv:Bs) (rs:List V) (L a9:Bs) (x:MS×Bs×Nat):List B:=[aL a t mode pad back key iv rs L a9,C9 rs (j4 mode) back x 3,.dead,j5 x.1.row x.1.gone]
theorem wS {rs:List V} {md:Int} {back:Bool} {st:MS} {i:Nat} (h:st.row=[]):C9 rs md back (st,[],0) i=cU rs md back st.ch/\j5 st.row st.gone= .dead:=by
 obtain⟨ch,row,g⟩:=st;dsimp only at h;subst h;exact⟨rfl,rfl⟩
theorem ZQ {t key s k xs rs} (h:k5 t key s k xs rs) {mode pad:Int} {back:Bool} {iv M b a9:Bs} {m:Nat} (ok:D5 s mode pad iv) (hb:b.length=m) (hL:M.length+m<=100000) (hl:7<=mode->a9=cL t key s mode pad back iv M):
  ∃(n:Nat) (o m7:Bs),o.length=n/\cT t key s mode pad back iv (M++b)=cT t key s mode pad back iv M++o/\(7<=mode->m7=cL t key s mode pad back iv (M++b))/\
  (b9 C 39 [.p (.k 0) 0,.z m (bv b)] (iO 1 t mode pad back key iv rs (o8 s mode pad back M) a9 (P1 t key s mode pad back iv M)) (.ret (.t [.z n (bv o),i64 0])) (Ez 1 t mode pad back key iv rs (o8 s mode pad back (M++b)) m7 (P1 t key s mode pad back iv (M++b)))\/
   (P1 t key s mode pad back iv M).1.row≠[]/\b9 C 39 [.p (.k 0) 0,.z m (bv b)] (iO 1 t mode pad back key iv rs (o8 s mode pad back M) a9 (P1 t key s mode pad back iv M)) (.ret (.t [.z n (bv o),i64 0])) (iO 1 t mode pad back key iv rs (o8 s mode pad back (M++b)) m7 (P1 t key s mode pad back iv (M++b)))):=by
 have hs:=h.s_le;have K:=nE h (back:=back) (M:=M) ok;obtain⟨a,ha⟩:∃a,a=C5 s mode pad back ((o8 s mode pad back M).length+b.length):=⟨_,rfl⟩;obtain⟨u1,u2,u3⟩:=AZ (E:=cF t key false) (D:=cF t key true) (iv:=iv) (M:=M) (b:=b) h.ci (by omega) ok ha;have hHl:=gP (n:=s) (mode:=mode) (pad:=pad) (back:=back) M;obtain⟨f1,f2⟩:=gO (back:=back) (by omega) ok ((o8 s mode pad back M).length+b.length);rw[<-ha]at f1 f2;have l0:((o8 s mode pad back M++b).take a).length=a:=by rw[Ze,Zc];omega
 have lo:(k9 (cF t key false) (cF t key true) s (j4 mode) back (cS t key s mode pad back iv M) ((o8 s mode pad back M++b).take a)).1.length=a:=by
  rw[bU h.ci K.ok (by rw[l0];exact f2),l0]
 have eS:cS t key s mode pad back iv (M++b)=(k9 (cF t key false) (cF t key true) s (j4 mode) back (cS t key s mode pad back iv M) ((o8 s mode pad back M++b).take a)).2:=by
  rw[show cS t key s mode pad back iv (M++b)=(M4 (cF t key false) (cF t key true) s mode pad back iv (M++b)).2 from rfl,u1]
 have eT:cT t key s mode pad back iv (M++b)=cT t key s mode pad back iv M++(k9 (cF t key false) (cF t key true) s (j4 mode) back (cS t key s mode pad back iv M) ((o8 s mode pad back M++b).take a)).1:=by
  rw[show cT t key s mode pad back iv (M++b)=(M4 (cF t key false) (cF t key true) s mode pad back iv (M++b)).1 from rfl,u1]
 have u2:E3 s mode back ((o8 s mode pad back M++b).take a) (k9 (cF t key false) (cF t key true) s (j4 mode) back (cS t key s mode pad back iv M) ((o8 s mode pad back M++b).take a)).1 (cL t key s mode pad back iv M)=cL t key s mode pad back iv (M++b):=u2;by_cases h3:3<=j4 mode
 ·have hm6:¬7<=mode:=fun hh=>by
   have:j4 mode=2:=if_pos hh;omega
  have eH:=ug (s:=s) (pad:=pad) (back:=back) (M:=M) h3;have eH2:=ug (s:=s) (pad:=pad) (back:=back) (M:=M++b) h3;have ea:a=m:=by rw[ha,vM h3,eH,hb];simp
  rw[eH,Zz,ea,<-hb,Zy]at eT lo;have x1:P1 t key s mode pad back iv M=cX t key s (j4 mode) back iv M:=if_pos h3;have x2:P1 t key s mode pad back iv (M++b)=L7 (cF t key false) (j4 mode) back (cX t key s (j4 mode) back iv M) b:=by
   rw[show P1 t key s mode pad back iv (M++b)=cX t key s (j4 mode) back iv (M++b) from if_pos h3];exact Ep _ _ _ _ _ _
  have RR:=Iz h (back:=back) (M:=M) ok h3;have e1:=Iy (t:=t) (key:=key) (s:=s) (pad:=pad) (back:=back) (iv:=iv) (M:=M) h3;rw[<-e1]at K eT lo;have em:∀y,k9 (cF t key false) (cF t key true) s (j4 mode) back y b=y8 (cF t key false) (j4 mode) back y b:=fun y=>by unfold k9;rw[if_neg (by omega)]
  rw[em]at eT lo;rw[eH,eH2,x1,x2];by_cases hne:0<m\/(cX t key s (j4 mode) back iv M).1.row=[]
  ·have U:=Oq h (mode:=mode) (pad:=pad) (back:=back) (kk:=key) (iv:=iv) (a9:=a9) h3 K RR hb (by omega) hne;rw[hb]at lo;exact⟨m,_,a9,lo,eT,fun hh=>absurd hh hm6,.inl U⟩
  ·have m0:m=0:=by omega
   subst m0;obtain rfl:=Zh hb;have U:=Ot h (mode:=mode) (pad:=pad) (back:=back) (kk:=key) (iv:=iv) (a9:=a9) (x:=cX t key s (j4 mode) back iv M) (vb:=bv []) h3;exact⟨0,[],a9,rfl,by rw[List.append_nil,List.append_nil],fun hh=>absurd hh hm6,.inr ⟨fun hh=>hne (.inr hh),U⟩⟩
 ·have hmd:j4 mode=1\/j4 mode=2:=by have:=K.ok.m;omega
  have gn:r8 s (j4 mode)=s:=if_pos hmd;have x1:∀M,P1 t key s mode pad back iv M=(cS t key s mode pad back iv M,[],0):=fun M=>if_neg h3;have K2:=nE h (back:=back) (M:=M++b) ok;have r1:=K.ok.blk hmd;have r2:=K2.ok.blk hmd;have hch:=K.ok.ch;have ea:a=s*F9 s (B8 s (j4 mode) mode pad back) ((o8 s mode pad back M).length+m):=by rw[ha,hb];unfold C5;rw[gn]
  rw[x1,x1];unfold iO Ez;obtain⟨b1,b2⟩:=wS (rs:=rs) (md:=j4 mode) (back:=back) (i:=2) r1;obtain⟨b3,b4⟩:=wS (rs:=rs) (md:=j4 mode) (back:=back) (i:=3) r2;dsimp only
  rw[b1,b2,b3,b4];rw[eS]at r2 ⊢;rw[eT];generalize hst:cS t key s mode pad back iv M=st at*
  obtain⟨A8,row,g⟩:=st;dsimp only at r1 hch ⊢;subst r1;have hLb:(o8 s mode pad back M).length+m<=100000:=by omega
  generalize hy:k9 (cF t key false) (cF t key true) s (j4 mode) back ⟨A8,[],g⟩ ((o8 s mode pad back M++b).take a)=y at*
  obtain⟨o1,ch1,row1,g1⟩:=y;dsimp only at r2 lo ⊢;subst r2;have hg:g1=g:=by
   have h2:=hy;rw[oH hmd]at h2;simp only[Prod.mk.injEq,MS.mk.injEq]at h2;exact h2.2.2.2.symm
  subst hg;rw[ea]at hy;have U:=Oo h (mode:=mode) (pad:=pad) (back:=back) (kk:=key) (iv:=iv) (a9:=a9) (H:=o8 s mode pad back M) (b:=b) hmd hch hb hLb ok.1.2 rfl hy;rw[<-ea,u3]at U;refine⟨a,o1,E3 s 7 back ((o8 s mode pad back M++b).take a) o1 a9,lo,rfl,fun h7=> ?_,.inl (U.fg (.keep (.keep (.keep (.dd .nil)))))⟩;rw[hl h7];have e7:∀p q r,E3 s 7 back p q r=E3 s mode back p q r:=fun p q r=>by
   unfold E3;by_cases hh:s<=p.length
   ·rw[if_pos (show (7:Int)<=7/\s<=p.length from ⟨Z8 _,hh⟩),if_pos (show 7<=mode/\s<=p.length from ⟨h7,hh⟩)]
   ·rw[if_neg (show ¬((7:Int)<=7/\s<=p.length) from fun x=>hh x.2),if_neg (show ¬(7<=mode/\s<=p.length) from fun x=>hh x.2)]
  rw[e7];exact u2
theorem ZO {t key s k xs rs} (h:k5 t key s k xs rs) {mode pad:Int} {back:Bool} {iv M a9:Bs} {r:Bs×Int} (ok:D5 s mode pad iv) (hL:M.length<=100000) (hl:7<=mode->a9=cL t key s mode pad back iv M)
  (hr:r=nL (cF t key false) (cF t key true) s mode pad back (cS t key s mode pad back iv M) (cL t key s mode pad back iv M) (o8 s mode pad back M)):
  b9 C 42 [.p (.k 0) 0] (iO 1 t mode pad back key iv rs (o8 s mode pad back M) a9 (P1 t key s mode pad back iv M)) (.ret (.t [.z r.1.length (bv r.1),i64 r.2])) [iL t mode pad back key iv rs,.dead,.dead]:=by
 have hs:=h.s_le;have K:=nE h (back:=back) (M:=M) ok;have hll:=zn h (back:=back) (M:=M) ok;obtain⟨f1,f2⟩:=gO (back:=back) (by omega) ok M.length;have hHl:=gP (n:=s) (mode:=mode) (pad:=pad) (back:=back) M;obtain⟨g0,g1,g2⟩:=nN (back:=back) (by omega) ok;have hmost:(o8 s mode pad back M).length<=B8 s (j4 mode) mode pad back:=by
  rw[hHl];refine Zm fun hh=> ?_;have:=(bL (most:=B8 s (j4 mode) mode pad back) (L:=M.length) (i:=F9 (r8 s (j4 mode)) (B8 s (j4 mode) mode pad back) M.length) g0).2 (by show _+C5 s mode pad back M.length<_;omega);exact absurd this (Nat.lt_irrefl _)
 have hHb:(o8 s mode pad back M).length<=100000:=by omega
 unfold nL at hr;by_cases h7:7<=mode
 ·have e2:j4 mode=2:=if_pos h7;have hmo:(o8 s mode pad back M).length<=2*s:=by unfold B8 at hmost;rw[e2,if_neg (by decide),if_pos h7]at hmost;exact hmost
  have hll:=hll h7;rw[<-hl h7]at hll hr;rw[if_pos h7]at hr;by_cases hsm:(o8 s mode pad back M).length<s
  ·rw[if_pos hsm]at hr;subst hr;exact uE fun v8=>Oe h hll rfl ⟨h7,ok.1.2⟩ hsm
  ·rw[if_neg hsm]at hr;subst hr;have ll:(P2 (cF t key false) (cF t key true) s mode back a9 (o8 s mode pad back M)).length=(o8 s mode pad back M).length:=stT_len h.ci hll (by omega) hmo;have:=Og (x:=P1 t key s mode pad back iv M) (md:=j4 mode) ll fun v8=>Od h (mode:=mode) (pad:=pad) (back:=back) (kk:=key) (iv:=iv) (v8:=v8) hll rfl ⟨h7,ok.1.2⟩ (by omega) hmo;show b9 C 42 _ _ (.ret (.t [.z (P2 (cF t key false) (cF t key true) s mode back a9 (o8 s mode pad back M)).length _,i64 0])) _;rw[ll];exact this
 ·have e2:j4 mode=mode:=if_neg h7;rw[if_neg h7]at hr;by_cases h4:pad=4
  ·rw[if_pos h4]at hr;have hr2:r=([],if (o8 s mode pad back M).length=0 then 0 else 7):=by
    by_cases h0:(o8 s mode pad back M).length=0
    ·rw[if_pos h0];rw[Zh h0,if_pos (by rw[List.length_nil,Nat.zero_mod]),oI]at hr;exact hr
    ·rw[if_neg h0];have d8:(o8 s mode pad back M).length<r8 s (j4 mode):=by
      rcases g2 with ⟨e,hle⟩|⟨e,h3,_⟩
      ·rw[e];unfold B8 at hmost;rw[if_neg (by omega),if_neg h7,if_neg (fun hh=>hh.1 h4)]at hmost;omega
      ·rw[ug h3]at h0;exact absurd rfl h0
     rw[if_neg (by rw[Nat.mod_eq_of_lt d8];exact h0)]at hr;exact hr
   subst hr2;exact uE fun v8=>Oa h h7 h4
  ·have hm2:mode<=2:=ok.2.2.1.resolve_left h4;have hp:pad=1\/pad=2\/pad=3:=by have:=ok.2.1;omega
   have hmd:mode=1\/mode=2:=by have:=ok.1;omega
   have gn:r8 s (j4 mode)=s:=if_pos (by rw[e2];exact hmd);have r1:=K.ok.blk (by rw[e2];exact hmd);have hch:=K.ok.ch;rw[e2]at hch;rw[if_neg h4]at hr;have hmo:(o8 s mode pad back M).length<=(if back=true then s else s-1):=by
    unfold B8 at hmost;rw[if_neg (by omega),if_neg h7]at hmost;cases back
    ·rw[if_neg (by simp)]at hmost;exact hmost
    ·rw[if_pos ⟨h4,rfl⟩]at hmost;exact hmost
   have x1:P1 t key s mode pad back iv M=(cS t key s mode pad back iv M,[],0):=if_neg (by omega);rw[x1];unfold iO;obtain⟨b1,b2⟩:=wS (rs:=rs) (md:=j4 mode) (back:=back) (i:=2) r1;dsimp only
   rw[b1,b2];rw[e2]at hr ⊢;have hnz:¬(o8 s mode pad back M).length=s->True:=fun _=>trivial;generalize cS t key s mode pad back iv M=st at*
   generalize o8 s mode pad back M=H at*
   obtain⟨A8,row,g⟩:=st;dsimp only at r1 hch ⊢;subst r1;cases back
   ·rw[if_pos rfl]at hr;rw[if_neg (by decide)]at hmo;have lp:(G9 pad s H).length=s:=oR (by omega);have lo:(k9 (cF t key false) (cF t key true) s mode false ⟨A8,[],g⟩ (G9 pad s H)).1.length=s:=by rw[e2]at K gn;rw[bU h.ci K.ok (by rw[lp,gn,Zj]),lp]
    have P:=Ob h (mode:=mode) (pad:=pad) (kk:=key) (iv:=iv) (a9:=a9) (b:=H) (ch:=A8) (g:=g) (by omega) hp rfl (by omega);subst hr;show b9 C 42 _ _ (.ret (.t [.z (k9 (cF t key false) (cF t key true) s mode false ⟨A8,[],g⟩ (G9 pad s H)).1.length _,i64 0])) _;rw[lo];exact uF (.inr ⟨_,_,rfl,rfl⟩) P
   ·rw[if_neg (by decide)]at hr;by_cases hsz:H.length=s
    ·rw[if_pos hsz]at hr;have lo:(k9 (cF t key false) (cF t key true) s mode true ⟨A8,[],g⟩ H).1.length=s:=by rw[e2]at K gn;rw[bU h.ci K.ok (by rw[hsz,gn,Zj]),hsz]
     by_cases h0:D4 pad (k9 (cF t key false) (cF t key true) s mode true ⟨A8,[],g⟩ H).1=0
     ·rw[if_pos h0]at hr;subst hr;have P:=Ag h (mode:=mode) (pad:=pad) (kk:=key) (iv:=iv) (a9:=a9) (b:=H) (ch:=A8) (g:=g) (by omega) hp hsz (MQ rfl hp h.s_two lo h0) (.inl rfl);exact uF (.inl ⟨rfl,rfl⟩) (by rw[hsz];exact P)
     ·rw[if_neg h0]at hr;subst hr;have ls:(bW pad (k9 (cF t key false) (cF t key true) s mode true ⟨A8,[],g⟩ H).1).length=s-D4 pad (k9 (cF t key false) (cF t key true) s mode true ⟨A8,[],g⟩ H).1:=by unfold bW;rw[Ze,lo];omega
      have P:=Ag h (mode:=mode) (pad:=pad) (kk:=key) (iv:=iv) (a9:=a9) (b:=H) (ch:=A8) (g:=g) (by omega) hp hsz (MP rfl hp h.s_two lo h0) (.inr ⟨_,_,rfl⟩);rw[<-ls]at P;exact uF (.inr ⟨_,_,rfl,rfl⟩) (by rw[hsz];exact P)
    ·rw[if_neg hsz]at hr;subst hr;exact uE (x:=(⟨A8,[],g⟩,[],0)) (md:=mode) fun v8=>NY h h7 h4 hsz
noncomputable def Cf.r (c:Cf):List V:=open Classical in if h:∃rs,k5 c.t c.key c.s c.k c.xs rs then Classical.choose h else []
theorem Cf.okR {c:Cf} (h:c.err=0) (hk:c.key.length<=1000):k5 c.t c.key c.s c.k c.xs c.r/\D5 c.s c.mode c.pad c.iv:=by
 obtain⟨h1,ok⟩:=Cf.ok h hk;unfold Cf.r;rw[dif_pos h1];exact⟨Classical.choose_spec h1,ok⟩
noncomputable def oU:CX->Bs->List B
 | .nw,_=>[El]
 | .op c m,a9=>iO 1 c.t c.mode c.pad c.back c.key c.iv c.r (c.H (m.getD [])) a9 ((P1 c.t c.key c.s c.mode c.pad c.back c.iv (m.getD [])))
 | .cl c,_=>[iL c.t c.mode c.pad c.back c.key c.iv c.r]
noncomputable def M7 (σ:CX) (x:Cl):V:=if x.kind=2\/x.kind=3 then (match σ with
 | .op _ _=> .z (t3 σ x).1.length (bv (t3 σ x).1)
 |_=>g9)else g9
noncomputable def mW (σ:CX) (x:Cl):V×Int×Nat:=(M7 σ x,(t3 σ x).2,mJ (w7 σ x))
abbrev fv (y:V×Int×Nat):List V:=[y.1,i64 y.2.1,i64 y.2.2]
noncomputable def O4:CX->List Cl->List (V×Int×Nat)
 |_,[]=>[]
 |σ,x::l=>mW σ x::O4 (w7 σ x) l
theorem xn:∀(l:List Cl) (σ:CX),(O4 σ l).length=l.length
 |[],_=>rfl
 |x::l,σ=>congrArg (· +1) (xn l _)
theorem xk:∀(l m:List Cl) (σ:CX),O4 σ (l++m)=O4 σ l++O4 (G6 σ l) m
 |[],_,_=>rfl
 |x::l,m,σ=>congrArg (mW σ x:: ·) (xk l m _)
theorem ZZ {l:List Cl} {i:Nat} (h:i<l.length):O4 .nw (l.take (i+1))=O4 .nw (l.take i)++[mW (G6 .nw (l.take i)) l[i]]:=by
 rw[Zx,Zo h,Zu,xk];rfl
def yk (σ:CX) (a9:Bs):Prop:=match σ with
 | .op c m=>7<=c.mode->a9=c.L (m.getD [])
 |_=>True
noncomputable def sr (n i:Nat) (cs ts:List V) (bs:List B):D:=⟨[(0,.zz 8 n cs),(3,.p (.k 0) 0),(4,.o 3 (.k bs.length) 0 i),(5,i64 i)],bs++[.pl ts]⟩
noncomputable def xp (l:List Cl):Nat×Bs->D
 |(i,a9)=>sr l.length i (l.flatMap E0) ((O4 .nw (l.take i)).flatMap fv) (oU (G6 .nw (l.take i)) a9)
noncomputable def EA (l:List Cl):Nat×Bs->Prop
 |(i,a9)=>i<=l.length/\yk (G6 .nw (l.take i)) a9
theorem ZY {l:List Cl} {i:Nat} {σ σ':CX} {x:Cl} {ts:List V} {o:Bs×Int} {w:V} {m7:Bs} (h:i<l.length) (hx:l[i]=x) (hσ:G6 .nw (l.take i)=σ) (hts:(O4 .nw (l.take i)).flatMap fv=ts)
  (ho:t3 σ x=o) (hw:M7 σ x=w) (hn:w7 σ x=σ') (hl:yk σ' m7):
  EA l (i+1,m7)/\sr l.length (i+1) (l.flatMap E0) (ts++[w,i64 o.2,i64 (mJ σ')]) (oU σ' m7)=xp l (i+1,m7):=by
 subst hx;subst hσ;subst hts;subst ho;subst hw;subst hn;obtain⟨s1,_⟩:=Ex h;refine⟨⟨h,by rw[s1];exact hl⟩,?_⟩;show _=sr l.length (i+1) (l.flatMap E0) ((O4 .nw (l.take (i+1))).flatMap fv) (oU (G6 .nw (l.take (i+1))) m7);rw[s1,ZZ h,Z1];rfl
theorem fj {c:Cf} {m:Option (Bs)} {a9:Bs}:oU (.op c m) a9=iO 1 c.t c.mode c.pad c.back c.key c.iv c.r (c.H (m.getD [])) a9 ((P1 c.t c.key c.s c.mode c.pad c.back c.iv (m.getD []))):=rfl
theorem oO {c:Cf} (hs:0<c.s) (ok:D5 c.s c.mode c.pad c.iv):P1 c.t c.key c.s c.mode c.pad c.back c.iv ((none:Option (Bs)).getD [])=(⟨c.iv,[],[]⟩,[],0):=a1r hs ok
theorem oP {c:Cf}:c.H ((none:Option (Bs)).getD [])=[]:=qk
theorem ib {c:Cf} {m:Option (Bs)}:mJ (.op c m)=(c.H (m.getD [])).length:=by
 cases m with
 |none=>show 0=(o8 _ _ _ _ []).length;rw[qk];rfl
 |some M=>rfl
end Go.Scr
