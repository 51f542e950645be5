/-
  What the functions that this law alone reaches reckon, up to the law. It is no claim by itself; each contract bears its own conditions.
-/
import Derived.Test.YtgbbedfpdpnneaaGreatDoorY4
set_option linter.unusedVariables false
set_option linter.unusedSimpArgs false
set_option maxRecDepth 100000
namespace Go.Scr
open Go.Proofs
open IntWalk renaming i64_in → Za
open Nat renaming le_of_ble_eq_true → Zb
open List renaming length_append → Zc, length_cons → Zd, nil_append → Zf
open Int renaming toNat_natCast → Ze
abbrev N.law17_RunApart:=9
def rt.law17_RunApart:Rt:=[(16,[i0 [],i0 [],i0 [0,1],i0 [0,1,2],i1 [97,98,99,100,101,102,103,104,105,106,107,108,109,110,111,112,113,114,115,116,117,118,119,120,121] [0,1,2,3],i1 [98,99,100,101,102,103,104,105,106,107,108,109,110,111,112,113,114,115,116,117,118,119,120,121] [0,1,2,3,4],i0 [],i1 [92,93,94,95,96,97,100,101,102,103,104,105,106,107,108,109,110,111,112,113,114,115,116,117,118,119,120,121] [6],i1 [92,93,94,95,96,97,101,102,103,104,105,106,107,108,109,110,111,112,113,114,115,116,117,118,119,120,121] [6,7],i0 [0,1,2,3,4,5,6,7,8],i0 [0,1,2,3,4,5,6,7,8,9],i0 [0,1,2,3,4,5,6,7,8,9,10],i0 [0,1,2,3,4,5,6,7,8,9,10],i0 [0,1,2,3,4,5,6,7,8,9,10,11,12],i0 [0,1,2,3,4,5,6,7,8,9,10,11,12,13],i1 [108,109,110,111,112,113,114,115,116,117,118,119,120,121] [0,1,2,3,4,5,6,7,8,9,10,11,12,13,14],i0 [0,1,2,3,4,5,6,7,8,9,10],i1 [103,104,105,106,107,110,111,112,113,114,115,116,117,118,119,120,121] [0,1,2,3,4,5,6,7,8,9,10,16],i0 [0,1,2,3,4,5,6,7,8,9,10,11,12,13,14,15,16,17],i0 [0,1,2,3,4,5,6,7,8,9,10,11,12,13,14,15,16,17,18],i0 [0,1,2,3,4,5,6,7,8,9,10,11,12,13,14,15,16,17,18,19],i0 [0,1,2,3,4,5,6,7,8,9,10,11,12,13,14,15,16,17,18,19,20],i0 [0,1,2,3,4,5,6,7,8,9,10,11,12,13,14,15,16,17,18,19,20],i0 [0,1,2,3,4,5,6,7,8,9,10,11,12,13,14,15,16,17,18,19,20,21,22],i0 [0,1,2,3,4,5,6,7,8,9,10,11,12,13,14,15,16,17,18,19,20,21,22,23],i1 [118,119,120,121] [0,1,2,3,4,5,6,7,8,9,10,11,12,13,14,15,16,17,18,19,20,21,22,23,24],i0 [0,1,2,3,4,5,6,7,8,9,10,11,12,13,14,15,16,17,18,19,20],i1 [113,114,115,116,117,120,121] [0,1,2,3,4,5,6,7,8,9,10,11,12,13,14,15,16,17,18,19,20,26],i0 [0,1,2,3,4,5,6,7,8,9,10,11,12,13,14,15,16,17,18,19,20,21,22,23,24,25,26,27],i0 [0,1,2,3,4,5,6,7,8,9,10,11,12,13,14,15,16,17,18,19,20,21,22,23,24,25,26,27,28]])]
theorem fd.law17_RunApart:FnD C 9 rt.law17_RunApart Tryz.f9 122:=fk Tryz.func9 (by kernel_rfl)
theorem akMode_in (mode:Int):1≤akMode mode∧akMode mode≤9:=by unfold akMode;omega
theorem akPad_in (mode pad:Int):(1≤akPad mode pad∧akPad mode pad≤4)∧(akPad mode pad=4∨akMode mode≤2):=by
 unfold akPad
 split
 ·omega
 ·exact⟨by decide,.inl rfl⟩
theorem ak_ok (mode pad:Int) (s:Nat) (iv:Bs):shOk s (akMode mode) (akPad mode pad) (ivL (akMode mode) s iv):=
 ⟨akMode_in _,(akPad_in mode pad).1,(akPad_in mode pad).2,ivL_len _ _ _⟩
theorem rn_one {x:Cl} (σ:CX) (h:x.kind=1) (he:x.c.err=0):rnOut σ x=([],0)∧rnNext σ x= .op x.c none:=by
 unfold rnOut rnNext
 rw[if_pos h,if_pos h,if_pos he,he]
 exact⟨rfl,rfl⟩
theorem ask_cf {tag n mode pad:Int} {back:Bool} {k v:Bs} {s q:Nat} {xs rs:List V} (h:Ciph (tagOf tag) (keyOf (tagOf tag) n k) s q xs rs):
  (Cf.mk (tagOf tag) (akMode mode) (akPad mode pad) back (keyOf (tagOf tag) n k) (ivL (akMode mode) s v)).err=0:=by
 unfold Cf.err Cf.s
 exact shErr_ok h rfl rfl (ak_ok mode pad s v)
theorem WkL.app {a b c d:List V} (h:WkL a b) (k:WkL c d):WkL (a++c) (b++d):=by
 match h with
 | .nil=>exact k
 | .cons x l=>exact .cons x (WkL.app l k)
theorem WkL.rfl':∀(l:List V),WkL l l
 |[]=> .nil
 |_::r=> .cons (.refl _) (WkL.rfl' r)
theorem Con.argA {C:Ctx} {f:Nat} {p:V} {xs ys:List V} {bs bs':List B} {r:Oc} (h:Con C f [p,.a ys] bs r bs') (hw:WkL xs ys):Con C f [p,.a xs] bs r bs':=
 ⟨h.1,fun w F ι vs st hgl hdm hl=>h.2 w F ι vs st hgl hdm (by
  generalize vs.toList=l at hl
  cases hl with
  |cons h1 h2=>
   cases h2 with
   |cons h2 h3=>
    refine .cons h1 (.cons ?_ h3)
    cases h2 with
    |fz h2=>cases h2 with|a hl=>exact .fz (.a (hw.rf hl))
    |a hl=>exact .a (hw.r hl))⟩
abbrev clVn (x:Cl):List V:=[i64 x.kind,i64 x.c.t,i64 x.c.mode,i64 x.c.pad,bool x.c.back,.z x.c.key.length (bv x.c.key),.z x.c.iv.length (bv x.c.iv),nilv]
noncomputable def rBL:CX→Bs→List B
 | .nw,_=>[cxX false false 0 0 0 false nilp nilv nilp nilv nilv,.dead,.dead,.dead]
 | .op c none,_=>[cxX true true c.t c.mode c.pad c.back (cipV c.t c.k c.xs) (.z c.iv.length (bv c.iv)) (.p (.k 2) 0) nilv (.z c.iv.length (bv c.iv)),moX (cipV c.t c.k c.xs) (cxMd c.mode) c.back ⟨c.iv,[],[]⟩ 3,.dead,.dead]
 | .op c (some M),_=>[cxX true true c.t c.mode c.pad c.back (cipV c.t c.k c.xs) (.z c.iv.length (bv c.iv)) (.p (.k 2) 0) (.o 1 (.k 4) 0 (c.H M).length) (.z (c.L M).length (bv (c.L M))),moX (cipV c.t c.k c.xs) (cxMd c.mode) c.back (c.S M) 3,gnB (c.S M).row (c.S M).gone,.sc (bv (c.H M))]
 | .cl c,last=>[cxC' c.t c.mode c.pad c.back c.k c.xs c.iv last 2,.dead,.dead,.dead]
noncomputable def rDL (n i:Nat) (cs ts:List V) (σ:CX) (last:Bs):D:=⟨[(0,.o 8 (.k 0) 0 n),(3,.o 3 (.k 5) 0 i),(4,.p (.k 1) 0),(5,i64 i)],.pl cs::(rBL σ last++[.pl ts])⟩
noncomputable def rDLo (n i:Nat) (cs ts:List V) (c:Cf) (H L:Bs) (st:MS):D:=⟨[(0,.o 8 (.k 0) 0 n),(3,.o 3 (.k 5) 0 i),(4,.p (.k 1) 0),(5,i64 i)],[.pl cs,cxX true true c.t c.mode c.pad c.back (cipV c.t c.k c.xs) (.z c.iv.length (bv c.iv)) (.p (.k 2) 0) (.o 1 (.k 4) 0 H.length) (.z L.length (bv L)),moX (cipV c.t c.k c.xs) (cxMd c.mode) c.back st 3,gnB st.row st.gone,.sc (bv H),.pl ts]⟩
theorem rDL_o {n i:Nat} {cs ts:List V} {c:Cf} {M last:Bs}:rDL n i cs ts (.op c (some M)) last=rDLo n i cs ts c (c.H M) (c.L M) (c.S M):=rfl
set_option maxHeartbeats 4000000 in
theorem c_runL {l:List Cl} {n:Nat} {cs:List V} (hn:l.length=n) (hl:∀x∈l,ClOk x) (hb:n≤99) (hcl:cs.length=n*8) (hw:∀i (h:i<l.length),sub cs (i*8) 8=clV l[i]∨sub cs (i*8) 8=clVn l[i]∧l[i].inp=[]):
  Con C N.run_Run [.o 8 (.k 0) 0 n] [.pl cs] (.ret (.zz 3 n ((rnAll .nw l).flatMap toV))) [.pl cs]:=by
 subst hn
 refine fd.run_Run.c ?_
 refine scopeQ (α:=Nat×Bs) 0 rfl (fun p=>rDL l.length p.1 cs ((rnAll .nw (l.take p.1)).flatMap toV) (rnSt .nw (l.take p.1)) p.2) (fun p=>p.1≤l.length) (fun p=>l.length-p.1) ?_ fun p hp=> ?_
 ·refine⟨Int.le_refl _,by omega,by omega,?_⟩
  refine⟨[],_,_,_,_,c_cxnew.fg (.keep (.dd (.dd (.dd .nil)))),rfl,rfl,?_⟩
  exact⟨[],(0,[]),Nat.zero_le _,[.k 0,.d 9 0,.d 9 1,.d 9 2,.d 9 3,.d 8 0],⟨rfl,rfl,rfl,rfl,trivial⟩,⟨_,rfl,rfl⟩,⟨_,rfl,rfl⟩,⟨_,rfl,rfl⟩,⟨_,rfl,rfl⟩,⟨_,rfl,rfl⟩,⟨_,rfl,rfl⟩,trivial⟩
 ·obtain⟨i,last⟩:=p
  show vc _ _ _ _ (rDL l.length i cs ((rnAll .nw (l.take i)).flatMap toV) (rnSt .nw (l.take i)) last).s _
  have hi:i≤l.length:=hp
  have ho:=rn_ok hl i hi
  have hTl:((rnAll .nw (l.take i)).flatMap toV).length=i*3:=by rw[fm_len (e:=3) (fun _=>rfl),rnAll_len,List.length_take,Nat.min_eq_left hi]
  by_cases hlt:i<l.length
  ·obtain⟨s1,s2⟩:=rn_succ hlt
   obtain⟨last',bs,hL,ONE⟩:=c_rnone (last:=last) ho (hl l[i] (List.getElem_mem hlt)) (by have:=(hl l[i] (List.getElem_mem hlt)).2.2.2;omega)
   have ONE2:(sub cs (i*8) 8=clV l[i]∧Con C N.run_one [.p (.k 0) 0,.a (clV l[i])] (rBk (rnSt .nw (l.take i)) last) (.ret (.a (toV (rnTold (rnSt .nw (l.take i)) l[i])))) bs)∨(sub cs (i*8) 8=clVn l[i]∧Con C N.run_one [.p (.k 0) 0,.a (clVn l[i])] (rBk (rnSt .nw (l.take i)) last) (.ret (.a (toV (rnTold (rnSt .nw (l.take i)) l[i])))) bs):=by
    rcases hw i hlt with h|⟨h,he⟩
    ·exact .inl ⟨h,ONE⟩
    ·refine .inr ⟨h,ONE.argA (.cons (.refl _) (.cons (.refl _) (.cons (.refl _) (.cons (.refl _) (.cons (.refl _) (.cons (.refl _) (.cons (.refl _) (.cons ?_ .nil))))))))⟩
     rw[he];exact .nl
   clear ONE
   have hT2:((rnAll .nw (l.take (i+1))).flatMap toV)=((rnAll .nw (l.take i)).flatMap toV)++toV (rnTold (rnSt .nw (l.take i)) l[i]):=by rw[s2,List.flatMap_append];rfl
   have hX:sub cs (0+((i:Nat):Int).toNat*8) 8=sub cs (i*8) 8:=by rw[Ze,Nat.zero_add]
   have hXl:(sub cs (i*8) 8).length=8:=by rw[sub_length,hcl,Nat.min_eq_left];omega
   have goal:rDL l.length (i+1) cs ((rnAll .nw (l.take (i+1))).flatMap toV) (rnSt .nw (l.take (i+1))) last'=rDL l.length (i+1) cs ((rnAll .nw (l.take i)).flatMap toV++toV (rnTold (rnSt .nw (l.take i)) l[i])) (rnNext (rnSt .nw (l.take i)) l[i]) last':=by rw[hT2,s1]
   clear hT2 s1 s2 ho
   generalize rnTold (rnSt .nw (l.take i)) l[i]=τ at*
   generalize rnNext (rnSt .nw (l.take i)) l[i]=σ' at*
   generalize (rnAll .nw (l.take i)).flatMap toV=ts at*
   generalize rnSt .nw (l.take i)=σ at*
   generalize l[i]=x at*
   generalize sub cs (i*8) 8=ci at*
   have hts:sub ts 0 (i*3)++sub (toV τ) 0 (1*3)=ts++toV τ:=by rw[sub_all hTl];rfl
   have c0:(0:Int)≤(i:Int):=Int.natCast_nonneg i
   have c1:(i:Int)<(l.length:Int):=by omega
   have c2:i+1≤1073741824:=by omega
   have c3:0+i*3≤ts.length:=by omega
   have c4:l.length-(i+1)<l.length-i:=by omega
   rcases ONE2 with ⟨rfl,ONE⟩|⟨rfl,ONE⟩<;>rcases hL with h0|⟨d',M',rfl,rfl⟩|⟨d',M',rfl,rfl⟩|⟨d',rfl,rfl⟩
   all_goals try (obtain rfl:=h0;rcases σ' with _|⟨d',_|M'⟩|d')
   all_goals rcases σ with _|⟨d,_|M⟩|d
   all_goals try simp only[rBk_o,rU1_o,rU2_o]at ONE
   all_goals try rw[rDL_o]at goal
   all_goals try rw[rDL_o]
   all_goals try (generalize d.S M=st at *;obtain⟨ch,row,g⟩:=st;rcases row with _|⟨a,r⟩)
   all_goals try (generalize d'.S M'=st' at *;obtain⟨ch',row',g'⟩:=st';rcases row' with _|⟨a',r'⟩)
   all_goals
    refine spl_d (fun _=> ?_) (fun hh=>absurd c1 hh)
    refine⟨c0,c1,?_⟩
    refine⟨_,hX,rfl,?_⟩
    refine⟨[.k 1,.k 2,.k 3,.k 4],_,_,_,_,ONE,rfl,rfl,?_⟩
    refine⟨Zb rfl,c2,c3,?_⟩
    refine⟨rfl,(i+1,last'),hlt,c4,Mt_eq goal ?_⟩
    first
     |exact⟨[.k 0,.k 1,.k 2,.k 3,.k 4,.d 22 0],⟨rfl,rfl,rfl,q7i (by simp(disch:=omega)only[Za];omega),trivial⟩,⟨_,rfl,rfl⟩,⟨_,rfl,rfl⟩,⟨_,rfl,rfl⟩,⟨_,rfl,rfl⟩,⟨_,rfl,rfl⟩,⟨_,rfl,congrArg B.pl hts⟩,trivial⟩
     |exact⟨[.k 0,.k 1,.k 2,.d 20 4,.d 20 5,.d 22 0],⟨rfl,rfl,rfl,q7i (by simp(disch:=omega)only[Za];omega),trivial⟩,⟨_,rfl,rfl⟩,⟨_,rfl,rfl⟩,⟨_,rfl,rfl⟩,⟨_,rfl,rfl⟩,⟨_,rfl,rfl⟩,⟨_,rfl,congrArg B.pl hts⟩,trivial⟩
     |exact⟨[.k 0,.k 1,.k 2,.k 3,.d 20 4,.d 22 0],⟨rfl,rfl,rfl,q7i (by simp(disch:=omega)only[Za];omega),trivial⟩,⟨_,rfl,rfl⟩,⟨_,rfl,rfl⟩,⟨_,rfl,rfl⟩,⟨_,rfl,rfl⟩,⟨_,rfl,rfl⟩,⟨_,rfl,congrArg B.pl hts⟩,trivial⟩
     |exact⟨[.k 0,.k 1,.d 20 4,.d 20 5,.d 20 6,.d 22 0],⟨rfl,rfl,rfl,q7i (by simp(disch:=omega)only[Za];omega),trivial⟩,⟨_,rfl,rfl⟩,⟨_,rfl,rfl⟩,⟨_,rfl,rfl⟩,⟨_,rfl,rfl⟩,⟨_,rfl,rfl⟩,⟨_,rfl,congrArg B.pl hts⟩,trivial⟩
  ·have hni:i=l.length:=by omega
   subst hni
   rw[List.take_length]at*
   generalize rnSt .nw l=σ at*
   generalize (rnAll .nw l).flatMap toV=ts at*
   rcases σ with _|⟨d,_|M⟩|d
   all_goals try rw[rDL_o]
   all_goals try (generalize d.S M=st at *;obtain⟨ch,row,g⟩:=st;rcases row with _|⟨a,r⟩)
   all_goals
    refine spl_d (fun hh=>absurd hh (by omega)) (fun _=> ?_)
    exact⟨_,rfl,[.k 0],congrArg (V.zz 3 l.length) (sub_all hTl),⟨_,rfl,rfl⟩,trivial⟩
set_option maxHeartbeats 4000000 in
theorem c_law_apart {tag n mode pad:Int} {back:Bool} {lk li:Nat} {k v:Bs} {l m:List RawL} {ln lm:Nat} (hl:l.length=ln) (hlb:ln≤9223372036854775807) (hlo:∀x∈l,RawOk x) (hm:m.length=lm) (hmb:lm≤9223372036854775807) (hmo:∀x∈m,RawOk x) (h0:In64 tag) (h1:In64 n) (h2:In64 mode) (h3:In64 pad) (hk:k.length=lk) (hi:v.length=li):
  Con C N.law17_RunApart [.zz 13 ln (l.flatMap rwV),.zz 13 lm (m.flatMap rwV),askV tag n mode pad back lk k li v] [] (.ret (bool true)) []:=by
 refine fd.law17_RunApart.c ?_
 refine⟨[],_,_,_,_,c_known17,rfl,rfl,?_⟩
 by_cases hf:∀x∈l,RawFew x
 ·refine⟨[],_,_,_,_,c_few17_y hl hlb hf,rfl,rfl,?_⟩
  by_cases hg:∀x∈m,RawFew x
  ·refine⟨[],_,_,_,_,c_few17_y hm hmb hg,rfl,rfl,?_⟩
   refine⟨[i64 tag,i64 n,i64 mode,i64 pad,bool back,.z lk (bv k),.z li (bv v)],rfl,rfl,?_⟩
   by_cases hq:lk≤100∧li≤100
   ·refine⟨[],_,_,_,_,c_few_y hq,rfl,rfl,?_⟩
    obtain⟨s,q,xs,rs,h⟩:=ask_ciph tag n k
    have hs:=h.s_le
    have hM:=c_askmake (back:=back) h0 h1 h2 h3 hk hi h.hs hs.2
    have lK:=keyOf_len (tagOf tag) n k
    have lV:=ivL_len (akMode mode) s v
    have hkl:=kLen_ok (tagOf_ok tag) n
    have hKb:(keyOf (tagOf tag) n k).length≤1000:=by omega
    have hVb:(ivL (akMode mode) s v).length≤1000:=by rw[lV];unfold ivN;split<;>omega
    rw[←lK,←lV]at hM
    have M1:=c_make17 hl hlb hlo hf
    have M2:=c_make17 hm hmb hmo hg
    have o1:=mk_ok hf hlo
    have o2:=mk_ok hg hmo
    have b1:=mk_len l
    have b2:=mk_len m
    have he:=ask_cf (mode:=mode) (pad:=pad) (back:=back) (v:=v) h
    obtain⟨c,hc⟩:∃c,c=Cf.mk (tagOf tag) (akMode mode) (akPad mode pad) back (keyOf (tagOf tag) n k) (ivL (akMode mode) s v):=⟨_,rfl⟩
    rw[←hc]at he
    have hc1:ClOk ⟨1,c,[]⟩:=⟨⟨show (-9223372036854775808:Int)≤1 by decide,show(1:Int)≤9223372036854775807 by decide⟩,by rw[hc];exact hKb,by rw[hc];exact hVb,Nat.zero_le _⟩
    have hcn:clVn ⟨1,c,[]⟩=[i64 1,i64 (tagOf tag),i64 (akMode mode),i64 (akPad mode pad),bool back,V.z (keyOf (tagOf tag) n k).length (bv (keyOf (tagOf tag) n k)),V.z (ivL (akMode mode) s v).length (bv (ivL (akMode mode) s v)),nilv]:=by rw[hc]
    clear hc lK lV hkl
    generalize mkL l=A at*
    generalize mkL m=B at*
    generalize akMode mode=md at*
    generalize akPad mode pad=pd at*
    generalize ivL md s v=W at*
    generalize keyOf (tagOf tag) n k=K at*
    have ll:∀c:List Cl,(c.flatMap clV).length=c.length*8:=fun c=>fm_len (e:=8) (fun _=>rfl) c
    have oB:∀x∈(⟨1,c,[]⟩:Cl)::B,ClOk x:=fun x hx=>by
     rcases List.mem_cons.1 hx with rfl|hx
     ·exact hc1
     ·exact o2 x hx
    have lc:([i64 1,i64 (tagOf tag),i64 md,i64 pd,bool back,V.z K.length (bv K),V.z W.length (bv W),nilv]++B.flatMap clV).length=(1+B.length)*8:=by rw[Zc,ll];show 8+_=_;omega
    have R1:=c_runL (l:=(⟨1,c,[]⟩:Cl)::B) (n:=1+B.length) (cs:=[i64 1,i64 (tagOf tag),i64 md,i64 pd,bool back,V.z K.length (bv K),V.z W.length (bv W),nilv]++B.flatMap clV) (by rw[Zd];omega) oB (by omega) lc (fun i hi=>by
     rcases i with _|i
     ·refine .inr ⟨?_,rfl⟩
      show sub ([i64 1,i64 (tagOf tag),i64 md,i64 pd,bool back,V.z K.length (bv K),V.z W.length (bv W),nilv]++B.flatMap clV) (0*8) 8=clVn ⟨1,c,[]⟩
      rw[hcn];rfl
     ·refine .inl ?_
      have hi':i<B.length:=by simpa using hi
      show sub ([i64 1,i64 (tagOf tag),i64 md,i64 pd,bool back,V.z K.length (bv K),V.z W.length (bv W),nilv]++B.flatMap clV) ((i+1)*8) 8=clV B[i]
      rw[←fm_sub (f:=clV) (e:=8) (fun _=>rfl) B i hi']
      unfold sub
      rw[show (i+1)*8=8+i*8 by omega,List.drop_append,List.drop_of_length_le (by show 8≤_;omega),Zf,show 8+i*8-([i64 1,i64 (tagOf tag),i64 md,i64 pd,bool back,V.z K.length (bv K),V.z W.length (bv W),nilv]).length=i*8 from Nat.add_sub_cancel_left 8 (i*8)])
    have R2:=c_run (l:=A++(⟨1,c,[]⟩:Cl)::B) (n:=0+A.length+(1+B.length)) (by rw[Zc,Zd];omega) (fun x hx=>(List.mem_append.1 hx).elim (o1 x) (oB x)) (by omega)
    have R2:=R2.argz (xs:=A.flatMap clV++([i64 1,i64 (tagOf tag),i64 md,i64 pd,bool back,V.z K.length (bv K),V.z W.length (bv W),nilv]++B.flatMap clV)) (by
     rw[List.flatMap_append,List.flatMap_cons]
     refine(WkL.rfl' _).app (WkL.app ?_ (WkL.rfl' _))
     rw[←hcn]
     exact .cons (.refl _) (.cons (.refl _) (.cons (.refl _) (.cons (.refl _) (.cons (.refl _) (.cons (.refl _) (.cons (.refl _) (.cons .nl .nil))))))))
    obtain⟨X,hX⟩:∃X,X=rnAll .nw ((⟨1,c,[]⟩:Cl)::B):=⟨_,rfl⟩
    obtain⟨Y,hY⟩:∃Y,Y=rnAll .nw (A++(⟨1,c,[]⟩:Cl)::B):=⟨_,rfl⟩
    rw[←hX]at R1
    rw[←hY]at R2
    have lX:X.length=1+B.length:=by rw[hX,rnAll_len,Zd];omega
    have lY:Y.length=A.length+(1+B.length):=by rw[hY,rnAll_len,Zc,Zd];omega
    have any:∀σ,rnAll σ ((⟨1,c,[]⟩:Cl)::B)=(⟨[],0,0⟩:To)::rnAll (.op c none) B:=fun σ=>by
     have f:=rn_one (x:=⟨1,c,[]⟩) σ rfl he
     show rnTold σ ⟨1,c,[]⟩::rnAll (rnNext σ ⟨1,c,[]⟩) B=_
     rw[f.2]
     congr 1
     unfold rnTold
     rw[f.1,f.2];rfl
    have hYX:Y=rnAll .nw A++X:=by rw[hY,hX,rnAll_app,any,any]
    have lA:(rnAll .nw A).length=A.length:=rnAll_len _ _
    clear hX hY any hcn
    have e2:sub ([]++A.flatMap clV) 0 ((0+A.length)*8)=A.flatMap clV:=by rw[Zf,Nat.zero_add,sub_all (ll A)]
    have e3:sub ([i64 1,i64 (tagOf tag),i64 md,i64 pd,bool back,V.z K.length (bv K),V.z W.length (bv W),nilv]++B.flatMap clV) 0 ((1+B.length)*8)=[i64 1,i64 (tagOf tag),i64 md,i64 pd,bool back,V.z K.length (bv K),V.z W.length (bv W),nilv]++B.flatMap clV:=sub_all lc
    refine⟨[],_,_,_,_,M1,rfl,rfl,?_⟩
    refine⟨[],_,_,_,_,M2,rfl,rfl,?_⟩
    refine⟨_,rfl,rfl,?_⟩
    refine⟨[],_,_,_,_,hM,rfl,rfl,?_⟩
    refine⟨Zb rfl,?_⟩
    refine⟨_,rfl,rfl,?_⟩
    refine⟨ll B,by omega,Zb rfl,?_⟩
    refine⟨[.d 55 0],_,_,_,_,R1,rfl,rfl,?_⟩
    refine⟨ll A,by omega,Nat.le_refl _,?_⟩
    refine⟨by show 0+(1+B.length)*8≤([i64 1,i64 (tagOf tag),i64 md,i64 pd,bool back,V.z K.length (bv K),V.z W.length (bv W),nilv]++B.flatMap clV).length;rw[lc];omega,by omega,by show 0+(0+A.length)*8≤([]++A.flatMap clV).length;rw[Zf,ll];omega,?_⟩
    refine⟨[],_,_,_,_,R2,?_,rfl,?_⟩
    ·show[V.zz 8 (0+A.length+(1+B.length)) (sub (sub ([]++A.flatMap clV) 0 ((0+A.length)*8)++sub ([i64 1,i64 (tagOf tag),i64 md,i64 pd,bool back,V.z K.length (bv K),V.z W.length (bv W),nilv]++B.flatMap clV) 0 ((1+B.length)*8)) 0 ((0+A.length+(1+B.length))*8))]=_
     rw[e2,e3,sub_all (by rw[Zc,ll,lc];omega)]
    refine spl_ne (fun hh=>absurd rfl hh) (fun _=> ?_)
    refine spl_ne (fun hh=>absurd (by rw[Za _ (by omega)];omega) hh) (fun _=> ?_)
    clear R1 R2 M1 M2 e2 e3 lc hM
    refine loopN (fun i=>⟨[(7,.zz 8 A.length (A.flatMap clV)),(14,.zz 3 (1+B.length) (X.flatMap toV)),(15,.zz 3 (0+A.length+(1+B.length)) (Y.flatMap toV)),(16,i64 i)],[]⟩) (1+B.length) ⟨[],⟨rfl,rfl,rfl,rfl,trivial⟩,trivial⟩ fun i hi=> ?_
    refine spl_d (fun hlt=> ?_) (fun hge=> ?_)
    ·have hx:i<X.length:=by omega
     have hy:A.length+i<Y.length:=by omega
     have w1:IntKind.i64.wrap ((A.length:Int)+(i:Int))=((A.length+i:Nat):Int):=by rw[Za _ (by omega)];omega
     have ey:Y[A.length+i]=X[i]:=by
      simp only[hYX]
      rw[List.getElem_append_right (by omega)]
      congr 1
      omega
     have gy:sub (Y.flatMap toV) ((IntKind.i64.wrap ((A.length:Int)+(i:Int))).toNat*3) 3=toV Y[A.length+i]:=by rw[w1,Ze];exact fm_sub (f:=toV) (e:=3) (fun _=>rfl) Y _ hy
     have gx:=fun k hk=>to_get hx k hk (j:=((i:Nat):Int).toNat*3+k) (by rw[Ze])
     rw[ey]at gy
     generalize X[i]=τ at*
     have c0:(0:Int)≤(i:Int):=Int.natCast_nonneg i
     have a3:0≤IntKind.i64.wrap ((A.length:Int)+(i:Int)):=by rw[w1];omega
     have a4:IntKind.i64.wrap ((A.length:Int)+(i:Int))<((0+A.length+(1+B.length):Nat):Int):=by rw[w1];omega
     refine⟨a3,a4,?_⟩
     refine⟨_,gy,rfl,?_⟩
     refine⟨Zb rfl,?_⟩
     refine⟨c0,hlt,?_⟩
     refine⟨_,gx 0 (by decide),?_⟩
     refine⟨bv_len _,_,rfl,?_⟩
     refine⟨_,rfl,?_⟩
     refine⟨bv_len _,_,rfl,?_⟩
     refine spl_f (by simp) ?_
     refine⟨c0,hlt,?_⟩
     refine⟨_,gx 1 (by decide),?_⟩
     refine⟨_,rfl,?_⟩
     refine spl_ne (fun hh=>absurd rfl hh) (fun _=> ?_)
     refine⟨c0,hlt,?_⟩
     refine⟨_,gx 2 (by decide),?_⟩
     refine⟨_,rfl,?_⟩
     refine spl_ne (fun hh=>absurd rfl hh) (fun _=> ?_)
     exact⟨i+1,by omega,by omega,[],⟨rfl,rfl,rfl,q7i (by simp(disch:=omega)only[Za];omega),trivial⟩,trivial⟩
    ·exact⟨_,rfl,[],rfl,trivial⟩
   ·refine⟨[],_,_,_,_,c_few_n hq,rfl,rfl,?_⟩
    exact⟨_,rfl,[],rfl,trivial⟩
  ·refine⟨[],_,_,_,_,c_few17_n hm hmb hg,rfl,rfl,?_⟩
   exact⟨_,rfl,[],rfl,trivial⟩
 ·refine⟨[],_,_,_,_,c_few17_n hl hlb hf,rfl,rfl,?_⟩
  exact⟨_,rfl,[],rfl,trivial⟩
end Go.Scr
