/-
  What the functions that this law alone reaches reckon, up to the law. It is no claim by itself; each contract bears its own conditions.
-/
import Derived.Test.YtgbbedfpdpnneaaGreatDoorY4
set_option linter.unusedVariables false
set_option linter.unusedSimpArgs false
set_option maxRecDepth 100000
namespace Go.Scr
open Go.Proofs
open List renaming length_append → Za, flatMap_append → Zd, getElem_append_right → Zf, mem_append → Zg, mem_singleton → Zh
open Nat renaming le_of_ble_eq_true → Zb, zero_le → Zi
open IntWalk renaming i64_in → Zc
open Int renaming toNat_natCast → Ze
open Go.IntKind renaming i64 → I6
abbrev N.law17_RunReset:=11
def rt.law17_RunReset:Rt:=[(23,[i0 [],i0 [],i0 [],i0 [1,2],i0 [0,1,2,3],i0 [0,1,2,3,4],i1 [130,131,132,133,134,135,136,137,138,139,140,141,142,143,144,145,146,147,148,149,150,151,152,153,154,155,156,157,158,159,160,161,162,163,164,165,166,167,168,169,170] [0,1,2,3,4,5],i1 [131,132,133,134,135,136,137,138,139,140,141,142,143,144,145,146,147,148,149,150,151,152,153,154,155,156,157,158,159,160,161,162,163,164,165,166,167,168,169,170] [0,1,2,3,4,5,6],i0 [],i0 [],i0 [9],i0 [8,9,10],i0 [8,9,10,11],i1 [123,124,125,126,127,128,129,130,137,138,139,140,141,142,143,144,145,146,147,148,149,150,151,152,153,154,155,156,157,158,159,160,161,162,163,164,165,166,167,168,169,170] [8,9,10,11,12],i1 [123,124,125,126,127,128,129,130,138,139,140,141,142,143,144,145,146,147,148,149,150,151,152,153,154,155,156,157,158,159,160,161,162,163,164,165,166,167,168,169,170] [8,9,10,11,12,13],i0 [0,1,2,3,4,5,6,7,8,9,10,11,12,13,14],i0 [0,1,2,3,4,5,6,7,8,9,10,11,12,13,14,15],i0 [0,1,2,3,4,5,6,7,8,9,10,11,12,13,14,15,16],i0 [0,1,2,3,4,5,6,7,8,9,10,11,12,13,14,15,16],i0 [0,1,2,3,4,5,6,7,8,9,10,11,12,13,14,15,16],i0 [0,1,2,3,4,5,6,7,8,9,10,11,12,13,14,15,16,18,19],i0 [0,1,2,3,4,5,6,7,8,9,10,11,12,13,14,15,16,17,18,19,20],i0 [0,1,2,3,4,5,6,7,8,9,10,11,12,13,14,15,16,17,18,19,20,21],i1 [147,148,149,150,151,152,153,154,155,156,157,158,159,160,161,162,163,164,165,166,167,168,169,170] [0,1,2,3,4,5,6,7,8,9,10,11,12,13,14,15,16,17,18,19,20,21,22],i0 [0,1,2,3,4,5,6,7,8,9,10,11,12,13,14,15,16],i0 [0,1,2,3,4,5,6,7,8,9,10,11,12,13,14,15,16],i0 [0,1,2,3,4,5,6,7,8,9,10,11,12,13,14,15,16,25],i0 [0,1,2,3,4,5,6,7,8,9,10,11,12,13,14,15,16,24,25,26],i0 [0,1,2,3,4,5,6,7,8,9,10,11,12,13,14,15,16,24,25,26,27],i1 [140,141,142,143,144,145,146,153,154,155,156,157,158,159,160,161,162,163,164,165,166,167,168,169,170] [0,1,2,3,4,5,6,7,8,9,10,11,12,13,14,15,16,24,25,26,27,28],i0 [0,1,2,3,4,5,6,7,8,9,10,11,12,13,14,15,16,17,18,19,20,21,22,23,24,25,26,27,28,29],i0 [0,1,2,3,4,5,6,7,8,9,10,11,12,13,14,15,16,17,18,19,20,21,22,23,24,25,26,27,28,29,30],i0 [0,1,2,3,4,5,6,7,8,9,10,11,12,13,14,15,16,17,18,19,20,21,22,23,24,25,26,27,28,29,30,31],i0 [0,1,2,3,4,5,6,7,8,9,10,11,12,13,14,15,16,17,18,19,20,21,22,23,24,25,26,27,28,29,30,31,32],i0 [0,1,2,3,4,5,6,7,8,9,10,11,12,13,14,15,16,17,18,19,20,21,22,23,24,25,26,27,28,29,30,31,32],i0 [0,1,2,3,4,5,6,7,8,9,10,11,12,13,14,15,16,17,18,19,20,21,22,23,24,25,26,27,28,29,30,31,32],i0 [0,1,2,3,4,5,6,7,8,9,10,11,12,13,14,15,16,17,18,19,20,21,22,23,24,25,26,27,28,29,30,31,32,34,35],i0 [0,1,2,3,4,5,6,7,8,9,10,11,12,13,14,15,16,17,18,19,20,21,22,23,24,25,26,27,28,29,30,31,32,33,34,35,36],i0 [0,1,2,3,4,5,6,7,8,9,10,11,12,13,14,15,16,17,18,19,20,21,22,23,24,25,26,27,28,29,30,31,32,33,34,35,36,37],i1 [163,164,165,166,167,168,169,170] [0,1,2,3,4,5,6,7,8,9,10,11,12,13,14,15,16,17,18,19,20,21,22,23,24,25,26,27,28,29,30,31,32,33,34,35,36,37,38],i0 [0,1,2,3,4,5,6,7,8,9,10,11,12,13,14,15,16,17,18,19,20,21,22,23,24,25,26,27,28,29,30,31,32],i0 [0,1,2,3,4,5,6,7,8,9,10,11,12,13,14,15,16,17,18,19,20,21,22,23,24,25,26,27,28,29,30,31,32],i0 [0,1,2,3,4,5,6,7,8,9,10,11,12,13,14,15,16,17,18,19,20,21,22,23,24,25,26,27,28,29,30,31,32,41],i0 [0,1,2,3,4,5,6,7,8,9,10,11,12,13,14,15,16,17,18,19,20,21,22,23,24,25,26,27,28,29,30,31,32,40,41,42],i0 [0,1,2,3,4,5,6,7,8,9,10,11,12,13,14,15,16,17,18,19,20,21,22,23,24,25,26,27,28,29,30,31,32,40,41,42,43],i1 [156,157,158,159,160,161,162,169,170] [0,1,2,3,4,5,6,7,8,9,10,11,12,13,14,15,16,17,18,19,20,21,22,23,24,25,26,27,28,29,30,31,32,40,41,42,43,44],i0 [0,1,2,3,4,5,6,7,8,9,10,11,12,13,14,15,16,17,18,19,20,21,22,23,24,25,26,27,28,29,30,31,32,33,34,35,36,37,38,39,40,41,42,43,44,45],i0 [0,1,2,3,4,5,6,7,8,9,10,11,12,13,14,15,16,17,18,19,20,21,22,23,24,25,26,27,28,29,30,31,32,33,34,35,36,37,38,39,40,41,42,43,44,45,46]])]
theorem fd.law17_RunReset:FnD C 11 rt.law17_RunReset Tryz.f11 171:=fk Tryz.func11 (by kernel_rfl)
theorem akMode_in (mode:Int):1≤akMode mode∧akMode mode≤9:=by unfold akMode;omega
theorem akPad_in (mode pad:Int):(1≤akPad mode pad∧akPad mode pad≤4)∧(akPad mode pad=4∨akMode mode≤2):=by
 unfold akPad
 split
 ·omega
 ·exact⟨by decide,.inl rfl⟩
theorem ak_ok (mode pad:Int) (s:Nat) (iv:Bs):shOk s (akMode mode) (akPad mode pad) (ivL (akMode mode) s iv):=
 ⟨akMode_in _,(akPad_in mode pad).1,(akPad_in mode pad).2,ivL_len _ _ _⟩
theorem rn_one {x:Cl} (σ:CX) (h:x.kind=1) (he:x.c.err=0):rnOut σ x=([],0)∧rnNext σ x= .op x.c none:=by
 unfold rnOut rnNext
 rw[if_pos h,if_pos h,if_pos he,he]
 exact⟨rfl,rfl⟩
theorem rn_four {c:Cf} {σ:CX} {x:Cl} (h:x.kind=4) (hσ:(∃m,σ= .op c m)∨σ= .cl c):rnOut σ x=([],0)∧rnNext σ x= .op c none:=by
 unfold rnOut rnNext
 rw[if_neg (by omega),if_neg (by omega),if_neg (by omega),if_pos h,if_neg (by omega),if_neg (by omega),if_neg (by omega),if_pos h]
 rcases hσ with ⟨m,rfl⟩|rfl<;>exact⟨rfl,rfl⟩
theorem rn_stay {c:Cf}:∀(l:List Cl) (σ:CX),(∀x∈l,x.kind≠1)→(∃m,σ= .op c m)∨σ= .cl c→(∃m,rnSt σ l= .op c m)∨rnSt σ l= .cl c
 |[],_,_,h=>h
 |x::r,σ,hk,h=>by
  have h1:=hk x (List.mem_cons_self ..)
  refine rn_stay r (rnNext σ x) (fun y hy=>hk y (List.mem_cons_of_mem _ hy)) ?_
  unfold rnNext
  rw[if_neg h1]
  rcases h with ⟨m,rfl⟩|rfl
  ·split
   ·exact .inl ⟨_,rfl⟩
   ·split
    ·exact .inr rfl
    ·split
     ·exact .inl ⟨_,rfl⟩
     ·exact .inl ⟨_,rfl⟩
  ·split
   ·exact .inr rfl
   ·split
    ·exact .inr rfl
    ·split
     ·exact .inl ⟨_,rfl⟩
     ·exact .inr rfl
theorem ask_cf {tag n mode pad:Int} {back:Bool} {k v:Bs} {s q:Nat} {xs rs:List V} (h:Ciph (tagOf tag) (keyOf (tagOf tag) n k) s q xs rs):
  (Cf.mk (tagOf tag) (akMode mode) (akPad mode pad) back (keyOf (tagOf tag) n k) (ivL (akMode mode) s v)).err=0:=by
 unfold Cf.err Cf.s
 exact shErr_ok h rfl rfl (ak_ok mode pad s v)
abbrev noIn (a:List Cl):List Cl:=a.filter fun x=>x.kind != 1
theorem noIn_len (a:List Cl):(noIn a).length≤a.length:=List.length_filter_le _ _
theorem noIn_succ (a:List Cl) {i:Nat} (h:i<a.length):noIn (a.take (i+1))=noIn (a.take i)++(if a[i].kind=1 then []else [a[i]]):=by
 unfold noIn
 rw[List.take_add_one,List.getElem?_eq_getElem h,Option.toList_some,List.filter_append]
 congr 1
 by_cases h1:a[i].kind=1
 ·rw[if_pos h1,List.filter_cons_of_neg (by simp[h1]),List.filter_nil]
 ·rw[if_neg h1,List.filter_cons_of_pos (by simp[h1]),List.filter_nil]
theorem WkL.app {a b c d:List V} (h:WkL a b) (k:WkL c d):WkL (a++c) (b++d):=by
 match h with
 | .nil=>exact k
 | .cons x l=>exact .cons x (WkL.app l k)
theorem WkL.rfl':∀(l:List V),WkL l l
 |[]=> .nil
 |_::r=> .cons (.refl _) (WkL.rfl' r)
set_option maxHeartbeats 4000000 in
theorem c_law_reset {tag n mode pad:Int} {back:Bool} {lk li:Nat} {k v:Bs} {l m:List RawL} {ln lm:Nat} (h0:In64 tag) (h1:In64 n) (h2:In64 mode) (h3:In64 pad) (hk:k.length=lk) (hi:v.length=li) (hl:l.length=ln) (hlb:ln≤9223372036854775807) (hlo:∀x∈l,RawOk x) (hm:m.length=lm) (hmb:lm≤9223372036854775807) (hmo:∀x∈m,RawOk x):
  Con C N.law17_RunReset [askV tag n mode pad back lk k li v,.zz 13 ln (l.flatMap rwV),.zz 13 lm (m.flatMap rwV)] [] (.ret (bool true)) []:=by
 refine fd.law17_RunReset.c ?_
 refine⟨[],_,_,_,_,c_known17,rfl,rfl,?_⟩
 refine⟨[i64 tag,i64 n,i64 mode,i64 pad,bool back,.z lk (bv k),.z li (bv v)],rfl,rfl,?_⟩
 by_cases hq:lk≤100∧li≤100
 ·refine⟨[],_,_,_,_,c_few_y hq,rfl,rfl,?_⟩
  by_cases hf:∀x∈l,RawFew x
  ·refine⟨[],_,_,_,_,c_few17_y hl hlb hf,rfl,rfl,?_⟩
   by_cases hg:∀x∈m,RawFew x
   ·refine⟨[],_,_,_,_,c_few17_y hm hmb hg,rfl,rfl,?_⟩
    obtain⟨s,q,xs,rs,h⟩:=ask_ciph tag n k
    have hs:=h.s_le
    have hM:=c_askmake (back:=back) h0 h1 h2 h3 hk hi h.hs hs.2
    have lK:=keyOf_len (tagOf tag) n k
    have lV:=ivL_len (akMode mode) s v
    have hkl:=kLen_ok (tagOf_ok tag) n
    have hKb:(keyOf (tagOf tag) n k).length≤1000:=by omega
    have hVb:(ivL (akMode mode) s v).length≤1000:=by rw[lV];unfold ivN;split<;>omega
    rw[←lK,←lV]at hM
    have M1:=c_make17 hl hlb hlo hf
    have M2:=c_make17 hm hmb hmo hg
    have o1:=mk_ok hf hlo
    have o2:=mk_ok hg hmo
    have b1:=mk_len l
    have b2:=mk_len m
    have he:=ask_cf (mode:=mode) (pad:=pad) (back:=back) (v:=v) h
    obtain⟨c,hc⟩:∃c,c=Cf.mk (tagOf tag) (akMode mode) (akPad mode pad) back (keyOf (tagOf tag) n k) (ivL (akMode mode) s v):=⟨_,rfl⟩
    rw[←hc]at he
    have hw1:WkL [i64 1,i64 (tagOf tag),i64 (akMode mode),i64 (akPad mode pad),bool back,.z (keyOf (tagOf tag) n k).length (bv (keyOf (tagOf tag) n k)),.z (ivL (akMode mode) s v).length (bv (ivL (akMode mode) s v)),nilv] (clV ⟨1,c,[]⟩):=by
     rw[hc]
     exact .cons (.refl _) (.cons (.refl _) (.cons (.refl _) (.cons (.refl _) (.cons (.refl _) (.cons (.refl _) (.cons (.refl _) (.cons .nl .nil)))))))
    have hc1:ClOk ⟨1,c,[]⟩:=⟨⟨show (-9223372036854775808:Int)≤1 by decide,show(1:Int)≤9223372036854775807 by decide⟩,by rw[hc];exact hKb,by rw[hc];exact hVb,Zi _⟩
    clear hc lK lV hkl
    generalize mkL l=A at*
    generalize mkL m=B at*
    generalize akMode mode=md at*
    generalize akPad mode pad=pd at*
    generalize ivL md s v=W at*
    generalize keyOf (tagOf tag) n k=K at*
    have hc4:ClOk (cl0 4):=⟨⟨show (-9223372036854775808:Int)≤4 by decide,show(4:Int)≤9223372036854775807 by decide⟩,Zi _,Zi _,Zi _⟩
    have hw4:WkL [i64 4,i64 0,i64 0,i64 0,bool false,nilv,nilv,nilv] (clV (cl0 4)):= .cons (.refl _) (.cons (.refl _) (.cons (.refl _) (.cons (.refl _) (.cons (.refl _) (.cons .nl (.cons .nl (.cons .nl .nil)))))))
    have ll:∀c:List Cl,(c.flatMap clV).length=c.length*8:=fun c=>fm_len (e:=8) (fun _=>rfl) c
    have nb:=noIn_len A
    have no:=fun x (hx:x∈noIn A)=>o1 x (List.mem_filter.1 hx).1
    have nk:∀x∈noIn A,x.kind≠1:=fun x hx=>by simpa using (List.mem_filter.1 hx).2
    have R1:=c_run (l:=[⟨1,c,[]⟩]++noIn A++[cl0 4]++B) (n:=1+(noIn A).length+1+B.length) (by rw[Za,Za,Za];rfl) (fun x hx=>by
     rcases Zg.1 hx with hx|hx
     ·rcases Zg.1 hx with hx|hx
      ·rcases Zg.1 hx with hx|hx
       ·rw[Zh.1 hx];exact hc1
       ·exact no x hx
      ·rw[Zh.1 hx];exact hc4
     ·exact o2 x hx) (by omega)
    have R2:=c_run (l:=[⟨1,c,[]⟩]++B) (n:=1+B.length) (by rw[Za];rfl) (fun x hx=>by
     rcases Zg.1 hx with hx|hx
     ·rw[Zh.1 hx];exact hc1
     ·exact o2 x hx) (by omega)
    have R1:=R1.argz (xs:=[i64 1,i64 (tagOf tag),i64 md,i64 pd,bool back,.z K.length (bv K),.z W.length (bv W),nilv]++(noIn A).flatMap clV++[i64 4,i64 0,i64 0,i64 0,bool false,nilv,nilv,nilv]++B.flatMap clV) (by
     rw[Zd,Zd,Zd]
     exact((hw1.app (WkL.rfl' _)).app hw4).app (WkL.rfl' _))
    have R2:=R2.argz (xs:=[i64 1,i64 (tagOf tag),i64 md,i64 pd,bool back,.z K.length (bv K),.z W.length (bv W),nilv]++B.flatMap clV) (by
     rw[Zd]
     exact hw1.app (WkL.rfl' _))
    obtain⟨X,hX⟩:∃X,X=rnAll .nw ([⟨1,c,[]⟩]++noIn A++[cl0 4]++B):=⟨_,rfl⟩
    obtain⟨Y,hY⟩:∃Y,Y=rnAll .nw ([⟨1,c,[]⟩]++B):=⟨_,rfl⟩
    rw[←hX]at R1
    rw[←hY]at R2
    have lX:X.length=1+(noIn A).length+1+B.length:=by rw[hX,rnAll_len,Za,Za,Za];rfl
    have lY:Y.length=1+B.length:=by rw[hY,rnAll_len,Za];rfl
    obtain⟨Z,hZ⟩:∃Z,Z=rnAll (.op c none) B:=⟨_,rfl⟩
    have f1:=rn_one (x:=⟨1,c,[]⟩) .nw rfl he
    obtain⟨P,τ4,hP,h4,hXe⟩:∃(P:List To) (τ4:To),P.length=1+(noIn A).length∧τ4.e=0∧X=P++[τ4]++Z:=by
     have st:(∃m,rnSt .nw ([⟨1,c,[]⟩]++noIn A)= .op c m)∨rnSt .nw ([⟨1,c,[]⟩]++noIn A)= .cl c:=by
      unfold rnSt
      rw[List.foldl_append,List.foldl_cons,List.foldl_nil,f1.2]
      exact rn_stay (noIn A) (.op c none) nk (.inl ⟨none,rfl⟩)
     have f4:=rn_four (x:=cl0 4) rfl st
     refine⟨rnAll .nw ([⟨1,c,[]⟩]++noIn A),rnTold (rnSt .nw ([⟨1,c,[]⟩]++noIn A)) (cl0 4),by rw[rnAll_len,Za];rfl,?_,?_⟩
     ·show(rnOut _ _).2=0
      rw[f4.1]
     ·rw[hX,hZ,rnAll_app,rnAll_app]
      have e2:rnSt .nw ([⟨1,c,[]⟩]++noIn A++[cl0 4])= .op c none:=by
       show List.foldl rnNext .nw ([⟨1,c,[]⟩]++noIn A++[cl0 4])=_
       rw[List.foldl_append]
       exact f4.2
      rw[e2];rfl
    have hYe:∃τ1,Y=[τ1]++Z:=by
     refine⟨rnTold .nw ⟨1,c,[]⟩,?_⟩
     rw[hY,hZ,rnAll_app]
     have e2:rnSt .nw [(⟨1,c,[]⟩:Cl)]= .op c none:=f1.2
     rw[e2];rfl
    obtain⟨τ1,hYe⟩:=hYe
    have lZ:Z.length=B.length:=by rw[hZ,rnAll_len]
    clear hX hY hZ f1 nk no
    refine⟨_,rfl,rfl,?_⟩
    refine⟨[],_,_,_,_,hM,rfl,rfl,?_⟩
    refine⟨Zb rfl,?_⟩
    refine⟨_,rfl,rfl,?_⟩
    refine⟨Zb rfl,?_⟩
    refine⟨[],_,_,_,_,M1,rfl,rfl,?_⟩
    refine⟨[],_,_,_,_,M2,rfl,rfl,?_⟩
    refine loopNn (fun i=>⟨[(10,.q [i64 1,i64 (tagOf tag),i64 md,i64 pd,bool back,.z K.length (bv K),.z W.length (bv W),nilv] 0),(11,.zz 8 A.length (A.flatMap clV)),(13,.zz 8 B.length (B.flatMap clV)),(15,.o 8 (.k 0) 0 (noIn (A.take i)).length),(16,i64 i)],[.pl ((noIn (A.take i)).flatMap clV)]⟩) A.length [(15,8,.pl [])] ⟨[.d 900000 0],⟨rfl,rfl,rfl,rfl,rfl,trivial⟩,⟨_,rfl,rfl⟩,trivial⟩ fun i hi=> ?_
    refine spl_d (fun hlt=> ?_) (fun hge=> ?_)
    ·have hl':i<A.length:=by omega
     have c0:(0:Int)≤(i:Int):=Int.natCast_nonneg i
     have g0:(A.flatMap clV)[((i:Nat):Int).toNat*8+0]? =(clV A[i])[0]? :=by rw[Ze];exact fm_get (f:=clV) (e:=8) (fun _=>rfl) A i hl' 0 (by decide)
     have gx:sub (A.flatMap clV) (((i:Nat):Int).toNat*8) 8=clV A[i]:=by rw[Ze];exact fm_sub (f:=clV) (e:=8) (fun _=>rfl) A i hl'
     have sc:=noIn_succ A hl'
     have nl:=ll (noIn (A.take i))
     have nlb:(noIn (A.take i)).length≤25:=Nat.le_trans (noIn_len _) (by rw[List.length_take];omega)
     refine⟨c0,hlt,?_⟩
     refine⟨_,g0,?_⟩
     refine spl_ne (fun hne=> ?_) (fun heq=> ?_)
     ·rw[if_neg hne]at sc
      refine⟨c0,hlt,?_⟩
      refine⟨_,gx,rfl,?_⟩
      refine⟨Zb rfl,by omega,by omega,?_⟩
      refine⟨i+1,by omega,by omega,[.d 74 0],⟨rfl,rfl,rfl,?_,q7i (by simp(disch:=omega)only[Zc];omega),trivial⟩,⟨_,rfl,congrArg Go.Scr.B.pl ?_⟩,trivial⟩
      ·rw[sc,Za];rfl
      ·rw[sc,Zd,sub_all nl];rfl
     ·rw[if_pos heq,List.append_nil]at sc
      refine⟨i+1,by omega,by omega,[.k 0],⟨rfl,rfl,rfl,?_,q7i (by simp(disch:=omega)only[Zc];omega),trivial⟩,⟨_,rfl,?_⟩,trivial⟩
      ·rw[sc];rfl
      ·first|(rw [sc];done)|(rw [sc];rfl)
    ·have hni:i=A.length:=by omega
     subst hni
     rw[List.take_length]
     have nl:=ll (noIn A)
     have e1:sub [i64 1,i64 (tagOf tag),i64 md,i64 pd,bool back,V.z K.length (bv K),V.z W.length (bv W),nilv] 0 (1*8)++sub ((noIn A).flatMap clV) 0 ((noIn A).length*8)=[i64 1,i64 (tagOf tag),i64 md,i64 pd,bool back,V.z K.length (bv K),V.z W.length (bv W),nilv]++(noIn A).flatMap clV:=by rw[sub_all nl];rfl
     have l1:([i64 1,i64 (tagOf tag),i64 md,i64 pd,bool back,V.z K.length (bv K),V.z W.length (bv W),nilv]++(noIn A).flatMap clV).length=(1+(noIn A).length)*8:=by rw[Za,nl];show 8+_=_;omega
     have e2:sub (sub [i64 1,i64 (tagOf tag),i64 md,i64 pd,bool back,V.z K.length (bv K),V.z W.length (bv W),nilv] 0 (1*8)++sub ((noIn A).flatMap clV) 0 ((noIn A).length*8)) 0 ((1+(noIn A).length)*8)++[Value.int .i64 4,.int .i64 0,.int .i64 0,.int .i64 0,.bool false,.slice none 0 0,.slice none 0 0,.slice none 0 0].map V.s=[i64 1,i64 (tagOf tag),i64 md,i64 pd,bool back,V.z K.length (bv K),V.z W.length (bv W),nilv]++(noIn A).flatMap clV++[i64 4,i64 0,i64 0,i64 0,bool false,nilv,nilv,nilv]:=by rw[e1,sub_all l1];rfl
     have l2:([i64 1,i64 (tagOf tag),i64 md,i64 pd,bool back,V.z K.length (bv K),V.z W.length (bv W),nilv]++(noIn A).flatMap clV++[i64 4,i64 0,i64 0,i64 0,bool false,nilv,nilv,nilv]).length=(1+(noIn A).length+1)*8:=by rw[Za,l1];show _+8=_;omega
     have l3:([i64 1,i64 (tagOf tag),i64 md,i64 pd,bool back,V.z K.length (bv K),V.z W.length (bv W),nilv]++(noIn A).flatMap clV++[i64 4,i64 0,i64 0,i64 0,bool false,nilv,nilv,nilv]++B.flatMap clV).length=(1+(noIn A).length+1+B.length)*8:=by rw[Za,l2,ll];omega
     have l4:([i64 1,i64 (tagOf tag),i64 md,i64 pd,bool back,V.z K.length (bv K),V.z W.length (bv W),nilv]++B.flatMap clV).length=(1+B.length)*8:=by rw[Za,ll];show 8+_=_;omega
     generalize (noIn A).length=M at*
     generalize (noIn A).flatMap clV=ms at*
     refine⟨_,rfl,rfl,?_⟩
     refine⟨by omega,by omega,Zb rfl,?_⟩
     refine⟨Zb rfl,by omega,by show 0+(1+M)*8≤(sub [i64 1,i64 (tagOf tag),i64 md,i64 pd,bool back,V.z K.length (bv K),V.z W.length (bv W),nilv] 0 (1*8)++sub ms 0 (M*8)).length;rw[e1,l1];omega,?_⟩
     refine⟨ll B,by omega,by show 0+(1+M+1)*8≤(sub (sub [i64 1,i64 (tagOf tag),i64 md,i64 pd,bool back,V.z K.length (bv K),V.z W.length (bv W),nilv] 0 (1*8)++sub ms 0 (M*8)) 0 ((1+M)*8)++[Value.int .i64 4,.int .i64 0,.int .i64 0,.int .i64 0,.bool false,.slice none 0 0,.slice none 0 0,.slice none 0 0].map V.s).length;rw[e2,l2];omega,?_⟩
     refine⟨[],_,_,_,_,R1,?_,rfl,?_⟩
     ·show[V.zz 8 (1+M+1+B.length) (sub (sub (sub (sub [i64 1,i64 (tagOf tag),i64 md,i64 pd,bool back,V.z K.length (bv K),V.z W.length (bv W),nilv] 0 (1*8)++sub ms 0 (M*8)) 0 ((1+M)*8)++[Value.int .i64 4,.int .i64 0,.int .i64 0,.int .i64 0,.bool false,.slice none 0 0,.slice none 0 0,.slice none 0 0].map V.s) 0 ((1+M+1)*8)++B.flatMap clV) 0 ((1+M+1+B.length)*8))]=_
      rw[e2,sub_all l2,sub_all l3]
     refine⟨_,rfl,rfl,?_⟩
     refine⟨ll B,by omega,Zb rfl,?_⟩
     refine⟨[],_,_,_,_,R2,?_,rfl,?_⟩
     ·show[V.zz 8 (1+B.length) (sub (sub [i64 1,i64 (tagOf tag),i64 md,i64 pd,bool back,V.z K.length (bv K),V.z W.length (bv W),nilv] 0 (1*8)++B.flatMap clV) 0 ((1+B.length)*8))]=_
      rw[show sub [i64 1,i64 (tagOf tag),i64 md,i64 pd,bool back,V.z K.length (bv K),V.z W.length (bv W),nilv] 0 (1*8)++B.flatMap clV=[i64 1,i64 (tagOf tag),i64 md,i64 pd,bool back,V.z K.length (bv K),V.z W.length (bv W),nilv]++B.flatMap clV from rfl,sub_all l4]
     clear e1 l1 e2 l2 l3 l4 R1 R2 M1 M2
     have wM:I6.wrap ((M:Int)+2)=((M+2:Nat):Int):=by rw[Zc _ (by omega)];omega
     have wM1:I6.wrap (((M+2:Nat):Int)-1)=((M+1:Nat):Int):=by rw[Zc _ (by omega)];omega
     have g4:=to_get (ts:=X) (i:=M+1) (by omega) 1 (by decide) (j:=(((M+1:Nat):Int)).toNat*3+1) (by rw[Ze])
     have x4:X[M+1]'(by omega)=τ4:=by
      simp only[hXe]
      rw[List.getElem_append_left (by rw[Za,hP];show _<_+1;omega),Zf (by omega)]
      simp
     rw[x4]at g4
     refine spl_ne (fun hh=>absurd (by rw[wM,Zc _ (by omega)];omega) hh) (fun _=> ?_)
     refine spl_ne (fun hh=>absurd (by rw[Zc _ (by omega)];omega) hh) (fun _=> ?_)
     refine⟨by rw[wM,wM1];omega,by rw[wM,wM1];omega,?_⟩
     refine⟨_,by rw[wM,wM1];exact g4,?_⟩
     refine spl_ne (fun hh=>absurd h4 hh) (fun _=> ?_)
     refine loopN (fun i=>⟨[(13,.zz 8 B.length (B.flatMap clV)),(17,.zz 3 (1+M+1+B.length) (X.flatMap toV)),(18,.zz 3 (1+B.length) (Y.flatMap toV)),(19,i64 ((M+2:Nat):Int)),(20,i64 i)],[]⟩) B.length ⟨[],⟨rfl,rfl,rfl,q7i wM,rfl,trivial⟩,trivial⟩ fun i hi=> ?_
     refine spl_d (fun hlt=> ?_) (fun hge=> ?_)
     ·have hz:i<Z.length:=by omega
      have w1:I6.wrap (((M+2:Nat):Int)+(i:Int))=((M+2+i:Nat):Int):=by rw[Zc _ (by omega)];omega
      have w2:I6.wrap (1+(i:Int))=((1+i:Nat):Int):=by rw[Zc _ (by omega)];omega
      have hx1:M+2+i<X.length:=by omega
      have hy1:1+i<Y.length:=by omega
      have ex:X[M+2+i]=Z[i]:=by
       simp only[hXe]
       rw[Zf (by rw[Za,hP];show _+1≤_;omega)]
       congr 1
       rw[Za,hP];show _-(_+1)=_;omega
      have ey:Y[1+i]=Z[i]:=by
       simp only[hYe]
       rw[Zf (by show 1≤_;omega)]
       congr 1
       show 1+i-1=i;omega
      have gx:=fun k hk=>to_get hx1 k hk (j:=(I6.wrap (((M+2:Nat):Int)+(i:Int))).toNat*3+k) (by rw[w1,Ze])
      have gy:=fun k hk=>to_get hy1 k hk (j:=(I6.wrap (1+(i:Int))).toNat*3+k) (by rw[w2,Ze])
      rw[ex]at gx
      rw[ey]at gy
      generalize Z[i]=τ at*
      have a1:0≤I6.wrap (((M+2:Nat):Int)+(i:Int)):=by rw[w1];omega
      have a2:I6.wrap (((M+2:Nat):Int)+(i:Int))<((1+M+1+B.length:Nat):Int):=by rw[w1];omega
      have a3:0≤I6.wrap (1+(i:Int)):=by rw[w2];omega
      have a4:I6.wrap (1+(i:Int))<((1+B.length:Nat):Int):=by rw[w2];omega
      refine⟨a1,a2,?_⟩
      refine⟨_,gx 0 (by decide),?_⟩
      refine⟨bv_len _,_,rfl,?_⟩
      refine⟨a3,a4,?_⟩
      refine⟨_,gy 0 (by decide),?_⟩
      refine⟨bv_len _,_,rfl,?_⟩
      refine spl_f (by simp) ?_
      refine⟨a1,a2,?_⟩
      refine⟨_,gx 1 (by decide),?_⟩
      refine⟨a3,a4,?_⟩
      refine⟨_,gy 1 (by decide),?_⟩
      refine spl_ne (fun hh=>absurd rfl hh) (fun _=> ?_)
      refine⟨a1,a2,?_⟩
      refine⟨_,gx 2 (by decide),?_⟩
      refine⟨a3,a4,?_⟩
      refine⟨_,gy 2 (by decide),?_⟩
      refine spl_ne (fun hh=>absurd rfl hh) (fun _=> ?_)
      exact⟨i+1,by omega,by omega,[],⟨rfl,rfl,rfl,rfl,q7i (by simp(disch:=omega)only[Zc];omega),trivial⟩,trivial⟩
     ·exact⟨_,rfl,[],rfl,trivial⟩
   ·refine⟨[],_,_,_,_,c_few17_n hm hmb hg,rfl,rfl,?_⟩
    exact⟨_,rfl,[],rfl,trivial⟩
  ·refine⟨[],_,_,_,_,c_few17_n hl hlb hf,rfl,rfl,?_⟩
   exact⟨_,rfl,[],rfl,trivial⟩
 ·refine⟨[],_,_,_,_,c_few_n hq,rfl,rfl,?_⟩
  exact⟨_,rfl,[],rfl,trivial⟩
end Go.Scr
