/-
  What the functions that this law alone reaches reckon, up to the law. It is no claim by itself; each contract bears its own conditions.
-/
import Derived.Test.YtgbbedfpdpnneaaGreatDoorY4
set_option linter.unusedVariables false
set_option linter.unusedSimpArgs false
set_option maxRecDepth 100000
namespace Go.Scr
open Go.Proofs
open List renaming length_append → Za
abbrev N.law17_RunFronts:=8
def rt.law17_RunFronts:Rt:=[(13,[i0 [],i0 [],i0 [0,1],i0 [0,1,2],i1 [66,67,68,69,70,71,72,73,74,75,76,77,78,79,80,81,82,83,84,85,86,87,88,89,90,91,92,93,94,95,96,97,98,99] [0,1,2,3],i1 [67,68,69,70,71,72,73,74,75,76,77,78,79,80,81,82,83,84,85,86,87,88,89,90,91,92,93,94,95,96,97,98,99] [0,1,2,3,4],i0 [],i0 [],i0 [6,7],i0 [6,7,8],i1 [61,62,63,64,65,66,72,73,74,75,76,77,78,79,80,81,82,83,84,85,86,87,88,89,90,91,92,93,94,95,96,97,98,99] [6,7,8,9],i1 [61,62,63,64,65,66,73,74,75,76,77,78,79,80,81,82,83,84,85,86,87,88,89,90,91,92,93,94,95,96,97,98,99] [6,7,8,9,10],i0 [0,1,2,3,4,5,6,7,8,9,10,11],i0 [0,1,2,3,4,5,6,7,8,9,10,11,12],i0 [0,1,2,3,4,5,6,7,8,9,10,11,12,13],i0 [0,1,2,3,4,5,6,7,8,9,10,11,12,13],i0 [0,1,2,3,4,5,6,7,8,9,10,11,12,13,14,15],i0 [0,1,2,3,4,5,6,7,8,9,10,11,12,13,14,15,16],i1 [80,81,82,83,84,85,86,87,88,89,90,91,92,93,94,95,96,97,98,99] [0,1,2,3,4,5,6,7,8,9,10,11,12,13,14,15,16,17],i0 [0,1,2,3,4,5,6,7,8,9,10,11,12,13],i0 [0,1,2,3,4,5,6,7,8,9,10,11,12,13],i0 [0,1,2,3,4,5,6,7,8,9,10,11,12,13,19,20],i0 [0,1,2,3,4,5,6,7,8,9,10,11,12,13,19,20,21],i1 [75,76,77,78,79,85,86,87,88,89,90,91,92,93,94,95,96,97,98,99] [0,1,2,3,4,5,6,7,8,9,10,11,12,13,19,20,21,22],i0 [0,1,2,3,4,5,6,7,8,9,10,11,12,13,14,15,16,17,18,19,20,21,22,23],i0 [0,1,2,3,4,5,6,7,8,9,10,11,12,13,14,15,16,17,18,19,20,21,22,23,24],i0 [0,1,2,3,4,5,6,7,8,9,10,11,12,13,14,15,16,17,18,19,20,21,22,23,24,25],i0 [0,1,2,3,4,5,6,7,8,9,10,11,12,13,14,15,16,17,18,19,20,21,22,23,24,25,26],i0 [0,1,2,3,4,5,6,7,8,9,10,11,12,13,14,15,16,17,18,19,20,21,22,23,24,25,26],i0 [0,1,2,3,4,5,6,7,8,9,10,11,12,13,14,15,16,17,18,19,20,21,22,23,24,25,26,27,28],i0 [0,1,2,3,4,5,6,7,8,9,10,11,12,13,14,15,16,17,18,19,20,21,22,23,24,25,26,27,28,29],i1 [93,94,95,96,97,98,99] [0,1,2,3,4,5,6,7,8,9,10,11,12,13,14,15,16,17,18,19,20,21,22,23,24,25,26,27,28,29,30],i0 [0,1,2,3,4,5,6,7,8,9,10,11,12,13,14,15,16,17,18,19,20,21,22,23,24,25,26],i0 [0,1,2,3,4,5,6,7,8,9,10,11,12,13,14,15,16,17,18,19,20,21,22,23,24,25,26],i0 [0,1,2,3,4,5,6,7,8,9,10,11,12,13,14,15,16,17,18,19,20,21,22,23,24,25,26,32,33],i0 [0,1,2,3,4,5,6,7,8,9,10,11,12,13,14,15,16,17,18,19,20,21,22,23,24,25,26,32,33,34],i1 [88,89,90,91,92,98,99] [0,1,2,3,4,5,6,7,8,9,10,11,12,13,14,15,16,17,18,19,20,21,22,23,24,25,26,32,33,34,35],i0 [0,1,2,3,4,5,6,7,8,9,10,11,12,13,14,15,16,17,18,19,20,21,22,23,24,25,26,27,28,29,30,31,32,33,34,35,36],i0 [0,1,2,3,4,5,6,7,8,9,10,11,12,13,14,15,16,17,18,19,20,21,22,23,24,25,26,27,28,29,30,31,32,33,34,35,36,37]])]
theorem fd.law17_RunFronts:FnD C 8 rt.law17_RunFronts Tryz.f8 100:=fk Tryz.func8 (by kernel_rfl)
set_option maxHeartbeats 4000000 in
theorem c_law_fronts {l m:List RawL} {ln lm:Nat} (hl:l.length=ln) (hlb:ln≤9223372036854775807) (hlo:∀x∈l,RawOk x) (hm:m.length=lm) (hmb:lm≤9223372036854775807) (hmo:∀x∈m,RawOk x):
  Con C N.law17_RunFronts [.zz 13 ln (l.flatMap rwV),.zz 13 lm (m.flatMap rwV)] [] (.ret (bool true)) []:=by
 refine fd.law17_RunFronts.c ?_
 refine⟨[],_,_,_,_,c_known17,rfl,rfl,?_⟩
 by_cases hf:∀x∈l,RawFew x
 ·refine⟨[],_,_,_,_,c_few17_y hl hlb hf,rfl,rfl,?_⟩
  by_cases hg:∀x∈m,RawFew x
  ·refine⟨[],_,_,_,_,c_few17_y hm hmb hg,rfl,rfl,?_⟩
   have M1:=c_make17 hl hlb hlo hf
   have M2:=c_make17 hm hmb hmo hg
   have o1:=mk_ok hf hlo
   have o2:=mk_ok hg hmo
   have b1:=mk_len l
   have b2:=mk_len m
   generalize mkL l=a at*
   generalize mkL m=b at*
   have R1:=c_run (l:=a) rfl o1 (by omega)
   have R2:=c_run (l:=a++b) (n:=a.length+b.length) Za (fun x hx=>(List.mem_append.1 hx).elim (o1 x) (o2 x)) (by omega)
   have ll:∀c:List Cl,(c.flatMap clV).length=c.length*8:=fun c=>fm_len (e:=8) (fun _=>rfl) c
   refine⟨[],_,_,_,_,M1,rfl,rfl,?_⟩
   refine⟨[],_,_,_,_,M2,rfl,rfl,?_⟩
   refine⟨[],_,_,_,_,R1,rfl,rfl,?_⟩
   refine⟨ll a,by omega,Nat.le_refl _,?_⟩
   refine⟨ll b,by omega,by show _≤([]++a.flatMap clV).length;rw[List.nil_append,ll];omega,?_⟩
   refine⟨[],_,_,_,_,R2,?_,rfl,?_⟩
   ·show[V.zz 8 (0+a.length+b.length) (sub (sub ([]++a.flatMap clV) 0 ((0+a.length)*8)++b.flatMap clV) 0 ((0+a.length+b.length)*8))]=_
    rw[List.nil_append,Nat.zero_add,sub_all (ll a),←List.flatMap_append,sub_all (by rw[ll,Za])]
   obtain⟨X,hX⟩:∃X,X=rnAll .nw a:=⟨_,rfl⟩
   obtain⟨Y,hY⟩:∃Y,Y=rnAll .nw (a++b):=⟨_,rfl⟩
   have lX:X.length=a.length:=by rw[hX,rnAll_len]
   have lY:Y.length=a.length+b.length:=by rw[hY,rnAll_len,Za]
   have eXY:∀i (h:i<X.length) (h':i<Y.length),Y[i]=X[i]:=fun i h h'=>by
    have:Y=X++rnAll (rnSt .nw a) b:=by rw[hX,hY,rnAll_app]
    simp only[this]
    exact List.getElem_append_left h
   rw[←hX,←hY]
   refine spl_ne (fun hh=>absurd rfl hh) (fun _=> ?_)
   refine spl_ne (fun hh=>absurd (by rw[IntWalk.i64_in _ (by omega)];push_cast;rfl) hh) (fun _=> ?_)
   refine loopN (fun i=>⟨[(9,.zz 3 a.length (X.flatMap toV)),(10,.zz 3 (a.length+b.length) (Y.flatMap toV)),(11,i64 i)],[]⟩) a.length ⟨[],⟨rfl,rfl,rfl,trivial⟩,trivial⟩ fun i hi=> ?_
   refine spl_d (fun hlt=> ?_) (fun hge=> ?_)
   ·have h1:i<X.length:=by omega
    have h2:i<Y.length:=by omega
    have eY:=eXY i h1 h2
    have gx:=fun k hk=>to_get h1 k hk (j:=((i:Nat):Int).toNat*3+k) (by rw[Int.toNat_natCast])
    have gy:=fun k hk=>to_get h2 k hk (j:=((i:Nat):Int).toNat*3+k) (by rw[Int.toNat_natCast])
    rw[eY]at gy
    generalize X[i]=τ at*
    have c0:(0:Int)≤(i:Int):=Int.natCast_nonneg i
    have c1:(i:Int)<((a.length+b.length:Nat):Int):=by omega
    refine⟨c0,hlt,?_⟩
    refine⟨_,gx 0 (by decide),?_⟩
    refine⟨bv_len _,_,rfl,?_⟩
    refine⟨c0,c1,?_⟩
    refine⟨_,gy 0 (by decide),?_⟩
    refine⟨bv_len _,_,rfl,?_⟩
    refine spl_f (by simp) ?_
    refine⟨c0,hlt,?_⟩
    refine⟨_,gx 1 (by decide),?_⟩
    refine⟨c0,c1,?_⟩
    refine⟨_,gy 1 (by decide),?_⟩
    refine spl_ne (fun hh=>absurd rfl hh) (fun _=> ?_)
    refine⟨c0,hlt,?_⟩
    refine⟨_,gx 2 (by decide),?_⟩
    refine⟨c0,c1,?_⟩
    refine⟨_,gy 2 (by decide),?_⟩
    refine spl_ne (fun hh=>absurd rfl hh) (fun _=> ?_)
    exact⟨i+1,by omega,by omega,[],⟨rfl,rfl,q7i (by simp(disch:=omega)only[IntWalk.i64_in];omega),trivial⟩,trivial⟩
   ·exact⟨_,rfl,[],rfl,trivial⟩
  ·refine⟨[],_,_,_,_,c_few17_n hm hmb hg,rfl,rfl,?_⟩
   exact⟨_,rfl,[],rfl,trivial⟩
 ·refine⟨[],_,_,_,_,c_few17_n hl hlb hf,rfl,rfl,?_⟩
  exact⟨_,rfl,[],rfl,trivial⟩
end Go.Scr
