/-
  What the functions that this law alone reaches reckon, up to the law. It is no claim by itself; each contract bears its own conditions.
-/
import Derived.Test.YthhlfpbfdkogfaaGreatDoorY5
set_option linter.unusedVariables false
set_option linter.defProp false
set_option linter.unusedSimpArgs false
set_option maxRecDepth 100000
namespace Go.Scr
open Go.Proofs
def rt.law17_RunPlays:Rt:=[(12,[i0 [],i0 [],i0 [0,1],i0 [0,1,2],i1 [38,39,40,41,42,43,44,45,46,47,48,49,50,51,52,53,54,55,56,57,58,59,60,61,62,63,64,65,66,67,68,69,70,71] [0,1,2,3],i1 [39,40,41,42,43,44,45,46,47,48,49,50,51,52,53,54,55,56,57,58,59,60,61,62,63,64,65,66,67,68,69,70,71] [0,1,2,3,4],i0 [],i0 [],i0 [6,7],i0 [6,7,8],i1 [33,34,35,36,37,38,44,45,46,47,48,49,50,51,52,53,54,55,56,57,58,59,60,61,62,63,64,65,66,67,68,69,70,71] [6,7,8,9],i1 [33,34,35,36,37,38,45,46,47,48,49,50,51,52,53,54,55,56,57,58,59,60,61,62,63,64,65,66,67,68,69,70,71] [6,7,8,9,10],i0 [0,1,2,3,4,5,6,7,8,9,10,11],i0 [0,1,2,3,4,5,6,7,8,9,10,11,12],i0 [0,1,2,3,4,5,6,7,8,9,10,11,12,13],i0 [0,1,2,3,4,5,6,7,8,9,10,11,12,13],i0 [0,1,2,3,4,5,6,7,8,9,10,11,12,13,14,15],i0 [0,1,2,3,4,5,6,7,8,9,10,11,12,13,14,15,16],i1 [52,53,54,55,56,57,58,59,60,61,62,63,64,65,66,67,68,69,70,71] [0,1,2,3,4,5,6,7,8,9,10,11,12,13,14,15,16,17],i0 [0,1,2,3,4,5,6,7,8,9,10,11,12,13],i0 [0,1,2,3,4,5,6,7,8,9,10,11,12,13],i0 [0,1,2,3,4,5,6,7,8,9,10,11,12,13,19,20],i0 [0,1,2,3,4,5,6,7,8,9,10,11,12,13,19,20,21],i1 [47,48,49,50,51,57,58,59,60,61,62,63,64,65,66,67,68,69,70,71] [0,1,2,3,4,5,6,7,8,9,10,11,12,13,19,20,21,22],i0 [0,1,2,3,4,5,6,7,8,9,10,11,12,13,14,15,16,17,18,19,20,21,22,23],i0 [0,1,2,3,4,5,6,7,8,9,10,11,12,13,14,15,16,17,18,19,20,21,22,23,24],i0 [0,1,2,3,4,5,6,7,8,9,10,11,12,13,14,15,16,17,18,19,20,21,22,23,24,25],i0 [0,1,2,3,4,5,6,7,8,9,10,11,12,13,14,15,16,17,18,19,20,21,22,23,24,25,26],i0 [0,1,2,3,4,5,6,7,8,9,10,11,12,13,14,15,16,17,18,19,20,21,22,23,24,25,26],i0 [0,1,2,3,4,5,6,7,8,9,10,11,12,13,14,15,16,17,18,19,20,21,22,23,24,25,26,27,28],i0 [0,1,2,3,4,5,6,7,8,9,10,11,12,13,14,15,16,17,18,19,20,21,22,23,24,25,26,27,28,29],i1 [65,66,67,68,69,70,71] [0,1,2,3,4,5,6,7,8,9,10,11,12,13,14,15,16,17,18,19,20,21,22,23,24,25,26,27,28,29,30],i0 [0,1,2,3,4,5,6,7,8,9,10,11,12,13,14,15,16,17,18,19,20,21,22,23,24,25,26],i0 [0,1,2,3,4,5,6,7,8,9,10,11,12,13,14,15,16,17,18,19,20,21,22,23,24,25,26],i0 [0,1,2,3,4,5,6,7,8,9,10,11,12,13,14,15,16,17,18,19,20,21,22,23,24,25,26,32,33],i0 [0,1,2,3,4,5,6,7,8,9,10,11,12,13,14,15,16,17,18,19,20,21,22,23,24,25,26,32,33,34],i1 [60,61,62,63,64,70,71] [0,1,2,3,4,5,6,7,8,9,10,11,12,13,14,15,16,17,18,19,20,21,22,23,24,25,26,32,33,34,35],i0 [0,1,2,3,4,5,6,7,8,9,10,11,12,13,14,15,16,17,18,19,20,21,22,23,24,25,26,27,28,29,30,31,32,33,34,35,36],i0 [0,1,2,3,4,5,6,7,8,9,10,11,12,13,14,15,16,17,18,19,20,21,22,23,24,25,26,27,28,29,30,31,32,33,34,35,36,37]])]
def fd.law17_RunPlays:=fk rt.law17_RunPlays 72 Tryz.func7
theorem c_law_plays {l:List RawL} {ln:Nat} (hl:l.length=ln) (hlb:ln<=9223372036854775807) (hlo:∀x∈l,RawOk x):
  b9 C 7 [.zz 13 ln (l.flatMap rwV)] [] (.ret (bool true)) []:=by
 refine fd.law17_RunPlays.c ?_;refine⟨[],_,_,_,_,a38,rfl,rfl,?_⟩;by_cases hf:∀x∈l,nk x
 ·refine⟨[],_,_,_,_,a37 hl hlb hf,rfl,rfl,?_⟩;have M1:=a39 hl hlb hlo hf;have o1:=a4f hf hlo;have b1:=a4e l;generalize iu l=A at*
  have R1:=Al (l:=A) rfl o1 (by omega);have R2:=a4a (l:=A) rfl o1 (by omega);refine⟨[],_,_,_,_,M1,rfl,rfl,?_⟩;refine⟨[],_,_,_,_,R1,rfl,rfl,?_⟩;refine⟨[],_,_,_,_,R2,rfl,rfl,?_⟩;refine p6 (fun hh=>absurd rfl hh) (fun _=> ?_);have lX:(L8 .nw A).length=A.length:=xi _ _;have lY:(O4 .nw A).length=A.length:=xn _ _;refine m9 (fun i=>⟨[(5,.zz 3 A.length ((L8 .nw A).flatMap S5)),(6,.zz 3 A.length ((O4 .nw A).flatMap fv)),(7,i64 i)],[]⟩) A.length ⟨[],⟨rfl,rfl,rfl,tq⟩,tq⟩ fun i hi=> ?_;refine d9 (fun d8=> ?_) (fun hge=> ?_)
  ·have h0:i<A.length:=by omega
   have h1:i<(L8 .nw A).length:=by omega
   have h2:i<(O4 .nw A).length:=by omega
   have gx:=fun k hk=>a4k h1 k hk (j:=((i:Nat):Int).toNat*3+k) (by rw[Int.toNat_natCast]);have gy:∀k,k<3->((O4 .nw A).flatMap fv)[((i:Nat):Int).toNat*3+k]? =(fv (O4 .nw A)[i])[k]? :=fun k hk=>by rw[Int.toNat_natCast];exact lQ (f:=fv) (e:=3) (fun _=>rfl) (O4 .nw A) i h2 k hk
   rw[a4h h0 h1]at gx;rw[a4i h0 h2]at gy;have hO:=a4g (G6 .nw (A.take i)) A[i];have c0:(0:Int)<=(i:Int):=Int.natCast_nonneg i;unfold mW at gy;generalize M7 (G6 .nw (A.take i)) A[i]=w at*
   unfold ca at gx;generalize mJ (w7 (G6 .nw (A.take i)) A[i])=hd at*
   generalize t3 (G6 .nw (A.take i)) A[i]=o at*
   obtain⟨o,e⟩:=o;rcases hO with rfl|⟨rfl,ho⟩
   ·refine⟨c0,d8,?_⟩;refine⟨_,gx 0 (by decide),?_⟩;refine⟨j6 _,_,rfl,?_⟩;refine⟨c0,d8,?_⟩;refine⟨_,gy 0 (by decide),?_⟩;refine⟨j6 _,_,rfl,?_⟩;refine E5 (by simp) ?_;refine⟨c0,d8,?_⟩;refine⟨_,gx 1 (by decide),?_⟩;refine⟨c0,d8,?_⟩;refine⟨_,gy 1 (by decide),?_⟩;refine p6 (fun hh=>absurd rfl hh) (fun _=> ?_);refine⟨c0,d8,?_⟩;refine⟨_,gx 2 (by decide),?_⟩;refine⟨c0,d8,?_⟩;refine⟨_,gy 2 (by decide),?_⟩;refine p6 (fun hh=>absurd rfl hh) (fun _=> ?_);exact⟨i+1,by omega,by omega,[],⟨rfl,rfl,f8 (by simp(disch:=omega)only[IntWalk.i64_in];omega),tq⟩,tq⟩
   ·dsimp only at ho;refine⟨c0,d8,?_⟩;refine⟨_,gx 0 (by decide),?_⟩;refine⟨j6 _,_,rfl,?_⟩;refine⟨c0,d8,?_⟩;refine⟨_,gy 0 (by decide),?_⟩;refine⟨o,by rw[ho];rfl,?_⟩;refine E5 (by simp) ?_;refine⟨c0,d8,?_⟩;refine⟨_,gx 1 (by decide),?_⟩;refine⟨c0,d8,?_⟩;refine⟨_,gy 1 (by decide),?_⟩;refine p6 (fun hh=>absurd rfl hh) (fun _=> ?_);refine⟨c0,d8,?_⟩;refine⟨_,gx 2 (by decide),?_⟩;refine⟨c0,d8,?_⟩;refine⟨_,gy 2 (by decide),?_⟩;refine p6 (fun hh=>absurd rfl hh) (fun _=> ?_);exact⟨i+1,by omega,by omega,[],⟨rfl,rfl,f8 (by simp(disch:=omega)only[IntWalk.i64_in];omega),tq⟩,tq⟩
  ·exact⟨_,rfl,[],rfl,tq⟩
 ·refine⟨[],_,_,_,_,a36 hl hlb hf,rfl,rfl,?_⟩;exact⟨_,rfl,[],rfl,tq⟩
end Go.Scr
