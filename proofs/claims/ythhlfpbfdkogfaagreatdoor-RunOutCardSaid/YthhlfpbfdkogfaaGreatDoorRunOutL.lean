/-
  What the functions that this law alone reaches reckon, up to the law. It is no claim by itself; each contract bears its own conditions.
-/
import Derived.Test.YthhlfpbfdkogfaaGreatDoorY4
set_option linter.unusedVariables false
set_option linter.defProp false
set_option linter.unusedSimpArgs false
set_option maxRecDepth 100000
namespace Go.Scr
open Go.Proofs
open Nat renaming zero_le → Za
open Int renaming toNat_natCast → Zb
def rt.law17_RunOut:Rt:=[(19,[i0 [],i0 [],i0 [],i0 [1,2],i0 [1,2,3],i1 [81,87,88,89,90,91,92,93,94,95,96,7,8] [1,2,3,4],i1 [81,88,89,90,91,92,93,94,95,96,7,8] [1,2,3,4,5],i0 [0,1,2,3,4,5,6],i0 [],i0 [],i0 [],i0 [9,10],i0 [9,10,11],i1 [81,82,83,84,85,86,87,88,89,95,96,7,8] [9,10,11,12],i1 [81,82,83,84,85,86,87,88,89,96,7,8] [9,10,11,12,13],i0 [8,9,10,11,12,13,14],i0 [0,1,2,3,4,5,6,7],i0 [0,1,2,3,4,5,6,7,8,9,10,11,12,13,14,15,16]]),(23,[i0 [],i0 [],i0 [0,1],i0 [0,1,2],i1 [120,121,122,123,124,125,126,127,128,129,130,131,132,114,133,134,10,11] [0,1,2,3],i0 [],i0 [],i0 [5,6],i0 [5,6,7],i1 [115,116,117,118,119,125,126,127,128,129,130,131,132,114,133,134,10,11] [5,6,7,8],i0 [],i0 [],i0 [10,11],i0 [10,11,12],i1 [115,116,117,118,119,120,121,122,123,124,130,131,132,114,133,134,10,11] [10,11,12,13],i0 [],i1 [115,116,117,118,119,120,121,122,123,124,125,126,127,128,129,132,114,133,134,10,11] [15],i2 [114,133,134,10,11] [0,1,2,3,4,5,6,7,8,9,10,11,12,13,14,15,16],i0 [0,1,2,3,4,5,6,7,8,9,10,11,12,13,14,15,16,17],i0 [0,1,2,3,4,5,6,7,8,9,10,11,12,13,14,15,16,17,18],i0 [0,1,2,3,4,5,6,7,8,9,10,11,12,13,14,15,16,17,18],i0 [0,1,2,3,4,5,6,7,8,9,10,11,12,13,14,15,16,17,18,19],i0 [0,1,2,3,4,5,6,7,8,9,10,11,12,13,14,15,16,17,18,19,20,21]]),(24,[i0 [],i0 [],i0 [0,1],i0 [0,1,2],i1 [140,141,142,143,144,145,146,147,148,149,150,151,152,153,154,155,156,157,158] [0,1,2,3],i0 [],i0 [0,1,2,3,4,5],i0 [0,1,2,3,4,5,6],i0 [0,1,2,3,4,5,6,7],i0 [0,1,2,3,4,5,6,7,8],i0 [0,1,2,3,4,5,6,7,8,9],i0 [0,1,2,3,4,5,6,7,8,9,10],i0 [0,1,2,3,4,5,6,7,8,9,10],i0 [0,1,2,3,4,5,6,7,8,9,10],i0 [0,1,2,3,4,5,6,7,8,9,10,12,13],i0 [0,1,2,3,4,5,6,7,8,9,10,12,13,14],i1 [146,152,153,154,155,156,157,158] [0,1,2,3,4,5,6,7,8,9,10,12,13,14,15],i1 [146,153,154,155,156,157,158] [0,1,2,3,4,5,6,7,8,9,10,12,13,14,15,16],i0 [0,1,2,3,4,5,6,7,8,9,10,11,12,13,14,15,16,17],i0 [0,1,2,3,4,5,6,7,8,9,10],i1 [146,147,148,149,150,151,152,153,156,157,158] [0,1,2,3,4,5,6,7,8,9,10,19],i0 [0,1,2,3,4,5,6,7,8,9,10,11,12,13,14,15,16,17,18,19,20],i0 [0,1,2,3,4,5,6,7,8,9,10,11,12,13,14,15,16,17,18,19,20,21],i0 [0,1,2,3,4,5,6,7,8,9,10,11,12,13,14,15,16,17,18,19,20,21,22]])]
def fd.law17_RunOut:=fk rt.law17_RunOut 159 Tryz.func8
theorem bs_app (a b:Bs):bs a++bs b=bs (a++b):=by
 apply ByteArray.ext;show(bs a++bs b).data=_;rw[ByteArray.data_append];show a.toArray++b.toArray=(a++b).toArray;simp
theorem bs_size (a:Bs):(bs a).size=a.length:=rfl
theorem rn_at {l:List Cl} {i:Nat} (h:i<l.length) (h':i<(Q9 .nw l).length):(Q9 .nw l)[i]=X9 (X8 .nw (l.take i)) l[i]:=by
 have e:l=l.take i++(l[i]::l.drop (i+1)):=by rw[<-List.drop_eq_getElem_cons h,List.take_append_drop]
 have e2:Q9 .nw l=Q9 .nw (l.take i)++(X9 (X8 .nw (l.take i)) l[i]::Q9 (F8 (X8 .nw (l.take i)) l[i]) (l.drop (i+1))):=by
  have:=DE (l.take i) (l[i]::l.drop (i+1)) .nw;rw[<-e]at this;exact this
 have hl:(Q9 .nw (l.take i)).length=i:=by rw[DF,List.length_take];omega
 simp only[e2];rw[List.getElem_append_right (by omega)];simp[hl]
theorem loopQ {α:Type} {m:Nat} {body:S->(X->S->Prop)->Prop} {s:S} {K:X->S->Prop} (I:α->D) (Q:α->Prop) (μ:α->Nat) (x0:α) (q0:Q x0) (h0:Mt m s (I x0)) (h:∀x,Q x->body (I x).s fun e s'=>match e with
   | .normal=>∃y,Q y/\μ y<μ x/\Mt m s' (I y)
   |e=>K e s'):mQ m body s K:=
 ⟨α,I,Q,μ,⟨[],x0,q0,h0⟩,h⟩
structure RO where
 i:Nat
 a:Int
 p:Bs
 o:Bs
noncomputable def roD (A:List Cl):RO->D
 |⟨i,a,p,o⟩=>⟨[(3,.zz 8 A.length (A.flatMap L4)),(5,.zz 3 A.length ((Q9 .nw A).flatMap R4)),(6,i64 a),(7,.s (.string (bs p))),(8,.s (.string (bs o))),(9,i64 i)],[]⟩
def roJ (A:List Cl) (i:Nat) (a:Int) (c:Cf):Prop:=∃j,∃h:j<A.length,j<i/\a=(j:Int)/\A[j].c=c
def roI (A:List Cl) (i:Nat) (a:Int) (p o:Bs):CX->Prop
 | .nw=>True
 | .op c m=>roJ A i a c/\p=m.getD []/\o=c.T (m.getD [])
 | .cl c=>roJ A i a c
noncomputable def roQ (A:List Cl):RO->Prop
 |⟨i,a,p,o⟩=>i<=A.length/\(-9223372036854775808<=a/\a<=9223372036854775807)/\p.length<=1000*i/\o.length<=1000*i/\roI A i a p o (X8 .nw (A.take i))
theorem roJ.up {A:List Cl} {i:Nat} {a:Int} {c:Cf} (h:roJ A i a c):roJ A (i+1) a c:=by
 obtain⟨j,h1,h2,h3⟩:=h;exact⟨j,h1,by omega,h3⟩
theorem roI.up {A:List Cl} {i:Nat} {a:Int} {p o:Bs} {σ:CX} (h:roI A i a p o σ):roI A (i+1) a p o σ:=by
 cases σ with
 |nw=>trivial
 |op c m=>exact⟨h.1.up,h.2⟩
 |cl c=>exact roJ.up h
theorem T_nil {c:Cf} (h:c.err=0) (hk:c.key.length<=1000):c.T []=[]:=by
 obtain⟨⟨rs,hc⟩,ok⟩:=Cf.ok h hk;have hs:=hc.s_le;exact congrArg Prod.fst (tA (by omega) ok)
theorem T_app {c:Cf} (h:c.err=0) (hk:c.key.length<=1000) (M b:Bs):c.T M++(c.T (M++b)).drop (c.T M).length=c.T (M++b):=by
 obtain⟨⟨rs,hc⟩,ok⟩:=Cf.ok h hk;have hs:=hc.s_le;have h1:=congrArg Prod.fst (Oz (back:=c.back) (M:=M) (b:=b) hc.ci (by omega) ok rfl).1;have h1:c.T (M++b)=c.T M++_:=h1;rw[h1,List.drop_append,List.drop_length,List.nil_append,Nat.sub_self,List.drop_zero]
theorem T_le {c:Cf} (h:c.err=0) (hk:c.key.length<=1000) (M:Bs):(c.T M).length<=M.length:=by
 obtain⟨⟨rs,hc⟩,ok⟩:=Cf.ok h hk;have hs:=hc.s_le;have t1:(c.T M).length=_:=jh (back:=c.back) (M:=M) hc.ci (by omega) ok;have f1:=(cA (back:=c.back) (by omega) ok M.length).1;omega
theorem ro_1 {A:List Cl} {i:Nat} {a:Int} {p o:Bs} {σ:CX} (h:i<A.length) (hx:iL A[i]) (k:A[i].kind=1) (e:(X9 σ A[i]).e=0):roI A (i+1) i [] [] (F8 σ A[i]):=by
 have he:A[i].c.err=0:=by
  have:(C5 σ A[i]).2=0:=e;unfold C5 at this;rw[if_pos k]at this;exact this
 unfold F8;rw[if_pos k,if_pos he];exact⟨⟨i,h,by omega,rfl,rfl⟩,rfl,(T_nil he hx.2.1).symm⟩
theorem ro_4 {A:List Cl} {i n:Nat} {a:Int} {p o:Bs} {σ:CX} {x:Cl} (hσ:gq n σ) (h:roI A i a p o σ) (k:x.kind=4) (e:(X9 σ x).e=0):roI A (i+1) a [] [] (F8 σ x):=by
 have he:(C5 σ x).2=0:=e;unfold C5 at he;rw[if_neg (by omega),if_neg (by omega),if_neg (by omega),if_pos k]at he;unfold F8;rw[if_neg (by omega),if_neg (by omega),if_neg (by omega),if_pos k];cases σ with
 |nw=>trivial
 |op c m=>exact⟨h.1.up,rfl,(T_nil hσ.1 hσ.2.1).symm⟩
 |cl c=>exact⟨roJ.up h,rfl,(T_nil hσ.1 hσ.2).symm⟩
theorem ro_2 {A:List Cl} {i n:Nat} {a:Int} {p o:Bs} {σ:CX} {x:Cl} (hσ:gq n σ) (h:roI A i a p o σ) (k:x.kind=2) (e:(X9 σ x).e=0):roI A (i+1) a (p++x.inp) (o++(X9 σ x).out) (F8 σ x)/\(o++(X9 σ x).out).length<=(p++x.inp).length:=by
 have he:(C5 σ x).2=0:=e;show roI A (i+1) a (p++x.inp) (o++(C5 σ x).1) (F8 σ x)/\(o++(C5 σ x).1).length<=(p++x.inp).length;unfold C5 at he ⊢;unfold F8;rw[if_neg (by omega),if_pos k]at he ⊢;rw[if_neg (by omega),if_pos k];cases σ with
 |nw=>exact absurd (show (6:Int)=0 from he) (by decide)
 |cl c=>exact absurd (show (6:Int)=0 from he) (by decide)
 |op c m=>
  obtain⟨h1,h2,h3⟩:=h;subst h2;subst h3;have T1:=T_app hσ.1 hσ.2.1 (m.getD []) x.inp;show(roJ A (i+1) a c/\_/\_++_=_)/\(_++((c.T (m.getD []++x.inp)).drop (c.T (m.getD [])).length)).length<=_;refine⟨⟨h1.up,rfl,T1⟩,?_⟩;have:=congrArg List.length T1;have:=T_le hσ.1 hσ.2.1 (m.getD []++x.inp);omega
theorem ro_0 {A:List Cl} {i n:Nat} {a:Int} {p o:Bs} {σ:CX} {x:Cl} (hσ:gq n σ) (h:roI A i a p o σ) (k:x.kind=1\/x.kind=4\/x.kind=2->(X9 σ x).e≠0):roI A (i+1) a p o (F8 σ x):=by
 have k:x.kind=1\/x.kind=4\/x.kind=2->(C5 σ x).2≠0:=k;have h:=roI.up h;unfold C5 at k;unfold F8;by_cases h1:x.kind=1
 ·rw[if_pos h1]at k;rw[if_pos h1,if_neg (k (.inl h1))];exact h
 ·rw[if_neg h1]at k ⊢;by_cases h2:x.kind=2
  ·rw[if_pos h2]at k ⊢;cases σ with
   |nw=>trivial
   |cl c=>exact h
   |op c m=>exact absurd rfl (k (.inr (.inr h2)))
  ·rw[if_neg h2]at k ⊢;by_cases h3:x.kind=3
   ·rw[if_pos h3];cases σ with
    |nw=>trivial
    |cl c=>exact h
    |op c m=>exact h.1
   ·rw[if_neg h3]at k ⊢;by_cases h4:x.kind=4
    ·rw[if_pos h4]at k ⊢;cases σ with
     |nw=>trivial
     |cl c=>exact absurd rfl (k (.inr (.inl h4)))
     |op c m=>exact absurd rfl (k (.inr (.inl h4)))
    ·rw[if_neg h4];exact h
noncomputable def rnF:CX->Bs×Int
 | .op c m=>c.fin (m.getD [])
 |_=>([],6)
theorem rn_out3 {σ:CX} {x:Cl} (k:x.kind=3):C5 σ x=rnF σ:=by
 unfold C5;rw[if_neg (by omega),if_neg (by omega),if_pos k];cases σ<;>rfl
theorem ro_3 {A:List Cl} {i n:Nat} {a:Int} {p o:Bs} {σ:CX} {x:Cl} (hA:∀y∈A,iL y) (hσ:gq n σ) (h:roI A i a p o σ) (hp:p.length<=100000) (k:x.kind=3) (e:(X9 σ x).e≠6):
  ∃j,∃hj:j<A.length,a=(j:Int)/\∃y:Bs,(y=if (X9 σ x).e=0 then o++(X9 σ x).out else [])/\
   a9 C 48 [D2 A[j].c.t A[j].c.mode A[j].c.pad A[j].c.back,.z A[j].c.key.length (bv A[j].c.key),.z A[j].c.iv.length (bv A[j].c.iv),.z p.length (bv p)] [] (.ret (bV (y,(X9 σ x).e))) []:=by
 have e:(C5 σ x).2≠6:=e;show ∃j,∃hj:j<A.length,a=(j:Int)/\∃y:Bs,(y=if (C5 σ x).2=0 then o++(C5 σ x).1 else [])/\
   a9 C 48 [D2 A[j].c.t A[j].c.mode A[j].c.pad A[j].c.back,.z A[j].c.key.length (bv A[j].c.key),.z A[j].c.iv.length (bv A[j].c.iv),.z p.length (bv p)] [] (.ret (bV (y,(C5 σ x).2))) []
 rw[rn_out3 k]at e ⊢;cases σ with
 |nw=>exact absurd rfl e
 |cl c=>exact absurd rfl e
 |op c m=>
  obtain⟨⟨j,hj,j1,j2,j3⟩,h2,h3⟩:=h;obtain⟨⟨rs,hc⟩,ok⟩:=Cf.ok hσ.1 hσ.2.1;have hs:=hc.s_le;refine⟨j,hj,j2,_,rfl,?_⟩;have E:=(uv (M:=m.getD []) (back:=c.back) hc.ci (by omega) ok (rfl:c.fin (m.getD [])=_)).1;rw[j3];have S:=My hc (back:=c.back) (msg:=p) (m:=p.length) (vk:=bv c.key) (vi:=bv c.iv) rfl rfl rfl rfl rfl rfl hp ok;rw[<-h2]at E h3;rw[E]at S;have h3':c.T p=o:=h3.symm;show a9 _ _ _ _ (.ret (bV (if (c.fin (m.getD [])).2=0 then o++(c.fin (m.getD [])).1 else [],(c.fin (m.getD [])).2))) _;rw[<-h2,<-h3'];exact S
theorem sub_cfg {l:List V} {j:Nat} {x:Cl} (h:sub l (j*8) 8=L4 x):sub l (j*8+1) 4=[i64 x.c.t,i64 x.c.mode,i64 x.c.pad,bool x.c.back]:=by
 have h1:sub l (j*8+1) 4=sub (sub l (j*8) 8) 1 4:=by
  unfold sub;rw[List.drop_take,List.drop_drop,List.take_take];rfl
 rw[h1,h];rfl
set_option maxHeartbeats 4000000 in
theorem c_law_out {l:List RawL} {ln:Nat} (hl:l.length=ln) (hlb:ln<=9223372036854775807) (hlo:∀x∈l,RawOk x):
  a9 C 8 [.zz 13 ln (l.flatMap rwV)] [] (.ret (bool true)) []:=by
 refine fd.law17_RunOut.c ?_;refine⟨[],_,_,_,_,a3h,rfl,rfl,?_⟩;by_cases hf:∀x∈l,mT x
 ·refine⟨[],_,_,_,_,a3g hl hlb hf,rfl,rfl,?_⟩;have M1:=a3i hl hlb hlo hf;have o1:=a3n hf hlo;have b1:=a3m l;generalize ib l=A at*
  have R1:=zF (l:=A) rfl o1 (by omega);refine⟨[],_,_,_,_,M1,rfl,rfl,?_⟩;refine⟨[],_,_,_,_,R1,rfl,rfl,?_⟩;refine n7 (fun hh=>absurd rfl hh) (fun _=> ?_);have lX:(Q9 .nw A).length=A.length:=DF _ _;refine loopQ (roD A) (roQ A) (fun x=>A.length-x.i) ⟨0, -1,[],[]⟩ ⟨Za _,by decide,Za _,Za _,by rw[List.take_zero];exact tq⟩ ⟨[],⟨rfl,rfl,rfl,rfl,rfl,rfl,tq⟩,tq⟩ fun z hz=> ?_;obtain⟨i,a,p,o⟩:=z;obtain⟨hi,ha,hp,ho,hI⟩:=hz;refine d9 (fun d8=> ?_) (fun hge=> ?_)
  ·have h1:i<A.length:=by omega
   have h2:i<(Q9 .nw A).length:=by omega
   have gx:=fun k hk=>a3r h2 k hk (j:=((i:Nat):Int).toNat*3+k) (by rw[Zb]);have gc:∀j (hj:j<A.length) k,k<8->(A.flatMap L4)[((j:Nat):Int).toNat*8+k]? =(L4 A[j])[k]? :=fun j hj k hk=>by rw[Zb];exact nL (f:=L4) (e:=8) (fun _=>rfl) A j hj k hk
   have gs:∀j (hj:j<A.length),sub (A.flatMap L4) (((j:Nat):Int).toNat*8) 8=L4 A[j]:=fun j hj=>by rw[Zb];exact vh (f:=L4) (e:=8) (fun _=>rfl) A j hj
   have gj:=gc;have gc:=gc i h1;have ox:=o1 A[i] (List.getElem_mem h1);rw[rn_at h1 h2]at gx;have oi:=ox.2.2.2;have hσ:=DG o1 i (by omega);have c0:(0:Int)<=(i:Int):=Int.natCast_nonneg i;have nx:IntKind.i64.wrap ((i:Int)+1)=((i+1:Nat):Int):=by rw[IntWalk.i64_in _ (by omega)];omega
   have c7:A.length-(i+1)<A.length-i:=by omega
   have Q:∀a' p' o',(-9223372036854775808<=a'/\a'<=9223372036854775807)->p'.length<=1000*(i+1)->o'.length<=1000*(i+1)->roI A (i+1) a' p' o' (F8 (X8 .nw (A.take i)) A[i])->roQ A ⟨i+1,a',p',o'⟩:=fun a' p' o' q1 q2 q3 q4=>⟨h1,q1,q2,q3,by rw[(XS h1).1];exact q4⟩;have Q0:(A[i].kind=1\/A[i].kind=4\/A[i].kind=2->(X9 (X8 .nw (A.take i)) A[i]).e≠0)->roQ A ⟨i+1,a,p,o⟩:=fun hk=>Q a p o ha (by omega) (by omega) (ro_0 hσ hI hk);have Q1:A[i].kind=1->(X9 (X8 .nw (A.take i)) A[i]).e=0->roQ A ⟨i+1,i,[],[]⟩:=fun hk he=>Q i [] [] (by omega) (Za _) (Za _) (ro_1 (a:=a) (p:=p) (o:=o) h1 ox hk he);have Q4:A[i].kind=4->(X9 (X8 .nw (A.take i)) A[i]).e=0->roQ A ⟨i+1,a,[],[]⟩:=fun hk he=>Q a [] [] ha (Za _) (Za _) (ro_4 hσ hI hk he);have Q2:A[i].kind=2->(X9 (X8 .nw (A.take i)) A[i]).e=0->(o++(X9 (X8 .nw (A.take i)) A[i]).out).length<=p.length+A[i].inp.length/\roQ A ⟨i+1,a,p++A[i].inp,o++(X9 (X8 .nw (A.take i)) A[i]).out⟩:=fun hk he=>by
    obtain⟨r1,r2⟩:=ro_2 hσ hI hk he;have l1:(p++A[i].inp).length=p.length+A[i].inp.length:=List.length_append;exact⟨by omega,Q _ _ _ ha (by omega) (by omega) r1⟩
   have Q3:=fun(hk:A[i].kind=3) (he:(X9 (X8 .nw (A.take i)) A[i]).e≠6)=>ro_3 o1 hσ hI (show p.length<=100000 by omega) hk he;have q4:=(a3o hσ ox (by omega)).2.2.2.1;clear Q hσ hI;generalize X9 (X8 .nw (A.take i)) A[i]=τ at*
   generalize hx:A[i]=x at*
   by_cases hk:x.kind=1
   ·refine⟨c0,d8,?_⟩;refine⟨_,gc 0 (by decide),?_⟩;refine j5 (fun _=> ?_) (fun hh=>absurd hk hh);refine⟨c0,d8,?_⟩;refine⟨_,gx 1 (by decide),?_⟩;by_cases he:τ.e=0
    ·refine j5 (fun _=> ?_) (fun hh=>absurd he hh);exact⟨⟨i+1,i,[],[]⟩,Q1 hk he,c7,[],⟨rfl,rfl,rfl,rfl,rfl,f6 nx,tq⟩,tq⟩
    ·refine j5 (fun hh=>absurd hh he) (fun _=> ?_);refine⟨c0,d8,?_⟩;refine⟨_,gc 0 (by decide),?_⟩;refine j5 (fun hh=>absurd (hk.symm.trans hh) (by decide)) (fun _=> ?_);refine⟨c0,d8,?_⟩;refine⟨_,gc 0 (by decide),?_⟩;refine j5 (fun hh=>absurd (hk.symm.trans hh) (by decide)) (fun _=> ?_);refine⟨c0,d8,?_⟩;refine⟨_,gc 0 (by decide),?_⟩;refine j5 (fun hh=>absurd (hk.symm.trans hh) (by decide)) (fun _=> ?_);exact⟨⟨i+1,a,p,o⟩,Q0 (fun _=>he),c7,[],⟨rfl,rfl,rfl,rfl,rfl,f6 nx,tq⟩,tq⟩
   by_cases hk4:x.kind=4
   ·have hk:=hk4;refine⟨c0,d8,?_⟩;refine⟨_,gc 0 (by decide),?_⟩;refine j5 (fun hh=>absurd (hk.symm.trans hh) (by decide)) (fun _=> ?_);refine⟨c0,d8,?_⟩;refine⟨_,gc 0 (by decide),?_⟩;refine j5 (fun _=> ?_) (fun hh=>absurd hk hh);refine⟨c0,d8,?_⟩;refine⟨_,gx 1 (by decide),?_⟩;by_cases he:τ.e=0
    ·refine j5 (fun _=> ?_) (fun hh=>absurd he hh);exact⟨⟨i+1,a,[],[]⟩,Q4 hk he,c7,[],⟨rfl,rfl,rfl,rfl,rfl,f6 nx,tq⟩,tq⟩
    ·refine j5 (fun hh=>absurd hh he) (fun _=> ?_);refine⟨c0,d8,?_⟩;refine⟨_,gc 0 (by decide),?_⟩;refine j5 (fun hh=>absurd (hk.symm.trans hh) (by decide)) (fun _=> ?_);refine⟨c0,d8,?_⟩;refine⟨_,gc 0 (by decide),?_⟩;refine j5 (fun hh=>absurd (hk.symm.trans hh) (by decide)) (fun _=> ?_);exact⟨⟨i+1,a,p,o⟩,Q0 (fun _=>he),c7,[],⟨rfl,rfl,rfl,rfl,rfl,f6 nx,tq⟩,tq⟩
   by_cases hk2:x.kind=2
   ·have hk:=hk2;refine⟨c0,d8,?_⟩;refine⟨_,gc 0 (by decide),?_⟩;refine j5 (fun hh=>absurd (hk.symm.trans hh) (by decide)) (fun _=> ?_);refine⟨c0,d8,?_⟩;refine⟨_,gc 0 (by decide),?_⟩;refine j5 (fun hh=>absurd (hk.symm.trans hh) (by decide)) (fun _=> ?_);refine⟨c0,d8,?_⟩;refine⟨_,gc 0 (by decide),?_⟩;refine j5 (fun _=> ?_) (fun hh=>absurd hk hh);refine⟨c0,d8,?_⟩;refine⟨_,gx 1 (by decide),?_⟩;by_cases he:τ.e=0
    ·refine j5 (fun _=> ?_) (fun hh=>absurd he hh);obtain⟨l1,q1⟩:=Q2 hk he;refine⟨c0,d8,?_⟩;refine⟨_,gc 7 (by decide),?_⟩;refine⟨by rw[i9],_,rfl,?_⟩;refine⟨by rw[bs_size,bs_size];omega,?_⟩;refine⟨c0,d8,?_⟩;refine⟨_,gx 0 (by decide),?_⟩;refine⟨by rw[i9],_,rfl,?_⟩;refine⟨by rw[bs_size,bs_size];rw[List.length_append]at l1;omega,?_⟩;exact⟨⟨i+1,a,p++x.inp,o++τ.out⟩,q1,c7,[],⟨rfl,rfl,rfl,congrArg (fun z=>V.s (.string z)) (bs_app p x.inp),congrArg (fun z=>V.s (.string z)) (bs_app o τ.out),f6 nx,tq⟩,tq⟩
    ·refine j5 (fun hh=>absurd hh he) (fun _=> ?_);refine⟨c0,d8,?_⟩;refine⟨_,gc 0 (by decide),?_⟩;refine j5 (fun hh=>absurd (hk.symm.trans hh) (by decide)) (fun _=> ?_);exact⟨⟨i+1,a,p,o⟩,Q0 (fun _=>he),c7,[],⟨rfl,rfl,rfl,rfl,rfl,f6 nx,tq⟩,tq⟩
   by_cases hk3:x.kind=3
   ·have hk:=hk3;have q0:=Q0 (fun hh=>by omega);refine⟨c0,d8,?_⟩;refine⟨_,gc 0 (by decide),?_⟩;refine j5 (fun hh=>absurd (hk.symm.trans hh) (by decide)) (fun _=> ?_);refine⟨c0,d8,?_⟩;refine⟨_,gc 0 (by decide),?_⟩;refine j5 (fun hh=>absurd (hk.symm.trans hh) (by decide)) (fun _=> ?_);refine⟨c0,d8,?_⟩;refine⟨_,gc 0 (by decide),?_⟩;refine j5 (fun hh=>absurd (hk.symm.trans hh) (by decide)) (fun _=> ?_);refine⟨c0,d8,?_⟩;refine⟨_,gc 0 (by decide),?_⟩;refine j5 (fun _=> ?_) (fun hh=>absurd hk hh);refine⟨c0,d8,?_⟩;refine⟨_,gx 1 (by decide),?_⟩;by_cases he:τ.e=6
    ·refine n7 (fun hh=>absurd he hh) (fun _=> ?_);exact⟨⟨i+1,a,p,o⟩,q0,c7,[],⟨rfl,rfl,rfl,rfl,rfl,f6 nx,tq⟩,tq⟩
    ·refine n7 (fun _=> ?_) (fun hh=>absurd hh he);obtain⟨j,hj,rfl,y,hy,S⟩:=Q3 hk he;have cj:(0:Int)<=(j:Int):=Int.natCast_nonneg j;have hj':(j:Int)<(A.length:Int):=by omega
     have gj:=gj j hj;have gs:=gs j hj;generalize A[j]=z at*
     refine⟨cj,hj',?_⟩;refine⟨[i64 z.c.t,i64 z.c.mode,i64 z.c.pad,bool z.c.back],?_,rfl,?_⟩
     ·exact sub_cfg gs
     refine⟨cj,hj',?_⟩;refine⟨_,gj 5 (by decide),?_⟩;refine⟨cj,hj',?_⟩;refine⟨_,gj 6 (by decide),?_⟩;refine⟨by rw[bs_size];omega,?_⟩;refine⟨[],_,_,_,_,S,?_,rfl,?_⟩
     ·exact congrArg (fun y=>[V.a [i64 z.c.t,i64 z.c.mode,i64 z.c.pad,bool z.c.back],.z z.c.key.length (bv z.c.key),.z z.c.iv.length (bv z.c.iv),V.z p.length y]) (g8 (l:=p) rfl)
     refine⟨c0,d8,?_⟩;refine⟨_,gx 1 (by decide),?_⟩;refine n7 (fun hh=>absurd rfl hh) (fun _=> ?_);by_cases h0:τ.e=0
     ·refine j5 (fun _=> ?_) (fun hh=>absurd h0 hh);rw[if_pos h0]at hy;refine⟨c0,d8,?_⟩;refine⟨_,gx 0 (by decide),?_⟩;refine⟨by rw[i9],_,rfl,?_⟩;refine⟨by rw[bs_size,bs_size];have:=q4 hk;omega,?_⟩;refine⟨by rw[i9],_,rfl,?_⟩;refine D8 (by show(!((bs o++bs τ.out).toList==(bs y).toList))=false;rw[bs_app,a0W,decide_eq_true hy.symm];rfl) ?_;exact⟨⟨i+1,j,p,o⟩,q0,c7,[],⟨rfl,rfl,rfl,rfl,rfl,f6 nx,tq⟩,tq⟩
     ·refine j5 (fun hh=>absurd hh h0) (fun _=> ?_);exact⟨⟨i+1,j,p,o⟩,q0,c7,[],⟨rfl,rfl,rfl,rfl,rfl,f6 nx,tq⟩,tq⟩
   ·refine⟨c0,d8,?_⟩;refine⟨_,gc 0 (by decide),?_⟩;refine j5 (fun hh=>absurd hh hk) (fun _=> ?_);refine⟨c0,d8,?_⟩;refine⟨_,gc 0 (by decide),?_⟩;refine j5 (fun hh=>absurd hh hk4) (fun _=> ?_);refine⟨c0,d8,?_⟩;refine⟨_,gc 0 (by decide),?_⟩;refine j5 (fun hh=>absurd hh hk2) (fun _=> ?_);refine⟨c0,d8,?_⟩;refine⟨_,gc 0 (by decide),?_⟩;refine j5 (fun hh=>absurd hh hk3) (fun _=> ?_);exact⟨⟨i+1,a,p,o⟩,Q0 (fun hh=>by omega),c7,[],⟨rfl,rfl,rfl,rfl,rfl,f6 nx,tq⟩,tq⟩
  ·exact⟨_,rfl,[],rfl,tq⟩
 ·refine⟨[],_,_,_,_,a3f hl hlb hf,rfl,rfl,?_⟩;exact⟨_,rfl,[],rfl,tq⟩
end Go.Scr
