/-
  What the functions that this law alone reaches reckon, up to the law. It is no claim by itself; each contract bears its own conditions.
-/
import Derived.Test.YthhlfpbfdkogfaaGreatDoorY4
set_option linter.unusedVariables false
set_option linter.defProp false
set_option linter.unusedSimpArgs false
set_option maxRecDepth 100000
namespace Go.Scr
open Go.Proofs
open List renaming length_replicate → Za, replicate → Zb
def fd.scrimtop_TopKeys:=fz 168 Tryz.func4
def fd.r11_Cipher_Enc:=fz 11 Tryz.func27
theorem c_r11_enc {n:Nat} {va:List Value} {rs:List V} {l:List Value} (h:a7 C 88 [.q rs 0,.z n va,bool false] [] (A8 n) [.sc l]):a7 C 27 [.q rs 0,.z n va] [] (A8 n) [.sc l]:=by
 refine fd.r11_Cipher_Enc.c ?_;refine⟨[],_,_,_,_,h,rfl,rfl,?_⟩;exact⟨_,rfl,[.d 8 0],rfl,⟨_,rfl,rfl⟩,tq⟩
theorem i6.renc {t key s k xs rs} (h:i6 t key s k xs rs) {b:Bs} {va:List Value} (hb:b.length=s) (ha:va=bv b):a7 C 27 [.q rs 0,.z s va] [] (A8 s) [.sc (bv (cF t key false b))]:=by subst ha;exact c_r11_enc (h.rblk hb)
theorem new_zeros {t:Int} (ht:m8 t) {i:Nat} (hi:i<=40):
  ((i:Int)∈m6 t/\∃k xs,a7 C 25 [i64 t,.z i (bv (Zb i 0))] [] (.ret (.t [b9 t k xs,i64 0])) [])\/
  ((i:Int)∉m6 t/\a7 C 25 [i64 t,.z i (bv (Zb i 0))] [] (.ret (.t [i7,i64 4])) []):=by
 by_cases hv:(i:Int)∈m6 t
 ·obtain⟨s,k,xs,rs,h⟩:=Ab (key:=Zb i 0) ht (by rw[Za];exact hv);exact .inl ⟨hv,k,xs,h.new' (Za ..) rfl⟩
 ·exact .inr ⟨hv,KZ ht (by omega) hv⟩
set_option maxHeartbeats 4000000 in
theorem c_top_keys {tag n:Int} {lk lo lb:Nat} {k o b:Bs} (h0:dt tag) (h1:dt n) (hk:k.length=lk) (ho:o.length=lo) (hb:b.length=lb):
  a7 C 4 [i64 tag,i64 n,.z lk (bv k),.z lo (bv o),.z lb (bv b)] [] (.ret (bool true)) []:=by
 obtain⟨s,q,xs,rs,h⟩:=Nb tag n k;obtain⟨s',q',xs',rs',h'⟩:=Nb tag n o;have hs:=h.s_le;have hss:s=s':=by have:=h.hs;have:=h'.hs;omega
 subst hss;have ht:=iw tag;have lK:=uH (m7 tag) n k;have lO:=uH (m7 tag) n o;have hkl:=BQ ht n;have K1:=JZ ht h1 (va:=bv k) rfl hk;have K2:=JZ ht h1 (va:=bv o) rfl ho;have hR:a7 C 23 [i64 (m7 tag)] [] (.ret (i64 s)) []:=by rw[<-h.hs];exact oU ht
 have BY:=yg (n:=s) (va:=bv b) rfl hb (by omega);have lP:=oG s b;have N1:=h.new' (n:=Y6 (m7 tag) n) lK rfl;have N2:=h'.new' (n:=Y6 (m7 tag) n) lO rfl;have R1:=h.rnew;have R2:=h'.rnew;rw[lK]at R1;rw[lO]at R2;have E1:=h.enc (b:=jL s b) (va:=bv (jL s b)) lP rfl;have E2:=h'.enc (b:=jL s b) (va:=bv (jL s b)) lP rfl;have F1:=h.renc (b:=jL s b) (va:=bv (jL s b)) lP rfl;have F2:=h'.renc (b:=jL s b) (va:=bv (jL s b)) lP rfl;have le1:=h.len (back:=false) lP;have le2:=h'.len (back:=false) lP;have LE:=U4 ht;have lcl:(m6 (m7 tag)).length<=3:=by
  unfold m6;split
  ·decide
  ·split
   ·decide
   ·split
    ·decide
    ·split
     ·decide
     ·split<;>decide
 have NZ:=fun i (hi:i<=40)=>new_zeros ht hi;generalize jL s b=p at*
 generalize S7 (m7 tag) n k=x at*
 generalize S7 (m7 tag) n o=y at*
 generalize Y6 (m7 tag) n=m at*
 generalize hcl:m6 (m7 tag)=ls at*
 refine fd.scrimtop_TopKeys.c ?_;refine⟨[],_,_,_,_,KM,rfl,rfl,?_⟩;refine⟨[],_,_,_,_,zH h0,rfl,rfl,?_⟩;refine⟨[],_,_,_,_,K1,rfl,rfl,?_⟩;refine⟨[],_,_,_,_,K2,rfl,rfl,?_⟩;refine⟨[],_,_,_,_,hR,rfl,rfl,?_⟩;refine⟨[],_,_,_,_,BY,rfl,rfl,?_⟩;refine j9 (fun i=>⟨[(11,i64 (m7 tag)),(12,.z m (bv x)),(13,.z m (bv y)),(14,.z s (bv p)),(15,i64 i)],[]⟩) 41 ⟨[],⟨rfl,rfl,rfl,congrArg (V.z s) (b8 lP),rfl,tq⟩,tq⟩ fun i hi=> ?_;refine c9 (fun hle=> ?_) (fun hgt=> ?_)
 ·have hi40:i<=40:=by omega
  refine⟨[],_,_,_,_,LE,rfl,rfl,?_⟩;refine j9 (fun j=>⟨[(11,i64 (m7 tag)),(12,.z m (bv x)),(13,.z m (bv y)),(14,.z s (bv p)),(15,i64 i),(16,bool (decide ((i:Int)∈ls.take j))),(17,.z ls.length (iv ls)),(18,i64 j)],[]⟩) ls.length ⟨[],⟨rfl,rfl,rfl,rfl,rfl,?_,?_,rfl,tq⟩,tq⟩ fun j hj=> ?_
  ·rw[List.take_zero];rfl
  ·exact congrArg (V.z ls.length) (K8 rfl)
  refine c9 (fun a9=> ?_) (fun hge=> ?_)
  ·have hl:j<ls.length:=by omega
   have hd:decide ((i:Int)∈ls.take (j+1))=(decide ((i:Int)∈ls.take j)||(ls[j]==(i:Int))):=by
    rw[List.take_add_one,List.getElem?_eq_getElem hl,Option.toList_some];rw[Bool.eq_iff_iff];simp only[decide_eq_true_eq,Bool.or_eq_true,List.mem_append,List.mem_singleton,beq_iff_eq];exact or_congr Iff.rfl eq_comm
   have nx:IntKind.i64.wrap ((j:Int)+1)=((j+1:Nat):Int):=by rw[IntWalk.i64_in _ (by omega)];omega
   by_cases hin:(i:Int)∈ls.take j
   ·rw[decide_eq_true hin,Bool.true_or]at hd;rw[decide_eq_true hin];exact⟨j+1,by omega,by omega,[],⟨rfl,rfl,rfl,rfl,rfl,congrArg bool hd.symm,rfl,d7 nx,tq⟩,tq⟩
   ·rw[decide_eq_false hin,Bool.false_or]at hd;rw[decide_eq_false hin];refine⟨by omega,by omega,?_⟩;refine⟨.int .i64 ls[j],by rw[Int.toNat_natCast];exact uE hl,?_⟩;exact⟨j+1,by omega,by omega,[],⟨rfl,rfl,rfl,rfl,rfl,congrArg bool hd.symm,rfl,d7 nx,tq⟩,tq⟩
  ·have hje:j=ls.length:=by omega
   subst hje;rw[List.take_length];have nx:IntKind.i64.wrap ((i:Int)+1)=((i+1:Nat):Int):=by rw[IntWalk.i64_in _ (by omega)];omega
   have c6:i+1<=41:=by omega
   have c7:41-(i+1)<41-i:=by omega
   refine⟨by decide,?_⟩;rcases NZ i hi40 with ⟨hv,kq,kx,NW⟩|⟨hv,NW⟩;all_goals
    first|rw[decide_eq_true hv]|rw[decide_eq_false hv]
    refine j7 (fun e8=> ?_) (fun e8=> ?_)
   all_goals try (refine j7 (fun e1=> ?_) (fun e1=> ?_))
   all_goals try (refine j7 (fun e17=> ?_) (fun e17=> ?_))
   all_goals
    first
     |exact⟨i+1,c6,c7,[],⟨rfl,rfl,rfl,rfl,d7 nx,tq⟩,tq⟩
     |refine⟨by omega,Int.le_refl _,by omega,?_⟩
      refine⟨[],_,_,_,_,NW,?_,rfl,?_⟩
      ·show[i64 (m7 tag),V.z ((i:Nat):Int).toNat (sub (Zb ((i:Nat):Int).toNat (Value.int .u8 0)) 0 ((i:Nat):Int).toNat)]=_;rw[Int.toNat_natCast,S2,b8 (Za ..)]
      exact⟨i+1,c6,c7,[],⟨rfl,rfl,rfl,rfl,d7 nx,tq⟩,tq⟩
 ·refine⟨[],_,_,_,_,N1,rfl,rfl,?_⟩;refine⟨[],_,_,_,_,N2,rfl,rfl,?_⟩;refine⟨[],_,_,_,_,R1,rfl,rfl,?_⟩;refine⟨[],_,_,_,_,R2,rfl,rfl,?_⟩;refine⟨[],_,_,_,_,E1,rfl,rfl,?_⟩;refine⟨[],_,_,_,_,E2,rfl,rfl,?_⟩;refine⟨[],_,_,_,_,F1,rfl,rfl,?_⟩;refine⟨[],_,_,_,_,F2,rfl,rfl,?_⟩;refine⟨vK le1,_,b8 le1,?_⟩;refine⟨vK le1,_,b8 le1,?_⟩;refine bG (beq_self_eq_true _) ?_;refine⟨vK le2,_,b8 le2,?_⟩;refine⟨vK le2,_,b8 le2,?_⟩;exact⟨_,rfl,[],congrArg bool (beq_self_eq_true _),tq⟩
end Go.Scr
