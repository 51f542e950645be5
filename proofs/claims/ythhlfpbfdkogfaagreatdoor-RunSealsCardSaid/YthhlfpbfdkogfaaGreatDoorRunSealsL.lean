/-
  What the functions that this law alone reaches reckon, up to the law. It is no claim by itself; each contract bears its own conditions.
-/
import Derived.Test.YthhlfpbfdkogfaaGreatDoorY4
set_option linter.unusedVariables false
set_option linter.defProp false
set_option linter.unusedSimpArgs false
set_option maxRecDepth 100000
namespace Go.Scr
open Go.Proofs
open List renaming flatten_singleton → Za
def rt.law17_RunSeals:Rt:=[(7,[i1 [49,50,51,52,53,54,47,55,56,15,16] [],i0 [],i0 [],i0 [],i0 [],i4 [11] [48,49,50,54,47,55,56,15,16] [3,4],i2 [47,55,56,15,16] [0,1,2,3,4,5],i0 [0,1,2,3,4,5,6],i0 [0,1,2,3,4,5,6,7],i0 [0,1,2,3,4,5,6,7],i0 [0,1,2,3,4,5,6,7,8],i0 [0,1,2,3,4,5,6,7,8,9,10]])]
def fd.law17_RunSeals:=fk rt.law17_RunSeals 95 Tryz.func9
theorem akMode_in (mode:Int):1<=O7 mode/\O7 mode<=9:=by unfold O7;omega
theorem akPad_in (mode pad:Int):(1<=jX mode pad/\jX mode pad<=4)/\(jX mode pad=4\/O7 mode<=2):=by
 unfold jX;split
 ·omega
 ·exact⟨by decide,.inl rfl⟩
theorem ak_ok (mode pad:Int) (s:Nat) (iv:Bs):D0 s (O7 mode) (jX mode pad) (bN (O7 mode) s iv):=
 ⟨akMode_in _,(akPad_in mode pad).1,(akPad_in mode pad).2,BH _ _ _⟩
theorem akLen_le (n:Int) (s l:Nat):oX n s l<=l:=by
 unfold oX;split
 ·exact Nat.div_mul_le_self _ _
 ·exact Nat.le_refl _
theorem akMsg_len (n:Int) (s:Nat) (m:Bs):(sW n s m).length=oX n s m.length:=by
 rw[List.length_take];have:=akLen_le n s m.length;omega
theorem cutF_flat (ns b):∀i,(n6 ns b i).1.flatten++(n6 ns b i).2=b
 |0=>rfl
 |i+1=>by
  show((n6 ns b i).1++[(n6 ns b i).2.take _]).flatten++(n6 ns b i).2.drop _=b;rw[List.flatten_append,Za,List.append_assoc,List.take_append_drop,cutF_flat ns b i]
theorem cutL_flat (ns b):(ej ns b).flatten=b:=by
 unfold ej;rw[List.flatten_append,Za,cutF_flat]
theorem c_runseals {tag n mode pad rt rm rp:Int} {back rb:Bool} {lk li lb ln lr:Nat} {k v b q:Bs} {ns:List Int} (h0:aP tag) (h1:aP n) (h2:aP mode) (h3:aP pad) (hk:k.length=lk) (hi:v.length=li) (hb:b.length=lb) (hn:ns.length=ln) (hns:∀x∈ns, -9223372036854775808<=x/\x<=9223372036854775807) (hrt:aP rt) (hrm:aP rm) (hrp:aP rp) (hq:q.length=lr):
  a9 C 9 [pb tag n mode pad back lk k li v,.z lb (bv b),.z ln (iv ns),D2 rt rm rp rb,.z lr (bv q)] [] (.ret (bool true)) []:=by
 obtain⟨s,k0,xs,rs,h⟩:=yk tag n k;have hs:=h.s_le;have hM:=HI (back:=back) h0 h1 h2 h3 hk hi h.hs hs.2;have lK:=vG (C3 tag) n k;have lV:=BH (O7 mode) s v;have hkl:=vF (jG tag) n;have ok:=ak_ok mode pad s v;refine fd.law17_RunSeals.c ?_;refine⟨[],_,_,_,_,a3h,rfl,rfl,?_⟩;refine d9 (fun hl=> ?_) (fun hl=> ?_)
 ·exact⟨_,rfl,[],rfl,tq⟩
 refine d9 (fun hr=> ?_) (fun hr=> ?_)
 ·exact⟨_,rfl,[],rfl,tq⟩
 have hS:=a3j (mode:=mode) (pad:=pad) (back:=back) (lk:=lk) (li:=li) (k:=k) (iv:=v) h0 h1 h.hs (by omega) hb (by omega);have hle:=akLen_le n s lb;have lm:=akMsg_len n s b;rw[hb]at lm;have SE:=MQ h (back:=back) lK (by omega) lV (cutL_flat ns (sW n s b)) (by omega) (by rw[Ai];omega) ok;have RS:=My h (back:=back) (msg:=sW n s b) (m:=oX n s lb) (vk:=bv (aW (C3 tag) n k)) (vi:=bv (bN (O7 mode) s v)) rfl rfl rfl lK lV lm (by omega) ok;have CU:=a3e (b:=sW n s b) (ns:=ns) rfl hn (by omega) hns;rw[lm]at CU;obtain⟨rZ,Z1,Z2⟩:=a3q rt hq (by omega) rm rp rb (iv:=[]) (li:=0) rfl lm (by omega);have hml:oX n s lb<=200:=by omega
 generalize O7 mode=md at*
 generalize jX mode pad=pd at*
 generalize sW n s b=msg at*
 generalize oX n s lb=m at*
 generalize aI (cF (C3 tag) (aW (C3 tag) n k) false) (cF (C3 tag) (aW (C3 tag) n k) true) s md pd back (bN md s v) msg=rr at*
 generalize aW (C3 tag) n k=key at*
 generalize cE (C3 tag) n=lkk at*
 generalize bN md s v=V0 at*
 refine⟨[i64 tag,i64 n,i64 mode,i64 pad,bool back,.z lk (bv k),.z li (bv v)],rfl,rfl,?_⟩;by_cases hf:lk<=100/\li<=100
 ·refine⟨[],_,_,_,_,yX hf,rfl,rfl,?_⟩;refine⟨[i64 tag,i64 n,i64 mode,i64 pad,bool back,.z lk (bv k),.z li (bv v)],rfl,rfl,?_⟩;refine⟨[],_,_,_,_,hM,rfl,rfl,?_⟩;refine⟨Nat.le_of_ble_eq_true rfl,?_⟩;refine⟨[i64 tag,i64 n,i64 mode,i64 pad,bool back,.z lk (bv k),.z li (bv v)],rfl,rfl,?_⟩;refine⟨[],_,_,_,_,hS,rfl,rfl,?_⟩;refine⟨[i64 (C3 tag),i64 md,i64 pd,bool back],rfl,rfl,?_⟩;refine⟨[],_,_,_,_,CU,rfl,rfl,?_⟩;refine⟨[],_,_,_,_,SE,rfl,rfl,?_⟩;refine⟨[i64 (C3 tag),i64 md,i64 pd,bool back],rfl,rfl,?_⟩;refine⟨[],_,_,_,_,RS,rfl,rfl,?_⟩;refine⟨[i64 rt,i64 rm,i64 rp,bool rb],rfl,rfl,?_⟩;refine⟨[],_,_,_,_,(a9.args Z1 (ys0:=[D2 rt rm rp rb,.z lr (bv q),i6,.zz 1 1 [.z m (bv msg)]]) (.cons (.refl _) (.cons (.refl _) (.cons .nl (.cons (.refl _) .nil))))),rfl,rfl,?_⟩;refine⟨[i64 rt,i64 rm,i64 rp,bool rb],rfl,rfl,?_⟩;refine⟨[],_,_,_,_,(a9.args Z2 (ys0:=[D2 rt rm rp rb,.z lr (bv q),i6,.z m (bv msg)]) (.cons (.refl _) (.cons (.refl _) (.cons .nl (.cons (.refl _) .nil))))),rfl,rfl,?_⟩;refine j5 (fun _=> ?_) (fun hh=>absurd rfl hh);refine⟨by rw[i9],_,rfl,?_⟩;refine⟨by rw[i9],_,rfl,?_⟩;refine eW (by simp) ?_;exact⟨_,rfl,[],congrArg bool (beq_self_eq_true _),tq⟩
 ·refine⟨[],_,_,_,_,JJ hf,rfl,rfl,?_⟩;exact⟨_,rfl,[],rfl,tq⟩
end Go.Scr
