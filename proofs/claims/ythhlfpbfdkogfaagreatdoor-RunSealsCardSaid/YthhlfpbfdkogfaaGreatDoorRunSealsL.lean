/-
  What the functions that this law alone reaches reckon, up to the law. It is no claim by itself; each contract bears its own conditions.
-/
import Derived.Test.YthhlfpbfdkogfaaGreatDoorY4
set_option linter.unusedVariables false
set_option linter.defProp false
set_option linter.unusedSimpArgs false
set_option maxRecDepth 100000
namespace Go.Scr
open Go.Proofs
open List renaming flatten_singleton → Za
def rt.law17_RunSeals:Rt:=[(7,[i1 [49,50,51,52,53,54,47,55,56,15,16] [],i0 [],i0 [],i0 [],i0 [],i4 [11] [48,49,50,54,47,55,56,15,16] [3,4],i2 [47,55,56,15,16] [0,1,2,3,4,5],i0 [0,1,2,3,4,5,6],i0 [0,1,2,3,4,5,6,7],i0 [0,1,2,3,4,5,6,7],i0 [0,1,2,3,4,5,6,7,8],i0 [0,1,2,3,4,5,6,7,8,9,10]])]
def fd.law17_RunSeals:=fk rt.law17_RunSeals 95 Tryz.func9
theorem akMode_in (mode:Int):1<=L6 mode/\L6 mode<=9:=by unfold L6;omega
theorem akPad_in (mode pad:Int):(1<=jt mode pad/\jt mode pad<=4)/\(jt mode pad=4\/L6 mode<=2):=by
 unfold jt;split
 ·omega
 ·exact⟨by decide,.inl rfl⟩
theorem ak_ok (mode pad:Int) (s:Nat) (iv:Bs):A2 s (L6 mode) (jt mode pad) (aW (L6 mode) s iv):=
 ⟨akMode_in _,(akPad_in mode pad).1,(akPad_in mode pad).2,Bc _ _ _⟩
theorem akLen_le (n:Int) (s l:Nat):oq n s l<=l:=by
 unfold oq;split
 ·exact Nat.div_mul_le_self _ _
 ·exact Nat.le_refl _
theorem akMsg_len (n:Int) (s:Nat) (m:Bs):(sr n s m).length=oq n s m.length:=by
 rw[List.length_take];have:=akLen_le n s m.length;omega
theorem cutF_flat (ns b):∀i,(l4 ns b i).1.flatten++(l4 ns b i).2=b
 |0=>rfl
 |i+1=>by
  show((l4 ns b i).1++[(l4 ns b i).2.take _]).flatten++(l4 ns b i).2.drop _=b;rw[List.flatten_append,Za,List.append_assoc,List.take_append_drop,cutF_flat ns b i]
theorem cutL_flat (ns b):(dr ns b).flatten=b:=by
 unfold dr;rw[List.flatten_append,Za,cutF_flat]
theorem c_runseals {tag n mode pad rt rm rp:Int} {back rb:Bool} {lk li lb ln lr:Nat} {k v b q:Bs} {ns:List Int} (h0:af tag) (h1:af n) (h2:af mode) (h3:af pad) (hk:k.length=lk) (hi:v.length=li) (hb:b.length=lb) (hn:ns.length=ln) (hns:∀x∈ns, -9223372036854775808<=x/\x<=9223372036854775807) (hrt:af rt) (hrm:af rm) (hrp:af rp) (hq:q.length=lr):
  a6 C 9 [oy tag n mode pad back lk k li v,.z lb (bv b),.z ln (iv ns),A4 rt rm rp rb,.z lr (bv q)] [] (.ret (bool true)) []:=by
 obtain⟨s,k0,xs,rs,h⟩:=xG tag n k;have hs:=h.s_le;have hM:=GZ (back:=back) h0 h1 h2 h3 hk hi h.hs hs.2;have lK:=uR (y9 tag) n k;have lV:=Bc (L6 mode) s v;have hkl:=uQ (jc tag) n;have ok:=ak_ok mode pad s v;refine fd.law17_RunSeals.c ?_;refine⟨[],_,_,_,_,a2P,rfl,rfl,?_⟩;refine b8 (fun hl=> ?_) (fun hl=> ?_)
 ·exact⟨_,rfl,[],rfl,tq⟩
 refine b8 (fun hr=> ?_) (fun hr=> ?_)
 ·exact⟨_,rfl,[],rfl,tq⟩
 have hS:=a2R (mode:=mode) (pad:=pad) (back:=back) (lk:=lk) (li:=li) (k:=k) (iv:=v) h0 h1 h.hs (by omega) hb (by omega);have hle:=akLen_le n s lb;have lm:=akMsg_len n s b;rw[hb]at lm;have SE:=Ml h (back:=back) lK (by omega) lV (cutL_flat ns (sr n s b)) (by omega) (by rw[zF];omega) ok;have RS:=LV h (back:=back) (msg:=sr n s b) (m:=oq n s lb) (vk:=bv (am (y9 tag) n k)) (vi:=bv (aW (L6 mode) s v)) rfl rfl rfl lK lV lm (by omega) ok;have CU:=a2M (b:=sr n s b) (ns:=ns) rfl hn (by omega) hns;rw[lm]at CU;obtain⟨rZ,Z1,Z2⟩:=a2Y rt hq (by omega) rm rp rb (iv:=[]) (li:=0) rfl lm (by omega);have hml:oq n s lb<=200:=by omega
 generalize L6 mode=md at*
 generalize jt mode pad=pd at*
 generalize sr n s b=msg at*
 generalize oq n s lb=m at*
 generalize Y7 (cF (y9 tag) (am (y9 tag) n k) false) (cF (y9 tag) (am (y9 tag) n k) true) s md pd back (aW md s v) msg=rr at*
 generalize am (y9 tag) n k=key at*
 generalize bM (y9 tag) n=lkk at*
 generalize aW md s v=V0 at*
 refine⟨[i64 tag,i64 n,i64 mode,i64 pad,bool back,.z lk (bv k),.z li (bv v)],rfl,rfl,?_⟩;by_cases hf:lk<=100/\li<=100
 ·refine⟨[],_,_,_,_,yv hf,rfl,rfl,?_⟩;refine⟨[i64 tag,i64 n,i64 mode,i64 pad,bool back,.z lk (bv k),.z li (bv v)],rfl,rfl,?_⟩;refine⟨[],_,_,_,_,hM,rfl,rfl,?_⟩;refine⟨Nat.le_of_ble_eq_true rfl,?_⟩;refine⟨[i64 tag,i64 n,i64 mode,i64 pad,bool back,.z lk (bv k),.z li (bv v)],rfl,rfl,?_⟩;refine⟨[],_,_,_,_,hS,rfl,rfl,?_⟩;refine⟨[i64 (y9 tag),i64 md,i64 pd,bool back],rfl,rfl,?_⟩;refine⟨[],_,_,_,_,CU,rfl,rfl,?_⟩;refine⟨[],_,_,_,_,SE,rfl,rfl,?_⟩;refine⟨[i64 (y9 tag),i64 md,i64 pd,bool back],rfl,rfl,?_⟩;refine⟨[],_,_,_,_,RS,rfl,rfl,?_⟩;refine⟨[i64 rt,i64 rm,i64 rp,bool rb],rfl,rfl,?_⟩;refine⟨[],_,_,_,_,(a6.args Z1 (ys0:=[A4 rt rm rp rb,.z lr (bv q),d9,.zz 1 1 [.z m (bv msg)]]) (.cons (.refl _) (.cons (.refl _) (.cons .nl (.cons (.refl _) .nil))))),rfl,rfl,?_⟩;refine⟨[i64 rt,i64 rm,i64 rp,bool rb],rfl,rfl,?_⟩;refine⟨[],_,_,_,_,(a6.args Z2 (ys0:=[A4 rt rm rp rb,.z lr (bv q),d9,.z m (bv msg)]) (.cons (.refl _) (.cons (.refl _) (.cons .nl (.cons (.refl _) .nil))))),rfl,rfl,?_⟩;refine g8 (fun _=> ?_) (fun hh=>absurd rfl hh);refine⟨by rw[f7],_,rfl,?_⟩;refine⟨by rw[f7],_,rfl,?_⟩;refine dP (by simp) ?_;exact⟨_,rfl,[],congrArg bool (beq_self_eq_true _),tq⟩
 ·refine⟨[],_,_,_,_,ID hf,rfl,rfl,?_⟩;exact⟨_,rfl,[],rfl,tq⟩
end Go.Scr
