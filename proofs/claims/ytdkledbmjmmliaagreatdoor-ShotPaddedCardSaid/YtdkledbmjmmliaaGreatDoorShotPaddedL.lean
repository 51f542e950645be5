/-
  What the functions that this law alone reaches reckon, up to the law. It is no claim by itself; each contract bears its own conditions.
-/
import Derived.Test.YtdkledbmjmmliaaGreatDoorY4
set_option linter.unusedVariables false
set_option linter.unusedSimpArgs false
set_option maxRecDepth 100000
namespace Go.Scr
open Go.Proofs
open Nat renaming le_of_ble_eq_true → Za
open Go.IntKind renaming i64 → I6
abbrev N.law15_ShotPadded:=8
def rt.law15_ShotPadded:Rt:=[(5,[i0 [],i1 [28,29,30,31,32,33,34] [0],i1 [29,30,31,32,33,34] [0,1],i0 [],i1 [26,27,28,31,32,33,34] [3],i2 [32,33,34] [0,1,2,3,4],i0 [0,1,2,3,4],i2 [33,34] [0,1,2,3,4,5,6],i0 [0,1,2,3,4,5,6,7],i2 [34] [0,1,2,3,4,5,6,7,8],i0 [0,1,2,3,4,5,6,7,8,9],i2 [] [0,1,2,3,4,5,6,7,8,9,10]]),(9,[i0 [],i1 [53,54,55,56,57,50,58,59,10,11] [0],i0 [],i0 [],i0 [],i0 [3,4],i2 [50,58,59,10,11] [0,1,2,3,4,5],i0 [0,1,2,3,4,5,6],i0 [0,1,2,3,4,5,6,7],i0 [0,1,2,3,4,5,6,7],i0 [0,1,2,3,4,5,6,7,8],i0 [0,1,2,3,4,5,6,7,8,9,10]]),(12,[i1 [71,72,73,74,75,76,77,78,79,80,69,81,82,14,15] [],i0 [],i0 [],i0 [],i0 [],i0 [],i0 [4,5],i3 [73] [70,71,72,78,79,80,69,81,82,14,15] [3,4,5,6],i0 [],i3 [73,77] [70,71,72,80,69,81,82,14,15] [3,4,5,6,7,8],i2 [69,81,82,14,15] [0,1,2,3,4,5,6,7,8,9],i0 [0,1,2,3,4,5,6,7,8,9,10],i0 [0,1,2,3,4,5,6,7,8,9,10,11],i0 [0,1,2,3,4,5,6,7,8,9,10,11],i0 [0,1,2,3,4,5,6,7,8,9,10,11,12],i0 [0,1,2,3,4,5,6,7,8,9,10,11,12,13,14]])]
theorem fd.law15_ShotPadded:FnD C 8 rt.law15_ShotPadded Tryz.f8 96:=fk Tryz.func8 (by kernel_rfl)
abbrev con.law15_ShotPadded:=@FnD.c _ _ _ _ _ fd.law15_ShotPadded
theorem keyOf_len (t n k):(keyOf t n k).length=kLen t n:=bytesN_len _ _
theorem kLen_mem {t n:Int} (ht:okTag t):((kLen t n:Nat):Int)∈cLens t:=by
 have hp:=cLens_pos ht
 have h1:=Int.emod_nonneg n (b:=((cLens t).length:Int)) (by omega)
 have h2:=Int.emod_lt_of_pos n (b:=((cLens t).length:Int)) (by omega)
 have hi:(n%((cLens t).length:Int)).toNat<(cLens t).length:=by omega
 have hx:(cLens t).getD (n%((cLens t).length:Int)).toNat 0∈cLens t:=by
  rw[List.getD_eq_getElem?_getD,List.getElem?_eq_getElem hi];exact List.getElem_mem hi
 have h0:0≤(cLens t).getD (n%((cLens t).length:Int)).toNat 0:=by
  have:∀x∈cLens t,0≤x:=by
   rcases ht with rfl|rfl|rfl|rfl|rfl|rfl|rfl|rfl<;>decide
  exact this _ hx
 rw[kLen,Int.toNat_of_nonneg h0];exact hx
theorem ciph_law (tag n:Int) (k:List UInt8):∃s q xs rs,Ciph (tagOf tag) (keyOf (tagOf tag) n k) s q xs rs:=ciph_ok (tagOf_ok _) (by rw[keyOf_len];exact kLen_mem (tagOf_ok _))
theorem ivL_len (mode s b):(ivL mode s b).length=ivN mode s:=by
 unfold ivL ivN
 split
 ·rfl
 ·exact bytesN_len _ _
theorem ask_ciph (tag n:Int) (k:List UInt8):∃s q xs rs,Ciph (tagOf tag) (keyOf (tagOf tag) n k) s q xs rs:=ciph_law tag n k
theorem mod_div_sub {l s:Nat} (hs:0<s):l-l%s=l/s*s:=by
 have h1:=Nat.div_add_mod l s
 have h2:l/s*s=s*(l/s):=Nat.mul_comm _ _
 omega
theorem shP_padded {E D:List UInt8→List UInt8} {n:Nat} {mode pad:Int} {iv m:List UInt8} (hn:0<n) (hm:1≤mode∧mode≤2) (hp:pad≠4):shP E D n mode 4 false iv (padUp pad n m)=shP E D n mode pad false iv m:=by
 have hl:=padUp_len (pad:=pad) (m:=m) hn
 unfold shP
 rw[if_neg (by omega),if_pos rfl,if_pos (by rw[hl];exact grain_mod fun _=>by rw[Nat.add_mod_right,Nat.mul_mod_left]),if_neg (by omega),if_neg hp,if_pos rfl]
theorem padUp_eq {pad:Int} {s lb:Nat} {b:List UInt8} (hs:0<s) (hb:b.length=lb):padUp pad s b=b.take (lb/s*s)++pdAdd pad s (b.drop (lb/s*s)):=by
 unfold padUp;rw[hb,mod_div_sub hs]
theorem cat_eq {F T:List UInt8} {a s:Nat} (lF:F.length=a) (lT:T.length=s):V.z (0+a+s) (sub (sub (sub ([]:List Value) 0 (0*1)++bv F) 0 ((0+a)*1)++sub (bv T) 0 (s*1)) 0 (0+a+s))=V.z (a+s) (bv (F++T)):=by
 have e:sub ([]:List Value) 0 (0*1)=[]:=rfl
 rw[e,List.nil_append,Nat.zero_add,Nat.mul_one,Nat.mul_one,bv_all lF,bv_all lT,bv_app,bv_all (by rw[List.length_append,lF,lT])]
theorem c_spad {tag n mode pad:Int} {back:Bool} {lk li lb:Nat} {k iv b:List UInt8} (h0:In64 tag) (h1:In64 n) (h2:In64 mode) (h3:In64 pad) (hk:k.length=lk) (hi:iv.length=li) (hb:b.length=lb):
  Con C N.law15_ShotPadded [askV tag n mode pad back lk k li iv,.z lb (bv b)] [] (.ret (bool true)) []:=by
 obtain⟨s,q,xs,rs,h⟩:=ask_ciph tag n k
 have hs:=h.s_le
 have hM:=c_askmake (mode:=mode%2) (pad:=pad%3) (back:=false) h0 h1 (by unfold In64;omega) (by unfold In64;omega) hk hi h.hs hs.2
 have hR:=h.hs▸c_r11_size h.ht
 have W1:=c_w15 (a:=mode) (n:=2) (by omega) (by omega) h2
 have W2:=c_w15 (a:=pad) (n:=3) (by omega) (by omega) h3
 have em:akMode (mode%2)=1+mode%2:=by unfold akMode;omega
 have ep:akPad (mode%2) (pad%3)=1+pad%3:=by unfold akPad;rw[em,if_pos (by omega)];omega
 rw[em,ep]at hM
 have lK:=keyOf_len (tagOf tag) n k
 have lV:=ivL_len (1+mode%2) s iv
 have hmd:1≤1+mode%2∧1+mode%2≤2:=by omega
 have hpd:1+pad%3=1∨1+pad%3=2∨1+pad%3=3:=by omega
 generalize 1+mode%2=md at*
 generalize 1+pad%3=pd at*
 generalize keyOf (tagOf tag) n k=key at*
 generalize kLen (tagOf tag) n=lkk at*
 have ok:shOk s md pd (ivL md s iv):=⟨by omega,by omega,.inr (by omega),lV⟩
 have ok4:shOk s md 4 (ivL md s iv):=⟨by omega,by decide,.inl rfl,lV⟩
 have hs8:s=8∨s=16:=h.s_two
 refine con.law15_ShotPadded ?_
 refine⟨[],_,_,_,_,c_known15,rfl,rfl,?_⟩
 refine spl_d (fun hl=> ?_) (fun hl=> ?_)
 ·exact⟨_,rfl,[],rfl,trivial⟩
 have hv:=div_mul_wrap (l:=lb) (s:=s) (by omega) (by omega)
 have hkk:lb/s*s≤lb:=Nat.div_mul_le_self _ _
 have hmod:lb-lb/s*s<s:=by
  have a1:=Nat.mod_lt lb (show 0<s by omega)
  have a2:=mod_div_sub (l:=lb) (s:=s) (by omega)
  have a3:=Nat.mod_le lb s
  omega
 have hpu:=padUp_eq (pad:=pd) (s:=s) (by omega) hb
 have lpu:=padUp_len (pad:=pd) (n:=s) (m:=b) (by omega)
 rw[hb]at lpu
 have e12:=shP_padded (E:=cF (tagOf tag) key false) (D:=cF (tagOf tag) key true) (n:=s) (mode:=md) (pad:=pd) (iv:=ivL md s iv) (m:=b) (by omega) hmd (by omega)
 have lt:(b.drop (lb/s*s)).length=lb-lb/s*s:=by rw[List.length_drop,hb]
 have lfr:(b.take (lb/s*s)).length=lb/s*s:=by rw[List.length_take];omega
 have hA:=c_r14_add (kind:=pd) (s:=s) (m:=lb-lb/s*s) (vt:=bv (b.drop (lb/s*s))) hpd hs8 rfl lt hmod
 have P:=c_shotP h (back:=false) (msg:=b) (m:=lb) rfl rfl rfl lK lV hb (by omega) ok
 have Q:=c_shotP h (back:=false) (msg:=padUp pd s b) (m:=lb/s*s+s) rfl rfl rfl lK lV lpu (by omega) ok4
 rw[e12]at Q
 obtain⟨p1,p2⟩:=shP_len h.ci (by omega) ok (m:=b) (by unfold shFine;omega)
 generalize shP (cF (tagOf tag) key false) (cF (tagOf tag) key true) s md pd false (ivL md s iv) b=r at*
 obtain⟨x,e⟩:=r
 dsimp only at p1 p2
 subst p1
 rw[hpu]at Q lpu
 have la:(pdAdd pd s (b.drop (lb/s*s))).length=s:=by rw[List.length_append,lfr]at lpu;omega
 generalize pdAdd pd s (b.drop (lb/s*s))=tl at*
 clear hpu e12
 refine⟨[i64 tag,i64 n,i64 mode,i64 pad,bool back,.z lk (bv k),.z li (bv iv)],rfl,rfl,?_⟩
 by_cases hf:lk≤100∧li≤100
 ·refine⟨[],_,_,_,_,c_few_y hf,rfl,rfl,?_⟩
  refine⟨_,rfl,?_⟩
  refine⟨[],_,_,_,_,W1,rfl,rfl,?_⟩
  refine⟨_,rfl,?_⟩
  refine⟨[],_,_,_,_,W2,rfl,rfl,?_⟩
  refine⟨Za rfl,?_⟩
  refine⟨Za rfl,?_⟩
  refine⟨Za rfl,?_⟩
  refine⟨[i64 tag,i64 n,i64 (mode%2),i64 (pad%3),bool false,.z lk (bv k),.z li (bv iv)],rfl,rfl,?_⟩
  refine⟨[],_,_,_,_,hM,rfl,rfl,?_⟩
  refine⟨Za rfl,?_⟩
  refine⟨_,rfl,?_⟩
  refine⟨[],_,_,_,_,hR,rfl,rfl,?_⟩
  refine⟨by omega,?_⟩
  refine⟨_,rfl,?_⟩
  refine⟨by rw[hv];omega,by rw[hv];omega,by omega,by omega,?_⟩
  refine⟨[],_,_,_,_,hA,?_,rfl,?_⟩
  ·show[i64 pd,i64 s,V.z (lb-(I6.wrap (I6.wrap ((lb:Int).tdiv s)*s)).toNat) (sub (bv b) (I6.wrap (I6.wrap ((lb:Int).tdiv s)*s)).toNat (lb-(I6.wrap (I6.wrap ((lb:Int).tdiv s)*s)).toNat))]=_
   rw[hv,Int.toNat_natCast,bv_sub,sub_end _ _ _ (by omega)]
  refine⟨[i64 (tagOf tag),i64 md,i64 pd,bool false],rfl,rfl,?_⟩
  refine⟨[],_,_,_,_,P,rfl,rfl,?_⟩
  refine⟨Za rfl,?_⟩
  refine⟨[i64 (tagOf tag),i64 md,i64 4,bool false],rfl,rfl,?_⟩
  refine⟨by omega,by rw[hv];omega,by rw[hv];omega,by rw[hv];omega,?_⟩
  have hvt:(I6.wrap (I6.wrap ((lb:Int).tdiv s)*s)).toNat-0=lb/s*s:=by rw[hv,Int.toNat_natCast];rfl
  refine⟨by rw[hvt,bv_sub,bv_len];exact lfr,by rw[hvt];omega,Nat.le_refl _,?_⟩
  refine⟨by rw[bv_len,la];omega,by rw[hvt];omega,?_,?_⟩
  ·rw[hvt,bv_sub]
   show 0+(0+lb/s*s)*1≤([]++bv (b.take (lb/s*s))).length
   rw[List.nil_append,bv_len,lfr];omega
  refine⟨[],_,_,_,_,Q,?_,rfl,?_⟩
  ·show[cfgV (tagOf tag) md 4 false,V.z lkk (bv key),V.z _ _,V.z (0+((I6.wrap (I6.wrap ((lb:Int).tdiv s)*s)).toNat-0)+s) (sub (sub (sub ([]:List Value) 0 (0*1)++sub (bv b) 0 ((I6.wrap (I6.wrap ((lb:Int).tdiv s)*s)).toNat-0)) 0 ((0+((I6.wrap (I6.wrap ((lb:Int).tdiv s)*s)).toNat-0))*1)++sub (bv tl) 0 (s*1)) 0 (0+((I6.wrap (I6.wrap ((lb:Int).tdiv s)*s)).toNat-0)+s))]=_
   rw[hvt,bv_sub,show sub b 0 (lb/s*s)=b.take (lb/s*s) from rfl,cat_eq lfr la]
  refine⟨by rw[bv_len],_,rfl,?_⟩
  refine⟨by rw[bv_len],_,rfl,?_⟩
  exact⟨_,rfl,[],congrArg bool (beq_self_eq_true _),trivial⟩
 ·refine⟨[],_,_,_,_,c_few_n hf,rfl,rfl,?_⟩
  exact⟨_,rfl,[],rfl,trivial⟩
end Go.Scr
