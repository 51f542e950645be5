/-
  What the functions that this law alone reaches reckon, up to the law. It is no claim by itself; each contract bears its own conditions.
-/
import Derived.Test.YtggojcedobgnaaaGreatDoorY3
set_option linter.unusedVariables false
set_option linter.unusedSimpArgs false
set_option maxRecDepth 100000
namespace Go.Scr
open Go.Proofs
open Go.IntKind renaming i64 → I6
abbrev N.law16_CtxErrs:=13
theorem fd.law16_CtxErrs:FnD C 13 [] Tryz.f13 100:=fk Tryz.func13 (by kernel_rfl)
abbrev con.law16_CtxErrs:=@FnD.c _ _ _ _ _ fd.law16_CtxErrs
theorem kLen_mem {t n:Int} (ht:okTag t):((kLen t n:Nat):Int)∈cLens t:=by
 have hp:=cLens_pos ht
 have h1:=Int.emod_nonneg n (b:=((cLens t).length:Int)) (by omega)
 have h2:=Int.emod_lt_of_pos n (b:=((cLens t).length:Int)) (by omega)
 have hi:(n%((cLens t).length:Int)).toNat<(cLens t).length:=by omega
 have hx:(cLens t).getD (n%((cLens t).length:Int)).toNat 0∈cLens t:=by
  rw[List.getD_eq_getElem?_getD,List.getElem?_eq_getElem hi];exact List.getElem_mem hi
 have h0:0≤(cLens t).getD (n%((cLens t).length:Int)).toNat 0:=by
  have:∀x∈cLens t,0≤x:=by
   rcases ht with rfl|rfl|rfl|rfl|rfl|rfl|rfl|rfl<;>decide
  exact this _ hx
 rw[kLen,Int.toNat_of_nonneg h0];exact hx
theorem ciph_law (tag n:Int) (k:List UInt8):∃s q xs rs,Ciph (tagOf tag) (keyOf (tagOf tag) n k) s q xs rs:=ciph_ok (tagOf_ok _) (by rw[keyOf_len];exact kLen_mem (tagOf_ok _))
theorem ask_ciph (tag n:Int) (k:List UInt8):∃s q xs rs,Ciph (tagOf tag) (keyOf (tagOf tag) n k) s q xs rs:=ciph_law tag n k
theorem shP_short {E D:List UInt8→List UInt8} {n:Nat} {mode pad:Int} {back:Bool} {iv m:List UInt8} (ok:shOk n mode pad iv) (h1:0<m.length) (h2:m.length<n):
  (shP E D n mode pad back iv m).2=if (2<mode∧mode<7)∨(mode≤2∧pad≠4∧back=false)then 0 else 7:=by
 have hm:=ok.1
 have hmn:m.length%n=m.length:=Nat.mod_eq_of_lt h2
 unfold shP
 by_cases h7:7≤mode
 ·rw[if_pos h7,if_neg (by omega)]
  unfold shSt
  rw[if_pos h2]
 ·rw[if_neg h7]
  by_cases h4:pad=4
  ·rw[if_pos h4]
   unfold moGrain
   by_cases h3:2<mode
   ·rw[if_neg (show ¬(mode=1∨mode=2) by omega),Nat.mod_one,if_pos rfl,if_pos (show (2<mode∧mode<7)∨(mode≤2∧pad≠4∧back=false) from .inl ⟨h3,by omega⟩)]
   ·rw[if_pos (show mode=1∨mode=2 by omega),hmn,if_neg (by omega),if_neg (show ¬((2<mode∧mode<7)∨(mode≤2∧pad≠4∧back=false)) by omega)]
  ·have h2':mode≤2:=ok.2.2.1.resolve_left h4
   rw[if_neg h4]
   cases back
   ·rw[if_pos rfl,if_pos (show (2<mode∧mode<7)∨(mode≤2∧pad≠4∧false=false) from .inr ⟨h2',h4,rfl⟩)]
   ·rw[if_neg (by decide),if_pos (show m.length=0∨m.length%n≠0 from .inr (by omega)),if_neg (by simp;omega)]
theorem c_cxerrs {tag n mode pad w:Int} {back:Bool} {lk li:Nat} {k v:List UInt8} (h0:In64 tag) (h1:In64 n) (h2:In64 mode) (h3:In64 pad) (hk:k.length=lk) (hi:v.length=li) (hw:In64 w):
  Con C N.law16_CtxErrs [askV tag n mode pad back lk k li v,i64 w] [] (.ret (bool true)) []:=by
 obtain⟨s,q,xs,rs,h⟩:=ask_ciph tag n k
 have hs:=h.s_le
 have hM:=c_askmake (back:=back) h0 h1 h2 h3 hk hi h.hs hs.2
 have hR:Con C N.r11_Size [i64 (tagOf tag)] [] (.ret (i64 s)) []:=by rw[←h.hs];exact c_r11_size (tagOf_ok _)
 have ok:=ak_ok mode pad s v
 have OP:=c_open16 (back:=back) h0 h1 h2 h3 hk hi h
 have e1:I6.wrap ((s:Int)-1)=(s:Int)-1:=IntWalk.i64_in _ (by omega)
 have WI:=c_w16 (a:=w) (n:=I6.wrap ((s:Int)-1)) (by omega) (by omega) hw
 obtain⟨j,hj⟩:∃j:Nat,I6.wrap (1+w%I6.wrap ((s:Int)-1))=(j:Int)∧0<j∧j<s:=by
  rw[e1]
  have a1:=Int.emod_nonneg w (show (s:Int)-1≠0 by omega)
  have a2:=Int.emod_lt_of_pos w (show 0<(s:Int)-1 by omega)
  exact⟨(1+w%((s:Int)-1)).toNat,by rw[IntWalk.i64_in _ (by omega)];omega,by omega,by omega⟩
 obtain⟨hj1,hj2,hj3⟩:=hj
 obtain⟨z,hz⟩:∃z:List UInt8,z=List.replicate j 0:=⟨_,rfl⟩
 have lz:z.length=j:=by rw[hz,List.length_replicate]
 obtain⟨a,o,hn,_,_,U⟩:=cx_up h (back:=back) (iv:=ivL (akMode mode) s v) (M:=[]) (b:=z) (x:= .n) ok (.inl ⟨rfl,cxH_0⟩) lz (by simp;omega)
 have U:=U.resolve_right (fun hh=>hh.1 (by rw[cS_0' (by omega) ok]))
 rw[cL_0 (by omega) ok,cS_0' (by omega) ok,List.nil_append]at U
 obtain⟨r,hr⟩:∃r,r=cxEnd (cF (tagOf tag) (keyOf (tagOf tag) n k) false) (cF (tagOf tag) (keyOf (tagOf tag) n k) true) s (akMode mode) (akPad mode pad) back (cS (tagOf tag) (keyOf (tagOf tag) n k) s (akMode mode) (akPad mode pad) back (ivL (akMode mode) s v) z) (cL (tagOf tag) (keyOf (tagOf tag) n k) s (akMode mode) (akPad mode pad) back (ivL (akMode mode) s v) z) (cxH s (akMode mode) (akPad mode pad) back z):=⟨_,rfl⟩
 obtain⟨_,last',F⟩:=cx_fi h (x:= .o (cxH s (akMode mode) (akPad mode pad) back z)) (back:=back) (M:=z) ok (.inr rfl) (by omega) hr
 obtain⟨E1,E2⟩:=cx_end (M:=z) h.ci (by omega) ok hr
 have hE:r.2=if (2<akMode mode∧akMode mode<7)∨(akMode mode≤2∧akPad mode pad≠4∧back=false)then 0 else 7:=by
  rw[←shP_short (E:=cF (tagOf tag) (keyOf (tagOf tag) n k) false) (D:=cF (tagOf tag) (keyOf (tagOf tag) n k) true) ok (by omega) (show z.length<s by omega),E1]
 generalize cL (tagOf tag) (keyOf (tagOf tag) n k) s (akMode mode) (akPad mode pad) back (ivL (akMode mode) s v) z=la at*
 generalize cxH s (akMode mode) (akPad mode pad) back z=H at*
 generalize cS (tagOf tag) (keyOf (tagOf tag) n k) s (akMode mode) (akPad mode pad) back (ivL (akMode mode) s v) z=st1 at*
 have hmd:=akMode_in mode
 generalize akMode mode=md at*
 generalize akPad mode pad=pd at*
 generalize ivL md s v=V0 at*
 generalize keyOf (tagOf tag) n k=key at*
 obtain⟨r1,r2⟩:=r
 simp only at F hE E2
 refine con.law16_CtxErrs ?_
 refine⟨[],_,_,_,_,c_known16,rfl,rfl,?_⟩
 refine⟨[i64 tag,i64 n,i64 mode,i64 pad,bool back,.z lk (bv k),.z li (bv v)],rfl,rfl,?_⟩
 by_cases hf:lk≤100∧li≤100
 ·refine⟨[],_,_,_,_,c_few_y hf,rfl,rfl,?_⟩
  refine⟨[i64 tag,i64 n,i64 mode,i64 pad,bool back,.z lk (bv k),.z li (bv v)],rfl,rfl,?_⟩
  refine⟨[],_,_,_,_,OP,rfl,rfl,?_⟩
  refine⟨[i64 tag,i64 n,i64 mode,i64 pad,bool back,.z lk (bv k),.z li (bv v)],rfl,rfl,?_⟩
  refine⟨[],_,_,_,_,hM,rfl,rfl,?_⟩
  refine⟨Nat.le_of_ble_eq_true rfl,?_⟩
  refine⟨_,rfl,?_⟩
  refine⟨[],_,_,_,_,hR,rfl,rfl,?_⟩
  refine⟨[],_,_,_,_,WI,rfl,rfl,?_⟩
  refine⟨by rw[hj1];omega,by rw[hj1];omega,by rw[hj1];omega,?_⟩
  obtain⟨ch,row,g⟩:=st1
  rcases row with _|⟨a1,rr1⟩
  all_goals
   refine⟨[.d 22 0,.d 22 1,.d 22 2,.d 22 3],_,_,_,_,U,?_,rfl,?_⟩
   ·show[V.p (.k 0) 0,V.z (I6.wrap (1+w%I6.wrap ((s:Int)-1))).toNat (sub (List.replicate (I6.wrap (1+w%I6.wrap ((s:Int)-1))).toNat (Value.int .u8 0)) 0 (I6.wrap (1+w%I6.wrap ((s:Int)-1))).toNat)]=_
    rw[hj1,Int.toNat_natCast,bv_rep,←hz,bv_all lz]
   refine⟨[.d 22 0,.d 22 1,.d 42 4,.d 42 5],_,_,_,_,F,rfl,rfl,?_⟩
   refine⟨[.d 22 0,.d 22 1],_,_,_,_,c_cxfinC,rfl,rfl,?_⟩
   refine⟨_,rfl,?_⟩
   refine spl_d (fun ha=> ?_) (fun ha=> ?_)
   ·refine⟨_,rfl,?_⟩
    refine spl_d (fun hb=> ?_) (fun hb=> ?_)
    ·obtain rfl:r2=0:=by rw[hE,if_pos (.inl ⟨by omega,by omega⟩)]
     exact⟨_,rfl,[],rfl,trivial⟩
    ·obtain rfl:r2=7:=by rw[hE,if_neg (by omega)]
     obtain rfl:=E2 (by decide)
     refine⟨_,rfl,?_⟩
     refine spl_d (fun hc=>absurd hc (by omega)) (fun _=> ?_)
     refine⟨[.d 22 0,.d 22 1],_,_,_,_,c_cxheldC,rfl,rfl,?_⟩
     exact⟨_,rfl,[],rfl,trivial⟩
   ·refine⟨_,rfl,?_⟩
    refine spl_d (fun hc=> ?_) (fun hc=>absurd hc (by omega))
    refine⟨_,rfl,?_⟩
    refine spl_ne (fun hp=> ?_) (fun hp=> ?_)
    ·refine⟨_,rfl,?_⟩
     cases back
     ·obtain rfl:r2=0:=by rw[hE,if_pos (.inr ⟨by omega,hp,rfl⟩)]
      exact⟨_,rfl,[],rfl,trivial⟩
     ·obtain rfl:r2=7:=by rw[hE,if_neg (by simp;omega)]
      obtain rfl:=E2 (by decide)
      refine⟨[.d 22 0,.d 22 1],_,_,_,_,c_cxheldC,rfl,rfl,?_⟩
      exact⟨_,rfl,[],rfl,trivial⟩
    ·obtain rfl:r2=7:=by rw[hE,if_neg (by omega)]
     obtain rfl:=E2 (by decide)
     refine⟨[.d 22 0,.d 22 1],_,_,_,_,c_cxheldC,rfl,rfl,?_⟩
     exact⟨_,rfl,[],rfl,trivial⟩
 ·refine⟨[],_,_,_,_,c_few_n hf,rfl,rfl,?_⟩
  exact⟨_,rfl,[],rfl,trivial⟩
end Go.Scr
