/-
  What the functions that this law alone reaches reckon, up to the law. It is no claim by itself; each contract bears its own conditions.
-/
import Derived.Test.YtggojcedobgnaaaGreatDoorY3
set_option linter.unusedVariables false
set_option linter.unusedSimpArgs false
set_option maxRecDepth 100000
namespace Go.Scr
open Go.Proofs
open Int renaming toNat_natCast → Za
abbrev N.law16_CtxRefused:=8
def rt.law16_CtxRefused:Rt:=[(5,[i1 [42,43,44,11,12] [],i1 [43,44,11,12] [0],i1 [41,42,44,11,12] [],i2 [11,12] [0,1,2],i0 [0,1,2,3],i0 [0,1,2,3,4]]),(11,[i1 [73,74,75,76,77,78,79,80,81,82,83,84,85] [],i0 [],i2 [75,76,77,78,79,80,81,82,83,84,85] [0,1],i0 [0,1,2],i0 [0,1,2,3],i0 [0,1,2,3,4],i1 [77,79,80,81,82,83,84,85] [0,1,2,3,4],i0 [0,1,2,3,4],i1 [81,82,83,84,85] [0,1,2,3,4,5,6,7],i1 [77,78,79,80,82,83,84,85] [0,1,2,3,4],i0 [0,1,2,3,4],i2 [84,85] [0,1,2,3,4,5,6,7,8,9,10],i0 [0,1,2,3,4,5,6,7,8,9,10,11],i0 [0,1,2,3,4,5,6,7,8,9,10,11,12]])]
theorem fd.law16_CtxRefused:FnD C 8 rt.law16_CtxRefused Tryz.f8 148:=fk Tryz.func8 (by kernel_rfl)
abbrev con.law16_CtxRefused:=@FnD.c _ _ _ _ _ fd.law16_CtxRefused
theorem kLen_mem {t n:Int} (ht:okTag t):((kLen t n:Nat):Int)∈cLens t:=by
 have hp:=cLens_pos ht
 have h1:=Int.emod_nonneg n (b:=((cLens t).length:Int)) (by omega)
 have h2:=Int.emod_lt_of_pos n (b:=((cLens t).length:Int)) (by omega)
 have hi:(n%((cLens t).length:Int)).toNat<(cLens t).length:=by omega
 have hx:(cLens t).getD (n%((cLens t).length:Int)).toNat 0∈cLens t:=by
  rw[List.getD_eq_getElem?_getD,List.getElem?_eq_getElem hi];exact List.getElem_mem hi
 have h0:0≤(cLens t).getD (n%((cLens t).length:Int)).toNat 0:=by
  have:∀x∈cLens t,0≤x:=by
   rcases ht with rfl|rfl|rfl|rfl|rfl|rfl|rfl|rfl<;>decide
  exact this _ hx
 rw[kLen,Int.toNat_of_nonneg h0];exact hx
theorem ciph_law (tag n:Int) (k:List UInt8):∃s q xs rs,Ciph (tagOf tag) (keyOf (tagOf tag) n k) s q xs rs:=ciph_ok (tagOf_ok _) (by rw[keyOf_len];exact kLen_mem (tagOf_ok _))
theorem ask_ciph (tag n:Int) (k:List UInt8):∃s q xs rs,Ciph (tagOf tag) (keyOf (tagOf tag) n k) s q xs rs:=ciph_law tag n k
set_option maxHeartbeats 4000000 in
theorem c_cxrefused {tag n mode pad rt rm rp w:Int} {back rb:Bool} {lk li lb lz:Nat} {k v b z:List UInt8} (h0:In64 tag) (h1:In64 n) (h2:In64 mode) (h3:In64 pad) (hk:k.length=lk) (hi:v.length=li) (hb:b.length=lb) (hrt:In64 rt) (hrm:In64 rm) (hrp:In64 rp) (hz:z.length=lz) (hw:In64 w):
  Con C N.law16_CtxRefused [askV tag n mode pad back lk k li v,.z lb (bv b),cfgV rt rm rp rb,.z lz (bv z),i64 w] [] (.ret (bool true)) []:=by
 obtain⟨s,q,xs,rs,h⟩:=ask_ciph tag n k
 have hs:=h.s_le
 have ok:=ak_ok mode pad s v
 have OP:=c_open16 (back:=back) h0 h1 h2 h3 hk hi h
 refine con.law16_CtxRefused ?_
 refine⟨[],_,_,_,_,c_known16,rfl,rfl,?_⟩
 refine spl_d (fun hl=> ?_) (fun hl=> ?_)
 ·exact⟨_,rfl,[],rfl,trivial⟩
 refine spl_d (fun hl2=> ?_) (fun hl2=> ?_)
 ·exact⟨_,rfl,[],rfl,trivial⟩
 have e1:IntKind.i64.wrap ((lb:Int)+1)=(lb:Int)+1:=IntWalk.i64_in _ (by omega)
 obtain⟨i,hi1,hi2⟩:∃i:Nat,w%((lb:Int)+1)=i∧i≤lb:=by
  have a1:=Int.emod_nonneg w (show (lb:Int)+1≠0 by omega)
  have a2:=Int.emod_lt_of_pos w (show 0<(lb:Int)+1 by omega)
  exact⟨(w%((lb:Int)+1)).toNat,by omega,by omega⟩
 have WI:=c_w16 (a:=w) (n:=IntKind.i64.wrap ((lb:Int)+1)) (by omega) (by omega) hw
 rw[e1,hi1]at WI
 have lt:(b.take i).length=i:=by rw[List.length_take];omega
 have ld:(b.drop i).length=lb-i:=by rw[List.length_drop,hb]
 have CK:=(check_both rt hz (by omega) rm rp rb (iv:=[]) (li:=0) rfl).2
 have IN:=fun(st:MS) (l H:List UInt8) he=>c_cxinit_noB (t:=rt) (mode:=rm) (pad:=rp) (back:=rb) (key:=z) (iv:=[]) (t0:=tagOf tag) (mode0:=akMode mode) (pad0:=akPad mode pad) (md0:=cxMd (akMode mode)) (op:=true) (back0:=back) (k0:=q) (xs0:=xs) (iv0:=ivL (akMode mode) s v) (last0:=l) (st0:=st) (x0:= .o H) hz (by omega) (li:=0) rfl he
 obtain⟨z17,hz17⟩:∃z17:List UInt8,z17=List.replicate 17 0:=⟨_,rfl⟩
 have l17:z17.length=17:=by rw[hz17];rfl
 have e4:shErr 7 1 4 (cSize 7).toNat 17 0=4:=by unfold shErr;rw[if_neg (by unfold okTag;omega),if_pos (by decide)]
 have I17:=fun(st:MS) (l H:List UInt8)=>c_cxinit_noB (t:=7) (mode:=1) (pad:=4) (back:=false) (key:=z17) (iv:=[]) (t0:=tagOf tag) (mode0:=akMode mode) (pad0:=akPad mode pad) (md0:=cxMd (akMode mode)) (op:=true) (back0:=back) (k0:=q) (xs0:=xs) (iv0:=ivL (akMode mode) s v) (last0:=l) (st0:=st) (x0:= .o H) l17 (by omega) (li:=0) rfl (by rw[e4];decide)
 rw[e4]at I17
 obtain⟨a,o,hn,_,_,U⟩:=cx_up h (back:=back) (iv:=ivL (akMode mode) s v) (M:=[]) (b:=b.take i) (x:= .n) ok (.inl ⟨rfl,cxH_0⟩) lt (by simp;omega)
 have U:=U.resolve_right (fun hh=>hh.1 (by rw[cS_0' (by omega) ok]))
 rw[cL_0 (by omega) ok,cS_0' (by omega) ok,List.nil_append]at U
 obtain⟨a',o',hn',_,_,V2⟩:=cx_up h (back:=back) (iv:=ivL (akMode mode) s v) (M:=b.take i) (b:=b.drop i) (x:= .o (cxH s (akMode mode) (akPad mode pad) back (b.take i))) ok (.inr rfl) ld (by omega)
 rw[List.take_append_drop]at V2
 obtain⟨_,last',F⟩:=cx_fi h (x:= .o (cxH s (akMode mode) (akPad mode pad) back b)) (back:=back) (iv:=ivL (akMode mode) s v) (M:=b) ok (.inr rfl) (by omega) rfl
 have HE:=fun(st:MS) (l H:List UInt8)=>c_cxheld (t:=tagOf tag) (mode:=akMode mode) (pad:=akPad mode pad) (md:=cxMd (akMode mode)) (op:=true) (back:=back) (k:=q) (xs:=xs) (iv:=ivL (akMode mode) s v) (last:=l) (st:=st) (x:= .o H)
 generalize cxEnd _ _ _ _ _ _ _ _ _=r at*
 generalize shErr rt rm rp (cSize rt).toNat lz 0=e0 at*
 generalize akMode mode=md at*
 generalize akPad mode pad=pd at*
 generalize ivL md s v=V0 at*
 generalize keyOf (tagOf tag) n k=key at*
 generalize cS (tagOf tag) key s md pd back V0 (b.take i)=st1 at*
 generalize cL (tagOf tag) key s md pd back V0 (b.take i)=la1 at*
 generalize cxH s md pd back (b.take i)=H1 at*
 generalize cS (tagOf tag) key s md pd back V0 b=st2 at*
 generalize cL (tagOf tag) key s md pd back V0 b=la2 at*
 generalize cxH s md pd back b=H2 at*
 refine⟨[i64 tag,i64 n,i64 mode,i64 pad,bool back,.z lk (bv k),.z li (bv v)],rfl,rfl,?_⟩
 by_cases hf:lk≤100∧li≤100
 ·refine⟨[],_,_,_,_,c_few_y hf,rfl,rfl,?_⟩
  obtain⟨ch1,row1,g1⟩:=st1
  obtain⟨ch2,row2,g2⟩:=st2
  rcases row1 with _|⟨a1,r1⟩
  all_goals
   refine⟨[i64 tag,i64 n,i64 mode,i64 pad,bool back,.z lk (bv k),.z li (bv v)],rfl,rfl,?_⟩
   refine⟨[],_,_,_,_,OP,rfl,rfl,?_⟩
   refine⟨[i64 tag,i64 n,i64 mode,i64 pad,bool back,.z lk (bv k),.z li (bv v)],rfl,rfl,?_⟩
   refine⟨[],_,_,_,_,OP,rfl,rfl,?_⟩
   refine⟨[],_,_,_,_,WI,?_,rfl,?_⟩
   ·show[i64 w,i64 (IntKind.i64.wrap ((lb:Int)+1))]=_
    rw[e1]
   refine⟨by omega,by omega,by omega,by omega,?_⟩
   refine⟨[.d 42 0,.d 42 1,.d 42 2,.d 42 3],_,_,_,_,U,?_,rfl,?_⟩
   ·show[V.p (.k 0) 0,V.z ((i:Nat):Int).toNat (sub (bv b) 0 ((i:Nat):Int).toNat)]=_
    rw[Za];exact congrArg (fun u=>[V.p (.k 0) 0,V.z i u]) (bv_sub _ 0 i)
   refine⟨by omega,by omega,by omega,by omega,?_⟩
   refine⟨[.d 44 0,.d 44 1,.d 44 2,.d 44 3],_,_,_,_,U,?_,rfl,?_⟩
   ·show[V.p (.k 0) 0,V.z ((i:Nat):Int).toNat (sub (bv b) 0 ((i:Nat):Int).toNat)]=_
    rw[Za];exact congrArg (fun u=>[V.p (.k 0) 0,V.z i u]) (bv_sub _ 0 i)
   refine⟨[i64 rt,i64 rm,i64 rp,bool rb],rfl,rfl,?_⟩
   refine⟨[],_,_,_,_,Con.args CK (ys0:=[cfgV rt rm rp rb,.z lz (bv z),nilv]) (.cons (.refl _) (.cons (.refl _) (.cons .nl .nil))),rfl,rfl,?_⟩
   refine spl_ne (fun he=> ?_) (fun he=> ?_)
   ·refine⟨[i64 rt,i64 rm,i64 rp,bool rb],rfl,rfl,?_⟩
    refine⟨[.d 42 0,.d 42 1,.d 61 4,.d 61 5],_,_,_,_,Con.args (IN _ la1 H1 he) (ys0:=[.p (.k 0) 0,cfgV rt rm rp rb,.z lz (bv z),nilv]) (.cons (.refl _) (.cons (.refl _) (.cons (.refl _) (.cons .nl .nil)))),rfl,rfl,?_⟩
    refine chk_t rfl ?_
    refine chk_t (by first|rfl|exact ck_s rfl rfl (ck_s rfl rfl (ck_s rfl rfl (ck_s rfl rfl rfl)))) ?_
    refine⟨[i64 rt,i64 rm,i64 rp,bool rb],rfl,rfl,?_⟩
    refine⟨[],_,_,_,_,Con.args CK (ys0:=[cfgV rt rm rp rb,.z lz (bv z),nilv]) (.cons (.refl _) (.cons (.refl _) (.cons .nl .nil))),rfl,rfl,?_⟩
    refine spl_ne (fun hh=>absurd rfl hh) (fun _=> ?_)
    refine⟨by decide,by decide,by decide,?_⟩
    refine⟨[.d 42 0,.d 42 1,.d 61 4,.d 61 5],_,_,_,_,Con.args (I17 _ la1 H1) (ys0:=[.p (.k 0) 0,cfgV 7 1 4 false,.z 17 (bv z17),nilv]) (.cons (.refl _) (.cons (.refl _) (.cons (.refl _) (.cons .nl .nil)))),?_,rfl,?_⟩
    ·show[V.p (.k 0) 0,cfgV 7 1 4 false,V.z 17 _,nilv]=_
     rw[hz17];rfl
    refine⟨[.d 42 0,.d 42 1,.d 61 4,.d 61 5],_,_,_,_,HE _ la1 H1,rfl,rfl,?_⟩
    refine⟨[.d 44 0,.d 44 1,.d 69 4,.d 69 5],_,_,_,_,HE _ la1 H1,rfl,rfl,?_⟩
    refine spl_ne (fun hh=>absurd rfl hh) (fun _=> ?_)
    rcases V2 with V2|⟨_,V2⟩<;>rcases row2 with _|⟨a2,r2⟩
    all_goals
     refine⟨by omega,by omega,by omega,by omega,?_⟩
     refine⟨[.d 42 0,.d 42 1,.d 61 4,.d 61 5],_,_,_,_,V2,?_,rfl,?_⟩
     ·show[V.p (.k 0) 0,V.z (lb-((i:Nat):Int).toNat) (sub (bv b) ((i:Nat):Int).toNat (lb-((i:Nat):Int).toNat))]=_
      rw[Za,bv_dropN hb hi2]
     refine⟨by omega,by omega,by omega,by omega,?_⟩
     refine⟨[.d 44 0,.d 44 1,.d 69 4,.d 69 5],_,_,_,_,V2,?_,rfl,?_⟩
     ·show[V.p (.k 0) 0,V.z (lb-((i:Nat):Int).toNat) (sub (bv b) ((i:Nat):Int).toNat (lb-((i:Nat):Int).toNat))]=_
      rw[Za,bv_dropN hb hi2]
     first
      |refine⟨[.d 42 0,.d 42 1,.d 103 4,.d 103 5],_,_,_,_,F,rfl,rfl,?_⟩
       refine⟨[.d 44 0,.d 44 1,.d 111 4,.d 111 5],_,_,_,_,F,rfl,rfl,?_⟩
      |refine⟨[.d 42 0,.d 42 1,.d 61 4,.d 103 4],_,_,_,_,F,rfl,rfl,?_⟩
       refine⟨[.d 44 0,.d 44 1,.d 69 4,.d 111 4],_,_,_,_,F,rfl,rfl,?_⟩
     refine⟨by rw[bv_len,hn],_,rfl,?_⟩
     refine⟨by rw[bv_len,hn],_,rfl,?_⟩
     refine spl_t (by simp) ?_
     refine⟨by rw[bv_len,hn'],_,rfl,?_⟩
     refine⟨by rw[bv_len,hn'],_,rfl,?_⟩
     refine spl_t (by simp) ?_
     refine⟨by rw[bv_len],_,rfl,?_⟩
     refine⟨by rw[bv_len],_,rfl,?_⟩
     refine spl_t (by simp) ?_
     exact⟨_,rfl,[],congrArg bool (by simp),trivial⟩
   ·refine⟨by decide,by decide,by decide,?_⟩
    refine⟨[.d 42 0,.d 42 1,.d 61 4,.d 61 5],_,_,_,_,Con.args (I17 _ la1 H1) (ys0:=[.p (.k 0) 0,cfgV 7 1 4 false,.z 17 (bv z17),nilv]) (.cons (.refl _) (.cons (.refl _) (.cons (.refl _) (.cons .nl .nil)))),?_,rfl,?_⟩
    ·show[V.p (.k 0) 0,cfgV 7 1 4 false,V.z 17 _,nilv]=_
     rw[hz17];rfl
    refine⟨[.d 42 0,.d 42 1,.d 61 4,.d 61 5],_,_,_,_,HE _ la1 H1,rfl,rfl,?_⟩
    refine⟨[.d 44 0,.d 44 1,.d 69 4,.d 69 5],_,_,_,_,HE _ la1 H1,rfl,rfl,?_⟩
    refine spl_ne (fun hh=>absurd rfl hh) (fun _=> ?_)
    rcases V2 with V2|⟨_,V2⟩<;>rcases row2 with _|⟨a2,r2⟩
    all_goals
     refine⟨by omega,by omega,by omega,by omega,?_⟩
     refine⟨[.d 42 0,.d 42 1,.d 61 4,.d 61 5],_,_,_,_,V2,?_,rfl,?_⟩
     ·show[V.p (.k 0) 0,V.z (lb-((i:Nat):Int).toNat) (sub (bv b) ((i:Nat):Int).toNat (lb-((i:Nat):Int).toNat))]=_
      rw[Za,bv_dropN hb hi2]
     refine⟨by omega,by omega,by omega,by omega,?_⟩
     refine⟨[.d 44 0,.d 44 1,.d 69 4,.d 69 5],_,_,_,_,V2,?_,rfl,?_⟩
     ·show[V.p (.k 0) 0,V.z (lb-((i:Nat):Int).toNat) (sub (bv b) ((i:Nat):Int).toNat (lb-((i:Nat):Int).toNat))]=_
      rw[Za,bv_dropN hb hi2]
     first
      |refine⟨[.d 42 0,.d 42 1,.d 103 4,.d 103 5],_,_,_,_,F,rfl,rfl,?_⟩
       refine⟨[.d 44 0,.d 44 1,.d 111 4,.d 111 5],_,_,_,_,F,rfl,rfl,?_⟩
      |refine⟨[.d 42 0,.d 42 1,.d 61 4,.d 103 4],_,_,_,_,F,rfl,rfl,?_⟩
       refine⟨[.d 44 0,.d 44 1,.d 69 4,.d 111 4],_,_,_,_,F,rfl,rfl,?_⟩
     refine⟨by rw[bv_len,hn],_,rfl,?_⟩
     refine⟨by rw[bv_len,hn],_,rfl,?_⟩
     refine spl_t (by simp) ?_
     refine⟨by rw[bv_len,hn'],_,rfl,?_⟩
     refine⟨by rw[bv_len,hn'],_,rfl,?_⟩
     refine spl_t (by simp) ?_
     refine⟨by rw[bv_len],_,rfl,?_⟩
     refine⟨by rw[bv_len],_,rfl,?_⟩
     refine spl_t (by simp) ?_
     exact⟨_,rfl,[],congrArg bool (by simp),trivial⟩
 ·refine⟨[],_,_,_,_,c_few_n hf,rfl,rfl,?_⟩
  exact⟨_,rfl,[],rfl,trivial⟩
end Go.Scr
