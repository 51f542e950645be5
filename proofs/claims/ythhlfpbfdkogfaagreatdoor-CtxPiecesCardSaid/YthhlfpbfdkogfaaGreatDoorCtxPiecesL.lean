/-
  What the functions that this law alone reaches reckon, up to the law. It is no claim by itself; each contract bears its own conditions.
-/
import Derived.Test.YthhlfpbfdkogfaaGreatDoorY5
set_option linter.unusedVariables false
set_option linter.defProp false
set_option linter.unusedSimpArgs false
set_option maxRecDepth 100000
namespace Go.Scr
open Go.Proofs
open List renaming length_append → Za, length_drop → Zb, take_append_drop → Zc, flatten_append → Ze, flatten_singleton → Zg, length_take → Zh, eq_nil_of_length_eq_zero → Zi, append_cancel_left → Zk
open Nat renaming div_eq_of_lt → Zd, dvd_of_mod_eq_zero → Zf, mul_zero → Zl, div_add_mod → Zm, mul_one → Zn, mod_self → Zo
open IntWalk renaming i64_in → Zj
def rt.law16_CtxPieces:Rt:=[(7,[i0 [],i0 [0],i0 [0,1],i0 [0,1,2],i1 [44,46,47,48,49,50,51,52,53,54,55] [0,1,2],i0 [0,1,2],i0 [0,1,2],i4 [9] [49,50,51,52,53,54,55] [0,1,2,3,4,5,6],i0 [0,1,2],i1 [44,45,46,47,48,49,51,52,53,54,55] [0,1,2],i0 [0,1,2],i0 [0,1,2],i2 [54,55] [0,1,2,3,4,5,6,7,8,9,10,11],i0 [0,1,2,3,4,5,6,7,8,9,10,11,12],i0 [0,1,2,3,4,5,6,7,8,9,10,11,12,13]])]
def fd.law16_CtxPieces:=fk rt.law16_CtxPieces 131 Tryz.func6
def fd.law16_known:=fz 64 Tryz.func37
def frontN (n l:Nat):Nat:=n*((l-n-1)/n)
theorem frontN_ok {n l:Nat} (hn:0<n) (h:n<=l):frontN n l<=l/\n<=l-frontN n l/\l-frontN n l<=2*n/\frontN n l%n=0/\(frontN n l=0\/n<=frontN n l):=by
 unfold frontN;have hd:=Zm (l-n-1) n;have hm:=Nat.mod_lt (l-n-1) hn;refine⟨?_,?_,?_,Nat.mul_mod_right _ _,?_⟩
 ·omega
 ·by_cases h0:l=n
  ·subst h0;rw[Nat.sub_self,show(0-1:Nat)/l=0 from Nat.zero_div _,Zl];omega
  ·omega
 ·omega
 ·rcases Nat.eq_zero_or_pos ((l-n-1)/n)with h0|h0
  ·left;rw[h0,Zl]
  ·right;exact Nat.le_mul_of_pos_right n h0
def shLast (n:Nat) (back:Bool) (iv m o:Bs):Bs:=
 if frontN n m.length=0 then iv else if back then sub m (frontN n m.length-n) n else o.drop (frontN n m.length-n)
def shSt (E D:Bs->Bs) (n:Nat) (mode:Int) (back:Bool) (iv m:Bs):Bs×Int:=
 if m.length<n then ([],7)
 else let o:=(k9 E D n 2 back ⟨iv,[],[]⟩ (m.take (frontN n m.length))).1
  (o++P2 E D n mode back (shLast n back iv m o) (m.drop (frontN n m.length)),0)
def padUp (pad:Int) (n:Nat) (m:Bs):Bs:=m.take (m.length-m.length%n)++G9 pad n (m.drop (m.length-m.length%n))
def shP (E D:Bs->Bs) (n:Nat) (mode pad:Int) (back:Bool) (iv m:Bs):Bs×Int:=
 if 7<=mode then shSt E D n mode back iv m
 else if pad=4 then (if m.length%r8 n mode=0 then ((k9 E D n mode back ⟨iv,[],[]⟩ m).1,0)else ([],7))
 else if back=false then ((k9 E D n mode false ⟨iv,[],[]⟩ (padUp pad n m)).1,0)
 else if m.length=0\/m.length%n≠0 then ([],7)
 else let o:=(k9 E D n mode true ⟨iv,[],[]⟩ m).1
  if D4 pad (o.drop (o.length-n))=0 then ([],8)else (o.take (o.length-n)++bW pad (o.drop (o.length-n)),0)
theorem grain_2 (n:Nat):r8 n 2=n:=rfl
theorem shSt_front {E D:Bs->Bs} {n:Nat} {back:Bool} {iv m:Bs} (h:CI E D n) (hn:0<n) (hi:iv.length=n) (hm:n<=m.length):
  (k9 E D n 2 back ⟨iv,[],[]⟩ (m.take (frontN n m.length))).1.length=frontN n m.length:=by
 obtain⟨f1,f2,f3,f4,f5⟩:=frontN_ok hn hm;have lt:(m.take (frontN n m.length)).length=frontN n m.length:=by rw[Zh];omega
 rw[bU h (wy (by decide) (by rw[if_neg (by decide),hi])) (by rw[lt,grain_2,f4]),lt]
theorem shLast_len {n:Nat} {back:Bool} {iv m o:Bs} (hn:0<n) (hi:iv.length=n) (hm:n<=m.length) (ho:o.length=frontN n m.length):(shLast n back iv m o).length=n:=by
 obtain⟨f1,f2,f3,f4,f5⟩:=frontN_ok hn hm;unfold shLast;split
 ·exact hi
 ·split
  ·rw[m5];omega
  ·rw[Zb];omega
theorem shSt_len {E D:Bs->Bs} {n:Nat} {mode:Int} {back:Bool} {iv m:Bs} (h:CI E D n) (hn:0<n) (hi:iv.length=n) (hm:n<=m.length):(shSt E D n mode back iv m).1.length=m.length:=by
 obtain⟨f1,f2,f3,f4,f5⟩:=frontN_ok hn hm;have lo:=shSt_front (back:=back) h hn hi hm;unfold shSt;rw[if_neg (by omega)];simp only
 rw[Za,stT_len h (shLast_len hn hi hm lo) (by rw[Zb];omega) (by rw[Zb];omega),lo,Zb];omega
def shFine (n:Nat) (mode pad:Int) (m:Bs):Prop:=¬(pad=4/\mode<=2/\m.length%n≠0\/7<=mode/\m.length<n)
theorem padUp_len {pad:Int} {n:Nat} {m:Bs} (hn:0<n):(padUp pad n m).length=m.length/n*n+n:=by
 have hd:=Zm m.length n;have hm:=Nat.mod_lt m.length hn;have hc:m.length/n*n=n*(m.length/n):=Nat.mul_comm _ _;unfold padUp;rw[Za,oR (by rw[Zb];omega),Zh];omega
theorem grain_mod {n:Nat} {mode:Int} {l:Nat} (h:mode<=2->l%n=0):l%r8 n mode=0:=by
 unfold r8;split
 ·exact h (by omega)
 ·exact Nat.mod_one _
theorem shP_len {E D:Bs->Bs} {n:Nat} {mode pad:Int} {iv m:Bs} (h:CI E D n) (hn:0<n) (ok:D5 n mode pad iv) (hf:shFine n mode pad m):
  (shP E D n mode pad false iv m).2=0/\(shP E D n mode pad false iv m).1.length=if pad=4 then m.length else m.length/n*n+n:=by
 obtain⟨o1,o2,o3,o4⟩:=ok;unfold shFine at hf;unfold shP;by_cases h7:7<=mode
 ·rw[if_pos h7,if_pos (by omega)];have hi:iv.length=n:=by rw[o4,if_neg (by omega)]
  refine⟨?_,shSt_len h hn hi (by omega)⟩;unfold shSt;rw[if_neg (by omega)]
 ·rw[if_neg h7];by_cases h4:pad=4
  ·rw[if_pos h4,if_pos h4];have hg:m.length%r8 n mode=0:=grain_mod fun hm=>by omega
   rw[if_pos hg];exact⟨rfl,bU h (wy (by omega) o4) hg⟩
  ·rw[if_neg h4,if_neg h4,if_pos rfl];refine⟨rfl,?_⟩;have hl:=padUp_len (pad:=pad) (m:=m) hn;have hg:(padUp pad n m).length%r8 n mode=0:=grain_mod fun hm=>by rw[hl,Nat.add_mod_right,Nat.mul_mod_left]
   rw[bU h (wy (by omega) o4) hg,hl]
theorem akLen_le (n:Int) (s l:Nat):py n s l<=l:=by
 unfold py;split
 ·exact Nat.div_mul_le_self _ _
 ·exact Nat.le_refl _
theorem akMsg_len (n:Int) (s:Nat) (m:Bs):(tL n s m).length=py n s m.length:=by
 rw[Zh];have:=akLen_le n s m.length;omega
theorem cx_front {n L:Nat} (hn:0<n):n*((L-2*n+(n-1))/n)=frontN n L:=by
 unfold frontN;by_cases h:2*n<=L
 ·rw[show L-2*n+(n-1)=L-n-1 by omega]
 ·rw[show L-2*n+(n-1)=n-1 by omega,Zd (by omega),Zd (by omega)]
theorem cx_end {E D:Bs->Bs} {n:Nat} {mode pad:Int} {iv M:Bs} {back:Bool} (h:CI E D n) (hn:0<n) (ok:D5 n mode pad iv) {r:Bs×Int}
  (hr:r=nL E D n mode pad back (M4 E D n mode pad back iv M).2 (ju E D n mode pad back iv M) (o8 n mode pad back M)):
  shP E D n mode pad back iv M=(if r.2=0 then (M4 E D n mode pad back iv M).1++r.1 else [],r.2)/\(r.2≠0->r.1=[]):=by
 obtain⟨f1,f2⟩:=gO (back:=back) hn ok M.length;have lT:=AX (back:=back) (M:=M) h hn ok;have lt:(M.take (C5 n mode pad back M.length)).length=C5 n mode pad back M.length:=by rw[Zh];omega
 have lH:=gP (n:=n) (mode:=mode) (pad:=pad) (back:=back) M;have hd:=Zm M.length n;have hm:=Nat.mod_lt M.length hn;unfold nL at hr;unfold shP;by_cases h7:7<=mode
 ·have e2:j4 mode=2:=if_pos h7;have eF:C5 n mode pad back M.length=frontN n M.length:=by
   unfold C5 F9 B8;rw[e2,if_neg (by decide),if_pos h7];exact cx_front hn
  have hiv:iv.length=n:=by have:=ok.2.2.2;rw[if_neg (by omega)]at this;exact this
  rw[if_pos h7]at hr;rw[if_pos h7];unfold shSt;by_cases hl:M.length<n
  ·have:frontN n M.length=0:=by rw[<-eF];have:=Zf f2;rw[e2,grain_2]at this;rcases Nat.eq_zero_or_pos (C5 n mode pad back M.length)with h0|h0;exact h0;have:=Nat.le_of_dvd h0 this;omega
   rw[if_pos (by omega)]at hr;rw[if_pos hl,hr];exact⟨rfl,fun _=>rfl⟩
  ·obtain⟨a1,a2,a3,a4,a5⟩:=frontN_ok hn (by omega:n<=M.length);rw[if_neg (by omega)]at hr;rw[if_neg hl,hr];refine⟨?_,fun hh=>absurd rfl hh⟩;simp only[if_true];have e1:M4 E D n mode pad back iv M=k9 E D n 2 back ⟨iv,[],[]⟩ (M.take (frontN n M.length)):=by unfold M4;rw[e2,eF]
   have eL:ju E D n mode pad back iv M=shLast n back iv M (k9 E D n 2 back ⟨iv,[],[]⟩ (M.take (frontN n M.length))).1:=by
    unfold ju E3 shLast;rw[e1,eF];rw[eF]at lt;rw[lt];by_cases h0:frontN n M.length=0
    ·rw[if_pos h0,if_neg (by omega)]
    ·rw[if_neg h0,if_pos (show 7<=mode/\n<=frontN n M.length from ⟨h7,by omega⟩)];cases back
     ·rfl
     ·simp only[if_true];unfold sub;rw[List.drop_take,show frontN n M.length-(frontN n M.length-n)=n by omega]
   have eH:o8 n mode pad back M=M.drop (frontN n M.length):=by unfold o8;rw[eF]
   rw[eL,e1,eH]
 ·have e2:j4 mode=mode:=if_neg h7;rw[if_neg h7]at hr;rw[if_neg h7];rw[e2]at hr f2;have K0:aa n mode ⟨iv,[],[]⟩:=wy (by have:=ok.1;omega) ok.2.2.2;by_cases h4:pad=4
  ·rw[if_pos h4]at hr;rw[if_pos h4];have hiff:(o8 n mode pad back M).length%r8 n mode=M.length%r8 n mode:=by
    rw[lH];obtain⟨q,hq⟩:=Zf f2;rw[hq,Nat.sub_mul_mod (by omega)]
   rw[hiff]at hr;by_cases hz:M.length%r8 n mode=0
   ·rw[if_pos hz]at hr;rw[if_pos hz,hr];refine⟨?_,fun hh=>absurd rfl hh⟩;simp only[if_true];have:=wx (E:=E) (D:=D) (mode:=mode) (back:=back) (s:=⟨iv,[],[]⟩) (a:=M.take (C5 n mode pad back M.length)) (b:=o8 n mode pad back M) hn (by rw[lt];exact f2) (by rw[hiff];exact hz);unfold o8 at this ⊢;rw[Zc]at this;unfold M4;rw[this,e2]
   ·rw[if_neg hz]at hr;rw[if_neg hz,hr];exact⟨rfl,fun _=>rfl⟩
  ·have hm2:mode<=2:=ok.2.2.1.resolve_left h4;have gn:r8 n mode=n:=if_pos (by have:=ok.1;omega);rw[gn]at f2;rw[if_neg h4]at hr;rw[if_neg h4];cases back
   ·rw[if_pos rfl]at hr;rw[if_pos rfl,hr];refine⟨?_,fun hh=>absurd rfl hh⟩;simp only[if_true];have eF:C5 n mode pad false M.length=M.length-M.length%n:=by
     unfold C5 F9 B8;rw[e2,gn,if_neg (by omega),if_neg h7,if_neg (by simp)];by_cases hl:n-1<=M.length
     ·rw[Nat.sub_add_cancel hl];omega
     ·rw[show M.length-(n-1)+(n-1)=n-1 by omega,Zd (by omega),Nat.mod_eq_of_lt (by omega)];omega
    have lp:(G9 pad n (M.drop (M.length-M.length%n))).length=n:=oR (by rw[Zb];omega);rw[eF]at lt f2;unfold padUp M4 o8;rw[e2,eF];rw[wx hn (by rw[lt,gn];exact f2) (by rw[lp,gn,Zo])]
   ·rw[if_neg (by decide)]at hr;rw[if_neg (by decide)];have eF:C5 n mode pad true M.length=n*((M.length-n+(n-1))/n):=by
     unfold C5 F9 B8;rw[e2,gn,if_neg (by omega),if_neg h7,if_pos ⟨h4,rfl⟩]
    have hHn:(o8 n mode pad true M).length=n↔¬(M.length=0\/M.length%n≠0):=by
     rw[lH];rcases Nat.lt_or_ge M.length n with hl|hl
     ·rw[Nat.mod_eq_of_lt hl];have:C5 n mode pad true M.length=0:=by
       rw[eF,Zd (by omega),Zl]
      omega
     ·constructor
      ·intro he;have:M.length=n+C5 n mode pad true M.length:=by omega
       rw[this,Nat.add_mod_left,f2];omega
      ·intro hno;have hz:M.length%n=0:=Classical.byContradiction fun hh=>hno (.inr hh);obtain⟨q,hq⟩:=Zf hz;have hq0:q≠0:=fun h0=>by rw[h0,Zl]at hq;omega
       obtain⟨p,rfl⟩:∃p,q=p+1:=⟨q-1,by omega⟩;rw[Nat.mul_succ]at hq;rw[eF,hq,Nat.add_sub_cancel,Nat.mul_add_div hn,Zd (by omega:n-1<n),Nat.add_zero];omega
    by_cases hb:M.length=0\/M.length%n≠0
    ·rw[if_neg (fun hh=>(hHn.1 hh) hb)]at hr;rw[if_pos hb,hr];exact⟨rfl,fun _=>rfl⟩
    ·have hHl:=hHn.2 hb;rw[if_pos hHl]at hr;rw[if_neg hb];simp only
     have hap:=wx (E:=E) (D:=D) (mode:=mode) (back:=true) (s:=⟨iv,[],[]⟩) (a:=M.take (C5 n mode pad true M.length)) (b:=o8 n mode pad true M) hn (by rw[lt,gn];exact f2) (by rw[hHl,gn,Zo]);have eM:M.take (C5 n mode pad true M.length)++o8 n mode pad true M=M:=by unfold o8;exact Zc _ _
     rw[eM]at hap;have e1:M4 E D n mode pad true iv M=k9 E D n mode true ⟨iv,[],[]⟩ (M.take (C5 n mode pad true M.length)):=by unfold M4;rw[e2]
     rw[<-e1]at hap;have lo:(k9 E D n mode true (M4 E D n mode pad true iv M).2 (o8 n mode pad true M)).1.length=n:=by
      rw[bU h (by rw[e1];exact Do h hn K0) (by rw[hHl,gn,Zo]),hHl]
     rw[hap];simp only
     generalize (k9 E D n mode true (M4 E D n mode pad true iv M).2 (o8 n mode pad true M)).1=o at*
     generalize (M4 E D n mode pad true iv M).1=T at*
     rw[Za,lo,Nat.add_sub_cancel,List.drop_left,List.take_left];by_cases hp:D4 pad o=0
     ·rw[if_pos hp]at hr;rw[if_pos hp,hr];exact⟨rfl,fun _=>rfl⟩
     ·rw[if_neg hp]at hr;rw[if_neg hp,hr];exact⟨rfl,fun hh=>absurd rfl hh⟩
theorem c_known16:b9 C 37 [] [] (.ret (bool true)) []:=by
 obtain⟨z,hz⟩:∃z:Bs,z=List.replicate 16 0:=⟨_,rfl⟩;have lz:z.length=16:=by rw[hz];rfl
 obtain⟨k,xs,rs,h⟩:=Pl lz;have ok:D5 8 1 1 []:=⟨by decide,by decide,by decide,rfl⟩;have IN:=KY h (back:=false) lz (by omega) (li:=0) (iv:=[]) rfl ok;obtain⟨b,hb⟩:∃b:Bs,b=[104,101,108,108,111]:=⟨_,rfl⟩;have lb:b.length=5:=by rw[hb];rfl
 have hF:C5 8 1 1 false b.length=0:=by rw[lb];decide
 obtain⟨m,o,hn,hFa,hT,U⟩:=AY h (back:=false) (M:=[]) (b:=b) (x:= .n) ok (.inl ⟨rfl,qk⟩) lb (by simp);rw[List.nil_append,hF]at hFa;obtain rfl:m=0:=by omega
 obtain rfl:=Zi hn;have U:=U.resolve_right (fun hh=>hh.1 (by rw[pI (by omega) ok]));rw[jl (by omega) ok,pI (by omega) ok,List.nil_append]at U;have eH:o8 8 1 1 false b=b:=by unfold o8;rw[hF];rfl
 obtain⟨r,hr⟩:∃r,r=nL (cF 4 z false) (cF 4 z true) 8 1 1 false (cS 4 z 8 1 1 false [] b) (cL 4 z 8 1 1 false [] b) (o8 8 1 1 false b):=⟨_,rfl⟩;obtain⟨_,m7,F⟩:=AW h (x:= .o (o8 8 1 1 false b)) (back:=false) (M:=b) ok (.inr rfl) (by omega) hr;obtain⟨e1,e2⟩:=cx_end (M:=b) h.ci (by omega) ok hr;obtain⟨p1,p2⟩:=shP_len (m:=b) h.ci (by omega) ok (by unfold shFine;omega);rw[e1]at p1 p2;have r2:r.2=0:=p1;have r1:r.1.length=8:=by
  have hTl:=AX (back:=false) (M:=b) h.ci (by omega) ok;rw[hF]at hTl;have:=p2;rw[if_pos r2,Za,hTl,if_neg (by decide),lb]at this;simpa using this
 rw[r1,r2]at F;rw[eH]at U F;have HE:=fun(st:MS) (l:Bs)=>KV (t:=4) (mode:=1) (pad:=1) (md:=j4 1) (op:=true) (back:=false) (k:=k) (xs:=xs) (iv:=[]) (a9:=l) (st:=st) (x:= .o b);have H1:=HE (cS 4 z 8 1 1 false [] b) (cL 4 z 8 1 1 false [] b);rw[show (HK.o b).l.length=5 from lb]at H1;generalize cL 4 z 8 1 1 false [] b=la at*
 generalize cS 4 z 8 1 1 false [] b=st1 at*
 obtain⟨ch,row,g⟩:=st1;rcases row with _|⟨a,rr⟩;all_goals
  refine fd.law16_known.c ?_;refine⟨[],_,_,_,_,Lf,rfl,rfl,?_⟩;refine⟨[.d 10 0],_,_,_,_,KU,rfl,rfl,?_⟩;refine⟨by decide,by decide,by decide,?_⟩;refine⟨[.d 10 0],_,_,_,_,b9.args IN (ys0:=[.p (.k 0) 0,R9 4 1 1 false,.z 16 (bv z),g9]) (.cons (.refl _) (.cons (.refl _) (.cons (.refl _) (.cons .nl .nil)))),?_,rfl,?_⟩
  ·show[V.p (.k 0) 0,R9 4 1 1 false,V.z 16 _,g9]=_;rw[hz];rfl
  refine⟨[.d 10 0,.d 21 1,.d 21 2,.d 21 3],_,_,_,_,U,?_,rfl,?_⟩
  ·show[V.p (.k 0) 0,V.z 5 _]=_;rw[hb];rfl
  refine⟨[.d 10 0,.d 21 1,.d 26 4,.d 26 5],_,_,_,_,H1,rfl,rfl,?_⟩;refine⟨[.d 10 0,.d 21 1,.d 26 4,.d 26 5],_,_,_,_,F,rfl,rfl,?_⟩;exact⟨_,rfl,[],rfl,tq⟩
theorem zc_get {ps:List (Bs)} {i:Nat} (h:i<ps.length):(ps.map zc)[((i:Nat):Int).toNat]? =some (.z ps[i].length (bv ps[i])):=by
 rw[Int.toNat_natCast,List.getElem?_map,List.getElem?_eq_getElem h];rfl
def catN (ps:List (Bs)) (i:Nat):Bs:=(ps.take i).flatten
theorem catN_succ {ps:List (Bs)} {i:Nat} (h:i<ps.length):catN ps (i+1)=catN ps i++ps[i]:=by
 unfold catN;rw[List.take_succ_eq_append_getElem h,Ze,Zg]
theorem catN_all (ps:List (Bs)):catN ps ps.length=ps.flatten:=by unfold catN;rw[List.take_length]
theorem catN_le (ps:List (Bs)) (i:Nat):(catN ps i).length<=ps.flatten.length:=by
 have:ps.flatten=catN ps i++(ps.drop i).flatten:=by unfold catN;rw[<-Ze,Zc]
 rw[this,Za];omega
theorem cutF_flat (ns b):∀i,(o7 ns b i).1.flatten++(o7 ns b i).2=b
 |0=>rfl
 |i+1=>by
  show((o7 ns b i).1++[(o7 ns b i).2.take _]).flatten++(o7 ns b i).2.drop _=b;rw[Ze,Zg,List.append_assoc,Zc,cutF_flat ns b i]
theorem cutL_flat (ns b):(eK ns b).flatten=b:=by
 unfold eK;rw[Ze,Zg,cutF_flat]
theorem loopQ {α:Type} {m:Nat} {body:S->(X->S->Prop)->Prop} {s:S} {K:X->S->Prop} (I:α->D) (Q:α->Prop) (μ:α->Nat) (x0:α) (q0:Q x0) (h0:Mt m s (I x0)) (h:∀x,Q x->body (I x).s fun e s'=>match e with
   | .normal=>∃y,Q y/\μ y<μ x/\Mt m s' (I y)
   |e=>K e s'):nh m body s K:=
 ⟨α,I,Q,μ,⟨[],x0,q0,h0⟩,h⟩
theorem rxS_1 {t key s} {mode pad:Int} {back:Bool} {iv M:Bs}:(P1 t key s mode pad back iv M).1=cS t key s mode pad back iv M:=by
 unfold P1;by_cases h3:3<=j4 mode
 ·rw[if_pos h3];exact Iy h3
 ·rw[if_neg h3]
theorem c_cxheldQ {v0 v1 v2 v3 v4 v5 v6 v7 v8 v10:V} {n:Nat} {vl:List Value}:b9 C 40 [.q [v0,v1,v2,v3,v4,v5,v6,v7,v8,.z n vl,v10] 0] [] (.ret (i64 n)) []:=by
 refine vv.c ?_;refine⟨_,rfl,?_⟩;exact⟨_,rfl,[],rfl,tq⟩
theorem c_cxheldQ0 {v0 v1 v2 v3 v4 v5 v6 v7 v8 v10:V}:b9 C 40 [.q [v0,v1,v2,v3,v4,v5,v6,v7,v8,g9,v10] 0] [] (.ret (i64 0)) []:=by
 refine vv.c ?_;refine⟨_,rfl,?_⟩;exact⟨_,rfl,[],rfl,tq⟩
abbrev rcOj (j:Nat) (t mode pad:Int) (back:Bool) (key iv:Bs) (rs:List V) (L a9:Bs):B:= .mx [i64 1,i64 t,i64 mode,i64 pad,bool back,.z key.length (bv key),.z iv.length (bv iv),.q rs 0,.p (.k j) 0,.z L.length (bv L),.z a9.length (bv a9)]
def cpD (t mode pad:Int) (back:Bool) (k:Nat) (xs rs:List V) (key iv:Bs) (ps:List (Bs)) (i:Nat) (x:HK) (la:Bs) (st:MS) (a9 RR:Bs) (u:Nat):D:=
 ⟨[(7,.p (.k 0) 0),(8,.p (.k 4) 0),(12,.zz 1 ps.length (ps.map zc)),(13,i64 (i:Nat))],
  [m8 true t mode pad back k xs iv x la,j7 (f9 t k xs) (j4 mode) back st 2,j5 st.row st.gone,x.b,rcOj 5 t mode pad back key iv rs x.l a9,C9 rs (j4 mode) back (st,RR,u) 6,j5 st.row st.gone]⟩
def cpI (t mode pad:Int) (back:Bool) (k:Nat) (xs rs:List V) (key iv:Bs) (ps:List (Bs)) (A:Nat->Bs×Bs×MS×Bs×Nat):Nat×Bs->D
 |(0,a9)=>cpD t mode pad back k xs rs key iv ps 0 .n iv ⟨iv,[],[]⟩ a9 [] 0
 |(i+1,a9)=>cpD t mode pad back k xs rs key iv ps (i+1) (.o (A (i+1)).1) (A (i+1)).2.1 (A (i+1)).2.2.1 a9 (A (i+1)).2.2.2.1 (A (i+1)).2.2.2.2
theorem cpI_s {t mode pad:Int} {back:Bool} {k:Nat} {xs rs:List V} {key iv:Bs} {ps:List (Bs)} {A:Nat->Bs×Bs×MS×Bs×Nat} {i u:Nat} {H la RR a9:Bs} {st:MS} (e:A (i+1)=(H,la,st,RR,u)):
  cpI t mode pad back k xs rs key iv ps A (i+1,a9)=cpD t mode pad back k xs rs key iv ps (i+1) (.o H) la st a9 RR u:=by
 show cpD t mode pad back k xs rs key iv ps (i+1) (.o (A (i+1)).1) (A (i+1)).2.1 (A (i+1)).2.2.1 a9 (A (i+1)).2.2.2.1 (A (i+1)).2.2.2.2=_;rw[e]
set_option maxHeartbeats 4000000 in
theorem c_cxpieces {tag n mode pad:Int} {back:Bool} {lk li lb ln:Nat} {k v b:Bs} {ns:List Int} (h0:aS tag) (h1:aS n) (h2:aS mode) (h3:aS pad) (hk:k.length=lk) (hi:v.length=li) (hb:b.length=lb) (hn:ns.length=ln) (hns:∀x∈ns, -9223372036854775808<=x/\x<=9223372036854775807):
  b9 C 6 [pC tag n mode pad back lk k li v,.z lb (bv b),.z ln (iv ns)] [] (.ret (bool true)) []:=by
 obtain⟨s,q,xs,rs,h⟩:=yR tag n k;have hs:=h.s_le;have hM:=IT (back:=back) h0 h1 h2 h3 hk hi h.hs hs.2;have lK:=we (D1 tag) n k;have lV:=vZ (K5 mode) s v;have hkl:=wd (jS tag) n;have ok:=a33 mode pad s v;refine fd.law16_CtxPieces.c ?_;refine⟨[],_,_,_,_,c_known16,rfl,rfl,?_⟩;refine d9 (fun hl=> ?_) (fun hl=> ?_)
 ·exact⟨_,rfl,[],rfl,tq⟩
 have hS:=a4b (mode:=mode) (pad:=pad) (back:=back) (lk:=lk) (li:=li) (k:=k) (iv:=v) h0 h1 h.hs (by omega) hb (by omega);have hle:=akLen_le n s lb;have lm:=akMsg_len n s b;rw[hb]at lm;have CU:=a35 (b:=tL n s b) (ns:=ns) rfl hn (by omega) hns;have CF:=cutL_flat ns (tL n s b);have CL:=AQ ns (tL n s b);rw[lm]at CU;have hml:py n s lb<=200:=by omega
 generalize K5 mode=md at*
 generalize du mode pad=pd at*
 generalize tL n s b=msg at*
 generalize py n s lb=m at*
 generalize eK ns msg=ps at*
 subst CF;generalize ba (D1 tag) n k=key at*
 generalize cH (D1 tag) n=lkk at*
 generalize aY md s v=V0 at*
 generalize ic md s=lvv at*
 have hpn:ps.length<=100000:=by omega
 have IA:=KY h (back:=back) lK (by omega) lV ok;have IR:=uG h (back:=back) (X:=El) (.inl rfl) lK (by omega) lV ok;have hc0:catN ps 0=[]:=by unfold catN;rw[List.take_zero];rfl
 obtain⟨A,hA⟩:∃A:Nat->Bs×Bs×MS×Bs×Nat,A=fun i=>(o8 s md pd back (catN ps i),cL (D1 tag) key s md pd back V0 (catN ps i),P1 (D1 tag) key s md pd back V0 (catN ps i)):=⟨_,rfl⟩;obtain⟨r,hr⟩:∃r,r=nL (cF (D1 tag) key false) (cF (D1 tag) key true) s md pd back (cS (D1 tag) key s md pd back V0 ps.flatten) (cL (D1 tag) key s md pd back V0 ps.flatten) (o8 s md pd back ps.flatten):=⟨_,rfl⟩;have hF:∀{x:HK} {a9:Bs},(x= .n/\o8 s md pd back ps.flatten=[]\/x= .o (o8 s md pd back ps.flatten))->(7<=md->a9=cL (D1 tag) key s md pd back V0 ps.flatten)->_/\_:=fun hx hl=>And.intro (AW h ok hx (by omega) hr).2 (ZO h ok (by omega) hl hr);have hmi:∀i (hi:i<ps.length),(catN ps i).length+ps[i].length<=100000:=fun i hi=>by
  have h1:=catN_le ps (i+1);rw[catN_succ hi,Za]at h1;omega
 refine⟨[i64 tag,i64 n,i64 mode,i64 pad,bool back,.z lk (bv k),.z li (bv v)],rfl,rfl,?_⟩;by_cases hf:lk<=100/\li<=100
 ·refine⟨[],_,_,_,_,zI hf,rfl,rfl,?_⟩;refine⟨[],_,_,_,_,Lf,rfl,rfl,?_⟩;refine⟨[i64 tag,i64 n,i64 mode,i64 pad,bool back,.z lk (bv k),.z li (bv v)],rfl,rfl,?_⟩;refine⟨[],_,_,_,_,hM,rfl,rfl,?_⟩;refine⟨Nat.le_of_ble_eq_true rfl,?_⟩;refine⟨[i64 (D1 tag),i64 md,i64 pd,bool back],rfl,rfl,?_⟩;refine⟨[.d 32 0],_,_,_,_,IA,rfl,rfl,?_⟩;refine⟨[i64 (D1 tag),i64 md,i64 pd,bool back],rfl,rfl,?_⟩;refine⟨[.d 34 0],_,_,_,_,IR,rfl,rfl,?_⟩;refine⟨[i64 tag,i64 n,i64 mode,i64 pad,bool back,.z lk (bv k),.z li (bv v)],rfl,rfl,?_⟩;refine⟨[],_,_,_,_,hS,rfl,rfl,?_⟩;refine⟨[],_,_,_,_,CU,rfl,rfl,?_⟩;refine loopQ (cpI (D1 tag) md pd back q xs rs key V0 ps A) (fun x=>x.1<=ps.length/\(7<=md->x.2=cL (D1 tag) key s md pd back V0 (catN ps x.1))) (fun x=>ps.length-x.1) (0,V0) ⟨Nat.zero_le _,fun _=>by rw[hc0,jl (by omega) ok]⟩ ⟨[.d 32 0,.d 48 1,.d 48 2,.d 48 3,.d 34 0,.d 53 1,.d 53 2],⟨rfl,rfl,rfl,rfl,tq⟩,⟨_,rfl,rfl⟩,⟨_,rfl,rfl⟩,⟨_,rfl,rfl⟩,⟨_,rfl,rfl⟩,⟨_,rfl,rfl⟩,⟨_,rfl,rfl⟩,⟨_,rfl,rfl⟩,tq⟩ fun z hz=> ?_;obtain⟨i,a9⟩:=z;obtain⟨hi,hla⟩:=hz;dsimp only at hi hla;rcases i with _|i
  ·refine d9 (fun d8=> ?_) (fun hge=> ?_)
   ·have hl:0<ps.length:=by omega
    obtain⟨n1,o,hn1,_,hT,U⟩:=AY h (b:=ps[0]) (back:=back) (M:=catN ps (0)) (x:= .n) ok (.inl ⟨rfl,by rw[hc0];exact qk⟩) rfl (hmi (0) hl);obtain⟨n2,o2,m7,hn2,hT2,hl',W⟩:=ZQ h (b:=ps[0]) (back:=back) (M:=catN ps (0)) (a9:=a9) ok rfl (hmi (0) hl) hla;obtain rfl:o2=o:=by rw[hT]at hT2;exact(Zk hT2).symm
    obtain rfl:n1=n2:=by omega
    rw[<-catN_succ hl]at U W hl';have h1:=rxS_1 (t:=D1 tag) (key:=key) (s:=s) (mode:=md) (pad:=pd) (back:=back) (iv:=V0) (M:=catN ps (0+1));have hA1:A (0+1)=(o8 s md pd back (catN ps (0+1)),cL (D1 tag) key s md pd back V0 (catN ps (0+1)),P1 (D1 tag) key s md pd back V0 (catN ps (0+1))):=by rw[hA]
    have hQ:(fun x:Nat×Bs=>x.1<=ps.length/\(7<=md->x.2=cL (D1 tag) key s md pd back V0 (catN ps x.1))) (0+1,m7):=⟨by show 0+1<=ps.length;omega,hl'⟩;clear hT hT2 hl';have U:=U.resolve_right (fun hh=>hh.1 (by rw[hc0,pI (by omega) ok]));have W:=W.resolve_right (fun hh=>hh.1 (by rw[hc0,a1r (by omega) ok]));rw[hc0,jl (by omega) ok,pI (by omega) ok]at U;rw[hc0,a1r (by omega) ok,qk]at W;generalize P1 (D1 tag) key s md pd back V0 (catN ps (0+1))=y1 at*
    rw[<-h1]at U;generalize cL (D1 tag) key s md pd back V0 (catN ps (0+1))=la1 at*
    generalize o8 s md pd back (catN ps (0+1))=H1 at*
    obtain⟨⟨ch1,row1,g1⟩,RR1,u1⟩:=y1;clear h1;rcases row1 with _|⟨a1,r1⟩;all_goals
     refine⟨by omega,by omega,?_⟩;refine⟨.z ps[0].length (bv ps[0]),by first|exact zc_get hl|(rw [Zn];exact zc_get hl),?_⟩;refine⟨by rw[j6],by have:=hmi _ hl;omega,by simp,?_⟩;refine⟨[.k 0,.k 1,.k 2,.k 3],_,_,_,_,U,?_,rfl,?_⟩
     ·exact congrArg (fun z=>[V.p (.k 0) 0,z]) (kt rfl)
     refine⟨by omega,by omega,?_⟩;refine⟨.z ps[0].length (bv ps[0]),by first|exact zc_get hl|(rw [Zn];exact zc_get hl),?_⟩;refine⟨[.k 4,.k 5,.k 6],_,_,_,_,W,rfl,rfl,?_⟩;refine⟨by rw[j6];exact hn1,_,rfl,?_⟩;refine⟨by rw[j6];exact hn1,_,rfl,?_⟩;refine E5 (by simp) ?_;refine⟨[],_,_,_,_,c_cxheldQ,rfl,rfl,?_⟩;refine⟨[],_,_,_,_,fI,rfl,rfl,?_⟩;refine p6 (fun hh=>absurd rfl hh) (fun _=> ?_);refine⟨(0+1,m7),hQ,by show ps.length-(0+1)<ps.length-(0);omega,T3 (cpI_s hA1) ?_⟩;first
      |exact⟨[.k 0,.k 1,.d 75 4,.d 75 5,.k 4,.k 5,.d 84 3],⟨rfl,rfl,rfl,rfl,tq⟩,⟨_,rfl,rfl⟩,⟨_,rfl,rfl⟩,⟨_,rfl,rfl⟩,⟨_,rfl,rfl⟩,⟨_,rfl,rfl⟩,⟨_,rfl,rfl⟩,⟨_,rfl,rfl⟩,tq⟩
   ·have hp0:ps=[]:=Zi (by omega);have hfl:ps.flatten=[]:=by rw[hp0];rfl
    obtain⟨la',F1⟩:=(hF (x:= .n) (a9:=a9) (.inl ⟨rfl,by rw[hfl];exact qk⟩) (by rw[hfl,<-hc0];exact hla)).1;have F2:=(hF (x:= .n) (a9:=a9) (.inl ⟨rfl,by rw[hfl];exact qk⟩) (by rw[hfl,<-hc0];exact hla)).2;rw[hfl,jl (by omega) ok,pI (by omega) ok]at F1;rw[hfl,a1r (by omega) ok,qk]at F2;refine⟨[.k 0,.k 1,.k 2,.k 3],_,_,_,_,F1,rfl,rfl,?_⟩;refine⟨[.k 4,.k 5,.k 6],_,_,_,_,F2,rfl,rfl,?_⟩;refine i7 (fun _=> ?_) (fun hh=>absurd rfl hh);refine⟨by rw[j6],_,rfl,?_⟩;refine⟨by rw[j6],_,rfl,?_⟩;refine fp (beq_self_eq_true _) ?_;refine⟨[],_,_,_,_,c_cxheldQ0,rfl,rfl,?_⟩;refine⟨[],_,_,_,_,eI,rfl,rfl,?_⟩;exact⟨_,rfl,[],rfl,tq⟩
  ·have hA0:A (i+1)=(o8 s md pd back (catN ps (i+1)),cL (D1 tag) key s md pd back V0 (catN ps (i+1)),P1 (D1 tag) key s md pd back V0 (catN ps (i+1))):=by rw[hA]
   have h2:=rxS_1 (t:=D1 tag) (key:=key) (s:=s) (mode:=md) (pad:=pd) (back:=back) (iv:=V0) (M:=catN ps (i+1));by_cases d8:i+1<ps.length
   ·have hl:=d8;obtain⟨n1,o,hn1,_,hT,U⟩:=AY h (b:=ps[i+1]) (back:=back) (M:=catN ps (i+1)) (x:= .o (o8 s md pd back (catN ps (i+1)))) ok (.inr rfl) rfl (hmi (i+1) hl);obtain⟨n2,o2,m7,hn2,hT2,hl',W⟩:=ZQ h (b:=ps[i+1]) (back:=back) (M:=catN ps (i+1)) (a9:=a9) ok rfl (hmi (i+1) hl) hla;obtain rfl:o2=o:=by rw[hT]at hT2;exact(Zk hT2).symm
    obtain rfl:n1=n2:=by omega
    rw[<-catN_succ hl]at U W hl';have h1:=rxS_1 (t:=D1 tag) (key:=key) (s:=s) (mode:=md) (pad:=pd) (back:=back) (iv:=V0) (M:=catN ps (i+1+1));have hA1:A (i+1+1)=(o8 s md pd back (catN ps (i+1+1)),cL (D1 tag) key s md pd back V0 (catN ps (i+1+1)),P1 (D1 tag) key s md pd back V0 (catN ps (i+1+1))):=by rw[hA]
    have hQ:(fun x:Nat×Bs=>x.1<=ps.length/\(7<=md->x.2=cL (D1 tag) key s md pd back V0 (catN ps x.1))) (i+1+1,m7):=⟨by show i+1+1<=ps.length;omega,hl'⟩;clear hT hT2 hl';generalize P1 (D1 tag) key s md pd back V0 (catN ps (i+1))=y at*
    rw[<-h2]at U;generalize cL (D1 tag) key s md pd back V0 (catN ps (i+1))=la at*
    generalize o8 s md pd back (catN ps (i+1))=H at*
    obtain⟨⟨ch,row,g⟩,RR,u⟩:=y;clear h2 hla;rw[cpI_s hA0];generalize P1 (D1 tag) key s md pd back V0 (catN ps (i+1+1))=y1 at*
    rw[<-h1]at U;generalize cL (D1 tag) key s md pd back V0 (catN ps (i+1+1))=la1 at*
    generalize o8 s md pd back (catN ps (i+1+1))=H1 at*
    obtain⟨⟨ch1,row1,g1⟩,RR1,u1⟩:=y1;clear h1;rcases U with U|⟨_,U⟩<;>rcases W with W|⟨_,W⟩<;>rcases row with _|⟨a,r⟩<;>rcases row1 with _|⟨a1,r1⟩;all_goals
     refine d9 (fun _=> ?_) (fun hh=>absurd (by omega) hh);refine⟨by omega,by omega,?_⟩;refine⟨.z ps[i+1].length (bv ps[i+1]),by first|exact zc_get hl|(rw [Zn];exact zc_get hl),?_⟩;refine⟨by rw[j6],by have:=hmi _ hl;omega,by simp,?_⟩;refine⟨[.k 0,.k 1,.k 2,.k 3],_,_,_,_,U,?_,rfl,?_⟩
     ·exact congrArg (fun z=>[V.p (.k 0) 0,z]) (kt rfl)
     refine⟨by omega,by omega,?_⟩;refine⟨.z ps[i+1].length (bv ps[i+1]),by first|exact zc_get hl|(rw [Zn];exact zc_get hl),?_⟩;refine⟨[.k 4,.k 5,.k 6],_,_,_,_,W,rfl,rfl,?_⟩;refine⟨by rw[j6];exact hn1,_,rfl,?_⟩;refine⟨by rw[j6];exact hn1,_,rfl,?_⟩;refine E5 (by simp) ?_;refine⟨[],_,_,_,_,c_cxheldQ,rfl,rfl,?_⟩;refine⟨[],_,_,_,_,fI,rfl,rfl,?_⟩;refine p6 (fun hh=>absurd rfl hh) (fun _=> ?_);refine⟨(i+1+1,m7),hQ,by show ps.length-(i+1+1)<ps.length-(i+1);omega,T3 (cpI_s hA1) ?_⟩;first
      |exact⟨[.k 0,.k 1,.d 75 4,.d 75 5,.k 4,.k 5,.d 84 3],⟨rfl,rfl,rfl,f8 (by simp(disch:=omega)only[Zj];omega),tq⟩,⟨_,rfl,rfl⟩,⟨_,rfl,rfl⟩,⟨_,rfl,rfl⟩,⟨_,rfl,rfl⟩,⟨_,rfl,rfl⟩,⟨_,rfl,rfl⟩,⟨_,rfl,rfl⟩,tq⟩
      |exact⟨[.k 0,.k 1,.d 75 4,.d 75 5,.k 4,.k 5,.k 6],⟨rfl,rfl,rfl,f8 (by simp(disch:=omega)only[Zj];omega),tq⟩,⟨_,rfl,rfl⟩,⟨_,rfl,rfl⟩,⟨_,rfl,rfl⟩,⟨_,rfl,rfl⟩,⟨_,rfl,rfl⟩,⟨_,rfl,rfl⟩,⟨_,rfl,rfl⟩,tq⟩
      |exact⟨[.k 0,.k 1,.k 2,.d 75 4,.k 4,.k 5,.d 84 3],⟨rfl,rfl,rfl,f8 (by simp(disch:=omega)only[Zj];omega),tq⟩,⟨_,rfl,rfl⟩,⟨_,rfl,rfl⟩,⟨_,rfl,rfl⟩,⟨_,rfl,rfl⟩,⟨_,rfl,rfl⟩,⟨_,rfl,rfl⟩,⟨_,rfl,rfl⟩,tq⟩
      |exact⟨[.k 0,.k 1,.k 2,.d 75 4,.k 4,.k 5,.k 6],⟨rfl,rfl,rfl,f8 (by simp(disch:=omega)only[Zj];omega),tq⟩,⟨_,rfl,rfl⟩,⟨_,rfl,rfl⟩,⟨_,rfl,rfl⟩,⟨_,rfl,rfl⟩,⟨_,rfl,rfl⟩,⟨_,rfl,rfl⟩,⟨_,rfl,rfl⟩,tq⟩
   ·have hn1:i+1=ps.length:=by omega
    have hfl:catN ps (i+1)=ps.flatten:=by rw[hn1];exact catN_all ps
    rw[hfl]at hA0 h2 hla;obtain⟨la',F1⟩:=(hF (x:= .o (o8 s md pd back ps.flatten)) (a9:=a9) (.inr rfl) hla).1;have F2:=(hF (x:= .o (o8 s md pd back ps.flatten)) (a9:=a9) (.inr rfl) hla).2;generalize P1 (D1 tag) key s md pd back V0 ps.flatten=y at*
    rw[<-h2]at F1;generalize cL (D1 tag) key s md pd back V0 ps.flatten=la at*
    generalize o8 s md pd back ps.flatten=H at*
    obtain⟨⟨ch,row,g⟩,RR,u⟩:=y;clear h2 hla hF;rw[cpI_s hA0];rcases row with _|⟨a,r⟩;all_goals
     refine d9 (fun hh=>absurd hh (by omega)) (fun _=> ?_);refine⟨[.k 0,.k 1,.k 2,.k 3],_,_,_,_,F1,rfl,rfl,?_⟩;refine⟨[.k 4,.k 5,.k 6],_,_,_,_,F2,rfl,rfl,?_⟩;refine i7 (fun _=> ?_) (fun hh=>absurd rfl hh);refine⟨by rw[j6],_,rfl,?_⟩;refine⟨by rw[j6],_,rfl,?_⟩;refine fp (beq_self_eq_true _) ?_;refine⟨[],_,_,_,_,c_cxheldQ0,rfl,rfl,?_⟩;refine⟨[],_,_,_,_,eI,rfl,rfl,?_⟩;exact⟨_,rfl,[],rfl,tq⟩
 ·refine⟨[],_,_,_,_,LF hf,rfl,rfl,?_⟩;exact⟨_,rfl,[],rfl,tq⟩
end Go.Scr
