/-
  What the functions that this law alone reaches reckon, up to the law. It is no claim by itself; each contract bears its own conditions.
-/
import Derived.Test.YthhlfpbfdkogfaaGreatDoorY4
set_option linter.unusedVariables false
set_option linter.defProp false
set_option linter.unusedSimpArgs false
set_option maxRecDepth 100000
namespace Go.Scr
open Go.Proofs
open Int renaming toNat_natCast → Za, tmod_eq_emod_of_nonneg → Zc
open IntWalk renaming i64_in → Zb
open Nat renaming le_of_ble_eq_true → Zd, mul_succ → Ze
open Go.IntKind renaming i64 → I6
def rt.scrimtop_TopStolen:Rt:=[(22,[i0 [],i0 [],i1 [114,117,118,119,120,121,122,123,113,124,125,19,20] [1],i0 [],i1 [114,115,116,119,120,121,122,123,113,124,125,19,20] [3],i0 [],i0 [],i0 [],i0 [6,7],i2 [113,124,125,19,20] [0,1,2,3,4,5,6,7,8],i0 [0,1,2,3,4,5,6,7,8,9],i0 [0,1,2,3,4,5,6,7,8,9,10],i0 [0,1,2,3,4,5,6,7,8,9,10],i0 [0,1,2,3,4,5,6,7,8,9,10,11],i0 [0,1,2,3,4,5,6,7,8,9,10,11,12,13]])]
def fd.scrimtop_TopStolen:=fk rt.scrimtop_TopStolen 146 Tryz.func3
def fd.scrimtop_within:=fz 15 Tryz.func12
theorem i6.rnew' {t key s k xs rs} (h:i6 t key s k xs rs) {n:Nat} {va:List Value} (hn:key.length=n) (ha:va=bv key):a7 C 14 [i64 t,.z n va] [] (.ret (.t [.q rs 0,i64 0])) []:=by subst ha;subst hn;exact h.rnew
theorem moStep2 {E D:Bs->Bs} {n:Nat} {back:Bool} {ch p:Bs}:f7 E D n 2 back ⟨ch,[],[]⟩ p=((q6 E D 2 back n p ch (p.length/n)).1,⟨(q6 E D 2 back n p ch (p.length/n)).2,[],[]⟩):=by
 unfold f7;rw[if_pos (by decide)]
theorem c_wT {a n:Int} (hn:0<n) (hn2:n<=4611686018427387904) (ha: -9223372036854775808<=a/\a<=9223372036854775807):a7 C 12 [i64 a,i64 n] [] (.ret (i64 (a%n))) []:=by
 refine fd.scrimtop_within.c ?_;have h1: -n<a.tmod n:=Int.lt_tmod_of_pos a hn;have h2:a.tmod n<n:=Int.tmod_lt_of_pos a hn;refine⟨by omega,?_⟩;refine c9 (fun h=> ?_) (fun h=> ?_)
 ·refine⟨_,rfl,[],d7 ?_,tq⟩;rw[Zb _ (by omega)];rw[<-ii a n hn,Zc (a:=a.tmod n+n) (by omega),Int.emod_eq_of_lt (by omega) (by omega)]
 ·refine⟨_,rfl,[],d7 ?_,tq⟩;rw[<-ii a n hn,Zc (a:=a.tmod n+n) (by omega),Int.add_emod_right,Int.emod_eq_of_lt (by omega) (by omega)]
set_option maxHeartbeats 4000000 in
theorem c_top_stolen {tag n mode pad:Int} {back:Bool} {lk li lb:Nat} {k v b:Bs} (h0:dt tag) (h1:dt n) (h2:dt mode) (h3:dt pad) (hk:k.length=lk) (hi:v.length=li) (hb:b.length=lb):
  a7 C 3 [my tag n mode pad back lk k li v,.z lb (bv b)] [] (.ret (bool true)) []:=by
 obtain⟨s,q,xs,rs,h⟩:=a2a tag n k;have hs:=h.s_le;have hci:=h.ci;obtain⟨mo,hmo⟩:∃mo,mo=6+mode%3:=⟨_,rfl⟩;have hmo1:6<=mo/\mo<=8:=by omega
 have emo:I6.wrap (6+mode%3)=mo:=by rw[Zb _ (by omega)];omega
 have W3:=c_wT (a:=mode) (n:=3) (by decide) (by decide) h2;have hM:=Ib (back:=back) h0 h1 (mode:=mo) (by unfold dt;omega) h3 hk hi h.hs hs.2;have lK:=uH (m7 tag) n k;have lV:=BL (C7 mo) s v;have hkl:=BQ (iw tag) n;have ok:=GT mo pad s v;have amo:C7 mo=mo+1:=by unfold C7;omega
 have hiv:fp (C7 mo) s=s:=by unfold fp;rw[if_neg (by omega)]
 rw[hiv]at lV hM;generalize hmd:C7 mo=md at*
 generalize U0 mo pad=pd at*
 generalize aD md s v=V0 at*
 refine fd.scrimtop_TopStolen.c ?_;refine⟨[],_,_,_,_,KM,rfl,rfl,?_⟩;refine c9 (fun hl=> ?_) (fun hl=> ?_)
 ·exact⟨_,rfl,[],rfl,tq⟩
 have P:=fun hb'=>zv h (mode:=md) (pad:=pd) (back:=back) (msg:=b) (m:=lb) (vk:=bv (S7 (m7 tag) n k)) (vi:=bv V0) rfl rfl rfl lK lV hb hb' ok;have RN:=h.rnew' lK rfl;refine⟨[i64 tag,i64 n,i64 mode,i64 pad,bool back,.z lk (bv k),.z li (bv v)],rfl,rfl,?_⟩;by_cases hf:lk<=100/\li<=100
 ·refine⟨[],_,_,_,_,JN hf,rfl,rfl,?_⟩;refine⟨_,rfl,?_⟩;refine⟨[],_,_,_,_,W3,rfl,rfl,?_⟩;refine⟨Zd rfl,?_⟩;refine⟨[i64 tag,i64 n,i64 mo,i64 pad,bool back,.z lk (bv k),.z li (bv v)],congrArg (fun z=>[i64 tag,i64 n,i64 z,i64 pad,bool back,V.z lk (bv k),V.z li (bv v)]) emo,rfl,?_⟩;refine⟨[],_,_,_,_,hM,rfl,rfl,?_⟩;refine⟨Zd rfl,?_⟩;refine⟨_,rfl,?_⟩;refine⟨[],_,_,_,_,RN,rfl,rfl,?_⟩;refine⟨[],_,_,_,_,h.rsize,rfl,rfl,?_⟩;refine c9 (fun hms=> ?_) (fun hms=> ?_)
  ·have P:=P (by omega);have e0:E3 (cF (m7 tag) (S7 (m7 tag) n k) false) (cF (m7 tag) (S7 (m7 tag) n k) true) s md pd back V0 b=([],7):=by
    unfold E3 M0;rw[if_pos (by omega),if_pos (by omega)]
   rw[e0]at P;refine⟨[i64 (m7 tag),i64 md,i64 pd,bool back],rfl,rfl,?_⟩;refine⟨[],_,_,_,_,P,rfl,rfl,?_⟩;exact⟨_,rfl,[],rfl,tq⟩
  have hsb:s<=lb:=by omega
  have P:=P (by omega);obtain⟨F,hF⟩:∃F,F=t8 s lb:=⟨_,rfl⟩;obtain⟨a1,a2,a3,a4,a5⟩:=iY (n:=s) (l:=lb) (by omega) hsb;have hstep:=fun j f=>Ug (n:=s) (l:=lb) (f:=f) (j:=j) (by omega) hsb;rw[<-hF]at a1 a2 a3 a4 a5 hstep;have lT:(b.take F).length=F:=by rw[List.length_take];omega
  have lD:(b.drop F).length=lb-F:=by rw[List.length_drop,hb]
  have e0:E3 (cF (m7 tag) (S7 (m7 tag) n k) false) (cF (m7 tag) (S7 (m7 tag) n k) true) s md pd back V0 b=((q6 (cF (m7 tag) (S7 (m7 tag) n k) false) (cF (m7 tag) (S7 (m7 tag) n k) true) 2 back s (b.take F) V0 (F/s)).1++C5 (cF (m7 tag) (S7 (m7 tag) n k) false) (cF (m7 tag) (S7 (m7 tag) n k) true) s md back (if F=0 then V0 else if back then sub b (F-s) s else (q6 (cF (m7 tag) (S7 (m7 tag) n k) false) (cF (m7 tag) (S7 (m7 tag) n k) true) 2 back s (b.take F) V0 (F/s)).1.drop (F-s)) (b.drop F),0):=by
   unfold E3 M0 aj;rw[if_pos (by omega),if_neg (by omega),hb,<-hF,moStep2,lT]
  have cN:=a2b h (mode:=2) (back:=back) (i:=1) (vi:=bv V0) rfl lV (by decide) rfl;rw[WH lV rfl rfl]at cN;have T0:=a2d h (mode:=2) (back:=back) (b:=b.take F) (ch:=V0) (c:=s) rfl lT (by omega) (.inr ⟨rfl,rfl⟩) lV a4;have b1:=(nB (mode:=2) (back:=back) (b:=b.take F) (c:=V0) hci (.inr rfl) (.inr lV) (F/s) (by rw[lT];exact Nat.mul_div_le F s)).1;rw[show s*(F/s)=F by have:=Nat.div_add_mod F s;omega]at b1;have TL:=fun(a8:Bs) (hl:a8.length=s)=>a2c h (mode:=md) (back:=back) (vl:=bv a8) (vb:=bv (b.drop F)) (a8:=a8) (b:=b.drop F) rfl rfl hl lD (by omega) a2 a3;have TN:=fun(a8:Bs) (hl:a8.length=s)=>h.stT_len (mode:=md) (back:=back) (a8:=a8) (b:=b.drop F) hl lD a2 a3;rw[e0]at P;clear e0;generalize q6 (cF (m7 tag) (S7 (m7 tag) n k) false) (cF (m7 tag) (S7 (m7 tag) n k) true) 2 back s (b.take F) V0 (F/s)=y at*
  obtain⟨o,c1⟩:=y;dsimp only at T0 b1 P;generalize cF (m7 tag) (S7 (m7 tag) n k) false=EE at*
  generalize cF (m7 tag) (S7 (m7 tag) n k) true=DD at*
  generalize S7 (m7 tag) n k=key at*
  generalize Y6 (m7 tag) n=lkk at*
  refine⟨Nat,fun i=>⟨[(1,.z lb (bv b)),(5,.p (.k 0) 0),(6,.z lkk (bv key)),(7,.z s (bv V0)),(8,.q rs 0),(10,i64 s),(13,i64 (s*i:Nat))],[.mx [i64 (m7 tag),i64 md,i64 pd,bool back]]⟩,fun i=>s*i<=F,fun i=>F-s*i,⟨[],0,Nat.zero_le _,[.d 5 0],⟨rfl,rfl,rfl,rfl,rfl,rfl,rfl,tq⟩,⟨_,rfl,rfl⟩,tq⟩,fun i hi=> ?_⟩;have hi:s*i<=F:=hi;have e2:I6.wrap (2*(s:Int))=((2*s:Nat):Int):=by rw[Zb _ (by omega)];omega
  have e3:I6.wrap ((lb:Int)-((s*i:Nat):Int))=((lb-s*i:Nat):Int):=by rw[Zb _ (by omega)];omega
  obtain⟨s1,s2⟩:=hstep i (s*i) rfl hi;refine c9 (fun hgt=> ?_) (fun hle=> ?_)
  ·rw[e2,e3]at hgt;have hfF:=s1 (by omega);refine⟨i+1,by show s*(i+1)<=F;rw[Ze];omega,by show F-s*(i+1)<F-s*i;rw[Ze];omega,[.k 0],⟨rfl,rfl,rfl,rfl,rfl,rfl,d7 ?_,tq⟩,⟨_,rfl,rfl⟩,tq⟩;rw[Ze,Zb _ (by omega)];omega
  ·rw[e2,e3]at hle;have hFi:s*i=F:=s2 (by omega);subst hFi;clear e3 s1 s2 hi hstep hle;refine⟨_,rfl,?_⟩;refine⟨[],_,_,_,_,cN,rfl,rfl,?_⟩;refine⟨by omega,by omega,by omega,by omega,?_⟩;refine⟨[.d 82 0,.d 82 1],_,_,_,_,T0,?_,rfl,?_⟩
   ·show[V.p (.k 0) 0,V.z ((s*i:Nat):Int).toNat (sub (bv b) 0 ((s*i:Nat):Int).toNat)]=_;rw[Za];exact congrArg (fun v=>[V.p (.k 0) 0,V.z (s*i) v]) (l4 _ 0 (s*i))
   have w1:0<s*i->I6.wrap (((s*i:Nat):Int)-(s:Int))=((s*i-s:Nat):Int):=fun hp=>by
    have:=a5.resolve_left (by omega);rw[Zb _ (by omega)];omega
   refine c9 (fun hp=> ?_) (fun hp=> ?_)
   ·have hp':0<s*i:=by have hp:(((s*i:Nat):Int)>0):=hp;omega
    have hsi:=a5.resolve_left (by omega);have w1:=w1 hp';rw[if_neg (by omega)]at P;refine⟨_,rfl,?_⟩;cases back
    ·rw[if_neg (by decide)]at P;refine c9 (fun _=> ?_) (fun hh=>absurd hp hh);have lL:(o.drop (s*i-s)).length=s:=by rw[List.length_drop,b1];omega
     refine⟨by rw[w1];omega,by rw[w1];omega,by first|omega|(rw [w1];omega),by first|omega|(rw [w1];omega),?_⟩;refine⟨_,rfl,?_⟩;refine⟨_,rfl,?_⟩;refine⟨by omega,by omega,by omega,by omega,?_⟩;refine⟨[],_,_,_,_,TL (o.drop (s*i-s)) lL,?_,rfl,?_⟩
     ·show[V.q rs 0,i64 md,bool false,V.z (s*i-(I6.wrap (((s*i:Nat):Int)-(s:Int))).toNat) (sub (bv o) (I6.wrap (((s*i:Nat):Int)-(s:Int))).toNat (s*i-(I6.wrap (((s*i:Nat):Int)-(s:Int))).toNat)),V.z (lb-((s*i:Nat):Int).toNat) (sub (bv b) ((s*i:Nat):Int).toNat (lb-((s*i:Nat):Int).toNat))]=_;rw[w1,Za,Za,p8 hb (by omega),p8 b1 (by omega),show s*i-(s*i-s)=s by omega]
     refine⟨[i64 (m7 tag),i64 md,i64 pd,bool false],rfl,rfl,?_⟩;refine⟨[],_,_,_,_,P,rfl,rfl,?_⟩;have lt:=TN (o.drop (s*i-s)) lL;refine⟨by rw[f9],_,rfl,?_⟩;refine⟨by rw[f9];exact b1,_,rfl,?_⟩;refine⟨vK lt,_,b8 lt,?_⟩;refine⟨by rw[xK,xK,b1,lt];omega,?_⟩;refine⟨_,rfl,[],congrArg bool ?_,tq⟩;rw[Hy];exact beq_self_eq_true _
    ·rw[if_pos rfl]at P;have lL:(sub b (s*i-s) s).length=s:=by rw[j4];omega
     refine⟨by first|omega|(rw [w1];omega),by first|omega|(rw [w1];omega),by first|omega|(rw [w1];omega),by first|omega|(rw [w1];omega),by first|omega|(rw [w1];omega),?_⟩;refine⟨_,rfl,?_⟩;refine⟨_,rfl,?_⟩;refine⟨by omega,by omega,by omega,by omega,?_⟩;refine⟨[],_,_,_,_,TL (sub b (s*i-s) s) lL,?_,rfl,?_⟩
     ·show[V.q rs 0,i64 md,bool true,V.z (((s*i:Nat):Int).toNat-(I6.wrap (((s*i:Nat):Int)-(s:Int))).toNat) (sub (bv b) (I6.wrap (((s*i:Nat):Int)-(s:Int))).toNat (((s*i:Nat):Int).toNat-(I6.wrap (((s*i:Nat):Int)-(s:Int))).toNat)),V.z (lb-((s*i:Nat):Int).toNat) (sub (bv b) ((s*i:Nat):Int).toNat (lb-((s*i:Nat):Int).toNat))]=_;rw[w1,Za,Za,p8 hb (by omega),show s*i-(s*i-s)=s by omega,l4]
     refine⟨[i64 (m7 tag),i64 md,i64 pd,bool true],rfl,rfl,?_⟩;refine⟨[],_,_,_,_,P,rfl,rfl,?_⟩;have lt:=TN (sub b (s*i-s) s) lL;refine⟨by rw[f9],_,rfl,?_⟩;refine⟨by rw[f9];exact b1,_,rfl,?_⟩;refine⟨vK lt,_,b8 lt,?_⟩;refine⟨by rw[xK,xK,b1,lt];omega,?_⟩;refine⟨_,rfl,[],congrArg bool ?_,tq⟩;rw[Hy];exact beq_self_eq_true _
   ·have hp':s*i=0:=by have hp:¬(((s*i:Nat):Int)>0):=hp;omega
    rw[if_pos hp']at P;refine c9 (fun hh=>absurd hh hp) (fun _=> ?_);refine⟨_,rfl,?_⟩;refine⟨_,rfl,?_⟩;refine⟨by omega,by omega,by omega,by omega,?_⟩;refine⟨[],_,_,_,_,TL V0 lV,?_,rfl,?_⟩
    ·show[V.q rs 0,i64 md,bool back,V.z s (bv V0),V.z (lb-((s*i:Nat):Int).toNat) (sub (bv b) ((s*i:Nat):Int).toNat (lb-((s*i:Nat):Int).toNat))]=_;rw[Za,p8 hb (by omega)]
    refine⟨[i64 (m7 tag),i64 md,i64 pd,bool back],rfl,rfl,?_⟩;refine⟨[],_,_,_,_,P,rfl,rfl,?_⟩;have lt:=TN V0 lV;refine⟨by rw[f9],_,rfl,?_⟩;refine⟨by rw[f9];exact b1,_,rfl,?_⟩;refine⟨vK lt,_,b8 lt,?_⟩;refine⟨by rw[xK,xK,b1,lt];omega,?_⟩;refine⟨_,rfl,[],congrArg bool ?_,tq⟩;rw[Hy];exact beq_self_eq_true _
 ·refine⟨[],_,_,_,_,JM hf,rfl,rfl,?_⟩;exact⟨_,rfl,[],rfl,tq⟩
end Go.Scr
