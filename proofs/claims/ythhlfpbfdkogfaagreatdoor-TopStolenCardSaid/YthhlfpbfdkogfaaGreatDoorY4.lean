/-
  What the functions of the given program reckon, each by a contract, up to the law. It is no claim by itself; each contract bears its own conditions.
-/
import Derived.Test.YthhlfpbfdkogfaaGreatDoorY3
set_option linter.unusedVariables false
set_option linter.unusedSimpArgs false
set_option maxRecDepth 100000
namespace Go.Scr
open Go.Proofs
open Nat renaming le_of_ble_eq_true → Za, eq_zero_of_not_pos → Zg, zero_le → Zi
open List renaming length_append → Zb, eq_nil_of_length_eq_zero → Zc, length_take → Zd, length_drop → Ze, replicate → Zf, append_eq_nil_iff → Zh, take_nil → Zj
theorem FR {t mode pad md:Int} {back:Bool} {k m n:Nat} {e:Int} {xs:List V} {iv a9 E9 H:Bs} {st st':MS} {x:HK} {vr:List Value} (hx:x= .n/\m=0/\H=[]\/x= .o H/\H.length=m)
  (E:a7 C 98 [.p (.k 0) 0,.z m (bv H)] [k7 false t mode pad back k xs iv .n a9,f8 (d7 t k xs) md back st 2,i6 st.row st.gone] (.ret (.z n vr)) [k7 false t mode pad back k xs iv .n E9,f8 (d7 t k xs) md back st' 2,i6 st'.row st'.gone]):
  a7 C 34 [.p (.k 0) 0] [k7 true t mode pad back k xs iv x a9,f8 (d7 t k xs) md back st 2,i6 st.row st.gone,x.b] (.ret (.t [.z n vr,i64 0])) [k7 false t mode pad back k xs iv .n E9,f8 (d7 t k xs) md back st' 2,i6 st'.row st'.gone,.dead]:=by
 have NE:=ja (t:=t) (mode:=mode) (pad:=pad) (md:=md) (back:=back) (k:=k) (xs:=xs) (iv:=iv) (a9:=a9) (st:=st) (x:=x);obtain⟨ch,row,g⟩:=st;obtain⟨ch1,row1,g1⟩:=st';rcases hx with ⟨rfl,rfl,rfl⟩|⟨rfl,hH⟩
 ·rcases row with _|⟨a,r⟩<;>rcases row1 with _|⟨a1,r1⟩;all_goals
   refine fu.d bd ?_;refine⟨⟨[(0,.p (.k 0) 0),(2,.p (.k 4) 0),(3,.p (.k 5) 0)],[_,_,_,_,.sc [.slice none 0 0],.sc [.int .i64 0]]⟩,4,5,by decide,⟨[.k 0,.k 1,.k 2,.k 3,.d 2 0,.d 3 0],⟨rfl,rfl,rfl,tq⟩,⟨_,rfl,rfl⟩,⟨_,rfl,rfl⟩,⟨_,rfl,rfl⟩,⟨_,rfl,rfl⟩,⟨_,rfl,rfl⟩,⟨_,rfl,rfl⟩,tq⟩,rfl,rfl,rfl,?_⟩;refine⟨[.k 0,.k 1,.k 2,.k 3],_,_,_,_,NE,rfl,rfl,?_⟩;refine⟨_,rfl,?_⟩;refine⟨Za rfl,?_⟩;refine⟨Za rfl,?_⟩;refine⟨[.k 0,.k 1,.k 2],_,_,_,_,a7.args E (ys0:=[.p (.k 0) 0,g8]) (.cons (.refl _) (.cons .nl .nil)),rfl,rfl,?_⟩;refine⟨Za rfl,?_⟩;refine⟨Za rfl,?_⟩;refine⟨_,rfl,_,rfl,?_⟩;refine⟨_,_,?_,.ret (.refl _),G2.refl _⟩;exact⟨_,rfl,[.k 0,.k 1,.k 2,.k 3],rfl,⟨_,rfl,rfl⟩,⟨_,rfl,rfl⟩,⟨_,rfl,rfl⟩,⟨_,rfl,rfl⟩,tq⟩
 ·rcases row with _|⟨a,r⟩<;>rcases row1 with _|⟨a1,r1⟩;all_goals
   refine fu.d bd ?_;refine⟨⟨[(0,.p (.k 0) 0),(2,.p (.k 4) 0),(3,.p (.k 5) 0)],[_,_,_,_,.sc [.slice none 0 0],.sc [.int .i64 0]]⟩,4,5,by decide,⟨[.k 0,.k 1,.k 2,.k 3,.d 2 0,.d 3 0],⟨rfl,rfl,rfl,tq⟩,⟨_,rfl,rfl⟩,⟨_,rfl,rfl⟩,⟨_,rfl,rfl⟩,⟨_,rfl,rfl⟩,⟨_,rfl,rfl⟩,⟨_,rfl,rfl⟩,tq⟩,rfl,rfl,rfl,?_⟩;refine⟨[.k 0,.k 1,.k 2,.k 3],_,_,_,_,NE,rfl,rfl,?_⟩;refine⟨_,rfl,?_⟩;refine⟨Za rfl,?_⟩;refine⟨Za rfl,?_⟩;refine⟨[.k 0,.k 1,.k 2],_,_,_,_,E,?_,rfl,?_⟩
   ·show[V.p (.k 0) 0,V.z H.length (sub (bv H) 0 H.length)]=_;rw[b9 rfl,hH]
   refine⟨Za rfl,?_⟩;refine⟨Za rfl,?_⟩;refine⟨_,rfl,_,rfl,?_⟩;refine⟨_,_,?_,.ret (.refl _),G2.refl _⟩;exact⟨_,rfl,[.k 0,.k 1,.k 2,.k 3],rfl,⟨_,rfl,rfl⟩,⟨_,rfl,rfl⟩,⟨_,rfl,rfl⟩,⟨_,rfl,rfl⟩,tq⟩
theorem FQ {t mode pad md:Int} {back:Bool} {k m n:Nat} {e:Int} {xs:List V} {iv a9 E9 H:Bs} {st st':MS} {x:HK} {vr:List Value} (hx:x= .n/\m=0/\H=[]\/x= .o H/\H.length=m)
  (E:a7 C 98 [.p (.k 0) 0,.z m (bv H)] [k7 false t mode pad back k xs iv .n a9,f8 (d7 t k xs) md back st 2,i6 st.row st.gone] (.pan (.i X0 (i64 e))) [k7 false t mode pad back k xs iv .n E9,f8 (d7 t k xs) md back st' 2,i6 st'.row st'.gone]):
  a7 C 34 [.p (.k 0) 0] [k7 true t mode pad back k xs iv x a9,f8 (d7 t k xs) md back st 2,i6 st.row st.gone,x.b] (.ret (.t [.z 0 [],i64 e])) [k7 false t mode pad back k xs iv .n E9,f8 (d7 t k xs) md back st' 2,i6 st'.row st'.gone,.dead]:=by
 have NE:=ja (t:=t) (mode:=mode) (pad:=pad) (md:=md) (back:=back) (k:=k) (xs:=xs) (iv:=iv) (a9:=a9) (st:=st) (x:=x);obtain⟨ch,row,g⟩:=st;obtain⟨ch1,row1,g1⟩:=st';rcases hx with ⟨rfl,rfl,rfl⟩|⟨rfl,hH⟩
 ·rcases row with _|⟨a,r⟩<;>rcases row1 with _|⟨a1,r1⟩;all_goals
   refine fu.d bd ?_;refine⟨⟨[(0,.p (.k 0) 0),(2,.p (.k 4) 0),(3,.p (.k 5) 0)],[_,_,_,_,.sc [.slice none 0 0],.sc [.int .i64 0]]⟩,4,5,by decide,⟨[.k 0,.k 1,.k 2,.k 3,.d 2 0,.d 3 0],⟨rfl,rfl,rfl,tq⟩,⟨_,rfl,rfl⟩,⟨_,rfl,rfl⟩,⟨_,rfl,rfl⟩,⟨_,rfl,rfl⟩,⟨_,rfl,rfl⟩,⟨_,rfl,rfl⟩,tq⟩,rfl,rfl,rfl,?_⟩;refine⟨[.k 0,.k 1,.k 2,.k 3],_,_,_,_,NE,rfl,rfl,?_⟩;refine⟨_,rfl,?_⟩;refine⟨Za rfl,?_⟩;refine⟨Za rfl,?_⟩;refine⟨[.k 0,.k 1,.k 2],_,_,_,_,a7.args E (ys0:=[.p (.k 0) 0,g8]) (.cons (.refl _) (.cons .nl .nil)),rfl,rfl,?_⟩;refine⟨_,rfl,_,rfl,?_⟩;refine⟨_,_,?_,.ret (.t (.cons .nl (.cons (.refl _) .nil))),G2.refl _⟩;exact⟨_,rfl,[.k 0,.k 1,.k 2,.k 3],rfl,⟨_,rfl,rfl⟩,⟨_,rfl,rfl⟩,⟨_,rfl,rfl⟩,⟨_,rfl,rfl⟩,tq⟩
 ·rcases row with _|⟨a,r⟩<;>rcases row1 with _|⟨a1,r1⟩;all_goals
   refine fu.d bd ?_;refine⟨⟨[(0,.p (.k 0) 0),(2,.p (.k 4) 0),(3,.p (.k 5) 0)],[_,_,_,_,.sc [.slice none 0 0],.sc [.int .i64 0]]⟩,4,5,by decide,⟨[.k 0,.k 1,.k 2,.k 3,.d 2 0,.d 3 0],⟨rfl,rfl,rfl,tq⟩,⟨_,rfl,rfl⟩,⟨_,rfl,rfl⟩,⟨_,rfl,rfl⟩,⟨_,rfl,rfl⟩,⟨_,rfl,rfl⟩,⟨_,rfl,rfl⟩,tq⟩,rfl,rfl,rfl,?_⟩;refine⟨[.k 0,.k 1,.k 2,.k 3],_,_,_,_,NE,rfl,rfl,?_⟩;refine⟨_,rfl,?_⟩;refine⟨Za rfl,?_⟩;refine⟨Za rfl,?_⟩;refine⟨[.k 0,.k 1,.k 2],_,_,_,_,E,?_,rfl,?_⟩
   ·show[V.p (.k 0) 0,V.z H.length (sub (bv H) 0 H.length)]=_;rw[b9 rfl,hH]
   refine⟨_,rfl,_,rfl,?_⟩;refine⟨_,_,?_,.ret (.t (.cons .nl (.cons (.refl _) .nil))),G2.refl _⟩;exact⟨_,rfl,[.k 0,.k 1,.k 2,.k 3],rfl,⟨_,rfl,rfl⟩,⟨_,rfl,rfl⟩,⟨_,rfl,rfl⟩,⟨_,rfl,rfl⟩,tq⟩
abbrev cS (t:Int) (key:Bs) (s:Nat) (mode pad:Int) (back:Bool) (iv M:Bs):MS:=(A4 (cF t key false) (cF t key true) s mode pad back iv M).2
abbrev cT (t:Int) (key:Bs) (s:Nat) (mode pad:Int) (back:Bool) (iv M:Bs):Bs:=(A4 (cF t key false) (cF t key true) s mode pad back iv M).1
abbrev cL (t:Int) (key:Bs) (s:Nat) (mode pad:Int) (back:Bool) (iv M:Bs):Bs:=cR (cF t key false) (cF t key true) s mode pad back iv M
theorem wx {t key s k xs rs} (h:g9 t key s k xs rs) {mode pad:Int} {back:Bool} {iv M:Bs} (ok:D1 s mode pad iv):MK s (j9 mode) (cS t key s mode pad back iv M):=by
 have hs:=h.s_le;have K0:MK s (j9 mode) ⟨iv,[],[]⟩:=MK.new (fb ok).1 (by
  have:=(fb ok).2;by_cases h1:j9 mode=1
  ·exact .inl h1
  ·rw[if_neg h1]at this;exact .inr this)
 exact K0.step h.ci (by omega)
theorem EX {t key s k xs rs} (h:g9 t key s k xs rs) {mode pad:Int} {back:Bool} {iv M:Bs} (ok:D1 s mode pad iv) (h7:7<=mode):(cL t key s mode pad back iv M).length=s:=by
 have hs:=h.s_le;have hT:=kU (back:=back) (M:=M) h.ci (by omega) ok;obtain⟨f1,f2⟩:=dK (back:=back) (by omega) ok M.length;have lt:(M.take (q5 s mode pad back M.length)).length=q5 s mode pad back M.length:=by rw[Zd];omega
 unfold cL cR G8;rw[lt];by_cases hn:s<=q5 s mode pad back M.length
 ·rw[if_pos ⟨h7,hn⟩,Ze];split
  ·rw[lt];omega
  ·rw[hT];omega
 ·rw[if_neg (fun hh=>hn hh.2)];have:=ok.2.2.2;rw[if_neg (by omega)]at this;exact this
theorem rx {t key s} {mode pad:Int} {back:Bool} {iv:Bs} (hs:0<s) (ok:D1 s mode pad iv):A4 (cF t key false) (cF t key true) s mode pad back iv []=([],⟨iv,[],[]⟩):=by
 unfold A4;rw[Zj,tL]
theorem ry {t key s} {mode pad:Int} {back:Bool} {iv:Bs} (hs:0<s) (ok:D1 s mode pad iv):cS t key s mode pad back iv []=⟨iv,[],[]⟩:=congrArg Prod.snd (rx hs ok)
theorem ww {t key s} {mode pad:Int} {back:Bool} {iv:Bs} (hs:0<s) (ok:D1 s mode pad iv):cL t key s mode pad back iv []=iv:=by
 unfold cL cR G8;rw[Zj,if_neg (by simp;omega)]
theorem xW {s:Nat} {mode pad:Int} {back:Bool}:l4 s mode pad back []=[]:=by unfold l4;rw[List.drop_nil]
theorem Ln {t key s k xs rs} (h:g9 t key s k xs rs) {mode pad:Int} {back:Bool} {iv M b:Bs} {m:Nat} {x:HK} (ok:D1 s mode pad iv) (hx:x= .n/\l4 s mode pad back M=[]\/x= .o (l4 s mode pad back M)) (hb:b.length=m) (hL:M.length+m<=100000):
  ∃(n:Nat) (o:Bs),o.length=n/\q5 s mode pad back (M++b).length=q5 s mode pad back M.length+n/\cT t key s mode pad back iv (M++b)=cT t key s mode pad back iv M++o/\
  (a7 C 33 [.p (.k 0) 0,.z m (bv b)] [k7 true t mode pad back k xs iv x (cL t key s mode pad back iv M),f8 (d7 t k xs) (j9 mode) back (cS t key s mode pad back iv M) 2,i6 (cS t key s mode pad back iv M).row (cS t key s mode pad back iv M).gone,x.b]
   (.ret (.t [.z n (bv o),i64 0]))
   [D6 true true t mode pad back (d7 t k xs) (.z iv.length (bv iv)) (.p (.k 1) 0) (.o 1 (.k 5) 0 (l4 s mode pad back (M++b)).length) (.z (cL t key s mode pad back iv (M++b)).length (bv (cL t key s mode pad back iv (M++b)))),
    f8 (d7 t k xs) (j9 mode) back (cS t key s mode pad back iv (M++b)) 4,.dead,.dead,i6 (cS t key s mode pad back iv (M++b)).row (cS t key s mode pad back iv (M++b)).gone,.sc (bv (l4 s mode pad back (M++b)))]\/
   (cS t key s mode pad back iv M).row≠[]/\a7 C 33 [.p (.k 0) 0,.z m (bv b)] [k7 true t mode pad back k xs iv x (cL t key s mode pad back iv M),f8 (d7 t k xs) (j9 mode) back (cS t key s mode pad back iv M) 2,i6 (cS t key s mode pad back iv M).row (cS t key s mode pad back iv M).gone,x.b]
   (.ret (.t [.z n (bv o),i64 0]))
   [D6 true true t mode pad back (d7 t k xs) (.z iv.length (bv iv)) (.p (.k 1) 0) (.o 1 (.k 4) 0 (l4 s mode pad back (M++b)).length) (.z (cL t key s mode pad back iv (M++b)).length (bv (cL t key s mode pad back iv (M++b)))),
    f8 (d7 t k xs) (j9 mode) back (cS t key s mode pad back iv (M++b)) 2,i6 (cS t key s mode pad back iv (M++b)).row (cS t key s mode pad back iv (M++b)).gone,.dead,.sc (bv (l4 s mode pad back (M++b)))]):=by
 have hs:=h.s_le;have K:=wx h (back:=back) (M:=M) ok;have hm9:mode<=9:=ok.1.2;have hxl:x.l=l4 s mode pad back M:=by
  rcases hx with ⟨rfl,e⟩|rfl
  ·exact e.symm
  ·rfl
 have hxo:x= .n\/∃H,x= .o H:=by
  rcases hx with ⟨rfl,e⟩|rfl
  ·exact .inl rfl
  ·exact .inr ⟨_,rfl⟩
 obtain⟨a,ha⟩:∃a,a=q5 s mode pad back ((l4 s mode pad back M).length+b.length):=⟨_,rfl⟩;obtain⟨u1,u2,u3⟩:=Lo (E:=cF t key false) (D:=cF t key true) (iv:=iv) (M:=M) (b:=b) h.ci (by omega) ok ha;have hF:q5 s mode pad back (M++b).length=q5 s mode pad back M.length+a:=by
  rw[Zb,xV (by omega) ok,ha,gW]
 obtain⟨f1,f2⟩:=dK (back:=back) (by omega) ok ((l4 s mode pad back M).length+b.length);rw[<-ha]at f1 f2;have hHl:=gW (n:=s) (mode:=mode) (pad:=pad) (back:=back) M;have l0:((l4 s mode pad back M++b).take a).length=a:=by rw[Zd,Zb];omega
 have lo:(f7 (cF t key false) (cF t key true) s (j9 mode) back (cS t key s mode pad back iv M) ((l4 s mode pad back M++b).take a)).1.length=a:=by
  rw[H9 h.ci K.ok (by rw[l0];exact f2),l0]
 have eH:(l4 s mode pad back M).length+m-a=(l4 s mode pad back (M++b)).length:=by rw[<-u3,Ze,Zb,hb]
 refine⟨a,(f7 (cF t key false) (cF t key true) s (j9 mode) back (cS t key s mode pad back iv M) ((l4 s mode pad back M++b).take a)).1,lo,hF,by rw[show cT t key s mode pad back iv (M++b)=(A4 (cF t key false) (cF t key true) s mode pad back iv (M++b)).1 from rfl,u1],?_⟩;have e1:cS t key s mode pad back iv (M++b)=(f7 (cF t key false) (cF t key true) s (j9 mode) back (cS t key s mode pad back iv M) ((l4 s mode pad back M++b).take a)).2:=by
  rw[show cS t key s mode pad back iv (M++b)=(A4 (cF t key false) (cF t key true) s mode pad back iv (M++b)).2 from rfl,u1]
 rw[e1,show cL t key s mode pad back iv (M++b)=cR (cF t key false) (cF t key true) s mode pad back iv (M++b) from rfl,<-u2,<-u3];by_cases hne:0<a\/(cS t key s mode pad back iv M).row=[]
 ·left;have:=Ga h (mode:=mode) (pad:=pad) (back:=back) (iv:=iv) (a9:=cL t key s mode pad back iv M) (st:=cS t key s mode pad back iv M) (x:=x) (L:=(l4 s mode pad back M).length+m) (at':=a) hxo hb (by rw[hxl]) (by omega) K hm9 rfl (by rw[ha,hb];rfl) hne;rw[hxl]at this;rw[Ze,Zb,hb];exact this
 ·right;have hrow:(cS t key s mode pad back iv M).row≠[]:=fun hh=>hne (.inr hh);have h3:3<=j9 mode:=by
   have h1:=K.ok.m;rcases Nat.lt_or_ge 0 1 with _|_
   ·by_cases h2:3<=j9 mode
    ·exact h2
    ·exact absurd (K.ok.blk (by omega)) hrow
   ·omega
  have g1:k6 s (j9 mode)=1:=if_neg (by omega);have a0:a=0:=by omega
  have hL0:(l4 s mode pad back M).length+m=0:=by
   have hz:q5 s mode pad back ((l4 s mode pad back M).length+b.length)=(l4 s mode pad back M).length+b.length:=by
    unfold q5 B2 C1;rw[g1,if_pos h3];simp
   rw[<-ha,hb]at hz;omega
  have:=Gb h (mode:=mode) (pad:=pad) (back:=back) (iv:=iv) (a9:=cL t key s mode pad back iv M) (st:=cS t key s mode pad back iv M) (x:=x) (L:=(l4 s mode pad back M).length+m) (at':=a) hxo hb (by rw[hxl]) hL0 h3 K hm9 rfl (by rw[ha,hb];rfl);have hHb:l4 s mode pad back M++b=[]:=Zc (by rw[Zb,hb];exact hL0);subst a0;rw[hHb,Zj,tL,List.drop_nil];have eL:G8 s mode back [] [] (cL t key s mode pad back iv M)=cL t key s mode pad back iv M:=by unfold G8;rw[if_neg (by simp;omega)]
  rw[eL];exact⟨hrow,this⟩
abbrev kT (t mode pad:Int) (back:Bool) (k:Nat) (xs:List V) (iv a9:Bs):B:=D6 true false t mode pad back (d7 t k xs) (.z iv.length (bv iv)) (.p (.k 1) 0) g8 (.z a9.length (bv a9))
theorem ya {t key s k xs rs} (h:g9 t key s k xs rs) {mode pad:Int} {back:Bool} {iv M:Bs} {x:HK} {r:Bs×Int} (ok:D1 s mode pad iv) (hx:x= .n/\l4 s mode pad back M=[]\/x= .o (l4 s mode pad back M)) (hL:M.length<=100000)
  (hr:r=jk (cF t key false) (cF t key true) s mode pad back (cS t key s mode pad back iv M) (cL t key s mode pad back iv M) (l4 s mode pad back M)):
  r.1.length<=2*s/\∃E9,a7 C 34 [.p (.k 0) 0] [k7 true t mode pad back k xs iv x (cL t key s mode pad back iv M),f8 (d7 t k xs) (j9 mode) back (cS t key s mode pad back iv M) 2,i6 (cS t key s mode pad back iv M).row (cS t key s mode pad back iv M).gone,x.b]
   (.ret (.t [.z r.1.length (bv r.1),i64 r.2])) [kT t mode pad back k xs iv E9,.dead,.dead,.dead,.dead]:=by
 have hs:=h.s_le;have K:=wx h (back:=back) (M:=M) ok;have hl:=EX h (back:=back) (M:=M) ok;obtain⟨f1,f2⟩:=dK (back:=back) (by omega) ok M.length;have hHl:=gW (n:=s) (mode:=mode) (pad:=pad) (back:=back) M;obtain⟨g0,g1,g2⟩:=nU (back:=back) (by omega) ok;have hmost:(l4 s mode pad back M).length<=C1 s (j9 mode) mode pad back:=by
  rw[hHl];refine Nat.le_of_not_lt fun hh=> ?_;have:=(bV (most:=C1 s (j9 mode) mode pad back) (L:=M.length) (i:=B2 (k6 s (j9 mode)) (C1 s (j9 mode) mode pad back) M.length) g0).2 (by show _+q5 s mode pad back M.length<_;omega);exact absurd this (Nat.lt_irrefl _)
 have hHb:(l4 s mode pad back M).length<=100000:=by omega
 generalize hSt:cS t key s mode pad back iv M=st at*
 generalize hLa:cL t key s mode pad back iv M=a9 at*
 generalize l4 s mode pad back M=H at*
 have hx':x= .n/\H.length=0/\H=[]\/x= .o H/\H.length=H.length:=by
  rcases hx with ⟨e1,e2⟩|e1
  ·exact .inl ⟨e1,by rw[e2];rfl,e2⟩
  ·exact .inr ⟨e1,rfl⟩
 have fT:∀{n} {vr:List Value} {E9 st'},a7 C 98 [.p (.k 0) 0,.z H.length (bv H)] [k7 false t mode pad back k xs iv .n a9,f8 (d7 t k xs) (j9 mode) back st 2,i6 st.row st.gone] (.ret (.z n vr)) [k7 false t mode pad back k xs iv .n E9,f8 (d7 t k xs) (j9 mode) back st' 3,.dead,i6 st'.row st'.gone]->
   ∃E9,a7 C 34 [.p (.k 0) 0] [k7 true t mode pad back k xs iv x a9,f8 (d7 t k xs) (j9 mode) back st 2,i6 st.row st.gone,x.b] (.ret (.t [.z n vr,i64 0])) [kT t mode pad back k xs iv E9,.dead,.dead,.dead,.dead]:=
  fun E=>⟨_,(FT (e:=0) hx' E).fg (.keep (.drop (.drop (.drop (.drop .nil)))))⟩
 have fTp:∀{e E9 st'},a7 C 98 [.p (.k 0) 0,.z H.length (bv H)] [k7 false t mode pad back k xs iv .n a9,f8 (d7 t k xs) (j9 mode) back st 2,i6 st.row st.gone] (.pan (.i X0 (i64 e))) [k7 false t mode pad back k xs iv .n E9,f8 (d7 t k xs) (j9 mode) back st' 3,.dead,i6 st'.row st'.gone]->
   ∃E9,a7 C 34 [.p (.k 0) 0] [k7 true t mode pad back k xs iv x a9,f8 (d7 t k xs) (j9 mode) back st 2,i6 st.row st.gone,x.b] (.ret (.t [.z 0 [],i64 e])) [kT t mode pad back k xs iv E9,.dead,.dead,.dead,.dead]:=
  fun E=>⟨_,(FS (n:=0) (vr:=[]) hx' E).fg (.keep (.drop (.drop (.drop (.drop .nil)))))⟩
 have fN:∀{n} {vr:List Value} {E9 st'},a7 C 98 [.p (.k 0) 0,.z H.length (bv H)] [k7 false t mode pad back k xs iv .n a9,f8 (d7 t k xs) (j9 mode) back st 2,i6 st.row st.gone] (.ret (.z n vr)) [k7 false t mode pad back k xs iv .n E9,f8 (d7 t k xs) (j9 mode) back st' 2,i6 st'.row st'.gone]->
   ∃E9,a7 C 34 [.p (.k 0) 0] [k7 true t mode pad back k xs iv x a9,f8 (d7 t k xs) (j9 mode) back st 2,i6 st.row st.gone,x.b] (.ret (.t [.z n vr,i64 0])) [kT t mode pad back k xs iv E9,.dead,.dead,.dead,.dead]:=
  fun E=>⟨_,(FR (e:=0) hx' E).fg (.keep (.drop (.drop (.drop (.dd .nil)))))⟩
 have fNp:∀{e E9 st'},a7 C 98 [.p (.k 0) 0,.z H.length (bv H)] [k7 false t mode pad back k xs iv .n a9,f8 (d7 t k xs) (j9 mode) back st 2,i6 st.row st.gone] (.pan (.i X0 (i64 e))) [k7 false t mode pad back k xs iv .n E9,f8 (d7 t k xs) (j9 mode) back st' 2,i6 st'.row st'.gone]->
   ∃E9,a7 C 34 [.p (.k 0) 0] [k7 true t mode pad back k xs iv x a9,f8 (d7 t k xs) (j9 mode) back st 2,i6 st.row st.gone,x.b] (.ret (.t [.z 0 [],i64 e])) [kT t mode pad back k xs iv E9,.dead,.dead,.dead,.dead]:=
  fun E=>⟨_,(FQ (n:=0) (vr:=[]) hx' E).fg (.keep (.drop (.drop (.drop (.dd .nil)))))⟩
 unfold jk at hr;by_cases h7:7<=mode
 ·have e2:j9 mode=2:=if_pos h7;have hmo:H.length<=2*s:=by unfold C1 at hmost;rw[e2,if_neg (by decide),if_pos h7]at hmost;exact hmost
  rw[if_pos h7]at hr;by_cases hsm:H.length<s
  ·rw[if_pos hsm]at hr;subst hr;exact⟨Zi _,fNp (FP h (hl h7) rfl ⟨h7,ok.1.2⟩ hsm)⟩
  ·rw[if_neg hsm]at hr;subst hr;have ll:(A9 (cF t key false) (cF t key true) s mode back a9 H).length=H.length:=stT_len h.ci (hl h7) (by omega) hmo;refine⟨by show(A9 (cF t key false) (cF t key true) s mode back a9 H).length<=_;rw[ll];exact hmo,?_⟩;have:=fN (FO h (pad:=pad) (md:=j9 mode) (back:=back) (iv:=iv) (st:=st) (hl h7) rfl ⟨h7,ok.1.2⟩ (by omega) hmo);rw[<-ll]at this;exact this
 ·have e2:j9 mode=mode:=if_neg h7;rw[if_neg h7]at hr;by_cases h4:pad=4
  ·rw[if_pos h4]at hr;by_cases hz:H.length%k6 s (j9 mode)=0
   ·rw[if_pos hz]at hr;have lo:(f7 (cF t key false) (cF t key true) s (j9 mode) back st H).1.length=H.length:=H9 h.ci K.ok hz;have hb2:H.length<=2*s:=by
     unfold C1 at hmost;rw[if_neg h7]at hmost;split at hmost
     ·omega
     ·split at hmost<;>omega
    subst hr;refine⟨by show(f7 (cF t key false) (cF t key true) s (j9 mode) back st H).1.length<=_;rw[lo];exact hb2,?_⟩;by_cases hne:0<H.length\/st.row=[]
    ·have:=fT (FK h (mode:=mode) (pad:=pad) (back:=back) (iv:=iv) (a9:=a9) rfl hHb K (by omega) h4 hz hne);rw[<-lo]at this;rw[lo]at this ⊢;exact this
    ·have hrow:st.row≠[]:=fun hh=>hne (.inr hh);have h3:3<=j9 mode:=by
      have h1:=K.ok.m;by_cases h2:3<=j9 mode
      ·exact h2
      ·exact absurd (K.ok.blk (by omega)) hrow
     have h0:H.length=0:=by omega
     have:=fN (FL h (H:=H) (mode:=mode) (pad:=pad) (back:=back) (iv:=iv) (a9:=a9) (st:=st) h0 h3 (by omega) h4);obtain rfl:=Zc h0;rw[tL];exact this
   ·rw[if_neg hz]at hr;subst hr;exact⟨Zi _,fNp (FM h K (by omega) h4 hz)⟩
  ·have hm2:mode<=2:=ok.2.2.1.resolve_left h4;have hp:pad=1\/pad=2\/pad=3:=by have:=ok.2.1;omega
   have gn:k6 s (j9 mode)=s:=if_pos (by have:=ok.1;omega);rw[if_neg h4]at hr;have hmo:H.length<=(if back=true then s else s-1):=by
    unfold C1 at hmost;rw[if_neg (by omega),if_neg h7]at hmost;cases back
    ·rw[if_neg (by simp)]at hmost;exact hmost
    ·rw[if_pos ⟨h4,rfl⟩]at hmost;exact hmost
   cases back
   ·rw[if_pos rfl]at hr;rw[if_neg (by decide)]at hmo;have lp:(F8 pad s H).length=s:=eE (by omega);have lo:(f7 (cF t key false) (cF t key true) s (j9 mode) false st (F8 pad s H)).1.length=s:=by rw[H9 h.ci K.ok (by rw[lp,gn,Nat.mod_self]),lp]
    subst hr;refine⟨by show(f7 (cF t key false) (cF t key true) s (j9 mode) false st (F8 pad s H)).1.length<=_;rw[lo];omega,?_⟩;have:=fT (FN h (m:=H.length) (mode:=mode) (pad:=pad) (back:=false) (iv:=iv) (a9:=a9) rfl rfl (by omega) K (by omega) hp gn);rw[<-lo]at this;rw[lo]at this ⊢;exact this
   ·rw[if_neg (by decide)]at hr;by_cases hsz:H.length=s
    ·rw[if_pos hsz]at hr;have lo:(f7 (cF t key false) (cF t key true) s (j9 mode) true st H).1.length=s:=by rw[H9 h.ci K.ok (by rw[hsz,gn,Nat.mod_self]),hsz]
     by_cases h0:C3 pad (f7 (cF t key false) (cF t key true) s (j9 mode) true st H).1=0
     ·rw[if_pos h0]at hr;subst hr;have:=FI h (m:=0) (mode:=mode) (pad:=pad) (back:=true) (iv:=iv) (a9:=a9) rfl hsz K (by omega) hp gn h0;exact⟨Zi _,fTp (by rw[hsz];exact this)⟩
     ·rw[if_neg h0]at hr;subst hr;have ls:(S4 pad (f7 (cF t key false) (cF t key true) s (j9 mode) true st H).1).length=s-C3 pad (f7 (cF t key false) (cF t key true) s (j9 mode) true st H).1:=by
       unfold S4;rw[Zd,lo];omega
      refine⟨by show(S4 pad (f7 (cF t key false) (cF t key true) s (j9 mode) true st H).1).length<=_;rw[ls];omega,?_⟩;have:=FJ h (m:=0) (mode:=mode) (pad:=pad) (back:=true) (iv:=iv) (a9:=a9) rfl hsz K (by omega) hp gn h0;rw[<-ls]at this;exact fT (by rw[hsz];exact this)
    ·rw[if_neg hsz]at hr;subst hr;exact⟨Zi _,fNp (FH h rfl rfl hHb hsz (by omega) hp)⟩
theorem DW {ps:List (Bs)} {i:Nat} (h:i<ps.length):(ps.map zc)[((i:Nat):Int).toNat]? =some (.z ps[i].length (bv ps[i])):=by
 rw[Int.toNat_natCast,List.getElem?_map,List.getElem?_eq_getElem h];rfl
def w7 (ps:List (Bs)) (i:Nat):Bs:=(ps.take i).flatten
theorem sg {ps:List (Bs)} {i:Nat} (h:i<ps.length):w7 ps (i+1)=w7 ps i++ps[i]:=by
 unfold w7;rw[List.take_succ_eq_append_getElem h,List.flatten_append,List.flatten_singleton]
theorem JM (ps:List (Bs)):w7 ps ps.length=ps.flatten:=by unfold w7;rw[List.take_length]
theorem xK (ps:List (Bs)) (i:Nat):(w7 ps i).length<=ps.flatten.length:=by
 have:ps.flatten=w7 ps i++(ps.drop i).flatten:=by unfold w7;rw[<-List.flatten_append,List.take_append_drop]
 rw[this,Zb];omega
theorem vh {m:Nat} {s:S} {d d':D} (e:d=d') (h:Mt m s d'):Mt m s d:=e▸h
structure Cf where
 t:Int
 mode:Int
 pad:Int
 back:Bool
 key:Bs
 iv:Bs
noncomputable def Cf.s (c:Cf):Nat:=(B6 c.t).toNat
noncomputable def Cf.err (c:Cf):Int:=P0 c.t c.mode c.pad c.s c.key.length c.iv.length
noncomputable def kS (t:Int) (key:Bs):Nat×List V:=open Classical in if h:∃p:Nat×List V,∃rs,g9 t key (B6 t).toNat p.1 p.2 rs then Classical.choose h else (0,[])
theorem JR {t:Int} {key:Bs} {s k:Nat} {xs rs:List V} (h:g9 t key s k xs rs):∃rs,g9 t key (B6 t).toNat (kS t key).1 (kS t key).2 rs:=by
 have h0:∃p:Nat×List V,∃rs,g9 t key (B6 t).toNat p.1 p.2 rs:=⟨(k,xs),rs,by rw[h.hs];exact h⟩;unfold kS;rw[dif_pos h0];exact Classical.choose_spec h0
noncomputable abbrev Cf.k (c:Cf):Nat:=(kS c.t c.key).1
noncomputable abbrev Cf.xs (c:Cf):List V:=(kS c.t c.key).2
theorem Cf.ok {c:Cf} (h:c.err=0) (hk:c.key.length<=1000):(∃rs,g9 c.t c.key c.s c.k c.xs rs)/\D1 c.s c.mode c.pad c.iv:=by
 rcases Bj c.t (key:=c.key) rfl hk c.mode c.pad c.back (iv:=c.iv) rfl with ⟨e,s,k,xs,rs,h,ok⟩|⟨he,P,Q⟩
 ·refine⟨JR h,?_⟩;have hs:c.s=s:=by unfold Cf.s;rw[h.hs];rfl
  rw[hs];exact ok
 ·exact absurd h he
def HK.w (x:HK) (j:Nat):V:=match x with
 | .n=>g8
 | .o H=> .o 1 (.k j) 0 H.length
 | .f H=> .z H.length (bv H)
def ut (cv:V) (t mode pad md:Int) (back:Bool) (iv:Bs) (ps:List (Bs)) (i:Nat) (st:MS) (la H T:Bs):D:=
 ⟨[(10,.p (.k 0) 0),(28,.zz 1 ps.length (ps.map zc)),(29,i64 ps.length),(12,.o 1 (.k 6) 0 T.length),(30,i64 i)],
  [D6 true true t mode pad back cv (.z iv.length (bv iv)) (.p (.k 1) 0) (.o 1 (.k 5) 0 H.length) (.z la.length (bv la)),f8 cv md back st 4,.dead,.dead,i6 st.row st.gone,.sc (bv H),.sc (bv T)]⟩
def Bk (cv:V) (t mode pad md:Int) (back:Bool) (k:Nat) (xs:List V) (iv:Bs) (ps:List (Bs)) (A:Nat->MS×Bs×Bs×Bs):Nat->D
 |0=>⟨[(10,.p (.k 0) 0),(28,.zz 1 ps.length (ps.map zc)),(29,i64 ps.length),(12,.o 1 (.k 4) 0 0),(30,i64 0)],[k7 true t mode pad back k xs iv .n iv,f8 cv md back ⟨iv,[],[]⟩ 2,.dead,.dead,.sc []]⟩
 |i+1=>ut cv t mode pad md back iv ps (i+1) (A (i+1)).1 (A (i+1)).2.1 (A (i+1)).2.2.1 (A (i+1)).2.2.2
theorem ur {cv:V} {t mode pad md:Int} {back:Bool} {k:Nat} {xs:List V} {iv:Bs} {ps:List (Bs)} {A:Nat->MS×Bs×Bs×Bs} {i:Nat} {st:MS} {la H T:Bs} (e:A (i+1)=(st,la,H,T)):
  Bk cv t mode pad md back k xs iv ps A (i+1)=ut cv t mode pad md back iv ps (i+1) st la H T:=by
 show ut cv t mode pad md back iv ps (i+1) (A (i+1)).1 (A (i+1)).2.1 (A (i+1)).2.2.1 (A (i+1)).2.2.2=_;rw[e]
theorem kv (T:Bs):V.z T.length (sub (bv T) 0 T.length)=V.z T.length (bv T):=by rw[b9 rfl]
theorem Iu {t key s k xs rs} (h:g9 t key s k xs rs) {mode pad:Int} {back:Bool} {lk li:Nat} {iv:Bs} (hk:key.length=lk) (hlk:lk<=1000) (hi:iv.length=li) (ok:D1 s mode pad iv) {ps:List (Bs)} {r:Bs×Int} (hps:ps.flatten.length<=100000) (hpn:ps.length<=100000)
  (hr:r=jk (cF t key false) (cF t key true) s mode pad back (cS t key s mode pad back iv ps.flatten) (cL t key s mode pad back iv ps.flatten) (l4 s mode pad back ps.flatten)):
  a7 C 49 [C6 t mode pad back,.z lk (bv key),.z li (bv iv),.zz 1 ps.length (ps.map zc)] [] (.ret (bA (if r.2=0 then cT t key s mode pad back iv ps.flatten++r.1 else [],r.2))) []:=by
 have hs:=h.s_le;have hc0:w7 ps 0=[]:=by unfold w7;rw[List.take_zero];rfl
 obtain⟨A,hA⟩:∃A:Nat->MS×Bs×Bs×Bs,A=fun i=>(cS t key s mode pad back iv (w7 ps i),cL t key s mode pad back iv (w7 ps i),l4 s mode pad back (w7 ps i),cT t key s mode pad back iv (w7 ps i)):=⟨_,rfl⟩;obtain⟨e1,e2⟩:=xZ (M:=ps.flatten) h.ci (by omega) ok hr;have is:r.2≠0->r.1.length=0:=fun hh=>by rw[e2 hh];rfl
 have hF:∀{x:HK},(x= .n/\l4 s mode pad back ps.flatten=[]\/x= .o (l4 s mode pad back ps.flatten))->_:=fun hx=>(ya h ok hx hps hr).2;have hr2:=(ya h (x:= .o (l4 s mode pad back ps.flatten)) ok (.inr rfl) hps hr).1;have hTb:(cT t key s mode pad back iv ps.flatten).length<=100000:=by
  have h1:=kU (back:=back) (M:=ps.flatten) h.ci (by omega) ok;have h2:=(dK (back:=back) (by omega) ok ps.flatten.length).1;show(A4 (cF t key false) (cF t key true) s mode pad back iv ps.flatten).1.length<=_;omega
 have hU:∀i (hi:i<ps.length) {x:HK},(x= .n/\l4 s mode pad back (w7 ps i)=[]\/x= .o (l4 s mode pad back (w7 ps i)))->_:=fun i hi x hx=>Ln h (b:=ps[i]) ok hx rfl (by
  have h1:=xK ps (i+1);rw[sg hi,Zb]at h1;omega)
 have hTi:∀i,(cT t key s mode pad back iv (w7 ps i)).length<=100000:=fun i=>by
  have h1:=kU (back:=back) (M:=w7 ps i) h.ci (by omega) ok;have h2:=(dK (back:=back) (by omega) ok (w7 ps i).length).1;have h3:=xK ps i;show(A4 (cF t key false) (cF t key true) s mode pad back iv (w7 ps i)).1.length<=_;omega
 have IN:=FU h (back:=back) hk hlk hi ok;refine ON.x ?_;refine⟨[],_,_,_,_,wG,rfl,rfl,?_⟩;refine⟨[i64 t,i64 mode,i64 pad,bool back],rfl,rfl,?_⟩;refine⟨[.d 19 0],_,_,_,_,IN,rfl,rfl,?_⟩;refine A5 (Bk (d7 t k xs) t mode pad (j9 mode) back k xs iv ps A) ps.length [(12,1,.sc [])] ⟨[.d 19 0,.d 24 1,.d 24 2,.d 24 3,.d 900000 0],⟨rfl,rfl,rfl,rfl,rfl,tq⟩,⟨_,rfl,rfl⟩,⟨_,rfl,rfl⟩,⟨_,rfl,rfl⟩,⟨_,rfl,rfl⟩,⟨_,rfl,rfl⟩,tq⟩ fun i hi=> ?_;rcases i with _|i
 ·refine b8 (fun a8=> ?_) (fun hge=> ?_)
  ·have hl:0<ps.length:=by omega
   obtain⟨n,o,hn,_,hT,U⟩:=hU 0 hl (x:= .n) (.inl ⟨rfl,by rw[hc0];exact xW⟩);rw[<-sg hl,hc0]at hT U;have U:=U.resolve_right (fun hh=>hh.1 (by rw[ry (by omega) ok]));rw[ww (by omega) ok,ry (by omega) ok]at U;rw[show cT t key s mode pad back iv []=[] from congrArg Prod.fst (rx (by omega) ok),List.nil_append]at hT;refine⟨by omega,by omega,?_⟩;refine⟨_,DW (i:=0) hl,?_⟩;have hA1:A 1=(cS t key s mode pad back iv (w7 ps (0+1)),cL t key s mode pad back iv (w7 ps (0+1)),l4 s mode pad back (w7 ps (0+1)),cT t key s mode pad back iv (w7 ps (0+1))):=by rw[hA]
   rw[hT]at hA1;generalize cS t key s mode pad back iv (w7 ps (0+1))=st1 at*
   generalize cL t key s mode pad back iv (w7 ps (0+1))=la1 at*
   generalize l4 s mode pad back (w7 ps (0+1))=H1 at*
   have hTi1:=hTi 1;rw[hT]at hTi1;obtain⟨ch,row,g⟩:=st1;rcases row with _|⟨a,rr⟩;all_goals
    refine⟨[.k 0,.k 1,.k 2,.k 3],_,_,_,_,U,rfl,rfl,?_⟩;refine⟨by rw[f9,hn],by omega,Nat.le_refl _,?_⟩;refine⟨1,by omega,by omega,vh (ur hA1) ?_⟩;refine⟨[.k 0,.k 1,.k 2,.k 3,.d 37 4,.d 37 5,.d 45 0],⟨rfl,rfl,rfl,?_,rfl,tq⟩,⟨_,rfl,rfl⟩,⟨_,rfl,rfl⟩,⟨_,rfl,rfl⟩,⟨_,rfl,rfl⟩,⟨_,rfl,rfl⟩,⟨_,rfl,rfl⟩,⟨_,rfl,?_⟩,tq⟩
    ·exact congrArg (V.o 1 (.k 6) 0) (show 0+n=o.length by omega)
    ·exact d8 (show sub ([]:List Value) 0 (0*1)++bv o=bv o from rfl)
  ·have h0:ps.length=0:=by omega
   have hp0:ps=[]:=Zc h0;subst hp0;obtain⟨la',F⟩:=hF (x:= .n) (.inl ⟨rfl,xW⟩);rw[show ([]:List (Bs)).flatten=[] from rfl]at*
   rw[ww (by omega) ok,ry (by omega) ok]at F;rw[show cT t key s mode pad back iv []=[] from congrArg Prod.fst (rx (by omega) ok)];refine⟨[.k 0,.k 1,.k 2,.k 3],_,_,_,_,F,rfl,rfl,?_⟩;refine n7 (fun h2=> ?_) (fun h2=> ?_)
   ·rw[if_neg h2];exact⟨.ret (.t [g8,i64 r.2]),[],⟨_,rfl,[],rfl,tq⟩,.ret (.t (.cons .nl (.cons (.refl _) .nil))),.nil⟩
   ·rw[if_pos h2,h2];by_cases hz:0<(([]:Bs)++r.1).length
    ·have CC:=R7 (ls:=[([]:Bs),r.1]) (t:=([]:Bs)++r.1) (n:=2) (by simp) rfl rfl hz (by rw[Zb];omega) (by decide);refine⟨[],_,_,_,_,CC,?_,rfl,?_⟩
     ·exact congrArg (fun z=>[V.zz 1 2 [z,V.z r.1.length (bv r.1)]]) (kv ([]:Bs))
     exact⟨.ret (bA (([]:Bs)++r.1,0)),[],⟨_,rfl,[],congrArg (fun z=>V.t [z,i64 0]) (kv _),tq⟩,.ret (.refl _),.nil⟩
    ·have hz0:=Zh.1 (Zc (Zg hz));refine⟨[],_,_,_,_,rJ,?_,rfl,?_⟩
     ·show[V.zz 1 2 [V.z (([]:Bs)).length (sub (bv ([]:Bs)) 0 (([]:Bs)).length),V.z r.1.length (bv r.1)]]=_;rw[kv,hz0.2,show([]:Bs)=[] from hz0.1];rfl
     refine⟨.ret (bA ([],0)),[],⟨_,rfl,[],rfl,tq⟩,?_,.nil⟩;rw[hz0.2,show([]:Bs)=[] from hz0.1];exact .ret (.refl _)
 ·have hA1:A (i+1)=(cS t key s mode pad back iv (w7 ps (i+1)),cL t key s mode pad back iv (w7 ps (i+1)),l4 s mode pad back (w7 ps (i+1)),cT t key s mode pad back iv (w7 ps (i+1))):=by rw[hA]
  rw[ur hA1];have hT0:=hTi (i+1);refine b8 (fun a8=> ?_) (fun hge=> ?_)
  ·have hl:i+1<ps.length:=by omega
   obtain⟨n,o,hn,_,hT,U⟩:=hU (i+1) hl (x:= .o (l4 s mode pad back (w7 ps (i+1)))) (.inr rfl);have hT1:=hTi (i+1+1);rw[<-sg hl]at hT U;refine⟨by omega,by omega,?_⟩;refine⟨.z ps[i+1].length (bv ps[i+1]),by rw[Nat.mul_one];exact DW hl,?_⟩;have hA2:A (i+1+1)=(cS t key s mode pad back iv (w7 ps (i+1+1)),cL t key s mode pad back iv (w7 ps (i+1+1)),l4 s mode pad back (w7 ps (i+1+1)),cT t key s mode pad back iv (w7 ps (i+1+1))):=by rw[hA]
   rw[hT]at hA2 hT1;generalize cS t key s mode pad back iv (w7 ps (i+1+1))=st1 at*
   generalize cL t key s mode pad back iv (w7 ps (i+1+1))=la1 at*
   generalize l4 s mode pad back (w7 ps (i+1+1))=H1 at*
   generalize cS t key s mode pad back iv (w7 ps (i+1))=st0 at*
   generalize cL t key s mode pad back iv (w7 ps (i+1))=la0 at*
   generalize l4 s mode pad back (w7 ps (i+1))=H0 at*
   generalize cT t key s mode pad back iv (w7 ps (i+1))=T0 at*
   rw[Zb,hn]at hT1;obtain⟨ch,row,g⟩:=st1;obtain⟨H7,row0,g0⟩:=st0;rcases U with U|⟨_,U⟩<;>rcases row0 with _|⟨a0,rr0⟩<;>rcases row with _|⟨a,rr⟩;all_goals
    refine⟨[.k 0,.k 1,.k 4,.k 5],_,_,_,_,U,rfl,rfl,?_⟩;refine⟨by rw[f9,hn],by omega,by rw[f9];omega,?_⟩;refine⟨i+1+1,by omega,by omega,vh (ur hA2) ?_⟩;first
     |refine⟨[.k 0,.k 1,.k 2,.k 3,.d 37 4,.d 37 5,.d 45 0],⟨rfl,rfl,rfl,?_,c9 (by simp(disch:=omega)only[IntWalk.i64_in];omega),tq⟩,⟨_,rfl,rfl⟩,⟨_,rfl,rfl⟩,⟨_,rfl,rfl⟩,⟨_,rfl,rfl⟩,⟨_,rfl,rfl⟩,⟨_,rfl,rfl⟩,⟨_,rfl,?_⟩,tq⟩
     |refine⟨[.k 0,.k 1,.k 2,.k 3,.k 4,.d 37 4,.d 45 0],⟨rfl,rfl,rfl,?_,c9 (by simp(disch:=omega)only[IntWalk.i64_in];omega),tq⟩,⟨_,rfl,rfl⟩,⟨_,rfl,rfl⟩,⟨_,rfl,rfl⟩,⟨_,rfl,rfl⟩,⟨_,rfl,rfl⟩,⟨_,rfl,rfl⟩,⟨_,rfl,?_⟩,tq⟩
    ·exact congrArg (V.o 1 (.k 6) 0) (show T0.length+n=(T0++o).length by rw[Zb,hn])
    ·exact d8 (show sub (bv T0) 0 (T0.length*1)++bv o=bv (T0++o) by rw[Nat.mul_one,b9 rfl,z5])
  ·have hn1:i+1=ps.length:=by omega
   rw[show w7 ps (i+1)=ps.flatten by rw[hn1];exact JM ps]at*
   obtain⟨la',F⟩:=hF (x:= .o (l4 s mode pad back ps.flatten)) (.inr rfl);generalize cS t key s mode pad back iv ps.flatten=st0 at*
   generalize cL t key s mode pad back iv ps.flatten=la0 at*
   generalize l4 s mode pad back ps.flatten=H0 at*
   generalize cT t key s mode pad back iv ps.flatten=T0 at*
   obtain⟨H7,row0,g0⟩:=st0;rcases row0 with _|⟨a0,rr0⟩;all_goals
    refine⟨[.k 0,.k 1,.k 4,.k 5],_,_,_,_,F,rfl,rfl,?_⟩;refine n7 (fun h2=> ?_) (fun h2=> ?_)
    ·rw[if_neg h2];exact⟨.ret (.t [g8,i64 r.2]),[],⟨_,rfl,[],rfl,tq⟩,.ret (.t (.cons .nl (.cons (.refl _) .nil))),.nil⟩
    ·rw[if_pos h2,h2];by_cases hz:0<(T0++r.1).length
     ·have CC:=R7 (ls:=[T0,r.1]) (t:=T0++r.1) (n:=2) (by simp) rfl rfl hz (by rw[Zb];omega) (by decide);refine⟨[],_,_,_,_,CC,?_,rfl,?_⟩
      ·exact congrArg (fun z=>[V.zz 1 2 [z,V.z r.1.length (bv r.1)]]) (kv T0)
      exact⟨.ret (bA (T0++r.1,0)),[],⟨_,rfl,[],congrArg (fun z=>V.t [z,i64 0]) (kv _),tq⟩,.ret (.refl _),.nil⟩
     ·have hz0:=Zh.1 (Zc (Zg hz));refine⟨[],_,_,_,_,rJ,?_,rfl,?_⟩
      ·show[V.zz 1 2 [V.z (T0).length (sub (bv T0) 0 (T0).length),V.z r.1.length (bv r.1)]]=_;rw[kv,hz0.2,show T0=[] from hz0.1];rfl
      refine⟨.ret (bA ([],0)),[],⟨_,rfl,[],rfl,tq⟩,?_,.nil⟩;rw[hz0.2,show T0=[] from hz0.1];exact .ret (.refl _)
theorem Wh {t key s k xs rs} (h:g9 t key s k xs rs) {mode pad:Int} {back:Bool} {m:Nat} {iv msg:Bs} (ok:D1 s mode pad iv) (hmm:msg.length=m) (hmb:m<=100000):
  a7 C 16 [C6 t mode pad back,.z key.length (bv key),.z iv.length (bv iv),.z m (bv msg)] [] (.ret (bA (D2 (cF t key false) (cF t key true) s mode pad back iv msg))) []:=by
 have hs:=h.s_le;have hci:=h.ci;obtain⟨o1,o2,o3,o4⟩:=ok;have ok:D1 s mode pad iv:=⟨o1,o2,o3,o4⟩;by_cases hm7:7<=mode
 ·have e0:D2 (cF t key false) (cF t key true) s mode pad back iv msg=L0 (cF t key false) (cF t key true) s mode back iv msg:=by unfold D2;rw[if_pos hm7]
  by_cases hms:s<=m
  ·have hi:iv.length=s:=by rw[o4,if_neg (by omega)]
   have e1:L0 (cF t key false) (cF t key true) s mode back iv msg=((L0 (cF t key false) (cF t key true) s mode back iv msg).1,0):=by
    refine Prod.ext rfl ?_;unfold L0;rw[if_neg (by omega)]
   have hl:(L0 (cF t key false) (cF t key true) s mode back iv msg).1.length=m:=by rw[pP hci (by omega) hi (by omega),hmm]
   exact pB (e0.trans e1) hl (IE h rfl rfl rfl ok hmm hmb hm7 hms)
  ·have e1:L0 (cF t key false) (cF t key true) s mode back iv msg=([],7):=by unfold L0;rw[if_pos (by omega)]
   exact mz (e0.trans e1) (IF h rfl ok hm7 (by omega))
 ·have hm6:1<=mode/\mode<=6:=by omega
  have K0:MK s mode ⟨iv,[],[]⟩:=MK.new hm6 (by
   by_cases h1:mode=1
   ·exact .inl h1
   ·rw[if_neg h1]at o4;exact .inr o4)
  by_cases hp4:pad=4
  ·subst hp4;have e0:D2 (cF t key false) (cF t key true) s mode 4 back iv msg=if msg.length%k6 s mode=0 then ((f7 (cF t key false) (cF t key true) s mode back ⟨iv,[],[]⟩ msg).1,0)else ([],7):=by unfold D2;rw[if_neg hm7,if_pos rfl]
   by_cases hg:m%k6 s mode=0
   ·rw[hmm,if_pos hg]at e0;have hl:(f7 (cF t key false) (cF t key true) s mode back ⟨iv,[],[]⟩ msg).1.length=m:=by rw[H9 hci K0.ok (by rw[hmm];exact hg),hmm]
    exact pB e0 hl (IC h rfl rfl rfl hm6 o4 hmm hmb hg)
   ·rw[hmm,if_neg hg]at e0;exact mz e0 (IA h rfl rfl rfl o4 hmm hmb hm6 hg)
  ·have hm2:1<=mode/\mode<=2:=by omega
   have hp3:pad=1\/pad=2\/pad=3:=by omega
   cases back
   ·have e0:D2 (cF t key false) (cF t key true) s mode pad false iv msg=((f7 (cF t key false) (cF t key true) s mode false ⟨iv,[],[]⟩ (K9 pad s msg)).1,0):=by unfold D2;rw[if_neg hm7,if_neg hp4,if_pos rfl]
    have lU:(K9 pad s msg).length=m/s*s+s:=by rw[uc (by omega),hmm]
    have hg:(K9 pad s msg).length%k6 s mode=0:=by
     rw[lU];unfold k6;rw[if_pos (by omega),Nat.add_mod_right,Nat.mul_mod_left]
    have hl:(f7 (cF t key false) (cF t key true) s mode false ⟨iv,[],[]⟩ (K9 pad s msg)).1.length=m/s*s+s:=by rw[H9 hci K0.ok hg,lU]
    exact pB e0 hl (ID h rfl rfl rfl o4 hmm hmb hm2 hp3)
   ·by_cases h0:m=0\/m%s≠0
    ·have e0:D2 (cF t key false) (cF t key true) s mode pad true iv msg=([],7):=by unfold D2;rw[if_neg hm7,if_neg hp4,if_neg (by decide),hmm,if_pos h0]
     by_cases hz:m=0
     ·exact mz e0 (Ix h rfl rfl rfl o4 hmm hmb hm2 hp3 hz)
     ·exact mz e0 (Iy h rfl rfl rfl o4 hmm hmb hm2 hp3 (h0.resolve_left hz))
    ·have hpos:0<m:=by omega
     have hz:m%s=0:=Classical.byContradiction fun x=>h0 (.inr x);have hsm:s<=m:=Nat.le_of_dvd hpos (Nat.dvd_of_mod_eq_zero hz);have hg:m%k6 s mode=0:=by unfold k6;rw[if_pos (by omega)];exact hz
     have lo:(f7 (cF t key false) (cF t key true) s mode true ⟨iv,[],[]⟩ msg).1.length=m:=by rw[H9 hci K0.ok (by rw[hmm];exact hg),hmm]
     have e0:D2 (cF t key false) (cF t key true) s mode pad true iv msg=if C3 pad ((f7 (cF t key false) (cF t key true) s mode true ⟨iv,[],[]⟩ msg).1.drop (m-s))=0 then ([],8)else ((f7 (cF t key false) (cF t key true) s mode true ⟨iv,[],[]⟩ msg).1.take (m-s)++S4 pad ((f7 (cF t key false) (cF t key true) s mode true ⟨iv,[],[]⟩ msg).1.drop (m-s)),0):=by
      unfold D2;rw[if_neg hm7,if_neg hp4,if_neg (by decide),hmm,if_neg h0];simp only[lo]
     by_cases hL:C3 pad ((f7 (cF t key false) (cF t key true) s mode true ⟨iv,[],[]⟩ msg).1.drop (m-s))=0
     ·rw[if_pos hL]at e0;exact mz e0 (Iz h rfl rfl rfl o4 hmm hmb hm2 hp3 hpos hz hL)
     ·rw[if_neg hL]at e0;have P:=IB h (vk:=bv key) (vi:=bv iv) (vm:=bv msg) rfl rfl rfl o4 hmm hmb hm2 hp3 hpos hz hL;have hle:=ue pad ((f7 (cF t key false) (cF t key true) s mode true ⟨iv,[],[]⟩ msg).1.drop (m-s));refine pB e0 ?_ P;rw[Zb];unfold S4;rw[Zd,Zd,Ze,lo];rw[Ze,lo]at hle;omega
theorem Iw {t key s k xs rs} (h:g9 t key s k xs rs) {mode pad:Int} {back:Bool} {lk li m:Nat} {iv msg:Bs} {vk vi vm:List Value} (hvk:vk=bv key) (hvi:vi=bv iv) (hvm:vm=bv msg) (hk:key.length=lk) (hi:iv.length=li) (hm:msg.length=m) (hmb:m<=100000) (ok:D1 s mode pad iv):
  a7 C 16 [C6 t mode pad back,.z lk vk,.z li vi,.z m vm] [] (.ret (bA (D2 (cF t key false) (cF t key true) s mode pad back iv msg))) []:=by
 subst hvk;subst hvi;subst hvm;subst hk;subst hi;exact Wh h ok hm hmb
theorem Qn:(D2 (cF 3 (Zf 16 0) false) (cF 3 (Zf 16 0) true) 8 8 4 false (Zf 8 0) [104,101,108,108,111,44,32,116,104,101,114,101]).1≠[104,101,108,108,111,44,32,116,104,101,114,101]:=by decide +kernel
theorem Is {t key s k xs rs} (h:g9 t key s k xs rs) {mode pad:Int} {back:Bool} {lk li m:Nat} {iv b:Bs} (hk:key.length=lk) (hlk:lk<=1000) (hi:iv.length=li) (hb:b.length=m) (hm:m<=1000) (ok:D1 s mode pad iv):
  a7 C 49 [C6 t mode pad back,.z lk (bv key),.z li (bv iv),.zz 1 1 [.z m (bv b)]] [] (.ret (bA (D2 (cF t key false) (cF t key true) s mode pad back iv b))) []:=by
 have hs:=h.s_le;subst hb;have hf:([b]:List (Bs)).flatten=b:=by simp
 obtain⟨r,hr⟩:∃r,r=jk (cF t key false) (cF t key true) s mode pad back (cS t key s mode pad back iv [b].flatten) (cL t key s mode pad back iv [b].flatten) (l4 s mode pad back [b].flatten):=⟨_,rfl⟩;have S:=Iu h hk hlk hi ok (ps:=[b]) (by rw[hf];omega) (show 1<=100000 by decide) hr;rw[hf]at hr;obtain⟨e1,e2⟩:=xZ (M:=b) h.ci (by omega) ok hr;rw[hf]at S;rw[e1];exact S
theorem a0y:a7 C 10 [] [] (.ret (bool true)) []:=by
 obtain⟨z,hz⟩:∃z:Bs,z=Zf 16 0:=⟨_,rfl⟩;obtain⟨z8,hz8⟩:∃z:Bs,z=Zf 8 0:=⟨_,rfl⟩;obtain⟨M,hM⟩:∃M:Bs,M=[104,101,108,108,111,44,32,116,104,101,114,101]:=⟨_,rfl⟩;have lz:z.length=16:=by rw[hz];rfl
 have lz8:z8.length=8:=by rw[hz8];rfl
 have lM:M.length=12:=by rw[hM];rfl
 obtain⟨k,xs,rs,h⟩:=xN lz;have ok:D1 8 8 4 z8:=⟨by decide,by decide,.inl rfl,by rw[lz8];rfl⟩;have fine:jW 8 8 4 M:=by unfold jW;rw[lM];omega
 obtain⟨p1,p2⟩:=Bh (m:=M) h.ci (by omega) ok fine;have inv:=We (m:=M) h.ci (by omega) (by omega) ok fine;have ne:(D2 (cF 3 z false) (cF 3 z true) 8 8 4 false z8 M).1≠M:=by rw[hz,hz8,hM];exact Qn
 have P:=Iw h (back:=false) (vk:=bv z) (vi:=bv z8) (vm:=bv M) rfl rfl rfl lz lz8 lM (by omega) ok;rw[if_pos rfl,lM]at p2;obtain⟨X,hX⟩:∃X,(D2 (cF 3 z false) (cF 3 z true) 8 8 4 false z8 M).1=X:=⟨_,rfl⟩;have hP:D2 (cF 3 z false) (cF 3 z true) 8 8 4 false z8 M=(X,0):=Prod.ext hX p1;rw[hX]at p2 inv ne;rw[hP]at P;have S:=Is h (back:=true) (b:=X) lz (by omega) lz8 p2 (by omega) ok;rw[inv]at S;have P:a7 C 16 [C6 3 8 4 false,.z 16 (bv z),.z 8 (bv z8),.z 12 (bv M)] [] (.ret (.t [.z 12 (bv X),i64 0])) []:=by
  have:bA (X,0)= .t [.z 12 (bv X),i64 0]:=by show V.t [V.z X.length _,_]=_;rw[p2]
  rw[<-this];exact P
 have S:a7 C 49 [C6 3 8 4 true,.z 16 (bv z),.z 8 (bv z8),.zz 1 1 [.z 12 (bv X)]] [] (.ret (.t [.z 12 (bv M),i64 0])) []:=by
  have:bA (M,0)= .t [.z 12 (bv M),i64 0]:=by show V.t [V.z M.length _,_]=_;rw[lM]
  rw[<-this];exact S
 have CS:a7 C 50 [i64 7] [] (.ret (i64 16)) []:=bU (t:=7) (by unfold q6;omega);refine OP.c ?_;refine⟨Za rfl,?_⟩;refine⟨_,rfl,rfl,?_⟩;refine⟨by decide,by decide,by decide,?_⟩;refine⟨by decide,by decide,by decide,?_⟩;refine⟨[],_,_,_,_,P,?_,rfl,?_⟩
 ·rw[hz,hz8,hM];rfl
 refine⟨Za rfl,?_⟩;refine⟨_,rfl,rfl,?_⟩;refine⟨by decide,by decide,by decide,?_⟩;refine⟨by decide,by decide,by decide,?_⟩;refine⟨[],_,_,_,_,S,?_,rfl,?_⟩
 ·rw[hz,hz8];rfl
 refine⟨by rw[f9,lM],M,rfl,?_⟩;refine bC (by rw[hM];exact beq_self_eq_true _) ?_;refine⟨by rw[f9,p2],X,rfl,?_⟩;refine⟨by rw[f9,lM],M,rfl,?_⟩;refine bC (by show(!((bs X).toList==(bs M).toList))=true;rw[BC,decide_eq_false ne];rfl) ?_;refine⟨[],_,_,_,_,wG,rfl,rfl,?_⟩;refine⟨[],_,_,_,_,CS,rfl,rfl,?_⟩;exact⟨_,rfl,[],rfl,tq⟩
end Go.Scr
