/-
  What the functions of the given program reckon, each by a contract, up to the law. It is no claim by itself; each contract bears its own conditions.
-/
import Derived.Test.YthhlfpbfdkogfaaGreatDoorY3
set_option linter.unusedVariables false
set_option linter.unusedSimpArgs false
set_option maxRecDepth 100000
namespace Go.Scr
open Go.Proofs
open Nat renaming le_of_ble_eq_true → Za, mul_one → Zd, le_refl → Ze, mul_le_mul_left → Zl, zero_add → Zm, zero_le → Zp, le_trans → Zr, sub_succ_lt_self → Zt, le_of_not_lt → Zu, mul_succ → Zw, mod_self → Zx, le_antisymm → Zz, mod_lt → Z0, eq_zero_of_not_pos → Z5
open List renaming length_append → Zb, eq_nil_of_length_eq_zero → Zg, length_drop → Zh, length_take → Zi, map_append → Zk, length_map → Zo, replicate → Zq, nil_append → Zs, flatten_append → Zv, flatten_singleton → Zy, take_zero → Z1, map → Z2, take_nil → Z3, getElem?_eq_getElem → Z4, take_of_length_le → Z6, append_eq_nil_iff → Z7, take_append_drop → Z8, drop_nil → Ja
open IntWalk renaming i64_in → Zc
open Int renaming toNat_natCast → Zf, tmod_eq_emod_of_nonneg → Zj, tdiv_eq_ediv_of_nonneg → Zn
open Prod renaming fst → Z9
open Go.IntKind renaming i64 → I6
theorem Iv {t key s k xs rs} (h:i6 t key s k xs rs) {mode pad md:Int} {back:Bool} {iv a8 H:Bs} {st:MS} {m:Nat} (hb:back=true) (hH:H.length=m) (hmb:m<=100000) (hms:m≠s) (hm:mode<=6) (hp:pad=1\/pad=2\/pad=3):
  a7 C 98 [.p (.k 0) 0,.z m (bv H)] [k9 false t mode pad back k xs iv .n a8,f6 (b9 t k xs) md back st 2,g9 st.row st.gone] (.pan (.i ak (i64 7))) [k9 false t mode pad back k xs iv .n a8,f6 (b9 t k xs) md back st 2,g9 st.row st.gone]:=by
 subst hb;have S:=cO (t:=t) (mode:=mode) (pad:=pad) (md:=md) (op:=false) (back:=true) (k:=k) (xs:=xs) (iv:=iv) (a8:=a8) (st:=st) (by omega);obtain⟨ch,row,g⟩:=st;rcases row with _|⟨a,r⟩;all_goals
  refine fb.c ?_;refine⟨_,rfl,?_⟩;refine⟨[],_,_,_,_,h.size,rfl,rfl,?_⟩;refine⟨[.k 0,.k 1,.k 2],_,_,_,_,S,rfl,rfl,?_⟩;refine c9 (fun h7=>absurd h7 (by omega)) (fun h7=> ?_);refine⟨_,rfl,?_⟩;refine j7 (fun hh=>absurd hh (by omega)) (fun _=> ?_);refine⟨_,rfl,?_⟩;refine o9 (fun _=> ?_) (fun hh=>absurd hh (by omega));refine⟨[],_,_,_,_,pb (e:=7) (by decide),rfl,rfl,?_⟩;exact⟨_,rfl,[.k 0,.k 1,.k 2],rfl,⟨_,rfl,rfl⟩,⟨_,rfl,rfl⟩,⟨_,rfl,rfl⟩,tq⟩
theorem Ak {s:Nat} {mode:Int} {back:Bool} {b o a8:Bs} (hm:mode<=6):C1 s mode back b o a8=a8:=by unfold C1;rw[if_neg (by omega)]
theorem Iw {t key s k xs rs} (h:i6 t key s k xs rs) {mode pad md:Int} {back:Bool} {iv a8 H:Bs} {st:MS} {m:Nat} (hb:back=true) (hH:H.length=s) (K:MK s md st) (hm:mode<=6) (hp:pad=1\/pad=2\/pad=3) (hgr:k7 s md=s) (h0:E7 pad (f7 (cF t key false) (cF t key true) s md back st H).1=0):
  a7 C 98 [.p (.k 0) 0,.z s (bv H)] [k9 false t mode pad back k xs iv .n a8,f6 (b9 t k xs) md back st 2,g9 st.row st.gone] (.pan (.i ak (i64 8)))
   [k9 false t mode pad back k xs iv .n a8,f6 (b9 t k xs) md back (f7 (cF t key false) (cF t key true) s md back st H).2 3,.dead,g9 (f7 (cF t key false) (cF t key true) s md back st H).2.row (f7 (cF t key false) (cF t key true) s md back st H).2.gone]:=by
 subst hb;have hs:=h.s_le;have lo:(f7 (cF t key false) (cF t key true) s md true st H).1.length=s:=by rw[I3 h.ci K.ok (by rw[hH,hgr,Zx]),hH]
 have PA:=zF (vb:=bv (f7 (cF t key false) (cF t key true) s md true st H).1) rfl hp h.s_two lo h0;have S:=cO (t:=t) (mode:=mode) (pad:=pad) (md:=md) (op:=false) (back:=true) (k:=k) (xs:=xs) (iv:=iv) (a8:=a8) (st:=st) (by omega);have TU:=oO h (op:=false) (back:=true) (pad:=pad) (iv:=iv) (a8:=a8) (b:=H) hH (by omega) K (mode:=mode) (by omega) (by rw[hgr,Zx]) (.inl (by omega));rw[Ak hm]at TU;generalize f7 (cF t key false) (cF t key true) s md true st H=S0 at*
 obtain⟨o,c1,row1,g1⟩:=S0;obtain⟨ch,row,g⟩:=st;rcases row with _|⟨a,r⟩<;>rcases row1 with _|⟨a1,r1⟩;all_goals
  refine fb.c ?_;refine⟨_,rfl,?_⟩;refine⟨[],_,_,_,_,h.size,rfl,rfl,?_⟩;refine⟨[.k 0,.k 1,.k 2],_,_,_,_,S,rfl,rfl,?_⟩;refine c9 (fun h7=>absurd h7 (by omega)) (fun h7=> ?_);refine⟨_,rfl,?_⟩;refine j7 (fun hh=>absurd hh (by omega)) (fun _=> ?_);refine⟨_,rfl,?_⟩;refine o9 (fun hh=>absurd rfl hh) (fun _=> ?_);refine⟨_,rfl,?_⟩;refine⟨[.k 0,.k 1,.k 2],_,_,_,_,TU,rfl,rfl,?_⟩;refine P2 rfl ?_;refine P2 (D0 rfl rfl rfl) ?_;refine⟨[],_,_,_,_,PA,rfl,rfl,?_⟩;refine⟨[],_,_,_,_,pb (e:=8) (by decide),rfl,rfl,?_⟩;exact⟨_,rfl,[.k 0,.k 1,.k 2,.d 90 3],rfl,⟨_,rfl,rfl⟩,⟨_,rfl,rfl⟩,⟨_,rfl,rfl⟩,⟨_,rfl,rfl⟩,tq⟩
theorem Ix {t key s k xs rs} (h:i6 t key s k xs rs) {mode pad md:Int} {back:Bool} {iv a8 H:Bs} {st:MS} {m:Nat} (hb:back=true) (hH:H.length=s) (K:MK s md st) (hm:mode<=6) (hp:pad=1\/pad=2\/pad=3) (hgr:k7 s md=s) (h0:E7 pad (f7 (cF t key false) (cF t key true) s md back st H).1≠0):
  a7 C 98 [.p (.k 0) 0,.z s (bv H)] [k9 false t mode pad back k xs iv .n a8,f6 (b9 t k xs) md back st 2,g9 st.row st.gone] (.ret (.z (s-E7 pad (f7 (cF t key false) (cF t key true) s md back st H).1) (bv (U7 pad (f7 (cF t key false) (cF t key true) s md back st H).1))))
   [k9 false t mode pad back k xs iv .n a8,f6 (b9 t k xs) md back (f7 (cF t key false) (cF t key true) s md back st H).2 3,.dead,g9 (f7 (cF t key false) (cF t key true) s md back st H).2.row (f7 (cF t key false) (cF t key true) s md back st H).2.gone]:=by
 subst hb;have hs:=h.s_le;have lo:(f7 (cF t key false) (cF t key true) s md true st H).1.length=s:=by rw[I3 h.ci K.ok (by rw[hH,hgr,Zx]),hH]
 have PA:=zE (vb:=bv (f7 (cF t key false) (cF t key true) s md true st H).1) rfl hp h.s_two lo h0;have S:=cO (t:=t) (mode:=mode) (pad:=pad) (md:=md) (op:=false) (back:=true) (k:=k) (xs:=xs) (iv:=iv) (a8:=a8) (st:=st) (by omega);have TU:=oO h (op:=false) (back:=true) (pad:=pad) (iv:=iv) (a8:=a8) (b:=H) hH (by omega) K (mode:=mode) (by omega) (by rw[hgr,Zx]) (.inl (by omega));rw[Ak hm]at TU;generalize f7 (cF t key false) (cF t key true) s md true st H=S0 at*
 obtain⟨o,c1,row1,g1⟩:=S0;obtain⟨ch,row,g⟩:=st;rcases row with _|⟨a,r⟩<;>rcases row1 with _|⟨a1,r1⟩;all_goals
  refine fb.c ?_;refine⟨_,rfl,?_⟩;refine⟨[],_,_,_,_,h.size,rfl,rfl,?_⟩;refine⟨[.k 0,.k 1,.k 2],_,_,_,_,S,rfl,rfl,?_⟩;refine c9 (fun h7=>absurd h7 (by omega)) (fun h7=> ?_);refine⟨_,rfl,?_⟩;refine j7 (fun hh=>absurd hh (by omega)) (fun _=> ?_);refine⟨_,rfl,?_⟩;refine o9 (fun hh=>absurd rfl hh) (fun _=> ?_);refine⟨_,rfl,?_⟩;refine⟨[.k 0,.k 1,.k 2],_,_,_,_,TU,rfl,rfl,?_⟩;refine P2 rfl ?_;refine P2 (D0 rfl rfl rfl) ?_;refine⟨[],_,_,_,_,PA,rfl,rfl,?_⟩;refine⟨[],_,_,_,_,bU,rfl,rfl,?_⟩;exact⟨_,rfl,[.k 0,.k 1,.k 2,.d 90 3],rfl,⟨_,rfl,rfl⟩,⟨_,rfl,rfl⟩,⟨_,rfl,rfl⟩,⟨_,rfl,rfl⟩,tq⟩
theorem II {t mode pad md:Int} {back:Bool} {k m n:Nat} {e:Int} {xs:List V} {iv a8 H4 H:Bs} {st st':MS} {x:HK} {vr:List Value} (hx:x= .n/\m=0/\H=[]\/x= .o H/\H.length=m)
  (E:a7 C 98 [.p (.k 0) 0,.z m (bv H)] [k9 false t mode pad back k xs iv .n a8,f6 (b9 t k xs) md back st 2,g9 st.row st.gone] (.ret (.z n vr)) [k9 false t mode pad back k xs iv .n H4,f6 (b9 t k xs) md back st' 3,.dead,g9 st'.row st'.gone]):
  a7 C 34 [.p (.k 0) 0] [k9 true t mode pad back k xs iv x a8,f6 (b9 t k xs) md back st 2,g9 st.row st.gone,x.b] (.ret (.t [.z n vr,i64 0])) [k9 false t mode pad back k xs iv .n H4,f6 (b9 t k xs) md back st' 4,.dead,.dead,g9 st'.row st'.gone]:=by
 have NE:=fZ (t:=t) (mode:=mode) (pad:=pad) (md:=md) (back:=back) (k:=k) (xs:=xs) (iv:=iv) (a8:=a8) (st:=st) (x:=x);obtain⟨ch,row,g⟩:=st;obtain⟨ch1,row1,g1⟩:=st';rcases hx with ⟨rfl,rfl,rfl⟩|⟨rfl,hH⟩
 ·rcases row with _|⟨a,r⟩<;>rcases row1 with _|⟨a1,r1⟩;all_goals
   refine gu.d V7 ?_;refine⟨⟨[(0,.p (.k 0) 0),(2,.p (.k 4) 0),(3,.p (.k 5) 0)],[_,_,_,_,.sc [.slice none 0 0],.sc [.int .i64 0]]⟩,4,5,by decide,⟨[.k 0,.k 1,.k 2,.k 3,.d 2 0,.d 3 0],⟨rfl,rfl,rfl,tq⟩,⟨_,rfl,rfl⟩,⟨_,rfl,rfl⟩,⟨_,rfl,rfl⟩,⟨_,rfl,rfl⟩,⟨_,rfl,rfl⟩,⟨_,rfl,rfl⟩,tq⟩,rfl,rfl,rfl,?_⟩;refine⟨[.k 0,.k 1,.k 2,.k 3],_,_,_,_,NE,rfl,rfl,?_⟩;refine⟨_,rfl,?_⟩;refine⟨Za rfl,?_⟩;refine⟨Za rfl,?_⟩;refine⟨[.k 0,.k 1,.k 2],_,_,_,_,a7.args E (ys0:=[.p (.k 0) 0,g8]) (.cons (.refl _) (.cons .nl .nil)),rfl,rfl,?_⟩;refine⟨Za rfl,?_⟩;refine⟨Za rfl,?_⟩;refine⟨_,rfl,_,rfl,?_⟩;refine⟨_,_,?_,.ret (.refl _),F4.refl _⟩;exact⟨_,rfl,[.k 0,.k 1,.k 2,.k 3,.d 19 3],rfl,⟨_,rfl,rfl⟩,⟨_,rfl,rfl⟩,⟨_,rfl,rfl⟩,⟨_,rfl,rfl⟩,⟨_,rfl,rfl⟩,tq⟩
 ·rcases row with _|⟨a,r⟩<;>rcases row1 with _|⟨a1,r1⟩;all_goals
   refine gu.d V7 ?_;refine⟨⟨[(0,.p (.k 0) 0),(2,.p (.k 4) 0),(3,.p (.k 5) 0)],[_,_,_,_,.sc [.slice none 0 0],.sc [.int .i64 0]]⟩,4,5,by decide,⟨[.k 0,.k 1,.k 2,.k 3,.d 2 0,.d 3 0],⟨rfl,rfl,rfl,tq⟩,⟨_,rfl,rfl⟩,⟨_,rfl,rfl⟩,⟨_,rfl,rfl⟩,⟨_,rfl,rfl⟩,⟨_,rfl,rfl⟩,⟨_,rfl,rfl⟩,tq⟩,rfl,rfl,rfl,?_⟩;refine⟨[.k 0,.k 1,.k 2,.k 3],_,_,_,_,NE,rfl,rfl,?_⟩;refine⟨_,rfl,?_⟩;refine⟨Za rfl,?_⟩;refine⟨Za rfl,?_⟩;refine⟨[.k 0,.k 1,.k 2],_,_,_,_,E,?_,rfl,?_⟩
   ·show[V.p (.k 0) 0,V.z H.length (sub (bv H) 0 H.length)]=_;rw[b8 rfl,hH]
   refine⟨Za rfl,?_⟩;refine⟨Za rfl,?_⟩;refine⟨_,rfl,_,rfl,?_⟩;refine⟨_,_,?_,.ret (.refl _),F4.refl _⟩;exact⟨_,rfl,[.k 0,.k 1,.k 2,.k 3,.d 19 3],rfl,⟨_,rfl,rfl⟩,⟨_,rfl,rfl⟩,⟨_,rfl,rfl⟩,⟨_,rfl,rfl⟩,⟨_,rfl,rfl⟩,tq⟩
theorem IH {t mode pad md:Int} {back:Bool} {k m n:Nat} {e:Int} {xs:List V} {iv a8 H4 H:Bs} {st st':MS} {x:HK} {vr:List Value} (hx:x= .n/\m=0/\H=[]\/x= .o H/\H.length=m)
  (E:a7 C 98 [.p (.k 0) 0,.z m (bv H)] [k9 false t mode pad back k xs iv .n a8,f6 (b9 t k xs) md back st 2,g9 st.row st.gone] (.pan (.i ak (i64 e))) [k9 false t mode pad back k xs iv .n H4,f6 (b9 t k xs) md back st' 3,.dead,g9 st'.row st'.gone]):
  a7 C 34 [.p (.k 0) 0] [k9 true t mode pad back k xs iv x a8,f6 (b9 t k xs) md back st 2,g9 st.row st.gone,x.b] (.ret (.t [.z 0 [],i64 e])) [k9 false t mode pad back k xs iv .n H4,f6 (b9 t k xs) md back st' 4,.dead,.dead,g9 st'.row st'.gone]:=by
 have NE:=fZ (t:=t) (mode:=mode) (pad:=pad) (md:=md) (back:=back) (k:=k) (xs:=xs) (iv:=iv) (a8:=a8) (st:=st) (x:=x);obtain⟨ch,row,g⟩:=st;obtain⟨ch1,row1,g1⟩:=st';rcases hx with ⟨rfl,rfl,rfl⟩|⟨rfl,hH⟩
 ·rcases row with _|⟨a,r⟩<;>rcases row1 with _|⟨a1,r1⟩;all_goals
   refine gu.d V7 ?_;refine⟨⟨[(0,.p (.k 0) 0),(2,.p (.k 4) 0),(3,.p (.k 5) 0)],[_,_,_,_,.sc [.slice none 0 0],.sc [.int .i64 0]]⟩,4,5,by decide,⟨[.k 0,.k 1,.k 2,.k 3,.d 2 0,.d 3 0],⟨rfl,rfl,rfl,tq⟩,⟨_,rfl,rfl⟩,⟨_,rfl,rfl⟩,⟨_,rfl,rfl⟩,⟨_,rfl,rfl⟩,⟨_,rfl,rfl⟩,⟨_,rfl,rfl⟩,tq⟩,rfl,rfl,rfl,?_⟩;refine⟨[.k 0,.k 1,.k 2,.k 3],_,_,_,_,NE,rfl,rfl,?_⟩;refine⟨_,rfl,?_⟩;refine⟨Za rfl,?_⟩;refine⟨Za rfl,?_⟩;refine⟨[.k 0,.k 1,.k 2],_,_,_,_,a7.args E (ys0:=[.p (.k 0) 0,g8]) (.cons (.refl _) (.cons .nl .nil)),rfl,rfl,?_⟩;refine⟨_,rfl,_,rfl,?_⟩;refine⟨_,_,?_,.ret (.t (.cons .nl (.cons (.refl _) .nil))),F4.refl _⟩;exact⟨_,rfl,[.k 0,.k 1,.k 2,.k 3,.d 19 3],rfl,⟨_,rfl,rfl⟩,⟨_,rfl,rfl⟩,⟨_,rfl,rfl⟩,⟨_,rfl,rfl⟩,⟨_,rfl,rfl⟩,tq⟩
 ·rcases row with _|⟨a,r⟩<;>rcases row1 with _|⟨a1,r1⟩;all_goals
   refine gu.d V7 ?_;refine⟨⟨[(0,.p (.k 0) 0),(2,.p (.k 4) 0),(3,.p (.k 5) 0)],[_,_,_,_,.sc [.slice none 0 0],.sc [.int .i64 0]]⟩,4,5,by decide,⟨[.k 0,.k 1,.k 2,.k 3,.d 2 0,.d 3 0],⟨rfl,rfl,rfl,tq⟩,⟨_,rfl,rfl⟩,⟨_,rfl,rfl⟩,⟨_,rfl,rfl⟩,⟨_,rfl,rfl⟩,⟨_,rfl,rfl⟩,⟨_,rfl,rfl⟩,tq⟩,rfl,rfl,rfl,?_⟩;refine⟨[.k 0,.k 1,.k 2,.k 3],_,_,_,_,NE,rfl,rfl,?_⟩;refine⟨_,rfl,?_⟩;refine⟨Za rfl,?_⟩;refine⟨Za rfl,?_⟩;refine⟨[.k 0,.k 1,.k 2],_,_,_,_,E,?_,rfl,?_⟩
   ·show[V.p (.k 0) 0,V.z H.length (sub (bv H) 0 H.length)]=_;rw[b8 rfl,hH]
   refine⟨_,rfl,_,rfl,?_⟩;refine⟨_,_,?_,.ret (.t (.cons .nl (.cons (.refl _) .nil))),F4.refl _⟩;exact⟨_,rfl,[.k 0,.k 1,.k 2,.k 3,.d 19 3],rfl,⟨_,rfl,rfl⟩,⟨_,rfl,rfl⟩,⟨_,rfl,rfl⟩,⟨_,rfl,rfl⟩,⟨_,rfl,rfl⟩,tq⟩
theorem IG {t mode pad md:Int} {back:Bool} {k m n:Nat} {e:Int} {xs:List V} {iv a8 H4 H:Bs} {st st':MS} {x:HK} {vr:List Value} (hx:x= .n/\m=0/\H=[]\/x= .o H/\H.length=m)
  (E:a7 C 98 [.p (.k 0) 0,.z m (bv H)] [k9 false t mode pad back k xs iv .n a8,f6 (b9 t k xs) md back st 2,g9 st.row st.gone] (.ret (.z n vr)) [k9 false t mode pad back k xs iv .n H4,f6 (b9 t k xs) md back st' 2,g9 st'.row st'.gone]):
  a7 C 34 [.p (.k 0) 0] [k9 true t mode pad back k xs iv x a8,f6 (b9 t k xs) md back st 2,g9 st.row st.gone,x.b] (.ret (.t [.z n vr,i64 0])) [k9 false t mode pad back k xs iv .n H4,f6 (b9 t k xs) md back st' 2,g9 st'.row st'.gone,.dead]:=by
 have NE:=fZ (t:=t) (mode:=mode) (pad:=pad) (md:=md) (back:=back) (k:=k) (xs:=xs) (iv:=iv) (a8:=a8) (st:=st) (x:=x);obtain⟨ch,row,g⟩:=st;obtain⟨ch1,row1,g1⟩:=st';rcases hx with ⟨rfl,rfl,rfl⟩|⟨rfl,hH⟩
 ·rcases row with _|⟨a,r⟩<;>rcases row1 with _|⟨a1,r1⟩;all_goals
   refine gu.d V7 ?_;refine⟨⟨[(0,.p (.k 0) 0),(2,.p (.k 4) 0),(3,.p (.k 5) 0)],[_,_,_,_,.sc [.slice none 0 0],.sc [.int .i64 0]]⟩,4,5,by decide,⟨[.k 0,.k 1,.k 2,.k 3,.d 2 0,.d 3 0],⟨rfl,rfl,rfl,tq⟩,⟨_,rfl,rfl⟩,⟨_,rfl,rfl⟩,⟨_,rfl,rfl⟩,⟨_,rfl,rfl⟩,⟨_,rfl,rfl⟩,⟨_,rfl,rfl⟩,tq⟩,rfl,rfl,rfl,?_⟩;refine⟨[.k 0,.k 1,.k 2,.k 3],_,_,_,_,NE,rfl,rfl,?_⟩;refine⟨_,rfl,?_⟩;refine⟨Za rfl,?_⟩;refine⟨Za rfl,?_⟩;refine⟨[.k 0,.k 1,.k 2],_,_,_,_,a7.args E (ys0:=[.p (.k 0) 0,g8]) (.cons (.refl _) (.cons .nl .nil)),rfl,rfl,?_⟩;refine⟨Za rfl,?_⟩;refine⟨Za rfl,?_⟩;refine⟨_,rfl,_,rfl,?_⟩;refine⟨_,_,?_,.ret (.refl _),F4.refl _⟩;exact⟨_,rfl,[.k 0,.k 1,.k 2,.k 3],rfl,⟨_,rfl,rfl⟩,⟨_,rfl,rfl⟩,⟨_,rfl,rfl⟩,⟨_,rfl,rfl⟩,tq⟩
 ·rcases row with _|⟨a,r⟩<;>rcases row1 with _|⟨a1,r1⟩;all_goals
   refine gu.d V7 ?_;refine⟨⟨[(0,.p (.k 0) 0),(2,.p (.k 4) 0),(3,.p (.k 5) 0)],[_,_,_,_,.sc [.slice none 0 0],.sc [.int .i64 0]]⟩,4,5,by decide,⟨[.k 0,.k 1,.k 2,.k 3,.d 2 0,.d 3 0],⟨rfl,rfl,rfl,tq⟩,⟨_,rfl,rfl⟩,⟨_,rfl,rfl⟩,⟨_,rfl,rfl⟩,⟨_,rfl,rfl⟩,⟨_,rfl,rfl⟩,⟨_,rfl,rfl⟩,tq⟩,rfl,rfl,rfl,?_⟩;refine⟨[.k 0,.k 1,.k 2,.k 3],_,_,_,_,NE,rfl,rfl,?_⟩;refine⟨_,rfl,?_⟩;refine⟨Za rfl,?_⟩;refine⟨Za rfl,?_⟩;refine⟨[.k 0,.k 1,.k 2],_,_,_,_,E,?_,rfl,?_⟩
   ·show[V.p (.k 0) 0,V.z H.length (sub (bv H) 0 H.length)]=_;rw[b8 rfl,hH]
   refine⟨Za rfl,?_⟩;refine⟨Za rfl,?_⟩;refine⟨_,rfl,_,rfl,?_⟩;refine⟨_,_,?_,.ret (.refl _),F4.refl _⟩;exact⟨_,rfl,[.k 0,.k 1,.k 2,.k 3],rfl,⟨_,rfl,rfl⟩,⟨_,rfl,rfl⟩,⟨_,rfl,rfl⟩,⟨_,rfl,rfl⟩,tq⟩
theorem IF {t mode pad md:Int} {back:Bool} {k m n:Nat} {e:Int} {xs:List V} {iv a8 H4 H:Bs} {st st':MS} {x:HK} {vr:List Value} (hx:x= .n/\m=0/\H=[]\/x= .o H/\H.length=m)
  (E:a7 C 98 [.p (.k 0) 0,.z m (bv H)] [k9 false t mode pad back k xs iv .n a8,f6 (b9 t k xs) md back st 2,g9 st.row st.gone] (.pan (.i ak (i64 e))) [k9 false t mode pad back k xs iv .n H4,f6 (b9 t k xs) md back st' 2,g9 st'.row st'.gone]):
  a7 C 34 [.p (.k 0) 0] [k9 true t mode pad back k xs iv x a8,f6 (b9 t k xs) md back st 2,g9 st.row st.gone,x.b] (.ret (.t [.z 0 [],i64 e])) [k9 false t mode pad back k xs iv .n H4,f6 (b9 t k xs) md back st' 2,g9 st'.row st'.gone,.dead]:=by
 have NE:=fZ (t:=t) (mode:=mode) (pad:=pad) (md:=md) (back:=back) (k:=k) (xs:=xs) (iv:=iv) (a8:=a8) (st:=st) (x:=x);obtain⟨ch,row,g⟩:=st;obtain⟨ch1,row1,g1⟩:=st';rcases hx with ⟨rfl,rfl,rfl⟩|⟨rfl,hH⟩
 ·rcases row with _|⟨a,r⟩<;>rcases row1 with _|⟨a1,r1⟩;all_goals
   refine gu.d V7 ?_;refine⟨⟨[(0,.p (.k 0) 0),(2,.p (.k 4) 0),(3,.p (.k 5) 0)],[_,_,_,_,.sc [.slice none 0 0],.sc [.int .i64 0]]⟩,4,5,by decide,⟨[.k 0,.k 1,.k 2,.k 3,.d 2 0,.d 3 0],⟨rfl,rfl,rfl,tq⟩,⟨_,rfl,rfl⟩,⟨_,rfl,rfl⟩,⟨_,rfl,rfl⟩,⟨_,rfl,rfl⟩,⟨_,rfl,rfl⟩,⟨_,rfl,rfl⟩,tq⟩,rfl,rfl,rfl,?_⟩;refine⟨[.k 0,.k 1,.k 2,.k 3],_,_,_,_,NE,rfl,rfl,?_⟩;refine⟨_,rfl,?_⟩;refine⟨Za rfl,?_⟩;refine⟨Za rfl,?_⟩;refine⟨[.k 0,.k 1,.k 2],_,_,_,_,a7.args E (ys0:=[.p (.k 0) 0,g8]) (.cons (.refl _) (.cons .nl .nil)),rfl,rfl,?_⟩;refine⟨_,rfl,_,rfl,?_⟩;refine⟨_,_,?_,.ret (.t (.cons .nl (.cons (.refl _) .nil))),F4.refl _⟩;exact⟨_,rfl,[.k 0,.k 1,.k 2,.k 3],rfl,⟨_,rfl,rfl⟩,⟨_,rfl,rfl⟩,⟨_,rfl,rfl⟩,⟨_,rfl,rfl⟩,tq⟩
 ·rcases row with _|⟨a,r⟩<;>rcases row1 with _|⟨a1,r1⟩;all_goals
   refine gu.d V7 ?_;refine⟨⟨[(0,.p (.k 0) 0),(2,.p (.k 4) 0),(3,.p (.k 5) 0)],[_,_,_,_,.sc [.slice none 0 0],.sc [.int .i64 0]]⟩,4,5,by decide,⟨[.k 0,.k 1,.k 2,.k 3,.d 2 0,.d 3 0],⟨rfl,rfl,rfl,tq⟩,⟨_,rfl,rfl⟩,⟨_,rfl,rfl⟩,⟨_,rfl,rfl⟩,⟨_,rfl,rfl⟩,⟨_,rfl,rfl⟩,⟨_,rfl,rfl⟩,tq⟩,rfl,rfl,rfl,?_⟩;refine⟨[.k 0,.k 1,.k 2,.k 3],_,_,_,_,NE,rfl,rfl,?_⟩;refine⟨_,rfl,?_⟩;refine⟨Za rfl,?_⟩;refine⟨Za rfl,?_⟩;refine⟨[.k 0,.k 1,.k 2],_,_,_,_,E,?_,rfl,?_⟩
   ·show[V.p (.k 0) 0,V.z H.length (sub (bv H) 0 H.length)]=_;rw[b8 rfl,hH]
   refine⟨_,rfl,_,rfl,?_⟩;refine⟨_,_,?_,.ret (.t (.cons .nl (.cons (.refl _) .nil))),F4.refl _⟩;exact⟨_,rfl,[.k 0,.k 1,.k 2,.k 3],rfl,⟨_,rfl,rfl⟩,⟨_,rfl,rfl⟩,⟨_,rfl,rfl⟩,⟨_,rfl,rfl⟩,tq⟩
abbrev cS (t:Int) (key:Bs) (s:Nat) (mode pad:Int) (back:Bool) (iv M:Bs):MS:=(A2 (cF t key false) (cF t key true) s mode pad back iv M).2
abbrev cT (t:Int) (key:Bs) (s:Nat) (mode pad:Int) (back:Bool) (iv M:Bs):Bs:=(A2 (cF t key false) (cF t key true) s mode pad back iv M).1
abbrev cL (t:Int) (key:Bs) (s:Nat) (mode pad:Int) (back:Bool) (iv M:Bs):Bs:=cR (cF t key false) (cF t key true) s mode pad back iv M
theorem sT {t key s k xs rs} (h:i6 t key s k xs rs) {mode pad:Int} {back:Bool} {iv M:Bs} (ok:C0 s mode pad iv):MK s (k6 mode) (cS t key s mode pad back iv M):=by
 have hs:=h.s_le;have K0:MK s (k6 mode) ⟨iv,[],[]⟩:=MK.new (dK ok).1 (by
  have:=(dK ok).2;by_cases h1:k6 mode=1
  ·exact .inl h1
  ·rw[if_neg h1]at this;exact .inr this)
 exact K0.step h.ci (by omega)
theorem HM {t key s k xs rs} (h:i6 t key s k xs rs) {mode pad:Int} {back:Bool} {iv M:Bs} (ok:C0 s mode pad iv) (h7:7<=mode):(cL t key s mode pad back iv M).length=s:=by
 have hs:=h.s_le;have hT:=gg (back:=back) (M:=M) h.ci (by omega) ok;obtain⟨f1,f2⟩:=bj (back:=back) (by omega) ok M.length;have lt:(M.take (q5 s mode pad back M.length)).length=q5 s mode pad back M.length:=by rw[Zi];omega
 unfold cL cR C1;rw[lt];by_cases hn:s<=q5 s mode pad back M.length
 ·rw[if_pos ⟨h7,hn⟩,Zh];split
  ·rw[lt];omega
  ·rw[hT];omega
 ·rw[if_neg (fun hh=>hn hh.2)];have:=ok.2.2.2;rw[if_neg (by omega)]at this;exact this
theorem jM {t key s} {mode pad:Int} {back:Bool} {iv:Bs} (hs:0<s) (ok:C0 s mode pad iv):A2 (cF t key false) (cF t key true) s mode pad back iv []=([],⟨iv,[],[]⟩):=by
 unfold A2;rw[Z3,qC]
theorem fY {t key s} {mode pad:Int} {back:Bool} {iv:Bs} (hs:0<s) (ok:C0 s mode pad iv):cS t key s mode pad back iv []=⟨iv,[],[]⟩:=congrArg Prod.snd (jM hs ok)
theorem mI {t key s} {mode pad:Int} {back:Bool} {iv:Bs} (hs:0<s) (ok:C0 s mode pad iv):cL t key s mode pad back iv []=iv:=by
 unfold cL cR C1;rw[Z3,if_neg (by simp;omega)]
theorem mS {s:Nat} {mode pad:Int} {back:Bool}:i9 s mode pad back []=[]:=by unfold i9;rw[Ja]
theorem Am {t key s k xs rs} (h:i6 t key s k xs rs) {mode pad:Int} {back:Bool} {iv M b:Bs} {m:Nat} {x:HK} (ok:C0 s mode pad iv) (hx:x= .n/\i9 s mode pad back M=[]\/x= .o (i9 s mode pad back M)) (hb:b.length=m) (hL:M.length+m<=100000):
  ∃(n:Nat) (o:Bs),o.length=n/\q5 s mode pad back (M++b).length=q5 s mode pad back M.length+n/\cT t key s mode pad back iv (M++b)=cT t key s mode pad back iv M++o/\
  (a7 C 33 [.p (.k 0) 0,.z m (bv b)] [k9 true t mode pad back k xs iv x (cL t key s mode pad back iv M),f6 (b9 t k xs) (k6 mode) back (cS t key s mode pad back iv M) 2,g9 (cS t key s mode pad back iv M).row (cS t key s mode pad back iv M).gone,x.b]
   (.ret (.t [.z n (bv o),i64 0]))
   [p9 true true t mode pad back (b9 t k xs) (.z iv.length (bv iv)) (.p (.k 1) 0) (.o 1 (.k 5) 0 (i9 s mode pad back (M++b)).length) (.z (cL t key s mode pad back iv (M++b)).length (bv (cL t key s mode pad back iv (M++b)))),
    f6 (b9 t k xs) (k6 mode) back (cS t key s mode pad back iv (M++b)) 4,.dead,.dead,g9 (cS t key s mode pad back iv (M++b)).row (cS t key s mode pad back iv (M++b)).gone,.sc (bv (i9 s mode pad back (M++b)))]\/
   (cS t key s mode pad back iv M).row≠[]/\a7 C 33 [.p (.k 0) 0,.z m (bv b)] [k9 true t mode pad back k xs iv x (cL t key s mode pad back iv M),f6 (b9 t k xs) (k6 mode) back (cS t key s mode pad back iv M) 2,g9 (cS t key s mode pad back iv M).row (cS t key s mode pad back iv M).gone,x.b]
   (.ret (.t [.z n (bv o),i64 0]))
   [p9 true true t mode pad back (b9 t k xs) (.z iv.length (bv iv)) (.p (.k 1) 0) (.o 1 (.k 4) 0 (i9 s mode pad back (M++b)).length) (.z (cL t key s mode pad back iv (M++b)).length (bv (cL t key s mode pad back iv (M++b)))),
    f6 (b9 t k xs) (k6 mode) back (cS t key s mode pad back iv (M++b)) 2,g9 (cS t key s mode pad back iv (M++b)).row (cS t key s mode pad back iv (M++b)).gone,.dead,.sc (bv (i9 s mode pad back (M++b)))]):=by
 have hs:=h.s_le;have K:=sT h (back:=back) (M:=M) ok;have hm9:mode<=9:=ok.1.2;have hxl:x.l=i9 s mode pad back M:=by
  rcases hx with ⟨rfl,e⟩|rfl
  ·exact e.symm
  ·rfl
 have hxo:x= .n\/∃H,x= .o H:=by
  rcases hx with ⟨rfl,e⟩|rfl
  ·exact .inl rfl
  ·exact .inr ⟨_,rfl⟩
 obtain⟨a,ha⟩:∃a,a=q5 s mode pad back ((i9 s mode pad back M).length+b.length):=⟨_,rfl⟩;obtain⟨u1,u2,u3⟩:=Ap (E:=cF t key false) (D:=cF t key true) (iv:=iv) (M:=M) (b:=b) h.ci (by omega) ok ha;have hF:q5 s mode pad back (M++b).length=q5 s mode pad back M.length+a:=by
  rw[Zb,tN (by omega) ok,ha,eV]
 obtain⟨f1,f2⟩:=bj (back:=back) (by omega) ok ((i9 s mode pad back M).length+b.length);rw[<-ha]at f1 f2;have hHl:=eV (n:=s) (mode:=mode) (pad:=pad) (back:=back) M;have l0:((i9 s mode pad back M++b).take a).length=a:=by rw[Zi,Zb];omega
 have lo:(f7 (cF t key false) (cF t key true) s (k6 mode) back (cS t key s mode pad back iv M) ((i9 s mode pad back M++b).take a)).1.length=a:=by
  rw[I3 h.ci K.ok (by rw[l0];exact f2),l0]
 have eH:(i9 s mode pad back M).length+m-a=(i9 s mode pad back (M++b)).length:=by rw[<-u3,Zh,Zb,hb]
 refine⟨a,(f7 (cF t key false) (cF t key true) s (k6 mode) back (cS t key s mode pad back iv M) ((i9 s mode pad back M++b).take a)).1,lo,hF,by rw[show cT t key s mode pad back iv (M++b)=(A2 (cF t key false) (cF t key true) s mode pad back iv (M++b)).1 from rfl,u1],?_⟩;have e1:cS t key s mode pad back iv (M++b)=(f7 (cF t key false) (cF t key true) s (k6 mode) back (cS t key s mode pad back iv M) ((i9 s mode pad back M++b).take a)).2:=by
  rw[show cS t key s mode pad back iv (M++b)=(A2 (cF t key false) (cF t key true) s mode pad back iv (M++b)).2 from rfl,u1]
 rw[e1,show cL t key s mode pad back iv (M++b)=cR (cF t key false) (cF t key true) s mode pad back iv (M++b) from rfl,<-u2,<-u3];by_cases hne:0<a\/(cS t key s mode pad back iv M).row=[]
 ·left;have:=IZ h (mode:=mode) (pad:=pad) (back:=back) (iv:=iv) (a8:=cL t key s mode pad back iv M) (st:=cS t key s mode pad back iv M) (x:=x) (L:=(i9 s mode pad back M).length+m) (at':=a) hxo hb (by rw[hxl]) (by omega) K hm9 rfl (by rw[ha,hb];rfl) hne;rw[hxl]at this;rw[Zh,Zb,hb];exact this
 ·right;have hrow:(cS t key s mode pad back iv M).row≠[]:=fun hh=>hne (.inr hh);have h3:3<=k6 mode:=by
   have h1:=K.ok.m;rcases Nat.lt_or_ge 0 1 with _|_
   ·by_cases h2:3<=k6 mode
    ·exact h2
    ·exact absurd (K.ok.blk (by omega)) hrow
   ·omega
  have g1:k7 s (k6 mode)=1:=if_neg (by omega);have a0:a=0:=by omega
  have hL0:(i9 s mode pad back M).length+m=0:=by
   have hz:q5 s mode pad back ((i9 s mode pad back M).length+b.length)=(i9 s mode pad back M).length+b.length:=by
    unfold q5 B6 y3;rw[g1,if_pos h3];simp
   rw[<-ha,hb]at hz;omega
  have:=JA h (mode:=mode) (pad:=pad) (back:=back) (iv:=iv) (a8:=cL t key s mode pad back iv M) (st:=cS t key s mode pad back iv M) (x:=x) (L:=(i9 s mode pad back M).length+m) (at':=a) hxo hb (by rw[hxl]) hL0 h3 K hm9 rfl (by rw[ha,hb];rfl);have hHb:i9 s mode pad back M++b=[]:=Zg (by rw[Zb,hb];exact hL0);subst a0;rw[hHb,Z3,qC,Ja];have eL:C1 s mode back [] [] (cL t key s mode pad back iv M)=cL t key s mode pad back iv M:=by unfold C1;rw[if_neg (by simp;omega)]
  rw[eL];exact⟨hrow,this⟩
abbrev eR (t mode pad:Int) (back:Bool) (k:Nat) (xs:List V) (iv a8:Bs):B:=p9 true false t mode pad back (b9 t k xs) (.z iv.length (bv iv)) (.p (.k 1) 0) g8 (.z a8.length (bv a8))
theorem ki {t key s k xs rs} (h:i6 t key s k xs rs) {mode pad:Int} {back:Bool} {iv M:Bs} {x:HK} {r:Bs×Int} (ok:C0 s mode pad iv) (hx:x= .n/\i9 s mode pad back M=[]\/x= .o (i9 s mode pad back M)) (hL:M.length<=100000)
  (hr:r=eU (cF t key false) (cF t key true) s mode pad back (cS t key s mode pad back iv M) (cL t key s mode pad back iv M) (i9 s mode pad back M)):
  r.1.length<=2*s/\∃H4,a7 C 34 [.p (.k 0) 0] [k9 true t mode pad back k xs iv x (cL t key s mode pad back iv M),f6 (b9 t k xs) (k6 mode) back (cS t key s mode pad back iv M) 2,g9 (cS t key s mode pad back iv M).row (cS t key s mode pad back iv M).gone,x.b]
   (.ret (.t [.z r.1.length (bv r.1),i64 r.2])) [eR t mode pad back k xs iv H4,.dead,.dead,.dead,.dead]:=by
 have hs:=h.s_le;have K:=sT h (back:=back) (M:=M) ok;have hl:=HM h (back:=back) (M:=M) ok;obtain⟨f1,f2⟩:=bj (back:=back) (by omega) ok M.length;have hHl:=eV (n:=s) (mode:=mode) (pad:=pad) (back:=back) M;obtain⟨g0,g1,g2⟩:=po (back:=back) (by omega) ok;have hmost:(i9 s mode pad back M).length<=y3 s (k6 mode) mode pad back:=by
  rw[hHl];refine Zu fun hh=> ?_;have:=(bn (most:=y3 s (k6 mode) mode pad back) (L:=M.length) (i:=B6 (k7 s (k6 mode)) (y3 s (k6 mode) mode pad back) M.length) g0).2 (by show _+q5 s mode pad back M.length<_;omega);exact absurd this (Nat.lt_irrefl _)
 have hHb:(i9 s mode pad back M).length<=100000:=by omega
 generalize hSt:cS t key s mode pad back iv M=st at*
 generalize hLa:cL t key s mode pad back iv M=a8 at*
 generalize i9 s mode pad back M=H at*
 have hx':x= .n/\H.length=0/\H=[]\/x= .o H/\H.length=H.length:=by
  rcases hx with ⟨e1,e2⟩|e1
  ·exact .inl ⟨e1,by rw[e2];rfl,e2⟩
  ·exact .inr ⟨e1,rfl⟩
 have fT:∀{n} {vr:List Value} {H4 st'},a7 C 98 [.p (.k 0) 0,.z H.length (bv H)] [k9 false t mode pad back k xs iv .n a8,f6 (b9 t k xs) (k6 mode) back st 2,g9 st.row st.gone] (.ret (.z n vr)) [k9 false t mode pad back k xs iv .n H4,f6 (b9 t k xs) (k6 mode) back st' 3,.dead,g9 st'.row st'.gone]->
   ∃H4,a7 C 34 [.p (.k 0) 0] [k9 true t mode pad back k xs iv x a8,f6 (b9 t k xs) (k6 mode) back st 2,g9 st.row st.gone,x.b] (.ret (.t [.z n vr,i64 0])) [eR t mode pad back k xs iv H4,.dead,.dead,.dead,.dead]:=
  fun E=>⟨_,(II (e:=0) hx' E).fg (.keep (.drop (.drop (.drop (.drop .nil)))))⟩
 have fTp:∀{e H4 st'},a7 C 98 [.p (.k 0) 0,.z H.length (bv H)] [k9 false t mode pad back k xs iv .n a8,f6 (b9 t k xs) (k6 mode) back st 2,g9 st.row st.gone] (.pan (.i ak (i64 e))) [k9 false t mode pad back k xs iv .n H4,f6 (b9 t k xs) (k6 mode) back st' 3,.dead,g9 st'.row st'.gone]->
   ∃H4,a7 C 34 [.p (.k 0) 0] [k9 true t mode pad back k xs iv x a8,f6 (b9 t k xs) (k6 mode) back st 2,g9 st.row st.gone,x.b] (.ret (.t [.z 0 [],i64 e])) [eR t mode pad back k xs iv H4,.dead,.dead,.dead,.dead]:=
  fun E=>⟨_,(IH (n:=0) (vr:=[]) hx' E).fg (.keep (.drop (.drop (.drop (.drop .nil)))))⟩
 have fN:∀{n} {vr:List Value} {H4 st'},a7 C 98 [.p (.k 0) 0,.z H.length (bv H)] [k9 false t mode pad back k xs iv .n a8,f6 (b9 t k xs) (k6 mode) back st 2,g9 st.row st.gone] (.ret (.z n vr)) [k9 false t mode pad back k xs iv .n H4,f6 (b9 t k xs) (k6 mode) back st' 2,g9 st'.row st'.gone]->
   ∃H4,a7 C 34 [.p (.k 0) 0] [k9 true t mode pad back k xs iv x a8,f6 (b9 t k xs) (k6 mode) back st 2,g9 st.row st.gone,x.b] (.ret (.t [.z n vr,i64 0])) [eR t mode pad back k xs iv H4,.dead,.dead,.dead,.dead]:=
  fun E=>⟨_,(IG (e:=0) hx' E).fg (.keep (.drop (.drop (.drop (.dd .nil)))))⟩
 have fNp:∀{e H4 st'},a7 C 98 [.p (.k 0) 0,.z H.length (bv H)] [k9 false t mode pad back k xs iv .n a8,f6 (b9 t k xs) (k6 mode) back st 2,g9 st.row st.gone] (.pan (.i ak (i64 e))) [k9 false t mode pad back k xs iv .n H4,f6 (b9 t k xs) (k6 mode) back st' 2,g9 st'.row st'.gone]->
   ∃H4,a7 C 34 [.p (.k 0) 0] [k9 true t mode pad back k xs iv x a8,f6 (b9 t k xs) (k6 mode) back st 2,g9 st.row st.gone,x.b] (.ret (.t [.z 0 [],i64 e])) [eR t mode pad back k xs iv H4,.dead,.dead,.dead,.dead]:=
  fun E=>⟨_,(IF (n:=0) (vr:=[]) hx' E).fg (.keep (.drop (.drop (.drop (.dd .nil)))))⟩
 unfold eU at hr;by_cases h7:7<=mode
 ·have e2:k6 mode=2:=if_pos h7;have hmo:H.length<=2*s:=by unfold y3 at hmost;rw[e2,if_neg (by decide),if_pos h7]at hmost;exact hmost
  rw[if_pos h7]at hr;by_cases hsm:H.length<s
  ·rw[if_pos hsm]at hr;subst hr;exact⟨Zp _,fNp (IE h (hl h7) rfl ⟨h7,ok.1.2⟩ hsm)⟩
  ·rw[if_neg hsm]at hr;subst hr;have ll:(C5 (cF t key false) (cF t key true) s mode back a8 H).length=H.length:=stT_len h.ci (hl h7) (by omega) hmo;refine⟨by show(C5 (cF t key false) (cF t key true) s mode back a8 H).length<=_;rw[ll];exact hmo,?_⟩;have:=fN (ID h (pad:=pad) (md:=k6 mode) (back:=back) (iv:=iv) (st:=st) (hl h7) rfl ⟨h7,ok.1.2⟩ (by omega) hmo);rw[<-ll]at this;exact this
 ·have e2:k6 mode=mode:=if_neg h7;rw[if_neg h7]at hr;by_cases h4:pad=4
  ·rw[if_pos h4]at hr;by_cases hz:H.length%k7 s (k6 mode)=0
   ·rw[if_pos hz]at hr;have lo:(f7 (cF t key false) (cF t key true) s (k6 mode) back st H).1.length=H.length:=I3 h.ci K.ok hz;have hb2:H.length<=2*s:=by
     unfold y3 at hmost;rw[if_neg h7]at hmost;split at hmost
     ·omega
     ·split at hmost<;>omega
    subst hr;refine⟨by show(f7 (cF t key false) (cF t key true) s (k6 mode) back st H).1.length<=_;rw[lo];exact hb2,?_⟩;by_cases hne:0<H.length\/st.row=[]
    ·have:=fT (Iy h (mode:=mode) (pad:=pad) (back:=back) (iv:=iv) (a8:=a8) rfl hHb K (by omega) h4 hz hne);rw[<-lo]at this;rw[lo]at this ⊢;exact this
    ·have hrow:st.row≠[]:=fun hh=>hne (.inr hh);have h3:3<=k6 mode:=by
      have h1:=K.ok.m;by_cases h2:3<=k6 mode
      ·exact h2
      ·exact absurd (K.ok.blk (by omega)) hrow
     have h0:H.length=0:=by omega
     have:=fN (Iz h (H:=H) (mode:=mode) (pad:=pad) (back:=back) (iv:=iv) (a8:=a8) (st:=st) h0 h3 (by omega) h4);obtain rfl:=Zg h0;rw[qC];exact this
   ·rw[if_neg hz]at hr;subst hr;exact⟨Zp _,fNp (IB h K (by omega) h4 hz)⟩
  ·have hm2:mode<=2:=ok.2.2.1.resolve_left h4;have hp:pad=1\/pad=2\/pad=3:=by have:=ok.2.1;omega
   have gn:k7 s (k6 mode)=s:=if_pos (by have:=ok.1;omega);rw[if_neg h4]at hr;have hmo:H.length<=(if back=true then s else s-1):=by
    unfold y3 at hmost;rw[if_neg (by omega),if_neg h7]at hmost;cases back
    ·rw[if_neg (by simp)]at hmost;exact hmost
    ·rw[if_pos ⟨h4,rfl⟩]at hmost;exact hmost
   cases back
   ·rw[if_pos rfl]at hr;rw[if_neg (by decide)]at hmo;have lp:(H9 pad s H).length=s:=fE (by omega);have lo:(f7 (cF t key false) (cF t key true) s (k6 mode) false st (H9 pad s H)).1.length=s:=by rw[I3 h.ci K.ok (by rw[lp,gn,Zx]),lp]
    subst hr;refine⟨by show(f7 (cF t key false) (cF t key true) s (k6 mode) false st (H9 pad s H)).1.length<=_;rw[lo];omega,?_⟩;have:=fT (IC h (m:=H.length) (mode:=mode) (pad:=pad) (back:=false) (iv:=iv) (a8:=a8) rfl rfl (by omega) K (by omega) hp gn);rw[<-lo]at this;rw[lo]at this ⊢;exact this
   ·rw[if_neg (by decide)]at hr;by_cases hsz:H.length=s
    ·rw[if_pos hsz]at hr;have lo:(f7 (cF t key false) (cF t key true) s (k6 mode) true st H).1.length=s:=by rw[I3 h.ci K.ok (by rw[hsz,gn,Zx]),hsz]
     by_cases h0:E7 pad (f7 (cF t key false) (cF t key true) s (k6 mode) true st H).1=0
     ·rw[if_pos h0]at hr;subst hr;have:=Iw h (m:=0) (mode:=mode) (pad:=pad) (back:=true) (iv:=iv) (a8:=a8) rfl hsz K (by omega) hp gn h0;exact⟨Zp _,fTp (by rw[hsz];exact this)⟩
     ·rw[if_neg h0]at hr;subst hr;have ls:(U7 pad (f7 (cF t key false) (cF t key true) s (k6 mode) true st H).1).length=s-E7 pad (f7 (cF t key false) (cF t key true) s (k6 mode) true st H).1:=by
       unfold U7;rw[Zi,lo];omega
      refine⟨by show(U7 pad (f7 (cF t key false) (cF t key true) s (k6 mode) true st H).1).length<=_;rw[ls];omega,?_⟩;have:=Ix h (m:=0) (mode:=mode) (pad:=pad) (back:=true) (iv:=iv) (a8:=a8) rfl hsz K (by omega) hp gn h0;rw[<-ls]at this;exact fT (by rw[hsz];exact this)
    ·rw[if_neg hsz]at hr;subst hr;exact⟨Zp _,fNp (Iv h rfl rfl hHb hsz (by omega) hp)⟩
theorem cC {ps:List (Bs)} {i:Nat} (h:i<ps.length):(ps.map zc)[((i:Nat):Int).toNat]? =some (.z ps[i].length (bv ps[i])):=by
 rw[Zf,List.getElem?_map,Z4 h];rfl
def j6 (ps:List (Bs)) (i:Nat):Bs:=(ps.take i).flatten
theorem eP {ps:List (Bs)} {i:Nat} (h:i<ps.length):j6 ps (i+1)=j6 ps i++ps[i]:=by
 unfold j6;rw[List.take_succ_eq_append_getElem h,Zv,Zy]
theorem tD (ps:List (Bs)):j6 ps ps.length=ps.flatten:=by unfold j6;rw[List.take_length]
theorem kd (ps:List (Bs)) (i:Nat):(j6 ps i).length<=ps.flatten.length:=by
 have:ps.flatten=j6 ps i++(ps.drop i).flatten:=by unfold j6;rw[<-Zv,Z8]
 rw[this,Zb];omega
theorem oC {T o:Bs} {n m:Nat} (hT:T.length=n) (ho:o.length=m):V.z (n+m) (sub (sub (bv T) 0 (n*1)++bv o) 0 (n+m))=V.z (T++o).length (bv (T++o)):=by
 rw[Zd,b8 hT,x5,b8 (by rw[Zb,hT,ho]),Zb,hT,ho]
theorem iF {m:Nat} {s:S} {d d':D} (e:d=d') (h:Mt m s d'):Mt m s d:=e▸h
def sB (cv:V) (t mode pad md:Int) (back:Bool) (k:Nat) (xs:List V) (iv:Bs) (ps:List (Bs)) (i:Nat) (st:MS) (la H T:Bs):D:=
 ⟨[(0,.p (.k 0) 0),(1,.zz 1 ps.length (ps.map zc)),(7,.o 1 (.k 6) 0 T.length),(8,i64 i)],
  [p9 true true t mode pad back cv (.z iv.length (bv iv)) (.p (.k 1) 0) (.o 1 (.k 5) 0 H.length) (.z la.length (bv la)),f6 cv md back st 4,.dead,.dead,g9 st.row st.gone,.sc (bv H),.sc (bv T)]⟩
def xe (cv:V) (t mode pad md:Int) (back:Bool) (k:Nat) (xs:List V) (iv:Bs) (ps:List (Bs)) (A:Nat->MS×Bs×Bs×Bs):Nat->D
 |0=>⟨[(0,.p (.k 0) 0),(1,.zz 1 ps.length (ps.map zc)),(7,.o 1 (.k 4) 0 0),(8,i64 0)],[k9 true t mode pad back k xs iv .n iv,f6 cv md back ⟨iv,[],[]⟩ 2,.dead,.dead,.sc []]⟩
 |i+1=>sB cv t mode pad md back k xs iv ps (i+1) (A (i+1)).1 (A (i+1)).2.1 (A (i+1)).2.2.1 (A (i+1)).2.2.2
theorem sC {cv:V} {t mode pad md:Int} {back:Bool} {k:Nat} {xs:List V} {iv:Bs} {ps:List (Bs)} {A:Nat->MS×Bs×Bs×Bs} {i:Nat} {st:MS} {la H T:Bs} (e:A (i+1)=(st,la,H,T)):
  xe cv t mode pad md back k xs iv ps A (i+1)=sB cv t mode pad md back k xs iv ps (i+1) st la H T:=by
 show sB cv t mode pad md back k xs iv ps (i+1) (A (i+1)).1 (A (i+1)).2.1 (A (i+1)).2.2.1 (A (i+1)).2.2.2=_;rw[e]
theorem HX {t key s k xs rs} (h:i6 t key s k xs rs) {mode pad:Int} {back:Bool} {iv:Bs} (ok:C0 s mode pad iv) {ps:List (Bs)} {r:Bs×Int} (hps:ps.flatten.length<=100000) (hpn:ps.length<=100000)
  (hr:r=eU (cF t key false) (cF t key true) s mode pad back (cS t key s mode pad back iv ps.flatten) (cL t key s mode pad back iv ps.flatten) (i9 s mode pad back ps.flatten)):
  a7 C 36 [.p (.k 0) 0,.zz 1 ps.length (ps.map zc)] [k9 true t mode pad back k xs iv .n iv,f6 (b9 t k xs) (k6 mode) back ⟨iv,[],[]⟩ 2,.dead,.dead]
   (.ret (.t [.z (cT t key s mode pad back iv ps.flatten++r.1).length (bv (cT t key s mode pad back iv ps.flatten++r.1)),i64 r.2,bool true])) [.dead,.dead,.dead,.dead]:=by
 have hs:=h.s_le;have hc0:j6 ps 0=[]:=by unfold j6;rw[Z1];rfl
 obtain⟨A,hA⟩:∃A:Nat->MS×Bs×Bs×Bs,A=fun i=>(cS t key s mode pad back iv (j6 ps i),cL t key s mode pad back iv (j6 ps i),i9 s mode pad back (j6 ps i),cT t key s mode pad back iv (j6 ps i)):=⟨_,rfl⟩;obtain⟨e1,e2⟩:=mT (M:=ps.flatten) h.ci (by omega) ok hr;have is:r.2≠0->r.1.length=0:=fun hh=>by rw[e2 hh];rfl
 have hF:∀{x:HK},(x= .n/\i9 s mode pad back ps.flatten=[]\/x= .o (i9 s mode pad back ps.flatten))->_:=fun hx=>(ki h ok hx hps hr).2;have hr2:=(ki h (x:= .o (i9 s mode pad back ps.flatten)) ok (.inr rfl) hps hr).1;have hTb:(cT t key s mode pad back iv ps.flatten).length<=100000:=by
  have h1:=gg (back:=back) (M:=ps.flatten) h.ci (by omega) ok;have h2:=(bj (back:=back) (by omega) ok ps.flatten.length).1;show(A2 (cF t key false) (cF t key true) s mode pad back iv ps.flatten).1.length<=_;omega
 have hU:∀i (hi:i<ps.length) {x:HK},(x= .n/\i9 s mode pad back (j6 ps i)=[]\/x= .o (i9 s mode pad back (j6 ps i)))->_:=fun i hi x hx=>Am h (b:=ps[i]) ok hx rfl (by
  have h1:=kd ps (i+1);rw[eP hi,Zb]at h1;omega)
 have hTi:∀i,(cT t key s mode pad back iv (j6 ps i)).length<=100000:=fun i=>by
  have h1:=gg (back:=back) (M:=j6 ps i) h.ci (by omega) ok;have h2:=(bj (back:=back) (by omega) ok (j6 ps i).length).1;have h3:=kd ps i;show(A2 (cF t key false) (cF t key true) s mode pad back iv (j6 ps i)).1.length<=_;omega
 refine PM.x ?_;refine B1 (xe (b9 t k xs) t mode pad (k6 mode) back k xs iv ps A) ps.length [(7,1,.sc [])] ⟨[.k 0,.k 1,.k 2,.k 3,.d 900000 0],⟨rfl,rfl,rfl,rfl,tq⟩,⟨_,rfl,rfl⟩,⟨_,rfl,rfl⟩,⟨_,rfl,rfl⟩,⟨_,rfl,rfl⟩,⟨_,rfl,rfl⟩,tq⟩ fun i hi=> ?_;rcases i with _|i
 ·refine c9 (fun a9=> ?_) (fun hge=> ?_)
  ·have hl:0<ps.length:=by omega
   obtain⟨n,o,hn,_,hT,U⟩:=hU 0 hl (x:= .n) (.inl ⟨rfl,by rw[hc0];exact mS⟩);rw[<-eP hl,hc0]at hT U;have U:=U.resolve_right (fun hh=>hh.1 (by rw[fY (by omega) ok]));rw[mI (by omega) ok,fY (by omega) ok]at U;rw[show cT t key s mode pad back iv []=[] from congrArg Z9 (jM (by omega) ok),Zs]at hT;refine⟨by omega,by omega,?_⟩;refine⟨_,cC (i:=0) hl,?_⟩;have hA1:A 1=(cS t key s mode pad back iv (j6 ps (0+1)),cL t key s mode pad back iv (j6 ps (0+1)),i9 s mode pad back (j6 ps (0+1)),cT t key s mode pad back iv (j6 ps (0+1))):=by rw[hA]
   rw[hT]at hA1;generalize cS t key s mode pad back iv (j6 ps (0+1))=st1 at*
   generalize cL t key s mode pad back iv (j6 ps (0+1))=la1 at*
   generalize i9 s mode pad back (j6 ps (0+1))=H1 at*
   have hTi1:=hTi 1;rw[hT]at hTi1;obtain⟨ch,row,g⟩:=st1;rcases row with _|⟨a,rr⟩;all_goals
    refine⟨[.k 0,.k 1,.k 2,.k 3],_,_,_,_,U,rfl,rfl,?_⟩;refine⟨by rw[f9,hn],by omega,Ze _,?_⟩;refine⟨1,by omega,by omega,iF (sC hA1) ?_⟩;refine⟨[.k 0,.k 1,.k 2,.k 3,.d 25 4,.d 25 5,.d 33 0],⟨rfl,rfl,?_,rfl,tq⟩,⟨_,rfl,rfl⟩,⟨_,rfl,rfl⟩,⟨_,rfl,rfl⟩,⟨_,rfl,rfl⟩,⟨_,rfl,rfl⟩,⟨_,rfl,rfl⟩,⟨_,rfl,?_⟩,tq⟩
    ·exact congrArg (V.o 1 (.k 6) 0) (show 0+n=o.length by omega)
    ·exact d9 (show sub ([]:List Value) 0 (0*1)++bv o=bv o from rfl)
  ·have h0:ps.length=0:=by omega
   have hp0:ps=[]:=Zg h0;subst hp0;obtain⟨la',F⟩:=hF (x:= .n) (.inl ⟨rfl,mS⟩);rw[show ([]:List (Bs)).flatten=[] from rfl]at*
   rw[mI (by omega) ok,fY (by omega) ok]at F;rw[show cT t key s mode pad back iv []=[] from congrArg Z9 (jM (by omega) ok),Zs];refine⟨[.k 0,.k 1,.k 2,.k 3],_,_,_,_,F,rfl,rfl,?_⟩;refine⟨by rw[f9],by omega,Ze _,?_⟩;refine j7 (fun h2=> ?_) (fun h2=> ?_)
   ·refine⟨.ret (.t [.z _ _,i64 r.2,bool true]),[_,_,_,_],⟨_,rfl,[.k 0,.k 1,.k 2,.k 3],?_,⟨_,rfl,rfl⟩,⟨_,rfl,rfl⟩,⟨_,rfl,rfl⟩,⟨_,rfl,rfl⟩,tq⟩,.ret (.refl _),.drop (.drop (.drop (.drop .nil)))⟩;exact congrArg (fun z=>V.t [z,i64 r.2,bool true]) (oC (T:=[]) (o:=r.1) rfl rfl)
   ·have hd:decide ((r.1.length:Int)=0)=true:=decide_eq_true (by rw[is h2];rfl);refine⟨.ret (.t [.z _ _,i64 r.2,bool true]),[_,_,_,_],⟨_,rfl,[.k 0,.k 1,.k 2,.k 3],?_,⟨_,rfl,rfl⟩,⟨_,rfl,rfl⟩,⟨_,rfl,rfl⟩,⟨_,rfl,rfl⟩,tq⟩,.ret (.refl _),.drop (.drop (.drop (.drop .nil)))⟩;exact(congrArg (fun z=>V.t [z,i64 r.2,bool (decide ((r.1.length:Int)=0))]) (oC (T:=[]) (o:=r.1) rfl rfl)).trans (congrArg (fun b=>V.t [_,i64 r.2,bool b]) hd)
 ·have hA1:A (i+1)=(cS t key s mode pad back iv (j6 ps (i+1)),cL t key s mode pad back iv (j6 ps (i+1)),i9 s mode pad back (j6 ps (i+1)),cT t key s mode pad back iv (j6 ps (i+1))):=by rw[hA]
  rw[sC hA1];have hT0:=hTi (i+1);refine c9 (fun a9=> ?_) (fun hge=> ?_)
  ·have hl:i+1<ps.length:=by omega
   obtain⟨n,o,hn,_,hT,U⟩:=hU (i+1) hl (x:= .o (i9 s mode pad back (j6 ps (i+1)))) (.inr rfl);have hT1:=hTi (i+1+1);rw[<-eP hl]at hT U;refine⟨by omega,by omega,?_⟩;refine⟨.z ps[i+1].length (bv ps[i+1]),by rw[Zd];exact cC hl,?_⟩;have hA2:A (i+1+1)=(cS t key s mode pad back iv (j6 ps (i+1+1)),cL t key s mode pad back iv (j6 ps (i+1+1)),i9 s mode pad back (j6 ps (i+1+1)),cT t key s mode pad back iv (j6 ps (i+1+1))):=by rw[hA]
   rw[hT]at hA2 hT1;generalize cS t key s mode pad back iv (j6 ps (i+1+1))=st1 at*
   generalize cL t key s mode pad back iv (j6 ps (i+1+1))=la1 at*
   generalize i9 s mode pad back (j6 ps (i+1+1))=H1 at*
   generalize cS t key s mode pad back iv (j6 ps (i+1))=st0 at*
   generalize cL t key s mode pad back iv (j6 ps (i+1))=la0 at*
   generalize i9 s mode pad back (j6 ps (i+1))=H0 at*
   generalize cT t key s mode pad back iv (j6 ps (i+1))=T0 at*
   rw[Zb,hn]at hT1;obtain⟨ch,row,g⟩:=st1;obtain⟨H3,row0,g0⟩:=st0;rcases U with U|⟨_,U⟩<;>rcases row0 with _|⟨a0,rr0⟩<;>rcases row with _|⟨a,rr⟩;all_goals
    refine⟨[.k 0,.k 1,.k 4,.k 5],_,_,_,_,U,rfl,rfl,?_⟩;refine⟨by rw[f9,hn],by omega,by rw[f9];omega,?_⟩;refine⟨i+1+1,by omega,by omega,iF (sC hA2) ?_⟩;first
     |refine⟨[.k 0,.k 1,.k 2,.k 3,.d 25 4,.d 25 5,.d 33 0],⟨rfl,rfl,?_,d7 (by simp(disch:=omega)only[Zc];omega),tq⟩,⟨_,rfl,rfl⟩,⟨_,rfl,rfl⟩,⟨_,rfl,rfl⟩,⟨_,rfl,rfl⟩,⟨_,rfl,rfl⟩,⟨_,rfl,rfl⟩,⟨_,rfl,?_⟩,tq⟩
     |refine⟨[.k 0,.k 1,.k 2,.k 3,.k 4,.d 25 4,.d 33 0],⟨rfl,rfl,?_,d7 (by simp(disch:=omega)only[Zc];omega),tq⟩,⟨_,rfl,rfl⟩,⟨_,rfl,rfl⟩,⟨_,rfl,rfl⟩,⟨_,rfl,rfl⟩,⟨_,rfl,rfl⟩,⟨_,rfl,rfl⟩,⟨_,rfl,?_⟩,tq⟩
    ·exact congrArg (V.o 1 (.k 6) 0) (show T0.length+n=(T0++o).length by rw[Zb,hn])
    ·exact d9 (show sub (bv T0) 0 (T0.length*1)++bv o=bv (T0++o) by rw[Zd,b8 rfl,x5])
  ·have hn1:i+1=ps.length:=by omega
   rw[show j6 ps (i+1)=ps.flatten by rw[hn1];exact tD ps]at*
   obtain⟨la',F⟩:=hF (x:= .o (i9 s mode pad back ps.flatten)) (.inr rfl);generalize cS t key s mode pad back iv ps.flatten=st0 at*
   generalize cL t key s mode pad back iv ps.flatten=la0 at*
   generalize i9 s mode pad back ps.flatten=H0 at*
   generalize cT t key s mode pad back iv ps.flatten=T0 at*
   obtain⟨H3,row0,g0⟩:=st0;rcases row0 with _|⟨a0,rr0⟩;all_goals
    refine⟨[.k 0,.k 1,.k 4,.k 5],_,_,_,_,F,rfl,rfl,?_⟩;refine⟨by rw[f9],by omega,by rw[f9];omega,?_⟩;refine j7 (fun h2=> ?_) (fun h2=> ?_)
    ·refine⟨.ret (.t [.z _ _,i64 r.2,bool true]),[_,_,_,_],⟨_,rfl,[.k 0,.k 1,.k 2,.k 3],?_,⟨_,rfl,rfl⟩,⟨_,rfl,rfl⟩,⟨_,rfl,rfl⟩,⟨_,rfl,rfl⟩,tq⟩,.ret (.refl _),.drop (.drop (.drop (.drop .nil)))⟩;exact congrArg (fun z=>V.t [z,i64 r.2,bool true]) (oC (T:=T0) (o:=r.1) rfl rfl)
    ·have hd:decide ((r.1.length:Int)=0)=true:=decide_eq_true (by rw[is h2];rfl);refine⟨.ret (.t [.z _ _,i64 r.2,bool true]),[_,_,_,_],⟨_,rfl,[.k 0,.k 1,.k 2,.k 3],?_,⟨_,rfl,rfl⟩,⟨_,rfl,rfl⟩,⟨_,rfl,rfl⟩,⟨_,rfl,rfl⟩,tq⟩,.ret (.refl _),.drop (.drop (.drop (.drop .nil)))⟩;exact(congrArg (fun z=>V.t [z,i64 r.2,bool (decide ((r.1.length:Int)=0))]) (oC (T:=T0) (o:=r.1) rfl rfl)).trans (congrArg (fun b=>V.t [_,i64 r.2,bool b]) hd)
theorem Ah (ns b):∀i,(l8 ns b i).1.flatten++(l8 ns b i).2=b
 |0=>rfl
 |i+1=>by
  show((l8 ns b i).1++[(l8 ns b i).2.take _]).flatten++(l8 ns b i).2.drop _=b;rw[Zv,Zy,List.append_assoc,Z8,Ah ns b i]
theorem NO (ns b):(bi ns b).flatten=b:=by
 unfold bi;rw[Zv,Zy,Ah]
theorem GV {t key s k xs rs} (h:i6 t key s k xs rs) {mode pad:Int} {back:Bool} {iv b:Bs} (ok:C0 s mode pad iv) {ps:List (Bs)} (hps:ps.flatten=b) (hb:b.length<=100000) (hpn:ps.length<=100000):
  ∃(e:Int) (y:Bs),(e=0->E3 (cF t key false) (cF t key true) s mode pad back iv b=(y,0))/\(e≠0->E3 (cF t key false) (cF t key true) s mode pad back iv b=([],e))/\
   a7 C 36 [.p (.k 0) 0,.zz 1 ps.length (ps.map zc)] [k9 true t mode pad back k xs iv .n iv,f6 (b9 t k xs) (k6 mode) back ⟨iv,[],[]⟩ 2,.dead,.dead]
    (.ret (.t [.z y.length (bv y),i64 e,bool true])) [.dead,.dead,.dead,.dead]:=by
 have hs:=h.s_le;subst hps;obtain⟨r,hr⟩:∃r,r=eU (cF t key false) (cF t key true) s mode pad back (cS t key s mode pad back iv ps.flatten) (cL t key s mode pad back iv ps.flatten) (i9 s mode pad back ps.flatten):=⟨_,rfl⟩;obtain⟨e1,e2⟩:=mT (M:=ps.flatten) h.ci (by omega) ok hr;refine⟨r.2,_,fun h0=> ?_,fun h0=> ?_,HX h ok hb hpn hr⟩
 ·rw[e1,if_pos h0,h0]
 ·rw[e1,if_neg h0]
theorem IP {t mode pad:Int} {back:Bool} {k:Nat} {xs:List V} {iv a8:Bs} (hm:mode<=9):a7 C 158 [.p (.k 0) 0] [eR t mode pad back k xs iv a8,.dead] (.ret (bool (decide (7<=mode)))) [eR t mode pad back k xs iv a8,.dead]:=by
 refine pN.c ?_;refine⟨_,rfl,?_⟩;refine c9 (fun h7=> ?_) (fun h7=> ?_)
 ·refine⟨_,rfl,?_⟩;refine⟨_,rfl,[.k 0,.k 1],?_,⟨_,rfl,rfl⟩,⟨_,rfl,rfl⟩,tq⟩;exact congrArg bool (by rw[decide_eq_true hm,decide_eq_true h7])
 ·refine⟨_,rfl,[.k 0,.k 1],?_,⟨_,rfl,rfl⟩,⟨_,rfl,rfl⟩,tq⟩;exact congrArg bool (by rw[decide_eq_false h7])
theorem Iu {t key s k xs rs} (h:i6 t key s k xs rs) {mode pad:Int} {back:Bool} {iv jf:Bs} (ok:C0 s mode pad iv):
  a7 C 91 [.p (.k 0) 0] [eR t mode pad back k xs iv jf,.dead] (.ret (.t []))
   [p9 true true t mode pad back (b9 t k xs) (.z iv.length (bv iv)) (.p (.k 2) 0) g8 (.z iv.length (bv iv)),.dead,f6 (b9 t k xs) (k6 mode) back ⟨iv,[],[]⟩ 3,.dead,.dead]:=by
 have hs:=h.s_le;obtain⟨m1,hiv⟩:=dK ok;have T0:=dC h (mode:=k6 mode) (back:=back) (i:=1) (vi:=bv iv) (iv:=iv) rfl rfl m1 hiv;have hl16:iv.length<=16:=by rw[hiv];split<;>omega
 have S:=IP (t:=t) (mode:=mode) (pad:=pad) (back:=back) (k:=k) (xs:=xs) (iv:=iv) (a8:=jf) ok.1.2;refine AH.c ?_;refine⟨_,rfl,?_⟩;refine⟨[.k 0,.k 1],_,_,_,_,S,rfl,rfl,?_⟩;refine c9 (fun h7=> ?_) (fun h7=> ?_);all_goals
  first
   |rw[show k6 mode=2 from if_pos h7]at T0 ⊢
   |rw[show k6 mode=mode from if_neg h7]at T0 ⊢
  refine⟨_,rfl,?_⟩;refine⟨_,rfl,?_⟩;refine⟨_,rfl,?_⟩;refine⟨[],_,_,_,_,T0,rfl,rfl,?_⟩;refine⟨Za rfl,?_⟩;refine⟨_,rfl,?_⟩;refine⟨[],_,_,_,_,aw (l:=iv) rfl rfl (by omega),rfl,rfl,?_⟩;refine⟨Za rfl,?_⟩;refine⟨Za rfl,?_⟩;refine⟨Za rfl,?_⟩;exact⟨_,rfl,[.k 0,.k 1,.d 26 0,.d 26 1,.d 26 2],rfl,⟨_,rfl,rfl⟩,⟨_,rfl,rfl⟩,⟨_,rfl,rfl⟩,⟨_,rfl,rfl⟩,⟨_,rfl,rfl⟩,tq⟩
theorem IL {t key s k xs rs} (h:i6 t key s k xs rs) {mode pad:Int} {back:Bool} {iv jf:Bs} (ok:C0 s mode pad iv):
  a7 C 35 [.p (.k 0) 0] [eR t mode pad back k xs iv jf,.dead] (.ret (i64 0))
   [p9 true true t mode pad back (b9 t k xs) (.z iv.length (bv iv)) (.p (.k 2) 0) g8 (.z iv.length (bv iv)),.dead,f6 (b9 t k xs) (k6 mode) back ⟨iv,[],[]⟩ 3,.dead,.dead]:=by
 refine Pa.c ?_;refine⟨_,rfl,?_⟩;refine⟨[.k 0,.k 1],_,_,_,_,Iu h ok,rfl,rfl,?_⟩;exact⟨_,rfl,[.k 0,.k 1,.d 9 2,.d 9 3,.d 9 4],rfl,⟨_,rfl,rfl⟩,⟨_,rfl,rfl⟩,⟨_,rfl,rfl⟩,⟨_,rfl,rfl⟩,⟨_,rfl,rfl⟩,tq⟩
structure Cf where
 t:Int
 mode:Int
 pad:Int
 back:Bool
 key:Bs
 iv:Bs
noncomputable def Cf.s (c:Cf):Nat:=(C8 c.t).toNat
noncomputable def Cf.err (c:Cf):Int:=R4 c.t c.mode c.pad c.s c.key.length c.iv.length
noncomputable def mR (t:Int) (key:Bs):Nat×List V:=open Classical in if h:∃p:Nat×List V,∃rs,i6 t key (C8 t).toNat p.1 p.2 rs then Classical.choose h else (0,[])
theorem MX {t:Int} {key:Bs} {s k:Nat} {xs rs:List V} (h:i6 t key s k xs rs):∃rs,i6 t key (C8 t).toNat (mR t key).1 (mR t key).2 rs:=by
 have h0:∃p:Nat×List V,∃rs,i6 t key (C8 t).toNat p.1 p.2 rs:=⟨(k,xs),rs,by rw[h.hs];exact h⟩;unfold mR;rw[dif_pos h0];exact Classical.choose_spec h0
noncomputable abbrev Cf.k (c:Cf):Nat:=(mR c.t c.key).1
noncomputable abbrev Cf.xs (c:Cf):List V:=(mR c.t c.key).2
theorem Cf.ok {c:Cf} (h:c.err=0) (hk:c.key.length<=1000):(∃rs,i6 c.t c.key c.s c.k c.xs rs)/\C0 c.s c.mode c.pad c.iv:=by
 rcases DT c.t (key:=c.key) rfl hk c.mode c.pad c.back (iv:=c.iv) rfl with ⟨e,s,k,xs,rs,h,ok⟩|⟨he,P,Q⟩
 ·refine⟨MX h,?_⟩;have hs:c.s=s:=by unfold Cf.s;rw[h.hs];rfl
  rw[hs];exact ok
 ·exact absurd h he
def HK.w (x:HK) (j:Nat):V:=match x with
 | .n=>g8
 | .o H=> .o 1 (.k j) 0 H.length
 | .f H=> .z H.length (bv H)
def vE (cv:V) (t mode pad md:Int) (back:Bool) (iv:Bs) (ps:List (Bs)) (i:Nat) (st:MS) (la H T:Bs):D:=
 ⟨[(10,.p (.k 0) 0),(28,.zz 1 ps.length (ps.map zc)),(29,i64 ps.length),(12,.o 1 (.k 6) 0 T.length),(30,i64 i)],
  [p9 true true t mode pad back cv (.z iv.length (bv iv)) (.p (.k 1) 0) (.o 1 (.k 5) 0 H.length) (.z la.length (bv la)),f6 cv md back st 4,.dead,.dead,g9 st.row st.gone,.sc (bv H),.sc (bv T)]⟩
def DU (cv:V) (t mode pad md:Int) (back:Bool) (k:Nat) (xs:List V) (iv:Bs) (ps:List (Bs)) (A:Nat->MS×Bs×Bs×Bs):Nat->D
 |0=>⟨[(10,.p (.k 0) 0),(28,.zz 1 ps.length (ps.map zc)),(29,i64 ps.length),(12,.o 1 (.k 4) 0 0),(30,i64 0)],[k9 true t mode pad back k xs iv .n iv,f6 cv md back ⟨iv,[],[]⟩ 2,.dead,.dead,.sc []]⟩
 |i+1=>vE cv t mode pad md back iv ps (i+1) (A (i+1)).1 (A (i+1)).2.1 (A (i+1)).2.2.1 (A (i+1)).2.2.2
theorem vD {cv:V} {t mode pad md:Int} {back:Bool} {k:Nat} {xs:List V} {iv:Bs} {ps:List (Bs)} {A:Nat->MS×Bs×Bs×Bs} {i:Nat} {st:MS} {la H T:Bs} (e:A (i+1)=(st,la,H,T)):
  DU cv t mode pad md back k xs iv ps A (i+1)=vE cv t mode pad md back iv ps (i+1) st la H T:=by
 show vE cv t mode pad md back iv ps (i+1) (A (i+1)).1 (A (i+1)).2.1 (A (i+1)).2.2.1 (A (i+1)).2.2.2=_;rw[e]
theorem ml (T:Bs):V.z T.length (sub (bv T) 0 T.length)=V.z T.length (bv T):=by rw[b8 rfl]
theorem LY {t key s k xs rs} (h:i6 t key s k xs rs) {mode pad:Int} {back:Bool} {lk li:Nat} {iv:Bs} (hk:key.length=lk) (hlk:lk<=1000) (hi:iv.length=li) (ok:C0 s mode pad iv) {ps:List (Bs)} {r:Bs×Int} (hps:ps.flatten.length<=100000) (hpn:ps.length<=100000)
  (hr:r=eU (cF t key false) (cF t key true) s mode pad back (cS t key s mode pad back iv ps.flatten) (cL t key s mode pad back iv ps.flatten) (i9 s mode pad back ps.flatten)):
  a7 C 49 [D7 t mode pad back,.z lk (bv key),.z li (bv iv),.zz 1 ps.length (ps.map zc)] [] (.ret (cf (if r.2=0 then cT t key s mode pad back iv ps.flatten++r.1 else [],r.2))) []:=by
 have hs:=h.s_le;have hc0:j6 ps 0=[]:=by unfold j6;rw[Z1];rfl
 obtain⟨A,hA⟩:∃A:Nat->MS×Bs×Bs×Bs,A=fun i=>(cS t key s mode pad back iv (j6 ps i),cL t key s mode pad back iv (j6 ps i),i9 s mode pad back (j6 ps i),cT t key s mode pad back iv (j6 ps i)):=⟨_,rfl⟩;obtain⟨e1,e2⟩:=mT (M:=ps.flatten) h.ci (by omega) ok hr;have is:r.2≠0->r.1.length=0:=fun hh=>by rw[e2 hh];rfl
 have hF:∀{x:HK},(x= .n/\i9 s mode pad back ps.flatten=[]\/x= .o (i9 s mode pad back ps.flatten))->_:=fun hx=>(ki h ok hx hps hr).2;have hr2:=(ki h (x:= .o (i9 s mode pad back ps.flatten)) ok (.inr rfl) hps hr).1;have hTb:(cT t key s mode pad back iv ps.flatten).length<=100000:=by
  have h1:=gg (back:=back) (M:=ps.flatten) h.ci (by omega) ok;have h2:=(bj (back:=back) (by omega) ok ps.flatten.length).1;show(A2 (cF t key false) (cF t key true) s mode pad back iv ps.flatten).1.length<=_;omega
 have hU:∀i (hi:i<ps.length) {x:HK},(x= .n/\i9 s mode pad back (j6 ps i)=[]\/x= .o (i9 s mode pad back (j6 ps i)))->_:=fun i hi x hx=>Am h (b:=ps[i]) ok hx rfl (by
  have h1:=kd ps (i+1);rw[eP hi,Zb]at h1;omega)
 have hTi:∀i,(cT t key s mode pad back iv (j6 ps i)).length<=100000:=fun i=>by
  have h1:=gg (back:=back) (M:=j6 ps i) h.ci (by omega) ok;have h2:=(bj (back:=back) (by omega) ok (j6 ps i).length).1;have h3:=kd ps i;show(A2 (cF t key false) (cF t key true) s mode pad back iv (j6 ps i)).1.length<=_;omega
 have IN:=IJ h (back:=back) hk hlk hi ok;refine Sh.x ?_;refine⟨[],_,_,_,_,sX,rfl,rfl,?_⟩;refine⟨[i64 t,i64 mode,i64 pad,bool back],rfl,rfl,?_⟩;refine⟨[.d 19 0],_,_,_,_,IN,rfl,rfl,?_⟩;refine B1 (DU (b9 t k xs) t mode pad (k6 mode) back k xs iv ps A) ps.length [(12,1,.sc [])] ⟨[.d 19 0,.d 24 1,.d 24 2,.d 24 3,.d 900000 0],⟨rfl,rfl,rfl,rfl,rfl,tq⟩,⟨_,rfl,rfl⟩,⟨_,rfl,rfl⟩,⟨_,rfl,rfl⟩,⟨_,rfl,rfl⟩,⟨_,rfl,rfl⟩,tq⟩ fun i hi=> ?_;rcases i with _|i
 ·refine c9 (fun a9=> ?_) (fun hge=> ?_)
  ·have hl:0<ps.length:=by omega
   obtain⟨n,o,hn,_,hT,U⟩:=hU 0 hl (x:= .n) (.inl ⟨rfl,by rw[hc0];exact mS⟩);rw[<-eP hl,hc0]at hT U;have U:=U.resolve_right (fun hh=>hh.1 (by rw[fY (by omega) ok]));rw[mI (by omega) ok,fY (by omega) ok]at U;rw[show cT t key s mode pad back iv []=[] from congrArg Z9 (jM (by omega) ok),Zs]at hT;refine⟨by omega,by omega,?_⟩;refine⟨_,cC (i:=0) hl,?_⟩;have hA1:A 1=(cS t key s mode pad back iv (j6 ps (0+1)),cL t key s mode pad back iv (j6 ps (0+1)),i9 s mode pad back (j6 ps (0+1)),cT t key s mode pad back iv (j6 ps (0+1))):=by rw[hA]
   rw[hT]at hA1;generalize cS t key s mode pad back iv (j6 ps (0+1))=st1 at*
   generalize cL t key s mode pad back iv (j6 ps (0+1))=la1 at*
   generalize i9 s mode pad back (j6 ps (0+1))=H1 at*
   have hTi1:=hTi 1;rw[hT]at hTi1;obtain⟨ch,row,g⟩:=st1;rcases row with _|⟨a,rr⟩;all_goals
    refine⟨[.k 0,.k 1,.k 2,.k 3],_,_,_,_,U,rfl,rfl,?_⟩;refine⟨by rw[f9,hn],by omega,Ze _,?_⟩;refine⟨1,by omega,by omega,iF (vD hA1) ?_⟩;refine⟨[.k 0,.k 1,.k 2,.k 3,.d 37 4,.d 37 5,.d 45 0],⟨rfl,rfl,rfl,?_,rfl,tq⟩,⟨_,rfl,rfl⟩,⟨_,rfl,rfl⟩,⟨_,rfl,rfl⟩,⟨_,rfl,rfl⟩,⟨_,rfl,rfl⟩,⟨_,rfl,rfl⟩,⟨_,rfl,?_⟩,tq⟩
    ·exact congrArg (V.o 1 (.k 6) 0) (show 0+n=o.length by omega)
    ·exact d9 (show sub ([]:List Value) 0 (0*1)++bv o=bv o from rfl)
  ·have h0:ps.length=0:=by omega
   have hp0:ps=[]:=Zg h0;subst hp0;obtain⟨la',F⟩:=hF (x:= .n) (.inl ⟨rfl,mS⟩);rw[show ([]:List (Bs)).flatten=[] from rfl]at*
   rw[mI (by omega) ok,fY (by omega) ok]at F;rw[show cT t key s mode pad back iv []=[] from congrArg Z9 (jM (by omega) ok)];refine⟨[.k 0,.k 1,.k 2,.k 3],_,_,_,_,F,rfl,rfl,?_⟩;refine o9 (fun h2=> ?_) (fun h2=> ?_)
   ·rw[if_neg h2];exact⟨.ret (.t [g8,i64 r.2]),[],⟨_,rfl,[],rfl,tq⟩,.ret (.t (.cons .nl (.cons (.refl _) .nil))),.nil⟩
   ·rw[if_pos h2,h2];by_cases hz:0<(([]:Bs)++r.1).length
    ·have CC:=U1 (ls:=[([]:Bs),r.1]) (t:=([]:Bs)++r.1) (n:=2) (by simp) rfl rfl hz (by rw[Zb];omega) (by decide);refine⟨[],_,_,_,_,CC,?_,rfl,?_⟩
     ·exact congrArg (fun z=>[V.zz 1 2 [z,V.z r.1.length (bv r.1)]]) (ml ([]:Bs))
     exact⟨.ret (cf (([]:Bs)++r.1,0)),[],⟨_,rfl,[],congrArg (fun z=>V.t [z,i64 0]) (ml _),tq⟩,.ret (.refl _),.nil⟩
    ·have hz0:=Z7.1 (Zg (Z5 hz));refine⟨[],_,_,_,_,sW,?_,rfl,?_⟩
     ·show[V.zz 1 2 [V.z (([]:Bs)).length (sub (bv ([]:Bs)) 0 (([]:Bs)).length),V.z r.1.length (bv r.1)]]=_;rw[ml,hz0.2,show([]:Bs)=[] from hz0.1];rfl
     refine⟨.ret (cf ([],0)),[],⟨_,rfl,[],rfl,tq⟩,?_,.nil⟩;rw[hz0.2,show([]:Bs)=[] from hz0.1];exact .ret (.refl _)
 ·have hA1:A (i+1)=(cS t key s mode pad back iv (j6 ps (i+1)),cL t key s mode pad back iv (j6 ps (i+1)),i9 s mode pad back (j6 ps (i+1)),cT t key s mode pad back iv (j6 ps (i+1))):=by rw[hA]
  rw[vD hA1];have hT0:=hTi (i+1);refine c9 (fun a9=> ?_) (fun hge=> ?_)
  ·have hl:i+1<ps.length:=by omega
   obtain⟨n,o,hn,_,hT,U⟩:=hU (i+1) hl (x:= .o (i9 s mode pad back (j6 ps (i+1)))) (.inr rfl);have hT1:=hTi (i+1+1);rw[<-eP hl]at hT U;refine⟨by omega,by omega,?_⟩;refine⟨.z ps[i+1].length (bv ps[i+1]),by rw[Zd];exact cC hl,?_⟩;have hA2:A (i+1+1)=(cS t key s mode pad back iv (j6 ps (i+1+1)),cL t key s mode pad back iv (j6 ps (i+1+1)),i9 s mode pad back (j6 ps (i+1+1)),cT t key s mode pad back iv (j6 ps (i+1+1))):=by rw[hA]
   rw[hT]at hA2 hT1;generalize cS t key s mode pad back iv (j6 ps (i+1+1))=st1 at*
   generalize cL t key s mode pad back iv (j6 ps (i+1+1))=la1 at*
   generalize i9 s mode pad back (j6 ps (i+1+1))=H1 at*
   generalize cS t key s mode pad back iv (j6 ps (i+1))=st0 at*
   generalize cL t key s mode pad back iv (j6 ps (i+1))=la0 at*
   generalize i9 s mode pad back (j6 ps (i+1))=H0 at*
   generalize cT t key s mode pad back iv (j6 ps (i+1))=T0 at*
   rw[Zb,hn]at hT1;obtain⟨ch,row,g⟩:=st1;obtain⟨H3,row0,g0⟩:=st0;rcases U with U|⟨_,U⟩<;>rcases row0 with _|⟨a0,rr0⟩<;>rcases row with _|⟨a,rr⟩;all_goals
    refine⟨[.k 0,.k 1,.k 4,.k 5],_,_,_,_,U,rfl,rfl,?_⟩;refine⟨by rw[f9,hn],by omega,by rw[f9];omega,?_⟩;refine⟨i+1+1,by omega,by omega,iF (vD hA2) ?_⟩;first
     |refine⟨[.k 0,.k 1,.k 2,.k 3,.d 37 4,.d 37 5,.d 45 0],⟨rfl,rfl,rfl,?_,d7 (by simp(disch:=omega)only[Zc];omega),tq⟩,⟨_,rfl,rfl⟩,⟨_,rfl,rfl⟩,⟨_,rfl,rfl⟩,⟨_,rfl,rfl⟩,⟨_,rfl,rfl⟩,⟨_,rfl,rfl⟩,⟨_,rfl,?_⟩,tq⟩
     |refine⟨[.k 0,.k 1,.k 2,.k 3,.k 4,.d 37 4,.d 45 0],⟨rfl,rfl,rfl,?_,d7 (by simp(disch:=omega)only[Zc];omega),tq⟩,⟨_,rfl,rfl⟩,⟨_,rfl,rfl⟩,⟨_,rfl,rfl⟩,⟨_,rfl,rfl⟩,⟨_,rfl,rfl⟩,⟨_,rfl,rfl⟩,⟨_,rfl,?_⟩,tq⟩
    ·exact congrArg (V.o 1 (.k 6) 0) (show T0.length+n=(T0++o).length by rw[Zb,hn])
    ·exact d9 (show sub (bv T0) 0 (T0.length*1)++bv o=bv (T0++o) by rw[Zd,b8 rfl,x5])
  ·have hn1:i+1=ps.length:=by omega
   rw[show j6 ps (i+1)=ps.flatten by rw[hn1];exact tD ps]at*
   obtain⟨la',F⟩:=hF (x:= .o (i9 s mode pad back ps.flatten)) (.inr rfl);generalize cS t key s mode pad back iv ps.flatten=st0 at*
   generalize cL t key s mode pad back iv ps.flatten=la0 at*
   generalize i9 s mode pad back ps.flatten=H0 at*
   generalize cT t key s mode pad back iv ps.flatten=T0 at*
   obtain⟨H3,row0,g0⟩:=st0;rcases row0 with _|⟨a0,rr0⟩;all_goals
    refine⟨[.k 0,.k 1,.k 4,.k 5],_,_,_,_,F,rfl,rfl,?_⟩;refine o9 (fun h2=> ?_) (fun h2=> ?_)
    ·rw[if_neg h2];exact⟨.ret (.t [g8,i64 r.2]),[],⟨_,rfl,[],rfl,tq⟩,.ret (.t (.cons .nl (.cons (.refl _) .nil))),.nil⟩
    ·rw[if_pos h2,h2];by_cases hz:0<(T0++r.1).length
     ·have CC:=U1 (ls:=[T0,r.1]) (t:=T0++r.1) (n:=2) (by simp) rfl rfl hz (by rw[Zb];omega) (by decide);refine⟨[],_,_,_,_,CC,?_,rfl,?_⟩
      ·exact congrArg (fun z=>[V.zz 1 2 [z,V.z r.1.length (bv r.1)]]) (ml T0)
      exact⟨.ret (cf (T0++r.1,0)),[],⟨_,rfl,[],congrArg (fun z=>V.t [z,i64 0]) (ml _),tq⟩,.ret (.refl _),.nil⟩
     ·have hz0:=Z7.1 (Zg (Z5 hz));refine⟨[],_,_,_,_,sW,?_,rfl,?_⟩
      ·show[V.zz 1 2 [V.z (T0).length (sub (bv T0) 0 (T0).length),V.z r.1.length (bv r.1)]]=_;rw[ml,hz0.2,show T0=[] from hz0.1];rfl
      refine⟨.ret (cf ([],0)),[],⟨_,rfl,[],rfl,tq⟩,?_,.nil⟩;rw[hz0.2,show T0=[] from hz0.1];exact .ret (.refl _)
theorem Yv {t key s k xs rs} (h:i6 t key s k xs rs) {mode pad:Int} {back:Bool} {m:Nat} {iv msg:Bs} (ok:C0 s mode pad iv) (hmm:msg.length=m) (hmb:m<=100000):
  a7 C 16 [D7 t mode pad back,.z key.length (bv key),.z iv.length (bv iv),.z m (bv msg)] [] (.ret (cf (E3 (cF t key false) (cF t key true) s mode pad back iv msg))) []:=by
 have hs:=h.s_le;have hci:=h.ci;obtain⟨o1,o2,o3,o4⟩:=ok;have ok:C0 s mode pad iv:=⟨o1,o2,o3,o4⟩;by_cases hm7:7<=mode
 ·have e0:E3 (cF t key false) (cF t key true) s mode pad back iv msg=M0 (cF t key false) (cF t key true) s mode back iv msg:=by unfold E3;rw[if_pos hm7]
  by_cases hms:s<=m
  ·have hi:iv.length=s:=by rw[o4,if_neg (by omega)]
   have e1:M0 (cF t key false) (cF t key true) s mode back iv msg=((M0 (cF t key false) (cF t key true) s mode back iv msg).1,0):=by
    refine Prod.ext rfl ?_;unfold M0;rw[if_neg (by omega)]
   have hl:(M0 (cF t key false) (cF t key true) s mode back iv msg).1.length=m:=by rw[rj hci (by omega) hi (by omega),hmm]
   exact qO (e0.trans e1) hl (Mh h rfl rfl rfl ok hmm hmb hm7 hms)
  ·have e1:M0 (cF t key false) (cF t key true) s mode back iv msg=([],7):=by unfold M0;rw[if_pos (by omega)]
   exact nI (e0.trans e1) (Mi h rfl ok hm7 (by omega))
 ·have hm6:1<=mode/\mode<=6:=by omega
  have K0:MK s mode ⟨iv,[],[]⟩:=MK.new hm6 (by
   by_cases h1:mode=1
   ·exact .inl h1
   ·rw[if_neg h1]at o4;exact .inr o4)
  by_cases hp4:pad=4
  ·subst hp4;have e0:E3 (cF t key false) (cF t key true) s mode 4 back iv msg=if msg.length%k7 s mode=0 then ((f7 (cF t key false) (cF t key true) s mode back ⟨iv,[],[]⟩ msg).1,0)else ([],7):=by unfold E3;rw[if_neg hm7,if_pos rfl]
   by_cases hg:m%k7 s mode=0
   ·rw[hmm,if_pos hg]at e0;have hl:(f7 (cF t key false) (cF t key true) s mode back ⟨iv,[],[]⟩ msg).1.length=m:=by rw[I3 hci K0.ok (by rw[hmm];exact hg),hmm]
    exact qO e0 hl (Mf h rfl rfl rfl hm6 o4 hmm hmb hg)
   ·rw[hmm,if_neg hg]at e0;exact nI e0 (Md h rfl rfl rfl o4 hmm hmb hm6 hg)
  ·have hm2:1<=mode/\mode<=2:=by omega
   have hp3:pad=1\/pad=2\/pad=3:=by omega
   cases back
   ·have e0:E3 (cF t key false) (cF t key true) s mode pad false iv msg=((f7 (cF t key false) (cF t key true) s mode false ⟨iv,[],[]⟩ (L9 pad s msg)).1,0):=by unfold E3;rw[if_neg hm7,if_neg hp4,if_pos rfl]
    have lU:(L9 pad s msg).length=m/s*s+s:=by rw[vh (by omega),hmm]
    have hg:(L9 pad s msg).length%k7 s mode=0:=by
     rw[lU];unfold k7;rw[if_pos (by omega),Nat.add_mod_right,Nat.mul_mod_left]
    have hl:(f7 (cF t key false) (cF t key true) s mode false ⟨iv,[],[]⟩ (L9 pad s msg)).1.length=m/s*s+s:=by rw[I3 hci K0.ok hg,lU]
    exact qO e0 hl (Mg h rfl rfl rfl o4 hmm hmb hm2 hp3)
   ·by_cases h0:m=0\/m%s≠0
    ·have e0:E3 (cF t key false) (cF t key true) s mode pad true iv msg=([],7):=by unfold E3;rw[if_neg hm7,if_neg hp4,if_neg (by decide),hmm,if_pos h0]
     by_cases hz:m=0
     ·exact nI e0 (Ma h rfl rfl rfl o4 hmm hmb hm2 hp3 hz)
     ·exact nI e0 (Mb h rfl rfl rfl o4 hmm hmb hm2 hp3 (h0.resolve_left hz))
    ·have hpos:0<m:=by omega
     have hz:m%s=0:=Classical.byContradiction fun x=>h0 (.inr x);have hsm:s<=m:=Nat.le_of_dvd hpos (Nat.dvd_of_mod_eq_zero hz);have hg:m%k7 s mode=0:=by unfold k7;rw[if_pos (by omega)];exact hz
     have lo:(f7 (cF t key false) (cF t key true) s mode true ⟨iv,[],[]⟩ msg).1.length=m:=by rw[I3 hci K0.ok (by rw[hmm];exact hg),hmm]
     have e0:E3 (cF t key false) (cF t key true) s mode pad true iv msg=if E7 pad ((f7 (cF t key false) (cF t key true) s mode true ⟨iv,[],[]⟩ msg).1.drop (m-s))=0 then ([],8)else ((f7 (cF t key false) (cF t key true) s mode true ⟨iv,[],[]⟩ msg).1.take (m-s)++U7 pad ((f7 (cF t key false) (cF t key true) s mode true ⟨iv,[],[]⟩ msg).1.drop (m-s)),0):=by
      unfold E3;rw[if_neg hm7,if_neg hp4,if_neg (by decide),hmm,if_neg h0];simp only[lo]
     by_cases hL:E7 pad ((f7 (cF t key false) (cF t key true) s mode true ⟨iv,[],[]⟩ msg).1.drop (m-s))=0
     ·rw[if_pos hL]at e0;exact nI e0 (Mc h rfl rfl rfl o4 hmm hmb hm2 hp3 hpos hz hL)
     ·rw[if_neg hL]at e0;have P:=Me h (vk:=bv key) (vi:=bv iv) (vm:=bv msg) rfl rfl rfl o4 hmm hmb hm2 hp3 hpos hz hL;have hle:=vo pad ((f7 (cF t key false) (cF t key true) s mode true ⟨iv,[],[]⟩ msg).1.drop (m-s));refine qO e0 ?_ P;rw[Zb];unfold U7;rw[Zi,Zi,Zh,lo];rw[Zh,lo]at hle;omega
theorem zv {t key s k xs rs} (h:i6 t key s k xs rs) {mode pad:Int} {back:Bool} {lk li m:Nat} {iv msg:Bs} {vk vi vm:List Value} (hvk:vk=bv key) (hvi:vi=bv iv) (hvm:vm=bv msg) (hk:key.length=lk) (hi:iv.length=li) (hm:msg.length=m) (hmb:m<=100000) (ok:C0 s mode pad iv):
  a7 C 16 [D7 t mode pad back,.z lk vk,.z li vi,.z m vm] [] (.ret (cf (E3 (cF t key false) (cF t key true) s mode pad back iv msg))) []:=by
 subst hvk;subst hvi;subst hvm;subst hk;subst hi;exact Yv h ok hm hmb
theorem Uw:(E3 (cF 3 (Zq 16 0) false) (cF 3 (Zq 16 0) true) 8 8 4 false (Zq 8 0) [104,101,108,108,111,44,32,116,104,101,114,101]).1≠[104,101,108,108,111,44,32,116,104,101,114,101]:=by decide +kernel
theorem LX {t key s k xs rs} (h:i6 t key s k xs rs) {mode pad:Int} {back:Bool} {lk li m:Nat} {iv b:Bs} (hk:key.length=lk) (hlk:lk<=1000) (hi:iv.length=li) (hb:b.length=m) (hm:m<=1000) (ok:C0 s mode pad iv):
  a7 C 49 [D7 t mode pad back,.z lk (bv key),.z li (bv iv),.zz 1 1 [.z m (bv b)]] [] (.ret (cf (E3 (cF t key false) (cF t key true) s mode pad back iv b))) []:=by
 have hs:=h.s_le;subst hb;have hf:([b]:List (Bs)).flatten=b:=by simp
 obtain⟨r,hr⟩:∃r,r=eU (cF t key false) (cF t key true) s mode pad back (cS t key s mode pad back iv [b].flatten) (cL t key s mode pad back iv [b].flatten) (i9 s mode pad back [b].flatten):=⟨_,rfl⟩;have S:=LY h hk hlk hi ok (ps:=[b]) (by rw[hf];omega) (show 1<=100000 by decide) hr;rw[hf]at hr;obtain⟨e1,e2⟩:=mT (M:=b) h.ci (by omega) ok hr;rw[hf]at S;rw[e1];exact S
theorem KM:a7 C 10 [] [] (.ret (bool true)) []:=by
 obtain⟨z,hz⟩:∃z:Bs,z=Zq 16 0:=⟨_,rfl⟩;obtain⟨z8,hz8⟩:∃z:Bs,z=Zq 8 0:=⟨_,rfl⟩;obtain⟨M,hM⟩:∃M:Bs,M=[104,101,108,108,111,44,32,116,104,101,114,101]:=⟨_,rfl⟩;have lz:z.length=16:=by rw[hz];rfl
 have lz8:z8.length=8:=by rw[hz8];rfl
 have lM:M.length=12:=by rw[hM];rfl
 obtain⟨k,xs,rs,h⟩:=Aa lz;have ok:C0 8 8 4 z8:=⟨by decide,by decide,.inl rfl,by rw[lz8];rfl⟩;have fine:lv 8 8 4 M:=by unfold lv;rw[lM];omega
 obtain⟨p1,p2⟩:=DR (m:=M) h.ci (by omega) ok fine;have inv:=Ys (m:=M) h.ci (by omega) (by omega) ok fine;have ne:(E3 (cF 3 z false) (cF 3 z true) 8 8 4 false z8 M).1≠M:=by rw[hz,hz8,hM];exact Uw
 have P:=zv h (back:=false) (vk:=bv z) (vi:=bv z8) (vm:=bv M) rfl rfl rfl lz lz8 lM (by omega) ok;rw[if_pos rfl,lM]at p2;obtain⟨X,hX⟩:∃X,(E3 (cF 3 z false) (cF 3 z true) 8 8 4 false z8 M).1=X:=⟨_,rfl⟩;have hP:E3 (cF 3 z false) (cF 3 z true) 8 8 4 false z8 M=(X,0):=Prod.ext hX p1;rw[hX]at p2 inv ne;rw[hP]at P;have S:=LX h (back:=true) (b:=X) lz (by omega) lz8 p2 (by omega) ok;rw[inv]at S;have P:a7 C 16 [D7 3 8 4 false,.z 16 (bv z),.z 8 (bv z8),.z 12 (bv M)] [] (.ret (.t [.z 12 (bv X),i64 0])) []:=by
  have:cf (X,0)= .t [.z 12 (bv X),i64 0]:=by show V.t [V.z X.length _,_]=_;rw[p2]
  rw[<-this];exact P
 have S:a7 C 49 [D7 3 8 4 true,.z 16 (bv z),.z 8 (bv z8),.zz 1 1 [.z 12 (bv X)]] [] (.ret (.t [.z 12 (bv M),i64 0])) []:=by
  have:cf (M,0)= .t [.z 12 (bv M),i64 0]:=by show V.t [V.z M.length _,_]=_;rw[lM]
  rw[<-this];exact S
 have CS:a7 C 50 [i64 7] [] (.ret (i64 16)) []:=Q5 (t:=7) (by unfold m8;omega);refine Sj.c ?_;refine⟨Za rfl,?_⟩;refine⟨_,rfl,rfl,?_⟩;refine⟨by decide,by decide,by decide,?_⟩;refine⟨by decide,by decide,by decide,?_⟩;refine⟨[],_,_,_,_,P,?_,rfl,?_⟩
 ·rw[hz,hz8,hM];rfl
 refine⟨Za rfl,?_⟩;refine⟨_,rfl,rfl,?_⟩;refine⟨by decide,by decide,by decide,?_⟩;refine⟨by decide,by decide,by decide,?_⟩;refine⟨[],_,_,_,_,S,?_,rfl,?_⟩
 ·rw[hz,hz8];rfl
 refine⟨by rw[f9,lM],M,rfl,?_⟩;refine bG (by rw[hM];exact beq_self_eq_true _) ?_;refine⟨by rw[f9,p2],X,rfl,?_⟩;refine⟨by rw[f9,lM],M,rfl,?_⟩;refine bG (by show(!((bs X).toList==(bs M).toList))=true;rw[rx,decide_eq_false ne];rfl) ?_;refine⟨[],_,_,_,_,sX,rfl,rfl,?_⟩;refine⟨[],_,_,_,_,CS,rfl,rfl,?_⟩;exact⟨_,rfl,[],rfl,tq⟩
theorem Mw {t key s k xs rs} (h:i6 t key s k xs rs) {mode:Int} {back:Bool} {st:MS} {m:Nat} {vb:List Value} {b:Bs} (hvb:vb=bv b) (hb:b.length=m) (hbm:m<=1000000) (hm:3<=mode) (K:MK s mode st) (hne:0<m\/st.row=[]):
  a7 C 66 [.p (.k 0) 0,.z m vb] [f6 (b9 t k xs) mode back st 1,g9 st.row st.gone] (.ret (.t [.o 1 (.k 2) 0 m,i64 0])) [f6 (b9 t k xs) mode back (A7 (cF t key false) mode back st b).2 3,.dead,.sc (bv (A7 (cF t key false) mode back st b).1),g9 (A7 (cF t key false) mode back st b).2.row (A7 (cF t key false) mode back st b).2.gone]:=by
 subst hvb;have hs:=h.s_le;have hci:=h.ci;have G:=mN h (back:=back) (st:=st) hm;refine iW.w ?_;refine⟨0,Bool×Nat×MS×Bs,CH (b9 t k xs) mode back m b,fun x=>x.2.1<=m/\(A7 (cF t key false) mode back st (b.take x.2.1))=(x.2.2.2,x.2.2.1)/\MK s mode x.2.2.1/\(x.1=false->x.2.1=0),fun x=>m-x.2.1,?_,fun x hx=> ?_⟩
 ·obtain⟨ch,row,g⟩:=st;cases row;all_goals
   refine⟨[.k 0,.k 1],_,_,_,_,G,rfl,rfl,?_⟩;refine⟨by decide,?_⟩;refine c9 (fun h=>absurd h (by rw[Int.tmod_one];decide)) (fun _=> ?_);refine⟨by decide,by omega,by omega,?_⟩;exact⟨[],(false,0,_,[]),⟨Zp _,rfl,K,fun _=>rfl⟩,[.k 0,.k 1,.d 17 0],⟨rfl,rfl,rfl,rfl,tq⟩,⟨_,rfl,rfl⟩,⟨_,rfl,rfl⟩,⟨_,rfl,rfl⟩,tq⟩
 ·obtain⟨f,i,⟨ch,row,g⟩,o⟩:=x;obtain⟨h1,h2,h3,h4⟩:=hx;dsimp only at h1 h2 h3 h4;cases f
  ·obtain rfl:=h4 rfl;have e:(([]:Bs),st)=(o,⟨ch,row,g⟩):=h2;obtain⟨rfl,rfl⟩:=Prod.mk.inj e;refine j7 (fun h0=> ?_) (fun h0=> ?_)
   ·obtain rfl:m=0:=by omega
    obtain rfl:=Zg hb;obtain rfl:row=[]:=hne.resolve_left (by omega);exact⟨.ret (.t [.o 1 (.k 2) 0 0,i64 0]),[f6 (b9 t k xs) mode back ⟨ch,[],g⟩ 3,.dead,.sc []],⟨_,rfl,[.k 0,.k 1,.k 2],rfl,⟨_,rfl,rfl⟩,⟨_,rfl,rfl⟩,⟨_,rfl,rfl⟩,tq⟩,.ret (.refl _),.cons (.refl _) (.cons (.refl _) (.cons (.refl _) (.dd .nil)))⟩
   ·have HB:=oL h (back:=back) (p:=b.getD 0 0) hm K;have hN:=K.one hci (by omega) hm (back:=back) (b.getD 0 0);have hT:A7 (cF t key false) mode back ⟨ch,row,g⟩ (b.take (0+1))=([(x6 (cF t key false) mode back ⟨ch,row,g⟩ (b.getD 0 0)).1],(x6 (cF t key false) mode back ⟨ch,row,g⟩ (b.getD 0 0)).2):=by
     rw[rE (by omega),nC];rfl
    generalize x6 (cF t key false) mode back ⟨ch,row,g⟩ (b.getD 0 0)=x at*
    obtain⟨o',⟨ch',row',g'⟩⟩:=x;dsimp only at HB hN hT;have hsl:sub (bv b) 1 (m-1)=bv (b.drop 1):=p8 hb (by omega);cases row<;>cases row'<;>(
     refine⟨by omega,by omega,_,A1 (k:=b) (i:=0) (by omega),?_⟩;refine⟨[.k 0,.k 1],_,_,_,_,HB,rfl,rfl,?_⟩;refine⟨Ze _,by omega,by decide,?_⟩;refine⟨by omega,by omega,by omega,by omega,?_⟩;exact⟨rfl,(true,0+1,⟨ch',_,g'⟩,[o']),⟨by show 0+1<=m;omega,hT,hN,fun h=>by cases h⟩,(by show m-(0+1)<m-0;omega),[.k 0,.k 1,.d 38 2,.d 40 0],⟨rfl,congrArg (V.z _) hsl,rfl,rfl,tq⟩,⟨_,rfl,rfl⟩,⟨_,rfl,rfl⟩,⟨_,rfl,rfl⟩,⟨_,rfl,d9 (kM rfl)⟩,tq⟩)
  ·have lo:o.length=i:=by
    have:=qz (cF t key false) mode back (b.take i) st;rw[h2,Zi]at this;dsimp only at this;omega
   refine j7 (fun h0=> ?_) (fun h0=> ?_)
   ·obtain rfl:i=m:=by omega
    rw[Z6 (by omega)]at h2;rw[h2];rcases row with _|⟨a,r⟩
    ·exact⟨.ret (.t [.o 1 (.k 2) 0 i,i64 0]),[f6 (b9 t k xs) mode back ⟨ch,[],g⟩ 3,.dead,.sc (bv o),g9 [] g],⟨_,rfl,[.k 0,.k 1,.k 3,.k 2],rfl,⟨_,rfl,rfl⟩,⟨_,rfl,rfl⟩,⟨_,rfl,rfl⟩,⟨_,rfl,rfl⟩,tq⟩,.ret (.refl _),.cons (.refl _) (.cons (.refl _) (.cons (.refl _) (.cons (.refl _) .nil)))⟩
    ·exact⟨.ret (.t [.o 1 (.k 2) 0 i,i64 0]),[f6 (b9 t k xs) mode back ⟨ch,a::r,g⟩ 3,.dead,.sc (bv o),g9 (a::r) g],⟨_,rfl,[.k 0,.k 1,.k 3,.k 2],rfl,⟨_,rfl,rfl⟩,⟨_,rfl,rfl⟩,⟨_,rfl,rfl⟩,⟨_,rfl,rfl⟩,tq⟩,.ret (.refl _),.cons (.refl _) (.cons (.refl _) (.cons (.refl _) (.cons (.refl _) .nil)))⟩
   ·have lt:i<m:=by omega
    have ld:(b.drop i).length=m-i:=by rw[Zh,hb]
    have HB:=oL h (back:=back) (p:=(b.drop i).getD 0 0) hm h3;have hN:=h3.one hci (by omega) hm (back:=back) ((b.drop i).getD 0 0);have hT:A7 (cF t key false) mode back st (b.take (i+1))=(o++[(x6 (cF t key false) mode back ⟨ch,row,g⟩ ((b.drop i).getD 0 0)).1],(x6 (cF t key false) mode back ⟨ch,row,g⟩ ((b.drop i).getD 0 0)).2):=by
     rw[rE (by omega),nC,h2]
    generalize x6 (cF t key false) mode back ⟨ch,row,g⟩ ((b.drop i).getD 0 0)=x at*
    obtain⟨o',⟨ch',row',g'⟩⟩:=x;dsimp only at HB hN hT;have hsl:sub (bv (b.drop i)) 1 (m-i-1)=bv (b.drop (i+1)):=by rw[p8 ld (by omega),List.drop_drop]
    cases row<;>cases row'<;>(
     refine⟨by omega,by omega,_,A1 (k:=b.drop i) (i:=0) (by omega),?_⟩;refine⟨[.k 0,.k 2],_,_,_,_,HB,rfl,rfl,?_⟩;refine⟨Ze _,by omega,by rw[f9,lo];omega,?_⟩;refine⟨by omega,by omega,by omega,by omega,?_⟩;exact⟨rfl,(true,i+1,⟨ch',_,g'⟩,o++[o']),⟨by show i+1<=m;omega,hT,hN,fun h=>by cases h⟩,(by show m-(i+1)<m-i;omega),[.k 0,.k 1,.d 38 2,.d 40 0],⟨rfl,congrArg (V.z _) hsl,rfl,rfl,tq⟩,⟨_,rfl,rfl⟩,⟨_,rfl,rfl⟩,⟨_,rfl,rfl⟩,⟨_,rfl,d9 (jk lo rfl)⟩,tq⟩)
theorem Mx {t key s k xs rs} (h:i6 t key s k xs rs) {mode:Int} {back:Bool} {st:MS} {vb:List Value} (hm:3<=mode):
  a7 C 66 [.p (.k 0) 0,.z 0 vb] [f6 (b9 t k xs) mode back st 1,g9 st.row st.gone] (.ret (.t [.o 1 (.k 2) 0 0,i64 0])) [f6 (b9 t k xs) mode back st 1,g9 st.row st.gone,.sc []]:=by
 have G:=mN h (back:=back) (st:=st) hm;refine iW.c ?_;refine⟨0,Unit,fun _=>⟨[(0,.p (.k 0) 0),(1,.z 0 vb),(6,i64 1),(7,.o 1 (.k 2) 0 0)],[f6 (b9 t k xs) mode back st 1,g9 st.row st.gone,.sc []]⟩,fun _=>True,fun _=>0,?_,fun x hx=> ?_⟩
 ·obtain⟨ch,row,g⟩:=st;cases row;all_goals
   refine⟨[.k 0,.k 1],_,_,_,_,G,rfl,rfl,?_⟩;refine⟨by decide,?_⟩;refine⟨by decide,by omega,by omega,?_⟩;exact⟨[],(),tq,[.k 0,.k 1,.d 17 0],⟨rfl,rfl,rfl,rfl,tq⟩,⟨_,rfl,rfl⟩,⟨_,rfl,rfl⟩,⟨_,rfl,rfl⟩,tq⟩
 ·obtain⟨ch,row,g⟩:=st;cases row;all_goals
   exact⟨_,rfl,[.k 0,.k 1,.k 2],rfl,⟨_,rfl,rfl⟩,⟨_,rfl,rfl⟩,⟨_,rfl,rfl⟩,tq⟩
theorem Mu {t key s k xs rs} (h:i6 t key s k xs rs) {mode:Int} {back:Bool} {c m:Nat} {vb:List Value} {ch b:Bs} (hvb:vb=bv b) (hb:b.length=m) (hbm:m<=1000000) (hm:mode=1\/mode=2/\c=s) (hc:ch.length=c) (hg:m%s=0):
  a7 C 66 [.p (.k 0) 0,.z m vb] [.mx [b9 t k xs,i64 mode,bool back,.z c (bv ch),.z 0 [],.u],.dead] (.ret (.t [.o 1 (.k 2) 0 m,i64 0])) [.mx [b9 t k xs,i64 mode,bool back,.z c (bv (q6 (cF t key false) (cF t key true) mode back s b ch (m/s)).2),.z 0 [],.u],.dead,.sc (bv (q6 (cF t key false) (cF t key true) mode back s b ch (m/s)).1),.dead]:=by
 subst hvb;have hs:=h.s_le;have hci:=h.ci;have hdm:=Nat.div_add_mod m s;have hm12:mode=1\/mode=2:=by omega
 have G:=sZ h (back:=back) (c:=c) (vc:=bv ch) hm12;refine iW.w ?_;refine⟨0,Nat×Nat×Bs×Bs,CG (b9 t k xs) mode back m s c b,fun x=>x.2.1=s*x.1/\x.2.1<=m/\q6 (cF t key false) (cF t key true) mode back s b ch x.1=(x.2.2.1,x.2.2.2)/\x.2.2.1.length=x.2.1/\x.2.2.2.length=c,fun x=>m-x.2.1,?_,fun x hx=> ?_⟩
 ·refine⟨[.k 0],_,_,_,_,G,rfl,rfl,?_⟩;refine⟨by omega,?_⟩;refine c9 (fun h=>absurd h ?_) (fun _=> ?_)
  ·have:((m:Int).tmod (s:Int))=((m%s:Nat):Int):=by rw[Zj (by omega)];rfl
   rw[this,hg];decide
  refine⟨by decide,by omega,by omega,?_⟩;exact⟨[],(0,0,[],ch),⟨by show 0=s*0;omega,Zp _,rfl,rfl,hc⟩,[.k 0,.k 1,.d 17 0],⟨rfl,rfl,rfl,rfl,tq⟩,⟨_,rfl,rfl⟩,⟨_,rfl,rfl⟩,⟨_,rfl,rfl⟩,tq⟩
 ·obtain⟨i,q,o,c'⟩:=x;obtain⟨h1,h2,h3,h4,h5⟩:=hx;dsimp only at h1 h2 h3 h4 h5;have ld:(b.drop q).length=m-q:=by rw[Zh,hb]
  refine j7 (fun h0=> ?_) (fun h0=> ?_)
  ·obtain rfl:q=m:=by omega
   have hi:q/s=i:=by rw[h1,Nat.mul_div_cancel_left _ (by omega)]
   rw[hi,h3];exact⟨.ret (.t [.o 1 (.k 2) 0 q,i64 0]),[.mx [b9 t k xs,i64 mode,bool back,.z c (bv c'),.z 0 [],.u],.dead,.sc (bv o)],⟨_,rfl,[.k 0,.k 1,.k 2],rfl,⟨_,rfl,rfl⟩,⟨_,rfl,rfl⟩,⟨_,rfl,rfl⟩,tq⟩,.ret (.refl _),.cons (.refl _) (.cons (.refl _) (.cons (.refl _) (.dd .nil)))⟩
  ·have hq:q+s<=m:=by
    have e1:m=s*(m/s):=by omega
    have:i<m/s:=by
     refine Nat.lt_of_mul_lt_mul_left (a:=s) ?_;omega
    have:=Zl s this;rw[Zw]at this;omega
   have lp:(sub b q s).length=s:=by rw[j4];omega
   have hvp:sub (bv (b.drop q)) 0 s=bv (sub b q s):=l4 _ _ _;have hn:q6 (cF t key false) (cF t key true) mode back s b ch (i+1)=(o++(D1 (cF t key false) (cF t key true) mode back c' (sub b q s)).1,(D1 (cF t key false) (cF t key true) mode back c' (sub b q s)).2):=by
    rw[gQ,h3,<-h1]
   have HB:=yf h (mode:=mode) (back:=back) hvp rfl lp h5 hm;have hl:=nA (back:=back) hci hm12 (c:=c') (p:=sub b q s) (by omega) lp;have hl2:(D1 (cF t key false) (cF t key true) mode back c' (sub b q s)).2.length=c:=by
    rcases hm with rfl|⟨rfl,rfl⟩
    ·rw[<-h5];rfl
    ·exact hl.2.resolve_left (by decide)
   have hl1:=hl.1;generalize D1 (cF t key false) (cF t key true) mode back c' (sub b q s)=x at*
   obtain⟨o',c2⟩:=x;dsimp only at HB hn hl1 hl2;have hsl:sub (bv (b.drop q)) s (m-q-s)=bv (b.drop (q+s)):=by rw[p8 ld (by omega),List.drop_drop]
   refine j7 (fun h=>absurd h (by omega)) (fun _=> ?_);refine⟨by omega,by omega,by omega,by omega,?_⟩;refine⟨[.k 0],_,_,_,_,HB,rfl,rfl,?_⟩;refine⟨by first|omega|(rw [f9];omega),by omega,by rw[f9,h4];omega,?_⟩;refine⟨by omega,by omega,by omega,by omega,?_⟩;refine⟨rfl,(i+1,q+s,o++o',c2),⟨by show q+s=s*(i+1);rw[Zw];omega,hq,hn,by rw[Zb,h4,hl1],hl2⟩,(by show m-(q+s)<m-q;omega),[.k 0,.k 1,.d 24 0],⟨rfl,?_,rfl,rfl,tq⟩,⟨_,rfl,rfl⟩,⟨_,rfl,rfl⟩,⟨_,rfl,d9 ?_⟩,tq⟩
   ·show V.z (m-q-s) (sub (bv (b.drop q)) s (m-q-s))=V.z (m-(q+s)) _;rw[hsl,Nat.sub_sub]
   ·show sub (bv o) 0 (q*1)++bv o'=_;rw[Zd,b8 h4,x5]
theorem Mr {t key s k xs rs} (h:i6 t key s k xs rs) {mode:Int} {back:Bool} {st:MS} {m:Nat} {vb:List Value} {b:Bs} (hvb:vb=bv b) (hb:b.length=m) (hbm:m<=1000000) (K:MK s mode st) (hg:m%k7 s mode=0) (hne:0<m\/st.row=[]):
  a7 C 66 [.p (.k 0) 0,.z m vb] [f6 (b9 t k xs) mode back st 1,g9 st.row st.gone] (.ret (.t [.o 1 (.k 2) 0 m,i64 0])) [f6 (b9 t k xs) mode back (f7 (cF t key false) (cF t key true) s mode back st b).2 3,.dead,.sc (bv (f7 (cF t key false) (cF t key true) s mode back st b).1),g9 (f7 (cF t key false) (cF t key true) s mode back st b).2.row (f7 (cF t key false) (cF t key true) s mode back st b).2.gone]:=by
 by_cases hm:mode=1\/mode=2
 ·have hr:=K.ok.blk hm;have hc:=K.ok.ch;obtain⟨ch,row,g⟩:=st;dsimp only at hr hc;subst hr;have e:f7 (cF t key false) (cF t key true) s mode back ⟨ch,[],g⟩ b=((q6 (cF t key false) (cF t key true) mode back s b ch (m/s)).1,⟨(q6 (cF t key false) (cF t key true) mode back s b ch (m/s)).2,[],g⟩):=by
   unfold f7;rw[if_pos hm,hb]
  have hg':m%s=0:=by unfold k7 at hg;rwa [if_pos hm]at hg
  have hdm:=Nat.div_add_mod m s;have hl:=Cv (back:=back) h.ci (b:=b) (c:=ch) (i:=m/s) (mode:=mode) (by omega) (by omega);have HB:=Mu h (back:=back) hvb hb hbm (ch:=ch) (c:=ch.length) (mode:=mode) (by omega) rfl hg';rw[e];show a7 C 66 [.p (.k 0) 0,.z m vb] [.mx [b9 t k xs,i64 mode,bool back,.z ch.length (bv ch),.z 0 [],.u],.dead] _ [.mx [b9 t k xs,i64 mode,bool back,.z (q6 (cF t key false) (cF t key true) mode back s b ch (m/s)).2.length (bv (q6 (cF t key false) (cF t key true) mode back s b ch (m/s)).2),.z 0 [],.u],.dead,.sc (bv (q6 (cF t key false) (cF t key true) mode back s b ch (m/s)).1),.dead];rw[hl];exact HB
 ·have e:f7 (cF t key false) (cF t key true) s mode back st b=A7 (cF t key false) mode back st b:=by
   unfold f7;rw[if_neg hm]
  rw[e];exact Mw h hvb hb hbm (by have:=K.ok.m;omega) K hne
theorem IX {t key s k xs rs} (h:i6 t key s k xs rs) {mode pad md:Int} {op back:Bool} {iv a8 H b:Bs} {st:MS} {m:Nat} (hb:b.length=m) (hmb:m<=100000) (K:MK s md st) (hm:mode<=9) (hg:m%k7 s md=0) (hne:0<m\/st.row=[]):
  a7 C 97 [.p (.k 0) 0,.z m (bv b)] [k9 op t mode pad back k xs iv (.f H) a8,f6 (b9 t k xs) md back st 2,g9 st.row st.gone,.dead]
   (.ret (.o 1 (.k 5) 0 m))
   [k9 op t mode pad back k xs iv (.f H) (C1 s mode back b (f7 (cF t key false) (cF t key true) s md back st b).1 a8),f6 (b9 t k xs) md back (f7 (cF t key false) (cF t key true) s md back st b).2 4,.dead,.dead,g9 (f7 (cF t key false) (cF t key true) s md back st b).2.row (f7 (cF t key false) (cF t key true) s md back st b).2.gone,.sc (bv (f7 (cF t key false) (cF t key true) s md back st b).1)]:=by
 have hs:=h.s_le;have lo:(f7 (cF t key false) (cF t key true) s md back st b).1.length=m:=by rw[I3 h.ci K.ok (by rw[hb];exact hg),hb]
 have T0:=Mr h (back:=back) (st:=st) (b:=b) rfl hb (by omega) K hg hne;have S:=fun(st':MS)=>mK (t:=t) (mode:=mode) (pad:=pad) (md:=md) (op:=op) (back:=back) (k:=k) (xs:=xs) (iv:=iv) (a8:=a8) (st:=st') (x:= .f H) hm;generalize f7 (cF t key false) (cF t key true) s md back st b=S0 at*
 obtain⟨o,st1⟩:=S0;have S1:=S st1;obtain⟨c1,row1,g1⟩:=st1;dsimp only at T0 lo ⊢;have eS:I6.wrap ((m:Int)-(s:Int))=(m:Int)-s:=Zc _ (by omega);by_cases hL:7<=mode/\s<=m
 ·have eL:C1 s mode back b o a8=(if back then b else o).drop (m-s):=by unfold C1;rw[hb,if_pos hL]
  rw[eL];cases back;all_goals
   obtain⟨ch,row,g⟩:=st;rcases row with _|⟨a,r⟩<;>rcases row1 with _|⟨a1,r1⟩
  all_goals
   refine dR.c ?_;refine⟨_,rfl,?_⟩;refine⟨[.k 1,.k 2],_,_,_,_,T0,rfl,rfl,?_⟩;refine⟨[],_,_,_,_,bU,rfl,rfl,?_⟩;refine⟨_,rfl,?_⟩;refine⟨[],_,_,_,_,h.size,rfl,rfl,?_⟩;refine⟨[.k 0,.k 1,.d 15 3,.k 3],_,_,_,_,S1,rfl,rfl,?_⟩;refine c9 (fun h7=> ?_) (fun h7=>absurd hL.1 h7);refine c9 (fun h7=> ?_) (fun h7=>absurd hL.2 (by omega));refine⟨_,rfl,?_⟩;refine⟨by rw[eS];omega,by rw[eS];omega,by omega,by omega,?_⟩;first
    |refine⟨[],_,_,_,_,cM (n:=s) (l:=o.drop (m-s)) (va:=bv (o.drop (m-s))) rfl (by rw[Zh,lo];omega) (by omega),?_,rfl,?_⟩
     ·show[V.z (m-(I6.wrap ((m:Int)-(s:Int))).toNat) (sub (bv o) (0+(I6.wrap ((m:Int)-(s:Int))).toNat*1) (m-(I6.wrap ((m:Int)-(s:Int))).toNat))]=_;rw[eS,show((m:Int)-s).toNat=m-s by omega,Zd,Zm,p8 lo (by omega),show m-(m-s)=s by omega]
     refine⟨Za rfl,?_⟩;refine⟨_,rfl,[.k 0,.k 1,.k 2,.k 3,.d 15 3,.d 15 2],rfl,⟨_,rfl,?_⟩,⟨_,rfl,rfl⟩,⟨_,rfl,rfl⟩,⟨_,rfl,rfl⟩,⟨_,rfl,rfl⟩,⟨_,rfl,rfl⟩,tq⟩;have ll:(o.drop (m-s)).length=s:=by rw[Zh,lo];omega
     show p9 true op t mode pad false (b9 t k xs) (.z iv.length (bv iv)) (.p (.k 1) 0) (HK.f H).v (.z s (sub (bv (o.drop (m-s))) 0 s))=k9 op t mode pad false k xs iv (.f H) (o.drop (m-s));rw[b8 ll];unfold k9;rw[ll]
    |refine⟨[],_,_,_,_,cM (n:=s) (l:=b.drop (m-s)) (va:=bv (b.drop (m-s))) rfl (by rw[Zh,hb];omega) (by omega),?_,rfl,?_⟩
     ·show[V.z (m-(I6.wrap ((m:Int)-(s:Int))).toNat) (sub (bv b) (I6.wrap ((m:Int)-(s:Int))).toNat (m-(I6.wrap ((m:Int)-(s:Int))).toNat))]=_;rw[eS,show((m:Int)-s).toNat=m-s by omega,p8 hb (by omega),show m-(m-s)=s by omega]
     refine⟨Za rfl,?_⟩;refine⟨_,rfl,[.k 0,.k 1,.k 2,.k 3,.d 15 3,.d 15 2],rfl,⟨_,rfl,?_⟩,⟨_,rfl,rfl⟩,⟨_,rfl,rfl⟩,⟨_,rfl,rfl⟩,⟨_,rfl,rfl⟩,⟨_,rfl,rfl⟩,tq⟩;have ll:(b.drop (m-s)).length=s:=by rw[Zh,hb];omega
     show p9 true op t mode pad true (b9 t k xs) (.z iv.length (bv iv)) (.p (.k 1) 0) (HK.f H).v (.z s (sub (bv (b.drop (m-s))) 0 s))=k9 op t mode pad true k xs iv (.f H) (b.drop (m-s));rw[b8 ll];unfold k9;rw[ll]
 ·have eL:C1 s mode back b o a8=a8:=by unfold C1;rw[hb,if_neg hL]
  rw[eL];obtain⟨ch,row,g⟩:=st;rcases row with _|⟨a,r⟩<;>rcases row1 with _|⟨a1,r1⟩;all_goals
   refine dR.c ?_;refine⟨_,rfl,?_⟩;refine⟨[.k 1,.k 2],_,_,_,_,T0,rfl,rfl,?_⟩;refine⟨[],_,_,_,_,bU,rfl,rfl,?_⟩;refine⟨_,rfl,?_⟩;refine⟨[],_,_,_,_,h.size,rfl,rfl,?_⟩;refine⟨[.k 0,.k 1,.d 15 3,.k 3],_,_,_,_,S1,rfl,rfl,?_⟩;refine c9 (fun h7=> ?_) (fun h7=> ?_)
   ·refine c9 (fun h8=>absurd ⟨h7,by omega⟩ hL) (fun h8=> ?_);exact⟨_,rfl,[.k 0,.k 1,.k 2,.k 3,.d 15 3,.d 15 2],rfl,⟨_,rfl,rfl⟩,⟨_,rfl,rfl⟩,⟨_,rfl,rfl⟩,⟨_,rfl,rfl⟩,⟨_,rfl,rfl⟩,⟨_,rfl,rfl⟩,tq⟩
   ·exact⟨_,rfl,[.k 0,.k 1,.k 2,.k 3,.d 15 3,.d 15 2],rfl,⟨_,rfl,rfl⟩,⟨_,rfl,rfl⟩,⟨_,rfl,rfl⟩,⟨_,rfl,rfl⟩,⟨_,rfl,rfl⟩,⟨_,rfl,rfl⟩,tq⟩
theorem JC {t key s k xs rs} (h:i6 t key s k xs rs) {mode pad md:Int} {back:Bool} {iv a8 b:Bs} {st:MS} {x:HK} {m L n0 at':Nat} (hx:x= .n\/∃H,x= .o H) (hb:b.length=m) (hL:x.l.length+m=L) (hLb:L<=100000) (K:MK s md st) (hm:mode<=9)
  (hN:n0=B6 (k7 s md) (y3 s md mode pad back) L) (hat:at'=k7 s md*n0) (hne:0<at'\/st.row=[]):
  a7 C 33 [.p (.k 0) 0,.o 1 (.k 4) 0 m] [k9 true t mode pad back k xs iv x a8,f6 (b9 t k xs) md back st 2,g9 st.row st.gone,x.b,.sc (bv b)]
   (.ret (.t [.o 1 (.k 7) 0 at',i64 0]))
   [p9 true true t mode pad back (b9 t k xs) (.z iv.length (bv iv)) (.p (.k 1) 0) (.o 1 (.k 6) 0 (L-at')) (.z (C1 s mode back ((x.l++b).take at') (f7 (cF t key false) (cF t key true) s md back st ((x.l++b).take at')).1 a8).length (bv (C1 s mode back ((x.l++b).take at') (f7 (cF t key false) (cF t key true) s md back st ((x.l++b).take at')).1 a8))),
    f6 (b9 t k xs) md back (f7 (cF t key false) (cF t key true) s md back st ((x.l++b).take at')).2 5,.dead,.dead,.sc (bv b),g9 (f7 (cF t key false) (cF t key true) s md back st ((x.l++b).take at')).2.row (f7 (cF t key false) (cF t key true) s md back st ((x.l++b).take at')).2.gone,.sc (bv ((x.l++b).drop at')),.sc (bv (f7 (cF t key false) (cF t key true) s md back st ((x.l++b).take at')).1)]:=by
 have hs:=h.s_le;have hg0:0<k7 s md:=by unfold k7;split<;>omega
 have hgm:k7 s md-1<=y3 s md mode pad back:=by
  have:=K.ok.m;unfold k7 y3;by_cases h3:3<=md
  ·rw[if_neg (by omega),if_pos h3];omega
  ·rw[if_pos (by omega),if_neg h3];split<;>(try split)<;>omega
 have hle:=kg (L:=L) hg0 hgm;have a9:=fun i=>bn (most:=y3 s md mode pad back) (L:=L) (i:=i) hg0;rw[<-hN]at hle a9;have G:=mO h (back:=back) K;have hz:at'%k7 s md=0:=by rw[hat];exact Nat.mul_mod_right _ _
 have lB:(x.l++b).length=L:=by rw[Zb,hb,hL]
 have lT:((x.l++b).take at').length=at':=by rw[Zi];omega
 have lD:((x.l++b).drop at').length=L-at':=by rw[Zh,lB]
 have NE:=fZ (t:=t) (mode:=mode) (pad:=pad) (md:=md) (back:=back) (k:=k) (xs:=xs) (iv:=iv) (a8:=a8) (st:=st) (x:=x);have MO:∀(n':Nat) (vb:List Value),(∃H:Bs,n'=H.length/\vb=bv H)->a7 C 95 [.p (.k 0) 0] [p9 true true t mode pad back (b9 t k xs) (.z iv.length (bv iv)) (.p (.k 1) 0) (.o 1 (.k 3) 0 n') (.z a8.length (bv a8)),f6 (b9 t k xs) md back st 2,g9 st.row st.gone,.sc vb] (.ret (i64 (y3 s md mode pad back))) [p9 true true t mode pad back (b9 t k xs) (.z iv.length (bv iv)) (.p (.k 1) 0) (.o 1 (.k 3) 0 n') (.z a8.length (bv a8)),f6 (b9 t k xs) md back st 2,g9 st.row st.gone,.sc vb]:=by
  rintro _ _ ⟨H,rfl,rfl⟩;exact oN h (mode:=mode) (pad:=pad) (op:=true) (back:=back) (iv:=iv) (a8:=a8) (x:= .o H) K hm
 have TU:=IX h (op:=true) (back:=back) (pad:=pad) (iv:=iv) (a8:=a8) (H:=x.l++b) (b:=(x.l++b).take at') lT (by omega) K hm hz hne;generalize f7 (cF t key false) (cF t key true) s md back st ((x.l++b).take at')=S0 at*
 obtain⟨o,c1,row1,g1⟩:=S0;dsimp only[k9,HK.v,HK.b]at TU ⊢;rw[lB]at TU;generalize C1 s mode back ((x.l++b).take at') o a8=la at*
 generalize hgr:k7 s md=gr at*
 generalize y3 s md mode pad back=mo at*
 obtain⟨ch,row,g⟩:=st;rcases hx with rfl|⟨H,rfl⟩<;>dsimp only[HK.l,HK.v,HK.b,Zs]at*
 ·have hmL:m=L:=by simpa using hL
  refine gw.d V7 ?_;refine⟨⟨[(0,.p (.k 0) 0),(1,.o 1 (.k 4) 0 m),(4,.p (.k 5) 0),(5,.p (.k 6) 0)],[p9 true true t mode pad back (b9 t k xs) (.z iv.length (bv iv)) (.p (.k 1) 0) (g8) (.z a8.length (bv a8)),f6 (b9 t k xs) md back ⟨ch,row,g⟩ 2,g9 row g,.dead,.sc (bv b),.sc [.slice none 0 0],.sc [.int .i64 0]]⟩,5,6,by decide,⟨[.k 0,.k 1,.k 2,.k 3,.k 4,.d 4 0,.d 5 0],⟨rfl,rfl,rfl,rfl,tq⟩,⟨_,rfl,rfl⟩,⟨_,rfl,by cases row<;>rfl⟩,⟨_,rfl,by cases row<;>rfl⟩,⟨_,rfl,rfl⟩,⟨_,rfl,rfl⟩,⟨_,rfl,rfl⟩,⟨_,rfl,rfl⟩,tq⟩,rfl,rfl,rfl,?_⟩;refine⟨0,Nat,fun i=>⟨[(0,.p (.k 0) 0),(4,.p (.k 5) 0),(5,.p (.k 6) 0),(6,i64 (gr*i:Nat)),(7,i64 mo),(8,i64 gr)],[p9 true true t mode pad back (b9 t k xs) (.z iv.length (bv iv)) (.p (.k 1) 0) (.z L (bv b)) (.z a8.length (bv a8)),f6 (b9 t k xs) md back ⟨ch,row,g⟩ 2,g9 row g,.dead,.sc (bv b),.sc [.slice none 0 0],.sc [.int .i64 0]]⟩,fun i=>i<=n0,fun i=>n0-i,?_,fun i hi=> ?_⟩
  ·rcases row with _|⟨a,r⟩;all_goals
    refine⟨[.k 0,.k 1,.k 2,.k 3],_,_,_,_,NE,rfl,rfl,?_⟩;refine⟨_,rfl,?_⟩;refine⟨by rw[f9,hb];omega,by omega,?_⟩;refine⟨Za rfl,?_⟩;refine⟨[.k 0,.k 1,.k 2,.d 17 0],_,_,_,_,MO (m) (sub (bv b) 0 (m*1)) ⟨b,hb.symm,by rw[Zd];exact b8 hb⟩,rfl,rfl,?_⟩;refine P2 rfl ?_;refine P2 (D0 rfl rfl (D0 rfl rfl (D0 rfl rfl (D0 rfl rfl rfl)))) ?_;refine⟨_,rfl,?_⟩;refine⟨[.k 1,.k 2],_,_,_,_,G,rfl,rfl,?_⟩;refine⟨[],0,Zp _,[.k 0,.k 1,.k 2,.k 3,.k 4,.k 5,.k 6],⟨rfl,rfl,rfl,rfl,rfl,rfl,tq⟩,⟨_,rfl,?_⟩,⟨_,rfl,rfl⟩,⟨_,rfl,rfl⟩,⟨_,rfl,rfl⟩,⟨_,rfl,rfl⟩,⟨_,rfl,rfl⟩,⟨_,rfl,rfl⟩,tq⟩;show p9 true true t mode pad back (b9 t k xs) (.z iv.length (bv iv)) (.p (.k 1) 0) (.z (m) (sub (sub (bv b) 0 (m*1)) 0 (m))) (.z a8.length (bv a8))=_;rw[Zd,b8 hb,b8 hb,hmL]
  ·rcases row with _|⟨a,r⟩<;>rcases row1 with _|⟨a1,r1⟩;all_goals
    have e1:gr*i<=L:=Zr (Zl gr hi) hle;refine⟨_,rfl,?_⟩;refine c9 (fun hc=> ?_) (fun hc=> ?_)
    ·have hc':(mo:Int)<I6.wrap ((L:Int)-((gr*i:Nat):Int)):=hc;rw[Zc _ (by omega)]at hc';have hli:i<n0:=(a9 i).2 (by omega);have hle2:gr*(i+1)<=L:=Zr (Zl gr hli) hle;refine⟨rfl,i+1,hli,Zt _ _ hli,[.k 0,.k 1,.k 2,.k 3,.k 4,.k 5,.k 6],⟨rfl,rfl,rfl,d7 ?_,rfl,rfl,tq⟩,⟨_,rfl,rfl⟩,⟨_,rfl,rfl⟩,⟨_,rfl,rfl⟩,⟨_,rfl,rfl⟩,⟨_,rfl,rfl⟩,⟨_,rfl,rfl⟩,⟨_,rfl,rfl⟩,tq⟩;rw[Zw]at hle2 ⊢;rw[Zc _ (by omega)];omega
    ·have hc':¬(mo:Int)<I6.wrap ((L:Int)-((gr*i:Nat):Int)):=hc;rw[Zc _ (by omega)]at hc';obtain rfl:i=n0:=Zz hi (Zu fun hh=>by have:=(a9 i).1 hh;omega);refine⟨_,rfl,?_⟩;refine⟨by omega,by omega,by omega,by omega,?_⟩;refine⟨[.k 0,.k 1,.k 2,.k 3],_,_,_,_,TU,?_,rfl,?_⟩
     ·show[V.p (.k 0) 0,V.z ((gr*i:Nat):Int).toNat (sub (bv b) 0 ((gr*i:Nat):Int).toNat)]=_;rw[Zf,<-hat];exact congrArg (fun v=>[V.p (.k 0) 0,V.z at' v]) (l4 _ 0 at')
     refine⟨Za rfl,?_⟩;refine⟨_,rfl,?_⟩;refine⟨by omega,by omega,by omega,by omega,?_⟩;refine⟨[],_,_,_,_,cM (n:=L-at') (l:=b.drop at') rfl lD (by omega),?_,rfl,?_⟩
     ·show[V.z (L-((gr*i:Nat):Int).toNat) (sub (bv b) ((gr*i:Nat):Int).toNat (L-((gr*i:Nat):Int).toNat))]=_;rw[Zf,<-hat,p8 lB (by omega)]
     refine⟨Za rfl,?_⟩;refine⟨_,rfl,?_⟩;refine⟨Za rfl,?_⟩;refine⟨Za rfl,?_⟩;refine⟨_,rfl,_,rfl,?_⟩;refine⟨_,_,?_,.ret (.refl _),F4.refl _⟩;exact⟨_,rfl,[.k 0,.k 1,.k 2,.k 3,.k 4,.d 46 4,.d 54 0,.d 46 5],rfl,⟨_,rfl,rfl⟩,⟨_,rfl,rfl⟩,⟨_,rfl,rfl⟩,⟨_,rfl,rfl⟩,⟨_,rfl,rfl⟩,⟨_,rfl,rfl⟩,⟨_,rfl,rfl⟩,⟨_,rfl,rfl⟩,tq⟩
 ·refine gw.d V7 ?_;refine⟨⟨[(0,.p (.k 0) 0),(1,.o 1 (.k 4) 0 m),(4,.p (.k 5) 0),(5,.p (.k 6) 0)],[p9 true true t mode pad back (b9 t k xs) (.z iv.length (bv iv)) (.p (.k 1) 0) (.o 1 (.k 3) 0 H.length) (.z a8.length (bv a8)),f6 (b9 t k xs) md back ⟨ch,row,g⟩ 2,g9 row g,.sc (bv H),.sc (bv b),.sc [.slice none 0 0],.sc [.int .i64 0]]⟩,5,6,by decide,⟨[.k 0,.k 1,.k 2,.k 3,.k 4,.d 4 0,.d 5 0],⟨rfl,rfl,rfl,rfl,tq⟩,⟨_,rfl,rfl⟩,⟨_,rfl,by cases row<;>rfl⟩,⟨_,rfl,by cases row<;>rfl⟩,⟨_,rfl,rfl⟩,⟨_,rfl,rfl⟩,⟨_,rfl,rfl⟩,⟨_,rfl,rfl⟩,tq⟩,rfl,rfl,rfl,?_⟩;refine⟨0,Nat,fun i=>⟨[(0,.p (.k 0) 0),(4,.p (.k 5) 0),(5,.p (.k 6) 0),(6,i64 (gr*i:Nat)),(7,i64 mo),(8,i64 gr)],[p9 true true t mode pad back (b9 t k xs) (.z iv.length (bv iv)) (.p (.k 1) 0) (.z L (bv (H++b))) (.z a8.length (bv a8)),f6 (b9 t k xs) md back ⟨ch,row,g⟩ 2,g9 row g,.dead,.sc (bv b),.sc [.slice none 0 0],.sc [.int .i64 0]]⟩,fun i=>i<=n0,fun i=>n0-i,?_,fun i hi=> ?_⟩
  ·rcases row with _|⟨a,r⟩;all_goals
    refine⟨[.k 0,.k 1,.k 2,.k 3],_,_,_,_,NE,rfl,rfl,?_⟩;refine⟨_,rfl,?_⟩;refine⟨by rw[f9,hb];omega,by omega,by rw[f9];omega,?_⟩;refine⟨Za rfl,?_⟩;refine⟨[.k 0,.k 1,.k 2,.d 17 0],_,_,_,_,MO (H.length+m) (sub (bv H) 0 (H.length*1)++sub (bv b) 0 (m*1)) ⟨(H++b),by rw[Zb,hb],by rw[Zd,Zd,b8 rfl,b8 hb,x5]⟩,rfl,rfl,?_⟩;refine P2 rfl ?_;refine P2 (D0 rfl rfl (D0 rfl rfl (D0 rfl rfl (D0 rfl rfl rfl)))) ?_;refine⟨_,rfl,?_⟩;refine⟨[.k 1,.k 2],_,_,_,_,G,rfl,rfl,?_⟩;refine⟨[],0,Zp _,[.k 0,.k 1,.k 2,.k 3,.k 4,.k 5,.k 6],⟨rfl,rfl,rfl,rfl,rfl,rfl,tq⟩,⟨_,rfl,?_⟩,⟨_,rfl,rfl⟩,⟨_,rfl,rfl⟩,⟨_,rfl,rfl⟩,⟨_,rfl,rfl⟩,⟨_,rfl,rfl⟩,⟨_,rfl,rfl⟩,tq⟩;show p9 true true t mode pad back (b9 t k xs) (.z iv.length (bv iv)) (.p (.k 1) 0) (.z (H.length+m) (sub (sub (bv H) 0 (H.length*1)++sub (bv b) 0 (m*1)) 0 (H.length+m))) (.z a8.length (bv a8))=_;rw[Zd,Zd,b8 rfl,b8 hb,x5,b8 (by rw[Zb,hb]),hL]
  ·rcases row with _|⟨a,r⟩<;>rcases row1 with _|⟨a1,r1⟩;all_goals
    have e1:gr*i<=L:=Zr (Zl gr hi) hle;refine⟨_,rfl,?_⟩;refine c9 (fun hc=> ?_) (fun hc=> ?_)
    ·have hc':(mo:Int)<I6.wrap ((L:Int)-((gr*i:Nat):Int)):=hc;rw[Zc _ (by omega)]at hc';have hli:i<n0:=(a9 i).2 (by omega);have hle2:gr*(i+1)<=L:=Zr (Zl gr hli) hle;refine⟨rfl,i+1,hli,Zt _ _ hli,[.k 0,.k 1,.k 2,.k 3,.k 4,.k 5,.k 6],⟨rfl,rfl,rfl,d7 ?_,rfl,rfl,tq⟩,⟨_,rfl,rfl⟩,⟨_,rfl,rfl⟩,⟨_,rfl,rfl⟩,⟨_,rfl,rfl⟩,⟨_,rfl,rfl⟩,⟨_,rfl,rfl⟩,⟨_,rfl,rfl⟩,tq⟩;rw[Zw]at hle2 ⊢;rw[Zc _ (by omega)];omega
    ·have hc':¬(mo:Int)<I6.wrap ((L:Int)-((gr*i:Nat):Int)):=hc;rw[Zc _ (by omega)]at hc';obtain rfl:i=n0:=Zz hi (Zu fun hh=>by have:=(a9 i).1 hh;omega);refine⟨_,rfl,?_⟩;refine⟨by omega,by omega,by omega,by omega,?_⟩;refine⟨[.k 0,.k 1,.k 2,.k 3],_,_,_,_,TU,?_,rfl,?_⟩
     ·show[V.p (.k 0) 0,V.z ((gr*i:Nat):Int).toNat (sub (bv (H++b)) 0 ((gr*i:Nat):Int).toNat)]=_;rw[Zf,<-hat];exact congrArg (fun v=>[V.p (.k 0) 0,V.z at' v]) (l4 _ 0 at')
     refine⟨Za rfl,?_⟩;refine⟨_,rfl,?_⟩;refine⟨by omega,by omega,by omega,by omega,?_⟩;refine⟨[],_,_,_,_,cM (n:=L-at') (l:=(H++b).drop at') rfl lD (by omega),?_,rfl,?_⟩
     ·show[V.z (L-((gr*i:Nat):Int).toNat) (sub (bv (H++b)) ((gr*i:Nat):Int).toNat (L-((gr*i:Nat):Int).toNat))]=_;rw[Zf,<-hat,p8 lB (by omega)]
     refine⟨Za rfl,?_⟩;refine⟨_,rfl,?_⟩;refine⟨Za rfl,?_⟩;refine⟨Za rfl,?_⟩;refine⟨_,rfl,_,rfl,?_⟩;refine⟨_,_,?_,.ret (.refl _),F4.refl _⟩;exact⟨_,rfl,[.k 0,.k 1,.k 2,.k 3,.k 4,.d 46 4,.d 54 0,.d 46 5],rfl,⟨_,rfl,rfl⟩,⟨_,rfl,rfl⟩,⟨_,rfl,rfl⟩,⟨_,rfl,rfl⟩,⟨_,rfl,rfl⟩,⟨_,rfl,rfl⟩,⟨_,rfl,rfl⟩,⟨_,rfl,rfl⟩,tq⟩
theorem IW {t key s k xs rs} (h:i6 t key s k xs rs) {mode pad md:Int} {op back:Bool} {iv a8 H:Bs} {st:MS} {vb:List Value} (h3:3<=md) (hm:mode<=9):
  a7 C 97 [.p (.k 0) 0,.z 0 vb] [k9 op t mode pad back k xs iv (.f H) a8,f6 (b9 t k xs) md back st 2,g9 st.row st.gone,.dead]
   (.ret (.o 1 (.k 4) 0 0)) [k9 op t mode pad back k xs iv (.f H) a8,f6 (b9 t k xs) md back st 2,g9 st.row st.gone,.dead,.sc []]:=by
 have hs:=h.s_le;have T0:=Mx h (back:=back) (st:=st) (vb:=vb) h3;have S:=mK (t:=t) (mode:=mode) (pad:=pad) (md:=md) (op:=op) (back:=back) (k:=k) (xs:=xs) (iv:=iv) (a8:=a8) (st:=st) (x:= .f H) hm;obtain⟨ch,row,g⟩:=st;rcases row with _|⟨a,r⟩;all_goals
  refine dR.c ?_;refine⟨_,rfl,?_⟩;refine⟨[.k 1,.k 2],_,_,_,_,T0,rfl,rfl,?_⟩;refine⟨[],_,_,_,_,bU,rfl,rfl,?_⟩;refine⟨_,rfl,?_⟩;refine⟨[],_,_,_,_,h.size,rfl,rfl,?_⟩;refine⟨[.k 0,.k 1,.k 2,.k 3],_,_,_,_,S,rfl,rfl,?_⟩;refine c9 (fun h7=> ?_) (fun h7=> ?_)
  ·refine c9 (fun h8=>absurd h8 (by omega)) (fun h8=> ?_);exact⟨_,rfl,[.k 0,.k 1,.k 2,.k 3,.d 15 2],rfl,⟨_,rfl,rfl⟩,⟨_,rfl,rfl⟩,⟨_,rfl,rfl⟩,⟨_,rfl,rfl⟩,⟨_,rfl,rfl⟩,tq⟩
  ·exact⟨_,rfl,[.k 0,.k 1,.k 2,.k 3,.d 15 2],rfl,⟨_,rfl,rfl⟩,⟨_,rfl,rfl⟩,⟨_,rfl,rfl⟩,⟨_,rfl,rfl⟩,⟨_,rfl,rfl⟩,tq⟩
theorem JB {t key s k xs rs} (h:i6 t key s k xs rs) {mode pad md:Int} {back:Bool} {iv a8 b:Bs} {st:MS} {x:HK} {m L n0 at':Nat} (hx:x= .n\/∃H,x= .o H) (hb:b.length=m) (hL:x.l.length+m=L) (hL0:L=0) (h3:3<=md) (K:MK s md st) (hm:mode<=9)
  (hN:n0=B6 (k7 s md) (y3 s md mode pad back) L) (hat:at'=k7 s md*n0):
  a7 C 33 [.p (.k 0) 0,.o 1 (.k 4) 0 m] [k9 true t mode pad back k xs iv x a8,f6 (b9 t k xs) md back st 2,g9 st.row st.gone,x.b,.sc (bv b)]
   (.ret (.t [.o 1 (.k 6) 0 0,i64 0]))
   [p9 true true t mode pad back (b9 t k xs) (.z iv.length (bv iv)) (.p (.k 1) 0) (.o 1 (.k 5) 0 0) (.z a8.length (bv a8)),
    f6 (b9 t k xs) md back st 2,g9 st.row st.gone,.dead,.sc (bv b),.sc [],.sc []]:=by
 have hs:=h.s_le;have hg0:0<k7 s md:=by unfold k7;split<;>omega
 have hgm:k7 s md-1<=y3 s md mode pad back:=by
  have:=K.ok.m;unfold k7 y3;by_cases h3:3<=md
  ·rw[if_neg (by omega),if_pos h3];omega
  ·rw[if_pos (by omega),if_neg h3];split<;>(try split)<;>omega
 have hLb:L<=100000:=by omega
 have hle:=kg (L:=L) hg0 hgm;have a9:=fun i=>bn (most:=y3 s md mode pad back) (L:=L) (i:=i) hg0;rw[<-hN]at hle a9;have G:=mO h (back:=back) K;have hz:at'%k7 s md=0:=by rw[hat];exact Nat.mul_mod_right _ _
 have lB:(x.l++b).length=L:=by rw[Zb,hb,hL]
 have lT:((x.l++b).take at').length=at':=by rw[Zi];omega
 have lD:((x.l++b).drop at').length=L-at':=by rw[Zh,lB]
 have NE:=fZ (t:=t) (mode:=mode) (pad:=pad) (md:=md) (back:=back) (k:=k) (xs:=xs) (iv:=iv) (a8:=a8) (st:=st) (x:=x);have MO:∀(n':Nat) (vb:List Value),(∃H:Bs,n'=H.length/\vb=bv H)->a7 C 95 [.p (.k 0) 0] [p9 true true t mode pad back (b9 t k xs) (.z iv.length (bv iv)) (.p (.k 1) 0) (.o 1 (.k 3) 0 n') (.z a8.length (bv a8)),f6 (b9 t k xs) md back st 2,g9 st.row st.gone,.sc vb] (.ret (i64 (y3 s md mode pad back))) [p9 true true t mode pad back (b9 t k xs) (.z iv.length (bv iv)) (.p (.k 1) 0) (.o 1 (.k 3) 0 n') (.z a8.length (bv a8)),f6 (b9 t k xs) md back st 2,g9 st.row st.gone,.sc vb]:=by
  rintro _ _ ⟨H,rfl,rfl⟩;exact oN h (mode:=mode) (pad:=pad) (op:=true) (back:=back) (iv:=iv) (a8:=a8) (x:= .o H) K hm
 have a0:at'=0:=by omega
 have TU:=fun(vb:List Value)=>IW h (op:=true) (back:=back) (pad:=pad) (iv:=iv) (a8:=a8) (H:=x.l++b) (st:=st) (vb:=vb) h3 hm;dsimp only[k9,HK.v,HK.b]at TU ⊢;rw[lB]at TU;generalize hgr:k7 s md=gr at*
 generalize y3 s md mode pad back=mo at*
 obtain⟨ch,row,g⟩:=st;rcases hx with rfl|⟨H,rfl⟩<;>dsimp only[HK.l,HK.v,HK.b,Zs]at*
 ·have hmL:m=L:=by simpa using hL
  refine gw.d V7 ?_;refine⟨⟨[(0,.p (.k 0) 0),(1,.o 1 (.k 4) 0 m),(4,.p (.k 5) 0),(5,.p (.k 6) 0)],[p9 true true t mode pad back (b9 t k xs) (.z iv.length (bv iv)) (.p (.k 1) 0) (g8) (.z a8.length (bv a8)),f6 (b9 t k xs) md back ⟨ch,row,g⟩ 2,g9 row g,.dead,.sc (bv b),.sc [.slice none 0 0],.sc [.int .i64 0]]⟩,5,6,by decide,⟨[.k 0,.k 1,.k 2,.k 3,.k 4,.d 4 0,.d 5 0],⟨rfl,rfl,rfl,rfl,tq⟩,⟨_,rfl,rfl⟩,⟨_,rfl,by cases row<;>rfl⟩,⟨_,rfl,by cases row<;>rfl⟩,⟨_,rfl,rfl⟩,⟨_,rfl,rfl⟩,⟨_,rfl,rfl⟩,⟨_,rfl,rfl⟩,tq⟩,rfl,rfl,rfl,?_⟩;refine⟨0,Nat,fun i=>⟨[(0,.p (.k 0) 0),(4,.p (.k 5) 0),(5,.p (.k 6) 0),(6,i64 (gr*i:Nat)),(7,i64 mo),(8,i64 gr)],[p9 true true t mode pad back (b9 t k xs) (.z iv.length (bv iv)) (.p (.k 1) 0) (.z L (bv b)) (.z a8.length (bv a8)),f6 (b9 t k xs) md back ⟨ch,row,g⟩ 2,g9 row g,.dead,.sc (bv b),.sc [.slice none 0 0],.sc [.int .i64 0]]⟩,fun i=>i<=n0,fun i=>n0-i,?_,fun i hi=> ?_⟩
  ·rcases row with _|⟨a,r⟩;all_goals
    refine⟨[.k 0,.k 1,.k 2,.k 3],_,_,_,_,NE,rfl,rfl,?_⟩;refine⟨_,rfl,?_⟩;refine⟨by rw[f9,hb];omega,by omega,?_⟩;refine⟨Za rfl,?_⟩;refine⟨[.k 0,.k 1,.k 2,.d 17 0],_,_,_,_,MO (m) (sub (bv b) 0 (m*1)) ⟨b,hb.symm,by rw[Zd];exact b8 hb⟩,rfl,rfl,?_⟩;refine P2 rfl ?_;refine P2 (D0 rfl rfl (D0 rfl rfl (D0 rfl rfl (D0 rfl rfl rfl)))) ?_;refine⟨_,rfl,?_⟩;refine⟨[.k 1,.k 2],_,_,_,_,G,rfl,rfl,?_⟩;refine⟨[],0,Zp _,[.k 0,.k 1,.k 2,.k 3,.k 4,.k 5,.k 6],⟨rfl,rfl,rfl,rfl,rfl,rfl,tq⟩,⟨_,rfl,?_⟩,⟨_,rfl,rfl⟩,⟨_,rfl,rfl⟩,⟨_,rfl,rfl⟩,⟨_,rfl,rfl⟩,⟨_,rfl,rfl⟩,⟨_,rfl,rfl⟩,tq⟩;show p9 true true t mode pad back (b9 t k xs) (.z iv.length (bv iv)) (.p (.k 1) 0) (.z (m) (sub (sub (bv b) 0 (m*1)) 0 (m))) (.z a8.length (bv a8))=_;rw[Zd,b8 hb,b8 hb,hmL]
  ·rcases row with _|⟨a,r⟩;all_goals
    have e1:gr*i<=L:=Zr (Zl gr hi) hle;refine⟨_,rfl,?_⟩;refine c9 (fun hc=> ?_) (fun hc=> ?_)
    ·have hc':(mo:Int)<I6.wrap ((L:Int)-((gr*i:Nat):Int)):=hc;rw[Zc _ (by omega)]at hc';have hli:i<n0:=(a9 i).2 (by omega);have hle2:gr*(i+1)<=L:=Zr (Zl gr hli) hle;refine⟨rfl,i+1,hli,Zt _ _ hli,[.k 0,.k 1,.k 2,.k 3,.k 4,.k 5,.k 6],⟨rfl,rfl,rfl,d7 ?_,rfl,rfl,tq⟩,⟨_,rfl,rfl⟩,⟨_,rfl,rfl⟩,⟨_,rfl,rfl⟩,⟨_,rfl,rfl⟩,⟨_,rfl,rfl⟩,⟨_,rfl,rfl⟩,⟨_,rfl,rfl⟩,tq⟩;rw[Zw]at hle2 ⊢;rw[Zc _ (by omega)];omega
    ·have hc':¬(mo:Int)<I6.wrap ((L:Int)-((gr*i:Nat):Int)):=hc;rw[Zc _ (by omega)]at hc';obtain rfl:i=n0:=Zz hi (Zu fun hh=>by have:=(a9 i).1 hh;omega);refine⟨_,rfl,?_⟩;refine⟨by omega,by omega,by omega,by omega,?_⟩;refine⟨[.k 0,.k 1,.k 2,.k 3],_,_,_,_,TU [],?_,rfl,?_⟩
     ·show[V.p (.k 0) 0,V.z ((gr*i:Nat):Int).toNat (sub (bv b) 0 ((gr*i:Nat):Int).toNat)]=_;rw[Zf,<-hat,a0];rfl
     refine⟨Za rfl,?_⟩;refine⟨_,rfl,?_⟩;refine⟨by omega,by omega,by omega,by omega,?_⟩;refine⟨[],_,_,_,_,cM (n:=L-at') (l:=b.drop at') rfl lD (by omega),?_,rfl,?_⟩
     ·show[V.z (L-((gr*i:Nat):Int).toNat) (sub (bv b) ((gr*i:Nat):Int).toNat (L-((gr*i:Nat):Int).toNat))]=_;rw[Zf,<-hat,p8 lB (by omega)]
     refine⟨Za rfl,?_⟩;refine⟨_,rfl,?_⟩;refine⟨Za rfl,?_⟩;refine⟨Za rfl,?_⟩;refine⟨_,rfl,_,rfl,?_⟩;refine⟨_,_,?_,.ret (.refl _),F4.refl _⟩;refine⟨_,rfl,[.k 0,.k 1,.k 2,.k 3,.k 4,.d 54 0,.d 46 4],rfl,⟨_,rfl,?_⟩,⟨_,rfl,rfl⟩,⟨_,rfl,rfl⟩,⟨_,rfl,rfl⟩,⟨_,rfl,rfl⟩,⟨_,rfl,?_⟩,⟨_,rfl,rfl⟩,tq⟩
     ·exact congrArg (fun z=>p9 true true t mode pad back (b9 t k xs) (.z iv.length (bv iv)) (.p (.k 1) 0) (.o 1 (.k 5) 0 z) (.z a8.length (bv a8))) (show L-at'=0 by omega)
     ·exact congrArg (fun z=>B.sc (bv z)) (Zg (by rw[lD];omega))
 ·refine gw.d V7 ?_;refine⟨⟨[(0,.p (.k 0) 0),(1,.o 1 (.k 4) 0 m),(4,.p (.k 5) 0),(5,.p (.k 6) 0)],[p9 true true t mode pad back (b9 t k xs) (.z iv.length (bv iv)) (.p (.k 1) 0) (.o 1 (.k 3) 0 H.length) (.z a8.length (bv a8)),f6 (b9 t k xs) md back ⟨ch,row,g⟩ 2,g9 row g,.sc (bv H),.sc (bv b),.sc [.slice none 0 0],.sc [.int .i64 0]]⟩,5,6,by decide,⟨[.k 0,.k 1,.k 2,.k 3,.k 4,.d 4 0,.d 5 0],⟨rfl,rfl,rfl,rfl,tq⟩,⟨_,rfl,rfl⟩,⟨_,rfl,by cases row<;>rfl⟩,⟨_,rfl,by cases row<;>rfl⟩,⟨_,rfl,rfl⟩,⟨_,rfl,rfl⟩,⟨_,rfl,rfl⟩,⟨_,rfl,rfl⟩,tq⟩,rfl,rfl,rfl,?_⟩;refine⟨0,Nat,fun i=>⟨[(0,.p (.k 0) 0),(4,.p (.k 5) 0),(5,.p (.k 6) 0),(6,i64 (gr*i:Nat)),(7,i64 mo),(8,i64 gr)],[p9 true true t mode pad back (b9 t k xs) (.z iv.length (bv iv)) (.p (.k 1) 0) (.z L (bv (H++b))) (.z a8.length (bv a8)),f6 (b9 t k xs) md back ⟨ch,row,g⟩ 2,g9 row g,.dead,.sc (bv b),.sc [.slice none 0 0],.sc [.int .i64 0]]⟩,fun i=>i<=n0,fun i=>n0-i,?_,fun i hi=> ?_⟩
  ·rcases row with _|⟨a,r⟩;all_goals
    refine⟨[.k 0,.k 1,.k 2,.k 3],_,_,_,_,NE,rfl,rfl,?_⟩;refine⟨_,rfl,?_⟩;refine⟨by rw[f9,hb];omega,by omega,by rw[f9];omega,?_⟩;refine⟨Za rfl,?_⟩;refine⟨[.k 0,.k 1,.k 2,.d 17 0],_,_,_,_,MO (H.length+m) (sub (bv H) 0 (H.length*1)++sub (bv b) 0 (m*1)) ⟨(H++b),by rw[Zb,hb],by rw[Zd,Zd,b8 rfl,b8 hb,x5]⟩,rfl,rfl,?_⟩;refine P2 rfl ?_;refine P2 (D0 rfl rfl (D0 rfl rfl (D0 rfl rfl (D0 rfl rfl rfl)))) ?_;refine⟨_,rfl,?_⟩;refine⟨[.k 1,.k 2],_,_,_,_,G,rfl,rfl,?_⟩;refine⟨[],0,Zp _,[.k 0,.k 1,.k 2,.k 3,.k 4,.k 5,.k 6],⟨rfl,rfl,rfl,rfl,rfl,rfl,tq⟩,⟨_,rfl,?_⟩,⟨_,rfl,rfl⟩,⟨_,rfl,rfl⟩,⟨_,rfl,rfl⟩,⟨_,rfl,rfl⟩,⟨_,rfl,rfl⟩,⟨_,rfl,rfl⟩,tq⟩;show p9 true true t mode pad back (b9 t k xs) (.z iv.length (bv iv)) (.p (.k 1) 0) (.z (H.length+m) (sub (sub (bv H) 0 (H.length*1)++sub (bv b) 0 (m*1)) 0 (H.length+m))) (.z a8.length (bv a8))=_;rw[Zd,Zd,b8 rfl,b8 hb,x5,b8 (by rw[Zb,hb]),hL]
  ·rcases row with _|⟨a,r⟩;all_goals
    have e1:gr*i<=L:=Zr (Zl gr hi) hle;refine⟨_,rfl,?_⟩;refine c9 (fun hc=> ?_) (fun hc=> ?_)
    ·have hc':(mo:Int)<I6.wrap ((L:Int)-((gr*i:Nat):Int)):=hc;rw[Zc _ (by omega)]at hc';have hli:i<n0:=(a9 i).2 (by omega);have hle2:gr*(i+1)<=L:=Zr (Zl gr hli) hle;refine⟨rfl,i+1,hli,Zt _ _ hli,[.k 0,.k 1,.k 2,.k 3,.k 4,.k 5,.k 6],⟨rfl,rfl,rfl,d7 ?_,rfl,rfl,tq⟩,⟨_,rfl,rfl⟩,⟨_,rfl,rfl⟩,⟨_,rfl,rfl⟩,⟨_,rfl,rfl⟩,⟨_,rfl,rfl⟩,⟨_,rfl,rfl⟩,⟨_,rfl,rfl⟩,tq⟩;rw[Zw]at hle2 ⊢;rw[Zc _ (by omega)];omega
    ·have hc':¬(mo:Int)<I6.wrap ((L:Int)-((gr*i:Nat):Int)):=hc;rw[Zc _ (by omega)]at hc';obtain rfl:i=n0:=Zz hi (Zu fun hh=>by have:=(a9 i).1 hh;omega);refine⟨_,rfl,?_⟩;refine⟨by omega,by omega,by omega,by omega,?_⟩;refine⟨[.k 0,.k 1,.k 2,.k 3],_,_,_,_,TU [],?_,rfl,?_⟩
     ·show[V.p (.k 0) 0,V.z ((gr*i:Nat):Int).toNat (sub (bv (H++b)) 0 ((gr*i:Nat):Int).toNat)]=_;rw[Zf,<-hat,a0];rfl
     refine⟨Za rfl,?_⟩;refine⟨_,rfl,?_⟩;refine⟨by omega,by omega,by omega,by omega,?_⟩;refine⟨[],_,_,_,_,cM (n:=L-at') (l:=(H++b).drop at') rfl lD (by omega),?_,rfl,?_⟩
     ·show[V.z (L-((gr*i:Nat):Int).toNat) (sub (bv (H++b)) ((gr*i:Nat):Int).toNat (L-((gr*i:Nat):Int).toNat))]=_;rw[Zf,<-hat,p8 lB (by omega)]
     refine⟨Za rfl,?_⟩;refine⟨_,rfl,?_⟩;refine⟨Za rfl,?_⟩;refine⟨Za rfl,?_⟩;refine⟨_,rfl,_,rfl,?_⟩;refine⟨_,_,?_,.ret (.refl _),F4.refl _⟩;refine⟨_,rfl,[.k 0,.k 1,.k 2,.k 3,.k 4,.d 54 0,.d 46 4],rfl,⟨_,rfl,?_⟩,⟨_,rfl,rfl⟩,⟨_,rfl,rfl⟩,⟨_,rfl,rfl⟩,⟨_,rfl,rfl⟩,⟨_,rfl,?_⟩,⟨_,rfl,rfl⟩,tq⟩
     ·exact congrArg (fun z=>p9 true true t mode pad back (b9 t k xs) (.z iv.length (bv iv)) (.p (.k 1) 0) (.o 1 (.k 5) 0 z) (.z a8.length (bv a8))) (show L-at'=0 by omega)
     ·exact congrArg (fun z=>B.sc (bv z)) (Zg (by rw[lD];omega))
theorem Ao {t key s k xs rs} (h:i6 t key s k xs rs) {mode pad:Int} {back:Bool} {iv M b:Bs} {m:Nat} {x:HK} (ok:C0 s mode pad iv) (hx:x= .n/\i9 s mode pad back M=[]\/x= .o (i9 s mode pad back M)) (hb:b.length=m) (hL:M.length+m<=100000):
  ∃(n:Nat) (o:Bs),o.length=n/\q5 s mode pad back (M++b).length=q5 s mode pad back M.length+n/\cT t key s mode pad back iv (M++b)=cT t key s mode pad back iv M++o/\
  (a7 C 33 [.p (.k 0) 0,.o 1 (.k 4) 0 m] [k9 true t mode pad back k xs iv x (cL t key s mode pad back iv M),f6 (b9 t k xs) (k6 mode) back (cS t key s mode pad back iv M) 2,g9 (cS t key s mode pad back iv M).row (cS t key s mode pad back iv M).gone,x.b,.sc (bv b)]
   (.ret (.t [.o 1 (.k 7) 0 n,i64 0]))
   [p9 true true t mode pad back (b9 t k xs) (.z iv.length (bv iv)) (.p (.k 1) 0) (.o 1 (.k 6) 0 (i9 s mode pad back (M++b)).length) (.z (cL t key s mode pad back iv (M++b)).length (bv (cL t key s mode pad back iv (M++b)))),
    f6 (b9 t k xs) (k6 mode) back (cS t key s mode pad back iv (M++b)) 5,.dead,.dead,.sc (bv b),g9 (cS t key s mode pad back iv (M++b)).row (cS t key s mode pad back iv (M++b)).gone,.sc (bv (i9 s mode pad back (M++b))),.sc (bv o)]\/
   (cS t key s mode pad back iv M).row≠[]/\a7 C 33 [.p (.k 0) 0,.o 1 (.k 4) 0 m] [k9 true t mode pad back k xs iv x (cL t key s mode pad back iv M),f6 (b9 t k xs) (k6 mode) back (cS t key s mode pad back iv M) 2,g9 (cS t key s mode pad back iv M).row (cS t key s mode pad back iv M).gone,x.b,.sc (bv b)]
   (.ret (.t [.o 1 (.k 6) 0 n,i64 0]))
   [p9 true true t mode pad back (b9 t k xs) (.z iv.length (bv iv)) (.p (.k 1) 0) (.o 1 (.k 5) 0 (i9 s mode pad back (M++b)).length) (.z (cL t key s mode pad back iv (M++b)).length (bv (cL t key s mode pad back iv (M++b)))),
    f6 (b9 t k xs) (k6 mode) back (cS t key s mode pad back iv (M++b)) 2,g9 (cS t key s mode pad back iv (M++b)).row (cS t key s mode pad back iv (M++b)).gone,.dead,.sc (bv b),.sc (bv (i9 s mode pad back (M++b))),.sc (bv o)]):=by
 have hs:=h.s_le;have K:=sT h (back:=back) (M:=M) ok;have hm9:mode<=9:=ok.1.2;have hxl:x.l=i9 s mode pad back M:=by
  rcases hx with ⟨rfl,e⟩|rfl
  ·exact e.symm
  ·rfl
 have hxo:x= .n\/∃H,x= .o H:=by
  rcases hx with ⟨rfl,e⟩|rfl
  ·exact .inl rfl
  ·exact .inr ⟨_,rfl⟩
 obtain⟨a,ha⟩:∃a,a=q5 s mode pad back ((i9 s mode pad back M).length+b.length):=⟨_,rfl⟩;obtain⟨u1,u2,u3⟩:=Ap (E:=cF t key false) (D:=cF t key true) (iv:=iv) (M:=M) (b:=b) h.ci (by omega) ok ha;have hF:q5 s mode pad back (M++b).length=q5 s mode pad back M.length+a:=by
  rw[Zb,tN (by omega) ok,ha,eV]
 obtain⟨f1,f2⟩:=bj (back:=back) (by omega) ok ((i9 s mode pad back M).length+b.length);rw[<-ha]at f1 f2;have hHl:=eV (n:=s) (mode:=mode) (pad:=pad) (back:=back) M;have l0:((i9 s mode pad back M++b).take a).length=a:=by rw[Zi,Zb];omega
 have lo:(f7 (cF t key false) (cF t key true) s (k6 mode) back (cS t key s mode pad back iv M) ((i9 s mode pad back M++b).take a)).1.length=a:=by
  rw[I3 h.ci K.ok (by rw[l0];exact f2),l0]
 have eH:(i9 s mode pad back M).length+m-a=(i9 s mode pad back (M++b)).length:=by rw[<-u3,Zh,Zb,hb]
 refine⟨a,(f7 (cF t key false) (cF t key true) s (k6 mode) back (cS t key s mode pad back iv M) ((i9 s mode pad back M++b).take a)).1,lo,hF,by rw[show cT t key s mode pad back iv (M++b)=(A2 (cF t key false) (cF t key true) s mode pad back iv (M++b)).1 from rfl,u1],?_⟩;have e1:cS t key s mode pad back iv (M++b)=(f7 (cF t key false) (cF t key true) s (k6 mode) back (cS t key s mode pad back iv M) ((i9 s mode pad back M++b).take a)).2:=by
  rw[show cS t key s mode pad back iv (M++b)=(A2 (cF t key false) (cF t key true) s mode pad back iv (M++b)).2 from rfl,u1]
 rw[e1,show cL t key s mode pad back iv (M++b)=cR (cF t key false) (cF t key true) s mode pad back iv (M++b) from rfl,<-u2,<-u3];by_cases hne:0<a\/(cS t key s mode pad back iv M).row=[]
 ·left;have:=JC h (mode:=mode) (pad:=pad) (back:=back) (iv:=iv) (a8:=cL t key s mode pad back iv M) (st:=cS t key s mode pad back iv M) (x:=x) (L:=(i9 s mode pad back M).length+m) (at':=a) hxo hb (by rw[hxl]) (by omega) K hm9 rfl (by rw[ha,hb];rfl) hne;rw[hxl]at this;rw[Zh,Zb,hb];exact this
 ·right;have hrow:(cS t key s mode pad back iv M).row≠[]:=fun hh=>hne (.inr hh);have h3:3<=k6 mode:=by
   have h1:=K.ok.m;rcases Nat.lt_or_ge 0 1 with _|_
   ·by_cases h2:3<=k6 mode
    ·exact h2
    ·exact absurd (K.ok.blk (by omega)) hrow
   ·omega
  have g1:k7 s (k6 mode)=1:=if_neg (by omega);have a0:a=0:=by omega
  have hL0:(i9 s mode pad back M).length+m=0:=by
   have hz:q5 s mode pad back ((i9 s mode pad back M).length+b.length)=(i9 s mode pad back M).length+b.length:=by
    unfold q5 B6 y3;rw[g1,if_pos h3];simp
   rw[<-ha,hb]at hz;omega
  have:=JB h (mode:=mode) (pad:=pad) (back:=back) (iv:=iv) (a8:=cL t key s mode pad back iv M) (st:=cS t key s mode pad back iv M) (x:=x) (L:=(i9 s mode pad back M).length+m) (at':=a) hxo hb (by rw[hxl]) hL0 h3 K hm9 rfl (by rw[ha,hb];rfl);have hHb:i9 s mode pad back M++b=[]:=Zg (by rw[Zb,hb];exact hL0);subst a0;rw[hHb,Z3,qC,Ja];have eL:C1 s mode back [] [] (cL t key s mode pad back iv M)=cL t key s mode pad back iv M:=by unfold C1;rw[if_neg (by simp;omega)]
  rw[eL];exact⟨hrow,this⟩
def en (l:Bs) (y:UInt8):Bs:=l.map (· +y)
theorem nO (l y):(en l y).length=l.length:=by unfold en;rw[Zo]
theorem gd {l:Bs} {n:Nat} {y:UInt8} (hn:l.length=n) (hb:n<=1000000):a7 C 31 [.o 1 (.k 0) 0 n,E4 y] [.sc (bv l)] (.ret (.t [])) [.sc (bv (en l y))]:=by
 refine Sk.c ?_;refine j9 (fun i=>⟨[(0,.o 1 (.k 0) 0 n),(1,E4 y),(4,i64 i)],[.sc (bv (en (l.take i) y++l.drop i))]⟩) n ⟨[.k 0],⟨rfl,rfl,rfl,tq⟩,⟨_,rfl,?_⟩,tq⟩ fun i hi=> ?_
 ·rw[Z1,List.drop_zero];rfl
 refine c9 (fun a9=> ?_) (fun hge=> ?_)
 ·have h0:i<l.length:=by omega
  have e0:0+((i:Nat):Int).toNat*1=i:=by rw[Zf];omega
  have ls:(en (l.take i) y++l.drop i).length=n:=by rw[Zb,nO,Zi,Zh];omega
  have hg:(en (l.take i) y++l.drop i)[i]'(by omega)=l[i]:=by
   rw[List.getElem_append_right (by rw[nO,Zi];omega),List.getElem_drop];congr 1;rw[nO,Zi];omega
  have hv:(bv (en (l.take i) y++l.drop i))[0+((i:Nat):Int).toNat*1]? =some (.int .u8 (l[i]).toNat):=by rw[e0,av (by omega),hg]
  have hs:(bv (en (l.take i) y++l.drop i)).set (0+((i:Nat):Int).toNat*1) (.int .u8 (IntKind.u8.wrap (((l[i]).toNat:Int)+y.toNat)))=bv (en (l.take (i+1)) y++l.drop (i+1)):=by
   rw[e0,Ge,L0,List.set_append_right _ _ (by rw[nO,Zi];omega),nO,Zi,Nat.min_eq_left (by omega),Nat.sub_self,List.drop_eq_getElem_cons h0,List.set_cons_zero,List.take_add_one,Z4 h0];unfold en;rw[Option.toList_some,Zk,List.append_assoc];rfl
  refine⟨by omega,by omega,?_⟩;refine⟨_,hv,?_⟩;refine⟨by omega,by omega,?_⟩;refine⟨by rw[f9,ls,e0];omega,?_⟩;exact⟨i+1,by omega,by omega,[.k 0],⟨rfl,rfl,d7 (by simp(disch:=omega)only[Zc];omega),tq⟩,⟨_,rfl,d9 hs⟩,tq⟩
 ·obtain rfl:i=n:=(by omega);refine⟨_,rfl,[.k 0],rfl,⟨_,rfl,?_⟩,tq⟩;rw[Z6 (by omega),List.drop_of_length_le (by omega),List.append_nil];rfl
theorem yn {us:List Value} {off:Nat} {key:Bs} (ha:sub us off 8=bv key) (hk:key.length=8):a7 C 126 [.o 1 (.k 0) off 8] [.sc us] (.ret (.t [.zz 1 16 (kV (y5 key 16)),i64 0])) [.sc us]:=by
 refine AK.c ?_;refine⟨[],_,_,_,_,yh,rfl,rfl,?_⟩;refine⟨by decide,by decide,by decide,?_⟩;refine j9 (fun i=>⟨[(0,.o 1 (.k 0) off 8),(4,.z 56 (nv (C9 i))),(5,.z 48 (nv O4)),(6,.o 1 (.k 1) 0 i),(24,i64 i)],[.sc us,pE key i]⟩) 16 ⟨[.k 0,.d 23 0],⟨rfl,?_,?_,rfl,rfl,tq⟩,⟨_,rfl,rfl⟩,⟨_,rfl,rfl⟩,tq⟩ fun i hi=> ?_
 ·show V.z 56 (sub (nv bH) 0 56)=_;rw[B8 (by decide +kernel)];rfl
 ·show V.z 48 (sub (nv O4) 0 48)=_;rw[B8 (by decide +kernel)]
 refine c9 (fun h=> ?_) (fun h=> ?_)
 ·have a9:i<16:=(by omega);have ht:=gk i (by omega);have l0:(sub (nv (C9 i)) 0 28).length=28:=by rw[j4,G4,ht];rfl
  have l1:(sub (nv (C9 i)) 28 28).length=28:=by rw[j4,G4,ht];rfl
  refine c9 (fun h1=> ?_) (fun h1=>j7 (fun h2=> ?_) (fun h2=>j7 (fun h3=> ?_) (fun h3=> ?_)));all_goals
   first
    |have hs:C9 (i+1)=iu (C9 i) 1:=by rw[C9,fV,if_pos (by omega)]
    |have hs:C9 (i+1)=iu (C9 i) 2:=by rw[C9,fV,if_neg (by omega)]
   refine⟨by decide,by decide,by decide,by decide,?_⟩;refine⟨[],_,_,_,_,mJ (n:=28) (va:=sub (nv (C9 i)) 0 28) l0 (by decide) (by decide),rfl,rfl,?_⟩;refine⟨by decide,by decide,by decide,by decide,?_⟩;refine⟨[],_,_,_,_,mJ (n:=28) (va:=sub (nv (C9 i)) 28 28) l1 (by decide) (by decide),rfl,rfl,?_⟩;refine⟨by decide,by decide,by decide,by decide,?_⟩;refine⟨by decide,by decide,by decide,by decide,?_⟩;refine⟨(by first|decide|(simp only[Zb,j4,l0,l1];decide)),(by first|decide|(simp only[Zb,j4,l0,l1];decide)),(by first|decide|(simp only[Zb,j4,l0,l1];decide)),?_⟩;refine⟨by decide,by decide,by decide,by decide,?_⟩;refine⟨(by first|decide|(simp only[Zb,j4,l0,l1];decide)),(by first|decide|(simp only[Zb,j4,l0,l1];decide)),(by first|decide|(simp only[Zb,j4,l0,l1];decide)),?_⟩;refine⟨by decide,by decide,by decide,by decide,?_⟩;refine⟨(by first|decide|(simp only[Zb,j4,l0,l1];decide)),(by first|decide|(simp only[Zb,j4,l0,l1];decide)),(by first|decide|(simp only[Zb,j4,l0,l1];decide)),?_⟩;refine B1 (fun j=>⟨[(0,.o 1 (.k 0) off 8),(4,.z 56 (nv (C9 (i+1)))),(5,.z 48 (nv O4)),(6,.o 1 (.k 1) 0 i),(11,.o 1 (.k 2) 0 j),(24,i64 i),(58,.z 48 (nv O4)),(59,i64 48),(60,i64 j)],[.sc us,pE key i,.sc (nv (bV i j))]⟩) 48 [(11,1,.sc [])] ⟨[.k 0,.k 1,.d 900000 0],⟨rfl,?_,rfl,rfl,rfl,rfl,rfl,rfl,rfl,tq⟩,⟨_,rfl,rfl⟩,⟨_,rfl,?_⟩,⟨_,rfl,rfl⟩,tq⟩ fun j hj=> ?_
   ·rw[hs];exact congrArg (V.z 56) (Eo ht (by decide))
   ·rcases i with _|i
    ·rfl
    ·show B.mx ((kV _).map _)=_;rw[fu];rfl
   refine c9 (fun h=> ?_) (fun h=> ?_)
   ·have hj':j<48:=(by omega);obtain⟨g1,g2⟩:=rC j hj';have e1:I6.wrap (((O4.getD j 0:Nat):Int)-1)=((O4.getD j 0-1:Nat):Int):=by rw[Zc _ (by omega)];omega
    refine⟨by omega,by omega,?_⟩;refine⟨_,by rw[Zf];exact R3 (by rw[nU];omega),?_⟩;refine⟨by rw[e1];omega,by rw[e1];omega,?_⟩;refine⟨_,by rw[e1,Zf];exact R3 (by rw[gk _ (by omega)];omega),?_⟩;refine⟨Ze _,by omega,by rw[G4,eY];omega,?_⟩;refine⟨j+1,by omega,by omega,[.k 0,.k 1,.d 71 0],⟨rfl,rfl,rfl,rfl,rfl,rfl,rfl,rfl,d7 (by simp(disch:=omega)only[Zc];omega),tq⟩,⟨_,rfl,rfl⟩,⟨_,rfl,?_⟩,⟨_,rfl,d9 ?_⟩,tq⟩
    ·rcases i with _|i
     ·rfl
     ·show B.mx ((kV _).map _)=_;rw[fu];rfl
    ·rw[Au];exact gV (by rw[eY,Zd])
   ·obtain rfl:j=48:=(by omega);refine⟨[],_,_,_,_,jU (b:=key) (va:=sub us off 8) (t:=bV i 48) (n:=48) ha (B8 (eY _ _)) hk (eY _ _) (by decide) (by decide) (by decide) (fun j hj=>As i a9 j hj),rfl,rfl,?_⟩;have w1:I6.wrap ((i:Int)+1)=((i+1:Nat):Int):=by rw[Zc _ (by omega)];omega
    have hz:V.z 6 (sub (bv (Q6 key i)) 0 6)= .z 6 (bv (Q6 key i)):=by rw[b8 (pu _ _)]
    rcases i with _|i
    ·refine⟨by decide,by decide,by decide,?_⟩;refine⟨1,by omega,by omega,[.k 0,.d 82 0],⟨rfl,rfl,rfl,rfl,rfl,tq⟩,⟨_,rfl,rfl⟩,⟨_,rfl,?_⟩,tq⟩;exact congrArg (fun z=>B.mx [z]) hz
    ·refine⟨by decide,by omega,by rw[Y7,cV];omega,?_⟩;refine⟨i+1+1,by omega,by omega,[.k 0,.d 82 0],⟨rfl,rfl,rfl,rfl,d7 w1,tq⟩,⟨_,rfl,rfl⟩,⟨_,rfl,?_⟩,tq⟩;show B.mx (Z2 (m5 _ _ 6) (sub (kV (y5 key (i+1))) 0 ((i+1)*1)++[V.o 1 _ _ _]))= .mx (kV (y5 key (i+1+1)));rw[Zd,z5 (by rw[Y7,cV]),Zk,fu,tU key (i+1),show kV (y5 key (i+1)++[Q6 key (i+1)])=kV (y5 key (i+1))++[V.z 6 (bv (Q6 key (i+1)))] from Zk];exact congrArg (fun z=>B.mx (kV (y5 key (i+1))++[z])) hz
 ·obtain rfl:i=16:=(by omega);refine⟨_,rfl,[.k 0],?_,⟨_,rfl,rfl⟩,tq⟩;exact congrArg (fun z=>V.t [V.zz 1 16 z,i64 0]) ((congrArg (Z2 _) (z5 (by rw[Y7,cV]))).trans (uG _ _ _ 2))
def NX (key:Bs) (m n i:Nat):D:=match i with
 |0=>⟨[(0,.o 1 (.k 0) 0 m),(4,i64 n),(5,.p (.k 1) 0),(26,i64 n),(27,i64 0)],[.sc (bv key),.mx [g8]]⟩
 |i+1=>⟨[(0,.o 1 (.k 0) 0 m),(4,i64 n),(5,.p (.k 1) 0),(26,i64 n),(27,i64 (i+1:Nat))],[.sc (bv key),.mx [.o 1 (.k 2) 0 (i+1)],.pl (A5 (F5 key (i+1)))]⟩
theorem JG {key:Bs} {m n:Nat} (hk:key.length=m) (hm:m=8*n) (hn:1<=n/\n<=3):a7 C 78 [.o 1 (.k 0) 0 m] [.sc (bv key)] (.ret (.t [bo (A4 key n),i64 0])) [.sc (bv key)]:=by
 have e1:I6.wrap ((m:Int).tdiv 8)=(n:Int):=by
  rw[Zn (by omega),Zc _ (by omega)];omega
 have e2:(m:Int).tmod 8=0:=by rw[Zj (by omega)];omega
 refine AM.c ?_;refine⟨by decide,by decide,?_⟩;rw[e1,e2];refine c9 (fun h=>absurd h (by omega)) (fun h=> ?_);refine c9 (fun h=>absurd h (by omega)) (fun h=> ?_);refine j9 (NX key m n) n ⟨[.k 0,.d 25 0],⟨rfl,rfl,rfl,rfl,rfl,tq⟩,⟨_,rfl,rfl⟩,⟨_,rfl,rfl⟩,tq⟩ fun i hi=> ?_;rcases i with _|i
 ·refine c9 (fun h=> ?_) (fun h=>absurd h (by omega));refine⟨by decide,by decide,by decide,by decide,by show 8<=m;omega,?_⟩;refine⟨[.k 0],_,_,_,_,yn (us:=bv key) (off:=0) (key:=sub key (8*0) 8) (l4 _ _ _) (by rw[j4];omega),rfl,rfl,?_⟩;refine⟨_,rfl,Ze _,by decide,by decide,?_⟩;refine⟨1,by omega,by omega,[.k 0,.k 1,.d 48 0],⟨rfl,rfl,rfl,rfl,rfl,tq⟩,⟨_,rfl,rfl⟩,⟨_,rfl,?_⟩,⟨_,rfl,?_⟩,tq⟩
  ·rfl
  ·exact congrArg B.pl rfl
 refine c9 (fun h=> ?_) (fun h=> ?_)
 ·have a9:i+1<n:=(by omega);have e3:I6.wrap (8*((i+1:Nat):Int))=((8*(i+1):Nat):Int):=by rw[Zc _ (by omega)];omega
  have e4:I6.wrap (8*I6.wrap (((i+1:Nat):Int)+1))=((8*(i+1)+8:Nat):Int):=by
   rw[Zc (((i+1:Nat):Int)+1) (by omega),Zc _ (by omega)];omega
  refine⟨by rw[e4];omega,by rw[e3];omega,by rw[e3,e4];omega,Ze _,by rw[e4];omega,?_⟩;refine⟨[.k 0],_,_,_,_,yn (us:=bv key) (off:=8*(i+1)) (key:=sub key (8*(i+1)) 8) (l4 _ _ _) (by rw[j4];omega),?_,rfl,?_⟩
  ·rw[e3,e4];show[V.o 1 (.k 0) (0+((8*(i+1):Nat):Int).toNat*1) (((8*(i+1)+8:Nat):Int).toNat-((8*(i+1):Nat):Int).toNat)]=_;rw[Zf,Zf,Zd,Zm,Nat.add_sub_cancel_left]
  refine⟨_,rfl,Ze _,by omega,by rw[S8,P3];omega,by show 0+0+1<=1;decide,?_⟩;refine⟨i+1+1,by omega,by omega,[.k 0,.k 1,.d 48 0],⟨rfl,rfl,rfl,rfl,d7 (by simp(disch:=omega)only[Zc];omega),tq⟩,⟨_,rfl,rfl⟩,⟨_,rfl,rfl⟩,⟨_,rfl,congrArg B.pl ?_⟩,tq⟩;rw[Zd,z5 (by rw[S8,P3]),tO key (i+1)];exact(Zk (f:=fun k=>V.zz 1 16 (kV k)) (l₁:=F5 key (i+1)) (l₂:=[y5 (sub key (8*(i+1)) 8) 16])).symm
 ·have hin:i+1=n:=(by omega);refine j7 (fun h=> ?_) (fun h=> ?_)
  ·obtain rfl:i=1:=(by omega);subst hin;have hl:=dL (key:=key) hn;refine⟨_,rfl,_,rfl,by decide,by decide,_,rfl,Ze _,by decide,by rw[S8,P3];decide,by show 0+0+1<=1;decide,?_⟩;refine⟨_,rfl,[.k 0],?_,⟨_,rfl,rfl⟩,tq⟩;show V.t [V.q [V.zz 1 3 (sub (sub (A5 (F5 key 2)) 0 2++A5 [y5 (sub key 0 8) 16]) 0 3)] 0,i64 0]=V.t [V.q [V.zz 1 (A4 key 2).length (A5 (A4 key 2))] 0,i64 0];have e:sub (sub (A5 (F5 key 2)) 0 2++A5 [y5 (sub key 0 8) 16]) 0 3=A5 (A4 key 2):=by
    rw[z5 (l:=A5 (F5 key 2)) (by rw[S8,P3]),A4,if_pos rfl,z5 (by rw[Zb,S8,P3];rfl)];exact(Zk (f:=fun k=>V.zz 1 16 (kV k)) (l₁:=F5 key 2) (l₂:=[y5 (sub key 0 8) 16])).symm
   rw[hl,if_pos rfl];exact congrArg (fun z=>V.t [V.q [V.zz 1 3 z] 0,i64 0]) e
  ·have hl:=dL (key:=key) hn;rw[if_neg (by omega)]at hl;refine⟨_,rfl,[.k 0],?_,⟨_,rfl,rfl⟩,tq⟩;show V.t [V.q [V.zz 1 (i+1) (sub (A5 (F5 key (i+1))) 0 ((i+1)*1))] 0,i64 0]=V.t [V.q [V.zz 1 (A4 key n).length (A5 (A4 key n))] 0,i64 0];rw[hl,hin];have e:sub (A5 (F5 key n)) 0 (n*1)=A5 (A4 key n):=by
    rw[A4,if_neg (by omega),z5 (by rw[S8,P3,Zd])]
   exact congrArg (fun z=>V.t [V.q [V.zz 1 n z] 0,i64 0]) e
theorem tJ {n:Nat} {v:Bs} (hv:v.length=n) (h:16<=n):sub ((Zq 16 (Value.int .u8 0)).take 0++(sub (bv v) 0 n).take (min n 16)++(Zq 16 (Value.int .u8 0)).drop (0+min n 16)) 0 16=bv (v.take 16):=by
 rw[b8 hv];exact pn hv h
theorem HR {key:Bs} (hk:key.length=16):a7 C 142 [dv,.o 1 (.k 0) 0 16] [.sc (bv key)] (.ret (.o 1 (.k 1) 0 13)) [.sc (bv key),.mx (j8 0 key 13)]:=by
 refine kv.c ?_;refine U9 0 rfl 13 (fun r=>⟨[(5,i64 0),(7,.p (.k 2) 0),(10,.o 1 (.k 1) 0 r),(11,.p (.k 3) 0),(12,i64 r)],[.sc (bv key),.mx (j8 0 key r),.mx [j5 (d8 0 key 0).1,j5 (d8 0 key 1).1,j5 (d8 0 key 2).1,j5 (d8 0 key 3).1],.mx [i64 (-19),i64 (-31),i64 61,i64 31,i64 19]]⟩) ?_ fun r hr=> ?_
 ·refine⟨by decide,?_⟩;refine⟨[],_,_,_,_,jO,rfl,rfl,?_⟩;refine⟨Ze _,by decide,by decide,by decide,?_⟩;refine⟨Ze _,?_⟩;refine⟨by decide,by decide,_,rfl,?_⟩;refine⟨by simp[f9,hk],by decide,?_⟩;refine⟨by decide,by decide,by decide,?_⟩;refine⟨by decide,by omega,Ze _,Ze _,?_⟩;refine⟨by simp[f9,hk],by decide,?_⟩;refine j9 (fun i=>⟨[(2,.p (.k 1) 0),(5,i64 0),(6,.p (.k 2) 0),(7,.p (.k 3) 0),(8,j5 (d8 0 key i).2),(33,i64 i)],[.sc (bv key),.mx [t4 0,t4 1,t4 2,t4 3],.mx [F9 0,F9 1,F9 2],jB 0 key i]⟩) 3 ⟨[.k 0,.d 2 0,.d 6 0,.d 7 0],⟨rfl,rfl,rfl,rfl,?_,rfl,tq⟩,⟨_,rfl,rfl⟩,⟨_,rfl,rfl⟩,⟨_,rfl,rfl⟩,⟨_,rfl,?_⟩,tq⟩ fun i hi=> ?_
  ·show V.z 16 _=V.z 16 _;refine congrArg (V.z 16) (Eq.trans (kf (n:=0) (v:=sub key 16 0) (l4 _ _ _) (by rw[j4];omega) (by decide)) (congrArg bv ?_));show sub key 16 0++_=T9 key;rw[T9,hk,G5 _ _ _ (by omega)]
  ·exact congrArg (fun z=>B.mx [V.z 16 z,g8,g8,g8]) (tJ hk (by decide))
  rcases i with _|_|_|_|i
  ·refine⟨_,rfl,rfl,by decide,by decide,by decide,_,rfl,by decide,by decide,by decide,_,rfl,?_⟩;refine⟨[],_,_,_,_,P9 (k:=1) (b:=(d8 0 key 0).1) (key:=aC 0) rfl rfl (n7 0 (by omega) (by omega) 0).1 (B2 0 (by decide)) (by decide) (by decide),rfl,rfl,?_⟩;refine⟨by decide,by decide,Za rfl,?_⟩;refine⟨by decide,by decide,_,rfl,?_⟩;refine⟨[],_,_,_,_,B5 (a:=D6 1 (d8 0 key 0).1 (aC 0)) (b:=(d8 0 key 0).2) (b8 (r8 _ _ _)) rfl (r8 _ _ _) (n7 0 (by omega) (by omega) 0).2 (by decide),rfl,rfl,?_⟩;refine⟨by decide,by decide,Za rfl,?_⟩;refine⟨by decide,by decide,_,rfl,?_⟩;refine⟨1,by decide,by decide,[.k 0,.k 1,.k 2,.k 3],⟨rfl,rfl,rfl,rfl,rfl,rfl,tq⟩,⟨_,rfl,rfl⟩,⟨_,rfl,rfl⟩,⟨_,rfl,rfl⟩,⟨_,rfl,?_⟩,tq⟩;show B.mx [j5 (d8 0 key 0).1,V.z 16 (sub (bv (d8 0 key 1).1) 0 16),g8,g8]=_;rw[b8 (n7 0 (by omega) (by omega) 1).1];rfl
  ·refine⟨_,rfl,rfl,by decide,by decide,by decide,_,rfl,by decide,by decide,by decide,_,rfl,?_⟩;refine⟨[],_,_,_,_,P9 (k:=2) (b:=(d8 0 key 1).1) (key:=aC 1) rfl rfl (n7 0 (by omega) (by omega) 1).1 (B2 1 (by decide)) (by decide) (by decide),rfl,rfl,?_⟩;refine⟨by decide,by decide,Za rfl,?_⟩;refine⟨by decide,by decide,_,rfl,?_⟩;refine⟨[],_,_,_,_,B5 (a:=D6 2 (d8 0 key 1).1 (aC 1)) (b:=(d8 0 key 1).2) (b8 (r8 _ _ _)) rfl (r8 _ _ _) (n7 0 (by omega) (by omega) 1).2 (by decide),rfl,rfl,?_⟩;refine⟨by decide,by decide,Za rfl,?_⟩;refine⟨by decide,by decide,_,rfl,?_⟩;refine⟨2,by decide,by decide,[.k 0,.k 1,.k 2,.k 3],⟨rfl,rfl,rfl,rfl,rfl,rfl,tq⟩,⟨_,rfl,rfl⟩,⟨_,rfl,rfl⟩,⟨_,rfl,rfl⟩,⟨_,rfl,?_⟩,tq⟩;show B.mx [j5 (d8 0 key 0).1,j5 (d8 0 key 1).1,V.z 16 (sub (bv (d8 0 key 2).1) 0 16),g8]=_;rw[b8 (n7 0 (by omega) (by omega) 2).1];rfl
  ·refine⟨_,rfl,rfl,by decide,by decide,by decide,_,rfl,by decide,by decide,by decide,_,rfl,?_⟩;refine⟨[],_,_,_,_,P9 (k:=1) (b:=(d8 0 key 2).1) (key:=aC 2) rfl rfl (n7 0 (by omega) (by omega) 2).1 (B2 2 (by decide)) (by decide) (by decide),rfl,rfl,?_⟩;refine⟨by decide,by decide,Za rfl,?_⟩;refine⟨by decide,by decide,_,rfl,?_⟩;refine⟨[],_,_,_,_,B5 (a:=D6 1 (d8 0 key 2).1 (aC 2)) (b:=(d8 0 key 2).2) (b8 (r8 _ _ _)) rfl (r8 _ _ _) (n7 0 (by omega) (by omega) 2).2 (by decide),rfl,rfl,?_⟩;refine⟨by decide,by decide,Za rfl,?_⟩;refine⟨by decide,by decide,_,rfl,?_⟩;refine⟨3,by decide,by decide,[.k 0,.k 1,.k 2,.k 3],⟨rfl,rfl,rfl,rfl,rfl,rfl,tq⟩,⟨_,rfl,rfl⟩,⟨_,rfl,rfl⟩,⟨_,rfl,rfl⟩,⟨_,rfl,?_⟩,tq⟩;show B.mx [j5 (d8 0 key 0).1,j5 (d8 0 key 1).1,j5 (d8 0 key 2).1,V.z 16 (sub (bv (d8 0 key 3).1) 0 16)]=_;rw[b8 (n7 0 (by omega) (by omega) 3).1];rfl
  ·refine⟨Ze _,[(10,1,.mx [])],0,by decide,[.k 0,.d 900000 0,.k 3,.d 11 0],⟨rfl,rfl,rfl,rfl,rfl,tq⟩,⟨_,rfl,rfl⟩,⟨_,rfl,rfl⟩,⟨_,rfl,rfl⟩,⟨_,rfl,rfl⟩,tq⟩
  ·omega
 ·have e1:((r:Int)).tmod 4=((r%4:Nat):Int):=by rw[Zj (by omega)];omega
  have e2:(I6.wrap ((r:Int)+1)).tmod 4=(((r+1)%4:Nat):Int):=by
   rw[Zc _ (by omega),Zj (by omega)];omega
  have e3:I6.wrap (((r:Int)).tdiv 4)=((r/4:Nat):Int):=by
   rw[Zn (by omega),Zc _ (by omega)];omega
  have m1:=Z0 r (show 4>0 by decide);have m2:=Z0 (r+1) (show 4>0 by decide);have hW:∀k,(d8 0 key k).1.length=16:=fun k=>(n7 0 (by omega) (by omega) k).1;refine⟨by decide,by decide,by rw[e1];omega,by rw[e1];omega,?_⟩;refine⟨_,by rw[e1,Zf,Zd,Zm];exact G9 (f:=fun k=>j5 (d8 0 key k).1) rfl rfl rfl rfl m1,?_⟩;refine⟨by rw[e2];omega,by rw[e2];omega,?_⟩;refine⟨_,by rw[e2,Zf,Zd,Zm];exact G9 (f:=fun k=>j5 (d8 0 key k).1) rfl rfl rfl rfl m2,?_⟩;refine⟨by decide,by rw[e3];omega,by rw[e3];omega,?_⟩;refine⟨_,by rw[e3,Zf,Zd,Zm];exact jx (by omega),?_⟩;refine⟨[],_,_,_,_,iR (b:=(d8 0 key ((r+1)%4)).1) (n:=L6 (r/4)) rfl (hW _) (by decide) (by decide) (eG (by omega)),rfl,rfl,?_⟩;refine⟨[],_,_,_,_,B5 (a:=(d8 0 key (r%4)).1) (b:=G8 (d8 0 key ((r+1)%4)).1 (L6 (r/4)%128).toNat) rfl (b8 (by rw[B3,hW])) (hW _) (by rw[B3,hW]) (by decide),rfl,rfl,?_⟩;refine⟨Ze _,by omega,by rw[j8,Zo,R8];omega,?_⟩;have hs0:sub (j8 0 key r) 0 (r*1)=j8 0 key r:=by rw[Zd,z5 (by rw[j8,Zo,R8])]
  have hst:j8 0 key r++[V.z 16 (sub (bv (o6 0 key r)) 0 16)]=j8 0 key (r+1):=by
   rw[b8 (by rw[o6];exact w6 (hW _) (by rw[B3,hW])),j8,j8,eJ,Zk];rfl
  have he:I6.wrap (13+I6.wrap (2*0))=13:=by decide
  refine c9 (fun h=> ?_) (fun h=> ?_)
  ·rw[he,Zc _ (by omega)]at h;refine⟨rfl,r+1,by omega,by omega,[.k 0,.d 93 0,.k 2,.k 3],⟨rfl,rfl,rfl,rfl,d7 (by simp(disch:=omega)only[Zc];omega),tq⟩,⟨_,rfl,rfl⟩,⟨_,rfl,?_⟩,⟨_,rfl,rfl⟩,⟨_,rfl,rfl⟩,tq⟩;show B.mx (Z2 (m5 _ _ 6) (sub (j8 0 key r) 0 (r*1)++[V.o _ _ _ _]))=_;rw[Zk,hs0,R7];exact congrArg B.mx hst
  ·rw[he,Zc _ (by omega)]at h;obtain rfl:r=12:=(by omega);refine⟨_,rfl,[.k 0,.d 93 0],rfl,⟨_,rfl,rfl⟩,⟨_,rfl,?_⟩,tq⟩;show B.mx (Z2 (m5 _ _ 6) (sub (j8 0 key 12) 0 (12*1)++[V.o _ _ _ _]))=_;rw[Zk,hs0,R7];exact congrArg B.mx hst
theorem HT {key:Bs} (hk:key.length=24):a7 C 142 [dv,.o 1 (.k 0) 0 24] [.sc (bv key)] (.ret (.o 1 (.k 1) 0 15)) [.sc (bv key),.mx (j8 1 key 15)]:=by
 refine kv.c ?_;refine U9 0 rfl 15 (fun r=>⟨[(5,i64 1),(7,.p (.k 2) 0),(10,.o 1 (.k 1) 0 r),(11,.p (.k 3) 0),(12,i64 r)],[.sc (bv key),.mx (j8 1 key r),.mx [j5 (d8 1 key 0).1,j5 (d8 1 key 1).1,j5 (d8 1 key 2).1,j5 (d8 1 key 3).1],.mx [i64 (-19),i64 (-31),i64 61,i64 31,i64 19]]⟩) ?_ fun r hr=> ?_
 ·refine⟨by decide,?_⟩;refine⟨[],_,_,_,_,jO,rfl,rfl,?_⟩;refine⟨Ze _,by decide,by decide,by decide,?_⟩;refine⟨Ze _,?_⟩;refine⟨by decide,by decide,_,rfl,?_⟩;refine⟨by simp[f9,hk],by decide,?_⟩;refine⟨by decide,by decide,by decide,?_⟩;refine⟨by decide,by omega,Ze _,Ze _,?_⟩;refine⟨by simp[f9,hk],by decide,?_⟩;refine j9 (fun i=>⟨[(2,.p (.k 1) 0),(5,i64 1),(6,.p (.k 2) 0),(7,.p (.k 3) 0),(8,j5 (d8 1 key i).2),(33,i64 i)],[.sc (bv key),.mx [t4 0,t4 1,t4 2,t4 3],.mx [F9 0,F9 1,F9 2],jB 1 key i]⟩) 3 ⟨[.k 0,.d 2 0,.d 6 0,.d 7 0],⟨rfl,rfl,rfl,rfl,?_,rfl,tq⟩,⟨_,rfl,rfl⟩,⟨_,rfl,rfl⟩,⟨_,rfl,rfl⟩,⟨_,rfl,?_⟩,tq⟩ fun i hi=> ?_
  ·show V.z 16 _=V.z 16 _;refine congrArg (V.z 16) (Eq.trans (kf (n:=8) (v:=sub key 16 8) (l4 _ _ _) (by rw[j4];omega) (by decide)) (congrArg bv ?_));show sub key 16 8++_=T9 key;rw[T9,hk,G5 _ _ _ (by omega)]
  ·exact congrArg (fun z=>B.mx [V.z 16 z,g8,g8,g8]) (tJ hk (by decide))
  rcases i with _|_|_|_|i
  ·refine⟨_,rfl,rfl,by decide,by decide,by decide,_,rfl,by decide,by decide,by decide,_,rfl,?_⟩;refine⟨[],_,_,_,_,P9 (k:=1) (b:=(d8 1 key 0).1) (key:=aC 1) rfl rfl (n7 1 (by omega) (by omega) 0).1 (B2 1 (by decide)) (by decide) (by decide),rfl,rfl,?_⟩;refine⟨by decide,by decide,Za rfl,?_⟩;refine⟨by decide,by decide,_,rfl,?_⟩;refine⟨[],_,_,_,_,B5 (a:=D6 1 (d8 1 key 0).1 (aC 1)) (b:=(d8 1 key 0).2) (b8 (r8 _ _ _)) rfl (r8 _ _ _) (n7 1 (by omega) (by omega) 0).2 (by decide),rfl,rfl,?_⟩;refine⟨by decide,by decide,Za rfl,?_⟩;refine⟨by decide,by decide,_,rfl,?_⟩;refine⟨1,by decide,by decide,[.k 0,.k 1,.k 2,.k 3],⟨rfl,rfl,rfl,rfl,rfl,rfl,tq⟩,⟨_,rfl,rfl⟩,⟨_,rfl,rfl⟩,⟨_,rfl,rfl⟩,⟨_,rfl,?_⟩,tq⟩;show B.mx [j5 (d8 1 key 0).1,V.z 16 (sub (bv (d8 1 key 1).1) 0 16),g8,g8]=_;rw[b8 (n7 1 (by omega) (by omega) 1).1];rfl
  ·refine⟨_,rfl,rfl,by decide,by decide,by decide,_,rfl,by decide,by decide,by decide,_,rfl,?_⟩;refine⟨[],_,_,_,_,P9 (k:=2) (b:=(d8 1 key 1).1) (key:=aC 2) rfl rfl (n7 1 (by omega) (by omega) 1).1 (B2 2 (by decide)) (by decide) (by decide),rfl,rfl,?_⟩;refine⟨by decide,by decide,Za rfl,?_⟩;refine⟨by decide,by decide,_,rfl,?_⟩;refine⟨[],_,_,_,_,B5 (a:=D6 2 (d8 1 key 1).1 (aC 2)) (b:=(d8 1 key 1).2) (b8 (r8 _ _ _)) rfl (r8 _ _ _) (n7 1 (by omega) (by omega) 1).2 (by decide),rfl,rfl,?_⟩;refine⟨by decide,by decide,Za rfl,?_⟩;refine⟨by decide,by decide,_,rfl,?_⟩;refine⟨2,by decide,by decide,[.k 0,.k 1,.k 2,.k 3],⟨rfl,rfl,rfl,rfl,rfl,rfl,tq⟩,⟨_,rfl,rfl⟩,⟨_,rfl,rfl⟩,⟨_,rfl,rfl⟩,⟨_,rfl,?_⟩,tq⟩;show B.mx [j5 (d8 1 key 0).1,j5 (d8 1 key 1).1,V.z 16 (sub (bv (d8 1 key 2).1) 0 16),g8]=_;rw[b8 (n7 1 (by omega) (by omega) 2).1];rfl
  ·refine⟨_,rfl,rfl,by decide,by decide,by decide,_,rfl,by decide,by decide,by decide,_,rfl,?_⟩;refine⟨[],_,_,_,_,P9 (k:=1) (b:=(d8 1 key 2).1) (key:=aC 0) rfl rfl (n7 1 (by omega) (by omega) 2).1 (B2 0 (by decide)) (by decide) (by decide),rfl,rfl,?_⟩;refine⟨by decide,by decide,Za rfl,?_⟩;refine⟨by decide,by decide,_,rfl,?_⟩;refine⟨[],_,_,_,_,B5 (a:=D6 1 (d8 1 key 2).1 (aC 0)) (b:=(d8 1 key 2).2) (b8 (r8 _ _ _)) rfl (r8 _ _ _) (n7 1 (by omega) (by omega) 2).2 (by decide),rfl,rfl,?_⟩;refine⟨by decide,by decide,Za rfl,?_⟩;refine⟨by decide,by decide,_,rfl,?_⟩;refine⟨3,by decide,by decide,[.k 0,.k 1,.k 2,.k 3],⟨rfl,rfl,rfl,rfl,rfl,rfl,tq⟩,⟨_,rfl,rfl⟩,⟨_,rfl,rfl⟩,⟨_,rfl,rfl⟩,⟨_,rfl,?_⟩,tq⟩;show B.mx [j5 (d8 1 key 0).1,j5 (d8 1 key 1).1,j5 (d8 1 key 2).1,V.z 16 (sub (bv (d8 1 key 3).1) 0 16)]=_;rw[b8 (n7 1 (by omega) (by omega) 3).1];rfl
  ·refine⟨Ze _,[(10,1,.mx [])],0,by decide,[.k 0,.d 900000 0,.k 3,.d 11 0],⟨rfl,rfl,rfl,rfl,rfl,tq⟩,⟨_,rfl,rfl⟩,⟨_,rfl,rfl⟩,⟨_,rfl,rfl⟩,⟨_,rfl,rfl⟩,tq⟩
  ·omega
 ·have e1:((r:Int)).tmod 4=((r%4:Nat):Int):=by rw[Zj (by omega)];omega
  have e2:(I6.wrap ((r:Int)+1)).tmod 4=(((r+1)%4:Nat):Int):=by
   rw[Zc _ (by omega),Zj (by omega)];omega
  have e3:I6.wrap (((r:Int)).tdiv 4)=((r/4:Nat):Int):=by
   rw[Zn (by omega),Zc _ (by omega)];omega
  have m1:=Z0 r (show 4>0 by decide);have m2:=Z0 (r+1) (show 4>0 by decide);have hW:∀k,(d8 1 key k).1.length=16:=fun k=>(n7 1 (by omega) (by omega) k).1;refine⟨by decide,by decide,by rw[e1];omega,by rw[e1];omega,?_⟩;refine⟨_,by rw[e1,Zf,Zd,Zm];exact G9 (f:=fun k=>j5 (d8 1 key k).1) rfl rfl rfl rfl m1,?_⟩;refine⟨by rw[e2];omega,by rw[e2];omega,?_⟩;refine⟨_,by rw[e2,Zf,Zd,Zm];exact G9 (f:=fun k=>j5 (d8 1 key k).1) rfl rfl rfl rfl m2,?_⟩;refine⟨by decide,by rw[e3];omega,by rw[e3];omega,?_⟩;refine⟨_,by rw[e3,Zf,Zd,Zm];exact jx (by omega),?_⟩;refine⟨[],_,_,_,_,iR (b:=(d8 1 key ((r+1)%4)).1) (n:=L6 (r/4)) rfl (hW _) (by decide) (by decide) (eG (by omega)),rfl,rfl,?_⟩;refine⟨[],_,_,_,_,B5 (a:=(d8 1 key (r%4)).1) (b:=G8 (d8 1 key ((r+1)%4)).1 (L6 (r/4)%128).toNat) rfl (b8 (by rw[B3,hW])) (hW _) (by rw[B3,hW]) (by decide),rfl,rfl,?_⟩;refine⟨Ze _,by omega,by rw[j8,Zo,R8];omega,?_⟩;have hs0:sub (j8 1 key r) 0 (r*1)=j8 1 key r:=by rw[Zd,z5 (by rw[j8,Zo,R8])]
  have hst:j8 1 key r++[V.z 16 (sub (bv (o6 1 key r)) 0 16)]=j8 1 key (r+1):=by
   rw[b8 (by rw[o6];exact w6 (hW _) (by rw[B3,hW])),j8,j8,eJ,Zk];rfl
  have he:I6.wrap (13+I6.wrap (2*1))=15:=by decide
  refine c9 (fun h=> ?_) (fun h=> ?_)
  ·rw[he,Zc _ (by omega)]at h;refine⟨rfl,r+1,by omega,by omega,[.k 0,.d 93 0,.k 2,.k 3],⟨rfl,rfl,rfl,rfl,d7 (by simp(disch:=omega)only[Zc];omega),tq⟩,⟨_,rfl,rfl⟩,⟨_,rfl,?_⟩,⟨_,rfl,rfl⟩,⟨_,rfl,rfl⟩,tq⟩;show B.mx (Z2 (m5 _ _ 6) (sub (j8 1 key r) 0 (r*1)++[V.o _ _ _ _]))=_;rw[Zk,hs0,R7];exact congrArg B.mx hst
  ·rw[he,Zc _ (by omega)]at h;obtain rfl:r=14:=(by omega);refine⟨_,rfl,[.k 0,.d 93 0],rfl,⟨_,rfl,rfl⟩,⟨_,rfl,?_⟩,tq⟩;show B.mx (Z2 (m5 _ _ 6) (sub (j8 1 key 14) 0 (14*1)++[V.o _ _ _ _]))=_;rw[Zk,hs0,R7];exact congrArg B.mx hst
theorem HV {key:Bs} (hk:key.length=32):a7 C 142 [dv,.o 1 (.k 0) 0 32] [.sc (bv key)] (.ret (.o 1 (.k 1) 0 17)) [.sc (bv key),.mx (j8 2 key 17)]:=by
 refine kv.c ?_;refine U9 0 rfl 17 (fun r=>⟨[(5,i64 2),(7,.p (.k 2) 0),(10,.o 1 (.k 1) 0 r),(11,.p (.k 3) 0),(12,i64 r)],[.sc (bv key),.mx (j8 2 key r),.mx [j5 (d8 2 key 0).1,j5 (d8 2 key 1).1,j5 (d8 2 key 2).1,j5 (d8 2 key 3).1],.mx [i64 (-19),i64 (-31),i64 61,i64 31,i64 19]]⟩) ?_ fun r hr=> ?_
 ·refine⟨by decide,?_⟩;refine⟨[],_,_,_,_,jO,rfl,rfl,?_⟩;refine⟨Ze _,by decide,by decide,by decide,?_⟩;refine⟨Ze _,?_⟩;refine⟨by decide,by decide,_,rfl,?_⟩;refine⟨by simp[f9,hk],by decide,?_⟩;refine⟨by decide,by decide,by decide,?_⟩;refine⟨by decide,by omega,Ze _,Ze _,?_⟩;refine⟨by simp[f9,hk],by decide,?_⟩;refine j9 (fun i=>⟨[(2,.p (.k 1) 0),(5,i64 2),(6,.p (.k 2) 0),(7,.p (.k 3) 0),(8,j5 (d8 2 key i).2),(33,i64 i)],[.sc (bv key),.mx [t4 0,t4 1,t4 2,t4 3],.mx [F9 0,F9 1,F9 2],jB 2 key i]⟩) 3 ⟨[.k 0,.d 2 0,.d 6 0,.d 7 0],⟨rfl,rfl,rfl,rfl,?_,rfl,tq⟩,⟨_,rfl,rfl⟩,⟨_,rfl,rfl⟩,⟨_,rfl,rfl⟩,⟨_,rfl,?_⟩,tq⟩ fun i hi=> ?_
  ·show V.z 16 _=V.z 16 _;refine congrArg (V.z 16) (Eq.trans (kf (n:=16) (v:=sub key 16 16) (l4 _ _ _) (by rw[j4];omega) (by decide)) (congrArg bv ?_));show sub key 16 16++_=T9 key;rw[T9,hk,G5 _ _ _ (by omega)]
  ·exact congrArg (fun z=>B.mx [V.z 16 z,g8,g8,g8]) (tJ hk (by decide))
  rcases i with _|_|_|_|i
  ·refine⟨_,rfl,rfl,by decide,by decide,by decide,_,rfl,by decide,by decide,by decide,_,rfl,?_⟩;refine⟨[],_,_,_,_,P9 (k:=1) (b:=(d8 2 key 0).1) (key:=aC 2) rfl rfl (n7 2 (by omega) (by omega) 0).1 (B2 2 (by decide)) (by decide) (by decide),rfl,rfl,?_⟩;refine⟨by decide,by decide,Za rfl,?_⟩;refine⟨by decide,by decide,_,rfl,?_⟩;refine⟨[],_,_,_,_,B5 (a:=D6 1 (d8 2 key 0).1 (aC 2)) (b:=(d8 2 key 0).2) (b8 (r8 _ _ _)) rfl (r8 _ _ _) (n7 2 (by omega) (by omega) 0).2 (by decide),rfl,rfl,?_⟩;refine⟨by decide,by decide,Za rfl,?_⟩;refine⟨by decide,by decide,_,rfl,?_⟩;refine⟨1,by decide,by decide,[.k 0,.k 1,.k 2,.k 3],⟨rfl,rfl,rfl,rfl,rfl,rfl,tq⟩,⟨_,rfl,rfl⟩,⟨_,rfl,rfl⟩,⟨_,rfl,rfl⟩,⟨_,rfl,?_⟩,tq⟩;show B.mx [j5 (d8 2 key 0).1,V.z 16 (sub (bv (d8 2 key 1).1) 0 16),g8,g8]=_;rw[b8 (n7 2 (by omega) (by omega) 1).1];rfl
  ·refine⟨_,rfl,rfl,by decide,by decide,by decide,_,rfl,by decide,by decide,by decide,_,rfl,?_⟩;refine⟨[],_,_,_,_,P9 (k:=2) (b:=(d8 2 key 1).1) (key:=aC 0) rfl rfl (n7 2 (by omega) (by omega) 1).1 (B2 0 (by decide)) (by decide) (by decide),rfl,rfl,?_⟩;refine⟨by decide,by decide,Za rfl,?_⟩;refine⟨by decide,by decide,_,rfl,?_⟩;refine⟨[],_,_,_,_,B5 (a:=D6 2 (d8 2 key 1).1 (aC 0)) (b:=(d8 2 key 1).2) (b8 (r8 _ _ _)) rfl (r8 _ _ _) (n7 2 (by omega) (by omega) 1).2 (by decide),rfl,rfl,?_⟩;refine⟨by decide,by decide,Za rfl,?_⟩;refine⟨by decide,by decide,_,rfl,?_⟩;refine⟨2,by decide,by decide,[.k 0,.k 1,.k 2,.k 3],⟨rfl,rfl,rfl,rfl,rfl,rfl,tq⟩,⟨_,rfl,rfl⟩,⟨_,rfl,rfl⟩,⟨_,rfl,rfl⟩,⟨_,rfl,?_⟩,tq⟩;show B.mx [j5 (d8 2 key 0).1,j5 (d8 2 key 1).1,V.z 16 (sub (bv (d8 2 key 2).1) 0 16),g8]=_;rw[b8 (n7 2 (by omega) (by omega) 2).1];rfl
  ·refine⟨_,rfl,rfl,by decide,by decide,by decide,_,rfl,by decide,by decide,by decide,_,rfl,?_⟩;refine⟨[],_,_,_,_,P9 (k:=1) (b:=(d8 2 key 2).1) (key:=aC 1) rfl rfl (n7 2 (by omega) (by omega) 2).1 (B2 1 (by decide)) (by decide) (by decide),rfl,rfl,?_⟩;refine⟨by decide,by decide,Za rfl,?_⟩;refine⟨by decide,by decide,_,rfl,?_⟩;refine⟨[],_,_,_,_,B5 (a:=D6 1 (d8 2 key 2).1 (aC 1)) (b:=(d8 2 key 2).2) (b8 (r8 _ _ _)) rfl (r8 _ _ _) (n7 2 (by omega) (by omega) 2).2 (by decide),rfl,rfl,?_⟩;refine⟨by decide,by decide,Za rfl,?_⟩;refine⟨by decide,by decide,_,rfl,?_⟩;refine⟨3,by decide,by decide,[.k 0,.k 1,.k 2,.k 3],⟨rfl,rfl,rfl,rfl,rfl,rfl,tq⟩,⟨_,rfl,rfl⟩,⟨_,rfl,rfl⟩,⟨_,rfl,rfl⟩,⟨_,rfl,?_⟩,tq⟩;show B.mx [j5 (d8 2 key 0).1,j5 (d8 2 key 1).1,j5 (d8 2 key 2).1,V.z 16 (sub (bv (d8 2 key 3).1) 0 16)]=_;rw[b8 (n7 2 (by omega) (by omega) 3).1];rfl
  ·refine⟨Ze _,[(10,1,.mx [])],0,by decide,[.k 0,.d 900000 0,.k 3,.d 11 0],⟨rfl,rfl,rfl,rfl,rfl,tq⟩,⟨_,rfl,rfl⟩,⟨_,rfl,rfl⟩,⟨_,rfl,rfl⟩,⟨_,rfl,rfl⟩,tq⟩
  ·omega
 ·have e1:((r:Int)).tmod 4=((r%4:Nat):Int):=by rw[Zj (by omega)];omega
  have e2:(I6.wrap ((r:Int)+1)).tmod 4=(((r+1)%4:Nat):Int):=by
   rw[Zc _ (by omega),Zj (by omega)];omega
  have e3:I6.wrap (((r:Int)).tdiv 4)=((r/4:Nat):Int):=by
   rw[Zn (by omega),Zc _ (by omega)];omega
  have m1:=Z0 r (show 4>0 by decide);have m2:=Z0 (r+1) (show 4>0 by decide);have hW:∀k,(d8 2 key k).1.length=16:=fun k=>(n7 2 (by omega) (by omega) k).1;refine⟨by decide,by decide,by rw[e1];omega,by rw[e1];omega,?_⟩;refine⟨_,by rw[e1,Zf,Zd,Zm];exact G9 (f:=fun k=>j5 (d8 2 key k).1) rfl rfl rfl rfl m1,?_⟩;refine⟨by rw[e2];omega,by rw[e2];omega,?_⟩;refine⟨_,by rw[e2,Zf,Zd,Zm];exact G9 (f:=fun k=>j5 (d8 2 key k).1) rfl rfl rfl rfl m2,?_⟩;refine⟨by decide,by rw[e3];omega,by rw[e3];omega,?_⟩;refine⟨_,by rw[e3,Zf,Zd,Zm];exact jx (by omega),?_⟩;refine⟨[],_,_,_,_,iR (b:=(d8 2 key ((r+1)%4)).1) (n:=L6 (r/4)) rfl (hW _) (by decide) (by decide) (eG (by omega)),rfl,rfl,?_⟩;refine⟨[],_,_,_,_,B5 (a:=(d8 2 key (r%4)).1) (b:=G8 (d8 2 key ((r+1)%4)).1 (L6 (r/4)%128).toNat) rfl (b8 (by rw[B3,hW])) (hW _) (by rw[B3,hW]) (by decide),rfl,rfl,?_⟩;refine⟨Ze _,by omega,by rw[j8,Zo,R8];omega,?_⟩;have hs0:sub (j8 2 key r) 0 (r*1)=j8 2 key r:=by rw[Zd,z5 (by rw[j8,Zo,R8])]
  have hst:j8 2 key r++[V.z 16 (sub (bv (o6 2 key r)) 0 16)]=j8 2 key (r+1):=by
   rw[b8 (by rw[o6];exact w6 (hW _) (by rw[B3,hW])),j8,j8,eJ,Zk];rfl
  have he:I6.wrap (13+I6.wrap (2*2))=17:=by decide
  refine c9 (fun h=> ?_) (fun h=> ?_)
  ·rw[he,Zc _ (by omega)]at h;refine⟨rfl,r+1,by omega,by omega,[.k 0,.d 93 0,.k 2,.k 3],⟨rfl,rfl,rfl,rfl,d7 (by simp(disch:=omega)only[Zc];omega),tq⟩,⟨_,rfl,rfl⟩,⟨_,rfl,?_⟩,⟨_,rfl,rfl⟩,⟨_,rfl,rfl⟩,tq⟩;show B.mx (Z2 (m5 _ _ 6) (sub (j8 2 key r) 0 (r*1)++[V.o _ _ _ _]))=_;rw[Zk,hs0,R7];exact congrArg B.mx hst
  ·rw[he,Zc _ (by omega)]at h;obtain rfl:r=16:=(by omega);refine⟨_,rfl,[.k 0,.d 93 0],rfl,⟨_,rfl,rfl⟩,⟨_,rfl,?_⟩,tq⟩;show B.mx (Z2 (m5 _ _ 6) (sub (j8 2 key 16) 0 (16*1)++[V.o _ _ _ _]))=_;rw[Zk,hs0,R7];exact congrArg B.mx hst
theorem Mo {key:Bs} (hk:key.length=16):a7 C 86 [i64 4,.o 1 (.k 0) 0 16] [.sc (bv key)] (.ret (.t [M9 (w5 o7 key 4) 4,i64 0])) [.sc (bv key)]:=by
 refine kA.c ?_;refine⟨[],_,_,_,_,jS (m:=4) (b8 hk) hk rfl (by decide) (by decide),rfl,rfl,?_⟩;refine⟨_,rfl,[.k 0],?_,⟨_,rfl,rfl⟩,tq⟩;show V.t [.q [.z 4 (sub _ 0 4),i64 4] 0,i64 0]=V.t [.q [.z _ _,i64 4] 0,i64 0];rw[y8 (I7 _ _ _),I7]
theorem Mm {key:Bs} (hk:key.length=32):a7 C 86 [i64 5,.o 1 (.k 0) 0 32] [.sc (bv key)] (.ret (.t [M9 (w5 o7 key 8) 5,i64 0])) [.sc (bv key)]:=by
 refine kA.c ?_;refine⟨[],_,_,_,_,jS (m:=8) (b8 hk) hk rfl (by decide) (by decide),rfl,rfl,?_⟩;refine⟨_,rfl,[.k 0],?_,⟨_,rfl,rfl⟩,tq⟩;show V.t [.q [.z 8 (sub _ 0 8),i64 5] 0,i64 0]=V.t [.q [.z _ _,i64 5] 0,i64 0];rw[y8 (I7 _ _ _),I7]
theorem Mn {key:Bs} (hk:key.length=16):a7 C 86 [i64 8,.o 1 (.k 0) 0 16] [.sc (bv key)] (.ret (.t [M9 (t6 (w5 o5 key 4) 78).1 8,i64 0])) [.sc (bv key)]:=by
 refine kA.c ?_;refine⟨[],_,_,_,_,tc (m:=4) (b8 hk) hk rfl (by decide) (by decide),rfl,rfl,?_⟩;refine⟨[.d 21 0],_,_,_,_,yr (I7 o5 key 4),rfl,rfl,?_⟩;refine⟨_,rfl,[.k 0],?_,⟨_,rfl,rfl⟩,tq⟩;have h:=(iZ (w5 o5 key 4) 78).1;show V.t [.q [.z 26 (sub _ 0 26),i64 8] 0,i64 0]=V.t [.q [.z _ _,i64 8] 0,i64 0];rw[y8 h,h]
theorem JT {key:Bs} (hk:key.length=16):a7 C 80 [.o 1 (.k 0) 0 16] [.sc (bv key)] (.ret (.t [qd (O1 key),i64 0])) [.sc (bv key)]:=by
 refine AP.c ?_;refine⟨[],_,_,_,_,yv (b8 hk) hk,rfl,rfl,?_⟩;refine⟨[],_,_,_,_,zR (k:=O1 key) (n:=52) (B8 (Y8 key)) (Y8 key) rfl (gI key),rfl,rfl,?_⟩;refine⟨_,rfl,[.k 0],?_,⟨_,rfl,rfl⟩,tq⟩;show V.t [.q [.z 52 (sub _ 0 52),.z 52 (sub _ 0 52)] 0,i64 0]=V.t [.q [.z _ _,.z _ _] 0,i64 0];rw[B8 (Y8 key),B8 (mf _),Y8,mf]
theorem MI {n m:Nat} {key:Bs} (hk:key.length=m) (hm:m=8*n) (hn:2<=n/\n<=4):a7 C 82 [.o 1 (.k 0) 0 m] [.sc (bv key)] (.ret (.t [M4 (tK key) (tS key),i64 0])) [.sc (bv key)]:=by
 refine Bm.c ?_;refine⟨[],_,_,_,_,zI (b8 hk) hk hm hn,rfl,rfl,?_⟩;refine⟨_,rfl,[.k 0],?_,⟨_,rfl,rfl⟩,tq⟩;show V.t [.q [.z 40 (sub _ 0 40),.z n (sub _ 0 n)] 0,i64 0]=V.t [.q [.z _ _,.z _ _] 0,i64 0];rw[y8 (aM key),y8 (jo (n:=n) (by omega)),aM,jo (n:=n) (by omega)]
theorem HY {key:Bs} (hk:key.length=16):a7 C 84 [.o 1 (.k 0) 0 16] [.sc (bv key)] (.ret (.t [Y3 0 key 13,i64 0])) [.sc (bv key)]:=by
 refine kt.c ?_;refine⟨[],_,_,_,_,xR,rfl,rfl,?_⟩;refine⟨[],_,_,_,_,jN,rfl,rfl,?_⟩;refine⟨Ze _,?_⟩;refine⟨_,rfl,rfl,?_⟩;refine⟨_,rfl,rfl,?_⟩;refine⟨[.k 0],_,_,_,_,HR hk,rfl,rfl,?_⟩;exact⟨_,rfl,[.k 0],rfl,⟨_,rfl,rfl⟩,tq⟩
theorem HZ {key:Bs} (hk:key.length=24):a7 C 84 [.o 1 (.k 0) 0 24] [.sc (bv key)] (.ret (.t [Y3 1 key 15,i64 0])) [.sc (bv key)]:=by
 refine kt.c ?_;refine⟨[],_,_,_,_,xT,rfl,rfl,?_⟩;refine⟨[],_,_,_,_,jN,rfl,rfl,?_⟩;refine⟨Ze _,?_⟩;refine⟨_,rfl,rfl,?_⟩;refine⟨_,rfl,rfl,?_⟩;refine⟨[.k 0],_,_,_,_,HT hk,rfl,rfl,?_⟩;exact⟨_,rfl,[.k 0],rfl,⟨_,rfl,rfl⟩,tq⟩
theorem Ia {key:Bs} (hk:key.length=32):a7 C 84 [.o 1 (.k 0) 0 32] [.sc (bv key)] (.ret (.t [Y3 2 key 17,i64 0])) [.sc (bv key)]:=by
 refine kt.c ?_;refine⟨[],_,_,_,_,xU,rfl,rfl,?_⟩;refine⟨[],_,_,_,_,jN,rfl,rfl,?_⟩;refine⟨Ze _,?_⟩;refine⟨_,rfl,rfl,?_⟩;refine⟨_,rfl,rfl,?_⟩;refine⟨[.k 0],_,_,_,_,HV hk,rfl,rfl,?_⟩;exact⟨_,rfl,[.k 0],rfl,⟨_,rfl,rfl⟩,tq⟩
theorem Ld {t:Int} {n:Nat} {us:List Value} {xs:List V} (ht:t=4\/t=5\/t=8) (hv:(n:Int)∈m6 t) (hm:n<=1000) (hs:a7 C 86 [i64 t,.o 1 (.k 0) 0 n] [.sc us] (.ret (.t [.q xs 0,i64 0])) [.sc us]):
  a7 C 25 [i64 t,.o 1 (.k 0) 0 n] [.sc us] (.ret (.t [b9 t 87 xs,i64 0])) [.sc us]:=by
 refine aB.c ?_;have hl:=fW t;rcases ht with rfl|rfl|rfl
 ·refine⟨0,Unit,(fun _=>⟨[(6,.p (.k 1) 0),(7,i64 0)],[.sc us,.mx [i64 4,.f (.func 87) [.q xs 0] []]]⟩),fun _=>True,fun _=>0,?_,fun _ h=> ?_⟩
  ·refine⟨[],_,_,_,_,Q5 (by simp[m8]),rfl,rfl,?_⟩;refine⟨[],_,_,_,_,U4 (by simp[m8]),rfl,rfl,?_⟩;refine⟨[],_,_,_,_,U2 (x:=n) (K8 rfl) rfl (by omega),rfl,rfl,?_⟩;refine w9 (by rw[decide_eq_true hv];rfl) ?_;refine⟨[.k 0],_,_,_,_,hs,rfl,rfl,?_⟩;refine⟨Ze _,?_⟩;exact⟨[],(),tq,[.k 0,.d 20 0],⟨rfl,rfl,tq⟩,⟨_,rfl,rfl⟩,⟨_,rfl,rfl⟩,tq⟩
  ·exact⟨_,rfl,[.k 0],rfl,⟨_,rfl,rfl⟩,tq⟩
 ·refine⟨0,Unit,(fun _=>⟨[(6,.p (.k 1) 0),(7,i64 0)],[.sc us,.mx [i64 5,.f (.func 87) [.q xs 0] []]]⟩),fun _=>True,fun _=>0,?_,fun _ h=> ?_⟩
  ·refine⟨[],_,_,_,_,Q5 (by simp[m8]),rfl,rfl,?_⟩;refine⟨[],_,_,_,_,U4 (by simp[m8]),rfl,rfl,?_⟩;refine⟨[],_,_,_,_,U2 (x:=n) (K8 rfl) rfl (by omega),rfl,rfl,?_⟩;refine w9 (by rw[decide_eq_true hv];rfl) ?_;refine⟨[.k 0],_,_,_,_,hs,rfl,rfl,?_⟩;refine⟨Ze _,?_⟩;exact⟨[],(),tq,[.k 0,.d 20 0],⟨rfl,rfl,tq⟩,⟨_,rfl,rfl⟩,⟨_,rfl,rfl⟩,tq⟩
  ·exact⟨_,rfl,[.k 0],rfl,⟨_,rfl,rfl⟩,tq⟩
 ·refine⟨0,Unit,(fun _=>⟨[(6,.p (.k 1) 0),(7,i64 0)],[.sc us,.mx [i64 8,.f (.func 87) [.q xs 0] []]]⟩),fun _=>True,fun _=>0,?_,fun _ h=> ?_⟩
  ·refine⟨[],_,_,_,_,Q5 (by simp[m8]),rfl,rfl,?_⟩;refine⟨[],_,_,_,_,U4 (by simp[m8]),rfl,rfl,?_⟩;refine⟨[],_,_,_,_,U2 (x:=n) (K8 rfl) rfl (by omega),rfl,rfl,?_⟩;refine w9 (by rw[decide_eq_true hv];rfl) ?_;refine⟨[.k 0],_,_,_,_,hs,rfl,rfl,?_⟩;refine⟨Ze _,?_⟩;exact⟨[],(),tq,[.k 0,.d 20 0],⟨rfl,rfl,tq⟩,⟨_,rfl,rfl⟩,⟨_,rfl,rfl⟩,tq⟩
  ·exact⟨_,rfl,[.k 0],rfl,⟨_,rfl,rfl⟩,tq⟩
def GB (t:Int) (n:Nat) (us:List Value) (k:Nat) (xs:List V):Prop:=
 (t=1\/t=2)/\k=79/\a7 C 78 [.o 1 (.k 0) 0 n] [.sc us] (.ret (.t [.q xs 0,i64 0])) [.sc us]\/
 (t=3)/\k=81/\a7 C 80 [.o 1 (.k 0) 0 n] [.sc us] (.ret (.t [.q xs 0,i64 0])) [.sc us]\/
 (t=6)/\k=83/\a7 C 82 [.o 1 (.k 0) 0 n] [.sc us] (.ret (.t [.q xs 0,i64 0])) [.sc us]\/
 (t=7)/\k=85/\a7 C 84 [.o 1 (.k 0) 0 n] [.sc us] (.ret (.t [.q xs 0,i64 0])) [.sc us]\/
 (t=4\/t=5\/t=8)/\k=87/\a7 C 86 [i64 t,.o 1 (.k 0) 0 n] [.sc us] (.ret (.t [.q xs 0,i64 0])) [.sc us]
theorem iO {t:Int} {n k:Nat} {us:List Value} {xs:List V} (hv:(n:Int)∈m6 t) (hm:n<=1000) (hs:GB t n us k xs):a7 C 25 [i64 t,.o 1 (.k 0) 0 n] [.sc us] (.ret (.t [b9 t k xs,i64 0])) [.sc us]:=by
 have hl:=fW t;rcases hs with ⟨ht,rfl,hs⟩|⟨ht,rfl,hs⟩|⟨ht,rfl,hs⟩|⟨ht,rfl,hs⟩|⟨ht,rfl,hs⟩
 ·rcases ht with rfl|rfl
  ·refine aB.c ?_;refine⟨0,Unit,(fun _=>⟨[(6,.p (.k 1) 0),(7,i64 0)],[.sc us,.mx [i64 1,.f (.func 79) [.q xs 0] []]]⟩),fun _=>True,fun _=>0,?_,fun _ h=> ?_⟩
   ·refine⟨[],_,_,_,_,Q5 (by simp[m8]),rfl,rfl,?_⟩;refine⟨[],_,_,_,_,U4 (by simp[m8]),rfl,rfl,?_⟩;refine⟨[],_,_,_,_,U2 (x:=n) (K8 rfl) rfl (by omega),rfl,rfl,?_⟩;refine w9 (by rw[decide_eq_true hv];rfl) ?_;refine⟨[.k 0],_,_,_,_,hs,rfl,rfl,?_⟩;refine⟨Ze _,?_⟩;exact⟨[],(),tq,[.k 0,.d 20 0],⟨rfl,rfl,tq⟩,⟨_,rfl,rfl⟩,⟨_,rfl,rfl⟩,tq⟩
   ·exact⟨_,rfl,[.k 0],rfl,⟨_,rfl,rfl⟩,tq⟩
  ·refine aB.c ?_;refine⟨0,Unit,(fun _=>⟨[(6,.p (.k 1) 0),(7,i64 0)],[.sc us,.mx [i64 2,.f (.func 79) [.q xs 0] []]]⟩),fun _=>True,fun _=>0,?_,fun _ h=> ?_⟩
   ·refine⟨[],_,_,_,_,Q5 (by simp[m8]),rfl,rfl,?_⟩;refine⟨[],_,_,_,_,U4 (by simp[m8]),rfl,rfl,?_⟩;refine⟨[],_,_,_,_,U2 (x:=n) (K8 rfl) rfl (by omega),rfl,rfl,?_⟩;refine w9 (by rw[decide_eq_true hv];rfl) ?_;refine⟨[.k 0],_,_,_,_,hs,rfl,rfl,?_⟩;refine⟨Ze _,?_⟩;exact⟨[],(),tq,[.k 0,.d 20 0],⟨rfl,rfl,tq⟩,⟨_,rfl,rfl⟩,⟨_,rfl,rfl⟩,tq⟩
   ·exact⟨_,rfl,[.k 0],rfl,⟨_,rfl,rfl⟩,tq⟩
 ·subst ht;refine aB.c ?_;refine⟨0,Unit,(fun _=>⟨[(6,.p (.k 1) 0),(7,i64 0)],[.sc us,.mx [i64 3,.f (.func 81) [.q xs 0] []]]⟩),fun _=>True,fun _=>0,?_,fun _ h=> ?_⟩
  ·refine⟨[],_,_,_,_,Q5 (by simp[m8]),rfl,rfl,?_⟩;refine⟨[],_,_,_,_,U4 (by simp[m8]),rfl,rfl,?_⟩;refine⟨[],_,_,_,_,U2 (x:=n) (K8 rfl) rfl (by omega),rfl,rfl,?_⟩;refine w9 (by rw[decide_eq_true hv];rfl) ?_;refine⟨[.k 0],_,_,_,_,hs,rfl,rfl,?_⟩;refine⟨Ze _,?_⟩;exact⟨[],(),tq,[.k 0,.d 20 0],⟨rfl,rfl,tq⟩,⟨_,rfl,rfl⟩,⟨_,rfl,rfl⟩,tq⟩
  ·exact⟨_,rfl,[.k 0],rfl,⟨_,rfl,rfl⟩,tq⟩
 ·subst ht;refine aB.c ?_;refine⟨0,Unit,(fun _=>⟨[(6,.p (.k 1) 0),(7,i64 0)],[.sc us,.mx [i64 6,.f (.func 83) [.q xs 0] []]]⟩),fun _=>True,fun _=>0,?_,fun _ h=> ?_⟩
  ·refine⟨[],_,_,_,_,Q5 (by simp[m8]),rfl,rfl,?_⟩;refine⟨[],_,_,_,_,U4 (by simp[m8]),rfl,rfl,?_⟩;refine⟨[],_,_,_,_,U2 (x:=n) (K8 rfl) rfl (by omega),rfl,rfl,?_⟩;refine w9 (by rw[decide_eq_true hv];rfl) ?_;refine⟨[.k 0],_,_,_,_,hs,rfl,rfl,?_⟩;refine⟨Ze _,?_⟩;exact⟨[],(),tq,[.k 0,.d 20 0],⟨rfl,rfl,tq⟩,⟨_,rfl,rfl⟩,⟨_,rfl,rfl⟩,tq⟩
  ·exact⟨_,rfl,[.k 0],rfl,⟨_,rfl,rfl⟩,tq⟩
 ·subst ht;refine aB.c ?_;refine⟨0,Unit,(fun _=>⟨[(6,.p (.k 1) 0),(7,i64 0)],[.sc us,.mx [i64 7,.f (.func 85) [.q xs 0] []]]⟩),fun _=>True,fun _=>0,?_,fun _ h=> ?_⟩
  ·refine⟨[],_,_,_,_,Q5 (by simp[m8]),rfl,rfl,?_⟩;refine⟨[],_,_,_,_,U4 (by simp[m8]),rfl,rfl,?_⟩;refine⟨[],_,_,_,_,U2 (x:=n) (K8 rfl) rfl (by omega),rfl,rfl,?_⟩;refine w9 (by rw[decide_eq_true hv];rfl) ?_;refine⟨[.k 0],_,_,_,_,hs,rfl,rfl,?_⟩;refine⟨Ze _,?_⟩;exact⟨[],(),tq,[.k 0,.d 20 0],⟨rfl,rfl,tq⟩,⟨_,rfl,rfl⟩,⟨_,rfl,rfl⟩,tq⟩
  ·exact⟨_,rfl,[.k 0],rfl,⟨_,rfl,rfl⟩,tq⟩
 ·exact Ld ht hv hm hs
def X6 (t:Int) (key:Bs) (k:Nat) (xs:List V):Prop:=a7 C 25 [i64 t,.o 1 (.k 0) 0 key.length] [.sc (bv key)] (.ret (.t [b9 t k xs,i64 0])) [.sc (bv key)]
theorem zZ {t:Int} {key:Bs} (ht:t=1\/t=2) (hv:(key.length:Int)∈m6 t):∃k xs rs,i6 t key 8 k xs rs/\X6 t key k xs:=by
 obtain⟨n,hn,h3⟩:∃n,key.length=8*n/\(1<=n/\n<=3):=by
  refine⟨key.length/8,?_⟩;rcases ht with rfl|rfl<;>simp[m6]at hv<;>omega
 have hd:key.length/8=n:=by omega
 obtain⟨ok,pos⟩:=Aq (key:=key) h3;have hF:∀b back,cF t key back b=K6 (A4 key n) back b (A4 key n).length:=fun b back=>by rw[cF,if_pos ht,eX,hd]
 refine⟨_,_,[i64 t,bo (A4 key n),i7,i7,i7,i7],⟨?_,?_,rfl,hv,ax hv (by omega) (.inl ⟨ht,rfl,oP rfl rfl hn h3⟩),.inl ⟨ht,rfl,oP rfl rfl hn h3⟩,aA hv (.inl ⟨ht,_,rfl,yU rfl rfl hn h3⟩),fun hb=> ?_,fun hb=> ?_,fun hn=>yk hn,fun hn=>az (.inl ⟨ht,_,rfl,yQ hn⟩),fun hb=> ?_⟩,iO hv (by omega) (.inl ⟨ht,rfl,JG rfl hn h3⟩)⟩
 ·unfold m8;omega
 ·unfold C8;rw[if_pos (by omega)];rfl
 ·rw[hF];exact yl rfl hb ok pos
 ·rw[hF];exact ay (.inl ⟨ht,_,rfl,yR rfl hb ok pos⟩)
 ·rw[hF];exact pr hb _
theorem Na {key:Bs} (hk:key.length=16):∃k xs rs,i6 3 key 8 k xs rs/\X6 3 key k xs:=by
 have hv:(key.length:Int)∈m6 3:=by rw[hk];decide
 refine⟨_,_,[i64 3,i7,kX (O1 key),i7,i7,i7],⟨by simp[m8],rfl,rfl,hv,ax hv (by omega) (.inr (.inl ⟨rfl,rfl,by rw[hk];exact oR rfl hk⟩)),.inr (.inl ⟨rfl,rfl,by rw[hk];exact oR rfl hk⟩),aA hv (.inr (.inl ⟨rfl,_,rfl,by rw[hk];exact yX rfl hk⟩)),fun hb=>yu rfl hb (Y8 _) (gI _),fun hb=>ay (.inr (.inl ⟨rfl,_,rfl,yW rfl hb (Y8 _) (gI _)⟩)),fun hn=>yt hn,fun hn=>az (.inr (.inl ⟨rfl,_,rfl,yV hn⟩)),fun hb=>Ds _⟩,iO hv (by omega) (.inr (.inl ⟨rfl,rfl,by rw[hk];exact JT hk⟩))⟩
theorem Nl {key:Bs} (hk:key.length=16):∃k xs rs,i6 4 key 8 k xs rs/\X6 4 key k xs:=by
 have hv:(key.length:Int)∈m6 4:=by rw[hk];decide
 have hl:=I7 o7 key 4;refine⟨_,_,[i64 4,i7,i7,F8 (w5 o7 key 4) 4,i7,i7],⟨by simp[m8],rfl,rfl,hv,ax hv (by omega) (.inr (.inr (.inr (.inr ⟨.inl rfl,rfl,by rw[hk];exact pf rfl hk⟩)))),.inr (.inr (.inr (.inr ⟨.inl rfl,rfl,by rw[hk];exact pf rfl hk⟩))),aA hv (.inr (.inr (.inr (.inr ⟨.inl rfl,_,rfl,by rw[hk];exact zg rfl hk⟩)))),fun{b back} hb=> ?_,fun{b back} hb=> ?_,fun hn=>jP hn,fun hn=>az (.inr (.inr (.inr (.inr ⟨.inl rfl,_,rfl,ka hn⟩)))),fun hb=>qU _⟩,iO hv (by omega) (.inr (.inr (.inr (.inr ⟨.inl rfl,rfl,by rw[hk];exact Mo hk⟩))))⟩
 ·refine ye (r:=xF key back b) rfl hb ?_;cases back
  ·exact zU hl rfl rfl
  ·exact zT hl rfl rfl
 ·refine ay (.inr (.inr (.inr (.inr ⟨.inl rfl,_,rfl,yZ (r:=xF key back b) rfl hb ?_⟩))));cases back
  ·exact zj hl rfl rfl
  ·exact zi hl rfl rfl
theorem Nd {key:Bs} (hk:key.length=32):∃k xs rs,i6 5 key 8 k xs rs/\X6 5 key k xs:=by
 have hv:(key.length:Int)∈m6 5:=by rw[hk];decide
 have hl:=I7 o7 key 8;refine⟨_,_,[i64 5,i7,i7,F8 (w5 o7 key 8) 5,i7,i7],⟨by simp[m8],rfl,rfl,hv,ax hv (by omega) (.inr (.inr (.inr (.inr ⟨.inr (.inl rfl),rfl,by rw[hk];exact pe rfl hk⟩)))),.inr (.inr (.inr (.inr ⟨.inr (.inl rfl),rfl,by rw[hk];exact pe rfl hk⟩))),aA hv (.inr (.inr (.inr (.inr ⟨.inr (.inl rfl),_,rfl,by rw[hk];exact ze rfl hk⟩)))),fun{b back} hb=> ?_,fun{b back} hb=> ?_,fun hn=>jP hn,fun hn=>az (.inr (.inr (.inr (.inr ⟨.inr (.inl rfl),_,rfl,ka hn⟩)))),fun hb=>qU _⟩,iO hv (by omega) (.inr (.inr (.inr (.inr ⟨.inr (.inl rfl),rfl,by rw[hk];exact Mm hk⟩))))⟩
 ·refine yd (r:=mF key back b) rfl hb ?_;cases back
  ·exact yA hl rfl rfl
  ·exact yB hl rfl rfl
 ·refine ay (.inr (.inr (.inr (.inr ⟨.inr (.inl rfl),_,rfl,yY (r:=mF key back b) rfl hb ?_⟩))));cases back
  ·exact zb hl rfl rfl
  ·exact zd hl rfl rfl
theorem Nh {key:Bs} (hk:key.length=16):∃k xs rs,i6 8 key 8 k xs rs/\X6 8 key k xs:=by
 have hv:(key.length:Int)∈m6 8:=by rw[hk];decide
 have hl:=(iZ (w5 o5 key 4) 78).1;have n1:=zw rfl hk;have n2:=zf rfl hk;have n3:=Mn hk;have hF:∀back b,cF 8 key back b=ah (rG (t6 (w5 o5 key 4) 78).1 back b):=fun _ _=>rfl;generalize (t6 (w5 o5 key 4) 78).1=K at hl n1 n2 n3 hF;rw[<-hk]at n1 n2;exact⟨_,_,[i64 8,i7,i7,F8 K 8,i7,i7],⟨by simp[m8],rfl,rfl,hv,ax hv (by omega) (.inr (.inr (.inr (.inr ⟨.inr (.inr rfl),rfl,n1⟩)))),.inr (.inr (.inr (.inr ⟨.inr (.inr rfl),rfl,n1⟩))),aA hv (.inr (.inr (.inr (.inr ⟨.inr (.inr rfl),_,rfl,n2⟩)))),fun{b back} hb=>by rw[hF];exact xE hl hb,fun{b back} hb=>by rw[hF];exact ay (.inr (.inr (.inr (.inr ⟨.inr (.inr rfl),_,rfl,DB hl hb⟩)))),fun hn=>jP hn,fun hn=>az (.inr (.inr (.inr (.inr ⟨.inr (.inr rfl),_,rfl,ka hn⟩)))),fun hb=>by rw[hF];exact Dq _⟩,iO hv (by omega) (.inr (.inr (.inr (.inr ⟨.inr (.inr rfl),rfl,by rw[hk];exact n3⟩))))⟩
theorem Nj {key:Bs} (hk:key.length=16\/key.length=24\/key.length=32):∃k xs rs,i6 6 key 16 k xs rs/\X6 6 key k xs:=by
 have hv:(key.length:Int)∈m6 6:=by rcases hk with h|h|h<;>rw[h]<;>decide
 obtain⟨n,hn,h3⟩:∃n,key.length=8*n/\(2<=n/\n<=4):=⟨key.length/8,by omega⟩;have hS:=jo hn;refine⟨_,_,[i64 6,i7,i7,i7,M4 (tK key) (tS key),i7],⟨by simp[m8],rfl,rfl,hv,ax hv (by omega) (.inr (.inr (.inl ⟨rfl,rfl,pj rfl rfl hn h3⟩))),.inr (.inr (.inl ⟨rfl,rfl,pj rfl rfl hn h3⟩)),aA hv (.inr (.inr (.inl ⟨rfl,_,rfl,zp rfl rfl hn h3⟩))),fun{b back} hb=> ?_,fun{b back} hb=>ay (.inr (.inr (.inl ⟨rfl,_,rfl,?_⟩))),fun hn=>zN hn,fun hn=>az (.inr (.inr (.inl ⟨rfl,_,rfl,zk hn⟩))),fun hb=>Dv _⟩,iO hv (by omega) (.inr (.inr (.inl ⟨rfl,rfl,MI rfl hn h3⟩)))⟩
 ·cases back
  ·exact zQ rfl hb (aM _) (by omega)
  ·exact zO rfl hb (aM _) (by omega)
 ·cases back
  ·exact zo rfl hb (aM _) (by omega)
  ·exact zn rfl hb (aM _) (by omega)
theorem MZ {key:Bs} (hk:key.length=16\/key.length=24\/key.length=32):∃k xs rs,i6 7 key 16 k xs rs/\X6 7 key k xs:=by
 have hv:(key.length:Int)∈m6 7:=by rcases hk with h|h|h<;>rw[h]<;>decide
 have ok:aq (aQ key) key (aN key):=by
  refine⟨?_,?_,?_,?_⟩<;>first|omega|(simp only[aN,aQ];omega)
 have new:a7 C 84 [.z key.length (bv key)] [] (.ret (.t [Y3 (aQ key) key (aN key),i64 0])) []/\a7 C 57 [.z key.length (bv key)] [] (.ret (.t [bP (aQ key) key (aN key),i64 0])) []:=by
  rcases hk with h|h|h
  ·rw[aN,aQ,h];exact⟨xW rfl h,yJ rfl h⟩
  ·rw[aN,aQ,h];exact⟨xX rfl h,yK rfl h⟩
  ·rw[aN,aQ,h];exact⟨xY rfl h,yL rfl h⟩
 have newO:a7 C 84 [.o 1 (.k 0) 0 key.length] [.sc (bv key)] (.ret (.t [Y3 (aQ key) key (aN key),i64 0])) [.sc (bv key)]:=by
  rcases hk with h|h|h
  ·rw[aN,aQ,h];exact HY h
  ·rw[aN,aQ,h];exact HZ h
  ·rw[aN,aQ,h];exact Ia h
 refine⟨_,_,[i64 7,i7,i7,i7,i7,bP (aQ key) key (aN key)],⟨by simp[m8],rfl,rfl,hv,ax hv (by omega) (.inr (.inr (.inr (.inl ⟨rfl,rfl,new.1⟩)))),.inr (.inr (.inr (.inl ⟨rfl,rfl,new.1⟩))),aA hv (.inr (.inr (.inr (.inl ⟨rfl,_,rfl,new.2⟩)))),fun{b back} hb=> ?_,fun{b back} hb=>ay (.inr (.inr (.inr (.inl ⟨rfl,_,rfl,?_⟩)))),fun hn=>xZ hn,fun hn=>az (.inr (.inr (.inr (.inl ⟨rfl,_,rfl,yF hn⟩)))),fun{b back} hb=> ?_⟩,iO hv (by omega) (.inr (.inr (.inr (.inl ⟨rfl,rfl,newO⟩))))⟩
 ·cases back
  ·exact yb ok rfl hb
  ·exact ya ok rfl hb
 ·cases back
  ·exact yH ok rfl hb
  ·exact yG ok rfl hb
 ·cases back
  ·exact xr ok
  ·exact xp ok
theorem Nf {t:Int} {key:Bs} (ht:m8 t) (hv:(key.length:Int)∈m6 t):∃s k xs rs,i6 t key s k xs rs/\X6 t key k xs:=by
 have h8:∀{t},(∃k xs rs,i6 t key 8 k xs rs/\X6 t key k xs)->∃s k xs rs,i6 t key s k xs rs/\X6 t key k xs:=fun h=>⟨8,h⟩;have h16:∀{t},(∃k xs rs,i6 t key 16 k xs rs/\X6 t key k xs)->∃s k xs rs,i6 t key s k xs rs/\X6 t key k xs:=fun h=>⟨16,h⟩;rcases ht with rfl|rfl|rfl|rfl|rfl|rfl|rfl|rfl
 ·exact h8 (zZ (.inl rfl) hv)
 ·exact h8 (zZ (.inr rfl) hv)
 ·exact h8 (Na (by simp[m6]at hv;omega))
 ·exact h8 (Nl (by simp[m6]at hv;omega))
 ·exact h8 (Nd (by simp[m6]at hv;omega))
 ·exact h16 (Nj (by simp[m6]at hv;omega))
 ·exact h16 (MZ (by simp[m6]at hv;omega))
 ·exact h8 (Nh (by simp[m6]at hv;omega))
theorem He (tag n:Int) (k:Bs):∃s q xs rs,i6 (m7 tag) (S7 (m7 tag) n k) s q xs rs/\X6 (m7 tag) (S7 (m7 tag) n k) q xs:=Nf (iw _) (by rw[uH];exact BP (iw _))
theorem IK {t key s k xs rs} (h:i6 t key s k xs rs) (hO:X6 t key k xs) {mode pad:Int} {back:Bool} {lk li:Nat} {iv:Bs} (hk:key.length=lk) (hlk:lk<=1000) (hi:iv.length=li) (ok:C0 s mode pad iv):
  a7 C 30 [.p (.k 0) 0,D7 t mode pad back,.o 1 (.k 1) 0 lk,.o 1 (.k 2) 0 li] [p9 false false 0 0 0 false i7 g8 i7 g8 g8,.sc (bv key),.sc (bv iv)] (.ret (i64 0))
   [p9 true true t mode pad back (b9 t k xs) (.z iv.length (bv iv)) (.p (.k 3) 0) g8 (.z iv.length (bv iv)),.sc (bv key),.sc (bv iv),f6 (b9 t k xs) (k6 mode) back ⟨iv,[],[]⟩ 4,.dead,.dead]:=by
 have hs:=h.s_le;obtain⟨m1,hiv⟩:=dK ok;have hl16:iv.length<=16:=by rw[hiv];split<;>omega
 have CK:=(zX t hk hlk mode pad back hi).1;rw[DP h hk hi ok]at CK;unfold X6 at hO;rw[hk]at hO;refine AG.z 5 ?_;refine⟨[i64 t,i64 mode,i64 pad,bool back],rfl,rfl,?_⟩;refine⟨[],_,_,_,_,CK,?_,rfl,?_⟩
 ·show[D7 t mode pad back,V.z lk (sub (bv key) 0 lk),V.z li (sub (bv iv) 0 li)]=_;rw[b8 hk,b8 hi]
 refine⟨_,rfl,?_⟩;refine⟨[.k 1],_,_,_,_,hO,rfl,rfl,?_⟩;refine⟨Za rfl,?_⟩;refine⟨[i64 t,i64 mode,i64 pad,bool back],rfl,rfl,?_⟩;refine⟨[],_,_,_,_,cM (l:=iv) (va:=sub (bv iv) 0 li) (b8 hi) hi (by omega),rfl,rfl,?_⟩;refine⟨Za rfl,?_⟩;refine⟨Za rfl,?_⟩;refine⟨Za rfl,?_⟩;refine⟨⟨[(0,.p (.k 0) 0)],[p9 true false t mode pad back (b9 t k xs) (.z iv.length (bv iv)) i7 g8 g8,.sc (bv key),.sc (bv iv)]⟩,⟨[.k 0,.k 1,.k 2],⟨rfl,tq⟩,⟨_,rfl,?_⟩,⟨_,rfl,rfl⟩,⟨_,rfl,rfl⟩,tq⟩,?_⟩
 ·show p9 true false t mode pad back (b9 t k xs) (.z li (sub (bv iv) 0 li)) i7 g8 g8=_;rw[b8 hi,hi]
 refine⟨[.k 0],_,_,_,_,yj h (op:=false) ok,rfl,rfl,?_⟩;exact⟨_,rfl,[.k 0,.k 1,.k 2,.d 40 1,.d 40 2,.d 40 3],rfl,⟨_,rfl,rfl⟩,⟨_,rfl,rfl⟩,⟨_,rfl,rfl⟩,⟨_,rfl,rfl⟩,⟨_,rfl,rfl⟩,⟨_,rfl,rfl⟩,tq⟩
def qP (t mode pad:Int) (back:Bool) (k:Nat) (xs:List V) (iv:Bs) (ps:List (Bs)) (m:Nat) (msg W:Bs) (e:Int) (y:UInt8) (i:Nat) (x:HK) (la:Bs) (st:MS) (T:Bs):D:=
 ⟨[(3,E4 y),(12,.z m (bv msg)),(13,.z W.length (bv W)),(14,i64 e),(17,.p (.k 0) 0),(18,.o 1 (.k 4) 0 T.length),(19,.zz 1 ps.length (ps.map zc)),(20,i64 (i:Nat))],
  [k9 true t mode pad back k xs iv x la,f6 (b9 t k xs) (k6 mode) back st 2,g9 st.row st.gone,x.b,.sc (bv T)]⟩
def Dc (t mode pad:Int) (back:Bool) (k:Nat) (xs:List V) (iv:Bs) (ps:List (Bs)) (m:Nat) (msg W:Bs) (e:Int) (y:UInt8) (A:Nat->Bs×Bs×MS×Bs):Nat->D
 |0=>qP t mode pad back k xs iv ps m msg W e y 0 .n iv ⟨iv,[],[]⟩ []
 |i+1=>qP t mode pad back k xs iv ps m msg W e y (i+1) (.o (A (i+1)).1) (A (i+1)).2.1 (A (i+1)).2.2.1 (A (i+1)).2.2.2
theorem nJ {t mode pad:Int} {back:Bool} {k:Nat} {xs:List V} {iv:Bs} {ps:List (Bs)} {m:Nat} {msg W:Bs} {e:Int} {y:UInt8} {A:Nat->Bs×Bs×MS×Bs} {i:Nat} {H la T:Bs} {st:MS} (h:A (i+1)=(H,la,st,T)):
  Dc t mode pad back k xs iv ps m msg W e y A (i+1)=qP t mode pad back k xs iv ps m msg W e y (i+1) (.o H) la st T:=by
 show qP t mode pad back k xs iv ps m msg W e y (i+1) (.o (A (i+1)).1) (A (i+1)).2.1 (A (i+1)).2.2.1 (A (i+1)).2.2.2=_;rw[h]
set_option maxHeartbeats 4000000 in
theorem c_top_own {tag n mode pad:Int} {back:Bool} {lk li lb ln:Nat} {k v b:Bs} {ns:List Int} {by':Int} (h0:dt tag) (h1:dt n) (h2:dt mode) (h3:dt pad) (hk:k.length=lk) (hi:v.length=li) (hb:b.length=lb) (hn:ns.length=ln) (hns:∀x∈ns, -9223372036854775808<=x/\x<=9223372036854775807) (hy:0<=by'/\by'<=255):
  a7 C 5 [my tag n mode pad back lk k li v,.z lb (bv b),.z ln (iv ns),.s (.int .u8 by')] [] (.ret (bool true)) []:=by
 obtain⟨y,rfl⟩:∃y:UInt8,by'=(y.toNat:Int):=⟨UInt8.ofNat by'.toNat,by rw[UInt8.toNat_ofNat_of_lt' (by show by'.toNat<256;omega)];omega⟩;obtain⟨s,q,xs,rs,h,hO⟩:=He tag n k;have hs:=h.s_le;have hM:=Ib (back:=back) h0 h1 h2 h3 hk hi h.hs hs.2;have lK:=uH (m7 tag) n k;have lV:=BL (C7 mode) s v;have hkl:=BQ (iw tag) n;have ok:=GT mode pad s v;refine Si.c ?_;refine⟨[],_,_,_,_,KM,rfl,rfl,?_⟩;refine c9 (fun hl=> ?_) (fun hl=> ?_)
 ·exact⟨_,rfl,[],rfl,tq⟩
 have hS:=Mk (mode:=mode) (pad:=pad) (back:=back) (lk:=lk) (li:=li) (k:=k) (iv:=v) h0 h1 h.hs (by omega) hb (by omega);have hle:=xc n s lb;have lm:=GR n s b;rw[hb]at lm;have CU:=Is (b:=P8 n s b) (ns:=ns) rfl hn (by omega) hns;have CF:=NO ns (P8 n s b);have CL:=tM ns (P8 n s b);rw[lm]at CU;have hml:dx n s lb<=200:=by omega
 have P:=zv h (back:=back) (msg:=P8 n s b) (m:=dx n s lb) (vk:=bv (S7 (m7 tag) n k)) (vi:=bv (aD (C7 mode) s v)) rfl rfl rfl lK lV lm (by omega) ok;obtain⟨r,hr⟩:∃r,r=eU (cF (m7 tag) (S7 (m7 tag) n k) false) (cF (m7 tag) (S7 (m7 tag) n k) true) s (C7 mode) (U0 mode pad) back (cS (m7 tag) (S7 (m7 tag) n k) s (C7 mode) (U0 mode pad) back (aD (C7 mode) s v) (P8 n s b)) (cL (m7 tag) (S7 (m7 tag) n k) s (C7 mode) (U0 mode pad) back (aD (C7 mode) s v) (P8 n s b)) (i9 s (C7 mode) (U0 mode pad) back (P8 n s b)):=⟨_,rfl⟩;obtain⟨e1,e2⟩:=mT (M:=P8 n s b) h.ci (by omega) ok hr;obtain⟨e',z,E0,E1,AL⟩:=GV h (back:=back) ok (ps:=[P8 n s b]) (b:=P8 n s b) (by simp) (by omega) (show 1<=100000 by decide);have hr2:=(ki h (x:= .o (i9 s (C7 mode) (U0 mode pad) back (P8 n s b))) ok (.inr rfl) (by omega) hr).1;obtain⟨la',F⟩:=(ki h (x:= .o (i9 s (C7 mode) (U0 mode pad) back (P8 n s b))) ok (.inr rfl) (by omega) hr).2;have hTb:=fun M=>gg (back:=back) (M:=M) h.ci (by omega) ok;have hFr:=fun M:Bs=>(bj (back:=back) (by omega) ok M.length).1;have IA:=IK h hO (back:=back) (lk:=0+Y6 (m7 tag) n) (li:=0+fp (C7 mode) s) (by omega) (by omega) (by omega) ok;have RS:=fun jf=>IL h (back:=back) (jf:=jf) ok;have SK1:=gd (l:=S7 (m7 tag) n k) (n:=0+Y6 (m7 tag) n) (y:=y) (by omega) (by omega);have hv16:(aD (C7 mode) s v).length<=16:=by rw[lV];unfold fp;split<;>omega
 have SK2:=gd (l:=aD (C7 mode) s v) (n:=0+fp (C7 mode) s) (y:=y) (by omega) (by omega);rw[e1]at P E0 E1;obtain⟨W,hW⟩:∃W,W=(if r.2=0 then (A2 (cF (m7 tag) (S7 (m7 tag) n k) false) (cF (m7 tag) (S7 (m7 tag) n k) true) s (C7 mode) (U0 mode pad) back (aD (C7 mode) s v) (P8 n s b)).1++r.1 else []):=⟨_,rfl⟩;rw[<-hW]at P E0 E1;have hW:W=(if r.2=0 then cT (m7 tag) (S7 (m7 tag) n k) s (C7 mode) (U0 mode pad) back (aD (C7 mode) s v) (P8 n s b)++r.1 else []):=hW;obtain rfl:e'=r.2:=by
  by_cases h9:e'=0
  ·rw[h9];exact(congrArg Prod.snd (E0 h9)).symm
  ·exact(congrArg Prod.snd (E1 h9)).symm
 clear hr;generalize C7 mode=md at*
 generalize U0 mode pad=pd at*
 generalize hmsg:P8 n s b=msg at*
 generalize dx n s lb=m at*
 generalize bi ns msg=ps at*
 generalize S7 (m7 tag) n k=key at*
 generalize Y6 (m7 tag) n=lkk at*
 generalize aD md s v=V0 at*
 generalize fp md s=lvv at*
 have hpn:ps.length<=100000:=by omega
 have hp0:0<ps.length:=by omega
 have hc0:j6 ps 0=[]:=by unfold j6;rw[Z1];rfl
 have hmi:∀i (hi:i<ps.length),(j6 ps i).length+ps[i].length<=200:=fun i hi=>by
  have h1:=kd ps (i+1);rw[eP hi,Zb,CF]at h1;omega
 obtain⟨A,hA⟩:∃A:Nat->Bs×Bs×MS×Bs,A=fun i=>(i9 s md pd back (j6 ps i),cL (m7 tag) key s md pd back V0 (j6 ps i),cS (m7 tag) key s md pd back V0 (j6 ps i),cT (m7 tag) key s md pd back V0 (j6 ps i)):=⟨_,rfl⟩;have hTi:∀i,(cT (m7 tag) key s md pd back V0 (j6 ps i)).length<=200:=fun i=>by
  have h1:=hTb (j6 ps i);have h2:=hFr (j6 ps i);have h3:=kd ps i;rw[CF]at h3;show(A2 (cF (m7 tag) key false) (cF (m7 tag) key true) s md pd back V0 (j6 ps i)).1.length<=_;omega
 refine⟨[i64 tag,i64 n,i64 mode,i64 pad,bool back,.z lk (bv k),.z li (bv v)],rfl,rfl,?_⟩;by_cases hf:lk<=100/\li<=100
 ·refine⟨[],_,_,_,_,JN hf,rfl,rfl,?_⟩;refine⟨[i64 tag,i64 n,i64 mode,i64 pad,bool back,.z lk (bv k),.z li (bv v)],rfl,rfl,?_⟩;refine⟨[],_,_,_,_,hM,rfl,rfl,?_⟩;refine⟨Za rfl,?_⟩;refine⟨[i64 tag,i64 n,i64 mode,i64 pad,bool back,.z lk (bv k),.z li (bv v)],rfl,rfl,?_⟩;refine⟨[],_,_,_,_,hS,rfl,rfl,?_⟩;refine⟨[i64 (m7 tag),i64 md,i64 pd,bool back],rfl,rfl,?_⟩;refine⟨[],_,_,_,_,P,rfl,rfl,?_⟩;refine⟨by rw[f9];omega,by omega,by simp,?_⟩;refine⟨by rw[f9];omega,by omega,by simp,?_⟩;refine⟨[],_,_,_,_,sX,rfl,rfl,?_⟩;refine⟨[i64 (m7 tag),i64 md,i64 pd,bool back],rfl,rfl,?_⟩;refine⟨[.d 62 0,.d 58 0,.d 61 0],_,_,_,_,IA,rfl,rfl,?_⟩;refine⟨[.d 58 0],_,_,_,_,SK1,rfl,rfl,?_⟩;refine⟨[.d 61 0],_,_,_,_,SK2,rfl,rfl,?_⟩;refine⟨[],_,_,_,_,CU,rfl,rfl,?_⟩;refine B1 (Dc (m7 tag) md pd back q xs V0 ps m msg W r.2 y A) ps.length [(18,1,.sc [])] ⟨[.d 62 0,.d 70 3,.d 70 4,.d 70 5,.d 900000 0],⟨rfl,rfl,rfl,rfl,rfl,rfl,rfl,rfl,tq⟩,⟨_,rfl,rfl⟩,⟨_,rfl,rfl⟩,⟨_,rfl,rfl⟩,⟨_,rfl,rfl⟩,⟨_,rfl,rfl⟩,tq⟩ fun i hi=> ?_;rcases i with _|i
  ·have hl:=hp0;obtain⟨n1,o,hn1,_,hT,U⟩:=Ao h (b:=ps[0]) (m:=0+ps[0].length) (back:=back) (M:=j6 ps 0) (x:= .n) ok (.inl ⟨rfl,by rw[hc0];exact mS⟩) (by omega) (by have:=hmi 0 hl;omega);have U:=U.resolve_right (fun hh=>hh.1 (by rw[hc0,fY (by omega) ok]));rw[<-eP hl]at hT U;rw[hc0,mI (by omega) ok,fY (by omega) ok]at U;rw[hc0,show cT (m7 tag) key s md pd back V0 []=[] from congrArg Z9 (jM (by omega) ok),Zs]at hT;have hA1:A (0+1)=(i9 s md pd back (j6 ps (0+1)),cL (m7 tag) key s md pd back V0 (j6 ps (0+1)),cS (m7 tag) key s md pd back V0 (j6 ps (0+1)),cT (m7 tag) key s md pd back V0 (j6 ps (0+1))):=by rw[hA]
   have hT1:=hTi (0+1);rw[hT]at hA1 hT1;generalize cS (m7 tag) key s md pd back V0 (j6 ps (0+1))=st1 at*
   generalize cL (m7 tag) key s md pd back V0 (j6 ps (0+1))=la1 at*
   generalize i9 s md pd back (j6 ps (0+1))=H1 at*
   obtain⟨ch1,row1,g1⟩:=st1;rcases row1 with _|⟨a1,r1⟩;all_goals
    refine c9 (fun _=> ?_) (fun hh=>absurd (by omega) hh);refine⟨by omega,by omega,?_⟩;refine⟨.z ps[0].length (bv ps[0]),by first|exact cC hl|(rw [Zd];exact cC hl),?_⟩;refine⟨by rw[f9],by have:=hmi _ hl;omega,by simp,?_⟩;refine⟨[.k 0,.k 1,.k 2,.k 3,.d 93 0],_,_,_,_,U,rfl,rfl,?_⟩;refine⟨vK (l:=ps[0]) (n:=0+ps[0].length) (by omega),ps[0],b8 (l:=ps[0]) (by omega),?_⟩;refine⟨by omega,by omega,?_⟩;refine⟨.z ps[0].length (bv ps[0]),by first|exact cC hl|(rw [Zd];exact cC hl),?_⟩;refine⟨by rw[f9],_,rfl,?_⟩;refine w9 (by simp) ?_;refine⟨by rw[f9];omega,by first|omega|(simp only[List.length_nil];omega),by first|(rw [f9];omega)|exact Ze _,?_⟩;first
     |refine⟨[.d 97 7],_,_,_,_,gd (l:=o) (n:=n1) (y:=y) hn1 (by omega),rfl,rfl,?_⟩
      refine⟨[.d 93 0],_,_,_,_,gd (l:=ps[0]) (n:=0+ps[0].length) (y:=y) (by omega) (by have:=hmi _ hl;omega),rfl,rfl,?_⟩;refine⟨0+1,by omega,by omega,iF (nJ hA1) ?_⟩;refine⟨[.k 0,.k 1,.d 97 5,.d 97 6,.d 114 0],⟨rfl,rfl,rfl,rfl,rfl,?_,rfl,rfl,tq⟩,⟨_,rfl,rfl⟩,⟨_,rfl,rfl⟩,⟨_,rfl,rfl⟩,⟨_,rfl,rfl⟩,⟨_,rfl,?_⟩,tq⟩
    ·exact congrArg (V.o 1 (.k 4) 0) (show 0+n1=o.length by omega)
    ·exact d9 (show sub (bv []) 0 (0*1)++sub (bv o) 0 (n1*1)=bv o by rw[Zd n1,b8 hn1];rfl)
  ·have hA0:A (i+1)=(i9 s md pd back (j6 ps (i+1)),cL (m7 tag) key s md pd back V0 (j6 ps (i+1)),cS (m7 tag) key s md pd back V0 (j6 ps (i+1)),cT (m7 tag) key s md pd back V0 (j6 ps (i+1))):=by rw[hA]
   by_cases hl:i+1<ps.length
   ·obtain⟨n1,o,hn1,_,hT,U⟩:=Ao h (b:=ps[i+1]) (m:=0+ps[i+1].length) (back:=back) (M:=j6 ps (i+1)) (x:= .o (i9 s md pd back (j6 ps (i+1)))) ok (.inr rfl) (by omega) (by have:=hmi (i+1) hl;omega);rw[<-eP hl]at hT U;have hA1:A (i+1+1)=(i9 s md pd back (j6 ps (i+1+1)),cL (m7 tag) key s md pd back V0 (j6 ps (i+1+1)),cS (m7 tag) key s md pd back V0 (j6 ps (i+1+1)),cT (m7 tag) key s md pd back V0 (j6 ps (i+1+1))):=by rw[hA]
    have hT1:=hTi (i+1+1);rw[hT]at hA1 hT1;rw[nJ hA0];generalize cS (m7 tag) key s md pd back V0 (j6 ps (i+1+1))=st1 at*
    generalize cL (m7 tag) key s md pd back V0 (j6 ps (i+1+1))=la1 at*
    generalize i9 s md pd back (j6 ps (i+1+1))=H1 at*
    generalize cS (m7 tag) key s md pd back V0 (j6 ps (i+1))=st0 at*
    generalize cL (m7 tag) key s md pd back V0 (j6 ps (i+1))=la0 at*
    generalize i9 s md pd back (j6 ps (i+1))=H0 at*
    generalize cT (m7 tag) key s md pd back V0 (j6 ps (i+1))=T0 at*
    rw[Zb,hn1]at hT1;obtain⟨ch1,row1,g1⟩:=st1;obtain⟨H3,row0,g0⟩:=st0;rcases U with U|⟨_,U⟩<;>rcases row0 with _|⟨a0,r0⟩<;>rcases row1 with _|⟨a1,r1⟩;all_goals
     refine c9 (fun _=> ?_) (fun hh=>absurd (by omega) hh);refine⟨by omega,by omega,?_⟩;refine⟨.z ps[i+1].length (bv ps[i+1]),by first|exact cC hl|(rw [Zd];exact cC hl),?_⟩;refine⟨by rw[f9],by have:=hmi _ hl;omega,by simp,?_⟩;refine⟨[.k 0,.k 1,.k 2,.k 3,.d 93 0],_,_,_,_,U,rfl,rfl,?_⟩;refine⟨vK (l:=ps[i+1]) (n:=0+ps[i+1].length) (by omega),ps[i+1],b8 (l:=ps[i+1]) (by omega),?_⟩;refine⟨by omega,by omega,?_⟩;refine⟨.z ps[i+1].length (bv ps[i+1]),by first|exact cC hl|(rw [Zd];exact cC hl),?_⟩;refine⟨by rw[f9],_,rfl,?_⟩;refine w9 (by simp) ?_;refine⟨by rw[f9];omega,by first|omega|(simp only[List.length_nil];omega),by first|(rw [f9];omega)|exact Ze _,?_⟩;first
      |refine⟨[.d 97 7],_,_,_,_,gd (l:=o) (n:=n1) (y:=y) hn1 (by omega),rfl,rfl,?_⟩
       refine⟨[.d 93 0],_,_,_,_,gd (l:=ps[i+1]) (n:=0+ps[i+1].length) (y:=y) (by omega) (by have:=hmi _ hl;omega),rfl,rfl,?_⟩;refine⟨i+1+1,by omega,by omega,iF (nJ hA1) ?_⟩;refine⟨[.k 0,.k 1,.d 97 5,.d 97 6,.d 114 0],⟨rfl,rfl,rfl,rfl,rfl,?_,rfl,d7 (by simp(disch:=omega)only[Zc];omega),tq⟩,⟨_,rfl,rfl⟩,⟨_,rfl,rfl⟩,⟨_,rfl,rfl⟩,⟨_,rfl,rfl⟩,⟨_,rfl,?_⟩,tq⟩
      |refine⟨[.d 97 6],_,_,_,_,gd (l:=o) (n:=n1) (y:=y) hn1 (by omega),rfl,rfl,?_⟩
       refine⟨[.d 93 0],_,_,_,_,gd (l:=ps[i+1]) (n:=0+ps[i+1].length) (y:=y) (by omega) (by have:=hmi _ hl;omega),rfl,rfl,?_⟩;refine⟨i+1+1,by omega,by omega,iF (nJ hA1) ?_⟩;refine⟨[.k 0,.k 1,.k 2,.d 97 5,.d 114 0],⟨rfl,rfl,rfl,rfl,rfl,?_,rfl,d7 (by simp(disch:=omega)only[Zc];omega),tq⟩,⟨_,rfl,rfl⟩,⟨_,rfl,rfl⟩,⟨_,rfl,rfl⟩,⟨_,rfl,rfl⟩,⟨_,rfl,?_⟩,tq⟩
     ·exact congrArg (V.o 1 (.k 4) 0) (show T0.length+n1=(T0++o).length by rw[Zb,hn1])
     ·exact d9 (show sub (bv T0) 0 (T0.length*1)++sub (bv o) 0 (n1*1)=bv (T0++o) by rw[Zd,Zd,b8 rfl,b8 hn1,x5])
   ·have hfl:j6 ps (i+1)=msg:=by rw[<-CF,show i+1=ps.length by omega];exact tD ps
    rw[nJ hA0];have hT1:=hTi (i+1);rw[hfl]at hT1 ⊢;generalize cS (m7 tag) key s md pd back V0 msg=st0 at*
    generalize cL (m7 tag) key s md pd back V0 msg=la0 at*
    generalize i9 s md pd back msg=H0 at*
    generalize cT (m7 tag) key s md pd back V0 msg=T0 at*
    obtain⟨H3,row0,g0⟩:=st0;rcases row0 with _|⟨a0,r0⟩;all_goals
     refine c9 (fun hh=>absurd hh (by omega)) (fun _=> ?_);refine⟨[.k 0,.k 1,.k 2,.k 3],_,_,_,_,F,rfl,rfl,?_⟩;refine⟨[.k 0,.k 1],_,_,_,_,RS la',rfl,rfl,?_⟩;refine⟨[.k 0,.d 127 2,.d 127 3,.d 127 4],_,_,_,_,AL,?_,rfl,?_⟩
     ·show[V.p (.k 0) 0,V.zz 1 1 [V.z m (bv msg)]]=[V.p (.k 0) 0,V.zz 1 1 [V.z msg.length (bv msg)]];rw[lm]
     refine j7 (fun _=> ?_) (fun hh=>absurd rfl hh);refine j7 (fun _=> ?_) (fun hh=>absurd rfl hh);refine o9 (fun hne=> ?_) (fun he0=> ?_)
     ·exact⟨_,rfl,[],rfl,tq⟩
     ·rw[if_pos he0]at hW;have hz:W=z:=congrArg Z9 (E0 he0);refine⟨vK (l:=T0) rfl,T0,b8 rfl,?_⟩;refine⟨by rw[f9],_,rfl,?_⟩;refine⟨by rw[xK,xK];omega,?_⟩;refine⟨by rw[f9],W,rfl,?_⟩;refine bG (by show((bs T0++bs r.1).toList==(bs W).toList)=true;rw[Hy,rx,decide_eq_true hW.symm]) ?_;refine⟨by rw[f9],z,rfl,?_⟩;refine⟨by rw[f9],W,rfl,?_⟩;exact⟨_,rfl,[],congrArg bool (by show((bs z).toList==(bs W).toList)=true;rw[rx,decide_eq_true hz.symm]),tq⟩
 ·refine⟨[],_,_,_,_,JM hf,rfl,rfl,?_⟩;exact⟨_,rfl,[],rfl,tq⟩
end Go.Scr
